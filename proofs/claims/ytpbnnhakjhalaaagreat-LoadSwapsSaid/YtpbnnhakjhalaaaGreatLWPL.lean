/- stack.SegmentsOf: its AX form. -/
import Derived.Test.YtpbnnhakjhalaaaGreatLWPK
import Derived.Test.YtpbnnhakjhalaaaGreatLWPG
import Derived.Test.YtpbnnhakjhalaaaGreatLWPA
import Derived.Test.YtpbnnhakjhalaaaGreatLWLD
import Derived.Test.YtpbnnhakjhalaaaGreatLWPJ
open Go Go.Lft
namespace Go.Proofs.Pw
def Gi(gd:Nat->Bool)(len:Nat):Nat->Option Nat
 |0=>none
 |m+1=>match Gi gd len m with
  |some i=>some i
  |none=>cond (gd (len-m-1)) (some (len-m-1)) none
theorem VR(gd:Nat->Bool)(len:Nat):∀m,m<=len->dR gd len=match Gi gd len m with
  |some i=>some i
  |none=>dR gd (len-m)
 |0,_=>rfl
 |m+1,h=>by
  rw[VR gd len m (by omega)];simp only[Gi];cases Gi gd len m with
  |some i=>rfl
  |none=>
   dsimp only
   rw[show len-m=(len-m-1)+1 by omega,dR,show len-(m+1)=len-m-1 by omega,show len-m-1+1-1=len-m-1 by omega];cases gd (len-m-1)<;>rfl
def Wv(gd:Nat->Bool)(pf:Nat->Int)(len m:Nat):Option Int:=(Gi gd len m).map pf
theorem NZ(gd:Nat->Bool)(pf:Nat->Int)(len m:Nat):Wv gd pf len (m+1)=match Wv gd pf len m with
  |some p=>some p
  |none=>cond (gd (len-m-1)) (some (pf (len-m-1))) none:=by
 simp only[Wv,Gi];cases Gi gd len m with
 |some i=>rfl
 |none=>cases gd (len-m-1)<;>rfl
theorem VS(es:List cR)(t:Int)(pf:Nat->Int)(len:Nat):du es t pf len=(Wv (ff es t pf) pf len len).getD (-1):=by
 simp only[du,Wv,VR (ff es t pf) len len (jq _)];cases Gi (ff es t pf) len len with
 |some i=>rfl
 |none=>simp only[Nat.sub_self,dR];rfl
theorem jxN:Go.Sort.SWO (Go.Proofs.ltOf λ(x y:Go.Lft.Sml (.pair (.int .i64) (.pair (.int .i64) (.int .i64))))=>(j2D x.1 y.1).getD 0):=by
 refine EU (λx=>x.1.1) (λx=>?_) _ λx y=>rfl;have:=x.2;simp only[gG,ja,jk]at this;exact this.1
theorem js3{l:bK}(hl:l.length<=1000000000)(hb:∀x∈l, -1000000000000<=x.1/\x.1<=1000000000000 /\ -1000000000000<=x.2.1/\x.2.1<=1000000000000 /\ -1000000000000<=x.2.2/\x.2.2<=1000000000000) :
  ∃L,j0n l=some L/\L.Perm l/\L.Pairwise (λx y=>x.1<=y.1):=by
 obtain⟨L,e,hp,hs⟩:=Rl (a:= .pair (.int .i64) (.pair (.int .i64) (.int .i64))) (cf:=λx y=>(j2D x y).getD 0) jxN (xs:=l) (λx hx=>by
  have:=hb x hx;simp only[gG,ja,jk];refine⟨⟨?_,?_⟩,⟨?_,?_⟩,⟨?_,?_⟩⟩
  .exact qh (by decide) this.1
  .exact qh this.2.1 (by decide)
  .exact qh (by decide) this.2.2.1
  .exact qh this.2.2.2.1 (by decide)
  .exact qh (by decide) this.2.2.2.2.1
  .exact qh this.2.2.2.2.2 (by decide)) (by show List.length l<_;omega)
 refine⟨L,e,hp,?_⟩;refine List.Pairwise.imp_of_mem (λ{x y} hx hy h=>?_) hs;have h1:=hb x (hp.mem_iff.1 hx);have h2:=hb y (hp.mem_iff.1 hy);have h':¬w64 (y.1-x.1)<0:=h;rw[ah (x:=y.1-x.1) (by omega) (by omega)]at h';omega
theorem VT{F:SL}(hF:F.length<=10000000):∀(n i:Nat)(acc:bK),i+n=F.length->acc.length+n<=1000000000->Cv (F.length:Int) (i:Int) F acc=some (acc++(F.drop i).map λu=>(u.1,(u.2, -1)))
 |0,i,acc,hi,_=>by
  rw[SQ];simp only[j21];rw[aj (by omega),j6,aY,jc (by omega)];simp
 |n+1,i,acc,hi,ha=>by
  have aX:i<F.length:=by omega
  have bh:F.getD i ((0:Int),(0:Int))=F[i]:=by simp[List.getD,aX]
  rw[SQ];simp only[j21];rw[ag (by omega),aZ (by omega) (by omega),ah (x:=(i:Int)+1) (by omega) (by omega)];simp only[j5,j7,bh];rw[ag (by simp[aP];omega),j5,aQ,jb aX,ka];have:=VT hF n (i+1) (acc++[(F[i].1,(F[i].2, -1))]) (by omega) (by simp;omega);rw[jg]at this;exact this
def apart(x y:jU):Prop:=x.2.1<=y.1\/y.2.1<=x.1
section
variable{zs:List bI}{ps:List c9}{cs:List aW}(hs:cW zs ps cs)
 {nm:ByteArray}{ls:List bM}{es:List cR}(hL:∀L∈ls,eX zs.length ps.length cs.length L)(gM:ls.length<=4)(hE:∀x∈es,kF ps.length x)(fZ:es.length<=9)
 {ss:List dA}{a b:Int}(ha:0<=a)(cG:a<=b)(hb:b<=8589934592)(hlen:b-a<=35078400)
include hs hL gM hE fZ ha cG hb hlen
structure Du(zs:List bI)(cs:List aW)(ls:List bM)(es:List cR)(a b:Int)(m:Nat)(F:SL)(O:bK):Prop where
 st:ca (a-1) F
 fb:∀t,bJ t F->t<b
 fr:∀t,a<=t->t<b->(bJ t F↔Wv (ff es t (dh zs cs ls t)) (dh zs cs ls t) ls.length m=none)
 seg:∀x∈O,a<=x.1/\x.1<x.2.1/\x.2.1<=b/\∀t,x.1<=t->t<x.2.1->Wv (ff es t (dh zs cs ls t)) (dh zs cs ls t) ls.length m=some x.2.2
 ap:O.Pairwise apart
 cov:∀t,a<=t->t<b->Wv (ff es t (dh zs cs ls t)) (dh zs cs ls t) ls.length m≠none->lY t O
 fl:F.length+300000<=2^m*300001
 ol:O.length<=m*4000000
theorem jxO{k m:Nat}(hk:k+m+1=ls.length){F:SL}{O:bK}(hI:Du zs cs ls es a b m F O) :
  ∃S Q W F',j1F ((zs,(ps,(cs,ss))),zs.map tb) (ls.getD k (ByteArray.empty,((0:Int),(((0:Int),(0:Int)),((0:Int),((0:Int),(([]:List Int),(([]:List (Int×Int)),((0:Int),(0:Int)))))))))) a b=some S/\
   j84 (nm,(ls,es)) S=some Q/\jbw Q F=some W/\O.length+W.length<=aP/\(∃P,jaG W=some P/\j2t F P=some F')/\Du zs cs ls es a b (m+1) F' (O++W):=by
 have bf:k<ls.length:=by omega
 have hLk:=hL _ (jh bf);have bh:ls.getD k (ByteArray.empty,((0:Int),(((0:Int),(0:Int)),((0:Int),((0:Int),(([]:List Int),(([]:List (Int×Int)),((0:Int),(0:Int)))))))))=ls[k]:=by simp[List.getD,bf]
 have Gu:∀t,dh zs cs ls t k=db zs cs ls[k] t:=λt=>by simp only[dh,bh]
 obtain⟨S,e1,c1,l1⟩:=Vp hs hLk (ss:=ss) ha cG hb hlen;have bG:=c1.pos;have e2:=js2 (nm:=nm) (ls:=ls) hE (by omega) (S:=S) (by omega) bG;obtain⟨p1,p2,p3⟩:=VO (nm:=nm) (ls:=ls) hE (by omega) c1.ch bG;have pl:=VM (nm:=nm) (ls:=ls) hE (by omega) (S:=S) bG;have pl2:S.length*(1+es.length)<=30000*10:=zf l1 (by omega);generalize S.flatMap (lH (nm,(ls,es)))=Q at *;have hm4:m<=3:=by omega
 have N0:2^m<=2^3:=Nat.pow_le_pow_right (by omega) hm4;have eZ:=hI.fl;have wm:=hI.ol;have hF:F.length<=10000000:=by omega
 have lp:=NY (A:=Q) (B:=F) (by omega) hF (Q.length+F.length) 0 0 [] (by omega) (by omega) (by omega) (by simp;omega);rw[jt,kc,kc]at lp;obtain⟨w1,_,w3,w4,w5⟩:=NX (Q.length+F.length) Q F a (a-1) (jq _) p1 hI.st;generalize jB (Q.length+F.length) Q F=W at *
 have nW:∀x∈W,a<=x.1/\x.1<x.2.1/\x.2.1<=b/\∀t,x.1<=t->t<x.2.1->bJ t F/\db zs cs ls[k] t=x.2.2/\0<=x.2.2/\lW es x.2.2 t=false:=λx hx=>by
  have aT:∀(l:bK)(q:Int),fY q l->∀y∈l,y.1<y.2.1:=by
   intro l;induction l with
   |nil=>intro q _ y hy;simp at hy
   |cons s r ih=>intro q h y hy;rcases jd.1 hy with rfl|hy;exact h.2.1;exact ih _ h.2.2 y hy
  have h0:=aT W a w1 x hx;have h1:=(w1.apart).2 x hx;obtain⟨s,dI,r1,r2,r3,r4⟩:=w3 x hx;obtain⟨g1,g2⟩:=p2 s dI;refine⟨h1,h0,by omega,λt t1 t2=>?_⟩;obtain⟨g3,g4,g5⟩:=g2 t (by omega) (by omega);rw[r3];exact⟨r4 t t1 t2,g3,g4,g5⟩
 have VU:∀x∈W,∀t,x.1<=t->t<x.2.1->Wv (ff es t (dh zs cs ls t)) (dh zs cs ls t) ls.length (m+1)=some x.2.2:=λx hx t t1 t2=>by
  obtain⟨h1,h2,h3,h4⟩:=nW x hx;obtain⟨g1,g2,g3,g4⟩:=h4 t t1 t2;have hn:=(hI.fr t (by omega) (by omega)).1 g1;rw[NZ,hn,show ls.length-m-1=k by omega];have:ff es t (dh zs cs ls t) k=true:=by simp only[ff,Gu,g2,g4];simp[g3]
  simp only[this,j5,Gu,g2]
 have hold:∀t p,Wv (ff es t (dh zs cs ls t)) (dh zs cs ls t) ls.length m=some p->Wv (ff es t (dh zs cs ls t)) (dh zs cs ls t) ls.length (m+1)=some p:=λt p h=>by rw[NZ,h]
 obtain⟨P,e4,q1,q2,q3⟩:=jvX (l:=W) (by omega) (lo:=a) (hi:=b) ha hb (λx hx=>⟨(nW x hx).1,(nW x hx).2.1,(nW x hx).2.2.1⟩);obtain⟨F',e5,f1,f2,f3⟩:=Nx (B:=P) (by omega) hI.st q1 hF;refine⟨S,Q,W,F',by rw[bh];exact e1,e2,?_,by simp[aP];omega,⟨P,e4,e5⟩,?_⟩
 .simp only[jbw,show wV Q F 0 0 []=_ from lp];rfl
 .have bU:∀t,a<=t->t<b->bJ t F->lY t W\/Wv (ff es t (dh zs cs ls t)) (dh zs cs ls t) ls.length (m+1)=none:=λt t1 t2 hf=>by
   have hn:=(hI.fr t t1 t2).1 hf;by_cases hg:ff es t (dh zs cs ls t) k=true
   .left;refine w4 t (p3 t t1 t2 ?_ ?_) hf
    .simp only[ff,Gu,ja,jk]at hg;exact hg.1
    .simp only[ff,Gu,ja,kv]at hg;exact hg.2
   .right;rw[NZ,hn,show ls.length-m-1=k by omega,qb.2 hg];rfl
  refine⟨f1,λt h=>hI.fb t ((f2 t).1 h).1,λt t1 t2=>?_,λx hx=>?_,?_,λt t1 t2 aT=>?_,?_,?_⟩
  .rw[f2 t,q2 t];constructor
   .rintro⟨h1,h2⟩
    rcases bU t t1 t2 h1 with h|h
    .exact absurd h h2
    .exact h
   .intro h
    have hn:Wv (ff es t (dh zs cs ls t)) (dh zs cs ls t) ls.length m=none:=by
     cases hw:Wv (ff es t (dh zs cs ls t)) (dh zs cs ls t) ls.length m with
     |none=>rfl
     |some p=>rw[hold t p hw]at h;simp at h
    refine⟨(hI.fr t t1 t2).2 hn,?_⟩
    rintro⟨x,hx,x1,x2⟩
    rw[VU x hx t x1 x2]at h;simp at h
  .rcases js.1 hx with hx|hx
   .obtain⟨h1,h2,h3,h4⟩:=hI.seg x hx;exact⟨h1,h2,h3,λt t1 t2=>hold t _ (h4 t t1 t2)⟩
   .obtain⟨h1,h2,h3,_⟩:=nW x hx;exact⟨h1,h2,h3,VU x hx⟩
  .refine List.pairwise_append.2 ⟨hI.ap,(w1.apart).1.imp (λh=> .inl h),λx hx y hy=>?_⟩;obtain⟨h1,h2,h3,h4⟩:=hI.seg x hx;obtain⟨g1,g2,g3,g4⟩:=nW y hy;apply jm;intro hn;simp only[apart,not_or]at hn
   have hc:∃t,x.1<=t/\t<x.2.1/\y.1<=t/\t<y.2.1:=by
    by_cases Gp:x.1<=y.1
    .exact⟨y.1,by omega,by omega,by omega,by omega⟩
    .exact⟨x.1,by omega,by omega,by omega,by omega⟩
   obtain⟨t,t1,t2,t3,t4⟩:=hc;have hw:=h4 t t1 t2;have:=(hI.fr t (by omega) (by omega)).1 (g4 t t3 t4).1;rw[hw]at this;simp at this
  .by_cases hf:bJ t F
   .rcases bU t t1 t2 hf with⟨x,hx,h⟩|h
    .exact⟨x,ku _ hx,h⟩
    .exact absurd h aT
   .have hw:Wv (ff es t (dh zs cs ls t)) (dh zs cs ls t) ls.length m≠none:=λh=>hf ((hI.fr t t1 t2).2 h);obtain⟨x,hx,h⟩:=hI.cov t t1 t2 hw;exact⟨x,kj _ hx,h⟩
  .rw[Nat.pow_succ];omega
  .rw[je,Nat.add_mul];omega
theorem VV:∀(n m:Nat)(F:SL)(O:bK),n+m=ls.length->Du zs cs ls es a b m F O->
  ∃F' O',Cu (n:Int) ls zs ps cs ss (zs.map tb) nm ls es a b F O=some (F',O')/\Du zs cs ls es a b ls.length F' O'
 |0,m,F,O,hn,hI=>by
  rw[SP];simp only[j20];rw[ag (by omega),j5,aY];obtain rfl:m=ls.length:=by omega
  exact⟨F,O,rfl,hI⟩
 |k+1,m,F,O,hn,hI=>by
  obtain⟨S,Q,W,F',e1,e2,e3,e4,⟨P,e5,e6⟩,En⟩:=jxO hs hL gM hE fZ ha cG hb hlen (nm:=nm) (ss:=ss) (k:=k) (m:=m) (by omega) hI;rw[SP];simp only[j20];rw[aj (by omega),ag (show ((k+1:Nat):Int)<=Int.ofNat ls.length by simp;omega),show ((k+1:Nat):Int)-1=(k:Int) by omega];simp only[j5,j6,j7];generalize ls.getD k (ByteArray.empty,((0:Int),(((0:Int),(0:Int)),((0:Int),((0:Int),(([]:List Int),(([]:List (Int×Int)),((0:Int),(0:Int)))))))))=L at *;rw[show j1F ((zs,(ps,(cs,ss))),zs.map tb) (L.1,(L.2.1,((L.2.2.1.1,L.2.2.1.2),(L.2.2.2.1,(L.2.2.2.2.1,(L.2.2.2.2.2.1,(L.2.2.2.2.2.2.1,(L.2.2.2.2.2.2.2.1,L.2.2.2.2.2.2.2.2)))))))) a b=_ from e1];simp only[j3,e2,e3];rw[ag e4];simp only[j5,j3,e5,e6,aQ];exact VV k (m+1) F' (O++W) (by omega) En
theorem jvY:∃out,j49 ((zs,(ps,(cs,ss))),zs.map tb) (nm,(ls,es)) a b=some out/\eH (λt=>du es t (dh zs cs ls t) ls.length) b none a out/\out.length<=40000000:=by
 simp only[j49];by_cases kL:a>=b
 .rw[ag kL,j5];exact⟨[],rfl,show a=b by omega,by simp⟩
 .rw[aj kL,j6]
  have h0:Du zs cs ls es a b 0 [(a,b)] []:=⟨⟨by dsimp only;omega,by dsimp only;omega,trivial⟩,λt h=>by
   rcases eY.1 h with h|h
   .exact h.2
   .exact absurd h gO,λt t1 t2=>⟨λ_=>rfl,λ_=>eY.2 (.inl ⟨t1,t2⟩)⟩,by simp,List.Pairwise.nil,λt _ _ h=>absurd rfl h,by simp,by simp⟩
  obtain⟨F,O,e1,hI⟩:=VV hs hL gM hE fZ ha cG hb hlen (nm:=nm) (ss:=ss) ls.length 0 [(a,b)] [] (by omega) h0;have N0:2^ls.length<=2^4:=Nat.pow_le_pow_right (by omega) gM;have eZ:=hI.fl;have wm:=hI.ol;have hF:F.length<=10000000:=by omega
  have lp:=VT hF F.length 0 O (by omega) (by omega);rw[kc]at lp
  have VW:∀u∈F,a<=u.1/\u.1<u.2/\u.2<=b/\∀t,u.1<=t->t<u.2->Wv (ff es t (dh zs cs ls t)) (dh zs cs ls t) ls.length ls.length=none:=λu hu=>by
   have hm:=ca.mem hI.st u hu;have:=hI.fb (u.2-1) ⟨u,hu,by omega,by omega⟩;exact⟨by omega,hm.2,by omega,λt t1 t2=>(hI.fr t (by omega) (by omega)).1 ⟨u,hu,t1,t2⟩⟩
  have al:∀x∈O++F.map (λu=>((u.1,(u.2, -1)):jU)),a<=x.1/\x.1<x.2.1/\x.2.1<=b/\∀t,x.1<=t->t<x.2.1->du es t (dh zs cs ls t) ls.length=x.2.2:=λx hx=>by
   rcases js.1 hx with hx|hx
   .obtain⟨h1,h2,h3,h4⟩:=hI.seg x hx;exact⟨h1,h2,h3,λt t1 t2=>by rw[VS,h4 t t1 t2];rfl⟩
   .obtain⟨u,hu,rfl⟩:=jx.1 hx;obtain⟨h1,h2,h3,h4⟩:=VW u hu;exact⟨h1,h2,h3,λt t1 t2=>by rw[VS,h4 t t1 t2];rfl⟩
  have hpr:∀x∈O++F.map (λu=>((u.1,(u.2, -1)):jU)), -1<=x.2.2/\x.2.2<=100:=λx hx=>by
   obtain⟨h1,h2,h3,h4⟩:=al x hx;have:=h4 x.1 (kg _) h2;have oX:=hs.so.p1;rw[<-this];simp only[du];cases hT:dR (ff es x.1 (dh zs cs ls x.1)) ls.length with
   |none=>dsimp only;omega
   |some i=>
    dsimp only
    have hi:∀(g:Nat->Bool)(n i:Nat),dR g n=some i->i<n:=by
     intro g n;induction n with
     |zero=>intro i h;simp[dR]at h
     |succ n ih=>
      intro i h;simp only[dR]at h;cases hg:g n with
      |true=>rw[hg,j5]at h;simp at h;omega
      |false=>rw[hg,j6]at h;have:=ih i h;omega
    have aX:=hi _ _ _ hT;have e:dh zs cs ls x.1 i=db zs cs ls[i] x.1:=by simp[dh,List.getD,aX]
    rw[e];have:=(U9 hs (hL _ (jh aX)) (t:=x.1) (by omega) (by omega)).2;omega
  have mq:(O++F.map (λu=>((u.1,(u.2, -1)):jU))).Pairwise apart:=by
   refine List.pairwise_append.2 ⟨hI.ap,?_,λx hx y hy=>?_⟩
   .rw[List.pairwise_map]
    have:∀(l:SL)(q:Int),ca q l->l.Pairwise (λu v=>u.2<=v.1):=by
     intro l;induction l with
     |nil=>intro q _;exact List.Pairwise.nil
     |cons s r ih=>intro q h;exact qf.2 ⟨λv hv=>by have:=ca.mem h.2.2 v hv;omega,ih _ h.2.2⟩
    exact(this F _ hI.st).imp (λh=> .inl h)
   .obtain⟨u,hu,rfl⟩:=jx.1 hy;obtain⟨h1,h2,h3,h4⟩:=hI.seg x hx;obtain⟨g1,g2,g3,g4⟩:=VW u hu;apply jm;intro hn;simp only[apart,not_or]at hn
    have hc:∃t,x.1<=t/\t<x.2.1/\u.1<=t/\t<u.2:=by
     by_cases Gp:x.1<=u.1
     .exact⟨u.1,by omega,by omega,by omega,by omega⟩
     .exact⟨x.1,by omega,by omega,by omega,by omega⟩
    obtain⟨t,t1,t2,t3,t4⟩:=hc;have hw:=h4 t t1 t2;rw[g4 t t3 t4]at hw;simp at hw
  have xn:∀t,(a<=t/\t<b)↔∃s∈O++F.map (λu=>((u.1,(u.2, -1)):jU)),s.1<=t/\t<s.2.1:=λt=>by
   constructor
   .rintro⟨t1,t2⟩
    by_cases hn:Wv (ff es t (dh zs cs ls t)) (dh zs cs ls t) ls.length ls.length=none
    .obtain⟨u,hu,u1,u2⟩:=(hI.fr t t1 t2).2 hn;exact⟨(u.1,(u.2, -1)),ku _ (jx.2 ⟨u,hu,rfl⟩),u1,u2⟩
    .obtain⟨x,hx,h⟩:=hI.cov t t1 t2 hn;exact⟨x,kj _ hx,h⟩
   .rintro⟨x,hx,x1,x2⟩
    obtain⟨h1,h2,h3,_⟩:=al x hx;omega
  have hZl:(O++F.map (λu=>((u.1,(u.2, -1)):jU))).length<=40000000:=by rw[je,kb];omega
  generalize hZ:O++F.map (λu=>((u.1,(u.2, -1)):jU))=Z at *
  obtain⟨Y,e2,hp,N1⟩:=js3 (l:=Z) (by omega) (λx hx=>by have:=al x hx;have:=hpr x hx;omega)
  have lG:Ch (λt=>du es t (dh zs cs ls t) ls.length) b a Y:=by
   refine U4 cG ?_ (λs h=>⟨(al s (hp.mem_iff.1 h)).2.1,(al s (hp.mem_iff.1 h)).2.2.2⟩) (λt=>?_)
   .have hY:Y.Pairwise apart:=(hp.pairwise_iff (λ{x y} h=>Or.symm h)).2 mq;refine List.Pairwise.imp_of_mem (λ{x y} hx hy h=>?_) (hY.and N1);have h1:=al x (hp.mem_iff.1 hx);have h2:=al y (hp.mem_iff.1 hy);rcases h.1 with h3|h3
    .exact h3
    .have:=h.2;omega
   .rw[xn t];constructor
    .rintro⟨x,hx,h⟩;exact⟨x,hp.mem_iff.2 hx,h⟩
    .rintro⟨x,hx,h⟩;exact⟨x,hp.mem_iff.1 hx,h⟩
  have hYl:=hp.length_eq;obtain⟨out,e3,h3,l3⟩:=NI (l:=Y) (by omega) lG;refine⟨out,?_,h3,by omega⟩;simp only[j1Q,j3];rw[show Cu (Int.ofNat ls.length) ls zs ps cs ss (zs.map tb) nm ls es a b [(a,b)] []=_ from e1];simp only[j3,show Int.ofNat F.length=(F.length:Int) from rfl];rw[show Cv (F.length:Int) 0 F O=_ from lp];simp only[j3];rw[e2];simp only[j3,e3]
end
def nk(l:bK):List Int:=l.tail.map (·.1)
theorem Gv{f:Int->Int}{b:Int}:∀{l:bK}{q:Option Int}{a:Int},eH f b q a l->(∀x,x∈nk l↔a<x/\x<b/\f (x-1)≠f x)/\(nk l).Nodup/\l.length<=(nk l).length+1
 |[],q,a,h=>⟨λx=>⟨λhx=>by simp[nk]at hx,λhx=>by have h:a=b:=h;omega⟩,zh,by simp⟩
 |[s],q,a,h=>by
  obtain⟨h1,h2,h3,h4,h5⟩:=h;have h5:s.2.1=b:=h5;exact⟨λx=>⟨λhx=>by simp[nk]at hx,λ⟨x1,x2,x3⟩=>absurd ((h4 (x-1) (by omega) (by omega)).trans (h4 x (by omega) (by omega)).symm) x3⟩,zh,by simp[nk]⟩
 |s::u::r,q,a,h=>by
  obtain⟨h1,h2,h3,h4,h5⟩:=h;obtain⟨i1,i2,i3⟩:=Gv h5;have hu:=h5.1;have hle:=h5.2.2.2.2.ch.le;have DW:=h5.2.1;have e:nk (s::u::r)=u.1::nk (u::r):=rfl;refine⟨λx=>?_,?_,by rw[e];simp only[jo]at i3 ⊢;omega⟩
  .rw[e,jd,i1 x];constructor
   .rintro (rfl|⟨x1,x2,x3⟩)
    .refine⟨by omega,by omega,?_⟩;rw[h4 (u.1-1) (by omega) (by omega),h5.2.2.2.1 u.1 (by omega) (by omega)]
     exactλhe=>h5.2.2.1 (by rw[he])
    .exact⟨by omega,x2,x3⟩
   .rintro⟨x1,x2,x3⟩
    by_cases hx:x<s.2.1
    .exact absurd ((h4 (x-1) (by omega) (by omega)).trans (h4 x (by omega) (by omega)).symm) x3
    .by_cases nU:x=s.2.1
     .left;omega
     .right;exact⟨by omega,x2,x3⟩
  .rw[e];refine qk.2 ⟨λhm=>?_,i2⟩;have:=(i1 u.1).1 hm;omega
theorem VX{f:Int->Int}{a b:Int}{l:bK}{q:Option Int}(h:eH f b q a l){E:List Int}(hE:∀x,a<x->x<b->f (x-1)≠f x->x∈E):l.length<=E.length+1:=by
 obtain⟨h1,h2,h3⟩:=Gv h
 have:=h2.length_le_of_subset (l₂:=E) (λx hx=>by
  have:=(h1 x).1 hx;exact hE x this.1 this.2.1 this.2.2)
 omega
def nn(es:List cR):List Int:=es.flatMap λx=>[x.2.2.2.1,x.2.2.2.2]
theorem Gw:∀es:List cR,(nn es).length=2*es.length
 |[]=>rfl
 |x::es=>by
  have:=Gw es;simp only[nn,qt,je,jo,ql]at this ⊢;omega
theorem N2{es:List cR}{x:cR}(hx:x∈es):x.2.2.2.1∈nn es/\x.2.2.2.2∈nn es:=
 ⟨zi.2 ⟨x,hx,by simp⟩,zi.2 ⟨x,hx,by simp⟩⟩
theorem VY{es:List cR}{t:Int}(ht:t∉nn es)(p:Int):lW es p (t-1)=lW es p t:=by
 unfold lW;rw[Bool.eq_iff_iff,qq,qq]
 have key:∀x∈es,(x.1==0&&(x.2.1==p&&(decide (x.2.2.2.1<=t-1)&&decide (t-1<x.2.2.2.2))))=(x.1==0&&(x.2.1==p&&(decide (x.2.2.2.1<=t)&&decide (t<x.2.2.2.2)))):=λx hx=>by
  obtain⟨m1,m2⟩:=N2 hx;have n1:t≠x.2.2.2.1:=λe=>ht (e▸m1);have n2:t≠x.2.2.2.2:=λe=>ht (e▸m2)
  have e1:decide (x.2.2.2.1<=t-1)=decide (x.2.2.2.1<=t):=by
   by_cases h:x.2.2.2.1<=t
   .rw[ag h,ag (by omega)]
   .rw[aj h,aj (by omega)]
  have e2:decide (t-1<x.2.2.2.2)=decide (t<x.2.2.2.2):=by
   by_cases h:t<x.2.2.2.2
   .rw[ag h,ag (by omega)]
   .rw[aj h,aj (by omega)]
  rw[e1,e2]
 exact⟨λ⟨x,hx,h⟩=>⟨x,hx,by rw[<-key x hx];exact h⟩,λ⟨x,hx,h⟩=>⟨x,hx,by rw[key x hx];exact h⟩⟩
theorem VZ{es:List cR}{t u:Int}{pf pg:Nat->Int}{n:Nat}(hp:∀i,i<n->pf i=pg i)(ha:∀p,lW es p t=lW es p u):du es t pf n=du es u pg n:=by
 have hg:∀m,m<=n->dR (ff es t pf) m=dR (ff es u pg) m:=by
  intro m;induction m with
  |zero=>intro _;rfl
  |succ m ih=>
   intro hm;have e:ff es t pf m=ff es u pg m:=by simp only[ff,hp m (by omega),ha]
   simp only[dR,e,ih (by omega)]
 have hi:∀(g:Nat->Bool)(n i:Nat),dR g n=some i->i<n:=by
  intro g n;induction n with
  |zero=>intro i h;simp[dR]at h
  |succ n ih=>
   intro i h;simp only[dR]at h;cases hg:g n with
   |true=>rw[hg,j5]at h;simp at h;omega
   |false=>rw[hg,j6]at h;have:=ih i h;omega
 simp only[du,hg n (jq _)];cases hT:dR (ff es u pg) n with
 |none=>rfl
 |some i=>exact hp i (hi _ _ _ hT)
section
variable{zs:List bI}{ps:List c9}{cs:List aW}(hs:cW zs ps cs)
include hs
theorem V0{a b:Int}(ha:0<=a)(cG:a<=b)(hb:b<=8589934592)(hlen:b-a<=1209600):∀ls:List bM,(∀L∈ls,eX zs.length ps.length cs.length L)->
  ∃E:List Int,E.length<=5000*ls.length/\∀L∈ls,∀x,a<x->x<b->db zs cs L (x-1)≠db zs cs L x->x∈E
 |[],_=>⟨[],by simp,by simp⟩
 |L::ls,hL=>by
  obtain⟨E,e1,e2⟩:=V0 ha cG hb hlen ls (λM hM=>hL M (by simp[hM]));obtain⟨S,_,c1,l1⟩:=jvV hs (hL L (by simp)) (ss:=[]) ha cG hb hlen;refine⟨nk S++E,?_,λM hM x x1 x2 x3=>?_⟩
  .have:(nk S).length<=S.length:=by simp[nk]
   rw[je,jo];omega
  .rcases jd.1 hM with rfl|hM
   .exact kj _ (((Gv c1).1 x).2 ⟨x1,x2,x3⟩)
   .exact ku _ (e2 M hM x x1 x2 x3)
theorem jxP{ls:List bM}{es:List cR}(hL:∀L∈ls,eX zs.length ps.length cs.length L){a b:Int}(ha:0<=a)(cG:a<=b)(hb:b<=8589934592)(hlen:b-a<=1209600) :
  ∃E:List Int,E.length<=5000*ls.length+2*es.length/\(∀x,a<x->x<b->du es (x-1) (dh zs cs ls (x-1)) ls.length≠du es x (dh zs cs ls x) ls.length->x∈E)/\∀x∈nn es,x∈E:=by
 obtain⟨E,e1,e2⟩:=V0 hs ha cG hb hlen ls hL;refine⟨E++nn es,by rw[je,Gw];omega,λx x1 x2 x3=>?_,λx hx=>ku _ hx⟩;apply jm;intro hn;simp only[js,not_or]at hn;refine x3 (VZ (λi hi=>?_) (λp=>VY hn.2 p));apply jm;intro aT;have e:∀t,dh zs cs ls t i=db zs cs ls[i] t:=λt=>by simp[dh,List.getD,hi]
 rw[e,e]at aT;exact hn.1 (e2 _ (jh hi) x x1 x2 aT)
theorem js4{ss:List dA}(hc:mL (zs,(ps,(cs,ss)))){i:Nat}(hi:i<ss.length){a b:Int}(ha:0<=a)(cG:a<=b)(hb:b<=8589934592)(hlen:b-a<=34560000) :
  jaB (zs,(ps,(cs,ss))) (i:Int) a b=some (((zs,(ps,(cs,ss))),zs.map tb),0):=by
 simp only[jaB,jyT hs.so.ok hc,j3,jn,j6,jfz,show Int.ofNat ss.length=(ss.length:Int) from rfl,jht];rw[ag (show (i:Int)>=0 by omega),ag (show (i:Int)<(ss.length:Int) by omega),ah (x:=b-a) (by omega) (by omega),ag (show a>=0 by omega),ag (show a<=8589934592 by omega),ag (show b>=a by omega),ag hb,ag hlen];rfl
end
section
variable{zs:List bI}{ps:List c9}{cs:List aW}(hs:cW zs ps cs)
include hs
end
section
variable{o:Int}{l:bC}(h:ic o l)
include h
end
section
variable{zs:List bI}{ps:List c9}{cs:List aW}(hs:cW zs ps cs)
include hs
end
theorem V1{f:Nat->Bool}:∀{n k:Nat},dR f n=some k->k<n
 |0,k,h=>by simp[dR]at h
 |n+1,k,h=>by
  simp only[dR]at h;cases hf:f n with
  |true=>rw[hf]at h;simp at h;omega
  |false=>rw[hf]at h;simp at h;have:=V1 h;omega
def oM(t p:Int)(x:cR):Int:=
 if t<x.2.2.2.1\/x.2.2.2.2<=t then p else if x.1=1 then x.2.1 else if x.1=2/\p=x.2.1 then x.2.2.1 else if x.1=2/\p=x.2.2.1 then x.2.1 else p
def iu(t:Int):Int->List cR->Int
 |p,[]=>p
 |p,x::r=>iu t (oM t p x) r
theorem V2{es:List cR}(hl:es.length<=100){t:Int}:∀(n i:Nat)(p:Int),i+n=es.length->Cw p t es (es.length:Int) (i:Int)=some (iu t p (es.drop i))
 |0,i,p,hi=>by
  rw[SR];simp only[j59];rw[aj (by omega),j6,aY,jc (by omega)];rfl
 |n+1,i,p,hi=>by
  have aX:i<es.length:=by omega
  have bh:es.getD i ((0:Int),((0:Int),((0:Int),((0:Int),(0:Int)))))=es[i]:=by simp[List.getD,aX]
  have ih:=λp=>V2 hl (t:=t) n (i+1) p (by omega);rw[SR];simp only[j59,jfC,j3];rw[ag (by omega),aZ (by omega) (by omega),ah (x:=(i:Int)+1) (by omega) (by omega),jb aX];simp only[j5,j7,bh,iu];generalize es[i]=x;unfold oM;by_cases ha:t<x.2.2.2.1\/x.2.2.2.2<=t
  .rw[if_pos ha]
   have:cond (decide (x.2.2.2.1<=t)) (decide (t<x.2.2.2.2)) false=false:=by
    rcases ha with ha|ha
    .rw[aj (show¬x.2.2.2.1<=t by omega)];rfl
    .rw[aj (show¬t<x.2.2.2.2 by omega)];cases decide (x.2.2.2.1<=t)<;>rfl
   rw[this];simp only[k5,j5,aQ];exact ih p
  .rw[if_neg ha,ag (show x.2.2.2.1<=t by omega),ag (show t<x.2.2.2.2 by omega)];simp only[j5,jn,j6];by_cases h0:x.1=0
   .rw[eA h0,if_neg (by omega),if_neg (by omega),if_neg (by omega),j5,aQ];exact ih p
   rw[cB h0,j6];by_cases h1:x.1=1
   .rw[if_pos h1,eA h1,j5,aQ];exact ih _
   .rw[if_neg h1,cB h1,j6];by_cases h2:x.1=2
    .rw[show (x.1 != 2)=false by simp[h2],j6];by_cases h3:p=x.2.1
     .rw[if_pos ⟨h2,h3⟩,eA h3,j5,aQ];exact ih _
     .rw[if_neg (λh=>h3 h.2),cB h3,j6];by_cases h4:p=x.2.2.1
      .rw[if_pos ⟨h2,h4⟩,eA h4,j5,aQ];exact ih _
      .rw[if_neg (λh=>h4 h.2),cB h4,j6,aQ];exact ih _
    .rw[if_neg (λh=>h2 h.1),if_neg (λh=>h2 h.1),show (x.1 != 2)=true by simp[h2],j5,aQ];exact ih _
section
variable{zs:List bI}{ps:List c9}{cs:List aW}(hs:cW zs ps cs)
include hs
noncomputable def jW(zs:List bI)(cs:List aW)(s:dA)(t:Int):Int:=iu t (du s.2.2 t (dh zs cs s.2.1 t) s.2.1.length) s.2.2
end
theorem V3(t:Int):∀(es:List cR)(p:Int)(x:cR),iu t p (es++[x])=oM t (iu t p es) x
 |[],_,_=>rfl
 |y::r,p,x=>V3 t r (oM t p y) x
section
variable{zs:List bI}{ps:List c9}{cs:List aW}(hs:cW zs ps cs)
include hs
theorem jvZ{s:dA}{r:List dA}(hc:mL (zs,(ps,(cs,s::r)))){e:cR}(gz:mL (zs,(ps,(cs,(s.1,(s.2.1,s.2.2++[e]))::r)))) :
  jeh (zs,(ps,(cs,s::r))) 0 e=some ((zs,(ps,(cs,(s.1,(s.2.1,s.2.2++[e]))::r))),0):=by
 have fZ:=(hc.sc s (by simp)).el;have dU:(s::r).length<=12:=hc.sl;simp only[jeh];rw[show jaw (zs,ps,cs,s::r)=_ from VH hc (VI hs)];simp only[j3,ji,j6,show Int.ofNat (s::r).length=((s::r).length:Int) from rfl];rw[aj (show¬(0:Int)<0 by omega),aj (show¬(0:Int)>=((s::r).length:Int) by simp),aZ (show (0:Int)<=0 by omega) (by simp)];simp only[j5,j6,show Int.toNat 0=0 from rfl,show List.getD (s::r) 0 (ByteArray.empty,(([]:List bM),([]:List cR)))=s from rfl];rw[ag (show ([]:List cR).length+s.2.2.length<=aP by simp[aP];omega)];simp only[j5,jt];rw[ag (show s.2.2.length+[e].length<=aP by simp[aP];omega)];simp only[j5,jmj];rw[ag (show ([]:List dA).length+(s::r).length<=aP by simp only[aP,ql];omega)];simp only[j5,jt];rw[aZ (show (0:Int)<=0 by omega) (by simp)];simp only[j5,show Int.toNat 0=0 from rfl,show List.getD (s::r) 0 (ByteArray.empty,(([]:List bM),([]:List cR)))=s from rfl,List.set_cons_zero,j3];rw[show jaw (zs,ps,cs,(s.1,s.2.1,s.2.2++[e])::r)=_ from VH gz (VI hs)];rfl
end
section
variable{zs:List bI}{ps:List c9}{cs:List aW}{nm:ByteArray}{ls:List bM}{es:List cR}
structure Sht(zs:List bI)(ps:List c9)(cs:List aW)(ls:List bM)(es:List cR):Prop where
 z:zs.length<=1000/\∀z∈zs,z.2.2.length<=1000
 p:ps.length<=1000/\∀p∈ps,p.2.2.1.length<=1000
 c:cs.length<=1000/\∀c∈cs,c.2.2.length<=1000
 l:ls.length<=1000/\∀x∈ls,x.2.2.2.2.2.1.length<=1000/\x.2.2.2.2.2.2.1.length<=1000
 e:es.length<=1000
end
theorem juF{es:List cR}{t:Int}{x:cR}{Pf:Nat->Int}(h:x.1≠0\/t<x.2.2.2.1\/x.2.2.2.2<=t):ff (es++[x]) t Pf=ff es t Pf:=by
 funext i
 have e:(x.1==0&&(x.2.1==Pf i&&(decide (x.2.2.2.1<=t)&&decide (t<x.2.2.2.2))))=false:=by
  rcases h with h|h|h
  .rw[cB h];rfl
  .rw[aj (show¬x.2.2.2.1<=t by omega)];simp
  .rw[aj (show¬t<x.2.2.2.2 by omega)];simp
 simp only[ff,lW,List.any_append,List.any_cons,List.any_nil,Bool.or_false,e]
theorem juG{es lQ:List cR}{t:Int}{Pf:Nat->Int}{n:Nat}(h:ff es t Pf=ff lQ t Pf):du es t Pf n=du lQ t Pf n:=by
 unfold du;rw[h]
theorem jw0{zs:List bI}{cs:List aW}{nm:ByteArray}{ls:List bM}{es:List cR}{t:Int}{x:cR}(h:x.1≠0\/t<x.2.2.2.1\/x.2.2.2.2<=t) :
  jW zs cs (nm,(ls,es++[x])) t=oM t (jW zs cs (nm,(ls,es)) t) x:=by
 show iu t (du (es++[x]) t (dh zs cs ls t) ls.length) (es++[x])=oM t (iu t (du es t (dh zs cs ls t) ls.length) es) x;rw[juG (juF h),V3]
section
variable{zs:List bI}{ps:List c9}{cs:List aW}(hs:cW zs ps cs)
include hs
theorem jzg{nm:ByteArray}{ls:List bM}{es lQ:List cR}(hc:mL (zs,(ps,(cs,[(nm,(ls,es))]))))(he:∀x∈lQ,kF ps.length x)(hl:lQ.length<=48):mL (zs,(ps,(cs,[(nm,(ls,lQ))]))):=by
 have hk:=hc.sc (nm,(ls,es)) (by simp)
 exact U1 hs (by simp) (by simpa using hc.sn) (λy hy=>by
  simp only[kf]at hy;subst hy;exact⟨hk.nm,hk.ly,hk.ll,he,hl⟩)
theorem jxQ{nm:ByteArray}{ls:List bM}{es:List cR}(hc:mL (zs,(ps,(cs,[(nm,(ls,es))])))){x:cR}(hx:kF ps.length x)(hl:es.length<=20):mL (zs,(ps,(cs,[(nm,(ls,es++[x]))]))):=
 jzg hs hc (λy hy=>by
  rcases js.1 hy with h|h
  .exact(hc.sc (nm,(ls,es)) (by simp)).ed y h
  .simp only[kf]at h;subst h;exact hx) (by simp;omega)
end
theorem jxR{L:List Int}{a:Int}(h:dv L a):∃zs ps cs nm ls es a',j5B L a 1=some ((zs,(ps,(cs,[(nm,(ls,es))]))),L,a')/\cW zs ps cs/\mL (zs,(ps,(cs,[(nm,(ls,es))])))/\ls.length<=3/\es.length<=3/\dv L a':=by
 obtain⟨zs,ps,cs,ss,a1,e1,hs,g0,g1,g2,g3,d1⟩:=js0 (n:=1) h (by omega) (by omega)
 obtain⟨s,rfl⟩:∃s,ss=[s]:=by
  match ss,g0,g1 with
  |[s],_,_=>exact⟨s,rfl⟩
  |s::s'::r,_,g1=>simp at g1;omega
 have Bb:=g3 s (by simp);have hc:=U1 hs (ss:=[s]) (by simp) (by rw[g2];exact jxE.take _) (λy h=>(g3 y h).ck);exact⟨zs,ps,cs,s.1,s.2.1,s.2.2,a1,e1,hs,hc,Bb.ll,Bb.el,d1⟩
section
variable{zs:List bI}{ps:List c9}{cs:List aW}(hs:cW zs ps cs)
include hs
end
section
variable{zs:List bI}{ps:List c9}{cs:List aW}(hs:cW zs ps cs)
include hs
end
section
variable{zs:List bI}{ps:List c9}{cs:List aW}(hs:cW zs ps cs)
include hs
end
end Go.Proofs.Pw
