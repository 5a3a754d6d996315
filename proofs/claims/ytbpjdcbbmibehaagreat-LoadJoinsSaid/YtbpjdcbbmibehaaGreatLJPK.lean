/- stack.SegmentsOf: its CZ form. -/
import Derived.Test.YtbpjdcbbmibehaaGreatLJPJ
import Derived.Test.YtbpjdcbbmibehaaGreatLJPG
import Derived.Test.YtbpjdcbbmibehaaGreatLJPB
import Derived.Test.YtbpjdcbbmibehaaGreatLJPA
import Derived.Test.YtbpjdcbbmibehaaGreatLJLD
import Derived.Test.YtbpjdcbbmibehaaGreatLJPI
open Go Go.Lft
namespace Go.Proofs.Pw
def Gi(gd:Nat->Bool)(len:Nat):Nat->Option Nat
 |0=>none
 |m+1=>match Gi gd len m with
  |some i=>some i
  |none=>cond (gd (len-m-1)) (some (len-m-1)) none
theorem Ye(gd:Nat->Bool)(len:Nat):∀m,m<=len->eh gd len=match Gi gd len m with
  |some i=>some i
  |none=>eh gd (len-m)
 |0,_=>rfl
 |m+1,h=>by
  rw[Ye gd len m (by omega)];simp only[Gi];cases Gi gd len m with
  |some i=>rfl
  |none=>
   dsimp only
   rw[show len-m=(len-m-1)+1 by omega,eh,show len-(m+1)=len-m-1 by omega,show len-m-1+1-1=len-m-1 by omega];cases gd (len-m-1)<;>rfl
def Wv(gd:Nat->Bool)(pf:Nat->Int)(len m:Nat):Option Int:=(Gi gd len m).map pf
theorem P4(gd:Nat->Bool)(pf:Nat->Int)(len m:Nat):Wv gd pf len (m+1)=match Wv gd pf len m with
  |some p=>some p
  |none=>cond (gd (len-m-1)) (some (pf (len-m-1))) none:=by
 simp only[Wv,Gi];cases Gi gd len m with
 |some i=>rfl
 |none=>cases gd (len-m-1)<;>rfl
theorem Yf(es:List eU)(t:Int)(pf:Nat->Int)(len:Nat):eM es t pf len=(Wv (gF es t pf) pf len len).getD (-1):=by
 simp only[eM,Wv,Ye (gF es t pf) len len (jo _)];cases Gi (gF es t pf) len len with
 |some i=>rfl
 |none=>simp only[Nat.sub_self,eh];rfl
theorem jxO:Go.Sort.SWO (Go.Proofs.ltOf λ(x y:Go.Lft.Sml (.pair (.int .i64) (.pair (.int .i64) (.int .i64))))=>(j2Q x.1 y.1).getD 0):=by
 refine Hi (λx=>x.1.1) (λx=>?_) _ λx y=>rfl;have:=x.2;simp only[ic,ja,jh]at this;exact this.1
theorem jrU{l:bF}(hl:l.length<=1000000000)(hb:∀x∈l, -1000000000000<=x.1/\x.1<=1000000000000 /\ -1000000000000<=x.2.1/\x.2.1<=1000000000000 /\ -1000000000000<=x.2.2/\x.2.2<=1000000000000) :
  ∃L,j0p l=some L/\L.Perm l/\L.Pairwise (λx y=>x.1<=y.1):=by
 obtain⟨L,e,hp,hs⟩:=T7 (a:= .pair (.int .i64) (.pair (.int .i64) (.int .i64))) (cf:=λx y=>(j2Q x y).getD 0) jxO (xs:=l) (λx hx=>by
  have:=hb x hx;simp only[ic,ja,jh];refine⟨⟨?_,?_⟩,⟨?_,?_⟩,⟨?_,?_⟩⟩
  .exact qp (by decide) this.1
  .exact qp this.2.1 (by decide)
  .exact qp (by decide) this.2.2.1
  .exact qp this.2.2.2.1 (by decide)
  .exact qp (by decide) this.2.2.2.2.1
  .exact qp this.2.2.2.2.2 (by decide)) (by show List.length l<_;omega)
 refine⟨L,e,hp,?_⟩;refine List.Pairwise.imp_of_mem (λ{x y} hx hy h=>?_) hs;have h1:=hb x (hp.mem_iff.1 hx);have h2:=hb y (hp.mem_iff.1 hy);have h':¬w64 (y.1-x.1)<0:=h;rw[aj (x:=y.1-x.1) (by omega) (by omega)]at h';omega
theorem Yg{F:SL}(hF:F.length<=10000000):∀(n i:Nat)(acc:bF),i+n=F.length->acc.length+n<=1000000000->Ef (F.length:Int) (i:Int) F acc=some (acc++(F.drop i).map λu=>(u.1,(u.2, -1)))
 |0,i,acc,hi,_=>by
  rw[Va];simp only[j2e];rw[ao (by omega),j6,aY,jd (by omega)];simp
 |n+1,i,acc,hi,ha=>by
  have bQ:i<F.length:=by omega
  have bk:F.getD i ((0:Int),(0:Int))=F[i]:=by simp[List.getD,bQ]
  rw[Va];simp only[j2e];rw[ag (by omega),ba (by omega) (by omega),aj (x:=(i:Int)+1) (by omega) (by omega)];simp only[j5,j7,bk];rw[ag (by simp[aQ];omega),j5,aP,jb bQ,jz];have:=Yg hF n (i+1) (acc++[(F[i].1,(F[i].2, -1))]) (by omega) (by simp;omega);rw[jg]at this;exact this
def apart(x y:jP):Prop:=x.2.1<=y.1\/y.2.1<=x.1
section
variable{zs:List bP}{ps:List dm}{cs:List aO}(hs:cQ zs ps cs)
 {nm:ByteArray}{ls:List cb}{es:List eU}(hL:∀L∈ls,fR zs.length ps.length cs.length L)(fM:ls.length<=4)(hE:∀x∈es,pt ps.length x)(fg:es.length<=9)
 {ss:List dD}{a b:Int}(ha:0<=a)(dj:a<=b)(hb:b<=8589934592)(hlen:b-a<=35078400)
include hs hL fM hE fg ha dj hb hlen
structure Fy(zs:List bP)(cs:List aO)(ls:List cb)(es:List eU)(a b:Int)(m:Nat)(F:SL)(O:bF):Prop where
 st:bX (a-1) F
 fb:∀t,bI t F->t<b
 fr:∀t,a<=t->t<b->(bI t F↔Wv (gF es t (dE zs cs ls t)) (dE zs cs ls t) ls.length m=none)
 seg:∀x∈O,a<=x.1/\x.1<x.2.1/\x.2.1<=b/\∀t,x.1<=t->t<x.2.1->Wv (gF es t (dE zs cs ls t)) (dE zs cs ls t) ls.length m=some x.2.2
 ap:O.Pairwise apart
 cov:∀t,a<=t->t<b->Wv (gF es t (dE zs cs ls t)) (dE zs cs ls t) ls.length m≠none->mQ t O
 fl:F.length+300000<=2^m*300001
 ol:O.length<=m*4000000
theorem jxP{k m:Nat}(hk:k+m+1=ls.length){F:SL}{O:bF}(hI:Fy zs cs ls es a b m F O) :
  ∃S Q W F',j1S ((zs,(ps,(cs,ss))),zs.map tb) (ls.getD k (ByteArray.empty,((0:Int),(((0:Int),(0:Int)),((0:Int),((0:Int),(([]:List Int),(([]:List (Int×Int)),((0:Int),(0:Int)))))))))) a b=some S/\
   j86 (nm,(ls,es)) S=some Q/\jbm Q F=some W/\O.length+W.length<=aQ/\(∃P,jaB W=some P/\j2G F P=some F')/\Fy zs cs ls es a b (m+1) F' (O++W):=by
 have bc:k<ls.length:=by omega
 have hLk:=hL _ (ji bc);have bk:ls.getD k (ByteArray.empty,((0:Int),(((0:Int),(0:Int)),((0:Int),((0:Int),(([]:List Int),(([]:List (Int×Int)),((0:Int),(0:Int)))))))))=ls[k]:=by simp[List.getD,bc]
 have IE:∀t,dE zs cs ls t k=du zs cs ls[k] t:=λt=>by simp only[dE,bk]
 obtain⟨S,e1,c1,l1⟩:=X5 hs hLk (ss:=ss) ha dj hb hlen;have bB:=c1.pos;have e2:=jrT (nm:=nm) (ls:=ls) hE (by omega) (S:=S) (by omega) bB;obtain⟨p1,p2,p3⟩:=Yb (nm:=nm) (ls:=ls) hE (by omega) c1.ch bB;have pl:=X9 (nm:=nm) (ls:=ls) hE (by omega) (S:=S) bB;have pl2:S.length*(1+es.length)<=30000*10:=qu l1 (by omega);generalize S.flatMap (mu (nm,(ls,es)))=Q at *;have hm4:m<=3:=by omega
 have P5:2^m<=2^3:=Nat.pow_le_pow_right (by omega) hm4;have fC:=hI.fl;have xQ:=hI.ol;have hF:F.length<=10000000:=by omega
 have lp:=P3 (A:=Q) (B:=F) (by omega) hF (Q.length+F.length) 0 0 [] (by omega) (by omega) (by omega) (by simp;omega);rw[js,k5,k5]at lp;obtain⟨w1,_,w3,w4,w5⟩:=P2 (Q.length+F.length) Q F a (a-1) (jo _) p1 hI.st;generalize kG (Q.length+F.length) Q F=W at *
 have pB:∀x∈W,a<=x.1/\x.1<x.2.1/\x.2.1<=b/\∀t,x.1<=t->t<x.2.1->bI t F/\du zs cs ls[k] t=x.2.2/\0<=x.2.2/\nU es x.2.2 t=false:=λx hx=>by
  have aN:∀(l:bF)(q:Int),gK q l->∀y∈l,y.1<y.2.1:=by
   intro l;induction l with
   |nil=>intro q _ y hy;simp at hy
   |cons s r ih=>intro q h y hy;rcases jc.1 hy with rfl|hy;exact h.2.1;exact ih _ h.2.2 y hy
  have h0:=aN W a w1 x hx;have h1:=(w1.apart).2 x hx;obtain⟨s,dP,r1,r2,r3,r4⟩:=w3 x hx;obtain⟨g1,g2⟩:=p2 s dP;refine⟨h1,h0,by omega,λt t1 t2=>?_⟩;obtain⟨g3,g4,g5⟩:=g2 t (by omega) (by omega);rw[r3];exact⟨r4 t t1 t2,g3,g4,g5⟩
 have GM:∀x∈W,∀t,x.1<=t->t<x.2.1->Wv (gF es t (dE zs cs ls t)) (dE zs cs ls t) ls.length (m+1)=some x.2.2:=λx hx t t1 t2=>by
  obtain⟨h1,h2,h3,h4⟩:=pB x hx;obtain⟨g1,g2,g3,g4⟩:=h4 t t1 t2;have hn:=(hI.fr t (by omega) (by omega)).1 g1;rw[P4,hn,show ls.length-m-1=k by omega];have:gF es t (dE zs cs ls t) k=true:=by simp only[gF,IE,g2,g4];simp[g3]
  simp only[this,j5,IE,g2]
 have hold:∀t p,Wv (gF es t (dE zs cs ls t)) (dE zs cs ls t) ls.length m=some p->Wv (gF es t (dE zs cs ls t)) (dE zs cs ls t) ls.length (m+1)=some p:=λt p h=>by rw[P4,h]
 obtain⟨P,e4,q1,q2,q3⟩:=jvR (l:=W) (by omega) (lo:=a) (hi:=b) ha hb (λx hx=>⟨(pB x hx).1,(pB x hx).2.1,(pB x hx).2.2.1⟩);obtain⟨F',e5,f1,f2,f3⟩:=PK (B:=P) (by omega) hI.st q1 hF;refine⟨S,Q,W,F',by rw[bk];exact e1,e2,?_,by simp[aQ];omega,⟨P,e4,e5⟩,?_⟩
 .simp only[jbm,show yI Q F 0 0 []=_ from lp];rfl
 .have bV:∀t,a<=t->t<b->bI t F->mQ t W\/Wv (gF es t (dE zs cs ls t)) (dE zs cs ls t) ls.length (m+1)=none:=λt t1 t2 hf=>by
   have hn:=(hI.fr t t1 t2).1 hf;by_cases hg:gF es t (dE zs cs ls t) k=true
   .left;refine w4 t (p3 t t1 t2 ?_ ?_) hf
    .simp only[gF,IE,ja,jh]at hg;exact hg.1
    .simp only[gF,IE,ja,kr]at hg;exact hg.2
   .right;rw[P4,hn,show ls.length-m-1=k by omega,qv.2 hg];rfl
  refine⟨f1,λt h=>hI.fb t ((f2 t).1 h).1,λt t1 t2=>?_,λx hx=>?_,?_,λt t1 t2 aN=>?_,?_,?_⟩
  .rw[f2 t,q2 t];constructor
   .rintro⟨h1,h2⟩
    rcases bV t t1 t2 h1 with h|h
    .exact absurd h h2
    .exact h
   .intro h
    have hn:Wv (gF es t (dE zs cs ls t)) (dE zs cs ls t) ls.length m=none:=by
     cases hw:Wv (gF es t (dE zs cs ls t)) (dE zs cs ls t) ls.length m with
     |none=>rfl
     |some p=>rw[hold t p hw]at h;simp at h
    refine⟨(hI.fr t t1 t2).2 hn,?_⟩
    rintro⟨x,hx,x1,x2⟩
    rw[GM x hx t x1 x2]at h;simp at h
  .rcases jm.1 hx with hx|hx
   .obtain⟨h1,h2,h3,h4⟩:=hI.seg x hx;exact⟨h1,h2,h3,λt t1 t2=>hold t _ (h4 t t1 t2)⟩
   .obtain⟨h1,h2,h3,_⟩:=pB x hx;exact⟨h1,h2,h3,GM x hx⟩
  .refine vu.2 ⟨hI.ap,(w1.apart).1.imp (λh=> .inl h),λx hx y hy=>?_⟩;obtain⟨h1,h2,h3,h4⟩:=hI.seg x hx;obtain⟨g1,g2,g3,g4⟩:=pB y hy;apply jp;intro hn;simp only[apart,not_or]at hn
   have hc:∃t,x.1<=t/\t<x.2.1/\y.1<=t/\t<y.2.1:=by
    by_cases ud:x.1<=y.1
    .exact⟨y.1,by omega,by omega,by omega,by omega⟩
    .exact⟨x.1,by omega,by omega,by omega,by omega⟩
   obtain⟨t,t1,t2,t3,t4⟩:=hc;have hw:=h4 t t1 t2;have:=(hI.fr t (by omega) (by omega)).1 (g4 t t3 t4).1;rw[hw]at this;simp at this
  .by_cases hf:bI t F
   .rcases bV t t1 t2 hf with⟨x,hx,h⟩|h
    .exact⟨x,kg _ hx,h⟩
    .exact absurd h aN
   .have hw:Wv (gF es t (dE zs cs ls t)) (dE zs cs ls t) ls.length m≠none:=λh=>hf ((hI.fr t t1 t2).2 h);obtain⟨x,hx,h⟩:=hI.cov t t1 t2 hw;exact⟨x,kb _ hx,h⟩
  .rw[Nat.pow_succ];omega
  .rw[jf,Nat.add_mul];omega
theorem Yh:∀(n m:Nat)(F:SL)(O:bF),n+m=ls.length->Fy zs cs ls es a b m F O->
  ∃F' O',Ee (n:Int) ls zs ps cs ss (zs.map tb) nm ls es a b F O=some (F',O')/\Fy zs cs ls es a b ls.length F' O'
 |0,m,F,O,hn,hI=>by
  rw[U9];simp only[j2d];rw[ag (by omega),j5,aY];obtain rfl:m=ls.length:=by omega
  exact⟨F,O,rfl,hI⟩
 |k+1,m,F,O,hn,hI=>by
  obtain⟨S,Q,W,F',e1,e2,e3,e4,⟨P,e5,e6⟩,GI⟩:=jxP hs hL fM hE fg ha dj hb hlen (nm:=nm) (ss:=ss) (k:=k) (m:=m) (by omega) hI;rw[U9];simp only[j2d];rw[ao (by omega),ag (show ((k+1:Nat):Int)<=Int.ofNat ls.length by simp;omega),show ((k+1:Nat):Int)-1=(k:Int) by omega];simp only[j5,j6,j7];generalize ls.getD k (ByteArray.empty,((0:Int),(((0:Int),(0:Int)),((0:Int),((0:Int),(([]:List Int),(([]:List (Int×Int)),((0:Int),(0:Int)))))))))=L at *;rw[show j1S ((zs,(ps,(cs,ss))),zs.map tb) (L.1,(L.2.1,((L.2.2.1.1,L.2.2.1.2),(L.2.2.2.1,(L.2.2.2.2.1,(L.2.2.2.2.2.1,(L.2.2.2.2.2.2.1,(L.2.2.2.2.2.2.2.1,L.2.2.2.2.2.2.2.2)))))))) a b=_ from e1];simp only[j3,e2,e3];rw[ag e4];simp only[j5,j3,e5,e6,aP];exact Yh k (m+1) F' (O++W) (by omega) GI
theorem jvS:∃out,j3q ((zs,(ps,(cs,ss))),zs.map tb) (nm,(ls,es)) a b=some out/\eV (λt=>eM es t (dE zs cs ls t) ls.length) b none a out/\out.length<=40000000:=by
 simp only[j3q];by_cases lQ:a>=b
 .rw[ag lQ,j5];exact⟨[],rfl,show a=b by omega,by simp⟩
 .rw[ao lQ,j6]
  have h0:Fy zs cs ls es a b 0 [(a,b)] []:=⟨⟨by dsimp only;omega,by dsimp only;omega,trivial⟩,λt h=>by
   rcases fA.1 h with h|h
   .exact h.2
   .exact absurd h im,λt t1 t2=>⟨λ_=>rfl,λ_=>fA.2 (.inl ⟨t1,t2⟩)⟩,by simp,List.Pairwise.nil,λt _ _ h=>absurd rfl h,by simp,by simp⟩
  obtain⟨F,O,e1,hI⟩:=Yh hs hL fM hE fg ha dj hb hlen (nm:=nm) (ss:=ss) ls.length 0 [(a,b)] [] (by omega) h0;have P5:2^ls.length<=2^4:=Nat.pow_le_pow_right (by omega) fM;have fC:=hI.fl;have xQ:=hI.ol;have hF:F.length<=10000000:=by omega
  have lp:=Yg hF F.length 0 O (by omega) (by omega);rw[k5]at lp
  have Yi:∀u∈F,a<=u.1/\u.1<u.2/\u.2<=b/\∀t,u.1<=t->t<u.2->Wv (gF es t (dE zs cs ls t)) (dE zs cs ls t) ls.length ls.length=none:=λu hu=>by
   have hm:=bX.mem hI.st u hu;have:=hI.fb (u.2-1) ⟨u,hu,by omega,by omega⟩;exact⟨by omega,hm.2,by omega,λt t1 t2=>(hI.fr t (by omega) (by omega)).1 ⟨u,hu,t1,t2⟩⟩
  have al:∀x∈O++F.map (λu=>((u.1,(u.2, -1)):jP)),a<=x.1/\x.1<x.2.1/\x.2.1<=b/\∀t,x.1<=t->t<x.2.1->eM es t (dE zs cs ls t) ls.length=x.2.2:=λx hx=>by
   rcases jm.1 hx with hx|hx
   .obtain⟨h1,h2,h3,h4⟩:=hI.seg x hx;exact⟨h1,h2,h3,λt t1 t2=>by rw[Yf,h4 t t1 t2];rfl⟩
   .obtain⟨u,hu,rfl⟩:=jn.1 hx;obtain⟨h1,h2,h3,h4⟩:=Yi u hu;exact⟨h1,h2,h3,λt t1 t2=>by rw[Yf,h4 t t1 t2];rfl⟩
  have Di:∀x∈O++F.map (λu=>((u.1,(u.2, -1)):jP)), -1<=x.2.2/\x.2.2<=100:=λx hx=>by
   obtain⟨h1,h2,h3,h4⟩:=al x hx;have:=h4 x.1 (ke _) h2;have si:=hs.so.p1;rw[<-this];simp only[eM];cases hT:eh (gF es x.1 (dE zs cs ls x.1)) ls.length with
   |none=>dsimp only;omega
   |some i=>
    dsimp only
    have hi:∀(g:Nat->Bool)(n i:Nat),eh g n=some i->i<n:=by
     intro g n;induction n with
     |zero=>intro i h;simp[eh]at h
     |succ n ih=>
      intro i h;simp only[eh]at h;cases hg:g n with
      |true=>rw[hg,j5]at h;simp at h;omega
      |false=>rw[hg,j6]at h;have:=ih i h;omega
    have bQ:=hi _ _ _ hT;have e:dE zs cs ls x.1 i=du zs cs ls[i] x.1:=by simp[dE,List.getD,bQ]
    rw[e];have:=(XO hs (hL _ (ji bQ)) (t:=x.1) (by omega) (by omega)).2;omega
  have nt:(O++F.map (λu=>((u.1,(u.2, -1)):jP))).Pairwise apart:=by
   refine vu.2 ⟨hI.ap,?_,λx hx y hy=>?_⟩
   .rw[List.pairwise_map]
    have:∀(l:SL)(q:Int),bX q l->l.Pairwise (λu v=>u.2<=v.1):=by
     intro l;induction l with
     |nil=>intro q _;exact List.Pairwise.nil
     |cons s r ih=>intro q h;exact kx.2 ⟨λv hv=>by have:=bX.mem h.2.2 v hv;omega,ih _ h.2.2⟩
    exact(this F _ hI.st).imp (λh=> .inl h)
   .obtain⟨u,hu,rfl⟩:=jn.1 hy;obtain⟨h1,h2,h3,h4⟩:=hI.seg x hx;obtain⟨g1,g2,g3,g4⟩:=Yi u hu;apply jp;intro hn;simp only[apart,not_or]at hn
    have hc:∃t,x.1<=t/\t<x.2.1/\u.1<=t/\t<u.2:=by
     by_cases ud:x.1<=u.1
     .exact⟨u.1,by omega,by omega,by omega,by omega⟩
     .exact⟨x.1,by omega,by omega,by omega,by omega⟩
    obtain⟨t,t1,t2,t3,t4⟩:=hc;have hw:=h4 t t1 t2;rw[g4 t t3 t4]at hw;simp at hw
  have P6:∀t,(a<=t/\t<b)↔∃s∈O++F.map (λu=>((u.1,(u.2, -1)):jP)),s.1<=t/\t<s.2.1:=λt=>by
   constructor
   .rintro⟨t1,t2⟩
    by_cases hn:Wv (gF es t (dE zs cs ls t)) (dE zs cs ls t) ls.length ls.length=none
    .obtain⟨u,hu,u1,u2⟩:=(hI.fr t t1 t2).2 hn;exact⟨(u.1,(u.2, -1)),kg _ (jn.2 ⟨u,hu,rfl⟩),u1,u2⟩
    .obtain⟨x,hx,h⟩:=hI.cov t t1 t2 hn;exact⟨x,kb _ hx,h⟩
   .rintro⟨x,hx,x1,x2⟩
    obtain⟨h1,h2,h3,_⟩:=al x hx;omega
  have hZl:(O++F.map (λu=>((u.1,(u.2, -1)):jP))).length<=40000000:=by rw[jf,ka];omega
  generalize hZ:O++F.map (λu=>((u.1,(u.2, -1)):jP))=Z at *
  obtain⟨Y,e2,hp,P7⟩:=jrU (l:=Z) (by omega) (λx hx=>by have:=al x hx;have:=Di x hx;omega)
  have mq:Ch (λt=>eM es t (dE zs cs ls t) ls.length) b a Y:=by
   refine XJ dj ?_ (λs h=>⟨(al s (hp.mem_iff.1 h)).2.1,(al s (hp.mem_iff.1 h)).2.2.2⟩) (λt=>?_)
   .have hY:Y.Pairwise apart:=(hp.pairwise_iff (λ{x y} h=>Or.symm h)).2 nt;refine List.Pairwise.imp_of_mem (λ{x y} hx hy h=>?_) (hY.and P7);have h1:=al x (hp.mem_iff.1 hx);have h2:=al y (hp.mem_iff.1 hy);rcases h.1 with h3|h3
    .exact h3
    .have:=h.2;omega
   .rw[P6 t];constructor
    .rintro⟨x,hx,h⟩;exact⟨x,hp.mem_iff.2 hx,h⟩
    .rintro⟨x,hx,h⟩;exact⟨x,hp.mem_iff.1 hx,h⟩
  have hYl:=hp.length_eq;obtain⟨out,e3,h3,l3⟩:=IB (l:=Y) (by omega) mq;refine⟨out,?_,h3,by omega⟩;simp only[j23,j3];rw[show Ee (Int.ofNat ls.length) ls zs ps cs ss (zs.map tb) nm ls es a b [(a,b)] []=_ from e1];simp only[j3,show Int.ofNat F.length=(F.length:Int) from rfl];rw[show Ef (F.length:Int) 0 F O=_ from lp];simp only[j3];rw[e2];simp only[j3,e3]
end
def oF(l:bF):List Int:=l.tail.map (·.1)
theorem IF{f:Int->Int}{b:Int}:∀{l:bF}{q:Option Int}{a:Int},eV f b q a l->(∀x,x∈oF l↔a<x/\x<b/\f (x-1)≠f x)/\(oF l).Nodup/\l.length<=(oF l).length+1
 |[],q,a,h=>⟨λx=>⟨λhx=>by simp[oF]at hx,λhx=>by have h:a=b:=h;omega⟩,zg,by simp⟩
 |[s],q,a,h=>by
  obtain⟨h1,h2,h3,h4,h5⟩:=h;have h5:s.2.1=b:=h5;exact⟨λx=>⟨λhx=>by simp[oF]at hx,λ⟨x1,x2,x3⟩=>absurd ((h4 (x-1) (by omega) (by omega)).trans (h4 x (by omega) (by omega)).symm) x3⟩,zg,by simp[oF]⟩
 |s::u::r,q,a,h=>by
  obtain⟨h1,h2,h3,h4,h5⟩:=h;obtain⟨i1,i2,i3⟩:=IF h5;have hu:=h5.1;have hle:=h5.2.2.2.2.ch.le;have F9:=h5.2.1;have e:oF (s::u::r)=u.1::oF (u::r):=rfl;refine⟨λx=>?_,?_,by rw[e];simp only[jl]at i3 ⊢;omega⟩
  .rw[e,jc,i1 x];constructor
   .rintro (rfl|⟨x1,x2,x3⟩)
    .refine⟨by omega,by omega,?_⟩;rw[h4 (u.1-1) (by omega) (by omega),h5.2.2.2.1 u.1 (by omega) (by omega)]
     exactλhe=>h5.2.2.1 (by rw[he])
    .exact⟨by omega,x2,x3⟩
   .rintro⟨x1,x2,x3⟩
    by_cases hx:x<s.2.1
    .exact absurd ((h4 (x-1) (by omega) (by omega)).trans (h4 x (by omega) (by omega)).symm) x3
    .by_cases mM:x=s.2.1
     .left;omega
     .right;exact⟨by omega,x2,x3⟩
  .rw[e];refine q8.2 ⟨λhm=>?_,i2⟩;have:=(i1 u.1).1 hm;omega
theorem Yj{f:Int->Int}{a b:Int}{l:bF}{q:Option Int}(h:eV f b q a l){E:List Int}(hE:∀x,a<x->x<b->f (x-1)≠f x->x∈E):l.length<=E.length+1:=by
 obtain⟨h1,h2,h3⟩:=IF h
 have:=h2.length_le_of_subset (l₂:=E) (λx hx=>by
  have:=(h1 x).1 hx;exact hE x this.1 this.2.1 this.2.2)
 omega
def nV(es:List eU):List Int:=es.flatMap λx=>[x.2.2.2.1,x.2.2.2.2]
theorem Fz:∀es:List eU,(nV es).length=2*es.length
 |[]=>rfl
 |x::es=>by
  have:=Fz es;simp only[nV,zk,jf,jl,qq]at this ⊢;omega
theorem P8{es:List eU}{x:eU}(hx:x∈es):x.2.2.2.1∈nV es/\x.2.2.2.2∈nV es:=
 ⟨vc.2 ⟨x,hx,by simp⟩,vc.2 ⟨x,hx,by simp⟩⟩
theorem Yk{es:List eU}{t:Int}(ht:t∉nV es)(p:Int):nU es p (t-1)=nU es p t:=by
 unfold nU;rw[yg,qs,qs]
 have key:∀x∈es,(x.1==0&&(x.2.1==p&&(decide (x.2.2.2.1<=t-1)&&decide (t-1<x.2.2.2.2))))=(x.1==0&&(x.2.1==p&&(decide (x.2.2.2.1<=t)&&decide (t<x.2.2.2.2)))):=λx hx=>by
  obtain⟨m1,m2⟩:=P8 hx;have n1:t≠x.2.2.2.1:=λe=>ht (e▸m1);have n2:t≠x.2.2.2.2:=λe=>ht (e▸m2)
  have e1:decide (x.2.2.2.1<=t-1)=decide (x.2.2.2.1<=t):=by
   by_cases h:x.2.2.2.1<=t
   .rw[ag h,ag (by omega)]
   .rw[ao h,ao (by omega)]
  have e2:decide (t-1<x.2.2.2.2)=decide (t<x.2.2.2.2):=by
   by_cases h:t<x.2.2.2.2
   .rw[ag h,ag (by omega)]
   .rw[ao h,ao (by omega)]
  rw[e1,e2]
 exact⟨λ⟨x,hx,h⟩=>⟨x,hx,by rw[<-key x hx];exact h⟩,λ⟨x,hx,h⟩=>⟨x,hx,by rw[key x hx];exact h⟩⟩
theorem Yl{es:List eU}{t u:Int}{pf pg:Nat->Int}{n:Nat}(hp:∀i,i<n->pf i=pg i)(ha:∀p,nU es p t=nU es p u):eM es t pf n=eM es u pg n:=by
 have hg:∀m,m<=n->eh (gF es t pf) m=eh (gF es u pg) m:=by
  intro m;induction m with
  |zero=>intro _;rfl
  |succ m ih=>
   intro hm;have e:gF es t pf m=gF es u pg m:=by simp only[gF,hp m (by omega),ha]
   simp only[eh,e,ih (by omega)]
 have hi:∀(g:Nat->Bool)(n i:Nat),eh g n=some i->i<n:=by
  intro g n;induction n with
  |zero=>intro i h;simp[eh]at h
  |succ n ih=>
   intro i h;simp only[eh]at h;cases hg:g n with
   |true=>rw[hg,j5]at h;simp at h;omega
   |false=>rw[hg,j6]at h;have:=ih i h;omega
 simp only[eM,hg n (jo _)];cases hT:eh (gF es u pg) n with
 |none=>rfl
 |some i=>exact hp i (hi _ _ _ hT)
section
variable{zs:List bP}{ps:List dm}{cs:List aO}(hs:cQ zs ps cs)
include hs
theorem Ym{a b:Int}(ha:0<=a)(dj:a<=b)(hb:b<=8589934592)(hlen:b-a<=1209600):∀ls:List cb,(∀L∈ls,fR zs.length ps.length cs.length L)->
  ∃E:List Int,E.length<=5000*ls.length/\∀L∈ls,∀x,a<x->x<b->du zs cs L (x-1)≠du zs cs L x->x∈E
 |[],_=>⟨[],by simp,by simp⟩
 |L::ls,hL=>by
  obtain⟨E,e1,e2⟩:=Ym ha dj hb hlen ls (λM hM=>hL M (by simp[hM]));obtain⟨S,_,c1,l1⟩:=jvQ hs (hL L (by simp)) (ss:=[]) ha dj hb hlen;refine⟨oF S++E,?_,λM hM x x1 x2 x3=>?_⟩
  .have:(oF S).length<=S.length:=by simp[oF]
   rw[jf,jl];omega
  .rcases jc.1 hM with rfl|hM
   .exact kb _ (((IF c1).1 x).2 ⟨x1,x2,x3⟩)
   .exact kg _ (e2 M hM x x1 x2 x3)
theorem jxQ{ls:List cb}{es:List eU}(hL:∀L∈ls,fR zs.length ps.length cs.length L){a b:Int}(ha:0<=a)(dj:a<=b)(hb:b<=8589934592)(hlen:b-a<=1209600) :
  ∃E:List Int,E.length<=5000*ls.length+2*es.length/\(∀x,a<x->x<b->eM es (x-1) (dE zs cs ls (x-1)) ls.length≠eM es x (dE zs cs ls x) ls.length->x∈E)/\∀x∈nV es,x∈E:=by
 obtain⟨E,e1,e2⟩:=Ym hs ha dj hb hlen ls hL;refine⟨E++nV es,by rw[jf,Fz];omega,λx x1 x2 x3=>?_,λx hx=>kg _ hx⟩;apply jp;intro hn;simp only[jm,not_or]at hn;refine x3 (Yl (λi hi=>?_) (λp=>Yk hn.2 p));apply jp;intro aN;have e:∀t,dE zs cs ls t i=du zs cs ls[i] t:=λt=>by simp[dE,List.getD,hi]
 rw[e,e]at aN;exact hn.1 (e2 _ (ji hi) x x1 x2 aN)
theorem Yn{ss:List dD}(hc:uE (zs,(ps,(cs,ss)))){i:Nat}(hi:i<ss.length){a b:Int}(ha:0<=a)(dj:a<=b)(hb:b<=8589934592)(hlen:b-a<=34560000) :
  j8N (zs,(ps,(cs,ss))) (i:Int) a b=some (((zs,(ps,(cs,ss))),zs.map tb),0):=by
 simp only[j8N,jyZ hs.so.ok hc,j3,jw,j6,jff,show Int.ofNat ss.length=(ss.length:Int) from rfl,jh7];rw[ag (show (i:Int)>=0 by omega),ag (show (i:Int)<(ss.length:Int) by omega),aj (x:=b-a) (by omega) (by omega),ag (show a>=0 by omega),ag (show a<=8589934592 by omega),ag (show b>=a by omega),ag hb,ag hlen];rfl
end
section
variable{zs:List bP}{ps:List dm}{cs:List aO}(hs:cQ zs ps cs)
include hs
end
section
variable{o:Int}{l:bA}(h:gU o l)
include h
end
section
variable{zs:List bP}{ps:List dm}{cs:List aO}(hs:cQ zs ps cs)
include hs
end
theorem Yo{f:Nat->Bool}:∀{n k:Nat},eh f n=some k->k<n
 |0,k,h=>by simp[eh]at h
 |n+1,k,h=>by
  simp only[eh]at h;cases hf:f n with
  |true=>rw[hf]at h;simp at h;omega
  |false=>rw[hf]at h;simp at h;have:=Yo h;omega
def zJ(t p:Int)(x:eU):Int:=
 if t<x.2.2.2.1\/x.2.2.2.2<=t then p else if x.1=1 then x.2.1 else if x.1=2/\p=x.2.1 then x.2.2.1 else if x.1=2/\p=x.2.2.1 then x.2.1 else p
def lG(t:Int):Int->List eU->Int
 |p,[]=>p
 |p,x::r=>lG t (zJ t p x) r
theorem Yp{es:List eU}(hl:es.length<=100){t:Int}:∀(n i:Nat)(p:Int),i+n=es.length->Eg p t es (es.length:Int) (i:Int)=some (lG t p (es.drop i))
 |0,i,p,hi=>by
  rw[Vb];simp only[j5a];rw[ao (by omega),j6,aY,jd (by omega)];rfl
 |n+1,i,p,hi=>by
  have bQ:i<es.length:=by omega
  have bk:es.getD i ((0:Int),((0:Int),((0:Int),((0:Int),(0:Int)))))=es[i]:=by simp[List.getD,bQ]
  have ih:=λp=>Yp hl (t:=t) n (i+1) p (by omega);rw[Vb];simp only[j5a,jfi,j3];rw[ag (by omega),ba (by omega) (by omega),aj (x:=(i:Int)+1) (by omega) (by omega),jb bQ];simp only[j5,j7,bk,lG];generalize es[i]=x;unfold zJ;by_cases ha:t<x.2.2.2.1\/x.2.2.2.2<=t
  .rw[if_pos ha]
   have:cond (decide (x.2.2.2.1<=t)) (decide (t<x.2.2.2.2)) false=false:=by
    rcases ha with ha|ha
    .rw[ao (show¬x.2.2.2.1<=t by omega)];rfl
    .rw[ao (show¬t<x.2.2.2.2 by omega)];cases decide (x.2.2.2.1<=t)<;>rfl
   rw[this];simp only[kf,j5,aP];exact ih p
  .rw[if_neg ha,ag (show x.2.2.2.1<=t by omega),ag (show t<x.2.2.2.2 by omega)];simp only[j5,jw,j6];by_cases h0:x.1=0
   .rw[ff h0,if_neg (by omega),if_neg (by omega),if_neg (by omega),j5,aP];exact ih p
   rw[cP h0,j6];by_cases h1:x.1=1
   .rw[if_pos h1,ff h1,j5,aP];exact ih _
   .rw[if_neg h1,cP h1,j6];by_cases h2:x.1=2
    .rw[show (x.1 != 2)=false by simp[h2],j6];by_cases h3:p=x.2.1
     .rw[if_pos ⟨h2,h3⟩,ff h3,j5,aP];exact ih _
     .rw[if_neg (λh=>h3 h.2),cP h3,j6];by_cases h4:p=x.2.2.1
      .rw[if_pos ⟨h2,h4⟩,ff h4,j5,aP];exact ih _
      .rw[if_neg (λh=>h4 h.2),cP h4,j6,aP];exact ih _
    .rw[if_neg (λh=>h2 h.1),if_neg (λh=>h2 h.1),show (x.1 != 2)=true by simp[h2],j5,aP];exact ih _
section
variable{zs:List bP}{ps:List dm}{cs:List aO}(hs:cQ zs ps cs)
include hs
noncomputable def fT(zs:List bP)(cs:List aO)(s:dD)(t:Int):Int:=lG t (eM s.2.2 t (dE zs cs s.2.1 t) s.2.1.length) s.2.2
end
section
variable{zs:List bP}{ps:List dm}{cs:List aO}(hs:cQ zs ps cs)
include hs
end
section
variable{zs:List bP}{ps:List dm}{cs:List aO}{nm:ByteArray}{ls:List cb}{es:List eU}
structure Sht(zs:List bP)(ps:List dm)(cs:List aO)(ls:List cb)(es:List eU):Prop where
 z:zs.length<=1000/\∀z∈zs,z.2.2.length<=1000
 p:ps.length<=1000/\∀p∈ps,p.2.2.1.length<=1000
 c:cs.length<=1000/\∀c∈cs,c.2.2.length<=1000
 l:ls.length<=1000/\∀x∈ls,x.2.2.2.2.2.1.length<=1000/\x.2.2.2.2.2.2.1.length<=1000
 e:es.length<=1000
end
section
variable{zs:List bP}{ps:List dm}{cs:List aO}(hs:cQ zs ps cs)
include hs
end
theorem jxR{L:List Int}{a:Int}(h:dx L a):∃zs ps cs nm ls es a',j5F L a 1=some ((zs,(ps,(cs,[(nm,(ls,es))]))),L,a')/\cQ zs ps cs/\uE (zs,(ps,(cs,[(nm,(ls,es))])))/\ls.length<=3/\es.length<=3/\dx L a':=by
 obtain⟨zs,ps,cs,ss,a1,e1,hs,g0,g1,g2,g3,d1⟩:=jrS (n:=1) h (by omega) (by omega)
 obtain⟨s,rfl⟩:∃s,ss=[s]:=by
  match ss,g0,g1 with
  |[s],_,_=>exact⟨s,rfl⟩
  |s::s'::r,_,g1=>simp at g1;omega
 have C8:=g3 s (by simp);have hc:=jxG hs (ss:=[s]) (by simp) (by rw[g2];exact jxF.take _) (λy h=>(g3 y h).ck);exact⟨zs,ps,cs,s.1,s.2.1,s.2.2,a1,e1,hs,hc,C8.ll,C8.el,d1⟩
section
variable{zs:List bP}{ps:List dm}{cs:List aO}(hs:cQ zs ps cs)
include hs
end
section
variable{zs:List bP}{ps:List dm}{cs:List aO}(hs:cQ zs ps cs)
include hs
end
section
variable{zs:List bP}{ps:List dm}{cs:List aO}(hs:cQ zs ps cs)
include hs
end
end Go.Proofs.Pw
