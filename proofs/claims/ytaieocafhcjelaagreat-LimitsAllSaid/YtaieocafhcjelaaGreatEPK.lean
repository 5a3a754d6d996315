/- stack.SegmentsOf: its oY form. -/
import Derived.Test.YtaieocafhcjelaaGreatEPJ
import Derived.Test.YtaieocafhcjelaaGreatEPG
import Derived.Test.YtaieocafhcjelaaGreatEPC
import Derived.Test.YtaieocafhcjelaaGreatEPA
import Derived.Test.YtaieocafhcjelaaGreatELD
import Derived.Test.YtaieocafhcjelaaGreatEPI
open Go Go.Lft
namespace Go.Proofs.Pw
def Gi(gd:Nat->Bool)(len:Nat):Nat->Option Nat
 |0=>none
 |m+1=>match Gi gd len m with
  |some i=>some i
  |none=>cond (gd (len-m-1)) (some (len-m-1)) none
theorem Wb(gd:Nat->Bool)(len:Nat):∀m,m<=len->eZ gd len=match Gi gd len m with
  |some i=>some i
  |none=>eZ gd (len-m)
 |0,_=>rfl
 |m+1,h=>by
  rw[Wb gd len m (by omega)];simp only[Gi];cases Gi gd len m with
  |some i=>rfl
  |none=>
   dsimp only
   rw[show len-m=(len-m-1)+1 by omega,eZ,show len-(m+1)=len-m-1 by omega,show len-m-1+1-1=len-m-1 by omega];cases gd (len-m-1)<;>rfl
def Wv(gd:Nat->Bool)(pf:Nat->Int)(len m:Nat):Option Int:=(Gi gd len m).map pf
theorem NW(gd:Nat->Bool)(pf:Nat->Int)(len m:Nat):Wv gd pf len (m+1)=match Wv gd pf len m with
  |some p=>some p
  |none=>cond (gd (len-m-1)) (some (pf (len-m-1))) none:=by
 simp only[Wv,Gi];cases Gi gd len m with
 |some i=>rfl
 |none=>cases gd (len-m-1)<;>rfl
theorem Wc(es:List eU)(t:Int)(pf:Nat->Int)(len:Nat):fi es t pf len=(Wv (fY es t pf) pf len len).getD (-1):=by
 simp only[fi,Wv,Wb (fY es t pf) len len (jg _)];cases Gi (fY es t pf) len len with
 |some i=>rfl
 |none=>simp only[Nat.sub_self,eZ];rfl
theorem jzp:Go.Sort.SWO (Go.Proofs.ltOf λ(x y:Go.Lft.Sml (.pair (.int .i64) (.pair (.int .i64) (.int .i64))))=>(j4r x.1 y.1).getD 0):=by
 refine Gd (λx=>x.1.1) (λx=>?_) _ λx y=>rfl;have:=x.2;simp only[fK,jb,jo]at this;exact this.1
theorem jtQ{l:aS}(hl:l.length<=1000000000)(hb:∀x∈l, -1000000000000<=x.1/\x.1<=1000000000000 /\ -1000000000000<=x.2.1/\x.2.1<=1000000000000 /\ -1000000000000<=x.2.2/\x.2.2<=1000000000000) :
  ∃L,j1e l=some L/\L.Perm l/\L.Pairwise (λx y=>x.1<=y.1):=by
 obtain⟨L,e,hp,hs⟩:=Kd (a:= .pair (.int .i64) (.pair (.int .i64) (.int .i64))) (cf:=λx y=>(j4r x y).getD 0) jzp (xs:=l) (λx hx=>by
  have:=hb x hx;simp only[fK,jb,jo];refine⟨⟨?_,?_⟩,⟨?_,?_⟩,⟨?_,?_⟩⟩
  .exact q9 (by decide) this.1
  .exact q9 this.2.1 (by decide)
  .exact q9 (by decide) this.2.2.1
  .exact q9 this.2.2.2.1 (by decide)
  .exact q9 (by decide) this.2.2.2.2.1
  .exact q9 this.2.2.2.2.2 (by decide)) (by show List.length l<_;omega)
 refine⟨L,e,hp,?_⟩;refine List.Pairwise.imp_of_mem (λ{x y} hx hy h=>?_) hs;have h1:=hb x (hp.mem_iff.1 hx);have h2:=hb y (hp.mem_iff.1 hy);have h':¬w64 (y.1-x.1)<0:=h;rw[ai (x:=y.1-x.1) (by omega) (by omega)]at h';omega
theorem Wd{F:SL}(hF:F.length<=10000000):∀(n i:Nat)(acc:aS),i+n=F.length->acc.length+n<=1000000000->yg (F.length:Int) (i:Int) F acc=some (acc++(F.drop i).map λu=>(u.1,(u.2, -1)))
 |0,i,acc,hi,_=>by
  rw[SI];simp only[j3P];rw[al (by omega),j6,aW,jf (by omega)];simp
 |n+1,i,acc,hi,ha=>by
  have bF:i<F.length:=by omega
  have bh:F.getD i ((0:Int),(0:Int))=F[i]:=by simp[List.getD,bF]
  rw[SI];simp only[j3P];rw[aj (by omega),aX (by omega) (by omega),ai (x:=(i:Int)+1) (by omega) (by omega)];simp only[j5,j7,bh];rw[aj (by simp[aR];omega),j5,aJ,jc bF,kr];have:=Wd hF n (i+1) (acc++[(F[i].1,(F[i].2, -1))]) (by omega) (by simp;omega);rw[jd]at this;exact this
def apart(x y:ej):Prop:=x.2.1<=y.1\/y.2.1<=x.1
section
variable{zs:List bY}{ps:List dB}{cs:List bf}(hs:eX zs ps cs)
 {nm:ByteArray}{ls:List cg}{es:List eU}(hL:∀L∈ls,fI zs.length ps.length cs.length L)(ib:ls.length<=4)(hE:∀x∈es,qV ps.length x)(hQ:es.length<=9)
 {ss:List cA}{a b:Int}(ha:0<=a)(bR:a<=b)(hb:b<=8589934592)(hlen:b-a<=35078400)
include hs hL ib hE hQ ha bR hb hlen
structure EC(zs:List bY)(cs:List bf)(ls:List cg)(es:List eU)(a b:Int)(m:Nat)(F:SL)(O:aS):Prop where
 st:bK (a-1) F
 fb:∀t,bz t F->t<b
 fr:∀t,a<=t->t<b->(bz t F↔Wv (fY es t (du zs cs ls t)) (du zs cs ls t) ls.length m=none)
 seg:∀x∈O,a<=x.1/\x.1<x.2.1/\x.2.1<=b/\∀t,x.1<=t->t<x.2.1->Wv (fY es t (du zs cs ls t)) (du zs cs ls t) ls.length m=some x.2.2
 ap:O.Pairwise apart
 cov:∀t,a<=t->t<b->Wv (fY es t (du zs cs ls t)) (du zs cs ls t) ls.length m≠none->lV t O
 fl:F.length+300000<=2^m*300001
 ol:O.length<=m*4000000
theorem jzq{k m:Nat}(hk:k+m+1=ls.length){F:SL}{O:aS}(hI:EC zs cs ls es a b m F O) :
  ∃S Q W F',j21 ((zs,(ps,(cs,ss))),zs.map tb) (ls.getD k (ByteArray.empty,((0:Int),(((0:Int),(0:Int)),((0:Int),((0:Int),(([]:List Int),(([]:List (Int×Int)),((0:Int),(0:Int)))))))))) a b=some S/\
   j6c (nm,(ls,es)) S=some Q/\j89 Q F=some W/\O.length+W.length<=aR/\(∃P,j8a W=some P/\j32 F P=some F')/\EC zs cs ls es a b (m+1) F' (O++W):=by
 have bg:k<ls.length:=by omega
 have hLk:=hL _ (jh bg);have bh:ls.getD k (ByteArray.empty,((0:Int),(((0:Int),(0:Int)),((0:Int),((0:Int),(([]:List Int),(([]:List (Int×Int)),((0:Int),(0:Int)))))))))=ls[k]:=by simp[List.getD,bg]
 have Hc:∀t,du zs cs ls t k=cR zs cs ls[k] t:=λt=>by simp only[du,bh]
 obtain⟨S,e1,c1,l1⟩:=VZ hs hLk (ss:=ss) ha bR hb hlen;have bP:=c1.pos;have e2:=jtP (nm:=nm) (ls:=ls) hE (by omega) (S:=S) (by omega) bP;obtain⟨p1,p2,p3⟩:=V8 (nm:=nm) (ls:=ls) hE (by omega) c1.ch bP;have pl:=V6 (nm:=nm) (ls:=ls) hE (by omega) (S:=S) bP;have pl2:S.length*(1+es.length)<=30000*10:=qw l1 (by omega);generalize S.flatMap (kY (nm,(ls,es)))=Q at *;have hm4:m<=3:=by omega
 have NX:2^m<=2^3:=Nat.pow_le_pow_right (by omega) hm4;have fa:=hI.fl;have uS:=hI.ol;have hF:F.length<=10000000:=by omega
 have lp:=NV (A:=Q) (B:=F) (by omega) hF (Q.length+F.length) 0 0 [] (by omega) (by omega) (by omega) (by simp;omega);rw[jl,jv,jv]at lp;obtain⟨w1,_,w3,w4,w5⟩:=NU (Q.length+F.length) Q F a (a-1) (jg _) p1 hI.st;generalize iQ (Q.length+F.length) Q F=W at *
 have ot:∀x∈W,a<=x.1/\x.1<x.2.1/\x.2.1<=b/\∀t,x.1<=t->t<x.2.1->bz t F/\cR zs cs ls[k] t=x.2.2/\0<=x.2.2/\mI es x.2.2 t=false:=λx hx=>by
  have ba:∀(l:aS)(q:Int),fZ q l->∀y∈l,y.1<y.2.1:=by
   intro l;induction l with
   |nil=>intro q _ y hy;simp at hy
   |cons s r ih=>intro q h y hy;rcases je.1 hy with rfl|hy;exact h.2.1;exact ih _ h.2.2 y hy
  have h0:=ba W a w1 x hx;have h1:=(w1.apart).2 x hx;obtain⟨s,dr,r1,r2,r3,r4⟩:=w3 x hx;obtain⟨g1,g2⟩:=p2 s dr;refine⟨h1,h0,by omega,λt t1 t2=>?_⟩;obtain⟨g3,g4,g5⟩:=g2 t (by omega) (by omega);rw[r3];exact⟨r4 t t1 t2,g3,g4,g5⟩
 have We:∀x∈W,∀t,x.1<=t->t<x.2.1->Wv (fY es t (du zs cs ls t)) (du zs cs ls t) ls.length (m+1)=some x.2.2:=λx hx t t1 t2=>by
  obtain⟨h1,h2,h3,h4⟩:=ot x hx;obtain⟨g1,g2,g3,g4⟩:=h4 t t1 t2;have hn:=(hI.fr t (by omega) (by omega)).1 g1;rw[NW,hn,show ls.length-m-1=k by omega];have:fY es t (du zs cs ls t) k=true:=by simp only[fY,Hc,g2,g4];simp[g3]
  simp only[this,j5,Hc,g2]
 have hold:∀t p,Wv (fY es t (du zs cs ls t)) (du zs cs ls t) ls.length m=some p->Wv (fY es t (du zs cs ls t)) (du zs cs ls t) ls.length (m+1)=some p:=λt p h=>by rw[NW,h]
 obtain⟨P,e4,q1,q2,q3⟩:=jxk (l:=W) (by omega) (lo:=a) (hi:=b) ha hb (λx hx=>⟨(ot x hx).1,(ot x hx).2.1,(ot x hx).2.2.1⟩);obtain⟨F',e5,f1,f2,f3⟩:=Ny (B:=P) (by omega) hI.st q1 hF;refine⟨S,Q,W,F',by rw[bh];exact e1,e2,?_,by simp[aR];omega,⟨P,e4,e5⟩,?_⟩
 .simp only[j89,show tE Q F 0 0 []=_ from lp];rfl
 .have cp:∀t,a<=t->t<b->bz t F->lV t W\/Wv (fY es t (du zs cs ls t)) (du zs cs ls t) ls.length (m+1)=none:=λt t1 t2 hf=>by
   have hn:=(hI.fr t t1 t2).1 hf;by_cases hg:fY es t (du zs cs ls t) k=true
   .left;refine w4 t (p3 t t1 t2 ?_ ?_) hf
    .simp only[fY,Hc,jb,jo]at hg;exact hg.1
    .simp only[fY,Hc,jb,qb]at hg;exact hg.2
   .right;rw[NW,hn,show ls.length-m-1=k by omega,ze.2 hg];rfl
  refine⟨f1,λt h=>hI.fb t ((f2 t).1 h).1,λt t1 t2=>?_,λx hx=>?_,?_,λt t1 t2 ba=>?_,?_,?_⟩
  .rw[f2 t,q2 t];constructor
   .rintro⟨h1,h2⟩
    rcases cp t t1 t2 h1 with h|h
    .exact absurd h h2
    .exact h
   .intro h
    have hn:Wv (fY es t (du zs cs ls t)) (du zs cs ls t) ls.length m=none:=by
     cases hw:Wv (fY es t (du zs cs ls t)) (du zs cs ls t) ls.length m with
     |none=>rfl
     |some p=>rw[hold t p hw]at h;simp at h
    refine⟨(hI.fr t t1 t2).2 hn,?_⟩
    rintro⟨x,hx,x1,x2⟩
    rw[We x hx t x1 x2]at h;simp at h
  .rcases jn.1 hx with hx|hx
   .obtain⟨h1,h2,h3,h4⟩:=hI.seg x hx;exact⟨h1,h2,h3,λt t1 t2=>hold t _ (h4 t t1 t2)⟩
   .obtain⟨h1,h2,h3,_⟩:=ot x hx;exact⟨h1,h2,h3,We x hx⟩
  .refine qh.2 ⟨hI.ap,(w1.apart).1.imp (λh=> .inl h),λx hx y hy=>?_⟩;obtain⟨h1,h2,h3,h4⟩:=hI.seg x hx;obtain⟨g1,g2,g3,g4⟩:=ot y hy;apply jr;intro hn;simp only[apart,not_or]at hn
   have hc:∃t,x.1<=t/\t<x.2.1/\y.1<=t/\t<y.2.1:=by
    by_cases G8:x.1<=y.1
    .exact⟨y.1,by omega,by omega,by omega,by omega⟩
    .exact⟨x.1,by omega,by omega,by omega,by omega⟩
   obtain⟨t,t1,t2,t3,t4⟩:=hc;have hw:=h4 t t1 t2;have:=(hI.fr t (by omega) (by omega)).1 (g4 t t3 t4).1;rw[hw]at this;simp at this
  .by_cases hf:bz t F
   .rcases cp t t1 t2 hf with⟨x,hx,h⟩|h
    .exact⟨x,kv _ hx,h⟩
    .exact absurd h ba
   .have hw:Wv (fY es t (du zs cs ls t)) (du zs cs ls t) ls.length m≠none:=λh=>hf ((hI.fr t t1 t2).2 h);obtain⟨x,hx,h⟩:=hI.cov t t1 t2 hw;exact⟨x,kj _ hx,h⟩
  .rw[Nat.pow_succ];omega
  .rw[ja,Nat.add_mul];omega
theorem Wh:∀(n m:Nat)(F:SL)(O:aS),n+m=ls.length->EC zs cs ls es a b m F O->
  ∃F' O',yf (n:Int) ls zs ps cs ss (zs.map tb) nm ls es a b F O=some (F',O')/\EC zs cs ls es a b ls.length F' O'
 |0,m,F,O,hn,hI=>by
  rw[SH];simp only[j1K];rw[aj (by omega),j5,aW];obtain rfl:m=ls.length:=by omega
  exact⟨F,O,rfl,hI⟩
 |k+1,m,F,O,hn,hI=>by
  obtain⟨S,Q,W,F',e1,e2,e3,e4,⟨P,e5,e6⟩,rO⟩:=jzq hs hL ib hE hQ ha bR hb hlen (nm:=nm) (ss:=ss) (k:=k) (m:=m) (by omega) hI;rw[SH];simp only[j1K];rw[al (by omega),aj (show ((k+1:Nat):Int)<=Int.ofNat ls.length by simp;omega),show ((k+1:Nat):Int)-1=(k:Int) by omega];simp only[j5,j6,j7];generalize ls.getD k (ByteArray.empty,((0:Int),(((0:Int),(0:Int)),((0:Int),((0:Int),(([]:List Int),(([]:List (Int×Int)),((0:Int),(0:Int)))))))))=L at *;rw[show j21 ((zs,(ps,(cs,ss))),zs.map tb) (L.1,(L.2.1,((L.2.2.1.1,L.2.2.1.2),(L.2.2.2.1,(L.2.2.2.2.1,(L.2.2.2.2.2.1,(L.2.2.2.2.2.2.1,(L.2.2.2.2.2.2.2.1,L.2.2.2.2.2.2.2.2)))))))) a b=_ from e1];simp only[j3,e2,e3];rw[aj e4];simp only[j5,j3,e5,e6,aJ];exact Wh k (m+1) F' (O++W) (by omega) rO
theorem jxl:∃out,j3x ((zs,(ps,(cs,ss))),zs.map tb) (nm,(ls,es)) a b=some out/\di (λt=>fi es t (du zs cs ls t) ls.length) b none a out/\out.length<=40000000:=by
 simp only[j3x];by_cases nK:a>=b
 .rw[aj nK,j5];exact⟨[],rfl,show a=b by omega,by simp⟩
 .rw[al nK,j6]
  have h0:EC zs cs ls es a b 0 [(a,b)] []:=⟨⟨by dsimp only;omega,by dsimp only;omega,trivial⟩,λt h=>by
   rcases eY.1 h with h|h
   .exact h.2
   .exact absurd h gJ,λt t1 t2=>⟨λ_=>rfl,λ_=>eY.2 (.inl ⟨t1,t2⟩)⟩,by simp,List.Pairwise.nil,λt _ _ h=>absurd rfl h,by simp,by simp⟩
  obtain⟨F,O,e1,hI⟩:=Wh hs hL ib hE hQ ha bR hb hlen (nm:=nm) (ss:=ss) ls.length 0 [(a,b)] [] (by omega) h0;have NX:2^ls.length<=2^4:=Nat.pow_le_pow_right (by omega) ib;have fa:=hI.fl;have uS:=hI.ol;have hF:F.length<=10000000:=by omega
  have lp:=Wd hF F.length 0 O (by omega) (by omega);rw[jv]at lp
  have Wi:∀u∈F,a<=u.1/\u.1<u.2/\u.2<=b/\∀t,u.1<=t->t<u.2->Wv (fY es t (du zs cs ls t)) (du zs cs ls t) ls.length ls.length=none:=λu hu=>by
   have hm:=bK.mem hI.st u hu;have:=hI.fb (u.2-1) ⟨u,hu,by omega,by omega⟩;exact⟨by omega,hm.2,by omega,λt t1 t2=>(hI.fr t (by omega) (by omega)).1 ⟨u,hu,t1,t2⟩⟩
  have ar:∀x∈O++F.map (λu=>((u.1,(u.2, -1)):ej)),a<=x.1/\x.1<x.2.1/\x.2.1<=b/\∀t,x.1<=t->t<x.2.1->fi es t (du zs cs ls t) ls.length=x.2.2:=λx hx=>by
   rcases jn.1 hx with hx|hx
   .obtain⟨h1,h2,h3,h4⟩:=hI.seg x hx;exact⟨h1,h2,h3,λt t1 t2=>by rw[Wc,h4 t t1 t2];rfl⟩
   .obtain⟨u,hu,rfl⟩:=ju.1 hx;obtain⟨h1,h2,h3,h4⟩:=Wi u hu;exact⟨h1,h2,h3,λt t1 t2=>by rw[Wc,h4 t t1 t2];rfl⟩
  have hpr:∀x∈O++F.map (λu=>((u.1,(u.2, -1)):ej)), -1<=x.2.2/\x.2.2<=100:=λx hx=>by
   obtain⟨h1,h2,h3,h4⟩:=ar x hx;have:=h4 x.1 (kg _) h2;have um:=hs.so.p1;rw[<-this];simp only[fi];cases hT:eZ (fY es x.1 (du zs cs ls x.1)) ls.length with
   |none=>dsimp only;omega
   |some i=>
    dsimp only
    have hi:∀(g:Nat->Bool)(n i:Nat),eZ g n=some i->i<n:=by
     intro g n;induction n with
     |zero=>intro i h;simp[eZ]at h
     |succ n ih=>
      intro i h;simp only[eZ]at h;cases hg:g n with
      |true=>rw[hg,j5]at h;simp at h;omega
      |false=>rw[hg,j6]at h;have:=ih i h;omega
    have bF:=hi _ _ _ hT;have e:du zs cs ls x.1 i=cR zs cs ls[i] x.1:=by simp[du,List.getD,bF]
    rw[e];have:=(jzk hs (hL _ (jh bF)) (t:=x.1) (by omega) (by omega)).2;omega
  have mm:(O++F.map (λu=>((u.1,(u.2, -1)):ej))).Pairwise apart:=by
   refine qh.2 ⟨hI.ap,?_,λx hx y hy=>?_⟩
   .rw[List.pairwise_map]
    have:∀(l:SL)(q:Int),bK q l->l.Pairwise (λu v=>u.2<=v.1):=by
     intro l;induction l with
     |nil=>intro q _;exact List.Pairwise.nil
     |cons s r ih=>intro q h;exact js.2 ⟨λv hv=>by have:=bK.mem h.2.2 v hv;omega,ih _ h.2.2⟩
    exact(this F _ hI.st).imp (λh=> .inl h)
   .obtain⟨u,hu,rfl⟩:=ju.1 hy;obtain⟨h1,h2,h3,h4⟩:=hI.seg x hx;obtain⟨g1,g2,g3,g4⟩:=Wi u hu;apply jr;intro hn;simp only[apart,not_or]at hn
    have hc:∃t,x.1<=t/\t<x.2.1/\u.1<=t/\t<u.2:=by
     by_cases G8:x.1<=u.1
     .exact⟨u.1,by omega,by omega,by omega,by omega⟩
     .exact⟨x.1,by omega,by omega,by omega,by omega⟩
    obtain⟨t,t1,t2,t3,t4⟩:=hc;have hw:=h4 t t1 t2;rw[g4 t t3 t4]at hw;simp at hw
  have NY:∀t,(a<=t/\t<b)↔∃s∈O++F.map (λu=>((u.1,(u.2, -1)):ej)),s.1<=t/\t<s.2.1:=λt=>by
   constructor
   .rintro⟨t1,t2⟩
    by_cases hn:Wv (fY es t (du zs cs ls t)) (du zs cs ls t) ls.length ls.length=none
    .obtain⟨u,hu,u1,u2⟩:=(hI.fr t t1 t2).2 hn;exact⟨(u.1,(u.2, -1)),kv _ (ju.2 ⟨u,hu,rfl⟩),u1,u2⟩
    .obtain⟨x,hx,h⟩:=hI.cov t t1 t2 hn;exact⟨x,kj _ hx,h⟩
   .rintro⟨x,hx,x1,x2⟩
    obtain⟨h1,h2,h3,_⟩:=ar x hx;omega
  have hZl:(O++F.map (λu=>((u.1,(u.2, -1)):ej))).length<=40000000:=by rw[ja,kb];omega
  generalize hZ:O++F.map (λu=>((u.1,(u.2, -1)):ej))=Z at *
  obtain⟨Y,e2,hp,NZ⟩:=jtQ (l:=Z) (by omega) (λx hx=>by have:=ar x hx;have:=hpr x hx;omega)
  have kX:Ch (λt=>fi es t (du zs cs ls t) ls.length) b a Y:=by
   refine VE bR ?_ (λs h=>⟨(ar s (hp.mem_iff.1 h)).2.1,(ar s (hp.mem_iff.1 h)).2.2.2⟩) (λt=>?_)
   .have hY:Y.Pairwise apart:=(hp.pairwise_iff (λ{x y} h=>Or.symm h)).2 mm;refine List.Pairwise.imp_of_mem (λ{x y} hx hy h=>?_) (hY.and NZ);have h1:=ar x (hp.mem_iff.1 hx);have h2:=ar y (hp.mem_iff.1 hy);rcases h.1 with h3|h3
    .exact h3
    .have:=h.2;omega
   .rw[NY t];constructor
    .rintro⟨x,hx,h⟩;exact⟨x,hp.mem_iff.2 hx,h⟩
    .rintro⟨x,hx,h⟩;exact⟨x,hp.mem_iff.1 hx,h⟩
  have hYl:=hp.length_eq;obtain⟨out,e3,h3,l3⟩:=NK (l:=Y) (by omega) kX;refine⟨out,?_,h3,by omega⟩;simp only[j3C,j3];rw[show yf (Int.ofNat ls.length) ls zs ps cs ss (zs.map tb) nm ls es a b [(a,b)] []=_ from e1];simp only[j3,show Int.ofNat F.length=(F.length:Int) from rfl];rw[show yg (F.length:Int) 0 F O=_ from lp];simp only[j3];rw[e2];simp only[j3,e3]
end
def nt(l:aS):List Int:=l.tail.map (·.1)
theorem Hd{f:Int->Int}{b:Int}:∀{l:aS}{q:Option Int}{a:Int},di f b q a l->(∀x,x∈nt l↔a<x/\x<b/\f (x-1)≠f x)/\(nt l).Nodup/\l.length<=(nt l).length+1
 |[],q,a,h=>⟨λx=>⟨λhx=>by simp[nt]at hx,λhx=>by have h:a=b:=h;omega⟩,zi,by simp⟩
 |[s],q,a,h=>by
  obtain⟨h1,h2,h3,h4,h5⟩:=h;have h5:s.2.1=b:=h5;exact⟨λx=>⟨λhx=>by simp[nt]at hx,λ⟨x1,x2,x3⟩=>absurd ((h4 (x-1) (by omega) (by omega)).trans (h4 x (by omega) (by omega)).symm) x3⟩,zi,by simp[nt]⟩
 |s::u::r,q,a,h=>by
  obtain⟨h1,h2,h3,h4,h5⟩:=h;obtain⟨i1,i2,i3⟩:=Hd h5;have hu:=h5.1;have hle:=h5.2.2.2.2.ch.le;have Py:=h5.2.1;have e:nt (s::u::r)=u.1::nt (u::r):=rfl;refine⟨λx=>?_,?_,by rw[e];simp only[jk]at i3 ⊢;omega⟩
  .rw[e,je,i1 x];constructor
   .rintro (rfl|⟨x1,x2,x3⟩)
    .refine⟨by omega,by omega,?_⟩;rw[h4 (u.1-1) (by omega) (by omega),h5.2.2.2.1 u.1 (by omega) (by omega)]
     exactλhe=>h5.2.2.1 (by rw[he])
    .exact⟨by omega,x2,x3⟩
   .rintro⟨x1,x2,x3⟩
    by_cases hx:x<s.2.1
    .exact absurd ((h4 (x-1) (by omega) (by omega)).trans (h4 x (by omega) (by omega)).symm) x3
    .by_cases om:x=s.2.1
     .left;omega
     .right;exact⟨by omega,x2,x3⟩
  .rw[e];refine qp.2 ⟨λhm=>?_,i2⟩;have:=(i1 u.1).1 hm;omega
theorem Wj{f:Int->Int}{a b:Int}{l:aS}{q:Option Int}(h:di f b q a l){E:List Int}(hE:∀x,a<x->x<b->f (x-1)≠f x->x∈E):l.length<=E.length+1:=by
 obtain⟨h1,h2,h3⟩:=Hd h
 have:=h2.length_le_of_subset (l₂:=E) (λx hx=>by
  have:=(h1 x).1 hx;exact hE x this.1 this.2.1 this.2.2)
 omega
def ou(es:List eU):List Int:=es.flatMap λx=>[x.2.2.2.1,x.2.2.2.2]
theorem He:∀es:List eU,(ou es).length=2*es.length
 |[]=>rfl
 |x::es=>by
  have:=He es;simp only[ou,qx,ja,jk,kq]at this ⊢;omega
theorem N0{es:List eU}{x:eU}(hx:x∈es):x.2.2.2.1∈ou es/\x.2.2.2.2∈ou es:=
 ⟨zk.2 ⟨x,hx,by simp⟩,zk.2 ⟨x,hx,by simp⟩⟩
theorem Wk{es:List eU}{t:Int}(ht:t∉ou es)(p:Int):mI es p (t-1)=mI es p t:=by
 unfold mI;rw[Bool.eq_iff_iff,zj,zj]
 have key:∀x∈es,(x.1==0&&(x.2.1==p&&(decide (x.2.2.2.1<=t-1)&&decide (t-1<x.2.2.2.2))))=(x.1==0&&(x.2.1==p&&(decide (x.2.2.2.1<=t)&&decide (t<x.2.2.2.2)))):=λx hx=>by
  obtain⟨m1,m2⟩:=N0 hx;have n1:t≠x.2.2.2.1:=λe=>ht (e▸m1);have n2:t≠x.2.2.2.2:=λe=>ht (e▸m2)
  have e1:decide (x.2.2.2.1<=t-1)=decide (x.2.2.2.1<=t):=by
   by_cases h:x.2.2.2.1<=t
   .rw[aj h,aj (by omega)]
   .rw[al h,al (by omega)]
  have e2:decide (t-1<x.2.2.2.2)=decide (t<x.2.2.2.2):=by
   by_cases h:t<x.2.2.2.2
   .rw[aj h,aj (by omega)]
   .rw[al h,al (by omega)]
  rw[e1,e2]
 exact⟨λ⟨x,hx,h⟩=>⟨x,hx,by rw[<-key x hx];exact h⟩,λ⟨x,hx,h⟩=>⟨x,hx,by rw[key x hx];exact h⟩⟩
theorem Wl{es:List eU}{t u:Int}{pf pg:Nat->Int}{n:Nat}(hp:∀i,i<n->pf i=pg i)(ha:∀p,mI es p t=mI es p u):fi es t pf n=fi es u pg n:=by
 have hg:∀m,m<=n->eZ (fY es t pf) m=eZ (fY es u pg) m:=by
  intro m;induction m with
  |zero=>intro _;rfl
  |succ m ih=>
   intro hm;have e:fY es t pf m=fY es u pg m:=by simp only[fY,hp m (by omega),ha]
   simp only[eZ,e,ih (by omega)]
 have hi:∀(g:Nat->Bool)(n i:Nat),eZ g n=some i->i<n:=by
  intro g n;induction n with
  |zero=>intro i h;simp[eZ]at h
  |succ n ih=>
   intro i h;simp only[eZ]at h;cases hg:g n with
   |true=>rw[hg,j5]at h;simp at h;omega
   |false=>rw[hg,j6]at h;have:=ih i h;omega
 simp only[fi,hg n (jg _)];cases hT:eZ (fY es u pg) n with
 |none=>rfl
 |some i=>exact hp i (hi _ _ _ hT)
def ED(t p:Int)(x:eU):Int:=
 if t<x.2.2.2.1\/x.2.2.2.2<=t then p else if x.1=1 then x.2.1 else if x.1=2/\p=x.2.1 then x.2.2.1 else if x.1=2/\p=x.2.2.1 then x.2.1 else p
def lW(t:Int):Int->List eU->Int
 |p,[]=>p
 |p,x::r=>lW t (ED t p x) r
theorem Wm{es:List eU}(hl:es.length<=100){t:Int}:∀(n i:Nat)(p:Int),i+n=es.length->yh p t es (es.length:Int) (i:Int)=some (lW t p (es.drop i))
 |0,i,p,hi=>by
  rw[SJ];simp only[j6W];rw[al (by omega),j6,aW,jf (by omega)];rfl
 |n+1,i,p,hi=>by
  have bF:i<es.length:=by omega
  have bh:es.getD i ((0:Int),((0:Int),((0:Int),((0:Int),(0:Int)))))=es[i]:=by simp[List.getD,bF]
  have ih:=λp=>Wm hl (t:=t) n (i+1) p (by omega);rw[SJ];simp only[j6W,jhT,j3];rw[aj (by omega),aX (by omega) (by omega),ai (x:=(i:Int)+1) (by omega) (by omega),jc bF];simp only[j5,j7,bh,lW];generalize es[i]=x;unfold ED;by_cases ha:t<x.2.2.2.1\/x.2.2.2.2<=t
  .rw[if_pos ha]
   have:cond (decide (x.2.2.2.1<=t)) (decide (t<x.2.2.2.2)) false=false:=by
    rcases ha with ha|ha
    .rw[al (show¬x.2.2.2.1<=t by omega)];rfl
    .rw[al (show¬t<x.2.2.2.2 by omega)];cases decide (x.2.2.2.1<=t)<;>rfl
   rw[this];simp only[k7,j5,aJ];exact ih p
  .rw[if_neg ha,aj (show x.2.2.2.1<=t by omega),aj (show t<x.2.2.2.2 by omega)];simp only[j5,jq,j6];by_cases h0:x.1=0
   .rw[ee h0,if_neg (by omega),if_neg (by omega),if_neg (by omega),j5,aJ];exact ih p
   rw[cP h0,j6];by_cases h1:x.1=1
   .rw[if_pos h1,ee h1,j5,aJ];exact ih _
   .rw[if_neg h1,cP h1,j6];by_cases h2:x.1=2
    .rw[show (x.1 != 2)=false by simp[h2],j6];by_cases h3:p=x.2.1
     .rw[if_pos ⟨h2,h3⟩,ee h3,j5,aJ];exact ih _
     .rw[if_neg (λh=>h3 h.2),cP h3,j6];by_cases h4:p=x.2.2.1
      .rw[if_pos ⟨h2,h4⟩,ee h4,j5,aJ];exact ih _
      .rw[if_neg (λh=>h4 h.2),cP h4,j6,aJ];exact ih _
    .rw[if_neg (λh=>h2 h.1),if_neg (λh=>h2 h.1),show (x.1 != 2)=true by simp[h2],j5,aJ];exact ih _
section
variable{zs:List bY}{ps:List dB}{cs:List bf}(hs:eX zs ps cs)
include hs
noncomputable def dU(zs:List bY)(cs:List bf)(s:cA)(t:Int):Int:=lW t (fi s.2.2 t (du zs cs s.2.1 t) s.2.1.length) s.2.2
omit hs in
theorem N1{i:Int}(h0:0<=i)(h1:i<(zs.length:Int)){c:kS}:j3r (c,zs.map tb) i=some (tb (aK zs i)):=by
 simp only[j3r,kb];rw[aX h0 h1,j5,G5 h0 h1];rfl
end
end Go.Proofs.Pw
