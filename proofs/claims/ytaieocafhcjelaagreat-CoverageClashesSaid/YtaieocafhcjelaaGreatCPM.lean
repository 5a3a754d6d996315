/- stack.SegmentsOf: its yT form. -/
import Derived.Test.YtaieocafhcjelaaGreatCPL
import Derived.Test.YtaieocafhcjelaaGreatCPH
import Derived.Test.YtaieocafhcjelaaGreatCPC
import Derived.Test.YtaieocafhcjelaaGreatCPA
import Derived.Test.YtaieocafhcjelaaGreatCLD
open Go Go.Lft
namespace Go.Proofs.Pw
def Gi(gd:Nat->Bool)(len:Nat):Nat->Option Nat
 |0=>none
 |m+1=>match Gi gd len m with
  |some i=>some i
  |none=>cond (gd (len-m-1)) (some (len-m-1)) none
theorem Xy(gd:Nat->Bool)(len:Nat):∀m,m<=len->dW gd len=match Gi gd len m with
  |some i=>some i
  |none=>dW gd (len-m)
 |0,_=>rfl
 |m+1,h=>by
  rw[Xy gd len m (by omega)];simp only[Gi];cases Gi gd len m with
  |some i=>rfl
  |none=>
   dsimp only
   rw[show len-m=(len-m-1)+1 by omega,dW,show len-(m+1)=len-m-1 by omega,show len-m-1+1-1=len-m-1 by omega];cases gd (len-m-1)<;>rfl
def Wv(gd:Nat->Bool)(pf:Nat->Int)(len m:Nat):Option Int:=(Gi gd len m).map pf
theorem OJ(gd:Nat->Bool)(pf:Nat->Int)(len m:Nat):Wv gd pf len (m+1)=match Wv gd pf len m with
  |some p=>some p
  |none=>cond (gd (len-m-1)) (some (pf (len-m-1))) none:=by
 simp only[Wv,Gi];cases Gi gd len m with
 |some i=>rfl
 |none=>cases gd (len-m-1)<;>rfl
theorem Xz(es:List dE)(t:Int)(pf:Nat->Int)(len:Nat):dX es t pf len=(Wv (fL es t pf) pf len len).getD (-1):=by
 simp only[dX,Wv,Xy (fL es t pf) len len (jl _)];cases Gi (fL es t pf) len len with
 |some i=>rfl
 |none=>simp only[Nat.sub_self,dW];rfl
theorem jCL:Go.Sort.SWO (Go.Proofs.ltOf λ(x y:Go.Lft.Sml (.pair (.int .i64) (.pair (.int .i64) (.int .i64))))=>(j4d x.1 y.1).getD 0):=by
 refine FT (λx=>x.1.1) (λx=>?_) _ λx y=>rfl;have:=x.2;simp only[gE,jb,jq]at this;exact this.1
theorem jx1{l:bQ}(hl:l.length<=1000000000)(hb:∀x∈l, -1000000000000<=x.1/\x.1<=1000000000000 /\ -1000000000000<=x.2.1/\x.2.1<=1000000000000 /\ -1000000000000<=x.2.2/\x.2.2<=1000000000000) :
  ∃L,j0P l=some L/\L.Perm l/\L.Pairwise (λx y=>x.1<=y.1):=by
 obtain⟨L,e,hp,hs⟩:=R7 (a:= .pair (.int .i64) (.pair (.int .i64) (.int .i64))) (cf:=λx y=>(j4d x y).getD 0) jCL (xs:=l) (λx hx=>by
  have:=hb x hx;simp only[gE,jb,jq];refine⟨⟨?_,?_⟩,⟨?_,?_⟩,⟨?_,?_⟩⟩
  .exact qy (by decide) this.1
  .exact qy this.2.1 (by decide)
  .exact qy (by decide) this.2.2.1
  .exact qy this.2.2.2.1 (by decide)
  .exact qy (by decide) this.2.2.2.2.1
  .exact qy this.2.2.2.2.2 (by decide)) (by show List.length l<_;omega)
 refine⟨L,e,hp,?_⟩;refine List.Pairwise.imp_of_mem (λ{x y} hx hy h=>?_) hs;have h1:=hb x (hp.mem_iff.1 hx);have h2:=hb y (hp.mem_iff.1 hy);have h':¬w64 (y.1-x.1)<0:=h;rw[aj (x:=y.1-x.1) (by omega) (by omega)]at h';omega
theorem XA{F:SL}(hF:F.length<=10000000):∀(n i:Nat)(acc:bQ),i+n=F.length->acc.length+n<=1000000000->xD (F.length:Int) (i:Int) F acc=some (acc++(F.drop i).map λu=>(u.1,(u.2, -1)))
 |0,i,acc,hi,_=>by
  rw[Tf];simp only[j3s];rw[ah (by omega),j6,aU,jf (by omega)];simp
 |n+1,i,acc,hi,ha=>by
  have bd:i<F.length:=by omega
  have bj:F.getD i ((0:Int),(0:Int))=F[i]:=by simp[List.getD,bd]
  rw[Tf];simp only[j3s];rw[ag (by omega),aR (by omega) (by omega),aj (x:=(i:Int)+1) (by omega) (by omega)];simp only[j5,j7,bj];rw[ag (by simp[aY];omega),j5,aJ,jc bd,ku];have:=XA hF n (i+1) (acc++[(F[i].1,(F[i].2, -1))]) (by omega) (by simp;omega);rw[jd]at this;exact this
def apart(x y:jN):Prop:=x.2.1<=y.1\/y.2.1<=x.1
section
variable{zs:List bU}{ps:List dH}{cs:List bt}(hs:fK zs ps cs)
 {nm:ByteArray}{ls:List bP}{es:List dE}(hL:∀L∈ls,eD zs.length ps.length cs.length L)(gF:ls.length<=4)(hE:∀x∈es,nS ps.length x)(gh:es.length<=9)
 {ss:List cS}{a b:Int}(ha:0<=a)(cj:a<=b)(hb:b<=8589934592)(hlen:b-a<=35078400)
include hs hL gF hE gh ha cj hb hlen
structure Eo(zs:List bU)(cs:List bt)(ls:List bP)(es:List dE)(a b:Int)(m:Nat)(F:SL)(O:bQ):Prop where
 st:ct (a-1) F
 fb:∀t,bN t F->t<b
 fr:∀t,a<=t->t<b->(bN t F↔Wv (fL es t (cU zs cs ls t)) (cU zs cs ls t) ls.length m=none)
 seg:∀x∈O,a<=x.1/\x.1<x.2.1/\x.2.1<=b/\∀t,x.1<=t->t<x.2.1->Wv (fL es t (cU zs cs ls t)) (cU zs cs ls t) ls.length m=some x.2.2
 ap:O.Pairwise apart
 cov:∀t,a<=t->t<b->Wv (fL es t (cU zs cs ls t)) (cU zs cs ls t) ls.length m≠none->lP t O
 fl:F.length+300000<=2^m*300001
 ol:O.length<=m*4000000
theorem jCM{k m:Nat}(hk:k+m+1=ls.length){F:SL}{O:bQ}(hI:Eo zs cs ls es a b m F O) :
  ∃S Q W F',j1E ((zs,(ps,(cs,ss))),zs.map tb) (ls.getD k (ByteArray.empty,((0:Int),(((0:Int),(0:Int)),((0:Int),((0:Int),(([]:List Int),(([]:List (Int×Int)),((0:Int),(0:Int)))))))))) a b=some S/\
   j5X (nm,(ls,es)) S=some Q/\j86 Q F=some W/\O.length+W.length<=aY/\(∃P,j87 W=some P/\j2O F P=some F')/\Eo zs cs ls es a b (m+1) F' (O++W):=by
 have br:k<ls.length:=by omega
 have hLk:=hL _ (je br);have bj:ls.getD k (ByteArray.empty,((0:Int),(((0:Int),(0:Int)),((0:Int),((0:Int),(([]:List Int),(([]:List (Int×Int)),((0:Int),(0:Int)))))))))=ls[k]:=by simp[List.getD,br]
 have Hc:∀t,cU zs cs ls t k=cw zs cs ls[k] t:=λt=>by simp only[cU,bj]
 obtain⟨S,e1,c1,l1⟩:=WZ hs hLk (ss:=ss) ha cj hb hlen;have bV:=c1.pos;have e2:=jx0 (nm:=nm) (ls:=ls) hE (by omega) (S:=S) (by omega) bV;obtain⟨p1,p2,p3⟩:=Xv (nm:=nm) (ls:=ls) hE (by omega) c1.ch bV;have pl:=Xt (nm:=nm) (ls:=ls) hE (by omega) (S:=S) bV;have pl2:S.length*(1+es.length)<=30000*10:=zv l1 (by omega);generalize S.flatMap (lv (nm,(ls,es)))=Q at *;have hm4:m<=3:=by omega
 have OL:2^m<=2^3:=Nat.pow_le_pow_right (by omega) hm4;have eV:=hI.fl;have wM:=hI.ol;have hF:F.length<=10000000:=by omega
 have lp:=OI (A:=Q) (B:=F) (by omega) hF (Q.length+F.length) 0 0 [] (by omega) (by omega) (by omega) (by simp;omega);rw[jo,kc,kc]at lp;obtain⟨w1,_,w3,w4,w5⟩:=OH (Q.length+F.length) Q F a (a-1) (jl _) p1 hI.st;generalize iR (Q.length+F.length) Q F=W at *
 have nZ:∀x∈W,a<=x.1/\x.1<x.2.1/\x.2.1<=b/\∀t,x.1<=t->t<x.2.1->bN t F/\cw zs cs ls[k] t=x.2.2/\0<=x.2.2/\ix es x.2.2 t=false:=λx hx=>by
  have bq:∀(l:bQ)(q:Int),gf q l->∀y∈l,y.1<y.2.1:=by
   intro l;induction l with
   |nil=>intro q _ y hy;simp at hy
   |cons s r ih=>intro q h y hy;rcases jg.1 hy with rfl|hy;exact h.2.1;exact ih _ h.2.2 y hy
  have h0:=bq W a w1 x hx;have h1:=(w1.apart).2 x hx;obtain⟨s,dx,r1,r2,r3,r4⟩:=w3 x hx;obtain⟨g1,g2⟩:=p2 s dx;refine⟨h1,h0,by omega,λt t1 t2=>?_⟩;obtain⟨g3,g4,g5⟩:=g2 t (by omega) (by omega);rw[r3];exact⟨r4 t t1 t2,g3,g4,g5⟩
 have XB:∀x∈W,∀t,x.1<=t->t<x.2.1->Wv (fL es t (cU zs cs ls t)) (cU zs cs ls t) ls.length (m+1)=some x.2.2:=λx hx t t1 t2=>by
  obtain⟨h1,h2,h3,h4⟩:=nZ x hx;obtain⟨g1,g2,g3,g4⟩:=h4 t t1 t2;have hn:=(hI.fr t (by omega) (by omega)).1 g1;rw[OJ,hn,show ls.length-m-1=k by omega];have:fL es t (cU zs cs ls t) k=true:=by simp only[fL,Hc,g2,g4];simp[g3]
  simp only[this,j5,Hc,g2]
 have hold:∀t p,Wv (fL es t (cU zs cs ls t)) (cU zs cs ls t) ls.length m=some p->Wv (fL es t (cU zs cs ls t)) (cU zs cs ls t) ls.length (m+1)=some p:=λt p h=>by rw[OJ,h]
 obtain⟨P,e4,q1,q2,q3⟩:=jAN (l:=W) (by omega) (lo:=a) (hi:=b) ha hb (λx hx=>⟨(nZ x hx).1,(nZ x hx).2.1,(nZ x hx).2.2.1⟩);obtain⟨F',e5,f1,f2,f3⟩:=jmp (B:=P) (by omega) hI.st q1 hF;refine⟨S,Q,W,F',by rw[bj];exact e1,e2,?_,by simp[aY];omega,⟨P,e4,e5⟩,?_⟩
 .simp only[j86,show sT Q F 0 0 []=_ from lp];rfl
 .have cD:∀t,a<=t->t<b->bN t F->lP t W\/Wv (fL es t (cU zs cs ls t)) (cU zs cs ls t) ls.length (m+1)=none:=λt t1 t2 hf=>by
   have hn:=(hI.fr t t1 t2).1 hf;by_cases hg:fL es t (cU zs cs ls t) k=true
   .left;refine w4 t (p3 t t1 t2 ?_ ?_) hf
    .simp only[fL,Hc,jb,jq]at hg;exact hg.1
    .simp only[fL,Hc,jb,q7]at hg;exact hg.2
   .right;rw[OJ,hn,show ls.length-m-1=k by omega,qf.2 hg];rfl
  refine⟨f1,λt h=>hI.fb t ((f2 t).1 h).1,λt t1 t2=>?_,λx hx=>?_,?_,λt t1 t2 bq=>?_,?_,?_⟩
  .rw[f2 t,q2 t];constructor
   .rintro⟨h1,h2⟩
    rcases cD t t1 t2 h1 with h|h
    .exact absurd h h2
    .exact h
   .intro h
    have hn:Wv (fL es t (cU zs cs ls t)) (cU zs cs ls t) ls.length m=none:=by
     cases hw:Wv (fL es t (cU zs cs ls t)) (cU zs cs ls t) ls.length m with
     |none=>rfl
     |some p=>rw[hold t p hw]at h;simp at h
    refine⟨(hI.fr t t1 t2).2 hn,?_⟩
    rintro⟨x,hx,x1,x2⟩
    rw[XB x hx t x1 x2]at h;simp at h
  .rcases jn.1 hx with hx|hx
   .obtain⟨h1,h2,h3,h4⟩:=hI.seg x hx;exact⟨h1,h2,h3,λt t1 t2=>hold t _ (h4 t t1 t2)⟩
   .obtain⟨h1,h2,h3,_⟩:=nZ x hx;exact⟨h1,h2,h3,XB x hx⟩
  .refine qz.2 ⟨hI.ap,(w1.apart).1.imp (λh=> .inl h),λx hx y hy=>?_⟩;obtain⟨h1,h2,h3,h4⟩:=hI.seg x hx;obtain⟨g1,g2,g3,g4⟩:=nZ y hy;apply jr;intro hn;simp only[apart,not_or]at hn
   have hc:∃t,x.1<=t/\t<x.2.1/\y.1<=t/\t<y.2.1:=by
    by_cases G7:x.1<=y.1
    .exact⟨y.1,by omega,by omega,by omega,by omega⟩
    .exact⟨x.1,by omega,by omega,by omega,by omega⟩
   obtain⟨t,t1,t2,t3,t4⟩:=hc;have hw:=h4 t t1 t2;have:=(hI.fr t (by omega) (by omega)).1 (g4 t t3 t4).1;rw[hw]at this;simp at this
  .by_cases hf:bN t F
   .rcases cD t t1 t2 hf with⟨x,hx,h⟩|h
    .exact⟨x,kj _ hx,h⟩
    .exact absurd h bq
   .have hw:Wv (fL es t (cU zs cs ls t)) (cU zs cs ls t) ls.length m≠none:=λh=>hf ((hI.fr t t1 t2).2 h);obtain⟨x,hx,h⟩:=hI.cov t t1 t2 hw;exact⟨x,k5 _ hx,h⟩
  .rw[Nat.pow_succ];omega
  .rw[ja,Nat.add_mul];omega
theorem XC:∀(n m:Nat)(F:SL)(O:bQ),n+m=ls.length->Eo zs cs ls es a b m F O->
  ∃F' O',xC (n:Int) ls zs ps cs ss (zs.map tb) nm ls es a b F O=some (F',O')/\Eo zs cs ls es a b ls.length F' O'
 |0,m,F,O,hn,hI=>by
  rw[Te];simp only[j1n];rw[ag (by omega),j5,aU];obtain rfl:m=ls.length:=by omega
  exact⟨F,O,rfl,hI⟩
 |k+1,m,F,O,hn,hI=>by
  obtain⟨S,Q,W,F',e1,e2,e3,e4,⟨P,e5,e6⟩,rv⟩:=jCM hs hL gF hE gh ha cj hb hlen (nm:=nm) (ss:=ss) (k:=k) (m:=m) (by omega) hI;rw[Te];simp only[j1n];rw[ah (by omega),ag (show ((k+1:Nat):Int)<=Int.ofNat ls.length by simp;omega),show ((k+1:Nat):Int)-1=(k:Int) by omega];simp only[j5,j6,j7];generalize ls.getD k (ByteArray.empty,((0:Int),(((0:Int),(0:Int)),((0:Int),((0:Int),(([]:List Int),(([]:List (Int×Int)),((0:Int),(0:Int)))))))))=L at *;rw[show j1E ((zs,(ps,(cs,ss))),zs.map tb) (L.1,(L.2.1,((L.2.2.1.1,L.2.2.1.2),(L.2.2.2.1,(L.2.2.2.2.1,(L.2.2.2.2.2.1,(L.2.2.2.2.2.2.1,(L.2.2.2.2.2.2.2.1,L.2.2.2.2.2.2.2.2)))))))) a b=_ from e1];simp only[j3,e2,e3];rw[ag e4];simp only[j5,j3,e5,e6,aJ];exact XC k (m+1) F' (O++W) (by omega) rv
theorem jAO:∃out,j3c ((zs,(ps,(cs,ss))),zs.map tb) (nm,(ls,es)) a b=some out/\eh (λt=>dX es t (cU zs cs ls t) ls.length) b none a out/\out.length<=40000000:=by
 simp only[j3c];by_cases nr:a>=b
 .rw[ag nr,j5];exact⟨[],rfl,show a=b by omega,by simp⟩
 .rw[ah nr,j6]
  have h0:Eo zs cs ls es a b 0 [(a,b)] []:=⟨⟨by dsimp only;omega,by dsimp only;omega,trivial⟩,λt h=>by
   rcases eU.1 h with h|h
   .exact h.2
   .exact absurd h gJ,λt t1 t2=>⟨λ_=>rfl,λ_=>eU.2 (.inl ⟨t1,t2⟩)⟩,by simp,List.Pairwise.nil,λt _ _ h=>absurd rfl h,by simp,by simp⟩
  obtain⟨F,O,e1,hI⟩:=XC hs hL gF hE gh ha cj hb hlen (nm:=nm) (ss:=ss) ls.length 0 [(a,b)] [] (by omega) h0;have OL:2^ls.length<=2^4:=Nat.pow_le_pow_right (by omega) gF;have eV:=hI.fl;have wM:=hI.ol;have hF:F.length<=10000000:=by omega
  have lp:=XA hF F.length 0 O (by omega) (by omega);rw[kc]at lp
  have XE:∀u∈F,a<=u.1/\u.1<u.2/\u.2<=b/\∀t,u.1<=t->t<u.2->Wv (fL es t (cU zs cs ls t)) (cU zs cs ls t) ls.length ls.length=none:=λu hu=>by
   have hm:=ct.mem hI.st u hu;have:=hI.fb (u.2-1) ⟨u,hu,by omega,by omega⟩;exact⟨by omega,hm.2,by omega,λt t1 t2=>(hI.fr t (by omega) (by omega)).1 ⟨u,hu,t1,t2⟩⟩
  have aB:∀x∈O++F.map (λu=>((u.1,(u.2, -1)):jN)),a<=x.1/\x.1<x.2.1/\x.2.1<=b/\∀t,x.1<=t->t<x.2.1->dX es t (cU zs cs ls t) ls.length=x.2.2:=λx hx=>by
   rcases jn.1 hx with hx|hx
   .obtain⟨h1,h2,h3,h4⟩:=hI.seg x hx;exact⟨h1,h2,h3,λt t1 t2=>by rw[Xz,h4 t t1 t2];rfl⟩
   .obtain⟨u,hu,rfl⟩:=ka.1 hx;obtain⟨h1,h2,h3,h4⟩:=XE u hu;exact⟨h1,h2,h3,λt t1 t2=>by rw[Xz,h4 t t1 t2];rfl⟩
  have hpr:∀x∈O++F.map (λu=>((u.1,(u.2, -1)):jN)), -1<=x.2.2/\x.2.2<=100:=λx hx=>by
   obtain⟨h1,h2,h3,h4⟩:=aB x hx;have:=h4 x.1 (ki _) h2;have tG:=hs.so.p1;rw[<-this];simp only[dX];cases hT:dW (fL es x.1 (cU zs cs ls x.1)) ls.length with
   |none=>dsimp only;omega
   |some i=>
    dsimp only
    have hi:∀(g:Nat->Bool)(n i:Nat),dW g n=some i->i<n:=by
     intro g n;induction n with
     |zero=>intro i h;simp[dW]at h
     |succ n ih=>
      intro i h;simp only[dW]at h;cases hg:g n with
      |true=>rw[hg,j5]at h;simp at h;omega
      |false=>rw[hg,j6]at h;have:=ih i h;omega
    have bd:=hi _ _ _ hT;have e:cU zs cs ls x.1 i=cw zs cs ls[i] x.1:=by simp[cU,List.getD,bd]
    rw[e];have:=(jCC hs (hL _ (je bd)) (t:=x.1) (by omega) (by omega)).2;omega
  have mb:(O++F.map (λu=>((u.1,(u.2, -1)):jN))).Pairwise apart:=by
   refine qz.2 ⟨hI.ap,?_,λx hx y hy=>?_⟩
   .rw[List.pairwise_map]
    have:∀(l:SL)(q:Int),ct q l->l.Pairwise (λu v=>u.2<=v.1):=by
     intro l;induction l with
     |nil=>intro q _;exact List.Pairwise.nil
     |cons s r ih=>intro q h;exact kq.2 ⟨λv hv=>by have:=ct.mem h.2.2 v hv;omega,ih _ h.2.2⟩
    exact(this F _ hI.st).imp (λh=> .inl h)
   .obtain⟨u,hu,rfl⟩:=ka.1 hy;obtain⟨h1,h2,h3,h4⟩:=hI.seg x hx;obtain⟨g1,g2,g3,g4⟩:=XE u hu;apply jr;intro hn;simp only[apart,not_or]at hn
    have hc:∃t,x.1<=t/\t<x.2.1/\u.1<=t/\t<u.2:=by
     by_cases G7:x.1<=u.1
     .exact⟨u.1,by omega,by omega,by omega,by omega⟩
     .exact⟨x.1,by omega,by omega,by omega,by omega⟩
    obtain⟨t,t1,t2,t3,t4⟩:=hc;have hw:=h4 t t1 t2;rw[g4 t t3 t4]at hw;simp at hw
  have OM:∀t,(a<=t/\t<b)↔∃s∈O++F.map (λu=>((u.1,(u.2, -1)):jN)),s.1<=t/\t<s.2.1:=λt=>by
   constructor
   .rintro⟨t1,t2⟩
    by_cases hn:Wv (fL es t (cU zs cs ls t)) (cU zs cs ls t) ls.length ls.length=none
    .obtain⟨u,hu,u1,u2⟩:=(hI.fr t t1 t2).2 hn;exact⟨(u.1,(u.2, -1)),kj _ (ka.2 ⟨u,hu,rfl⟩),u1,u2⟩
    .obtain⟨x,hx,h⟩:=hI.cov t t1 t2 hn;exact⟨x,k5 _ hx,h⟩
   .rintro⟨x,hx,x1,x2⟩
    obtain⟨h1,h2,h3,_⟩:=aB x hx;omega
  have hZl:(O++F.map (λu=>((u.1,(u.2, -1)):jN))).length<=40000000:=by rw[ja,qb];omega
  generalize hZ:O++F.map (λu=>((u.1,(u.2, -1)):jN))=Z at *
  obtain⟨Y,e2,hp,ON⟩:=jx1 (l:=Z) (by omega) (λx hx=>by have:=aB x hx;have:=hpr x hx;omega)
  have lu:Ch (λt=>dX es t (cU zs cs ls t) ls.length) b a Y:=by
   refine WA cj ?_ (λs h=>⟨(aB s (hp.mem_iff.1 h)).2.1,(aB s (hp.mem_iff.1 h)).2.2.2⟩) (λt=>?_)
   .have hY:Y.Pairwise apart:=(hp.pairwise_iff (λ{x y} h=>Or.symm h)).2 mb;refine List.Pairwise.imp_of_mem (λ{x y} hx hy h=>?_) (hY.and ON);have h1:=aB x (hp.mem_iff.1 hx);have h2:=aB y (hp.mem_iff.1 hy);rcases h.1 with h3|h3
    .exact h3
    .have:=h.2;omega
   .rw[OM t];constructor
    .rintro⟨x,hx,h⟩;exact⟨x,hp.mem_iff.2 hx,h⟩
    .rintro⟨x,hx,h⟩;exact⟨x,hp.mem_iff.1 hx,h⟩
  have hYl:=hp.length_eq;obtain⟨out,e3,h3,l3⟩:=Oo (l:=Y) (by omega) lu;refine⟨out,?_,h3,by omega⟩;simp only[j3i,j3];rw[show xC (Int.ofNat ls.length) ls zs ps cs ss (zs.map tb) nm ls es a b [(a,b)] []=_ from e1];simp only[j3,show Int.ofNat F.length=(F.length:Int) from rfl];rw[show xD (F.length:Int) 0 F O=_ from lp];simp only[j3];rw[e2];simp only[j3,e3]
end
def mX(l:bQ):List Int:=l.tail.map (·.1)
theorem Hd{f:Int->Int}{b:Int}:∀{l:bQ}{q:Option Int}{a:Int},eh f b q a l->(∀x,x∈mX l↔a<x/\x<b/\f (x-1)≠f x)/\(mX l).Nodup/\l.length<=(mX l).length+1
 |[],q,a,h=>⟨λx=>⟨λhx=>by simp[mX]at hx,λhx=>by have h:a=b:=h;omega⟩,zw,by simp⟩
 |[s],q,a,h=>by
  obtain⟨h1,h2,h3,h4,h5⟩:=h;have h5:s.2.1=b:=h5;exact⟨λx=>⟨λhx=>by simp[mX]at hx,λ⟨x1,x2,x3⟩=>absurd ((h4 (x-1) (by omega) (by omega)).trans (h4 x (by omega) (by omega)).symm) x3⟩,zw,by simp[mX]⟩
 |s::u::r,q,a,h=>by
  obtain⟨h1,h2,h3,h4,h5⟩:=h;obtain⟨i1,i2,i3⟩:=Hd h5;have hu:=h5.1;have hle:=h5.2.2.2.2.ch.le;have PX:=h5.2.1;have e:mX (s::u::r)=u.1::mX (u::r):=rfl;refine⟨λx=>?_,?_,by rw[e];simp only[jm]at i3 ⊢;omega⟩
  .rw[e,jg,i1 x];constructor
   .rintro (rfl|⟨x1,x2,x3⟩)
    .refine⟨by omega,by omega,?_⟩;rw[h4 (u.1-1) (by omega) (by omega),h5.2.2.2.1 u.1 (by omega) (by omega)]
     exactλhe=>h5.2.2.1 (by rw[he])
    .exact⟨by omega,x2,x3⟩
   .rintro⟨x1,x2,x3⟩
    by_cases hx:x<s.2.1
    .exact absurd ((h4 (x-1) (by omega) (by omega)).trans (h4 x (by omega) (by omega)).symm) x3
    .by_cases nW:x=s.2.1
     .left;omega
     .right;exact⟨by omega,x2,x3⟩
  .rw[e];refine qs.2 ⟨λhm=>?_,i2⟩;have:=(i1 u.1).1 hm;omega
theorem XF{f:Int->Int}{a b:Int}{l:bQ}{q:Option Int}(h:eh f b q a l){E:List Int}(hE:∀x,a<x->x<b->f (x-1)≠f x->x∈E):l.length<=E.length+1:=by
 obtain⟨h1,h2,h3⟩:=Hd h
 have:=h2.length_le_of_subset (l₂:=E) (λx hx=>by
  have:=(h1 x).1 hx;exact hE x this.1 this.2.1 this.2.2)
 omega
def n4(es:List dE):List Int:=es.flatMap λx=>[x.2.2.2.1,x.2.2.2.2]
theorem He:∀es:List dE,(n4 es).length=2*es.length
 |[]=>rfl
 |x::es=>by
  have:=He es;simp only[n4,z6,ja,jm,qc]at this ⊢;omega
theorem OO{es:List dE}{x:dE}(hx:x∈es):x.2.2.2.1∈n4 es/\x.2.2.2.2∈n4 es:=
 ⟨v6.2 ⟨x,hx,by simp⟩,v6.2 ⟨x,hx,by simp⟩⟩
theorem XG{es:List dE}{t:Int}(ht:t∉n4 es)(p:Int):ix es p (t-1)=ix es p t:=by
 unfold ix;rw[Bool.eq_iff_iff,qw,qw]
 have key:∀x∈es,(x.1==0&&(x.2.1==p&&(decide (x.2.2.2.1<=t-1)&&decide (t-1<x.2.2.2.2))))=(x.1==0&&(x.2.1==p&&(decide (x.2.2.2.1<=t)&&decide (t<x.2.2.2.2)))):=λx hx=>by
  obtain⟨m1,m2⟩:=OO hx;have n1:t≠x.2.2.2.1:=λe=>ht (e▸m1);have n2:t≠x.2.2.2.2:=λe=>ht (e▸m2)
  have e1:decide (x.2.2.2.1<=t-1)=decide (x.2.2.2.1<=t):=by
   by_cases h:x.2.2.2.1<=t
   .rw[ag h,ag (by omega)]
   .rw[ah h,ah (by omega)]
  have e2:decide (t-1<x.2.2.2.2)=decide (t<x.2.2.2.2):=by
   by_cases h:t<x.2.2.2.2
   .rw[ag h,ag (by omega)]
   .rw[ah h,ah (by omega)]
  rw[e1,e2]
 exact⟨λ⟨x,hx,h⟩=>⟨x,hx,by rw[<-key x hx];exact h⟩,λ⟨x,hx,h⟩=>⟨x,hx,by rw[key x hx];exact h⟩⟩
theorem XH{es:List dE}{t u:Int}{pf pg:Nat->Int}{n:Nat}(hp:∀i,i<n->pf i=pg i)(ha:∀p,ix es p t=ix es p u):dX es t pf n=dX es u pg n:=by
 have hg:∀m,m<=n->dW (fL es t pf) m=dW (fL es u pg) m:=by
  intro m;induction m with
  |zero=>intro _;rfl
  |succ m ih=>
   intro hm;have e:fL es t pf m=fL es u pg m:=by simp only[fL,hp m (by omega),ha]
   simp only[dW,e,ih (by omega)]
 have hi:∀(g:Nat->Bool)(n i:Nat),dW g n=some i->i<n:=by
  intro g n;induction n with
  |zero=>intro i h;simp[dW]at h
  |succ n ih=>
   intro i h;simp only[dW]at h;cases hg:g n with
   |true=>rw[hg,j5]at h;simp at h;omega
   |false=>rw[hg,j6]at h;have:=ih i h;omega
 simp only[dX,hg n (jl _)];cases hT:dW (fL es u pg) n with
 |none=>rfl
 |some i=>exact hp i (hi _ _ _ hT)
def AA(t p:Int)(x:dE):Int:=
 if t<x.2.2.2.1\/x.2.2.2.2<=t then p else if x.1=1 then x.2.1 else if x.1=2/\p=x.2.1 then x.2.2.1 else if x.1=2/\p=x.2.2.1 then x.2.1 else p
def kD(t:Int):Int->List dE->Int
 |p,[]=>p
 |p,x::r=>kD t (AA t p x) r
theorem XI{es:List dE}(hl:es.length<=100){t:Int}:∀(n i:Nat)(p:Int),i+n=es.length->Dm es p t (i:Int)=some (kD t p (es.drop i))
 |0,i,p,hi=>by
  rw[T6];simp only[j7z,show Int.ofNat es.length=(es.length:Int) from rfl];rw[ah (by omega),j6,aU,jf (by omega)];rfl
 |n+1,i,p,hi=>by
  have bd:i<es.length:=by omega
  have bj:es.getD i ((0:Int),((0:Int),((0:Int),((0:Int),(0:Int)))))=es[i]:=by simp[List.getD,bd]
  have ih:=λp=>XI hl (t:=t) n (i+1) p (by omega);rw[T6];simp only[j7z,show Int.ofNat es.length=(es.length:Int) from rfl];rw[ag (by omega),aR (by omega) (by omega),aj (x:=(i:Int)+1) (by omega) (by omega),jc bd];simp only[j5,j7,bj,kD];generalize es[i]=x;unfold AA;by_cases ha:t<x.2.2.2.1\/x.2.2.2.2<=t
  .rw[if_pos ha]
   have:cond (decide (t<x.2.2.2.1)) true (decide (t>=x.2.2.2.2))=true:=by
    rcases ha with ha|ha
    .rw[ag ha];rfl
    .rw[ag (show t>=x.2.2.2.2 from ha)];cases decide (t<x.2.2.2.1)<;>rfl
   rw[this,j5,aJ];exact ih p
  .rw[if_neg ha,ah (show¬t<x.2.2.2.1 by omega),ah (show¬t>=x.2.2.2.2 by omega)];simp only[j6];by_cases h1:x.1=1
   .rw[if_pos h1,cP h1,j5,aJ];exact ih _
   .rw[if_neg h1,bW h1,j6];by_cases h2:x.1=2
    .rw[cP h2];simp only[j5];by_cases h3:p=x.2.1
     .rw[if_pos ⟨h2,h3⟩,cP h3,j5,aJ];exact ih _
     .rw[if_neg (λh=>h3 h.2),bW h3,j6];by_cases h4:p=x.2.2.1
      .rw[if_pos ⟨h2,h4⟩,cP h4,j5,aJ];exact ih _
      .rw[if_neg (λh=>h4 h.2),bW h4,j6,aJ];exact ih _
    .rw[if_neg (λh=>h2 h.1),if_neg (λh=>h2 h.1),bW h2];simp only[j6,aJ];exact ih _
theorem XJ{es:List dE}(hl:es.length<=100){t:Int}:∀(n i:Nat)(p:Int),i+n=es.length->xE p t es (es.length:Int) (i:Int)=some (kD t p (es.drop i))
 |0,i,p,hi=>by
  rw[Tg];simp only[j6K];rw[ah (by omega),j6,aU,jf (by omega)];rfl
 |n+1,i,p,hi=>by
  have bd:i<es.length:=by omega
  have bj:es.getD i ((0:Int),((0:Int),((0:Int),((0:Int),(0:Int)))))=es[i]:=by simp[List.getD,bd]
  have ih:=λp=>XJ hl (t:=t) n (i+1) p (by omega);rw[Tg];simp only[j6K,jjt,j3];rw[ag (by omega),aR (by omega) (by omega),aj (x:=(i:Int)+1) (by omega) (by omega),jc bd];simp only[j5,j7,bj,kD];generalize es[i]=x;unfold AA;by_cases ha:t<x.2.2.2.1\/x.2.2.2.2<=t
  .rw[if_pos ha]
   have:cond (decide (x.2.2.2.1<=t)) (decide (t<x.2.2.2.2)) false=false:=by
    rcases ha with ha|ha
    .rw[ah (show¬x.2.2.2.1<=t by omega)];rfl
    .rw[ah (show¬t<x.2.2.2.2 by omega)];cases decide (x.2.2.2.1<=t)<;>rfl
   rw[this];simp only[jt,j5,aJ];exact ih p
  .rw[if_neg ha,ag (show x.2.2.2.1<=t by omega),ag (show t<x.2.2.2.2 by omega)];simp only[j5,ji,j6];by_cases h0:x.1=0
   .rw[cP h0,if_neg (by omega),if_neg (by omega),if_neg (by omega),j5,aJ];exact ih p
   rw[bW h0,j6];by_cases h1:x.1=1
   .rw[if_pos h1,cP h1,j5,aJ];exact ih _
   .rw[if_neg h1,bW h1,j6];by_cases h2:x.1=2
    .rw[show (x.1 != 2)=false by simp[h2],j6];by_cases h3:p=x.2.1
     .rw[if_pos ⟨h2,h3⟩,cP h3,j5,aJ];exact ih _
     .rw[if_neg (λh=>h3 h.2),bW h3,j6];by_cases h4:p=x.2.2.1
      .rw[if_pos ⟨h2,h4⟩,cP h4,j5,aJ];exact ih _
      .rw[if_neg (λh=>h4 h.2),bW h4,j6,aJ];exact ih _
    .rw[if_neg (λh=>h2 h.1),if_neg (λh=>h2 h.1),show (x.1 != 2)=true by simp[h2],j5,aJ];exact ih _
theorem XK{nm:ByteArray}{ls:List bP}{es:List dE}{p t:Int}(hl:es.length<=1000):∀(n i:Nat),i+n=es.length->Dk p t (i:Int) nm ls es=some (cond (ix (es.drop i) p t) (.inl true) (.inr ()))
 |0,i,hi=>by
  rw[T4];simp only[j7y,show Int.ofNat es.length=(es.length:Int) from rfl];rw[ah (by omega),j6,aU,jf (by omega)];rfl
 |n+1,i,hi=>by
  have aA:i<es.length:=by omega
  have bj:es.getD i ((0:Int),((0:Int),((0:Int),((0:Int),(0:Int)))))=es[i]:=by simp[List.getD,aA]
  have ih:=XK (nm:=nm) (ls:=ls) (p:=p) (t:=t) hl n (i+1) (by omega);rw[T4];simp only[j7y,show Int.ofNat es.length=(es.length:Int) from rfl];rw[ag (by omega),aR (by omega) (by omega),aj (x:=(i:Int)+1) (by omega) (by omega),jc aA];simp only[j5,j7,bj];have ha:ix (es[i]::es.drop (i+1)) p t=((es[i].1==0&&(es[i].2.1==p&&(decide (es[i].2.2.2.1<=t)&&decide (t<es[i].2.2.2.2))))||ix (es.drop (i+1)) p t):=rfl;have e:(cond (cond (cond (es[i].1==(0:Int)) (es[i].2.1==p) false) (decide (es[i].2.2.2.1<=t)) false) (decide (t<es[i].2.2.2.2)) false)=(es[i].1==0&&(es[i].2.1==p&&(decide (es[i].2.2.2.1<=t)&&decide (t<es[i].2.2.2.2)))):=by cases es[i].1==(0:Int)<;>cases es[i].2.1==p<;>cases decide (es[i].2.2.2.1<=t)<;>rfl
  rw[e,ha];cases (es[i].1==0&&(es[i].2.1==p&&(decide (es[i].2.2.2.1<=t)&&decide (t<es[i].2.2.2.2)))) with
  |true=>rfl
  |false=>rw[j6,aJ,vc];exact ih
theorem jx3{nm:ByteArray}{ls:List bP}{es:List dE}{p t:Int}(hl:es.length<=1000):jnh (nm,(ls,es)) p t=some (ix es p t):=by
 have:=XK (nm:=nm) (ls:=ls) (p:=p) (t:=t) hl es.length 0 (by omega);simp only[jnh,show Dk p t 0 nm ls es=_ from this,j3,kc];cases ix es p t<;>rfl
section
variable{zs:List bU}{ps:List dH}{cs:List bt}(hs:fK zs ps cs)
include hs
theorem XL{ss:List cS}{nm:ByteArray}{ls:List bP}{es:List dE}(gh:es.length<=1000)(gF:ls.length<=1000)(hL:∀L∈ls,eD zs.length ps.length cs.length L){t:Int}(h0:0<=t)(h1:t<=8589934592):∀n:Nat,n<=ls.length->
  Dl t ((n:Int)-1) zs ps cs ss nm ls es=some (match dW (fL es t (cU zs cs ls t)) n with|some i=> .inl ((i:Int),cU zs cs ls t i)|none=> .inr ())
 |0,hn=>by
  rw[T5];simp only[j8g];rw[ah (by omega),j6,aU];rfl
 |n+1,hn=>by
  have aA:n<ls.length:=by omega
  have bj:ls.getD n (ByteArray.empty,((0:Int),(((0:Int),(0:Int)),((0:Int),((0:Int),(([]:List Int),(([]:List (Int×Int)),((0:Int),(0:Int)))))))))=ls[n]:=by simp[List.getD,aA]
  have ih:=XL (ss:=ss) (nm:=nm) gh gF hL h0 h1 n (by omega);have hp:=jAM hs (hL _ (je aA)) (ss:=ss) h0 h1;have e:cU zs cs ls t n=cw zs cs ls[n] t:=by simp[cU,List.getD,aA]
  rw[show ((n+1:Nat):Int)-1=(n:Int) by omega,T5];simp only[j8g];rw[ag (show (n:Int)>=0 by omega),aR (by omega) (by omega),aj (x:=(n:Int)-1) (by omega) (by omega)];simp only[j5,j7,bj];rw[show jo8 (zs,(ps,(cs,ss))) (ls[n].1,(ls[n].2.1,((ls[n].2.2.1.1,ls[n].2.2.1.2),(ls[n].2.2.2.1,(ls[n].2.2.2.2.1,(ls[n].2.2.2.2.2.1,(ls[n].2.2.2.2.2.2.1,(ls[n].2.2.2.2.2.2.2.1,ls[n].2.2.2.2.2.2.2.2)))))))) t=_ from hp];simp only[j3,dW,fL,e];by_cases pC:0<=cw zs cs ls[n] t
  .rw[ag (show cw zs cs ls[n] t>=0 from pC)];simp only[j5,jx3 gh,j3,Bool.true_and];cases ix es (cw zs cs ls[n] t) t with
   |true=>simp only[ji,j6,aJ];exact ih
   |false=>simp only[jt,j5,e];exact aU ..
  .rw[ah (show¬cw zs cs ls[n] t>=0 from pC)];simp only[j6,Bool.false_and,aJ];exact ih
noncomputable def cC(zs:List bU)(cs:List bt)(s:cS)(t:Int):Int:=kD t (dX s.2.2 t (cU zs cs s.2.1 t) s.2.1.length) s.2.2
theorem Hf{ss:List cS}(hc:uU (zs,(ps,(cs,ss)))){i:Nat}(hi:i<ss.length){t:Int}(h0:0<=t)(h1:t<=8589934592):jdB (zs,(ps,(cs,ss))) (i:Int) t=some (cC zs cs ss[i] t):=by
 have oO:=hc.sc _ (je hi);have gF:=oO.ll;have gh:=oO.el;have sy:ss.getD i (ByteArray.empty,(([]:List bP),([]:List dE)))=ss[i]:=by simp[List.getD,hi]
 have e8:=jEV hc (jEW hs);have lp:=XL hs (ss:=ss) (nm:=ss[i].1) (es:=ss[i].2.2) (by omega) (by omega) oO.ly h0 h1 ss[i].2.1.length (jl _)
 have et:∃k,jqM (zs,(ps,(cs,ss))) (i:Int) t=some (k,dX ss[i].2.2 t (cU zs cs ss[i].2.1 t) ss[i].2.1.length):=by
  simp only[jqM];rw[aR (by omega) (by omega)];simp only[j5,j7,sy,show Int.ofNat ss[i].2.1.length=(ss[i].2.1.length:Int) from rfl];rw[aj (x:=(ss[i].2.1.length:Int)-1) (by omega) (by omega),show Dl t ((ss[i].2.1.length:Int)-1) zs ps cs ss ss[i].1 ss[i].2.1 ss[i].2.2=_ from lp];simp only[j3,dX];cases dW (fL ss[i].2.2 t (cU zs cs ss[i].2.1 t)) ss[i].2.1.length with
  |none=>exact⟨_,rfl⟩
  |some k=>exact⟨_,rfl⟩
 obtain⟨k,et⟩:=et;have ef:=XI (es:=ss[i].2.2) (by omega) (t:=t) ss[i].2.2.length 0 (dX ss[i].2.2 t (cU zs cs ss[i].2.1 t) ss[i].2.1.length) (by omega);rw[kc]at ef;simp only[jdB,ju9,jyu,show Int.ofNat ss.length=(ss.length:Int) from rfl];rw[ag (show (i:Int)>=0 by omega),ag (show (i:Int)<(ss.length:Int) by omega),ag (show t>=0 from h0),ag h1];simp only[j5,e8,j3,qj,ji,j6,ju8,et];rw[aR (by omega) (by omega)];simp only[j5,j7,sy,jqN];rw[show Dm ss[i].2.2 (dX ss[i].2.2 t (cU zs cs ss[i].2.1 t) ss[i].2.1.length) t 0=_ from ef];rfl
end
end Go.Proofs.Pw
