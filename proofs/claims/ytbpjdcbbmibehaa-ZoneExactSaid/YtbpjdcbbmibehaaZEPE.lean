/- x8 FC; the uV s9 sort is the s9 sort by the key. -/
import Derived.Test.YtbpjdcbbmibehaaZEPD
open Go Go.Lft
namespace Go.Proofs.Pw
theorem cg.sub{l r:bE}(h:cg l)(hs:r.Sublist l):cg r:=List.Pairwise.sublist hs h
def Rk(rec:bE->Int->Int->Int->Option bE)(s:Nat)(C:Prop):Prop:=
 ∀P A B Q:bE,A≠[]->B≠[]->cg A->cg B->eL (P++(A++(B++Q)))->(P++(A++(B++Q))).length<=1000000000->A.length+B.length<s->
  ∀a m b:Int,a=P.length->m=((P.length+A.length:Nat):Int)->b=((P.length+A.length+B.length:Nat):Int)->
  rec (P++(A++(B++Q))) a m b=some (P++(dL aa A B++Q))\/(rec (P++(A++(B++Q))) a m b=none/\C)
theorem UM(A B:bE):(dL aa A B).Perm (A++B):=by
 have e:∀A B:bE,(dL aa A B).Perm (A++B):=by
  intro A;induction A with
  |nil=>intro B;exact List.Perm.refl _
  |cons a ra ih=>
   intro B;induction B with
   |nil=>rw[jM,jw]
   |cons b bs lI=>
    rw[iP];split
    .exact(lI.cons b).trans (List.perm_middle (l₁:=a::ra)).symm
    .exact(ih (b::bs)).cons a
 exact e A B
section
variable{rec:bE->Int->Int->Int->Option bE}{s:Nat}{C:Prop}(hR:Rk rec s C)
def x9(rec:bE->Int->Int->Int->Option bE)(D:bE)(a k mid e b:Int):Option bE:=
 cond (cond (decide (a<k)) (decide (k<mid)) false) (
 (rec D a k mid).bind λya=>
 cond (cond (decide (mid<e)) (decide (e<b)) false) (
 (rec ya mid e b).bind λgw=>
 some gw) (
 some ya)) (
 cond (cond (decide (mid<e)) (decide (e<b)) false) (
 (rec D mid e b).bind λtb=>
 some tb) (
 some D))
include hR
theorem UN(P A2 B2 Q:bE)(h3:cg A2)(h4:cg B2)(hS:eL (P++(A2++(B2++Q))))(hL:(P++(A2++(B2++Q))).length<=1000000000)(hs:A2.length+B2.length<s)
  {mid e b:Int}(mN:mid=P.length)(he:e=((P.length+A2.length:Nat):Int))(hb:b=((P.length+A2.length+B2.length:Nat):Int)) :
  (cond (cond (decide (mid<e)) (decide (e<b)) false) ((rec (P++(A2++(B2++Q))) mid e b).bind λgw=>some gw) (some (P++(A2++(B2++Q))))=some (P++(dL aa A2 B2++Q)))\/
  (cond (cond (decide (mid<e)) (decide (e<b)) false) ((rec (P++(A2++(B2++Q))) mid e b).bind λgw=>some gw) (some (P++(A2++(B2++Q))))=none/\C):=by
 match A2,B2 with
 |[],B2=>left;rw[ay (by simp at he;omega)];rfl
 |x::A2,[]=>left;rw[ay (show¬e<b by simp at he hb;omega)];cases decide (mid<e)<;>simp[jM]
 |x::A2,y::B2=>
  rw[aw (show mid<e by simp at he;omega),aw (show e<b by simp at he hb;omega)];simp only[j4];rcases hR P (x::A2) (y::B2) Q (by simp) (by simp) h3 h4 hS hL hs mid e b mN he hb with h|⟨h,hc⟩
  .left;rw[h];rfl
  .right;rw[h];exact⟨rfl,hc⟩
theorem UO(P A1 B1 A2 B2 Q:bE)(h1:cg A1)(h2:cg B1)(h3:cg A2)(h4:cg B2)(hS:eL (P++(A1++(B1++(A2++(B2++Q))))))(hL:(P++(A1++(B1++(A2++(B2++Q))))).length<=1000000000)
  (gC:A1.length+B1.length<s)(fY:A2.length+B2.length<s)
  {a k mid e b:Int}(ha:a=P.length)(hk:k=((P.length+A1.length:Nat):Int))(mN:mid=((P.length+A1.length+B1.length:Nat):Int))(he:e=((P.length+A1.length+B1.length+A2.length:Nat):Int))(hb:b=((P.length+A1.length+B1.length+A2.length+B2.length:Nat):Int)) :
  x9 rec (P++(A1++(B1++(A2++(B2++Q))))) a k mid e b=some (P++(dL aa A1 B1++(dL aa A2 B2++Q)))\/(x9 rec (P++(A1++(B1++(A2++(B2++Q))))) a k mid e b=none/\C):=by
 have hp:=UM A1 B1;have eA:=hp.length_eq;have oy:∀x,x∈dL aa A1 B1↔x∈A1++B1:=λx=>hp.mem_iff;simp only[ja]at eA hL
 have f2:=UN hR (P++dL aa A1 B1) A2 B2 Q h3 h4 (hS.of λx hx=>by
  simp only[jq,oy]at hx ⊢;rcases hx with (h|h|h)|h|h|h<;>simp[h]) (by simp only[ja,eA];omega) fY (mid:=mid) (e:=e) (b:=b) (by simp only[ja,eA];omega) (by simp only[ja,eA];omega) (by simp only[ja,eA];omega)
 simp only[jd]at f2;unfold x9;have key:∀D:bE,D=P++(dL aa A1 B1++(A2++(B2++Q)))->(cond (cond (decide (mid<e)) (decide (e<b)) false) ((rec D mid e b).bind λgw=>some gw) (some D)=some (P++(dL aa A1 B1++(dL aa A2 B2++Q))))\/(cond (cond (decide (mid<e)) (decide (e<b)) false) ((rec D mid e b).bind λgw=>some gw) (some D)=none/\C):=λD hD=>by rw[hD];exact f2
 match A1,B1 with
 |[],B1=>rw[ay (show¬a<k by simp at hk;omega)];exact key _ rfl
 |x::A1,[]=>
  rw[ay (show¬k<mid by simp at hk mN;omega)];cases decide (a<k)
  .exact key _ (by rw[jM,js])
  .exact key _ (by rw[jM,js])
 |x::A1,y::B1=>
  rw[aw (show a<k by simp at hk;omega),aw (show k<mid by simp at hk mN;omega)];simp only[j4];rcases hR P (x::A1) (y::B1) (A2++(B2++Q)) (by simp) (by simp) h1 h2 hS (by simp only[ja];omega) gC a k mid ha hk mN with h|⟨h,hc⟩
  .rw[h];simp only[j0];exact key _ rfl
  .right;rw[h];exact⟨rfl,hc⟩
theorem UP{P A B Q:bE}(hA:A≠[])(hB:B≠[])(sA:cg A)(sB:cg B)(hS:eL (P++(A++(B++Q))))(hL:(P++(A++(B++Q))).length<=1000000000)(hs:A.length+B.length<=s)
  {a m b:Int}(ha:a=P.length)(hm:m=((P.length+A.length:Nat):Int))(hb:b=((P.length+A.length+B.length:Nat):Int)) :
  nC rec (P++(A++(B++Q))) a m b=some (P++(dL aa A B++Q))\/(nC rec (P++(A++(B++Q))) a m b=none/\C):=by
 have hAl:=kc.2 hA;have hBl:=kc.2 hB;have im:(P++(A++(B++Q))).length=P.length+A.length+B.length+Q.length:=by simp;omega
 have gA:∀i,i<A.length->(P++(A++(B++Q))).getD (P.length+i) dC=A.getD i dC:=λi hi=>KT P A (B++Q) i hi
 have gB:∀i,i<B.length->(P++(A++(B++Q))).getD (P.length+A.length+i) dC=B.getD i dC:=λi hi=>by
  have:=KT (P++A) B Q i hi;simp only[jd,ja]at this;exact this
 have uW:∀t,P.length<=t->t<P.length+A.length->(P++(A++(B++Q))).getD t dC=A.getD (t-P.length) dC:=λt h1 h2=>by
  rw[<-gA _ (by omega),show P.length+(t-P.length)=t by omega]
 have uX:∀t,P.length+A.length<=t->t<P.length+A.length+B.length->(P++(A++(B++Q))).getD t dC=B.getD (t-(P.length+A.length)) dC:=λt h1 h2=>by
  rw[<-gB _ (by omega),show P.length+A.length+(t-(P.length+A.length))=t by omega]
 rw[im]at hL;simp only[nC];rw[ak (x:=m-a) (by omega) (by omega),ak (x:=b-m) (by omega) (by omega)];by_cases h1:A.length=1
 ·-- one element ahead
  left;rw[qZ (show m-a=1 by omega),j4];obtain⟨x,rfl⟩:∃x,A=[x]:=List.length_eq_one_iff.1 h1;simp only[List.length_singleton]at *
  obtain⟨k,k1,k2,e0,k3,k4⟩:=UH rec hS (by rw[im];omega) (a:=P.length) (m:=P.length+1) (b:=P.length+1+B.length) (by rw[im];omega) (by omega) (by rw[im];omega) (λs t s1 s2 s3=>by
   rw[uX s s1 (by omega),uX t (by omega) s3];exact rk sB (by omega) (by omega))
  subst ha hm hb;rw[e0];simp only[j0];have na:=gA 0 (by omega);rw[zh]at na;have AE:([x]:bE).getD 0 dC=x:=rfl;rw[na,AE]at k3 k4
  have UQ:∀y∈B.take (k-(P.length+1)),aa y<aa x:=λy hy=>by
   obtain⟨i,i1,i2,rfl⟩:=AR hy;have:=k3 (P.length+1+i) (by omega) (by omega);rw[gB i i2]at this;exact this
  have AU:∀y∈B.drop (k-(P.length+1)),¬aa y<aa x:=λy hy=>by
   obtain⟨i,i1,i2,rfl⟩:=AS hy;have:=k4 (P.length+1+i) (by omega) (by omega);rw[gB i i2]at this;exact this
  have ew:=Uz x _ _ UQ AU;have bW:=jy (k-(P.length+1)) B;have l2:=KY rec (e:=(k:Int)) x (B.take (k-(P.length+1))) P (B.drop (k-(P.length+1))++Q) (by simp;omega) (by simp;omega);rw[show P++x::(B.take (k-(P.length+1))++(B.drop (k-(P.length+1))++Q))=P++([x]++(B++Q)) by rw[<-jd (B.take _),bW];rfl]at l2;rw[l2];simp only[j0];rw[bW]at ew;rw[ew];simp
 .rw[jK (show¬m-a=1 by omega),j5];by_cases h2:B.length=1
  .left;rw[qZ (show b-m=1 by omega),j4];obtain⟨y,rfl⟩:∃x,B=[x]:=List.length_eq_one_iff.1 h2;simp only[List.length_singleton]at *
   obtain⟨k,k1,k2,e0,k3,k4⟩:=UI rec hS (by rw[im];omega) (a:=P.length) (m:=P.length+A.length) (by rw[im];omega) (by omega) (λs t s1 s2 s3=>by
    rw[uW s s1 (by omega),uW t (by omega) s3];exact rk sA (by omega) (by omega))
   subst ha hm hb;rw[e0];simp only[j0];have K1:=gB 0 (by omega);rw[zh]at K1;have UR:([y]:bE).getD 0 dC=y:=rfl;rw[K1,UR]at k3 k4
   have US:∀x∈A.take (k-P.length),¬aa y<aa x:=λx hx=>by
    obtain⟨i,i1,i2,rfl⟩:=AR hx;have:=k3 (P.length+i) (by omega) (by omega);rw[gA i i2]at this;exact this
   have nx:∀x∈A.drop (k-P.length),aa y<aa x:=λx hx=>by
    obtain⟨i,i1,i2,rfl⟩:=AS hx;have:=k4 (P.length+i) (by omega) (by omega);rw[gA i i2]at this;omega
   have ew:=UA y _ _ US nx;have bW:=jy (k-P.length) A;have l6:=KZ rec (i:=(k:Int)) y (A.drop (k-P.length)).reverse (P++A.take (k-P.length)) Q (by simp;omega) (by simp;omega);rw[qb,show (P++A.take (k-P.length))++(A.drop (k-P.length)++y::Q)=P++(A++([y]++Q)) by rw[jd,<-jd (A.take _),bW];rfl,show (((P++A.take (k-P.length)).length+(A.drop (k-P.length)).reverse.length:Nat):Int)=((P.length+A.length:Nat):Int) by simp;omega]at l6;rw[l6];simp only[j0];rw[bW]at ew;rw[ew];simp
  .rw[jK (show¬b-m=1 by omega),j5];obtain⟨M,hM⟩:∃M,M=(P.length+(P.length+A.length+B.length))/2:=⟨_,rfl⟩;have hh:=AQ (a:=P.length) (b:=P.length+A.length+B.length) (by omega);rw[<-hM]at hh;rw[ha,hb,hh];rw[ak (x:=(M:Int)+m) (by omega) (by omega)];rw[ak (x:=(M:Int)+m-1) (by omega) (by omega)];have K2:(M:Int)+m-1=((M+(P.length+A.length)-1:Nat):Int):=by omega
   have tail:∀k:Nat,P.length<=k->k<=P.length+A.length->M+(P.length+A.length)-k<=P.length+A.length+B.length->k<=M->
     (∀x∈A.drop (k-P.length),∀y∈B.take (M-k),aa y<aa x)->(∀x∈A.take (k-P.length),∀y∈B.drop (M-k),¬aa y<aa x)->
     ∀r:Option bE,r=cond (cond (decide ((k:Int)<m)) (decide (m<(M:Int)+m-(k:Int))) false) ((j0m (P++(A++(B++Q))) (k:Int) m ((M:Int)+m-(k:Int))).bind λd=>x9 rec d (P.length:Int) (k:Int) (M:Int) ((M:Int)+m-(k:Int)) b) (x9 rec (P++(A++(B++Q))) (P.length:Int) (k:Int) (M:Int) ((M:Int)+m-(k:Int)) b)->
     r=some (P++(dL aa A B++Q))\/(r=none/\C):=by
    intro k k1 k2 k3 k4 f1 f2 r hr;have K3:=jy (k-P.length) A;have K4:=jy (M-k) B;have lA1:(A.take (k-P.length)).length=k-P.length:=by simp;omega
    have lA2:(A.drop (k-P.length)).length=P.length+A.length-k:=by simp;omega
    have lB1:(B.take (M-k)).length=M-k:=by simp;omega
    have lB2:(B.drop (M-k)).length=B.length-(M-k):=by simp
    have UT:=sA.sub (List.take_sublist (k-P.length) A);have UU:=sA.sub (List.drop_sublist (k-P.length) A);have UW:=sB.sub (List.take_sublist (M-k) B);have UX:=sB.sub (List.drop_sublist (M-k) B);have qL:=oY (key:=aa) _ _ _ _ f1 f2;rw[K3,K4]at qL;generalize A.take (k-P.length)=A1 at *;generalize A.drop (k-P.length)=A2 at *;generalize B.take (M-k)=B1 at *
    generalize B.drop (M-k)=B2 at *
    subst K3 K4;simp only[ja]at *
    have fin:=UO hR P A1 B1 A2 B2 Q UT UW UU UX (hS.of λx hx=>by
     simp only[jq]at hx ⊢;rcases hx with h|h|h|h|h|h<;>simp[h]) (by simp only[ja];omega) (by omega) (by omega) (a:=(P.length:Int)) (k:=(k:Int)) (mid:=(M:Int)) (e:=(M:Int)+m-(k:Int)) (b:=b) rfl (by omega) (by omega) (by omega) (by omega)
    rw[<-jd (dL aa A1 B1),<-qL]at fin;rw[hr];by_cases tc:(k:Int)<m/\m<(M:Int)+m-(k:Int)
    .rw[aw tc.1,aw tc.2];simp only[j4];have ro:=UG (P++A1) A2 B1 (B2++Q) (λh=>by have:=congrArg List.length h;simp only[ku]at this;omega) (λh=>by have:=congrArg List.length h;simp only[ku]at this;omega) (by simp;omega) (a:=(k:Int)) (m:=m) (b:=(M:Int)+m-(k:Int)) (by simp;omega) (by simp;omega) (by simp;omega);simp only[jd]at ro ⊢;rw[ro];simp only[j0];exact fin
    .have hc:cond (decide ((k:Int)<m)) (decide (m<(M:Int)+m-(k:Int))) false=false:=by
      by_cases h:(k:Int)<m
      .rw[aw h,j4];exact ay (λh'=>tc ⟨h,h'⟩)
      .rw[ay h,j5]
     rw[hc,j5]
     have he:A2++(B1++(B2++Q))=B1++(A2++(B2++Q)):=by
      by_cases h:(k:Int)<m
      .have:B1=[]:=kq.1 (by omega);subst this;rfl
      .have:A2=[]:=kq.1 (by omega);subst this;rfl
     simp only[jd]at fin ⊢;rw[he];exact fin
   have mO:∀s t,P.length<=s->s<=t->t<P.length+A.length->M+(P.length+A.length)-1-s<P.length+A.length+B.length->P.length+A.length<=M+(P.length+A.length)-1-t->¬aa ((P++(A++(B++Q))).getD (M+(P.length+A.length)-1-t) dC)<aa ((P++(A++(B++Q))).getD t dC)->¬aa ((P++(A++(B++Q))).getD (M+(P.length+A.length)-1-s) dC)<aa ((P++(A++(B++Q))).getD s dC):=by intro s t s1 s2 s3 s4 s5 h;rw[uW s s1 (by omega)];rw[uW t (by omega) s3]at h;rw[uX _ (by omega) s4];rw[uX _ s5 (by omega)]at h;have q1:=rk sA (i:=s-P.length) (j:=t-P.length) (by omega) (by omega);have q2:=rk sB (i:=M+(P.length+A.length)-1-t-(P.length+A.length)) (j:=M+(P.length+A.length)-1-s-(P.length+A.length)) (by omega) (by omega);omega
   have facts:∀lo hi k:Nat,P.length<=lo->hi<=P.length+A.length->hi<=M->M+(P.length+A.length)-lo<=P.length+A.length+B.length->lo<=k->k<=hi->(hi=M\/hi=P.length+A.length)->(lo=P.length\/M+(P.length+A.length)-lo=P.length+A.length+B.length)->
     (∀t,lo<=t->t<k->¬aa ((P++(A++(B++Q))).getD (M+(P.length+A.length)-1-t) dC)<aa ((P++(A++(B++Q))).getD t dC))->(∀t,k<=t->t<hi->¬¬aa ((P++(A++(B++Q))).getD (M+(P.length+A.length)-1-t) dC)<aa ((P++(A++(B++Q))).getD t dC))->
     (∀x∈A.drop (k-P.length),∀y∈B.take (M-k),aa y<aa x)/\(∀x∈A.take (k-P.length),∀y∈B.drop (M-k),¬aa y<aa x):=by
    intro lo hi k g1 g2 g3 g4 g5 g6 g7 g8 p1 p2;constructor
    .intro x hx y hy;obtain⟨i,i1,i2,rfl⟩:=AS hx;obtain⟨j,j1,j2,rfl⟩:=AR hy;have UY:k<hi:=by omega
     have:=p2 k (jm _) UY;rw[uW k (by omega) (by omega),uX _ (by omega) (by omega)]at this;have q1:=rk sA (i:=k-P.length) (j:=i) (by omega) (by omega);have q2:=rk sB (i:=j) (j:=M+(P.length+A.length)-1-k-(P.length+A.length)) (by omega) (by omega);omega
    .intro x hx y hy;obtain⟨i,i1,i2,rfl⟩:=AR hx;obtain⟨j,j1,j2,rfl⟩:=AS hy;have lk:lo<k:=by omega
     have:=p1 (k-1) (by omega) (by omega);rw[uW (k-1) (by omega) (by omega),uX _ (by omega) (by omega)]at this;have q1:=rk sA (i:=i) (j:=k-1-P.length) (by omega) (by omega);have q2:=rk sB (i:=M+(P.length+A.length)-1-(k-1)-(P.length+A.length)) (j:=j) (by omega) (by omega);omega
   by_cases zu:m>(M:Int)
   .rw[aw zu,j4];rw[<-hb,ak (x:=(M:Int)+m-b) (by omega) (by omega)];obtain⟨k,k1,k2,e0,k3,k4⟩:=K0 rec hS (by rw[im];omega) (lo:=M+(P.length+A.length)-(P.length+A.length+B.length)) (hi:=M) (p:=M+(P.length+A.length)-1) (s1:=(P.length:Int)) (s2:=m) (s3:=b) (s18:=(M:Int)) (s19:=(M:Int)+m) (by omega) (by rw[im];omega) (λc c1 c2=>by rw[im];omega) (by omega) (λs t s1 s2 s3 h=>mO s t (by omega) s2 (by omega) (by omega) (by omega) h);obtain⟨f1,f2⟩:=facts (M+(P.length+A.length)-(P.length+A.length+B.length)) M k (by omega) (by omega) (by omega) (by omega) k1 k2 (.inl rfl) (.inr (by omega)) k3 k4;rw[K2,show (M:Int)+m-b=((M+(P.length+A.length)-(P.length+A.length+B.length):Nat):Int) by omega,e0];simp only[j0];rw[ak (x:=(M:Int)+m-(k:Int)) (by omega) (by omega)];exact tail k (by omega) (by omega) (by omega) (by omega) f1 f2 _ rfl
   .rw[ay zu,j5];obtain⟨k,k1,k2,e0,k3,k4⟩:=K0 rec hS (by rw[im];omega) (lo:=P.length) (hi:=P.length+A.length) (p:=M+(P.length+A.length)-1) (s1:=(P.length:Int)) (s2:=m) (s3:=b) (s18:=(M:Int)) (s19:=(M:Int)+m) (by omega) (by rw[im];omega) (λc c1 c2=>by rw[im];omega) (by omega) (λs t s1 s2 s3 h=>mO s t (by omega) s2 (by omega) (by omega) (by omega) h);obtain⟨f1,f2⟩:=facts P.length (P.length+A.length) k (by omega) (by omega) (by omega) (by omega) k1 k2 (.inr rfl) (.inl rfl) k3 k4;rw[K2];rw[show ((P.length+A.length:Nat):Int)=m from hm.symm]at e0;rw[<-hb,e0];simp only[j0];rw[ak (x:=(M:Int)+m-(k:Int)) (by omega) (by omega)];exact tail k (by omega) (by omega) (by omega) (by omega) f1 f2 _ rfl
end
theorem FD:∀(n s:Nat),Rk (λv0 v1 v2 v3=>ia j06 n (v0,v1,v2,v3)) (s+1) (n<=s)
 |0,s=>λP A B Q _ _ _ _ _ _ _ a m b _ _ _=> .inr ⟨rfl,kf _⟩
 |n+1,s=>λP A B Q hA hB sA sB hS hL hs a m b ha hm hb=>by
  by_cases h0:s=0
  .have:=kc.2 hA;have:=kc.2 hB;omega
  .have ih:=FD n (s-1);rw[show s-1+1=s by omega]at ih;rcases UP ih hA hB sA sB hS hL (by omega) ha hm hb with h|⟨h,hc⟩
   .exact .inl h
   .exact .inr ⟨h,by omega⟩
theorem K5{P A B Q:bE}(hA:A≠[])(hB:B≠[])(sA:cg A)(sB:cg B)(hS:eL (P++(A++(B++Q))))(hL:(P++(A++(B++Q))).length<=1000000000)
  {a m b:Int}(ha:a=P.length)(hm:m=((P.length+A.length:Nat):Int))(hb:b=((P.length+A.length+B.length:Nat):Int)) :
  j0w (P++(A++(B++Q))) a m b=some (P++(dL aa A B++Q)):=by
 refine Jh ⟨A.length+B.length+1,?_⟩ λn y hy=>?_
 .rcases FD (A.length+B.length+1) (A.length+B.length) P A B Q hA hB sA sB hS hL (by omega) a m b ha hm hb with h|⟨_,h⟩
  .exact h
  .omega
 .rcases FD n (A.length+B.length) P A B Q hA hB sA sB hS hL (by omega) a m b ha hm hb with h|⟨h,_⟩
  .have h:ia j06 n (P++(A++(B++Q)),a,m,b)=_:=h;rw[h]at hy;simpa using hy.symm
  .have h:ia j06 n (P++(A++(B++Q)),a,m,b)=none:=h;rw[h]at hy;simp at hy
theorem FE{x:kT}:∀{l:bE},(∀y∈l,¬aa x<aa y)->bj aa x l=l++[x]
 |[],_=>rfl
 |y::l,h=>by
  rw[bj,if_neg (h y (by simp)),FE (l:=l) (λz hz=>h z (by simp[hz]))];rfl
theorem FF{x y:kT}:∀{l:bE},aa x<aa y->bj aa x (l++[y])=bj aa x l++[y]
 |[],h=>by simp[bj,h]
 |z::l,h=>by
  rw[kj,bj,bj];split
  .rfl
  .rw[FF h];rfl
theorem K6{a n s8:Int}(x:kT)(P:bE)(ha:a=P.length):∀(rp mid:bE),cg rp.reverse->eL (P++(rp.reverse++x::mid))->(P++(rp.reverse++x::mid)).length<=1000000000->
  sS a n s8 ((P.length+rp.length:Nat):Int) (P++(rp.reverse++x::mid))=some (a,n,s8,P++(bj aa x rp.reverse++mid))
 |[],mid,_,_,_=>by
  rw[zX];simp only[j0f];rw[ay (by simp;omega),j5,bS];rfl
 |y::rp,mid,hs,hS,hL=>by
  have im:(P++((y::rp).reverse++x::mid)).length=P.length+rp.length+mid.length+2:=by simp;omega
  rw[im]at hL;have e1:P++((y::rp).reverse++x::mid)=(P++rp.reverse++[y])++x::mid:=by simp
  have e2:P++((y::rp).reverse++x::mid)=(P++rp.reverse)++y::(x::mid):=by simp
  have n1:(((P.length+(rp.length+1):Nat):Int)-1).toNat=(P++rp.reverse).length:=by simp;omega
  have n2:P.length+(rp.length+1)=(P++rp.reverse++[y]).length:=by simp
  have g1:(P++((y::rp).reverse++x::mid)).getD (((P.length+(rp.length+1):Nat):Int)-1).toNat dC=y:=by rw[e2,n1,ri]
  have g2:(P++((y::rp).reverse++x::mid)).getD (P.length+(rp.length+1)) dC=x:=by rw[e1,n2,ri]
  have s1:(P++((y::rp).reverse++x::mid)).set (P.length+(rp.length+1)) y=(P++rp.reverse)++y::(y::mid):=by rw[e1,n2,rj];simp
  have s2:((P++rp.reverse)++y::(y::mid)).set (((P.length+(rp.length+1):Nat):Int)-1).toNat x=P++(rp.reverse++x::(y::mid)):=by rw[n1,rj];simp
  have hx:=hS x (by simp);have hy:=hS y (by simp);have c:=AP hx hy;unfold dC at g1 g2;rw[zX];simp only[j0f,jn];rw[aw (by omega),ak (x:=((P.length+(rp.length+1):Nat):Int)-1) (by omega) (by omega),bG (show (0:Int)<=((P.length+(rp.length+1):Nat):Int) by omega) (by rw[im];omega),bG (show (0:Int)<=((P.length+(rp.length+1):Nat):Int)-1 by omega) (by rw[im];omega)];simp only[j4,j6,g1,g2];rw[c];simp only[j0];have dE:cg (rp.reverse++[y]):=by simpa using hs
  by_cases ax:aa x<aa y
  .rw[aw (by omega)];simp only[j4];rw[show (P++((y::rp).reverse++x::mid)).set (P.length+(rp.length+1)) (y.1,y.2)=_ from s1];rw[bG (show (0:Int)<=((P.length+(rp.length+1):Nat):Int)-1 by omega) (by simp;omega),j4];rw[show ((P++rp.reverse)++y::(y::mid)).set (((P.length+(rp.length+1):Nat):Int)-1).toNat (x.1,x.2)=_ from s2,bR]
   have ih:=K6 (a:=a) (n:=n) (s8:=s8) x P ha rp (y::mid) (dE.sub (List.sublist_append_left _ _)) (hS.of λz hz=>by
    simp only[jq,List.mem_reverse,jf]at hz ⊢;rcases hz with h|h|h|h|h<;>simp[h]) (by simp;omega)
   rw[show ((P.length+(rp.length+1):Nat):Int)-1=((P.length+rp.length:Nat):Int) by omega,ih,List.reverse_cons,FF ax];simp
  .rw[ay (by omega)];simp only[j5,bS]
   rw[FE (l:=(y::rp).reverse) (λz hz=>by
    rw[List.reverse_cons]at hz;rcases jq.1 hz with h|h
    .have:=(List.pairwise_append.1 dE).2.2 z h y (by simp);omega
    .simp at h;subst h;exact ax)]
   simp
theorem K7{a:Int}(P:bE)(ha:a=P.length)(Q:bE):∀(xs acc:bE),cg acc->acc≠[]->eL (P++(acc++(xs++Q)))->(P++(acc++(xs++Q))).length<=1000000000->
  sT a ((P.length+acc.length+xs.length:Nat):Int) ((P.length+acc.length:Nat):Int) (P++(acc++(xs++Q)))=some (P++(xs.foldl (λacc x=>bj aa x acc) acc++Q))
 |[],acc,_,_,_,_=>by
  rw[uD];simp only[j02];rw[ay (by simp),j5,bS];rfl
 |x::xs,acc,hs,aG,hS,hL=>by
  have hp:=x6 (key:=aa) x acc;have eA:=hp.length_eq;simp only[ja,jn]at hL eA;have l2:=K6 (a:=a) (n:=((P.length+acc.length+(x::xs).length:Nat):Int)) (s8:=((P.length+acc.length:Nat):Int)) x P ha acc.reverse (xs++Q) (by rw[qb];exact hs) (by rw[qb];exact hS) (by rw[qb];simp;omega);rw[qb,List.length_reverse]at l2
  have UZ:cg (bj aa x acc):=(AO (key:=aa) (R:=λ_ _=>True) x acc (hs.imp λh=>by
   rcases Int.lt_or_eq_of_le h with h|h
   .exact .inl h
   .exact .inr ⟨h,trivial⟩) (λ_ _=>trivial)).imp (λh=>by omega)
  have ih:=K7 (a:=a) P ha Q xs (bj aa x acc) UZ (λh=>by rw[h]at eA;simp at eA) (hS.of λz hz=>by
   simp only[jq,jf,hp.mem_iff]at hz ⊢;rcases hz with h|(h|h)|h|h<;>simp[h]) (by simp only[ja,eA];omega)
  rw[uD];simp only[j02];rw[aw (by simp only[jn];omega),j4,show P++(acc++(x::xs++Q))=P++(acc++x::(xs++Q)) from rfl,l2];simp only[j0];rw[ak (x:=((P.length+acc.length:Nat):Int)+1) (by omega) (by omega),bR];rw[eA]at ih;rw[show ((P.length+acc.length:Nat):Int)+1=((P.length+(acc.length+1):Nat):Int) by omega,show ((P.length+acc.length+(x::xs).length:Nat):Int)=((P.length+(acc.length+1)+xs.length:Nat):Int) by simp;omega];exact ih
theorem FG(P xs Q:bE)(hS:eL (P++(xs++Q)))(hL:(P++(xs++Q)).length<=1000000000){a b:Int}(ha:a=P.length)(hb:b=((P.length+xs.length:Nat):Int)) :
  j05 (P++(xs++Q)) a b=some (P++(bq aa xs++Q)):=by
 simp only[ja]at hL;simp only[j05];rw[ak (x:=a+1) (by omega) (by omega)];match xs with
 |[]=>rw[uD];simp only[j02];rw[ay (by simp at hb;omega),j5,bS];rfl
 |x::xs=>have:=K7 (a:=a) P ha Q xs [x] (List.pairwise_singleton _ _) (by simp) hS (by simp only[ja,jn,ku]at hL ⊢;omega);rw[show b=((P.length+([x]:bE).length+xs.length:Nat):Int) by simp at hb ⊢;omega,show a+1=((P.length+([x]:bE).length:Nat):Int) by simp;omega];rw[show P++(x::xs++Q)=P++([x]++(xs++Q)) from rfl,this];rfl
theorem AV(l:bE):cg (bq aa l):=UC l
theorem U0:∀(n:Nat)(l D:bE),l.length<=n->eL (D++l)->(D++l).length<=100000000->
  ∃d d':bE,∃r:Nat,qT ((D++l).length:Int) 20 (D.length:Int) ((D.length+20:Nat):Int) (D++l)=some (((D++l).length:Int),20,(r:Int),D++d)/\
   j05 (D++d) (r:Int) ((D++l).length:Int)=some (D++d')/\gv aa 20 l d':=by
 intro n;induction n with
 |zero=>
  intro l D hn hS hL;have:l=[]:=kq.1 (by omega);subst this;simp only[jw]at *;refine⟨[],[],D.length,?_,?_,gv.last [] (by simp)⟩
  .rw[zY];simp only[j08];rw[ay (by omega),j5,bS,jw]
  .have:=FG D [] [] (by simpa using hS) (by simp;omega) (a:=(D.length:Int)) (b:=(D.length:Int)) rfl (by simp);simpa[bq]using this
 |succ n ih=>
  intro l D hn hS hL;simp only[ja]at hL;by_cases U3:l.length<20
  .refine⟨l,bq aa l,D.length,?_,?_,gv.last l U3⟩
   .rw[zY];simp only[j08];rw[ay (by simp;omega),j5,bS]
   .have:=FG D l [] (by simpa using hS) (by simp;omega) (a:=(D.length:Int)) (b:=((D++l).length:Int)) rfl (by simp);simpa using this
  .obtain⟨x,l',kB,hx⟩:∃x l',l=x++l'/\x.length=20:=⟨l.take 20,l.drop 20,(jy ..).symm,by simp;omega⟩;subst kB;simp only[ja]at *;have hi:=FG D x l' hS (by simp;omega) (a:=(D.length:Int)) (b:=((D.length+20:Nat):Int)) rfl (by omega);have hlen:=rh (key:=aa) x;have wG:=oZ (key:=aa) x
   obtain⟨d,d',r,e1,e2,hb⟩:=ih l' (D++bq aa x) (by omega) (hS.of λz hz=>by
    simp only[jq,wG.mem_iff]at hz ⊢;rcases hz with (h|h)|h<;>simp[h]) (by simp;omega)
   refine⟨bq aa x++d,bq aa x++d',r,?_,?_,gv.more x l' d' hx hb⟩
   .rw[zY];simp only[j08];rw[aw (by omega),j4,hi];simp only[j0];rw[ak (x:=((D.length+20:Nat):Int)+20) (by omega) (by omega),bR];simp only[jd,ja,hlen,hx]at e1 ⊢;rw[show ((D.length+20:Nat):Int)+20=((D.length+20+20:Nat):Int) by omega];rw[Nat.add_assoc D.length 20 l'.length]at e1;exact e1
   .simp only[jd,ja,hlen,hx]at e2 ⊢;rw[Nat.add_assoc D.length 20 l'.length]at e2;exact e2
theorem U4{bs:Nat}(sJ:0<bs)(U5:bs<=100000000):∀(n:Nat)(l d D:bE),l.length<=n->gv aa bs l d->eL (D++d)->(D++d).length<=100000000->
  ∃d1 d2:bE,∃r:Nat,sV ((D++d).length:Int) (bs:Int) (D.length:Int) ((D.length+2*bs:Nat):Int) (D++d)=some (((D++d).length:Int),(bs:Int),(r:Int),D++d1)/\
   gv aa (2*bs) l d2/\((r+bs<(D++d).length/\j0w (D++d1) (r:Int) ((r+bs:Nat):Int) ((D++d).length:Int)=some (D++d2))\/((D++d).length<=r+bs/\d1=d2))/\r<=(D++d).length:=by
 intro n;induction n with
 |zero=>intro l d D hn hB hS hL;have:l=[]:=kq.1 (by omega);subst this;have hd:=hB.len;have:d=[]:=kq.1 (by simpa using hd);subst this;simp only[jw]at *;refine⟨[],[],D.length,?_,gv.last [] (by simp;omega),.inr ⟨by omega,rfl⟩,jm _⟩;rw[Ec];simp only[j0b];rw[ay (by omega),j5,bS,jw]
 |succ n ih=>
  intro l d D hn hB hS hL;have jZ:=hB.len;simp only[ja]at hL;by_cases ax:l.length<2*bs
  ·-- what is left: one block and a part of one
   have mi:∀d1:bE,d1=d->sV ((D++d).length:Int) (bs:Int) (D.length:Int) ((D.length+2*bs:Nat):Int) (D++d)=some (((D++d).length:Int),(bs:Int),(D.length:Int),D++d1):=λd1 h1=>by
    subst h1;rw[Ec];simp only[j0b];rw[ay (by simp;omega),j5,bS]
   refine⟨d,bq aa l,D.length,mi d rfl,gv.last l ax,?_,by simp⟩;cases hB with
   |last _ h=>exact .inr ⟨by rw[ja,jZ];omega,rfl⟩
   |more x l' d' hx hb=>
    have jA:=rh (key:=aa) x;cases hb with
    |more y _ _ hy _=>simp only[ja]at ax;omega
    |last _ h=>
     have qA:=rh (key:=aa) l';by_cases h0:l'=[]
     .subst h0;have h0:bq aa ([]:bE)=[]:=rfl;rw[h0];refine .inr ⟨by rw[jw,ja,jA];omega,by rw[jw,jw]⟩
     .have hp:=kc.2 h0;left;refine⟨by simp[jA,qA];omega,?_⟩;have sm:=K5 (P:=D) (A:=bq aa x) (B:=bq aa l') (Q:=[]) (λh=>by rw[h]at jA;simp at jA;omega) (λh=>by rw[h]at qA;simp at qA;omega) (AV x) (AV l') (by simpa using hS) (by simp[jA,qA];simp[jA,qA]at hL;omega) (a:=(D.length:Int)) (m:=((D.length+bs:Nat):Int)) (b:=((D++(bq aa x++bq aa l')).length:Int)) rfl (by rw[jA,hx]) (by simp;omega);simp only[jw]at sm;rw[sm,KQ]
  .cases hB with
   |last _ h=>omega
   |more x l' d' hx hb=>
    have jA:=rh (key:=aa) x;cases hb with
    |last _ h=>simp only[ja]at ax;omega
    |more y l2 d2 hy cG=>
     have nY:=rh (key:=aa) y;simp only[ja]at *;have sm:=K5 (P:=D) (A:=bq aa x) (B:=bq aa y) (Q:=d2) (λh=>by rw[h]at jA;simp at jA;omega) (λh=>by rw[h]at nY;simp at nY;omega) (AV x) (AV y) hS (by simp;omega) (a:=(D.length:Int)) (m:=((D.length+bs:Nat):Int)) (b:=((D.length+2*bs:Nat):Int)) rfl (by omega) (by omega);rw[<-KQ]at sm;have iA:=rh (key:=aa) (x++y);have U6:=oZ (key:=aa) (x++y);have oG:=oZ (key:=aa) x;have oH:=oZ (key:=aa) y;simp only[ja]at iA
     obtain⟨d1,d3,r,e1,Dh,hr,AW⟩:=ih l2 d2 (D++bq aa (x++y)) (by omega) cG (hS.of λz hz=>by
      simp only[jq,U6.mem_iff,oG.mem_iff,oH.mem_iff]at hz ⊢;rcases hz with (h|h|h)|h<;>simp[h]) (by simp;omega)
     simp only[ja,iA,hx,hy,jd]at e1 hr AW;refine⟨bq aa (x++y)++d1,bq aa (x++y)++d3,r,?_,?_,?_,by rw[jA,nY,hx,hy];omega⟩
     .rw[Ec];simp only[j0b];rw[aw (by omega),ak (x:=(D.length:Int)+(bs:Int)) (by omega) (by omega),j4,show (D.length:Int)+(bs:Int)=((D.length+bs:Nat):Int) by omega,sm];simp only[j0];rw[ak (x:=2*(bs:Int)) (by omega) (by omega),ak (x:=((D.length+2*bs:Nat):Int)+2*(bs:Int)) (by omega) (by omega),bR];dsimp only;rw[jA,nY,hx,hy,show ((D.length+2*bs:Nat):Int)+2*(bs:Int)=((D.length+(bs+bs)+2*bs:Nat):Int) by omega,show ((D.length+2*bs:Nat):Int)=((D.length+(bs+bs):Nat):Int) by omega,show ((D.length+(bs+(bs+d2.length)):Nat):Int)=((D.length+(bs+bs)+d2.length:Nat):Int) by omega];exact e1
     .have:=gv.more (key:=aa) (n:=2*bs) (x++y) l2 d3 (by simp;omega) Dh;rwa[jd]at this
     .rw[jA,nY,hx,hy,show D.length+(bs+(bs+d2.length))=D.length+(bs+bs)+d2.length by omega];rcases hr with⟨h1,h2⟩|⟨h1,h2⟩
      .exact .inl ⟨h1,h2⟩
      .exact .inr ⟨h1,by rw[h2]⟩
theorem U7{l:bE}(hl:l.length<=100000000):∀(n bs:Nat)(d:bE),0<bs->bs<=200000000->l.length-bs<=n->gv aa bs l d->eL d->qU (l.length:Int) (bs:Int) d=some (bq aa l):=by
 intro n;induction n with
 |zero=>intro bs d h0 h1 hn hB hS;rw[Ed];simp only[j0c];rw[ay (by omega),j5,bS,hB.all (by omega)]
 |succ n ih=>
  intro bs d h0 h1 hn hB hS;have jZ:=hB.len;rw[Ed];simp only[j0c];by_cases ax:bs<l.length
  .obtain⟨d1,d2,r,e1,AU,hr,AW⟩:=U4 h0 (by omega) l.length l d [] (jm _) hB (by simpa using hS) (by simp;omega);simp only[js,ku,ju]at e1 hr AW;rw[aw (by omega),ak (x:=2*(bs:Int)) (by omega) (by omega)];simp only[j4];rw[jZ]at e1 hr AW;rw[show (2:Int)*(bs:Int)=((2*bs:Nat):Int) by omega,show (0:Int)=((0:Nat):Int) from rfl,e1];simp only[j0];rw[ak (x:=(r:Int)+(bs:Int)) (by omega) (by omega),ak (x:=(bs:Int)*2) (by omega) (by omega)]
   have GI:eL d2:=by
    have hp:∀{k:Nat}{a b:bE},gv aa k a b->b.Perm a:=by
     intro k a b h;induction h with
     |last l _=>exact oZ l
     |more x l d _ _ ih=>exact(oZ x).append ih
    exact(hS.perm (hp hB).symm).perm (hp AU)
   have K8:=ih (2*bs) d2 (by omega) (by omega) (by omega) AU GI;rcases hr with⟨g1,g2⟩|⟨g1,g2⟩
   .rw[aw (by omega),j4,show (r:Int)+(bs:Int)=((r+bs:Nat):Int) by omega,g2];simp only[j0,bR];rw[show (bs:Int)*2=((2*bs:Nat):Int) by omega];exact K8
   .rw[ay (by omega),j5,bR];subst g2;dsimp only;rw[show (bs:Int)*2=((2*bs:Nat):Int) by omega];exact K8
  .rw[ay (by omega),j5,bS,hB.all (by omega)]
theorem U8{l:bE}(hS:eL l)(hl:l.length<=100000000):j03 l=some (bq aa l):=by
 obtain⟨d,d',r,e1,e2,hB⟩:=U0 l.length l [] (jm _) (by simpa using hS) (by simpa using hl);simp only[js,ku,ju]at e1 e2
 have hp:∀{k:Nat}{a b:bE},gv aa k a b->b.Perm a:=by
  intro k a b h;induction h with
  |last l _=>exact oZ l
  |more x l d _ _ ih=>exact(oZ x).append ih
 have e3:=U7 hl l.length 20 d' (by omega) (by omega) (by omega) hB (hS.perm (hp hB));simp only[j03,j0A,show Int.ofNat l.length=(l.length:Int) from rfl];rw[show qT (l.length:Int) 20 0 20 l=_ from e1];simp only[j0,e2];rw[show qU (l.length:Int) 20 d'=_ from e3];rfl
end Go.Proofs.Pw
