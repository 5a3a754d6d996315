/- Es N4; the Bj yL sort is the yL sort by the key. -/
import Derived.Test.YtaieocafhcjelaaGreatDPM
open Go Go.Lft
namespace Go.Proofs.Pw
theorem dy.sub{l r:bL}(h:dy l)(hs:r.Sublist l):dy r:=List.Pairwise.sublist hs h
def Rk(rec:bL->Int->Int->Int->Option bL)(s:Nat)(C:Prop):Prop:=
 ∀P A B Q:bL,A≠[]->B≠[]->dy A->dy B->iw (P++(A++(B++Q)))->(P++(A++(B++Q))).length<=1000000000->A.length+B.length<s->
  ∀a m b:Int,a=P.length->m=((P.length+A.length:Nat):Int)->b=((P.length+A.length+B.length:Nat):Int)->
  rec (P++(A++(B++Q))) a m b=some (P++(fg ai A B++Q))\/(rec (P++(A++(B++Q))) a m b=none/\C)
theorem jxh(A B:bL):(fg ai A B).Perm (A++B):=by
 have e:∀A B:bL,(fg ai A B).Perm (A++B):=by
  intro A;induction A with
  |nil=>intro B;exact List.Perm.refl _
  |cons a ra ih=>
   intro B;induction B with
   |nil=>rw[nn,kb]
   |cons b bs sq=>
    rw[mI];split
    .exact(sq.cons b).trans (List.perm_middle (l₁:=a::ra)).symm
    .exact(ih (b::bs)).cons a
 exact e A B
section
variable{rec:bL->Int->Int->Int->Option bL}{s:Nat}{C:Prop}(hR:Rk rec s C)
def Et(rec:bL->Int->Int->Int->Option bL)(D:bL)(a k mid e b:Int):Option bL:=
 cond (cond (decide (a<k)) (decide (k<mid)) false) (
 (rec D a k mid).bind λEu=>
 cond (cond (decide (mid<e)) (decide (e<b)) false) (
 (rec Eu mid e b).bind λjD=>
 some jD) (
 some Eu)) (
 cond (cond (decide (mid<e)) (decide (e<b)) false) (
 (rec D mid e b).bind λyM=>
 some yM) (
 some D))
include hR
theorem jzm(P A2 B2 Q:bL)(h3:dy A2)(h4:dy B2)(hS:iw (P++(A2++(B2++Q))))(hL:(P++(A2++(B2++Q))).length<=1000000000)(hs:A2.length+B2.length<s)
  {mid e b:Int}(re:mid=P.length)(he:e=((P.length+A2.length:Nat):Int))(hb:b=((P.length+A2.length+B2.length:Nat):Int)) :
  (cond (cond (decide (mid<e)) (decide (e<b)) false) ((rec (P++(A2++(B2++Q))) mid e b).bind λjD=>some jD) (some (P++(A2++(B2++Q))))=some (P++(fg ai A2 B2++Q)))\/
  (cond (cond (decide (mid<e)) (decide (e<b)) false) ((rec (P++(A2++(B2++Q))) mid e b).bind λjD=>some jD) (some (P++(A2++(B2++Q))))=none/\C):=by
 match A2,B2 with
 |[],B2=>left;rw[ak (by simp at he;omega)];rfl
 |x::A2,[]=>left;rw[ak (show¬e<b by simp at he hb;omega)];cases decide (mid<e)<;>simp[nn]
 |x::A2,y::B2=>
  rw[aj (show mid<e by simp at he;omega),aj (show e<b by simp at he hb;omega)];simp only[j5];rcases hR P (x::A2) (y::B2) Q (by simp) (by simp) h3 h4 hS hL hs mid e b re he hb with h|⟨h,hc⟩
  .left;rw[h];rfl
  .right;rw[h];exact⟨rfl,hc⟩
theorem jAH(P A1 B1 A2 B2 Q:bL)(h1:dy A1)(h2:dy B1)(h3:dy A2)(h4:dy B2)(hS:iw (P++(A1++(B1++(A2++(B2++Q))))))(hL:(P++(A1++(B1++(A2++(B2++Q))))).length<=1000000000)
  (lX:A1.length+B1.length<s)(nF:A2.length+B2.length<s)
  {a k mid e b:Int}(ha:a=P.length)(hk:k=((P.length+A1.length:Nat):Int))(re:mid=((P.length+A1.length+B1.length:Nat):Int))(he:e=((P.length+A1.length+B1.length+A2.length:Nat):Int))(hb:b=((P.length+A1.length+B1.length+A2.length+B2.length:Nat):Int)) :
  Et rec (P++(A1++(B1++(A2++(B2++Q))))) a k mid e b=some (P++(fg ai A1 B1++(fg ai A2 B2++Q)))\/(Et rec (P++(A1++(B1++(A2++(B2++Q))))) a k mid e b=none/\C):=by
 have hp:=jxh A1 B1;have eY:=hp.length_eq;have dV:∀x,x∈fg ai A1 B1↔x∈A1++B1:=λx=>hp.mem_iff;simp only[ja]at eY hL
 have f2:=jzm hR (P++fg ai A1 B1) A2 B2 Q h3 h4 (hS.of λx hx=>by
  simp only[jn,dV]at hx ⊢;rcases hx with (h|h|h)|h|h|h<;>simp[h]) (by simp only[ja,eY];omega) nF (mid:=mid) (e:=e) (b:=b) (by simp only[ja,eY];omega) (by simp only[ja,eY];omega) (by simp only[ja,eY];omega)
 simp only[jd]at f2;unfold Et;have key:∀D:bL,D=P++(fg ai A1 B1++(A2++(B2++Q)))->(cond (cond (decide (mid<e)) (decide (e<b)) false) ((rec D mid e b).bind λjD=>some jD) (some D)=some (P++(fg ai A1 B1++(fg ai A2 B2++Q))))\/(cond (cond (decide (mid<e)) (decide (e<b)) false) ((rec D mid e b).bind λjD=>some jD) (some D)=none/\C):=λD hD=>by rw[hD];exact f2
 match A1,B1 with
 |[],B1=>rw[ak (show¬a<k by simp at hk;omega)];exact key _ rfl
 |x::A1,[]=>
  rw[ak (show¬k<mid by simp at hk re;omega)];cases decide (a<k)
  .exact key _ (by rw[nn,jm])
  .exact key _ (by rw[nn,jm])
 |x::A1,y::B1=>
  rw[aj (show a<k by simp at hk;omega),aj (show k<mid by simp at hk re;omega)];simp only[j5];rcases hR P (x::A1) (y::B1) (A2++(B2++Q)) (by simp) (by simp) h1 h2 hS (by simp only[ja];omega) lX a k mid ha hk re with h|⟨h,hc⟩
  .rw[h];simp only[j3];exact key _ rfl
  .right;rw[h];exact⟨rfl,hc⟩
theorem jxi{P A B Q:bL}(hA:A≠[])(hB:B≠[])(sA:dy A)(sB:dy B)(hS:iw (P++(A++(B++Q))))(hL:(P++(A++(B++Q))).length<=1000000000)(hs:A.length+B.length<=s)
  {a m b:Int}(ha:a=P.length)(hm:m=((P.length+A.length:Nat):Int))(hb:b=((P.length+A.length+B.length:Nat):Int)) :
  rQ rec (P++(A++(B++Q))) a m b=some (P++(fg ai A B++Q))\/(rQ rec (P++(A++(B++Q))) a m b=none/\C):=by
 have VK:=q8.2 hA;have hBl:=q8.2 hB;have kS:(P++(A++(B++Q))).length=P.length+A.length+B.length+Q.length:=by simp;omega
 have gA:∀i,i<A.length->(P++(A++(B++Q))).getD (P.length+i) dC=A.getD i dC:=λi hi=>Wn P A (B++Q) i hi
 have gB:∀i,i<B.length->(P++(A++(B++Q))).getD (P.length+A.length+i) dC=B.getD i dC:=λi hi=>by
  have:=Wn (P++A) B Q i hi;simp only[jd,ja]at this;exact this
 have Bl:∀t,P.length<=t->t<P.length+A.length->(P++(A++(B++Q))).getD t dC=A.getD (t-P.length) dC:=λt h1 h2=>by
  rw[<-gA _ (by omega),show P.length+(t-P.length)=t by omega]
 have Bm:∀t,P.length+A.length<=t->t<P.length+A.length+B.length->(P++(A++(B++Q))).getD t dC=B.getD (t-(P.length+A.length)) dC:=λt h1 h2=>by
  rw[<-gB _ (by omega),show P.length+A.length+(t-(P.length+A.length))=t by omega]
 rw[kS]at hL;simp only[rQ];rw[ah (x:=m-a) (by omega) (by omega),ah (x:=b-m) (by omega) (by omega)];by_cases h1:A.length=1
 ·-- one element ahead
  left;rw[dT (show m-a=1 by omega),j5];obtain⟨x,rfl⟩:∃x,A=[x]:=List.length_eq_one_iff.1 h1;simp only[ku]at *
  obtain⟨k,k1,k2,e0,k3,k4⟩:=jAF rec hS (by rw[kS];omega) (a:=P.length) (m:=P.length+1) (b:=P.length+1+B.length) (by rw[kS];omega) (by omega) (by rw[kS];omega) (λs t s1 s2 s3=>by
   rw[Bm s s1 (by omega),Bm t (by omega) s3];exact vV sB (by omega) (by omega))
  subst ha hm hb;rw[e0];simp only[j3];have rA:=gA 0 (by omega);rw[Nat.add_zero]at rA;have GJ:([x]:bL).getD 0 dC=x:=rfl;rw[rA,GJ]at k3 k4
  have hB1:∀y∈B.take (k-(P.length+1)),ai y<ai x:=λy hy=>by
   obtain⟨i,i1,i2,rfl⟩:=Hf hy;have:=k3 (P.length+1+i) (by omega) (by omega);rw[gB i i2]at this;exact this
  have Hh:∀y∈B.drop (k-(P.length+1)),¬ai y<ai x:=λy hy=>by
   obtain⟨i,i1,i2,rfl⟩:=Hg hy;have:=k4 (P.length+1+i) (by omega) (by omega);rw[gB i i2]at this;exact this
  have fF:=jzj x _ _ hB1 Hh;have cC:=ki (k-(P.length+1)) B;have l2:=Wr rec (e:=(k:Int)) x (B.take (k-(P.length+1))) P (B.drop (k-(P.length+1))++Q) (by simp;omega) (by simp;omega);rw[show P++x::(B.take (k-(P.length+1))++(B.drop (k-(P.length+1))++Q))=P++([x]++(B++Q)) by rw[<-jd (B.take _),cC];rfl]at l2;rw[l2];simp only[j3];rw[cC]at fF;rw[fF];simp
 .rw[cJ (show¬m-a=1 by omega),j6];by_cases h2:B.length=1
  .left;rw[dT (show b-m=1 by omega),j5];obtain⟨y,rfl⟩:∃x,B=[x]:=List.length_eq_one_iff.1 h2;simp only[ku]at *
   obtain⟨k,k1,k2,e0,k3,k4⟩:=jAG rec hS (by rw[kS];omega) (a:=P.length) (m:=P.length+A.length) (by rw[kS];omega) (by omega) (λs t s1 s2 s3=>by
    rw[Bl s s1 (by omega),Bl t (by omega) s3];exact vV sA (by omega) (by omega))
   subst ha hm hb;rw[e0];simp only[j3];have Wu:=gB 0 (by omega);rw[Nat.add_zero]at Wu;have hyy:([y]:bL).getD 0 dC=y:=rfl;rw[Wu,hyy]at k3 k4
   have Ei:∀x∈A.take (k-P.length),¬ai y<ai x:=λx hx=>by
    obtain⟨i,i1,i2,rfl⟩:=Hf hx;have:=k3 (P.length+i) (by omega) (by omega);rw[gA i i2]at this;exact this
   have od:∀x∈A.drop (k-P.length),ai y<ai x:=λx hx=>by
    obtain⟨i,i1,i2,rfl⟩:=Hg hx;have:=k4 (P.length+i) (by omega) (by omega);rw[gA i i2]at this;omega
   have fF:=jxg y _ _ Ei od;have cC:=ki (k-P.length) A;have l6:=Ws rec (i:=(k:Int)) y (A.drop (k-P.length)).reverse (P++A.take (k-P.length)) Q (by simp;omega) (by simp;omega);rw[zv,show (P++A.take (k-P.length))++(A.drop (k-P.length)++y::Q)=P++(A++([y]++Q)) by rw[jd,<-jd (A.take _),cC];rfl,show (((P++A.take (k-P.length)).length+(A.drop (k-P.length)).reverse.length:Nat):Int)=((P.length+A.length:Nat):Int) by simp;omega]at l6;rw[l6];simp only[j3];rw[cC]at fF;rw[fF];simp
  .rw[cJ (show¬b-m=1 by omega),j6];obtain⟨M,hM⟩:∃M,M=(P.length+(P.length+A.length+B.length))/2:=⟨_,rfl⟩;have hh:=He (a:=P.length) (b:=P.length+A.length+B.length) (by omega);rw[<-hM]at hh;rw[ha,hb,hh];rw[ah (x:=(M:Int)+m) (by omega) (by omega)];rw[ah (x:=(M:Int)+m-1) (by omega) (by omega)];have Ww:(M:Int)+m-1=((M+(P.length+A.length)-1:Nat):Int):=by omega
   have tail:∀k:Nat,P.length<=k->k<=P.length+A.length->M+(P.length+A.length)-k<=P.length+A.length+B.length->k<=M->
     (∀x∈A.drop (k-P.length),∀y∈B.take (M-k),ai y<ai x)->(∀x∈A.take (k-P.length),∀y∈B.drop (M-k),¬ai y<ai x)->
     ∀r:Option bL,r=cond (cond (decide ((k:Int)<m)) (decide (m<(M:Int)+m-(k:Int))) false) ((j0Q (P++(A++(B++Q))) (k:Int) m ((M:Int)+m-(k:Int))).bind λd=>Et rec d (P.length:Int) (k:Int) (M:Int) ((M:Int)+m-(k:Int)) b) (Et rec (P++(A++(B++Q))) (P.length:Int) (k:Int) (M:Int) ((M:Int)+m-(k:Int)) b)->
     r=some (P++(fg ai A B++Q))\/(r=none/\C):=by
    intro k k1 k2 k3 k4 f1 f2 r hr;have Wx:=ki (k-P.length) A;have Wy:=ki (M-k) B;have lA1:(A.take (k-P.length)).length=k-P.length:=by simp;omega
    have lA2:(A.drop (k-P.length)).length=P.length+A.length-k:=by simp;omega
    have lB1:(B.take (M-k)).length=M-k:=by simp;omega
    have lB2:(B.drop (M-k)).length=B.length-(M-k):=by simp
    have sA1:=sA.sub (List.take_sublist (k-P.length) A);have sA2:=sA.sub (List.drop_sublist (k-P.length) A);have sB1:=sB.sub (List.take_sublist (M-k) B);have sB2:=sB.sub (List.drop_sublist (M-k) B);have Wz:=tR (key:=ai) _ _ _ _ f1 f2;rw[Wx,Wy]at Wz;generalize A.take (k-P.length)=A1 at *;generalize A.drop (k-P.length)=A2 at *;generalize B.take (M-k)=B1 at *
    generalize B.drop (M-k)=B2 at *
    subst Wx Wy;simp only[ja]at *
    have fin:=jAH hR P A1 B1 A2 B2 Q sA1 sB1 sA2 sB2 (hS.of λx hx=>by
     simp only[jn]at hx ⊢;rcases hx with h|h|h|h|h|h<;>simp[h]) (by simp only[ja];omega) (by omega) (by omega) (a:=(P.length:Int)) (k:=(k:Int)) (mid:=(M:Int)) (e:=(M:Int)+m-(k:Int)) (b:=b) rfl (by omega) (by omega) (by omega) (by omega)
    rw[<-jd (fg ai A1 B1),<-Wz]at fin;rw[hr];by_cases yN:(k:Int)<m/\m<(M:Int)+m-(k:Int)
    .rw[aj yN.1,aj yN.2];simp only[j5];have ro:=jAE (P++A1) A2 B1 (B2++Q) (λh=>by have:=jh List.length h;simp only[qc]at this;omega) (λh=>by have:=jh List.length h;simp only[qc]at this;omega) (by simp;omega) (a:=(k:Int)) (m:=m) (b:=(M:Int)+m-(k:Int)) (by simp;omega) (by simp;omega) (by simp;omega);simp only[jd]at ro ⊢;rw[ro];simp only[j3];exact fin
    .have hc:cond (decide ((k:Int)<m)) (decide (m<(M:Int)+m-(k:Int))) false=false:=by
      by_cases h:(k:Int)<m
      .rw[aj h,j5];exact ak (λh'=>yN ⟨h,h'⟩)
      .rw[ak h,j6]
     rw[hc,j6]
     have he:A2++(B1++(B2++Q))=B1++(A2++(B2++Q)):=by
      by_cases h:(k:Int)<m
      .have:B1=[]:=kj.1 (by omega);subst this;rfl
      .have:A2=[]:=kj.1 (by omega);subst this;rfl
     simp only[jd]at fin ⊢;rw[he];exact fin
   have rf:∀s t,P.length<=s->s<=t->t<P.length+A.length->M+(P.length+A.length)-1-s<P.length+A.length+B.length->P.length+A.length<=M+(P.length+A.length)-1-t->¬ai ((P++(A++(B++Q))).getD (M+(P.length+A.length)-1-t) dC)<ai ((P++(A++(B++Q))).getD t dC)->¬ai ((P++(A++(B++Q))).getD (M+(P.length+A.length)-1-s) dC)<ai ((P++(A++(B++Q))).getD s dC):=by intro s t s1 s2 s3 s4 s5 h;rw[Bl s s1 (by omega)];rw[Bl t (by omega) s3]at h;rw[Bm _ (by omega) s4];rw[Bm _ s5 (by omega)]at h;have q1:=vV sA (i:=s-P.length) (j:=t-P.length) (by omega) (by omega);have q2:=vV sB (i:=M+(P.length+A.length)-1-t-(P.length+A.length)) (j:=M+(P.length+A.length)-1-s-(P.length+A.length)) (by omega) (by omega);omega
   have facts:∀lo hi k:Nat,P.length<=lo->hi<=P.length+A.length->hi<=M->M+(P.length+A.length)-lo<=P.length+A.length+B.length->lo<=k->k<=hi->(hi=M\/hi=P.length+A.length)->(lo=P.length\/M+(P.length+A.length)-lo=P.length+A.length+B.length)->
     (∀t,lo<=t->t<k->¬ai ((P++(A++(B++Q))).getD (M+(P.length+A.length)-1-t) dC)<ai ((P++(A++(B++Q))).getD t dC))->(∀t,k<=t->t<hi->¬¬ai ((P++(A++(B++Q))).getD (M+(P.length+A.length)-1-t) dC)<ai ((P++(A++(B++Q))).getD t dC))->
     (∀x∈A.drop (k-P.length),∀y∈B.take (M-k),ai y<ai x)/\(∀x∈A.take (k-P.length),∀y∈B.drop (M-k),¬ai y<ai x):=by
    intro lo hi k g1 g2 g3 g4 g5 g6 g7 g8 p1 p2;constructor
    .intro x hx y hy;obtain⟨i,i1,i2,rfl⟩:=Hg hx;obtain⟨j,j1,j2,rfl⟩:=Hf hy;have hkh:k<hi:=by omega
     have:=p2 k (jj _) hkh;rw[Bl k (by omega) (by omega),Bm _ (by omega) (by omega)]at this;have q1:=vV sA (i:=k-P.length) (j:=i) (by omega) (by omega);have q2:=vV sB (i:=j) (j:=M+(P.length+A.length)-1-k-(P.length+A.length)) (by omega) (by omega);omega
    .intro x hx y hy;obtain⟨i,i1,i2,rfl⟩:=Hf hx;obtain⟨j,j1,j2,rfl⟩:=Hg hy;have iW:lo<k:=by omega
     have:=p1 (k-1) (by omega) (by omega);rw[Bl (k-1) (by omega) (by omega),Bm _ (by omega) (by omega)]at this;have q1:=vV sA (i:=i) (j:=k-1-P.length) (by omega) (by omega);have q2:=vV sB (i:=M+(P.length+A.length)-1-(k-1)-(P.length+A.length)) (j:=j) (by omega) (by omega);omega
   by_cases WA:m>(M:Int)
   .rw[aj WA,j5];rw[<-hb,ah (x:=(M:Int)+m-b) (by omega) (by omega)];obtain⟨k,k1,k2,e0,k3,k4⟩:=Wt rec hS (by rw[kS];omega) (lo:=M+(P.length+A.length)-(P.length+A.length+B.length)) (hi:=M) (p:=M+(P.length+A.length)-1) (s1:=(P.length:Int)) (s2:=m) (s3:=b) (s18:=(M:Int)) (s19:=(M:Int)+m) (by omega) (by rw[kS];omega) (λc c1 c2=>by rw[kS];omega) (by omega) (λs t s1 s2 s3 h=>rf s t (by omega) s2 (by omega) (by omega) (by omega) h);obtain⟨f1,f2⟩:=facts (M+(P.length+A.length)-(P.length+A.length+B.length)) M k (by omega) (by omega) (by omega) (by omega) k1 k2 (.inl rfl) (.inr (by omega)) k3 k4;rw[Ww,show (M:Int)+m-b=((M+(P.length+A.length)-(P.length+A.length+B.length):Nat):Int) by omega,e0];simp only[j3];rw[ah (x:=(M:Int)+m-(k:Int)) (by omega) (by omega)];exact tail k (by omega) (by omega) (by omega) (by omega) f1 f2 _ rfl
   .rw[ak WA,j6];obtain⟨k,k1,k2,e0,k3,k4⟩:=Wt rec hS (by rw[kS];omega) (lo:=P.length) (hi:=P.length+A.length) (p:=M+(P.length+A.length)-1) (s1:=(P.length:Int)) (s2:=m) (s3:=b) (s18:=(M:Int)) (s19:=(M:Int)+m) (by omega) (by rw[kS];omega) (λc c1 c2=>by rw[kS];omega) (by omega) (λs t s1 s2 s3 h=>rf s t (by omega) s2 (by omega) (by omega) (by omega) h);obtain⟨f1,f2⟩:=facts P.length (P.length+A.length) k (by omega) (by omega) (by omega) (by omega) k1 k2 (.inr rfl) (.inl rfl) k3 k4;rw[Ww];rw[show ((P.length+A.length:Nat):Int)=m from hm.symm]at e0;rw[<-hb,e0];simp only[j3];rw[ah (x:=(M:Int)+m-(k:Int)) (by omega) (by omega)];exact tail k (by omega) (by omega) (by omega) (by omega) f1 f2 _ rfl
end
theorem N5:∀(n s:Nat),Rk (λv0 v1 v2 v3=>kG j0i n (v0,v1,v2,v3)) (s+1) (n<=s)
 |0,s=>λP A B Q _ _ _ _ _ _ _ a m b _ _ _=> .inr ⟨rfl,kc _⟩
 |n+1,s=>λP A B Q hA hB sA sB hS hL hs a m b ha hm hb=>by
  by_cases h0:s=0
  .have:=q8.2 hA;have:=q8.2 hB;omega
  .have ih:=N5 n (s-1);rw[show s-1+1=s by omega]at ih;rcases jxi ih hA hB sA sB hS hL (by omega) ha hm hb with h|⟨h,hc⟩
   .exact .inl h
   .exact .inr ⟨h,by omega⟩
theorem WB{P A B Q:bL}(hA:A≠[])(hB:B≠[])(sA:dy A)(sB:dy B)(hS:iw (P++(A++(B++Q))))(hL:(P++(A++(B++Q))).length<=1000000000)
  {a m b:Int}(ha:a=P.length)(hm:m=((P.length+A.length:Nat):Int))(hb:b=((P.length+A.length+B.length:Nat):Int)) :
  j1f (P++(A++(B++Q))) a m b=some (P++(fg ai A B++Q)):=by
 refine Rb ⟨A.length+B.length+1,?_⟩ λn y hy=>?_
 .rcases N5 (A.length+B.length+1) (A.length+B.length) P A B Q hA hB sA sB hS hL (by omega) a m b ha hm hb with h|⟨_,h⟩
  .exact h
  .omega
 .rcases N5 n (A.length+B.length) P A B Q hA hB sA sB hS hL (by omega) a m b ha hm hb with h|⟨h,_⟩
  .have h:kG j0i n (P++(A++(B++Q)),a,m,b)=_:=h;rw[h]at hy;simpa using hy.symm
  .have h:kG j0i n (P++(A++(B++Q)),a,m,b)=none:=h;rw[h]at hy;simp at hy
theorem WC{x:lT}:∀{l:bL},(∀y∈l,¬ai x<ai y)->cj ai x l=l++[x]
 |[],_=>rfl
 |y::l,h=>by
  rw[cj,if_neg (h y (by simp)),WC (l:=l) (λz hz=>h z (by simp[hz]))];rfl
theorem WD{x y:lT}:∀{l:bL},ai x<ai y->cj ai x (l++[y])=cj ai x l++[y]
 |[],h=>by simp[cj,h]
 |z::l,h=>by
  rw[qd,cj,cj];split
  .rfl
  .rw[WD h];rfl
theorem WE{a n s8:Int}(x:lT)(P:bL)(ha:a=P.length):∀(rp mid:bL),dy rp.reverse->iw (P++(rp.reverse++x::mid))->(P++(rp.reverse++x::mid)).length<=1000000000->
  AK a n s8 ((P.length+rp.length:Nat):Int) (P++(rp.reverse++x::mid))=some (a,n,s8,P++(cj ai x rp.reverse++mid))
 |[],mid,_,_,_=>by
  rw[SA];simp only[j12];rw[ak (by simp;omega),j6,aW];rfl
 |y::rp,mid,hs,hS,hL=>by
  have kS:(P++((y::rp).reverse++x::mid)).length=P.length+rp.length+mid.length+2:=by simp;omega
  rw[kS]at hL;have e1:P++((y::rp).reverse++x::mid)=(P++rp.reverse++[y])++x::mid:=by simp
  have e2:P++((y::rp).reverse++x::mid)=(P++rp.reverse)++y::(x::mid):=by simp
  have n1:(((P.length+(rp.length+1):Nat):Int)-1).toNat=(P++rp.reverse).length:=by simp;omega
  have n2:P.length+(rp.length+1)=(P++rp.reverse++[y]).length:=by simp
  have g1:(P++((y::rp).reverse++x::mid)).getD (((P.length+(rp.length+1):Nat):Int)-1).toNat dC=y:=by rw[e2,n1,vT]
  have g2:(P++((y::rp).reverse++x::mid)).getD (P.length+(rp.length+1)) dC=x:=by rw[e1,n2,vT]
  have s1:(P++((y::rp).reverse++x::mid)).set (P.length+(rp.length+1)) y=(P++rp.reverse)++y::(y::mid):=by rw[e1,n2,vU];simp
  have s2:((P++rp.reverse)++y::(y::mid)).set (((P.length+(rp.length+1):Nat):Int)-1).toNat x=P++(rp.reverse++x::(y::mid)):=by rw[n1,vU];simp
  have hx:=hS x (by simp);have hy:=hS y (by simp);have c:=Hd hx hy;unfold dC at g1 g2;rw[SA];simp only[j12,jl];rw[aj (by omega),ah (x:=((P.length+(rp.length+1):Nat):Int)-1) (by omega) (by omega),aU (show (0:Int)<=((P.length+(rp.length+1):Nat):Int) by omega) (by rw[kS];omega),aU (show (0:Int)<=((P.length+(rp.length+1):Nat):Int)-1 by omega) (by rw[kS];omega)];simp only[j5,j7,g1,g2];rw[c];simp only[j3];have dp:dy (rp.reverse++[y]):=by simpa using hs
  by_cases an:ai x<ai y
  .rw[aj (by omega)];simp only[j5];rw[show (P++((y::rp).reverse++x::mid)).set (P.length+(rp.length+1)) (y.1,(y.2.1,(y.2.2.1,(y.2.2.2.1,y.2.2.2.2))))=_ from s1];rw[aU (show (0:Int)<=((P.length+(rp.length+1):Nat):Int)-1 by omega) (by simp;omega),j5];rw[show ((P++rp.reverse)++y::(y::mid)).set (((P.length+(rp.length+1):Nat):Int)-1).toNat (x.1,(x.2.1,(x.2.2.1,(x.2.2.2.1,x.2.2.2.2))))=_ from s2,aF]
   have ih:=WE (a:=a) (n:=n) (s8:=s8) x P ha rp (y::mid) (dp.sub (List.sublist_append_left _ _)) (hS.of λz hz=>by
    simp only[jn,List.mem_reverse,je]at hz ⊢;rcases hz with h|h|h|h|h<;>simp[h]) (by simp;omega)
   rw[show ((P.length+(rp.length+1):Nat):Int)-1=((P.length+rp.length:Nat):Int) by omega,ih,List.reverse_cons,WD an];simp
  .rw[ak (by omega)];simp only[j6,aW]
   rw[WC (l:=(y::rp).reverse) (λz hz=>by
    rw[List.reverse_cons]at hz;rcases jn.1 hz with h|h
    .have:=(ql.1 dp).2.2 z h y (by simp);omega
    .simp at h;subst h;exact an)]
   simp
theorem WG{a:Int}(P:bL)(ha:a=P.length)(Q:bL):∀(xs acc:bL),dy acc->acc≠[]->iw (P++(acc++(xs++Q)))->(P++(acc++(xs++Q))).length<=1000000000->
  AL a ((P.length+acc.length+xs.length:Nat):Int) ((P.length+acc.length:Nat):Int) (P++(acc++(xs++Q)))=some (P++(xs.foldl (λacc x=>cj ai x acc) acc++Q))
 |[],acc,_,_,_,_=>by
  rw[Kk];simp only[j0e];rw[ak (by simp),j6,aW];rfl
 |x::xs,acc,hs,aZ,hS,hL=>by
  have hp:=Ep (key:=ai) x acc;have eY:=hp.length_eq;simp only[ja,jl]at hL eY;have l2:=WE (a:=a) (n:=((P.length+acc.length+(x::xs).length:Nat):Int)) (s8:=((P.length+acc.length:Nat):Int)) x P ha acc.reverse (xs++Q) (by rw[zv];exact hs) (by rw[zv];exact hS) (by rw[zv];simp;omega);rw[zv,List.length_reverse]at l2
  have hsI:dy (cj ai x acc):=(N0 (key:=ai) (R:=λ_ _=>True) x acc (hs.imp λh=>by
   rcases Int.lt_or_eq_of_le h with h|h
   .exact .inl h
   .exact .inr ⟨h,trivial⟩) (λ_ _=>trivial)).imp (λh=>by omega)
  have ih:=WG (a:=a) P ha Q xs (cj ai x acc) hsI (λh=>by rw[h]at eY;simp at eY) (hS.of λz hz=>by
   simp only[jn,je,hp.mem_iff]at hz ⊢;rcases hz with h|(h|h)|h|h<;>simp[h]) (by simp only[ja,eY];omega)
  rw[Kk];simp only[j0e];rw[aj (by simp only[jl];omega),j5,show P++(acc++(x::xs++Q))=P++(acc++x::(xs++Q)) from rfl,l2];simp only[j3];rw[ah (x:=((P.length+acc.length:Nat):Int)+1) (by omega) (by omega),aF];rw[eY]at ih;rw[show ((P.length+acc.length:Nat):Int)+1=((P.length+(acc.length+1):Nat):Int) by omega,show ((P.length+acc.length+(x::xs).length:Nat):Int)=((P.length+(acc.length+1)+xs.length:Nat):Int) by simp;omega];exact ih
theorem N6(P xs Q:bL)(hS:iw (P++(xs++Q)))(hL:(P++(xs++Q)).length<=1000000000){a b:Int}(ha:a=P.length)(hb:b=((P.length+xs.length:Nat):Int)) :
  j0p (P++(xs++Q)) a b=some (P++(bK ai xs++Q)):=by
 simp only[ja]at hL;simp only[j0p];rw[ah (x:=a+1) (by omega) (by omega)];match xs with
 |[]=>rw[Kk];simp only[j0e];rw[ak (by simp at hb;omega),j6,aW];rfl
 |x::xs=>have:=WG (a:=a) P ha Q xs [x] (ze _ _) (by simp) hS (by simp only[ja,jl,qc]at hL ⊢;omega);rw[show b=((P.length+([x]:bL).length+xs.length:Nat):Int) by simp at hb ⊢;omega,show a+1=((P.length+([x]:bL).length:Nat):Int) by simp;omega];rw[show P++(x::xs++Q)=P++([x]++(xs++Q)) from rfl,this];rfl
theorem Hi(l:bL):dy (bK ai l):=jzl l
theorem jAI:∀(n:Nat)(l D:bL),l.length<=n->iw (D++l)->(D++l).length<=100000000->
  ∃d d':bL,∃r:Nat,yf ((D++l).length:Int) 20 (D.length:Int) ((D.length+20:Nat):Int) (D++l)=some (((D++l).length:Int),20,(r:Int),D++d)/\
   j0p (D++d) (r:Int) ((D++l).length:Int)=some (D++d')/\jC ai 20 l d':=by
 intro n;induction n with
 |zero=>
  intro l D hn hS hL;have:l=[]:=kj.1 (by omega);subst this;simp only[kb]at *;refine⟨[],[],D.length,?_,?_,jC.last [] (by simp)⟩
  .rw[Kl];simp only[j0m];rw[ak (by omega),j6,aW,kb]
  .have:=N6 D [] [] (by simpa using hS) (by simp;omega) (a:=(D.length:Int)) (b:=(D.length:Int)) rfl (by simp);simpa[bK]using this
 |succ n ih=>
  intro l D hn hS hL;simp only[ja]at hL;by_cases h20:l.length<20
  .refine⟨l,bK ai l,D.length,?_,?_,jC.last l h20⟩
   .rw[Kl];simp only[j0m];rw[ak (by simp;omega),j6,aW]
   .have:=N6 D l [] (by simpa using hS) (by simp;omega) (a:=(D.length:Int)) (b:=((D++l).length:Int)) rfl (by simp);simpa using this
  .obtain⟨x,l',mQ,hx⟩:∃x l',l=x++l'/\x.length=20:=⟨l.take 20,l.drop 20,(ki ..).symm,by simp;omega⟩;subst mQ;simp only[ja]at *;have hi:=N6 D x l' hS (by simp;omega) (a:=(D.length:Int)) (b:=((D.length+20:Nat):Int)) rfl (by omega);have hlen:=rW (key:=ai) x;have sS:=rV (key:=ai) x
   obtain⟨d,d',r,e1,e2,hb⟩:=ih l' (D++bK ai x) (by omega) (hS.of λz hz=>by
    simp only[jn,sS.mem_iff]at hz ⊢;rcases hz with (h|h)|h<;>simp[h]) (by simp;omega)
   refine⟨bK ai x++d,bK ai x++d',r,?_,?_,jC.more x l' d' hx hb⟩
   .rw[Kl];simp only[j0m];rw[aj (by omega),j5,hi];simp only[j3];rw[ah (x:=((D.length+20:Nat):Int)+20) (by omega) (by omega),aF];simp only[jd,ja,hlen,hx]at e1 ⊢;rw[show ((D.length+20:Nat):Int)+20=((D.length+20+20:Nat):Int) by omega];rw[Nat.add_assoc D.length 20 l'.length]at e1;exact e1
   .simp only[jd,ja,hlen,hx]at e2 ⊢;rw[Nat.add_assoc D.length 20 l'.length]at e2;exact e2
theorem jAJ{bs:Nat}(hbs:0<bs)(hbs2:bs<=100000000):∀(n:Nat)(l d D:bL),l.length<=n->jC ai bs l d->iw (D++d)->(D++d).length<=100000000->
  ∃d1 d2:bL,∃r:Nat,yg ((D++d).length:Int) (bs:Int) (D.length:Int) ((D.length+2*bs:Nat):Int) (D++d)=some (((D++d).length:Int),(bs:Int),(r:Int),D++d1)/\
   jC ai (2*bs) l d2/\((r+bs<(D++d).length/\j1f (D++d1) (r:Int) ((r+bs:Nat):Int) ((D++d).length:Int)=some (D++d2))\/((D++d).length<=r+bs/\d1=d2))/\r<=(D++d).length:=by
 intro n;induction n with
 |zero=>intro l d D hn hB hS hL;have:l=[]:=kj.1 (by omega);subst this;have hd:=hB.len;have:d=[]:=kj.1 (by simpa using hd);subst this;simp only[kb]at *;refine⟨[],[],D.length,?_,jC.last [] (by simp;omega),.inr ⟨by omega,rfl⟩,jj _⟩;rw[Km];simp only[j0n];rw[ak (by omega),j6,aW,kb]
 |succ n ih=>
  intro l d D hn hB hS hL;have pC:=hB.len;simp only[ja]at hL;by_cases an:l.length<2*bs
  ·-- what is left: one block and a part of one
   have pV:∀d1:bL,d1=d->yg ((D++d).length:Int) (bs:Int) (D.length:Int) ((D.length+2*bs:Nat):Int) (D++d)=some (((D++d).length:Int),(bs:Int),(D.length:Int),D++d1):=λd1 h1=>by
    subst h1;rw[Km];simp only[j0n];rw[ak (by simp;omega),j6,aW]
   refine⟨d,bK ai l,D.length,pV d rfl,jC.last l an,?_,by simp⟩;cases hB with
   |last _ h=>exact .inr ⟨by rw[ja,pC];omega,rfl⟩
   |more x l' d' hx hb=>
    have mP:=rW (key:=ai) x;cases hb with
    |more y _ _ hy _=>simp only[ja]at an;omega
    |last _ h=>
     have gZ:=rW (key:=ai) l';by_cases h0:l'=[]
     .subst h0;have h0:bK ai ([]:bL)=[]:=rfl;rw[h0];refine .inr ⟨by rw[kb,ja,mP];omega,by rw[kb,kb]⟩
     .have hp:=q8.2 h0;left;refine⟨by simp[mP,gZ];omega,?_⟩;have sm:=WB (P:=D) (A:=bK ai x) (B:=bK ai l') (Q:=[]) (λh=>by rw[h]at mP;simp at mP;omega) (λh=>by rw[h]at gZ;simp at gZ;omega) (Hi x) (Hi l') (by simpa using hS) (by simp[mP,gZ];simp[mP,gZ]at hL;omega) (a:=(D.length:Int)) (m:=((D.length+bs:Nat):Int)) (b:=((D++(bK ai x++bK ai l')).length:Int)) rfl (by rw[mP,hx]) (by simp;omega);simp only[kb]at sm;rw[sm,Wk]
  .cases hB with
   |last _ h=>omega
   |more x l' d' hx hb=>
    have mP:=rW (key:=ai) x;cases hb with
    |last _ h=>simp only[ja]at an;omega
    |more y l2 d2 hy eP=>
     have sD:=rW (key:=ai) y;simp only[ja]at *;have sm:=WB (P:=D) (A:=bK ai x) (B:=bK ai y) (Q:=d2) (λh=>by rw[h]at mP;simp at mP;omega) (λh=>by rw[h]at sD;simp at sD;omega) (Hi x) (Hi y) hS (by simp;omega) (a:=(D.length:Int)) (m:=((D.length+bs:Nat):Int)) (b:=((D.length+2*bs:Nat):Int)) rfl (by omega) (by omega);rw[<-Wk]at sm;have wJ:=rW (key:=ai) (x++y);have hpz:=rV (key:=ai) (x++y);have sV:=rV (key:=ai) x;have sW:=rV (key:=ai) y;simp only[ja]at wJ
     obtain⟨d1,d3,r,e1,hb3,hr,tM⟩:=ih l2 d2 (D++bK ai (x++y)) (by omega) eP (hS.of λz hz=>by
      simp only[jn,hpz.mem_iff,sV.mem_iff,sW.mem_iff]at hz ⊢;rcases hz with (h|h|h)|h<;>simp[h]) (by simp;omega)
     simp only[ja,wJ,hx,hy,jd]at e1 hr tM;refine⟨bK ai (x++y)++d1,bK ai (x++y)++d3,r,?_,?_,?_,by rw[mP,sD,hx,hy];omega⟩
     .rw[Km];simp only[j0n];rw[aj (by omega),ah (x:=(D.length:Int)+(bs:Int)) (by omega) (by omega),j5,show (D.length:Int)+(bs:Int)=((D.length+bs:Nat):Int) by omega,sm];simp only[j3];rw[ah (x:=2*(bs:Int)) (by omega) (by omega),ah (x:=((D.length+2*bs:Nat):Int)+2*(bs:Int)) (by omega) (by omega),aF];dsimp only;rw[mP,sD,hx,hy,show ((D.length+2*bs:Nat):Int)+2*(bs:Int)=((D.length+(bs+bs)+2*bs:Nat):Int) by omega,show ((D.length+2*bs:Nat):Int)=((D.length+(bs+bs):Nat):Int) by omega,show ((D.length+(bs+(bs+d2.length)):Nat):Int)=((D.length+(bs+bs)+d2.length:Nat):Int) by omega];exact e1
     .have:=jC.more (key:=ai) (n:=2*bs) (x++y) l2 d3 (by simp;omega) hb3;rwa[jd]at this
     .rw[mP,sD,hx,hy,show D.length+(bs+(bs+d2.length))=D.length+(bs+bs)+d2.length by omega];rcases hr with⟨h1,h2⟩|⟨h1,h2⟩
      .exact .inl ⟨h1,h2⟩
      .exact .inr ⟨h1,by rw[h2]⟩
theorem jAK{l:bL}(hl:l.length<=100000000):∀(n bs:Nat)(d:bL),0<bs->bs<=200000000->l.length-bs<=n->jC ai bs l d->iw d->yh (l.length:Int) (bs:Int) d=some (bK ai l):=by
 intro n;induction n with
 |zero=>intro bs d h0 h1 hn hB hS;rw[SI];simp only[j0x];rw[ak (by omega),j6,aW,hB.all (by omega)]
 |succ n ih=>
  intro bs d h0 h1 hn hB hS;have pC:=hB.len;rw[SI];simp only[j0x];by_cases an:bs<l.length
  .obtain⟨d1,d2,r,e1,Hh,hr,tM⟩:=jAJ h0 (by omega) l.length l d [] (jj _) hB (by simpa using hS) (by simp;omega);simp only[jm,qc,kf]at e1 hr tM;rw[aj (by omega),ah (x:=2*(bs:Int)) (by omega) (by omega)];simp only[j5];rw[pC]at e1 hr tM;rw[show (2:Int)*(bs:Int)=((2*bs:Nat):Int) by omega,show (0:Int)=((0:Nat):Int) from rfl,e1];simp only[j3];rw[ah (x:=(r:Int)+(bs:Int)) (by omega) (by omega),ah (x:=(bs:Int)*2) (by omega) (by omega)]
   have Pp:iw d2:=by
    have hp:∀{k:Nat}{a b:bL},jC ai k a b->b.Perm a:=by
     intro k a b h;induction h with
     |last l _=>exact rV l
     |more x l d _ _ ih=>exact(rV x).append ih
    exact(hS.perm (hp hB).symm).perm (hp Hh)
   have WH:=ih (2*bs) d2 (by omega) (by omega) (by omega) Hh Pp;rcases hr with⟨g1,g2⟩|⟨g1,g2⟩
   .rw[aj (by omega),j5,show (r:Int)+(bs:Int)=((r+bs:Nat):Int) by omega,g2];simp only[j3,aF];rw[show (bs:Int)*2=((2*bs:Nat):Int) by omega];exact WH
   .rw[ak (by omega),j6,aF];subst g2;dsimp only;rw[show (bs:Int)*2=((2*bs:Nat):Int) by omega];exact WH
  .rw[ak (by omega),j6,aW,hB.all (by omega)]
theorem jtJ{l:bL}(hS:iw l)(hl:l.length<=100000000):j0o l=some (bK ai l):=by
 obtain⟨d,d',r,e1,e2,hB⟩:=jAI l.length l [] (jj _) (by simpa using hS) (by simpa using hl);simp only[jm,qc,kf]at e1 e2
 have hp:∀{k:Nat}{a b:bL},jC ai k a b->b.Perm a:=by
  intro k a b h;induction h with
  |last l _=>exact rV l
  |more x l d _ _ ih=>exact(rV x).append ih
 have e3:=jAK hl l.length 20 d' (by omega) (by omega) (by omega) hB (hS.perm (hp hB));simp only[j0o,j1K,show Int.ofNat l.length=(l.length:Int) from rfl];rw[show yf (l.length:Int) 20 0 20 l=_ from e1];simp only[j3,e2];rw[show yh (l.length:Int) 20 d'=_ from e3];rfl
end Go.Proofs.Pw
