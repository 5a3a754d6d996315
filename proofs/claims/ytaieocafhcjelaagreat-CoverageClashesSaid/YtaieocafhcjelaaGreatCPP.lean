/- Et O5; the AE yf sort is the yf sort by the key. -/
import Derived.Test.YtaieocafhcjelaaGreatCPO
open Go Go.Lft
namespace Go.Proofs.Pw
theorem dI.sub{l r:bS}(h:dI l)(hs:r.Sublist l):dI r:=List.Pairwise.sublist hs h
def Rk(rec:bS->Int->Int->Int->Option bS)(s:Nat)(C:Prop):Prop:=
 ∀P A B Q:bS,A≠[]->B≠[]->dI A->dI B->iz (P++(A++(B++Q)))->(P++(A++(B++Q))).length<=1000000000->A.length+B.length<s->
  ∀a m b:Int,a=P.length->m=((P.length+A.length:Nat):Int)->b=((P.length+A.length+B.length:Nat):Int)->
  rec (P++(A++(B++Q))) a m b=some (P++(fg aq A B++Q))\/(rec (P++(A++(B++Q))) a m b=none/\C)
theorem jAU(A B:bS):(fg aq A B).Perm (A++B):=by
 have e:∀A B:bS,(fg aq A B).Perm (A++B):=by
  intro A;induction A with
  |nil=>intro B;exact List.Perm.refl _
  |cons a ra ih=>
   intro B;induction B with
   |nil=>rw[mY,k7]
   |cons b bs rW=>
    rw[mD];split
    .exact(rW.cons b).trans (List.perm_middle (l₁:=a::ra)).symm
    .exact(ih (b::bs)).cons a
 exact e A B
section
variable{rec:bS->Int->Int->Int->Option bS}{s:Nat}{C:Prop}(hR:Rk rec s C)
def Eu(rec:bS->Int->Int->Int->Option bS)(D:bS)(a k mid e b:Int):Option bS:=
 cond (cond (decide (a<k)) (decide (k<mid)) false) (
 (rec D a k mid).bind λEv=>
 cond (cond (decide (mid<e)) (decide (e<b)) false) (
 (rec Ev mid e b).bind λjR=>
 some jR) (
 some Ev)) (
 cond (cond (decide (mid<e)) (decide (e<b)) false) (
 (rec D mid e b).bind λyg=>
 some yg) (
 some D))
include hR
theorem jCU(P A2 B2 Q:bS)(h3:dI A2)(h4:dI B2)(hS:iz (P++(A2++(B2++Q))))(hL:(P++(A2++(B2++Q))).length<=1000000000)(hs:A2.length+B2.length<s)
  {mid e b:Int}(qT:mid=P.length)(he:e=((P.length+A2.length:Nat):Int))(hb:b=((P.length+A2.length+B2.length:Nat):Int)) :
  (cond (cond (decide (mid<e)) (decide (e<b)) false) ((rec (P++(A2++(B2++Q))) mid e b).bind λjR=>some jR) (some (P++(A2++(B2++Q))))=some (P++(fg aq A2 B2++Q)))\/
  (cond (cond (decide (mid<e)) (decide (e<b)) false) ((rec (P++(A2++(B2++Q))) mid e b).bind λjR=>some jR) (some (P++(A2++(B2++Q))))=none/\C):=by
 match A2,B2 with
 |[],B2=>left;rw[ah (by simp at he;omega)];rfl
 |x::A2,[]=>left;rw[ah (show¬e<b by simp at he hb;omega)];cases decide (mid<e)<;>simp[mY]
 |x::A2,y::B2=>
  rw[ag (show mid<e by simp at he;omega),ag (show e<b by simp at he hb;omega)];simp only[j5];rcases hR P (x::A2) (y::B2) Q (by simp) (by simp) h3 h4 hS hL hs mid e b qT he hb with h|⟨h,hc⟩
  .left;rw[h];rfl
  .right;rw[h];exact⟨rfl,hc⟩
theorem jEl(P A1 B1 A2 B2 Q:bS)(h1:dI A1)(h2:dI B1)(h3:dI A2)(h4:dI B2)(hS:iz (P++(A1++(B1++(A2++(B2++Q))))))(hL:(P++(A1++(B1++(A2++(B2++Q))))).length<=1000000000)
  (kI:A1.length+B1.length<s)(nn:A2.length+B2.length<s)
  {a k mid e b:Int}(ha:a=P.length)(hk:k=((P.length+A1.length:Nat):Int))(qT:mid=((P.length+A1.length+B1.length:Nat):Int))(he:e=((P.length+A1.length+B1.length+A2.length:Nat):Int))(hb:b=((P.length+A1.length+B1.length+A2.length+B2.length:Nat):Int)) :
  Eu rec (P++(A1++(B1++(A2++(B2++Q))))) a k mid e b=some (P++(fg aq A1 B1++(fg aq A2 B2++Q)))\/(Eu rec (P++(A1++(B1++(A2++(B2++Q))))) a k mid e b=none/\C):=by
 have hp:=jAU A1 B1;have fm:=hp.length_eq;have er:∀x,x∈fg aq A1 B1↔x∈A1++B1:=λx=>hp.mem_iff;simp only[ja]at fm hL
 have f2:=jCU hR (P++fg aq A1 B1) A2 B2 Q h3 h4 (hS.of λx hx=>by
  simp only[jn,er]at hx ⊢;rcases hx with (h|h|h)|h|h|h<;>simp[h]) (by simp only[ja,fm];omega) nn (mid:=mid) (e:=e) (b:=b) (by simp only[ja,fm];omega) (by simp only[ja,fm];omega) (by simp only[ja,fm];omega)
 simp only[jd]at f2;unfold Eu;have key:∀D:bS,D=P++(fg aq A1 B1++(A2++(B2++Q)))->(cond (cond (decide (mid<e)) (decide (e<b)) false) ((rec D mid e b).bind λjR=>some jR) (some D)=some (P++(fg aq A1 B1++(fg aq A2 B2++Q))))\/(cond (cond (decide (mid<e)) (decide (e<b)) false) ((rec D mid e b).bind λjR=>some jR) (some D)=none/\C):=λD hD=>by rw[hD];exact f2
 match A1,B1 with
 |[],B1=>rw[ah (show¬a<k by simp at hk;omega)];exact key _ rfl
 |x::A1,[]=>
  rw[ah (show¬k<mid by simp at hk qT;omega)];cases decide (a<k)
  .exact key _ (by rw[mY,jo])
  .exact key _ (by rw[mY,jo])
 |x::A1,y::B1=>
  rw[ag (show a<k by simp at hk;omega),ag (show k<mid by simp at hk qT;omega)];simp only[j5];rcases hR P (x::A1) (y::B1) (A2++(B2++Q)) (by simp) (by simp) h1 h2 hS (by simp only[ja];omega) kI a k mid ha hk qT with h|⟨h,hc⟩
  .rw[h];simp only[j3];exact key _ rfl
  .right;rw[h];exact⟨rfl,hc⟩
theorem jAV{P A B Q:bS}(hA:A≠[])(hB:B≠[])(sA:dI A)(sB:dI B)(hS:iz (P++(A++(B++Q))))(hL:(P++(A++(B++Q))).length<=1000000000)(hs:A.length+B.length<=s)
  {a m b:Int}(ha:a=P.length)(hm:m=((P.length+A.length:Nat):Int))(hb:b=((P.length+A.length+B.length:Nat):Int)) :
  F8 rec (P++(A++(B++Q))) a m b=some (P++(fg aq A B++Q))\/(F8 rec (P++(A++(B++Q))) a m b=none/\C):=by
 have WW:=kx.2 hA;have hBl:=kx.2 hB;have lj:(P++(A++(B++Q))).length=P.length+A.length+B.length+Q.length:=by simp;omega
 have gA:∀i,i<A.length->(P++(A++(B++Q))).getD (P.length+i) dC=A.getD i dC:=λi hi=>XZ P A (B++Q) i hi
 have gB:∀i,i<B.length->(P++(A++(B++Q))).getD (P.length+A.length+i) dC=B.getD i dC:=λi hi=>by
  have:=XZ (P++A) B Q i hi;simp only[jd,ja]at this;exact this
 have AF:∀t,P.length<=t->t<P.length+A.length->(P++(A++(B++Q))).getD t dC=A.getD (t-P.length) dC:=λt h1 h2=>by
  rw[<-gA _ (by omega),show P.length+(t-P.length)=t by omega]
 have AG:∀t,P.length+A.length<=t->t<P.length+A.length+B.length->(P++(A++(B++Q))).getD t dC=B.getD (t-(P.length+A.length)) dC:=λt h1 h2=>by
  rw[<-gB _ (by omega),show P.length+A.length+(t-(P.length+A.length))=t by omega]
 rw[lj]at hL;simp only[F8];rw[aj (x:=m-a) (by omega) (by omega),aj (x:=b-m) (by omega) (by omega)];by_cases h1:A.length=1
 ·-- one element ahead
  left;rw[cP (show m-a=1 by omega),j5];obtain⟨x,rfl⟩:∃x,A=[x]:=List.length_eq_one_iff.1 h1;simp only[kv]at *
  obtain⟨k,k1,k2,e0,k3,k4⟩:=jEj rec hS (by rw[lj];omega) (a:=P.length) (m:=P.length+1) (b:=P.length+1+B.length) (by rw[lj];omega) (by omega) (by rw[lj];omega) (λs t s1 s2 s3=>by
   rw[AG s s1 (by omega),AG t (by omega) s3];exact vC sB (by omega) (by omega))
  subst ha hm hb;rw[e0];simp only[j3];have tP:=gA 0 (by omega);rw[Nat.add_zero]at tP;have GK:([x]:bS).getD 0 dC=x:=rfl;rw[tP,GK]at k3 k4
  have hB1:∀y∈B.take (k-(P.length+1)),aq y<aq x:=λy hy=>by
   obtain⟨i,i1,i2,rfl⟩:=Hn hy;have:=k3 (P.length+1+i) (by omega) (by omega);rw[gB i i2]at this;exact this
  have Hp:∀y∈B.drop (k-(P.length+1)),¬aq y<aq x:=λy hy=>by
   obtain⟨i,i1,i2,rfl⟩:=Ho hy;have:=k4 (P.length+1+i) (by omega) (by omega);rw[gB i i2]at this;exact this
  have eZ:=jCS x _ _ hB1 Hp;have cE:=kf (k-(P.length+1)) B;have l2:=X3 rec (e:=(k:Int)) x (B.take (k-(P.length+1))) P (B.drop (k-(P.length+1))++Q) (by simp;omega) (by simp;omega);rw[show P++x::(B.take (k-(P.length+1))++(B.drop (k-(P.length+1))++Q))=P++([x]++(B++Q)) by rw[<-jd (B.take _),cE];rfl]at l2;rw[l2];simp only[j3];rw[cE]at eZ;rw[eZ];simp
 .rw[bW (show¬m-a=1 by omega),j6];by_cases h2:B.length=1
  .left;rw[cP (show b-m=1 by omega),j5];obtain⟨y,rfl⟩:∃x,B=[x]:=List.length_eq_one_iff.1 h2;simp only[kv]at *
   obtain⟨k,k1,k2,e0,k3,k4⟩:=jEk rec hS (by rw[lj];omega) (a:=P.length) (m:=P.length+A.length) (by rw[lj];omega) (by omega) (λs t s1 s2 s3=>by
    rw[AF s s1 (by omega),AF t (by omega) s3];exact vC sA (by omega) (by omega))
   subst ha hm hb;rw[e0];simp only[j3];have X6:=gB 0 (by omega);rw[Nat.add_zero]at X6;have hyy:([y]:bS).getD 0 dC=y:=rfl;rw[X6,hyy]at k3 k4
   have Eh:∀x∈A.take (k-P.length),¬aq y<aq x:=λx hx=>by
    obtain⟨i,i1,i2,rfl⟩:=Hn hx;have:=k3 (P.length+i) (by omega) (by omega);rw[gA i i2]at this;exact this
   have nY:∀x∈A.drop (k-P.length),aq y<aq x:=λx hx=>by
    obtain⟨i,i1,i2,rfl⟩:=Ho hx;have:=k4 (P.length+i) (by omega) (by omega);rw[gA i i2]at this;omega
   have eZ:=jAT y _ _ Eh nY;have cE:=kf (k-P.length) A;have l6:=X4 rec (i:=(k:Int)) y (A.drop (k-P.length)).reverse (P++A.take (k-P.length)) Q (by simp;omega) (by simp;omega);rw[ve,show (P++A.take (k-P.length))++(A.drop (k-P.length)++y::Q)=P++(A++([y]++Q)) by rw[jd,<-jd (A.take _),cE];rfl,show (((P++A.take (k-P.length)).length+(A.drop (k-P.length)).reverse.length:Nat):Int)=((P.length+A.length:Nat):Int) by simp;omega]at l6;rw[l6];simp only[j3];rw[cE]at eZ;rw[eZ];simp
  .rw[bW (show¬b-m=1 by omega),j6];obtain⟨M,hM⟩:∃M,M=(P.length+(P.length+A.length+B.length))/2:=⟨_,rfl⟩;have hh:=Hm (a:=P.length) (b:=P.length+A.length+B.length) (by omega);rw[<-hM]at hh;rw[ha,hb,hh];rw[aj (x:=(M:Int)+m) (by omega) (by omega)];rw[aj (x:=(M:Int)+m-1) (by omega) (by omega)];have X7:(M:Int)+m-1=((M+(P.length+A.length)-1:Nat):Int):=by omega
   have tail:∀k:Nat,P.length<=k->k<=P.length+A.length->M+(P.length+A.length)-k<=P.length+A.length+B.length->k<=M->
     (∀x∈A.drop (k-P.length),∀y∈B.take (M-k),aq y<aq x)->(∀x∈A.take (k-P.length),∀y∈B.drop (M-k),¬aq y<aq x)->
     ∀r:Option bS,r=cond (cond (decide ((k:Int)<m)) (decide (m<(M:Int)+m-(k:Int))) false) ((j1p (P++(A++(B++Q))) (k:Int) m ((M:Int)+m-(k:Int))).bind λd=>Eu rec d (P.length:Int) (k:Int) (M:Int) ((M:Int)+m-(k:Int)) b) (Eu rec (P++(A++(B++Q))) (P.length:Int) (k:Int) (M:Int) ((M:Int)+m-(k:Int)) b)->
     r=some (P++(fg aq A B++Q))\/(r=none/\C):=by
    intro k k1 k2 k3 k4 f1 f2 r hr;have X8:=kf (k-P.length) A;have X9:=kf (M-k) B;have lA1:(A.take (k-P.length)).length=k-P.length:=by simp;omega
    have lA2:(A.drop (k-P.length)).length=P.length+A.length-k:=by simp;omega
    have lB1:(B.take (M-k)).length=M-k:=by simp;omega
    have lB2:(B.drop (M-k)).length=B.length-(M-k):=by simp
    have sA1:=sA.sub (List.take_sublist (k-P.length) A);have sA2:=sA.sub (List.drop_sublist (k-P.length) A);have sB1:=sB.sub (List.take_sublist (M-k) B);have sB2:=sB.sub (List.drop_sublist (M-k) B);have Ya:=tp (key:=aq) _ _ _ _ f1 f2;rw[X8,X9]at Ya;generalize A.take (k-P.length)=A1 at *;generalize A.drop (k-P.length)=A2 at *;generalize B.take (M-k)=B1 at *
    generalize B.drop (M-k)=B2 at *
    subst X8 X9;simp only[ja]at *
    have fin:=jEl hR P A1 B1 A2 B2 Q sA1 sB1 sA2 sB2 (hS.of λx hx=>by
     simp only[jn]at hx ⊢;rcases hx with h|h|h|h|h|h<;>simp[h]) (by simp only[ja];omega) (by omega) (by omega) (a:=(P.length:Int)) (k:=(k:Int)) (mid:=(M:Int)) (e:=(M:Int)+m-(k:Int)) (b:=b) rfl (by omega) (by omega) (by omega) (by omega)
    rw[<-jd (fg aq A1 B1),<-Ya]at fin;rw[hr];by_cases yh:(k:Int)<m/\m<(M:Int)+m-(k:Int)
    .rw[ag yh.1,ag yh.2];simp only[j5];have ro:=jEi (P++A1) A2 B1 (B2++Q) (λh=>by have:=jp List.length h;simp only[qc]at this;omega) (λh=>by have:=jp List.length h;simp only[qc]at this;omega) (by simp;omega) (a:=(k:Int)) (m:=m) (b:=(M:Int)+m-(k:Int)) (by simp;omega) (by simp;omega) (by simp;omega);simp only[jd]at ro ⊢;rw[ro];simp only[j3];exact fin
    .have hc:cond (decide ((k:Int)<m)) (decide (m<(M:Int)+m-(k:Int))) false=false:=by
      by_cases h:(k:Int)<m
      .rw[ag h,j5];exact ah (λh'=>yh ⟨h,h'⟩)
      .rw[ah h,j6]
     rw[hc,j6]
     have he:A2++(B1++(B2++Q))=B1++(A2++(B2++Q)):=by
      by_cases h:(k:Int)<m
      .have:B1=[]:=kg.1 (by omega);subst this;rfl
      .have:A2=[]:=kg.1 (by omega);subst this;rfl
     simp only[jd]at fin ⊢;rw[he];exact fin
   have qU:∀s t,P.length<=s->s<=t->t<P.length+A.length->M+(P.length+A.length)-1-s<P.length+A.length+B.length->P.length+A.length<=M+(P.length+A.length)-1-t->¬aq ((P++(A++(B++Q))).getD (M+(P.length+A.length)-1-t) dC)<aq ((P++(A++(B++Q))).getD t dC)->¬aq ((P++(A++(B++Q))).getD (M+(P.length+A.length)-1-s) dC)<aq ((P++(A++(B++Q))).getD s dC):=by intro s t s1 s2 s3 s4 s5 h;rw[AF s s1 (by omega)];rw[AF t (by omega) s3]at h;rw[AG _ (by omega) s4];rw[AG _ s5 (by omega)]at h;have q1:=vC sA (i:=s-P.length) (j:=t-P.length) (by omega) (by omega);have q2:=vC sB (i:=M+(P.length+A.length)-1-t-(P.length+A.length)) (j:=M+(P.length+A.length)-1-s-(P.length+A.length)) (by omega) (by omega);omega
   have facts:∀lo hi k:Nat,P.length<=lo->hi<=P.length+A.length->hi<=M->M+(P.length+A.length)-lo<=P.length+A.length+B.length->lo<=k->k<=hi->(hi=M\/hi=P.length+A.length)->(lo=P.length\/M+(P.length+A.length)-lo=P.length+A.length+B.length)->
     (∀t,lo<=t->t<k->¬aq ((P++(A++(B++Q))).getD (M+(P.length+A.length)-1-t) dC)<aq ((P++(A++(B++Q))).getD t dC))->(∀t,k<=t->t<hi->¬¬aq ((P++(A++(B++Q))).getD (M+(P.length+A.length)-1-t) dC)<aq ((P++(A++(B++Q))).getD t dC))->
     (∀x∈A.drop (k-P.length),∀y∈B.take (M-k),aq y<aq x)/\(∀x∈A.take (k-P.length),∀y∈B.drop (M-k),¬aq y<aq x):=by
    intro lo hi k g1 g2 g3 g4 g5 g6 g7 g8 p1 p2;constructor
    .intro x hx y hy;obtain⟨i,i1,i2,rfl⟩:=Ho hx;obtain⟨j,j1,j2,rfl⟩:=Hn hy;have hkh:k<hi:=by omega
     have:=p2 k (jl _) hkh;rw[AF k (by omega) (by omega),AG _ (by omega) (by omega)]at this;have q1:=vC sA (i:=k-P.length) (j:=i) (by omega) (by omega);have q2:=vC sB (i:=j) (j:=M+(P.length+A.length)-1-k-(P.length+A.length)) (by omega) (by omega);omega
    .intro x hx y hy;obtain⟨i,i1,i2,rfl⟩:=Hn hx;obtain⟨j,j1,j2,rfl⟩:=Ho hy;have jG:lo<k:=by omega
     have:=p1 (k-1) (by omega) (by omega);rw[AF (k-1) (by omega) (by omega),AG _ (by omega) (by omega)]at this;have q1:=vC sA (i:=i) (j:=k-1-P.length) (by omega) (by omega);have q2:=vC sB (i:=M+(P.length+A.length)-1-(k-1)-(P.length+A.length)) (j:=j) (by omega) (by omega);omega
   by_cases Yb:m>(M:Int)
   .rw[ag Yb,j5];rw[<-hb,aj (x:=(M:Int)+m-b) (by omega) (by omega)];obtain⟨k,k1,k2,e0,k3,k4⟩:=X5 rec hS (by rw[lj];omega) (lo:=M+(P.length+A.length)-(P.length+A.length+B.length)) (hi:=M) (p:=M+(P.length+A.length)-1) (s1:=(P.length:Int)) (s2:=m) (s3:=b) (s18:=(M:Int)) (s19:=(M:Int)+m) (by omega) (by rw[lj];omega) (λc c1 c2=>by rw[lj];omega) (by omega) (λs t s1 s2 s3 h=>qU s t (by omega) s2 (by omega) (by omega) (by omega) h);obtain⟨f1,f2⟩:=facts (M+(P.length+A.length)-(P.length+A.length+B.length)) M k (by omega) (by omega) (by omega) (by omega) k1 k2 (.inl rfl) (.inr (by omega)) k3 k4;rw[X7,show (M:Int)+m-b=((M+(P.length+A.length)-(P.length+A.length+B.length):Nat):Int) by omega,e0];simp only[j3];rw[aj (x:=(M:Int)+m-(k:Int)) (by omega) (by omega)];exact tail k (by omega) (by omega) (by omega) (by omega) f1 f2 _ rfl
   .rw[ah Yb,j6];obtain⟨k,k1,k2,e0,k3,k4⟩:=X5 rec hS (by rw[lj];omega) (lo:=P.length) (hi:=P.length+A.length) (p:=M+(P.length+A.length)-1) (s1:=(P.length:Int)) (s2:=m) (s3:=b) (s18:=(M:Int)) (s19:=(M:Int)+m) (by omega) (by rw[lj];omega) (λc c1 c2=>by rw[lj];omega) (by omega) (λs t s1 s2 s3 h=>qU s t (by omega) s2 (by omega) (by omega) (by omega) h);obtain⟨f1,f2⟩:=facts P.length (P.length+A.length) k (by omega) (by omega) (by omega) (by omega) k1 k2 (.inr rfl) (.inl rfl) k3 k4;rw[X7];rw[show ((P.length+A.length:Nat):Int)=m from hm.symm]at e0;rw[<-hb,e0];simp only[j3];rw[aj (x:=(M:Int)+m-(k:Int)) (by omega) (by omega)];exact tail k (by omega) (by omega) (by omega) (by omega) f1 f2 _ rfl
end
theorem O6:∀(n s:Nat),Rk (λv0 v1 v2 v3=>oK j0x n (v0,v1,v2,v3)) (s+1) (n<=s)
 |0,s=>λP A B Q _ _ _ _ _ _ _ a m b _ _ _=> .inr ⟨rfl,kb _⟩
 |n+1,s=>λP A B Q hA hB sA sB hS hL hs a m b ha hm hb=>by
  by_cases h0:s=0
  .have:=kx.2 hA;have:=kx.2 hB;omega
  .have ih:=O6 n (s-1);rw[show s-1+1=s by omega]at ih;rcases jAV ih hA hB sA sB hS hL (by omega) ha hm hb with h|⟨h,hc⟩
   .exact .inl h
   .exact .inr ⟨h,by omega⟩
theorem Yc{P A B Q:bS}(hA:A≠[])(hB:B≠[])(sA:dI A)(sB:dI B)(hS:iz (P++(A++(B++Q))))(hL:(P++(A++(B++Q))).length<=1000000000)
  {a m b:Int}(ha:a=P.length)(hm:m=((P.length+A.length:Nat):Int))(hb:b=((P.length+A.length+B.length:Nat):Int)) :
  j1U (P++(A++(B++Q))) a m b=some (P++(fg aq A B++Q)):=by
 refine jyh ⟨A.length+B.length+1,?_⟩ λn y hy=>?_
 .rcases O6 (A.length+B.length+1) (A.length+B.length) P A B Q hA hB sA sB hS hL (by omega) a m b ha hm hb with h|⟨_,h⟩
  .exact h
  .omega
 .rcases O6 n (A.length+B.length) P A B Q hA hB sA sB hS hL (by omega) a m b ha hm hb with h|⟨h,_⟩
  .have h:oK j0x n (P++(A++(B++Q)),a,m,b)=_:=h;rw[h]at hy;simpa using hy.symm
  .have h:oK j0x n (P++(A++(B++Q)),a,m,b)=none:=h;rw[h]at hy;simp at hy
theorem Yd{x:kE}:∀{l:bS},(∀y∈l,¬aq x<aq y)->cA aq x l=l++[x]
 |[],_=>rfl
 |y::l,h=>by
  rw[cA,if_neg (h y (by simp)),Yd (l:=l) (λz hz=>h z (by simp[hz]))];rfl
theorem Ye{x y:kE}:∀{l:bS},aq x<aq y->cA aq x (l++[y])=cA aq x l++[y]
 |[],h=>by simp[cA,h]
 |z::l,h=>by
  rw[q8,cA,cA];split
  .rfl
  .rw[Ye h];rfl
theorem Yf{a n s8:Int}(x:kE)(P:bS)(ha:a=P.length):∀(rp mid:bS),dI rp.reverse->iz (P++(rp.reverse++x::mid))->(P++(rp.reverse++x::mid)).length<=1000000000->
  F3 a n s8 ((P.length+rp.length:Nat):Int) (P++(rp.reverse++x::mid))=some (a,n,s8,P++(cA aq x rp.reverse++mid))
 |[],mid,_,_,_=>by
  rw[Tt];simp only[j0D];rw[ah (by simp;omega),j6,aU];rfl
 |y::rp,mid,hs,hS,hL=>by
  have lj:(P++((y::rp).reverse++x::mid)).length=P.length+rp.length+mid.length+2:=by simp;omega
  rw[lj]at hL;have e1:P++((y::rp).reverse++x::mid)=(P++rp.reverse++[y])++x::mid:=by simp
  have e2:P++((y::rp).reverse++x::mid)=(P++rp.reverse)++y::(x::mid):=by simp
  have n1:(((P.length+(rp.length+1):Nat):Int)-1).toNat=(P++rp.reverse).length:=by simp;omega
  have n2:P.length+(rp.length+1)=(P++rp.reverse++[y]).length:=by simp
  have g1:(P++((y::rp).reverse++x::mid)).getD (((P.length+(rp.length+1):Nat):Int)-1).toNat dC=y:=by rw[e2,n1,vA]
  have g2:(P++((y::rp).reverse++x::mid)).getD (P.length+(rp.length+1)) dC=x:=by rw[e1,n2,vA]
  have s1:(P++((y::rp).reverse++x::mid)).set (P.length+(rp.length+1)) y=(P++rp.reverse)++y::(y::mid):=by rw[e1,n2,vB];simp
  have s2:((P++rp.reverse)++y::(y::mid)).set (((P.length+(rp.length+1):Nat):Int)-1).toNat x=P++(rp.reverse++x::(y::mid)):=by rw[n1,vB];simp
  have hx:=hS x (by simp);have hy:=hS y (by simp);have c:=Hl hx hy;unfold dC at g1 g2;rw[Tt];simp only[j0D,jm];rw[ag (by omega),aj (x:=((P.length+(rp.length+1):Nat):Int)-1) (by omega) (by omega),aR (show (0:Int)<=((P.length+(rp.length+1):Nat):Int) by omega) (by rw[lj];omega),aR (show (0:Int)<=((P.length+(rp.length+1):Nat):Int)-1 by omega) (by rw[lj];omega)];simp only[j5,j7,g1,g2];rw[c];simp only[j3];have dx:dI (rp.reverse++[y]):=by simpa using hs
  by_cases aA:aq x<aq y
  .rw[ag (by omega)];simp only[j5];rw[show (P++((y::rp).reverse++x::mid)).set (P.length+(rp.length+1)) (y.1,(y.2.1,(y.2.2.1,(y.2.2.2.1,y.2.2.2.2))))=_ from s1];rw[aR (show (0:Int)<=((P.length+(rp.length+1):Nat):Int)-1 by omega) (by simp;omega),j5];rw[show ((P++rp.reverse)++y::(y::mid)).set (((P.length+(rp.length+1):Nat):Int)-1).toNat (x.1,(x.2.1,(x.2.2.1,(x.2.2.2.1,x.2.2.2.2))))=_ from s2,aJ]
   have ih:=Yf (a:=a) (n:=n) (s8:=s8) x P ha rp (y::mid) (dx.sub (List.sublist_append_left _ _)) (hS.of λz hz=>by
    simp only[jn,List.mem_reverse,jg]at hz ⊢;rcases hz with h|h|h|h|h<;>simp[h]) (by simp;omega)
   rw[show ((P.length+(rp.length+1):Nat):Int)-1=((P.length+rp.length:Nat):Int) by omega,ih,List.reverse_cons,Ye aA];simp
  .rw[ah (by omega)];simp only[j6,aU]
   rw[Yd (l:=(y::rp).reverse) (λz hz=>by
    rw[List.reverse_cons]at hz;rcases jn.1 hz with h|h
    .have:=(qz.1 dx).2.2 z h y (by simp);omega
    .simp at h;subst h;exact aA)]
   simp
theorem Yg{a:Int}(P:bS)(ha:a=P.length)(Q:bS):∀(xs acc:bS),dI acc->acc≠[]->iz (P++(acc++(xs++Q)))->(P++(acc++(xs++Q))).length<=1000000000->
  F4 a ((P.length+acc.length+xs.length:Nat):Int) ((P.length+acc.length:Nat):Int) (P++(acc++(xs++Q)))=some (P++(xs.foldl (λacc x=>cA aq x acc) acc++Q))
 |[],acc,_,_,_,_=>by
  rw[Kq];simp only[j0p];rw[ah (by simp),j6,aU];rfl
 |x::xs,acc,hs,bq,hS,hL=>by
  have hp:=Er (key:=aq) x acc;have fm:=hp.length_eq;simp only[ja,jm]at hL fm;have l2:=Yf (a:=a) (n:=((P.length+acc.length+(x::xs).length:Nat):Int)) (s8:=((P.length+acc.length:Nat):Int)) x P ha acc.reverse (xs++Q) (by rw[ve];exact hs) (by rw[ve];exact hS) (by rw[ve];simp;omega);rw[ve,List.length_reverse]at l2
  have hsI:dI (cA aq x acc):=(O1 (key:=aq) (R:=λ_ _=>True) x acc (hs.imp λh=>by
   rcases Int.lt_or_eq_of_le h with h|h
   .exact .inl h
   .exact .inr ⟨h,trivial⟩) (λ_ _=>trivial)).imp (λh=>by omega)
  have ih:=Yg (a:=a) P ha Q xs (cA aq x acc) hsI (λh=>by rw[h]at fm;simp at fm) (hS.of λz hz=>by
   simp only[jn,jg,hp.mem_iff]at hz ⊢;rcases hz with h|(h|h)|h|h<;>simp[h]) (by simp only[ja,fm];omega)
  rw[Kq];simp only[j0p];rw[ag (by simp only[jm];omega),j5,show P++(acc++(x::xs++Q))=P++(acc++x::(xs++Q)) from rfl,l2];simp only[j3];rw[aj (x:=((P.length+acc.length:Nat):Int)+1) (by omega) (by omega),aJ];rw[fm]at ih;rw[show ((P.length+acc.length:Nat):Int)+1=((P.length+(acc.length+1):Nat):Int) by omega,show ((P.length+acc.length+(x::xs).length:Nat):Int)=((P.length+(acc.length+1)+xs.length:Nat):Int) by simp;omega];exact ih
theorem O7(P xs Q:bS)(hS:iz (P++(xs++Q)))(hL:(P++(xs++Q)).length<=1000000000){a b:Int}(ha:a=P.length)(hb:b=((P.length+xs.length:Nat):Int)) :
  j0O (P++(xs++Q)) a b=some (P++(bK aq xs++Q)):=by
 simp only[ja]at hL;simp only[j0O];rw[aj (x:=a+1) (by omega) (by omega)];match xs with
 |[]=>rw[Kq];simp only[j0p];rw[ah (by simp at hb;omega),j6,aU];rfl
 |x::xs=>have:=Yg (a:=a) P ha Q xs [x] (zt _ _) (by simp) hS (by simp only[ja,jm,qc]at hL ⊢;omega);rw[show b=((P.length+([x]:bS).length+xs.length:Nat):Int) by simp at hb ⊢;omega,show a+1=((P.length+([x]:bS).length:Nat):Int) by simp;omega];rw[show P++(x::xs++Q)=P++([x]++(xs++Q)) from rfl,this];rfl
theorem Hq(l:bS):dI (bK aq l):=jCT l
theorem jEm:∀(n:Nat)(l D:bS),l.length<=n->iz (D++l)->(D++l).length<=100000000->
  ∃d d':bS,∃r:Nat,CW ((D++l).length:Int) 20 (D.length:Int) ((D.length+20:Nat):Int) (D++l)=some (((D++l).length:Int),20,(r:Int),D++d)/\
   j0O (D++d) (r:Int) ((D++l).length:Int)=some (D++d')/\jQ aq 20 l d':=by
 intro n;induction n with
 |zero=>
  intro l D hn hS hL;have:l=[]:=kg.1 (by omega);subst this;simp only[k7]at *;refine⟨[],[],D.length,?_,?_,jQ.last [] (by simp)⟩
  .rw[Kr];simp only[j0I];rw[ah (by omega),j6,aU,k7]
  .have:=O7 D [] [] (by simpa using hS) (by simp;omega) (a:=(D.length:Int)) (b:=(D.length:Int)) rfl (by simp);simpa[bK]using this
 |succ n ih=>
  intro l D hn hS hL;simp only[ja]at hL;by_cases h20:l.length<20
  .refine⟨l,bK aq l,D.length,?_,?_,jQ.last l h20⟩
   .rw[Kr];simp only[j0I];rw[ah (by simp;omega),j6,aU]
   .have:=O7 D l [] (by simpa using hS) (by simp;omega) (a:=(D.length:Int)) (b:=((D++l).length:Int)) rfl (by simp);simpa using this
  .obtain⟨x,l',lZ,hx⟩:∃x l',l=x++l'/\x.length=20:=⟨l.take 20,l.drop 20,(kf ..).symm,by simp;omega⟩;subst lZ;simp only[ja]at *;have hi:=O7 D x l' hS (by simp;omega) (a:=(D.length:Int)) (b:=((D.length+20:Nat):Int)) rfl (by omega);have hlen:=tq (key:=aq) x;have sr:=rG (key:=aq) x
   obtain⟨d,d',r,e1,e2,hb⟩:=ih l' (D++bK aq x) (by omega) (hS.of λz hz=>by
    simp only[jn,sr.mem_iff]at hz ⊢;rcases hz with (h|h)|h<;>simp[h]) (by simp;omega)
   refine⟨bK aq x++d,bK aq x++d',r,?_,?_,jQ.more x l' d' hx hb⟩
   .rw[Kr];simp only[j0I];rw[ag (by omega),j5,hi];simp only[j3];rw[aj (x:=((D.length+20:Nat):Int)+20) (by omega) (by omega),aJ];simp only[jd,ja,hlen,hx]at e1 ⊢;rw[show ((D.length+20:Nat):Int)+20=((D.length+20+20:Nat):Int) by omega];rw[Nat.add_assoc D.length 20 l'.length]at e1;exact e1
   .simp only[jd,ja,hlen,hx]at e2 ⊢;rw[Nat.add_assoc D.length 20 l'.length]at e2;exact e2
theorem jEn{bs:Nat}(hbs:0<bs)(hbs2:bs<=100000000):∀(n:Nat)(l d D:bS),l.length<=n->jQ aq bs l d->iz (D++d)->(D++d).length<=100000000->
  ∃d1 d2:bS,∃r:Nat,CX ((D++d).length:Int) (bs:Int) (D.length:Int) ((D.length+2*bs:Nat):Int) (D++d)=some (((D++d).length:Int),(bs:Int),(r:Int),D++d1)/\
   jQ aq (2*bs) l d2/\((r+bs<(D++d).length/\j1U (D++d1) (r:Int) ((r+bs:Nat):Int) ((D++d).length:Int)=some (D++d2))\/((D++d).length<=r+bs/\d1=d2))/\r<=(D++d).length:=by
 intro n;induction n with
 |zero=>intro l d D hn hB hS hL;have:l=[]:=kg.1 (by omega);subst this;have hd:=hB.len;have:d=[]:=kg.1 (by simpa using hd);subst this;simp only[k7]at *;refine⟨[],[],D.length,?_,jQ.last [] (by simp;omega),.inr ⟨by omega,rfl⟩,jl _⟩;rw[Ks];simp only[j0J];rw[ah (by omega),j6,aU,k7]
 |succ n ih=>
  intro l d D hn hB hS hL;have nt:=hB.len;simp only[ja]at hL;by_cases aA:l.length<2*bs
  ·-- what is left: one block and a part of one
   have pN:∀d1:bS,d1=d->CX ((D++d).length:Int) (bs:Int) (D.length:Int) ((D.length+2*bs:Nat):Int) (D++d)=some (((D++d).length:Int),(bs:Int),(D.length:Int),D++d1):=λd1 h1=>by
    subst h1;rw[Ks];simp only[j0J];rw[ah (by simp;omega),j6,aU]
   refine⟨d,bK aq l,D.length,pN d rfl,jQ.last l aA,?_,by simp⟩;cases hB with
   |last _ h=>exact .inr ⟨by rw[ja,nt];omega,rfl⟩
   |more x l' d' hx hb=>
    have mI:=tq (key:=aq) x;cases hb with
    |more y _ _ hy _=>simp only[ja]at aA;omega
    |last _ h=>
     have gF:=tq (key:=aq) l';by_cases h0:l'=[]
     .subst h0;have h0:bK aq ([]:bS)=[]:=rfl;rw[h0];refine .inr ⟨by rw[k7,ja,mI];omega,by rw[k7,k7]⟩
     .have hp:=kx.2 h0;left;refine⟨by simp[mI,gF];omega,?_⟩;have sm:=Yc (P:=D) (A:=bK aq x) (B:=bK aq l') (Q:=[]) (λh=>by rw[h]at mI;simp at mI;omega) (λh=>by rw[h]at gF;simp at gF;omega) (Hq x) (Hq l') (by simpa using hS) (by simp[mI,gF];simp[mI,gF]at hL;omega) (a:=(D.length:Int)) (m:=((D.length+bs:Nat):Int)) (b:=((D++(bK aq x++bK aq l')).length:Int)) rfl (by rw[mI,hx]) (by simp;omega);simp only[k7]at sm;rw[sm,XV]
  .cases hB with
   |last _ h=>omega
   |more x l' d' hx hb=>
    have mI:=tq (key:=aq) x;cases hb with
    |last _ h=>simp only[ja]at aA;omega
    |more y l2 d2 hy eX=>
     have r6:=tq (key:=aq) y;simp only[ja]at *;have sm:=Yc (P:=D) (A:=bK aq x) (B:=bK aq y) (Q:=d2) (λh=>by rw[h]at mI;simp at mI;omega) (λh=>by rw[h]at r6;simp at r6;omega) (Hq x) (Hq y) hS (by simp;omega) (a:=(D.length:Int)) (m:=((D.length+bs:Nat):Int)) (b:=((D.length+2*bs:Nat):Int)) rfl (by omega) (by omega);rw[<-XV]at sm;have wi:=tq (key:=aq) (x++y);have hpz:=rG (key:=aq) (x++y);have sw:=rG (key:=aq) x;have sx:=rG (key:=aq) y;simp only[ja]at wi
     obtain⟨d1,d3,r,e1,hb3,hr,tg⟩:=ih l2 d2 (D++bK aq (x++y)) (by omega) eX (hS.of λz hz=>by
      simp only[jn,hpz.mem_iff,sw.mem_iff,sx.mem_iff]at hz ⊢;rcases hz with (h|h|h)|h<;>simp[h]) (by simp;omega)
     simp only[ja,wi,hx,hy,jd]at e1 hr tg;refine⟨bK aq (x++y)++d1,bK aq (x++y)++d3,r,?_,?_,?_,by rw[mI,r6,hx,hy];omega⟩
     .rw[Ks];simp only[j0J];rw[ag (by omega),aj (x:=(D.length:Int)+(bs:Int)) (by omega) (by omega),j5,show (D.length:Int)+(bs:Int)=((D.length+bs:Nat):Int) by omega,sm];simp only[j3];rw[aj (x:=2*(bs:Int)) (by omega) (by omega),aj (x:=((D.length+2*bs:Nat):Int)+2*(bs:Int)) (by omega) (by omega),aJ];dsimp only;rw[mI,r6,hx,hy,show ((D.length+2*bs:Nat):Int)+2*(bs:Int)=((D.length+(bs+bs)+2*bs:Nat):Int) by omega,show ((D.length+2*bs:Nat):Int)=((D.length+(bs+bs):Nat):Int) by omega,show ((D.length+(bs+(bs+d2.length)):Nat):Int)=((D.length+(bs+bs)+d2.length:Nat):Int) by omega];exact e1
     .have:=jQ.more (key:=aq) (n:=2*bs) (x++y) l2 d3 (by simp;omega) hb3;rwa[jd]at this
     .rw[mI,r6,hx,hy,show D.length+(bs+(bs+d2.length))=D.length+(bs+bs)+d2.length by omega];rcases hr with⟨h1,h2⟩|⟨h1,h2⟩
      .exact .inl ⟨h1,h2⟩
      .exact .inr ⟨h1,by rw[h2]⟩
theorem jEo{l:bS}(hl:l.length<=100000000):∀(n bs:Nat)(d:bS),0<bs->bs<=200000000->l.length-bs<=n->jQ aq bs l d->iz d->CY (l.length:Int) (bs:Int) d=some (bK aq l):=by
 intro n;induction n with
 |zero=>intro bs d h0 h1 hn hB hS;rw[TB];simp only[j16];rw[ah (by omega),j6,aU,hB.all (by omega)]
 |succ n ih=>
  intro bs d h0 h1 hn hB hS;have nt:=hB.len;rw[TB];simp only[j16];by_cases aA:bs<l.length
  .obtain⟨d1,d2,r,e1,Hp,hr,tg⟩:=jEn h0 (by omega) l.length l d [] (jl _) hB (by simpa using hS) (by simp;omega);simp only[jo,qc,ke]at e1 hr tg;rw[ag (by omega),aj (x:=2*(bs:Int)) (by omega) (by omega)];simp only[j5];rw[nt]at e1 hr tg;rw[show (2:Int)*(bs:Int)=((2*bs:Nat):Int) by omega,show (0:Int)=((0:Nat):Int) from rfl,e1];simp only[j3];rw[aj (x:=(r:Int)+(bs:Int)) (by omega) (by omega),aj (x:=(bs:Int)*2) (by omega) (by omega)]
   have P4:iz d2:=by
    have hp:∀{k:Nat}{a b:bS},jQ aq k a b->b.Perm a:=by
     intro k a b h;induction h with
     |last l _=>exact rG l
     |more x l d _ _ ih=>exact(rG x).append ih
    exact(hS.perm (hp hB).symm).perm (hp Hp)
   have Yh:=ih (2*bs) d2 (by omega) (by omega) (by omega) Hp P4;rcases hr with⟨g1,g2⟩|⟨g1,g2⟩
   .rw[ag (by omega),j5,show (r:Int)+(bs:Int)=((r+bs:Nat):Int) by omega,g2];simp only[j3,aJ];rw[show (bs:Int)*2=((2*bs:Nat):Int) by omega];exact Yh
   .rw[ah (by omega),j6,aJ];subst g2;dsimp only;rw[show (bs:Int)*2=((2*bs:Nat):Int) by omega];exact Yh
  .rw[ah (by omega),j6,aU,hB.all (by omega)]
theorem jx6{l:bS}(hS:iz l)(hl:l.length<=100000000):j0U l=some (bK aq l):=by
 obtain⟨d,d',r,e1,e2,hB⟩:=jEm l.length l [] (jl _) (by simpa using hS) (by simpa using hl);simp only[jo,qc,ke]at e1 e2
 have hp:∀{k:Nat}{a b:bS},jQ aq k a b->b.Perm a:=by
  intro k a b h;induction h with
  |last l _=>exact rG l
  |more x l d _ _ ih=>exact(rG x).append ih
 have e3:=jEo hl l.length 20 d' (by omega) (by omega) (by omega) hB (hS.perm (hp hB));simp only[j0U,j4v,show Int.ofNat l.length=(l.length:Int) from rfl];rw[show CW (l.length:Int) 20 0 20 l=_ from e1];simp only[j3,e2];rw[show CY (l.length:Int) 20 d'=_ from e3];rfl
end Go.Proofs.Pw
