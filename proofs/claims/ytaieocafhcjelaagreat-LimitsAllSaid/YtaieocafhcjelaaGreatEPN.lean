/- EG Oh; the Bs yT sort is the yT sort by the key. -/
import Derived.Test.YtaieocafhcjelaaGreatEPM
open Go Go.Lft
namespace Go.Proofs.Pw
theorem dD.sub{l r:bL}(h:dD l)(hs:r.Sublist l):dD r:=List.Pairwise.sublist hs h
def Rk(rec:bL->Int->Int->Int->Option bL)(s:Nat)(C:Prop):Prop:=
 ∀P A B Q:bL,A≠[]->B≠[]->dD A->dD B->iC (P++(A++(B++Q)))->(P++(A++(B++Q))).length<=1000000000->A.length+B.length<s->
  ∀a m b:Int,a=P.length->m=((P.length+A.length:Nat):Int)->b=((P.length+A.length+B.length:Nat):Int)->
  rec (P++(A++(B++Q))) a m b=some (P++(fj ah A B++Q))\/(rec (P++(A++(B++Q))) a m b=none/\C)
theorem jxs(A B:bL):(fj ah A B).Perm (A++B):=by
 have e:∀A B:bL,(fj ah A B).Perm (A++B):=by
  intro A;induction A with
  |nil=>intro B;exact List.Perm.refl _
  |cons a ra ih=>
   intro B;induction B with
   |nil=>rw[nu,ka]
   |cons b bs sw=>
    rw[mM];split
    .exact(sw.cons b).trans (List.perm_middle (l₁:=a::ra)).symm
    .exact(ih (b::bs)).cons a
 exact e A B
section
variable{rec:bL->Int->Int->Int->Option bL}{s:Nat}{C:Prop}(hR:Rk rec s C)
def EH(rec:bL->Int->Int->Int->Option bL)(D:bL)(a k mid e b:Int):Option bL:=
 cond (cond (decide (a<k)) (decide (k<mid)) false) (
 (rec D a k mid).bind λEI=>
 cond (cond (decide (mid<e)) (decide (e<b)) false) (
 (rec EI mid e b).bind λjI=>
 some jI) (
 some EI)) (
 cond (cond (decide (mid<e)) (decide (e<b)) false) (
 (rec D mid e b).bind λyU=>
 some yU) (
 some D))
include hR
theorem jzz(P A2 B2 Q:bL)(h3:dD A2)(h4:dD B2)(hS:iC (P++(A2++(B2++Q))))(hL:(P++(A2++(B2++Q))).length<=1000000000)(hs:A2.length+B2.length<s)
  {mid e b:Int}(ri:mid=P.length)(he:e=((P.length+A2.length:Nat):Int))(hb:b=((P.length+A2.length+B2.length:Nat):Int)) :
  (cond (cond (decide (mid<e)) (decide (e<b)) false) ((rec (P++(A2++(B2++Q))) mid e b).bind λjI=>some jI) (some (P++(A2++(B2++Q))))=some (P++(fj ah A2 B2++Q)))\/
  (cond (cond (decide (mid<e)) (decide (e<b)) false) ((rec (P++(A2++(B2++Q))) mid e b).bind λjI=>some jI) (some (P++(A2++(B2++Q))))=none/\C):=by
 match A2,B2 with
 |[],B2=>left;rw[al (by simp at he;omega)];rfl
 |x::A2,[]=>left;rw[al (show¬e<b by simp at he hb;omega)];cases decide (mid<e)<;>simp[nu]
 |x::A2,y::B2=>
  rw[aj (show mid<e by simp at he;omega),aj (show e<b by simp at he hb;omega)];simp only[j5];rcases hR P (x::A2) (y::B2) Q (by simp) (by simp) h3 h4 hS hL hs mid e b ri he hb with h|⟨h,hc⟩
  .left;rw[h];rfl
  .right;rw[h];exact⟨rfl,hc⟩
theorem jAX(P A1 B1 A2 B2 Q:bL)(h1:dD A1)(h2:dD B1)(h3:dD A2)(h4:dD B2)(hS:iC (P++(A1++(B1++(A2++(B2++Q))))))(hL:(P++(A1++(B1++(A2++(B2++Q))))).length<=1000000000)
  (l7:A1.length+B1.length<s)(nJ:A2.length+B2.length<s)
  {a k mid e b:Int}(ha:a=P.length)(hk:k=((P.length+A1.length:Nat):Int))(ri:mid=((P.length+A1.length+B1.length:Nat):Int))(he:e=((P.length+A1.length+B1.length+A2.length:Nat):Int))(hb:b=((P.length+A1.length+B1.length+A2.length+B2.length:Nat):Int)) :
  EH rec (P++(A1++(B1++(A2++(B2++Q))))) a k mid e b=some (P++(fj ah A1 B1++(fj ah A2 B2++Q)))\/(EH rec (P++(A1++(B1++(A2++(B2++Q))))) a k mid e b=none/\C):=by
 have hp:=jxs A1 B1;have fv:=hp.length_eq;have dY:∀x,x∈fj ah A1 B1↔x∈A1++B1:=λx=>hp.mem_iff;simp only[ja]at fv hL
 have f2:=jzz hR (P++fj ah A1 B1) A2 B2 Q h3 h4 (hS.of λx hx=>by
  simp only[jn,dY]at hx ⊢;rcases hx with (h|h|h)|h|h|h<;>simp[h]) (by simp only[ja,fv];omega) nJ (mid:=mid) (e:=e) (b:=b) (by simp only[ja,fv];omega) (by simp only[ja,fv];omega) (by simp only[ja,fv];omega)
 simp only[jd]at f2;unfold EH;have key:∀D:bL,D=P++(fj ah A1 B1++(A2++(B2++Q)))->(cond (cond (decide (mid<e)) (decide (e<b)) false) ((rec D mid e b).bind λjI=>some jI) (some D)=some (P++(fj ah A1 B1++(fj ah A2 B2++Q))))\/(cond (cond (decide (mid<e)) (decide (e<b)) false) ((rec D mid e b).bind λjI=>some jI) (some D)=none/\C):=λD hD=>by rw[hD];exact f2
 match A1,B1 with
 |[],B1=>rw[al (show¬a<k by simp at hk;omega)];exact key _ rfl
 |x::A1,[]=>
  rw[al (show¬k<mid by simp at hk ri;omega)];cases decide (a<k)
  .exact key _ (by rw[nu,jl])
  .exact key _ (by rw[nu,jl])
 |x::A1,y::B1=>
  rw[aj (show a<k by simp at hk;omega),aj (show k<mid by simp at hk ri;omega)];simp only[j5];rcases hR P (x::A1) (y::B1) (A2++(B2++Q)) (by simp) (by simp) h1 h2 hS (by simp only[ja];omega) l7 a k mid ha hk ri with h|⟨h,hc⟩
  .rw[h];simp only[j3];exact key _ rfl
  .right;rw[h];exact⟨rfl,hc⟩
theorem jxt{P A B Q:bL}(hA:A≠[])(hB:B≠[])(sA:dD A)(sB:dD B)(hS:iC (P++(A++(B++Q))))(hL:(P++(A++(B++Q))).length<=1000000000)(hs:A.length+B.length<=s)
  {a m b:Int}(ha:a=P.length)(hm:m=((P.length+A.length:Nat):Int))(hb:b=((P.length+A.length+B.length:Nat):Int)) :
  rU rec (P++(A++(B++Q))) a m b=some (P++(fj ah A B++Q))\/(rU rec (P++(A++(B++Q))) a m b=none/\C):=by
 have VW:=qa.2 hA;have hBl:=qa.2 hB;have kW:(P++(A++(B++Q))).length=P.length+A.length+B.length+Q.length:=by simp;omega
 have gA:∀i,i<A.length->(P++(A++(B++Q))).getD (P.length+i) dC=A.getD i dC:=λi hi=>Wz P A (B++Q) i hi
 have gB:∀i,i<B.length->(P++(A++(B++Q))).getD (P.length+A.length+i) dC=B.getD i dC:=λi hi=>by
  have:=Wz (P++A) B Q i hi;simp only[jd,ja]at this;exact this
 have Bt:∀t,P.length<=t->t<P.length+A.length->(P++(A++(B++Q))).getD t dC=A.getD (t-P.length) dC:=λt h1 h2=>by
  rw[<-gA _ (by omega),show P.length+(t-P.length)=t by omega]
 have Bu:∀t,P.length+A.length<=t->t<P.length+A.length+B.length->(P++(A++(B++Q))).getD t dC=B.getD (t-(P.length+A.length)) dC:=λt h1 h2=>by
  rw[<-gB _ (by omega),show P.length+A.length+(t-(P.length+A.length))=t by omega]
 rw[kW]at hL;simp only[rU];rw[ai (x:=m-a) (by omega) (by omega),ai (x:=b-m) (by omega) (by omega)];by_cases h1:A.length=1
 ·-- one element ahead
  left;rw[ee (show m-a=1 by omega),j5];obtain⟨x,rfl⟩:∃x,A=[x]:=List.length_eq_one_iff.1 h1;simp only[ku]at *
  obtain⟨k,k1,k2,e0,k3,k4⟩:=jAV rec hS (by rw[kW];omega) (a:=P.length) (m:=P.length+1) (b:=P.length+1+B.length) (by rw[kW];omega) (by omega) (by rw[kW];omega) (λs t s1 s2 s3=>by
   rw[Bu s s1 (by omega),Bu t (by omega) s3];exact wg sB (by omega) (by omega))
  subst ha hm hb;rw[e0];simp only[j3];have rE:=gA 0 (by omega);rw[Nat.add_zero]at rE;have GR:([x]:bL).getD 0 dC=x:=rfl;rw[rE,GR]at k3 k4
  have hB1:∀y∈B.take (k-(P.length+1)),ah y<ah x:=λy hy=>by
   obtain⟨i,i1,i2,rfl⟩:=Hn hy;have:=k3 (P.length+1+i) (by omega) (by omega);rw[gB i i2]at this;exact this
  have Hp:∀y∈B.drop (k-(P.length+1)),¬ah y<ah x:=λy hy=>by
   obtain⟨i,i1,i2,rfl⟩:=Ho hy;have:=k4 (P.length+1+i) (by omega) (by omega);rw[gB i i2]at this;exact this
  have gj:=jzw x _ _ hB1 Hp;have cH:=ki (k-(P.length+1)) B;have l2:=WD rec (e:=(k:Int)) x (B.take (k-(P.length+1))) P (B.drop (k-(P.length+1))++Q) (by simp;omega) (by simp;omega);rw[show P++x::(B.take (k-(P.length+1))++(B.drop (k-(P.length+1))++Q))=P++([x]++(B++Q)) by rw[<-jd (B.take _),cH];rfl]at l2;rw[l2];simp only[j3];rw[cH]at gj;rw[gj];simp
 .rw[cP (show¬m-a=1 by omega),j6];by_cases h2:B.length=1
  .left;rw[ee (show b-m=1 by omega),j5];obtain⟨y,rfl⟩:∃x,B=[x]:=List.length_eq_one_iff.1 h2;simp only[ku]at *
   obtain⟨k,k1,k2,e0,k3,k4⟩:=jAW rec hS (by rw[kW];omega) (a:=P.length) (m:=P.length+A.length) (by rw[kW];omega) (by omega) (λs t s1 s2 s3=>by
    rw[Bt s s1 (by omega),Bt t (by omega) s3];exact wg sA (by omega) (by omega))
   subst ha hm hb;rw[e0];simp only[j3];have WH:=gB 0 (by omega);rw[Nat.add_zero]at WH;have hyy:([y]:bL).getD 0 dC=y:=rfl;rw[WH,hyy]at k3 k4
   have Ew:∀x∈A.take (k-P.length),¬ah y<ah x:=λx hx=>by
    obtain⟨i,i1,i2,rfl⟩:=Hn hx;have:=k3 (P.length+i) (by omega) (by omega);rw[gA i i2]at this;exact this
   have oq:∀x∈A.drop (k-P.length),ah y<ah x:=λx hx=>by
    obtain⟨i,i1,i2,rfl⟩:=Ho hx;have:=k4 (P.length+i) (by omega) (by omega);rw[gA i i2]at this;omega
   have gj:=jxr y _ _ Ew oq;have cH:=ki (k-P.length) A;have l6:=WE rec (i:=(k:Int)) y (A.drop (k-P.length)).reverse (P++A.take (k-P.length)) Q (by simp;omega) (by simp;omega);rw[zw,show (P++A.take (k-P.length))++(A.drop (k-P.length)++y::Q)=P++(A++([y]++Q)) by rw[jd,<-jd (A.take _),cH];rfl,show (((P++A.take (k-P.length)).length+(A.drop (k-P.length)).reverse.length:Nat):Int)=((P.length+A.length:Nat):Int) by simp;omega]at l6;rw[l6];simp only[j3];rw[cH]at gj;rw[gj];simp
  .rw[cP (show¬b-m=1 by omega),j6];obtain⟨M,hM⟩:∃M,M=(P.length+(P.length+A.length+B.length))/2:=⟨_,rfl⟩;have hh:=Hm (a:=P.length) (b:=P.length+A.length+B.length) (by omega);rw[<-hM]at hh;rw[ha,hb,hh];rw[ai (x:=(M:Int)+m) (by omega) (by omega)];rw[ai (x:=(M:Int)+m-1) (by omega) (by omega)];have WI:(M:Int)+m-1=((M+(P.length+A.length)-1:Nat):Int):=by omega
   have tail:∀k:Nat,P.length<=k->k<=P.length+A.length->M+(P.length+A.length)-k<=P.length+A.length+B.length->k<=M->
     (∀x∈A.drop (k-P.length),∀y∈B.take (M-k),ah y<ah x)->(∀x∈A.take (k-P.length),∀y∈B.drop (M-k),¬ah y<ah x)->
     ∀r:Option bL,r=cond (cond (decide ((k:Int)<m)) (decide (m<(M:Int)+m-(k:Int))) false) ((j0R (P++(A++(B++Q))) (k:Int) m ((M:Int)+m-(k:Int))).bind λd=>EH rec d (P.length:Int) (k:Int) (M:Int) ((M:Int)+m-(k:Int)) b) (EH rec (P++(A++(B++Q))) (P.length:Int) (k:Int) (M:Int) ((M:Int)+m-(k:Int)) b)->
     r=some (P++(fj ah A B++Q))\/(r=none/\C):=by
    intro k k1 k2 k3 k4 f1 f2 r hr;have WJ:=ki (k-P.length) A;have WK:=ki (M-k) B;have lA1:(A.take (k-P.length)).length=k-P.length:=by simp;omega
    have lA2:(A.drop (k-P.length)).length=P.length+A.length-k:=by simp;omega
    have lB1:(B.take (M-k)).length=M-k:=by simp;omega
    have lB2:(B.drop (M-k)).length=B.length-(M-k):=by simp
    have sA1:=sA.sub (List.take_sublist (k-P.length) A);have sA2:=sA.sub (List.drop_sublist (k-P.length) A);have sB1:=sB.sub (List.take_sublist (M-k) B);have sB2:=sB.sub (List.drop_sublist (M-k) B);have WM:=tV (key:=ah) _ _ _ _ f1 f2;rw[WJ,WK]at WM;generalize A.take (k-P.length)=A1 at *;generalize A.drop (k-P.length)=A2 at *;generalize B.take (M-k)=B1 at *
    generalize B.drop (M-k)=B2 at *
    subst WJ WK;simp only[ja]at *
    have fin:=jAX hR P A1 B1 A2 B2 Q sA1 sB1 sA2 sB2 (hS.of λx hx=>by
     simp only[jn]at hx ⊢;rcases hx with h|h|h|h|h|h<;>simp[h]) (by simp only[ja];omega) (by omega) (by omega) (a:=(P.length:Int)) (k:=(k:Int)) (mid:=(M:Int)) (e:=(M:Int)+m-(k:Int)) (b:=b) rfl (by omega) (by omega) (by omega) (by omega)
    rw[<-jd (fj ah A1 B1),<-WM]at fin;rw[hr];by_cases yV:(k:Int)<m/\m<(M:Int)+m-(k:Int)
    .rw[aj yV.1,aj yV.2];simp only[j5];have ro:=jAU (P++A1) A2 B1 (B2++Q) (λh=>by have:=ji List.length h;simp only[kq]at this;omega) (λh=>by have:=ji List.length h;simp only[kq]at this;omega) (by simp;omega) (a:=(k:Int)) (m:=m) (b:=(M:Int)+m-(k:Int)) (by simp;omega) (by simp;omega) (by simp;omega);simp only[jd]at ro ⊢;rw[ro];simp only[j3];exact fin
    .have hc:cond (decide ((k:Int)<m)) (decide (m<(M:Int)+m-(k:Int))) false=false:=by
      by_cases h:(k:Int)<m
      .rw[aj h,j5];exact al (λh'=>yV ⟨h,h'⟩)
      .rw[al h,j6]
     rw[hc,j6]
     have he:A2++(B1++(B2++Q))=B1++(A2++(B2++Q)):=by
      by_cases h:(k:Int)<m
      .have:B1=[]:=km.1 (by omega);subst this;rfl
      .have:A2=[]:=km.1 (by omega);subst this;rfl
     simp only[jd]at fin ⊢;rw[he];exact fin
   have rj:∀s t,P.length<=s->s<=t->t<P.length+A.length->M+(P.length+A.length)-1-s<P.length+A.length+B.length->P.length+A.length<=M+(P.length+A.length)-1-t->¬ah ((P++(A++(B++Q))).getD (M+(P.length+A.length)-1-t) dC)<ah ((P++(A++(B++Q))).getD t dC)->¬ah ((P++(A++(B++Q))).getD (M+(P.length+A.length)-1-s) dC)<ah ((P++(A++(B++Q))).getD s dC):=by intro s t s1 s2 s3 s4 s5 h;rw[Bt s s1 (by omega)];rw[Bt t (by omega) s3]at h;rw[Bu _ (by omega) s4];rw[Bu _ s5 (by omega)]at h;have q1:=wg sA (i:=s-P.length) (j:=t-P.length) (by omega) (by omega);have q2:=wg sB (i:=M+(P.length+A.length)-1-t-(P.length+A.length)) (j:=M+(P.length+A.length)-1-s-(P.length+A.length)) (by omega) (by omega);omega
   have facts:∀lo hi k:Nat,P.length<=lo->hi<=P.length+A.length->hi<=M->M+(P.length+A.length)-lo<=P.length+A.length+B.length->lo<=k->k<=hi->(hi=M\/hi=P.length+A.length)->(lo=P.length\/M+(P.length+A.length)-lo=P.length+A.length+B.length)->
     (∀t,lo<=t->t<k->¬ah ((P++(A++(B++Q))).getD (M+(P.length+A.length)-1-t) dC)<ah ((P++(A++(B++Q))).getD t dC))->(∀t,k<=t->t<hi->¬¬ah ((P++(A++(B++Q))).getD (M+(P.length+A.length)-1-t) dC)<ah ((P++(A++(B++Q))).getD t dC))->
     (∀x∈A.drop (k-P.length),∀y∈B.take (M-k),ah y<ah x)/\(∀x∈A.take (k-P.length),∀y∈B.drop (M-k),¬ah y<ah x):=by
    intro lo hi k g1 g2 g3 g4 g5 g6 g7 g8 p1 p2;constructor
    .intro x hx y hy;obtain⟨i,i1,i2,rfl⟩:=Ho hx;obtain⟨j,j1,j2,rfl⟩:=Hn hy;have hkh:k<hi:=by omega
     have:=p2 k (jg _) hkh;rw[Bt k (by omega) (by omega),Bu _ (by omega) (by omega)]at this;have q1:=wg sA (i:=k-P.length) (j:=i) (by omega) (by omega);have q2:=wg sB (i:=j) (j:=M+(P.length+A.length)-1-k-(P.length+A.length)) (by omega) (by omega);omega
    .intro x hx y hy;obtain⟨i,i1,i2,rfl⟩:=Hn hx;obtain⟨j,j1,j2,rfl⟩:=Ho hy;have jB:lo<k:=by omega
     have:=p1 (k-1) (by omega) (by omega);rw[Bt (k-1) (by omega) (by omega),Bu _ (by omega) (by omega)]at this;have q1:=wg sA (i:=i) (j:=k-1-P.length) (by omega) (by omega);have q2:=wg sB (i:=M+(P.length+A.length)-1-(k-1)-(P.length+A.length)) (j:=j) (by omega) (by omega);omega
   by_cases WN:m>(M:Int)
   .rw[aj WN,j5];rw[<-hb,ai (x:=(M:Int)+m-b) (by omega) (by omega)];obtain⟨k,k1,k2,e0,k3,k4⟩:=WG rec hS (by rw[kW];omega) (lo:=M+(P.length+A.length)-(P.length+A.length+B.length)) (hi:=M) (p:=M+(P.length+A.length)-1) (s1:=(P.length:Int)) (s2:=m) (s3:=b) (s18:=(M:Int)) (s19:=(M:Int)+m) (by omega) (by rw[kW];omega) (λc c1 c2=>by rw[kW];omega) (by omega) (λs t s1 s2 s3 h=>rj s t (by omega) s2 (by omega) (by omega) (by omega) h);obtain⟨f1,f2⟩:=facts (M+(P.length+A.length)-(P.length+A.length+B.length)) M k (by omega) (by omega) (by omega) (by omega) k1 k2 (.inl rfl) (.inr (by omega)) k3 k4;rw[WI,show (M:Int)+m-b=((M+(P.length+A.length)-(P.length+A.length+B.length):Nat):Int) by omega,e0];simp only[j3];rw[ai (x:=(M:Int)+m-(k:Int)) (by omega) (by omega)];exact tail k (by omega) (by omega) (by omega) (by omega) f1 f2 _ rfl
   .rw[al WN,j6];obtain⟨k,k1,k2,e0,k3,k4⟩:=WG rec hS (by rw[kW];omega) (lo:=P.length) (hi:=P.length+A.length) (p:=M+(P.length+A.length)-1) (s1:=(P.length:Int)) (s2:=m) (s3:=b) (s18:=(M:Int)) (s19:=(M:Int)+m) (by omega) (by rw[kW];omega) (λc c1 c2=>by rw[kW];omega) (by omega) (λs t s1 s2 s3 h=>rj s t (by omega) s2 (by omega) (by omega) (by omega) h);obtain⟨f1,f2⟩:=facts P.length (P.length+A.length) k (by omega) (by omega) (by omega) (by omega) k1 k2 (.inr rfl) (.inl rfl) k3 k4;rw[WI];rw[show ((P.length+A.length:Nat):Int)=m from hm.symm]at e0;rw[<-hb,e0];simp only[j3];rw[ai (x:=(M:Int)+m-(k:Int)) (by omega) (by omega)];exact tail k (by omega) (by omega) (by omega) (by omega) f1 f2 _ rfl
end
theorem Oi:∀(n s:Nat),Rk (λv0 v1 v2 v3=>kL j0i n (v0,v1,v2,v3)) (s+1) (n<=s)
 |0,s=>λP A B Q _ _ _ _ _ _ _ a m b _ _ _=> .inr ⟨rfl,kc _⟩
 |n+1,s=>λP A B Q hA hB sA sB hS hL hs a m b ha hm hb=>by
  by_cases h0:s=0
  .have:=qa.2 hA;have:=qa.2 hB;omega
  .have ih:=Oi n (s-1);rw[show s-1+1=s by omega]at ih;rcases jxt ih hA hB sA sB hS hL (by omega) ha hm hb with h|⟨h,hc⟩
   .exact .inl h
   .exact .inr ⟨h,by omega⟩
theorem WO{P A B Q:bL}(hA:A≠[])(hB:B≠[])(sA:dD A)(sB:dD B)(hS:iC (P++(A++(B++Q))))(hL:(P++(A++(B++Q))).length<=1000000000)
  {a m b:Int}(ha:a=P.length)(hm:m=((P.length+A.length:Nat):Int))(hb:b=((P.length+A.length+B.length:Nat):Int)) :
  j1i (P++(A++(B++Q))) a m b=some (P++(fj ah A B++Q)):=by
 refine Ru ⟨A.length+B.length+1,?_⟩ λn y hy=>?_
 .rcases Oi (A.length+B.length+1) (A.length+B.length) P A B Q hA hB sA sB hS hL (by omega) a m b ha hm hb with h|⟨_,h⟩
  .exact h
  .omega
 .rcases Oi n (A.length+B.length) P A B Q hA hB sA sB hS hL (by omega) a m b ha hm hb with h|⟨h,_⟩
  .have h:kL j0i n (P++(A++(B++Q)),a,m,b)=_:=h;rw[h]at hy;simpa using hy.symm
  .have h:kL j0i n (P++(A++(B++Q)),a,m,b)=none:=h;rw[h]at hy;simp at hy
theorem WQ{x:lg}:∀{l:bL},(∀y∈l,¬ah x<ah y)->cm ah x l=l++[x]
 |[],_=>rfl
 |y::l,h=>by
  rw[cm,if_neg (h y (by simp)),WQ (l:=l) (λz hz=>h z (by simp[hz]))];rfl
theorem WR{x y:lg}:∀{l:bL},ah x<ah y->cm ah x (l++[y])=cm ah x l++[y]
 |[],h=>by simp[cm,h]
 |z::l,h=>by
  rw[qd,cm,cm];split
  .rfl
  .rw[WR h];rfl
theorem WS{a n s8:Int}(x:lg)(P:bL)(ha:a=P.length):∀(rp mid:bL),dD rp.reverse->iC (P++(rp.reverse++x::mid))->(P++(rp.reverse++x::mid)).length<=1000000000->
  AS a n s8 ((P.length+rp.length:Nat):Int) (P++(rp.reverse++x::mid))=some (a,n,s8,P++(cm ah x rp.reverse++mid))
 |[],mid,_,_,_=>by
  rw[SR];simp only[j13];rw[al (by simp;omega),j6,aW];rfl
 |y::rp,mid,hs,hS,hL=>by
  have kW:(P++((y::rp).reverse++x::mid)).length=P.length+rp.length+mid.length+2:=by simp;omega
  rw[kW]at hL;have e1:P++((y::rp).reverse++x::mid)=(P++rp.reverse++[y])++x::mid:=by simp
  have e2:P++((y::rp).reverse++x::mid)=(P++rp.reverse)++y::(x::mid):=by simp
  have n1:(((P.length+(rp.length+1):Nat):Int)-1).toNat=(P++rp.reverse).length:=by simp;omega
  have n2:P.length+(rp.length+1)=(P++rp.reverse++[y]).length:=by simp
  have g1:(P++((y::rp).reverse++x::mid)).getD (((P.length+(rp.length+1):Nat):Int)-1).toNat dC=y:=by rw[e2,n1,wc]
  have g2:(P++((y::rp).reverse++x::mid)).getD (P.length+(rp.length+1)) dC=x:=by rw[e1,n2,wc]
  have s1:(P++((y::rp).reverse++x::mid)).set (P.length+(rp.length+1)) y=(P++rp.reverse)++y::(y::mid):=by rw[e1,n2,we];simp
  have s2:((P++rp.reverse)++y::(y::mid)).set (((P.length+(rp.length+1):Nat):Int)-1).toNat x=P++(rp.reverse++x::(y::mid)):=by rw[n1,we];simp
  have hx:=hS x (by simp);have hy:=hS y (by simp);have c:=Hl hx hy;unfold dC at g1 g2;rw[SR];simp only[j13,jk];rw[aj (by omega),ai (x:=((P.length+(rp.length+1):Nat):Int)-1) (by omega) (by omega),aX (show (0:Int)<=((P.length+(rp.length+1):Nat):Int) by omega) (by rw[kW];omega),aX (show (0:Int)<=((P.length+(rp.length+1):Nat):Int)-1 by omega) (by rw[kW];omega)];simp only[j5,j7,g1,g2];rw[c];simp only[j3];have dr:dD (rp.reverse++[y]):=by simpa using hs
  by_cases aq:ah x<ah y
  .rw[aj (by omega)];simp only[j5];rw[show (P++((y::rp).reverse++x::mid)).set (P.length+(rp.length+1)) (y.1,(y.2.1,(y.2.2.1,(y.2.2.2.1,y.2.2.2.2))))=_ from s1];rw[aX (show (0:Int)<=((P.length+(rp.length+1):Nat):Int)-1 by omega) (by simp;omega),j5];rw[show ((P++rp.reverse)++y::(y::mid)).set (((P.length+(rp.length+1):Nat):Int)-1).toNat (x.1,(x.2.1,(x.2.2.1,(x.2.2.2.1,x.2.2.2.2))))=_ from s2,aJ]
   have ih:=WS (a:=a) (n:=n) (s8:=s8) x P ha rp (y::mid) (dr.sub (List.sublist_append_left _ _)) (hS.of λz hz=>by
    simp only[jn,List.mem_reverse,je]at hz ⊢;rcases hz with h|h|h|h|h<;>simp[h]) (by simp;omega)
   rw[show ((P.length+(rp.length+1):Nat):Int)-1=((P.length+rp.length:Nat):Int) by omega,ih,List.reverse_cons,WR aq];simp
  .rw[al (by omega)];simp only[j6,aW]
   rw[WQ (l:=(y::rp).reverse) (λz hz=>by
    rw[List.reverse_cons]at hz;rcases jn.1 hz with h|h
    .have:=(qh.1 dr).2.2 z h y (by simp);omega
    .simp at h;subst h;exact aq)]
   simp
theorem WT{a:Int}(P:bL)(ha:a=P.length)(Q:bL):∀(xs acc:bL),dD acc->acc≠[]->iC (P++(acc++(xs++Q)))->(P++(acc++(xs++Q))).length<=1000000000->
  AU a ((P.length+acc.length+xs.length:Nat):Int) ((P.length+acc.length:Nat):Int) (P++(acc++(xs++Q)))=some (P++(xs.foldl (λacc x=>cm ah x acc) acc++Q))
 |[],acc,_,_,_,_=>by
  rw[Kr];simp only[j0e];rw[al (by simp),j6,aW];rfl
 |x::xs,acc,hs,ba,hS,hL=>by
  have hp:=EE (key:=ah) x acc;have fv:=hp.length_eq;simp only[ja,jk]at hL fv;have l2:=WS (a:=a) (n:=((P.length+acc.length+(x::xs).length:Nat):Int)) (s8:=((P.length+acc.length:Nat):Int)) x P ha acc.reverse (xs++Q) (by rw[zw];exact hs) (by rw[zw];exact hS) (by rw[zw];simp;omega);rw[zw,List.length_reverse]at l2
  have hsI:dD (cm ah x acc):=(Od (key:=ah) (R:=λ_ _=>True) x acc (hs.imp λh=>by
   rcases Int.lt_or_eq_of_le h with h|h
   .exact .inl h
   .exact .inr ⟨h,trivial⟩) (λ_ _=>trivial)).imp (λh=>by omega)
  have ih:=WT (a:=a) P ha Q xs (cm ah x acc) hsI (λh=>by rw[h]at fv;simp at fv) (hS.of λz hz=>by
   simp only[jn,je,hp.mem_iff]at hz ⊢;rcases hz with h|(h|h)|h|h<;>simp[h]) (by simp only[ja,fv];omega)
  rw[Kr];simp only[j0e];rw[aj (by simp only[jk];omega),j5,show P++(acc++(x::xs++Q))=P++(acc++x::(xs++Q)) from rfl,l2];simp only[j3];rw[ai (x:=((P.length+acc.length:Nat):Int)+1) (by omega) (by omega),aJ];rw[fv]at ih;rw[show ((P.length+acc.length:Nat):Int)+1=((P.length+(acc.length+1):Nat):Int) by omega,show ((P.length+acc.length+(x::xs).length:Nat):Int)=((P.length+(acc.length+1)+xs.length:Nat):Int) by simp;omega];exact ih
theorem Oj(P xs Q:bL)(hS:iC (P++(xs++Q)))(hL:(P++(xs++Q)).length<=1000000000){a b:Int}(ha:a=P.length)(hb:b=((P.length+xs.length:Nat):Int)) :
  j0p (P++(xs++Q)) a b=some (P++(br ah xs++Q)):=by
 simp only[ja]at hL;simp only[j0p];rw[ai (x:=a+1) (by omega) (by omega)];match xs with
 |[]=>rw[Kr];simp only[j0e];rw[al (by simp at hb;omega),j6,aW];rfl
 |x::xs=>have:=WT (a:=a) P ha Q xs [x] (zg _ _) (by simp) hS (by simp only[ja,jk,kq]at hL ⊢;omega);rw[show b=((P.length+([x]:bL).length+xs.length:Nat):Int) by simp at hb ⊢;omega,show a+1=((P.length+([x]:bL).length:Nat):Int) by simp;omega];rw[show P++(x::xs++Q)=P++([x]++(xs++Q)) from rfl,this];rfl
theorem Hq(l:bL):dD (br ah l):=jzy l
theorem jAY:∀(n:Nat)(l D:bL),l.length<=n->iC (D++l)->(D++l).length<=100000000->
  ∃d d':bL,∃r:Nat,yn ((D++l).length:Int) 20 (D.length:Int) ((D.length+20:Nat):Int) (D++l)=some (((D++l).length:Int),20,(r:Int),D++d)/\
   j0p (D++d) (r:Int) ((D++l).length:Int)=some (D++d')/\jH ah 20 l d':=by
 intro n;induction n with
 |zero=>
  intro l D hn hS hL;have:l=[]:=km.1 (by omega);subst this;simp only[ka]at *;refine⟨[],[],D.length,?_,?_,jH.last [] (by simp)⟩
  .rw[Ks];simp only[j0m];rw[al (by omega),j6,aW,ka]
  .have:=Oj D [] [] (by simpa using hS) (by simp;omega) (a:=(D.length:Int)) (b:=(D.length:Int)) rfl (by simp);simpa[br]using this
 |succ n ih=>
  intro l D hn hS hL;simp only[ja]at hL;by_cases h20:l.length<20
  .refine⟨l,br ah l,D.length,?_,?_,jH.last l h20⟩
   .rw[Ks];simp only[j0m];rw[al (by simp;omega),j6,aW]
   .have:=Oj D l [] (by simpa using hS) (by simp;omega) (a:=(D.length:Int)) (b:=((D++l).length:Int)) rfl (by simp);simpa using this
  .obtain⟨x,l',mU,hx⟩:∃x l',l=x++l'/\x.length=20:=⟨l.take 20,l.drop 20,(ki ..).symm,by simp;omega⟩;subst mU;simp only[ja]at *;have hi:=Oj D x l' hS (by simp;omega) (a:=(D.length:Int)) (b:=((D.length+20:Nat):Int)) rfl (by omega);have hlen:=rZ (key:=ah) x;have sV:=rY (key:=ah) x
   obtain⟨d,d',r,e1,e2,hb⟩:=ih l' (D++br ah x) (by omega) (hS.of λz hz=>by
    simp only[jn,sV.mem_iff]at hz ⊢;rcases hz with (h|h)|h<;>simp[h]) (by simp;omega)
   refine⟨br ah x++d,br ah x++d',r,?_,?_,jH.more x l' d' hx hb⟩
   .rw[Ks];simp only[j0m];rw[aj (by omega),j5,hi];simp only[j3];rw[ai (x:=((D.length+20:Nat):Int)+20) (by omega) (by omega),aJ];simp only[jd,ja,hlen,hx]at e1 ⊢;rw[show ((D.length+20:Nat):Int)+20=((D.length+20+20:Nat):Int) by omega];rw[Nat.add_assoc D.length 20 l'.length]at e1;exact e1
   .simp only[jd,ja,hlen,hx]at e2 ⊢;rw[Nat.add_assoc D.length 20 l'.length]at e2;exact e2
theorem jAZ{bs:Nat}(hbs:0<bs)(hbs2:bs<=100000000):∀(n:Nat)(l d D:bL),l.length<=n->jH ah bs l d->iC (D++d)->(D++d).length<=100000000->
  ∃d1 d2:bL,∃r:Nat,yo ((D++d).length:Int) (bs:Int) (D.length:Int) ((D.length+2*bs:Nat):Int) (D++d)=some (((D++d).length:Int),(bs:Int),(r:Int),D++d1)/\
   jH ah (2*bs) l d2/\((r+bs<(D++d).length/\j1i (D++d1) (r:Int) ((r+bs:Nat):Int) ((D++d).length:Int)=some (D++d2))\/((D++d).length<=r+bs/\d1=d2))/\r<=(D++d).length:=by
 intro n;induction n with
 |zero=>intro l d D hn hB hS hL;have:l=[]:=km.1 (by omega);subst this;have hd:=hB.len;have:d=[]:=km.1 (by simpa using hd);subst this;simp only[ka]at *;refine⟨[],[],D.length,?_,jH.last [] (by simp;omega),.inr ⟨by omega,rfl⟩,jg _⟩;rw[Kt];simp only[j0n];rw[al (by omega),j6,aW,ka]
 |succ n ih=>
  intro l d D hn hB hS hL;have nL:=hB.len;simp only[ja]at hL;by_cases aq:l.length<2*bs
  ·-- what is left: one block and a part of one
   have pX:∀d1:bL,d1=d->yo ((D++d).length:Int) (bs:Int) (D.length:Int) ((D.length+2*bs:Nat):Int) (D++d)=some (((D++d).length:Int),(bs:Int),(D.length:Int),D++d1):=λd1 h1=>by
    subst h1;rw[Kt];simp only[j0n];rw[al (by simp;omega),j6,aW]
   refine⟨d,br ah l,D.length,pX d rfl,jH.last l aq,?_,by simp⟩;cases hB with
   |last _ h=>exact .inr ⟨by rw[ja,nL];omega,rfl⟩
   |more x l' d' hx hb=>
    have mT:=rZ (key:=ah) x;cases hb with
    |more y _ _ hy _=>simp only[ja]at aq;omega
    |last _ h=>
     have ib:=rZ (key:=ah) l';by_cases h0:l'=[]
     .subst h0;have h0:br ah ([]:bL)=[]:=rfl;rw[h0];refine .inr ⟨by rw[ka,ja,mT];omega,by rw[ka,ka]⟩
     .have hp:=qa.2 h0;left;refine⟨by simp[mT,ib];omega,?_⟩;have sm:=WO (P:=D) (A:=br ah x) (B:=br ah l') (Q:=[]) (λh=>by rw[h]at mT;simp at mT;omega) (λh=>by rw[h]at ib;simp at ib;omega) (Hq x) (Hq l') (by simpa using hS) (by simp[mT,ib];simp[mT,ib]at hL;omega) (a:=(D.length:Int)) (m:=((D.length+bs:Nat):Int)) (b:=((D++(br ah x++br ah l')).length:Int)) rfl (by rw[mT,hx]) (by simp;omega);simp only[ka]at sm;rw[sm,Ww]
  .cases hB with
   |last _ h=>omega
   |more x l' d' hx hb=>
    have mT:=rZ (key:=ah) x;cases hb with
    |last _ h=>simp only[ja]at aq;omega
    |more y l2 d2 hy fc=>
     have sH:=rZ (key:=ah) y;simp only[ja]at *;have sm:=WO (P:=D) (A:=br ah x) (B:=br ah y) (Q:=d2) (λh=>by rw[h]at mT;simp at mT;omega) (λh=>by rw[h]at sH;simp at sH;omega) (Hq x) (Hq y) hS (by simp;omega) (a:=(D.length:Int)) (m:=((D.length+bs:Nat):Int)) (b:=((D.length+2*bs:Nat):Int)) rfl (by omega) (by omega);rw[<-Ww]at sm;have wR:=rZ (key:=ah) (x++y);have hpz:=rY (key:=ah) (x++y);have sY:=rY (key:=ah) x;have sZ:=rY (key:=ah) y;simp only[ja]at wR
     obtain⟨d1,d3,r,e1,hb3,hr,tR⟩:=ih l2 d2 (D++br ah (x++y)) (by omega) fc (hS.of λz hz=>by
      simp only[jn,hpz.mem_iff,sY.mem_iff,sZ.mem_iff]at hz ⊢;rcases hz with (h|h|h)|h<;>simp[h]) (by simp;omega)
     simp only[ja,wR,hx,hy,jd]at e1 hr tR;refine⟨br ah (x++y)++d1,br ah (x++y)++d3,r,?_,?_,?_,by rw[mT,sH,hx,hy];omega⟩
     .rw[Kt];simp only[j0n];rw[aj (by omega),ai (x:=(D.length:Int)+(bs:Int)) (by omega) (by omega),j5,show (D.length:Int)+(bs:Int)=((D.length+bs:Nat):Int) by omega,sm];simp only[j3];rw[ai (x:=2*(bs:Int)) (by omega) (by omega),ai (x:=((D.length+2*bs:Nat):Int)+2*(bs:Int)) (by omega) (by omega),aJ];dsimp only;rw[mT,sH,hx,hy,show ((D.length+2*bs:Nat):Int)+2*(bs:Int)=((D.length+(bs+bs)+2*bs:Nat):Int) by omega,show ((D.length+2*bs:Nat):Int)=((D.length+(bs+bs):Nat):Int) by omega,show ((D.length+(bs+(bs+d2.length)):Nat):Int)=((D.length+(bs+bs)+d2.length:Nat):Int) by omega];exact e1
     .have:=jH.more (key:=ah) (n:=2*bs) (x++y) l2 d3 (by simp;omega) hb3;rwa[jd]at this
     .rw[mT,sH,hx,hy,show D.length+(bs+(bs+d2.length))=D.length+(bs+bs)+d2.length by omega];rcases hr with⟨h1,h2⟩|⟨h1,h2⟩
      .exact .inl ⟨h1,h2⟩
      .exact .inr ⟨h1,by rw[h2]⟩
theorem jB0{l:bL}(hl:l.length<=100000000):∀(n bs:Nat)(d:bL),0<bs->bs<=200000000->l.length-bs<=n->jH ah bs l d->iC d->yp (l.length:Int) (bs:Int) d=some (br ah l):=by
 intro n;induction n with
 |zero=>intro bs d h0 h1 hn hB hS;rw[S7];simp only[j0x];rw[al (by omega),j6,aW,hB.all (by omega)]
 |succ n ih=>
  intro bs d h0 h1 hn hB hS;have nL:=hB.len;rw[S7];simp only[j0x];by_cases aq:bs<l.length
  .obtain⟨d1,d2,r,e1,Hp,hr,tR⟩:=jAZ h0 (by omega) l.length l d [] (jg _) hB (by simpa using hS) (by simp;omega);simp only[jl,kq,kf]at e1 hr tR;rw[aj (by omega),ai (x:=2*(bs:Int)) (by omega) (by omega)];simp only[j5];rw[nL]at e1 hr tR;rw[show (2:Int)*(bs:Int)=((2*bs:Nat):Int) by omega,show (0:Int)=((0:Nat):Int) from rfl,e1];simp only[j3];rw[ai (x:=(r:Int)+(bs:Int)) (by omega) (by omega),ai (x:=(bs:Int)*2) (by omega) (by omega)]
   have PF:iC d2:=by
    have hp:∀{k:Nat}{a b:bL},jH ah k a b->b.Perm a:=by
     intro k a b h;induction h with
     |last l _=>exact rY l
     |more x l d _ _ ih=>exact(rY x).append ih
    exact(hS.perm (hp hB).symm).perm (hp Hp)
   have WU:=ih (2*bs) d2 (by omega) (by omega) (by omega) Hp PF;rcases hr with⟨g1,g2⟩|⟨g1,g2⟩
   .rw[aj (by omega),j5,show (r:Int)+(bs:Int)=((r+bs:Nat):Int) by omega,g2];simp only[j3,aJ];rw[show (bs:Int)*2=((2*bs:Nat):Int) by omega];exact WU
   .rw[al (by omega),j6,aJ];subst g2;dsimp only;rw[show (bs:Int)*2=((2*bs:Nat):Int) by omega];exact WU
  .rw[al (by omega),j6,aW,hB.all (by omega)]
theorem jtT{l:bL}(hS:iC l)(hl:l.length<=100000000):j0o l=some (br ah l):=by
 obtain⟨d,d',r,e1,e2,hB⟩:=jAY l.length l [] (jg _) (by simpa using hS) (by simpa using hl);simp only[jl,kq,kf]at e1 e2
 have hp:∀{k:Nat}{a b:bL},jH ah k a b->b.Perm a:=by
  intro k a b h;induction h with
  |last l _=>exact rY l
  |more x l d _ _ ih=>exact(rY x).append ih
 have e3:=jB0 hl l.length 20 d' (by omega) (by omega) (by omega) hB (hS.perm (hp hB));simp only[j0o,j1M,show Int.ofNat l.length=(l.length:Int) from rfl];rw[show yn (l.length:Int) 20 0 20 l=_ from e1];simp only[j3,e2];rw[show yp (l.length:Int) 20 d'=_ from e3];rfl
end Go.Proofs.Pw
