/- Facts. -/
import Derived.Test.YtmccfdihkphfaaaGreatCEPK
import Derived.Test.YtmccfdihkphfaaaGreatCEPD
open _root_ renaming Int->o,Nat->G,Option->U
open List renaming length_append->E,reverse_reverse->S,take_sublist->W,drop_sublist->X,reverse_cons->Y,getD->Z
open Decidable renaming decide->H
open Option renaming some->I,none->À
open List.Pairwise renaming nil->J,sublist->Â
open Bool renaming false->N
open Go Go.Lft
namespace Go.Proofs.Pw
theorem eY.sub{l r:bK}(h:eY l)(hs:r.Sublist l):eY r:=Â hs h
def Rk(rec:bK->o->o->o->U bK)(s:G)(C:Prop):Prop:=
 ∀P A B Q:bK,A≠[]->B≠[]->eY A->eY B->jC (P++(A++(B++Q)))->(P++(A++(B++Q))).length<=1000000000->A.length+B.length<s->
  ∀a m b:o,a=P.length->m=((P.length+A.length:G):o)->b=((P.length+A.length+B.length:G):o)->
  rec (P++(A++(B++Q))) a m b=I (P++(gF aB A B++Q))\/(rec (P++(A++(B++Q))) a m b=À/\C)
theorem jF5(A B:bK):(gF aB A B).Perm (A++B):=by
 have e:∀A B:bK,(gF aB A B).Perm (A++B):=by
  intro A;induction A with
  |nil=>intro B;exact List.Perm.refl _
  |cons a ra ih=>intro B;induction B<;>grind[rD,pH]
 exact e A B
section
variable{rec:bK->o->o->o->U bK}{s:G}{C:Prop}(hR:Rk rec s C)
def Hu(rec:bK->o->o->o->U bK)(D:bK)(a k mid e b:o):U bK:=
 cond (cond (H (a<k)) (H (k<mid)) N) (
 (rec D a k mid).bind λHv=>
 cond (cond (H (mid<e)) (H (e<b)) N) (
 (rec Hv mid e b).bind λmX=>
 I mX) (
 I Hv)) (
 cond (cond (H (mid<e)) (H (e<b)) N) (
 (rec D mid e b).bind λBK=>
 I BK) (
 I D))
include hR
theorem jI1(P A2 B2 Q:bK)(h3:eY A2)(h4:eY B2)(hS:jC (P++(A2++(B2++Q))))(hL:(P++(A2++(B2++Q))).length<=1000000000)(hs:A2.length+B2.length<s)
  {mid e b:o}(BL:mid=P.length)(he:e=((P.length+A2.length:G):o))(hb:b=((P.length+A2.length+B2.length:G):o)) :
  (cond (cond (H (mid<e)) (H (e<b)) N) ((rec (P++(A2++(B2++Q))) mid e b).bind λmX=>I mX) (I (P++(A2++(B2++Q))))=I (P++(gF aB A2 B2++Q)))\/
  (cond (cond (H (mid<e)) (H (e<b)) N) ((rec (P++(A2++(B2++Q))) mid e b).bind λmX=>I mX) (I (P++(A2++(B2++Q))))=À/\C):=by
 match A2,B2 with
 |[],B2=>left;rw[aC (by simp at he;omega)];rfl
 |x::A2,[]=>grind[rD]
 |x::A2,y::B2=>rw[ai (show mid<e by simp at he;omega),ai (show e<b by grind)];simp only[j6];rcases hR P (x::A2) (y::B2) Q ae ae h3 h4 hS hL hs mid e b BL he hb with h|⟨h,hc⟩;all_goals simp_all
theorem jJv(P A1 B1 A2 B2 Q:bK)(h1:eY A1)(h2:eY B1)(h3:eY A2)(h4:eY B2)(hS:jC (P++(A1++(B1++(A2++(B2++Q))))))(hL:(P++(A1++(B1++(A2++(B2++Q))))).length<=1000000000)
  (kM:A1.length+B1.length<s)(l5:A2.length+B2.length<s)
  {a k mid e b:o}(ha:a=P.length)(hk:k=((P.length+A1.length:G):o))(BL:mid=((P.length+A1.length+B1.length:G):o))(he:e=((P.length+A1.length+B1.length+A2.length:G):o))(hb:b=((P.length+A1.length+B1.length+A2.length+B2.length:G):o)) :
  Hu rec (P++(A1++(B1++(A2++(B2++Q))))) a k mid e b=I (P++(gF aB A1 B1++(gF aB A2 B2++Q)))\/(Hu rec (P++(A1++(B1++(A2++(B2++Q))))) a k mid e b=À/\C):=by
 have hp:=jF5 A1 B1;have fy:=hp.length_eq;have iC:∀x,x∈gF aB A1 B1↔x∈A1++B1:=λx=>hp.mem_iff;simp only[E]at fy hL
 have f2:=jI1 hR (P++gF aB A1 B1) A2 B2 Q h3 h4 (hS.of λx hx=>by
  grind) (by grind) l5 (mid:=mid) (e:=e) (b:=b) (by grind) (by grind) (by grind)
 simp only[jk]at f2;unfold Hu;have key:∀D:bK,D=P++(gF aB A1 B1++(A2++(B2++Q)))->(cond (cond (H (mid<e)) (H (e<b)) N) ((rec D mid e b).bind λmX=>I mX) (I D)=I (P++(gF aB A1 B1++(gF aB A2 B2++Q))))\/(cond (cond (H (mid<e)) (H (e<b)) N) ((rec D mid e b).bind λmX=>I mX) (I D)=À/\C):=λD hD=>by rw[hD];exact f2
 match A1,B1 with
 |[],B1=>rw[aC (show¬a<k by simp at hk;omega)];exact key _ rfl
 |x::A1,[]=>grind[rD]
 |x::A1,y::B1=>rw[ai (show a<k by simp at hk;omega),ai (show k<mid by grind)];simp only[j6];rcases hR P (x::A1) (y::B1) (A2++(B2++Q)) ae ae h1 h2 hS (by grind) kM a k mid ha hk BL with h|⟨h,hc⟩;all_goals simp_all
theorem jF6{P A B Q:bK}(hA:A≠[])(hB:B≠[])(sA:eY A)(sB:eY B)(hS:jC (P++(A++(B++Q))))(hL:(P++(A++(B++Q))).length<=1000000000)(hs:A.length+B.length<=s)
  {a m b:o}(ha:a=P.length)(hm:m=((P.length+A.length:G):o))(hb:b=((P.length+A.length+B.length:G):o)) :
  JL rec (P++(A++(B++Q))) a m b=I (P++(gF aB A B++Q))\/(JL rec (P++(A++(B++Q))) a m b=À/\C):=by
 have ĵ:=kg.2 hA;have hBl:=kg.2 hB;have pD:(P++(A++(B++Q))).length=P.length+A.length+B.length+Q.length:=aj;have gA:∀i,i<A.length->(P++(A++(B++Q))).getD (P.length+i) dC=A.getD i dC:=λi hi=>jz4 P A (B++Q) i hi
 have gB:∀i,i<B.length->(P++(A++(B++Q))).getD (P.length+A.length+i) dC=B.getD i dC:=λi hi=>by
  have:=jz4 (P++A) B Q i hi
  simp_all
 have DO:∀t,P.length<=t->t<P.length+A.length->(P++(A++(B++Q))).getD t dC=A.getD (t-P.length) dC:=λt h1 h2=>by
  grind
 have DP:∀t,P.length+A.length<=t->t<P.length+A.length+B.length->(P++(A++(B++Q))).getD t dC=B.getD (t-(P.length+A.length)) dC:=λt h1 h2=>by
  rw[<-gB _ aa,show P.length+A.length+(t-(P.length+A.length))=t by omega]
 rw[pD]at hL;simp only[JL];rw[aQ (x:=m-a),aQ (x:=b-m)];by_cases h1:A.length=1
 ·-- one element ahead
  left;rw[dR (show m-a=1 by omega),j6];obtain⟨x,rfl⟩:∃x,A=[x]:=List.length_eq_one_iff.1 h1;simp only[kn]at *
  obtain⟨k,k1,k2,e0,k3,k4⟩:=jJt rec hS (by rw[pD];omega) (a:=P.length) (m:=P.length+1) (b:=P.length+1+B.length) (by rw[pD];omega) aa (by rw[pD];omega) (λs t s1 s2 s3=>by
   rw[DP s s1 aa,DP t aa s3];exact yT sB aa aa)
  subst ha hm hb;rw[e0];simp only[j4];have xB:=gA 0 aa;rw[Nat.add_zero]at xB;have KS:([x]:bK).getD 0 dC=x:=rfl;rw[xB,KS]at k3 k4
  have hB1:∀y∈B.take (k-(P.length+1)),aB y<aB x:=λy hy=>by
   obtain⟨i,i1,i2,rfl⟩:=LA hy;grind
  have VP:∀y∈B.drop (k-(P.length+1)),¬aB y<aB x:=λy hy=>by
   obtain⟨i,i1,i2,rfl⟩:=LB hy;grind
  have gg:=jHZ x _ _ hB1 VP;have dx:=k6 (k-(P.length+1)) B;have l2:=jGd rec (e:=(k:o)) x (B.take (k-(P.length+1))) P (B.drop (k-(P.length+1))++Q) aj aj;grind
 .rw[cU (show¬m-a=1 by omega),j7];by_cases h2:B.length=1
  .left;rw[dR (show b-m=1 by omega),j6];obtain⟨y,rfl⟩:∃x,B=[x]:=List.length_eq_one_iff.1 h2;simp only[kn]at *
   obtain⟨k,k1,k2,e0,k3,k4⟩:=jJu rec hS (by rw[pD];omega) (a:=P.length) (m:=P.length+A.length) (by rw[pD];omega) aa (λs t s1 s2 s3=>by
    rw[DO s s1 aa,DO t aa s3];exact yT sA aa aa)
   subst ha hm hb;rw[e0];simp only[j4];have hy0:=gB 0 aa;rw[Nat.add_zero]at hy0;have hyy:([y]:bK).getD 0 dC=y:=rfl;rw[hy0,hyy]at k3 k4
   have G2:∀x∈A.take (k-P.length),¬aB y<aB x:=λx hx=>by
    obtain⟨i,i1,i2,rfl⟩:=LA hx;grind
   have rz:∀x∈A.drop (k-P.length),aB y<aB x:=λx hx=>by
    obtain⟨i,i1,i2,rfl⟩:=LB hx;grind
   have gg:=jF4 y _ _ G2 rz;have dx:=k6 (k-P.length) A;have l6:=jGe rec (i:=(k:o)) y (A.drop (k-P.length)).reverse (P++A.take (k-P.length)) Q aj aj;rw[S,show (P++A.take (k-P.length))++(A.drop (k-P.length)++y::Q)=P++(A++([y]++Q)) by grind,show (((P++A.take (k-P.length)).length+(A.drop (k-P.length)).reverse.length:G):o)=((P.length+A.length:G):o) by simp;omega]at l6;rw[l6];simp only[j4]
   simp_all
  .rw[cU (show¬b-m=1 by omega),j7];obtain⟨M,hM⟩:∃M,M=(P.length+(P.length+A.length+B.length))/2:=⟨_,rfl⟩;have hh:=Lz (a:=P.length) (b:=P.length+A.length+B.length) aa;rw[<-hM]at hh;rw[ha,hb,hh];rw[aQ (x:=(M:o)+m)];rw[aQ (x:=(M:o)+m-1)];have hpN:(M:o)+m-1=((M+(P.length+A.length)-1:G):o):=aa
   have tail:∀k:G,P.length<=k->k<=P.length+A.length->M+(P.length+A.length)-k<=P.length+A.length+B.length->k<=M->
     (∀x∈A.drop (k-P.length),∀y∈B.take (M-k),aB y<aB x)->(∀x∈A.take (k-P.length),∀y∈B.drop (M-k),¬aB y<aB x)->
     ∀r:U bK,r=cond (cond (H ((k:o)<m)) (H (m<(M:o)+m-(k:o))) N) ((j1e (P++(A++(B++Q))) (k:o) m ((M:o)+m-(k:o))).bind λd=>Hu rec d (P.length:o) (k:o) (M:o) ((M:o)+m-(k:o)) b) (Hu rec (P++(A++(B++Q))) (P.length:o) (k:o) (M:o) ((M:o)+m-(k:o)) b)->
     r=I (P++(gF aB A B++Q))\/(r=À/\C):=by
    intro k k1 k2 k3 k4 f1 f2 r hr;have hsA:=k6 (k-P.length) A;have hsB:=k6 (M-k) B;have lA1:(A.take (k-P.length)).length=k-P.length:=aj;have lA2:(A.drop (k-P.length)).length=P.length+A.length-k:=aj;have lB1:(B.take (M-k)).length=M-k:=aj;have lB2:(B.drop (M-k)).length=B.length-(M-k):=ae;have sA1:=sA.sub (W (k-P.length) A);have sA2:=sA.sub (X (k-P.length) A);have sB1:=sB.sub (W (M-k) B);have sB2:=sB.sub (X (M-k) B);have ym:=w9 (key:=aB) _ _ _ _ f1 f2;rw[hsA,hsB]at ym;generalize A.take (k-P.length)=A1 at *;generalize A.drop (k-P.length)=A2 at *;generalize B.take (M-k)=B1 at *
    generalize B.drop (M-k)=B2 at *
    subst hsA hsB;simp only[E]at *
    have fin:=jJv hR P A1 B1 A2 B2 Q sA1 sB1 sA2 sB2 (hS.of λx hx=>by
     grind) (by simp only[E];omega) aa aa (a:=(P.length:o)) (k:=(k:o)) (mid:=(M:o)) (e:=(M:o)+m-(k:o)) (b:=b) rfl aa aa aa aa
    rw[<-jk (gF aB A1 B1),<-ym]at fin;rw[hr];by_cases Hw:(k:o)<m/\m<(M:o)+m-(k:o)
    .rw[ai Hw.1,ai Hw.2];simp only[j6];have ro:=jJs (P++A1) A2 B1 (B2++Q) (λh=>by grind) (λh=>by grind) aj (a:=(k:o)) (m:=m) (b:=(M:o)+m-(k:o)) aj aj aj;grind
    .have hc:cond (H ((k:o)<m)) (H (m<(M:o)+m-(k:o))) N=false:=by
      by_cases h:(k:o)<m
      all_goals grind
     rw[hc,j7]
     have he:A2++(B1++(B2++Q))=B1++(A2++(B2++Q)):=by
      by_cases h:(k:o)<m
      .have:B1=[]:=List.length_eq_zero_iff.1 aa;subst this;rfl
      .have:A2=[]:=List.length_eq_zero_iff.1 aa;subst this;rfl
     grind
   have uv:∀s t,P.length<=s->s<=t->t<P.length+A.length->M+(P.length+A.length)-1-s<P.length+A.length+B.length->P.length+A.length<=M+(P.length+A.length)-1-t->¬aB ((P++(A++(B++Q))).getD (M+(P.length+A.length)-1-t) dC)<aB ((P++(A++(B++Q))).getD t dC)->¬aB ((P++(A++(B++Q))).getD (M+(P.length+A.length)-1-s) dC)<aB ((P++(A++(B++Q))).getD s dC):=by intro s t s1 s2 s3 s4 s5 h;rw[DO s s1 aa];rw[DO t aa s3]at h;rw[DP _ aa s4];rw[DP _ s5 aa]at h;have q1:=yT sA (i:=s-P.length) (j:=t-P.length) aa aa;have q2:=yT sB (i:=M+(P.length+A.length)-1-t-(P.length+A.length)) (j:=M+(P.length+A.length)-1-s-(P.length+A.length)) aa aa;omega
   have facts:∀lo hi k:G,P.length<=lo->hi<=P.length+A.length->hi<=M->M+(P.length+A.length)-lo<=P.length+A.length+B.length->lo<=k->k<=hi->(hi=M\/hi=P.length+A.length)->(lo=P.length\/M+(P.length+A.length)-lo=P.length+A.length+B.length)->
     (∀t,lo<=t->t<k->¬aB ((P++(A++(B++Q))).getD (M+(P.length+A.length)-1-t) dC)<aB ((P++(A++(B++Q))).getD t dC))->(∀t,k<=t->t<hi->¬¬aB ((P++(A++(B++Q))).getD (M+(P.length+A.length)-1-t) dC)<aB ((P++(A++(B++Q))).getD t dC))->
     (∀x∈A.drop (k-P.length),∀y∈B.take (M-k),aB y<aB x)/\(∀x∈A.take (k-P.length),∀y∈B.drop (M-k),¬aB y<aB x):=by
    intro lo hi k g1 g2 g3 g4 g5 g6 g7 g8 p1 p2;constructor
    .intro x hx y hy;obtain⟨i,i1,i2,rfl⟩:=LB hx;obtain⟨j,j1,j2,rfl⟩:=LA hy;have hkh:k<hi:=aa;have:=p2 k (jh _) hkh;rw[DO k aa aa,DP _ aa aa]at this;have q1:=yT sA (i:=k-P.length) (j:=i) aa aa;have q2:=yT sB (i:=j) (j:=M+(P.length+A.length)-1-k-(P.length+A.length)) aa aa;omega
    .intro x hx y hy;obtain⟨i,i1,i2,rfl⟩:=LA hx;obtain⟨j,j1,j2,rfl⟩:=LB hy;have iN:lo<k:=aa;have:=p1 (k-1) aa aa;rw[DO (k-1) aa aa,DP _ aa aa]at this;have q1:=yT sA (i:=i) (j:=k-1-P.length) aa aa;have q2:=yT sB (i:=M+(P.length+A.length)-1-(k-1)-(P.length+A.length)) (j:=j) aa aa;omega
   by_cases hmm:m>(M:o)
   .rw[ai hmm,j6];rw[<-hb,aQ (x:=(M:o)+m-b)];obtain⟨k,k1,k2,e0,k3,k4⟩:=jGf rec hS (by rw[pD];omega) (lo:=M+(P.length+A.length)-(P.length+A.length+B.length)) (hi:=M) (p:=M+(P.length+A.length)-1) (s1:=(P.length:o)) (s2:=m) (s3:=b) (s18:=(M:o)) (s19:=(M:o)+m) aa (by rw[pD];omega) (λc c1 c2=>by rw[pD];omega) aa (λs t s1 s2 s3 h=>uv s t aa s2 aa aa aa h);obtain⟨f1,f2⟩:=facts (M+(P.length+A.length)-(P.length+A.length+B.length)) M k aa aa aa aa k1 k2 (.inl rfl) (.inr aa) k3 k4;rw[hpN,show (M:o)+m-b=((M+(P.length+A.length)-(P.length+A.length+B.length):G):o) by omega,e0];simp only[j4];rw[aQ (x:=(M:o)+m-(k:o))];exact tail k aa aa aa aa f1 f2 _ rfl
   .rw[aC hmm,j7];obtain⟨k,k1,k2,e0,k3,k4⟩:=jGf rec hS (by rw[pD];omega) (lo:=P.length) (hi:=P.length+A.length) (p:=M+(P.length+A.length)-1) (s1:=(P.length:o)) (s2:=m) (s3:=b) (s18:=(M:o)) (s19:=(M:o)+m) aa (by rw[pD];omega) (λc c1 c2=>by rw[pD];omega) aa (λs t s1 s2 s3 h=>uv s t aa s2 aa aa aa h);obtain⟨f1,f2⟩:=facts P.length (P.length+A.length) k aa aa aa aa k1 k2 (.inr rfl) (.inl rfl) k3 k4;rw[hpN];rw[show ((P.length+A.length:G):o)=m from hm.symm]at e0;rw[<-hb,e0];simp only[j4];rw[aQ (x:=(M:o)+m-(k:o))];exact tail k aa aa aa aa f1 f2 _ rfl
end
theorem VQ:∀(n s:G),Rk (λv0 v1 v2 v3=>iX j0Z n (v0,v1,v2,v3)) (s+1) (n<=s)
 |0,s=>λP A B Q _ _ _ _ _ _ _ a m b _ _ _=> .inr ⟨rfl,jy _⟩
 |n+1,s=>λP A B Q hA hB sA sB hS hL hs a m b ha hm hb=>by
  by_cases h0:s=0
  .simp_all
  .have ih:=VQ n (s-1);rw[show s-1+1=s by omega]at ih;rcases jF6 ih hA hB sA sB hS hL aa ha hm hb with h|⟨h,hc⟩
   .exact .inl h
   .exact .inr ⟨h,aa⟩
theorem jGg{P A B Q:bK}(hA:A≠[])(hB:B≠[])(sA:eY A)(sB:eY B)(hS:jC (P++(A++(B++Q))))(hL:(P++(A++(B++Q))).length<=1000000000)
  {a m b:o}(ha:a=P.length)(hm:m=((P.length+A.length:G):o))(hb:b=((P.length+A.length+B.length:G):o)) :
  j1u (P++(A++(B++Q))) a m b=I (P++(gF aB A B++Q)):=by
 refine I4 ⟨A.length+B.length+1,?_⟩ λn y hy=>?_
 .rcases VQ (A.length+B.length+1) (A.length+B.length) P A B Q hA hB sA sB hS hL aa a m b ha hm hb with h|⟨_,h⟩
  .exact h
  .omega
 .rcases VQ n (A.length+B.length) P A B Q hA hB sA sB hS hL aa a m b ha hm hb with h|⟨h,_⟩;all_goals simp_all
theorem jz6{x:ie}:∀{l:bK},(∀y∈l,¬aB x<aB y)->c9 aB x l=l++[x]
 |[],_=>rfl
 |y::l,h=>by
  rw[c9,if_neg (h y ae),jz6 (l:=l) (λz hz=>h z (by simp[hz]))];rfl
theorem jw8{x y:ie}:∀{l:bK},aB x<aB y->c9 aB x (l++[y])=c9 aB x l++[y]
 |[],h=>by simp[c9,h]
 |z::l,h=>by
  rw[qo,c9,c9];split
  .rfl
  .rw[jw8 h];rfl
theorem jDA{a n s8:o}(x:ie)(P:bK)(ha:a=P.length):∀(rp mid:bK),eY rp.reverse->jC (P++(rp.reverse++x::mid))->(P++(rp.reverse++x::mid)).length<=1000000000->
  PL a n s8 ((P.length+rp.length:G):o) (P++(rp.reverse++x::mid))=I (a,n,s8,P++(c9 aB x rp.reverse++mid))
 |[],mid,_,_,_=>by
  rw[_E];simp(disch:=omega)only[j0r,S0];rfl
 |y::rp,mid,hs,hS,hL=>by
  have pD:(P++((y::rp).reverse++x::mid)).length=P.length+rp.length+mid.length+2:=aj;rw[pD]at hL;have e1:P++((y::rp).reverse++x::mid)=(P++rp.reverse++[y])++x::mid:=ae;have e2:P++((y::rp).reverse++x::mid)=(P++rp.reverse)++y::(x::mid):=ae;have n1:(((P.length+(rp.length+1):G):o)-1).toNat=(P++rp.reverse).length:=aj;have n2:P.length+(rp.length+1)=(P++rp.reverse++[y]).length:=ae;have g1:(P++((y::rp).reverse++x::mid)).getD (((P.length+(rp.length+1):G):o)-1).toNat dC=y:=by rw[e2,n1,yR]
  have g2:(P++((y::rp).reverse++x::mid)).getD (P.length+(rp.length+1)) dC=x:=by rw[e1,n2,yR]
  have s1:(P++((y::rp).reverse++x::mid)).set (P.length+(rp.length+1)) y=(P++rp.reverse)++y::(y::mid):=by rw[e1,n2,yS];simp
  have s2:((P++rp.reverse)++y::(y::mid)).set (((P.length+(rp.length+1):G):o)-1).toNat x=P++(rp.reverse++x::(y::mid)):=by rw[n1,yS];simp
  have hx:=hS x ae;have hy:=hS y ae;have c:=Ly hx hy;unfold dC at g1 g2;rw[_E];simp(disch:=omega)only[j0r,g1,g2,c,S0];have fL:eY (rp.reverse++[y]):=by simpa using hs
  by_cases ao:aB x<aB y
  .simp(disch:=omega)only[show (P++((y::rp).reverse++x::mid)).set (P.length+(rp.length+1)) (y.1,(y.2.1,(y.2.2.1,(y.2.2.2.1,y.2.2.2.2))))=_ from s1,S0];rw[bL (show (0:o)<=((P.length+(rp.length+1):G):o)-1 by omega) aj,j6];rw[show ((P++rp.reverse)++y::(y::mid)).set (((P.length+(rp.length+1):G):o)-1).toNat (x.1,(x.2.1,(x.2.2.1,(x.2.2.2.1,x.2.2.2.2))))=_ from s2,bg]
   have ih:=jDA (a:=a) (n:=n) (s8:=s8) x P ha rp (y::mid) (fL.sub (List.sublist_append_left _ _)) (hS.of λz hz=>by
    grind) aj
   rw[show ((P.length+(rp.length+1):G):o)-1=((P.length+rp.length:G):o) by omega,ih,Y,jw8 ao];simp
  .simp(disch:=omega)only[S0]
   rw[jz6 (l:=(y::rp).reverse) (λz hz=>by
    rw[Y]at hz;rcases ji.1 hz with h|h
    .have:=(qy.1 fL).2.2 z h y ae;omega
    grind)]
   simp
theorem jDB{a:o}(P:bK)(ha:a=P.length)(Q:bK):∀(xs acc:bK),eY acc->acc≠[]->jC (P++(acc++(xs++Q)))->(P++(acc++(xs++Q))).length<=1000000000->
  PM a ((P.length+acc.length+xs.length:G):o) ((P.length+acc.length:G):o) (P++(acc++(xs++Q)))=I (P++(xs.foldl (λacc x=>c9 aB x acc) acc++Q))
 |[],acc,_,_,_,_=>by
  rw[PN];simp(disch:=omega)only[j0g,S0];rfl
 |x::xs,acc,hs,bD,hS,hL=>by
  have hp:=Hr (key:=aB) x acc;have fy:=hp.length_eq;simp only[E,jf]at hL fy;have l2:=jDA (a:=a) (n:=((P.length+acc.length+(x::xs).length:G):o)) (s8:=((P.length+acc.length:G):o)) x P ha acc.reverse (xs++Q) (by simp_all) (by simp_all) (by grind);rw[S,List.length_reverse]at l2
  have hsI:eY (c9 aB x acc):=(VK (key:=aB) (R:=λ_ _=>True) x acc (hs.imp λh=>by
   grind) (λ_ _=>trivial)).imp (λh=>aa)
  have ih:=jDB (a:=a) P ha Q xs (c9 aB x acc) hsI (λh=>by simp_all) (hS.of λz hz=>by
   grind) (by grind)
  grind[PN,j0g,gh,bg]
theorem VR(P xs Q:bK)(hS:jC (P++(xs++Q)))(hL:(P++(xs++Q)).length<=1000000000){a b:o}(ha:a=P.length)(hb:b=((P.length+xs.length:G):o)) :
  j0z (P++(xs++Q)) a b=I (P++(cN aB xs++Q)):=by
 simp only[E]at hL;simp(disch:=omega)only[j0z,S0];match xs with
 |[]=>rw[PN];simp only[j0g];rw[aC (by simp at hb;omega),j7,bV];rfl
 |x::xs=>have:=jDB (a:=a) P ha Q xs [x] (qb _ _) ae hS (by grind);rw[show b=((P.length+([x]:bK).length+xs.length:G):o) by simp at hb ⊢;omega,show a+1=((P.length+([x]:bK).length:G):o) by simp;omega];rw[show P++(x::xs++Q)=P++([x]++(xs++Q)) from rfl,this];rfl
theorem LC(l:bK):eY (cN aB l):=jI0 l
theorem jJw:∀(n:G)(l D:bK),l.length<=n->jC (D++l)->(D++l).length<=100000000->
  ∃d d':bK,∃r:G,PR ((D++l).length:o) 20 (D.length:o) ((D.length+20:G):o) (D++l)=I (((D++l).length:o),20,(r:o),D++d)/\
   j0z (D++d) (r:o) ((D++l).length:o)=I (D++d')/\mm aB 20 l d':=by
 intro n;induction n with
 |zero=>
  intro l D hn hS hL;have:l=[]:=List.length_eq_zero_iff.1 aa;subst this;simp only[qu]at *;refine⟨[],[],D.length,?_,?_,mm.last [] ae⟩
  .grind[PS,j0s,S0]
  .have:=VR D [] [] (by simpa using hS) aj (a:=(D.length:o)) (b:=(D.length:o)) rfl ae;simpa[cN]using this
 |succ n ih=>
  intro l D hn hS hL;simp only[E]at hL;by_cases h20:l.length<20
  .refine⟨l,cN aB l,D.length,?_,?_,mm.last l h20⟩
   .grind[PS,j0s,bV]
   .have:=VR D l [] (by simpa using hS) aj (a:=(D.length:o)) (b:=((D++l).length:o)) rfl ae;simpa using this
  .obtain⟨x,l',nG,hx⟩:∃x l',l=x++l'/\x.length=20:=⟨l.take 20,l.drop 20,(k6 ..).symm,aj⟩;subst nG;simp only[E]at *;have hi:=VR D x l' hS aj (a:=(D.length:o)) (b:=((D.length+20:G):o)) rfl aa;have hlen:=uZ (key:=aB) x;have Yh:=uu (key:=aB) x
   obtain⟨d,d',r,e1,e2,hb⟩:=ih l' (D++cN aB x) aa (hS.of λz hz=>by
    grind) aj
   refine⟨cN aB x++d,cN aB x++d',r,?_,?_,mm.more x l' d' hx hb⟩
   .rw[PS];simp(disch:=omega)only[j0s,hi,S0];grind
   grind
theorem jJx{bs:G}(hbs:0<bs)(hbs2:bs<=100000000):∀(n:G)(l d D:bK),l.length<=n->mm aB bs l d->jC (D++d)->(D++d).length<=100000000->
  ∃d1 d2:bK,∃r:G,JM ((D++d).length:o) (bs:o) (D.length:o) ((D.length+2*bs:G):o) (D++d)=I (((D++d).length:o),(bs:o),(r:o),D++d1)/\
   mm aB (2*bs) l d2/\((r+bs<(D++d).length/\j1u (D++d1) (r:o) ((r+bs:G):o) ((D++d).length:o)=I (D++d2))\/((D++d).length<=r+bs/\d1=d2))/\r<=(D++d).length:=by
 intro n;induction n with
 |zero=>intro l d D hn hB hS hL;have:l=[]:=List.length_eq_zero_iff.1 aa;subst this;have hd:=hB.len;have:d=[]:=List.length_eq_zero_iff.1 (by simpa using hd);subst this;simp only[qu]at *;refine⟨[],[],D.length,?_,mm.last [] aj,.inr ⟨aa,rfl⟩,jh _⟩;grind[PT,j0t,S0]
 |succ n ih=>
  intro l d D hn hB hS hL;have rQ:=hB.len;simp only[E]at hL;by_cases ao:l.length<2*bs
  ·-- what is left: one block and a part of one
   have pU:∀d1:bK,d1=d->JM ((D++d).length:o) (bs:o) (D.length:o) ((D.length+2*bs:G):o) (D++d)=I (((D++d).length:o),(bs:o),(D.length:o),D++d1):=λd1 h1=>by
    grind[PT,j0t,bV]
   refine⟨d,cN aB l,D.length,pU d rfl,mm.last l ao,?_,ae⟩;cases hB with
   |last _ h=>grind
   |more x l' d' hx hb=>
    have H5:=uZ (key:=aB) x;cases hb with
    |more y _ _ hy _=>grind
    |last _ h=>
     have gw:=uZ (key:=aB) l';by_cases h0:l'=[]
     .simp_all
     .have hp:=kg.2 h0;left;refine⟨by simp[H5,gw];omega,?_⟩;have sm:=jGg (P:=D) (A:=cN aB x) (B:=cN aB l') (Q:=[]) (λh=>by simp_all) (λh=>by simp_all) (LC x) (LC l') (by simpa using hS) (by grind) (a:=(D.length:o)) (m:=((D.length+bs:G):o)) (b:=((D++(cN aB x++cN aB l')).length:o)) rfl (by rw[H5,hx]) aj;grind[jDx]
  .cases hB with
   |last _ h=>omega
   |more x l' d' hx hb=>
    have H5:=uZ (key:=aB) x;cases hb with
    |last _ h=>grind
    |more y l2 d2 hy gm=>
     have H4:=uZ (key:=aB) y;simp only[E]at *;have sm:=jGg (P:=D) (A:=cN aB x) (B:=cN aB y) (Q:=d2) (λh=>by simp_all) (λh=>by simp_all) (LC x) (LC y) hS aj (a:=(D.length:o)) (m:=((D.length+bs:G):o)) (b:=((D.length+2*bs:G):o)) rfl aa aa;rw[<-jDx]at sm;have qK:=uZ (key:=aB) (x++y);have hpz:=uu (key:=aB) (x++y);have yf:=uu (key:=aB) x;have yg:=uu (key:=aB) y;simp only[E]at qK
     obtain⟨d1,d3,r,e1,hb3,hr,yJ⟩:=ih l2 d2 (D++cN aB (x++y)) aa gm (hS.of λz hz=>by
      grind) aj
     simp only[E,qK,hx,hy,jk]at e1 hr yJ;refine⟨cN aB (x++y)++d1,cN aB (x++y)++d3,r,?_,?_,?_,aa⟩
     .rw[PT];simp only[j0t];rw[ai aa,aQ (x:=(D.length:o)+(bs:o)),j6,show (D.length:o)+(bs:o)=((D.length+bs:G):o) by omega,sm];simp(disch:=omega)only[S0];grind
     .have:=mm.more (key:=aB) (n:=2*bs) (x++y) l2 d3 aj hb3
      simp_all
     grind
theorem jJy{l:bK}(hl:l.length<=100000000):∀(n bs:G)(d:bK),0<bs->bs<=200000000->l.length-bs<=n->mm aB bs l d->jC d->PU (l.length:o) (bs:o) d=I (cN aB l):=by
 intro n;induction n with
 |zero=>grind[_L,j0T,mm.all,S0]
 |succ n ih=>
  intro bs d h0 h1 hn hB hS;have rQ:=hB.len;rw[_L];simp only[j0T];by_cases ao:bs<l.length
  .obtain⟨d1,d2,r,e1,VP,hr,yJ⟩:=jJx h0 aa l.length l d [] (jh _) hB (by simpa using hS) aj;simp only[jr,js,ku]at e1 hr yJ;simp(disch:=omega)only[S0];rw[rQ]at e1 hr yJ;rw[show (2:o)*(bs:o)=((2*bs:G):o) by omega,show (0:o)=((0:G):o) from rfl,e1];simp(disch:=omega)only[S0]
   have hS2:jC d2:=by
    have hp:∀{k:G}{a b:bK},mm aB k a b->b.Perm a:=by intro k a b h;induction h<;>grind[uu]
    exact(hS.perm (hp hB).symm).perm (hp VP)
   grind[bg]
  .simp(disch:=omega)only[hB.all,S0]
theorem jAr{l:bK}(hS:jC l)(hl:l.length<=100000000):j0G l=I (cN aB l):=by
 obtain⟨d,d',r,e1,e2,hB⟩:=jJw l.length l [] (jh _) (by simpa using hS) (by simpa using hl);simp only[jr,js,ku]at e1 e2;have hp:∀{k:G}{a b:bK},mm aB k a b->b.Perm a:=by intro k a b h;induction h<;>grind[uu]
 have e3:=jJy hl l.length 20 d' aa aa aa hB (hS.perm (hp hB));grind[j0G,j4t]
theorem dG.edge{f:o->o}{b:o}:∀{l:bM}{q:U o}{a:o},dG f b q a l->(∀p,q=I p->f (a-1)=p)->∀s∈l,((q=À/\s.1=a)\/f (s.1-1)≠s.2.2)/\(s.2.1=b\/f s.2.1≠s.2.2)
 |[],_,_,_,_,s,hs=>by simp at hs
 |u::r,q,a,h,hq,s,hs=>by
  obtain⟨h1,h2,h3,h4,h5⟩:=h;rcases jb.1 hs with rfl|hs
  .constructor
   .cases q with
    |none=>exact .inl ⟨rfl,h1⟩
    |some p=>exact .inr (by rw[h1,hq p rfl];exactλe=>h3 (by rw[e]))
   .match r,h5 with
    |[],h5=>exact .inl h5
    |v::w,h5=>obtain⟨g1,g2,g3,g4,_⟩:=h5;exact .inr (by rw[g4 _ (jx _) g2];exactλe=>g3 (by rw[e]))
  .have:=h5.edge (λp hp=>by
    simp only[j5]at hp;rw[<-hp];exact h4 _ aa aa) s hs
   exact⟨.inr (this.1.resolve_left (λh=>by simp at h)),this.2⟩
theorem Ch.nxt{f:o->o}{b:o}:∀{l:bM}{a:o},Ch f b a l->∀i,(h:i<l.length)->(∃h':i+1<l.length,l[i+1].1=l[i].2.1)\/(i+1=l.length/\l[i].2.1=b)
 |[],_,_,i,h=>by simp at h
 |[s],_,h,0,_=> .inr ⟨rfl,h.2.2.2⟩
 |s::u::r,_,h,0,_=> .inl ⟨ae,h.2.2.2.1⟩
 |s::u::r,_,h,i+1,hi=>by
  rcases Ch.nxt h.2.2.2 i (by simpa using hi) with⟨h',e⟩|⟨h',e⟩
  .exact .inl ⟨by simpa using h',by simpa using e⟩
  .exact .inr ⟨by simpa using h',by simpa using e⟩
 |[s],_,_,i+1,hi=>by simp at hi
theorem dG.emp{f:o->o}{q:U o}{a:o}:∀{l:bM},dG f a q a l->l=[]
 |[],_=>rfl
 |s::r,h=>absurd h.2.2.2.2.ch.le (by have:=h.2.1;omega)
structure ClOk(f g:o->o)(a b i k:o)(z:ie):Prop where
 i:z.2.1=i
 k:z.2.2.1=k
 p:0<=z.1
 lo:a<=z.2.2.2.1
 lt:z.2.2.2.1<z.2.2.2.2
 hi:z.2.2.2.2<=b
 mid:∀t,z.2.2.2.1<=t->t<z.2.2.2.2->f t=z.1/\g t=z.1
 lft:z.2.2.2.1=a\/¬(f (z.2.2.2.1-1)=z.1/\g (z.2.2.2.1-1)=z.1)
 rgt:z.2.2.2.2=b\/¬(f z.2.2.2.2=z.1/\g z.2.2.2.2=z.1)
structure mn(f g:o->o)(a b i k c:o)(O:bK):Prop where
 ok:∀z∈O,ClOk f g a b i k z/\z.2.2.2.2<=c
 pw:O.Pairwise λx y=>x.2.2.2.1<y.2.2.2.1
 all:∀t,a<=t->t<c->f t=g t->0<=f t->∃z∈O,z.1=f t/\z.2.2.2.1<=t/\t<z.2.2.2.2
section
variable{f g:o->o}{a b:o}{A B:bM}(hA:dG f b À a A)(hB:dG g b À a B)
include hA hB
theorem jDC{i k c d:o}{x y:G}{acc:bK}(hx:x<A.length)(hy:y<B.length)(hc:c=max A[x].1 B[y].1)(hd:d=min A[x].2.1 B[y].2.1)(h1:A[x].1<=B[y].2.1)(h2:B[y].1<=A[x].2.1)(Hx:a<=c)(hI:mn f g a b i k c acc) :
  (0<=A[x].2.2/\A[x].2.2=B[y].2.2/\c<d->mn f g a b i k d (acc++[(A[x].2.2,(i,(k,(c,d))))]))/\(¬(0<=A[x].2.2/\A[x].2.2=B[y].2.2/\c<d)->mn f g a b i k d acc)/\c<=d:=by
 have mA:=hA.ch.mem _ (jd hx);have mB:=hB.ch.mem _ (jd hy);have pA:=hA.pos _ (jd hx);have pB:=hB.pos _ (jd hy);have eA:=hA.edge (λp hp=>by simp at hp) _ (jd hx);have eB:=hB.edge (λp hp=>by simp at hp) _ (jd hy);have VS:c<=d:=aa;refine⟨λ⟨q1,q2,q3⟩=>⟨λz hz=>?_,?_,λt t1 t2 t3 t4=>?_⟩,λhn=>⟨λz hz=>?_,hI.pw,λt t1 t2 t3 t4=>?_⟩,VS⟩
 .rcases ji.1 hz with hz|hz
  .have:=hI.ok z hz;exact⟨this.1,aa⟩
  .simp only[k9]at hz;subst hz;refine⟨⟨rfl,rfl,q1,Hx,q3,by dsimp only;omega,λt t1 t2=>?_,?_,?_⟩,jx _⟩
   .dsimp only at t1 t2 ⊢
    exact⟨mA.2.2.2 t aa aa,by rw[q2];exact mB.2.2.2 t aa aa⟩
   .dsimp only
    by_cases UC:c=a
    .exact .inl UC
    .right
     rintro⟨r1,r2⟩
     by_cases hcA:c=A[x].1
     .rcases eA.1 with⟨_,e⟩|e
      .omega
      .exact e (by rw[<-hcA];exact r1)
     .have hcB:c=B[y].1:=aa;rcases eB.1 with⟨_,e⟩|e
      .omega
      .exact e (by rw[<-hcB,<-q2];exact r2)
   .dsimp only
    by_cases hdb:d=b
    .exact .inl hdb
    .right
     rintro⟨r1,r2⟩
     by_cases hdA:d=A[x].2.1
     .rcases eA.2 with e|e
      .omega
      .exact e (by rw[<-hdA];exact r1)
     .have hdB:d=B[y].2.1:=aa;rcases eB.2 with e|e
      .omega
      .exact e (by rw[<-hdB,<-q2];exact r2)
 .refine qy.2 ⟨hI.pw,qb _ _,λz hz w hw=>?_⟩;simp only[k9]at hw;subst hw;have:=hI.ok z hz;have:=this.1.lt;dsimp only;omega
 .by_cases VT:t<c
  .obtain⟨z,hz,h⟩:=hI.all t t1 VT t3 t4;exact⟨z,jo _ hz,h⟩
  .refine⟨_,jm _ (k9.2 rfl),?_,by dsimp only;omega,by dsimp only;omega⟩;exact(mA.2.2.2 t aa aa).symm
 .have:=hI.ok z hz;exact⟨this.1,aa⟩
 .by_cases VT:t<c
  .exact hI.all t t1 VT t3 t4
  .exfalso;have e1:=mA.2.2.2 t aa aa;have e2:=mB.2.2.2 t aa aa;exact hn ⟨by rw[<-e1];exact t4,by rw[<-e1,t3,e2],aa⟩
theorem jK6{i k:o}(hlA:A.length<=500000)(hlB:B.length<=500000):∀(n x y:G)(c:o)(acc:bK),(A.length-x)+(B.length-y)<=n->x<=A.length->y<=B.length->
  (∀(hx:x<A.length)(hy:y<B.length),c=max A[x].1 B[y].1/\A[x].1<=B[y].2.1/\B[y].1<=A[x].2.1)->((x=A.length\/y=B.length)->c=b)->a<=c->mn f g a b i k c acc->acc.length+n<=1000000->
  ∃out,Da A B i k (x:o) (y:o) acc=I out/\mn f g a b i k b out/\out.length<=acc.length+n:=by
 intro n;induction n with
 |zero=>intro x y c acc hn hx hy _ h2 _ hI hl;rw[PK];simp(disch:=omega)only[j2v,S0];have:=h2 aa;subst this;exact⟨acc,rfl,hI,aa⟩
 |succ n ih=>
  intro x y c acc hn hx hy h1 h2 Hx hI hl;rw[PK];simp only[j2v,show Int.ofNat A.length=(A.length:o) from rfl,show Int.ofNat B.length=(B.length:o) from rfl];by_cases pG:x<A.length
  .rw[ai (show (x:o)<(A.length:o) by omega)];by_cases nL:y<B.length
   .obtain⟨c1,c2,c3⟩:=h1 pG nL;have ga:A.getD x ((0:o),((0:o),(0:o)))=A[x]:=by simp[Z,pG]
    have gb:B.getD y ((0:o),((0:o),(0:o)))=B[y]:=by simp[Z,nL]
    have pA:=hA.pos _ (jd pG);have pB:=hB.pos _ (jd nL);rw[ai (show (y:o)<(B.length:o) by omega),bL (show (0:o)<=(x:o) by omega) aa,bL (show (0:o)<=(y:o) by omega) aa];simp only[j6,zo,j8,ga,gb];obtain⟨d,hd⟩:∃d,d=min A[x].2.1 B[y].2.1:=⟨_,rfl⟩;have e1:(if B[y].1>A[x].1 then B[y].1 else A[x].1)=c:=by split<;>omega
    have e2:(if B[y].2.1<A[x].2.1 then B[y].2.1 else A[x].2.1)=d:=by split<;>omega
    rw[e1,e2];obtain⟨s1,s2,VS⟩:=jDC hA hB (i:=i) (k:=k) pG nL c1 hd c2 c3 Hx hI
    have LD:∀bd:bK,A[x].2.1<B[y].2.1->mn f g a b i k d bd->bd.length<=acc.length+1->∃out,Da A B i k ((x:o)+1) (y:o) bd=I out/\mn f g a b i k b out/\out.length<=acc.length+(n+1):=λbd ao mK lu=>by
     have:=ih (x+1) y d bd aa aa hy (λiV oh=>by
      rcases hA.ch.nxt x pG with⟨h',e⟩|⟨e,_⟩
      .have pA':=hA.pos _ (jd iV);exact⟨aa,aa,aa⟩
      .omega) (λh=>by
      rcases hA.ch.nxt x pG with⟨h',e⟩|⟨_,e⟩
      .omega
      .omega) aa mK aa
     obtain⟨out,r1,r2,r3⟩:=this;exact⟨out,r1,r2,aa⟩
    have LF:∀bd:bK,¬A[x].2.1<B[y].2.1->mn f g a b i k d bd->bd.length<=acc.length+1->∃out,Da A B i k (x:o) ((y:o)+1) bd=I out/\mn f g a b i k b out/\out.length<=acc.length+(n+1):=λbd ao mK lu=>by
     have:=ih x (y+1) d bd aa hx aa (λiV oh=>by
      rcases hB.ch.nxt y nL with⟨h',e⟩|⟨e,_⟩
      .have pB':=hB.pos _ (jd oh);exact⟨aa,aa,aa⟩
      .omega) (λh=>by
      rcases hB.ch.nxt y nL with⟨h',e⟩|⟨_,e⟩
      .omega
      .omega) aa mK aa
     obtain⟨out,r1,r2,r3⟩:=this;exact⟨out,r1,r2,aa⟩
    rw[aQ (x:=(x:o)+1),aQ (x:=(y:o)+1)]
    have cH:cond (cond (H (A[x].2.2>=0)) (A[x].2.2==B[y].2.2) N) (H (c<d)) N=H (0<=A[x].2.2/\A[x].2.2=B[y].2.2/\c<d):=by
     rw[vz,decide_eq_true_iff];by_cases r1:0<=A[x].2.2
     .simp(disch:=omega)only[S0];by_cases r2:A[x].2.2=B[y].2.2
      .rw[dR r2,j6];simp only[decide_eq_true_iff];exact⟨λh=>⟨r1,r2,h⟩,λh=>h.2.2⟩
      .rw[cU r2,j7];simp only[kr,false_iff]
       exactλh=>r2 h.2.1
     .simp(disch:=omega)only[kr,false_iff,S0]
      exactλh=>r1 h.1
    rw[cH];by_cases he:0<=A[x].2.2/\A[x].2.2=B[y].2.2/\c<d
    .simp(disch:=omega)only[S0];by_cases ao:A[x].2.1<B[y].2.1
     .rw[ai ao,j6,bg];exact LD _ ao (s1 he) ae
     .rw[aC ao,j7,bg];exact LF _ ao (s1 he) ae
    .rw[aC he,j7];by_cases ao:A[x].2.1<B[y].2.1
     .rw[ai ao,j6,bg];exact LD acc ao (s2 he) aa
     .rw[aC ao,j7,bg];exact LF acc ao (s2 he) aa
   .simp(disch:=omega)only[S0];have:=h2 aa;subst this;exact⟨acc,rfl,hI,aa⟩
  .simp(disch:=omega)only[S0];have:=h2 aa;subst this;exact⟨acc,rfl,hI,aa⟩
theorem jDD{i k:o}(bH:a<=b)(hl:A.length+B.length<=500000):∃out,j8H A B i k=I out/\mn f g a b i k b out/\out.length<=A.length+B.length:=by
 by_cases e0:a=b
 .subst e0;obtain rfl:=hA.emp;obtain rfl:=hB.emp;refine⟨[],?_,⟨ae,J,λt h1 h2=>aa⟩,ae⟩;simp only[j8H];rw[PK];simp only[j2v,js];rw[aC ae];rfl
 have bH:a<b:=aa;have nA:=kg.2 (hA.ne bH);have nB:=kg.2 (hB.ne bH)
 have fA:A[0].1=a:=by
  match A,hA,nA with
  |s::r,hA,_=>exact hA.1
 have fB:B[0].1=a:=by
  match B,hB,nB with
  |s::r,hB,_=>exact hB.1
 have pA:=hA.pos _ (jd nA);have pB:=hB.pos _ (jd nB);obtain⟨out,e,h1,h2⟩:=jK6 hA hB (i:=i) (k:=k) aa aa (A.length+B.length) 0 0 a [] aa aa aa (λ_ _=>⟨aa,aa,aa⟩) (λh=>aa) (jx _) ⟨ae,J,λt h1 h2=>aa⟩ aj;refine⟨out,?_,h1,by simpa using h2⟩;simp only[j8H];rw[show Da A B i k 0 0 []=_ from e];rfl
end
def rF(x y:ie):Prop:=x.2.1<y.2.1\/x.2.1=y.2.1/\x.2.2.1<y.2.2.1
structure nw(F:G->o->o)(m:G)(a b:o)(i k:G)(L:bK):Prop where
 ok:∀z∈L,∃i' k':G,i'<k'/\k'<m/\(i'<i\/i'=i/\k'<k)/\ClOk (F i') (F k') a b i' k' z
 pw:L.Pairwise λx y=>x.2.2.2.1=y.2.2.2.1->rF x y
 all:∀i' k':G,i'<k'->k'<m->(i'<i\/i'=i/\k'<k)->∀t,a<=t->t<b->F i' t=F k' t->0<=F i' t->∃z∈L,z.2.1=i'/\z.2.2.1=k'/\z.1=F i' t/\z.2.2.2.1<=t/\t<z.2.2.2.2
theorem nw.add{F:G->o->o}{m:G}{a b:o}{i k:G}{L O:bK}(h:nw F m a b i k L)(ln:i<k)(qU:k<m)(hO:mn (F i) (F k) a b i k b O):nw F m a b i (k+1) (L++O):=by
 refine⟨λz hz=>?_,?_,λi' k' h1 h2 h3 t t1 t2 t3 t4=>?_⟩
 .rcases ji.1 hz with hz|hz
  .obtain⟨i',k',g1,g2,g3,g4⟩:=h.ok z hz;exact⟨i',k',g1,g2,aa,g4⟩
  .exact⟨i,k,ln,qU,aa,(hO.ok z hz).1⟩
 .refine qy.2 ⟨h.pw,hO.pw.imp (λh e=>absurd h aa),λx hx y hy _=>?_⟩;obtain⟨i',k',g1,g2,g3,g4⟩:=h.ok x hx;have q:=(hO.ok y hy).1;unfold rF;rw[g4.i,g4.k,q.i,q.k];omega
 .by_cases hn:i'=i/\k'=k
  .obtain⟨rfl,rfl⟩:=hn;obtain⟨z,hz,g⟩:=hO.all t t1 t2 t3 t4;have q:=(hO.ok z hz).1;exact⟨z,jm _ hz,q.i,q.k,g⟩
  .obtain⟨z,hz,g⟩:=h.all i' k' h1 h2 aa t t1 t2 t3 t4;exact⟨z,jo _ hz,g⟩
theorem nw.next{F:G->o->o}{m:G}{a b:o}{i k:G}{L:bK}(h:nw F m a b i k L)(hk:m<=k):nw F m a b (i+1) (i+2) L:=by
 refine⟨λz hz=>?_,h.pw,λi' k' h1 h2 h3=>h.all i' k' h1 h2 aa⟩;obtain⟨i',k',g1,g2,g3,g4⟩:=h.ok z hz;exact⟨i',k',g1,g2,aa,g4⟩
section
variable{F:G->o->o}{a b:o}(bH:a<=b){K:G}(hK:K<=16384){Ss:List bM}(ur:Ss.length<=1000)(hS:∀j (h:j<Ss.length),dG (F j) b À a Ss[j]/\Ss[j].length<=K)
include bH hK ur hS
theorem pl5{i:G}:∀(n k:G)(L:bK),k+n=Ss.length->i<k->nw F Ss.length a b i k L->L.length+2*K*n<=1000000->
  ∃L',JN (i:o) (k:o) (Ss.length:o) (i:o) Ss L=I ((Ss.length:o),(i:o),Ss,L')/\nw F Ss.length a b i Ss.length L'/\L'.length<=L.length+2*K*n
 |0,k,L,hk,_,hI,_=>by
  rw[_N];simp(disch:=omega)only[j3e,S0];obtain rfl:k=Ss.length:=aa;exact⟨L,rfl,hI,aa⟩
 |n+1,k,L,hk,ln,hI,hl=>by
  have hmul:2*K*(n+1)=2*K*n+2*K:=Nat.mul_succ _ _;have bC:k<Ss.length:=aa;have bG:i<Ss.length:=aa;have gi:Ss.getD i ([]:bM)=Ss[i]:=by simp[Z,bG]
  have gk:Ss.getD k ([]:bM)=Ss[k]:=by simp[Z,bC]
  have si:=hS i bG;have sk:=hS k bC;obtain⟨O,e,hO,lO⟩:=jDD si.1 sk.1 (i:=(i:o)) (k:=(k:o)) bH aa;obtain⟨L',e',mK,l'⟩:=pl5 (i:=i) n (k+1) (L++O) aa aa (hI.add ln bC hO) (by rw[E];omega);rw[_N];simp(disch:=omega)only[j3e,e,S0];exact⟨L',e',mK,by rw[E]at l';omega⟩
def uw:G->G
 |0=>0
 |n+1=>uw n+n
theorem pl3:∀(n i:G)(L:bK),i+n=Ss.length->nw F Ss.length a b i (i+1) L->L.length+2*K*uw n<=900000->
  ∃L',JO (Ss.length:o) (i:o) Ss L=I L'/\nw F Ss.length a b Ss.length (Ss.length+1) L'/\L'.length<=L.length+2*K*uw n
 |0,i,L,hi,hI,_=>by
  rw[_O];simp(disch:=omega)only[j3f,S0];obtain rfl:i=Ss.length:=aa;exact⟨L,rfl,hI,aa⟩
 |n+1,i,L,hi,hI,hl=>by
  have hmul:2*K*uw (n+1)=2*K*uw n+2*K*n:=Nat.mul_add _ _ _;obtain⟨L1,e1,h1,l1⟩:=pl5 bH hK ur hS (i:=i) n (i+1) L aa aa hI aa;obtain⟨L2,e2,h2,l2⟩:=pl3 n (i+1) L1 aa (h1.next (jh _)) aa;rw[_O];simp(disch:=omega)only[j3f,show JN (i:o) ((i:o)+1) (Ss.length:o) (i:o) Ss L=_ from e1,S0];exact⟨L2,e2,h2,aa⟩
end
theorem jDE{f g:o->o}{a b i k:o}{z z':ie}(h:ClOk f g a b i k z)(h':ClOk f g a b i k z')(hp:z.1=z'.1){t:o}(h1:z.2.2.2.1<=t)(h2:t<z.2.2.2.2)(h3:z'.2.2.2.1<=t)(h4:t<z'.2.2.2.2):z=z':=by
 obtain⟨p,i1,k1,f1,t1⟩:=z;obtain⟨p',i2,k2,f2,t2⟩:=z';obtain⟨a1,a2,a3,a4,a5,a6,a7,a8,a9⟩:=h;obtain⟨b1,b2,b3,b4,b5,b6,b7,b8,b9⟩:=h';grind
theorem nw.sub{F:G->o->o}{m:G}{a b:o}{L L':bK}(h:nw F m a b m (m+1) L)(h':nw F m a b m (m+1) L'):∀z∈L,z∈L':=by
 intro z hz;obtain⟨i,k,h1,h2,_,h4⟩:=h.ok z hz;have hl:=h4.lt;have iW:=h4.hi;obtain⟨e1,e2⟩:=h4.mid z.2.2.2.1 (jx _) hl;obtain⟨z',m',g1,g2,g3,g4,g5⟩:=h'.all i k h1 h2 aa z.2.2.2.1 h4.lo aa (by rw[e1,e2]) (by rw[e1];exact h4.p);obtain⟨i',k',r1,r2,_,r4⟩:=h'.ok z' m';grind[ClOk.i,ClOk.k,jDE]
def iG(x y:ie):Bool:=cond (x.2.2.2.1 != y.2.2.2.1) (H (x.2.2.2.1<y.2.2.2.1)) (cond (x.2.1 != y.2.1) (H (x.2.1<y.2.1)) (H (x.2.2.1<y.2.2.1)))
theorem jz7{x y:ie}:iG x y=true↔(x.2.2.2.1<y.2.2.2.1\/x.2.2.2.1=y.2.2.2.1/\rF x y):=by
 grind[iG,rF]
def lT(x y:ie):Prop:=iG y x=N
theorem LG{x y:ie}:lT x y↔¬(y.2.2.2.1<x.2.2.2.1\/y.2.2.2.1=x.2.2.2.1/\rF y x):=by
 grind[lT,jz7]
theorem jJz{x y:ie}(h:iG x y=true):lT x y:=by
 grind[LG,jz7,rF]
theorem jJA{x y:ie}(h:iG x y=N):lT y x:=h
theorem jGh{x y z:ie}(h:lT x y)(h':lT y z):lT x z:=by
 grind[LG,rF]
def mY:G->bK->bK->bK->bK
 |0,out,_,_=>out
 |n+1,out,x::a,y::b=>cond (!(iG y x)) (mY n (out++[x]) a (y::b)) (mY n (out++[y]) (x::a) b)
 |n+1,out,x::a,[]=>mY n (out++[x]) a []
 |n+1,out,[],y::b=>mY n (out++[y]) [] b
 |_+1,out,[],[]=>out
def lU:G->bK->bK
 |0,l=>l
 |n+1,l=>if l.length<2 then l else mY l.length [] (lU n (l.take (l.length/2))) (lU n (l.drop (l.length/2)))
theorem Hy:∀(n:G)(out a b:bK),n=a.length+b.length->(mY n out a b).Perm (out++(a++b))
 |0,out,a,b,hn=>by
  have h1:a=[]:=List.length_eq_zero_iff.1 aa;have h2:b=[]:=List.length_eq_zero_iff.1 aa;subst h1;subst h2;simp[mY]
 |n+1,out,x::a,y::b,hn=>by
  simp only[jf]at hn;unfold mY;cases !(iG y x) with
  |true=>have:=Hy n (out++[x]) a (y::b) aj;rw[j6];simpa using this
  |false=>have:=Hy n (out++[y]) (x::a) b aj;rw[j7];refine this.trans ?_;rw[jk];have h:(y::((x::a)++b)).Perm ((x::a)++y::b):=List.perm_middle.symm;exact h.append_left out
 |n+1,out,x::a,[],hn=>by
  simp only[jf,js]at hn;have:=Hy n (out++[x]) a [] aj;show (mY n (out++[x]) a []).Perm _;simpa using this
 |n+1,out,[],y::b,hn=>by
  simp only[jf,js]at hn;have:=Hy n (out++[y]) [] b aj;show (mY n (out++[y]) [] b).Perm _;simpa using this
 |n+1,out,[],[],hn=>by simp at hn
theorem LH{out:bK}{x:ie}(h:out.Pairwise lT)(hx:∀y∈out,lT y x):(out++[x]).Pairwise lT:=
 qy.2 ⟨h,qb _ _,λy hy z hz=>by
  simp_all⟩
theorem Hz:∀(n:G)(out a b:bK),n=a.length+b.length->out.Pairwise lT->a.Pairwise lT->b.Pairwise lT->(∀x∈out,(∀y∈a,lT x y)/\∀y∈b,lT x y)->(mY n out a b).Pairwise lT
 |0,out,a,b,hn,ho,_,_,_=>ho
 |n+1,out,x::a,y::b,hn,ho,ha,hb,hle=>by
  have my:=List.pairwise_cons.1 ha;have aZ:=List.pairwise_cons.1 hb;simp only[jf]at hn;unfold mY;cases hc:iG y x with
  |false=>
   have iw:lT x y:=jJA hc;refine Hz n (out++[x]) a (y::b) aj (LH ho λz hz=>(hle z hz).1 x ae) my.2 hb λz hz=>?_;rcases ji.1 hz with hz|hz
   .exact⟨λu hu=>(hle z hz).1 u (by simp[hu]),(hle z hz).2⟩
   .have:z=x:=by simpa using hz
    subst this;refine⟨my.1,λu hu=>?_⟩;rcases jb.1 hu with rfl|hu
    .exact iw
    .exact jGh iw (aZ.1 u hu)
  |true=>
   have hyx:lT y x:=jJz hc;refine Hz n (out++[y]) (x::a) b aj (LH ho λz hz=>(hle z hz).2 y ae) ha aZ.2 λz hz=>?_;rcases ji.1 hz with hz|hz
   .exact⟨(hle z hz).1,λu hu=>(hle z hz).2 u (by simp[hu])⟩
   .have:z=y:=by simpa using hz
    subst this;refine⟨λu hu=>?_,aZ.1⟩;rcases jb.1 hu with rfl|hu
    .exact hyx
    .exact jGh hyx (my.1 u hu)
 |n+1,out,x::a,[],hn,ho,ha,hb,hle=>by
  have my:=List.pairwise_cons.1 ha;simp only[jf,js]at hn;refine Hz n (out++[x]) a [] aj (LH ho λz hz=>(hle z hz).1 x ae) my.2 hb λz hz=>?_;rcases ji.1 hz with hz|hz
  .exact⟨λu hu=>(hle z hz).1 u (by simp[hu]),(hle z hz).2⟩
  .have:z=x:=by simpa using hz
   subst this;exact⟨my.1,λu hu=>by simp at hu⟩
 |n+1,out,[],y::b,hn,ho,ha,hb,hle=>by
  have aZ:=List.pairwise_cons.1 hb;simp only[jf,js]at hn;refine Hz n (out++[y]) [] b aj (LH ho λz hz=>(hle z hz).2 y ae) ha aZ.2 λz hz=>?_;rcases ji.1 hz with hz|hz
  .exact⟨(hle z hz).1,λu hu=>(hle z hz).2 u (by simp[hu])⟩
  .have:z=y:=by simpa using hz
   subst this;exact⟨λu hu=>by simp at hu,aZ.1⟩
 |n+1,out,[],[],hn,ho,_,_,_=>ho
theorem jz8:∀(n:G)(out a b:bK),a.length+b.length<=n->mY n out a b=mY (a.length+b.length) out a b:=by
 intro n;induction n with
 |zero=>simp_all
 |succ n ih=>
  intro out a b h;match a,b,h with
  |[],[],_=>rfl
  |x::a,[],h=>
   simp_all[mY]
  |[],y::b,h=>
   simp_all[mY]
  |x::a,y::b,h=>simp only[jf]at h ⊢;grind[mY]
theorem DQ:∀(n:G)(l:bK),l.length<=n+1->(lU n l).Pairwise lT/\(lU n l).Perm l
 |0,l,hl=>by
  refine⟨?_,.refl _⟩;match l,hl with
  |[],_=>exact J
  |[x],_=>exact qb _ _
 |n+1,l,hl=>by
  unfold lU;by_cases h2:l.length<2
  .rw[if_pos h2];refine⟨?_,.refl _⟩;match l,h2 with
   |[],_=>exact J
   |[x],_=>exact qb _ _
  .rw[if_neg h2];obtain⟨a1,a2⟩:=DQ n (l.take (l.length/2)) aj;obtain⟨b1,b2⟩:=DQ n (l.drop (l.length/2)) aj;have la:=a2.length_eq;have lb:=b2.length_eq;simp only[List.length_take,qw]at la lb;rw[jz8 l.length [] _ _ aa];refine⟨Hz _ [] _ _ rfl J a1 b1 (λx hx=>by simp at hx),?_⟩;have:=Hy _ [] (lU n (l.take (l.length/2))) (lU n (l.drop (l.length/2))) rfl;refine this.trans ?_;rw[jr];have h3:=a2.append b2;rwa[k6]at h3
theorem LI:∀(n m:G)(l:bK),l.length<=n+1->l.length<=m+1->lU n l=lU m l
 |0,0,_,_,_=>rfl
 |0,m+1,l,h,_=>by unfold lU;rw[if_pos aa]
 |n+1,0,l,_,h=>by unfold lU;rw[if_pos aa]
 |n+1,m+1,l,h1,h2=>by
  unfold lU;by_cases h:l.length<2
  .rw[if_pos h,if_pos h]
  .rw[if_neg h,if_neg h,LI n m _ aj aj,LI n m _ aj aj]
end Go.Proofs.Pw
