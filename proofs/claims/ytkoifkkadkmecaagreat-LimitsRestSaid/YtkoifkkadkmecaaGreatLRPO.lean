/- uv TG; the rE uu sort is the uu sort by the key. -/
import Derived.Test.YtkoifkkadkmecaaGreatLRPN
open _root_ renaming Int->o,Nat->q,Option->I
open Decidable renaming decide->u
open Option renaming some->w,none->N
open Bool renaming false->E
open List renaming take_sublist->F,drop_sublist->G,reverse_cons->H,length->L
open Go Go.Lft
namespace Go.Proofs.Pw
theorem eh.sub{l r:bG}(h:eh l)(hs:r.Sublist l):eh r:=List.Pairwise.sublist hs h
def Rk(rec:bG->o->o->o->I bG)(s:q)(C:Prop):Prop:=
 ∀P A B Q:bG,A≠[]->B≠[]->eh A->eh B->iW (P++(A++(B++Q)))->(P++(A++(B++Q))).length<=1000000000->A.length+B.length<s->
  ∀a m b:o,a=P.length->m=((P.length+A.length:q):o)->b=((P.length+A.length+B.length:q):o)->
  rec (P++(A++(B++Q))) a m b=w (P++(gw aw A B++Q))\/(rec (P++(A++(B++Q))) a m b=N/\C)
theorem jCE(A B:bG):(gw aw A B).Perm (A++B):=by
 have e:∀A B:bG,(gw aw A B).Perm (A++B):=by
  intro A;induction A with
  |nil=>intro B;exact List.Perm.refl _
  |cons a ra ih=>
   intro B;induction B with
   |nil=>rw[qB,kc]
   |cons b bs oH=>
    rw[pz];split
    .exact(oH.cons b).trans (List.perm_middle (l₁:=a::ra)).symm
    .exact(ih (b::bs)).cons a
 exact e A B
section
variable{rec:bG->o->o->o->I bG}{s:q}{C:Prop}(hR:Rk rec s C)
def Hj(rec:bG->o->o->o->I bG)(D:bG)(a k mid e b:o):I bG:=
 cond (cond (u (a<k)) (u (k<mid)) E) (
 (rec D a k mid).bind λHk=>
 cond (cond (u (mid<e)) (u (e<b)) E) (
 (rec Hk mid e b).bind λmU=>
 w mU) (
 w Hk)) (
 cond (cond (u (mid<e)) (u (e<b)) E) (
 (rec D mid e b).bind λBC=>
 w BC) (
 w D))
include hR
theorem jFk(P A2 B2 Q:bG)(h3:eh A2)(h4:eh B2)(hS:iW (P++(A2++(B2++Q))))(hL:(P++(A2++(B2++Q))).length<=1000000000)(hs:A2.length+B2.length<s)
  {mid e b:o}(uw:mid=P.length)(he:e=((P.length+A2.length:q):o))(hb:b=((P.length+A2.length+B2.length:q):o)) :
  (cond (cond (u (mid<e)) (u (e<b)) E) ((rec (P++(A2++(B2++Q))) mid e b).bind λmU=>w mU) (w (P++(A2++(B2++Q))))=w (P++(gw aw A2 B2++Q)))\/
  (cond (cond (u (mid<e)) (u (e<b)) E) ((rec (P++(A2++(B2++Q))) mid e b).bind λmU=>w mU) (w (P++(A2++(B2++Q))))=N/\C):=by
 match A2,B2 with
 |[],B2=>left;rw[ai (by simp at he;omega)];rfl
 |x::A2,[]=>left;rw[ai (show¬e<b by simp at he hb;omega)];cases u (mid<e)<;>simp[qB]
 |x::A2,y::B2=>
  rw[ah (show mid<e by simp at he;omega),ah (show e<b by simp at he hb;omega)];simp only[j6];rcases hR P (x::A2) (y::B2) Q smp_ smp_ h3 h4 hS hL hs mid e b uw he hb with h|⟨h,hc⟩
  .left;rw[h];rfl
  .right;rw[h];exact⟨rfl,hc⟩
theorem jGW(P A1 B1 A2 B2 Q:bG)(h1:eh A1)(h2:eh B1)(h3:eh A2)(h4:eh B2)(hS:iW (P++(A1++(B1++(A2++(B2++Q))))))(hL:(P++(A1++(B1++(A2++(B2++Q))))).length<=1000000000)
  (nu:A1.length+B1.length<s)(og:A2.length+B2.length<s)
  {a k mid e b:o}(ha:a=P.length)(hk:k=((P.length+A1.length:q):o))(uw:mid=((P.length+A1.length+B1.length:q):o))(he:e=((P.length+A1.length+B1.length+A2.length:q):o))(hb:b=((P.length+A1.length+B1.length+A2.length+B2.length:q):o)) :
  Hj rec (P++(A1++(B1++(A2++(B2++Q))))) a k mid e b=w (P++(gw aw A1 B1++(gw aw A2 B2++Q)))\/(Hj rec (P++(A1++(B1++(A2++(B2++Q))))) a k mid e b=N/\C):=by
 have hp:=jCE A1 B1;have gr:=hp.length_eq;have fy:∀x,x∈gw aw A1 B1↔x∈A1++B1:=λx=>hp.mem_iff;simp only[jc]at gr hL
 have f2:=jFk hR (P++gw aw A1 B1) A2 B2 Q h3 h4 (hS.of λx hx=>by
  simp only[jj,fy]at hx ⊢;rcases hx with (h|h|h)|h|h|h<;>simp[h]) (by simp only[jc,gr];omega) og (mid:=mid) (e:=e) (b:=b) (by simp only[jc,gr];omega) (by simp only[jc,gr];omega) (by simp only[jc,gr];omega)
 simp only[jh]at f2;unfold Hj;have key:∀D:bG,D=P++(gw aw A1 B1++(A2++(B2++Q)))->(cond (cond (u (mid<e)) (u (e<b)) E) ((rec D mid e b).bind λmU=>w mU) (w D)=w (P++(gw aw A1 B1++(gw aw A2 B2++Q))))\/(cond (cond (u (mid<e)) (u (e<b)) E) ((rec D mid e b).bind λmU=>w mU) (w D)=N/\C):=λD hD=>by rw[hD];exact f2
 match A1,B1 with
 |[],B1=>rw[ai (show¬a<k by simp at hk;omega)];exact key _ rfl
 |x::A1,[]=>
  rw[ai (show¬k<mid by simp at hk uw;omega)];cases u (a<k)
  .exact key _ (by rw[qB,jp])
  .exact key _ (by rw[qB,jp])
 |x::A1,y::B1=>
  rw[ah (show a<k by simp at hk;omega),ah (show k<mid by simp at hk uw;omega)];simp only[j6];rcases hR P (x::A1) (y::B1) (A2++(B2++Q)) smp_ smp_ h1 h2 hS (by simp only[jc];omega) nu a k mid ha hk uw with h|⟨h,hc⟩
  .rw[h];simp only[j4];exact key _ rfl
  .right;rw[h];exact⟨rfl,hc⟩
theorem jCF{P A B Q:bG}(hA:A≠[])(hB:B≠[])(sA:eh A)(sB:eh B)(hS:iW (P++(A++(B++Q))))(hL:(P++(A++(B++Q))).length<=1000000000)(hs:A.length+B.length<=s)
  {a m b:o}(ha:a=P.length)(hm:m=((P.length+A.length:q):o))(hb:b=((P.length+A.length+B.length:q):o)) :
  JA rec (P++(A++(B++Q))) a m b=w (P++(gw aw A B++Q))\/(JA rec (P++(A++(B++Q))) a m b=N/\C):=by
 have ι:=q9.2 hA;have Ă:=q9.2 hB;have nX:(P++(A++(B++Q))).length=P.length+A.length+B.length+Q.length:=sqo_;have gA:∀i,i<A.length->(P++(A++(B++Q))).getD (P.length+i) dC=A.getD i dC:=λi hi=>Ϸ P A (B++Q) i hi
 have gB:∀i,i<B.length->(P++(A++(B++Q))).getD (P.length+A.length+i) dC=B.getD i dC:=λi hi=>by
  have:=Ϸ (P++A) B Q i hi;simp only[jh,jc]at this;exact this
 have Dc:∀t,P.length<=t->t<P.length+A.length->(P++(A++(B++Q))).getD t dC=A.getD (t-P.length) dC:=λt h1 h2=>by
  rw[<-gA _ omg_,show P.length+(t-P.length)=t by omega]
 have Dd:∀t,P.length+A.length<=t->t<P.length+A.length+B.length->(P++(A++(B++Q))).getD t dC=B.getD (t-(P.length+A.length)) dC:=λt h1 h2=>by
  rw[<-gB _ omg_,show P.length+A.length+(t-(P.length+A.length))=t by omega]
 rw[nX]at hL;simp only[JA];rw[aj (x:=m-a),aj (x:=b-m)];by_cases h1:A.length=1
 ·-- one element ahead
  left;rw[cR (show m-a=1 by omega),j6];obtain⟨x,rfl⟩:∃x,A=[x]:=List.length_eq_one_iff.1 h1;simp only[qe]at *
  obtain⟨k,k1,k2,e0,k3,k4⟩:=jGU rec hS (by rw[nX];omega) (a:=P.length) (m:=P.length+1) (b:=P.length+1+B.length) (by rw[nX];omega) omg_ (by rw[nX];omega) (λs t s1 s2 s3=>by
   rw[Dd s s1 omg_,Dd t omg_ s3];exact zG sB omg_ omg_)
  subst ha hm hb;rw[e0];simp only[j4];have rW:=gA 0 omg_;rw[vr]at rW;have KQ:([x]:bG).getD 0 dC=x:=rfl;rw[rW,KQ]at k3 k4
  have hB1:∀y∈B.take (k-(P.length+1)),aw y<aw x:=λy hy=>by
   obtain⟨i,i1,i2,rfl⟩:=Ll hy;have:=k3 (P.length+1+i) omg_ omg_;rw[gB i i2]at this;exact this
  have Ln:∀y∈B.drop (k-(P.length+1)),¬aw y<aw x:=λy hy=>by
   obtain⟨i,i1,i2,rfl⟩:=Lm hy;have:=k4 (P.length+1+i) omg_ omg_;rw[gB i i2]at this;exact this
  have fw:=jFh x _ _ hB1 Ln;have dz:=kq (k-(P.length+1)) B;have l2:=ϻ rec (e:=(k:o)) x (B.take (k-(P.length+1))) P (B.drop (k-(P.length+1))++Q) sqo_ sqo_;rw[show P++x::(B.take (k-(P.length+1))++(B.drop (k-(P.length+1))++Q))=P++([x]++(B++Q)) by rw[<-jh (B.take _),dz];rfl]at l2;rw[l2];simp only[j4];rw[dz]at fw;rw[fw];simp
 .rw[ca (show¬m-a=1 by omega),j7];by_cases h2:B.length=1
  .left;rw[cR (show b-m=1 by omega),j6];obtain⟨y,rfl⟩:∃x,B=[x]:=List.length_eq_one_iff.1 h2;simp only[qe]at *
   obtain⟨k,k1,k2,e0,k3,k4⟩:=jGV rec hS (by rw[nX];omega) (a:=P.length) (m:=P.length+A.length) (by rw[nX];omega) omg_ (λs t s1 s2 s3=>by
    rw[Dc s s1 omg_,Dc t omg_ s3];exact zG sA omg_ omg_)
   subst ha hm hb;rw[e0];simp only[j4];have ă:=gB 0 omg_;rw[vr]at ă;have hyy:([y]:bG).getD 0 dC=y:=rfl;rw[ă,hyy]at k3 k4
   have G8:∀x∈A.take (k-P.length),¬aw y<aw x:=λx hx=>by
    obtain⟨i,i1,i2,rfl⟩:=Ll hx;have:=k3 (P.length+i) omg_ omg_;rw[gA i i2]at this;exact this
   have rB:∀x∈A.drop (k-P.length),aw y<aw x:=λx hx=>by
    obtain⟨i,i1,i2,rfl⟩:=Lm hx;have:=k4 (P.length+i) omg_ omg_;rw[gA i i2]at this;omega
   have fw:=jCD y _ _ G8 rB;have dz:=kq (k-P.length) A;have l6:=Ā rec (i:=(k:o)) y (A.drop (k-P.length)).reverse (P++A.take (k-P.length)) Q sqo_ sqo_;rw[yc,show (P++A.take (k-P.length))++(A.drop (k-P.length)++y::Q)=P++(A++([y]++Q)) by rw[jh,<-jh (A.take _),dz];rfl,show (((P++A.take (k-P.length)).length+(A.drop (k-P.length)).reverse.length:q):o)=((P.length+A.length:q):o) by simp;omega]at l6;rw[l6];simp only[j4];rw[dz]at fw;rw[fw];simp
  .rw[ca (show¬b-m=1 by omega),j7];obtain⟨M,hM⟩:∃M,M=(P.length+(P.length+A.length+B.length))/2:=⟨_,rfl⟩;have hh:=Lk (a:=P.length) (b:=P.length+A.length+B.length) omg_;rw[<-hM]at hh;rw[ha,hb,hh];rw[aj (x:=(M:o)+m)];rw[aj (x:=(M:o)+m-1)];have Ą:(M:o)+m-1=((M+(P.length+A.length)-1:q):o):=omg_
   have tail:∀k:q,P.length<=k->k<=P.length+A.length->M+(P.length+A.length)-k<=P.length+A.length+B.length->k<=M->
     (∀x∈A.drop (k-P.length),∀y∈B.take (M-k),aw y<aw x)->(∀x∈A.take (k-P.length),∀y∈B.drop (M-k),¬aw y<aw x)->
     ∀r:I bG,r=cond (cond (u ((k:o)<m)) (u (m<(M:o)+m-(k:o))) E) ((j1c (P++(A++(B++Q))) (k:o) m ((M:o)+m-(k:o))).bind λd=>Hj rec d (P.length:o) (k:o) (M:o) ((M:o)+m-(k:o)) b) (Hj rec (P++(A++(B++Q))) (P.length:o) (k:o) (M:o) ((M:o)+m-(k:o)) b)->
     r=w (P++(gw aw A B++Q))\/(r=N/\C):=by
    intro k k1 k2 k3 k4 f1 f2 r hr;have ą:=kq (k-P.length) A;have Ć:=kq (M-k) B;have lA1:(A.take (k-P.length)).length=k-P.length:=sqo_;have lA2:(A.drop (k-P.length)).length=P.length+A.length-k:=sqo_;have lB1:(B.take (M-k)).length=M-k:=sqo_;have lB2:(B.drop (M-k)).length=B.length-(M-k):=smp_;have sA1:=sA.sub (F (k-P.length) A);have sA2:=sA.sub (G (k-P.length) A);have sB1:=sB.sub (F (M-k) B);have sB2:=sB.sub (G (M-k) B);have ć:=w8 (key:=aw) _ _ _ _ f1 f2;rw[ą,Ć]at ć;generalize A.take (k-P.length)=A1 at *;generalize A.drop (k-P.length)=A2 at *;generalize B.take (M-k)=B1 at *
    generalize B.drop (M-k)=B2 at *
    subst ą Ć;simp only[jc]at *
    have fin:=jGW hR P A1 B1 A2 B2 Q sA1 sB1 sA2 sB2 (hS.of λx hx=>by
     simp only[jj]at hx ⊢;rcases hx with h|h|h|h|h|h<;>simp[h]) (by simp only[jc];omega) omg_ omg_ (a:=(P.length:o)) (k:=(k:o)) (mid:=(M:o)) (e:=(M:o)+m-(k:o)) (b:=b) rfl omg_ omg_ omg_ omg_
    rw[<-jh (gw aw A1 B1),<-ć]at fin;rw[hr];by_cases BD:(k:o)<m/\m<(M:o)+m-(k:o)
    .rw[ah BD.1,ah BD.2];simp only[j6];have ro:=jGT (P++A1) A2 B1 (B2++Q) (λh=>by have:=jo L h;simp only[jw]at this;omega) (λh=>by have:=jo L h;simp only[jw]at this;omega) sqo_ (a:=(k:o)) (m:=m) (b:=(M:o)+m-(k:o)) sqo_ sqo_ sqo_;simp only[jh]at ro ⊢;rw[ro];simp only[j4];exact fin
    .have hc:cond (u ((k:o)<m)) (u (m<(M:o)+m-(k:o))) E=false:=by
      by_cases h:(k:o)<m
      .rw[ah h,j6];exact ai (λh'=>BD ⟨h,h'⟩)
      .rw[ai h,j7]
     rw[hc,j7]
     have he:A2++(B1++(B2++Q))=B1++(A2++(B2++Q)):=by
      by_cases h:(k:o)<m
      .have:B1=[]:=k9.1 omg_;subst this;rfl
      .have:A2=[]:=k9.1 omg_;subst this;rfl
     simp only[jh]at fin ⊢;rw[he];exact fin
   have uy:∀s t,P.length<=s->s<=t->t<P.length+A.length->M+(P.length+A.length)-1-s<P.length+A.length+B.length->P.length+A.length<=M+(P.length+A.length)-1-t->¬aw ((P++(A++(B++Q))).getD (M+(P.length+A.length)-1-t) dC)<aw ((P++(A++(B++Q))).getD t dC)->¬aw ((P++(A++(B++Q))).getD (M+(P.length+A.length)-1-s) dC)<aw ((P++(A++(B++Q))).getD s dC):=by intro s t s1 s2 s3 s4 s5 h;rw[Dc s s1 omg_];rw[Dc t omg_ s3]at h;rw[Dd _ omg_ s4];rw[Dd _ s5 omg_]at h;have q1:=zG sA (i:=s-P.length) (j:=t-P.length) omg_ omg_;have q2:=zG sB (i:=M+(P.length+A.length)-1-t-(P.length+A.length)) (j:=M+(P.length+A.length)-1-s-(P.length+A.length)) omg_ omg_;omega
   have facts:∀lo hi k:q,P.length<=lo->hi<=P.length+A.length->hi<=M->M+(P.length+A.length)-lo<=P.length+A.length+B.length->lo<=k->k<=hi->(hi=M\/hi=P.length+A.length)->(lo=P.length\/M+(P.length+A.length)-lo=P.length+A.length+B.length)->
     (∀t,lo<=t->t<k->¬aw ((P++(A++(B++Q))).getD (M+(P.length+A.length)-1-t) dC)<aw ((P++(A++(B++Q))).getD t dC))->(∀t,k<=t->t<hi->¬¬aw ((P++(A++(B++Q))).getD (M+(P.length+A.length)-1-t) dC)<aw ((P++(A++(B++Q))).getD t dC))->
     (∀x∈A.drop (k-P.length),∀y∈B.take (M-k),aw y<aw x)/\(∀x∈A.take (k-P.length),∀y∈B.drop (M-k),¬aw y<aw x):=by
    intro lo hi k g1 g2 g3 g4 g5 g6 g7 g8 p1 p2;constructor
    .intro x hx y hy;obtain⟨i,i1,i2,rfl⟩:=Lm hx;obtain⟨j,j1,j2,rfl⟩:=Ll hy;have hkh:k<hi:=omg_;have:=p2 k (jn _) hkh;rw[Dc k omg_ omg_,Dd _ omg_ omg_]at this;have q1:=zG sA (i:=k-P.length) (j:=i) omg_ omg_;have q2:=zG sB (i:=j) (j:=M+(P.length+A.length)-1-k-(P.length+A.length)) omg_ omg_;omega
    .intro x hx y hy;obtain⟨i,i1,i2,rfl⟩:=Ll hx;obtain⟨j,j1,j2,rfl⟩:=Lm hy;have iv:lo<k:=omg_;have:=p1 (k-1) omg_ omg_;rw[Dc (k-1) omg_ omg_,Dd _ omg_ omg_]at this;have q1:=zG sA (i:=i) (j:=k-1-P.length) omg_ omg_;have q2:=zG sB (i:=M+(P.length+A.length)-1-(k-1)-(P.length+A.length)) (j:=j) omg_ omg_;omega
   by_cases Ĉ:m>(M:o)
   .rw[ah Ĉ,j6];rw[<-hb,aj (x:=(M:o)+m-b)];obtain⟨k,k1,k2,e0,k3,k4⟩:=ā rec hS (by rw[nX];omega) (lo:=M+(P.length+A.length)-(P.length+A.length+B.length)) (hi:=M) (p:=M+(P.length+A.length)-1) (s1:=(P.length:o)) (s2:=m) (s3:=b) (s18:=(M:o)) (s19:=(M:o)+m) omg_ (by rw[nX];omega) (λc c1 c2=>by rw[nX];omega) omg_ (λs t s1 s2 s3 h=>uy s t omg_ s2 omg_ omg_ omg_ h);obtain⟨f1,f2⟩:=facts (M+(P.length+A.length)-(P.length+A.length+B.length)) M k omg_ omg_ omg_ omg_ k1 k2 (.inl rfl) (.inr omg_) k3 k4;rw[Ą,show (M:o)+m-b=((M+(P.length+A.length)-(P.length+A.length+B.length):q):o) by omega,e0];simp only[j4];rw[aj (x:=(M:o)+m-(k:o))];exact tail k omg_ omg_ omg_ omg_ f1 f2 _ rfl
   .rw[ai Ĉ,j7];obtain⟨k,k1,k2,e0,k3,k4⟩:=ā rec hS (by rw[nX];omega) (lo:=P.length) (hi:=P.length+A.length) (p:=M+(P.length+A.length)-1) (s1:=(P.length:o)) (s2:=m) (s3:=b) (s18:=(M:o)) (s19:=(M:o)+m) omg_ (by rw[nX];omega) (λc c1 c2=>by rw[nX];omega) omg_ (λs t s1 s2 s3 h=>uy s t omg_ s2 omg_ omg_ omg_ h);obtain⟨f1,f2⟩:=facts P.length (P.length+A.length) k omg_ omg_ omg_ omg_ k1 k2 (.inr rfl) (.inl rfl) k3 k4;rw[Ą];rw[show ((P.length+A.length:q):o)=m from hm.symm]at e0;rw[<-hb,e0];simp only[j4];rw[aj (x:=(M:o)+m-(k:o))];exact tail k omg_ omg_ omg_ omg_ f1 f2 _ rfl
end
theorem TH:∀(n s:q),Rk (λv0 v1 v2 v3=>iB j0p n (v0,v1,v2,v3)) (s+1) (n<=s)
 |0,s=>λP A B Q _ _ _ _ _ _ _ a m b _ _ _=> .inr ⟨rfl,kp _⟩
 |n+1,s=>λP A B Q hA hB sA sB hS hL hs a m b ha hm hb=>by
  by_cases h0:s=0
  .have:=q9.2 hA;have:=q9.2 hB;omega
  .have ih:=TH n (s-1);rw[show s-1+1=s by omega]at ih;rcases jCF ih hA hB sA sB hS hL omg_ ha hm hb with h|⟨h,hc⟩
   .exact .inl h
   .exact .inr ⟨h,omg_⟩
theorem ĉ{P A B Q:bG}(hA:A≠[])(hB:B≠[])(sA:eh A)(sB:eh B)(hS:iW (P++(A++(B++Q))))(hL:(P++(A++(B++Q))).length<=1000000000)
  {a m b:o}(ha:a=P.length)(hm:m=((P.length+A.length:q):o))(hb:b=((P.length+A.length+B.length:q):o)) :
  j1C (P++(A++(B++Q))) a m b=w (P++(gw aw A B++Q)):=by
 refine IL ⟨A.length+B.length+1,?_⟩ λn y hy=>?_
 .rcases TH (A.length+B.length+1) (A.length+B.length) P A B Q hA hB sA sB hS hL omg_ a m b ha hm hb with h|⟨_,h⟩
  .exact h
  .omega
 .rcases TH n (A.length+B.length) P A B Q hA hB sA sB hS hL omg_ a m b ha hm hb with h|⟨h,_⟩
  .have h:iB j0p n (P++(A++(B++Q)),a,m,b)=_:=h;rw[h]at hy;simpa using hy.symm
  .have h:iB j0p n (P++(A++(B++Q)),a,m,b)=none:=h;rw[h]at hy;simp at hy
theorem Ċ{x:iK}:∀{l:bG},(∀y∈l,¬aw x<aw y)->cO aw x l=l++[x]
 |[],_=>rfl
 |y::l,h=>by
  rw[cO,if_neg (h y smp_),Ċ (l:=l) (λz hz=>h z (by simp[hz]))];rfl
theorem ċ{x y:iK}:∀{l:bG},aw x<aw y->cO aw x (l++[y])=cO aw x l++[y]
 |[],h=>by simp[cO,h]
 |z::l,h=>by
  rw[qp,cO,cO];split
  .rfl
  .rw[ċ h];rfl
theorem Č{a n s8:o}(x:iK)(P:bG)(ha:a=P.length):∀(rp mid:bG),eh rp.reverse->iW (P++(rp.reverse++x::mid))->(P++(rp.reverse++x::mid)).length<=1000000000->
  Ju a n s8 ((P.length+rp.length:q):o) (P++(rp.reverse++x::mid))=w (a,n,s8,P++(cO aw x rp.reverse++mid))
 |[],mid,_,_,_=>by
  rw[Yp];simp only[j0r];rw[ai sqo_,j7,aP];rfl
 |y::rp,mid,hs,hS,hL=>by
  have nX:(P++((y::rp).reverse++x::mid)).length=P.length+rp.length+mid.length+2:=sqo_;rw[nX]at hL;have e1:P++((y::rp).reverse++x::mid)=(P++rp.reverse++[y])++x::mid:=smp_;have e2:P++((y::rp).reverse++x::mid)=(P++rp.reverse)++y::(x::mid):=smp_;have n1:(((P.length+(rp.length+1):q):o)-1).toNat=(P++rp.reverse).length:=sqo_;have n2:P.length+(rp.length+1)=(P++rp.reverse++[y]).length:=smp_;have g1:(P++((y::rp).reverse++x::mid)).getD (((P.length+(rp.length+1):q):o)-1).toNat dC=y:=by rw[e2,n1,zD]
  have g2:(P++((y::rp).reverse++x::mid)).getD (P.length+(rp.length+1)) dC=x:=by rw[e1,n2,zD]
  have s1:(P++((y::rp).reverse++x::mid)).set (P.length+(rp.length+1)) y=(P++rp.reverse)++y::(y::mid):=by rw[e1,n2,zF];simp
  have s2:((P++rp.reverse)++y::(y::mid)).set (((P.length+(rp.length+1):q):o)-1).toNat x=P++(rp.reverse++x::(y::mid)):=by rw[n1,zF];simp
  have hx:=hS x smp_;have hy:=hS y smp_;have c:=Lj hx hy;unfold dC at g1 g2;rw[Yp];simp only[j0r,ji];rw[ah omg_,aj (x:=((P.length+(rp.length+1):q):o)-1),bA (show (0:o)<=((P.length+(rp.length+1):q):o) by omega) (by rw[nX];omega),bA (show (0:o)<=((P.length+(rp.length+1):q):o)-1 by omega) (by rw[nX];omega)];simp only[j6,j8,g1,g2];rw[c];simp only[j4];have cW:eh (rp.reverse++[y]):=by simpa using hs
  by_cases aq:aw x<aw y
  .rw[ah omg_];simp only[j6];rw[show (P++((y::rp).reverse++x::mid)).set (P.length+(rp.length+1)) (y.1,(y.2.1,(y.2.2.1,(y.2.2.2.1,y.2.2.2.2))))=_ from s1];rw[bA (show (0:o)<=((P.length+(rp.length+1):q):o)-1 by omega) sqo_,j6];rw[show ((P++rp.reverse)++y::(y::mid)).set (((P.length+(rp.length+1):q):o)-1).toNat (x.1,(x.2.1,(x.2.2.1,(x.2.2.2.1,x.2.2.2.2))))=_ from s2,aB]
   have ih:=Č (a:=a) (n:=n) (s8:=s8) x P ha rp (y::mid) (cW.sub (List.sublist_append_left _ _)) (hS.of λz hz=>by
    simp only[jj,List.mem_reverse,je]at hz ⊢;rcases hz with h|h|h|h|h<;>simp[h]) sqo_
   rw[show ((P.length+(rp.length+1):q):o)-1=((P.length+rp.length:q):o) by omega,ih,H,ċ aq];simp
  .rw[ai omg_];simp only[j7,aP]
   rw[Ċ (l:=(y::rp).reverse) (λz hz=>by
    rw[H]at hz;rcases jj.1 hz with h|h
    .have:=(qh.1 cW).2.2 z h y smp_;omega
    .simp at h;subst h;exact aq)]
   simp
theorem č{a:o}(P:bG)(ha:a=P.length)(Q:bG):∀(xs acc:bG),eh acc->acc≠[]->iW (P++(acc++(xs++Q)))->(P++(acc++(xs++Q))).length<=1000000000->
  Jv a ((P.length+acc.length+xs.length:q):o) ((P.length+acc.length:q):o) (P++(acc++(xs++Q)))=w (P++(xs.foldl (λacc x=>cO aw x acc) acc++Q))
 |[],acc,_,_,_,_=>by
  rw[OG];simp only[j0g];rw[ai smp_,j7,aP];rfl
 |x::xs,acc,hs,bz,hS,hL=>by
  have hp:=Hh (key:=aw) x acc;have gr:=hp.length_eq;simp only[jc,ji]at hL gr;have l2:=Č (a:=a) (n:=((P.length+acc.length+(x::xs).length:q):o)) (s8:=((P.length+acc.length:q):o)) x P ha acc.reverse (xs++Q) (by rw[yc];exact hs) (by rw[yc];exact hS) (by rw[yc];simp;omega);rw[yc,List.length_reverse]at l2
  have hsI:eh (cO aw x acc):=(TC (key:=aw) (R:=λ_ _=>True) x acc (hs.imp λh=>by
   rcases Int.lt_or_eq_of_le h with h|h
   .exact .inl h
   .exact .inr ⟨h,trivial⟩) (λ_ _=>trivial)).imp (λh=>omg_)
  have ih:=č (a:=a) P ha Q xs (cO aw x acc) hsI (λh=>by rw[h]at gr;simp at gr) (hS.of λz hz=>by
   simp only[jj,je,hp.mem_iff]at hz ⊢;rcases hz with h|(h|h)|h|h<;>simp[h]) (by simp only[jc,gr];omega)
  rw[OG];simp only[j0g];rw[ah (by simp only[ji];omega),j6,show P++(acc++(x::xs++Q))=P++(acc++x::(xs++Q)) from rfl,l2];simp only[j4];rw[aj (x:=((P.length+acc.length:q):o)+1),aB];rw[gr]at ih;rw[show ((P.length+acc.length:q):o)+1=((P.length+(acc.length+1):q):o) by omega,show ((P.length+acc.length+(x::xs).length:q):o)=((P.length+(acc.length+1)+xs.length:q):o) by simp;omega];exact ih
theorem TI(P xs Q:bG)(hS:iW (P++(xs++Q)))(hL:(P++(xs++Q)).length<=1000000000){a b:o}(ha:a=P.length)(hb:b=((P.length+xs.length:q):o)) :
  j0B (P++(xs++Q)) a b=w (P++(cd aw xs++Q)):=by
 simp only[jc]at hL;simp only[j0B];rw[aj (x:=a+1)];match xs with
 |[]=>rw[OG];simp only[j0g];rw[ai (by simp at hb;omega),j7,aP];rfl
 |x::xs=>have:=č (a:=a) P ha Q xs [x] (qw _ _) smp_ hS (by simp only[jc,ji,jw]at hL ⊢;omega);rw[show b=((P.length+([x]:bG).length+xs.length:q):o) by simp at hb ⊢;omega,show a+1=((P.length+([x]:bG).length:q):o) by simp;omega];rw[show P++(x::xs++Q)=P++([x]++(xs++Q)) from rfl,this];rfl
theorem Lo(l:bG):eh (cd aw l):=jFj l
theorem jGX:∀(n:q)(l D:bG),l.length<=n->iW (D++l)->(D++l).length<=100000000->
  ∃d d':bG,∃r:q,FA ((D++l).length:o) 20 (D.length:o) ((D.length+20:q):o) (D++l)=w (((D++l).length:o),20,(r:o),D++d)/\
   j0B (D++d) (r:o) ((D++l).length:o)=w (D++d')/\mT aw 20 l d':=by
 intro n;induction n with
 |zero=>
  intro l D hn hS hL;have:l=[]:=k9.1 omg_;subst this;simp only[kc]at *;refine⟨[],[],D.length,?_,?_,mT.last [] smp_⟩
  .rw[OH];simp only[j0u];rw[ai omg_,j7,aP,kc]
  .have:=TI D [] [] (by simpa using hS) sqo_ (a:=(D.length:o)) (b:=(D.length:o)) rfl smp_;simpa[cd]using this
 |succ n ih=>
  intro l D hn hS hL;simp only[jc]at hL;by_cases h20:l.length<20
  .refine⟨l,cd aw l,D.length,?_,?_,mT.last l h20⟩
   .rw[OH];simp only[j0u];rw[ai sqo_,j7,aP]
   .have:=TI D l [] (by simpa using hS) sqo_ (a:=(D.length:o)) (b:=((D++l).length:o)) rfl smp_;simpa using this
  .obtain⟨x,l',om,hx⟩:∃x l',l=x++l'/\x.length=20:=⟨l.take 20,l.drop 20,(kq ..).symm,sqo_⟩;subst om;simp only[jc]at *;have hi:=TI D x l' hS sqo_ (a:=(D.length:o)) (b:=((D.length+20:q):o)) rfl omg_;have hlen:=w9 (key:=aw) x;have wu:=sv (key:=aw) x
   obtain⟨d,d',r,e1,e2,hb⟩:=ih l' (D++cd aw x) omg_ (hS.of λz hz=>by
    simp only[jj,wu.mem_iff]at hz ⊢;rcases hz with (h|h)|h<;>simp[h]) sqo_
   refine⟨cd aw x++d,cd aw x++d',r,?_,?_,mT.more x l' d' hx hb⟩
   .rw[OH];simp only[j0u];rw[ah omg_,j6,hi];simp only[j4];rw[aj (x:=((D.length+20:q):o)+20),aB];simp only[jh,jc,hlen,hx]at e1 ⊢;rw[show ((D.length+20:q):o)+20=((D.length+20+20:q):o) by omega];rw[Nat.add_assoc D.length 20 l'.length]at e1;exact e1
   .simp only[jh,jc,hlen,hx]at e2 ⊢;rw[Nat.add_assoc D.length 20 l'.length]at e2;exact e2
theorem jGY{bs:q}(hbs:0<bs)(hbs2:bs<=100000000):∀(n:q)(l d D:bG),l.length<=n->mT aw bs l d->iW (D++d)->(D++d).length<=100000000->
  ∃d1 d2:bG,∃r:q,FB ((D++d).length:o) (bs:o) (D.length:o) ((D.length+2*bs:q):o) (D++d)=w (((D++d).length:o),(bs:o),(r:o),D++d1)/\
   mT aw (2*bs) l d2/\((r+bs<(D++d).length/\j1C (D++d1) (r:o) ((r+bs:q):o) ((D++d).length:o)=w (D++d2))\/((D++d).length<=r+bs/\d1=d2))/\r<=(D++d).length:=by
 intro n;induction n with
 |zero=>intro l d D hn hB hS hL;have:l=[]:=k9.1 omg_;subst this;have hd:=hB.len;have:d=[]:=k9.1 (by simpa using hd);subst this;simp only[kc]at *;refine⟨[],[],D.length,?_,mT.last [] sqo_,.inr ⟨omg_,rfl⟩,jn _⟩;rw[OI];simp only[j0v];rw[ai omg_,j7,aP,kc]
 |succ n ih=>
  intro l d D hn hB hS hL;have pM:=hB.len;simp only[jc]at hL;by_cases aq:l.length<2*bs
  ·-- what is left: one block and a part of one
   have tA:∀d1:bG,d1=d->FB ((D++d).length:o) (bs:o) (D.length:o) ((D.length+2*bs:q):o) (D++d)=w (((D++d).length:o),(bs:o),(D.length:o),D++d1):=λd1 h1=>by
    subst h1;rw[OI];simp only[j0v];rw[ai sqo_,j7,aP]
   refine⟨d,cd aw l,D.length,tA d rfl,mT.last l aq,?_,smp_⟩;cases hB with
   |last _ h=>exact .inr ⟨by rw[jc,pM];omega,rfl⟩
   |more x l' d' hx hb=>
    have pL:=w9 (key:=aw) x;cases hb with
    |more y _ _ hy _=>simp only[jc]at aq;omega
    |last _ h=>
     have fm:=w9 (key:=aw) l';by_cases h0:l'=[]
     .subst h0;have h0:cd aw ([]:bG)=[]:=rfl;rw[h0];refine .inr ⟨by rw[kc,jc,pL];omega,by rw[kc,kc]⟩
     .have hp:=q9.2 h0;left;refine⟨by simp[pL,fm];omega,?_⟩;have sm:=ĉ (P:=D) (A:=cd aw x) (B:=cd aw l') (Q:=[]) (λh=>by rw[h]at pL;simp at pL;omega) (λh=>by rw[h]at fm;simp at fm;omega) (Lo x) (Lo l') (by simpa using hS) (by simp[pL,fm];simp[pL,fm]at hL;omega) (a:=(D.length:o)) (m:=((D.length+bs:q):o)) (b:=((D++(cd aw x++cd aw l')).length:o)) rfl (by rw[pL,hx]) sqo_;simp only[kc]at sm;rw[sm,ϳ]
  .cases hB with
   |last _ h=>omega
   |more x l' d' hx hb=>
    have pL:=w9 (key:=aw) x;cases hb with
    |last _ h=>simp only[jc]at aq;omega
    |more y l2 d2 hy fv=>
     have vQ:=w9 (key:=aw) y;simp only[jc]at *;have sm:=ĉ (P:=D) (A:=cd aw x) (B:=cd aw y) (Q:=d2) (λh=>by rw[h]at pL;simp at pL;omega) (λh=>by rw[h]at vQ;simp at vQ;omega) (Lo x) (Lo y) hS sqo_ (a:=(D.length:o)) (m:=((D.length+bs:q):o)) (b:=((D.length+2*bs:q):o)) rfl omg_ omg_;rw[<-ϳ]at sm;have oO:=w9 (key:=aw) (x++y);have TJ:=sv (key:=aw) (x++y);have wx:=sv (key:=aw) x;have wy:=sv (key:=aw) y;simp only[jc]at oO
     obtain⟨d1,d3,r,e1,hb3,hr,wZ⟩:=ih l2 d2 (D++cd aw (x++y)) omg_ fv (hS.of λz hz=>by
      simp only[jj,TJ.mem_iff,wx.mem_iff,wy.mem_iff]at hz ⊢;rcases hz with (h|h|h)|h<;>simp[h]) sqo_
     simp only[jc,oO,hx,hy,jh]at e1 hr wZ;refine⟨cd aw (x++y)++d1,cd aw (x++y)++d3,r,?_,?_,?_,by rw[pL,vQ,hx,hy];omega⟩
     .rw[OI];simp only[j0v];rw[ah omg_,aj (x:=(D.length:o)+(bs:o)),j6,show (D.length:o)+(bs:o)=((D.length+bs:q):o) by omega,sm];simp only[j4];rw[aj (x:=2*(bs:o)),aj (x:=((D.length+2*bs:q):o)+2*(bs:o)),aB];dsimp only;rw[pL,vQ,hx,hy,show ((D.length+2*bs:q):o)+2*(bs:o)=((D.length+(bs+bs)+2*bs:q):o) by omega,show ((D.length+2*bs:q):o)=((D.length+(bs+bs):q):o) by omega,show ((D.length+(bs+(bs+d2.length)):q):o)=((D.length+(bs+bs)+d2.length:q):o) by omega];exact e1
     .have:=mT.more (key:=aw) (n:=2*bs) (x++y) l2 d3 sqo_ hb3;rwa[jh]at this
     .rw[pL,vQ,hx,hy,show D.length+(bs+(bs+d2.length))=D.length+(bs+bs)+d2.length by omega];rcases hr with⟨h1,h2⟩|⟨h1,h2⟩
      .exact .inl ⟨h1,h2⟩
      .exact .inr ⟨h1,by rw[h2]⟩
theorem jGZ{l:bG}(hl:l.length<=100000000):∀(n bs:q)(d:bG),0<bs->bs<=200000000->l.length-bs<=n->mT aw bs l d->iW d->FC (l.length:o) (bs:o) d=w (cd aw l):=by
 intro n;induction n with
 |zero=>intro bs d h0 h1 hn hB hS;rw[Yw];simp only[j0Y];rw[ai omg_,j7,aP,hB.all omg_]
 |succ n ih=>
  intro bs d h0 h1 hn hB hS;have pM:=hB.len;rw[Yw];simp only[j0Y];by_cases aq:bs<l.length
  .obtain⟨d1,d2,r,e1,Ln,hr,wZ⟩:=jGY h0 omg_ l.length l d [] (jn _) hB (by simpa using hS) sqo_;simp only[jp,jw,ki]at e1 hr wZ;rw[ah omg_,aj (x:=2*(bs:o))];simp only[j6];rw[pM]at e1 hr wZ;rw[show (2:o)*(bs:o)=((2*bs:q):o) by omega,show (0:o)=((0:q):o) from rfl,e1];simp only[j4];rw[aj (x:=(r:o)+(bs:o)),aj (x:=(bs:o)*2)]
   have Vd:iW d2:=by
    have hp:∀{k:q}{a b:bG},mT aw k a b->b.Perm a:=by
     intro k a b h;induction h with
     |last l _=>exact sv l
     |more x l d _ _ ih=>exact(sv x).append ih
    exact(hS.perm (hp hB).symm).perm (hp Ln)
   have Ď:=ih (2*bs) d2 omg_ omg_ omg_ Ln Vd;rcases hr with⟨g1,g2⟩|⟨g1,g2⟩
   .rw[ah omg_,j6,show (r:o)+(bs:o)=((r+bs:q):o) by omega,g2];simp only[j4,aB];rw[show (bs:o)*2=((2*bs:q):o) by omega];exact Ď
   .rw[ai omg_,j7,aB];subst g2;dsimp only;rw[show (bs:o)*2=((2*bs:q):o) by omega];exact Ď
  .rw[ai omg_,j7,aP,hB.all omg_]
theorem jyq{l:bG}(hS:iW l)(hl:l.length<=100000000):j0I l=w (cd aw l):=by
 obtain⟨d,d',r,e1,e2,hB⟩:=jGX l.length l [] (jn _) (by simpa using hS) (by simpa using hl);simp only[jp,jw,ki]at e1 e2
 have hp:∀{k:q}{a b:bG},mT aw k a b->b.Perm a:=by
  intro k a b h;induction h with
  |last l _=>exact sv l
  |more x l d _ _ ih=>exact(sv x).append ih
 have e3:=jGZ hl l.length 20 d' omg_ omg_ omg_ hB (hS.perm (hp hB));simp only[j0I,j4b,show Int.ofNat l.length=(l.length:o) from rfl];rw[show FA (l.length:o) 20 0 20 l=_ from e1];simp only[j4,e2];rw[show FC (l.length:o) 20 d'=_ from e3];rfl
end Go.Proofs.Pw
