/- symMerge merges; the library's stable sort is the stable sort by the key. -/
import Derived.Test.YtmccfdihkphfaaaGreatLIPJ
import Derived.Test.YtmccfdihkphfaaaGreatLIPD
open _root_ renaming Int->o,Nat->H,Option->Ä
open List renaming length_append->E,getElem_mem->G,take_append_drop->J,length_cons->N,pairwise_singleton->S,length_nil->W,append_assoc->Y,nil_append->Á,length_singleton->Â,reverse_reverse->Ã,mem_singleton->Å,take_sublist->Æ,drop_sublist->Ç,reverse_cons->È,getD->É,append_nil->Ì
open Decidable renaming decide->I
open Option renaming some->U,none->Ê
open List.Pairwise renaming nil->X,sublist->Ï
open Bool renaming false->Z
open Nat renaming le_refl->À,add_zero->Í,zero_add->Î
open Go Go.Lft
namespace Go.Proofs.Pw
theorem SrtC.sub{l r:ClL}(h:SrtC l)(hs:r.Sublist l):SrtC r:=Ï hs h
def Rk(rec:ClL->o->o->o->Ä ClL)(s:H)(C:Prop):Prop:=
 ∀P A B Q:ClL,A≠[]->B≠[]->SrtC A->SrtC B->SmK (P++(A++(B++Q)))->(P++(A++(B++Q))).length<=1000000000->A.length+B.length<s->
  ∀a m b:o,a=P.length->m=((P.length+A.length:H):o)->b=((P.length+A.length+B.length:H):o)->
  rec (P++(A++(B++Q))) a m b=U (P++(mrg keyC A B++Q))\/(rec (P++(A++(B++Q))) a m b=Ê/\C)
theorem jzZ(A B:ClL):(mrg keyC A B).Perm (A++B):=by
 have e:∀A B:ClL,(mrg keyC A B).Perm (A++B):=by
  intro A;induction A with
  |nil=>intro B;exact List.Perm.refl _
  |cons a ra ih=>intro B;induction B<;>grind[jb9,j7l]
 exact e A B
section
variable{rec:ClL->o->o->o->Ä ClL}{s:H}{C:Prop}(hR:Rk rec s C)
def jrl(rec:ClL->o->o->o->Ä ClL)(D:ClL)(a k mid e b:o):Ä ClL:=
 cond (cond (I (a<k)) (I (k<mid)) Z) (
 (rec D a k mid).bind λr205=>
 cond (cond (I (mid<e)) (I (e<b)) Z) (
 (rec r205 mid e b).bind λr219=>
 U r219) (
 U r205)) (
 cond (cond (I (mid<e)) (I (e<b)) Z) (
 (rec D mid e b).bind λr219_1=>
 U r219_1) (
 U D))
include hR
theorem jCW(P A2 B2 Q:ClL)(h3:SrtC A2)(h4:SrtC B2)(hS:SmK (P++(A2++(B2++Q))))(hL:(P++(A2++(B2++Q))).length<=1000000000)(hs:A2.length+B2.length<s)
  {mid e b:o}(hmid:mid=P.length)(he:e=((P.length+A2.length:H):o))(hb:b=((P.length+A2.length+B2.length:H):o)) :
  (cond (cond (I (mid<e)) (I (e<b)) Z) ((rec (P++(A2++(B2++Q))) mid e b).bind λr219=>U r219) (U (P++(A2++(B2++Q))))=U (P++(mrg keyC A2 B2++Q)))\/
  (cond (cond (I (mid<e)) (I (e<b)) Z) ((rec (P++(A2++(B2++Q))) mid e b).bind λr219=>U r219) (U (P++(A2++(B2++Q))))=Ê/\C):=by
 match A2,B2 with
 |[],B2=>left;rw[j01 (by simp at he;omega)];rfl
 |x::A2,[]=>grind[jb9]
 |x::A2,y::B2=>rw[j00 (show mid<e by simp at he;omega),j00 (show e<b by grind)];simp only[j6];rcases hR P (x::A2) (y::B2) Q smp_ smp_ h3 h4 hS hL hs mid e b hmid he hb with h|⟨h,hc⟩;all_goals simp_all
theorem jEz(P A1 B1 A2 B2 Q:ClL)(h1:SrtC A1)(h2:SrtC B1)(h3:SrtC A2)(h4:SrtC B2)(hS:SmK (P++(A1++(B1++(A2++(B2++Q))))))(hL:(P++(A1++(B1++(A2++(B2++Q))))).length<=1000000000)
  (hs1:A1.length+B1.length<s)(hs2:A2.length+B2.length<s)
  {a k mid e b:o}(ha:a=P.length)(hk:k=((P.length+A1.length:H):o))(hmid:mid=((P.length+A1.length+B1.length:H):o))(he:e=((P.length+A1.length+B1.length+A2.length:H):o))(hb:b=((P.length+A1.length+B1.length+A2.length+B2.length:H):o)) :
  jrl rec (P++(A1++(B1++(A2++(B2++Q))))) a k mid e b=U (P++(mrg keyC A1 B1++(mrg keyC A2 B2++Q)))\/(jrl rec (P++(A1++(B1++(A2++(B2++Q))))) a k mid e b=Ê/\C):=by
 have hp:=jzZ A1 B1;have hpl:=hp.length_eq;have hmem:∀x,x∈mrg keyC A1 B1↔x∈A1++B1:=λx=>hp.mem_iff;simp only[E]at hpl hL
 have f2:=jCW hR (P++mrg keyC A1 B1) A2 B2 Q h3 h4 (hS.of λx hx=>by
  grind) (by grind) hs2 (mid:=mid) (e:=e) (b:=b) (by grind) (by grind) (by grind)
 simp only[Y]at f2;unfold jrl;have key:∀D:ClL,D=P++(mrg keyC A1 B1++(A2++(B2++Q)))->(cond (cond (I (mid<e)) (I (e<b)) Z) ((rec D mid e b).bind λr219=>U r219) (U D)=U (P++(mrg keyC A1 B1++(mrg keyC A2 B2++Q))))\/(cond (cond (I (mid<e)) (I (e<b)) Z) ((rec D mid e b).bind λr219=>U r219) (U D)=Ê/\C):=λD hD=>by rw[hD];exact f2
 match A1,B1 with
 |[],B1=>rw[j01 (show¬a<k by simp at hk;omega)];exact key _ rfl
 |x::A1,[]=>grind[jb9]
 |x::A1,y::B1=>rw[j00 (show a<k by simp at hk;omega),j00 (show k<mid by grind)];simp only[j6];rcases hR P (x::A1) (y::B1) (A2++(B2++Q)) smp_ smp_ h1 h2 hS (by grind) hs1 a k mid ha hk hmid with h|⟨h,hc⟩;all_goals simp_all
theorem jA0{P A B Q:ClL}(hA:A≠[])(hB:B≠[])(sA:SrtC A)(sB:SrtC B)(hS:SmK (P++(A++(B++Q))))(hL:(P++(A++(B++Q))).length<=1000000000)(hs:A.length+B.length<=s)
  {a m b:o}(ha:a=P.length)(hm:m=((P.length+A.length:H):o))(hb:b=((P.length+A.length+B.length:H):o)) :
  j1y rec (P++(A++(B++Q))) a m b=U (P++(mrg keyC A B++Q))\/(j1y rec (P++(A++(B++Q))) a m b=Ê/\C):=by
 have hAl:=List.length_pos_iff.2 hA;have hBl:=List.length_pos_iff.2 hB;have hDl:(P++(A++(B++Q))).length=P.length+A.length+B.length+Q.length:=sqo_;have gA:∀i,i<A.length->(P++(A++(B++Q))).getD (P.length+i) dC=A.getD i dC:=λi hi=>ju0 P A (B++Q) i hi
 have gB:∀i,i<B.length->(P++(A++(B++Q))).getD (P.length+A.length+i) dC=B.getD i dC:=λi hi=>by
  have:=ju0 (P++A) B Q i hi
  simp_all
 have gA':∀t,P.length<=t->t<P.length+A.length->(P++(A++(B++Q))).getD t dC=A.getD (t-P.length) dC:=λt h1 h2=>by
  grind
 have gB':∀t,P.length+A.length<=t->t<P.length+A.length+B.length->(P++(A++(B++Q))).getD t dC=B.getD (t-(P.length+A.length)) dC:=λt h1 h2=>by
  rw[<-gB _ omg_,show P.length+A.length+(t-(P.length+A.length))=t by omega]
 rw[hDl]at hL;simp only[j1y];rw[j07 (x:=m-a),j07 (x:=b-m)];by_cases h1:A.length=1
 ·-- one element ahead
  left;rw[j8T (show m-a=1 by omega),j6];obtain⟨x,rfl⟩:∃x,A=[x]:=List.length_eq_one_iff.1 h1;simp only[Â]at *
  obtain⟨k,k1,k2,e0,k3,k4⟩:=jEx rec hS (by rw[hDl];omega) (a:=P.length) (m:=P.length+1) (b:=P.length+1+B.length) (by rw[hDl];omega) omg_ (by rw[hDl];omega) (λs t s1 s2 s3=>by
   rw[gB' s s1 omg_,gB' t omg_ s3];exact jh6 sB omg_ omg_)
  subst ha hm hb;rw[e0];simp only[j4];have hx0:=gA 0 omg_;rw[Í]at hx0;have hxx:([x]:ClL).getD 0 dC=x:=rfl;rw[hx0,hxx]at k3 k4
  have hB1:∀y∈B.take (k-(P.length+1)),keyC y<keyC x:=λy hy=>by
   obtain⟨i,i1,i2,rfl⟩:=jlu hy;grind
  have hB2:∀y∈B.drop (k-(P.length+1)),¬keyC y<keyC x:=λy hy=>by
   obtain⟨i,i1,i2,rfl⟩:=jlv hy;grind
  have hm1:=jCU x _ _ hB1 hB2;have hsp:=J (k-(P.length+1)) B;have l2:=jBb rec (e:=(k:o)) x (B.take (k-(P.length+1))) P (B.drop (k-(P.length+1))++Q) sqo_ sqo_;grind
 .rw[j3Z (show¬m-a=1 by omega),j7];by_cases h2:B.length=1
  .left;rw[j8T (show b-m=1 by omega),j6];obtain⟨y,rfl⟩:∃x,B=[x]:=List.length_eq_one_iff.1 h2;simp only[Â]at *
   obtain⟨k,k1,k2,e0,k3,k4⟩:=jEy rec hS (by rw[hDl];omega) (a:=P.length) (m:=P.length+A.length) (by rw[hDl];omega) omg_ (λs t s1 s2 s3=>by
    rw[gA' s s1 omg_,gA' t omg_ s3];exact jh6 sA omg_ omg_)
   subst ha hm hb;rw[e0];simp only[j4];have hy0:=gB 0 omg_;rw[Í]at hy0;have hyy:([y]:ClL).getD 0 dC=y:=rfl;rw[hy0,hyy]at k3 k4
   have hA1:∀x∈A.take (k-P.length),¬keyC y<keyC x:=λx hx=>by
    obtain⟨i,i1,i2,rfl⟩:=jlu hx;grind
   have hA2:∀x∈A.drop (k-P.length),keyC y<keyC x:=λx hx=>by
    obtain⟨i,i1,i2,rfl⟩:=jlv hx;grind
   have hm1:=jzY y _ _ hA1 hA2;have hsp:=J (k-P.length) A;have l6:=jBc rec (i:=(k:o)) y (A.drop (k-P.length)).reverse (P++A.take (k-P.length)) Q sqo_ sqo_;rw[Ã,show (P++A.take (k-P.length))++(A.drop (k-P.length)++y::Q)=P++(A++([y]++Q)) by grind,show (((P++A.take (k-P.length)).length+(A.drop (k-P.length)).reverse.length:H):o)=((P.length+A.length:H):o) by simp;omega]at l6;rw[l6];simp only[j4]
   simp_all
  .rw[j3Z (show¬b-m=1 by omega),j7];obtain⟨M,hM⟩:∃M,M=(P.length+(P.length+A.length+B.length))/2:=⟨_,rfl⟩;have hh:=jpr (a:=P.length) (b:=P.length+A.length+B.length) omg_;rw[<-hM]at hh;rw[ha,hb,hh];rw[j07 (x:=(M:o)+m)];rw[j07 (x:=(M:o)+m-1)];have hpN:(M:o)+m-1=((M+(P.length+A.length)-1:H):o):=omg_
   have tail:∀k:H,P.length<=k->k<=P.length+A.length->M+(P.length+A.length)-k<=P.length+A.length+B.length->k<=M->
     (∀x∈A.drop (k-P.length),∀y∈B.take (M-k),keyC y<keyC x)->(∀x∈A.take (k-P.length),∀y∈B.drop (M-k),¬keyC y<keyC x)->
     ∀r:Ä ClL,r=cond (cond (I ((k:o)<m)) (I (m<(M:o)+m-(k:o))) Z) ((j1d (P++(A++(B++Q))) (k:o) m ((M:o)+m-(k:o))).bind λd=>jrl rec d (P.length:o) (k:o) (M:o) ((M:o)+m-(k:o)) b) (jrl rec (P++(A++(B++Q))) (P.length:o) (k:o) (M:o) ((M:o)+m-(k:o)) b)->
     r=U (P++(mrg keyC A B++Q))\/(r=Ê/\C):=by
    intro k k1 k2 k3 k4 f1 f2 r hr;have hsA:=J (k-P.length) A;have hsB:=J (M-k) B;have lA1:(A.take (k-P.length)).length=k-P.length:=sqo_;have lA2:(A.drop (k-P.length)).length=P.length+A.length-k:=sqo_;have lB1:(B.take (M-k)).length=M-k:=sqo_;have lB2:(B.drop (M-k)).length=B.length-(M-k):=smp_;have sA1:=sA.sub (Æ (k-P.length) A);have sA2:=sA.sub (Ç (k-P.length) A);have sB1:=sB.sub (Æ (M-k) B);have sB2:=sB.sub (Ç (M-k) B);have hms:=jaw (key:=keyC) _ _ _ _ f1 f2;rw[hsA,hsB]at hms;generalize A.take (k-P.length)=A1 at *;generalize A.drop (k-P.length)=A2 at *;generalize B.take (M-k)=B1 at *
    generalize B.drop (M-k)=B2 at *
    subst hsA hsB;simp only[E]at *
    have fin:=jEz hR P A1 B1 A2 B2 Q sA1 sB1 sA2 sB2 (hS.of λx hx=>by
     grind) (by simp only[E];omega) omg_ omg_ (a:=(P.length:o)) (k:=(k:o)) (mid:=(M:o)) (e:=(M:o)+m-(k:o)) (b:=b) rfl omg_ omg_ omg_ omg_
    rw[<-Y (mrg keyC A1 B1),<-hms]at fin;rw[hr];by_cases hrot:(k:o)<m/\m<(M:o)+m-(k:o)
    .rw[j00 hrot.1,j00 hrot.2];simp only[j6];have ro:=jEw (P++A1) A2 B1 (B2++Q) (λh=>by grind) (λh=>by grind) sqo_ (a:=(k:o)) (m:=m) (b:=(M:o)+m-(k:o)) sqo_ sqo_ sqo_;grind
    .have hc:cond (I ((k:o)<m)) (I (m<(M:o)+m-(k:o))) Z=false:=by
      by_cases h:(k:o)<m
      all_goals grind
     rw[hc,j7]
     have he:A2++(B1++(B2++Q))=B1++(A2++(B2++Q)):=by
      by_cases h:(k:o)<m
      .have:B1=[]:=List.length_eq_zero_iff.1 omg_;subst this;rfl
      .have:A2=[]:=List.length_eq_zero_iff.1 omg_;subst this;rfl
     grind
   have hmonoK:∀s t,P.length<=s->s<=t->t<P.length+A.length->M+(P.length+A.length)-1-s<P.length+A.length+B.length->P.length+A.length<=M+(P.length+A.length)-1-t->¬keyC ((P++(A++(B++Q))).getD (M+(P.length+A.length)-1-t) dC)<keyC ((P++(A++(B++Q))).getD t dC)->¬keyC ((P++(A++(B++Q))).getD (M+(P.length+A.length)-1-s) dC)<keyC ((P++(A++(B++Q))).getD s dC):=by intro s t s1 s2 s3 s4 s5 h;rw[gA' s s1 omg_];rw[gA' t omg_ s3]at h;rw[gB' _ omg_ s4];rw[gB' _ s5 omg_]at h;have q1:=jh6 sA (i:=s-P.length) (j:=t-P.length) omg_ omg_;have q2:=jh6 sB (i:=M+(P.length+A.length)-1-t-(P.length+A.length)) (j:=M+(P.length+A.length)-1-s-(P.length+A.length)) omg_ omg_;omega
   have facts:∀lo hi k:H,P.length<=lo->hi<=P.length+A.length->hi<=M->M+(P.length+A.length)-lo<=P.length+A.length+B.length->lo<=k->k<=hi->(hi=M\/hi=P.length+A.length)->(lo=P.length\/M+(P.length+A.length)-lo=P.length+A.length+B.length)->
     (∀t,lo<=t->t<k->¬keyC ((P++(A++(B++Q))).getD (M+(P.length+A.length)-1-t) dC)<keyC ((P++(A++(B++Q))).getD t dC))->(∀t,k<=t->t<hi->¬¬keyC ((P++(A++(B++Q))).getD (M+(P.length+A.length)-1-t) dC)<keyC ((P++(A++(B++Q))).getD t dC))->
     (∀x∈A.drop (k-P.length),∀y∈B.take (M-k),keyC y<keyC x)/\(∀x∈A.take (k-P.length),∀y∈B.drop (M-k),¬keyC y<keyC x):=by
    intro lo hi k g1 g2 g3 g4 g5 g6 g7 g8 p1 p2;constructor
    .intro x hx y hy;obtain⟨i,i1,i2,rfl⟩:=jlv hx;obtain⟨j,j1,j2,rfl⟩:=jlu hy;have hkh:k<hi:=omg_;have:=p2 k (À _) hkh;rw[gA' k omg_ omg_,gB' _ omg_ omg_]at this;have q1:=jh6 sA (i:=k-P.length) (j:=i) omg_ omg_;have q2:=jh6 sB (i:=j) (j:=M+(P.length+A.length)-1-k-(P.length+A.length)) omg_ omg_;omega
    .intro x hx y hy;obtain⟨i,i1,i2,rfl⟩:=jlu hx;obtain⟨j,j1,j2,rfl⟩:=jlv hy;have hkl:lo<k:=omg_;have:=p1 (k-1) omg_ omg_;rw[gA' (k-1) omg_ omg_,gB' _ omg_ omg_]at this;have q1:=jh6 sA (i:=i) (j:=k-1-P.length) omg_ omg_;have q2:=jh6 sB (i:=M+(P.length+A.length)-1-(k-1)-(P.length+A.length)) (j:=j) omg_ omg_;omega
   by_cases hmm:m>(M:o)
   .rw[j00 hmm,j6];rw[<-hb,j07 (x:=(M:o)+m-b)];obtain⟨k,k1,k2,e0,k3,k4⟩:=jBd rec hS (by rw[hDl];omega) (lo:=M+(P.length+A.length)-(P.length+A.length+B.length)) (hi:=M) (p:=M+(P.length+A.length)-1) (s1:=(P.length:o)) (s2:=m) (s3:=b) (s18:=(M:o)) (s19:=(M:o)+m) omg_ (by rw[hDl];omega) (λc c1 c2=>by rw[hDl];omega) omg_ (λs t s1 s2 s3 h=>hmonoK s t omg_ s2 omg_ omg_ omg_ h);obtain⟨f1,f2⟩:=facts (M+(P.length+A.length)-(P.length+A.length+B.length)) M k omg_ omg_ omg_ omg_ k1 k2 (.inl rfl) (.inr omg_) k3 k4;rw[hpN,show (M:o)+m-b=((M+(P.length+A.length)-(P.length+A.length+B.length):H):o) by omega,e0];simp only[j4];rw[j07 (x:=(M:o)+m-(k:o))];exact tail k omg_ omg_ omg_ omg_ f1 f2 _ rfl
   .rw[j01 hmm,j7];obtain⟨k,k1,k2,e0,k3,k4⟩:=jBd rec hS (by rw[hDl];omega) (lo:=P.length) (hi:=P.length+A.length) (p:=M+(P.length+A.length)-1) (s1:=(P.length:o)) (s2:=m) (s3:=b) (s18:=(M:o)) (s19:=(M:o)+m) omg_ (by rw[hDl];omega) (λc c1 c2=>by rw[hDl];omega) omg_ (λs t s1 s2 s3 h=>hmonoK s t omg_ s2 omg_ omg_ omg_ h);obtain⟨f1,f2⟩:=facts P.length (P.length+A.length) k omg_ omg_ omg_ omg_ k1 k2 (.inr rfl) (.inl rfl) k3 k4;rw[hpN];rw[show ((P.length+A.length:H):o)=m from hm.symm]at e0;rw[<-hb,e0];simp only[j4];rw[j07 (x:=(M:o)+m-(k:o))];exact tail k omg_ omg_ omg_ omg_ f1 f2 _ rfl
end
theorem jpt:∀(n s:H),Rk (λv0 v1 v2 v3=>jbQ j12 n (v0,v1,v2,v3)) (s+1) (n<=s)
 |0,s=>λP A B Q _ _ _ _ _ _ _ a m b _ _ _=> .inr ⟨rfl,Nat.zero_le _⟩
 |n+1,s=>λP A B Q hA hB sA sB hS hL hs a m b ha hm hb=>by
  by_cases h0:s=0
  .simp_all
  .have ih:=jpt n (s-1);rw[show s-1+1=s by omega]at ih;rcases jA0 ih hA hB sA sB hS hL omg_ ha hm hb with h|⟨h,hc⟩
   .exact .inl h
   .exact .inr ⟨h,omg_⟩
theorem jBe{P A B Q:ClL}(hA:A≠[])(hB:B≠[])(sA:SrtC A)(sB:SrtC B)(hS:SmK (P++(A++(B++Q))))(hL:(P++(A++(B++Q))).length<=1000000000)
  {a m b:o}(ha:a=P.length)(hm:m=((P.length+A.length:H):o))(hb:b=((P.length+A.length+B.length:H):o)) :
  j1u (P++(A++(B++Q))) a m b=U (P++(mrg keyC A B++Q)):=by
 refine jiV ⟨A.length+B.length+1,?_⟩ λn y hy=>?_
 .rcases jpt (A.length+B.length+1) (A.length+B.length) P A B Q hA hB sA sB hS hL omg_ a m b ha hm hb with h|⟨_,h⟩
  .exact h
  .omega
 .rcases jpt n (A.length+B.length) P A B Q hA hB sA sB hS hL omg_ a m b ha hm hb with h|⟨h,_⟩;all_goals simp_all
theorem ju2{x:ClT}:∀{l:ClL},(∀y∈l,¬keyC x<keyC y)->insK keyC x l=l++[x]
 |[],_=>rfl
 |y::l,h=>by
  rw[insK,if_neg (h y smp_),ju2 (l:=l) (λz hz=>h z (by simp[hz]))];rfl
theorem jrm{x y:ClT}:∀{l:ClL},keyC x<keyC y->insK keyC x (l++[y])=insK keyC x l++[y]
 |[],h=>by simp[insK,h]
 |z::l,h=>by
  rw[List.cons_append,insK,insK];split
  .rfl
  .rw[jrm h];rfl
theorem jyk{a n s8:o}(x:ClT)(P:ClL)(ha:a=P.length):∀(rp mid:ClL),SrtC rp.reverse->SmK (P++(rp.reverse++x::mid))->(P++(rp.reverse++x::mid)).length<=1000000000->
  j23 a n s8 ((P.length+rp.length:H):o) (P++(rp.reverse++x::mid))=U (a,n,s8,P++(insK keyC x rp.reverse++mid))
 |[],mid,_,_,_=>by
  rw[j3t];simp(disch:=omega)only[j0s,S0];rfl
 |y::rp,mid,hs,hS,hL=>by
  have hDl:(P++((y::rp).reverse++x::mid)).length=P.length+rp.length+mid.length+2:=sqo_;rw[hDl]at hL;have e1:P++((y::rp).reverse++x::mid)=(P++rp.reverse++[y])++x::mid:=smp_;have e2:P++((y::rp).reverse++x::mid)=(P++rp.reverse)++y::(x::mid):=smp_;have n1:(((P.length+(rp.length+1):H):o)-1).toNat=(P++rp.reverse).length:=sqo_;have n2:P.length+(rp.length+1)=(P++rp.reverse++[y]).length:=smp_;have g1:(P++((y::rp).reverse++x::mid)).getD (((P.length+(rp.length+1):H):o)-1).toNat dC=y:=by rw[e2,n1,je9]
  have g2:(P++((y::rp).reverse++x::mid)).getD (P.length+(rp.length+1)) dC=x:=by rw[e1,n2,je9]
  have s1:(P++((y::rp).reverse++x::mid)).set (P.length+(rp.length+1)) y=(P++rp.reverse)++y::(y::mid):=by rw[e1,n2,jea];simp
  have s2:((P++rp.reverse)++y::(y::mid)).set (((P.length+(rp.length+1):H):o)-1).toNat x=P++(rp.reverse++x::(y::mid)):=by rw[n1,jea];simp
  have hx:=hS x smp_;have hy:=hS y smp_;have c:=jtZ hx hy;unfold dC at g1 g2;rw[j3t];simp(disch:=omega)only[j0s,g1,g2,c,S0];have hs':SrtC (rp.reverse++[y]):=by simpa using hs
  by_cases hlt:keyC x<keyC y
  .simp(disch:=omega)only[show (P++((y::rp).reverse++x::mid)).set (P.length+(rp.length+1)) (y.1,y.2.1,y.2.2.1,y.2.2.2.1,y.2.2.2.2)=_ from s1,S0];rw[j0B (show (0:o)<=((P.length+(rp.length+1):H):o)-1 by omega) sqo_,j6];rw[show ((P++rp.reverse)++y::(y::mid)).set (((P.length+(rp.length+1):H):o)-1).toNat (x.1,x.2.1,x.2.2.1,x.2.2.2.1,x.2.2.2.2)=_ from s2,j04]
   have ih:=jyk (a:=a) (n:=n) (s8:=s8) x P ha rp (y::mid) (hs'.sub (List.sublist_append_left _ _)) (hS.of λz hz=>by
    grind) sqo_
   rw[show ((P.length+(rp.length+1):H):o)-1=((P.length+rp.length:H):o) by omega,ih,È,jrm hlt];simp
  .simp(disch:=omega)only[S0]
   rw[ju2 (l:=(y::rp).reverse) (λz hz=>by
    rw[È]at hz;rcases List.mem_append.1 hz with h|h
    .have:=(List.pairwise_append.1 hs').2.2 z h y smp_;omega
    grind)]
   simp
theorem jyl{a:o}(P:ClL)(ha:a=P.length)(Q:ClL):∀(xs acc:ClL),SrtC acc->acc≠[]->SmK (P++(acc++(xs++Q)))->(P++(acc++(xs++Q))).length<=1000000000->
  j1h a ((P.length+acc.length+xs.length:H):o) ((P.length+acc.length:H):o) (P++(acc++(xs++Q)))=U (P++(xs.foldl (λacc x=>insK keyC x acc) acc++Q))
 |[],acc,_,_,_,_=>by
  rw[j1Q];simp(disch:=omega)only[j0h,S0];rfl
 |x::xs,acc,hs,hne,hS,hL=>by
  have hp:=jh5 (key:=keyC) x acc;have hpl:=hp.length_eq;simp only[E,N]at hL hpl;have l2:=jyk (a:=a) (n:=((P.length+acc.length+(x::xs).length:H):o)) (s8:=((P.length+acc.length:H):o)) x P ha acc.reverse (xs++Q) (by simp_all) (by simp_all) (by grind);rw[Ã,List.length_reverse]at l2
  have hsI:SrtC (insK keyC x acc):=(jsN (key:=keyC) (R:=λ_ _=>True) x acc (hs.imp λh=>by
   grind) (λ_ _=>trivial)).imp (λh=>omg_)
  have ih:=jyl (a:=a) P ha Q xs (insK keyC x acc) hsI (λh=>by simp_all) (hS.of λz hz=>by
   grind) (by grind)
  grind[j1Q,j0h,j24,j04]
theorem jsO(P xs Q:ClL)(hS:SmK (P++(xs++Q)))(hL:(P++(xs++Q)).length<=1000000000){a b:o}(ha:a=P.length)(hb:b=((P.length+xs.length:H):o)) :
  j0A (P++(xs++Q)) a b=U (P++(srtK keyC xs++Q)):=by
 simp only[E]at hL;simp(disch:=omega)only[j0A,S0];match xs with
 |[]=>rw[j1Q];simp only[j0h];rw[j01 (by simp at hb;omega),j7,j0e];rfl
 |x::xs=>have:=jyl (a:=a) P ha Q xs [x] (S _ _) smp_ hS (by grind);rw[show b=((P.length+([x]:ClL).length+xs.length:H):o) by simp at hb ⊢;omega,show a+1=((P.length+([x]:ClL).length:H):o) by simp;omega];rw[show P++(x::xs++Q)=P++([x]++(xs++Q)) from rfl,this];rfl
theorem jlw(l:ClL):SrtC (srtK keyC l):=jCV l
theorem jEA:∀(n:H)(l D:ClL),l.length<=n->SmK (D++l)->(D++l).length<=100000000->
  ∃d d':ClL,∃r:H,j21 ((D++l).length:o) 20 (D.length:o) ((D.length+20:H):o) (D++l)=U (((D++l).length:o),20,(r:o),D++d)/\
   j0A (D++d) (r:o) ((D++l).length:o)=U (D++d')/\Blk keyC 20 l d':=by
 intro n;induction n with
 |zero=>
  intro l D hn hS hL;have:l=[]:=List.length_eq_zero_iff.1 omg_;subst this;simp only[Ì]at *;refine⟨[],[],D.length,?_,?_,Blk.last [] smp_⟩
  .grind[j2C,j0u,S0]
  .have:=jsO D [] [] (by simpa using hS) sqo_ (a:=(D.length:o)) (b:=(D.length:o)) rfl smp_;simpa[srtK]using this
 |succ n ih=>
  intro l D hn hS hL;simp only[E]at hL;by_cases h20:l.length<20
  .refine⟨l,srtK keyC l,D.length,?_,?_,Blk.last l h20⟩
   .grind[j2C,j0u,j0e]
   .have:=jsO D l [] (by simpa using hS) sqo_ (a:=(D.length:o)) (b:=((D++l).length:o)) rfl smp_;simpa using this
  .obtain⟨x,l',hxl,hx⟩:∃x l',l=x++l'/\x.length=20:=⟨l.take 20,l.drop 20,(J ..).symm,sqo_⟩;subst hxl;simp only[E]at *;have hi:=jsO D x l' hS sqo_ (a:=(D.length:o)) (b:=((D.length+20:H):o)) rfl omg_;have hlen:=jcB (key:=keyC) x;have hpm:=jax (key:=keyC) x
   obtain⟨d,d',r,e1,e2,hb⟩:=ih l' (D++srtK keyC x) omg_ (hS.of λz hz=>by
    grind) sqo_
   refine⟨srtK keyC x++d,srtK keyC x++d',r,?_,?_,Blk.more x l' d' hx hb⟩
   .rw[j2C];simp(disch:=omega)only[j0u,hi,S0];grind
   grind
theorem jEB{bs:H}(hbs:0<bs)(hbs2:bs<=100000000):∀(n:H)(l d D:ClL),l.length<=n->Blk keyC bs l d->SmK (D++d)->(D++d).length<=100000000->
  ∃d1 d2:ClL,∃r:H,j1p ((D++d).length:o) (bs:o) (D.length:o) ((D.length+2*bs:H):o) (D++d)=U (((D++d).length:o),(bs:o),(r:o),D++d1)/\
   Blk keyC (2*bs) l d2/\((r+bs<(D++d).length/\j1u (D++d1) (r:o) ((r+bs:H):o) ((D++d).length:o)=U (D++d2))\/((D++d).length<=r+bs/\d1=d2))/\r<=(D++d).length:=by
 intro n;induction n with
 |zero=>intro l d D hn hB hS hL;have:l=[]:=List.length_eq_zero_iff.1 omg_;subst this;have hd:=hB.len;have:d=[]:=List.length_eq_zero_iff.1 (by simpa using hd);subst this;simp only[Ì]at *;refine⟨[],[],D.length,?_,Blk.last [] sqo_,.inr ⟨omg_,rfl⟩,À _⟩;grind[j2D,j0v,S0]
 |succ n ih=>
  intro l d D hn hB hS hL;have hdl:=hB.len;simp only[E]at hL;by_cases hlt:l.length<2*bs
  ·-- what is left: one block and a part of one
   have hloop:∀d1:ClL,d1=d->j1p ((D++d).length:o) (bs:o) (D.length:o) ((D.length+2*bs:H):o) (D++d)=U (((D++d).length:o),(bs:o),(D.length:o),D++d1):=λd1 h1=>by
    grind[j2D,j0v,j0e]
   refine⟨d,srtK keyC l,D.length,hloop d rfl,Blk.last l hlt,?_,smp_⟩;cases hB with
   |last _ h=>grind
   |more x l' d' hx hb=>
    have hlx:=jcB (key:=keyC) x;cases hb with
    |more y _ _ hy _=>grind
    |last _ h=>
     have hll:=jcB (key:=keyC) l';by_cases h0:l'=[]
     .simp_all
     .have hp:=List.length_pos_iff.2 h0;left;refine⟨by simp[hlx,hll];omega,?_⟩;have sm:=jBe (P:=D) (A:=srtK keyC x) (B:=srtK keyC l') (Q:=[]) (λh=>by simp_all) (λh=>by simp_all) (jlw x) (jlw l') (by simpa using hS) (by grind) (a:=(D.length:o)) (m:=((D.length+bs:H):o)) (b:=((D++(srtK keyC x++srtK keyC l')).length:o)) rfl (by rw[hlx,hx]) sqo_;grind[jyh]
  .cases hB with
   |last _ h=>omega
   |more x l' d' hx hb=>
    have hlx:=jcB (key:=keyC) x;cases hb with
    |last _ h=>grind
    |more y l2 d2 hy hb2=>
     have hly:=jcB (key:=keyC) y;simp only[E]at *;have sm:=jBe (P:=D) (A:=srtK keyC x) (B:=srtK keyC y) (Q:=d2) (λh=>by simp_all) (λh=>by simp_all) (jlw x) (jlw y) hS sqo_ (a:=(D.length:o)) (m:=((D.length+bs:H):o)) (b:=((D.length+2*bs:H):o)) rfl omg_ omg_;rw[<-jyh]at sm;have hlz:=jcB (key:=keyC) (x++y);have hpz:=jax (key:=keyC) (x++y);have hpx:=jax (key:=keyC) x;have hpy:=jax (key:=keyC) y;simp only[E]at hlz
     obtain⟨d1,d3,r,e1,hb3,hr,hr2⟩:=ih l2 d2 (D++srtK keyC (x++y)) omg_ hb2 (hS.of λz hz=>by
      grind) sqo_
     simp only[E,hlz,hx,hy,Y]at e1 hr hr2;refine⟨srtK keyC (x++y)++d1,srtK keyC (x++y)++d3,r,?_,?_,?_,omg_⟩
     .rw[j2D];simp only[j0v];rw[j00 omg_,j07 (x:=(D.length:o)+(bs:o)),j6,show (D.length:o)+(bs:o)=((D.length+bs:H):o) by omega,sm];simp(disch:=omega)only[S0];grind
     .have:=Blk.more (key:=keyC) (n:=2*bs) (x++y) l2 d3 sqo_ hb3
      simp_all
     grind
theorem jEC{l:ClL}(hl:l.length<=100000000):∀(n bs:H)(d:ClL),0<bs->bs<=200000000->l.length-bs<=n->Blk keyC bs l d->SmK d->j22 (l.length:o) (bs:o) d=U (srtK keyC l):=by
 intro n;induction n with
 |zero=>grind[j5m,j0W,Blk.all,S0]
 |succ n ih=>
  intro bs d h0 h1 hn hB hS;have hdl:=hB.len;rw[j5m];simp only[j0W];by_cases hlt:bs<l.length
  .obtain⟨d1,d2,r,e1,hB2,hr,hr2⟩:=jEB h0 omg_ l.length l d [] (À _) hB (by simpa using hS) sqo_;simp only[Á,W,Î]at e1 hr hr2;simp(disch:=omega)only[S0];rw[hdl]at e1 hr hr2;rw[show (2:o)*(bs:o)=((2*bs:H):o) by omega,show (0:o)=((0:H):o) from rfl,e1];simp(disch:=omega)only[S0]
   have hS2:SmK d2:=by
    have hp:∀{k:H}{a b:ClL},Blk keyC k a b->b.Perm a:=by intro k a b h;induction h<;>grind[jax]
    exact(hS.perm (hp hB).symm).perm (hp hB2)
   grind[j04]
  .simp(disch:=omega)only[hB.all,S0]
theorem jvo{l:ClL}(hS:SmK l)(hl:l.length<=100000000):j0H l=U (srtK keyC l):=by
 obtain⟨d,d',r,e1,e2,hB⟩:=jEA l.length l [] (À _) (by simpa using hS) (by simpa using hl);simp only[Á,W,Î]at e1 e2;have hp:∀{k:H}{a b:ClL},Blk keyC k a b->b.Perm a:=by intro k a b h;induction h<;>grind[jax]
 have e3:=jEC hl l.length 20 d' omg_ omg_ omg_ hB (hS.perm (hp hB));grind[j0H,j4p]
theorem Cov.edge{f:o->o}{b:o}:∀{l:SgL}{q:Ä o}{a:o},Cov f b q a l->(∀p,q=U p->f (a-1)=p)->∀s∈l,((q=Ê/\s.1=a)\/f (s.1-1)≠s.2.2)/\(s.2.1=b\/f s.2.1≠s.2.2)
 |[],_,_,_,_,s,hs=>by simp at hs
 |u::r,q,a,h,hq,s,hs=>by
  obtain⟨h1,h2,h3,h4,h5⟩:=h;rcases List.mem_cons.1 hs with rfl|hs
  .constructor
   .cases q<;>simp_all
   .match r,h5 with
    |[],h5=>exact .inl h5
    |v::w,h5=>obtain⟨g1,g2,g3,g4,_⟩:=h5;grind
  .have:=h5.edge (λp hp=>by
    grind) s hs
   simp_all
theorem Ch.nxt{f:o->o}{b:o}:∀{l:SgL}{a:o},Ch f b a l->∀i,(h:i<l.length)->(∃h':i+1<l.length,l[i+1].1=l[i].2.1)\/(i+1=l.length/\l[i].2.1=b)
 |[],_,_,i,h=>by simp at h
 |[s],_,h,0,_=> .inr ⟨rfl,h.2.2.2⟩
 |s::u::r,_,h,0,_=> .inl ⟨smp_,h.2.2.2.1⟩
 |s::u::r,_,h,i+1,hi=>by
  rcases Ch.nxt h.2.2.2 i (by simpa using hi) with⟨h',e⟩|⟨h',e⟩
  .exact .inl ⟨by simpa using h',by simpa using e⟩
  .exact .inr ⟨by simpa using h',by simpa using e⟩
 |[s],_,_,i+1,hi=>by simp at hi
theorem Cov.emp{f:o->o}{q:Ä o}{a:o}:∀{l:SgL},Cov f a q a l->l=[]
 |[],_=>rfl
 |s::r,h=>absurd h.2.2.2.2.ch.le (by have:=h.2.1;omega)
structure ClOk(f g:o->o)(a b i k:o)(z:ClT):Prop where
 i:z.2.1=i
 k:z.2.2.1=k
 p:0<=z.1
 lo:a<=z.2.2.2.1
 lt:z.2.2.2.1<z.2.2.2.2
 hi:z.2.2.2.2<=b
 mid:∀t,z.2.2.2.1<=t->t<z.2.2.2.2->f t=z.1/\g t=z.1
 lft:z.2.2.2.1=a\/¬(f (z.2.2.2.1-1)=z.1/\g (z.2.2.2.1-1)=z.1)
 rgt:z.2.2.2.2=b\/¬(f z.2.2.2.2=z.1/\g z.2.2.2.2=z.1)
structure jf4(f g:o->o)(a b i k c:o)(O:ClL):Prop where
 ok:∀z∈O,ClOk f g a b i k z/\z.2.2.2.2<=c
 pw:O.Pairwise λx y=>x.2.2.2.1<y.2.2.2.1
 all:∀t,a<=t->t<c->f t=g t->0<=f t->∃z∈O,z.1=f t/\z.2.2.2.1<=t/\t<z.2.2.2.2
section
variable{f g:o->o}{a b:o}{A B:SgL}(hA:Cov f b Ê a A)(hB:Cov g b Ê a B)
include hA hB
theorem jym{i k c d:o}{x y:H}{acc:ClL}(hx:x<A.length)(hy:y<B.length)(hc:c=max A[x].1 B[y].1)(hd:d=min A[x].2.1 B[y].2.1)(h1:A[x].1<=B[y].2.1)(h2:B[y].1<=A[x].2.1)(hac:a<=c)(hI:jf4 f g a b i k c acc) :
  (0<=A[x].2.2/\A[x].2.2=B[y].2.2/\c<d->jf4 f g a b i k d (acc++[(A[x].2.2,i,k,c,d)]))/\(¬(0<=A[x].2.2/\A[x].2.2=B[y].2.2/\c<d)->jf4 f g a b i k d acc)/\c<=d:=by
 have mA:=hA.ch.mem _ (G hx);have mB:=hB.ch.mem _ (G hy);have pA:=hA.pos _ (G hx);have pB:=hB.pos _ (G hy);have eA:=hA.edge (λp hp=>by simp at hp) _ (G hx);have eB:=hB.edge (λp hp=>by simp at hp) _ (G hy);have hcd:c<=d:=omg_;refine⟨λ⟨q1,q2,q3⟩=>⟨λz hz=>?_,?_,λt t1 t2 t3 t4=>?_⟩,λhn=>⟨λz hz=>?_,hI.pw,λt t1 t2 t3 t4=>?_⟩,hcd⟩
 .rcases List.mem_append.1 hz with hz|hz
  .have:=hI.ok z hz;grind
  .simp only[Å]at hz;subst hz;refine⟨⟨rfl,rfl,q1,hac,q3,by dsimp only;omega,λt t1 t2=>?_,?_,?_⟩,Int.le_refl _⟩
   .dsimp only at t1 t2 ⊢
    exact⟨mA.2.2.2 t omg_ omg_,by grind⟩
   all_goals grind
 .refine List.pairwise_append.2 ⟨hI.pw,S _ _,λz hz w hw=>?_⟩;simp only[Å]at hw;subst hw;have:=hI.ok z hz;have:=this.1.lt;dsimp only;omega
 .by_cases htc:t<c
  .obtain⟨z,hz,h⟩:=hI.all t t1 htc t3 t4;grind
  .refine⟨_,List.mem_append_right _ (List.mem_singleton.2 rfl),?_,by dsimp only;omega,by dsimp only;omega⟩;grind
 .have:=hI.ok z hz;grind
 .by_cases htc:t<c
  .exact hI.all t t1 htc t3 t4
  .exfalso;have e1:=mA.2.2.2 t omg_ omg_;grind
theorem jFw{i k:o}(hlA:A.length<=500000)(hlB:B.length<=500000):∀(n x y:H)(c:o)(acc:ClL),(A.length-x)+(B.length-y)<=n->x<=A.length->y<=B.length->
  (∀(hx:x<A.length)(hy:y<B.length),c=max A[x].1 B[y].1/\A[x].1<=B[y].2.1/\B[y].1<=A[x].2.1)->((x=A.length\/y=B.length)->c=b)->a<=c->jf4 f g a b i k c acc->acc.length+n<=1000000->
  ∃out,j65 A B i k (x:o) (y:o) acc=U out/\jf4 f g a b i k b out/\out.length<=acc.length+n:=by
 intro n;induction n with
 |zero=>intro x y c acc hn hx hy _ h2 _ hI hl;rw[j8g];simp(disch:=omega)only[j2g,j2o,S0];grind
 |succ n ih=>
  intro x y c acc hn hx hy h1 h2 hac hI hl;rw[j8g];simp only[j2g,j2o,show Int.ofNat A.length=(A.length:o) from rfl,show Int.ofNat B.length=(B.length:o) from rfl];by_cases hxa:x<A.length
  .rw[j00 (show (x:o)<(A.length:o) by omega)];by_cases hyb:y<B.length
   .obtain⟨c1,c2,c3⟩:=h1 hxa hyb;have ga:A.getD x (0,0,0)=A[x]:=by simp[É,hxa]
    have gb:B.getD y (0,0,0)=B[y]:=by simp[É,hyb]
    have pA:=hA.pos _ (G hxa);have pB:=hB.pos _ (G hyb);rw[j00 (show (y:o)<(B.length:o) by omega),j0B (show (0:o)<=(x:o) by omega) omg_,j0B (show (0:o)<=(y:o) by omega) omg_];simp only[j6,Bool.true_or,j8,ga,gb];obtain⟨d,hd⟩:∃d,d=min A[x].2.1 B[y].2.1:=⟨_,rfl⟩;have e1:(if B[y].1>A[x].1 then B[y].1 else A[x].1)=c:=by split<;>omega
    have e2:(if B[y].2.1<A[x].2.1 then B[y].2.1 else A[x].2.1)=d:=by split<;>omega
    rw[e1,e2];obtain⟨s1,s2,hcd⟩:=jym hA hB (i:=i) (k:=k) hxa hyb c1 hd c2 c3 hac hI
    have goX:∀acc':ClL,A[x].2.1<B[y].2.1->jf4 f g a b i k d acc'->acc'.length<=acc.length+1->∃out,j65 A B i k ((x:o)+1) (y:o) acc'=U out/\jf4 f g a b i k b out/\out.length<=acc.length+(n+1):=λacc' hlt hI' hl'=>by
     have:=ih (x+1) y d acc' omg_ omg_ hy (λhx' hy'=>by
      rcases hA.ch.nxt x hxa with⟨h',e⟩|⟨e,_⟩
      .have pA':=hA.pos _ (G hx');grind
      .omega) (λh=>by
      rcases hA.ch.nxt x hxa with⟨h',e⟩|⟨_,e⟩
      .omega
      .omega) omg_ hI' omg_
     grind
    have goY:∀acc':ClL,¬A[x].2.1<B[y].2.1->jf4 f g a b i k d acc'->acc'.length<=acc.length+1->∃out,j65 A B i k (x:o) ((y:o)+1) acc'=U out/\jf4 f g a b i k b out/\out.length<=acc.length+(n+1):=λacc' hlt hI' hl'=>by
     have:=ih x (y+1) d acc' omg_ hx omg_ (λhx' hy'=>by
      rcases hB.ch.nxt y hyb with⟨h',e⟩|⟨e,_⟩
      .have pB':=hB.pos _ (G hy');omega
      .omega) (λh=>by
      rcases hB.ch.nxt y hyb with⟨h',e⟩|⟨_,e⟩
      .omega
      .omega) omg_ hI' omg_
     grind
    rw[j07 (x:=(x:o)+1),j07 (x:=(y:o)+1)];have hcond:cond (cond (I (A[x].2.2>=0)) (A[x].2.2==B[y].2.2) Z) (I (c<d)) Z=I (0<=A[x].2.2/\A[x].2.2=B[y].2.2/\c<d):=by grind
    rw[hcond];by_cases he:0<=A[x].2.2/\A[x].2.2=B[y].2.2/\c<d
    .simp(disch:=omega)only[S0];by_cases hlt:A[x].2.1<B[y].2.1
     .rw[j00 hlt,j6,j04];exact goX _ hlt (s1 he) smp_
     .rw[j01 hlt,j7,j04];exact goY _ hlt (s1 he) smp_
    .rw[j01 he,j7];by_cases hlt:A[x].2.1<B[y].2.1
     .rw[j00 hlt,j6,j04];exact goX acc hlt (s2 he) omg_
     .rw[j01 hlt,j7,j04];exact goY acc hlt (s2 he) omg_
   .simp(disch:=omega)only[S0];grind
  .simp(disch:=omega)only[S0];grind
theorem jyn{i k:o}(hab:a<=b)(hl:A.length+B.length<=500000):∃out,j8h A B i k=U out/\jf4 f g a b i k b out/\out.length<=A.length+B.length:=by
 by_cases e0:a=b
 .subst e0;obtain rfl:=hA.emp;obtain rfl:=hB.emp;refine⟨[],?_,⟨smp_,X,λt h1 h2=>omg_⟩,smp_⟩;simp only[j8h];rw[j8g];simp only[j2g,j2o,W];rw[j01 smp_];rfl
 have hab:a<b:=omg_;have nA:=List.length_pos_iff.2 (hA.ne hab);have nB:=List.length_pos_iff.2 (hB.ne hab)
 have fA:A[0].1=a:=by
  match A,hA,nA with
  |s::r,hA,_=>exact hA.1
 have fB:B[0].1=a:=by
  match B,hB,nB with
  |s::r,hB,_=>exact hB.1
 have pA:=hA.pos _ (G nA);have pB:=hB.pos _ (G nB);obtain⟨out,e,h1,h2⟩:=jFw hA hB (i:=i) (k:=k) omg_ omg_ (A.length+B.length) 0 0 a [] omg_ omg_ omg_ (λ_ _=>⟨omg_,omg_,omg_⟩) (λh=>omg_) (Int.le_refl _) ⟨smp_,X,λt h1 h2=>omg_⟩ sqo_;grind[j8h]
end
def jla(x y:ClT):Prop:=x.2.1<y.2.1\/x.2.1=y.2.1/\x.2.2.1<y.2.2.1
structure jaQ(F:H->o->o)(m:H)(a b:o)(i k:H)(L:ClL):Prop where
 ok:∀z∈L,∃i' k':H,i'<k'/\k'<m/\(i'<i\/i'=i/\k'<k)/\ClOk (F i') (F k') a b i' k' z
 pw:L.Pairwise λx y=>x.2.2.2.1=y.2.2.2.1->jla x y
 all:∀i' k':H,i'<k'->k'<m->(i'<i\/i'=i/\k'<k)->∀t,a<=t->t<b->F i' t=F k' t->0<=F i' t->∃z∈L,z.2.1=i'/\z.2.2.1=k'/\z.1=F i' t/\z.2.2.2.1<=t/\t<z.2.2.2.2
theorem jaQ.add{F:H->o->o}{m:H}{a b:o}{i k:H}{L O:ClL}(h:jaQ F m a b i k L)(hik:i<k)(hkm:k<m)(hO:jf4 (F i) (F k) a b i k b O):jaQ F m a b i (k+1) (L++O):=by
 refine⟨λz hz=>?_,?_,λi' k' h1 h2 h3 t t1 t2 t3 t4=>?_⟩
 .rcases List.mem_append.1 hz with hz|hz
  .obtain⟨i',k',g1,g2,g3,g4⟩:=h.ok z hz;grind
  .exact⟨i,k,hik,hkm,omg_,(hO.ok z hz).1⟩
 .refine List.pairwise_append.2 ⟨h.pw,hO.pw.imp (λh e=>absurd h omg_),λx hx y hy _=>?_⟩;obtain⟨i',k',g1,g2,g3,g4⟩:=h.ok x hx;have q:=(hO.ok y hy).1;grind[jla,ClOk.i,ClOk.k]
 .by_cases hn:i'=i/\k'=k
  .obtain⟨rfl,rfl⟩:=hn;obtain⟨z,hz,g⟩:=hO.all t t1 t2 t3 t4;have q:=(hO.ok z hz).1;grind[ClOk.i,ClOk.k]
  .obtain⟨z,hz,g⟩:=h.all i' k' h1 h2 omg_ t t1 t2 t3 t4;grind
theorem jaQ.next{F:H->o->o}{m:H}{a b:o}{i k:H}{L:ClL}(h:jaQ F m a b i k L)(hk:m<=k):jaQ F m a b (i+1) (i+2) L:=by
 refine⟨λz hz=>?_,h.pw,λi' k' h1 h2 h3=>h.all i' k' h1 h2 omg_⟩;obtain⟨i',k',g1,g2,g3,g4⟩:=h.ok z hz;grind
section
variable{F:H->o->o}{a b:o}(hab:a<=b){K:H}(hK:K<=16384){Ss:List SgL}(hSl:Ss.length<=1000)(hS:∀j (h:j<Ss.length),Cov (F j) b Ê a Ss[j]/\Ss[j].length<=K)
include hab hK hSl hS
theorem pl5{i:H}:∀(n k:H)(L:ClL),k+n=Ss.length->i<k->jaQ F Ss.length a b i k L->L.length+2*K*n<=1000000->
  ∃L',j7b (i:o) (k:o) (Ss.length:o) (i:o) Ss L=U ((Ss.length:o),(i:o),Ss,L')/\jaQ F Ss.length a b i Ss.length L'/\L'.length<=L.length+2*K*n
 |0,k,L,hk,_,hI,_=>by
  rw[jaK];simp(disch:=omega)only[j35,S0];obtain rfl:k=Ss.length:=omg_;exact⟨L,rfl,hI,omg_⟩
 |n+1,k,L,hk,hik,hI,hl=>by
  have hmul:2*K*(n+1)=2*K*n+2*K:=Nat.mul_succ _ _;have hk':k<Ss.length:=omg_;have hi':i<Ss.length:=omg_;have gi:Ss.getD i ([]:SgL)=Ss[i]:=by simp[É,hi']
  have gk:Ss.getD k ([]:SgL)=Ss[k]:=by simp[É,hk']
  have si:=hS i hi';have sk:=hS k hk';obtain⟨O,e,hO,lO⟩:=jyn si.1 sk.1 (i:=(i:o)) (k:=(k:o)) hab omg_;obtain⟨L',e',hI',l'⟩:=pl5 (i:=i) n (k+1) (L++O) omg_ omg_ (hI.add hik hk' hO) (by rw[E];omega);rw[jaK];simp(disch:=omega)only[j35,e,S0];exact⟨L',e',hI',by rw[E]at l';omega⟩
def tri:H->H
 |0=>0
 |n+1=>tri n+n
theorem pl3:∀(n i:H)(L:ClL),i+n=Ss.length->jaQ F Ss.length a b i (i+1) L->L.length+2*K*tri n<=900000->
  ∃L',j7c (Ss.length:o) (i:o) Ss L=U L'/\jaQ F Ss.length a b Ss.length (Ss.length+1) L'/\L'.length<=L.length+2*K*tri n
 |0,i,L,hi,hI,_=>by
  rw[jaL];simp(disch:=omega)only[j36,S0];obtain rfl:i=Ss.length:=omg_;exact⟨L,rfl,hI,omg_⟩
 |n+1,i,L,hi,hI,hl=>by
  have hmul:2*K*tri (n+1)=2*K*tri n+2*K*n:=Nat.mul_add _ _ _;obtain⟨L1,e1,h1,l1⟩:=pl5 hab hK hSl hS (i:=i) n (i+1) L omg_ omg_ hI omg_;obtain⟨L2,e2,h2,l2⟩:=pl3 n (i+1) L1 omg_ (h1.next (À _)) omg_;rw[jaL];simp(disch:=omega)only[j36,show j7b (i:o) ((i:o)+1) (Ss.length:o) (i:o) Ss L=_ from e1,S0];exact⟨L2,e2,h2,omg_⟩
end
theorem jyo{f g:o->o}{a b i k:o}{z z':ClT}(h:ClOk f g a b i k z)(h':ClOk f g a b i k z')(hp:z.1=z'.1){t:o}(h1:z.2.2.2.1<=t)(h2:t<z.2.2.2.2)(h3:z'.2.2.2.1<=t)(h4:t<z'.2.2.2.2):z=z':=by
 obtain⟨p,i1,k1,f1,t1⟩:=z;obtain⟨p',i2,k2,f2,t2⟩:=z';obtain⟨a1,a2,a3,a4,a5,a6,a7,a8,a9⟩:=h;obtain⟨b1,b2,b3,b4,b5,b6,b7,b8,b9⟩:=h';grind
theorem jaQ.sub{F:H->o->o}{m:H}{a b:o}{L L':ClL}(h:jaQ F m a b m (m+1) L)(h':jaQ F m a b m (m+1) L'):∀z∈L,z∈L':=by
 intro z hz;obtain⟨i,k,h1,h2,_,h4⟩:=h.ok z hz;have hl:=h4.lt;have hhi:=h4.hi;obtain⟨e1,e2⟩:=h4.mid z.2.2.2.1 (Int.le_refl _) hl;obtain⟨z',m',g1,g2,g3,g4,g5⟩:=h'.all i k h1 h2 omg_ z.2.2.2.1 h4.lo omg_ (by rw[e1,e2]) (by rw[e1];exact h4.p);obtain⟨i',k',r1,r2,_,r4⟩:=h'.ok z' m';grind[ClOk.i,ClOk.k,jyo]
def befC(x y:ClT):Bool:=cond (x.2.2.2.1 != y.2.2.2.1) (I (x.2.2.2.1<y.2.2.2.1)) (cond (x.2.1 != y.2.1) (I (x.2.1<y.2.1)) (I (x.2.2.1<y.2.2.1)))
theorem ju3{x y:ClT}:befC x y=true↔(x.2.2.2.1<y.2.2.2.1\/x.2.2.2.1=y.2.2.2.1/\jla x y):=by
 grind[befC,jla]
def leF(x y:ClT):Prop:=befC y x=Z
theorem jpu{x y:ClT}:leF x y↔¬(y.2.2.2.1<x.2.2.2.1\/y.2.2.2.1=x.2.2.2.1/\jla y x):=by
 grind[leF,ju3]
theorem jED{x y:ClT}(h:befC x y=true):leF x y:=by
 grind[jpu,ju3,jla]
theorem jEE{x y:ClT}(h:befC x y=Z):leF y x:=h
theorem jBf{x y z:ClT}(h:leF x y)(h':leF y z):leF x z:=by
 grind[jpu,jla]
def mgC:H->ClL->ClL->ClL->ClL
 |0,out,_,_=>out
 |n+1,out,x::a,y::b=>cond (!(befC y x)) (mgC n (out++[x]) a (y::b)) (mgC n (out++[y]) (x::a) b)
 |n+1,out,x::a,[]=>mgC n (out++[x]) a []
 |n+1,out,[],y::b=>mgC n (out++[y]) [] b
 |_+1,out,[],[]=>out
def soC:H->ClL->ClL
 |0,l=>l
 |n+1,l=>if l.length<2 then l else mgC l.length [] (soC n (l.take (l.length/2))) (soC n (l.drop (l.length/2)))
theorem jjL:∀(n:H)(out a b:ClL),n=a.length+b.length->(mgC n out a b).Perm (out++(a++b))
 |0,out,a,b,hn=>by
  have h1:a=[]:=List.length_eq_zero_iff.1 omg_;have h2:b=[]:=List.length_eq_zero_iff.1 omg_;subst h1;subst h2;simp[mgC]
 |n+1,out,x::a,y::b,hn=>by
  simp only[N]at hn;unfold mgC;cases !(befC y x) with
  |true=>have:=jjL n (out++[x]) a (y::b) sqo_;rw[j6];simpa using this
  |false=>have:=jjL n (out++[y]) (x::a) b sqo_;rw[j7];refine this.trans ?_;rw[Y];have h:(y::((x::a)++b)).Perm ((x::a)++y::b):=List.perm_middle.symm;exact h.append_left out
 |n+1,out,x::a,[],hn=>by
  simp only[N,W]at hn;have:=jjL n (out++[x]) a [] sqo_;show (mgC n (out++[x]) a []).Perm _;simpa using this
 |n+1,out,[],y::b,hn=>by
  simp only[N,W]at hn;have:=jjL n (out++[y]) [] b sqo_;show (mgC n (out++[y]) [] b).Perm _;simpa using this
 |n+1,out,[],[],hn=>by simp at hn
theorem jpv{out:ClL}{x:ClT}(h:out.Pairwise leF)(hx:∀y∈out,leF y x):(out++[x]).Pairwise leF:=
 List.pairwise_append.2 ⟨h,S _ _,λy hy z hz=>by
  simp_all⟩
theorem jrn:∀(n:H)(out a b:ClL),n=a.length+b.length->out.Pairwise leF->a.Pairwise leF->b.Pairwise leF->(∀x∈out,(∀y∈a,leF x y)/\∀y∈b,leF x y)->(mgC n out a b).Pairwise leF
 |0,out,a,b,hn,ho,_,_,_=>ho
 |n+1,out,x::a,y::b,hn,ho,ha,hb,hle=>by
  have ha':=List.pairwise_cons.1 ha;have hb':=List.pairwise_cons.1 hb;simp only[N]at hn;unfold mgC;cases hc:befC y x with
  |false=>
   have hxy:leF x y:=jEE hc;refine jrn n (out++[x]) a (y::b) sqo_ (jpv ho λz hz=>(hle z hz).1 x smp_) ha'.2 hb λz hz=>?_;rcases List.mem_append.1 hz with hz|hz
   .exact⟨λu hu=>(hle z hz).1 u (by simp[hu]),(hle z hz).2⟩
   .have:z=x:=by simpa using hz
    subst this;refine⟨ha'.1,λu hu=>?_⟩;rcases List.mem_cons.1 hu with rfl|hu
    .exact hxy
    .exact jBf hxy (hb'.1 u hu)
  |true=>
   have hyx:leF y x:=jED hc;refine jrn n (out++[y]) (x::a) b sqo_ (jpv ho λz hz=>(hle z hz).2 y smp_) ha hb'.2 λz hz=>?_;rcases List.mem_append.1 hz with hz|hz
   .exact⟨(hle z hz).1,λu hu=>(hle z hz).2 u (by simp[hu])⟩
   .have:z=y:=by simpa using hz
    subst this;refine⟨λu hu=>?_,hb'.1⟩;rcases List.mem_cons.1 hu with rfl|hu
    .exact hyx
    .exact jBf hyx (ha'.1 u hu)
 |n+1,out,x::a,[],hn,ho,ha,hb,hle=>by
  have ha':=List.pairwise_cons.1 ha;simp only[N,W]at hn;refine jrn n (out++[x]) a [] sqo_ (jpv ho λz hz=>(hle z hz).1 x smp_) ha'.2 hb λz hz=>?_;rcases List.mem_append.1 hz with hz|hz
  .exact⟨λu hu=>(hle z hz).1 u (by simp[hu]),(hle z hz).2⟩
  .have:z=x:=by simpa using hz
   subst this;exact⟨ha'.1,λu hu=>by simp at hu⟩
 |n+1,out,[],y::b,hn,ho,ha,hb,hle=>by
  have hb':=List.pairwise_cons.1 hb;simp only[N,W]at hn;refine jrn n (out++[y]) [] b sqo_ (jpv ho λz hz=>(hle z hz).2 y smp_) ha hb'.2 λz hz=>?_;rcases List.mem_append.1 hz with hz|hz
  .exact⟨(hle z hz).1,λu hu=>(hle z hz).2 u (by simp[hu])⟩
  .have:z=y:=by simpa using hz
   subst this;exact⟨λu hu=>by simp at hu,hb'.1⟩
 |n+1,out,[],[],hn,ho,_,_,_=>ho
theorem jA1:∀(n:H)(out a b:ClL),a.length+b.length<=n->mgC n out a b=mgC (a.length+b.length) out a b:=by
 intro n;induction n with
 |zero=>simp_all
 |succ n ih=>
  intro out a b h;match a,b,h with
  |[],[],_=>rfl
  |x::a,[],h=>
   simp_all[mgC]
  |[],y::b,h=>
   simp_all[mgC]
  |x::a,y::b,h=>simp only[N]at h ⊢;grind[mgC]
theorem jo9:∀(n:H)(l:ClL),l.length<=n+1->(soC n l).Pairwise leF/\(soC n l).Perm l
 |0,l,hl=>by
  refine⟨?_,.refl _⟩;match l,hl with
  |[],_=>exact X
  |[x],_=>exact S _ _
 |n+1,l,hl=>by
  unfold soC;by_cases h2:l.length<2
  .rw[if_pos h2];refine⟨?_,.refl _⟩;match l,h2 with
   |[],_=>exact X
   |[x],_=>exact S _ _
  .rw[if_neg h2];obtain⟨a1,a2⟩:=jo9 n (l.take (l.length/2)) sqo_;obtain⟨b1,b2⟩:=jo9 n (l.drop (l.length/2)) sqo_;have la:=a2.length_eq;have lb:=b2.length_eq;simp only[List.length_take,List.length_drop]at la lb;rw[jA1 l.length [] _ _ omg_];refine⟨jrn _ [] _ _ rfl X a1 b1 (λx hx=>by simp at hx),?_⟩;have:=jjL _ [] (soC n (l.take (l.length/2))) (soC n (l.drop (l.length/2))) rfl;refine this.trans ?_;rw[Á];have h3:=a2.append b2;rwa[J]at h3
theorem jpw:∀(n m:H)(l:ClL),l.length<=n+1->l.length<=m+1->soC n l=soC m l
 |0,0,_,_,_=>rfl
 |0,m+1,l,h,_=>by unfold soC;rw[if_pos omg_]
 |n+1,0,l,_,h=>by unfold soC;rw[if_pos omg_]
 |n+1,m+1,l,h1,h2=>by
  unfold soC;by_cases h:l.length<2
  .rw[if_pos h,if_pos h]
  .rw[if_neg h,if_neg h,jpw n m _ sqo_ sqo_,jpw n m _ sqo_ sqo_]
end Go.Proofs.Pw
