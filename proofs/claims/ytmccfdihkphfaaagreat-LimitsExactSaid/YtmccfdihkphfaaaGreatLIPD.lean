/- span.Common and span.Without: meets and differences of sets. -/
import Derived.Test.YtmccfdihkphfaaaGreatLIPC
import Derived.KernelRfl
import Derived.Test.YtmccfdihkphfaaaGreatLILD
open _root_ renaming Int->E,List->J,Option->R,Nat->S,ByteArray->Ê
open ByteArray renaming empty->F
open Decidable renaming decide->G
open List renaming drop_eq_getElem_cons->H,length_append->O,length->W,getElem_mem->X,getD->À,length_cons->Â,nil_append->Ã,length_map->Ä,singleton_append->Å
open Option renaming some->I,isSome_none->È,isSome_some->É,none->Ð
open Int renaming ofNat->U,tdiv_eq_ediv_of_nonneg->Z,le_refl->Æ,tmod->Ë,mul_comm->Î
open Bool renaming true->Y
open Nat renaming mul_le_mul_left->Ç,mul_le_mul->Ì,lt_or_ge->Í,le_trans->Ï
noncomputable section
open Go Go.Lft
namespace Go.Proofs.Pw
theorem StS.weak{p q:E}(hq:q<=p):∀{l:SL},StS p l->StS q l
 |[],_=>trivial
 |_::_,h=>⟨by have:=h.1;omega,h.2⟩
theorem StS.low{p x:E}:∀{l:SL},StS p l->inS x l->p<x
 |[],_,h=>absurd h j2V
 |s::r,h,hx=>by
  rcases j0i.1 hx with hx|hx
  .have:=h.1;omega
  .have:=StS.low h.2.2 hx;have:=h.1;have:=h.2.1;omega
theorem StS.mem{p:E}:∀{l:SL},StS p l->∀s∈l,p<s.1/\s.1<s.2
 |[],_,s,hs=>by simp at hs
 |u::r,h,s,hs=>by
  rcases List.mem_cons.1 hs with rfl|hs
  .exact⟨h.1,h.2.1⟩
  .have:=StS.mem h.2.2 s hs;have:=h.1;have:=h.2.1;omega
def cmF:S->SL->SL->SL
 |n+1,s::a,u::b=>(if (if u.1>s.1 then u.1 else s.1)<(if u.2<s.2 then u.2 else s.2) then [((if u.1>s.1 then u.1 else s.1),(if u.2<s.2 then u.2 else s.2))] else [])++
  (if s.2<u.2 then cmF n a (u::b) else cmF n (s::a) b)
 |_,_,_=>[]
theorem jxx:∀(n:S)(a b:SL)(p q:E),a.length+b.length<=n->StS p a->StS q b->(∀x,inS x (cmF n a b)↔inS x a/\inS x b)/\StS p (cmF n a b)/\StS q (cmF n a b)/\(cmF n a b).length<=a.length+b.length
 |0,a,b,p,q,hn,_,_=>by
  grind[List.length_eq_zero_iff,cmF]
 |n+1,[],b,p,q,_,_,_=>⟨λx=>⟨λh=>absurd h j2V,λh=>absurd h.1 j2V⟩,trivial,trivial,by simp[cmF]⟩
 |n+1,_::_,[],p,q,_,_,_=>⟨λx=>⟨λh=>absurd h j2V,λh=>absurd h.2 j2V⟩,trivial,trivial,by simp[cmF]⟩
 |n+1,s::a,u::b,p,q,hn,ha,hb=>by
  obtain⟨a1,a2,a3⟩:=ha;obtain⟨b1,b2,b3⟩:=hb;simp only[Â]at hn ⊢;have hx:∃f t:E,f=(if u.1>s.1 then u.1 else s.1)/\t=(if u.2<s.2 then u.2 else s.2)/\(∀x,(f<=x/\x<t)↔(s.1<=x/\x<s.2)/\(u.1<=x/\x<u.2))/\p<f/\q<f/\t<=s.2/\t<=u.2:=by grind
  obtain⟨f,t,ef,et,hi,f1,f2,t1,t2⟩:=hx;simp only[cmF,<-ef,<-et]
  have key:∀(a' b':SL)(r:SL),(∀x,inS x r↔inS x a'/\inS x b')->StS t r->StS p r->StS q r->r.length<=a'.length+b'.length->a'.length+b'.length+1=a.length+1+(b.length+1)->
    (∀x,inS x (s::a)/\inS x (u::b)↔(f<=x/\x<t)\/(inS x a'/\inS x b'))->
    (∀x,inS x ((if f<t then [(f,t)] else [])++r)↔inS x (s::a)/\inS x (u::b))/\StS p ((if f<t then [(f,t)] else [])++r)/\StS q ((if f<t then [(f,t)] else [])++r)/\((if f<t then [(f,t)] else [])++r).length<=a.length+1+(b.length+1):=by
   intro a' b' r hr1 hr2 hr3 hr4 hl hl2 hiff;by_cases hft:f<t
   .rw[if_pos hft];refine⟨λx=>?_,⟨f1,hft,hr2⟩,⟨f2,hft,hr2⟩,sqo_⟩;grind[j0i]
   grind
  by_cases hc:s.2<u.2
  .rw[if_pos hc];obtain⟨i1,i2,i3,i4⟩:=jxx n a (u::b) s.2 q sqo_ a3 ⟨b1,b2,b3⟩;refine key a (u::b) _ i1 (i2.weak t1) (i2.weak omg_) i3 i4 sqo_ (λx=>?_);rw[j0i,hi x];constructor
   .rintro⟨h|h,h'⟩
    .rcases j0i.1 h' with h'|h'
     .exact .inl ⟨h,h'⟩
     .have:=StS.low b3 h';omega
    .exact .inr ⟨h,h'⟩
   .rintro (h|h)
    all_goals grind[j0i]
  .rw[if_neg hc];obtain⟨i1,i2,i3,i4⟩:=jxx n (s::a) b p u.2 sqo_ ⟨a1,a2,a3⟩ b3;refine key (s::a) b _ i1 (i3.weak t2) i2 (i3.weak omg_) i4 sqo_ (λx=>?_);rw[j0i (s:=u),hi x];constructor
   .rintro⟨h',h|h⟩
    .rcases j0i.1 h' with h'|h'
     .exact .inl ⟨h',h⟩
     .have:=StS.low a3 h';omega
    .exact .inr ⟨h',h⟩
   .rintro (h|h)
    all_goals grind[j0i]
theorem jCh{A B:SL}(hA:A.length<=10000000)(hB:B.length<=10000000):∀(n i k:S)(acc:SL),i<=A.length->k<=B.length->(A.length-i)+(B.length-k)=n->acc.length+n<=30000000->
  j9b A B (i:E) (k:E) acc=I (acc++cmF n (A.drop i) (B.drop k))
 |n,i,k,acc,hi,hk,hn,hacc=>by
  rw[jke];simp only[j76,j7S,show U (W A)=(A.length:E) from rfl,show U (W B)=(B.length:E) from rfl];by_cases hend:i<A.length/\k<B.length
  .obtain⟨hi',hk'⟩:=hend;obtain⟨n,rfl⟩:∃m,n=m+1:=⟨n-1,omg_⟩;have gA:A.getD i (0,0)=A[i]:=by simp[À,hi']
   have gB:B.getD k (0,0)=B[k]:=by simp[À,hk']
   rw[j00 (show (i:E)<(A.length:E) by omega),j00 (show (k:E)<(B.length:E) by omega),j0B (show (0:E)<=(i:E) by omega) omg_,j0B (show (0:E)<=(k:E) by omega) omg_];simp only[j6,j8,gA,gB];rw[j07 (x:=(i:E)+1),j07 (x:=(k:E)+1)];rw[H hi',H hk'];simp only[cmF];generalize (if B[k].1>A[i].1 then B[k].1 else A[i].1:E)=f;generalize (if B[k].2<A[i].2 then B[k].2 else A[i].2:E)=t
   have ih1:∀acc':SL,acc'.length<=acc.length+1->j9b A B ((i:E)+1) (k:E) acc'=I (acc'++cmF n (A.drop (i+1)) (B[k]::B.drop (k+1))):=λacc' ha'=>by
    have:=jCh hA hB n (i+1) k acc' omg_ omg_ omg_ omg_
    simp_all
   have ih2:∀acc':SL,acc'.length<=acc.length+1->j9b A B (i:E) ((k:E)+1) acc'=I (acc'++cmF n (A[i]::A.drop (i+1)) (B.drop (k+1))):=λacc' ha'=>by
    have:=jCh hA hB n i (k+1) acc' omg_ omg_ omg_ omg_
    simp_all
   by_cases hft:f<t
   .simp(disch:=omega)only[if_pos hft,S0];grind[j04]
   .rw[j01 hft,if_neg hft];simp only[j7];by_cases hc:A[i].2<B[k].2;all_goals grind[S0]
  grind[j0e,cmF]
theorem jrc{A B:SL}{p q:E}(ha:StS p A)(hb:StS q B)(hA:A.length<=10000000)(hB:B.length<=10000000) :
  ∃out,jcV A B=I out/\StS p out/\(∀x,inS x out↔inS x A/\inS x B)/\out.length<=A.length+B.length:=by
 have lp:=jCh hA hB (A.length+B.length) 0 0 [] omg_ omg_ omg_ sqo_;obtain⟨h1,h2,h3,h4⟩:=jxx (A.length+B.length) A B p q (Nat.le_refl _) ha hb;grind[jcV]
def wlP(e:E):E->SL->SL×E
 |t,[]=>([],t)
 |t,u::b=>if u.1<e then ((if t<u.1 then [(t,u.1)] else [])++(wlP e (if u.2>t then u.2 else t) b).1,(wlP e (if u.2>t then u.2 else t) b).2) else ([],t)
def woP(e t:E)(b:SL):SL:=(wlP e t b).1++(if (wlP e t b).2<e then [((wlP e t b).2,e)] else [])
theorem jCi{e t:E}{u:E×E}{b:SL}(h:u.1<e):woP e t (u::b)=(if t<u.1 then [(t,u.1)] else [])++woP e (if u.2>t then u.2 else t) b:=by
 grind[woP,wlP]
theorem jAy{e:E}:∀(b:SL)(t q:E),StS q b->(∀x,inS x (woP e t b)↔(t<=x/\x<e)/\¬inS x b)/\StS (t-1) (woP e t b)/\(∀s∈woP e t b,s.2<=e)/\(woP e t b).length<=b.countP (λu=>G (t<u.1)&&G (u.1<e))+1
 |[],t,q,_=>by
  rw[show woP e t []=(if t<e then [(t,e)] else []) from rfl];by_cases h:t<e
  .rw[if_pos h];exact⟨λx=>⟨λhx=>⟨by rcases j0i.1 hx with hx|hx;exact hx;exact absurd hx j2V,j2V⟩,λhx=>j0i.2 (.inl hx.1)⟩,⟨by dsimp only;omega,h,trivial⟩,smp_,smp_⟩
  .rw[if_neg h];exact⟨λx=>⟨λhx=>absurd hx j2V,λhx=>omg_⟩,trivial,smp_,smp_⟩
 |u::b,t,q,hb=>by
  obtain⟨b1,b2,b3⟩:=hb;by_cases hu:u.1<e
  .rw[jCi hu];have hm:∃t',t'=(if u.2>t then u.2 else t)/\t<=t'/\u.2<=t'/\(t'=t\/t'=u.2):=⟨_,rfl,by split<;>omega,by split<;>omega,by split<;>omega⟩;obtain⟨t',e',h1,h2,h3⟩:=hm;rw[<-e'];obtain⟨i1,i2,i3,i4⟩:=jAy b t' u.2 b3;have hbx:∀x,inS x b->u.2<x:=λx=>StS.low b3
   have hcp:b.countP (λu=>G (t'<u.1)&&G (u.1<e))<=b.countP (λu=>G (t<u.1)&&G (u.1<e)):=List.countP_mono_left λv _ h=>by
    simp only[Bool.and_eq_true,decide_eq_true_eq]at h ⊢;omega
   by_cases htu:t<u.1
   .rw[if_pos htu]
    refine⟨λx=>?_,⟨by dsimp only;omega,htu,i2.weak omg_⟩,λs hs=>?_,by
     rw[List.countP_cons_of_pos (by simp[htu,hu]),Å,Â];omega⟩
    .rw[Å,j0i,i1 x,j0i];constructor
     .rintro (h|h)
      .exact⟨omg_,λh'=>by
        rcases h' with h'|h'
        .omega
        .have:=hbx x h';omega⟩
      .exact⟨omg_,λh'=>by
        rcases h' with h'|h'
        .omega
        .exact h.2 h'⟩
     .rintro⟨h,h'⟩
      by_cases hx:x<u.1
      .exact .inl ⟨h.1,hx⟩
      .by_cases hx2:x<u.2
       .exact absurd (.inl ⟨omg_,hx2⟩) h'
       .exact .inr ⟨omg_,λh2=>h' (.inr h2)⟩
    .rcases List.mem_cons.1 hs with rfl|hs
     .dsimp only;omega
     .exact i3 s hs
   .rw[if_neg htu,Ã]
    refine⟨λx=>?_,i2.weak omg_,i3,by
     rw[List.countP_cons_of_neg (by simp[htu])];omega⟩
    rw[i1 x,j0i];constructor
    .rintro h
     exact⟨omg_,λh'=>by
      rcases h' with h'|h'
      .omega
      .exact h.2 h'⟩
    .rintro⟨h,h'⟩
     by_cases hx2:x<u.2
     .exact absurd (.inl ⟨omg_,hx2⟩) h'
     .exact⟨omg_,λh2=>h' (.inr h2)⟩
  .have:woP e t (u::b)=if t<e then [(t,e)] else []:=by simp only[woP,wlP,if_neg hu,Ã]
   rw[this]
   have hno:∀x,x<e->¬inS x (u::b):=λx hx h=>by
    rcases j0i.1 h with h|h
    .omega
    .have:=StS.low b3 h;omega
   by_cases h:t<e
   .rw[if_pos h]
    exact⟨λx=>⟨λhx=>by
     rcases j0i.1 hx with hx|hx
     .exact⟨hx,hno x hx.2⟩
     .exact absurd hx j2V,λhx=>j0i.2 (.inl hx.1)⟩,⟨by dsimp only;omega,h,trivial⟩,smp_,smp_⟩
   .rw[if_neg h];exact⟨λx=>⟨λhx=>absurd hx j2V,λhx=>omg_⟩,trivial,smp_,smp_⟩
def pA(l:SL)(u:E×E):Bool:=l.any λs=>G (s.1<u.1)&&G (u.1<s.2)
theorem jtO{p q:E×E->Bool}(h:∀u,p u=Y->q u=Y->False):∀l:SL,l.countP p+l.countP q<=l.countP (λu=>p u||q u)
 |[]=>smp_
 |u::l=>by
  have ih:=jtO h l;grind
theorem jxy{q:E}:∀{b:SL}(k:S),StS q b->∃q',StS q' (b.drop k)
 |_,0,h=>⟨q,h⟩
 |[],_+1,_=>⟨q,trivial⟩
 |_::_,k+1,h=>jxy k h.2.2
section
variable{B:SL}(hB:B.length<=10000000)
include hB
theorem jDS{A:SL}{n m s e:E}{acc:SL}:∀(d k:S),k+d=B.length->∃k':S,k<=k'/\k'<=B.length/\(∀j (h:j<B.length),k<=j->j<k'->B[j].2<=s)/\
  ja1 B (k:E) A n m s e acc=I (B,(k':E),A,n,m,s,e,acc)
 |0,k,hk=>by
  grind[jdM,j53,S0]
 |d+1,k,hk=>by
  have hk':k<B.length:=omg_;have gB:B.getD k (0,0)=B[k]:=by simp[À,hk']
  rw[jdM];simp only[j53,show U (W B)=(B.length:E) from rfl];rw[j00 omg_,j2j];simp only[j6,j8,gB];by_cases hc:B[k].2<=s
  .simp(disch:=omega)only[S0];obtain⟨k',h1,h2,h3,h4⟩:=jDS d (k+1) omg_;refine⟨k',omg_,h2,λj h ha hb=>?_,h4⟩;grind
  grind[j0e]
theorem jDT{A:SL}{k n m s e:E}:∀(d i:S)(t:E)(acc:SL),i+d=B.length->acc.length+d<=4000000000->
  j8c B k t (i:E) A n m s e acc=I (B,k,(wlP e t (B.drop i)).2,A,n,m,s,e,acc++(wlP e t (B.drop i)).1)
 |0,i,t,acc,hi,hacc=>by
  grind[jdN,j54,S0,wlP]
 |d+1,i,t,acc,hi,hacc=>by
  have hi':i<B.length:=omg_;have gB:B.getD i (0,0)=B[i]:=by simp[À,hi']
  rw[jdN];simp only[j54,show U (W B)=(B.length:E) from rfl];rw[j00 omg_,j2j];simp only[j6,j8,gB];rw[H hi',j07 (x:=(i:E)+1)];by_cases hc:B[i].1<e
  .rw[j00 hc];simp only[j6,wlP,if_pos hc];have ih:∀acc':SL,acc'.length<=acc.length+1->j8c B k (if B[i].2>t then B[i].2 else t) ((i:E)+1) A n m s e acc'=_:=λacc' h'=>jDT d (i+1) (if B[i].2>t then B[i].2 else t) acc' omg_ omg_;by_cases ht:t<B[i].1
   .simp(disch:=omega)only[if_pos ht,S0]
    simp_all
   grind[S0]
  grind[j0e,wlP]
theorem jDU{A:SL}(hA:A.length<=10000000){q:E}(hb:StS q B):∀(d j k:S)(p:E)(acc:SL),j+d=A.length->k<=B.length->StS p (A.drop j)->(∀i (h:i<B.length),i<k->∀x,inS x (A.drop j)->B[i].2<=x)->acc.length+d+B.countP (pA (A.drop j))<=30000000->
  ∃out,j8d B (k:E) A (A.length:E) (j:E) acc=I (acc++out)/\StS p out/\(∀x,inS x out↔inS x (A.drop j)/\¬inS x B)/\out.length<=d+B.countP (pA (A.drop j))
 |0,j,k,p,acc,hj,hk,_,_,hacc=>by
  grind[jdO,j55,j0e,j2V]
 |d+1,j,k,p,acc,hj,hk,ha,hkx,hacc=>by
  have hj':j<A.length:=omg_;have gA:A.getD j (0,0)=A[j]:=by simp[À,hj']
  rw[H hj']at ha hkx hacc ⊢;obtain⟨a1,a2,a3⟩:=ha;obtain⟨k',h1,h2,h3,h4⟩:=jDS hB (A:=A) (n:=(A.length:E)) (m:=(j:E)) (s:=A[j].1) (e:=A[j].2) (acc:=acc) (B.length-k) k omg_;have hb':∃q',StS q' (B.drop k'):=jxy k' hb;obtain⟨q',hb'⟩:=hb'
  have hskip:∀x,A[j].1<=x->(inS x B↔inS x (B.drop k')):=by
   intro x hx;constructor
   .rintro⟨u,hu,u1,u2⟩
    obtain⟨i,hi,rfl⟩:=List.mem_iff_getElem.1 hu;by_cases hik:i<k'
    .grind[j0i]
    .exact⟨B[i],List.mem_drop_iff_getElem.2 ⟨i-k',omg_,by grind⟩,u1,u2⟩
   .rintro⟨u,hu,u1,u2⟩
    exact⟨u,List.mem_of_mem_drop hu,u1,u2⟩
  have w4:=jDT hB (A:=A) (k:=(k':E)) (n:=(A.length:E)) (m:=(j:E)) (s:=A[j].1) (e:=A[j].2) (B.length-k') k' A[j].1 acc omg_ omg_;obtain⟨s1,s2,s3,s4⟩:=jAy (e:=A[j].2) (B.drop k') A[j].1 q' hb';have hwl:(wlP A[j].2 A[j].1 (B.drop k')).1.length<=(woP A[j].2 A[j].1 (B.drop k')).length:=by simp[woP]
  have hcnt:(woP A[j].2 A[j].1 (B.drop k')).length+B.countP (pA (A.drop (j+1)))<=B.countP (pA (A[j]::A.drop (j+1)))+1:=by
   have h5:(B.drop k').countP (λu=>G (A[j].1<u.1)&&G (u.1<A[j].2))<=B.countP (λu=>G (A[j].1<u.1)&&G (u.1<A[j].2)):=(List.drop_sublist k' B).countP_le
   have h6:=jtO (p:=λu=>G (A[j].1<u.1)&&G (u.1<A[j].2)) (q:=pA (A.drop (j+1))) (λu hp hq=>by
    obtain⟨s,hs,hs'⟩:=List.any_eq_true.1 hq;have:=StS.mem a3 s hs;grind) B
   have h7:B.countP (λu=>(G (A[j].1<u.1)&&G (u.1<A[j].2))||pA (A.drop (j+1)) u)=B.countP (pA (A[j]::A.drop (j+1))):=rfl;omega
  have step:∀acc':SL,acc'=acc++woP A[j].2 A[j].1 (B.drop k')->∃out,j8d B (k':E) A (A.length:E) ((j:E)+1) acc'=I (acc++out)/\StS p out/\(∀x,inS x out↔inS x (A[j]::A.drop (j+1))/\¬inS x B)/\out.length<=d+1+B.countP (pA (A[j]::A.drop (j+1))):=by
   rintro _ rfl
   obtain⟨out,e,o1,o2,o3⟩:=jDU hA hb d (j+1) k' A[j].2 (acc++woP A[j].2 A[j].1 (B.drop k')) omg_ h2 a3 (λi hi hik x hx=>by
    have hlow:=StS.low a3 hx;grind[j0i]) (by rw[O];omega)
   refine⟨woP A[j].2 A[j].1 (B.drop k')++out,by simp_all,?_,λx=>?_,by rw[O];omega⟩
   .have glue:∀(l:SL)(r:E),StS r l->r<A[j].2->(∀s∈l,s.2<=A[j].2)->StS r (l++out):=by
     intro l;induction l with
     |nil=>intro r _ hr _;exact o1.weak omg_
     |cons s l ih=>intro r h hr hl;exact⟨h.1,h.2.1,by
      have:=hl s smp_;by_cases hs:s.2<A[j].2
      .exact ih s.2 h.2.2 hs (λu hu=>hl u (by simp[hu]))
      .have he:s.2=A[j].2:=omg_;match l,h.2.2 with
       |[],_=>simp_all
       |u::l',h'=>have:=hl u smp_;have:=h'.1;have:=h'.2.1;omega⟩
    exact glue _ _ (s2.weak omg_) omg_ s3
   grind[jiA,j0i]
  rw[jdO];simp only[j55];rw[j00 (show (j:E)<(A.length:E) by omega),j2j];simp only[j6,j8,gA,h4,j4,w4];rw[j07 (x:=(j:E)+1)];have hlen:(acc++(wlP A[j].2 A[j].1 (B.drop k')).1).length<=2000000000:=by rw[O];omega
  by_cases ht:(wlP A[j].2 A[j].1 (B.drop k')).2<A[j].2
  .grind[j03,j04,woP]
  simp_all[j01,j04,woP]
theorem jky{A:SL}{p q:E}(ha:StS p A)(hb:StS q B)(hA:A.length<=10000000) :
  ∃out,j5l A B=I out/\StS p out/\(∀x,inS x out↔inS x A/\¬inS x B)/\out.length<=A.length+B.length:=by
 have hc:=List.countP_le_length (p:=pA (A.drop 0)) (l:=B);obtain⟨out,e,h1,h2,h3⟩:=jDU hB hA hb A.length 0 0 p [] omg_ omg_ ha (λi h hi=>omg_) (by grind);refine⟨out,?_,h1,h2,omg_⟩;grind[j5l]
end
set_option linter.unusedSectionVars false
theorem jkz:∀{l:SL}{p:E},StS p l->∀i,i<l.length->p<(l.getD i (0,0)).1/\(l.getD i (0,0)).1<(l.getD i (0,0)).2
 |[],_,_,i,hi=>by simp at hi
 |x::r,p,h,0,_=>⟨h.1,h.2.1⟩
 |x::r,p,h,i+1,hi=>by
  have:=jkz h.2.2 i (by simpa using hi);have h1:=h.1;have h2:=h.2.1;refine⟨?_,this.2⟩;have e:((x::r).getD (i+1) (0,0)).1=(r.getD i (0,0)).1:=rfl;rw[e];omega
theorem jn1:∀{l:SL}{p:E},StS p l->∀i j,i<j->j<l.length->(l.getD i (0,0)).2<(l.getD j (0,0)).1
 |[],_,_,i,j,_,hj=>by simp at hj
 |x::r,p,h,0,j+1,_,hj=>(jkz h.2.2 j (by simpa using hj)).1
 |x::r,p,h,i+1,j+1,hij,hj=>jn1 h.2.2 i j omg_ (by simpa using hj)
 |x::r,p,h,_,0,hij,_=>omg_
section
variable{l:SL}{p:E}(h:StS p l)(hp : -1<=p)(hl:l.length<=4096)(hb:∀u∈l,u.2<=8589934592)
include h hp hl hb
theorem jDV(i:S)(hi:i<l.length):(l.getD i (0,0)).2<=8589934592:=by
 rw[show l.getD i (0,0)=l[i] by simp[hi]];exact hb _ (X hi)
theorem jDW:∀(n i:S),i+n=l.length->j6Y l (i:E)=I (.inr ())
 |0,i,hi=>by
  rw[jak];simp(disch:=omega)only[j45,S0]
 |n+1,i,hi=>by
  have ih:=jDW n (i+1) omg_;have hg:=jkz h i omg_;have hu:=jDV h hp hl hb i omg_;rw[jak];simp only[j45,show U (W l)=(l.length:E) from rfl];rw[j00 (show (i:E)<(l.length:E) by omega),j2j];simp only[j6,j8];rw[j01 (show¬(l.getD i (0,0)).1<0 by omega),j01 (show¬(l.getD i (0,0)).1>=(l.getD i (0,0)).2 by omega),j01 (show¬(l.getD i (0,0)).2>8589934592 by omega)];rw[j07 (x:=(i:E)+1)];simp only[j7];by_cases h0:i=0
  .simp(disch:=omega)only[S0];exact ih
  .obtain⟨j,rfl⟩:∃j,i=j+1:=⟨i-1,omg_⟩;have hgap:=jn1 h j (j+1) omg_ omg_;rw[j00 omg_,j07 (x:=((j+1:S):E)-1),j2j,show (((j+1:S):E)-1).toNat=j by omega,j01 omg_];simp only[j6,j7,j04];exact ih
theorem jrd:jbL l=I true:=by
 have:=jDW h hp hl hb l.length 0 omg_;rw[show ((0:S):E)=0 from rfl]at this;simp only[jbL,show U (W l)=(l.length:E) from rfl];rw[j01 omg_,j7,this];rfl
theorem jxz(x:E):∀(n a b:S),b-a<=n->a<=b->b<=l.length->(∀i,i<a->(l.getD i (0,0)).2<=x)->(∀i,b<=i->i<l.length->x<(l.getD i (0,0)).2)->
  ∃k:S,jkk l x (a:E) (b:E)=I (l,x,(k:E))/\k<=l.length/\(∀i,i<k->(l.getD i (0,0)).2<=x)/\(∀i,k<=i->i<l.length->x<(l.getD i (0,0)).2)
 |0,a,b,hn,hab,hbl,h1,h2=>by
  rw[jjj];simp(disch:=omega)only[j8u,S0];exact⟨a,rfl,omg_,h1,λi hi=>h2 i omg_⟩
 |n+1,a,b,hn,hab,hbl,h1,h2=>by
  rw[jjj];simp only[j8u];by_cases hlt:a<b
  .rw[j00 (show (a:E)<(b:E) by omega),j07 (x:=(a:E)+(b:E)),jei omg_,j07 (x:=((a:E)+(b:E))/2),
    show ((a:E)+(b:E))/2=(((a+b)/2:S):E) by omega,j2j,j07 (x:=(((a+b)/2:S):E)+1)]
   simp only[j6,j8];by_cases hc:(l.getD ((a+b)/2) (0,0)).2<=x
   .rw[j00 hc,j6,j04];refine jxz x n ((a+b)/2+1) b omg_ omg_ hbl (λi hi=>?_) h2;rcases Í i ((a+b)/2) with h'|h'
    .have g1:=jn1 h i ((a+b)/2) h' omg_;have g2:=jkz h ((a+b)/2) omg_;omega
    .have:i=(a+b)/2:=omg_;rw[this];exact hc
   .rw[j01 hc,j7,j04];refine jxz x n a ((a+b)/2) omg_ omg_ omg_ h1 (λi hi hi2=>?_);rcases Í ((a+b)/2) i with h'|h'
    .have g1:=jn1 h ((a+b)/2) i h' omg_;have g2:=jkz h i omg_;omega
    .have:i=(a+b)/2:=omg_;rw[this];omega
  .rw[j01 omg_,j7,j0e];exact⟨a,rfl,omg_,h1,λi hi=>h2 i omg_⟩
end
set_option linter.unusedSectionVars false
def InO(p:E):SL->Prop
 |[]=>True
 |x::r=>p<=x.1/\x.1<x.2/\InO x.2 r
theorem InO.weak{p q:E}(hq:q<=p):∀{l:SL},InO p l->InO q l
 |[],_=>trivial
 |_::_,h=>⟨by have:=h.1;omega,h.2⟩
section
variable{zs:J j0K}{ps:J j0k}{cs:J CalT}(hs:GOk zs ps cs)
include hs
end
def jdp(es:J j3b)(p t:E):Bool:=es.any λx=>x.1==0&&(x.2.1==p&&(G (x.2.2.2.1<=t)&&G (t<x.2.2.2.2)))
def topI(good:S->Bool):S->R S
 |0=>Ð
 |n+1=>cond (good n) (I n) (topI good n)
def jb8(es:J j3b)(t:E)(Pf:S->E)(i:S):Bool:=G (0<=Pf i) && !jdp es (Pf i) t
section
variable{zs:J j0K}{ps:J j0k}{cs:J CalT}{ss:J j0R}
def topP(es:J j3b)(t:E)(Pf:S->E)(n:S):Int:=match topI (jb8 es t Pf) n with
 |some i=>Pf i
 |none=> -1
end
instance(L:j0f):Decidable (Rt L):=
 decidable_of_iff (1<=L.2.2.1.1/\L.2.2.1.1<=100000/\0<=L.2.2.1.2/\L.2.2.1.2<=86399/\0<=L.2.2.2.1/\L.2.2.2.1<=2/\1<=L.2.2.2.2.1/\L.2.2.2.2.1<=400/\L.2.2.2.2.2.1≠[])
  ⟨λ⟨a,b,c,d,e,f,g,h,i⟩=>⟨a,b,c,d,e,f,g,h,i⟩,λ⟨a,b,c,d,e,f,g,h,i⟩=>⟨a,b,c,d,e,f,g,h,i⟩⟩
section
variable{z:j0K}{l:TrL}(h4:Z4 z l)
include h4
theorem jn2(L:j0f):jeM z L=I (if Rt L then 0 else 8):=by
 have hc:j8o (z.1,z.2.1,z.2.2)=I 0:=by simp only[j8o,show j0c (z.1,z.2.1,z.2.2)=_ from h4.1,j4]
 simp only[jeM,hc,j4,bne_self_eq_false,j7]
 have key:(cond (cond (cond (cond (cond (cond (cond (cond (G (L.2.2.1.1<1)) Y (G (L.2.2.1.1>100000))) Y (G (L.2.2.1.2<0))) Y (G (L.2.2.1.2>=86400))) Y (G (L.2.2.2.1<0))) Y (G (L.2.2.2.1>2))) Y (G (L.2.2.2.2.1<1))) Y (G (L.2.2.2.2.1>400))) Y (U L.2.2.2.2.2.1.length==0)) = !G (Rt L):=by
  have hlen:(U L.2.2.2.2.2.1.length==0)=G (L.2.2.2.2.2.1=[]):=by
   cases L.2.2.2.2.2.1 with
   |nil=>rfl
   |cons x r=>simp;omega
  rw[hlen];rw[Bool.eq_iff_iff];simp only[Bool.not_eq_true',decide_eq_false_iff_not];constructor
  .intro hh h;have a1:=h.d0;have a2:=h.d1;have a3:=h.c0;have a4:=h.c1;have a5:=h.u0;have a6:=h.u1;have a7:=h.e0;have a8:=h.e1;rw[j01 (show¬L.2.2.1.1<1 by omega),j01 (show¬L.2.2.1.1>100000 by omega),j01 (show¬L.2.2.1.2<0 by omega),j01 (show¬L.2.2.1.2>=86400 by omega),j01 (show¬L.2.2.2.1<0 by omega),j01 (show¬L.2.2.2.1>2 by omega),j01 (show¬L.2.2.2.2.1<1 by omega),j01 (show¬L.2.2.2.2.1>400 by omega),j01 h.m0]at hh;simp at hh
  .intro hn;by_cases a1:L.2.2.1.1<1
   .rw[j00 a1];rfl
   rw[j01 a1];by_cases a2:L.2.2.1.1>100000
   .rw[j00 a2];rfl
   rw[j01 a2];by_cases a3:L.2.2.1.2<0
   .rw[j00 a3];rfl
   rw[j01 a3];by_cases a4:L.2.2.1.2>=86400
   .rw[j00 a4];rfl
   rw[j01 a4];by_cases a5:L.2.2.2.1<0
   .rw[j00 a5];rfl
   rw[j01 a5];by_cases a6:L.2.2.2.1>2
   .rw[j00 a6];rfl
   rw[j01 a6];by_cases a7:L.2.2.2.2.1<1
   .rw[j00 a7];rfl
   rw[j01 a7];by_cases a8:L.2.2.2.2.1>400
   .rw[j00 a8];rfl
   rw[j01 a8];by_cases a9:L.2.2.2.2.2.1=[]
   .rw[j00 a9];rfl
   exact absurd ⟨omg_,omg_,omg_,omg_,omg_,omg_,omg_,omg_,a9⟩ hn
 rw[key];by_cases h:Rt L
 .rw[j00 h,if_pos h];rfl
 .rw[j01 h,if_neg h];rfl
end
theorem jAz{z:j0K}{l:TrL}(hz:Z4 z l){L:j0f}(h:Rt L){t N:E}(hN:N<=8589934592):∀n:S,(n:E)<=N->
  ∃K:E,j9J t ((n:E)-1) z.1 z.2.1 z.2.2 L.1 L.2.1 L.2.2.1.1 L.2.2.1.2 L.2.2.2.1 L.2.2.2.2.1 L.2.2.2.2.2.1 L.2.2.2.2.2.2.1 L.2.2.2.2.2.2.2.1 L.2.2.2.2.2.2.2.2=I K/\
   (K = -1\/0<=K/\QO z.2.1 l L t K)/\K<n/\∀j:E,K<j->0<=j->j<n->¬QO z.2.1 l L t j
 |0,_=>by
  rw[jgF];simp(disch:=omega)only[j6L,S0];exact⟨_,rfl,.inl omg_,omg_,λj h1 h2 h3=>omg_⟩
 |n+1,hn=>by
  obtain⟨K,e,k0,k1,k2⟩:=jAz hz h (t:=t) hN n omg_;obtain⟨v,hH,hv⟩:=r10H hz h (k:=(n:E)) omg_ omg_;rw[jgF,show ((n+1:S):E)-1=(n:E) by omega];simp(disch:=omega)only[j6L,show j8r (z.1,z.2.1,z.2.2) (L.1,L.2.1,(L.2.2.1.1,L.2.2.1.2),L.2.2.2.1,L.2.2.2.2.1,L.2.2.2.2.2.1,L.2.2.2.2.2.2.1,L.2.2.2.2.2.2.2.1,L.2.2.2.2.2.2.2.2) (n:E)=_ from hH,S0]
  have down:¬QO z.2.1 l L t (n:E)->(lpK (I (Sum.inl (t,(n:E)-1,z.1,z.2.1,z.2.2,L.1,L.2.1,L.2.2.1.1,L.2.2.1.2,L.2.2.2.1,L.2.2.2.2.1,L.2.2.2.2.2.1,L.2.2.2.2.2.2.1,L.2.2.2.2.2.2.2.1,L.2.2.2.2.2.2.2.2)):R ((E×E×Ê×E×J Rule×Ê×E×E×E×E×E×J E×WL×E×E) ⊕ E)) (λh=>j9J h.1 h.2.1 h.2.2.1 h.2.2.2.1 h.2.2.2.2.1 h.2.2.2.2.2.1 h.2.2.2.2.2.2.1 h.2.2.2.2.2.2.2.1 h.2.2.2.2.2.2.2.2.1 h.2.2.2.2.2.2.2.2.2.1 h.2.2.2.2.2.2.2.2.2.2.1 h.2.2.2.2.2.2.2.2.2.2.2.1 h.2.2.2.2.2.2.2.2.2.2.2.2.1 h.2.2.2.2.2.2.2.2.2.2.2.2.2.1 h.2.2.2.2.2.2.2.2.2.2.2.2.2.2))=I K/\∀j:E,K<j->0<=j->j<((n+1:S):E)->¬QO z.2.1 l L t j:=by
   intro hq;refine⟨by rw[j04];exact e,λj h1 h2 h3=>?_⟩;by_cases hjn:j<n
   .exact k2 j h1 h2 hjn
   .rw[show j=(n:E) by omega];exact hq
  cases hx:hO z.2.1 l L (n:E) with
  |none=>
   simp only[È,j7];obtain⟨d1,d2⟩:=down λ⟨y,hy,_⟩=>by rw[hx]at hy;simp at hy
   exact⟨K,d1,k0,omg_,d2⟩
  |some x=>
   have:=hv x hx;subst this;simp only[É,j6];by_cases hc:v<=t
   .rw[j00 hc,j6,j0e];exact⟨_,rfl,.inr ⟨omg_,v,hx,hc⟩,omg_,λj h1 h2 h3=>omg_⟩
   .rw[j01 hc,j7];obtain⟨d1,d2⟩:=down λ⟨y,hy,hyt⟩=>by rw[hx]at hy;simp at hy;omega
    exact⟨K,d1,k0,omg_,d2⟩
theorem jDX{z:j0K}{l:TrL}(hz:Z4 z l){L:j0f}(h:Rt L){t:E}(h0t:0<=t)(htt:t<=8589934592):∃K:E,jeO z L t=I K/\ShO z.2.1 l L t K:=by
 have hs:=h.step;have hd0:=h.d0;have hd1:=h.d1;have he0:=h.e0;have he1:=h.e1;have hc0:=h.c0;have hc1:=h.c1;simp only[jeO];by_cases h0:L.2.2.2.1=0
 .have hF:=jiz hz (d:=L.2.2.1.1) (c:=L.2.2.1.2) omg_ hc0 hc1;have hs0:L.2.2.1.1*86400+L.2.2.1.2=sLoc L 0:=by unfold sLoc;omega
  rw[j8T h0,j6,show j68 (z.1,z.2.1,z.2.2) (L.2.2.1.1,L.2.2.1.2)=_ from hF,hs0];simp only[j4]
  have nq:(∀v,fO z.2.1 l (sLoc L 0)=I v->t<v)->¬QO z.2.1 l L t 0:=by
   rintro hn ⟨y,hy,hyt⟩
   have:=hn y (jxn h0 hy);omega
  cases hf:fO z.2.1 l (sLoc L 0) with
  |none=>exact⟨-1,rfl,.inl ⟨rfl,nq λv hv=>by rw[hf]at hv;simp at hv⟩⟩
  |some v=>
   have hva:=jve hz.2 hf;simp only[beq_self_eq_true,j6];by_cases hc:v<=t
   .obtain⟨s1,s2,s3⟩:=jtM (o:=z.2.1) (l:=l) h h0 htt hf hc hva.2.1;simp(disch:=omega)only[Z,S0];exact⟨_,rfl,s1⟩
   .rw[j01 hc];exact⟨-1,rfl,.inl ⟨rfl,nq λv' hv=>by rw[hf]at hv;simp at hv;omega⟩⟩
 .obtain⟨j,hj,j1,j2⟩:=jav hz.2 h0t htt;have o0:=hz.2.of0 j hj;have o1:=hz.2.of1 j hj;have eT:=jtJ hz (t:=t) h0t htt hj j1 j2;rw[j3Z h0,j7,show j6u (z.1,z.2.1,z.2.2) t=_ from eT];simp only[j4];have hday:∀k:E,QO z.2.1 l L t k->L.2.2.1.1+k*j4c L<=(t+tof z.2.1 l j)/86400+2:=λk hq=>QO.day hz.2 h h0 hq hj;generalize hld:(t+tof z.2.1 l j)/86400=ld at hday;rw[j07 (x:=ld+2),j07 (x:=ld+2-L.2.2.1.1)]
  have fin:∀st:E,st=j4c L->∃K:E,((j9J t (w64 (Int.tdiv (if (0:E)>ld+2-L.2.2.1.1 then (0:E) else ld+2-L.2.2.1.1) st)) z.1 z.2.1 z.2.2 L.1 L.2.1 L.2.2.1.1 L.2.2.1.2 L.2.2.2.1 L.2.2.2.2.1 L.2.2.2.2.2.1 L.2.2.2.2.2.2.1 L.2.2.2.2.2.2.2.1 L.2.2.2.2.2.2.2.2).bind λq0=>I q0)=I K/\ShO z.2.1 l L t K:=by
   rintro st rfl
   obtain⟨m,hm,hm0,hm1⟩:∃m:E,(if (0:E)>ld+2-L.2.2.1.1 then (0:E) else ld+2-L.2.2.1.1)=m/\0<=m/\m<=1000000:=⟨_,rfl,by split<;>omega,by split<;>omega⟩;have hml:ld+2-L.2.2.1.1<=m:=by rw[<-hm];split<;>omega
   rw[hm,Z hm0];have q0:0<=m/j4c L:=Int.ediv_nonneg hm0 omg_;have q1:m/j4c L<=m:=Int.ediv_le_self _ hm0;have q2:m<j4c L*(m/j4c L)+j4c L:=Int.lt_mul_ediv_self_add omg_;rw[j07];generalize m/j4c L=km at *;obtain⟨K,e,k0,k1,k2⟩:=jAz hz h (t:=t) (Æ _) (km+1).toNat omg_;rw[show (((km+1).toNat:S):E)-1=km by omega]at e;rw[e];refine⟨K,rfl,?_⟩
   have top:¬QO z.2.1 l L t (K+1):=by
    by_cases hK:K+1<=km
    .exact k2 (K+1) omg_ (by rcases k0 with k0|k0<;>omega) omg_
    .intro hq;have hd:=hday _ hq;have hkk:K=km:=omg_;rw[hkk,Int.add_mul,Int.one_mul]at hd;have:j4c L*km=km*j4c L:=Î _ _;omega
   rcases k0 with k0|k0
   .subst k0;exact .inl ⟨rfl,top⟩
   .exact .inr ⟨k0.1,k0.2,top⟩
  by_cases h2:L.2.2.2.1=2
  .have hsd:j4c L=7*L.2.2.2.2.1:=by unfold j4c;rw[if_pos h2]
   simp(disch:=omega)only[S0];exact fin _ (by rw[hsd,Î])
  .have hsd:j4c L=L.2.2.2.2.1:=by unfold j4c;rw[if_neg h2]
   simp(disch:=omega)only[S0];exact fin _ hsd.symm
abbrev SgT:=E×E×E
abbrev SgL:=J SgT
def Ch(f:E->E)(b:E):E->SgL->Prop
 |a,[]=>a=b
 |a,s::r=>s.1=a/\a<=s.2.1/\(∀t,a<=t->t<s.2.1->f t=s.2.2)/\Ch f b s.2.1 r
def Cov(f:E->E)(b:E):R E->E->SgL->Prop
 |_,a,[]=>a=b
 |q,a,s::r=>s.1=a/\a<s.2.1/\q≠I s.2.2/\(∀t,a<=t->t<s.2.1->f t=s.2.2)/\Cov f b (I s.2.2) s.2.1 r
theorem Ch.le{f:E->E}{b:E}:∀{l:SgL}{a:E},Ch f b a l->a<=b
 |[],_,h=>Int.le_of_eq h
 |_::_,_,h=>Int.le_trans h.2.1 h.2.2.2.le
theorem Ch.app{f:E->E}{b c:E}:∀{l r:SgL}{a:E},Ch f b a l->Ch f c b r->Ch f c a (l++r)
 |[],_,_,h,h'=>by have h:_=_:=h;subst h;exact h'
 |_::_,_,_,h,h'=>⟨h.1,h.2.1,h.2.2.1,h.2.2.2.app h'⟩
theorem Ch.snoc{f:E->E}{b c p:E}{l:SgL}{a:E}(h:Ch f b a l)(hbc:b<=c)(hp:∀t,b<=t->t<c->f t=p):Ch f c a (l++[(b,c,p)]):=
 h.app ⟨rfl,hbc,hp,rfl⟩
theorem Cov.ch{f:E->E}{b:E}:∀{l:SgL}{q:R E}{a:E},Cov f b q a l->Ch f b a l
 |[],_,_,h=>h
 |_::_,_,_,h=>⟨h.1,Int.le_of_lt h.2.1,h.2.2.2.1,h.2.2.2.2.ch⟩
theorem Cov.uniq{f:E->E}{b:E}:∀{l l':SgL}{q:R E}{a:E},Cov f b q a l->Cov f b q a l'->l=l'
 |[],[],_,_,_,_=>rfl
 |[],_::_,_,_,h,h'=>by have:=h'.2.1;have:=h'.2.2.2.2.ch.le;have h:_=_:=h;omega
 |_::_,[],_,_,h,h'=>by have:=h.2.1;have:=h.2.2.2.2.ch.le;have h':_=_:=h';omega
 |s::r,s'::r',q,a,h,h'=>by
  obtain⟨h1,h2,h3,h4,h5⟩:=h;obtain⟨g1,g2,g3,g4,g5⟩:=h';have hp:s.2.2=s'.2.2:=by grind
  have ht:s.2.1=s'.2.1:=by
   apply Classical.byContradiction;intro hne;by_cases hlt:s.2.1<s'.2.1
   .match r,h5 with
    |[],h5=>have:=g5.ch.le;have h5:_=_:=h5;omega
    |u::v,h5=>have e1:=h5.2.2.2.1 s.2.1 omg_ h5.2.1;have e2:=g4 s.2.1 omg_ hlt;exact h5.2.2.1 (by rw[<-e1,e2,hp])
   .match r',g5 with
    |[],g5=>have:=h5.ch.le;have g5:_=_:=g5;omega
    |u::v,g5=>have e1:=g5.2.2.2.1 s'.2.1 omg_ g5.2.1;have e2:=h4 s'.2.1 omg_ omg_;exact g5.2.2.1 (by rw[<-e1,e2,hp])
  have hs:s=s':=Prod.ext (by rw[h1,g1]) (Prod.ext ht hp);subst hs;rw[h5.uniq g5]
def lstP:R E->SgL->R E
 |q,[]=>q
 |_,s::r=>lstP (I s.2.2) r
theorem jre:∀(l:SgL)(q:R E)(s:SgT),lstP q (l++[s])=I s.2.2
 |[],_,_=>rfl
 |_::r,_,s=>jre r _ s
theorem Cov.snoc{f:E->E}{b c p:E}:∀{l:SgL}{q:R E}{a:E},Cov f b q a l->b<c->lstP q l≠I p->(∀t,b<=t->t<c->f t=p)->Cov f c q a (l++[(b,c,p)])
 |[],_,_,h,hbc,hl,hp=>by have h:_=_:=h;subst h;exact⟨rfl,hbc,hl,hp,rfl⟩
 |_::_,_,_,h,hbc,hl,hp=>⟨h.1,h.2.1,h.2.2.1,h.2.2.2.1,h.2.2.2.2.snoc hbc hl hp⟩
theorem Cov.ext{f:E->E}{b c x p:E}:∀{l:SgL}{q:R E}{a:E},Cov f b q a (l++[(x,b,p)])->b<=c->(∀t,b<=t->t<c->f t=p)->Cov f c q a (l++[(x,c,p)])
 |[],_,_,h,hbc,hp=>⟨h.1,by have:=h.2.1;grind,h.2.2.1,λt h1 h2=>by
  by_cases ht:t<b
  .exact h.2.2.2.1 t h1 ht
  simp_all,rfl⟩
 |_::_,_,_,h,hbc,hp=>⟨h.1,h.2.1,h.2.2.1,h.2.2.2.1,h.2.2.2.2.ext hbc hp⟩
def mgA(out:SgL)(s:SgT):SgL:=
 if s.2.1<=s.1 then out else match out.getLast? with
  |some x=>if x.2.1=s.1/\x.2.2=s.2.2 then out.dropLast++[(x.1,s.2.1,x.2.2)] else out++[s]
  |none=>out++[s]
theorem jAA{f:E->E}{a b:E}{out:SgL}(h:Cov f b Ð a out){s:SgT}(h1:s.1=b)(h2:b<=s.2.1)(h3:∀t,b<=t->t<s.2.1->f t=s.2.2):Cov f s.2.1 Ð a (mgA out s):=by
 obtain⟨x,y,p⟩:=s;dsimp only at h1 h2 h3 ⊢;subst h1;unfold mgA;dsimp only;by_cases hxy:y<=x
 .grind
 .rw[if_neg hxy];rcases List.eq_nil_or_concat out with rfl|⟨l,u,rfl⟩
  .exact h.snoc omg_ (by simp[lstP]) h3
  .rw[List.concat_eq_append]at h ⊢;rw[List.getLast?_append];simp only[List.getLast?_singleton,Option.some_or];by_cases hu:u.2.1=x/\u.2.2=p
   .rw[if_pos hu,List.dropLast_concat];obtain⟨u1,u2,u3⟩:=u;dsimp only at hu ⊢;obtain⟨rfl,rfl⟩:=hu;exact h.ext h2 h3
   .rw[if_neg hu];refine h.snoc omg_ ?_ h3;rw[jre];intro e;have hp:u.2.2=p:=by simpa using e
    refine hu ⟨?_,hp⟩
    have:∀(l:SgL)(q:R E)(a:E),Cov f x q a (l++[u])->u.2.1=x:=by
     intro l;induction l with
     |nil=>intro q a h;exact h.2.2.2.2
     |cons v r ih=>intro q a h;exact ih _ _ h.2.2.2.2
    exact this l _ _ h
theorem jAB{f:E->E}{b:E}:∀(l:SgL){a c:E}{out:SgL},Cov f c Ð a out->Ch f b c l->Cov f b Ð a (l.foldl mgA out)
 |[],_,_,_,h,h'=>by have h':_=_:=h';subst h';exact h
 |s::r,_,_,_,h,h'=>jAB r (jAA h h'.1 h'.2.1 h'.2.2.1) h'.2.2.2
theorem Ch.cov{f:E->E}{a b:E}{l:SgL}(h:Ch f b a l):Cov f b Ð a (l.foldl mgA []):=jAB l (show Cov f a Ð a [] from rfl) h
theorem jDY{f:E->E}:∀{l:SgL}{a b:E},a<=b->l.Pairwise (λs u=>s.2.1<=u.1)->(∀s∈l,s.1<s.2.1/\∀t,s.1<=t->t<s.2.1->f t=s.2.2)->
  (∀x,(a<=x/\x<b)↔∃s∈l,s.1<=x/\x<s.2.1)->Ch f b a l
 |[],a,b,hab,_,_,hc=>by
  apply Classical.byContradiction;intro hne;have hne:a≠b:=hne;obtain⟨s,hs,_⟩:=(hc a).1 ⟨Æ _,omg_⟩;simp at hs
 |s::r,a,b,hab,hp,hf,hc=>by
  obtain⟨s1,s2⟩:=hf s smp_;obtain⟨p1,p2⟩:=List.pairwise_cons.1 hp;have h1:=(hc s.1).2 ⟨s,smp_,Æ _,s1⟩;have h2:=(hc (s.2.1-1)).2 ⟨s,smp_,omg_,omg_⟩
  have he:s.1=a:=by
   obtain⟨u,hu,u1,u2⟩:=(hc a).1 ⟨Æ _,omg_⟩;rcases List.mem_cons.1 hu with rfl|hu
   .omega
   .have:=p1 u hu;omega
  refine⟨he,omg_,λt t1 t2=>s2 t omg_ t2,jDY omg_ p2 (λu hu=>hf u (by simp[hu])) (λx=>⟨λhx=>?_,λ⟨u,hu,u1,u2⟩=>?_⟩)⟩
  .obtain⟨u,hu,u1,u2⟩:=(hc x).1 ⟨omg_,hx.2⟩;rcases List.mem_cons.1 hu with rfl|hu
   .omega
   .exact⟨u,hu,u1,u2⟩
  .have:=p1 u hu;have:=(hc x).2 ⟨u,by simp[hu],u1,u2⟩;omega
theorem Ch.mem{f:E->E}{b:E}:∀{l:SgL}{a:E},Ch f b a l->∀s∈l,a<=s.1/\s.1<=s.2.1/\s.2.1<=b/\∀t,s.1<=t->t<s.2.1->f t=s.2.2
 |[],_,_,s,hs=>by simp at hs
 |u::r,a,h,s,hs=>by
  obtain⟨h1,h2,h3,h4⟩:=h;rcases List.mem_cons.1 hs with rfl|hs
  .exact⟨omg_,omg_,h4.le,λt t1 t2=>h3 t omg_ t2⟩
  .have:=h4.mem s hs;grind
theorem Ch.has{f:E->E}{b:E}:∀{l:SgL}{a:E},Ch f b a l->∀x,a<=x->x<b->∃s∈l,s.1<=x/\x<s.2.1
 |[],_,h,x,h1,h2=>by have h:_=_:=h;omega
 |u::r,a,h,x,h1,h2=>by
  obtain⟨g1,g2,g3,g4⟩:=h;by_cases hx:x<u.2.1
  .simp_all
  .obtain⟨s,hs,e⟩:=g4.has x omg_ h2;grind
theorem Ch.congr{f g:E->E}{b:E}:∀{l:SgL}{a:E},Ch f b a l->(∀t,a<=t->t<b->f t=g t)->Ch g b a l
 |[],_,h,_=>h
 |u::r,a,h,hg=>by
  obtain⟨g1,g2,g3,g4⟩:=h;have:=g4.le;exact⟨g1,g2,λt t1 t2=>by grind,g4.congr (λt t1 t2=>hg t omg_ t2)⟩
theorem Cov.pos{f:E->E}{b:E}:∀{l:SgL}{q:R E}{a:E},Cov f b q a l->∀s∈l,s.1<s.2.1
 |[],_,_,_,s,hs=>by simp at hs
 |u::r,_,a,h,s,hs=>by
  rcases List.mem_cons.1 hs with rfl|hs
  .have:=h.1;have:=h.2.1;omega
  .exact h.2.2.2.2.pos s hs
theorem Cov.ne{f:E->E}{b:E}{l:SgL}{q:R E}{a:E}(h:Cov f b q a l)(hab:a<b):l≠[]:=by
 rintro rfl
 have h:_=_:=h;omega
def dsp(p:E×E×E)(d:E):E×Int:=
 (if d*86400-p.2.2>p.1 then d*86400-p.2.2 else p.1,if d*86400-p.2.2+86400<p.2.1 then d*86400-p.2.2+86400 else p.2.1)
theorem jDZ{ds:J E}(hd:∀d∈ds,0<=d/\d<=100000)(hl:ds.length<=64){p:E×E×E}(hp : -64800<=p.2.2/\p.2.2<=64800){m q z:E}{nm:Ê}{ps:J (E×E×E)}:∀(n i:S)(acc:SL),i+n=ds.length->acc.length+n<=1000000->
  j8H m q ds (ds.length:E) (i:E) nm z ds p.1 p.2.1 p.2.2 acc ps=I (m,q,nm,z,ds,acc++(ds.drop i).map (dsp p),ps)
 |0,i,acc,hi,_=>by
  grind[jc8,j3R,S0]
 |n+1,i,acc,hi,hacc=>by
  have hi':i<ds.length:=omg_;have hgd:ds.getD i (0:E)=ds[i]:=by simp[hi']
  have hdi:=hd _ (X hi');rw[jc8];simp(disch:=omega)only[j3R,H hi',S0];have:=jDZ hd hl hp (m:=m) (q:=q) (z:=z) (nm:=nm) (ps:=ps) n (i+1) (acc++[dsp p ds[i]]) omg_ sqo_;rw[List.append_assoc]at this;exact this
theorem jE0{ds:J E}(hd:∀d∈ds,0<=d/\d<=100000)(hl:ds.length<=64){z:E}{nm:Ê}{ps:J (E×E×E)}(hps:∀p∈ps, -64800<=p.2.2/\p.2.2<=64800)(hpl:ps.length<=100):∀(n i:S)(acc:SL),i+n=ps.length->acc.length<=64*i->
  j8I (ps.length:E) (i:E) nm z ds acc ps=I (acc++(ps.drop i).flatMap λp=>ds.map (dsp p))
 |0,i,acc,hi,_=>by
  grind[jc9,j3S,S0]
 |n+1,i,acc,hi,hacc=>by
  have hi':i<ps.length:=omg_;have hgd:ps.getD i (0,0,0)=ps[i]:=by simp[À,hi']
  have h2:=jDZ hd hl (hps _ (X hi')) (m:=(ps.length:E)) (q:=(i:E)) (z:=z) (nm:=nm) (ps:=ps) ds.length 0 acc omg_ omg_;have ih:=jE0 hd hl (z:=z) (nm:=nm) hps hpl n (i+1) (acc++ds.map (dsp ps[i])) omg_ sqo_;rw[jc9];simp(disch:=omega)only[j3S,S0];grind[j24,j04,H]
theorem jAC{α β:Type}(f:α->J β)(k:S)(hf:∀a,(f a).length=k):∀l:J α,(l.flatMap f).length=l.length*k
 |[]=>smp_
 |a::l=>by rw[List.flatMap_cons,O,jAC f k hf l,hf,Â,Nat.add_mul,Nat.one_mul];omega
theorem jAD{p:E×E×E}{d x:E}:((dsp p d).1<=x/\x<(dsp p d).2)↔(p.1<=x/\x<p.2.1)/\(x+p.2.2)/86400=d:=by
 grind[dsp]
section
variable{zs:J j0K}{ps:J j0k}{cs:J CalT}(hs:GOk zs ps cs)
include hs
theorem jCj{x:CalT}(hx:CCk zs.length x){ss:J j0R}{a b:E}(ha:0<=a)(hab:a<=b)(hb:b<=8589934592){z:j0K}(hz:zs.getD x.2.1.toNat (F,0,[])=z) :
  ∃out,j9a ((zs,ps,cs,ss),zs.map tb) x a b=I out/\StS (a-1) out/\out.length<=x.2.2.length*((tb z).2.length+1)/\
   ∀t d,a<=t->t<b->j1V (tb z) t=I d->(inS t out↔d.1∈x.2.2):=by
 have hlen:(zs.map tb).length=zs.length:=Ä ..;have hg:=jtN (zs:=zs) hx.z0 hx.z1;have hzk:=zget hs.ok hx.z0 hx.z1;rw[hz]at hg hzk;have ht:=hzk.ztab.2;have hll:(tb z).2.length<=20:=jCg hzk;obtain⟨pc,e,pl,pm,pcov⟩:=jAx ht ha hab hb;have hxl:=hx.len;have hd:∀d∈x.2.2,0<=d/\d<=100000:=λd hd=>⟨jDL (hx.day d hd),jDK (hx.day d hd)⟩
 have hpo:∀p∈pc, -64800<=p.2.2/\p.2.2<=64800:=λp hp=>by
  obtain⟨_,_,_,i,i1,i2,_⟩:=pm p hp;have:=ht.of0 i i1;have:=ht.of1 i i1;omega
 have l0:=jE0 hd hxl (z:=x.2.1) (nm:=x.1) hpo omg_ pc.length 0 [] omg_ smp_;rw[Ã,List.drop_zero]at l0;have hEl:(pc.flatMap λp=>x.2.2.map (dsp p)).length=pc.length*x.2.2.length:=jAC _ _ (λp=>Ä ..) pc;have hm:pc.length*x.2.2.length<=((tb z).2.length+1)*x.2.2.length:=Nat.mul_le_mul_right _ pl;have hm2:((tb z).2.length+1)*x.2.2.length<=21*64:=Ì omg_ hxl
 have hmem:∀s∈(pc.flatMap λp=>x.2.2.map (dsp p)),∃p∈pc,∃d∈x.2.2,s=dsp p d:=λs h=>by
  grind
 obtain⟨out,e2,s1,s2,s3,s4⟩:=jhA (l:=pc.flatMap λp=>x.2.2.map (dsp p)) omg_ (λs h=>by
  obtain⟨p,hp,d,hdm,rfl⟩:=hmem s h;obtain⟨h1,h2,h3,_⟩:=pm p hp;have:=hpo p hp;grind[dsp]) (lo:=a) (hi:=b) (λs h hlt=>by
  obtain⟨p,hp,d,hdm,rfl⟩:=hmem s h;grind[dsp])
 refine⟨out,?_,s1,by rw[Nat.mul_comm];omega,λt d h1 h2 hdd=>?_⟩
 .grind[j9a,j0B,CCk.z0,CCk.z1,tb]
 .obtain⟨k,hk,k1,k2⟩:=jav ht (t:=t) omg_ omg_;have:=jhx ht hk k1 k2;have hdv:=hdd.symm.trans this;simp only[j5]at hdv;subst hdv;dsimp only;rw[s2 t];constructor
  .rintro⟨s,hs',h3,h4⟩
   obtain⟨p,hp,d,hdm,rfl⟩:=hmem s hs';obtain⟨c1,c2⟩:=jAD.1 ⟨h3,h4⟩;obtain⟨_,_,_,i,i1,i2,i3,i4⟩:=pm p hp;grind[jhz]
  .intro hdm;obtain⟨p,hp,c1,c2⟩:=pcov t h1 h2;obtain⟨_,_,_,i,i1,i2,i3,i4⟩:=pm p hp;have:i=k:=jhz ht i1 hk (t:=t) omg_ omg_ k1 k2;subst this;obtain⟨g1,g2⟩:=jAD.2 ⟨⟨c1,c2⟩,show (t+p.2.2)/86400=(t+tof z.2.1 (tb z).2 i)/86400 by rw[i2]⟩;exact⟨_,List.mem_flatMap.2 ⟨p,hp,List.mem_map.2 ⟨_,hdm,rfl⟩⟩,g1,g2⟩
omit hs in
def zAt(zs:J j0K)(i:E):j0K:=zs.getD i.toNat (F,0,[])
omit hs in
def cAt(cs:J CalT)(i:E):CalT:=cs.getD i.toNat (F,0,[])
omit hs in
def locD(z:j0K)(t:E):E×Int:=(j1V (tb z) t).getD (0,0)
omit hs in
def secD(d:E×E):Int:=(j5h d).getD 0
omit hs in
def shK(z:j0K)(L:j0f)(t:E):Int:=(j62 (tb z) L t).getD (-1)
omit hs in
def calB(zs:J j0K)(cs:J CalT)(L:j0f)(t:E):Bool:=
 cond (L.2.2.2.2.2.2.2.2==0) Y (G ((locD (zAt zs (cAt cs L.2.2.2.2.2.2.2.1).2.1) t).1∈(cAt cs L.2.2.2.2.2.2.2.1).2.2)==(L.2.2.2.2.2.2.2.2==(2:E)))
omit hs in
def onX(zs:J j0K)(cs:J CalT)(L:j0f)(t:E):Bool:=
 cond (G (0<=shK (zAt zs L.2.1) L t)) (cond (okW L.2.2.2.2.2.2.1 (secD (locD (zAt zs L.2.1) t))) (calB zs cs L t) false) false
omit hs in
def perX(zs:J j0K)(cs:J CalT)(L:j0f)(t:E):Int:=cond (onX zs cs L t) (whoL L (shK (zAt zs L.2.1) L t)) (-1)
omit hs in
theorem jpi{z:j0K}(hz:ZOk z){t:E}(h0:0<=t)(h1:t<=8589934592):j1V (tb z) t=I (locD z t)/\j5h (locD z t)=I (secD (locD z t)):=by
 grind[jDO,locD,secD]
omit hs in
theorem jg6{z:j0K}(hz:ZOk z){L:j0f}(hR:Rt L){t:E}(h0:0<=t)(h1:t<=8589934592):j62 (tb z) L t=I (shK z L t)/\ShO z.2.1 (tb z).2 L t (shK z L t):=by
 obtain⟨K,e,hK⟩:=jFj hz.ztab.2 hR h0 h1;grind[shK,tb]
omit hs in
theorem jzE{L:j0f}{t:E}(h:onX zs cs L t=Y):0<=shK (zAt zs L.2.1) L t:=by
 grind[onX]
omit hs in
theorem jCk{L:j0f}(hL:LC1 zs.length ps.length cs.length L){t:E}(_h0:0<=t)(_h1:t<=8589934592):(onX zs cs L t=Y↔0<=perX zs cs L t) /\ -1<=perX zs cs L t/\perX zs cs L t<ps.length:=by
 have hon:onX zs cs L t=Y->0<=shK (zAt zs L.2.1) L t:=jzE;unfold perX;cases hc:onX zs cs L t with
 |false=>simp;omega
 |true=>
  have hk:=hon hc;have hm0:=hL.m0;have q1:0<=Ë (shK (zAt zs L.2.1) L t) (L.2.2.2.2.2.1.length:E):=Int.tmod_nonneg _ hk;have q2:Ë (shK (zAt zs L.2.1) L t) (L.2.2.2.2.2.1.length:E)<(L.2.2.2.2.2.1.length:E):=Int.tmod_lt_of_pos _ omg_;have hi:(Ë (shK (zAt zs L.2.1) L t) (L.2.2.2.2.2.1.length:E)).toNat<L.2.2.2.2.2.1.length:=omg_;have e:whoL L (shK (zAt zs L.2.1) L t)=L.2.2.2.2.2.1[(Ë (shK (zAt zs L.2.1) L t) (L.2.2.2.2.2.1.length:E)).toNat]:=by grind[whoL]
  rw[j6,e];have:=hL.mem _ (X hi);grind
theorem jxA{L:j0f}(hL:LC1 zs.length ps.length cs.length L){ss:J j0R}{a b:E}(ha:0<=a)(hab:a<=b)(hb:b<=8589934592){M:S}(hM:M<=60)(hlen:b-a<=604800*M) :
  ∃out,j8e ((zs,ps,cs,ss),zs.map tb) L a b=I out/\StS (a-1) out/\(∀t,inS t out↔a<=t/\t<b/\onX zs cs L t=Y)/\
   out.length<=L.2.2.2.2.2.2.1.length*(M+1)*5+1+(if L.2.2.2.2.2.2.2.2=0 then 0 else (cAt cs L.2.2.2.2.2.2.2.1).2.2.length*5):=by
 have hRt:=hL.rt2;have hzl:(zs.map tb).length=zs.length:=Ä ..;have hz:=zget hs.ok hL.z0 hL.z1;have hg:=jtN (zs:=zs) hL.z0 hL.z1;have hwl:=hL.wl;have hll:(tb (zAt zs L.2.1)).2.length<=4:=je8 hz;obtain⟨v,ev,hv⟩:=recH hz.ztab.2 hRt (k:=0) omg_ omg_
 have hsh:∀t,a<=t->t<b->(0<=shK (zAt zs L.2.1) L t↔QO (zAt zs L.2.1).2.1 (tb (zAt zs L.2.1)).2 L t 0):=λt h1 h2=>by
  have hK:=(jg6 hz hRt (t:=t) omg_ omg_).2;constructor
  .intro hk;rcases hK with⟨hK,_⟩|⟨_,hq,_⟩
   .grind[zAt]
   .exact QO.le hz.ztab.2 hRt hk hq
  .intro hq;rcases hK with⟨_,hn⟩|⟨hk,_,_⟩
   .exact absurd hq hn
   .exact hk
 have hoff:∀t,a<=t->t<b->¬QO (zAt zs L.2.1).2.1 (tb (zAt zs L.2.1)).2 L t 0->onX zs cs L t=false:=λt h1 h2 hq=>by
  grind[onX]
 simp only[j8e,ja2];rw[j0B hL.z0 (by rw[hzl];exact hL.z1)];simp only[j6,hg];rw[show j16 ((tb (zs.getD L.2.1.toNat (F,0,[]))).1,(tb (zs.getD L.2.1.toNat (F,0,[]))).2) (L.1,L.2.1,(L.2.2.1.1,L.2.2.1.2),L.2.2.2.1,L.2.2.2.2.1,L.2.2.2.2.2.1,L.2.2.2.2.2.2.1,L.2.2.2.2.2.2.2.1,L.2.2.2.2.2.2.2.2) 0=_ from ev];simp only[j4]
 have hemp:∀(P:∀t,a<=t->t<b->onX zs cs L t=false),∃out,I ([]:SL)=I out/\StS (a-1) out/\(∀t,inS t out↔a<=t/\t<b/\onX zs cs L t=Y)/\
   out.length<=L.2.2.2.2.2.2.1.length*(M+1)*5+1+(if L.2.2.2.2.2.2.2.2=0 then 0 else (cAt cs L.2.2.2.2.2.2.2.1).2.2.length*5):=λP=>
  ⟨[],rfl,trivial,λt=>⟨λh=>absurd h j2V,λ⟨h1,h2,h3⟩=>by simp_all⟩,Nat.zero_le _⟩
 cases hh:hO (zs.getD L.2.1.toNat (F,0,[])).2.1 (tb (zs.getD L.2.1.toNat (F,0,[]))).2 L 0 with
 |none=>
  simp only[È,Bool.not_false,j6]
  exact hemp λt h1 h2=>hoff t h1 h2 (by
   rintro⟨u,hu,_⟩
   have hu':=hh.symm.trans hu;simp at hu')
 |some u=>
  have:=hv u hh;subst this
  have hq:∀t,QO (zAt zs L.2.1).2.1 (tb (zAt zs L.2.1)).2 L t 0↔v<=t:=λt=>⟨λ⟨u,hu,hut⟩=>by
   have hu':=hh.symm.trans hu
   simp_all,λh=>⟨v,hh,h⟩⟩
  simp only[É,Bool.not_true,j7];by_cases hvb:v>=b
  .grind
  .rw[j01 hvb];simp only[j7];by_cases hab2:a>=b
   .rw[j00 hab2];grind
   .rw[j01 hab2];simp only[j7];obtain⟨c,hc,hca,hcv,hcb,hcc⟩:∃c:E,c=(if v>a then v else a)/\a<=c/\v<=c/\c<b/\∀t,a<=t->t<c->t<v:=⟨_,rfl,by split<;>omega,by split<;>omega,by split<;>omega,λt h1 h2=>by split at h2<;>omega⟩;rw[<-hc]
    obtain⟨A,hA1,hA2,hA3,hA4,hA5,hA6⟩:∃A:SL,((L.2.2.2.2.2.2.1.length:E)>0->j4f (tb (zAt zs L.2.1)) L.2.2.2.2.2.2.1 c b=I A)/\(¬(L.2.2.2.2.2.2.1.length:E)>0->A=[(c,b)])/\StS (c-1) A/\
      (∀t,inS t A->t<b)/\(∀t,c<=t->t<b->(inS t A↔okW L.2.2.2.2.2.2.1 (secD (locD (zAt zs L.2.1) t))=Y))/\A.length<=L.2.2.2.2.2.2.1.length*(M+1)*5+1:=by
     by_cases hw:(L.2.2.2.2.2.2.1.length:E)>0
     .obtain⟨A,e,s1,s2,s3,s4⟩:=jo5 hz.ztab.2 (Ï hll omg_) hL.w hwl hM (a:=c) (b:=b) omg_ omg_ hb omg_;refine⟨A,λ_=>e,λh=>absurd hw h,s1,λt ⟨s,hs',h1,h2⟩=>by grind,λt h1 h2=>?_,?_⟩
      .obtain⟨k,hk,k1,k2⟩:=jav hz.ztab.2 (t:=t) omg_ omg_;rw[s4 k hk t h1 h2 k1 k2];have hloc:locD (zAt zs L.2.1) t=((t+tof (zAt zs L.2.1).2.1 (tb (zAt zs L.2.1)).2 k)/86400,(t+tof (zAt zs L.2.1).2.1 (tb (zAt zs L.2.1)).2 k)%86400):=by unfold locD;rw[show j1V (tb (zAt zs L.2.1)) t=_ from jhx hz.ztab.2 hk k1 k2];rfl
       have o0:=hz.ztab.2.of0 k hk;have o1:=hz.ztab.2.of1 k hk;have hsec:secD (locD (zAt zs L.2.1) t)=(t+tof (zAt zs L.2.1).2.1 (tb (zAt zs L.2.1)).2 k+259200)%604800:=by rw[hloc];simp only[secD,j5h];have o0' : -64800<=tof (zAt zs L.2.1).2.1 (tb (zAt zs L.2.1)).2 k:=o0;have o1':tof (zAt zs L.2.1).2.1 (tb (zAt zs L.2.1)).2 k<=64800:=o1;rw[jhy _ omg_];simp only[j4,Option.getD_some];generalize tof (zAt zs L.2.1).2.1 (tb (zAt zs L.2.1)).2 k=o at *;simp(disch:=omega)only[S0];omega
       rw[hsec];unfold okW;rw[j00 hw];rfl
      .have:L.2.2.2.2.2.2.1.length*(M+1)*((tb (zAt zs L.2.1)).2.length+1)<=L.2.2.2.2.2.2.1.length*(M+1)*5:=Ç _ omg_;grind[zAt]
     .refine⟨[(c,b)],λh=>absurd h hw,λ_=>rfl,⟨by dsimp only;omega,hcb,trivial⟩,λt h=>?_,λt h1 h2=>?_,smp_⟩;all_goals grind[j0i,j2V,okW]
    have hA7:A.length<=30000:=by have:L.2.2.2.2.2.2.1.length*(M+1)<=14*61:=Ì hwl omg_;omega
    have hfin:∀out:SL,StS (c-1) out->(∀t,inS t out->t<b)->(∀t,c<=t->t<b->(inS t out↔inS t A/\calB zs cs L t=Y))->StS (a-1) out/\∀t,inS t out↔a<=t/\t<b/\onX zs cs L t=true:=λout h1 h2 h3=>by
     refine⟨h1.weak omg_,λt=>⟨λhx=>?_,λ⟨g1,g2,g3⟩=>?_⟩⟩
     .have l1:=StS.low h1 hx;grind[onX]
     .have hk:=jzE g3;have hvt:=(hq t).1 ((hsh t g1 g2).1 hk);have hct:c<=t:=by omega
      refine(h3 t hct g2).2 ⟨(hA5 t hct g2).2 ?_,?_⟩
      .grind[onX]
      .unfold onX at g3;grind
    by_cases hm:L.2.2.2.2.2.2.2.2=0
    .have hout:=hfin A hA3 hA4 (λt _ _=>by grind[calB]);rw[j3Z (show¬L.2.2.2.2.2.2.2.2=1 by omega),j3Z (show¬L.2.2.2.2.2.2.2.2=2 by omega),if_pos hm];simp only[j7];by_cases hw:(L.2.2.2.2.2.2.1.length:E)>0
     .simp(disch:=omega)only[show j4f ((tb (zs.getD L.2.1.toNat (F,0,[]))).1,(tb (zs.getD L.2.1.toNat (F,0,[]))).2) L.2.2.2.2.2.2.1 c b=_ from hA1 hw,S0];exact⟨A,rfl,hout.1,hout.2,omg_⟩
     .simp(disch:=omega)only[<-hA2 hw,S0];exact⟨A,rfl,hout.1,hout.2,omg_⟩
    .have hcal:=hL.cal hm;have hx:=cget hs hcal.1 hcal.2;have hxz:=zget hs.ok hx.z0 hx.z1;have hll2:(tb (zAt zs (cAt cs L.2.2.2.2.2.2.2.1).2.1)).2.length<=4:=je8 hxz;obtain⟨D,e2,d1,d2,d3⟩:=jCj hs hx (ss:=ss) (a:=c) (b:=b) omg_ omg_ hb rfl
     have hDl:D.length<=(cAt cs L.2.2.2.2.2.2.2.1).2.2.length*5:=Ï d2 (Ç _ (by
      grind[zAt,cAt]))
     have hDl2:D.length<=2000:=by grind[CCk.len,cAt]
     have hdx:∀t,c<=t->t<b->(inS t D↔(locD (zAt zs (cAt cs L.2.2.2.2.2.2.2.1).2.1) t).1∈(cAt cs L.2.2.2.2.2.2.2.1).2.2):=λt h1 h2=>d3 t _ h1 h2 (jpi hxz omg_ omg_).1;rw[if_neg hm,j0B hcal.1 hcal.2];have hmode:L.2.2.2.2.2.2.2.2=1\/L.2.2.2.2.2.2.2.2=2:=by have:=hL.mode0;have:=hL.mode1;omega
     rcases hmode with hm1|hm2
     .obtain⟨out,e3,w1,w2,w3⟩:=jky omg_ hA3 d1 omg_
      have hout:=hfin out w1 (λt h=>hA4 t ((w2 t).1 h).1) (λt h1 h2=>by
       rw[w2 t,hdx t h1 h2];unfold calB;simp(disch:=omega)only[S0];simp)
      rw[j8T hm1];simp only[j6];by_cases hw:(L.2.2.2.2.2.2.1.length:E)>0
      .rw[oLn_ L.2.2.2.2.2.2.1,j00 hw,j6,show j4f ((tb (zs.getD L.2.1.toNat (F,0,[]))).1,(tb (zs.getD L.2.1.toNat (F,0,[]))).2) L.2.2.2.2.2.2.1 c b=_ from hA1 hw];simp only[j4];refine⟨out,?_,hout.1,hout.2,omg_⟩;grind
      .rw[oLn_ L.2.2.2.2.2.2.1,j01 hw,j7,<-hA2 hw];refine⟨out,?_,hout.1,hout.2,omg_⟩;grind
     .obtain⟨out,e3,w1,w2,w3⟩:=jrc hA3 d1 omg_ omg_
      have hout:=hfin out w1 (λt h=>hA4 t ((w2 t).1 h).1) (λt h1 h2=>by
       rw[w2 t,hdx t h1 h2];unfold calB;rw[j3Z hm,j8T hm2,j7];simp)
      rw[j3Z (show¬L.2.2.2.2.2.2.2.2=1 by omega),j8T hm2];simp only[j6,j7];by_cases hw:(L.2.2.2.2.2.2.1.length:E)>0
      .rw[oLn_ L.2.2.2.2.2.2.1,j00 hw,j6,show j4f ((tb (zs.getD L.2.1.toNat (F,0,[]))).1,(tb (zs.getD L.2.1.toNat (F,0,[]))).2) L.2.2.2.2.2.2.1 c b=_ from hA1 hw];simp only[j4];refine⟨out,?_,hout.1,hout.2,omg_⟩;grind
      .rw[oLn_ L.2.2.2.2.2.2.1,j01 hw,j7,<-hA2 hw];refine⟨out,?_,hout.1,hout.2,omg_⟩;grind
end
end Go.Proofs.Pw
