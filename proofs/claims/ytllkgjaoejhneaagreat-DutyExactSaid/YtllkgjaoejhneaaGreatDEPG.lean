/- span.Common and span.Without: meets and differences of sets. -/
import Derived.Test.YtllkgjaoejhneaaGreatDEPF
import Derived.Test.YtllkgjaoejhneaaGreatDEPE
import Derived.KernelRfl
import Derived.Test.YtllkgjaoejhneaaGreatDELD
open _root_ renaming Int->D,Option->I,List->S,Nat->U,ByteArray->Y
open Decidable renaming decide->E
open Int renaming ofNat->F,mul_comm->W
open List renaming length->G,drop_eq_nil_of_le->J,getD->M,singleton_append->O
open Option renaming some->H,none->X
open Go Go.Lft
namespace Go.Proofs.Pw
theorem StS.weak {p q:D} (hq:q≤p):∀ {l:SL},StS p l→StS q l
 | [],_=>trivial
 | _::_,h=>⟨by have:=h.1;omega,h.2⟩
theorem StS.low {p x:D}:∀ {l:SL},StS p l→inS x l→p<x
 | [],_,h=>absurd h j1I
 | s::r,h,hx=>by
  rcases j0q.1 hx with hx | hx
  ·have:=h.1;omega
  ·have:=StS.low h.2.2 hx;have:=h.1;have:=h.2.1;omega
theorem StS.mem {p:D}:∀ {l:SL},StS p l→∀ s∈l,p<s.1∧s.1<s.2
 | [],_,s,hs=>by simp at hs
 | u::r,h,s,hs=>by
  rcases jl.1 hs with rfl | hs
  ·exact ⟨h.1,h.2.1⟩
  ·have:=StS.mem h.2.2 s hs;have:=h.1;have:=h.2.1;omega
def cmF:U→SL→SL→SL
 | n+1,s::a,u::b=>(if (if u.1>s.1 then u.1 else s.1)<(if u.2<s.2 then u.2 else s.2) then [((if u.1>s.1 then u.1 else s.1),(if u.2<s.2 then u.2 else s.2))] else [])++
  (if s.2<u.2 then cmF n a (u::b) else cmF n (s::a) b)
 | _,_,_=>[]
theorem jv8:∀ (n:U) (a b:SL) (p q:D),a.length+b.length≤n→StS p a→StS q b→(∀ x,inS x (cmF n a b)↔inS x a∧inS x b)∧StS p (cmF n a b)∧StS q (cmF n a b)∧(cmF n a b).length≤a.length+b.length
 | 0,a,b,p,q,hn,_,_=>by
  obtain rfl:a=[]:=zo.1 omg_
  exact ⟨fun x=>⟨fun h=>absurd h j1I,fun h=>absurd h.1 j1I⟩,trivial,trivial,by simp [cmF]⟩
 | n+1,[],b,p,q,_,_,_=>⟨fun x=>⟨fun h=>absurd h j1I,fun h=>absurd h.1 j1I⟩,trivial,trivial,by simp [cmF]⟩
 | n+1,_::_,[],p,q,_,_,_=>⟨fun x=>⟨fun h=>absurd h j1I,fun h=>absurd h.2 j1I⟩,trivial,trivial,by simp [cmF]⟩
 | n+1,s::a,u::b,p,q,hn,ha,hb=>by
  obtain ⟨a1,a2,a3⟩:=ha
  obtain ⟨b1,b2,b3⟩:=hb
  simp only [jp] at hn ⊢
  have hx:∃ f t:D,f=(if u.1>s.1 then u.1 else s.1)∧t=(if u.2<s.2 then u.2 else s.2)∧(∀ x,(f≤x∧x<t)↔(s.1≤x∧x<s.2)∧(u.1≤x∧x<u.2))∧p<f∧q<f∧t≤s.2∧t≤u.2:=by
   refine ⟨_,_,rfl,rfl,fun x=> ?_,?_,?_,?_,?_⟩
   ·constructor
    ·intro h;split at h<;>split at h<;>omega
    ·intro h;split<;>split<;>omega
   ·split<;>omega
   ·split<;>omega
   ·split<;>omega
   ·split<;>omega
  obtain ⟨f,t,ef,et,hi,f1,f2,t1,t2⟩:=hx
  simp only [cmF,←ef,←et]
  have key:∀ (a' b':SL) (r:SL),(∀ x,inS x r↔inS x a'∧inS x b')→StS t r→StS p r→StS q r→r.length≤a'.length+b'.length→a'.length+b'.length+1=a.length+1+(b.length+1)→
    (∀ x,inS x (s::a)∧inS x (u::b)↔(f≤x∧x<t)∨(inS x a'∧inS x b'))→
    (∀ x,inS x ((if f<t then [(f,t)] else [])++r)↔inS x (s::a)∧inS x (u::b))∧StS p ((if f<t then [(f,t)] else [])++r)∧StS q ((if f<t then [(f,t)] else [])++r)∧((if f<t then [(f,t)] else [])++r).length≤a.length+1+(b.length+1):=by
   intro a' b' r hr1 hr2 hr3 hr4 hl hl2 hiff
   by_cases hft:f<t
   ·rw [if_pos hft]
    refine ⟨fun x=> ?_,⟨f1,hft,hr2⟩,⟨f2,hft,hr2⟩,sqo_⟩
    rw [hiff,jeT,hr1 x,j0q]
    constructor
    ·rintro ((h | h) | h)
     ·exact .inl h
     ·exact absurd h j1I
     ·exact .inr h
    ·rintro (h | h)
     ·exact .inl (.inl h)
     ·exact .inr h
   ·rw [if_neg hft,kg]
    refine ⟨fun x=> ?_,hr3,hr4,omg_⟩
    rw [hiff,hr1 x]
    constructor
    ·exact .inr
    ·rintro (h | h)
     ·omega
     ·exact h
  by_cases hc:s.2<u.2
  ·rw [if_pos hc]
   obtain ⟨i1,i2,i3,i4⟩:=jv8 n a (u::b) s.2 q sqo_ a3 ⟨b1,b2,b3⟩
   refine key a (u::b) _ i1 (i2.weak t1) (i2.weak omg_) i3 i4 sqo_ (fun x=> ?_)
   rw [j0q,hi x]
   constructor
   ·rintro ⟨h | h,h'⟩
    ·rcases j0q.1 h' with h' | h'
     ·exact .inl ⟨h,h'⟩
     ·have:=StS.low b3 h';omega
    ·exact .inr ⟨h,h'⟩
   ·rintro (h | h)
    ·exact ⟨.inl h.1,j0q.2 (.inl h.2)⟩
    ·exact ⟨.inr h.1,h.2⟩
  ·rw [if_neg hc]
   obtain ⟨i1,i2,i3,i4⟩:=jv8 n (s::a) b p u.2 sqo_ ⟨a1,a2,a3⟩ b3
   refine key (s::a) b _ i1 (i3.weak t2) i2 (i3.weak omg_) i4 sqo_ (fun x=> ?_)
   rw [j0q (s:=u),hi x]
   constructor
   ·rintro ⟨h',h | h⟩
    ·rcases j0q.1 h' with h' | h'
     ·exact .inl ⟨h',h⟩
     ·have:=StS.low a3 h';omega
    ·exact .inr ⟨h',h⟩
   ·rintro (h | h)
    ·exact ⟨j0q.2 (.inl h.1),.inl h.2⟩
    ·exact ⟨h.1,.inr h.2⟩
theorem jys {A B:SL} (hA:A.length≤10000000) (hB:B.length≤10000000):∀ (n i k:U) (acc:SL),i≤A.length→k≤B.length→(A.length-i)+(B.length-k)=n→acc.length+n≤30000000→
  j4w A B (i:D) (k:D) acc=H (acc++cmF n (A.drop i) (B.drop k))
 | n,i,k,acc,hi,hk,hn,hacc=>by
  rw [jhU]
  simp only [j57,show F (G A)=(A.length:D) from rfl,show F (G B)=(B.length:D) from rfl]
  by_cases hend:i<A.length∧k<B.length
  ·obtain ⟨hi',hk'⟩:=hend
   obtain ⟨n,rfl⟩:∃ m,n=m+1:=⟨n-1,omg_⟩
   have gA:A.getD i ((0:D),(0:D))=A[i]:=by simp [M,hi']
   have gB:B.getD k ((0:D),(0:D))=B[k]:=by simp [M,hk']
   rw [j00 (show (i:D)<(A.length:D) by omega),j00 (show (k:D)<(B.length:D) by omega),j1v (show (0:D)≤(i:D) by omega) omg_,j1v (show (0:D)≤(k:D) by omega) omg_]
   simp only [jc,je,gA,gB]
   rw [j07 (x:=(i:D)+1),j07 (x:=(k:D)+1)]
   rw [jh hi',jh hk']
   simp only [cmF]
   generalize (if B[k].1>A[i].1 then B[k].1 else A[i].1:D)=f
   generalize (if B[k].2<A[i].2 then B[k].2 else A[i].2:D)=t
   have ih1:∀ acc':SL,acc'.length≤acc.length+1→j4w A B ((i:D)+1) (k:D) acc'=H (acc'++cmF n (A.drop (i+1)) (B[k]::B.drop (k+1))):=fun acc' ha'=>by
    have:=jys hA hB n (i+1) k acc' omg_ omg_ omg_ omg_
    rw [←jh hk']
    exact this
   have ih2:∀ acc':SL,acc'.length≤acc.length+1→j4w A B (i:D) ((k:D)+1) acc'=H (acc'++cmF n (A[i]::A.drop (i+1)) (B.drop (k+1))):=fun acc' ha'=>by
    have:=jys hA hB n i (k+1) acc' omg_ omg_ omg_ omg_
    rw [←jh hi']
    exact this
   by_cases hft:f<t
   ·rw [j00 hft,if_pos hft,j00 (by simp [j05];omega)]
    simp only [jc]
    by_cases hc:A[i].2<B[k].2
    ·rw [j00 hc,if_pos hc]
     simp only [jc,j06]
     rw [ih1 _ smp_,jr]
    ·rw [j01 hc,if_neg hc]
     simp only [jd,j06]
     rw [ih2 _ smp_,jr]
   ·rw [j01 hft,if_neg hft]
    simp only [jd]
    by_cases hc:A[i].2<B[k].2
    ·rw [j00 hc,if_pos hc]
     simp only [jc,j06]
     rw [ih1 _ omg_,kg]
    ·rw [j01 hc,if_neg hc]
     simp only [jd,j06]
     rw [ih2 _ omg_,kg]
  ·have hc:cond (E ((i:D)<(A.length:D))) (E ((k:D)<(B.length:D))) false=false:=by
    by_cases h1:i<A.length
    ·rw [j00 omg_,jc];exact j01 omg_
    ·rw [j01 omg_,jd]
   rw [hc,jd,j08]
   have:cmF n (A.drop i) (B.drop k)=[]:=by
    by_cases h1:i<A.length
    ·rw [J (show B.length≤k by omega)]
     cases n<;>cases A.drop i<;>rfl
    ·rw [J (show A.length≤i by omega)]
     cases n<;>rfl
   rw [this,ql]
theorem jv9 {A B:SL} {p q:D} (ha:StS p A) (hb:StS q B) (hA:A.length≤10000000) (hB:B.length≤10000000) :
  ∃ out,jas A B=H out∧StS p out∧(∀ x,inS x out↔inS x A∧inS x B)∧out.length≤A.length+B.length:=by
 have lp:=jys hA hB (A.length+B.length) 0 0 [] omg_ omg_ omg_ sqo_
 obtain ⟨h1,h2,h3,h4⟩:=jv8 (A.length+B.length) A B p q (jz _) ha hb
 refine ⟨cmF (A.length+B.length) A B,?_,h2,h1,h4⟩
 simp only [jas,show j4w A B 0 0 []=_ from lp,ja,kg,jy]
def wlP (e:D):D→SL→SL×D
 | t,[]=>([],t)
 | t,u::b=>if u.1<e then ((if t<u.1 then [(t,u.1)] else [])++(wlP e (if u.2>t then u.2 else t) b).1,(wlP e (if u.2>t then u.2 else t) b).2) else ([],t)
def woP (e t:D) (b:SL):SL:=(wlP e t b).1++(if (wlP e t b).2<e then [((wlP e t b).2,e)] else [])
theorem jyt {e t:D} {u:D×D} {b:SL} (h:u.1<e):woP e t (u::b)=(if t<u.1 then [(t,u.1)] else [])++woP e (if u.2>t then u.2 else t) b:=by
 simp only [woP,wlP,if_pos h,jr]
theorem jx6 {e:D}:∀ (b:SL) (t q:D),StS q b→(∀ x,inS x (woP e t b)↔(t≤x∧x<e)∧¬ inS x b)∧StS (t-1) (woP e t b)∧(∀ s∈woP e t b,s.2≤e)∧(woP e t b).length≤b.countP (fun u=>E (t<u.1)&&E (u.1<e))+1
 | [],t,q,_=>by
  rw [show woP e t []=(if t<e then [(t,e)] else []) from rfl]
  by_cases h:t<e
  ·rw [if_pos h]
   exact ⟨fun x=>⟨fun hx=>⟨by rcases j0q.1 hx with hx | hx;exact hx;exact absurd hx j1I,j1I⟩,fun hx=>j0q.2 (.inl hx.1)⟩,⟨by dsimp only;omega,h,trivial⟩,smp_,smp_⟩
  ·rw [if_neg h]
   exact ⟨fun x=>⟨fun hx=>absurd hx j1I,fun hx=>omg_⟩,trivial,smp_,smp_⟩
 | u::b,t,q,hb=>by
  obtain ⟨b1,b2,b3⟩:=hb
  by_cases hu:u.1<e
  ·rw [jyt hu]
   have hm:∃ t',t'=(if u.2>t then u.2 else t)∧t≤t'∧u.2≤t'∧(t'=t∨t'=u.2):=⟨_,rfl,by split<;>omega,by split<;>omega,by split<;>omega⟩
   obtain ⟨t',e',h1,h2,h3⟩:=hm
   rw [←e']
   obtain ⟨i1,i2,i3,i4⟩:=jx6 b t' u.2 b3
   have hbx:∀ x,inS x b→u.2<x:=fun x=>StS.low b3
   have hcp:b.countP (fun u=>E (t'<u.1)&&E (u.1<e))≤b.countP (fun u=>E (t<u.1)&&E (u.1<e)):=List.countP_mono_left fun v _ h=>by
    simp only [ji,jq] at h ⊢
    omega
   by_cases htu:t<u.1
   ·rw [if_pos htu]
    refine ⟨fun x=> ?_,⟨by dsimp only;omega,htu,i2.weak omg_⟩,fun s hs=> ?_,by
     rw [List.countP_cons_of_pos (by simp [htu,hu]),O,jp];omega⟩
    ·rw [O,j0q,i1 x,j0q]
     constructor
     ·rintro (h | h)
      ·exact ⟨omg_,fun h'=>by
        rcases h' with h' | h'
        ·omega
        ·have:=hbx x h';omega⟩
      ·exact ⟨omg_,fun h'=>by
        rcases h' with h' | h'
        ·omega
        ·exact h.2 h'⟩
     ·rintro ⟨h,h'⟩
      by_cases hx:x<u.1
      ·exact .inl ⟨h.1,hx⟩
      ·by_cases hx2:x<u.2
       ·exact absurd (.inl ⟨omg_,hx2⟩) h'
       ·exact .inr ⟨omg_,fun h2=>h' (.inr h2)⟩
    ·rcases jl.1 hs with rfl | hs
     ·dsimp only;omega
     ·exact i3 s hs
   ·rw [if_neg htu,kg]
    refine ⟨fun x=> ?_,i2.weak omg_,i3,by
     rw [List.countP_cons_of_neg (by simp [htu])];omega⟩
    rw [i1 x,j0q]
    constructor
    ·rintro h
     exact ⟨omg_,fun h'=>by
      rcases h' with h' | h'
      ·omega
      ·exact h.2 h'⟩
    ·rintro ⟨h,h'⟩
     by_cases hx2:x<u.2
     ·exact absurd (.inl ⟨omg_,hx2⟩) h'
     ·exact ⟨omg_,fun h2=>h' (.inr h2)⟩
  ·have:woP e t (u::b)=if t<e then [(t,e)] else []:=by simp only [woP,wlP,if_neg hu,kg]
   rw [this]
   have hno:∀ x,x<e→¬ inS x (u::b):=fun x hx h=>by
    rcases j0q.1 h with h | h
    ·omega
    ·have:=StS.low b3 h;omega
   by_cases h:t<e
   ·rw [if_pos h]
    exact ⟨fun x=>⟨fun hx=>by
     rcases j0q.1 hx with hx | hx
     ·exact ⟨hx,hno x hx.2⟩
     ·exact absurd hx j1I,fun hx=>j0q.2 (.inl hx.1)⟩,⟨by dsimp only;omega,h,trivial⟩,smp_,smp_⟩
   ·rw [if_neg h]
    exact ⟨fun x=>⟨fun hx=>absurd hx j1I,fun hx=>omg_⟩,trivial,smp_,smp_⟩
def pA (l:SL) (u:D×D):Bool:=l.any fun s=>E (s.1<u.1)&&E (u.1<s.2)
theorem jrF {p q:D×D→Bool} (h:∀ u,p u=true→q u=true→False):∀ l:SL,l.countP p+l.countP q≤l.countP (fun u=>p u||q u)
 | []=>smp_
 | u::l=>by
  have ih:=jrF h l
  have hu:=h u
  simp only [List.countP_cons]
  cases hp:p u<;>cases hq:q u<;>simp_all<;>omega
theorem jva {q:D}:∀ {b:SL} (k:U),StS q b→∃ q',StS q' (b.drop k)
 | _,0,h=>⟨q,h⟩
 | [],_+1,_=>⟨q,trivial⟩
 | _::_,k+1,h=>jva k h.2.2
section
variable {B:SL} (hB:B.length≤10000000)
include hB
theorem jzw {A:SL} {n m s e:D} {acc:SL}:∀ (d k:U),k+d=B.length→∃ k':U,k≤k'∧k'≤B.length∧(∀ j (h:j<B.length),k≤j→j<k'→B[j].2≤s)∧
  j7O B (k:D) A n m s e acc=H (B,(k':D),A,n,m,s,e,acc)
 | 0,k,hk=>by
  rw [jbr]
  simp only [j3t,show F (G B)=(B.length:D) from rfl]
  rw [j01 omg_,jd,j08]
  exact ⟨k,omg_,omg_,fun j h h1 h2=>omg_,rfl⟩
 | d+1,k,hk=>by
  have hk':k<B.length:=omg_
  have gB:B.getD k ((0:D),(0:D))=B[k]:=by simp [M,hk']
  rw [jbr]
  simp only [j3t,show F (G B)=(B.length:D) from rfl]
  rw [j00 omg_,j1o]
  simp only [jc,je,gB]
  by_cases hc:B[k].2≤s
  ·rw [j00 hc,jc,j06,j07 (x:=(k:D)+1)]
   obtain ⟨k',h1,h2,h3,h4⟩:=jzw d (k+1) omg_
   refine ⟨k',omg_,h2,fun j h ha hb=> ?_,h4⟩
   by_cases hjk:j=k
   ·subst hjk;exact hc
   ·exact h3 j h omg_ hb
  ·rw [j01 hc,jd,j08]
   exact ⟨k,omg_,omg_,fun j h h1 h2=>omg_,rfl⟩
theorem jzx {A:SL} {k n m s e:D}:∀ (d i:U) (t:D) (acc:SL),i+d=B.length→acc.length+d≤4000000000→
  j5S B k t (i:D) A n m s e acc=H (B,k,(wlP e t (B.drop i)).2,A,n,m,s,e,acc++(wlP e t (B.drop i)).1)
 | 0,i,t,acc,hi,hacc=>by
  rw [jbs]
  simp only [j3u,show F (G B)=(B.length:D) from rfl]
  rw [j01 omg_,jd,j08,jj omg_]
  simp [wlP]
 | d+1,i,t,acc,hi,hacc=>by
  have hi':i<B.length:=omg_
  have gB:B.getD i ((0:D),(0:D))=B[i]:=by simp [M,hi']
  rw [jbs]
  simp only [j3u,show F (G B)=(B.length:D) from rfl]
  rw [j00 omg_,j1o]
  simp only [jc,je,gB]
  rw [jh hi',j07 (x:=(i:D)+1)]
  by_cases hc:B[i].1<e
  ·rw [j00 hc]
   simp only [jc,wlP,if_pos hc]
   have ih:∀ acc':SL,acc'.length≤acc.length+1→j5S B k (if B[i].2>t then B[i].2 else t) ((i:D)+1) A n m s e acc'=_:=fun acc' h'=>jzx d (i+1) (if B[i].2>t then B[i].2 else t) acc' omg_ omg_
   by_cases ht:t<B[i].1
   ·rw [j00 ht,if_pos ht,j00 (by simp [j05];omega)]
    simp only [jc,j06]
    rw [ih _ smp_,jr]
   ·rw [j01 ht,if_neg ht]
    simp only [jd,j06]
    rw [ih _ omg_,kg]
  ·rw [j01 hc]
   simp only [jd,j08,wlP,if_neg hc,ql]
theorem jzy {A:SL} (hA:A.length≤10000000) {q:D} (hb:StS q B):∀ (d j k:U) (p:D) (acc:SL),j+d=A.length→k≤B.length→StS p (A.drop j)→(∀ i (h:i<B.length),i<k→∀ x,inS x (A.drop j)→B[i].2≤x)→acc.length+d+B.countP (pA (A.drop j))≤30000000→
  ∃ out,j4L B (k:D) A (A.length:D) (j:D) acc=H (acc++out)∧StS p out∧(∀ x,inS x out↔inS x (A.drop j)∧¬ inS x B)∧out.length≤d+B.countP (pA (A.drop j))
 | 0,j,k,p,acc,hj,hk,_,_,hacc=>by
  rw [jbt]
  simp only [j3v]
  rw [j01 omg_,jd,j08,jj omg_]
  exact ⟨[],smp_,trivial,fun x=>⟨fun h=>absurd h j1I,fun h=>absurd h.1 j1I⟩,smp_⟩
 | d+1,j,k,p,acc,hj,hk,ha,hkx,hacc=>by
  have hj':j<A.length:=omg_
  have gA:A.getD j ((0:D),(0:D))=A[j]:=by simp [M,hj']
  rw [jh hj'] at ha hkx hacc ⊢
  obtain ⟨a1,a2,a3⟩:=ha
  obtain ⟨k',h1,h2,h3,h4⟩:=jzw hB (A:=A) (n:=(A.length:D)) (m:=(j:D)) (s:=A[j].1) (e:=A[j].2) (acc:=acc) (B.length-k) k omg_
  have hb':∃ q',StS q' (B.drop k'):=jva k' hb
  obtain ⟨q',hb'⟩:=hb'
  have hskip:∀ x,A[j].1≤x→(inS x B↔inS x (B.drop k')):=by
   intro x hx
   constructor
   ·rintro ⟨u,hu,u1,u2⟩
    obtain ⟨i,hi,rfl⟩:=List.mem_iff_getElem.1 hu
    by_cases hik:i<k'
    ·by_cases hik2:i<k
     ·have:=hkx i hi hik2 A[j].1 (j0q.2 (.inl ⟨kr _,a2⟩));omega
     ·have:=h3 i hi omg_ hik;omega
    ·exact ⟨B[i],List.mem_drop_iff_getElem.2 ⟨i-k',omg_,by simp [show k'+(i-k')=i by omega]⟩,u1,u2⟩
   ·rintro ⟨u,hu,u1,u2⟩
    exact ⟨u,zk hu,u1,u2⟩
  have w4:=jzx hB (A:=A) (k:=(k':D)) (n:=(A.length:D)) (m:=(j:D)) (s:=A[j].1) (e:=A[j].2) (B.length-k') k' A[j].1 acc omg_ omg_
  obtain ⟨s1,s2,s3,s4⟩:=jx6 (e:=A[j].2) (B.drop k') A[j].1 q' hb'
  have hwl:(wlP A[j].2 A[j].1 (B.drop k')).1.length≤(woP A[j].2 A[j].1 (B.drop k')).length:=by simp [woP]
  have hcnt:(woP A[j].2 A[j].1 (B.drop k')).length+B.countP (pA (A.drop (j+1)))≤B.countP (pA (A[j]::A.drop (j+1)))+1:=by
   have h5:(B.drop k').countP (fun u=>E (A[j].1<u.1)&&E (u.1<A[j].2))≤B.countP (fun u=>E (A[j].1<u.1)&&E (u.1<A[j].2)):=(List.drop_sublist k' B).countP_le
   have h6:=jrF (p:=fun u=>E (A[j].1<u.1)&&E (u.1<A[j].2)) (q:=pA (A.drop (j+1))) (fun u hp hq=>by
    obtain ⟨s,hs,hs'⟩:=List.any_eq_true.1 hq
    have:=StS.mem a3 s hs
    simp only [ji,jq] at hp hs'
    omega) B
   have h7:B.countP (fun u=>(E (A[j].1<u.1)&&E (u.1<A[j].2))||pA (A.drop (j+1)) u)=B.countP (pA (A[j]::A.drop (j+1))):=rfl
   omega
  have step:∀ acc':SL,acc'=acc++woP A[j].2 A[j].1 (B.drop k')→∃ out,j4L B (k':D) A (A.length:D) ((j:D)+1) acc'=H (acc++out)∧StS p out∧(∀ x,inS x out↔inS x (A[j]::A.drop (j+1))∧¬ inS x B)∧out.length≤d+1+B.countP (pA (A[j]::A.drop (j+1))):=by
   rintro _ rfl
   obtain ⟨out,e,o1,o2,o3⟩:=jzy hA hb d (j+1) k' A[j].2 (acc++woP A[j].2 A[j].1 (B.drop k')) omg_ h2 a3 (fun i hi hik x hx=>by
    have hlow:=StS.low a3 hx
    by_cases hik2:i<k
    ·exact hkx i hi hik2 x (j0q.2 (.inr hx))
    ·have:=h3 i hi omg_ hik;omega) (by rw [jo];omega)
   refine ⟨woP A[j].2 A[j].1 (B.drop k')++out,by rw [←jr];exact e,?_,fun x=> ?_,by rw [jo];omega⟩
   ·have glue:∀ (l:SL) (r:D),StS r l→r<A[j].2→(∀ s∈l,s.2≤A[j].2)→StS r (l++out):=by
     intro l
     induction l with
     | nil=>intro r _ hr _;exact o1.weak omg_
     | cons s l ih=>intro r h hr hl;exact ⟨h.1,h.2.1,by
      have:=hl s smp_
      by_cases hs:s.2<A[j].2
      ·exact ih s.2 h.2.2 hs (fun u hu=>hl u (by simp [hu]))
      ·have he:s.2=A[j].2:=omg_
       match l,h.2.2 with
       | [],_=>exact o1.weak omg_
       | u::l',h'=>have:=hl u smp_;have:=h'.1;have:=h'.2.1;omega⟩
    exact glue _ _ (s2.weak omg_) omg_ s3
   ·rw [jeT,s1 x,o2 x,j0q]
    constructor
    ·rintro (h | h)
     ·exact ⟨.inl h.1,fun hx=>h.2 ((hskip x h.1.1).1 hx)⟩
     ·exact ⟨.inr h.1,h.2⟩
    ·rintro ⟨h | h,h'⟩
     ·exact .inl ⟨h,fun hx=>h' ((hskip x h.1).2 hx)⟩
     ·exact .inr ⟨h,h'⟩
  rw [jbt]
  simp only [j3v]
  rw [j00 (show (j:D)<(A.length:D) by omega),j1o]
  simp only [jc,je,gA,h4,ja,w4]
  rw [j07 (x:=(j:D)+1)]
  have hlen:(acc++(wlP A[j].2 A[j].1 (B.drop k')).1).length≤2000000000:=by
   rw [jo];omega
  by_cases ht:(wlP A[j].2 A[j].1 (B.drop k')).2<A[j].2
  ·rw [j00 ht]
   simp only [jc]
   rw [j00 (by simp only [j05,qw];omega)]
   simp only [jc,j06]
   exact step _ (by simp only [woP,if_pos ht,jr])
  ·rw [j01 ht]
   simp only [jd,j06]
   exact step _ (by simp only [woP,if_neg ht,ql])
theorem jsP {A:SL} {p q:D} (ha:StS p A) (hb:StS q B) (hA:A.length≤10000000) :
  ∃ out,j94 A B=H out∧StS p out∧(∀ x,inS x out↔inS x A∧¬ inS x B)∧out.length≤A.length+B.length:=by
 have hc:=List.countP_le_length (p:=pA (A.drop 0)) (l:=B)
 obtain ⟨out,e,h1,h2,h3⟩:=jzy hB hA hb A.length 0 0 p [] omg_ omg_ ha (fun i h hi=>omg_) (by simp only [qc];omega)
 refine ⟨out,?_,h1,h2,omg_⟩
 simp only [j94,show F (G A)=(A.length:D) from rfl,show j4L B 0 A (A.length:D) 0 []=_ from e,ja,kg]
end
set_option linter.unusedSectionVars false
section
variable {l:SL} {p:D} (h:StS p l) (hp : -1≤p) (hl:l.length≤4096) (hb:∀ u∈l,u.2≤8589934592)
include h hp hl hb
end
set_option linter.unusedSectionVars false
def InO (p:D):SL→Prop
 | []=>True
 | x::r=>p≤x.1∧x.1<x.2∧InO x.2 r
theorem InO.weak {p q:D} (hq:q≤p):∀ {l:SL},InO p l→InO q l
 | [],_=>trivial
 | _::_,h=>⟨by have:=h.1;omega,h.2⟩
section
variable {zs:S j1l} {ps:S j1s} {cs:S CalT} (hs:GOk zs ps cs)
include hs
end
section
variable {zs:S j1l} {ps:S j1s} {cs:S CalT} {ss:S j3z}
end
instance (L:j0j):Decidable (Rt L):=
 decidable_of_iff (1≤L.2.2.1.1∧L.2.2.1.1≤100000∧0≤L.2.2.1.2∧L.2.2.1.2≤86399∧0≤L.2.2.2.1∧L.2.2.2.1≤2∧1≤L.2.2.2.2.1∧L.2.2.2.2.1≤400∧L.2.2.2.2.2.1≠[])
  ⟨fun ⟨a,b,c,d,e,f,g,h,i⟩=>⟨a,b,c,d,e,f,g,h,i⟩,fun ⟨a,b,c,d,e,f,g,h,i⟩=>⟨a,b,c,d,e,f,g,h,i⟩⟩
section
variable {z:j1l} {l:TrL} (h4:Z4 z l)
include h4
theorem jkE (L:j0j):jaC z L=H (if Rt L then 0 else 8):=by
 have hc:j5Z (z.1,(z.2.1,z.2.2))=H 0:=by
  simp only [j5Z,show j0c (z.1,(z.2.1,z.2.2))=_ from h4.1,ja]
 simp only [jaC,hc,ja,jm,jd]
 have key:(cond (cond (cond (cond (cond (cond (cond (cond (E (L.2.2.1.1<1)) true (E (L.2.2.1.1>100000))) true (E (L.2.2.1.2<0))) true (E (L.2.2.1.2≥86400))) true (E (L.2.2.2.1<0))) true (E (L.2.2.2.1>2))) true (E (L.2.2.2.2.1<1))) true (E (L.2.2.2.2.1>400))) true (F L.2.2.2.2.2.1.length==0)) = !E (Rt L):=by
  have hlen:(F L.2.2.2.2.2.1.length==0)=E (L.2.2.2.2.2.1=[]):=by
   cases L.2.2.2.2.2.1 with
   | nil=>rfl
   | cons x r=>simp;omega
  rw [hlen]
  rw [Bool.eq_iff_iff]
  simp only [qd,ko]
  constructor
  ·intro hh h
   have a1:=h.d0;have a2:=h.d1;have a3:=h.c0;have a4:=h.c1;have a5:=h.u0;have a6:=h.u1;have a7:=h.e0;have a8:=h.e1
   rw [j01 (show ¬ L.2.2.1.1<1 by omega),j01 (show ¬ L.2.2.1.1>100000 by omega),j01 (show ¬ L.2.2.1.2<0 by omega),j01 (show ¬ L.2.2.1.2≥86400 by omega),j01 (show ¬ L.2.2.2.1<0 by omega),j01 (show ¬ L.2.2.2.1>2 by omega),j01 (show ¬ L.2.2.2.2.1<1 by omega),j01 (show ¬ L.2.2.2.2.1>400 by omega),j01 h.m0] at hh
   simp at hh
  ·intro hn
   by_cases a1:L.2.2.1.1<1
   ·rw [j00 a1];rfl
   rw [j01 a1]
   by_cases a2:L.2.2.1.1>100000
   ·rw [j00 a2];rfl
   rw [j01 a2]
   by_cases a3:L.2.2.1.2<0
   ·rw [j00 a3];rfl
   rw [j01 a3]
   by_cases a4:L.2.2.1.2≥86400
   ·rw [j00 a4];rfl
   rw [j01 a4]
   by_cases a5:L.2.2.2.1<0
   ·rw [j00 a5];rfl
   rw [j01 a5]
   by_cases a6:L.2.2.2.1>2
   ·rw [j00 a6];rfl
   rw [j01 a6]
   by_cases a7:L.2.2.2.2.1<1
   ·rw [j00 a7];rfl
   rw [j01 a7]
   by_cases a8:L.2.2.2.2.1>400
   ·rw [j00 a8];rfl
   rw [j01 a8]
   by_cases a9:L.2.2.2.2.2.1=[]
   ·rw [j00 a9];rfl
   exact absurd ⟨omg_,omg_,omg_,omg_,omg_,omg_,omg_,omg_,a9⟩ hn
 rw [key]
 by_cases h:Rt L
 ·rw [j00 h,if_pos h];rfl
 ·rw [j01 h,if_neg h];rfl
end
theorem jx7 {z:j1l} {l:TrL} (hz:Z4 z l) {L:j0j} (h:Rt L) {t N:D} (hN:N≤8589934592):∀ n:U,(n:D)≤N→
  ∃ K:D,j62 t ((n:D)-1) z.1 z.2.1 z.2.2 L.1 L.2.1 L.2.2.1.1 L.2.2.1.2 L.2.2.2.1 L.2.2.2.2.1 L.2.2.2.2.2.1 L.2.2.2.2.2.2.1 L.2.2.2.2.2.2.2.1 L.2.2.2.2.2.2.2.2=H K∧
   (K = -1∨0≤K∧QO z.2.1 l L t K)∧K<n∧∀ j:D,K<j→0≤j→j<n→¬ QO z.2.1 l L t j
 | 0,_=>by
  rw [jey]
  simp only [j4O]
  rw [j01 omg_,jd,j08]
  exact ⟨_,rfl,.inl omg_,omg_,fun j h1 h2 h3=>omg_⟩
 | n+1,hn=>by
  obtain ⟨K,e,k0,k1,k2⟩:=jx7 hz h (t:=t) hN n omg_
  obtain ⟨v,hH,hv⟩:=r10H hz h (k:=(n:D)) omg_ omg_
  rw [jey,show ((n+1:U):D)-1=(n:D) by omega]
  simp only [j4O]
  rw [j00 omg_,jc,show j61 (z.1,(z.2.1,z.2.2)) (L.1,L.2.1,(L.2.2.1.1,L.2.2.1.2),L.2.2.2.1,L.2.2.2.2.1,L.2.2.2.2.2.1,L.2.2.2.2.2.2.1,L.2.2.2.2.2.2.2.1,L.2.2.2.2.2.2.2.2) (n:D)=_ from hH]
  simp only [ja]
  rw [j07 (x:=(n:D)-1)]
  have down:¬ QO z.2.1 l L t (n:D)→(lpK (H (Sum.inl (t,(n:D)-1,z.1,z.2.1,z.2.2,L.1,L.2.1,L.2.2.1.1,L.2.2.1.2,L.2.2.2.1,L.2.2.2.2.1,L.2.2.2.2.2.1,L.2.2.2.2.2.2.1,L.2.2.2.2.2.2.2.1,L.2.2.2.2.2.2.2.2)):I ((D×D×Y×D×S Rule×Y×D×D×D×D×D×S D×WL×D×D) ⊕ D)) (fun h=>j62 h.1 h.2.1 h.2.2.1 h.2.2.2.1 h.2.2.2.2.1 h.2.2.2.2.2.1 h.2.2.2.2.2.2.1 h.2.2.2.2.2.2.2.1 h.2.2.2.2.2.2.2.2.1 h.2.2.2.2.2.2.2.2.2.1 h.2.2.2.2.2.2.2.2.2.2.1 h.2.2.2.2.2.2.2.2.2.2.2.1 h.2.2.2.2.2.2.2.2.2.2.2.2.1 h.2.2.2.2.2.2.2.2.2.2.2.2.2.1 h.2.2.2.2.2.2.2.2.2.2.2.2.2.2))=H K∧∀ j:D,K<j→0≤j→j<((n+1:U):D)→¬ QO z.2.1 l L t j:=by
   intro hq
   refine ⟨by rw [j06];exact e,fun j h1 h2 h3=> ?_⟩
   by_cases hjn:j<n
   ·exact k2 j h1 h2 hjn
   ·rw [show j=(n:D) by omega];exact hq
  cases hx:hO z.2.1 l L (n:D) with
  | none=>
   simp only [va,jd]
   obtain ⟨d1,d2⟩:=down fun ⟨y,hy,_⟩=>by rw [hx] at hy;simp at hy
   exact ⟨K,d1,k0,omg_,d2⟩
  | some x=>
   have:=hv x hx
   subst this
   simp only [zh,jc]
   by_cases hc:v≤t
   ·rw [j00 hc,jc,j08]
    exact ⟨_,rfl,.inr ⟨omg_,v,hx,hc⟩,omg_,fun j h1 h2 h3=>omg_⟩
   ·rw [j01 hc,jd]
    obtain ⟨d1,d2⟩:=down fun ⟨y,hy,hyt⟩=>by rw [hx] at hy;simp at hy;omega
    exact ⟨K,d1,k0,omg_,d2⟩
theorem jzz {z:j1l} {l:TrL} (hz:Z4 z l) {L:j0j} (h:Rt L) {t:D} (h0t:0≤t) (htt:t≤8589934592):∃ K:D,jaE z L t=H K∧ShO z.2.1 l L t K:=by
 have hs:=h.step
 have hd0:=h.d0;have hd1:=h.d1;have he0:=h.e0;have he1:=h.e1;have hc0:=h.c0;have hc1:=h.c1
 simp only [jaE]
 by_cases h0:L.2.2.2.1=0
 ·have hF:=jgr hz (d:=L.2.2.1.1) (c:=L.2.2.1.2) omg_ hc0 hc1
  have hs0:L.2.2.1.1*86400+L.2.2.1.2=sLoc L 0:=by unfold sLoc;omega
  rw [j5N h0,jc,show j4l (z.1,(z.2.1,z.2.2)) (L.2.2.1.1,L.2.2.1.2)=_ from hF,hs0]
  simp only [ja]
  have nq:(∀ v,fO z.2.1 l (sLoc L 0)=H v→t<v)→¬ QO z.2.1 l L t 0:=by
   rintro hn ⟨y,hy,hyt⟩
   have:=hn y (juY h0 hy)
   omega
  cases hf:fO z.2.1 l (sLoc L 0) with
  | none=>exact ⟨-1,rfl,.inl ⟨rfl,nq fun v hv=>by rw [hf] at hv;simp at hv⟩⟩
  | some v=>
   have hva:=jsN hz.2 hf
   simp only [qh,jc]
   by_cases hc:v≤t
   ·obtain ⟨s1,s2,s3⟩:=jrD (o:=z.2.1) (l:=l) h h0 htt hf hc hva.2.1
    rw [j00 hc,jc,j07 (x:=t-v),j07 (x:=3600*L.2.2.2.2.1),j2q (show ¬ 3600*L.2.2.2.2.1=0 by omega),z7 omg_,j07 (x:=(t-v)/(3600*L.2.2.2.2.1))]
    exact ⟨_,rfl,s1⟩
   ·rw [j01 hc]
    exact ⟨-1,rfl,.inl ⟨rfl,nq fun v' hv=>by rw [hf] at hv;simp at hv;omega⟩⟩
 ·obtain ⟨j,hj,j1,j2⟩:=j8U hz.2 h0t htt
  have o0:=hz.2.of0 j hj;have o1:=hz.2.of1 j hj
  have eT:=jrA hz (t:=t) h0t htt hj j1 j2
  rw [j2q h0,jd,show j3k (z.1,(z.2.1,z.2.2)) t=_ from eT]
  simp only [ja]
  have hday:∀ k:D,QO z.2.1 l L t k→L.2.2.1.1+k*j2N L≤(t+tof z.2.1 l j)/86400+2:=fun k hq=>QO.day hz.2 h h0 hq hj
  generalize hld:(t+tof z.2.1 l j)/86400=ld at hday
  rw [j07 (x:=ld+2),j07 (x:=ld+2-L.2.2.1.1)]
  have fin:∀ st:D,st=j2N L→∃ K:D,((j62 t (w64 (Int.tdiv (if (0:D)>ld+2-L.2.2.1.1 then (0:D) else ld+2-L.2.2.1.1) st)) z.1 z.2.1 z.2.2 L.1 L.2.1 L.2.2.1.1 L.2.2.1.2 L.2.2.2.1 L.2.2.2.2.1 L.2.2.2.2.2.1 L.2.2.2.2.2.2.1 L.2.2.2.2.2.2.2.1 L.2.2.2.2.2.2.2.2).bind fun q0=>H q0)=H K∧ShO z.2.1 l L t K:=by
   rintro st rfl
   obtain ⟨m,hm,hm0,hm1⟩:∃ m:D,(if (0:D)>ld+2-L.2.2.1.1 then (0:D) else ld+2-L.2.2.1.1)=m∧0≤m∧m≤1000000:=⟨_,rfl,by split<;>omega,by split<;>omega⟩
   have hml:ld+2-L.2.2.1.1≤m:=by rw [←hm];split<;>omega
   rw [hm,z7 hm0]
   have q0:0≤m/j2N L:=yo hm0 omg_
   have q1:m/j2N L≤m:=yg _ hm0
   have q2:m<j2N L*(m/j2N L)+j2N L:=Int.lt_mul_ediv_self_add omg_
   rw [j07]
   generalize m/j2N L=km at *
   obtain ⟨K,e,k0,k1,k2⟩:=jx7 hz h (t:=t) (kr _) (km+1).toNat omg_
   rw [show (((km+1).toNat:U):D)-1=km by omega] at e
   rw [e]
   refine ⟨K,rfl,?_⟩
   have top:¬ QO z.2.1 l L t (K+1):=by
    by_cases hK:K+1≤km
    ·exact k2 (K+1) omg_ (by rcases k0 with k0 | k0<;>omega) omg_
    ·intro hq
     have hd:=hday _ hq
     have hkk:K=km:=omg_
     rw [hkk,Int.add_mul,Int.one_mul] at hd
     have:j2N L*km=km*j2N L:=W _ _
     omega
   rcases k0 with k0 | k0
   ·subst k0;exact .inl ⟨rfl,top⟩
   ·exact .inr ⟨k0.1,k0.2,top⟩
  by_cases h2:L.2.2.2.1=2
  ·have hsd:j2N L=7*L.2.2.2.2.1:=by unfold j2N;rw [if_pos h2]
   rw [j5N h2,jc,j07 (x:=L.2.2.2.2.1*7),j2q (show ¬ L.2.2.2.2.1*7=0 by omega)]
   simp only [jt,jc]
   exact fin _ (by rw [hsd,W])
  ·have hsd:j2N L=L.2.2.2.2.1:=by unfold j2N;rw [if_neg h2]
   rw [j2q h2,jd,j2q (show ¬ L.2.2.2.2.1=0 by omega)]
   simp only [jt,jc]
   exact fin _ hsd.symm
abbrev SgT:=D×(D×D)
abbrev SgL:=S SgT
def Ch (f:D→D) (b:D):D→SgL→Prop
 | a,[]=>a=b
 | a,s::r=>s.1=a∧a≤s.2.1∧(∀ t,a≤t→t<s.2.1→f t=s.2.2)∧Ch f b s.2.1 r
def Cov (f:D→D) (b:D):I D→D→SgL→Prop
 | _,a,[]=>a=b
 | q,a,s::r=>s.1=a∧a<s.2.1∧q≠H s.2.2∧(∀ t,a≤t→t<s.2.1→f t=s.2.2)∧Cov f b (H s.2.2) s.2.1 r
theorem Ch.le {f:D→D} {b:D}:∀ {l:SgL} {a:D},Ch f b a l→a≤b
 | [],_,h=>Int.le_of_eq h
 | _::_,_,h=>ye h.2.1 h.2.2.2.le
theorem Ch.app {f:D→D} {b c:D}:∀ {l r:SgL} {a:D},Ch f b a l→Ch f c b r→Ch f c a (l++r)
 | [],_,_,h,h'=>by have h:_=_:=h;subst h;exact h'
 | _::_,_,_,h,h'=>⟨h.1,h.2.1,h.2.2.1,h.2.2.2.app h'⟩
theorem Ch.snoc {f:D→D} {b c p:D} {l:SgL} {a:D} (h:Ch f b a l) (hbc:b≤c) (hp:∀ t,b≤t→t<c→f t=p):Ch f c a (l++[(b,(c,p))]):=
 h.app ⟨rfl,hbc,hp,rfl⟩
theorem Cov.ch {f:D→D} {b:D}:∀ {l:SgL} {q:I D} {a:D},Cov f b q a l→Ch f b a l
 | [],_,_,h=>h
 | _::_,_,_,h=>⟨h.1,Int.le_of_lt h.2.1,h.2.2.2.1,h.2.2.2.2.ch⟩
theorem Cov.uniq {f:D→D} {b:D}:∀ {l l':SgL} {q:I D} {a:D},Cov f b q a l→Cov f b q a l'→l=l'
 | [],[],_,_,_,_=>rfl
 | [],_::_,_,_,h,h'=>by have:=h'.2.1;have:=h'.2.2.2.2.ch.le;have h:_=_:=h;omega
 | _::_,[],_,_,h,h'=>by have:=h.2.1;have:=h.2.2.2.2.ch.le;have h':_=_:=h';omega
 | s::r,s'::r',q,a,h,h'=>by
  obtain ⟨h1,h2,h3,h4,h5⟩:=h
  obtain ⟨g1,g2,g3,g4,g5⟩:=h'
  have hp:s.2.2=s'.2.2:=by rw [←h4 a omg_ h2,←g4 a omg_ g2]
  have ht:s.2.1=s'.2.1:=by
   apply kn
   intro hne
   by_cases hlt:s.2.1<s'.2.1
   ·match r,h5 with
    | [],h5=>have:=g5.ch.le;have h5:_=_:=h5;omega
    | u::v,h5=>
     have e1:=h5.2.2.2.1 s.2.1 omg_ h5.2.1
     have e2:=g4 s.2.1 omg_ hlt
     exact h5.2.2.1 (by rw [←e1,e2,hp])
   ·match r',g5 with
    | [],g5=>have:=h5.ch.le;have g5:_=_:=g5;omega
    | u::v,g5=>
     have e1:=g5.2.2.2.1 s'.2.1 omg_ g5.2.1
     have e2:=h4 s'.2.1 omg_ omg_
     exact g5.2.2.1 (by rw [←e1,e2,hp])
  have hs:s=s':=Prod.ext (by rw [h1,g1]) (Prod.ext ht hp)
  subst hs
  rw [h5.uniq g5]
def lstP:I D→SgL→I D
 | q,[]=>q
 | _,s::r=>lstP (H s.2.2) r
theorem jpe:∀ (l:SgL) (q:I D) (s:SgT),lstP q (l++[s])=H s.2.2
 | [],_,_=>rfl
 | _::r,_,s=>jpe r _ s
theorem Cov.snoc {f:D→D} {b c p:D}:∀ {l:SgL} {q:I D} {a:D},Cov f b q a l→b<c→lstP q l≠H p→(∀ t,b≤t→t<c→f t=p)→Cov f c q a (l++[(b,(c,p))])
 | [],_,_,h,hbc,hl,hp=>by have h:_=_:=h;subst h;exact ⟨rfl,hbc,hl,hp,rfl⟩
 | _::_,_,_,h,hbc,hl,hp=>⟨h.1,h.2.1,h.2.2.1,h.2.2.2.1,h.2.2.2.2.snoc hbc hl hp⟩
theorem Cov.ext {f:D→D} {b c x p:D}:∀ {l:SgL} {q:I D} {a:D},Cov f b q a (l++[(x,(b,p))])→b≤c→(∀ t,b≤t→t<c→f t=p)→Cov f c q a (l++[(x,(c,p))])
 | [],_,_,h,hbc,hp=>⟨h.1,by have:=h.2.1;dsimp only at this ⊢;omega,h.2.2.1,fun t h1 h2=>by
  by_cases ht:t<b
  ·exact h.2.2.2.1 t h1 ht
  ·exact hp t omg_ h2,rfl⟩
 | _::_,_,_,h,hbc,hp=>⟨h.1,h.2.1,h.2.2.1,h.2.2.2.1,h.2.2.2.2.ext hbc hp⟩
def mgA (out:SgL) (s:SgT):SgL:=
 if s.2.1≤s.1 then out else match out.getLast? with
  | some x=>if x.2.1=s.1∧x.2.2=s.2.2 then out.dropLast++[(x.1,(s.2.1,x.2.2))] else out++[s]
  | none=>out++[s]
theorem jx8 {f:D→D} {a b:D} {out:SgL} (h:Cov f b X a out) {s:SgT} (h1:s.1=b) (h2:b≤s.2.1) (h3:∀ t,b≤t→t<s.2.1→f t=s.2.2):Cov f s.2.1 X a (mgA out s):=by
 obtain ⟨x,y,p⟩:=s
 dsimp only at h1 h2 h3 ⊢
 subst h1
 unfold mgA
 dsimp only
 by_cases hxy:y≤x
 ·rw [if_pos hxy]
  have:y=x:=omg_
  subst this;exact h
 ·rw [if_neg hxy]
  rcases vb out with rfl | ⟨l,u,rfl⟩
  ·exact h.snoc omg_ (by simp [lstP]) h3
  ·rw [vc] at h ⊢
   rw [yd]
   simp only [vj,Option.some_or]
   by_cases hu:u.2.1=x∧u.2.2=p
   ·rw [if_pos hu,yc]
    obtain ⟨u1,u2,u3⟩:=u
    dsimp only at hu ⊢
    obtain ⟨rfl,rfl⟩:=hu
    exact h.ext h2 h3
   ·rw [if_neg hu]
    refine h.snoc omg_ ?_ h3
    rw [jpe]
    intro e
    have hp:u.2.2=p:=by simpa using e
    refine hu ⟨?_,hp⟩
    have:∀ (l:SgL) (q:I D) (a:D),Cov f x q a (l++[u])→u.2.1=x:=by
     intro l
     induction l with
     | nil=>intro q a h;exact h.2.2.2.2
     | cons v r ih=>intro q a h;exact ih _ _ h.2.2.2.2
    exact this l _ _ h
theorem jx9 {f:D→D} {b:D}:∀ (l:SgL) {a c:D} {out:SgL},Cov f c X a out→Ch f b c l→Cov f b X a (l.foldl mgA out)
 | [],_,_,_,h,h'=>by have h':_=_:=h';subst h';exact h
 | s::r,_,_,_,h,h'=>jx9 r (jx8 h h'.1 h'.2.1 h'.2.2.1) h'.2.2.2
theorem Ch.cov {f:D→D} {a b:D} {l:SgL} (h:Ch f b a l):Cov f b X a (l.foldl mgA []):=jx9 l (show Cov f a X a [] from rfl) h
theorem Ch.mem {f:D→D} {b:D}:∀ {l:SgL} {a:D},Ch f b a l→∀ s∈l,a≤s.1∧s.1≤s.2.1∧s.2.1≤b∧∀ t,s.1≤t→t<s.2.1→f t=s.2.2
 | [],_,_,s,hs=>by simp at hs
 | u::r,a,h,s,hs=>by
  obtain ⟨h1,h2,h3,h4⟩:=h
  rcases jl.1 hs with rfl | hs
  ·exact ⟨omg_,omg_,h4.le,fun t t1 t2=>h3 t omg_ t2⟩
  ·have:=h4.mem s hs
   exact ⟨omg_,this.2.1,this.2.2.1,this.2.2.2⟩
theorem Ch.has {f:D→D} {b:D}:∀ {l:SgL} {a:D},Ch f b a l→∀ x,a≤x→x<b→∃ s∈l,s.1≤x∧x<s.2.1
 | [],_,h,x,h1,h2=>by have h:_=_:=h;omega
 | u::r,a,h,x,h1,h2=>by
  obtain ⟨g1,g2,g3,g4⟩:=h
  by_cases hx:x<u.2.1
  ·exact ⟨u,smp_,omg_,hx⟩
  ·obtain ⟨s,hs,e⟩:=g4.has x omg_ h2
   exact ⟨s,by simp [hs],e⟩
theorem Ch.congr {f g:D→D} {b:D}:∀ {l:SgL} {a:D},Ch f b a l→(∀ t,a≤t→t<b→f t=g t)→Ch g b a l
 | [],_,h,_=>h
 | u::r,a,h,hg=>by
  obtain ⟨g1,g2,g3,g4⟩:=h
  have:=g4.le
  exact ⟨g1,g2,fun t t1 t2=>by rw [←hg t t1 omg_];exact g3 t t1 t2,g4.congr (fun t t1 t2=>hg t omg_ t2)⟩
theorem Cov.pos {f:D→D} {b:D}:∀ {l:SgL} {q:I D} {a:D},Cov f b q a l→∀ s∈l,s.1<s.2.1
 | [],_,_,_,s,hs=>by simp at hs
 | u::r,_,a,h,s,hs=>by
  rcases jl.1 hs with rfl | hs
  ·have:=h.1;have:=h.2.1;omega
  ·exact h.2.2.2.2.pos s hs
end Go.Proofs.Pw
