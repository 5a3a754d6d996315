/- The reference's sort of numbers, each once; the borders of a range. -/
import Derived.Test.YtllkgjaoejhneaaGreatDEPA
import Derived.Test.YtllkgjaoejhneaaGreatDEFns
import Derived.Test.YtllkgjaoejhneaaGreatDEPI
import Derived.Test.YtllkgjaoejhneaaGreatDEPD
import Derived.Test.YtllkgjaoejhneaaGreatDEPJ
open _root_ renaming Int->p,List->B,Nat->J
open Int renaming ofNat->E
open ByteArray renaming empty->F
open Option renaming some->G,none->Z
open Decidable renaming decide->H
open List.Pairwise renaming nil->I
open List renaming getD->M,length_filter_le->N,not_mem_nil->O
open Go Go.Lft
namespace Go.Proofs.Pw
def ap3 (out:B p) (x:p):B Int:=cond (cond (H (out.length=0)) true (out.getD (out.length-1) 0 != x)) (out++[x]) out
def mg3:J→B p→B p→B p→B p
 | 0,out,_,_=>out
 | n+1,out,x::a,y::b=>cond (H (x≤y)) (mg3 n (ap3 out x) a (y::b)) (mg3 n (ap3 out y) (x::a) b)
 | n+1,out,x::a,[]=>mg3 n (ap3 out x) a []
 | n+1,out,[],y::b=>mg3 n (ap3 out y) [] b
 | _+1,out,[],[]=>out
def so3:J→B p→B p
 | 0,l=>l
 | n+1,l=>if l.length<2 then l else mg3 l.length [] (so3 n (l.take (l.length/2))) (so3 n (l.drop (l.length/2)))
theorem jia (out:B p) (x:p):(ap3 out x).length≤out.length+1:=by
 unfold ap3
 cases (cond (H (out.length=0)) true (out.getD (out.length-1) 0 != x))<;>simp
theorem jrL {out:B p} {x:p} (h:out.Pairwise (· < ·)) (hx:∀ y∈out,y≤x):(ap3 out x).Pairwise (· < ·)∧(∀ y,y∈ap3 out x↔y∈out∨y=x)∧∀ y∈ap3 out x,y≤x:=by
 rcases vb out with rfl | ⟨A,u,rfl⟩
 ·refine ⟨by simp [ap3],fun y=>by simp [ap3],fun y hy=> ?_⟩
  have:y=x:=by simpa [ap3] using hy
  omega
 ·rw [vc] at h hx ⊢
  have hg:(A++[u]).getD ((A++[u]).length-1) (0:p)=u:=by simp [M]
  unfold ap3
  rw [hg,j01 (show ¬ (A++[u]).length=0 by simp),jd]
  by_cases he:u=x
  ·subst he
   rw [jm,jd]
   exact ⟨h,fun y=>⟨.inl,fun hy=>hy.elim id fun e=>by simp [e]⟩,hx⟩
  ·have hne:(u != x)=true:=by simp [he]
   rw [hne,jc]
   have hux:=hx u smp_
   have hA:=(List.pairwise_append.1 h).2.2
   refine ⟨List.pairwise_append.2 ⟨h,smp_,fun y hy z hz=> ?_⟩,fun y=>by simp [or_assoc],fun y hy=> ?_⟩
   ·have:z=x:=by simpa using hz
    subst this
    rcases js.1 hy with hy | hy
    ·have:=hA y hy u smp_;omega
    ·have:y=u:=by simpa using hy
     omega
   ·rcases js.1 hy with hy | hy
    ·exact hx y hy
    ·have:y=x:=by simpa using hy
     omega
theorem jph:∀ (n:J) (out a b:B p),n=a.length+b.length→out.Pairwise (· < ·)→a.Pairwise (· < ·)→b.Pairwise (· < ·)→(∀ x∈out,(∀ y∈a,x≤y)∧∀ y∈b,x≤y)→
  (mg3 n out a b).Pairwise (· < ·)∧(∀ x,x∈mg3 n out a b↔x∈out∨x∈a∨x∈b)∧(mg3 n out a b).length≤out.length+n
 | 0,out,a,b,hn,ho,_,_,_=>by
  have h1:a=[]:=zo.1 omg_
  have h2:b=[]:=zo.1 omg_
  subst h1;subst h2
  exact ⟨ho,fun x=>by simp [mg3],by simp [mg3]⟩
 | n+1,out,x::a,y::b,hn,ho,ha,hb,hle=>by
  have ha':=zi.1 ha
  have hb':=zi.1 hb
  simp only [jp] at hn
  unfold mg3
  by_cases hxy:x≤y
  ·rw [j00 hxy,jc]
   obtain ⟨p1,p2,p3⟩:=jrL (x:=x) ho (fun z hz=>(hle z hz).1 x smp_)
   obtain ⟨q1,q2,q3⟩:=jph n (ap3 out x) a (y::b) sqo_ p1 ha'.2 hb (fun z hz=>by
    have:=p3 z hz
    refine ⟨fun u hu=>by have:=ha'.1 u hu;omega,fun u hu=> ?_⟩
    rcases jl.1 hu with rfl | hu
    ·omega
    ·have:=hb'.1 u hu;omega)
   have:=jia out x
   refine ⟨q1,fun z=> ?_,omg_⟩
   rw [q2 z,p2 z]
   simp only [jl]
   constructor
   ·rintro ((h | h) | h | h)
    ·exact .inl h
    ·exact .inr (.inl (.inl h))
    ·exact .inr (.inl (.inr h))
    ·exact .inr (.inr h)
   ·rintro (h | (h | h) | h)
    ·exact .inl (.inl h)
    ·exact .inl (.inr h)
    ·exact .inr (.inl h)
    ·exact .inr (.inr h)
  ·rw [j01 hxy,jd]
   obtain ⟨p1,p2,p3⟩:=jrL (x:=y) ho (fun z hz=>(hle z hz).2 y smp_)
   obtain ⟨q1,q2,q3⟩:=jph n (ap3 out y) (x::a) b sqo_ p1 ha hb'.2 (fun z hz=>by
    have:=p3 z hz
    refine ⟨fun u hu=> ?_,fun u hu=>by have:=hb'.1 u hu;omega⟩
    rcases jl.1 hu with rfl | hu
    ·omega
    ·have:=ha'.1 u hu;omega)
   have:=jia out y
   refine ⟨q1,fun z=> ?_,omg_⟩
   rw [q2 z,p2 z]
   simp only [jl]
   constructor
   ·rintro ((h | h) | h | h)
    ·exact .inl h
    ·exact .inr (.inr (.inl h))
    ·exact .inr (.inl h)
    ·exact .inr (.inr (.inr h))
   ·rintro (h | h | h | h)
    ·exact .inl (.inl h)
    ·exact .inr (.inl h)
    ·exact .inl (.inr h)
    ·exact .inr (.inr h)
 | n+1,out,x::a,[],hn,ho,ha,hb,hle=>by
  have ha':=zi.1 ha
  simp only [jp,qc] at hn
  obtain ⟨p1,p2,p3⟩:=jrL (x:=x) ho (fun z hz=>(hle z hz).1 x smp_)
  obtain ⟨q1,q2,q3⟩:=jph n (ap3 out x) a [] sqo_ p1 ha'.2 hb (fun z hz=>⟨fun u hu=>by have:=ha'.1 u hu;have:=p3 z hz;omega,fun u hu=>by simp at hu⟩)
  have:=jia out x
  refine ⟨q1,fun z=> ?_,by show (mg3 n (ap3 out x) a []).length≤_;omega⟩
  show z∈mg3 n (ap3 out x) a []↔_
  rw [q2 z,p2 z]
  simp only [jl,O,or_false,or_assoc]
 | n+1,out,[],y::b,hn,ho,ha,hb,hle=>by
  have hb':=zi.1 hb
  simp only [jp,qc] at hn
  obtain ⟨p1,p2,p3⟩:=jrL (x:=y) ho (fun z hz=>(hle z hz).2 y smp_)
  obtain ⟨q1,q2,q3⟩:=jph n (ap3 out y) [] b sqo_ p1 ha hb'.2 (fun z hz=>⟨fun u hu=>by simp at hu,fun u hu=>by have:=hb'.1 u hu;have:=p3 z hz;omega⟩)
  have:=jia out y
  refine ⟨q1,fun z=> ?_,by show (mg3 n (ap3 out y) [] b).length≤_;omega⟩
  show z∈mg3 n (ap3 out y) [] b↔_
  rw [q2 z,p2 z]
  simp only [jl,O,false_or,or_assoc]
 | n+1,out,[],[],hn,_,_,_,_=>by simp at hn
theorem jrM:∀ (n:J) (out a b:B p),a.length+b.length≤n→mg3 n out a b=mg3 (a.length+b.length) out a b:=by
 intro n
 induction n with
 | zero=>intro out a b h;have:a.length+b.length=0:=omg_
         rw [this]
 | succ n ih=>
  intro out a b h
  match a,b,h with
  | [],[],_=>rfl
  | x::a,[],h=>
   simp only [jp,qc,Nat.add_zero] at h ⊢
   show mg3 n (ap3 out x) a []=mg3 a.length (ap3 out x) a []
   have:=ih (ap3 out x) a [] sqo_
   simpa using this
  | [],y::b,h=>
   simp only [jp,qc,kj] at h ⊢
   show mg3 n (ap3 out y) [] b=mg3 b.length (ap3 out y) [] b
   have:=ih (ap3 out y) [] b sqo_
   simpa using this
  | x::a,y::b,h=>
   simp only [jp] at h ⊢
   rw [show a.length+1+(b.length+1)=(a.length+b.length+1)+1 by omega]
   show cond _ (mg3 n (ap3 out x) a (y::b)) (mg3 n (ap3 out y) (x::a) b)=cond _ (mg3 (a.length+b.length+1) (ap3 out x) a (y::b)) (mg3 (a.length+b.length+1) (ap3 out y) (x::a) b)
   have h1:=ih (ap3 out x) a (y::b) sqo_
   have h2:=ih (ap3 out y) (x::a) b sqo_
   simp only [jp] at h1 h2
   rw [h1,h2,show a.length+(b.length+1)=a.length+b.length+1 by omega,show a.length+1+b.length=a.length+b.length+1 by omega]
theorem jlV:∀ (n:J) (l:B p),l.length≤n+1→(so3 n l).Pairwise (· < ·)∧(∀ x,x∈so3 n l↔x∈l)∧(so3 n l).length≤l.length
 | 0,l,hl=>by
  refine ⟨?_,fun x=>Iff.rfl,jz _⟩
  match l,hl with
  | [],_=>exact I
  | [x],_=>show List.Pairwise (· < ·) [x];simp
 | n+1,l,hl=>by
  unfold so3
  by_cases h2:l.length<2
  ·rw [if_pos h2]
   refine ⟨?_,fun x=>Iff.rfl,jz _⟩
   match l,h2 with
   | [],_=>exact I
   | [x],_=>simp
  ·rw [if_neg h2]
   obtain ⟨a1,a2,a3⟩:=jlV n (l.take (l.length/2)) sqo_
   obtain ⟨b1,b2,b3⟩:=jlV n (l.drop (l.length/2)) sqo_
   simp only [qq,qz] at a3 b3
   rw [jrM l.length [] _ _ omg_]
   obtain ⟨q1,q2,q3⟩:=jph _ [] (so3 n (l.take (l.length/2))) (so3 n (l.drop (l.length/2))) rfl I a1 b1 (fun x hx=>by simp at hx)
   refine ⟨q1,fun x=> ?_,by simp at q3;omega⟩
   rw [q2 x,a2 x,b2 x]
   have hx:x∈l↔x∈l.take (l.length/2)++l.drop (l.length/2):=by rw [qv]
   rw [hx,js]
   simp
theorem jj9:∀ (n m:J) (l:B p),l.length≤n+1→l.length≤m+1→so3 n l=so3 m l
 | 0,0,_,_,_=>rfl
 | 0,m+1,l,h,_=>by unfold so3;rw [if_pos omg_]
 | n+1,0,l,_,h=>by unfold so3;rw [if_pos omg_]
 | n+1,m+1,l,h1,h2=>by
  unfold so3
  by_cases h:l.length<2
  ·rw [if_pos h,if_pos h]
  ·rw [if_neg h,if_neg h,jj9 n m _ sqo_ sqo_,jj9 n m _ sqo_ sqo_]
theorem jja {R:Type} (out:B p) (x:p) (hl:out.length≤400000000) (K:B p→Option R) :
  cond ((inR (w64 ((out.length:p)-1)) out.length) || !(!((out.length:p)==0))) (cond (cond ((out.length:p)==0) true (out.getD (w64 ((out.length:p)-1)).toNat 0 != x)) (cond (H (out.length+[x].length≤j05)) (K (out++[x])) Z) (K out)) Z=K (ap3 out x):=by
 rw [j07 (x:=(out.length:p)-1)]
 by_cases h0:out.length=0
 ·have e:((out.length:p)==0)=true:=j5N omg_
  have:out=[]:=zo.1 h0
  subst this
  rfl
 ·have e:((out.length:p)==0)=false:=j2q omg_
  rw [e,j1v (i:=(out.length:p)-1) omg_ omg_,show ((out.length:p)-1).toNat=out.length-1 by omega]
  simp only [zu,jc,jd]
  unfold ap3
  rw [j01 h0,jd,j00 (show out.length+[x].length≤j05 by simp [j05];omega),jc]
  cases (out.getD (out.length-1) 0 != x)<;>rfl
theorem jyC (rec:B p→Option (B p)) {a b:B p} (ha:a.length≤100000000) (hb:b.length≤100000000):∀ (n i j:J) (out:B p),i≤a.length→j≤b.length→n=(a.length-i)+(b.length-j)→out.length+n≤200000000→
  jdl rec (i:p) (j:p) out a b=G (mg3 n out (a.drop i) (b.drop j))
 | 0,i,j,out,hi,hj,hn,_=>by
  rw [jfA]
  simp only [j5t,show E a.length=(a.length:p) from rfl,show E b.length=(b.length:p) from rfl]
  rw [j01 (show ¬ (i:p)<(a.length:p) by omega),jd,j01 (show ¬ (j:p)<(b.length:p) by omega),jd,j08]
  rfl
 | n+1,i,j,out,hi,hj,hn,ho=>by
  have iha:=fun (x:p) (h:i<a.length)=>jyC rec ha hb n (i+1) j (ap3 out x) omg_ hj omg_ (by have:=jia out x;omega)
  have ihb:=fun (x:p) (h:j<b.length)=>jyC rec ha hb n i (j+1) (ap3 out x) hi omg_ omg_ (by have:=jia out x;omega)
  rw [jfA]
  simp only [j5t,show E a.length=(a.length:p) from rfl,show E b.length=(b.length:p) from rfl,show E out.length=(out.length:p) from rfl]
  have ec:cond (H ((i:p)<(a.length:p))) true (H ((j:p)<(b.length:p)))=true:=by
   by_cases h:i<a.length
   ·rw [j00 omg_];rfl
   ·rw [j01 omg_,j00 (show (j:p)<(b.length:p) by omega)];rfl
  rw [ec,jc]
  by_cases hja:j=b.length
  ·have hia:i<a.length:=omg_
   have hga:a.getD i (0:p)=a[i]:=by simp [M,hia]
   rw [j5N (show (j:p)=(b.length:p) by omega),jc,j1v (i:=(i:p)) (n:=a.length) omg_ omg_,jc,j07 (x:=(i:p)+1)]
   simp only [je,hga]
   rw [jja out a[i] omg_ (fun o=>G (Sum.inl ((i:p)+1,(j:p),o,a,b))),j06]
   have:=iha a[i] hia
   rw [show ((i+1:J):p)=(i:p)+1 by omega] at this
   refine this.trans ?_
   rw [jh hia,show b.drop j=[] from jj omg_]
   rfl
  ·have hjb:j<b.length:=omg_
   have hgb:b.getD j (0:p)=b[j]:=by simp [M,hjb]
   rw [j2q (show (j:p)≠(b.length:p) by omega),jd]
   by_cases hia:i<a.length
   ·have hga:a.getD i (0:p)=a[i]:=by simp [M,hia]
    rw [j00 (show (i:p)<(a.length:p) by omega),jc,j1v (i:=(i:p)) (n:=a.length) omg_ omg_,j1v (i:=(j:p)) (n:=b.length) omg_ omg_,j07 (x:=(i:p)+1),j07 (x:=(j:p)+1)]
    simp only [jc,je,hga,hgb]
    by_cases hxy:a[i]≤b[j]
    ·rw [j00 hxy,jc,jja out a[i] omg_ (fun o=>G (Sum.inl ((i:p)+1,(j:p),o,a,b))),j06]
     have:=iha a[i] hia
     rw [show ((i+1:J):p)=(i:p)+1 by omega] at this
     refine this.trans ?_
     rw [jh hia,jh hjb]
     show _=G (cond (H (a[i]≤b[j])) _ _)
     rw [j00 hxy,jc]
    ·rw [j01 hxy,jd,jja out b[j] omg_ (fun o=>G (Sum.inl ((i:p),(j:p)+1,o,a,b))),j06]
     have:=ihb b[j] hjb
     rw [show ((j+1:J):p)=(j:p)+1 by omega] at this
     refine this.trans ?_
     rw [jh hia,jh hjb]
     show _=G (cond (H (a[i]≤b[j])) _ _)
     rw [j01 hxy,jd]
   ·rw [j01 (show ¬ (i:p)<(a.length:p) by omega),jd,j1v (i:=(j:p)) (n:=b.length) omg_ omg_,jc,j07 (x:=(j:p)+1)]
    simp only [je,hgb]
    rw [jja out b[j] omg_ (fun o=>G (Sum.inl ((i:p),(j:p)+1,o,a,b))),j06]
    have:=ihb b[j] hjb
    rw [show ((j+1:J):p)=(j:p)+1 by omega] at this
    refine this.trans ?_
    rw [jh hjb,show a.drop i=[] from jj omg_]
    rfl
theorem jwy:∀ (n:J) (l:B p),l.length≤50000000→(jdb j4p n l=Z∧n≤l.length)∨jdb j4p n l=G (so3 l.length l)
 | 0,l,_=> .inl ⟨rfl,kq _⟩
 | n+1,l,hl=>by
  show (j9Y (fun v0=>jdb j4p n v0) l=Z∧_)∨j9Y (fun v0=>jdb j4p n v0) l=_
  simp only [j9Y,show E l.length=(l.length:p) from rfl]
  by_cases h2:l.length<2
  ·right
   rw [j00 (show (l.length:p)<2 by omega),jc,j00 (show ([]:B p).length+l.length≤j05 by simp [j05];omega),jc,kg]
   cases hk:l.length with
   | zero=>rfl
   | succ k=>unfold so3;rw [if_pos h2]
  ·rw [j01 (show ¬ (l.length:p)<2 by omega),jd,jdN omg_,j07 (x:=(l.length:p)/2),show ((l.length:p)/2).toNat=l.length/2 by omega]
   rw [j00 (show (0:p)≤0 by omega),j00 (show (0:p)≤(l.length:p)/2 by omega),j00 (show (l.length:p)/2≤(l.length:p) by omega),j00 (show (l.length:p)≤(l.length:p) by omega)]
   simp only [y8,jc,jy,List.take_length]
   have hA:(l.take (l.length/2)).length=l.length/2:=sqo_
   have hB:(l.drop (l.length/2)).length=l.length-l.length/2:=smp_
   rcases jwy n (l.take (l.length/2)) omg_ with ⟨e1,k1⟩ | e1
   ·exact .inl ⟨by rw [e1];rfl,omg_⟩
   ·rw [e1,ja]
    rcases jwy n (l.drop (l.length/2)) omg_ with ⟨e2,k2⟩ | e2
    ·exact .inl ⟨by rw [e2];rfl,omg_⟩
    ·right
     rw [e2,ja]
     have o1:=jlV (l.take (l.length/2)).length (l.take (l.length/2)) omg_
     have o2:=jlV (l.drop (l.length/2)).length (l.drop (l.length/2)) omg_
     generalize hSA:so3 (l.take (l.length/2)).length (l.take (l.length/2))=SA at *
     generalize hSB:so3 (l.drop (l.length/2)).length (l.drop (l.length/2))=SB at *
     have:=jyC (fun v0=>jdb j4p n v0) (a:=SA) (b:=SB) omg_ omg_ (SA.length+SB.length) 0 0 [] omg_ omg_ omg_ sqo_
     rw [show ((0:J):p)=0 from rfl,jy,jy] at this
     rw [this,ja]
     obtain ⟨k,hk⟩:∃ k,l.length=k+1:=⟨l.length-1,omg_⟩
     have e3:so3 l.length l=mg3 l.length [] SA SB:=by
      conv=>lhs;rw [hk];unfold so3
      rw [if_neg h2,←hSA,←hSB,jj9 k (l.take (l.length/2)).length _ omg_ omg_,jj9 k (l.drop (l.length/2)).length _ omg_ omg_]
     rw [e3]
     rw [jrM l.length [] SA SB (by have:=o1.2.2;have:=o2.2.2;omega)]
theorem jwz {l:B p} (hl:l.length≤50000000):jmJ l=G (so3 l.length l):=
 jog ⟨l.length+1,(jwy (l.length+1) l hl).resolve_left (fun h=>by have:=h.2;omega)⟩ (fun n y h=>by
  rcases jwy n l hl with ⟨e,_⟩ | e
  ·rw [e] at h;simp at h
  ·rw [e] at h;exact (Option.some.inj h).symm)
def inBo (a b x:p):Bool:=cond (H (x>a)) (H (x<b)) false
def bord (cuts:B p) (a b:p):B Int:=(a::(so3 cuts.length cuts).filter (inBo a b))++(if b>a then [b] else [])
theorem jzL {a b:p} {l:B p} (hl:l.length≤50000000):∀ (n i:J) (out:B p),i+n=l.length→out.length+n≤100000000→j8K a b (i:p) out l=G (a,b,out++(l.drop i).filter (inBo a b))
 | 0,i,out,hi,_=>by
  rw [jcL]
  simp only [j3W,show E l.length=(l.length:p) from rfl]
  rw [j01 omg_,jd,j08,jj omg_]
  simp
 | n+1,i,out,hi,ho=>by
  have hlt:i<l.length:=omg_
  have hgd:l.getD i (0:p)=l[i]:=by simp [M,hlt]
  rw [jcL,jh hlt]
  simp only [j3W,show E l.length=(l.length:p) from rfl]
  rw [j00 (show (i:p)<(l.length:p) by omega),j1v (i:=(i:p)) omg_ omg_,j07 (x:=(i:p)+1)]
  simp only [jc,je,hgd,zu]
  have ih:=fun out h=>jzL (a:=a) (b:=b) hl n (i+1) out omg_ h
  rw [show ((i+1:J):p)=(i:p)+1 by omega] at ih
  show lpK (cond (inBo a b l[i]) _ _) _=_
  cases hc:inBo a b l[i] with
  | true=>
   rw [jc,j00 (by simp [j05];omega),jc,j06,List.filter_cons_of_pos hc]
   have:=ih (out++[l[i]]) sqo_
   rw [jr] at this
   exact this
  | false=>
   rw [jd,j06,List.filter_cons_of_neg (by simp [hc])]
   exact ih out omg_
theorem jsR {cuts:B p} (hl:cuts.length≤49000000) (a b:p):j8t cuts a b=G (bord cuts a b):=by
 obtain ⟨_,_,h3⟩:=jlV cuts.length cuts omg_
 have:=jzL (a:=a) (b:=b) (l:=so3 cuts.length cuts) omg_ (so3 cuts.length cuts).length 0 [a] omg_ sqo_
 rw [show ((0:J):p)=0 from rfl,jy] at this
 have hfl:((so3 cuts.length cuts).filter (inBo a b)).length≤(so3 cuts.length cuts).length:=N _ _
 simp only [j8t,jwz (show cuts.length≤50000000 by omega),ja,this]
 unfold bord
 by_cases hab:b>a
 ·rw [j00 hab,jc,j00 (by simp [j05];omega),jc,if_pos hab]
  rfl
 ·rw [j01 hab,jd,if_neg hab,ql]
  rfl
theorem jyD (cuts:B p) {a b:p} (hab:a≤b):(bord cuts a b).Pairwise (· < ·)∧(bord cuts a b).length≤cuts.length+2∧(∀ x∈bord cuts a b,a≤x∧x≤b)∧(∀ c∈cuts,a<c→c<b→c∈bord cuts a b)∧
  (∃ r,bord cuts a b=a::r)∧(a<b→∃ r,bord cuts a b=r++[b])∧(a=b→bord cuts a b=[a]):=by
 obtain ⟨h1,h2,h3⟩:=jlV cuts.length cuts omg_
 have hfl:((so3 cuts.length cuts).filter (inBo a b)).length≤(so3 cuts.length cuts).length:=N _ _
 have hin:∀ x,x∈(so3 cuts.length cuts).filter (inBo a b)↔x∈cuts∧a<x∧x<b:=fun x=>by
  rw [List.mem_filter,h2 x]
  unfold inBo
  constructor
  ·rintro ⟨hx,hc⟩
   by_cases hxa:x>a
   ·rw [j00 hxa,jc] at hc;exact ⟨hx,hxa,qe hc⟩
   ·rw [j01 hxa,jd] at hc;simp at hc
  ·rintro ⟨hx,hxa,hxb⟩
   exact ⟨hx,by rw [j00 (show x>a from hxa),jc,j00 hxb]⟩
 have hpf:((so3 cuts.length cuts).filter (inBo a b)).Pairwise (· < ·):=h1.filter _
 unfold bord
 by_cases hlt:a<b
 ·rw [if_pos (show b>a from hlt)]
  refine ⟨?_,?_,fun x hx=> ?_,fun c hc h1 h2=> ?_,⟨_,rfl⟩,fun _=>⟨_,rfl⟩,fun h=>omg_⟩
  ·refine List.pairwise_append.2 ⟨zi.2 ⟨fun x hx=>((hin x).1 hx).2.1,hpf⟩,smp_,fun x hx y hy=> ?_⟩
   have:y=b:=by simpa using hy
   subst this
   rcases jl.1 hx with rfl | hx
   ·exact hlt
   ·exact ((hin x).1 hx).2.2
  ·simp only [jo,jp,qc];omega
  ·rcases js.1 hx with hx | hx
   ·rcases jl.1 hx with rfl | hx
    ·omega
    ·have:=(hin x).1 hx;omega
   ·have:x=b:=by simpa using hx
    omega
  ·exact js.2 (.inl (z6 _ ((hin c).2 ⟨hc,h1,h2⟩)))
 ·have hab':a=b:=omg_
  rw [if_neg (show ¬ b>a by omega)]
  have hnil:(so3 cuts.length cuts).filter (inBo a b)=[]:=List.eq_nil_iff_forall_not_mem.2 (fun x hx=>by have:=(hin x).1 hx;omega)
  rw [hnil]
  refine ⟨smp_,smp_,fun x hx=> ?_,fun c hc h1 h2=>omg_,⟨[],rfl⟩,fun h=>omg_,fun _=>rfl⟩
  have:x=a:=by simpa using hx
  omega
section
variable {z:j1l} {l:TrL} (h4:Z4 z l)
include h4
theorem hl10 {L:j0j} (h:Rt L) (from_ to_:p):∀ (n:J) (k:p) (acc:B p),k+n=2386093→0≤k→(acc.length:p)≤k→
  ∃ out,j79 from_ to_ k z.1 z.2.1 z.2.2 L.1 L.2.1 L.2.2.1.1 L.2.2.1.2 L.2.2.2.1 L.2.2.2.2.1 L.2.2.2.2.2.1 L.2.2.2.2.2.2.1 L.2.2.2.2.2.2.2.1 L.2.2.2.2.2.2.2.2 acc=G (0,out)∧(out.length:p)≤2386094∧
   (∀ x∈acc,x∈out)∧∀ j v,k≤j→hO z.2.1 l L j=G v→from_≤v→v<to_→v∈out
 | n,k,acc,hn,hk,ha=>by
  obtain ⟨v',ev',hv'⟩:=r10H h4 h (k:=k) hk omg_
  rw [jg0]
  simp only [j4o]
  rw [show j61 (z.1,(z.2.1,z.2.2)) (L.1,L.2.1,(L.2.2.1.1,L.2.2.1.2),L.2.2.2.1,L.2.2.2.2.1,L.2.2.2.2.2.1,L.2.2.2.2.2.2.1,L.2.2.2.2.2.2.2.1,L.2.2.2.2.2.2.2.2) k=_ from ev']
  simp only [ja]
  cases hx:hO z.2.1 l L k with
  | none=>
   simp only [va,jt,jc,j08]
   refine ⟨acc,rfl,omg_,fun x hx=>hx,fun j v hj hv _ _=> ?_⟩
   obtain ⟨u,hu,_⟩:=QO.le h4.2 h hj ⟨v,hv,kr v⟩
   rw [hx] at hu;simp at hu
  | some t=>
   have:=hv' t hx
   subst v'
   simp only [zh,jk,jd]
   by_cases hto:t≥to_
   ·rw [j00 hto]
    simp only [jc,j08]
    refine ⟨acc,rfl,omg_,fun x hx=>hx,fun j v hj hv _ hvt=> ?_⟩
    obtain ⟨u,hu,huv⟩:=QO.le h4.2 h hj ⟨v,hv,kr v⟩
    rw [hx] at hu;simp at hu;omega
   ·rw [j01 hto,j00 (show acc.length+[t].length≤j05 by simp [j05];omega),j07 (x:=k+1)]
    simp only [jc,jd]
    cases n with
    | zero=>
     have:=jqH h4.2 h hk hx
     omega
    | succ n=>
     by_cases hfr:t≥from_
     ·rw [j00 hfr]
      simp only [jc,j06]
      obtain ⟨out,e1,e2,e3,e4⟩:=hl10 h from_ to_ n (k+1) (acc++[t]) omg_ omg_ sqo_
      refine ⟨out,e1,e2,fun x hx=>e3 x (by simp [hx]),fun j v hj hv h1 h2=> ?_⟩
      by_cases hjk:j=k
      ·subst hjk
       rw [hx] at hv;simp at hv;subst hv
       exact e3 t smp_
      ·exact e4 j v omg_ hv h1 h2
     ·rw [j01 hfr]
      simp only [jd,j06]
      obtain ⟨out,e1,e2,e3,e4⟩:=hl10 h from_ to_ n (k+1) acc omg_ omg_ omg_
      refine ⟨out,e1,e2,e3,fun j v hj hv h1 h2=> ?_⟩
      by_cases hjk:j=k
      ·subst hjk
       rw [hx] at hv;simp at hv;omega
      ·exact e4 j v omg_ hv h1 h2
theorem jzM {a b:p} (ha:0≤a) (hab:a≤b) (hb:b≤8589934592) (hq:b-a≤34560000):j6M a b=G true:=by
 have _:=h4
 simp only [j6M]
 rw [j00 (show a≥0 from ha),j00 (show a≤8589934592 by omega),j00 (show b≥a from hab),j00 hb,j07 (x:=b-a),j00 hq]
 rfl
theorem jwA {L:j0j} (h:Rt L) {a b:p} (ha:0≤a) (hab:a≤b) (hb:b≤8589934592) (hq:b-a≤34560000):∃ out,j7X z L a b=G (out,0)∧out.length≤2386094∧∀ j v,0≤j→hO z.2.1 l L j=G v→a<v→v<b→v∈out:=by
 obtain ⟨K,eK,hK⟩:=jzz h4 h ha omg_
 have hKb:K≤2386092:=by
  rcases hK with ⟨hK,_⟩ | ⟨hK,⟨y,hy,_⟩,_⟩
  ·omega
  ·exact (jqH h4.2 h hK hy).2.2
 obtain ⟨k0,hk0⟩:∃ k0:p,k0=(if K>0 then K else 0):=⟨_,rfl⟩
 have hk1:0≤k0∧k0≤2386092∧(0<k0→k0=K):=by rw [hk0];split<;>omega
 obtain ⟨out,e1,e2,_,e4⟩:=hl10 h4 h a b (2386093-k0).toNat k0 [] omg_ hk1.1 sqo_
 refine ⟨out,?_,omg_,fun j v hj hv h1 h2=> ?_⟩
 ·have e2:jaC (z.1,(z.2.1,z.2.2)) (L.1,L.2.1,(L.2.2.1.1,L.2.2.1.2),L.2.2.2.1,L.2.2.2.2.1,L.2.2.2.2.2.1,L.2.2.2.2.2.2.1,L.2.2.2.2.2.2.2.1,L.2.2.2.2.2.2.2.2)=_:=jkE h4 L
  simp only [j7X,e2,ja]
  rw [if_pos h]
  simp only [jm,jd,jzM h4 ha hab hb hq,ja,jk]
  rw [show jaE (z.1,(z.2.1,z.2.2)) (L.1,L.2.1,(L.2.2.1.1,L.2.2.1.2),L.2.2.2.1,L.2.2.2.2.1,L.2.2.2.2.2.1,L.2.2.2.2.2.2.1,L.2.2.2.2.2.2.2.1,L.2.2.2.2.2.2.2.2) a=_ from eK]
  simp only [ja]
  rw [←hk0,e1]
  rfl
 ·by_cases hjk:k0≤j
  ·exact e4 j v hjk hv omg_ h2
  ·exfalso
   have hKk:=hk1.2.2 omg_
   rcases hK with ⟨hK,_⟩ | ⟨hK,hq,_⟩
   ·omega
   ·obtain ⟨u,hu,hua⟩:=QO.le h4.2 h (show j≤K by omega) hq
    rw [hv] at hu;simp at hu;omega
end
theorem jwB {z:j1l} (hz:ZOk z) {L:j0j} (hR:Rt L) {x y:p} (h0:0≤x) (hxy:x≤y) (h1:y≤8589934592) (hno:∀ j v,0≤j→hO z.2.1 (tb z).2 L j=G v→¬ (x<v∧v≤y)):shK z L x=shK z L y:=by
 have a:=(jcV hz hR (t:=x) h0 omg_).2
 have b:=(jcV hz hR (t:=y) omg_ h1).2
 refine ShO.uniq hz.ztab.2 hR (t:=y) ?_ b
 have q:∀ j,0≤j→QO z.2.1 (tb z).2 L y j→QO z.2.1 (tb z).2 L x j:=fun j hj ⟨v,hv,hvy⟩=>⟨v,hv,by have:=hno j v hj hv;omega⟩
 rcases a with ⟨a1,a2⟩ | ⟨a1,a2,a3⟩
 ·exact .inl ⟨a1,fun h=>a2 (q 0 omg_ h)⟩
 ·obtain ⟨v,hv,hvx⟩:=a2
  exact .inr ⟨a1,⟨v,hv,omg_⟩,fun h=>a3 (q _ omg_ h)⟩
theorem jnp {z:j1l} (hz:ZOk z) {t:p} (h0:0≤t) (h1:t≤8589934592) {k:J} (hk:k≤(tb z).2.length) (k1:frm (tb z).2 k≤t) (k2:t<frm (tb z).2 (k+1)) :
  locD z t=((t+tof z.2.1 (tb z).2 k)/86400,(t+tof z.2.1 (tb z).2 k)%86400)∧secD (locD z t)=(t+tof z.2.1 (tb z).2 k+259200)%604800:=by
 have e:=jfe hz.ztab.2 hk k1 k2
 have o0:=hz.ztab.2.of0 k hk;have o1:=hz.ztab.2.of1 k hk
 have el:locD z t=((t+tof z.2.1 (tb z).2 k)/86400,(t+tof z.2.1 (tb z).2 k)%86400):=by
  simp only [locD,show j0o (tb z) t=_ from e,ze]
 refine ⟨el,?_⟩
 have hsc:j6g (locD z t)=G (secD (locD z t)):=(jkF hz h0 h1).2
 have h5:=sec5 (d:=(t+tof z.2.1 (tb z).2 k)/86400) (s:=(t+tof z.2.1 (tb z).2 k)%86400) omg_ omg_ omg_ omg_
 rw [el] at hsc ⊢
 rw [h5] at hsc
 have:=Option.some.inj hsc
 rw [←this]
 congr 1;omega
theorem jwC {W:SL} {x y:p} (hxy:x≤y) (hno:∀ u∈W,¬ (x<u.1∧u.1≤y)∧¬ (x<u.2∧u.2≤y)):inS x W↔inS y W:=by
 constructor
 ·rintro ⟨u,hu,h1,h2⟩
  have:=hno u hu
  exact ⟨u,hu,omg_,omg_⟩
 ·rintro ⟨u,hu,h1,h2⟩
  have:=hno u hu
  exact ⟨u,hu,omg_,omg_⟩
theorem jvj {o:p} {l:TrL} {s:p}:∀ (n j i:J),j≤i→i<j+n→Sol o l s i→s-tof o l i∈ji9 o l s j n
 | 0,_,_,h1,h2,_=>omg_
 | n+1,j,i,h1,h2,hs=>by
  simp only [ji9]
  by_cases he:i=j
  ·subst he;rw [if_pos hs];simp
  ·exact kc _ (jvj n (j+1) i omg_ omg_ hs)
theorem jwD {z:j1l} (hz:ZOk z) {ds:B p} {x y:p} (h0:0≤x) (hxy:x≤y) (h1:y≤8589934592) (htr:∀ i,i<(tb z).2.length→¬ (x<tat (tb z).2 i∧tat (tb z).2 i≤y))
  (hds:∀ d∈ds,∀ i:p,0≤i→i<2→∀ t∈sols z.2.1 (tb z).2 ((d+i)*86400+0),¬ (x<t∧t≤y)):H ((locD z x).1∈ds)=H ((locD z y).1∈ds):=by
 obtain ⟨k,hk,k1,k2⟩:=j8U hz.ztab.2 (t:=x) h0 omg_
 have k3:y<frm (tb z).2 (k+1):=by
  rcases qt k (tb z).2.length with hl | hl
  ·have:=htr k hl
   rw [j7w hl] at k2 ⊢
   omega
  ·rw [show k=(tb z).2.length by omega,j5g];omega
 obtain ⟨e1,_⟩:=jnp hz h0 omg_ hk k1 k2
 obtain ⟨e2,_⟩:=jnp hz (t:=y) omg_ h1 hk omg_ k3
 have key:∀ D:p,x+tof z.2.1 (tb z).2 k<D*86400→D*86400≤y+tof z.2.1 (tb z).2 k→∀ d∈ds,∀ i:p,0≤i→i<2→d+i=D→False:=fun D d1 d2 d hd i i0 i1 hdi=>by
  have hs:Sol z.2.1 (tb z).2 (D*86400+0) k:=⟨omg_,omg_⟩
  have hm:D*86400+0-tof z.2.1 (tb z).2 k∈sols z.2.1 (tb z).2 ((d+i)*86400+0):=by
   rw [hdi]
   exact jvj _ 0 k omg_ omg_ hs
  exact hds d hd i i0 i1 _ hm ⟨omg_,omg_⟩
 rw [e1,e2]
 by_cases he:(x+tof z.2.1 (tb z).2 k)/86400=(y+tof z.2.1 (tb z).2 k)/86400
 ·rw [he]
 ·have hm1:¬ (x+tof z.2.1 (tb z).2 k)/86400∈ds:=fun hd=>key ((x+tof z.2.1 (tb z).2 k)/86400+1) omg_ omg_ _ hd 1 omg_ omg_ rfl
  have hm2:¬ (y+tof z.2.1 (tb z).2 k)/86400∈ds:=fun hd=>key ((y+tof z.2.1 (tb z).2 k)/86400) omg_ omg_ _ hd 0 omg_ omg_ omg_
  rw [j01 hm1,j01 hm2]
def brW (W:SL):B Int:=W.flatMap fun u=>[u.1,u.2]
theorem jyE (W:SL):(brW W).length=2*W.length:=by
 induction W with
 | nil=>rfl
 | cons x r ih=>
  have:brW (x::r)=[x.1,x.2]++brW r:=rfl
  rw [this,jo,ih];simp;omega
section
variable {zs:B j1l} {ps:B j1s} {cs:B CalT} {ss:B j3z}
theorem jzN {L:j0j} {W:SL} (hW:W.length≤10000):∀ (n i:J) (acc:B p),i+n=W.length→acc.length+2*n≤100000000→
  jdj (i:p) zs ps cs ss L.1 L.2.1 L.2.2.1.1 L.2.2.1.2 L.2.2.2.1 L.2.2.2.2.1 L.2.2.2.2.2.1 L.2.2.2.2.2.2.1 L.2.2.2.2.2.2.2.1 L.2.2.2.2.2.2.2.2 acc W=
   G (zs,ps,cs,ss,L.1,L.2.1,L.2.2.1.1,L.2.2.1.2,L.2.2.2.1,L.2.2.2.2.1,L.2.2.2.2.2.1,L.2.2.2.2.2.2.1,L.2.2.2.2.2.2.2.1,L.2.2.2.2.2.2.2.2,acc++brW (W.drop i))
 | 0,i,acc,hi,_=>by
  rw [jfx,jj omg_]
  simp only [j5q,show E W.length=(W.length:p) from rfl]
  rw [j01 omg_,jd,j08]
  simp [brW]
 | n+1,i,acc,hi,ha=>by
  have hlt:i<W.length:=omg_
  have hgd:W.getD i ((0:p),(0:p))=W[i]:=by simp [hlt]
  have ih:=jzN (L:=L) hW n (i+1) (acc++[W[i].1,W[i].2]) omg_ sqo_
  rw [jr] at ih
  rw [jfx,jh hlt]
  simp only [j5q,show E W.length=(W.length:p) from rfl]
  rw [j00 (show (i:p)<(W.length:p) by omega),j1o,j07 (x:=(i:p)+1)]
  simp only [jc,je,hgd]
  rw [j00 (by simp [j05];omega),jc,j06]
  exact ih
theorem jzO {x:CalT} {T:TrL} (hT:T.length≤1000):∀ (n i:J) (acc:B p),i+n=T.length→acc.length+n≤100000000→
  j7h (i:p) zs ps cs ss x.1 x.2.1 x.2.2 acc T=G (zs,ps,cs,ss,x.1,x.2.1,x.2.2,acc++(T.drop i).map (·.1))
 | 0,i,acc,hi,_=>by
  rw [jfy,jj omg_]
  simp only [j5r,show E T.length=(T.length:p) from rfl]
  rw [j01 omg_,jd,j08]
  simp
 | n+1,i,acc,hi,ha=>by
  have hlt:i<T.length:=omg_
  have hgd:T.getD i ((0:p),(0:p))=T[i]:=by simp [hlt]
  have ih:=jzO (x:=x) hT n (i+1) (acc++[T[i].1]) omg_ sqo_
  rw [jr] at ih
  rw [jfy,jh hlt]
  simp only [j5r,show E T.length=(T.length:p) from rfl]
  rw [j00 (show (i:p)<(T.length:p) by omega),j1o,j07 (x:=(i:p)+1)]
  simp only [jc,je,hgd]
  rw [j00 (by simp [j05];omega),jc,j06]
  exact ih
def dyB (z:j1l) (d:p):B Int:=sols z.2.1 (tb z).2 ((d+0)*86400+0)++sols z.2.1 (tb z).2 ((d+1)*86400+0)
theorem jvk {z:j1l} (hz:ZOk z) (d:p):(dyB z d).length≤10:=by
 have h4:(tb z).2.length≤4:=jdR hz
 have a:=jhu (o:=z.2.1) (l:=(tb z).2) ((d+0)*86400+0) ((tb z).2.length+1) 0
 have b:=jhu (o:=z.2.1) (l:=(tb z).2) ((d+1)*86400+0) ((tb z).2.length+1) 0
 unfold dyB sols
 rw [jo]
 omega
theorem jAl (hzs:∀ z∈zs,ZOk z) {x:CalT} (hx:CCk zs.length x) {i:J} (hi:i<x.2.2.length) {acc:B p} (ha:acc.length≤90000000) :
  jdk (i:p) 0 zs ps cs ss x.1 x.2.1 x.2.2 acc=G ((i:p),zs,ps,cs,ss,x.1,x.2.1,x.2.2,acc++dyB (zAt zs x.2.1) x.2.2[i]):=by
 have hz:ZOk (zAt zs x.2.1):=zget hzs hx.z0 hx.z1
 have h4:=hz.zref.2.1
 have hd:=hx.day _ (jx hi)
 have d0:=jzH hd;have d1:=jzG hd
 have hgd:x.2.2.getD i (0:p)=x.2.2[i]:=by simp [hi]
 have hl4:(tb (zAt zs x.2.1)).2.length≤4:=jdR hz
 have hsl:=fun s=>jhu (o:=(zAt zs x.2.1).2.1) (l:=(tb (zAt zs x.2.1)).2) s ((tb (zAt zs x.2.1)).2.length+1) 0
 have e0:j6h ((zs.getD x.2.1.toNat (F,((0:p),([]:B Rule)))).1,((zs.getD x.2.1.toNat (F,((0:p),([]:B Rule)))).2.1,(zs.getD x.2.1.toNat (F,((0:p),([]:B Rule)))).2.2)) (x.2.2[i]+0,0)=_:=jp8 h4 (show -2≤x.2.2[i]+0 by omega) omg_ (show (0:p)≤0 by omega) omg_
 have e1:j6h ((zs.getD x.2.1.toNat (F,((0:p),([]:B Rule)))).1,((zs.getD x.2.1.toNat (F,((0:p),([]:B Rule)))).2.1,(zs.getD x.2.1.toNat (F,((0:p),([]:B Rule)))).2.2)) (x.2.2[i]+1,0)=_:=jp8 h4 (show -2≤x.2.2[i]+1 by omega) omg_ (show (0:p)≤0 by omega) omg_
 have b0:=hsl ((x.2.2[i]+0)*86400+0)
 have b1:=hsl ((x.2.2[i]+1)*86400+0)
 rw [jbT]
 simp only [j46]
 rw [j00 (show (0:p)<2 by omega),j1v hx.z0 hx.z1,j1v (show (0:p)≤(i:p) by omega) omg_]
 simp only [jc,je,hgd]
 rw [j07 (x:=x.2.2[i]+0),e0]
 simp only [ja]
 rw [j00 (show acc.length+(sols (zAt zs x.2.1).2.1 (tb (zAt zs x.2.1)).2 ((x.2.2[i]+0)*86400+0)).length≤j05 by unfold sols j05;omega),jc,j06]
 rw [show w64 (0+1)=1 from rfl,jbT]
 simp only [j46]
 rw [j00 (show (1:p)<2 by omega),j1v hx.z0 hx.z1,j1v (show (0:p)≤(i:p) by omega) omg_]
 simp only [jc,je,hgd]
 rw [j07 (x:=x.2.2[i]+1),e1]
 simp only [ja]
 rw [j00 (show (acc++sols (zAt zs x.2.1).2.1 (tb (zAt zs x.2.1)).2 ((x.2.2[i]+0)*86400+0)).length+(sols (zAt zs x.2.1).2.1 (tb (zAt zs x.2.1)).2 ((x.2.2[i]+1)*86400+0)).length≤j05 by rw [jo];unfold sols j05;omega),jc,j06]
 rw [show w64 (1+1)=2 from rfl,jbT]
 simp only [j46]
 rw [j01 (show ¬ (2:p)<2 by omega),jd,j08,jr]
 rfl
theorem jzP (hzs:∀ z∈zs,ZOk z) {x:CalT} (hx:CCk zs.length x):∀ (n i:J) (acc:B p),i+n=x.2.2.length→acc.length+10*n≤90000000→
  j8s (i:p) zs ps cs ss x.1 x.2.1 x.2.2 acc=G (acc++(x.2.2.drop i).flatMap (dyB (zAt zs x.2.1)))
 | 0,i,acc,hi,_=>by
  rw [jfz,jj omg_]
  simp only [j5s,show E x.2.2.length=(x.2.2.length:p) from rfl]
  rw [j01 omg_,jd,j08]
  simp
 | n+1,i,acc,hi,ha=>by
  have hlt:i<x.2.2.length:=omg_
  have hl:=hx.len
  have hz:ZOk (zAt zs x.2.1):=zget hzs hx.z0 hx.z1
  have hb:=jvk hz x.2.2[i]
  have ih:=jzP hzs hx n (i+1) (acc++dyB (zAt zs x.2.1) x.2.2[i]) omg_ (by rw [jo];omega)
  rw [jr] at ih
  rw [jfz,jh hlt]
  simp only [j5s,show E x.2.2.length=(x.2.2.length:p) from rfl]
  rw [j00 (show (i:p)<(x.2.2.length:p) by omega),jc,jAl hzs hx hlt omg_]
  simp only [ja]
  rw [j07 (x:=(i:p)+1),j06]
  exact ih
end
end Go.Proofs.Pw
