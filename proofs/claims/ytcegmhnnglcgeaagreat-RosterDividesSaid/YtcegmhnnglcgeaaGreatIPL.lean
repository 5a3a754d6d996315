/- duty.Cuts: the borders inside a range, ascending, and the end of the range. -/
import Derived.Test.YtcegmhnnglcgeaaGreatIPF
import Derived.Test.YtcegmhnnglcgeaaGreatIPK
import Derived.Test.YtcegmhnnglcgeaaGreatIPJ
open Go Go.Lft
namespace Go.Proofs.Pw
def jir (x:Int):List Int→List Int
 | []=>[x]
 | y::ys=>if x<y then y::jir x ys else x::y::ys
def isRI:List Int→List Int→List Int
 | [],acc=>acc
 | x::xs,acc=>isRI xs (jir x acc)
def isI (l:List Int):List Int:=(isRI l []).reverse
theorem jkL (x:Int):∀ l,(jir x l).length=l.length+1
 | []=>rfl
 | y::ys=>by unfold jir;split<;>simp [jkL x ys]
theorem jis (x:Int):∀ l,(jir x l).Perm (x::l)
 | []=> .refl _
 | y::ys=>by
  unfold jir
  split
  ·exact ((jis x ys).cons y).trans (.swap x y ys)
  ·exact .refl _
theorem joN:∀ l acc:List Int,(isRI l acc).Perm (l++acc)
 | [],_=> .refl _
 | x::xs,acc=>((joN xs _).trans ((jis x acc).append_left xs)).trans List.perm_middle
theorem jm3 {x:Int}:∀ {l:List Int},l.Pairwise (fun a b=>b≤a)→(jir x l).Pairwise (fun a b=>b≤a)
 | [],_=>by simp [jir]
 | y::ys,h=>by
  unfold jir
  have h':=List.pairwise_cons.1 h
  split
  ·refine List.pairwise_cons.2 ⟨fun z hz=> ?_,jm3 h'.2⟩
   rcases List.mem_cons.1 ((jis x ys).mem_iff.1 hz) with rfl | hz
   ·omega
   ·exact h'.1 z hz
  ·refine List.pairwise_cons.2 ⟨fun z hz=> ?_,h⟩
   rcases List.mem_cons.1 hz with rfl | hz
   ·omega
   ·have:=h'.1 z hz;omega
theorem joO:∀ (l acc:List Int),acc.Pairwise (fun a b=>b≤a)→(isRI l acc).Pairwise (fun a b=>b≤a)
 | [],_,h=>h
 | _::xs,_,h=>joO xs _ (jm3 h)
theorem jv3 (rp mid:List Int) (x:Int):(rp.reverse++x::mid).getD rp.length 0=x:=by
 rw [List.getD_eq_getElem?_getD,List.getElem?_append_right (by simp)]
 simp
theorem jtV (n s8:Int) (x:Int):∀ (rp mid:List Int),rp.length+mid.length≤1000→
  j0U 0 n s8 (rp.length:Int) (rp.reverse++x::mid)=some (0,n,s8,(jir x rp).reverse++mid)
 | [],mid,_=>by
  rw [j4a]
  simp only [j0Z]
  rw [j00 (by simp),j6,j0a]
  rfl
 | y::ys,mid,hlen=>by
  have hL:((y::ys).reverse++x::mid).length=ys.length+1+(mid.length+1):=by simp;omega
  simp only [List.length_cons] at hlen
  rw [j4a]
  simp only [j0Z,List.length_cons]
  rw [j01 (show ((ys.length+1:Nat):Int)>0 by omega),j14 (by omega) (by rw [hL];omega),j02 (x:=((ys.length+1:Nat):Int)-1) (by omega) (by omega),j14 (by omega) (by rw [hL];omega)]
  simp only [j5,j7]
  have g1:((y::ys).reverse++x::mid).getD (ys.length+1) (0:Int)=x:=jv3 (y::ys) mid x
  have g2:((y::ys).reverse++x::mid).getD ((((ys.length+1:Nat):Int)-1).toNat) (0:Int)=y:=by
   rw [show (((ys.length+1:Nat):Int)-1).toNat=ys.length by omega]
   simp
  rw [g1,g2]
  simp only [jqU,j3]
  by_cases hc:x<y
  ·rw [j01 hc]
   have hset:List.set (List.set ((y::ys).reverse++x::mid) (ys.length+1) y) ((((ys.length+1:Nat):Int)-1).toNat) x=ys.reverse++x::(y::mid):=by
    rw [show (((ys.length+1:Nat):Int)-1).toNat=ys.length by omega]
    simp
   rw [j14 (by omega) (by rw [List.length_set,hL];omega)]
   simp only [j5,j06,hset]
   have he:=jtV n s8 x ys (y::mid) (by simp;omega)
   rw [show ((ys.length+1:Nat):Int)-1=(ys.length:Int) by omega,he]
   simp [jir,hc]
  ·rw [j00 hc]
   simp only [j6,j0a]
   simp [jir,hc]
theorem jtW:∀ (xs rp:List Int),rp.length+xs.length≤1000→
  j0V 0 ((rp.length+xs.length:Nat):Int) (rp.length:Int) (rp.reverse++xs)=some (isRI xs rp).reverse
 | [],rp,_=>by
  rw [j2D]
  simp only [j0h]
  rw [j00 (by simp),j6,j0a]
  simp [isRI]
 | x::xs,rp,hlen=>by
  simp only [List.length_cons] at hlen
  have he:=jtV ((rp.length+(x::xs).length:Nat):Int) (rp.length:Int) x rp xs (by omega)
  have ih:=jtW xs (jir x rp) (by rw [jkL];omega)
  rw [jkL] at ih
  rw [j2D]
  simp only [j0h]
  rw [j01 (by simp only [List.length_cons];omega),he]
  simp only [j5,j3,isRI]
  rw [show rp.length+1+xs.length=rp.length+(x::xs).length by simp;omega] at ih
  rw [j02 (by omega) (by omega),j06]
  exact ih
theorem jy4:∀ k:Fin 13,∃ r,jdv ((k.val:Nat):Int)=some r:=by
 intro k
 match k with
 | ⟨0,_⟩=>exact ⟨0,by kernel_rfl⟩
 | ⟨1,_⟩=>exact ⟨1,by kernel_rfl⟩
 | ⟨2,_⟩=>exact ⟨2,by kernel_rfl⟩
 | ⟨3,_⟩=>exact ⟨2,by kernel_rfl⟩
 | ⟨4,_⟩=>exact ⟨3,by kernel_rfl⟩
 | ⟨5,_⟩=>exact ⟨3,by kernel_rfl⟩
 | ⟨6,_⟩=>exact ⟨3,by kernel_rfl⟩
 | ⟨7,_⟩=>exact ⟨3,by kernel_rfl⟩
 | ⟨8,_⟩=>exact ⟨4,by kernel_rfl⟩
 | ⟨9,_⟩=>exact ⟨4,by kernel_rfl⟩
 | ⟨10,_⟩=>exact ⟨4,by kernel_rfl⟩
 | ⟨11,_⟩=>exact ⟨4,by kernel_rfl⟩
 | ⟨12,_⟩=>exact ⟨4,by kernel_rfl⟩
 | ⟨n+13,h⟩=>omega
theorem jv4 {l:List Int} (hl:l.length≤12):∃ s,j2T l=some s∧s.Perm l∧s.Pairwise (· ≤ ·):=by
 refine ⟨isI l,?_,(List.reverse_perm _).trans (by simpa [isI] using joN l []),?_⟩
 ·have hins:j0S l 0 (l.length:Int)=some (isI l):=by
   simp only [j0S]
   cases l with
   | nil=>
    rw [j2D]
    rfl
   | cons x xs=>
    have:=jtW xs [x] (by simp at hl ⊢;omega)
    rw [show w64 (0+1)=(([x]:List Int).length:Int) from rfl,show ((x::xs).length:Int)=(([x].length+xs.length:Nat):Int) by simp;omega]
    rw [show (x::xs)=[x].reverse++xs from rfl,this]
    rfl
  obtain ⟨r,hr⟩:=jy4 ⟨l.length,by omega⟩
  have hp:j1y l 0 (l.length:Int) r=some (isI l):=by
   simp only [j1y]
   rw [j9j]
   simp only [j0H]
   rw [j02 (x:=(l.length:Int)-0) (by omega) (by omega),j01 (by omega),j5,hins]
   rfl
  simp only [j2T,show Int.ofNat l.length=(l.length:Int) from rfl]
  rw [show IntKind.wrap .u64 (l.length:Int)=(l.length:Int) from IntWalk.u64_in _ ⟨by omega,by omega⟩,hr]
  simp only [j3,hp]
 ·unfold isI
  rw [List.pairwise_reverse]
  exact joO l [] .nil
def inB (f t x:Int):Bool:= !(cond (decide (x≤f)) true (decide (x≥t)))
theorem jtX {l:List Int} (hl:l.length≤1000000) {f t:Int}:∀ (n i:Nat),i+n=l.length→(∀ s∈l.take i,inB f t s=true)→
  (∃ j:Nat,j0Y f t (l.length:Int) (i:Int) l=some (.inl ((j:Int),l))∧j<l.length∧(∀ s∈l.take j,inB f t s=true)∧inB f t (l.getD j 0)=false)∨
  (j0Y f t (l.length:Int) (i:Int) l=some (.inr l)∧∀ s∈l,inB f t s=true)
 | 0,i,hi,h=>by
  rw [j4V]
  simp only [j1a]
  rw [j00 (by omega),j6,j0a]
  rw [List.take_of_length_le (by omega)] at h
  exact Or.inr ⟨rfl,h⟩
 | n+1,i,hi,h=>by
  rw [j4V]
  simp only [j1a,j9T]
  rw [j01 (show (i:Int)<(l.length:Int) by omega),j14 (by omega) (by omega),j02 (x:=(i:Int)+1) (by omega) (by omega)]
  simp only [j5,j7,j3]
  have hlt:i<l.length:=by omega
  cases hc:(cond (decide (l.getD i (0:Int)≤f)) true (decide (l.getD i (0:Int)≥t))) with
  | true=>
   simp only [j5,j0a]
   exact Or.inl ⟨i,rfl,hlt,h,by simp only [inB];rw [hc];rfl⟩
  | false=>
   simp only [j6,j06]
   refine jtX hl n (i+1) (by omega) fun s hs=> ?_
   rw [List.take_add_one] at hs
   rcases List.mem_append.1 hs with hs | hs
   ·exact h s hs
   ·have hgd:l.getD i (0:Int)=l[i]:=by simp [hlt]
    rw [hgd] at hc
    rw [List.getElem?_eq_getElem hlt] at hs
    simp at hs;subst hs
    simp only [inB];rw [hc];rfl
theorem jpY {l:List Int} (hl:l.length≤1000000) {f t:Int}:∀ (n i j:Nat) (b:List Int),j+n=l.length→i≤j→b.length=l.length→b.drop j=l.drop j→b.take i=(l.take j).filter (inB f t)→
  ∃ (k:Nat) (b':List Int),j1C f t (i:Int) (j:Int) b=some ((k:Int),b')∧b'.length=l.length∧k≤l.length∧b'.take k=l.filter (inB f t)
 | 0,i,j,b,hj,hij,hb,hd,ht=>by
  rw [j5u]
  simp only [j1r,show Int.ofNat (List.length b)=(b.length:Int) from rfl]
  rw [j00 (by omega),j6,j0a]
  rw [List.take_of_length_le (l:=l) (by omega)] at ht
  exact ⟨i,b,rfl,hb,by omega,ht⟩
 | n+1,i,j,b,hj,hij,hb,hd,ht=>by
  have hlt:j<l.length:=by omega
  have hbj:b.getD j (0:Int)=l[j]:=by
   have:b[j]? = l[j]? := by
    have h:=congrArg (fun x=>x[0]?) hd
    simpa [List.getElem?_drop] using h
   rw [List.getD_eq_getElem?_getD,this,List.getElem?_eq_getElem hlt];rfl
  have hd':b.drop (j+1)=l.drop (j+1):=by
   have:=congrArg (List.drop 1) hd
   simpa [List.drop_drop] using this
  have htk:l.take (j+1)=l.take j++[l[j]]:=by rw [List.take_add_one,List.getElem?_eq_getElem hlt];rfl
  rw [j5u]
  simp only [j1r,j9T,show Int.ofNat (List.length b)=(b.length:Int) from rfl]
  rw [j01 (show (j:Int)<(b.length:Int) by omega),j14 (by omega) (by omega),j14 (by omega) (by omega),j02 (x:=(j:Int)+1) (by omega) (by omega),j02 (x:=(i:Int)+1) (by omega) (by omega)]
  simp only [j5,j7,j3,hbj]
  cases hc:(cond (decide (l[j]≤f)) true (decide (l[j]≥t))) with
  | true=>
   simp only [Bool.not_true,j6,j06]
   refine jpY hl n i (j+1) b (by omega) (by omega) hb hd' ?_
   rw [htk,List.filter_append,ht]
   simp [inB,hc]
  | false=>
   simp only [Bool.not_false,j5,j06]
   refine jpY hl n (i+1) (j+1) _ (by omega) (by omega) (by simpa using hb) ?_ ?_
   ·rw [List.drop_set_of_lt (by omega)];exact hd'
   ·have hib:i<b.length:=by omega
    rw [List.take_add_one,List.take_set_of_le (Nat.le_refl _),List.getElem?_set_self hib,ht,htk,List.filter_append]
    simp [inB,hc]
theorem jrP {l:List Int} (hl:l.length≤1000000) {f t:Int}:∃ n m,j1x l f t=some (n,m)∧m.take n.toNat=l.filter (inB f t):=by
 simp only [j1x,j1L,show Int.ofNat (List.length l)=(l.length:Int) from rfl]
 rcases jtX (f:=f) (t:=t) hl l.length 0 (by omega) (by simp) with ⟨j,e,hj,h1,h2⟩ | ⟨e,h⟩
 ·rw [show ((0:Nat):Int)=0 from rfl] at e
  rw [e]
  simp only [j3,jmy]
  rw [j48 (by omega),j02 (x:=(j:Int)+1) (by omega) (by omega)]
  have hgd:l.getD j (0:Int)=l[j]:=by simp [hj]
  rw [hgd] at h2
  obtain ⟨k,b,e2,hb,hk,ht⟩:=jpY (f:=f) (t:=t) hl (l.length-(j+1)) j (j+1) l (by omega) (by omega) rfl rfl (by
   rw [List.take_add_one,List.getElem?_eq_getElem hj,List.filter_append,List.filter_eq_self.2 h1]
   simp [h2])
  rw [show ((j:Int)+1)=((j+1:Nat):Int) from rfl,e2]
  simp only [j6,j3,show Int.ofNat (List.length b)=(b.length:Int) from rfl,j7]
  rw [j01 (show (0:Int)≤(k:Int) by omega),j01 (show (k:Int)≤(b.length:Int) by omega)]
  simp only [Bool.and_self,j5,Bool.true_and]
  rw [j01 (by simp;omega),j5]
  refine ⟨_,_,rfl,?_⟩
  simp only [show (Int.ofNat k).toNat=k from rfl]
  rw [List.take_append_of_le_length (by simp;omega),List.take_take,Nat.min_self,ht]
 ·rw [show ((0:Nat):Int)=0 from rfl] at e
  rw [e]
  simp only [j3,j9E,beq_self_eq_true,j5]
  refine ⟨_,_,rfl,?_⟩
  simp only [show (Int.ofNat l.length).toNat=l.length from rfl]
  rw [List.take_of_length_le (Nat.le_refl _),List.filter_eq_self.2 h]
def ddI:Int→List Int→List Int
 | _,[]=>[]
 | p,x::r=>if x=p then ddI p r else x::ddI x r
theorem jpZ:∀ (l:List Int) (p:Int),∀ x,x∈p::ddI p l↔x∈p::l
 | [],_,_=>Iff.rfl
 | y::r,p,x=>by
  unfold ddI
  split
  ·rename_i h;subst h
   rw [jpZ r y x];simp
  ·have:=jpZ r y x
   rw [List.mem_cons,this,List.mem_cons,List.mem_cons,List.mem_cons]
theorem jq0:∀ (l:List Int) (p:Int),(p::l).Pairwise (· ≤ ·)→(p::ddI p l).Pairwise (· < ·)
 | [],_,_=>by simp [ddI]
 | y::r,p,h=>by
  have h1:=List.pairwise_cons.1 h
  unfold ddI
  split
  ·rename_i h;subst h
   exact jq0 r y h1.2
  ·have ih:=jq0 r y h1.2
   refine List.pairwise_cons.2 ⟨fun z hz=> ?_,ih⟩
   have hy:=h1.1 y (by simp)
   rcases List.mem_cons.1 hz with rfl | hz
   ·omega
   ·have:=(List.pairwise_cons.1 ih).1 z hz;omega
theorem jtY {l:List Int} (hl:l.length≤1000000) {k0:Nat}:∀ (n s k:Nat) (b:List Int),k0+s+n=l.length→1≤s→k≤k0+s-1→b.length=l.length→b.drop k=l.drop k→
  ∃ (m:Nat) (b':List Int),j1z (k:Int) (k0:Int) (s:Int) b=some ((m:Int),b')∧b'.length=l.length∧m≤l.length∧b'.take m=b.take k++ddI (l.getD (k0+s-1) 0) (l.drop (k0+s))
 | 0,s,k,b,hn,hs,hk,hb,hd=>by
  rw [j6q]
  simp only [j1T,j7,show Int.ofNat (b.length-k0)=((b.length-k0:Nat):Int) from rfl]
  rw [j00 (by omega),j6,j0a,List.drop_of_length_le (by omega)]
  exact ⟨k,b,rfl,hb,by omega,by simp [ddI]⟩
 | n+1,s,k,b,hn,hs,hk,hb,hd=>by
  have hlt:k0+s<l.length:=by omega
  have bget:∀ j,k≤j→b[j]? = l[j]? := fun j hj=>by
   have h:=congrArg (fun x=>x[j-k]?) hd
   simpa [List.getElem?_drop,show k+(j-k)=j by omega] using h
  have g1:b.getD (k0+s) (0:Int)=l[k0+s]:=by
   rw [List.getD_eq_getElem?_getD,bget _ (by omega),List.getElem?_eq_getElem hlt];rfl
  have g2:b.getD (k0+(s-1)) (0:Int)=l.getD (k0+s-1) 0:=by
   rw [List.getD_eq_getElem?_getD,bget _ (by omega),show k0+(s-1)=k0+s-1 by omega,List.getD_eq_getElem?_getD]
  have e1:l.getD (k0+(s+1)-1) 0=l[k0+s]:=by
   rw [show k0+(s+1)-1=k0+s by omega];simp [hlt]
  rw [j6q]
  simp only [j1T,j7,show Int.ofNat (b.length-k0)=((b.length-k0:Nat):Int) from rfl,show Int.ofNat k0=(k0:Int) from rfl]
  rw [j01 (show (s:Int)<((b.length-k0:Nat):Int) by omega),j14 (show (0:Int)≤(s:Int) by omega) (by omega),j02 (x:=(s:Int)-1) (by omega) (by omega),j14 (show (0:Int)≤(s:Int)-1 by omega) (by omega),j14 (show (0:Int)≤(k:Int) by omega) (by omega),j02 (x:=(k:Int)+1) (by omega) (by omega),j02 (x:=(s:Int)+1) (by omega) (by omega),show ((s:Int)-1).toNat=s-1 by omega,List.drop_eq_getElem_cons hlt]
  simp only [j5,g1,g2,ddI]
  by_cases hc:l[k0+s]=l.getD (k0+s-1) 0
  ·rw [show (l[k0+s] != l.getD (k0+s-1) 0)=false by rw [bne_eq_false_iff_eq];exact hc,if_pos hc,j6,j06]
   have ih:=jtY hl (k0:=k0) n (s+1) k b (by omega) (by omega) (by omega) hb hd
   rw [e1,hc,show k0+(s+1)=k0+s+1 by omega] at ih
   exact ih
  ·rw [show (l[k0+s] != l.getD (k0+s-1) 0)=true by rw [bne_iff_ne];exact hc,if_neg hc,j5,j06]
   have ih:=jtY hl (k0:=k0) n (s+1) (k+1) (b.set k l[k0+s]) (by omega) (by omega) (by omega) (by simpa using hb) (by
    rw [List.drop_set_of_lt (by omega)]
    have:=congrArg (List.drop 1) hd
    simpa [List.drop_drop] using this)
   rw [e1,show k0+(s+1)=k0+s+1 by omega] at ih
   obtain ⟨m,b',r1,r2,r3,r4⟩:=ih
   refine ⟨m,b',r1,r2,r3,?_⟩
   have hkb:k<b.length:=by omega
   rw [r4,List.take_add_one,List.take_set_of_le (Nat.le_refl _),List.getElem?_set_self hkb]
   simp
def cpI:List Int→List Int
 | []=>[]
 | a::r=>a::ddI a r
theorem jvM {l:List Int} (hl:l.length≤1000000):∀ (n k:Nat),k+n=l.length→1≤k→cpI l=l.take k++ddI (l.getD (k-1) 0) (l.drop k)→
  (∃ (m:Nat) (b:List Int),j0T (k:Int) l=some (.inl ((m:Int),b))∧b.take m=cpI l)∨(j0T (k:Int) l=some (.inr l)∧cpI l=l)
 | 0,k,hn,hk,hT=>by
  rw [j6r]
  simp only [j0G,show Int.ofNat l.length=(l.length:Int) from rfl]
  rw [j00 (by omega),j6,j0a]
  rw [List.take_of_length_le (by omega),List.drop_of_length_le (by omega)] at hT
  exact .inr ⟨rfl,by simpa [ddI] using hT⟩
 | n+1,k,hn,hk,hT=>by
  have hlt:k<l.length:=by omega
  have g1:l.getD k (0:Int)=l[k]:=by simp [hlt]
  rw [List.drop_eq_getElem_cons hlt] at hT
  simp only [ddI] at hT
  rw [j6r]
  simp only [j0G,show Int.ofNat l.length=(l.length:Int) from rfl]
  rw [j01 (show (k:Int)<(l.length:Int) by omega),j14 (show (0:Int)≤(k:Int) by omega) (by omega),j02 (x:=(k:Int)-1) (by omega) (by omega),j14 (show (0:Int)≤(k:Int)-1 by omega) (by omega),j02 (x:=(k:Int)+1) (by omega) (by omega),show ((k:Int)-1).toNat=k-1 by omega,j01 (show (0:Int)≤(k:Int) by omega),j01 (show (k:Int)≤(l.length:Int) by omega)]
  simp only [j5,j7,g1,Bool.and_self,show Int.ofNat k=(k:Int) from rfl]
  by_cases hc:l[k]=l.getD (k-1) 0
  ·rw [if_pos hc] at hT
   obtain ⟨m,b,r1,r2,r3,r4⟩:=jtY hl (k0:=k) n 1 k l (by omega) (by omega) (by omega) rfl rfl
   rw [show k+1-1=k by omega,g1,hc,←hT] at r4
   rw [j7a hc,j5,show j1z (k:Int) (k:Int) 1 l=_ from r1]
   simp only [j3,j7,show Int.ofNat b.length=(b.length:Int) from rfl]
   rw [j01 (show (0:Int)≤(m:Int) by omega),j01 (show (m:Int)≤(b.length:Int) by omega)]
   simp only [Bool.and_self,j5,Bool.true_and]
   rw [j01 (by simp;omega),j5,j0a]
   refine .inl ⟨m,_,rfl,?_⟩
   rw [List.take_append_of_le_length (by simp;omega),List.take_take,Nat.min_self,r4]
  ·rw [if_neg hc] at hT
   rw [j48 hc,j6,j06]
   refine jvM hl n (k+1) (by omega) (by omega) ?_
   have htk:l.take (k+1)=l.take k++[l[k]]:=by rw [List.take_add_one,List.getElem?_eq_getElem hlt];rfl
   rw [hT,htk,show k+1-1=k by omega,g1,List.append_assoc]
   rfl
theorem jq1 {l:List Int} (hl:l.length≤1000000):∃ n m,j2d l=some (n,m)∧m.take n.toNat=cpI l:=by
 simp only [j2d,show Int.ofNat l.length=(l.length:Int) from rfl]
 by_cases h2:l.length<2
 ·rw [j01 (by omega),j5]
  refine ⟨_,_,rfl,?_⟩
  rw [j7,List.take_of_length_le (Nat.le_refl _)]
  match l,h2 with
  | [],_=>rfl
  | [a],_=>rfl
  | _::_::_,h2=>simp at h2;omega
 ·rw [j00 (by omega),j6]
  have hT:cpI l=l.take 1++ddI (l.getD (1-1) 0) (l.drop 1):=by
   match l,h2 with
   | [],h2=>simp at h2
   | a::r,_=>rfl
  rcases jvM hl (l.length-1) 1 (by omega) (by omega) hT with ⟨m,b,e,h⟩ | ⟨e,h⟩
  ·rw [show j0T 1 l=_ from e]
   refine ⟨_,_,rfl,?_⟩
   simpa using h
  ·rw [show j0T 1 l=_ from e]
   refine ⟨_,_,rfl,?_⟩
   rw [h]
   simp
theorem jwR {l:List Int} (x:Int):x∈cpI l↔x∈l:=by
 cases l with
 | nil=>exact Iff.rfl
 | cons a r=>exact jpZ r a x
theorem jwS {l:List Int} (h:l.Pairwise (· ≤ ·)):(cpI l).Pairwise (· < ·):=by
 cases l with
 | nil=>exact .nil
 | cons a r=>exact jq0 r a h
theorem jq2:∀ (l:List Int) (p:Int),(ddI p l).length≤l.length
 | [],_=>Nat.le_refl _
 | y::r,p=>by
  unfold ddI
  split
  ·have:=jq2 r p;simp;omega
  ·have:=jq2 r y;simp;omega
theorem jwT (l:List Int):(cpI l).length≤l.length:=by
 cases l with
 | nil=>exact Nat.le_refl _
 | cons a r=>have:=jq2 r a;simp [cpI];omega
theorem jwU {l:List Int} (hl:l.length≤12) {f t:Int}:∃ C,jba l f t=some (C++[t])∧C.Pairwise (· < ·)∧C.length≤12∧(∀ x,x∈C↔x∈l∧f<x∧x<t):=by
 obtain ⟨n1,m1,e1,h1⟩:=jrP (l:=l) (by omega) (f:=f) (t:=t)
 have hfl:(l.filter (inB f t)).length≤12:=Nat.le_trans (List.length_filter_le _ _) hl
 obtain ⟨s,e2,p2,a2⟩:=jv4 hfl
 have hsl:=p2.length_eq
 obtain ⟨n3,m3,e3,h3⟩:=jq1 (l:=s) (by omega)
 have hcl:=jwT s
 refine ⟨cpI s,?_,jwS a2,by omega,fun x=> ?_⟩
 ·simp only [jba,j7h,List.nil_append,List.length_nil]
  rw [j01 (show 0+l.length≤j07 by simp [j07];omega),j5]
  simp only [j3,e1,h1,e2,e3,h3]
  rw [j01 (show (cpI s).length+[t].length≤j07 by simp [j07];omega),j5]
 ·rw [jwR,p2.mem_iff,List.mem_filter]
  have:inB f t x=true↔f<x∧x<t:=by
   unfold inB
   by_cases h1:x≤f
   ·rw [j01 h1];simp;omega
   ·rw [j00 h1]
    by_cases h2:x≥t
    ·rw [j01 h2];simp;omega
    ·rw [j00 h2];simp;omega
  rw [this]
theorem jy5 {ds:List Int} (hs:ds.Pairwise (· < ·)) (hl:ds.length≤64) (x:Int):∃ (k:Nat) (b:Bool),j0j ds x=some ((k:Int),b)∧k≤ds.length∧(∀ i,(hi:i<ds.length)→i<k→ds[i]<x)∧∀ i,(hi:i<ds.length)→k≤i→x≤ds[i]:=by
 obtain ⟨k,e,hk,h1,h2⟩:=juW hs hl (x:=x) ds.length 0 ds.length (by omega) (by omega) (Nat.le_refl _) (fun i _ h=>by omega) (fun i hi h=>by omega)
 rw [show ((0:Nat):Int)=0 from rfl] at e
 simp only [j0j,show Int.ofNat ds.length=(ds.length:Int) from rfl,e,j3,j7]
 by_cases hkl:k<ds.length
 ·have hgd:ds.getD k (0:Int)=ds[k]:=by simp [hkl]
  rw [j14 (by omega) (by omega),j01 (show (k:Int)<(ds.length:Int) by omega),hgd]
  simp only [Bool.true_or,j5]
  by_cases hx:ds[k]=x
  ·rw [j7a hx]
   exact ⟨k,_,rfl,hk,h1,h2⟩
  ·rw [j48 hx]
   simp only [j6,j68,j3,bne_self_eq_false]
   exact ⟨k,_,rfl,hk,h1,h2⟩
 ·rw [j00 (show ¬ (k:Int)<(ds.length:Int) by omega)]
  simp only [Bool.not_false,Bool.or_true,j5,j6,Bool.false_and]
  exact ⟨k,_,rfl,hk,h1,h2⟩
theorem jfo {a t:Int}:∀ (es:List j59) (p:Int),(∀ x∈es,(x.2.2.2.1≤a↔x.2.2.2.1≤t)∧(x.2.2.2.2≤a↔x.2.2.2.2≤t))→jdi t p es=jdi a p es
 | [],_,_=>rfl
 | x::r,p,h=>by
  have hx:=h x (by simp)
  simp only [jdi]
  have e:jnl t p x=jnl a p x:=by
   unfold jnl
   have:(t<x.2.2.2.1∨x.2.2.2.2≤t)↔(a<x.2.2.2.1∨x.2.2.2.2≤a):=by omega
   by_cases hc:a<x.2.2.2.1∨x.2.2.2.2≤a
   ·rw [if_pos hc,if_pos (this.2 hc)]
   ·rw [if_neg hc,if_neg (fun h=>hc (this.1 h))]
  rw [e]
  exact jfo r _ (fun y hy=>h y (by simp [hy]))
theorem jy6 {es:List j59} (hl:es.length≤1000) {f t:Int} {zs:List j2E} {ps:List j1E} {cs:List CalT} {ss:List j1N} {tbs:List (Int×TrL)} {nm:ByteArray} {ls:List j0R}:∀ (n i:Nat) (acc:List Int),i+n=es.length→acc.length≤2*i→
  j3e f t es (es.length:Int) (i:Int) zs ps cs ss tbs nm ls es acc=some (f,t,zs,ps,cs,ss,tbs,nm,ls,es,acc++edB (es.drop i))
 | 0,i,acc,hi,_=>by
  rw [j9V]
  simp only [j3d]
  rw [j00 (by omega),j6,j0a,List.drop_of_length_le (by omega)]
  simp [edB]
 | n+1,i,acc,hi,hacc=>by
  have hi':i<es.length:=by omega
  have hgd:es.getD i ((0:Int),((0:Int),((0:Int),((0:Int),(0:Int)))))=es[i]:=by simp [List.getD,hi']
  have ih:=jy6 hl (f:=f) (t:=t) (zs:=zs) (ps:=ps) (cs:=cs) (ss:=ss) (tbs:=tbs) (nm:=nm) (ls:=ls) n (i+1) (acc++[es[i].2.2.2.1,es[i].2.2.2.2]) (by omega) (by simp;omega)
  rw [j9V]
  simp only [j3d]
  rw [j01 (by omega),j14 (by omega) (by omega),j02 (x:=(i:Int)+1) (by omega) (by omega)]
  simp only [j5,j7,hgd]
  rw [j01 (by simp [j07];omega),j5,j06,List.drop_eq_getElem_cons hi']
  rw [List.append_assoc] at ih
  exact ih
theorem jv5 {es:List j59} (hl:es.length≤100) {p t:Int}:j7I es p t=some (jdi t p es):=by
 have ef:=jnm hl (t:=t) es.length 0 p (by omega)
 rw [List.drop_zero] at ef
 simp only [j7I,show Int.ofNat es.length=(es.length:Int) from rfl,show j4Z p t es (es.length:Int) 0=_ from ef]
 rfl
section
variable {es:List j59} (hel:es.length≤100) {K:List Int} (hK:K.Pairwise (· < ·)) (hKl:K.length≤64) {a0 b:Int} (hb:b∈K) (hin:∀ x∈edB es,a0<x→x<b→x∈K)
include hel hK hKl hb hin
theorem jyH {g:Int→Int} {p u:Int} (hu:u≤b) {m q w:Int} {nm:ByteArray} {ls:List j0R} {R:SgL} {x:Int}:∀ (n i:Nat) (a:Int) (acc:SgL),K.length-i≤n→a0≤a→a≤u→(a<u→i<K.length)→(∀ k,(hk:k<K.length)→(a<u→(k<i→K[k]≤a)∧(i≤k→a<K[k])))→(∀ t,a≤t→t<u→g t=p)→
  acc.length+(K.length-i)≤1000000000→Ch (fun t=>jdi t (g t) es) a x acc→
  ∃ out,j3X (i:Int) a m q nm ls es w u p K acc R=some (m,q,nm,ls,es,K,out,R)∧Ch (fun t=>jdi t (g t) es) u x out∧out.length≤acc.length+(K.length-i):=by
 intro n
 induction n with
 | zero=>
  intro i a acc hn ha hau hi _ _ _ hch
  rw [j9W]
  simp only [j1s]
  have hge:¬ a<u:=fun h=>by have:=hi h;omega
  rw [j00 hge,j6,j0a]
  have:a=u:=by omega
  subst this
  exact ⟨acc,rfl,hch,by omega⟩
 | succ n ih=>
  intro i a acc hn ha hau hi hsp hg hal hch
  rw [j9W]
  simp only [j1s]
  by_cases hlt:a<u
  ·have hil:=hi hlt
   have hgd:K.getD i (0:Int)=K[i]:=by simp [hil]
   have h1:=((hsp i hil) hlt).2 (Nat.le_refl _)
   rw [j01 hlt,j14 (by omega) (by omega),j02 (x:=(i:Int)+1) (by omega) (by omega)]
   simp only [j5,j7,hgd,jv5 hel,j3]
   rw [j01 (by simp [j07];omega),j5,j06]
   have hend:(if K[i]<u then K[i] else u)=min K[i] u:=by split<;>omega
   rw [hend]
   have hm1:a<min K[i] u:=by omega
   have hseg:∀ t,a≤t→t<min K[i] u→jdi t (g t) es=jdi a p es:=fun t t1 t2=>by
    rw [hg t t1 (by omega)]
    refine jfo es p (fun y hy=> ?_)
    obtain ⟨y1,y2⟩:=jnn hy
    have key:∀ c,c∈edB es→(c≤a↔c≤t):=fun c hc=>by
     refine ⟨fun h=>by omega,fun h=> ?_⟩
     apply Classical.byContradiction
     intro hca
     have hcK:=hin c hc (by omega) (by omega)
     obtain ⟨k,hk,rfl⟩:=List.getElem_of_mem hcK
     by_cases hki:k<i
     ·have:=((hsp k hk) hlt).1 hki;omega
     ·by_cases hke:k=i
      ·subst hke;omega
      ·have:=List.pairwise_iff_getElem.1 hK i k hil hk (by omega);omega
    exact ⟨key _ y1,key _ y2⟩
   have hch':=hch.snoc (b:=a) (c:=min K[i] u) (p:=jdi a p es) (by omega) hseg
   obtain ⟨out,e,hc,hl⟩:=ih (i+1) (min K[i] u) (acc++[(a,(min K[i] u,jdi a p es))]) (by omega) (by omega) (by omega) (fun h=>by
    apply Classical.byContradiction
    intro hcon
    obtain ⟨k,hk,hkb⟩:=List.getElem_of_mem hb
    by_cases hki:k=i
    ·subst hki;omega
    ·have:=List.pairwise_iff_getElem.1 hK k i hk hil (by omega)
     omega) (fun k hk h=>⟨fun hki=>by
    by_cases hke:k=i
    ·subst hke;omega
    ·have:=((hsp k hk) hlt).1 (by omega);omega,fun hki=>by
    have:=List.pairwise_iff_getElem.1 hK i k hil hk (by omega)
    omega⟩) (fun t t1 t2=>hg t (by omega) t2) (by simp;omega) hch'
   exact ⟨out,e,hc,by simp at hl;omega⟩
  ·rw [j00 hlt,j6,j0a]
   have:a=u:=by omega
   subst this
   exact ⟨acc,rfl,hch,by omega⟩
theorem jy7 {g:Int→Int} {S:SgL} (hSl:S.length≤10000000) {nm:ByteArray} {ls:List j0R} (ha0 : -1000000000000≤a0) (hb1:b≤1000000000000) {x:Int}:∀ (n i:Nat) (a:Int) (acc:SgL),i+n=S.length→a0≤a→Ch g b a (S.drop i)→Ch (fun t=>jdi t (g t) es) a x acc→acc.length≤64*i→
  ∃ out,j3f (S.length:Int) (i:Int) nm ls es K acc S=some out∧Ch (fun t=>jdi t (g t) es) b x out∧out.length≤64*S.length
 | 0,i,a,acc,hi,_,hc,hch,hal=>by
  rw [List.drop_of_length_le (by omega)] at hc
  have hc:a=b:=hc
  subst hc
  rw [j9X]
  simp only [j1t]
  rw [j00 (by omega),j6,j0a]
  exact ⟨acc,rfl,hch,by omega⟩
 | n+1,i,a,acc,hi,ha,hc,hch,hal=>by
  have hi':i<S.length:=by omega
  rw [List.drop_eq_getElem_cons hi'] at hc
  obtain ⟨c1,c2,c3,c4⟩:=hc
  have hle:=c4.le
  have hgd:S.getD i ((0:Int),((0:Int),(0:Int)))=S[i]:=by simp [List.getD,hi']
  obtain ⟨k,bb,ek,hk,k1,k2⟩:=jy5 hK hKl (a+1)
  obtain ⟨out,e4,hc4,hl4⟩:=jyH hel hK hKl hb hin (g:=g) (p:=S[i].2.2) (u:=S[i].2.1) hle (m:=(S.length:Int)) (q:=(i:Int)) (w:=S[i].1) (nm:=nm) (ls:=ls) (R:=S) (x:=x) K.length k a acc (by omega) ha c2 (fun h=>by
   apply Classical.byContradiction
   intro hcon
   obtain ⟨j,hj,hjb⟩:=List.getElem_of_mem hb
   have:=k1 j hj (by omega)
   omega) (fun j hj _=>⟨fun h=>by have:=k1 j hj h;omega,fun h=>by have:=k2 j hj h;omega⟩) c3 (by omega) hch
  have ih:=jy7 hSl (nm:=nm) (ls:=ls) ha0 hb1 (g:=g) (x:=x) n (i+1) S[i].2.1 out (by omega) (by omega) c4 hc4 (by omega)
  rw [j9X]
  simp only [j1t]
  rw [j01 (by omega),j14 (by omega) (by omega)]
  simp only [j5,j7,hgd,c1]
  rw [j02 (x:=a+1) (by omega) (by omega),ek]
  simp only [j3]
  rw [c1] at e4
  rw [e4]
  simp only [j3]
  rw [j02 (x:=(i:Int)+1) (by omega) (by omega),j06]
  exact ih
end
section
variable {zs:List j2E} {ps:List j1E} {cs:List CalT} (hs:SOk2 zs ps cs)
include hs
theorem jqY {a b:Int} (ha:0≤a) (hab:a≤b) (hb:b≤8589934592) (hlen:b-a≤4838400):∀ ls:List j0R,(∀ L∈ls,LCk zs.length ps.length cs.length L)→
  ∃ E:List Int,E.length≤10000*ls.length∧∀ L∈ls,∀ x,a<x→x<b→perX zs cs L (x-1)≠perX zs cs L x→x∈E
 | [],_=>⟨[],by simp,by simp⟩
 | L::ls,hL=>by
  obtain ⟨E,e1,e2⟩:=jqY ha hab hb hlen ls (fun M hM=>hL M (by simp [hM]))
  obtain ⟨S,_,c1,l1⟩:=jqW hs (hL L (by simp)) (ss:=[]) ha hab hb hlen
  refine ⟨brd S++E,?_,fun M hM x x1 x2 x3=> ?_⟩
  ·have:(brd S).length≤S.length:=by simp [brd]
   rw [List.length_append,List.length_cons];omega
  ·rcases List.mem_cons.1 hM with rfl | hM
   ·exact List.mem_append_left _ (((jkI c1).1 x).2 ⟨x1,x2,x3⟩)
   ·exact List.mem_append_right _ (e2 M hM x x1 x2 x3)
theorem jv6 {ls:List j0R} {es:List j59} (hL:∀ L∈ls,LCk zs.length ps.length cs.length L) {a b:Int} (ha:0≤a) (hab:a≤b) (hb:b≤8589934592) (hlen:b-a≤4838400) :
  ∃ E:List Int,E.length≤10000*ls.length+2*es.length∧(∀ x,a<x→x<b→topP es (x-1) (pfX zs cs ls (x-1)) ls.length≠topP es x (pfX zs cs ls x) ls.length→x∈E)∧∀ x∈edB es,x∈E:=by
 obtain ⟨E,e1,e2⟩:=jqY hs ha hab hb hlen ls hL
 refine ⟨E++edB es,by rw [List.length_append,jkJ];omega,fun x x1 x2 x3=> ?_,fun x hx=>List.mem_append_right _ hx⟩
 apply Classical.byContradiction
 intro hn
 simp only [List.mem_append,not_or] at hn
 refine x3 (jiq (fun i hi=> ?_) (fun p=>jkK hn.2 p))
 apply Classical.byContradiction
 intro hne
 have e:∀ t,pfX zs cs ls t i=perX zs cs ls[i] t:=fun t=>by simp [pfX,List.getD,hi]
 rw [e,e] at hne
 exact hn.1 (e2 _ (List.getElem_mem hi) x x1 x2 hne)
theorem jrQ {nm:ByteArray} {ls:List j0R} {es:List j59} (hL:∀ L∈ls,LCk zs.length ps.length cs.length L) (hll:ls.length≤4) (hE:∀ x∈es,ECk ps.length x) (hel:es.length≤9)
  {ss:List j1N} {a b:Int} (ha:0≤a) (hab:a≤b) (hb:b≤8589934592) (hlen:b-a≤4838400) :
  ∃ out,j2O ((zs,(ps,(cs,ss))),zs.map tb) (nm,(ls,es)) a b=some out∧Cov (fun t=>topP es t (pfX zs cs ls t) ls.length) b none a out∧out.length≤10000*ls.length+2*es.length+1:=by
 obtain ⟨out,e,h,_⟩:=jv2 hs hL hll hE hel ha hab hb (by omega) (nm:=nm) (ss:=ss)
 obtain ⟨E,e1,e2,_⟩:=jv6 hs (es:=es) hL ha hab hb hlen
 have:=jpX h e2
 exact ⟨out,e,h,by omega⟩
theorem jwV {s:j1N} (hk:SCk zs.length ps.length cs.length s) (hll:s.2.1.length≤3) (hel:s.2.2.length≤6) {ss:List j1N} {a b:Int} (ha:0≤a) (hab:a<b) (hb:b≤8589934592) (hlen:b-a≤4320000) :
  ∃ out,j3g ((zs,(ps,(cs,ss))),zs.map tb) s a b=some out∧Cov (whoS zs cs s) b none a out∧out.length≤3000000:=by
 obtain ⟨S,eS,hS,lS⟩:=jrQ hs (nm:=s.1) hk.ly (by omega) hk.ed (by omega) (ss:=ss) ha (by omega) hb (by omega)
 have l0:=jy6 (es:=s.2.2) (by omega) (f:=a) (t:=b) (zs:=zs) (ps:=ps) (cs:=cs) (ss:=ss) (tbs:=zs.map tb) (nm:=s.1) (ls:=s.2.1) s.2.2.length 0 [] (by omega) (by simp)
 rw [List.nil_append,List.drop_zero] at l0
 have hbl:=jkJ s.2.2
 obtain ⟨C,eC,c1,c2,c3⟩:=jwU (l:=edB s.2.2) (by omega) (f:=a) (t:=b)
 have hKp:(C++[b]).Pairwise (· < ·):=List.pairwise_append.2 ⟨c1,List.pairwise_singleton _ _,fun x hx y hy=>by
  simp at hy;subst hy
  exact ((c3 x).1 hx).2.2⟩
 obtain ⟨M,e2,hM,lM⟩:=jy7 (es:=s.2.2) (by omega) hKp (by simp;omega) (a0:=a) (b:=b) (by simp) (fun x hx x1 x2=>List.mem_append_left _ ((c3 x).2 ⟨hx,x1,x2⟩)) (g:=fun t=>topP s.2.2 t (pfX zs cs s.2.1 t) s.2.1.length) (S:=S) (by omega) (nm:=s.1) (ls:=s.2.1) (by omega) (by omega) (x:=a) S.length 0 a [] (by omega) (by omega) (by rw [List.drop_zero];exact hS.ch) rfl (by simp)
 obtain ⟨out,e3,h3,l3⟩:=jkG (l:=M) (by omega) hM
 refine ⟨out,?_,h3,by omega⟩
 simp only [j3g,show Int.ofNat s.2.2.length=(s.2.2.length:Int) from rfl]
 rw [show j3e a b s.2.2 (s.2.2.length:Int) 0 zs ps cs ss (zs.map tb) s.1 s.2.1 s.2.2 []=_ from l0]
 simp only [j3,eC]
 rw [show j2O ((zs,(ps,(cs,ss))),zs.map tb) (s.1,(s.2.1,s.2.2)) a b=_ from eS]
 simp only [j3,show Int.ofNat S.length=(S.length:Int) from rfl]
 rw [show j3f (S.length:Int) 0 s.1 s.2.1 s.2.2 (C++[b]) [] S=_ from e2]
 simp only [j3,e3]
end
theorem jv7 {np:Nat} {t p:Int} {x:j59} (h:ECk np x) (hp : -1≤p) : -1≤jnl t p x:=by
 have ha:=h.a
 have hb:=h.b
 unfold jnl
 split
 ·exact hp
 ·split
  ·omega
  ·split
   ·rename_i h1;have:=hb h1.1;omega
   ·split
    ·rename_i h1;have:=hb h1.1;omega
    ·exact hp
theorem jqZ {np:Nat} {t:Int}:∀ (es:List j59) (p:Int),(∀ x∈es,ECk np x) → -1≤p → -1≤jdi t p es
 | [],_,_,hp=>hp
 | x::r,p,h,hp=>by
  simp only [jdi]
  exact jqZ r _ (fun y hy=>h y (by simp [hy])) (jv7 (h x (by simp)) hp)
section
variable {zs:List j2E} {ps:List j1E} {cs:List CalT} (hs:SOk2 zs ps cs)
include hs
theorem jtZ {s:j1N} (hk:SCk zs.length ps.length cs.length s) {t:Int} (h0:0≤t) (h1:t≤8589934592) : -1≤whoS zs cs s t:=by
 unfold whoS
 refine jqZ _ _ hk.ed ?_
 unfold topP
 cases hT:topI (j6B s.2.2 t (pfX zs cs s.2.1 t)) s.2.1.length with
 | none=>exact Int.le_refl _
 | some k=>
  have hkl:=jpV hT
  have e:pfX zs cs s.2.1 t k=perX zs cs s.2.1[k] t:=by simp [pfX,List.getD,hkl]
  dsimp only
  rw [e]
  exact (jpS hs (hk.ly _ (List.getElem_mem hkl)) h0 h1).2.1
end
end Go.Proofs.Pw
