/- duty.Cuts: the borders inside a range, ascending, and the end of the range. -/
import Derived.Test.YtaieocafhcjelaaGreatAPG
import Derived.Test.YtaieocafhcjelaaGreatALS
import Derived.Test.YtaieocafhcjelaaGreatAPN
import Derived.Test.YtaieocafhcjelaaGreatAPH
import Derived.Test.YtaieocafhcjelaaGreatAPB
import Derived.KernelRfl
open Go Go.Lft
namespace Go.Proofs.Pw
theorem jzB {l:List Int} (hl:l.length≤1000000):∃ s,j6j l=some s∧s.Perm l∧s.Pairwise (· ≤ ·):=by
 obtain ⟨s,e,h1,h2⟩:=jz2 (xs:=l) (by omega)
 exact ⟨s,by simp only [j6j,e],h1,h2⟩
def inB (f t x:Int):Bool:= !(cond (decide (x≤f)) true (decide (x≥t)))
theorem jym {l:List Int} (hl:l.length≤1000000) {f t:Int}:∀ (n i:Nat),i+n=l.length→(∀ s∈l.take i,inB f t s=true)→
  (∃ j:Nat,j0U f t (l.length:Int) (i:Int) l=some (.inl ((j:Int),l))∧j<l.length∧(∀ s∈l.take j,inB f t s=true)∧inB f t (l.getD j 0)=false)∨
  (j0U f t (l.length:Int) (i:Int) l=some (.inr l)∧∀ s∈l,inB f t s=true)
 | 0,i,hi,h=>by
  rw [j5c]
  simp only [j13]
  rw [j00 (by omega),j6,j08]
  rw [List.take_of_length_le (by omega)] at h
  exact Or.inr ⟨rfl,h⟩
 | n+1,i,hi,h=>by
  rw [j5c]
  simp only [j13,jaN]
  rw [j01 (show (i:Int)<(l.length:Int) by omega),j0s (by omega) (by omega),j02 (x:=(i:Int)+1) (by omega) (by omega)]
  simp only [j5,j7,j3]
  have hlt:i<l.length:=by omega
  cases hc:(cond (decide (l.getD i (0:Int)≤f)) true (decide (l.getD i (0:Int)≥t))) with
  | true=>
   simp only [j5,j08]
   exact Or.inl ⟨i,rfl,hlt,h,by simp only [inB];rw [hc];rfl⟩
  | false=>
   simp only [j6,j05]
   refine jym hl n (i+1) (by omega) fun s hs=> ?_
   rw [ke] at hs
   rcases jq.1 hs with hs | hs
   ·exact h s hs
   ·have hgd:l.getD i (0:Int)=l[i]:=by simp [hlt]
    rw [hgd] at hc
    rw [ji hlt] at hs
    simp at hs;subst hs
    simp only [inB];rw [hc];rfl
theorem jtZ {l:List Int} (hl:l.length≤1000000) {f t:Int}:∀ (n i j:Nat) (b:List Int),j+n=l.length→i≤j→b.length=l.length→b.drop j=l.drop j→b.take i=(l.take j).filter (inB f t)→
  ∃ (k:Nat) (b':List Int),j1x f t (i:Int) (j:Int) b=some ((k:Int),b')∧b'.length=l.length∧k≤l.length∧b'.take k=l.filter (inB f t)
 | 0,i,j,b,hj,hij,hb,hd,ht=>by
  rw [j5T]
  simp only [j1k,show Int.ofNat (List.length b)=(b.length:Int) from rfl]
  rw [j00 (by omega),j6,j08]
  rw [List.take_of_length_le (l:=l) (by omega)] at ht
  exact ⟨i,b,rfl,hb,by omega,ht⟩
 | n+1,i,j,b,hj,hij,hb,hd,ht=>by
  have hlt:j<l.length:=by omega
  have hbj:b.getD j (0:Int)=l[j]:=by
   have:b[j]? = l[j]? := by
    have h:=jn (fun x=>x[0]?) hd
    simpa [List.getElem?_drop] using h
   rw [List.getD_eq_getElem?_getD,this,ji hlt];rfl
  have hd':b.drop (j+1)=l.drop (j+1):=by
   have:=jn (List.drop 1) hd
   simpa [List.drop_drop] using this
  have htk:l.take (j+1)=l.take j++[l[j]]:=by rw [ke,ji hlt];rfl
  rw [j5T]
  simp only [j1k,jaN,show Int.ofNat (List.length b)=(b.length:Int) from rfl]
  rw [j01 (show (j:Int)<(b.length:Int) by omega),j0s (by omega) (by omega),j0s (by omega) (by omega),j02 (x:=(j:Int)+1) (by omega) (by omega),j02 (x:=(i:Int)+1) (by omega) (by omega)]
  simp only [j5,j7,j3,hbj]
  cases hc:(cond (decide (l[j]≤f)) true (decide (l[j]≥t))) with
  | true=>
   simp only [jj,j6,j05]
   refine jtZ hl n i (j+1) b (by omega) (by omega) hb hd' ?_
   rw [htk,zu,ht]
   simp [inB,hc]
  | false=>
   simp only [ju,j5,j05]
   refine jtZ hl n (i+1) (j+1) _ (by omega) (by omega) (by simpa using hb) ?_ ?_
   ·rw [List.drop_set_of_lt (by omega)];exact hd'
   ·have hib:i<b.length:=by omega
    rw [ke,List.take_set_of_le (jo _),List.getElem?_set_self hib,ht,htk,zu]
    simp [inB,hc]
theorem jvZ {l:List Int} (hl:l.length≤1000000) {f t:Int}:∃ n m,j1t l f t=some (n,m)∧m.take n.toNat=l.filter (inB f t):=by
 simp only [j1t,j1F,show Int.ofNat (List.length l)=(l.length:Int) from rfl]
 rcases jym (f:=f) (t:=t) hl l.length 0 (by omega) (by simp) with ⟨j,e,hj,h1,h2⟩ | ⟨e,h⟩
 ·rw [show ((0:Nat):Int)=0 from rfl] at e
  rw [e]
  simp only [j3,jma]
  rw [j2c (by omega),j02 (x:=(j:Int)+1) (by omega) (by omega)]
  have hgd:l.getD j (0:Int)=l[j]:=by simp [hj]
  rw [hgd] at h2
  obtain ⟨k,b,e2,hb,hk,ht⟩:=jtZ (f:=f) (t:=t) hl (l.length-(j+1)) j (j+1) l (by omega) (by omega) rfl rfl (by
   rw [ke,ji hj,zu,List.filter_eq_self.2 h1]
   simp [h2])
  rw [show ((j:Int)+1)=((j+1:Nat):Int) from rfl,e2]
  simp only [j6,j3,show Int.ofNat (List.length b)=(b.length:Int) from rfl,j7]
  rw [j01 (show (0:Int)≤(k:Int) by omega),j01 (show (k:Int)≤(b.length:Int) by omega)]
  simp only [Bool.and_self,j5,vg]
  rw [j01 (by simp;omega),j5]
  refine ⟨_,_,rfl,?_⟩
  simp only [show (Int.ofNat k).toNat=k from rfl]
  rw [qs (by simp;omega),vq,Nat.min_self,ht]
 ·rw [show ((0:Nat):Int)=0 from rfl] at e
  rw [e]
  simp only [j3,j4S,qe,j5]
  refine ⟨_,_,rfl,?_⟩
  simp only [show (Int.ofNat l.length).toNat=l.length from rfl]
  rw [List.take_of_length_le (jo _),List.filter_eq_self.2 h]
def ddI:Int→List Int→List Int
 | _,[]=>[]
 | p,x::r=>if x=p then ddI p r else x::ddI x r
theorem ju0:∀ (l:List Int) (p:Int),∀ x,x∈p::ddI p l↔x∈p::l
 | [],_,_=>Iff.rfl
 | y::r,p,x=>by
  unfold ddI
  split
  ·rename_i h;subst h
   rw [ju0 r y x];simp
  ·have:=ju0 r y x
   rw [jf,this,jf,jf,jf]
theorem ju1:∀ (l:List Int) (p:Int),(p::l).Pairwise (· ≤ ·)→(p::ddI p l).Pairwise (· < ·)
 | [],_,_=>by simp [ddI]
 | y::r,p,h=>by
  have h1:=qb.1 h
  unfold ddI
  split
  ·rename_i h;subst h
   exact ju1 r y h1.2
  ·have ih:=ju1 r y h1.2
   refine qb.2 ⟨fun z hz=> ?_,ih⟩
   have hy:=h1.1 y (by simp)
   rcases jf.1 hz with rfl | hz
   ·omega
   ·have:=(qb.1 ih).1 z hz;omega
theorem jyn {l:List Int} (hl:l.length≤1000000) {k0:Nat}:∀ (n s k:Nat) (b:List Int),k0+s+n=l.length→1≤s→k≤k0+s-1→b.length=l.length→b.drop k=l.drop k→
  ∃ (m:Nat) (b':List Int),j1u (k:Int) (k0:Int) (s:Int) b=some ((m:Int),b')∧b'.length=l.length∧m≤l.length∧b'.take m=b.take k++ddI (l.getD (k0+s-1) 0) (l.drop (k0+s))
 | 0,s,k,b,hn,hs,hk,hb,hd=>by
  rw [j72]
  simp only [j1N,j7,show Int.ofNat (b.length-k0)=((b.length-k0:Nat):Int) from rfl]
  rw [j00 (by omega),j6,j08,jc (by omega)]
  exact ⟨k,b,rfl,hb,by omega,by simp [ddI]⟩
 | n+1,s,k,b,hn,hs,hk,hb,hd=>by
  have hlt:k0+s<l.length:=by omega
  have bget:∀ j,k≤j→b[j]? = l[j]? := fun j hj=>by
   have h:=jn (fun x=>x[j-k]?) hd
   simpa [List.getElem?_drop,show k+(j-k)=j by omega] using h
  have g1:b.getD (k0+s) (0:Int)=l[k0+s]:=by
   rw [List.getD_eq_getElem?_getD,bget _ (by omega),ji hlt];rfl
  have g2:b.getD (k0+(s-1)) (0:Int)=l.getD (k0+s-1) 0:=by
   rw [List.getD_eq_getElem?_getD,bget _ (by omega),show k0+(s-1)=k0+s-1 by omega,List.getD_eq_getElem?_getD]
  have e1:l.getD (k0+(s+1)-1) 0=l[k0+s]:=by
   rw [show k0+(s+1)-1=k0+s by omega];simp [hlt]
  rw [j72]
  simp only [j1N,j7,show Int.ofNat (b.length-k0)=((b.length-k0:Nat):Int) from rfl,show Int.ofNat k0=(k0:Int) from rfl]
  rw [j01 (show (s:Int)<((b.length-k0:Nat):Int) by omega),j0s (show (0:Int)≤(s:Int) by omega) (by omega),j02 (x:=(s:Int)-1) (by omega) (by omega),j0s (show (0:Int)≤(s:Int)-1 by omega) (by omega),j0s (show (0:Int)≤(k:Int) by omega) (by omega),j02 (x:=(k:Int)+1) (by omega) (by omega),j02 (x:=(s:Int)+1) (by omega) (by omega),show ((s:Int)-1).toNat=s-1 by omega,jb hlt]
  simp only [j5,g1,g2,ddI]
  by_cases hc:l[k0+s]=l.getD (k0+s-1) 0
  ·rw [show (l[k0+s] != l.getD (k0+s-1) 0)=false by rw [bne_eq_false_iff_eq];exact hc,if_pos hc,j6,j05]
   have ih:=jyn hl (k0:=k0) n (s+1) k b (by omega) (by omega) (by omega) hb hd
   rw [e1,hc,show k0+(s+1)=k0+s+1 by omega] at ih
   exact ih
  ·rw [show (l[k0+s] != l.getD (k0+s-1) 0)=true by rw [bne_iff_ne];exact hc,if_neg hc,j5,j05]
   have ih:=jyn hl (k0:=k0) n (s+1) (k+1) (b.set k l[k0+s]) (by omega) (by omega) (by omega) (by simpa using hb) (by
    rw [List.drop_set_of_lt (by omega)]
    have:=jn (List.drop 1) hd
    simpa [List.drop_drop] using this)
   rw [e1,show k0+(s+1)=k0+s+1 by omega] at ih
   obtain ⟨m,b',r1,r2,r3,r4⟩:=ih
   refine ⟨m,b',r1,r2,r3,?_⟩
   have hkb:k<b.length:=by omega
   rw [r4,ke,List.take_set_of_le (jo _),List.getElem?_set_self hkb]
   simp
def cpI:List Int→List Int
 | []=>[]
 | a::r=>a::ddI a r
theorem jAp {l:List Int} (hl:l.length≤1000000):∀ (n k:Nat),k+n=l.length→1≤k→cpI l=l.take k++ddI (l.getD (k-1) 0) (l.drop k)→
  (∃ (m:Nat) (b:List Int),j0R (k:Int) l=some (.inl ((m:Int),b))∧b.take m=cpI l)∨(j0R (k:Int) l=some (.inr l)∧cpI l=l)
 | 0,k,hn,hk,hT=>by
  rw [j73]
  simp only [j0H,show Int.ofNat l.length=(l.length:Int) from rfl]
  rw [j00 (by omega),j6,j08]
  rw [List.take_of_length_le (by omega),jc (by omega)] at hT
  exact .inr ⟨rfl,by simpa [ddI] using hT⟩
 | n+1,k,hn,hk,hT=>by
  have hlt:k<l.length:=by omega
  have g1:l.getD k (0:Int)=l[k]:=by simp [hlt]
  rw [jb hlt] at hT
  simp only [ddI] at hT
  rw [j73]
  simp only [j0H,show Int.ofNat l.length=(l.length:Int) from rfl]
  rw [j01 (show (k:Int)<(l.length:Int) by omega),j0s (show (0:Int)≤(k:Int) by omega) (by omega),j02 (x:=(k:Int)-1) (by omega) (by omega),j0s (show (0:Int)≤(k:Int)-1 by omega) (by omega),j02 (x:=(k:Int)+1) (by omega) (by omega),show ((k:Int)-1).toNat=k-1 by omega,j01 (show (0:Int)≤(k:Int) by omega),j01 (show (k:Int)≤(l.length:Int) by omega)]
  simp only [j5,j7,g1,Bool.and_self,show Int.ofNat k=(k:Int) from rfl]
  by_cases hc:l[k]=l.getD (k-1) 0
  ·rw [if_pos hc] at hT
   obtain ⟨m,b,r1,r2,r3,r4⟩:=jyn hl (k0:=k) n 1 k l (by omega) (by omega) (by omega) rfl rfl
   rw [show k+1-1=k by omega,g1,hc,←hT] at r4
   rw [j4Q hc,j5,show j1u (k:Int) (k:Int) 1 l=_ from r1]
   simp only [j3,j7,show Int.ofNat b.length=(b.length:Int) from rfl]
   rw [j01 (show (0:Int)≤(m:Int) by omega),j01 (show (m:Int)≤(b.length:Int) by omega)]
   simp only [Bool.and_self,j5,vg]
   rw [j01 (by simp;omega),j5,j08]
   refine .inl ⟨m,_,rfl,?_⟩
   rw [qs (by simp;omega),vq,Nat.min_self,r4]
  ·rw [if_neg hc] at hT
   rw [j2c hc,j6,j05]
   refine jAp hl n (k+1) (by omega) (by omega) ?_
   have htk:l.take (k+1)=l.take k++[l[k]]:=by rw [ke,ji hlt];rfl
   rw [hT,htk,show k+1-1=k by omega,g1,jk]
   rfl
theorem ju2 {l:List Int} (hl:l.length≤1000000):∃ n m,j28 l=some (n,m)∧m.take n.toNat=cpI l:=by
 simp only [j28,show Int.ofNat l.length=(l.length:Int) from rfl]
 by_cases h2:l.length<2
 ·rw [j01 (by omega),j5]
  refine ⟨_,_,rfl,?_⟩
  rw [j7,List.take_of_length_le (jo _)]
  match l,h2 with
  | [],_=>rfl
  | [a],_=>rfl
  | _::_::_,h2=>simp at h2;omega
 ·rw [j00 (by omega),j6]
  have hT:cpI l=l.take 1++ddI (l.getD (1-1) 0) (l.drop 1):=by
   match l,h2 with
   | [],h2=>simp at h2
   | a::r,_=>rfl
  rcases jAp hl (l.length-1) 1 (by omega) (by omega) hT with ⟨m,b,e,h⟩ | ⟨e,h⟩
  ·rw [show j0R 1 l=_ from e]
   refine ⟨_,_,rfl,?_⟩
   simpa using h
  ·rw [show j0R 1 l=_ from e]
   refine ⟨_,_,rfl,?_⟩
   rw [h]
   simp
theorem jBv {l:List Int} (x:Int):x∈cpI l↔x∈l:=by
 cases l with
 | nil=>exact Iff.rfl
 | cons a r=>exact ju0 r a x
theorem jBw {l:List Int} (h:l.Pairwise (· ≤ ·)):(cpI l).Pairwise (· < ·):=by
 cases l with
 | nil=>exact .nil
 | cons a r=>exact ju1 r a h
theorem ju3:∀ (l:List Int) (p:Int),(ddI p l).length≤l.length
 | [],_=>jo _
 | y::r,p=>by
  unfold ddI
  split
  ·have:=ju3 r p;simp;omega
  ·have:=ju3 r y;simp;omega
theorem jBx (l:List Int):(cpI l).length≤l.length:=by
 cases l with
 | nil=>exact jo _
 | cons a r=>have:=ju3 r a;simp [cpI];omega
theorem jBy {l:List Int} (hl:l.length≤1000000) {f t:Int}:∃ C,jcn l f t=some (C++[t])∧C.Pairwise (· < ·)∧C.length≤l.length∧(∀ x,x∈C↔x∈l∧f<x∧x<t):=by
 obtain ⟨n1,m1,e1,h1⟩:=jvZ (l:=l) (by omega) (f:=f) (t:=t)
 have hfl:(l.filter (inB f t)).length≤l.length:=List.length_filter_le _ _
 obtain ⟨s,e2,p2,a2⟩:=jzB (l:=l.filter (inB f t)) (by omega)
 have hsl:=p2.length_eq
 obtain ⟨n3,m3,e3,h3⟩:=ju2 (l:=s) (by omega)
 have hcl:=jBx s
 refine ⟨cpI s,?_,jBw a2,by omega,fun x=> ?_⟩
 ·simp only [jcn,j7Z,jt,v6]
  rw [j01 (show 0+l.length≤j07 by simp [j07];omega),j5]
  simp only [j3,e1,h1,e2,e3,h3]
  rw [j01 (show (cpI s).length+[t].length≤j07 by simp [j07];omega),j5]
 ·rw [jBv,p2.mem_iff,vk]
  have:inB f t x=true↔f<x∧x<t:=by
   unfold inB
   by_cases h1:x≤f
   ·rw [j01 h1];simp;omega
   ·rw [j00 h1]
    by_cases h2:x≥t
    ·rw [j01 h2];simp;omega
    ·rw [j00 h2];simp;omega
  rw [this]
theorem jCW {ds:List Int} (hs:ds.Pairwise (· < ·)) (hl:ds.length≤64) (x:Int):∃ (k:Nat) (b:Bool),j0i ds x=some ((k:Int),b)∧k≤ds.length∧(∀ i,(hi:i<ds.length)→i<k→ds[i]<x)∧∀ i,(hi:i<ds.length)→k≤i→x≤ds[i]:=by
 obtain ⟨k,e,hk,h1,h2⟩:=jzp hs hl (x:=x) ds.length 0 ds.length (by omega) (by omega) (jo _) (fun i _ h=>by omega) (fun i hi h=>by omega)
 rw [show ((0:Nat):Int)=0 from rfl] at e
 simp only [j0i,show Int.ofNat ds.length=(ds.length:Int) from rfl,e,j3,j7]
 by_cases hkl:k<ds.length
 ·have hgd:ds.getD k (0:Int)=ds[k]:=by simp [hkl]
  rw [j0s (by omega) (by omega),j01 (show (k:Int)<(ds.length:Int) by omega),hgd]
  simp only [qy,j5]
  by_cases hx:ds[k]=x
  ·rw [j4Q hx]
   exact ⟨k,_,rfl,hk,h1,h2⟩
  ·rw [j2c hx]
   simp only [j6,j6z,j3,jd]
   exact ⟨k,_,rfl,hk,h1,h2⟩
 ·rw [j00 (show ¬ (k:Int)<(ds.length:Int) by omega)]
  simp only [ju,Bool.or_true,j5,j6,Bool.false_and]
  exact ⟨k,_,rfl,hk,h1,h2⟩
theorem jl9 {a t:Int}:∀ (es:List j43) (p:Int),(∀ x∈es,(x.2.2.2.1≤a↔x.2.2.2.1≤t)∧(x.2.2.2.2≤a↔x.2.2.2.2≤t))→jfN t p es=jfN a p es
 | [],_,_=>rfl
 | x::r,p,h=>by
  have hx:=h x (by simp)
  simp only [jfN]
  have e:jst t p x=jst a p x:=by
   unfold jst
   have:(t<x.2.2.2.1∨x.2.2.2.2≤t)↔(a<x.2.2.2.1∨x.2.2.2.2≤a):=by omega
   by_cases hc:a<x.2.2.2.1∨x.2.2.2.2≤a
   ·rw [if_pos hc,if_pos (this.2 hc)]
   ·rw [if_neg hc,if_neg (fun h=>hc (this.1 h))]
  rw [e]
  exact jl9 r _ (fun y hy=>h y (by simp [hy]))
theorem jCX {es:List j43} (hl:es.length≤1000) {f t:Int} {zs:List j1R} {ps:List j1q} {cs:List CalT} {ss:List j1y} {tbs:List (Int×TrL)} {nm:ByteArray} {ls:List j0w}:∀ (n i:Nat) (acc:List Int),i+n=es.length→acc.length≤2*i→
  j3b f t es (es.length:Int) (i:Int) zs ps cs ss tbs nm ls es acc=some (f,t,zs,ps,cs,ss,tbs,nm,ls,es,acc++edB (es.drop i))
 | 0,i,acc,hi,_=>by
  rw [jaO]
  simp only [j3a]
  rw [j00 (by omega),j6,j08,jc (by omega)]
  simp [edB]
 | n+1,i,acc,hi,hacc=>by
  have hi':i<es.length:=by omega
  have hgd:es.getD i ((0:Int),((0:Int),((0:Int),((0:Int),(0:Int)))))=es[i]:=by simp [List.getD,hi']
  have ih:=jCX hl (f:=f) (t:=t) (zs:=zs) (ps:=ps) (cs:=cs) (ss:=ss) (tbs:=tbs) (nm:=nm) (ls:=ls) n (i+1) (acc++[es[i].2.2.2.1,es[i].2.2.2.2]) (by omega) (by simp;omega)
  rw [jaO]
  simp only [j3a]
  rw [j01 (by omega),j0s (by omega) (by omega),j02 (x:=(i:Int)+1) (by omega) (by omega)]
  simp only [j5,j7,hgd]
  rw [j01 (by simp [j07];omega),j5,j05,jb hi']
  rw [jk] at ih
  exact ih
theorem jzC {es:List j43} (hl:es.length≤100) {p t:Int}:j9e es p t=some (jfN t p es):=by
 have ef:=jtY hl (t:=t) es.length 0 p (by omega)
 rw [jy] at ef
 simp only [j9e,show Int.ofNat es.length=(es.length:Int) from rfl,show j6b p t es (es.length:Int) 0=_ from ef]
 rfl
section
variable {es:List j43} (hel:es.length≤100) {K:List Int} (hK:K.Pairwise (· < ·)) (hKl:K.length≤64) {a0 b:Int} (hb:b∈K) (hin:∀ x∈edB es,a0<x→x<b→x∈K)
include hel hK hKl hb hin
theorem jDw {g:Int→Int} {p u:Int} (hu:u≤b) {m q w:Int} {nm:ByteArray} {ls:List j0w} {R:SgL} {x:Int}:∀ (n i:Nat) (a:Int) (acc:SgL),K.length-i≤n→a0≤a→a≤u→(a<u→i<K.length)→(∀ k,(hk:k<K.length)→(a<u→(k<i→K[k]≤a)∧(i≤k→a<K[k])))→(∀ t,a≤t→t<u→g t=p)→
  acc.length+(K.length-i)≤1000000000→Ch (fun t=>jfN t (g t) es) a x acc→
  ∃ out,j45 (i:Int) a m q nm ls es w u p K acc R=some (m,q,nm,ls,es,K,out,R)∧Ch (fun t=>jfN t (g t) es) u x out∧out.length≤acc.length+(K.length-i):=by
 intro n
 induction n with
 | zero=>
  intro i a acc hn ha hau hi _ _ _ hch
  rw [jaP]
  simp only [j1m]
  have hge:¬ a<u:=fun h=>by have:=hi h;omega
  rw [j00 hge,j6,j08]
  have:a=u:=by omega
  subst this
  exact ⟨acc,rfl,hch,by omega⟩
 | succ n ih=>
  intro i a acc hn ha hau hi hsp hg hal hch
  rw [jaP]
  simp only [j1m]
  by_cases hlt:a<u
  ·have hil:=hi hlt
   have hgd:K.getD i (0:Int)=K[i]:=by simp [hil]
   have h1:=((hsp i hil) hlt).2 (jo _)
   rw [j01 hlt,j0s (by omega) (by omega),j02 (x:=(i:Int)+1) (by omega) (by omega)]
   simp only [j5,j7,hgd,jzC hel,j3]
   rw [j01 (by simp [j07];omega),j5,j05]
   have hend:(if K[i]<u then K[i] else u)=min K[i] u:=by split<;>omega
   rw [hend]
   have hm1:a<min K[i] u:=by omega
   have hseg:∀ t,a≤t→t<min K[i] u→jfN t (g t) es=jfN a p es:=fun t t1 t2=>by
    rw [hg t t1 (by omega)]
    refine jl9 es p (fun y hy=> ?_)
    obtain ⟨y1,y2⟩:=jtX hy
    have key:∀ c,c∈edB es→(c≤a↔c≤t):=fun c hc=>by
     refine ⟨fun h=>by omega,fun h=> ?_⟩
     apply jm
     intro hca
     have hcK:=hin c hc (by omega) (by omega)
     obtain ⟨k,hk,rfl⟩:=qx hcK
     by_cases hki:k<i
     ·have:=((hsp k hk) hlt).1 hki;omega
     ·by_cases hke:k=i
      ·subst hke;omega
      ·have:=kq.1 hK i k hil hk (by omega);omega
    exact ⟨key _ y1,key _ y2⟩
   have hch':=hch.snoc (b:=a) (c:=min K[i] u) (p:=jfN a p es) (by omega) hseg
   obtain ⟨out,e,hc,hl⟩:=ih (i+1) (min K[i] u) (acc++[(a,(min K[i] u,jfN a p es))]) (by omega) (by omega) (by omega) (fun h=>by
    apply jm
    intro hcon
    obtain ⟨k,hk,hkb⟩:=qx hb
    by_cases hki:k=i
    ·subst hki;omega
    ·have:=kq.1 hK k i hk hil (by omega)
     omega) (fun k hk h=>⟨fun hki=>by
    by_cases hke:k=i
    ·subst hke;omega
    ·have:=((hsp k hk) hlt).1 (by omega);omega,fun hki=>by
    have:=kq.1 hK i k hil hk (by omega)
    omega⟩) (fun t t1 t2=>hg t (by omega) t2) (by simp;omega) hch'
   exact ⟨out,e,hc,by simp at hl;omega⟩
  ·rw [j00 hlt,j6,j08]
   have:a=u:=by omega
   subst this
   exact ⟨acc,rfl,hch,by omega⟩
theorem jCY {g:Int→Int} {S:SgL} (hSl:S.length≤10000000) {nm:ByteArray} {ls:List j0w} (ha0 : -1000000000000≤a0) (hb1:b≤1000000000000) {x:Int}:∀ (n i:Nat) (a:Int) (acc:SgL),i+n=S.length→a0≤a→Ch g b a (S.drop i)→Ch (fun t=>jfN t (g t) es) a x acc→acc.length≤64*i→
  ∃ out,j3c (S.length:Int) (i:Int) nm ls es K acc S=some out∧Ch (fun t=>jfN t (g t) es) b x out∧out.length≤64*S.length
 | 0,i,a,acc,hi,_,hc,hch,hal=>by
  rw [jc (by omega)] at hc
  have hc:a=b:=hc
  subst hc
  rw [jaQ]
  simp only [j1n]
  rw [j00 (by omega),j6,j08]
  exact ⟨acc,rfl,hch,by omega⟩
 | n+1,i,a,acc,hi,ha,hc,hch,hal=>by
  have hi':i<S.length:=by omega
  rw [jb hi'] at hc
  obtain ⟨c1,c2,c3,c4⟩:=hc
  have hle:=c4.le
  have hgd:S.getD i ((0:Int),((0:Int),(0:Int)))=S[i]:=by simp [List.getD,hi']
  obtain ⟨k,bb,ek,hk,k1,k2⟩:=jCW hK hKl (a+1)
  obtain ⟨out,e4,hc4,hl4⟩:=jDw hel hK hKl hb hin (g:=g) (p:=S[i].2.2) (u:=S[i].2.1) hle (m:=(S.length:Int)) (q:=(i:Int)) (w:=S[i].1) (nm:=nm) (ls:=ls) (R:=S) (x:=x) K.length k a acc (by omega) ha c2 (fun h=>by
   apply jm
   intro hcon
   obtain ⟨j,hj,hjb⟩:=qx hb
   have:=k1 j hj (by omega)
   omega) (fun j hj _=>⟨fun h=>by have:=k1 j hj h;omega,fun h=>by have:=k2 j hj h;omega⟩) c3 (by omega) hch
  have ih:=jCY hSl (nm:=nm) (ls:=ls) ha0 hb1 (g:=g) (x:=x) n (i+1) S[i].2.1 out (by omega) (by omega) c4 hc4 (by omega)
  rw [jaQ]
  simp only [j1n]
  rw [j01 (by omega),j0s (by omega) (by omega)]
  simp only [j5,j7,hgd,c1]
  rw [j02 (x:=a+1) (by omega) (by omega),ek]
  simp only [j3]
  rw [c1] at e4
  rw [e4]
  simp only [j3]
  rw [j02 (x:=(i:Int)+1) (by omega) (by omega),j05]
  exact ih
end
section
variable {zs:List j1R} {ps:List j1q} {cs:List CalT} (hs:SOk2 zs ps cs)
include hs
theorem juZ {a b:Int} (ha:0≤a) (hab:a≤b) (hb:b≤8589934592) (hlen:b-a≤35078400):∀ ls:List j0w,(∀ L∈ls,LCk zs.length ps.length cs.length L)→
  ∃ E:List Int,E.length≤30000*ls.length∧∀ L∈ls,∀ x,a<x→x<b→perX zs cs L (x-1)≠perX zs cs L x→x∈E
 | [],_=>⟨[],by simp,by simp⟩
 | L::ls,hL=>by
  obtain ⟨E,e1,e2⟩:=juZ ha hab hb hlen ls (fun M hM=>hL M (by simp [hM]))
  obtain ⟨S,_,c1,l1⟩:=juV hs (hL L (by simp)) (ss:=[]) ha hab hb hlen
  refine ⟨brd S++E,?_,fun M hM x x1 x2 x3=> ?_⟩
  ·have:(brd S).length≤S.length:=by simp [brd]
   rw [jh,jp];omega
  ·rcases jf.1 hM with rfl | hM
   ·exact kb _ (((jqD c1).1 x).2 ⟨x1,x2,x3⟩)
   ·exact ki _ (e2 M hM x x1 x2 x3)
theorem jzD {ls:List j0w} {es:List j43} (hL:∀ L∈ls,LCk zs.length ps.length cs.length L) {a b:Int} (ha:0≤a) (hab:a≤b) (hb:b≤8589934592) (hlen:b-a≤35078400) :
  ∃ E:List Int,E.length≤30000*ls.length+2*es.length∧(∀ x,a<x→x<b→topP es (x-1) (pfX zs cs ls (x-1)) ls.length≠topP es x (pfX zs cs ls x) ls.length→x∈E)∧∀ x∈edB es,x∈E:=by
 obtain ⟨E,e1,e2⟩:=juZ hs ha hab hb hlen ls hL
 refine ⟨E++edB es,by rw [jh,jqE];omega,fun x x1 x2 x3=> ?_,fun x hx=>ki _ hx⟩
 apply jm
 intro hn
 simp only [jq,not_or] at hn
 refine x3 (jp6 (fun i hi=> ?_) (fun p=>jss hn.2 p))
 apply jm
 intro hne
 have e:∀ t,pfX zs cs ls t i=perX zs cs ls[i] t:=fun t=>by simp [pfX,List.getD,hi]
 rw [e,e] at hne
 exact hn.1 (e2 _ (jg hi) x x1 x2 hne)
theorem jw0 {nm:ByteArray} {ls:List j0w} {es:List j43} (hL:∀ L∈ls,LCk zs.length ps.length cs.length L) (hll:ls.length≤4) (hE:∀ x∈es,ECk ps.length x) (hel:es.length≤9)
  {ss:List j1y} {a b:Int} (ha:0≤a) (hab:a≤b) (hb:b≤8589934592) (hlen:b-a≤35078400) :
  ∃ out,j2K ((zs,(ps,(cs,ss))),zs.map tb) (nm,(ls,es)) a b=some out∧Cov (fun t=>topP es t (pfX zs cs ls t) ls.length) b none a out∧out.length≤30000*ls.length+2*es.length+1:=by
 obtain ⟨out,e,h,_⟩:=jzA hs hL hll hE hel ha hab hb (by omega) (nm:=nm) (ss:=ss)
 obtain ⟨E,e1,e2,_⟩:=jzD hs (es:=es) hL ha hab hb hlen
 have:=jyk h e2
 exact ⟨out,e,h,by omega⟩
theorem jBz {s:j1y} (hk:SCk zs.length ps.length cs.length s) (hll:s.2.1.length≤3) (hel:s.2.2.length≤6) {ss:List j1y} {a b:Int} (ha:0≤a) (hab:a<b) (hb:b≤8589934592) (hlen:b-a≤34560000) :
  ∃ out,j3d ((zs,(ps,(cs,ss))),zs.map tb) s a b=some out∧Cov (whoS zs cs s) b none a out∧out.length≤10000000:=by
 obtain ⟨S,eS,hS,lS⟩:=jw0 hs (nm:=s.1) hk.ly (by omega) hk.ed (by omega) (ss:=ss) ha (by omega) hb (by omega)
 have l0:=jCX (es:=s.2.2) (by omega) (f:=a) (t:=b) (zs:=zs) (ps:=ps) (cs:=cs) (ss:=ss) (tbs:=zs.map tb) (nm:=s.1) (ls:=s.2.1) s.2.2.length 0 [] (by omega) (by simp)
 rw [jt,jy] at l0
 have hbl:=jqE s.2.2
 obtain ⟨C,eC,c1,c2,c3⟩:=jBy (l:=edB s.2.2) (by omega) (f:=a) (t:=b)
 have hKp:(C++[b]).Pairwise (· < ·):=List.pairwise_append.2 ⟨c1,List.pairwise_singleton _ _,fun x hx y hy=>by
  simp at hy;subst hy
  exact ((c3 x).1 hx).2.2⟩
 obtain ⟨M,e2,hM,lM⟩:=jCY (es:=s.2.2) (by omega) hKp (by simp;omega) (a0:=a) (b:=b) (by simp) (fun x hx x1 x2=>kb _ ((c3 x).2 ⟨hx,x1,x2⟩)) (g:=fun t=>topP s.2.2 t (pfX zs cs s.2.1 t) s.2.1.length) (S:=S) (by omega) (nm:=s.1) (ls:=s.2.1) (by omega) (by omega) (x:=a) S.length 0 a [] (by omega) (by omega) (by rw [jy];exact hS.ch) rfl (by simp)
 obtain ⟨out,e3,h3,l3⟩:=jnN (l:=M) (by omega) hM
 refine ⟨out,?_,h3,by omega⟩
 simp only [j3d,show Int.ofNat s.2.2.length=(s.2.2.length:Int) from rfl]
 rw [show j3b a b s.2.2 (s.2.2.length:Int) 0 zs ps cs ss (zs.map tb) s.1 s.2.1 s.2.2 []=_ from l0]
 simp only [j3,eC]
 rw [show j2K ((zs,(ps,(cs,ss))),zs.map tb) (s.1,(s.2.1,s.2.2)) a b=_ from eS]
 simp only [j3,show Int.ofNat S.length=(S.length:Int) from rfl]
 rw [show j3c (S.length:Int) 0 s.1 s.2.1 s.2.2 (C++[b]) [] S=_ from e2]
 simp only [j3,e3]
end
set_option linter.unusedSectionVars false
section
variable {zs:List j1R} {ps:List j1q} {cs:List CalT} (hs:SOk2 zs ps cs)
include hs
theorem jzE {ss:List j1y} (hc:jhe (zs,(ps,(cs,ss)))) {i:Nat} (hi:i<ss.length) (hll:ss[i].2.1.length≤3) (hel:ss[i].2.2.length≤6) {a b:Int} (ha:0≤a) (hab:a<b) (hb:b≤8589934592) (hlen:b-a≤1209600) :
  ∃ S,j2o (zs,(ps,(cs,ss))) (i:Int) a b=some (S,0)∧Cov (whoS zs cs ss[i]) b none a S∧S.length≤16384:=by
 have hsc:=hc.sc _ (jg hi)
 have hgs:ss.getD i (ByteArray.empty,(([]:List j0w),([]:List j43)))=ss[i]:=by simp [List.getD,hi]
 obtain ⟨S,eS,hS,lS⟩:=jBz hs hsc hll hel (ss:=ss) (a:=a) (b:=b) ha hab hb (by omega)
 obtain ⟨E,e1,e2,e3⟩:=jBu hs (es:=ss[i].2.2) hsc.ly ha (Int.le_of_lt hab) hb hlen
 have hSl:S.length≤E.length+1:=jyk hS (fun x x1 x2 x3=>by
  apply jm
  intro hn
  refine x3 ?_
  have hT:topP ss[i].2.2 (x-1) (pfX zs cs ss[i].2.1 (x-1)) ss[i].2.1.length=topP ss[i].2.2 x (pfX zs cs ss[i].2.1 x) ss[i].2.1.length:=by
   apply jm
   intro hne
   exact hn (e2 x x1 x2 hne)
  unfold whoS
  rw [hT]
  refine (jl9 _ _ fun y hy=> ?_).symm
  obtain ⟨m1,m2⟩:=jtX hy
  have n1:x≠y.2.2.2.1:=fun e=>hn (e▸e3 _ m1)
  have n2:x≠y.2.2.2.2:=fun e=>hn (e▸e3 _ m2)
  omega)
 refine ⟨S,?_,hS,by omega⟩
 simp only [j2o]
 rw [show j6i (zs,(ps,(cs,ss))) (i:Int) a b=_ from jvX hs hc hi ha (Int.le_of_lt hab) hb (by omega)]
 simp only [j3,jd,j6]
 rw [j0s (by omega) (by omega)]
 simp only [j5,j7,hgs]
 rw [show j3d ((zs,(ps,(cs,ss))),zs.map tb) (ss[i].1,(ss[i].2.1,ss[i].2.2)) a b=_ from eS]
 simp only [j3,show Int.ofNat S.length=(S.length:Int) from rfl]
 rw [j00 (show ¬ (S.length:Int)>16384 by omega)]
 rfl
end
section
variable {zs:List j1R} {ps:List j1q} {cs:List CalT} (hs:SOk2 zs ps cs)
include hs
theorem jzF {s:j1y} {r:List j1y} (hc:jhe (zs,(ps,(cs,s::r)))) {e:j43} (hc2:jhe (zs,(ps,(cs,(s.1,(s.2.1,s.2.2++[e]))::r)))) :
  jgH (zs,(ps,(cs,s::r))) 0 e=some ((zs,(ps,(cs,(s.1,(s.2.1,s.2.2++[e]))::r))),0):=by
 have hel:=(hc.sc s (by simp)).el
 have hsl:(s::r).length≤12:=hc.sl
 simp only [jgH]
 rw [show j8t (zs,ps,cs,s::r)=_ from jzv hc (jzx hs)]
 simp only [j3,jd,j6,show Int.ofNat (s::r).length=((s::r).length:Int) from rfl]
 rw [j00 (show ¬ (0:Int)<0 by omega),j00 (show ¬ (0:Int)≥((s::r).length:Int) by simp),j0s (show (0:Int)≤0 by omega) (by simp)]
 simp only [j5,j6,show Int.toNat 0=0 from rfl,show List.getD (s::r) 0 (ByteArray.empty,(([]:List j0w),([]:List j43)))=s from rfl]
 rw [j01 (show ([]:List j43).length+s.2.2.length≤j07 by simp [j07];omega)]
 simp only [j5,jt]
 rw [j01 (show s.2.2.length+[e].length≤j07 by simp [j07];omega)]
 simp only [j5,jpI]
 rw [j01 (show ([]:List j1y).length+(s::r).length≤j07 by simp only [j07,v6];omega)]
 simp only [j5,jt]
 rw [j0s (show (0:Int)≤0 by omega) (by simp)]
 simp only [j5,show Int.toNat 0=0 from rfl,show List.getD (s::r) 0 (ByteArray.empty,(([]:List j0w),([]:List j43)))=s from rfl,List.set_cons_zero,j3]
 rw [show j8t (zs,ps,cs,(s.1,s.2.1,s.2.2++[e])::r)=_ from jzv hc2 (jzx hs)]
 rfl
end
theorem jAq:jag=some true:=jqt 1000 true (by kernel_rfl)
end Go.Proofs.Pw
