/- The references of chapters 11 to 14: who is on duty, who is on call. -/
import Derived.Test.YthpdddnkpjnllaaGreatDPL
import Derived.Test.YthpdddnkpjnllaaGreatDPI
import Derived.Test.YthpdddnkpjnllaaGreatDPK
import Derived.Test.YthpdddnkpjnllaaGreatDPG
open Go Go.Lft
namespace Go.Proofs.Pw
theorem jBQ {w:WL} (hl:w.length≤14) (s:Int):∀ (n i:Nat),i+n=w.length→j9v w s (i:Int)=some (cond (hasB s (w.drop i)) (.inl true) (.inr ()))
 | 0,i,hi=>by
  rw [jg8]
  simp only [j5r,show Int.ofNat w.length=(w.length:Int) from rfl]
  rw [j00 (by omega),j6,j08,List.drop_of_length_le (by omega)]
  rfl
 | n+1,i,hi=>by
  have hi':i<w.length:=by omega
  have hgd:w.getD i ((0:Int),(0:Int))=w[i]:=by simp [List.getD,hi']
  rw [jg8]
  simp only [j5r,show Int.ofNat w.length=(w.length:Int) from rfl]
  rw [j01 (by omega),j0s (by omega) (by omega)]
  simp only [j5,Bool.true_or,j7,hgd]
  rw [j02 (x:=(i:Int)+1) (by omega) (by omega),List.drop_eq_getElem_cons hi']
  have hb:hasB s (w[i]::w.drop (i+1))=cond (cond (decide (w[i].1≤s)) (decide (s<w[i].2)) false) true (hasB s (w.drop (i+1))):=rfl
  rw [hb]
  by_cases h1:w[i].1≤s
  ·rw [j01 (show s≥w[i].1 from h1)]
   simp only [j5]
   by_cases h2:s<w[i].2
   ·rw [j01 h2]
    rfl
   ·rw [j00 h2]
    simp only [j6,j05]
    exact jBQ hl s n (i+1) (by omega)
  ·rw [j00 (show ¬ s≥w[i].1 from h1)]
   simp only [j6,j05]
   exact jBQ hl s n (i+1) (by omega)
theorem jyK {w:WL} (hl:w.length≤14) (s:Int):jhT w s=some (hasB s w):=by
 have:=jBQ hl s w.length 0 (by omega)
 simp only [jhT,show j9v w s 0=_ from this,j3,List.drop_zero]
 cases hasB s w<;>rfl
theorem jDh {z:j22} (hz:ZOk z) {t:Int} (h0:0≤t) (h1:t≤8589934592):j4g z t=some (locD z t,0):=by
 have h4:=hz.zref.2.1
 obtain ⟨k,hk,k1,k2⟩:=jfQ h4.2 h0 h1
 have e:=jkw h4.2 hk k1 k2
 have:locD z t=((t+tof z.2.1 (tb z).2 k)/86400,(t+tof z.2.1 (tb z).2 k)%86400):=by
  simp only [locD,show j0r (tb z) t=_ from e,Option.getD_some]
 rw [this]
 exact jv6 h4 h0 h1 hk k1 k2
theorem jDi {z:j22} (hz:ZOk z) {t:Int} (h0:0≤t) (h1:t≤8589934592) {w:WL} (hw:WOk 0 w) (hl:w.length≤14):jcl z t=some (secD (locD z t),0)∧jrJ z w t=some (hasB (secD (locD z t)) w):=by
 have e1:=jDh hz h0 h1
 obtain ⟨_,hsc⟩:=jqR hz h0 h1
 have e2:jhS (locD z t)=some (secD (locD z t)):=hsc
 have e3:jcl z t=some (secD (locD z t),0):=by
  simp only [jcl,show j4g (z.1,(z.2.1,z.2.2)) t=_ from e1,j3,bne_self_eq_false,j6,show jhS ((locD z t).1,(locD z t).2)=_ from e2]
 refine ⟨e3,?_⟩
 simp only [jrJ,show jcl (z.1,(z.2.1,z.2.2)) t=_ from e3,j3,beq_self_eq_true,j5,r5ck hw hl,jyK hl]
section
variable {zs:List j22} {ps:List j1D} {cs:List CalT} (hs:SOk2 zs ps cs)
include hs
theorem jBR {k d e:Int} {x:CalT} (hx:CCk zs.length x) {L:j0z}:∀ (n i:Nat) (b:Bool),i+n=x.2.2.length→b=decide (d∈x.2.2.take i)→
  j8W k b (i:Int) L.1 L.2.1 L.2.2.1.1 L.2.2.1.2 L.2.2.2.1 L.2.2.2.2.1 L.2.2.2.2.2.1 L.2.2.2.2.2.2.1 L.2.2.2.2.2.2.2.1 L.2.2.2.2.2.2.2.2 x.1 x.2.1 x.2.2 d e=
   some (k,decide (d∈x.2.2),L.1,L.2.1,L.2.2.1.1,L.2.2.1.2,L.2.2.2.1,L.2.2.2.2.1,L.2.2.2.2.2.1,L.2.2.2.2.2.2.1,L.2.2.2.2.2.2.2.1,L.2.2.2.2.2.2.2.2)
 | 0,i,b,hi,hb=>by
  rw [jig]
  simp only [j6S,show Int.ofNat x.2.2.length=(x.2.2.length:Int) from rfl]
  rw [j00 (by omega),j6,j08,hb,List.take_of_length_le (by omega)]
 | n+1,i,b,hi,hb=>by
  have _:=hs
  have hxl:=hx.len
  have hi':i<x.2.2.length:=by omega
  have hgd:x.2.2.getD i (0:Int)=x.2.2[i]:=by simp [hi']
  rw [jig]
  simp only [j6S,show Int.ofNat x.2.2.length=(x.2.2.length:Int) from rfl]
  rw [j01 (by omega),j02 (x:=(i:Int)+1) (by omega) (by omega),j5]
  have ht:x.2.2.take (i+1)=x.2.2.take i++[x.2.2[i]]:=by rw [List.take_add_one,List.getElem?_eq_getElem hi'];rfl
  cases hbb:b with
  | true=>
   simp only [j5,j05]
   refine jBR hx n (i+1) true (by omega) ?_
   have:d∈x.2.2.take i:=of_decide_eq_true (by rw [←hb,hbb])
   rw [ht]
   exact (j01 (List.mem_append_left _ this)).symm
  | false=>
   have hnm:d∉x.2.2.take i:=of_decide_eq_false (by rw [←hb,hbb])
   rw [j0s (show (0:Int)≤(i:Int) by omega) (by omega)]
   simp only [j6,j5,j7,hgd,j05]
   refine jBR hx n (i+1) _ (by omega) ?_
   rw [ht]
   by_cases he:x.2.2[i]=d
   ·rw [j4J he]
    exact (j01 (List.mem_append_right _ (by simp [he]))).symm
   ·rw [j2k he]
    refine (j00 fun hm=> ?_).symm
    rcases List.mem_append.1 hm with h | h
    ·exact hnm h
    ·simp at h;exact he h.symm
theorem jBS {L:j0z} (hL:LCk zs.length ps.length cs.length L) {ss:List j1O} {t:Int} (h0:0≤t) (h1:t≤8589934592):∃ k,jk0 (zs,(ps,(cs,ss))) L t=some (k,onX zs cs L t)∧(onX zs cs L t=true→k=shK (zAt zs L.2.1) L t):=by
 have hRt:=hL.rt2
 have hz:ZOk (zAt zs L.2.1):=zget hs.so.ok hL.z0 hL.z1
 have h4:=hz.zref.2.1
 obtain ⟨K,eK,hK⟩:=jDV h4 hRt h0 h1
 have hKs:K=shK (zAt zs L.2.1) L t:=ShO.uniq h4.2 hRt hK (jhy hz hRt h0 h1).2
 subst hKs
 have ek:jh1 (zAt zs L.2.1) L t=some (shK (zAt zs L.2.1) L t,0):=by
  simp only [jh1,show jgX ((zAt zs L.2.1).1,((zAt zs L.2.1).2.1,(zAt zs L.2.1).2.2)) (L.1,L.2.1,(L.2.2.1.1,L.2.2.1.2),L.2.2.2.1,L.2.2.2.2.1,L.2.2.2.2.2.1,L.2.2.2.2.2.2.1,L.2.2.2.2.2.2.2.1,L.2.2.2.2.2.2.2.2)=_ from jua h4 L,j3]
  rw [if_pos hRt,j00 (show ¬ t<0 by omega),j00 (show ¬ t>8589934592 by omega)]
  simp only [bne_self_eq_false,j6]
  rw [show jh0 ((zAt zs L.2.1).1,((zAt zs L.2.1).2.1,(zAt zs L.2.1).2.2)) (L.1,L.2.1,(L.2.2.1.1,L.2.2.1.2),L.2.2.2.1,L.2.2.2.2.1,L.2.2.2.2.2.1,L.2.2.2.2.2.2.1,L.2.2.2.2.2.2.2.1,L.2.2.2.2.2.2.2.2) t=_ from eK]
  rfl
 obtain ⟨_,ein⟩:=jDi hz h0 h1 hL.w hL.wl
 have htail:(cond (L.2.2.2.2.2.2.2.2==(0:Int)) (some (shK (zAt zs L.2.1) L t,true)) (cond (inR L.2.2.2.2.2.2.2.1 cs.length) (cond (inR (cs.getD L.2.2.2.2.2.2.2.1.toNat (ByteArray.empty,((0:Int),([]:List Int)))).2.1 zs.length)
   ((j4g ((zs.getD (cs.getD L.2.2.2.2.2.2.2.1.toNat (ByteArray.empty,((0:Int),([]:List Int)))).2.1.toNat (ByteArray.empty,((0:Int),([]:List Rule)))).1,((zs.getD (cs.getD L.2.2.2.2.2.2.2.1.toNat (ByteArray.empty,((0:Int),([]:List Int)))).2.1.toNat (ByteArray.empty,((0:Int),([]:List Rule)))).2.1,(zs.getD (cs.getD L.2.2.2.2.2.2.2.1.toNat (ByteArray.empty,((0:Int),([]:List Int)))).2.1.toNat (ByteArray.empty,((0:Int),([]:List Rule)))).2.2)) t).bind fun r67=>
     (j8W (shK (zAt zs L.2.1) L t) false 0 L.1 L.2.1 L.2.2.1.1 L.2.2.1.2 L.2.2.2.1 L.2.2.2.2.1 L.2.2.2.2.2.1 L.2.2.2.2.2.2.1 L.2.2.2.2.2.2.2.1 L.2.2.2.2.2.2.2.2 (cs.getD L.2.2.2.2.2.2.2.1.toNat (ByteArray.empty,((0:Int),([]:List Int)))).1 (cs.getD L.2.2.2.2.2.2.2.1.toNat (ByteArray.empty,((0:Int),([]:List Int)))).2.1 (cs.getD L.2.2.2.2.2.2.2.1.toNat (ByteArray.empty,((0:Int),([]:List Int)))).2.2 r67.1.1 r67.1.2).bind fun q0=>
      some (q0.1,(q0.2.1==(q0.2.2.2.2.2.2.2.2.2.2.2==(2:Int))))) none) none))=some (shK (zAt zs L.2.1) L t,calB zs cs L t):=by
  by_cases hm:L.2.2.2.2.2.2.2.2=0
  ·rw [j4J hm,j5]
   unfold calB
   rw [j4J hm];rfl
  ·have hcal:=hL.cal hm
   have hx:=cget hs hcal.1 hcal.2
   have hxz:=zget hs.so.ok hx.z0 hx.z1
   rw [j2k hm,j6,j0s hcal.1 hcal.2,j0s hx.z0 hx.z1]
   simp only [j5]
   rw [show j4g ((zs.getD (cs.getD L.2.2.2.2.2.2.2.1.toNat (ByteArray.empty,((0:Int),([]:List Int)))).2.1.toNat (ByteArray.empty,((0:Int),([]:List Rule)))).1,((zs.getD (cs.getD L.2.2.2.2.2.2.2.1.toNat (ByteArray.empty,((0:Int),([]:List Int)))).2.1.toNat (ByteArray.empty,((0:Int),([]:List Rule)))).2.1,(zs.getD (cs.getD L.2.2.2.2.2.2.2.1.toNat (ByteArray.empty,((0:Int),([]:List Int)))).2.1.toNat (ByteArray.empty,((0:Int),([]:List Rule)))).2.2)) t=_ from jDh hxz h0 h1]
   simp only [j3]
   rw [show j8W (shK (zAt zs L.2.1) L t) false 0 L.1 L.2.1 L.2.2.1.1 L.2.2.1.2 L.2.2.2.1 L.2.2.2.2.1 L.2.2.2.2.2.1 L.2.2.2.2.2.2.1 L.2.2.2.2.2.2.2.1 L.2.2.2.2.2.2.2.2 (cs.getD L.2.2.2.2.2.2.2.1.toNat (ByteArray.empty,((0:Int),([]:List Int)))).1 (cs.getD L.2.2.2.2.2.2.2.1.toNat (ByteArray.empty,((0:Int),([]:List Int)))).2.1 (cs.getD L.2.2.2.2.2.2.2.1.toNat (ByteArray.empty,((0:Int),([]:List Int)))).2.2 _ _=_ from jBR hs hx (L:=L) (cs.getD L.2.2.2.2.2.2.2.1.toNat (ByteArray.empty,((0:Int),([]:List Int)))).2.2.length 0 false (by omega) (by simp)]
   unfold calB
   rw [j2k hm]
   rfl
 simp only [jk0]
 rw [j0s hL.z0 hL.z1]
 simp only [j5]
 rw [show jh1 ((zs.getD L.2.1.toNat (ByteArray.empty,((0:Int),([]:List Rule)))).1,((zs.getD L.2.1.toNat (ByteArray.empty,((0:Int),([]:List Rule)))).2.1,(zs.getD L.2.1.toNat (ByteArray.empty,((0:Int),([]:List Rule)))).2.2)) (L.1,L.2.1,(L.2.2.1.1,L.2.2.1.2),L.2.2.2.1,L.2.2.2.2.1,L.2.2.2.2.2.1,L.2.2.2.2.2.2.1,L.2.2.2.2.2.2.2.1,L.2.2.2.2.2.2.2.2) t=_ from ek]
 simp only [j3,bne_self_eq_false,j6]
 by_cases hk:0≤shK (zAt zs L.2.1) L t
 ·rw [j00 (show ¬ shK (zAt zs L.2.1) L t<0 by omega)]
  simp only [j6,show Int.ofNat L.2.2.2.2.2.2.1.length=(L.2.2.2.2.2.2.1.length:Int) from rfl]
  have hon:onX zs cs L t=cond (okW L.2.2.2.2.2.2.1 (secD (locD (zAt zs L.2.1) t))) (calB zs cs L t) false:=by
   unfold onX
   rw [j01 hk];rfl
  rw [hon]
  by_cases hw:(L.2.2.2.2.2.2.1.length:Int)>0
  ·rw [j01 hw,j5,show jrJ ((zs.getD L.2.1.toNat (ByteArray.empty,((0:Int),([]:List Rule)))).1,((zs.getD L.2.1.toNat (ByteArray.empty,((0:Int),([]:List Rule)))).2.1,(zs.getD L.2.1.toNat (ByteArray.empty,((0:Int),([]:List Rule)))).2.2)) L.2.2.2.2.2.2.1 t=_ from ein]
   simp only [j3]
   unfold okW
   rw [j01 hw,j5]
   cases hasB (secD (locD (zAt zs L.2.1) t)) L.2.2.2.2.2.2.1 with
   | false=>exact ⟨0,rfl,fun h=>by simp at h⟩
   | true=>
    simp only [Bool.not_true,j6,j5]
    exact ⟨_,htail,fun _=>rfl⟩
  ·rw [j00 hw,j6]
   unfold okW
   rw [j00 hw]
   simp only [j6,j5]
   exact ⟨_,htail,fun _=>rfl⟩
 ·rw [j01 (show shK (zAt zs L.2.1) L t<0 by omega)]
  have hon:onX zs cs L t=false:=by
   unfold onX
   rw [j00 hk];rfl
  rw [hon]
  simp only [j5,Bool.not_true,Bool.not_false,Bool.or_true]
  exact ⟨0,rfl,fun h=>by simp at h⟩
theorem jA1 {L:j0z} (hL:LCk zs.length ps.length cs.length L) {ss:List j1O} {t:Int} (h0:0≤t) (h1:t≤8589934592):jnm (zs,(ps,(cs,ss))) L t=some (perX zs cs L t):=by
 obtain ⟨k,e,hk⟩:=jBS hs hL (ss:=ss) h0 h1
 have hon:=(jzX hs hL (ss:=[]) h0 h1).2.2
 simp only [jnm]
 rw [show jk0 (zs,ps,cs,ss) (L.1,L.2.1,(L.2.2.1.1,L.2.2.1.2),L.2.2.2.1,L.2.2.2.2.1,L.2.2.2.2.2.1,L.2.2.2.2.2.2.1,L.2.2.2.2.2.2.2.1,L.2.2.2.2.2.2.2.2) t=_ from e]
 simp only [j3,show Int.ofNat L.2.2.2.2.2.1.length=(L.2.2.2.2.2.1.length:Int) from rfl]
 unfold perX
 cases hc:onX zs cs L t with
 | false=>rfl
 | true=>
  have hm0:=hL.m0
  have hk0:=hon hc
  have:=hk hc
  subst this
  have q1:0≤Int.tmod (shK (zAt zs L.2.1) L t) (L.2.2.2.2.2.1.length:Int):=Int.tmod_nonneg _ hk0
  have q2:Int.tmod (shK (zAt zs L.2.1) L t) (L.2.2.2.2.2.1.length:Int)<(L.2.2.2.2.2.1.length:Int):=Int.tmod_lt_of_pos _ (by omega)
  rw [j2k (show ¬ (L.2.2.2.2.2.1.length:Int)=0 by omega),j0s q1 q2]
  rfl
theorem jBT:∀ z∈zs,j7D z=some 0:=fun z hz=>r4ck (hs.so.ok z hz)
end
theorem jyL {f:Nat→Bool}:∀ {n k:Nat},topI f n=some k→k<n
 | 0,k,h=>by simp [topI] at h
 | n+1,k,h=>by
  simp only [topI] at h
  cases hf:f n with
  | true=>rw [hf] at h;simp at h;omega
  | false=>rw [hf] at h;simp at h;have:=jyL h;omega
def joa (t p:Int) (x:j45):Int:=
 if t<x.2.2.2.1∨x.2.2.2.2≤t then p else if x.1=1 then x.2.1 else if x.1=2∧p=x.2.1 then x.2.2.1 else if x.1=2∧p=x.2.2.1 then x.2.1 else p
def jdC (t:Int):Int→List j45→Int
 | p,[]=>p
 | p,x::r=>jdC t (joa t p x) r
theorem jAR {es:List j45} (hl:es.length≤100) {t:Int}:∀ (n i:Nat) (p:Int),i+n=es.length→jcM es p t (i:Int)=some (jdC t p (es.drop i))
 | 0,i,p,hi=>by
  rw [jii]
  simp only [j6U,show Int.ofNat es.length=(es.length:Int) from rfl]
  rw [j00 (by omega),j6,j08,List.drop_of_length_le (by omega)]
  rfl
 | n+1,i,p,hi=>by
  have hi':i<es.length:=by omega
  have hgd:es.getD i ((0:Int),((0:Int),((0:Int),((0:Int),(0:Int)))))=es[i]:=by simp [List.getD,hi']
  have ih:=fun p=>jAR hl (t:=t) n (i+1) p (by omega)
  rw [jii]
  simp only [j6U,show Int.ofNat es.length=(es.length:Int) from rfl]
  rw [j01 (by omega),j0s (by omega) (by omega),j02 (x:=(i:Int)+1) (by omega) (by omega),List.drop_eq_getElem_cons hi']
  simp only [j5,j7,hgd,jdC]
  generalize es[i]=x
  unfold joa
  by_cases ha:t<x.2.2.2.1∨x.2.2.2.2≤t
  ·rw [if_pos ha]
   have:cond (decide (t<x.2.2.2.1)) true (decide (t≥x.2.2.2.2))=true:=by
    rcases ha with ha | ha
    ·rw [j01 ha];rfl
    ·rw [j01 (show t≥x.2.2.2.2 from ha)];cases decide (t<x.2.2.2.1)<;>rfl
   rw [this,j5,j05]
   exact ih p
  ·rw [if_neg ha,j00 (show ¬ t<x.2.2.2.1 by omega),j00 (show ¬ t≥x.2.2.2.2 by omega)]
   simp only [j6]
   by_cases h1:x.1=1
   ·rw [if_pos h1,j4J h1,j5,j05]
    exact ih _
   ·rw [if_neg h1,j2k h1,j6]
    by_cases h2:x.1=2
    ·rw [j4J h2]
     simp only [j5]
     by_cases h3:p=x.2.1
     ·rw [if_pos ⟨h2,h3⟩,j4J h3,j5,j05]
      exact ih _
     ·rw [if_neg (fun h=>h3 h.2),j2k h3,j6]
      by_cases h4:p=x.2.2.1
      ·rw [if_pos ⟨h2,h4⟩,j4J h4,j5,j05]
       exact ih _
      ·rw [if_neg (fun h=>h4 h.2),j2k h4,j6,j05]
       exact ih _
    ·rw [if_neg (fun h=>h2 h.1),if_neg (fun h=>h2 h.1),j2k h2]
     simp only [j6,j05]
     exact ih _
theorem jyM {es:List j45} (hl:es.length≤100) {t:Int}:∀ (n i:Nat) (p:Int),i+n=es.length→j7x p t es (es.length:Int) (i:Int)=some (jdC t p (es.drop i))
 | 0,i,p,hi=>by
  rw [jgQ]
  simp only [j63]
  rw [j00 (by omega),j6,j08,List.drop_of_length_le (by omega)]
  rfl
 | n+1,i,p,hi=>by
  have hi':i<es.length:=by omega
  have hgd:es.getD i ((0:Int),((0:Int),((0:Int),((0:Int),(0:Int)))))=es[i]:=by simp [List.getD,hi']
  have ih:=fun p=>jyM hl (t:=t) n (i+1) p (by omega)
  rw [jgQ]
  simp only [j63,jiI,j3]
  rw [j01 (by omega),j0s (by omega) (by omega),j02 (x:=(i:Int)+1) (by omega) (by omega),List.drop_eq_getElem_cons hi']
  simp only [j5,j7,hgd,jdC]
  generalize es[i]=x
  unfold joa
  by_cases ha:t<x.2.2.2.1∨x.2.2.2.2≤t
  ·rw [if_pos ha]
   have:cond (decide (x.2.2.2.1≤t)) (decide (t<x.2.2.2.2)) false=false:=by
    rcases ha with ha | ha
    ·rw [j00 (show ¬ x.2.2.2.1≤t by omega)];rfl
    ·rw [j00 (show ¬ t<x.2.2.2.2 by omega)];cases decide (x.2.2.2.1≤t)<;>rfl
   rw [this]
   simp only [Bool.not_false,j5,j05]
   exact ih p
  ·rw [if_neg ha,j01 (show x.2.2.2.1≤t by omega),j01 (show t<x.2.2.2.2 by omega)]
   simp only [j5,Bool.not_true,j6]
   by_cases h0:x.1=0
   ·rw [j4J h0,if_neg (by omega),if_neg (by omega),if_neg (by omega),j5,j05]
    exact ih p
   rw [j2k h0,j6]
   by_cases h1:x.1=1
   ·rw [if_pos h1,j4J h1,j5,j05]
    exact ih _
   ·rw [if_neg h1,j2k h1,j6]
    by_cases h2:x.1=2
    ·rw [show (x.1 != 2)=false by simp [h2],j6]
     by_cases h3:p=x.2.1
     ·rw [if_pos ⟨h2,h3⟩,j4J h3,j5,j05]
      exact ih _
     ·rw [if_neg (fun h=>h3 h.2),j2k h3,j6]
      by_cases h4:p=x.2.2.1
      ·rw [if_pos ⟨h2,h4⟩,j4J h4,j5,j05]
       exact ih _
      ·rw [if_neg (fun h=>h4 h.2),j2k h4,j6,j05]
       exact ih _
    ·rw [if_neg (fun h=>h2 h.1),if_neg (fun h=>h2 h.1),show (x.1 != 2)=true by simp [h2],j5,j05]
     exact ih _
theorem jvf {nm:ByteArray} {ls:List j0z} {es:List j45} {p t:Int} (hl:es.length≤1000):∀ (n i:Nat),i+n=es.length→jcL p t (i:Int) nm ls es=some (cond (jaC (es.drop i) p t) (.inl true) (.inr ()))
 | 0,i,hi=>by
  rw [jih]
  simp only [j6T,show Int.ofNat es.length=(es.length:Int) from rfl]
  rw [j00 (by omega),j6,j08,List.drop_of_length_le (by omega)]
  rfl
 | n+1,i,hi=>by
  have hlt:i<es.length:=by omega
  have hgd:es.getD i ((0:Int),((0:Int),((0:Int),((0:Int),(0:Int)))))=es[i]:=by simp [List.getD,hlt]
  have ih:=jvf (nm:=nm) (ls:=ls) (p:=p) (t:=t) hl n (i+1) (by omega)
  rw [jih]
  simp only [j6T,show Int.ofNat es.length=(es.length:Int) from rfl]
  rw [j01 (by omega),j0s (by omega) (by omega),j02 (x:=(i:Int)+1) (by omega) (by omega),List.drop_eq_getElem_cons hlt]
  simp only [j5,j7,hgd]
  have ha:jaC (es[i]::es.drop (i+1)) p t=((es[i].1==0&&(es[i].2.1==p&&(decide (es[i].2.2.2.1≤t)&&decide (t<es[i].2.2.2.2))))||jaC (es.drop (i+1)) p t):=rfl
  have e:(cond (cond (cond (es[i].1==(0:Int)) (es[i].2.1==p) false) (decide (es[i].2.2.2.1≤t)) false) (decide (t<es[i].2.2.2.2)) false)=(es[i].1==0&&(es[i].2.1==p&&(decide (es[i].2.2.2.1≤t)&&decide (t<es[i].2.2.2.2)))):=by
   cases es[i].1==(0:Int)<;>cases es[i].2.1==p<;>cases decide (es[i].2.2.2.1≤t)<;>rfl
  rw [e,ha]
  cases (es[i].1==0&&(es[i].2.1==p&&(decide (es[i].2.2.2.1≤t)&&decide (t<es[i].2.2.2.2)))) with
  | true=>rfl
  | false=>
   rw [j6,j05,Bool.false_or]
   exact ih
theorem jwm {nm:ByteArray} {ls:List j0z} {es:List j45} {p t:Int} (hl:es.length≤1000):jmF (nm,(ls,es)) p t=some (jaC es p t):=by
 have:=jvf (nm:=nm) (ls:=ls) (p:=p) (t:=t) hl es.length 0 (by omega)
 simp only [jmF,show jcL p t 0 nm ls es=_ from this,j3,List.drop_zero]
 cases jaC es p t<;>rfl
section
variable {zs:List j22} {ps:List j1D} {cs:List CalT} (hs:SOk2 zs ps cs)
include hs
theorem jyN {ss:List j1O} {nm:ByteArray} {ls:List j0z} {es:List j45} (hel:es.length≤1000) (hll:ls.length≤1000) (hL:∀ L∈ls,LCk zs.length ps.length cs.length L) {t:Int} (h0:0≤t) (h1:t≤8589934592):∀ n:Nat,n≤ls.length→
  jeP t ((n:Int)-1) zs ps cs ss nm ls es=some (match topI (j86 es t (pfX zs cs ls t)) n with | some i=> .inl ((i:Int),pfX zs cs ls t i) | none=> .inr ())
 | 0,hn=>by
  rw [jk1]
  simp only [j7F]
  rw [j00 (by omega),j6,j08]
  rfl
 | n+1,hn=>by
  have hlt:n<ls.length:=by omega
  have hgd:ls.getD n (ByteArray.empty,((0:Int),(((0:Int),(0:Int)),((0:Int),((0:Int),(([]:List Int),(([]:List (Int×Int)),((0:Int),(0:Int)))))))))=ls[n]:=by simp [List.getD,hlt]
  have ih:=jyN (ss:=ss) (nm:=nm) hel hll hL h0 h1 n (by omega)
  have hp:=jA1 hs (hL _ (List.getElem_mem hlt)) (ss:=ss) h0 h1
  have e:pfX zs cs ls t n=perX zs cs ls[n] t:=by simp [pfX,List.getD,hlt]
  rw [show ((n+1:Nat):Int)-1=(n:Int) by omega,jk1]
  simp only [j7F]
  rw [j01 (show (n:Int)≥0 by omega),j0s (by omega) (by omega),j02 (x:=(n:Int)-1) (by omega) (by omega)]
  simp only [j5,j7,hgd]
  rw [show jnm (zs,(ps,(cs,ss))) (ls[n].1,(ls[n].2.1,((ls[n].2.2.1.1,ls[n].2.2.1.2),(ls[n].2.2.2.1,(ls[n].2.2.2.2.1,(ls[n].2.2.2.2.2.1,(ls[n].2.2.2.2.2.2.1,(ls[n].2.2.2.2.2.2.2.1,ls[n].2.2.2.2.2.2.2.2)))))))) t=_ from hp]
  simp only [j3,topI,j86,e]
  by_cases hp0:0≤perX zs cs ls[n] t
  ·rw [j01 (show perX zs cs ls[n] t≥0 from hp0)]
   simp only [j5,jwm hel,j3,Bool.true_and]
   cases jaC es (perX zs cs ls[n] t) t with
   | true=>
    simp only [Bool.not_true,j6,j05]
    exact ih
   | false=>
    simp only [Bool.not_false,j5,e]
    exact j08 ..
  ·rw [j00 (show ¬ perX zs cs ls[n] t≥0 from hp0)]
   simp only [j6,Bool.false_and,j05]
   exact ih
noncomputable def whoS (zs:List j22) (cs:List CalT) (s:j1O) (t:Int):Int:=jdC t (topP s.2.2 t (pfX zs cs s.2.1 t) s.2.1.length) s.2.2
theorem jDj {ss:List j1O} (hc:joM (zs,(ps,(cs,ss)))) {i:Nat} (hi:i<ss.length) {t:Int} (h0:0≤t) (h1:t≤8589934592):jnn (zs,(ps,(cs,ss))) (i:Int) t=some (whoS zs cs ss[i] t):=by
 have hsc:=hc.sc _ (List.getElem_mem hi)
 have hll:=hsc.ll;have hel:=hsc.el
 have hgs:ss.getD i (ByteArray.empty,(([]:List j0z),([]:List j45)))=ss[i]:=by simp [List.getD,hi]
 have e8:=jBP hc (jBT hs)
 have lp:=jyN hs (ss:=ss) (nm:=ss[i].1) (es:=ss[i].2.2) (by omega) (by omega) hsc.ly h0 h1 ss[i].2.1.length (Nat.le_refl _)
 have et:∃ k,jq2 (zs,(ps,(cs,ss))) (i:Int) t=some (k,topP ss[i].2.2 t (pfX zs cs ss[i].2.1 t) ss[i].2.1.length):=by
  simp only [jq2]
  rw [j0s (by omega) (by omega)]
  simp only [j5,j7,hgs,show Int.ofNat ss[i].2.1.length=(ss[i].2.1.length:Int) from rfl]
  rw [j02 (x:=(ss[i].2.1.length:Int)-1) (by omega) (by omega),show jeP t ((ss[i].2.1.length:Int)-1) zs ps cs ss ss[i].1 ss[i].2.1 ss[i].2.2=_ from lp]
  simp only [j3,topP]
  cases topI (j86 ss[i].2.2 t (pfX zs cs ss[i].2.1 t)) ss[i].2.1.length with
  | none=>exact ⟨_,rfl⟩
  | some k=>exact ⟨_,rfl⟩
 obtain ⟨k,et⟩:=et
 have ef:=jAR (es:=ss[i].2.2) (by omega) (t:=t) ss[i].2.2.length 0 (topP ss[i].2.2 t (pfX zs cs ss[i].2.1 t) ss[i].2.1.length) (by omega)
 rw [List.drop_zero] at ef
 simp only [jnn,jtl,jxH,show Int.ofNat ss.length=(ss.length:Int) from rfl]
 rw [j01 (show (i:Int)≥0 by omega),j01 (show (i:Int)<(ss.length:Int) by omega),j01 (show t≥0 from h0),j01 h1]
 simp only [j5,e8,j3,beq_self_eq_true,Bool.not_true,j6,jtk,et]
 rw [j0s (by omega) (by omega)]
 simp only [j5,j7,hgs,jq3]
 rw [show jcM ss[i].2.2 (topP ss[i].2.2 t (pfX zs cs ss[i].2.1 t) ss[i].2.1.length) t 0=_ from ef]
 rfl
end
end Go.Proofs.Pw
