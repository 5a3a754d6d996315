/- The references of chapters 11 to 14: who is on duty, who is on call. -/
import Derived.Test.YthpdddnkpjnllaaGreatGPH
import Derived.Test.YthpdddnkpjnllaaGreatGPG
noncomputable section
open Go Go.Lft
namespace Go.Proofs.Pw
theorem jzi {w:WL} (hl:w.length≤14) (s:Int):∀ (n i:Nat),i+n=w.length→j8D w s (i:Int)=some (cond (hasB s (w.drop i)) (.inl true) (.inr ()))
 | 0,i,hi=>by
  rw [jfo]
  simp only [j4G,show Int.ofNat w.length=(w.length:Int) from rfl]
  rw [j00 (by omega),j6,j0e,List.drop_of_length_le (by omega)]
  rfl
 | n+1,i,hi=>by
  have hi':i<w.length:=by omega
  have hgd:w.getD i ((0:Int),(0:Int))=w[i]:=by simp [List.getD,hi']
  rw [jfo]
  simp only [j4G,show Int.ofNat w.length=(w.length:Int) from rfl]
  rw [j01 (by omega),j0Z (by omega) (by omega)]
  simp only [j5,Bool.true_or,j7,hgd]
  rw [j03 (x:=(i:Int)+1) (by omega) (by omega),List.drop_eq_getElem_cons hi']
  have hb:hasB s (w[i]::w.drop (i+1))=cond (cond (decide (w[i].1≤s)) (decide (s<w[i].2)) false) true (hasB s (w.drop (i+1))):=rfl
  rw [hb]
  by_cases h1:w[i].1≤s
  ·rw [j01 (show s≥w[i].1 from h1)]
   simp only [j5]
   by_cases h2:s<w[i].2
   ·rw [j01 h2]
    rfl
   ·rw [j00 h2]
    simp only [j6,j0a]
    exact jzi hl s n (i+1) (by omega)
  ·rw [j00 (show ¬ s≥w[i].1 from h1)]
   simp only [j6,j0a]
   exact jzi hl s n (i+1) (by omega)
theorem jwJ {w:WL} (hl:w.length≤14) (s:Int):jh9 w s=some (hasB s w):=by
 have:=jzi hl s w.length 0 (by omega)
 simp only [jh9,show j8D w s 0=_ from this,j3,List.drop_zero]
 cases hasB s w<;>rfl
theorem jAn {z:j1w} (hz:ZOk z) {t:Int} (h0:0≤t) (h1:t≤8589934592):j3y z t=some (locD z t,0):=by
 have h4:=hz.zref.2.1
 obtain ⟨k,hk,k1,k2⟩:=jlE h4.2 h0 h1
 have e:=jlF h4.2 hk k1 k2
 have:locD z t=((t+tof z.2.1 (tb z).2 k)/86400,(t+tof z.2.1 (tb z).2 k)%86400):=by
  simp only [locD,show j0s (tb z) t=_ from e,Option.getD_some]
 rw [this]
 exact jtF h4 h0 h1 hk k1 k2
theorem jAo {z:j1w} (hz:ZOk z) {t:Int} (h0:0≤t) (h1:t≤8589934592) {w:WL} (hw:WOk 0 w) (hl:w.length≤14):jbv z t=some (secD (locD z t),0)∧jqv z w t=some (hasB (secD (locD z t)) w):=by
 have e1:=jAn hz h0 h1
 obtain ⟨_,hsc⟩:=jsO hz h0 h1
 have e2:jh8 (locD z t)=some (secD (locD z t)):=hsc
 have e3:jbv z t=some (secD (locD z t),0):=by
  simp only [jbv,show j3y (z.1,(z.2.1,z.2.2)) t=_ from e1,j3,bne_self_eq_false,j6,show jh8 ((locD z t).1,(locD z t).2)=_ from e2]
 refine ⟨e3,?_⟩
 simp only [jqv,show jbv (z.1,(z.2.1,z.2.2)) t=_ from e3,j3,beq_self_eq_true,j5,r5ck hw hl,jwJ hl]
section
variable {zs:List j1w} {ps:List j1C} {cs:List CalT} (hs:SOk2 zs ps cs)
include hs
theorem jzj {k d e:Int} {x:CalT} (hx:CCk zs.length x) {L:j0J}:∀ (n i:Nat) (b:Bool),i+n=x.2.2.length→b=decide (d∈x.2.2.take i)→
  j7X k b (i:Int) L.1 L.2.1 L.2.2.1.1 L.2.2.1.2 L.2.2.2.1 L.2.2.2.2.1 L.2.2.2.2.2.1 L.2.2.2.2.2.2.1 L.2.2.2.2.2.2.2.1 L.2.2.2.2.2.2.2.2 x.1 x.2.1 x.2.2 d e=
   some (k,decide (d∈x.2.2),L.1,L.2.1,L.2.2.1.1,L.2.2.1.2,L.2.2.2.1,L.2.2.2.2.1,L.2.2.2.2.2.1,L.2.2.2.2.2.2.1,L.2.2.2.2.2.2.2.1,L.2.2.2.2.2.2.2.2)
 | 0,i,b,hi,hb=>by
  rw [jhv]
  simp only [j5S,show Int.ofNat x.2.2.length=(x.2.2.length:Int) from rfl]
  rw [j00 (by omega),j6,j0e,hb,List.take_of_length_le (by omega)]
 | n+1,i,b,hi,hb=>by
  have _:=hs
  have hxl:=hx.len
  have hi':i<x.2.2.length:=by omega
  have hgd:x.2.2.getD i (0:Int)=x.2.2[i]:=by simp [hi']
  rw [jhv]
  simp only [j5S,show Int.ofNat x.2.2.length=(x.2.2.length:Int) from rfl]
  rw [j01 (by omega),j03 (x:=(i:Int)+1) (by omega) (by omega),j5]
  have ht:x.2.2.take (i+1)=x.2.2.take i++[x.2.2[i]]:=by rw [List.take_add_one,List.getElem?_eq_getElem hi'];rfl
  cases hbb:b with
  | true=>
   simp only [j5,j0a]
   refine jzj hx n (i+1) true (by omega) ?_
   have:d∈x.2.2.take i:=of_decide_eq_true (by rw [←hb,hbb])
   rw [ht]
   exact (j01 (List.mem_append_left _ this)).symm
  | false=>
   have hnm:d∉x.2.2.take i:=of_decide_eq_false (by rw [←hb,hbb])
   rw [j0Z (show (0:Int)≤(i:Int) by omega) (by omega)]
   simp only [j6,j5,j7,hgd,j0a]
   refine jzj hx n (i+1) _ (by omega) ?_
   rw [ht]
   by_cases he:x.2.2[i]=d
   ·rw [j7q he]
    exact (j01 (List.mem_append_right _ (by simp [he]))).symm
   ·rw [j3S he]
    refine (j00 fun hm=> ?_).symm
    rcases List.mem_append.1 hm with h | h
    ·exact hnm h
    ·simp at h;exact he h.symm
theorem jzk {L:j0J} (hL:LCk zs.length ps.length cs.length L) {ss:List j2c} {t:Int} (h0:0≤t) (h1:t≤8589934592):∃ k,jje (zs,(ps,(cs,ss))) L t=some (k,onX zs cs L t)∧(onX zs cs L t=true→k=shK (zAt zs L.2.1) L t):=by
 have hRt:=hL.rt2
 have hz:ZOk (zAt zs L.2.1):=zget hs.so.ok hL.z0 hL.z1
 have h4:=hz.zref.2.1
 obtain ⟨K,eK,hK⟩:=jAV h4 hRt h0 h1
 have hKs:K=shK (zAt zs L.2.1) L t:=ShO.uniq h4.2 hRt hK (jtI hz hRt h0 h1).2
 subst hKs
 have ek:jgi (zAt zs L.2.1) L t=some (shK (zAt zs L.2.1) L t,0):=by
  simp only [jgi,show jge ((zAt zs L.2.1).1,((zAt zs L.2.1).2.1,(zAt zs L.2.1).2.2)) (L.1,L.2.1,(L.2.2.1.1,L.2.2.1.2),L.2.2.2.1,L.2.2.2.2.1,L.2.2.2.2.2.1,L.2.2.2.2.2.2.1,L.2.2.2.2.2.2.2.1,L.2.2.2.2.2.2.2.2)=_ from jsP h4 L,j3]
  rw [if_pos hRt,j00 (show ¬ t<0 by omega),j00 (show ¬ t>8589934592 by omega)]
  simp only [bne_self_eq_false,j6]
  rw [show jgh ((zAt zs L.2.1).1,((zAt zs L.2.1).2.1,(zAt zs L.2.1).2.2)) (L.1,L.2.1,(L.2.2.1.1,L.2.2.1.2),L.2.2.2.1,L.2.2.2.2.1,L.2.2.2.2.2.1,L.2.2.2.2.2.2.1,L.2.2.2.2.2.2.2.1,L.2.2.2.2.2.2.2.2) t=_ from eK]
  rfl
 obtain ⟨_,ein⟩:=jAo hz h0 h1 hL.w hL.wl
 have htail:(cond (L.2.2.2.2.2.2.2.2==(0:Int)) (some (shK (zAt zs L.2.1) L t,true)) (cond (inR L.2.2.2.2.2.2.2.1 cs.length) (cond (inR (cs.getD L.2.2.2.2.2.2.2.1.toNat (ByteArray.empty,((0:Int),([]:List Int)))).2.1 zs.length)
   ((j3y ((zs.getD (cs.getD L.2.2.2.2.2.2.2.1.toNat (ByteArray.empty,((0:Int),([]:List Int)))).2.1.toNat (ByteArray.empty,((0:Int),([]:List Rule)))).1,((zs.getD (cs.getD L.2.2.2.2.2.2.2.1.toNat (ByteArray.empty,((0:Int),([]:List Int)))).2.1.toNat (ByteArray.empty,((0:Int),([]:List Rule)))).2.1,(zs.getD (cs.getD L.2.2.2.2.2.2.2.1.toNat (ByteArray.empty,((0:Int),([]:List Int)))).2.1.toNat (ByteArray.empty,((0:Int),([]:List Rule)))).2.2)) t).bind fun r67=>
     (j7X (shK (zAt zs L.2.1) L t) false 0 L.1 L.2.1 L.2.2.1.1 L.2.2.1.2 L.2.2.2.1 L.2.2.2.2.1 L.2.2.2.2.2.1 L.2.2.2.2.2.2.1 L.2.2.2.2.2.2.2.1 L.2.2.2.2.2.2.2.2 (cs.getD L.2.2.2.2.2.2.2.1.toNat (ByteArray.empty,((0:Int),([]:List Int)))).1 (cs.getD L.2.2.2.2.2.2.2.1.toNat (ByteArray.empty,((0:Int),([]:List Int)))).2.1 (cs.getD L.2.2.2.2.2.2.2.1.toNat (ByteArray.empty,((0:Int),([]:List Int)))).2.2 r67.1.1 r67.1.2).bind fun q0=>
      some (q0.1,(q0.2.1==(q0.2.2.2.2.2.2.2.2.2.2.2==(2:Int))))) none) none))=some (shK (zAt zs L.2.1) L t,calB zs cs L t):=by
  by_cases hm:L.2.2.2.2.2.2.2.2=0
  ·rw [j7q hm,j5]
   unfold calB
   rw [j7q hm];rfl
  ·have hcal:=hL.cal hm
   have hx:=cget hs hcal.1 hcal.2
   have hxz:=zget hs.so.ok hx.z0 hx.z1
   rw [j3S hm,j6,j0Z hcal.1 hcal.2,j0Z hx.z0 hx.z1]
   simp only [j5]
   rw [show j3y ((zs.getD (cs.getD L.2.2.2.2.2.2.2.1.toNat (ByteArray.empty,((0:Int),([]:List Int)))).2.1.toNat (ByteArray.empty,((0:Int),([]:List Rule)))).1,((zs.getD (cs.getD L.2.2.2.2.2.2.2.1.toNat (ByteArray.empty,((0:Int),([]:List Int)))).2.1.toNat (ByteArray.empty,((0:Int),([]:List Rule)))).2.1,(zs.getD (cs.getD L.2.2.2.2.2.2.2.1.toNat (ByteArray.empty,((0:Int),([]:List Int)))).2.1.toNat (ByteArray.empty,((0:Int),([]:List Rule)))).2.2)) t=_ from jAn hxz h0 h1]
   simp only [j3]
   rw [show j7X (shK (zAt zs L.2.1) L t) false 0 L.1 L.2.1 L.2.2.1.1 L.2.2.1.2 L.2.2.2.1 L.2.2.2.2.1 L.2.2.2.2.2.1 L.2.2.2.2.2.2.1 L.2.2.2.2.2.2.2.1 L.2.2.2.2.2.2.2.2 (cs.getD L.2.2.2.2.2.2.2.1.toNat (ByteArray.empty,((0:Int),([]:List Int)))).1 (cs.getD L.2.2.2.2.2.2.2.1.toNat (ByteArray.empty,((0:Int),([]:List Int)))).2.1 (cs.getD L.2.2.2.2.2.2.2.1.toNat (ByteArray.empty,((0:Int),([]:List Int)))).2.2 _ _=_ from jzj hs hx (L:=L) (cs.getD L.2.2.2.2.2.2.2.1.toNat (ByteArray.empty,((0:Int),([]:List Int)))).2.2.length 0 false (by omega) (by simp)]
   unfold calB
   rw [j3S hm]
   rfl
 simp only [jje]
 rw [j0Z hL.z0 hL.z1]
 simp only [j5]
 rw [show jgi ((zs.getD L.2.1.toNat (ByteArray.empty,((0:Int),([]:List Rule)))).1,((zs.getD L.2.1.toNat (ByteArray.empty,((0:Int),([]:List Rule)))).2.1,(zs.getD L.2.1.toNat (ByteArray.empty,((0:Int),([]:List Rule)))).2.2)) (L.1,L.2.1,(L.2.2.1.1,L.2.2.1.2),L.2.2.2.1,L.2.2.2.2.1,L.2.2.2.2.2.1,L.2.2.2.2.2.2.1,L.2.2.2.2.2.2.2.1,L.2.2.2.2.2.2.2.2) t=_ from ek]
 simp only [j3,bne_self_eq_false,j6]
 by_cases hk:0≤shK (zAt zs L.2.1) L t
 ·rw [j00 (show ¬ shK (zAt zs L.2.1) L t<0 by omega)]
  simp only [j6,show Int.ofNat L.2.2.2.2.2.2.1.length=(L.2.2.2.2.2.2.1.length:Int) from rfl]
  have hon:onX zs cs L t=cond (okW L.2.2.2.2.2.2.1 (secD (locD (zAt zs L.2.1) t))) (calB zs cs L t) false:=by
   unfold onX
   rw [j01 hk];rfl
  rw [hon]
  by_cases hw:(L.2.2.2.2.2.2.1.length:Int)>0
  ·rw [j01 hw,j5,show jqv ((zs.getD L.2.1.toNat (ByteArray.empty,((0:Int),([]:List Rule)))).1,((zs.getD L.2.1.toNat (ByteArray.empty,((0:Int),([]:List Rule)))).2.1,(zs.getD L.2.1.toNat (ByteArray.empty,((0:Int),([]:List Rule)))).2.2)) L.2.2.2.2.2.2.1 t=_ from ein]
   simp only [j3]
   unfold okW
   rw [j01 hw,j5]
   cases hasB (secD (locD (zAt zs L.2.1) t)) L.2.2.2.2.2.2.1 with
   | false=>exact ⟨0,rfl,fun h=>by simp at h⟩
   | true=>
    simp only [Bool.not_true,j6,j5]
    exact ⟨_,htail,fun _=>rfl⟩
  ·rw [j00 hw,j6]
   unfold okW
   rw [j00 hw]
   simp only [j6,j5]
   exact ⟨_,htail,fun _=>rfl⟩
 ·rw [j01 (show shK (zAt zs L.2.1) L t<0 by omega)]
  have hon:onX zs cs L t=false:=by
   unfold onX
   rw [j00 hk];rfl
  rw [hon]
  simp only [j5,Bool.not_true,Bool.not_false,Bool.or_true]
  exact ⟨0,rfl,fun h=>by simp at h⟩
theorem jxN {L:j0J} (hL:LCk zs.length ps.length cs.length L) {ss:List j2c} {t:Int} (h0:0≤t) (h1:t≤8589934592):jmm (zs,(ps,(cs,ss))) L t=some (perX zs cs L t):=by
 obtain ⟨k,e,hk⟩:=jzk hs hL (ss:=ss) h0 h1
 have hon:=(jAg hs hL (ss:=[]) h0 h1).2.2
 simp only [jmm]
 rw [show jje (zs,ps,cs,ss) (L.1,L.2.1,(L.2.2.1.1,L.2.2.1.2),L.2.2.2.1,L.2.2.2.2.1,L.2.2.2.2.2.1,L.2.2.2.2.2.2.1,L.2.2.2.2.2.2.2.1,L.2.2.2.2.2.2.2.2) t=_ from e]
 simp only [j3,show Int.ofNat L.2.2.2.2.2.1.length=(L.2.2.2.2.2.1.length:Int) from rfl]
 unfold perX
 cases hc:onX zs cs L t with
 | false=>rfl
 | true=>
  have hm0:=hL.m0
  have hk0:=hon hc
  have:=hk hc
  subst this
  have q1:0≤Int.tmod (shK (zAt zs L.2.1) L t) (L.2.2.2.2.2.1.length:Int):=Int.tmod_nonneg _ hk0
  have q2:Int.tmod (shK (zAt zs L.2.1) L t) (L.2.2.2.2.2.1.length:Int)<(L.2.2.2.2.2.1.length:Int):=Int.tmod_lt_of_pos _ (by omega)
  rw [j3S (show ¬ (L.2.2.2.2.2.1.length:Int)=0 by omega),j0Z q1 q2]
  rfl
theorem jAW:∀ z∈zs,j6x z=some 0:=fun z hz=>r4ck (hs.so.ok z hz)
end
def zH (l:TrL):Int:=if l.length=0 then 0 else frm l l.length+86400
section
variable {o:Int} {l:TrL} (h:TOk o l)
include h
theorem jyn {t:Int} (ht:zH l≤t):frm l l.length≤t:=by
 have _:=h
 unfold zH at ht
 by_cases h0:l.length=0
 ·rw [if_pos h0] at ht
  rw [h0,frm0];exact ht
 ·rw [if_neg h0] at ht;omega
theorem jAp (hd:Dif o l) {s t:Int} (ht:zH l≤t) (h1:t≤8589934592):(∃ v,fO o l s=some v∧v≤t)↔s≤t+tof o l l.length:=by
 have hz:=jyn h ht
 have hend:frm l (l.length+1)=8589934593:=j85
 constructor
 ·rintro ⟨v,hv,hvt⟩
  obtain ⟨k,f⟩:=jza hv
  have f1:=f.hk;have f2:=f.hks;have f3:=f.ht
  by_cases hk:k=l.length
  ·subst hk;omega
  ·have h0:l.length≠0:=by omega
   unfold zH at ht
   rw [if_neg h0] at ht
   by_cases hk1:k+1=l.length
   ·have:=hd k (by omega)
    rw [hk1] at this f2
    omega
   ·have g:=h.frm_gap (i:=k+1) (j:=l.length) (by omega) (by omega) (by omega)
    have o1:=h.of1 k f1
    have o2:=h.of0 l.length (Nat.le_refl _)
    omega
 ·intro hst
  rcases jol o l s with ⟨v,k,f⟩ | hno
  ·refine ⟨v,fO_t f,?_⟩
   have f1:=f.hk;have f3:=f.ht
   obtain ⟨p1,p2,p3⟩:=f.piece h
   by_cases hk:k=l.length
   ·subst hk;omega
   ·have:=h.frm_le (i:=k+1) (j:=l.length) (by omega) (by omega)
    omega
  ·have:=hno l.length (Nat.le_refl _)
   omega
theorem jyo {s:Int} (hs:s≤8551958400):∃ v,fO o l s=some v:=by
 rcases jol o l s with ⟨v,k,f⟩ | hno
 ·exact ⟨v,fO_t f⟩
 ·have hend:frm l (l.length+1)=8589934593:=j85
  have:=hno l.length (Nat.le_refl _)
  have:=h.of0 l.length (Nat.le_refl _)
  omega
end
theorem jsQ {d:Int} (h:j0D d=some true):d≤98980:=by
 apply Classical.byContradiction
 intro hd
 simp only [j0D,j3T,jgP,jgO,j3] at h
 rw [j00 (show ¬ d<0 by omega),j01 (show d≥98981 by omega)] at h
 simp at h
theorem jpH {z:j1w} (hz:ZOk z) {t:Int} (ht:zH (tb z).2≤t) (h1:t≤8589934592):locD z t=((t+tof z.2.1 (tb z).2 (tb z).2.length)/86400,(t+tof z.2.1 (tb z).2 (tb z).2.length)%86400):=by
 have h:=hz.ztab.2
 have hend:frm (tb z).2 ((tb z).2.length+1)=8589934593:=j85
 have e:=jlF h (Nat.le_refl _) (jyn h ht) (by omega)
 simp only [locD,show j0s (tb z) t=_ from e,Option.getD_some]
theorem jAX {d x:Int}:(Int.tmod (d+7*x) 7+10)%7=(Int.tmod d 7+10)%7:=by
 obtain ⟨e,p1,p2,p3,p4⟩:=tdm d 7 (by omega)
 obtain ⟨e',q1,q2,q3,q4⟩:=tdm (d+7*x) 7 (by omega)
 omega
theorem jxO {z:j1w} (hz:ZOk z) {t x:Int} (hx:0≤x) (ht:zH (tb z).2≤t) (h1:t+604800*x≤8589934592):secD (locD z (t+604800*x))=secD (locD z t)∧(locD z t).1≤(locD z (t+604800*x)).1:=by
 rw [jpH hz ht (by omega),jpH hz (by omega) h1]
 generalize tof z.2.1 (tb z).2 (tb z).2.length=f
 have e1:(t+604800*x+f)/86400=(t+f)/86400+7*x:=by omega
 have e2:(t+604800*x+f)%86400=(t+f)%86400:=by omega
 refine ⟨?_,by dsimp only;omega⟩
 simp only [secD,j3a,jkB,j3,e1,e2,jAX]
theorem jxP {ds:List Int} (h:ds.Pairwise (· < ·)) {d:Int} (hd:d∈ds):d≤ds.getD (ds.length-1) 0:=by
 obtain ⟨i,hi,rfl⟩:=List.getElem_of_mem hd
 rw [show ds.getD (ds.length-1) 0=ds[ds.length-1] by simp [List.getD,show ds.length-1<ds.length by omega]]
 by_cases he:i=ds.length-1
 ·subst he;omega
 ·have:=List.pairwise_iff_getElem.1 h i (ds.length-1) hi (by omega) (by omega)
  omega
def dEnd (x:CalT):Int:=(x.2.2.getD (x.2.2.length-1) 0+1)*86400
def calH (zs:List j1w) (x:CalT):Int:=max (zH (tb (zAt zs x.2.1)).2) (if x.2.2.length=0 then 0 else (fO (zAt zs x.2.1).2.1 (tb (zAt zs x.2.1)).2 (dEnd x)).getD 0)
def layH (zs:List j1w) (cs:List CalT) (L:j0J):Int:=
 max (max (zH (tb (zAt zs L.2.1)).2) ((hO (zAt zs L.2.1).2.1 (tb (zAt zs L.2.1)).2 L 0).getD 0)) (if L.2.2.2.2.2.2.2.2=0 then 0 else calH zs (cAt cs L.2.2.2.2.2.2.2.1))
section
variable {zs:List j1w} {ps:List j1C} {cs:List CalT} (hs:SOk2 zs ps cs)
include hs
theorem jwK {x:CalT} (hx:CCk zs.length x) {t:Int} (ht:calH zs x≤t) (h1:t≤8589934592):(locD (zAt zs x.2.1) t).1∉x.2.2:=by
 intro hm
 have hz:ZOk (zAt zs x.2.1):=zget hs.so.ok hx.z0 hx.z1
 unfold calH at ht
 have hl:x.2.2.length≠0:=fun h=>by
  rw [List.length_eq_zero_iff.1 h] at hm;simp at hm
 rw [if_neg hl] at ht
 have hle:=jxP hx.asc hm
 have hlm:x.2.2.getD (x.2.2.length-1) 0∈x.2.2:=by
  rw [show x.2.2.getD (x.2.2.length-1) 0=x.2.2[x.2.2.length-1] by simp [List.getD,show x.2.2.length-1<x.2.2.length by omega]]
  exact List.getElem_mem _
 have hd:=jsQ (hx.day _ hlm)
 obtain ⟨v,hv⟩:=jyo hz.ztab.2 (s:=dEnd x) (by unfold dEnd;omega)
 rw [hv] at ht
 simp only [Option.getD_some] at ht
 have:=(jAp hz.ztab.2 hz.zdif (s:=dEnd x) (t:=t) (by omega) h1).1 ⟨v,hv,by omega⟩
 rw [jpH hz (by omega) h1] at hle
 dsimp only at hle
 unfold dEnd at this
 omega
end
theorem jtK {es:List j94} {t p:Int} (h:∀ x∈es,x.2.2.2.2≤t):jiI es p t=false:=by
 unfold jiI
 rw [List.any_eq_false]
 intro x hx
 have:=h x hx
 rw [j00 (show ¬ t<x.2.2.2.2 by omega)]
 simp
theorem jrq {f g:Nat→Bool}:∀ n:Nat,(∀ k,k<n→f k=g k)→topI f n=topI g n
 | 0,_=>rfl
 | n+1,h=>by
  simp only [topI]
  rw [h n (by omega),jrq n (fun k hk=>h k (by omega))]
theorem jwL {f:Nat→Bool}:∀ {n k:Nat},topI f n=some k→k<n
 | 0,k,h=>by simp [topI] at h
 | n+1,k,h=>by
  simp only [topI] at h
  cases hf:f n with
  | true=>rw [hf] at h;simp at h;omega
  | false=>rw [hf] at h;simp at h;have:=jwL h;omega
def jxQ (t p:Int) (x:j94):Int:=
 if t<x.2.2.2.1∨x.2.2.2.2≤t then p else if x.1=1 then x.2.1 else if x.1=2∧p=x.2.1 then x.2.2.1 else if x.1=2∧p=x.2.2.1 then x.2.1 else p
def juL (t:Int):Int→List j94→Int
 | p,[]=>p
 | p,x::r=>juL t (jxQ t p x) r
theorem jna {t:Int}:∀ (es:List j94) (p:Int),(∀ x∈es,x.2.2.2.2≤t)→juL t p es=p
 | [],_,_=>rfl
 | x::r,p,h=>by
  have:=h x (by simp)
  simp only [juL]
  rw [show jxQ t p x=p by unfold jxQ;rw [if_pos (.inr this)]]
  exact jna r p (fun y hy=>h y (by simp [hy]))
theorem jyp {es:List j94} (hl:es.length≤100) {t:Int}:∀ (n i:Nat) (p:Int),i+n=es.length→jc6 es p t (i:Int)=some (juL t p (es.drop i))
 | 0,i,p,hi=>by
  rw [jhx]
  simp only [j5U,show Int.ofNat es.length=(es.length:Int) from rfl]
  rw [j00 (by omega),j6,j0e,List.drop_of_length_le (by omega)]
  rfl
 | n+1,i,p,hi=>by
  have hi':i<es.length:=by omega
  have hgd:es.getD i ((0:Int),((0:Int),((0:Int),((0:Int),(0:Int)))))=es[i]:=by simp [List.getD,hi']
  have ih:=fun p=>jyp hl (t:=t) n (i+1) p (by omega)
  rw [jhx]
  simp only [j5U,show Int.ofNat es.length=(es.length:Int) from rfl]
  rw [j01 (by omega),j0Z (by omega) (by omega),j03 (x:=(i:Int)+1) (by omega) (by omega),List.drop_eq_getElem_cons hi']
  simp only [j5,j7,hgd,juL]
  generalize es[i]=x
  unfold jxQ
  by_cases ha:t<x.2.2.2.1∨x.2.2.2.2≤t
  ·rw [if_pos ha]
   have:cond (decide (t<x.2.2.2.1)) true (decide (t≥x.2.2.2.2))=true:=by
    rcases ha with ha | ha
    ·rw [j01 ha];rfl
    ·rw [j01 (show t≥x.2.2.2.2 from ha)];cases decide (t<x.2.2.2.1)<;>rfl
   rw [this,j5,j0a]
   exact ih p
  ·rw [if_neg ha,j00 (show ¬ t<x.2.2.2.1 by omega),j00 (show ¬ t≥x.2.2.2.2 by omega)]
   simp only [j6]
   by_cases h1:x.1=1
   ·rw [if_pos h1,j7q h1,j5,j0a]
    exact ih _
   ·rw [if_neg h1,j3S h1,j6]
    by_cases h2:x.1=2
    ·rw [j7q h2]
     simp only [j5]
     by_cases h3:p=x.2.1
     ·rw [if_pos ⟨h2,h3⟩,j7q h3,j5,j0a]
      exact ih _
     ·rw [if_neg (fun h=>h3 h.2),j3S h3,j6]
      by_cases h4:p=x.2.2.1
      ·rw [if_pos ⟨h2,h4⟩,j7q h4,j5,j0a]
       exact ih _
      ·rw [if_neg (fun h=>h4 h.2),j3S h4,j6,j0a]
       exact ih _
    ·rw [if_neg (fun h=>h2 h.1),if_neg (fun h=>h2 h.1),j3S h2]
     simp only [j6,j0a]
     exact ih _
theorem jsR (a b:Int):(if a>b then a else b)=max b a:=by split<;>omega
theorem jtL {nm:ByteArray} {ls:List j0J} {es:List j94} {p t:Int} (hl:es.length≤1000):∀ (n i:Nat),i+n=es.length→jc5 p t (i:Int) nm ls es=some (cond (jiI (es.drop i) p t) (.inl true) (.inr ()))
 | 0,i,hi=>by
  rw [jhw]
  simp only [j5T,show Int.ofNat es.length=(es.length:Int) from rfl]
  rw [j00 (by omega),j6,j0e,List.drop_of_length_le (by omega)]
  rfl
 | n+1,i,hi=>by
  have hlt:i<es.length:=by omega
  have hgd:es.getD i ((0:Int),((0:Int),((0:Int),((0:Int),(0:Int)))))=es[i]:=by simp [List.getD,hlt]
  have ih:=jtL (nm:=nm) (ls:=ls) (p:=p) (t:=t) hl n (i+1) (by omega)
  rw [jhw]
  simp only [j5T,show Int.ofNat es.length=(es.length:Int) from rfl]
  rw [j01 (by omega),j0Z (by omega) (by omega),j03 (x:=(i:Int)+1) (by omega) (by omega),List.drop_eq_getElem_cons hlt]
  simp only [j5,j7,hgd]
  have ha:jiI (es[i]::es.drop (i+1)) p t=((es[i].1==0&&(es[i].2.1==p&&(decide (es[i].2.2.2.1≤t)&&decide (t<es[i].2.2.2.2))))||jiI (es.drop (i+1)) p t):=rfl
  have e:(cond (cond (cond (es[i].1==(0:Int)) (es[i].2.1==p) false) (decide (es[i].2.2.2.1≤t)) false) (decide (t<es[i].2.2.2.2)) false)=(es[i].1==0&&(es[i].2.1==p&&(decide (es[i].2.2.2.1≤t)&&decide (t<es[i].2.2.2.2)))):=by
   cases es[i].1==(0:Int)<;>cases es[i].2.1==p<;>cases decide (es[i].2.2.2.1≤t)<;>rfl
  rw [e,ha]
  cases (es[i].1==0&&(es[i].2.1==p&&(decide (es[i].2.2.2.1≤t)&&decide (t<es[i].2.2.2.2)))) with
  | true=>rfl
  | false=>
   rw [j6,j0a,Bool.false_or]
   exact ih
theorem juM {nm:ByteArray} {ls:List j0J} {es:List j94} {p t:Int} (hl:es.length≤1000):jlC (nm,(ls,es)) p t=some (jiI es p t):=by
 have:=jtL (nm:=nm) (ls:=ls) (p:=p) (t:=t) hl es.length 0 (by omega)
 simp only [jlC,show jc5 p t 0 nm ls es=_ from this,j3,List.drop_zero]
 cases jiI es p t<;>rfl
section
variable {zs:List j1w} {ps:List j1C} {cs:List CalT} (hs:SOk2 zs ps cs)
include hs
theorem jwM {ss:List j2c} {nm:ByteArray} {ls:List j0J} {es:List j94} (hel:es.length≤1000) (hll:ls.length≤1000) (hL:∀ L∈ls,LCk zs.length ps.length cs.length L) {t:Int} (h0:0≤t) (h1:t≤8589934592):∀ n:Nat,n≤ls.length→
  je5 t ((n:Int)-1) zs ps cs ss nm ls es=some (match topI (jn9 es t (pfX zs cs ls t)) n with | some i=> .inl ((i:Int),pfX zs cs ls t i) | none=> .inr ())
 | 0,hn=>by
  rw [jjf]
  simp only [j6z]
  rw [j00 (by omega),j6,j0e]
  rfl
 | n+1,hn=>by
  have hlt:n<ls.length:=by omega
  have hgd:ls.getD n (ByteArray.empty,((0:Int),(((0:Int),(0:Int)),((0:Int),((0:Int),(([]:List Int),(([]:List (Int×Int)),((0:Int),(0:Int)))))))))=ls[n]:=by simp [List.getD,hlt]
  have ih:=jwM (ss:=ss) (nm:=nm) hel hll hL h0 h1 n (by omega)
  have hp:=jxN hs (hL _ (List.getElem_mem hlt)) (ss:=ss) h0 h1
  have e:pfX zs cs ls t n=perX zs cs ls[n] t:=by simp [pfX,List.getD,hlt]
  rw [show ((n+1:Nat):Int)-1=(n:Int) by omega,jjf]
  simp only [j6z]
  rw [j01 (show (n:Int)≥0 by omega),j0Z (by omega) (by omega),j03 (x:=(n:Int)-1) (by omega) (by omega)]
  simp only [j5,j7,hgd]
  rw [show jmm (zs,(ps,(cs,ss))) (ls[n].1,(ls[n].2.1,((ls[n].2.2.1.1,ls[n].2.2.1.2),(ls[n].2.2.2.1,(ls[n].2.2.2.2.1,(ls[n].2.2.2.2.2.1,(ls[n].2.2.2.2.2.2.1,(ls[n].2.2.2.2.2.2.2.1,ls[n].2.2.2.2.2.2.2.2)))))))) t=_ from hp]
  simp only [j3,topI,jn9,e]
  by_cases hp0:0≤perX zs cs ls[n] t
  ·rw [j01 (show perX zs cs ls[n] t≥0 from hp0)]
   simp only [j5,juM hel,j3,Bool.true_and]
   cases jiI es (perX zs cs ls[n] t) t with
   | true=>
    simp only [Bool.not_true,j6,j0a]
    exact ih
   | false=>
    simp only [Bool.not_false,j5,e]
    exact j0e ..
  ·rw [j00 (show ¬ perX zs cs ls[n] t≥0 from hp0)]
   simp only [j6,Bool.false_and,j0a]
   exact ih
def whoS (zs:List j1w) (cs:List CalT) (s:j2c) (t:Int):Int:=juL t (topP s.2.2 t (pfX zs cs s.2.1 t) s.2.1.length) s.2.2
theorem jyq {ss:List j2c} (hc:jsK (zs,(ps,(cs,ss)))) {i:Nat} (hi:i<ss.length) {t:Int} (h0:0≤t) (h1:t≤8589934592):jhY (zs,(ps,(cs,ss))) (i:Int) t=some (whoS zs cs ss[i] t):=by
 have hsc:=hc.sc _ (List.getElem_mem hi)
 have hll:=hsc.ll;have hel:=hsc.el
 have hgs:ss.getD i (ByteArray.empty,(([]:List j0J),([]:List j94)))=ss[i]:=by simp [List.getD,hi]
 have e8:=jAU hc (jAW hs)
 have lp:=jwM hs (ss:=ss) (nm:=ss[i].1) (es:=ss[i].2.2) (by omega) (by omega) hsc.ly h0 h1 ss[i].2.1.length (Nat.le_refl _)
 have et:∃ k,joW (zs,(ps,(cs,ss))) (i:Int) t=some (k,topP ss[i].2.2 t (pfX zs cs ss[i].2.1 t) ss[i].2.1.length):=by
  simp only [joW]
  rw [j0Z (by omega) (by omega)]
  simp only [j5,j7,hgs,show Int.ofNat ss[i].2.1.length=(ss[i].2.1.length:Int) from rfl]
  rw [j03 (x:=(ss[i].2.1.length:Int)-1) (by omega) (by omega),show je5 t ((ss[i].2.1.length:Int)-1) zs ps cs ss ss[i].1 ss[i].2.1 ss[i].2.2=_ from lp]
  simp only [j3,topP]
  cases topI (jn9 ss[i].2.2 t (pfX zs cs ss[i].2.1 t)) ss[i].2.1.length with
  | none=>exact ⟨_,rfl⟩
  | some k=>exact ⟨_,rfl⟩
 obtain ⟨k,et⟩:=et
 have ef:=jyp (es:=ss[i].2.2) (by omega) (t:=t) ss[i].2.2.length 0 (topP ss[i].2.2 t (pfX zs cs ss[i].2.1 t) ss[i].2.1.length) (by omega)
 rw [List.drop_zero] at ef
 simp only [jhY,js3,jw3,show Int.ofNat ss.length=(ss.length:Int) from rfl]
 rw [j01 (show (i:Int)≥0 by omega),j01 (show (i:Int)<(ss.length:Int) by omega),j01 (show t≥0 from h0),j01 h1]
 simp only [j5,e8,j3,beq_self_eq_true,Bool.not_true,j6,js2,et]
 rw [j0Z (by omega) (by omega)]
 simp only [j5,j7,hgs,joX]
 rw [show jc6 ss[i].2.2 (topP ss[i].2.2 t (pfX zs cs ss[i].2.1 t) ss[i].2.1.length) t 0=_ from ef]
 rfl
omit hs in
theorem jAq {l:TrL} (h:l.length≠0):zH l=(l.getD (l.length-1) ((0:Int),(0:Int))).1+86400:=by
 unfold zH frm
 rw [if_neg h,if_neg h,if_pos (Nat.le_refl _)]
 rfl
omit hs in
theorem zH_b {o:Int} {l:TrL} (h:TOk o l):0≤zH l∧zH l≤8589934592+86400:=by
 unfold zH
 by_cases h0:l.length=0
 ·rw [if_pos h0];omega
 ·rw [if_neg h0]
  have e:frm l (l.length+1)=8589934593:=j85
  have:=h.frm_lt (i:=l.length) (Nat.le_refl _)
  have:=h.frm_le (i:=0) (j:=l.length) (by omega) (by omega)
  have e0:frm l 0=0:=frm0
  omega
omit hs in
theorem tabx {i:Int} (h0:0≤i) (h1:i<(zs.length:Int)) {c:CfgT}:j43 (c,zs.map tb) i=some (tb (zAt zs i)):=by
 simp only [j43,List.length_map]
 rw [j0Z h0 h1,j5,jwy h0 h1]
 rfl
theorem jrr {i:Int} (h0:0≤i) (h1:i<(zs.length:Int)) {ss:List j2c} {n:Int} (hn:0≤n):j30 i zs ps cs ss (zs.map tb) n=some (zs,ps,cs,ss,zs.map tb,max n (zH (tb (zAt zs i)).2)):=by
 have hz:ZOk (zAt zs i):=zget hs.so.ok h0 h1
 have hb:=zH_b hz.ztab.2
 have hlen:=hz.ztab.2.len
 simp only [j30,tabx h0 h1,j3,j8p,jbI,show Int.ofNat (tb (zAt zs i)).2.length=((tb (zAt zs i)).2.length:Int) from rfl]
 by_cases hl:(tb (zAt zs i)).2.length=0
 ·rw [j00 (by omega),j6,show zH (tb (zAt zs i)).2=0 by unfold zH;rw [if_pos hl]]
  simp only [j4,j8,true_and]
  omega
 ·have e:=jAq hl
  rw [j01 (by omega),j5,j3S (by omega),j6,j03 (x:=((tb (zAt zs i)).2.length:Int)-1) (by omega) (by omega),j0Z (by omega) (by omega),show (((tb (zAt zs i)).2.length:Int)-1).toNat=(tb (zAt zs i)).2.length-1 by omega]
  simp only [j5,j3]
  rw [←e,j03 (x:=zH (tb (zAt zs i)).2) (by omega) (by omega),jsR]
omit hs in
theorem jxR {nz:Nat} {x:CalT} (hx:CCk nz x) (hl:x.2.2.length≠0):0≤x.2.2.getD (x.2.2.length-1) 0∧x.2.2.getD (x.2.2.length-1) 0≤98980:=by
 have hlm:x.2.2.getD (x.2.2.length-1) 0∈x.2.2:=by
  rw [show x.2.2.getD (x.2.2.length-1) 0=x.2.2[x.2.2.length-1] by simp [List.getD,show x.2.2.length-1<x.2.2.length by omega]]
  exact List.getElem_mem _
 exact ⟨jAf (hx.day _ hlm),jsQ (hx.day _ hlm)⟩
omit hs in
theorem hO_b {o:Int} {l:TrL} (ht:TOk o l) {L:j0J} (hR:Rt L):0≤(hO o l L 0).getD 0:=by
 cases h:hO o l L 0 with
 | none=>simp
 | some v=>have:=juJ ht hR (k:=0) (by omega) h;simp;omega
theorem jAr {ls:List j0J} {m:Int} (hm1:m=ls.length) (hm2:m≤100) (hls:∀ L∈ls,LCk zs.length ps.length cs.length L) {i:Nat} (hi:i<ls.length) {ss:List j2c} {n:Int} (hn:0≤n) :
  j0I ls m (i:Int) zs ps cs ss (zs.map tb) n=some (.inl (ls,m,(i:Int)+1,zs,ps,cs,ss,zs.map tb,max n (layH zs cs ls[i]))):=by
 have hL:=hls _ (List.getElem_mem hi)
 have hgd:ls.getD i (ByteArray.empty,((0:Int),(((0:Int),(0:Int)),((0:Int),((0:Int),(([]:List Int),(([]:List (Int×Int)),((0:Int),(0:Int)))))))))=ls[i]:=by simp [List.getD,hi]
 simp only [j0I]
 rw [j01 (by omega),j0Z (by omega) (by omega),j03 (x:=(i:Int)+1) (by omega) (by omega)]
 simp only [j5,j7,hgd]
 generalize ls[i]=L at *
 have hRt:=hL.rt2
 have hz:ZOk (zAt zs L.2.1):=zget hs.so.ok hL.z0 hL.z1
 obtain ⟨v,eH,hv⟩:=recH hz.ztab.2 hRt (k:=0) (by omega) (by omega)
 have eH':j0F ((tb (zAt zs L.2.1)).1,(tb (zAt zs L.2.1)).2) (L.1,(L.2.1,((L.2.2.1.1,L.2.2.1.2),(L.2.2.2.1,(L.2.2.2.2.1,(L.2.2.2.2.2.1,(L.2.2.2.2.2.2.1,(L.2.2.2.2.2.2.2.1,L.2.2.2.2.2.2.2.2)))))))) 0=some (v,(hO (zAt zs L.2.1).2.1 (tb (zAt zs L.2.1)).2 L 0).isSome):=eH
 have hb:=hO_b hz.ztab.2 hRt
 simp only [jrr hs hL.z0 hL.z1 hn,j3,tabx hL.z0 hL.z1,eH',jsR]
 by_cases hm:L.2.2.2.2.2.2.2.2=0
 ·have el:layH zs cs L=max (zH (tb (zAt zs L.2.1)).2) ((hO (zAt zs L.2.1).2.1 (tb (zAt zs L.2.1)).2 L 0).getD 0):=by
   have hzb:=zH_b hz.ztab.2
   unfold layH;rw [if_pos hm];omega
  rw [j7q hm,el]
  cases hh:hO (zAt zs L.2.1).2.1 (tb (zAt zs L.2.1)).2 L 0 with
  | none=>simp only [Option.isSome_none,j6,j5,Option.getD_none];congr 1;congr 1;simp only [j8,true_and];omega
  | some w=>
   rw [hv w hh]
   simp only [Option.isSome_some,j5,Option.getD_some];congr 1;congr 1;simp only [j8,true_and];omega
 ·have hx:CCk zs.length (cAt cs L.2.2.2.2.2.2.2.1):=cget hs (hL.cal hm).1 (hL.cal hm).2
  have el:layH zs cs L=max (max (zH (tb (zAt zs L.2.1)).2) ((hO (zAt zs L.2.1).2.1 (tb (zAt zs L.2.1)).2 L 0).getD 0)) (calH zs (cAt cs L.2.2.2.2.2.2.2.1)):=by unfold layH;rw [if_neg hm]
  rw [j3S hm,el,j0Z (hL.cal hm).1 (hL.cal hm).2]
  have hcx:cs.getD L.2.2.2.2.2.2.2.1.toNat (ByteArray.empty,((0:Int),([]:List Int)))=cAt cs L.2.2.2.2.2.2.2.1:=rfl
  rw [hcx]
  generalize cAt cs L.2.2.2.2.2.2.2.1=x at *
  have hxz:ZOk (zAt zs x.2.1):=zget hs.so.ok hx.z0 hx.z1
  have hzb:=zH_b hz.ztab.2
  have hzb2:=zH_b hxz.ztab.2
  have hxl:=hx.len
  simp only [j6,j5,show Int.ofNat x.2.2.length=(x.2.2.length:Int) from rfl]
  by_cases hl:x.2.2.length=0
  ·have ec:calH zs x=zH (tb (zAt zs x.2.1)).2:=by unfold calH;rw [if_pos hl];omega
   rw [j00 (show ¬ (x.2.2.length:Int)>0 by omega),ec]
   cases hh:hO (zAt zs L.2.1).2.1 (tb (zAt zs L.2.1)).2 L 0 with
   | none=>
    simp only [Option.isSome_none,j6,Option.getD_none,jrr hs hx.z0 hx.z1 (show 0≤max n (zH (tb (zAt zs L.2.1)).2) by omega),j3];congr 1;congr 1;simp only [j8,true_and];omega
   | some w=>
    rw [hv w hh]
    simp only [Option.isSome_some,j5,j6,Option.getD_some,jrr hs hx.z0 hx.z1 (show 0≤max (max n (zH (tb (zAt zs L.2.1)).2)) w by omega),j3];congr 1;congr 1;simp only [j8,true_and];omega
  ·obtain ⟨l0,l1⟩:=jxR hx hl
   obtain ⟨u,hu⟩:=jyo hxz.ztab.2 (s:=dEnd x) (by unfold dEnd;omega)
   have eF:=jn7 hxz.ztab.2 (d:=x.2.2.getD (x.2.2.length-1) 0+1) (c:=0) (by omega) (by omega) (by omega) (by omega)
   rw [Int.add_zero,show (x.2.2.getD (x.2.2.length-1) 0+1)*86400=dEnd x from rfl,hu] at eF
   have eF':j0P ((tb (zAt zs x.2.1)).1,(tb (zAt zs x.2.1)).2) (x.2.2.getD (x.2.2.length-1) 0+1,0)=some (u,true):=eF
   have ec:calH zs x=max (zH (tb (zAt zs x.2.1)).2) u:=by unfold calH;rw [if_neg hl,hu];rfl
   rw [j01 (show (x.2.2.length:Int)>0 by omega),ec,j03 (x:=(x.2.2.length:Int)-1) (by omega) (by omega),j0Z (show 0≤(x.2.2.length:Int)-1 by omega) (by omega),show ((x.2.2.length:Int)-1).toNat=x.2.2.length-1 by omega,j03 (x:=x.2.2.getD (x.2.2.length-1) 0+1) (by omega) (by omega)]
   cases hh:hO (zAt zs L.2.1).2.1 (tb (zAt zs L.2.1)).2 L 0 with
   | none=>
    simp only [Option.isSome_none,j6,Option.getD_none,jrr hs hx.z0 hx.z1 (show 0≤max n (zH (tb (zAt zs L.2.1)).2) by omega),j3,j5,tabx hx.z0 hx.z1,eF'];congr 1;congr 1;simp only [j8,true_and];omega
   | some w=>
    rw [hv w hh]
    simp only [Option.isSome_some,j5,Option.getD_some,jrr hs hx.z0 hx.z1 (show 0≤max (max n (zH (tb (zAt zs L.2.1)).2)) w by omega),j3,tabx hx.z0 hx.z1,eF'];congr 1;congr 1;simp only [j8,true_and];omega
end
def hzL (zs:List j1w) (cs:List CalT):Int→List j0J→Int
 | n,[]=>n
 | n,L::r=>hzL zs cs (max n (layH zs cs L)) r
def hzE:Int→List j94→Int
 | n,[]=>n
 | n,x::r=>hzE (max n x.2.2.2.2) r
theorem jwN {zs:List j1w} {cs:List CalT} {t:Int}:∀ (ls:List j0J) (n:Int),hzL zs cs n ls≤t↔n≤t∧∀ L∈ls,layH zs cs L≤t
 | [],n=>by simp [hzL]
 | L::r,n=>by
  simp only [hzL,jwN r,List.mem_cons,forall_eq_or_imp]
  constructor
  ·rintro ⟨a,b⟩;exact ⟨by omega,by omega,b⟩
  ·rintro ⟨a,b,c⟩;exact ⟨by omega,c⟩
theorem jtM {t:Int}:∀ (es:List j94) (n:Int),hzE n es≤t↔n≤t∧∀ x∈es,x.2.2.2.2≤t
 | [],n=>by simp [hzE]
 | x::r,n=>by
  simp only [hzE,jtM r,List.mem_cons,forall_eq_or_imp]
  constructor
  ·rintro ⟨a,b⟩;exact ⟨by omega,by omega,b⟩
  ·rintro ⟨a,b,c⟩;exact ⟨by omega,c⟩
def hzn (zs:List j1w) (cs:List CalT) (s:j2c):Int:=hzE (hzL zs cs 0 s.2.1) s.2.2
theorem jrs {zs:List j1w} {cs:List CalT} {s:j2c} {t:Int}:hzn zs cs s≤t↔0≤t∧(∀ L∈s.2.1,layH zs cs L≤t)∧∀ x∈s.2.2,x.2.2.2.2≤t:=by
 unfold hzn
 rw [jtM,jwN,and_assoc]
theorem jxS {zs:List j1w} {cs:List CalT} {s:j2c}:hzL zs cs (hzE 0 s.2.2) s.2.1=hzn zs cs s:=by
 have key:∀ t,hzL zs cs (hzE 0 s.2.2) s.2.1≤t↔hzn zs cs s≤t:=fun t=>by
  rw [jrs,jwN,jtM]
  constructor
  ·rintro ⟨⟨a,b⟩,c⟩;exact ⟨a,c,b⟩
  ·rintro ⟨a,c,b⟩;exact ⟨⟨a,b⟩,c⟩
 have h1:=(key (hzn zs cs s)).2 (Int.le_refl _)
 have h2:=(key (hzL zs cs (hzE 0 s.2.2) s.2.1)).1 (Int.le_refl _)
 omega
section
variable {zs:List j1w} {ps:List j1C} {cs:List CalT} (hs:SOk2 zs ps cs)
include hs
theorem jAs {L:j0J} (hL:LCk zs.length ps.length cs.length L):layH zs cs L≤1000000000000:=by
 have hz:ZOk (zAt zs L.2.1):=zget hs.so.ok hL.z0 hL.z1
 have hb:=zH_b hz.ztab.2
 have h1:(hO (zAt zs L.2.1).2.1 (tb (zAt zs L.2.1)).2 L 0).getD 0≤8589934592:=by
  cases h:hO (zAt zs L.2.1).2.1 (tb (zAt zs L.2.1)).2 L 0 with
  | none=>simp
  | some v=>have:=juJ hz.ztab.2 hL.rt2 (k:=0) (by omega) h;simp;omega
 unfold layH
 by_cases hm:L.2.2.2.2.2.2.2.2=0
 ·rw [if_pos hm];omega
 ·rw [if_neg hm]
  have hx:CCk zs.length (cAt cs L.2.2.2.2.2.2.2.1):=cget hs (hL.cal hm).1 (hL.cal hm).2
  generalize cAt cs L.2.2.2.2.2.2.2.1=x at *
  have hxz:ZOk (zAt zs x.2.1):=zget hs.so.ok hx.z0 hx.z1
  have hzb2:=zH_b hxz.ztab.2
  have h2:calH zs x≤1000000000000:=by
   unfold calH
   by_cases hl:x.2.2.length=0
   ·rw [if_pos hl];omega
   ·rw [if_neg hl]
    cases h:fO (zAt zs x.2.1).2.1 (tb (zAt zs x.2.1)).2 (dEnd x) with
    | none=>simp;omega
    | some v=>have:=jro hxz.ztab.2 h;simp;omega
  omega
theorem jAY {s:j2c} (hk:SCk zs.length ps.length cs.length s):0≤hzn zs cs s∧hzn zs cs s≤1000000000000:=
 ⟨(jrs.1 (Int.le_refl _)).1,jrs.2 ⟨by omega,fun L hL=>jAs hs (hk.ly L hL),fun x hx=>(hk.ed x hx).t1⟩⟩
theorem jyr {es:List j94} (hl:es.length≤100) {nm:ByteArray} {ls:List j0J} {ss:List j2c}:∀ (m i:Nat) (n:Int),i+m=es.length→
  j2l es (es.length:Int) (i:Int) zs ps cs ss (zs.map tb) nm ls es n=some (zs,ps,cs,ss,zs.map tb,nm,ls,es,hzE n (es.drop i))
 | 0,i,n,hi=>by
  have _:=hs
  rw [j9a]
  simp only [j2u]
  rw [j00 (by omega),j6,j0e,List.drop_of_length_le (by omega)]
  rfl
 | m+1,i,n,hi=>by
  have hi':i<es.length:=by omega
  have hgd:es.getD i ((0:Int),((0:Int),((0:Int),((0:Int),(0:Int)))))=es[i]:=by simp [List.getD,hi']
  rw [j9a]
  simp only [j2u]
  rw [j01 (by omega),j0Z (by omega) (by omega),j03 (x:=(i:Int)+1) (by omega) (by omega)]
  simp only [j5,j7,hgd,jsR,j0a]
  rw [List.drop_eq_getElem_cons hi']
  exact jyr hl m (i+1) _ (by omega)
theorem jys {ls:List j0J} (hl:ls.length≤100) (hls:∀ L∈ls,LCk zs.length ps.length cs.length L) {ss:List j2c}:∀ (m i:Nat) (n:Int),i+m=ls.length→0≤n→
  j2m ls (ls.length:Int) (i:Int) zs ps cs ss (zs.map tb) n=some (hzL zs cs n (ls.drop i))
 | 0,i,n,hi,_=>by
  rw [j9b]
  simp only [j0I]
  rw [j00 (by omega),j6,j0e,List.drop_of_length_le (by omega)]
  rfl
 | m+1,i,n,hi,hn=>by
  have hi':i<ls.length:=by omega
  rw [j9b,jAr hs rfl (by omega) hls hi' hn,j0a,List.drop_eq_getElem_cons hi']
  exact jys hl hls m (i+1) (max n (layH zs cs ls[i])) (by omega) (by omega)
theorem jzl {ss:List j2c} (hc:jsK (zs,(ps,(cs,ss)))) {i:Nat} (hi:i<ss.length):j2e (zs,(ps,(cs,ss))) (i:Int)=some (hzn zs cs ss[i]):=by
 have hsc:=hc.sc _ (List.getElem_mem hi)
 have hll:=hsc.ll;have hel:=hsc.el
 have hgs:ss.getD i (ByteArray.empty,(([]:List j0J),([]:List j94)))=ss[i]:=by simp [List.getD,hi]
 have l0:=jyr hs (es:=ss[i].2.2) (by omega) (nm:=ss[i].1) (ls:=ss[i].2.1) (ss:=ss) ss[i].2.2.length 0 0 (by omega)
 have hn0:=(jtM (t:=hzE 0 ss[i].2.2) ss[i].2.2 0).1 (Int.le_refl _)
 have l2:=jys hs (by omega) hsc.ly (ss:=ss) ss[i].2.1.length 0 (hzE 0 ss[i].2.2) (by omega) hn0.1
 rw [List.drop_zero] at l0 l2
 simp only [j2e,jAe hs.so.ok hc,j3,Bool.not_true,j6,jbH,show Int.ofNat ss.length=(ss.length:Int) from rfl]
 rw [j01 (show (i:Int)≥0 by omega),j01 (show (i:Int)<(ss.length:Int) by omega),j0Z (by omega) (by omega)]
 simp only [j5,Bool.not_true,j6,j7,hgs,j3x,show Int.ofNat ss[i].2.2.length=(ss[i].2.2.length:Int) from rfl]
 rw [show j2l ss[i].2.2 (ss[i].2.2.length:Int) 0 zs ps cs ss (zs.map tb) ss[i].1 ss[i].2.1 ss[i].2.2 0=_ from l0]
 simp only [j3,show Int.ofNat ss[i].2.1.length=(ss[i].2.1.length:Int) from rfl]
 rw [show j2m ss[i].2.1 (ss[i].2.1.length:Int) 0 zs ps cs ss (zs.map tb) (hzE 0 ss[i].2.2)=_ from l2,jxS]
 rfl
end
end Go.Proofs.Pw
