/- The references of chapters 11 to 14: who is on duty, who is on call. -/
import Derived.Test.YthpdddnkpjnllaaGreatDPL
import Derived.Test.YthpdddnkpjnllaaGreatDPI
import Derived.Test.YthpdddnkpjnllaaGreatDPK
import Derived.Test.YthpdddnkpjnllaaGreatDPG
noncomputable section
open Go Go.Lft
namespace Go.Proofs.Pw
theorem jBO {w:WL} (hl:w.length≤14) (s:Int):∀ (n i:Nat),i+n=w.length→j9G w s (i:Int)=some (cond (hasB s (w.drop i)) (.inl true) (.inr ()))
 | 0,i,hi=>by
  rw [jgg]
  simp only [j5B,show Int.ofNat w.length=(w.length:Int) from rfl]
  rw [j00 (by omega),j6,j07,List.drop_of_length_le (by omega)]
  rfl
 | n+1,i,hi=>by
  have hi':i<w.length:=by omega
  have hgd:w.getD i ((0:Int),(0:Int))=w[i]:=by simp [List.getD,hi']
  rw [jgg]
  simp only [j5B,show Int.ofNat w.length=(w.length:Int) from rfl]
  rw [j01 (by omega),j0q (by omega) (by omega)]
  simp only [j5,Bool.true_or,j7,hgd]
  rw [j02 (x:=(i:Int)+1) (by omega) (by omega),List.drop_eq_getElem_cons hi']
  have hb:hasB s (w[i]::w.drop (i+1))=cond (cond (decide (w[i].1≤s)) (decide (s<w[i].2)) false) true (hasB s (w.drop (i+1))):=rfl
  rw [hb]
  by_cases h1:w[i].1≤s
  ·rw [j01 (show s≥w[i].1 from h1)]
   simp only [j5]
   by_cases h2:s<w[i].2
   ·rw [j01 h2]
    rfl
   ·rw [j00 h2]
    simp only [j6,j05]
    exact jBO hl s n (i+1) (by omega)
  ·rw [j00 (show ¬ s≥w[i].1 from h1)]
   simp only [j6,j05]
   exact jBO hl s n (i+1) (by omega)
theorem jyy {w:WL} (hl:w.length≤14) (s:Int):jhZ w s=some (hasB s w):=by
 have:=jBO hl s w.length 0 (by omega)
 simp only [jhZ,show j9G w s 0=_ from this,j3,List.drop_zero]
 cases hasB s w<;>rfl
theorem jDd {z:j1r} (hz:ZOk z) {t:Int} (h0:0≤t) (h1:t≤8589934592):j4p z t=some (locD z t,0):=by
 have h4:=hz.zref.2.1
 obtain ⟨k,hk,k1,k2⟩:=jfY h4.2 h0 h1
 have e:=ji1 h4.2 hk k1 k2
 have:locD z t=((t+tof z.2.1 (tb z).2 k)/86400,(t+tof z.2.1 (tb z).2 k)%86400):=by
  simp only [locD,show j0n (tb z) t=_ from e,Option.getD_some]
 rw [this]
 exact juZ h4 h0 h1 hk k1 k2
theorem jDe {z:j1r} (hz:ZOk z) {t:Int} (h0:0≤t) (h1:t≤8589934592) {w:WL} (hw:WOk 0 w) (hl:w.length≤14):jct z t=some (secD (locD z t),0)∧jrG z w t=some (hasB (secD (locD z t)) w):=by
 have e1:=jDd hz h0 h1
 obtain ⟨_,hsc⟩:=jqN hz h0 h1
 have e2:jhY (locD z t)=some (secD (locD z t)):=hsc
 have e3:jct z t=some (secD (locD z t),0):=by
  simp only [jct,show j4p (z.1,(z.2.1,z.2.2)) t=_ from e1,j3,bne_self_eq_false,j6,show jhY ((locD z t).1,(locD z t).2)=_ from e2]
 refine ⟨e3,?_⟩
 simp only [jrG,show jct (z.1,(z.2.1,z.2.2)) t=_ from e3,j3,beq_self_eq_true,j5,r5ck hw hl,jyy hl]
section
variable {zs:List j1r} {ps:List j1p} {cs:List CalT} (hs:SOk2 zs ps cs)
include hs
theorem jBP {k d e:Int} {x:CalT} (hx:CCk zs.length x) {L:j0t}:∀ (n i:Nat) (b:Bool),i+n=x.2.2.length→b=decide (d∈x.2.2.take i)→
  j96 k b (i:Int) L.1 L.2.1 L.2.2.1.1 L.2.2.1.2 L.2.2.2.1 L.2.2.2.2.1 L.2.2.2.2.2.1 L.2.2.2.2.2.2.1 L.2.2.2.2.2.2.2.1 L.2.2.2.2.2.2.2.2 x.1 x.2.1 x.2.2 d e=
   some (k,decide (d∈x.2.2),L.1,L.2.1,L.2.2.1.1,L.2.2.1.2,L.2.2.2.1,L.2.2.2.2.1,L.2.2.2.2.2.1,L.2.2.2.2.2.2.1,L.2.2.2.2.2.2.2.1,L.2.2.2.2.2.2.2.2)
 | 0,i,b,hi,hb=>by
  rw [jin]
  simp only [j6Z,show Int.ofNat x.2.2.length=(x.2.2.length:Int) from rfl]
  rw [j00 (by omega),j6,j07,hb,List.take_of_length_le (by omega)]
 | n+1,i,b,hi,hb=>by
  have _:=hs
  have hxl:=hx.len
  have hi':i<x.2.2.length:=by omega
  have hgd:x.2.2.getD i (0:Int)=x.2.2[i]:=by simp [hi']
  rw [jin]
  simp only [j6Z,show Int.ofNat x.2.2.length=(x.2.2.length:Int) from rfl]
  rw [j01 (by omega),j02 (x:=(i:Int)+1) (by omega) (by omega),j5]
  have ht:x.2.2.take (i+1)=x.2.2.take i++[x.2.2[i]]:=by rw [List.take_add_one,List.getElem?_eq_getElem hi'];rfl
  cases hbb:b with
  | true=>
   simp only [j5,j05]
   refine jBP hx n (i+1) true (by omega) ?_
   have:d∈x.2.2.take i:=of_decide_eq_true (by rw [←hb,hbb])
   rw [ht]
   exact (j01 (List.mem_append_left _ this)).symm
  | false=>
   have hnm:d∉x.2.2.take i:=of_decide_eq_false (by rw [←hb,hbb])
   rw [j0q (show (0:Int)≤(i:Int) by omega) (by omega)]
   simp only [j6,j5,j7,hgd,j05]
   refine jBP hx n (i+1) _ (by omega) ?_
   rw [ht]
   by_cases he:x.2.2[i]=d
   ·rw [j4L he]
    exact (j01 (List.mem_append_right _ (by simp [he]))).symm
   ·rw [j2j he]
    refine (j00 fun hm=> ?_).symm
    rcases List.mem_append.1 hm with h | h
    ·exact hnm h
    ·simp at h;exact he h.symm
theorem jBQ {L:j0t} (hL:LCk zs.length ps.length cs.length L) {ss:List j15} {t:Int} (h0:0≤t) (h1:t≤8589934592):∃ k,jk3 (zs,(ps,(cs,ss))) L t=some (k,onX zs cs L t)∧(onX zs cs L t=true→k=shK (zAt zs L.2.1) L t):=by
 have hRt:=hL.rt2
 have hz:ZOk (zAt zs L.2.1):=zget hs.so.ok hL.z0 hL.z1
 have h4:=hz.zref.2.1
 obtain ⟨K,eK,hK⟩:=jDU h4 hRt h0 h1
 have hKs:K=shK (zAt zs L.2.1) L t:=ShO.uniq h4.2 hRt hK (jfb hz hRt h0 h1).2
 subst hKs
 have ek:jh8 (zAt zs L.2.1) L t=some (shK (zAt zs L.2.1) L t,0):=by
  simp only [jh8,show jh4 ((zAt zs L.2.1).1,((zAt zs L.2.1).2.1,(zAt zs L.2.1).2.2)) (L.1,L.2.1,(L.2.2.1.1,L.2.2.1.2),L.2.2.2.1,L.2.2.2.2.1,L.2.2.2.2.2.1,L.2.2.2.2.2.2.1,L.2.2.2.2.2.2.2.1,L.2.2.2.2.2.2.2.2)=_ from ju3 h4 L,j3]
  rw [if_pos hRt,j00 (show ¬ t<0 by omega),j00 (show ¬ t>8589934592 by omega)]
  simp only [bne_self_eq_false,j6]
  rw [show jh7 ((zAt zs L.2.1).1,((zAt zs L.2.1).2.1,(zAt zs L.2.1).2.2)) (L.1,L.2.1,(L.2.2.1.1,L.2.2.1.2),L.2.2.2.1,L.2.2.2.2.1,L.2.2.2.2.2.1,L.2.2.2.2.2.2.1,L.2.2.2.2.2.2.2.1,L.2.2.2.2.2.2.2.2) t=_ from eK]
  rfl
 obtain ⟨_,ein⟩:=jDe hz h0 h1 hL.w hL.wl
 have htail:(cond (L.2.2.2.2.2.2.2.2==(0:Int)) (some (shK (zAt zs L.2.1) L t,true)) (cond (inR L.2.2.2.2.2.2.2.1 cs.length) (cond (inR (cs.getD L.2.2.2.2.2.2.2.1.toNat (ByteArray.empty,((0:Int),([]:List Int)))).2.1 zs.length)
   ((j4p ((zs.getD (cs.getD L.2.2.2.2.2.2.2.1.toNat (ByteArray.empty,((0:Int),([]:List Int)))).2.1.toNat (ByteArray.empty,((0:Int),([]:List Rule)))).1,((zs.getD (cs.getD L.2.2.2.2.2.2.2.1.toNat (ByteArray.empty,((0:Int),([]:List Int)))).2.1.toNat (ByteArray.empty,((0:Int),([]:List Rule)))).2.1,(zs.getD (cs.getD L.2.2.2.2.2.2.2.1.toNat (ByteArray.empty,((0:Int),([]:List Int)))).2.1.toNat (ByteArray.empty,((0:Int),([]:List Rule)))).2.2)) t).bind fun r67=>
     (j96 (shK (zAt zs L.2.1) L t) false 0 L.1 L.2.1 L.2.2.1.1 L.2.2.1.2 L.2.2.2.1 L.2.2.2.2.1 L.2.2.2.2.2.1 L.2.2.2.2.2.2.1 L.2.2.2.2.2.2.2.1 L.2.2.2.2.2.2.2.2 (cs.getD L.2.2.2.2.2.2.2.1.toNat (ByteArray.empty,((0:Int),([]:List Int)))).1 (cs.getD L.2.2.2.2.2.2.2.1.toNat (ByteArray.empty,((0:Int),([]:List Int)))).2.1 (cs.getD L.2.2.2.2.2.2.2.1.toNat (ByteArray.empty,((0:Int),([]:List Int)))).2.2 r67.1.1 r67.1.2).bind fun q0=>
      some (q0.1,(q0.2.1==(q0.2.2.2.2.2.2.2.2.2.2.2==(2:Int))))) none) none))=some (shK (zAt zs L.2.1) L t,calB zs cs L t):=by
  by_cases hm:L.2.2.2.2.2.2.2.2=0
  ·rw [j4L hm,j5]
   unfold calB
   rw [j4L hm];rfl
  ·have hcal:=hL.cal hm
   have hx:=cget hs hcal.1 hcal.2
   have hxz:=zget hs.so.ok hx.z0 hx.z1
   rw [j2j hm,j6,j0q hcal.1 hcal.2,j0q hx.z0 hx.z1]
   simp only [j5]
   rw [show j4p ((zs.getD (cs.getD L.2.2.2.2.2.2.2.1.toNat (ByteArray.empty,((0:Int),([]:List Int)))).2.1.toNat (ByteArray.empty,((0:Int),([]:List Rule)))).1,((zs.getD (cs.getD L.2.2.2.2.2.2.2.1.toNat (ByteArray.empty,((0:Int),([]:List Int)))).2.1.toNat (ByteArray.empty,((0:Int),([]:List Rule)))).2.1,(zs.getD (cs.getD L.2.2.2.2.2.2.2.1.toNat (ByteArray.empty,((0:Int),([]:List Int)))).2.1.toNat (ByteArray.empty,((0:Int),([]:List Rule)))).2.2)) t=_ from jDd hxz h0 h1]
   simp only [j3]
   rw [show j96 (shK (zAt zs L.2.1) L t) false 0 L.1 L.2.1 L.2.2.1.1 L.2.2.1.2 L.2.2.2.1 L.2.2.2.2.1 L.2.2.2.2.2.1 L.2.2.2.2.2.2.1 L.2.2.2.2.2.2.2.1 L.2.2.2.2.2.2.2.2 (cs.getD L.2.2.2.2.2.2.2.1.toNat (ByteArray.empty,((0:Int),([]:List Int)))).1 (cs.getD L.2.2.2.2.2.2.2.1.toNat (ByteArray.empty,((0:Int),([]:List Int)))).2.1 (cs.getD L.2.2.2.2.2.2.2.1.toNat (ByteArray.empty,((0:Int),([]:List Int)))).2.2 _ _=_ from jBP hs hx (L:=L) (cs.getD L.2.2.2.2.2.2.2.1.toNat (ByteArray.empty,((0:Int),([]:List Int)))).2.2.length 0 false (by omega) (by simp)]
   unfold calB
   rw [j2j hm]
   rfl
 simp only [jk3]
 rw [j0q hL.z0 hL.z1]
 simp only [j5]
 rw [show jh8 ((zs.getD L.2.1.toNat (ByteArray.empty,((0:Int),([]:List Rule)))).1,((zs.getD L.2.1.toNat (ByteArray.empty,((0:Int),([]:List Rule)))).2.1,(zs.getD L.2.1.toNat (ByteArray.empty,((0:Int),([]:List Rule)))).2.2)) (L.1,L.2.1,(L.2.2.1.1,L.2.2.1.2),L.2.2.2.1,L.2.2.2.2.1,L.2.2.2.2.2.1,L.2.2.2.2.2.2.1,L.2.2.2.2.2.2.2.1,L.2.2.2.2.2.2.2.2) t=_ from ek]
 simp only [j3,bne_self_eq_false,j6]
 by_cases hk:0≤shK (zAt zs L.2.1) L t
 ·rw [j00 (show ¬ shK (zAt zs L.2.1) L t<0 by omega)]
  simp only [j6,show Int.ofNat L.2.2.2.2.2.2.1.length=(L.2.2.2.2.2.2.1.length:Int) from rfl]
  have hon:onX zs cs L t=cond (okW L.2.2.2.2.2.2.1 (secD (locD (zAt zs L.2.1) t))) (calB zs cs L t) false:=by
   unfold onX
   rw [j01 hk];rfl
  rw [hon]
  by_cases hw:(L.2.2.2.2.2.2.1.length:Int)>0
  ·rw [j01 hw,j5,show jrG ((zs.getD L.2.1.toNat (ByteArray.empty,((0:Int),([]:List Rule)))).1,((zs.getD L.2.1.toNat (ByteArray.empty,((0:Int),([]:List Rule)))).2.1,(zs.getD L.2.1.toNat (ByteArray.empty,((0:Int),([]:List Rule)))).2.2)) L.2.2.2.2.2.2.1 t=_ from ein]
   simp only [j3]
   unfold okW
   rw [j01 hw,j5]
   cases hasB (secD (locD (zAt zs L.2.1) t)) L.2.2.2.2.2.2.1 with
   | false=>exact ⟨0,rfl,fun h=>by simp at h⟩
   | true=>
    simp only [Bool.not_true,j6,j5]
    exact ⟨_,htail,fun _=>rfl⟩
  ·rw [j00 hw,j6]
   unfold okW
   rw [j00 hw]
   simp only [j6,j5]
   exact ⟨_,htail,fun _=>rfl⟩
 ·rw [j01 (show shK (zAt zs L.2.1) L t<0 by omega)]
  have hon:onX zs cs L t=false:=by
   unfold onX
   rw [j00 hk];rfl
  rw [hon]
  simp only [j5,Bool.not_true,Bool.not_false,Bool.or_true]
  exact ⟨0,rfl,fun h=>by simp at h⟩
theorem jzS {L:j0t} (hL:LCk zs.length ps.length cs.length L) {ss:List j15} {t:Int} (h0:0≤t) (h1:t≤8589934592):jnh (zs,(ps,(cs,ss))) L t=some (perX zs cs L t):=by
 obtain ⟨k,e,hk⟩:=jBQ hs hL (ss:=ss) h0 h1
 have hon:=(jzO hs hL (ss:=[]) h0 h1).2.2
 simp only [jnh]
 rw [show jk3 (zs,ps,cs,ss) (L.1,L.2.1,(L.2.2.1.1,L.2.2.1.2),L.2.2.2.1,L.2.2.2.2.1,L.2.2.2.2.2.1,L.2.2.2.2.2.2.1,L.2.2.2.2.2.2.2.1,L.2.2.2.2.2.2.2.2) t=_ from e]
 simp only [j3,show Int.ofNat L.2.2.2.2.2.1.length=(L.2.2.2.2.2.1.length:Int) from rfl]
 unfold perX
 cases hc:onX zs cs L t with
 | false=>rfl
 | true=>
  have hm0:=hL.m0
  have hk0:=hon hc
  have:=hk hc
  subst this
  have q1:0≤Int.tmod (shK (zAt zs L.2.1) L t) (L.2.2.2.2.2.1.length:Int):=Int.tmod_nonneg _ hk0
  have q2:Int.tmod (shK (zAt zs L.2.1) L t) (L.2.2.2.2.2.1.length:Int)<(L.2.2.2.2.2.1.length:Int):=Int.tmod_lt_of_pos _ (by omega)
  rw [j2j (show ¬ (L.2.2.2.2.2.1.length:Int)=0 by omega),j0q q1 q2]
  rfl
theorem jDV:∀ z∈zs,j7I z=some 0:=fun z hz=>r4ck (hs.so.ok z hz)
end
def zH (l:TrL):Int:=if l.length=0 then 0 else frm l l.length+86400
section
variable {o:Int} {l:TrL} (h:TOk o l)
include h
theorem jAI {t:Int} (ht:zH l≤t):frm l l.length≤t:=by
 have _:=h
 unfold zH at ht
 by_cases h0:l.length=0
 ·rw [if_pos h0] at ht
  rw [h0,frm0];exact ht
 ·rw [if_neg h0] at ht;omega
theorem jDf (hd:Dif o l) {s t:Int} (ht:zH l≤t) (h1:t≤8589934592):(∃ v,fO o l s=some v∧v≤t)↔s≤t+tof o l l.length:=by
 have hz:=jAI h ht
 have hend:frm l (l.length+1)=8589934593:=j7Z
 constructor
 ·rintro ⟨v,hv,hvt⟩
  obtain ⟨k,f⟩:=jy0 hv
  have f1:=f.hk;have f2:=f.hks;have f3:=f.ht
  by_cases hk:k=l.length
  ·subst hk;omega
  ·have h0:l.length≠0:=by omega
   unfold zH at ht
   rw [if_neg h0] at ht
   by_cases hk1:k+1=l.length
   ·have:=hd k (by omega)
    rw [hk1] at this f2
    omega
   ·have g:=h.frm_gap (i:=k+1) (j:=l.length) (by omega) (by omega) (by omega)
    have o1:=h.of1 k f1
    have o2:=h.of0 l.length (Nat.le_refl _)
    omega
 ·intro hst
  rcases jpk o l s with ⟨v,k,f⟩ | hno
  ·refine ⟨v,fO_t f,?_⟩
   have f1:=f.hk;have f3:=f.ht
   obtain ⟨p1,p2,p3⟩:=f.piece h
   by_cases hk:k=l.length
   ·subst hk;omega
   ·have:=h.frm_le (i:=k+1) (j:=l.length) (by omega) (by omega)
    omega
  ·have:=hno l.length (Nat.le_refl _)
   omega
theorem jAJ {s:Int} (hs:s≤8551958400):∃ v,fO o l s=some v:=by
 rcases jpk o l s with ⟨v,k,f⟩ | hno
 ·exact ⟨v,fO_t f⟩
 ·have hend:frm l (l.length+1)=8589934593:=j7Z
  have:=hno l.length (Nat.le_refl _)
  have:=h.of0 l.length (Nat.le_refl _)
  omega
end
theorem jyz {d:Int} (h:j0Q d=some true):d≤98980:=by
 apply Classical.byContradiction
 intro hd
 simp only [j0Q,j4N,jhF,jhE,j3] at h
 rw [j00 (show ¬ d<0 by omega),j01 (show d≥98981 by omega)] at h
 simp at h
theorem jqQ {z:j1r} (hz:ZOk z) {t:Int} (ht:zH (tb z).2≤t) (h1:t≤8589934592):locD z t=((t+tof z.2.1 (tb z).2 (tb z).2.length)/86400,(t+tof z.2.1 (tb z).2 (tb z).2.length)%86400):=by
 have h:=hz.ztab.2
 have hend:frm (tb z).2 ((tb z).2.length+1)=8589934593:=j7Z
 have e:=ji1 h (Nat.le_refl _) (jAI h ht) (by omega)
 simp only [locD,show j0n (tb z) t=_ from e,Option.getD_some]
theorem jDW {d x:Int}:(Int.tmod (d+7*x) 7+10)%7=(Int.tmod d 7+10)%7:=by
 obtain ⟨e,p1,p2,p3,p4⟩:=tdm d 7 (by omega)
 obtain ⟨e',q1,q2,q3,q4⟩:=tdm (d+7*x) 7 (by omega)
 omega
theorem jzT {z:j1r} (hz:ZOk z) {t x:Int} (hx:0≤x) (ht:zH (tb z).2≤t) (h1:t+604800*x≤8589934592):secD (locD z (t+604800*x))=secD (locD z t)∧(locD z t).1≤(locD z (t+604800*x)).1:=by
 rw [jqQ hz ht (by omega),jqQ hz (by omega) h1]
 generalize tof z.2.1 (tb z).2 (tb z).2.length=f
 have e1:(t+604800*x+f)/86400=(t+f)/86400+7*x:=by omega
 have e2:(t+604800*x+f)%86400=(t+f)%86400:=by omega
 refine ⟨?_,by dsimp only;omega⟩
 simp only [secD,j3A,jlu,j3,e1,e2,jDW]
theorem jzU {ds:List Int} (h:ds.Pairwise (· < ·)) {d:Int} (hd:d∈ds):d≤ds.getD (ds.length-1) 0:=by
 obtain ⟨i,hi,rfl⟩:=List.getElem_of_mem hd
 rw [show ds.getD (ds.length-1) 0=ds[ds.length-1] by simp [List.getD,show ds.length-1<ds.length by omega]]
 by_cases he:i=ds.length-1
 ·subst he;omega
 ·have:=List.pairwise_iff_getElem.1 h i (ds.length-1) hi (by omega) (by omega)
  omega
def dEnd (x:CalT):Int:=(x.2.2.getD (x.2.2.length-1) 0+1)*86400
def calH (zs:List j1r) (x:CalT):Int:=max (zH (tb (zAt zs x.2.1)).2) (if x.2.2.length=0 then 0 else (fO (zAt zs x.2.1).2.1 (tb (zAt zs x.2.1)).2 (dEnd x)).getD 0)
def layH (zs:List j1r) (cs:List CalT) (L:j0t):Int:=
 max (max (zH (tb (zAt zs L.2.1)).2) ((hO (zAt zs L.2.1).2.1 (tb (zAt zs L.2.1)).2 L 0).getD 0)) (if L.2.2.2.2.2.2.2.2=0 then 0 else calH zs (cAt cs L.2.2.2.2.2.2.2.1))
section
variable {zs:List j1r} {ps:List j1p} {cs:List CalT} (hs:SOk2 zs ps cs)
include hs
theorem jyA {x:CalT} (hx:CCk zs.length x) {t:Int} (ht:calH zs x≤t) (h1:t≤8589934592):(locD (zAt zs x.2.1) t).1∉x.2.2:=by
 intro hm
 have hz:ZOk (zAt zs x.2.1):=zget hs.so.ok hx.z0 hx.z1
 unfold calH at ht
 have hl:x.2.2.length≠0:=fun h=>by
  rw [List.length_eq_zero_iff.1 h] at hm;simp at hm
 rw [if_neg hl] at ht
 have hle:=jzU hx.asc hm
 have hlm:x.2.2.getD (x.2.2.length-1) 0∈x.2.2:=by
  rw [show x.2.2.getD (x.2.2.length-1) 0=x.2.2[x.2.2.length-1] by simp [List.getD,show x.2.2.length-1<x.2.2.length by omega]]
  exact List.getElem_mem _
 have hd:=jyz (hx.day _ hlm)
 obtain ⟨v,hv⟩:=jAJ hz.ztab.2 (s:=dEnd x) (by unfold dEnd;omega)
 rw [hv] at ht
 simp only [Option.getD_some] at ht
 have:=(jDf hz.ztab.2 hz.zdif (s:=dEnd x) (t:=t) (by omega) h1).1 ⟨v,hv,by omega⟩
 rw [jqQ hz (by omega) h1] at hle
 dsimp only at hle
 unfold dEnd at this
 omega
end
theorem jv8 {es:List j3Y} {t p:Int} (h:∀ x∈es,x.2.2.2.2≤t):ja2 es p t=false:=by
 unfold ja2
 rw [List.any_eq_false]
 intro x hx
 have:=h x hx
 rw [j00 (show ¬ t<x.2.2.2.2 by omega)]
 simp
theorem jsA {f g:Nat→Bool}:∀ n:Nat,(∀ k,k<n→f k=g k)→topI f n=topI g n
 | 0,_=>rfl
 | n+1,h=>by
  simp only [topI]
  rw [h n (by omega),jsA n (fun k hk=>h k (by omega))]
theorem ju4 {f:Nat→Bool}:∀ {n k:Nat},topI f n=some k→k<n
 | 0,k,h=>by simp [topI] at h
 | n+1,k,h=>by
  simp only [topI] at h
  cases hf:f n with
  | true=>rw [hf] at h;simp at h;omega
  | false=>rw [hf] at h;simp at h;have:=ju4 h;omega
def joH (t p:Int) (x:j3Y):Int:=
 if t<x.2.2.2.1∨x.2.2.2.2≤t then p else if x.1=1 then x.2.1 else if x.1=2∧p=x.2.1 then x.2.2.1 else if x.1=2∧p=x.2.2.1 then x.2.1 else p
def jdI (t:Int):Int→List j3Y→Int
 | p,[]=>p
 | p,x::r=>jdI t (joH t p x) r
theorem jo6 {t:Int}:∀ (es:List j3Y) (p:Int),(∀ x∈es,x.2.2.2.2≤t)→jdI t p es=p
 | [],_,_=>rfl
 | x::r,p,h=>by
  have:=h x (by simp)
  simp only [jdI]
  rw [show joH t p x=p by unfold joH;rw [if_pos (.inr this)]]
  exact jo6 r p (fun y hy=>h y (by simp [hy]))
theorem jAK {es:List j3Y} (hl:es.length≤100) {t:Int}:∀ (n i:Nat) (p:Int),i+n=es.length→jcS es p t (i:Int)=some (jdI t p (es.drop i))
 | 0,i,p,hi=>by
  rw [jip]
  simp only [j71,show Int.ofNat es.length=(es.length:Int) from rfl]
  rw [j00 (by omega),j6,j07,List.drop_of_length_le (by omega)]
  rfl
 | n+1,i,p,hi=>by
  have hi':i<es.length:=by omega
  have hgd:es.getD i ((0:Int),((0:Int),((0:Int),((0:Int),(0:Int)))))=es[i]:=by simp [List.getD,hi']
  have ih:=fun p=>jAK hl (t:=t) n (i+1) p (by omega)
  rw [jip]
  simp only [j71,show Int.ofNat es.length=(es.length:Int) from rfl]
  rw [j01 (by omega),j0q (by omega) (by omega),j02 (x:=(i:Int)+1) (by omega) (by omega),List.drop_eq_getElem_cons hi']
  simp only [j5,j7,hgd,jdI]
  generalize es[i]=x
  unfold joH
  by_cases ha:t<x.2.2.2.1∨x.2.2.2.2≤t
  ·rw [if_pos ha]
   have:cond (decide (t<x.2.2.2.1)) true (decide (t≥x.2.2.2.2))=true:=by
    rcases ha with ha | ha
    ·rw [j01 ha];rfl
    ·rw [j01 (show t≥x.2.2.2.2 from ha)];cases decide (t<x.2.2.2.1)<;>rfl
   rw [this,j5,j05]
   exact ih p
  ·rw [if_neg ha,j00 (show ¬ t<x.2.2.2.1 by omega),j00 (show ¬ t≥x.2.2.2.2 by omega)]
   simp only [j6]
   by_cases h1:x.1=1
   ·rw [if_pos h1,j4L h1,j5,j05]
    exact ih _
   ·rw [if_neg h1,j2j h1,j6]
    by_cases h2:x.1=2
    ·rw [j4L h2]
     simp only [j5]
     by_cases h3:p=x.2.1
     ·rw [if_pos ⟨h2,h3⟩,j4L h3,j5,j05]
      exact ih _
     ·rw [if_neg (fun h=>h3 h.2),j2j h3,j6]
      by_cases h4:p=x.2.2.1
      ·rw [if_pos ⟨h2,h4⟩,j4L h4,j5,j05]
       exact ih _
      ·rw [if_neg (fun h=>h4 h.2),j2j h4,j6,j05]
       exact ih _
    ·rw [if_neg (fun h=>h2 h.1),if_neg (fun h=>h2 h.1),j2j h2]
     simp only [j6,j05]
     exact ih _
theorem jyB {es:List j3Y} (hl:es.length≤100) {t:Int}:∀ (n i:Nat) (p:Int),i+n=es.length→j7C p t es (es.length:Int) (i:Int)=some (jdI t p (es.drop i))
 | 0,i,p,hi=>by
  rw [jgY]
  simp only [j6d]
  rw [j00 (by omega),j6,j07,List.drop_of_length_le (by omega)]
  rfl
 | n+1,i,p,hi=>by
  have hi':i<es.length:=by omega
  have hgd:es.getD i ((0:Int),((0:Int),((0:Int),((0:Int),(0:Int)))))=es[i]:=by simp [List.getD,hi']
  have ih:=fun p=>jyB hl (t:=t) n (i+1) p (by omega)
  rw [jgY]
  simp only [j6d,jiP,j3]
  rw [j01 (by omega),j0q (by omega) (by omega),j02 (x:=(i:Int)+1) (by omega) (by omega),List.drop_eq_getElem_cons hi']
  simp only [j5,j7,hgd,jdI]
  generalize es[i]=x
  unfold joH
  by_cases ha:t<x.2.2.2.1∨x.2.2.2.2≤t
  ·rw [if_pos ha]
   have:cond (decide (x.2.2.2.1≤t)) (decide (t<x.2.2.2.2)) false=false:=by
    rcases ha with ha | ha
    ·rw [j00 (show ¬ x.2.2.2.1≤t by omega)];rfl
    ·rw [j00 (show ¬ t<x.2.2.2.2 by omega)];cases decide (x.2.2.2.1≤t)<;>rfl
   rw [this]
   simp only [Bool.not_false,j5,j05]
   exact ih p
  ·rw [if_neg ha,j01 (show x.2.2.2.1≤t by omega),j01 (show t<x.2.2.2.2 by omega)]
   simp only [j5,Bool.not_true,j6]
   by_cases h0:x.1=0
   ·rw [j4L h0,if_neg (by omega),if_neg (by omega),if_neg (by omega),j5,j05]
    exact ih p
   rw [j2j h0,j6]
   by_cases h1:x.1=1
   ·rw [if_pos h1,j4L h1,j5,j05]
    exact ih _
   ·rw [if_neg h1,j2j h1,j6]
    by_cases h2:x.1=2
    ·rw [show (x.1 != 2)=false by simp [h2],j6]
     by_cases h3:p=x.2.1
     ·rw [if_pos ⟨h2,h3⟩,j4L h3,j5,j05]
      exact ih _
     ·rw [if_neg (fun h=>h3 h.2),j2j h3,j6]
      by_cases h4:p=x.2.2.1
      ·rw [if_pos ⟨h2,h4⟩,j4L h4,j5,j05]
       exact ih _
      ·rw [if_neg (fun h=>h4 h.2),j2j h4,j6,j05]
       exact ih _
    ·rw [if_neg (fun h=>h2 h.1),if_neg (fun h=>h2 h.1),show (x.1 != 2)=true by simp [h2],j5,j05]
     exact ih _
theorem jqR (a b:Int):(if a>b then a else b)=max b a:=by split<;>omega
theorem jv9 {nm:ByteArray} {ls:List j0t} {es:List j3Y} {p t:Int} (hl:es.length≤1000):∀ (n i:Nat),i+n=es.length→jcR p t (i:Int) nm ls es=some (cond (ja2 (es.drop i) p t) (.inl true) (.inr ()))
 | 0,i,hi=>by
  rw [jio]
  simp only [j70,show Int.ofNat es.length=(es.length:Int) from rfl]
  rw [j00 (by omega),j6,j07,List.drop_of_length_le (by omega)]
  rfl
 | n+1,i,hi=>by
  have hlt:i<es.length:=by omega
  have hgd:es.getD i ((0:Int),((0:Int),((0:Int),((0:Int),(0:Int)))))=es[i]:=by simp [List.getD,hlt]
  have ih:=jv9 (nm:=nm) (ls:=ls) (p:=p) (t:=t) hl n (i+1) (by omega)
  rw [jio]
  simp only [j70,show Int.ofNat es.length=(es.length:Int) from rfl]
  rw [j01 (by omega),j0q (by omega) (by omega),j02 (x:=(i:Int)+1) (by omega) (by omega),List.drop_eq_getElem_cons hlt]
  simp only [j5,j7,hgd]
  have ha:ja2 (es[i]::es.drop (i+1)) p t=((es[i].1==0&&(es[i].2.1==p&&(decide (es[i].2.2.2.1≤t)&&decide (t<es[i].2.2.2.2))))||ja2 (es.drop (i+1)) p t):=rfl
  have e:(cond (cond (cond (es[i].1==(0:Int)) (es[i].2.1==p) false) (decide (es[i].2.2.2.1≤t)) false) (decide (t<es[i].2.2.2.2)) false)=(es[i].1==0&&(es[i].2.1==p&&(decide (es[i].2.2.2.1≤t)&&decide (t<es[i].2.2.2.2)))):=by
   cases es[i].1==(0:Int)<;>cases es[i].2.1==p<;>cases decide (es[i].2.2.2.1≤t)<;>rfl
  rw [e,ha]
  cases (es[i].1==0&&(es[i].2.1==p&&(decide (es[i].2.2.2.1≤t)&&decide (t<es[i].2.2.2.2)))) with
  | true=>rfl
  | false=>
   rw [j6,j05,Bool.false_or]
   exact ih
theorem jwc {nm:ByteArray} {ls:List j0t} {es:List j3Y} {p t:Int} (hl:es.length≤1000):jmz (nm,(ls,es)) p t=some (ja2 es p t):=by
 have:=jv9 (nm:=nm) (ls:=ls) (p:=p) (t:=t) hl es.length 0 (by omega)
 simp only [jmz,show jcR p t 0 nm ls es=_ from this,j3,List.drop_zero]
 cases ja2 es p t<;>rfl
section
variable {zs:List j1r} {ps:List j1p} {cs:List CalT} (hs:SOk2 zs ps cs)
include hs
theorem jyC {ss:List j15} {nm:ByteArray} {ls:List j0t} {es:List j3Y} (hel:es.length≤1000) (hll:ls.length≤1000) (hL:∀ L∈ls,LCk zs.length ps.length cs.length L) {t:Int} (h0:0≤t) (h1:t≤8589934592):∀ n:Nat,n≤ls.length→
  jeU t ((n:Int)-1) zs ps cs ss nm ls es=some (match topI (j6J es t (pfX zs cs ls t)) n with | some i=> .inl ((i:Int),pfX zs cs ls t i) | none=> .inr ())
 | 0,hn=>by
  rw [jk4]
  simp only [j7K]
  rw [j00 (by omega),j6,j07]
  rfl
 | n+1,hn=>by
  have hlt:n<ls.length:=by omega
  have hgd:ls.getD n (ByteArray.empty,((0:Int),(((0:Int),(0:Int)),((0:Int),((0:Int),(([]:List Int),(([]:List (Int×Int)),((0:Int),(0:Int)))))))))=ls[n]:=by simp [List.getD,hlt]
  have ih:=jyC (ss:=ss) (nm:=nm) hel hll hL h0 h1 n (by omega)
  have hp:=jzS hs (hL _ (List.getElem_mem hlt)) (ss:=ss) h0 h1
  have e:pfX zs cs ls t n=perX zs cs ls[n] t:=by simp [pfX,List.getD,hlt]
  rw [show ((n+1:Nat):Int)-1=(n:Int) by omega,jk4]
  simp only [j7K]
  rw [j01 (show (n:Int)≥0 by omega),j0q (by omega) (by omega),j02 (x:=(n:Int)-1) (by omega) (by omega)]
  simp only [j5,j7,hgd]
  rw [show jnh (zs,(ps,(cs,ss))) (ls[n].1,(ls[n].2.1,((ls[n].2.2.1.1,ls[n].2.2.1.2),(ls[n].2.2.2.1,(ls[n].2.2.2.2.1,(ls[n].2.2.2.2.2.1,(ls[n].2.2.2.2.2.2.1,(ls[n].2.2.2.2.2.2.2.1,ls[n].2.2.2.2.2.2.2.2)))))))) t=_ from hp]
  simp only [j3,topI,j6J,e]
  by_cases hp0:0≤perX zs cs ls[n] t
  ·rw [j01 (show perX zs cs ls[n] t≥0 from hp0)]
   simp only [j5,jwc hel,j3,Bool.true_and]
   cases ja2 es (perX zs cs ls[n] t) t with
   | true=>
    simp only [Bool.not_true,j6,j05]
    exact ih
   | false=>
    simp only [Bool.not_false,j5,e]
    exact j07 ..
  ·rw [j00 (show ¬ perX zs cs ls[n] t≥0 from hp0)]
   simp only [j6,Bool.false_and,j05]
   exact ih
def whoS (zs:List j1r) (cs:List CalT) (s:j15) (t:Int):Int:=jdI t (topP s.2.2 t (pfX zs cs s.2.1 t) s.2.1.length) s.2.2
theorem jyD {ss:List j15} (hc:jnZ (zs,(ps,(cs,ss)))) {i:Nat} (hi:i<ss.length) {t:Int} (h0:0≤t) (h1:t≤8589934592):jft (zs,(ps,(cs,ss))) (i:Int) t=some (whoS zs cs ss[i] t):=by
 have hsc:=hc.sc _ (List.getElem_mem hi)
 have hll:=hsc.ll;have hel:=hsc.el
 have hgs:ss.getD i (ByteArray.empty,(([]:List j0t),([]:List j3Y)))=ss[i]:=by simp [List.getD,hi]
 have e8:=jDT hc (jDV hs)
 have lp:=jyC hs (ss:=ss) (nm:=ss[i].1) (es:=ss[i].2.2) (by omega) (by omega) hsc.ly h0 h1 ss[i].2.1.length (Nat.le_refl _)
 have et:∃ k,jpZ (zs,(ps,(cs,ss))) (i:Int) t=some (k,topP ss[i].2.2 t (pfX zs cs ss[i].2.1 t) ss[i].2.1.length):=by
  simp only [jpZ]
  rw [j0q (by omega) (by omega)]
  simp only [j5,j7,hgs,show Int.ofNat ss[i].2.1.length=(ss[i].2.1.length:Int) from rfl]
  rw [j02 (x:=(ss[i].2.1.length:Int)-1) (by omega) (by omega),show jeU t ((ss[i].2.1.length:Int)-1) zs ps cs ss ss[i].1 ss[i].2.1 ss[i].2.2=_ from lp]
  simp only [j3,topP]
  cases topI (j6J ss[i].2.2 t (pfX zs cs ss[i].2.1 t)) ss[i].2.1.length with
  | none=>exact ⟨_,rfl⟩
  | some k=>exact ⟨_,rfl⟩
 obtain ⟨k,et⟩:=et
 have ef:=jAK (es:=ss[i].2.2) (by omega) (t:=t) ss[i].2.2.length 0 (topP ss[i].2.2 t (pfX zs cs ss[i].2.1 t) ss[i].2.1.length) (by omega)
 rw [List.drop_zero] at ef
 simp only [jft,jtf,jxy,show Int.ofNat ss.length=(ss.length:Int) from rfl]
 rw [j01 (show (i:Int)≥0 by omega),j01 (show (i:Int)<(ss.length:Int) by omega),j01 (show t≥0 from h0),j01 h1]
 simp only [j5,e8,j3,beq_self_eq_true,Bool.not_true,j6,jte,et]
 rw [j0q (by omega) (by omega)]
 simp only [j5,j7,hgs,jq0]
 rw [show jcS ss[i].2.2 (topP ss[i].2.2 t (pfX zs cs ss[i].2.1 t) ss[i].2.1.length) t 0=_ from ef]
 rfl
omit hs in
theorem jDg {l:TrL} (h:l.length≠0):zH l=(l.getD (l.length-1) ((0:Int),(0:Int))).1+86400:=by
 unfold zH frm
 rw [if_neg h,if_neg h,if_pos (Nat.le_refl _)]
 rfl
omit hs in
theorem zH_b {o:Int} {l:TrL} (h:TOk o l):0≤zH l∧zH l≤8589934592+86400:=by
 unfold zH
 by_cases h0:l.length=0
 ·rw [if_pos h0];omega
 ·rw [if_neg h0]
  have e:frm l (l.length+1)=8589934593:=j7Z
  have:=h.frm_lt (i:=l.length) (Nat.le_refl _)
  have:=h.frm_le (i:=0) (j:=l.length) (by omega) (by omega)
  have e0:frm l 0=0:=frm0
  omega
omit hs in
theorem tabx {i:Int} (h0:0≤i) (h1:i<(zs.length:Int)) {c:CfgT}:j4X (c,zs.map tb) i=some (tb (zAt zs i)):=by
 simp only [j4X,List.length_map]
 rw [j0q h0 h1,j5,jpl h0 h1]
 rfl
theorem jsB {i:Int} (h0:0≤i) (h1:i<(zs.length:Int)) {ss:List j15} {n:Int} (hn:0≤n):j3J i zs ps cs ss (zs.map tb) n=some (zs,ps,cs,ss,zs.map tb,max n (zH (tb (zAt zs i)).2)):=by
 have hz:ZOk (zAt zs i):=zget hs.so.ok h0 h1
 have hb:=zH_b hz.ztab.2
 have hlen:=hz.ztab.2.len
 simp only [j3J,tabx h0 h1,j3,j9w,jcE,show Int.ofNat (tb (zAt zs i)).2.length=((tb (zAt zs i)).2.length:Int) from rfl]
 by_cases hl:(tb (zAt zs i)).2.length=0
 ·rw [j00 (by omega),j6,show zH (tb (zAt zs i)).2=0 by unfold zH;rw [if_pos hl]]
  simp only [j4,j8,true_and]
  omega
 ·have e:=jDg hl
  rw [j01 (by omega),j5,j2j (by omega),j6,j02 (x:=((tb (zAt zs i)).2.length:Int)-1) (by omega) (by omega),j0q (by omega) (by omega),show (((tb (zAt zs i)).2.length:Int)-1).toNat=(tb (zAt zs i)).2.length-1 by omega]
  simp only [j5,j3]
  rw [←e,j02 (x:=zH (tb (zAt zs i)).2) (by omega) (by omega),jqR]
omit hs in
theorem jzV {nz:Nat} {x:CalT} (hx:CCk nz x) (hl:x.2.2.length≠0):0≤x.2.2.getD (x.2.2.length-1) 0∧x.2.2.getD (x.2.2.length-1) 0≤98980:=by
 have hlm:x.2.2.getD (x.2.2.length-1) 0∈x.2.2:=by
  rw [show x.2.2.getD (x.2.2.length-1) 0=x.2.2[x.2.2.length-1] by simp [List.getD,show x.2.2.length-1<x.2.2.length by omega]]
  exact List.getElem_mem _
 exact ⟨jAt (hx.day _ hlm),jyz (hx.day _ hlm)⟩
omit hs in
theorem hO_b {o:Int} {l:TrL} (ht:TOk o l) {L:j0t} (hR:Rt L):0≤(hO o l L 0).getD 0:=by
 cases h:hO o l L 0 with
 | none=>simp
 | some v=>have:=jtY ht hR (k:=0) (by omega) h;simp;omega
theorem jDh {ls:List j0t} {m:Int} (hm1:m=ls.length) (hm2:m≤100) (hls:∀ L∈ls,LCk zs.length ps.length cs.length L) {i:Nat} (hi:i<ls.length) {ss:List j15} {n:Int} (hn:0≤n) :
  j10 ls m (i:Int) zs ps cs ss (zs.map tb) n=some (.inl (ls,m,(i:Int)+1,zs,ps,cs,ss,zs.map tb,max n (layH zs cs ls[i]))):=by
 have hL:=hls _ (List.getElem_mem hi)
 have hgd:ls.getD i (ByteArray.empty,((0:Int),(((0:Int),(0:Int)),((0:Int),((0:Int),(([]:List Int),(([]:List (Int×Int)),((0:Int),(0:Int)))))))))=ls[i]:=by simp [List.getD,hi]
 simp only [j10]
 rw [j01 (by omega),j0q (by omega) (by omega),j02 (x:=(i:Int)+1) (by omega) (by omega)]
 simp only [j5,j7,hgd]
 generalize ls[i]=L at *
 have hRt:=hL.rt2
 have hz:ZOk (zAt zs L.2.1):=zget hs.so.ok hL.z0 hL.z1
 obtain ⟨v,eH,hv⟩:=recH hz.ztab.2 hRt (k:=0) (by omega) (by omega)
 have eH':j0A ((tb (zAt zs L.2.1)).1,(tb (zAt zs L.2.1)).2) (L.1,(L.2.1,((L.2.2.1.1,L.2.2.1.2),(L.2.2.2.1,(L.2.2.2.2.1,(L.2.2.2.2.2.1,(L.2.2.2.2.2.2.1,(L.2.2.2.2.2.2.2.1,L.2.2.2.2.2.2.2.2)))))))) 0=some (v,(hO (zAt zs L.2.1).2.1 (tb (zAt zs L.2.1)).2 L 0).isSome):=eH
 have hb:=hO_b hz.ztab.2 hRt
 simp only [jsB hs hL.z0 hL.z1 hn,j3,tabx hL.z0 hL.z1,eH',jqR]
 by_cases hm:L.2.2.2.2.2.2.2.2=0
 ·have el:layH zs cs L=max (zH (tb (zAt zs L.2.1)).2) ((hO (zAt zs L.2.1).2.1 (tb (zAt zs L.2.1)).2 L 0).getD 0):=by
   have hzb:=zH_b hz.ztab.2
   unfold layH;rw [if_pos hm];omega
  rw [j4L hm,el]
  cases hh:hO (zAt zs L.2.1).2.1 (tb (zAt zs L.2.1)).2 L 0 with
  | none=>simp only [Option.isSome_none,j6,j5,Option.getD_none];congr 1;congr 1;simp only [j8,true_and];omega
  | some w=>
   rw [hv w hh]
   simp only [Option.isSome_some,j5,Option.getD_some];congr 1;congr 1;simp only [j8,true_and];omega
 ·have hx:CCk zs.length (cAt cs L.2.2.2.2.2.2.2.1):=cget hs (hL.cal hm).1 (hL.cal hm).2
  have el:layH zs cs L=max (max (zH (tb (zAt zs L.2.1)).2) ((hO (zAt zs L.2.1).2.1 (tb (zAt zs L.2.1)).2 L 0).getD 0)) (calH zs (cAt cs L.2.2.2.2.2.2.2.1)):=by unfold layH;rw [if_neg hm]
  rw [j2j hm,el,j0q (hL.cal hm).1 (hL.cal hm).2]
  have hcx:cs.getD L.2.2.2.2.2.2.2.1.toNat (ByteArray.empty,((0:Int),([]:List Int)))=cAt cs L.2.2.2.2.2.2.2.1:=rfl
  rw [hcx]
  generalize cAt cs L.2.2.2.2.2.2.2.1=x at *
  have hxz:ZOk (zAt zs x.2.1):=zget hs.so.ok hx.z0 hx.z1
  have hzb:=zH_b hz.ztab.2
  have hzb2:=zH_b hxz.ztab.2
  have hxl:=hx.len
  simp only [j6,j5,show Int.ofNat x.2.2.length=(x.2.2.length:Int) from rfl]
  by_cases hl:x.2.2.length=0
  ·have ec:calH zs x=zH (tb (zAt zs x.2.1)).2:=by unfold calH;rw [if_pos hl];omega
   rw [j00 (show ¬ (x.2.2.length:Int)>0 by omega),ec]
   cases hh:hO (zAt zs L.2.1).2.1 (tb (zAt zs L.2.1)).2 L 0 with
   | none=>
    simp only [Option.isSome_none,j6,Option.getD_none,jsB hs hx.z0 hx.z1 (show 0≤max n (zH (tb (zAt zs L.2.1)).2) by omega),j3];congr 1;congr 1;simp only [j8,true_and];omega
   | some w=>
    rw [hv w hh]
    simp only [Option.isSome_some,j5,j6,Option.getD_some,jsB hs hx.z0 hx.z1 (show 0≤max (max n (zH (tb (zAt zs L.2.1)).2)) w by omega),j3];congr 1;congr 1;simp only [j8,true_and];omega
  ·obtain ⟨l0,l1⟩:=jzV hx hl
   obtain ⟨u,hu⟩:=jAJ hxz.ztab.2 (s:=dEnd x) (by unfold dEnd;omega)
   have eF:=jo3 hxz.ztab.2 (d:=x.2.2.getD (x.2.2.length-1) 0+1) (c:=0) (by omega) (by omega) (by omega) (by omega)
   rw [Int.add_zero,show (x.2.2.getD (x.2.2.length-1) 0+1)*86400=dEnd x from rfl,hu] at eF
   have eF':j17 ((tb (zAt zs x.2.1)).1,(tb (zAt zs x.2.1)).2) (x.2.2.getD (x.2.2.length-1) 0+1,0)=some (u,true):=eF
   have ec:calH zs x=max (zH (tb (zAt zs x.2.1)).2) u:=by unfold calH;rw [if_neg hl,hu];rfl
   rw [j01 (show (x.2.2.length:Int)>0 by omega),ec,j02 (x:=(x.2.2.length:Int)-1) (by omega) (by omega),j0q (show 0≤(x.2.2.length:Int)-1 by omega) (by omega),show ((x.2.2.length:Int)-1).toNat=x.2.2.length-1 by omega,j02 (x:=x.2.2.getD (x.2.2.length-1) 0+1) (by omega) (by omega)]
   cases hh:hO (zAt zs L.2.1).2.1 (tb (zAt zs L.2.1)).2 L 0 with
   | none=>
    simp only [Option.isSome_none,j6,Option.getD_none,jsB hs hx.z0 hx.z1 (show 0≤max n (zH (tb (zAt zs L.2.1)).2) by omega),j3,j5,tabx hx.z0 hx.z1,eF'];congr 1;congr 1;simp only [j8,true_and];omega
   | some w=>
    rw [hv w hh]
    simp only [Option.isSome_some,j5,Option.getD_some,jsB hs hx.z0 hx.z1 (show 0≤max (max n (zH (tb (zAt zs L.2.1)).2)) w by omega),j3,tabx hx.z0 hx.z1,eF'];congr 1;congr 1;simp only [j8,true_and];omega
end
end Go.Proofs.Pw
