/- The references of chapters 11 to 14: who is on duty, who is on call. -/
import Derived.Test.YthpdddnkpjnllaaGreatAPH
import Derived.Test.YthpdddnkpjnllaaGreatAPG
open Go Go.Lft
namespace Go.Proofs.Pw
theorem wi_lp {w:WL} (hl:w.length≤14) (s:Int):∀ (n i:Nat),i+n=w.length→j06N w s (i:Int)=some (cond (hasB s (w.drop i)) (.inl true) (.inr ()))
 | 0,i,hi=>by
  rw [j0aE]
  simp only [j03y,show Int.ofNat w.length=(w.length:Int) from rfl]
  rw [j000 (by omega),cond_false,lpK_inr,List.drop_of_length_le (by omega)]
  rfl
 | n+1,i,hi=>by
  have hi':i<w.length:=by omega
  have hgd:w.getD i ((0:Int),(0:Int))=w[i]:=by simp [List.getD,hi']
  rw [j0aE]
  simp only [j03y,show Int.ofNat w.length=(w.length:Int) from rfl]
  rw [j001 (by omega),inR_t (by omega) (by omega)]
  simp only [cond_true,Bool.true_or,Int.toNat_natCast,hgd]
  rw [w64_in (x:=(i:Int)+1) (by omega) (by omega),List.drop_eq_getElem_cons hi']
  have hb:hasB s (w[i]::w.drop (i+1))=cond (cond (decide (w[i].1≤s)) (decide (s<w[i].2)) false) true (hasB s (w.drop (i+1))):=rfl
  rw [hb]
  by_cases h1:w[i].1≤s
  ·rw [j001 (show s≥w[i].1 from h1)]
   simp only [cond_true]
   by_cases h2:s<w[i].2
   ·rw [j001 h2]
    rfl
   ·rw [j000 h2]
    simp only [cond_false,lpK_inl]
    exact wi_lp hl s n (i+1) (by omega)
  ·rw [j000 (show ¬ s≥w[i].1 from h1)]
   simp only [cond_false,lpK_inl]
   exact wi_lp hl s n (i+1) (by omega)
theorem j0ng {w:WL} (hl:w.length≤14) (s:Int):j0cM w s=some (hasB s w):=by
 have:=wi_lp hl s w.length 0 (by omega)
 simp only [j0cM,show j06N w s 0=_ from this,Option.bind_some,List.drop_zero]
 cases hasB s w<;>rfl
theorem r4loc {z:ZoneT} (hz:ZOk z) {t:Int} (h0:0≤t) (h1:t≤8589934592):j02S z t=some (locD z t,0):=by
 have h4:=hz.zref.2.1
 obtain ⟨k,hk,k1,k2⟩:=j0h2 h4.2 h0 h1
 have e:=j0h3 h4.2 hk k1 k2
 have:locD z t=((t+tof z.2.1 (tb z).2 k)/86400,(t+tof z.2.1 (tb z).2 k)%86400):=by
  simp only [locD,show j00m (tb z) t=_ from e,Option.getD_some]
 rw [this]
 exact j0mh h4 h0 h1 hk k1 k2
theorem In5_ok {z:ZoneT} (hz:ZOk z) {t:Int} (h0:0≤t) (h1:t≤8589934592) {w:WL} (hw:WOk 0 w) (hl:w.length≤14):j09j z t=some (secD (locD z t),0)∧r05_In z w t=some (hasB (secD (locD z t)) w):=by
 have e1:=r4loc hz h0 h1
 obtain ⟨_,hsc⟩:=locD_ok hz h0 h1
 have e2:j0cL (locD z t)=some (secD (locD z t)):=hsc
 have e3:j09j z t=some (secD (locD z t),0):=by
  simp only [j09j,show j02S (z.1,(z.2.1,z.2.2)) t=_ from e1,Option.bind_some,bne_self_eq_false,cond_false,show j0cL ((locD z t).1,(locD z t).2)=_ from e2]
 refine ⟨e3,?_⟩
 simp only [r05_In,show j09j (z.1,(z.2.1,z.2.2)) t=_ from e3,Option.bind_some,beq_self_eq_true,cond_true,r5ck hw hl,j0ng hl]
section
variable {zs:List ZoneT} {ps:List PersonT} {cs:List CalT} (hs:SOk2 zs ps cs)
include hs
theorem lk_lp {k d e:Int} {x:CalT} (hx:CCk zs.length x) {L:LayerT}:∀ (n i:Nat) (b:Bool),i+n=x.2.2.length→b=decide (d∈x.2.2.take i)→
  j06i k b (i:Int) L.1 L.2.1 L.2.2.1.1 L.2.2.1.2 L.2.2.2.1 L.2.2.2.2.1 L.2.2.2.2.2.1 L.2.2.2.2.2.2.1 L.2.2.2.2.2.2.2.1 L.2.2.2.2.2.2.2.2 x.1 x.2.1 x.2.2 d e=
   some (k,decide (d∈x.2.2),L.1,L.2.1,L.2.2.1.1,L.2.2.1.2,L.2.2.2.1,L.2.2.2.2.1,L.2.2.2.2.2.1,L.2.2.2.2.2.2.1,L.2.2.2.2.2.2.2.1,L.2.2.2.2.2.2.2.2)
 | 0,i,b,hi,hb=>by
  rw [j0cN]
  simp only [j04x,show Int.ofNat x.2.2.length=(x.2.2.length:Int) from rfl]
  rw [j000 (by omega),cond_false,lpK_inr,hb,List.take_of_length_le (by omega)]
 | n+1,i,b,hi,hb=>by
  have _:=hs
  have hxl:=hx.len
  have hi':i<x.2.2.length:=by omega
  have hgd:x.2.2.getD i (0:Int)=x.2.2[i]:=by simp [hi']
  rw [j0cN]
  simp only [j04x,show Int.ofNat x.2.2.length=(x.2.2.length:Int) from rfl]
  rw [j001 (by omega),w64_in (x:=(i:Int)+1) (by omega) (by omega),cond_true]
  have ht:x.2.2.take (i+1)=x.2.2.take i++[x.2.2[i]]:=by rw [List.take_add_one,List.getElem?_eq_getElem hi'];rfl
  cases hbb:b with
  | true=>
   simp only [cond_true,lpK_inl]
   refine lk_lp hx n (i+1) true (by omega) ?_
   have:d∈x.2.2.take i:=of_decide_eq_true (by rw [←hb,hbb])
   rw [ht]
   exact (j001 (List.mem_append_left _ this)).symm
  | false=>
   have hnm:d∉x.2.2.take i:=of_decide_eq_false (by rw [←hb,hbb])
   rw [inR_t (show (0:Int)≤(i:Int) by omega) (by omega)]
   simp only [cond_false,cond_true,Int.toNat_natCast,hgd,lpK_inl]
   refine lk_lp hx n (i+1) _ (by omega) ?_
   rw [ht]
   by_cases he:x.2.2[i]=d
   ·rw [beq_t he]
    exact (j001 (List.mem_append_right _ (by simp [he]))).symm
   ·rw [beq_f he]
    refine (j000 fun hm=> ?_).symm
    rcases List.mem_append.1 hm with h | h
    ·exact hnm h
    ·simp at h;exact he h.symm
theorem look_ok {L:LayerT} (hL:LCk zs.length ps.length cs.length L) {ss:List SchedT} {t:Int} (h0:0≤t) (h1:t≤8589934592):∃ k,j0f4 (zs,(ps,(cs,ss))) L t=some (k,onX zs cs L t)∧(onX zs cs L t=true→k=shK (zAt zs L.2.1) L t):=by
 have hRt:=hL.rt2
 have hz:ZOk (zAt zs L.2.1):=zget hs.so.ok hL.z0 hL.z1
 have h4:=hz.zref.2.1
 obtain ⟨K,eK,hK⟩:=r10Sh h4 hRt h0 h1
 have hKs:K=shK (zAt zs L.2.1) L t:=ShO.uniq h4.2 hRt hK (shK_ok hz hRt h0 h1).2
 subst hKs
 have ek:j0cK (zAt zs L.2.1) L t=some (shK (zAt zs L.2.1) L t,0):=by
  simp only [j0cK,show j09B ((zAt zs L.2.1).1,((zAt zs L.2.1).2.1,(zAt zs L.2.1).2.2)) (L.1,L.2.1,(L.2.2.1.1,L.2.2.1.2),L.2.2.2.1,L.2.2.2.2.1,L.2.2.2.2.2.1,L.2.2.2.2.2.2.1,L.2.2.2.2.2.2.2.1,L.2.2.2.2.2.2.2.2)=_ from j0gg h4 L,Option.bind_some]
  rw [if_pos hRt,j000 (show ¬ t<0 by omega),j000 (show ¬ t>8589934592 by omega)]
  simp only [bne_self_eq_false,cond_false]
  rw [show j0cJ ((zAt zs L.2.1).1,((zAt zs L.2.1).2.1,(zAt zs L.2.1).2.2)) (L.1,L.2.1,(L.2.2.1.1,L.2.2.1.2),L.2.2.2.1,L.2.2.2.2.1,L.2.2.2.2.2.1,L.2.2.2.2.2.2.1,L.2.2.2.2.2.2.2.1,L.2.2.2.2.2.2.2.2) t=_ from eK]
  rfl
 obtain ⟨_,ein⟩:=In5_ok hz h0 h1 hL.w hL.wl
 have htail:(cond (L.2.2.2.2.2.2.2.2==(0:Int)) (some (shK (zAt zs L.2.1) L t,true)) (cond (inR L.2.2.2.2.2.2.2.1 cs.length) (cond (inR (cs.getD L.2.2.2.2.2.2.2.1.toNat (ByteArray.empty,((0:Int),([]:List Int)))).2.1 zs.length)
   ((j02S ((zs.getD (cs.getD L.2.2.2.2.2.2.2.1.toNat (ByteArray.empty,((0:Int),([]:List Int)))).2.1.toNat (ByteArray.empty,((0:Int),([]:List Rule)))).1,((zs.getD (cs.getD L.2.2.2.2.2.2.2.1.toNat (ByteArray.empty,((0:Int),([]:List Int)))).2.1.toNat (ByteArray.empty,((0:Int),([]:List Rule)))).2.1,(zs.getD (cs.getD L.2.2.2.2.2.2.2.1.toNat (ByteArray.empty,((0:Int),([]:List Int)))).2.1.toNat (ByteArray.empty,((0:Int),([]:List Rule)))).2.2)) t).bind fun r67=>
     (j06i (shK (zAt zs L.2.1) L t) false 0 L.1 L.2.1 L.2.2.1.1 L.2.2.1.2 L.2.2.2.1 L.2.2.2.2.1 L.2.2.2.2.2.1 L.2.2.2.2.2.2.1 L.2.2.2.2.2.2.2.1 L.2.2.2.2.2.2.2.2 (cs.getD L.2.2.2.2.2.2.2.1.toNat (ByteArray.empty,((0:Int),([]:List Int)))).1 (cs.getD L.2.2.2.2.2.2.2.1.toNat (ByteArray.empty,((0:Int),([]:List Int)))).2.1 (cs.getD L.2.2.2.2.2.2.2.1.toNat (ByteArray.empty,((0:Int),([]:List Int)))).2.2 r67.1.1 r67.1.2).bind fun q0=>
      some (q0.1,(q0.2.1==(q0.2.2.2.2.2.2.2.2.2.2.2==(2:Int))))) none) none))=some (shK (zAt zs L.2.1) L t,calB zs cs L t):=by
  by_cases hm:L.2.2.2.2.2.2.2.2=0
  ·rw [beq_t hm,cond_true]
   unfold calB
   rw [beq_t hm];rfl
  ·have hcal:=hL.cal hm
   have hx:=cget hs hcal.1 hcal.2
   have hxz:=zget hs.so.ok hx.z0 hx.z1
   rw [beq_f hm,cond_false,inR_t hcal.1 hcal.2,inR_t hx.z0 hx.z1]
   simp only [cond_true]
   rw [show j02S ((zs.getD (cs.getD L.2.2.2.2.2.2.2.1.toNat (ByteArray.empty,((0:Int),([]:List Int)))).2.1.toNat (ByteArray.empty,((0:Int),([]:List Rule)))).1,((zs.getD (cs.getD L.2.2.2.2.2.2.2.1.toNat (ByteArray.empty,((0:Int),([]:List Int)))).2.1.toNat (ByteArray.empty,((0:Int),([]:List Rule)))).2.1,(zs.getD (cs.getD L.2.2.2.2.2.2.2.1.toNat (ByteArray.empty,((0:Int),([]:List Int)))).2.1.toNat (ByteArray.empty,((0:Int),([]:List Rule)))).2.2)) t=_ from r4loc hxz h0 h1]
   simp only [Option.bind_some]
   rw [show j06i (shK (zAt zs L.2.1) L t) false 0 L.1 L.2.1 L.2.2.1.1 L.2.2.1.2 L.2.2.2.1 L.2.2.2.2.1 L.2.2.2.2.2.1 L.2.2.2.2.2.2.1 L.2.2.2.2.2.2.2.1 L.2.2.2.2.2.2.2.2 (cs.getD L.2.2.2.2.2.2.2.1.toNat (ByteArray.empty,((0:Int),([]:List Int)))).1 (cs.getD L.2.2.2.2.2.2.2.1.toNat (ByteArray.empty,((0:Int),([]:List Int)))).2.1 (cs.getD L.2.2.2.2.2.2.2.1.toNat (ByteArray.empty,((0:Int),([]:List Int)))).2.2 _ _=_ from lk_lp hs hx (L:=L) (cs.getD L.2.2.2.2.2.2.2.1.toNat (ByteArray.empty,((0:Int),([]:List Int)))).2.2.length 0 false (by omega) (by simp)]
   unfold calB
   rw [beq_f hm]
   rfl
 simp only [j0f4]
 rw [inR_t hL.z0 hL.z1]
 simp only [cond_true]
 rw [show j0cK ((zs.getD L.2.1.toNat (ByteArray.empty,((0:Int),([]:List Rule)))).1,((zs.getD L.2.1.toNat (ByteArray.empty,((0:Int),([]:List Rule)))).2.1,(zs.getD L.2.1.toNat (ByteArray.empty,((0:Int),([]:List Rule)))).2.2)) (L.1,L.2.1,(L.2.2.1.1,L.2.2.1.2),L.2.2.2.1,L.2.2.2.2.1,L.2.2.2.2.2.1,L.2.2.2.2.2.2.1,L.2.2.2.2.2.2.2.1,L.2.2.2.2.2.2.2.2) t=_ from ek]
 simp only [Option.bind_some,bne_self_eq_false,cond_false]
 by_cases hk:0≤shK (zAt zs L.2.1) L t
 ·rw [j000 (show ¬ shK (zAt zs L.2.1) L t<0 by omega)]
  simp only [cond_false,show Int.ofNat L.2.2.2.2.2.2.1.length=(L.2.2.2.2.2.2.1.length:Int) from rfl]
  have hon:onX zs cs L t=cond (okW L.2.2.2.2.2.2.1 (secD (locD (zAt zs L.2.1) t))) (calB zs cs L t) false:=by
   unfold onX
   rw [j001 hk];rfl
  rw [hon]
  by_cases hw:(L.2.2.2.2.2.2.1.length:Int)>0
  ·rw [j001 hw,cond_true,show r05_In ((zs.getD L.2.1.toNat (ByteArray.empty,((0:Int),([]:List Rule)))).1,((zs.getD L.2.1.toNat (ByteArray.empty,((0:Int),([]:List Rule)))).2.1,(zs.getD L.2.1.toNat (ByteArray.empty,((0:Int),([]:List Rule)))).2.2)) L.2.2.2.2.2.2.1 t=_ from ein]
   simp only [Option.bind_some]
   unfold okW
   rw [j001 hw,cond_true]
   cases hasB (secD (locD (zAt zs L.2.1) t)) L.2.2.2.2.2.2.1 with
   | false=>exact ⟨0,rfl,fun h=>by simp at h⟩
   | true=>
    simp only [Bool.not_true,cond_false,cond_true]
    exact ⟨_,htail,fun _=>rfl⟩
  ·rw [j000 hw,cond_false]
   unfold okW
   rw [j000 hw]
   simp only [cond_false,cond_true]
   exact ⟨_,htail,fun _=>rfl⟩
 ·rw [j001 (show shK (zAt zs L.2.1) L t<0 by omega)]
  have hon:onX zs cs L t=false:=by
   unfold onX
   rw [j000 hk];rfl
  rw [hon]
  simp only [cond_true,Bool.not_true,Bool.not_false,Bool.or_true]
  exact ⟨0,rfl,fun h=>by simp at h⟩
theorem j0o5 {L:LayerT} (hL:LCk zs.length ps.length cs.length L) {ss:List SchedT} {t:Int} (h0:0≤t) (h1:t≤8589934592):r11_Raw (zs,(ps,(cs,ss))) L t=some (perX zs cs L t):=by
 obtain ⟨k,e,hk⟩:=look_ok hs hL (ss:=ss) h0 h1
 have hon:=(on_ok hs hL (ss:=[]) h0 h1).2.2
 simp only [r11_Raw]
 rw [show j0f4 (zs,ps,cs,ss) (L.1,L.2.1,(L.2.2.1.1,L.2.2.1.2),L.2.2.2.1,L.2.2.2.2.1,L.2.2.2.2.2.1,L.2.2.2.2.2.2.1,L.2.2.2.2.2.2.2.1,L.2.2.2.2.2.2.2.2) t=_ from e]
 simp only [Option.bind_some,show Int.ofNat L.2.2.2.2.2.1.length=(L.2.2.2.2.2.1.length:Int) from rfl]
 unfold perX
 cases hc:onX zs cs L t with
 | false=>rfl
 | true=>
  have hm0:=hL.m0
  have hk0:=hon hc
  have:=hk hc
  subst this
  have q1:0≤Int.tmod (shK (zAt zs L.2.1) L t) (L.2.2.2.2.2.1.length:Int):=Int.tmod_nonneg _ hk0
  have q2:Int.tmod (shK (zAt zs L.2.1) L t) (L.2.2.2.2.2.1.length:Int)<(L.2.2.2.2.2.1.length:Int):=Int.tmod_lt_of_pos _ (by omega)
  rw [beq_f (show ¬ (L.2.2.2.2.2.1.length:Int)=0 by omega),inR_t q1 q2]
  rfl
theorem zs_r4:∀ z∈zs,j05S z=some 0:=fun z hz=>r4ck (hs.so.ok z hz)
end
end Go.Proofs.Pw
open Go Go.Lft
namespace Go.Proofs.Pw
def zH (l:TrL):Int:=if l.length=0 then 0 else frm l l.length+86400
section
variable {o:Int} {l:TrL} (h:TOk o l)
include h
theorem zH_frm {t:Int} (ht:zH l≤t):frm l l.length≤t:=by
 have _:=h
 unfold zH at ht
 by_cases h0:l.length=0
 ·rw [if_pos h0] at ht
  rw [h0,frm0];exact ht
 ·rw [if_neg h0] at ht;omega
theorem fO_far (hd:Dif o l) {s t:Int} (ht:zH l≤t) (h1:t≤8589934592):(∃ v,fO o l s=some v∧v≤t)↔s≤t+tof o l l.length:=by
 have hz:=zH_frm h ht
 have hend:frm l (l.length+1)=8589934593:=frm_end
 constructor
 ·rintro ⟨v,hv,hvt⟩
  obtain ⟨k,f⟩:=fO_ex hv
  have f1:=f.hk;have f2:=f.hks;have f3:=f.ht
  by_cases hk:k=l.length
  ·subst hk;omega
  ·have h0:l.length≠0:=by omega
   unfold zH at ht
   rw [if_neg h0] at ht
   by_cases hk1:k+1=l.length
   ·have:=hd k (by omega)
    rw [hk1] at this f2
    omega
   ·have g:=h.frm_gap (i:=k+1) (j:=l.length) (by omega) (by omega) (by omega)
    have o1:=h.of1 k f1
    have o2:=h.of0 l.length (Nat.le_refl _)
    omega
 ·intro hst
  rcases fst_or o l s with ⟨v,k,f⟩ | hno
  ·refine ⟨v,fO_t f,?_⟩
   have f1:=f.hk;have f3:=f.ht
   obtain ⟨p1,p2,p3⟩:=f.piece h
   by_cases hk:k=l.length
   ·subst hk;omega
   ·have:=h.frm_le (i:=k+1) (j:=l.length) (by omega) (by omega)
    omega
  ·have:=hno l.length (Nat.le_refl _)
   omega
theorem fO_day {s:Int} (hs:s≤8551958400):∃ v,fO o l s=some v:=by
 rcases fst_or o l s with ⟨v,k,f⟩ | hno
 ·exact ⟨v,fO_t f⟩
 ·have hend:frm l (l.length+1)=8589934593:=frm_end
  have:=hno l.length (Nat.le_refl _)
  have:=h.of0 l.length (Nat.le_refl _)
  omega
theorem QO_far (hd:Dif o l) {L:LayerT} (hR:Rt L) {t P q k:Int} (ht:zH l≤t) (hP0:0≤P) (h1:t+P≤8589934592) (hP:P=L.2.2.2.2.1*(untN L.2.2.2.1:Int)*q):QO o l L t k↔QO o l L (t+P) (k+q):=by
 have hu0:=hR.u0;have hu1:=hR.u1
 unfold QO hO
 by_cases h0:L.2.2.2.1=0
 ·rw [if_pos h0,if_pos h0]
  have hP':3600*L.2.2.2.2.1*(k+q)=3600*L.2.2.2.2.1*k+P:=by
   rw [hP,h0,show ((untN 0:Nat):Int)=3600 from rfl,Int.mul_add,Int.mul_comm 3600]
  cases hf:fO o l (sLoc L 0) with
  | none=>simp
  | some v=>
   simp only [Option.bind_some,hP']
   constructor
   ·rintro ⟨w,e,hw⟩
    split at e
    ·simp at e;subst e
     exact ⟨_,if_pos (by omega),by omega⟩
    ·simp at e
   ·rintro ⟨w,e,hw⟩
    split at e
    ·simp at e;subst e
     exact ⟨_,if_pos (by omega),by omega⟩
    ·simp at e
 ·rw [if_neg h0,if_neg h0,fO_far h hd ht (by omega),fO_far h hd (by omega) h1]
  have hP':(k+q)*stepD L*86400=k*stepD L*86400+P:=by
   have e:stepD L*86400=L.2.2.2.2.1*(untN L.2.2.2.1:Int):=by
    have:L.2.2.2.1=1∨L.2.2.2.1=2:=by omega
    rcases this with e | e
    ·rw [e];unfold stepD;rw [e];rfl
    ·rw [e];unfold stepD;rw [e]
     rw [if_pos rfl,show ((untN 2:Nat):Int)=604800 from rfl];omega
   rw [hP,←e,Int.add_mul,Int.add_mul,Int.mul_comm (stepD L*86400) q,Int.mul_assoc q]
  unfold sLoc
  omega
theorem sh_far (hd:Dif o l) {L:LayerT} (hR:Rt L) {t P q K K':Int} (ht:zH l≤t) (hP0:0≤P) (hq:0≤q) (h1:t+P≤8589934592) (hP:P=L.2.2.2.2.1*(untN L.2.2.2.1:Int)*q) (hH:∀ v,hO o l L 0=some v→v≤t)
  (a:ShO o l L t K) (b:ShO o l L (t+P) K'):(K = -1∧K' = -1)∨(0≤K∧K'=K+q):=by
 rcases a with ⟨a1,a2⟩ | ⟨a1,a2,a3⟩
 ·left
  refine ⟨a1,?_⟩
  rcases b with ⟨b1,_⟩ | ⟨b1,b2,_⟩
  ·exact b1
  ·obtain ⟨v,hv,_⟩:=QO.le h hR (k:=0) (by omega) b2
   exact absurd ⟨v,hv,hH v hv⟩ a2
 ·right
  refine ⟨a1,?_⟩
  have c1:=(QO_far h hd hR (k:=K) ht hP0 h1 hP).1 a2
  have c2:¬ QO o l L (t+P) (K+q+1):=fun hc=>a3 ((QO_far h hd hR (k:=K+1) ht hP0 h1 hP).2 (by rwa [show K+1+q=K+q+1 by omega]))
  exact ShO.uniq h hR b (.inr ⟨by omega,c1,c2⟩)
end
theorem who_far {L:LayerT} {K x:Int} (hK:0≤K) (hx:0≤x):whoL L (K+(L.2.2.2.2.2.1.length:Int)*x)=whoL L K:=by
 have:0≤(L.2.2.2.2.2.1.length:Int)*x:=Int.mul_nonneg (by omega) hx
 unfold whoL
 rw [tmod_nn (by omega),tmod_nn hK,Int.add_mul_emod_self_left]
theorem day_le2 {d:Int} (h:j00B d=some true):d≤98980:=by
 apply Classical.byContradiction
 intro hd
 simp only [j00B,j033,j0dr,j0dq,Option.bind_some] at h
 rw [j000 (show ¬ d<0 by omega),j001 (show d≥98981 by omega)] at h
 simp at h
theorem j0jr {z:ZoneT} (hz:ZOk z) {t:Int} (ht:zH (tb z).2≤t) (h1:t≤8589934592):locD z t=((t+tof z.2.1 (tb z).2 (tb z).2.length)/86400,(t+tof z.2.1 (tb z).2 (tb z).2.length)%86400):=by
 have h:=hz.ztab.2
 have hend:frm (tb z).2 ((tb z).2.length+1)=8589934593:=frm_end
 have e:=j0h3 h (Nat.le_refl _) (zH_frm h ht) (by omega)
 simp only [locD,show j00m (tb z) t=_ from e,Option.getD_some]
theorem tmod7 {d x:Int}:(Int.tmod (d+7*x) 7+10)%7=(Int.tmod d 7+10)%7:=by
 obtain ⟨e,p1,p2,p3,p4⟩:=tdm d 7 (by omega)
 obtain ⟨e',q1,q2,q3,q4⟩:=tdm (d+7*x) 7 (by omega)
 omega
theorem j0o6 {z:ZoneT} (hz:ZOk z) {t x:Int} (hx:0≤x) (ht:zH (tb z).2≤t) (h1:t+604800*x≤8589934592):secD (locD z (t+604800*x))=secD (locD z t)∧(locD z t).1≤(locD z (t+604800*x)).1:=by
 rw [j0jr hz ht (by omega),j0jr hz (by omega) h1]
 generalize tof z.2.1 (tb z).2 (tb z).2.length=f
 have e1:(t+604800*x+f)/86400=(t+f)/86400+7*x:=by omega
 have e2:(t+604800*x+f)%86400=(t+f)%86400:=by omega
 refine ⟨?_,by dsimp only;omega⟩
 simp only [secD,j02z,j0fr,Option.bind_some,e1,e2,tmod7]
theorem j0o7 {ds:List Int} (h:ds.Pairwise (· < ·)) {d:Int} (hd:d∈ds):d≤ds.getD (ds.length-1) 0:=by
 obtain ⟨i,hi,rfl⟩:=List.getElem_of_mem hd
 rw [show ds.getD (ds.length-1) 0=ds[ds.length-1] by simp [List.getD,show ds.length-1<ds.length by omega]]
 by_cases he:i=ds.length-1
 ·subst he;omega
 ·have:=List.pairwise_iff_getElem.1 h i (ds.length-1) hi (by omega) (by omega)
  omega
def dEnd (x:CalT):Int:=(x.2.2.getD (x.2.2.length-1) 0+1)*86400
noncomputable def calH (zs:List ZoneT) (x:CalT):Int:=max (zH (tb (zAt zs x.2.1)).2) (if x.2.2.length=0 then 0 else (fO (zAt zs x.2.1).2.1 (tb (zAt zs x.2.1)).2 (dEnd x)).getD 0)
noncomputable def layH (zs:List ZoneT) (cs:List CalT) (L:LayerT):Int:=
 max (max (zH (tb (zAt zs L.2.1)).2) ((hO (zAt zs L.2.1).2.1 (tb (zAt zs L.2.1)).2 L 0).getD 0)) (if L.2.2.2.2.2.2.2.2=0 then 0 else calH zs (cAt cs L.2.2.2.2.2.2.2.1))
section
variable {zs:List ZoneT} {ps:List PersonT} {cs:List CalT} (hs:SOk2 zs ps cs)
include hs
theorem cal_far {x:CalT} (hx:CCk zs.length x) {t:Int} (ht:calH zs x≤t) (h1:t≤8589934592):(locD (zAt zs x.2.1) t).1∉x.2.2:=by
 intro hm
 have hz:ZOk (zAt zs x.2.1):=zget hs.so.ok hx.z0 hx.z1
 unfold calH at ht
 have hl:x.2.2.length≠0:=fun h=>by
  rw [List.length_eq_zero_iff.1 h] at hm;simp at hm
 rw [if_neg hl] at ht
 have hle:=j0o7 hx.asc hm
 have hlm:x.2.2.getD (x.2.2.length-1) 0∈x.2.2:=by
  rw [show x.2.2.getD (x.2.2.length-1) 0=x.2.2[x.2.2.length-1] by simp [List.getD,show x.2.2.length-1<x.2.2.length by omega]]
  exact List.getElem_mem _
 have hd:=day_le2 (hx.day _ hlm)
 obtain ⟨v,hv⟩:=fO_day hz.ztab.2 (s:=dEnd x) (by unfold dEnd;omega)
 rw [hv] at ht
 simp only [Option.getD_some] at ht
 have:=(fO_far hz.ztab.2 hz.zdif (s:=dEnd x) (t:=t) (by omega) h1).1 ⟨v,hv,by omega⟩
 rw [j0jr hz (by omega) h1] at hle
 dsimp only at hle
 unfold dEnd at this
 omega
theorem per_far {L:LayerT} (hL:LCk zs.length ps.length cs.length L) {t x:Int} (hx:0≤x) (h0:0≤t) (ht:layH zs cs L≤t) {y:Int} (hy:604800*x=(perN L:Int)*y) (hy0:0≤y) (h1:t+604800*x≤8589934592) :
  perX zs cs L (t+604800*x)=perX zs cs L t:=by
 have hRt:=hL.rt2
 have hz:ZOk (zAt zs L.2.1):=zget hs.so.ok hL.z0 hL.z1
 have he0:=hL.e0
 have hcal:L.2.2.2.2.2.2.2.2≠0→calH zs (cAt cs L.2.2.2.2.2.2.2.1)≤t:=fun h=>by
  unfold layH at ht
  rw [if_neg h] at ht;omega
 have ht2:zH (tb (zAt zs L.2.1)).2≤t∧(hO (zAt zs L.2.1).2.1 (tb (zAt zs L.2.1)).2 L 0).getD 0≤t:=by
  unfold layH at ht;omega
 obtain ⟨ht2,ht3⟩:=ht2
 obtain ⟨eS,eD⟩:=j0o6 hz hx ht2 h1
 obtain ⟨_,hK⟩:=shK_ok hz hRt h0 (show t≤8589934592 by omega)
 obtain ⟨_,hK'⟩:=shK_ok hz hRt (show 0≤t+604800*x by omega) h1
 have hP:604800*x=L.2.2.2.2.1*(untN L.2.2.2.1:Int)*((L.2.2.2.2.2.1.length:Int)*y):=by
  rw [hy]
  unfold perN
  rw [Int.natCast_mul,Int.natCast_mul,Int.toNat_of_nonneg (by omega)]
  rw [Int.mul_assoc (L.2.2.2.2.2.1.length:Int),Int.mul_comm (L.2.2.2.2.2.1.length:Int),Int.mul_assoc]
 have hq0:0≤(L.2.2.2.2.2.1.length:Int)*y:=Int.mul_nonneg (by omega) hy0
 have hsh:=sh_far hz.ztab.2 hz.zdif hRt ht2 (by omega) hq0 h1 hP (fun v hv=>by rw [hv] at ht3;simpa using ht3) hK hK'
 have hcb:calB zs cs L (t+604800*x)=calB zs cs L t:=by
  unfold calB
  by_cases hm:L.2.2.2.2.2.2.2.2=0
  ·rw [beq_t hm];rfl
  ·have hcc:CCk zs.length (cAt cs L.2.2.2.2.2.2.2.1):=cget hs (hL.cal hm).1 (hL.cal hm).2
   rw [j000 (cal_far hs hcc (t:=t) (hcal hm) (by omega)),j000 (cal_far hs hcc (t:=t+604800*x) (by have:=hcal hm;omega) h1)]
 have hon:onX zs cs L (t+604800*x)=onX zs cs L t:=by
  unfold onX
  rw [eS,hcb]
  rcases hsh with ⟨k1,k2⟩ | ⟨k1,k2⟩
  ·rw [k1,k2]
  ·rw [j001 k1,j001 (show 0≤shK (zAt zs L.2.1) L (t+604800*x) by omega)]
 unfold perX
 rw [hon]
 rcases hsh with ⟨k1,k2⟩ | ⟨k1,k2⟩
 ·rw [k1,k2]
 ·rw [k2,who_far k1 hy0]
theorem pf_far {ls:List LayerT} (hl:∀ L∈ls,LCk zs.length ps.length cs.length L) {t x:Int} (hx:0≤x) (h0:0≤t) (ht:∀ L∈ls,layH zs cs L≤t) (hy:∀ L∈ls,∃ y:Int,0≤y∧604800*x=(perN L:Int)*y) (h1:t+604800*x≤8589934592) :
  ∀ k,k<ls.length→pfX zs cs ls (t+604800*x) k=pfX zs cs ls t k:=fun k hk=>by
 obtain ⟨y,y0,hy⟩:=hy _ (List.getElem_mem hk)
 have e:∀ u,pfX zs cs ls u k=perX zs cs ls[k] u:=fun u=>by simp [pfX,List.getD,hk]
 rw [e,e]
 exact per_far hs (hl _ (List.getElem_mem hk)) hx h0 (ht _ (List.getElem_mem hk)) hy y0 h1
end
theorem j0mq {es:List EditT} {t p:Int} (h:∀ x∈es,x.2.2.2.2≤t):awayB es p t=false:=by
 unfold awayB
 rw [List.any_eq_false]
 intro x hx
 have:=h x hx
 rw [j000 (show ¬ t<x.2.2.2.2 by omega)]
 simp
theorem j0jZ {f g:Nat→Bool}:∀ n:Nat,(∀ k,k<n→f k=g k)→topI f n=topI g n
 | 0,_=>rfl
 | n+1,h=>by
  simp only [topI]
  rw [h n (by omega),j0jZ n (fun k hk=>h k (by omega))]
theorem topI_lt {f:Nat→Bool}:∀ {n k:Nat},topI f n=some k→k<n
 | 0,k,h=>by simp [topI] at h
 | n+1,k,h=>by
  simp only [topI] at h
  cases hf:f n with
  | true=>rw [hf] at h;simp at h;omega
  | false=>rw [hf] at h;simp at h;have:=topI_lt h;omega
theorem j0nh {es:List EditT} {t t':Int} {f g:Nat→Int} {n:Nat} (h:∀ k,k<n→f k=g k) (ht:∀ x∈es,x.2.2.2.2≤t) (ht':∀ x∈es,x.2.2.2.2≤t'):topP es t f n=topP es t' g n:=by
 have e:topI (goodL es t f) n=topI (goodL es t' g) n:=j0jZ n (fun k hk=>by
  simp only [goodL,j0mq ht,j0mq ht',h k hk])
 simp only [topP,e]
 cases hT:topI (goodL es t' g) n with
 | none=>rfl
 | some k=>exact h k (topI_lt hT)
def stepE (t p:Int) (x:EditT):Int:=
 if t<x.2.2.2.1∨x.2.2.2.2≤t then p else if x.1=1 then x.2.1 else if x.1=2∧p=x.2.1 then x.2.2.1 else if x.1=2∧p=x.2.2.1 then x.2.1 else p
def foldE (t:Int):Int→List EditT→Int
 | p,[]=>p
 | p,x::r=>foldE t (stepE t p x) r
theorem j0hc {t:Int}:∀ (es:List EditT) (p:Int),(∀ x∈es,x.2.2.2.2≤t)→foldE t p es=p
 | [],_,_=>rfl
 | x::r,p,h=>by
  have:=h x (by simp)
  simp only [foldE]
  rw [show stepE t p x=p by unfold stepE;rw [if_pos (.inr this)]]
  exact j0hc r p (fun y hy=>h y (by simp [hy]))
theorem f13_lp {es:List EditT} (hl:es.length≤100) {t:Int}:∀ (n i:Nat) (p:Int),i+n=es.length→j09l es p t (i:Int)=some (foldE t p (es.drop i))
 | 0,i,p,hi=>by
  rw [j0cP]
  simp only [j04z,show Int.ofNat es.length=(es.length:Int) from rfl]
  rw [j000 (by omega),cond_false,lpK_inr,List.drop_of_length_le (by omega)]
  rfl
 | n+1,i,p,hi=>by
  have hi':i<es.length:=by omega
  have hgd:es.getD i ((0:Int),((0:Int),((0:Int),((0:Int),(0:Int)))))=es[i]:=by simp [List.getD,hi']
  have ih:=fun p=>f13_lp hl (t:=t) n (i+1) p (by omega)
  rw [j0cP]
  simp only [j04z,show Int.ofNat es.length=(es.length:Int) from rfl]
  rw [j001 (by omega),inR_t (by omega) (by omega),w64_in (x:=(i:Int)+1) (by omega) (by omega),List.drop_eq_getElem_cons hi']
  simp only [cond_true,Int.toNat_natCast,hgd,foldE]
  generalize es[i]=x
  unfold stepE
  by_cases ha:t<x.2.2.2.1∨x.2.2.2.2≤t
  ·rw [if_pos ha]
   have:cond (decide (t<x.2.2.2.1)) true (decide (t≥x.2.2.2.2))=true:=by
    rcases ha with ha | ha
    ·rw [j001 ha];rfl
    ·rw [j001 (show t≥x.2.2.2.2 from ha)];cases decide (t<x.2.2.2.1)<;>rfl
   rw [this,cond_true,lpK_inl]
   exact ih p
  ·rw [if_neg ha,j000 (show ¬ t<x.2.2.2.1 by omega),j000 (show ¬ t≥x.2.2.2.2 by omega)]
   simp only [cond_false]
   by_cases h1:x.1=1
   ·rw [if_pos h1,beq_t h1,cond_true,lpK_inl]
    exact ih _
   ·rw [if_neg h1,beq_f h1,cond_false]
    by_cases h2:x.1=2
    ·rw [beq_t h2]
     simp only [cond_true]
     by_cases h3:p=x.2.1
     ·rw [if_pos ⟨h2,h3⟩,beq_t h3,cond_true,lpK_inl]
      exact ih _
     ·rw [if_neg (fun h=>h3 h.2),beq_f h3,cond_false]
      by_cases h4:p=x.2.2.1
      ·rw [if_pos ⟨h2,h4⟩,beq_t h4,cond_true,lpK_inl]
       exact ih _
      ·rw [if_neg (fun h=>h4 h.2),beq_f h4,cond_false,lpK_inl]
       exact ih _
    ·rw [if_neg (fun h=>h2 h.1),if_neg (fun h=>h2 h.1),beq_f h2]
     simp only [cond_false,lpK_inl]
     exact ih _
theorem f13e_lp {es:List EditT} (hl:es.length≤100) {t:Int}:∀ (n i:Nat) (p:Int),i+n=es.length→j05s p t es (es.length:Int) (i:Int)=some (foldE t p (es.drop i))
 | 0,i,p,hi=>by
  rw [j0bF]
  simp only [j03Y]
  rw [j000 (by omega),cond_false,lpK_inr,List.drop_of_length_le (by omega)]
  rfl
 | n+1,i,p,hi=>by
  have hi':i<es.length:=by omega
  have hgd:es.getD i ((0:Int),((0:Int),((0:Int),((0:Int),(0:Int)))))=es[i]:=by simp [List.getD,hi']
  have ih:=fun p=>f13e_lp hl (t:=t) n (i+1) p (by omega)
  rw [j0bF]
  simp only [j03Y,j0dE,Option.bind_some]
  rw [j001 (by omega),inR_t (by omega) (by omega),w64_in (x:=(i:Int)+1) (by omega) (by omega),List.drop_eq_getElem_cons hi']
  simp only [cond_true,Int.toNat_natCast,hgd,foldE]
  generalize es[i]=x
  unfold stepE
  by_cases ha:t<x.2.2.2.1∨x.2.2.2.2≤t
  ·rw [if_pos ha]
   have:cond (decide (x.2.2.2.1≤t)) (decide (t<x.2.2.2.2)) false=false:=by
    rcases ha with ha | ha
    ·rw [j000 (show ¬ x.2.2.2.1≤t by omega)];rfl
    ·rw [j000 (show ¬ t<x.2.2.2.2 by omega)];cases decide (x.2.2.2.1≤t)<;>rfl
   rw [this]
   simp only [Bool.not_false,cond_true,lpK_inl]
   exact ih p
  ·rw [if_neg ha,j001 (show x.2.2.2.1≤t by omega),j001 (show t<x.2.2.2.2 by omega)]
   simp only [cond_true,Bool.not_true,cond_false]
   by_cases h0:x.1=0
   ·rw [beq_t h0,if_neg (by omega),if_neg (by omega),if_neg (by omega),cond_true,lpK_inl]
    exact ih p
   rw [beq_f h0,cond_false]
   by_cases h1:x.1=1
   ·rw [if_pos h1,beq_t h1,cond_true,lpK_inl]
    exact ih _
   ·rw [if_neg h1,beq_f h1,cond_false]
    by_cases h2:x.1=2
    ·rw [show (x.1 != 2)=false by simp [h2],cond_false]
     by_cases h3:p=x.2.1
     ·rw [if_pos ⟨h2,h3⟩,beq_t h3,cond_true,lpK_inl]
      exact ih _
     ·rw [if_neg (fun h=>h3 h.2),beq_f h3,cond_false]
      by_cases h4:p=x.2.2.1
      ·rw [if_pos ⟨h2,h4⟩,beq_t h4,cond_true,lpK_inl]
       exact ih _
      ·rw [if_neg (fun h=>h4 h.2),beq_f h4,cond_false,lpK_inl]
       exact ih _
    ·rw [if_neg (fun h=>h2 h.1),if_neg (fun h=>h2 h.1),show (x.1 != 2)=true by simp [h2],cond_true,lpK_inl]
     exact ih _
end Go.Proofs.Pw
