/- The references of chapters 11 to 14: who is on duty, who is on call. -/
import Derived.Test.YthpdddnkpjnllaaGreatBPH
import Derived.Test.YthpdddnkpjnllaaGreatBPG
import Derived.Test.YthpdddnkpjnllaaGreatBLD
open Go Go.Lft
namespace Go.Proofs.Pw
theorem wi_lp {w:WL} (hl:w.length≤14) (s:Int):∀ (n i:Nat),i+n=w.length→j07g w s (i:Int)=some (cond (hasB s (w.drop i)) (.inl true) (.inr ()))
 | 0,i,hi=>by
  rw [j0bD]
  simp only [j03K,show Int.ofNat w.length=(w.length:Int) from rfl]
  rw [j000 (by omega),cond_false,lpK_inr,List.drop_of_length_le (by omega)]
  rfl
 | n+1,i,hi=>by
  have hi':i<w.length:=by omega
  have hgd:w.getD i ((0:Int),(0:Int))=w[i]:=by simp [List.getD,hi']
  rw [j0bD]
  simp only [j03K,show Int.ofNat w.length=(w.length:Int) from rfl]
  rw [j001 (by omega),inR_t (by omega) (by omega)]
  simp only [cond_true,Bool.true_or,Int.toNat_natCast,hgd]
  rw [w64_in (x:=(i:Int)+1) (by omega) (by omega),List.drop_eq_getElem_cons hi']
  have hb:hasB s (w[i]::w.drop (i+1))=cond (cond (decide (w[i].1≤s)) (decide (s<w[i].2)) false) true (hasB s (w.drop (i+1))):=rfl
  rw [hb]
  by_cases h1:w[i].1≤s
  ·rw [j001 (show s≥w[i].1 from h1)]
   simp only [cond_true]
   by_cases h2:s<w[i].2
   ·rw [j001 h2]
    rfl
   ·rw [j000 h2]
    simp only [cond_false,lpK_inl]
    exact wi_lp hl s n (i+1) (by omega)
  ·rw [j000 (show ¬ s≥w[i].1 from h1)]
   simp only [cond_false,lpK_inl]
   exact wi_lp hl s n (i+1) (by omega)
theorem j0oj {w:WL} (hl:w.length≤14) (s:Int):j0dH w s=some (hasB s w):=by
 have:=wi_lp hl s w.length 0 (by omega)
 simp only [j0dH,show j07g w s 0=_ from this,Option.bind_some,List.drop_zero]
 cases hasB s w<;>rfl
theorem r4loc {z:ZoneT} (hz:ZOk z) {t:Int} (h0:0≤t) (h1:t≤8589934592):j034 z t=some (locD z t,0):=by
 have h4:=hz.zref.2.1
 obtain ⟨k,hk,k1,k2⟩:=j0if h4.2 h0 h1
 have e:=j0kD h4.2 hk k1 k2
 have:locD z t=((t+tof z.2.1 (tb z).2 k)/86400,(t+tof z.2.1 (tb z).2 k)%86400):=by
  simp only [locD,show j00o (tb z) t=_ from e,Option.getD_some]
 rw [this]
 exact j0nt h4 h0 h1 hk k1 k2
theorem In5_ok {z:ZoneT} (hz:ZOk z) {t:Int} (h0:0≤t) (h1:t≤8589934592) {w:WL} (hw:WOk 0 w) (hl:w.length≤14):j0ag z t=some (secD (locD z t),0)∧r05_In z w t=some (hasB (secD (locD z t)) w):=by
 have e1:=r4loc hz h0 h1
 obtain ⟨_,hsc⟩:=locD_ok hz h0 h1
 have e2:j0dG (locD z t)=some (secD (locD z t)):=hsc
 have e3:j0ag z t=some (secD (locD z t),0):=by
  simp only [j0ag,show j034 (z.1,(z.2.1,z.2.2)) t=_ from e1,Option.bind_some,bne_self_eq_false,cond_false,show j0dG ((locD z t).1,(locD z t).2)=_ from e2]
 refine ⟨e3,?_⟩
 simp only [r05_In,show j0ag (z.1,(z.2.1,z.2.2)) t=_ from e3,Option.bind_some,beq_self_eq_true,cond_true,r5ck hw hl,j0oj hl]
section
variable {zs:List ZoneT} {ps:List PersonT} {cs:List CalT} (hs:SOk2 zs ps cs)
include hs
theorem lk_lp {k d e:Int} {x:CalT} (hx:CCk zs.length x) {L:LayerT}:∀ (n i:Nat) (b:Bool),i+n=x.2.2.length→b=decide (d∈x.2.2.take i)→
  j06G k b (i:Int) L.1 L.2.1 L.2.2.1.1 L.2.2.1.2 L.2.2.2.1 L.2.2.2.2.1 L.2.2.2.2.2.1 L.2.2.2.2.2.2.1 L.2.2.2.2.2.2.2.1 L.2.2.2.2.2.2.2.2 x.1 x.2.1 x.2.2 d e=
   some (k,decide (d∈x.2.2),L.1,L.2.1,L.2.2.1.1,L.2.2.1.2,L.2.2.2.1,L.2.2.2.2.1,L.2.2.2.2.2.1,L.2.2.2.2.2.2.1,L.2.2.2.2.2.2.2.1,L.2.2.2.2.2.2.2.2)
 | 0,i,b,hi,hb=>by
  rw [j0dI]
  simp only [j04N,show Int.ofNat x.2.2.length=(x.2.2.length:Int) from rfl]
  rw [j000 (by omega),cond_false,lpK_inr,hb,List.take_of_length_le (by omega)]
 | n+1,i,b,hi,hb=>by
  have _:=hs
  have hxl:=hx.len
  have hi':i<x.2.2.length:=by omega
  have hgd:x.2.2.getD i (0:Int)=x.2.2[i]:=by simp [hi']
  rw [j0dI]
  simp only [j04N,show Int.ofNat x.2.2.length=(x.2.2.length:Int) from rfl]
  rw [j001 (by omega),w64_in (x:=(i:Int)+1) (by omega) (by omega),cond_true]
  have ht:x.2.2.take (i+1)=x.2.2.take i++[x.2.2[i]]:=by rw [List.take_add_one,List.getElem?_eq_getElem hi'];rfl
  cases hbb:b with
  | true=>
   simp only [cond_true,lpK_inl]
   refine lk_lp hx n (i+1) true (by omega) ?_
   have:d∈x.2.2.take i:=of_decide_eq_true (by rw [←hb,hbb])
   rw [ht]
   exact (j001 (List.mem_append_left _ this)).symm
  | false=>
   have hnm:d∉x.2.2.take i:=of_decide_eq_false (by rw [←hb,hbb])
   rw [inR_t (show (0:Int)≤(i:Int) by omega) (by omega)]
   simp only [cond_false,cond_true,Int.toNat_natCast,hgd,lpK_inl]
   refine lk_lp hx n (i+1) _ (by omega) ?_
   rw [ht]
   by_cases he:x.2.2[i]=d
   ·rw [beq_t he]
    exact (j001 (List.mem_append_right _ (by simp [he]))).symm
   ·rw [beq_f he]
    refine (j000 fun hm=> ?_).symm
    rcases List.mem_append.1 hm with h | h
    ·exact hnm h
    ·simp at h;exact he h.symm
theorem look_ok {L:LayerT} (hL:LCk zs.length ps.length cs.length L) {ss:List SchedT} {t:Int} (h0:0≤t) (h1:t≤8589934592):∃ k,j0cS (zs,(ps,(cs,ss))) L t=some (k,onX zs cs L t)∧(onX zs cs L t=true→k=shK (zAt zs L.2.1) L t):=by
 have hRt:=hL.rt2
 have hz:ZOk (zAt zs L.2.1):=zget hs.so.ok hL.z0 hL.z1
 have h4:=hz.zref.2.1
 obtain ⟨K,eK,hK⟩:=r10Sh h4 hRt h0 h1
 have hKs:K=shK (zAt zs L.2.1) L t:=ShO.uniq h4.2 hRt hK (shK_ok hz hRt h0 h1).2
 subst hKs
 have ek:j0dF (zAt zs L.2.1) L t=some (shK (zAt zs L.2.1) L t,0):=by
  simp only [j0dF,show j0dB ((zAt zs L.2.1).1,((zAt zs L.2.1).2.1,(zAt zs L.2.1).2.2)) (L.1,L.2.1,(L.2.2.1.1,L.2.2.1.2),L.2.2.2.1,L.2.2.2.2.1,L.2.2.2.2.2.1,L.2.2.2.2.2.2.1,L.2.2.2.2.2.2.2.1,L.2.2.2.2.2.2.2.2)=_ from j0m9 h4 L,Option.bind_some]
  rw [if_pos hRt,j000 (show ¬ t<0 by omega),j000 (show ¬ t>8589934592 by omega)]
  simp only [bne_self_eq_false,cond_false]
  rw [show j0dE ((zAt zs L.2.1).1,((zAt zs L.2.1).2.1,(zAt zs L.2.1).2.2)) (L.1,L.2.1,(L.2.2.1.1,L.2.2.1.2),L.2.2.2.1,L.2.2.2.2.1,L.2.2.2.2.2.1,L.2.2.2.2.2.2.1,L.2.2.2.2.2.2.2.1,L.2.2.2.2.2.2.2.2) t=_ from eK]
  rfl
 obtain ⟨_,ein⟩:=In5_ok hz h0 h1 hL.w hL.wl
 have htail:(cond (L.2.2.2.2.2.2.2.2==(0:Int)) (some (shK (zAt zs L.2.1) L t,true)) (cond (inR L.2.2.2.2.2.2.2.1 cs.length) (cond (inR (cs.getD L.2.2.2.2.2.2.2.1.toNat (ByteArray.empty,((0:Int),([]:List Int)))).2.1 zs.length)
   ((j034 ((zs.getD (cs.getD L.2.2.2.2.2.2.2.1.toNat (ByteArray.empty,((0:Int),([]:List Int)))).2.1.toNat (ByteArray.empty,((0:Int),([]:List Rule)))).1,((zs.getD (cs.getD L.2.2.2.2.2.2.2.1.toNat (ByteArray.empty,((0:Int),([]:List Int)))).2.1.toNat (ByteArray.empty,((0:Int),([]:List Rule)))).2.1,(zs.getD (cs.getD L.2.2.2.2.2.2.2.1.toNat (ByteArray.empty,((0:Int),([]:List Int)))).2.1.toNat (ByteArray.empty,((0:Int),([]:List Rule)))).2.2)) t).bind fun r67=>
     (j06G (shK (zAt zs L.2.1) L t) false 0 L.1 L.2.1 L.2.2.1.1 L.2.2.1.2 L.2.2.2.1 L.2.2.2.2.1 L.2.2.2.2.2.1 L.2.2.2.2.2.2.1 L.2.2.2.2.2.2.2.1 L.2.2.2.2.2.2.2.2 (cs.getD L.2.2.2.2.2.2.2.1.toNat (ByteArray.empty,((0:Int),([]:List Int)))).1 (cs.getD L.2.2.2.2.2.2.2.1.toNat (ByteArray.empty,((0:Int),([]:List Int)))).2.1 (cs.getD L.2.2.2.2.2.2.2.1.toNat (ByteArray.empty,((0:Int),([]:List Int)))).2.2 r67.1.1 r67.1.2).bind fun q0=>
      some (q0.1,(q0.2.1==(q0.2.2.2.2.2.2.2.2.2.2.2==(2:Int))))) none) none))=some (shK (zAt zs L.2.1) L t,calB zs cs L t):=by
  by_cases hm:L.2.2.2.2.2.2.2.2=0
  ·rw [beq_t hm,cond_true]
   unfold calB
   rw [beq_t hm];rfl
  ·have hcal:=hL.cal hm
   have hx:=cget hs hcal.1 hcal.2
   have hxz:=zget hs.so.ok hx.z0 hx.z1
   rw [beq_f hm,cond_false,inR_t hcal.1 hcal.2,inR_t hx.z0 hx.z1]
   simp only [cond_true]
   rw [show j034 ((zs.getD (cs.getD L.2.2.2.2.2.2.2.1.toNat (ByteArray.empty,((0:Int),([]:List Int)))).2.1.toNat (ByteArray.empty,((0:Int),([]:List Rule)))).1,((zs.getD (cs.getD L.2.2.2.2.2.2.2.1.toNat (ByteArray.empty,((0:Int),([]:List Int)))).2.1.toNat (ByteArray.empty,((0:Int),([]:List Rule)))).2.1,(zs.getD (cs.getD L.2.2.2.2.2.2.2.1.toNat (ByteArray.empty,((0:Int),([]:List Int)))).2.1.toNat (ByteArray.empty,((0:Int),([]:List Rule)))).2.2)) t=_ from r4loc hxz h0 h1]
   simp only [Option.bind_some]
   rw [show j06G (shK (zAt zs L.2.1) L t) false 0 L.1 L.2.1 L.2.2.1.1 L.2.2.1.2 L.2.2.2.1 L.2.2.2.2.1 L.2.2.2.2.2.1 L.2.2.2.2.2.2.1 L.2.2.2.2.2.2.2.1 L.2.2.2.2.2.2.2.2 (cs.getD L.2.2.2.2.2.2.2.1.toNat (ByteArray.empty,((0:Int),([]:List Int)))).1 (cs.getD L.2.2.2.2.2.2.2.1.toNat (ByteArray.empty,((0:Int),([]:List Int)))).2.1 (cs.getD L.2.2.2.2.2.2.2.1.toNat (ByteArray.empty,((0:Int),([]:List Int)))).2.2 _ _=_ from lk_lp hs hx (L:=L) (cs.getD L.2.2.2.2.2.2.2.1.toNat (ByteArray.empty,((0:Int),([]:List Int)))).2.2.length 0 false (by omega) (by simp)]
   unfold calB
   rw [beq_f hm]
   rfl
 simp only [j0cS]
 rw [inR_t hL.z0 hL.z1]
 simp only [cond_true]
 rw [show j0dF ((zs.getD L.2.1.toNat (ByteArray.empty,((0:Int),([]:List Rule)))).1,((zs.getD L.2.1.toNat (ByteArray.empty,((0:Int),([]:List Rule)))).2.1,(zs.getD L.2.1.toNat (ByteArray.empty,((0:Int),([]:List Rule)))).2.2)) (L.1,L.2.1,(L.2.2.1.1,L.2.2.1.2),L.2.2.2.1,L.2.2.2.2.1,L.2.2.2.2.2.1,L.2.2.2.2.2.2.1,L.2.2.2.2.2.2.2.1,L.2.2.2.2.2.2.2.2) t=_ from ek]
 simp only [Option.bind_some,bne_self_eq_false,cond_false]
 by_cases hk:0≤shK (zAt zs L.2.1) L t
 ·rw [j000 (show ¬ shK (zAt zs L.2.1) L t<0 by omega)]
  simp only [cond_false,show Int.ofNat L.2.2.2.2.2.2.1.length=(L.2.2.2.2.2.2.1.length:Int) from rfl]
  have hon:onX zs cs L t=cond (okW L.2.2.2.2.2.2.1 (secD (locD (zAt zs L.2.1) t))) (calB zs cs L t) false:=by
   unfold onX
   rw [j001 hk];rfl
  rw [hon]
  by_cases hw:(L.2.2.2.2.2.2.1.length:Int)>0
  ·rw [j001 hw,cond_true,show r05_In ((zs.getD L.2.1.toNat (ByteArray.empty,((0:Int),([]:List Rule)))).1,((zs.getD L.2.1.toNat (ByteArray.empty,((0:Int),([]:List Rule)))).2.1,(zs.getD L.2.1.toNat (ByteArray.empty,((0:Int),([]:List Rule)))).2.2)) L.2.2.2.2.2.2.1 t=_ from ein]
   simp only [Option.bind_some]
   unfold okW
   rw [j001 hw,cond_true]
   cases hasB (secD (locD (zAt zs L.2.1) t)) L.2.2.2.2.2.2.1 with
   | false=>exact ⟨0,rfl,fun h=>by simp at h⟩
   | true=>
    simp only [Bool.not_true,cond_false,cond_true]
    exact ⟨_,htail,fun _=>rfl⟩
  ·rw [j000 hw,cond_false]
   unfold okW
   rw [j000 hw]
   simp only [cond_false,cond_true]
   exact ⟨_,htail,fun _=>rfl⟩
 ·rw [j001 (show shK (zAt zs L.2.1) L t<0 by omega)]
  have hon:onX zs cs L t=false:=by
   unfold onX
   rw [j000 hk];rfl
  rw [hon]
  simp only [cond_true,Bool.not_true,Bool.not_false,Bool.or_true]
  exact ⟨0,rfl,fun h=>by simp at h⟩
theorem j0p8 {L:LayerT} (hL:LCk zs.length ps.length cs.length L) {ss:List SchedT} {t:Int} (h0:0≤t) (h1:t≤8589934592):r11_Raw (zs,(ps,(cs,ss))) L t=some (perX zs cs L t):=by
 obtain ⟨k,e,hk⟩:=look_ok hs hL (ss:=ss) h0 h1
 have hon:=(on_ok hs hL (ss:=[]) h0 h1).2.2
 simp only [r11_Raw]
 rw [show j0cS (zs,ps,cs,ss) (L.1,L.2.1,(L.2.2.1.1,L.2.2.1.2),L.2.2.2.1,L.2.2.2.2.1,L.2.2.2.2.2.1,L.2.2.2.2.2.2.1,L.2.2.2.2.2.2.2.1,L.2.2.2.2.2.2.2.2) t=_ from e]
 simp only [Option.bind_some,show Int.ofNat L.2.2.2.2.2.1.length=(L.2.2.2.2.2.1.length:Int) from rfl]
 unfold perX
 cases hc:onX zs cs L t with
 | false=>rfl
 | true=>
  have hm0:=hL.m0
  have hk0:=hon hc
  have:=hk hc
  subst this
  have q1:0≤Int.tmod (shK (zAt zs L.2.1) L t) (L.2.2.2.2.2.1.length:Int):=Int.tmod_nonneg _ hk0
  have q2:Int.tmod (shK (zAt zs L.2.1) L t) (L.2.2.2.2.2.1.length:Int)<(L.2.2.2.2.2.1.length:Int):=Int.tmod_lt_of_pos _ (by omega)
  rw [beq_f (show ¬ (L.2.2.2.2.2.1.length:Int)=0 by omega),inR_t q1 q2]
  rfl
theorem zs_r4:∀ z∈zs,j06j z=some 0:=fun z hz=>r4ck (hs.so.ok z hz)
theorem j0p9 {ss:List SchedT} (hc:CfgOk (zs,(ps,(cs,ss)))) {L:LayerT} (hL:LCk zs.length ps.length cs.length L) (hn:j047 L.1=some true) {t:Int} (h0:0≤t) (h1:t≤8589934592):j0bE (zs,(ps,(cs,ss))) L t=some (perX zs cs L t):=by
 obtain ⟨k,e,hk⟩:=look_ok hs hL (ss:=ss) h0 h1
 have e1:=R8_ok hc (zs_r4 hs)
 have e2:=R8_ok (cfg_of (ss:=[((ByteArray.mk #[97]),([L],([]:List EditT)))]) hs (by simp) (NmL.one nm_a) (fun s h=>by
  simp at h;subst h
  exact ⟨NmL.one hn,fun x hx=>by simp at hx;subst hx;exact hL,by simp,by simp,by simp⟩)) (zs_r4 hs)
 have ef:j0g8 (zs,(ps,(cs,ss))) L=some true:=by
  simp only [j0g8,e1,Option.bind_some,beq_self_eq_true,cond_true]
  rw [show j0cu (zs,ps,cs,[(ByteArray.mk #[97],[(L.1,L.2.1,(L.2.2.1.1,L.2.2.1.2),L.2.2.2.1,L.2.2.2.2.1,L.2.2.2.2.2.1,L.2.2.2.2.2.2.1,L.2.2.2.2.2.2.2.1,L.2.2.2.2.2.2.2.2)],[])])=_ from e2]
  rfl
 have eo:r11_On (zs,(ps,(cs,ss))) L t=some (onX zs cs L t):=by
  simp only [r11_On]
  rw [j001 (show t≥0 from h0),j001 h1]
  simp only [cond_true]
  rw [show j0g8 (zs,ps,cs,ss) (L.1,L.2.1,(L.2.2.1.1,L.2.2.1.2),L.2.2.2.1,L.2.2.2.2.1,L.2.2.2.2.2.1,L.2.2.2.2.2.2.1,L.2.2.2.2.2.2.2.1,L.2.2.2.2.2.2.2.2)=_ from ef]
  simp only [Option.bind_some,cond_true,j0hR]
  rw [show j0cS (zs,ps,cs,ss) (L.1,L.2.1,(L.2.2.1.1,L.2.2.1.2),L.2.2.2.1,L.2.2.2.2.1,L.2.2.2.2.2.1,L.2.2.2.2.2.2.1,L.2.2.2.2.2.2.2.1,L.2.2.2.2.2.2.2.2) t=_ from e]
  rfl
 simp only [j0bE]
 rw [show r11_On (zs,ps,cs,ss) (L.1,L.2.1,(L.2.2.1.1,L.2.2.1.2),L.2.2.2.1,L.2.2.2.2.1,L.2.2.2.2.2.1,L.2.2.2.2.2.2.1,L.2.2.2.2.2.2.2.1,L.2.2.2.2.2.2.2.2) t=_ from eo]
 simp only [Option.bind_some]
 rw [show r11_Raw (zs,ps,cs,ss) (L.1,L.2.1,(L.2.2.1.1,L.2.2.1.2),L.2.2.2.1,L.2.2.2.2.1,L.2.2.2.2.2.1,L.2.2.2.2.2.2.1,L.2.2.2.2.2.2.2.1,L.2.2.2.2.2.2.2.2) t=_ from j0p8 hs hL h0 h1]
 cases hc:onX zs cs L t with
 | false=>
  unfold perX
  rw [hc];rfl
 | true=>rfl
end
end Go.Proofs.Pw
open Go Go.Lft
namespace Go.Proofs.Pw
section
variable {zs:List ZoneT} {ps:List PersonT} {cs:List CalT} (hs:SOk2 zs ps cs)
include hs
theorem st2_lp {ss:List SchedT} (hc:CfgOk (zs,(ps,(cs,ss)))) {i:Nat} (hi:i<ss.length) {t:Int} (h0:0≤t) (h1:t≤8589934592) {q a:Int} {D:List Int}:∀ (n k:Nat),k+n=ss[i].2.1.length→
  j04f q (i:Int) t (topN ss[i].2.2 t (pfX zs cs ss[i].2.1 t) k) (topP ss[i].2.2 t (pfX zs cs ss[i].2.1 t) k) ss[i].2.1 (ss[i].2.1.length:Int) (k:Int) zs ps cs ss D a=
   some (q,(i:Int),t,topN ss[i].2.2 t (pfX zs cs ss[i].2.1 t) ss[i].2.1.length,topP ss[i].2.2 t (pfX zs cs ss[i].2.1 t) ss[i].2.1.length,zs,ps,cs,ss,D,a)
 | 0,k,hk=>by
  rw [j08x]
  simp only [j02k]
  rw [j000 (by omega),cond_false,lpK_inr,show k=ss[i].2.1.length by omega]
 | n+1,k,hk=>by
  have hk':k<ss[i].2.1.length:=by omega
  have hsc:=hc.sc _ (List.getElem_mem hi)
  have hll:=hsc.ll
  have hel:=hsc.el
  have hL:=hsc.ly _ (List.getElem_mem hk')
  have hnm:=hsc.nm.2 _ (List.mem_map_of_mem (f:=(·.1)) (List.getElem_mem hk'))
  have hgd:ss[i].2.1.getD k (ByteArray.empty,((0:Int),(((0:Int),(0:Int)),((0:Int),((0:Int),(([]:List Int),(([]:List (Int×Int)),((0:Int),(0:Int)))))))))=ss[i].2.1[k]:=by simp [List.getD,hk']
  have hgs:ss.getD i (ByteArray.empty,(([]:List LayerT),([]:List EditT)))=ss[i]:=by simp [List.getD,hi]
  have hp:=j0p9 hs hc hL hnm h0 h1
  have e:pfX zs cs ss[i].2.1 t k=perX zs cs ss[i].2.1[k] t:=by simp [pfX,List.getD,hk']
  have ih:=st2_lp hc hi h0 h1 (q:=q) (a:=a) (D:=D) n (k+1) (by omega)
  have hN:topN ss[i].2.2 t (pfX zs cs ss[i].2.1 t) (k+1)=cond (goodL ss[i].2.2 t (pfX zs cs ss[i].2.1 t) k) (k:Int) (topN ss[i].2.2 t (pfX zs cs ss[i].2.1 t) k):=by
   simp only [topN,topI]
   cases goodL ss[i].2.2 t (pfX zs cs ss[i].2.1 t) k<;>rfl
  have hP:topP ss[i].2.2 t (pfX zs cs ss[i].2.1 t) (k+1)=cond (goodL ss[i].2.2 t (pfX zs cs ss[i].2.1 t) k) (pfX zs cs ss[i].2.1 t k) (topP ss[i].2.2 t (pfX zs cs ss[i].2.1 t) k):=by
   simp only [topP,topI]
   cases goodL ss[i].2.2 t (pfX zs cs ss[i].2.1 t) k<;>rfl
  rw [hN,hP] at ih
  have hgood:goodL ss[i].2.2 t (pfX zs cs ss[i].2.1 t) k=(decide (0≤perX zs cs ss[i].2.1[k] t) && !awayB ss[i].2.2 (perX zs cs ss[i].2.1[k] t) t):=by simp only [goodL,e]
  rw [hgood,e] at ih
  rw [j08x]
  simp only [j02k]
  rw [j001 (show (k:Int)<(ss[i].2.1.length:Int) by omega),inR_t (by omega) (by omega)]
  simp only [cond_true,Int.toNat_natCast,hgd,hgs]
  rw [show j0bE (zs,ps,cs,ss) (ss[i].2.1[k].1,ss[i].2.1[k].2.1,(ss[i].2.1[k].2.2.1.1,ss[i].2.1[k].2.2.1.2),ss[i].2.1[k].2.2.2.1,ss[i].2.1[k].2.2.2.2.1,ss[i].2.1[k].2.2.2.2.2.1,ss[i].2.1[k].2.2.2.2.2.2.1,ss[i].2.1[k].2.2.2.2.2.2.2.1,ss[i].2.1[k].2.2.2.2.2.2.2.2) t=_ from hp]
  simp only [Option.bind_some]
  rw [inR_t (show (0:Int)≤(i:Int) by omega) (show (i:Int)<(ss.length:Int) by omega),w64_in (x:=(k:Int)+1) (by omega) (by omega)]
  simp only [Bool.true_or,cond_true]
  rw [show decide (perX zs cs ss[i].2.1[k] t≥0)=decide (0≤perX zs cs ss[i].2.1[k] t) from rfl]
  cases hd:decide (0≤perX zs cs ss[i].2.1[k] t) with
  | false=>
   rw [hd] at ih
   simp only [Bool.false_and,cond_false,lpK_inl] at ih ⊢
   exact ih
  | true=>
   rw [hd] at ih
   simp only [cond_true,show j05m (ss[i].1,(ss[i].2.1,ss[i].2.2)) (perX zs cs ss[i].2.1[k] t) t=_ from Away_ok (by omega),Option.bind_some,Bool.true_and] at ih ⊢
   cases ha:awayB ss[i].2.2 (perX zs cs ss[i].2.1[k] t) t with
   | false=>
    rw [ha] at ih
    simp only [Bool.not_false,cond_true,lpK_inl] at ih ⊢
    exact ih
   | true=>
    rw [ha] at ih
    simp only [Bool.not_true,cond_false,lpK_inl] at ih ⊢
    exact ih
theorem st0_lp {ss:List SchedT} (hc:CfgOk (zs,(ps,(cs,ss)))) (h1:1≤ss.length) {D:List Int}:∀ (n:Nat) (q a:Int),q+n=10→0≤q→DOk D a→j05D q zs ps cs ss D a=some (.inr ())
 | 0,q,a,hq,_,hd=>by
  rw [j08y]
  simp only [j02l]
  rw [j000 (by omega),cond_false,lpK_inr]
 | n+1,q,a,hq,q0,hd=>by
  have hsl:ss.length≤12:=hc.sl
  obtain ⟨s,a1,e1,s0,s1,d1⟩:=Next_ok (n:=(ss.length:Int)) hd (by omega) (by omega)
  obtain ⟨t,a2,e2,t0,t1,d2⟩:=j0jy d1
  obtain ⟨i,rfl⟩:∃ i:Nat,s=(i:Int):=⟨s.toNat,by omega⟩
  have hi:i<ss.length:=by omega
  have hgs:ss.getD i (ByteArray.empty,(([]:List LayerT),([]:List EditT)))=ss[i]:=by simp [List.getD,hi]
  have l2:=st2_lp hs hc hi (t:=t) (by omega) (by omega) (q:=q) (a:=a2) (D:=D) ss[i].2.1.length 0 (by omega)
  obtain ⟨w1,w2⟩:=WhoX_ok hs hc hi (t:=t) (by omega) (by omega)
  rw [j08y]
  simp only [j02l]
  rw [j001 (show q<10 by omega)]
  simp only [cond_true,show Int.ofNat ss.length=(ss.length:Int) from rfl,e1,e2,Option.bind_some]
  rw [inR_t (by omega) (by omega)]
  simp only [cond_true,Int.toNat_natCast,hgs,show Int.ofNat ss[i].2.1.length=(ss[i].2.1.length:Int) from rfl]
  rw [show j04f q (i:Int) t (-1) (-1) ss[i].2.1 (ss[i].2.1.length:Int) 0 zs ps cs ss D a2=_ from l2]
  simp only [Option.bind_some,w1,w2,bne_self_eq_false,cond_false]
  rw [w64_in (x:=q+1) (by omega) (by omega),lpK_inl]
  exact st0_lp hc h1 n (q+1) a2 (by omega) (by omega) d2
end
theorem j0pa (k:Nat):NmL (nms3.take k):=nms3_ok.take k
theorem j0jB (t:List Int) (_h:Wf (.list (.int .i64)) t):j0ax t=some true:=by
 simp only [j0ax,j0g2,Option.bind_some,show Int.ofNat (List.length t)=(t.length:Int) from rfl]
 by_cases hl:(t.length:Int)≤500
 ·rw [j001 hl]
  simp only [Bool.not_true,cond_false,j0hN,Option.bind_some]
  obtain ⟨zs,ps,cs,ss,a1,e1,hs,g0,g1,g2,g3,d1⟩:=j0ny (L:=t) (a:=0) (n:=2) ⟨by omega,by omega,by omega⟩ (by omega) (by omega)
  have hc:=cfgN_of hs (ss:=ss) (by omega) (by rw [g2];exact j0pa _) (fun s h=>(g3 s h).ck)
  simp only [e1,Option.bind_some]
  rw [st0_lp hs hc g0 (D:=t) 10 0 a1 (by omega) (by omega) d1]
  simp only [Option.bind_some,j05K,sane12]
 ·rw [j000 hl]
  simp only [Bool.not_false,cond_true,sane12,Option.bind_some]
end Go.Proofs.Pw
