/- The references of chapters 11 to 14: who is on duty, who is on call. -/
import Derived.Test.YtpbnnhakjhalaaaGreatEOPI
import Derived.Test.YtpbnnhakjhalaaaGreatEOPH
import Derived.Test.YtpbnnhakjhalaaaGreatEOPG
import Derived.Test.YtpbnnhakjhalaaaGreatEOPB
import Derived.Test.YtpbnnhakjhalaaaGreatEOLD
open Go Go.Lft
namespace Go.Proofs.Pw
theorem jvM {w:WL} (hl:w.length≤14) (s:Int):∀ (n i:Nat),i+n=w.length→j7o w s (i:Int)=some (cond (hasB s (w.drop i)) (.inl true) (.inr ()))
 | 0,i,hi=>by
  rw [jcY]
  simp only [j42,show Int.ofNat w.length=(w.length:Int) from rfl]
  rw [j00 (by omega),j6,j0d,jf (by omega)]
  rfl
 | n+1,i,hi=>by
  have hi':i<w.length:=by omega
  have hgd:w.getD i ((0:Int),(0:Int))=w[i]:=by simp [List.getD,hi']
  rw [jcY]
  simp only [j42,show Int.ofNat w.length=(w.length:Int) from rfl]
  rw [j01 (by omega),j0Y (by omega) (by omega)]
  simp only [j5,qw,j7,hgd]
  rw [j02 (x:=(i:Int)+1) (by omega) (by omega),jn hi']
  have hb:hasB s (w[i]::w.drop (i+1))=cond (cond (decide (w[i].1≤s)) (decide (s<w[i].2)) false) true (hasB s (w.drop (i+1))):=rfl
  rw [hb]
  by_cases h1:w[i].1≤s
  ·rw [j01 (show s≥w[i].1 from h1)]
   simp only [j5]
   by_cases h2:s<w[i].2
   ·rw [j01 h2]
    rfl
   ·rw [j00 h2]
    simp only [j6,j09]
    exact jvM hl s n (i+1) (by omega)
  ·rw [j00 (show ¬ s≥w[i].1 from h1)]
   simp only [j6,j09]
   exact jvM hl s n (i+1) (by omega)
theorem jta {w:WL} (hl:w.length≤14) (s:Int):jer w s=some (hasB s w):=by
 have:=jvM hl s w.length 0 (by omega)
 simp only [jer,show j7o w s 0=_ from this,j3,kr]
 cases hasB s w<;>rfl
theorem jwS {z:j1l} (hz:ZOk z) {t:Int} (h0:0≤t) (h1:t≤8589934592):j39 z t=some (locD z t,0):=by
 have h4:=hz.zref.2.1
 obtain ⟨k,hk,k1,k2⟩:=jib h4.2 h0 h1
 have e:=jm0 h4.2 hk k1 k2
 have:locD z t=((t+tof z.2.1 (tb z).2 k)/86400,(t+tof z.2.1 (tb z).2 k)%86400):=by
  simp only [locD,show j0u (tb z) t=_ from e,z5]
 rw [this]
 exact jq7 h4 h0 h1 hk k1 k2
theorem jwT {z:j1l} (hz:ZOk z) {t:Int} (h0:0≤t) (h1:t≤8589934592) {w:WL} (hw:WOk 0 w) (hl:w.length≤14):j9J z t=some (secD (locD z t),0)∧jn5 z w t=some (hasB (secD (locD z t)) w):=by
 have e1:=jwS hz h0 h1
 obtain ⟨_,hsc⟩:=jpl hz h0 h1
 have e2:jeq (locD z t)=some (secD (locD z t)):=hsc
 have e3:j9J z t=some (secD (locD z t),0):=by
  simp only [j9J,show j39 (z.1,(z.2.1,z.2.2)) t=_ from e1,j3,jb,j6,show jeq ((locD z t).1,(locD z t).2)=_ from e2]
 refine ⟨e3,?_⟩
 simp only [jn5,show j9J (z.1,(z.2.1,z.2.2)) t=_ from e3,j3,qd,j5,r5ck hw hl,jta hl]
section
variable {zs:List j1l} {ps:List j0W} {cs:List CalT} (hs:SOk2 zs ps cs)
include hs
theorem jvN {k d e:Int} {x:CalT} (hx:CCk zs.length x) {L:j0L}:∀ (n i:Nat) (b:Bool),i+n=x.2.2.length→b=decide (d∈x.2.2.take i)→
  j6R k b (i:Int) L.1 L.2.1 L.2.2.1.1 L.2.2.1.2 L.2.2.2.1 L.2.2.2.2.1 L.2.2.2.2.2.1 L.2.2.2.2.2.2.1 L.2.2.2.2.2.2.2.1 L.2.2.2.2.2.2.2.2 x.1 x.2.1 x.2.2 d e=
   some (k,decide (d∈x.2.2),L.1,L.2.1,L.2.2.1.1,L.2.2.1.2,L.2.2.2.1,L.2.2.2.2.1,L.2.2.2.2.2.1,L.2.2.2.2.2.2.1,L.2.2.2.2.2.2.2.1,L.2.2.2.2.2.2.2.2)
 | 0,i,b,hi,hb=>by
  rw [jeL]
  simp only [j5b,show Int.ofNat x.2.2.length=(x.2.2.length:Int) from rfl]
  rw [j00 (by omega),j6,j0d,hb,List.take_of_length_le (by omega)]
 | n+1,i,b,hi,hb=>by
  have _:=hs
  have hxl:=hx.len
  have hi':i<x.2.2.length:=by omega
  have hgd:x.2.2.getD i (0:Int)=x.2.2[i]:=by simp [hi']
  rw [jeL]
  simp only [j5b,show Int.ofNat x.2.2.length=(x.2.2.length:Int) from rfl]
  rw [j01 (by omega),j02 (x:=(i:Int)+1) (by omega) (by omega),j5]
  have ht:x.2.2.take (i+1)=x.2.2.take i++[x.2.2[i]]:=by rw [zi,jh hi'];rfl
  cases hbb:b with
  | true=>
   simp only [j5,j09]
   refine jvN hx n (i+1) true (by omega) ?_
   have:d∈x.2.2.take i:=kq (by rw [←hb,hbb])
   rw [ht]
   exact (j01 (qe _ this)).symm
  | false=>
   have hnm:d∉x.2.2.take i:=of_decide_eq_false (by rw [←hb,hbb])
   rw [j0Y (show (0:Int)≤(i:Int) by omega) (by omega)]
   simp only [j6,j5,j7,hgd,j09]
   refine jvN hx n (i+1) _ (by omega) ?_
   rw [ht]
   by_cases he:x.2.2[i]=d
   ·rw [j6W he]
    exact (j01 (List.mem_append_right _ (by simp [he]))).symm
   ·rw [j3B he]
    refine (j00 fun hm=> ?_).symm
    rcases jo.1 hm with h | h
    ·exact hnm h
    ·simp at h;exact he h.symm
theorem jvO {L:j0L} (hL:LCk zs.length ps.length cs.length L) {ss:List j1P} {t:Int} (h0:0≤t) (h1:t≤8589934592):∃ k,jgg (zs,(ps,(cs,ss))) L t=some (k,onX zs cs L t)∧(onX zs cs L t=true→k=shK (zAt zs L.2.1) L t):=by
 have hRt:=hL.rt2
 have hz:ZOk (zAt zs L.2.1):=zget hs.so.ok hL.z0 hL.z1
 have h4:=hz.zref.2.1
 obtain ⟨K,eK,hK⟩:=jxj h4 hRt h0 h1
 have hKs:K=shK (zAt zs L.2.1) L t:=ShO.uniq h4.2 hRt hK (juM hz hRt h0 h1).2
 subst hKs
 have ek:jdR (zAt zs L.2.1) L t=some (shK (zAt zs L.2.1) L t,0):=by
  simp only [jdR,show jdN ((zAt zs L.2.1).1,((zAt zs L.2.1).2.1,(zAt zs L.2.1).2.2)) (L.1,L.2.1,(L.2.2.1.1,L.2.2.1.2),L.2.2.2.1,L.2.2.2.2.1,L.2.2.2.2.2.1,L.2.2.2.2.2.2.1,L.2.2.2.2.2.2.2.1,L.2.2.2.2.2.2.2.2)=_ from jpk h4 L,j3]
  rw [if_pos hRt,j00 (show ¬ t<0 by omega),j00 (show ¬ t>8589934592 by omega)]
  simp only [jb,j6]
  rw [show jdQ ((zAt zs L.2.1).1,((zAt zs L.2.1).2.1,(zAt zs L.2.1).2.2)) (L.1,L.2.1,(L.2.2.1.1,L.2.2.1.2),L.2.2.2.1,L.2.2.2.2.1,L.2.2.2.2.2.1,L.2.2.2.2.2.2.1,L.2.2.2.2.2.2.2.1,L.2.2.2.2.2.2.2.2) t=_ from eK]
  rfl
 obtain ⟨_,ein⟩:=jwT hz h0 h1 hL.w hL.wl
 have htail:(cond (L.2.2.2.2.2.2.2.2==(0:Int)) (some (shK (zAt zs L.2.1) L t,true)) (cond (inR L.2.2.2.2.2.2.2.1 cs.length) (cond (inR (cs.getD L.2.2.2.2.2.2.2.1.toNat (ByteArray.empty,((0:Int),([]:List Int)))).2.1 zs.length)
   ((j39 ((zs.getD (cs.getD L.2.2.2.2.2.2.2.1.toNat (ByteArray.empty,((0:Int),([]:List Int)))).2.1.toNat (ByteArray.empty,((0:Int),([]:List Rule)))).1,((zs.getD (cs.getD L.2.2.2.2.2.2.2.1.toNat (ByteArray.empty,((0:Int),([]:List Int)))).2.1.toNat (ByteArray.empty,((0:Int),([]:List Rule)))).2.1,(zs.getD (cs.getD L.2.2.2.2.2.2.2.1.toNat (ByteArray.empty,((0:Int),([]:List Int)))).2.1.toNat (ByteArray.empty,((0:Int),([]:List Rule)))).2.2)) t).bind fun r67=>
     (j6R (shK (zAt zs L.2.1) L t) false 0 L.1 L.2.1 L.2.2.1.1 L.2.2.1.2 L.2.2.2.1 L.2.2.2.2.1 L.2.2.2.2.2.1 L.2.2.2.2.2.2.1 L.2.2.2.2.2.2.2.1 L.2.2.2.2.2.2.2.2 (cs.getD L.2.2.2.2.2.2.2.1.toNat (ByteArray.empty,((0:Int),([]:List Int)))).1 (cs.getD L.2.2.2.2.2.2.2.1.toNat (ByteArray.empty,((0:Int),([]:List Int)))).2.1 (cs.getD L.2.2.2.2.2.2.2.1.toNat (ByteArray.empty,((0:Int),([]:List Int)))).2.2 r67.1.1 r67.1.2).bind fun q0=>
      some (q0.1,(q0.2.1==(q0.2.2.2.2.2.2.2.2.2.2.2==(2:Int))))) none) none))=some (shK (zAt zs L.2.1) L t,calB zs cs L t):=by
  by_cases hm:L.2.2.2.2.2.2.2.2=0
  ·rw [j6W hm,j5]
   unfold calB
   rw [j6W hm];rfl
  ·have hcal:=hL.cal hm
   have hx:=cget hs hcal.1 hcal.2
   have hxz:=zget hs.so.ok hx.z0 hx.z1
   rw [j3B hm,j6,j0Y hcal.1 hcal.2,j0Y hx.z0 hx.z1]
   simp only [j5]
   rw [show j39 ((zs.getD (cs.getD L.2.2.2.2.2.2.2.1.toNat (ByteArray.empty,((0:Int),([]:List Int)))).2.1.toNat (ByteArray.empty,((0:Int),([]:List Rule)))).1,((zs.getD (cs.getD L.2.2.2.2.2.2.2.1.toNat (ByteArray.empty,((0:Int),([]:List Int)))).2.1.toNat (ByteArray.empty,((0:Int),([]:List Rule)))).2.1,(zs.getD (cs.getD L.2.2.2.2.2.2.2.1.toNat (ByteArray.empty,((0:Int),([]:List Int)))).2.1.toNat (ByteArray.empty,((0:Int),([]:List Rule)))).2.2)) t=_ from jwS hxz h0 h1]
   simp only [j3]
   rw [show j6R (shK (zAt zs L.2.1) L t) false 0 L.1 L.2.1 L.2.2.1.1 L.2.2.1.2 L.2.2.2.1 L.2.2.2.2.1 L.2.2.2.2.2.1 L.2.2.2.2.2.2.1 L.2.2.2.2.2.2.2.1 L.2.2.2.2.2.2.2.2 (cs.getD L.2.2.2.2.2.2.2.1.toNat (ByteArray.empty,((0:Int),([]:List Int)))).1 (cs.getD L.2.2.2.2.2.2.2.1.toNat (ByteArray.empty,((0:Int),([]:List Int)))).2.1 (cs.getD L.2.2.2.2.2.2.2.1.toNat (ByteArray.empty,((0:Int),([]:List Int)))).2.2 _ _=_ from jvN hs hx (L:=L) (cs.getD L.2.2.2.2.2.2.2.1.toNat (ByteArray.empty,((0:Int),([]:List Int)))).2.2.length 0 false (by omega) (by simp)]
   unfold calB
   rw [j3B hm]
   rfl
 simp only [jgg]
 rw [j0Y hL.z0 hL.z1]
 simp only [j5]
 rw [show jdR ((zs.getD L.2.1.toNat (ByteArray.empty,((0:Int),([]:List Rule)))).1,((zs.getD L.2.1.toNat (ByteArray.empty,((0:Int),([]:List Rule)))).2.1,(zs.getD L.2.1.toNat (ByteArray.empty,((0:Int),([]:List Rule)))).2.2)) (L.1,L.2.1,(L.2.2.1.1,L.2.2.1.2),L.2.2.2.1,L.2.2.2.2.1,L.2.2.2.2.2.1,L.2.2.2.2.2.2.1,L.2.2.2.2.2.2.2.1,L.2.2.2.2.2.2.2.2) t=_ from ek]
 simp only [j3,jb,j6]
 by_cases hk:0≤shK (zAt zs L.2.1) L t
 ·rw [j00 (show ¬ shK (zAt zs L.2.1) L t<0 by omega)]
  simp only [j6,show Int.ofNat L.2.2.2.2.2.2.1.length=(L.2.2.2.2.2.2.1.length:Int) from rfl]
  have hon:onX zs cs L t=cond (okW L.2.2.2.2.2.2.1 (secD (locD (zAt zs L.2.1) t))) (calB zs cs L t) false:=by
   unfold onX
   rw [j01 hk];rfl
  rw [hon]
  by_cases hw:(L.2.2.2.2.2.2.1.length:Int)>0
  ·rw [j01 hw,j5,show jn5 ((zs.getD L.2.1.toNat (ByteArray.empty,((0:Int),([]:List Rule)))).1,((zs.getD L.2.1.toNat (ByteArray.empty,((0:Int),([]:List Rule)))).2.1,(zs.getD L.2.1.toNat (ByteArray.empty,((0:Int),([]:List Rule)))).2.2)) L.2.2.2.2.2.2.1 t=_ from ein]
   simp only [j3]
   unfold okW
   rw [j01 hw,j5]
   cases hasB (secD (locD (zAt zs L.2.1) t)) L.2.2.2.2.2.2.1 with
   | false=>exact ⟨0,rfl,fun h=>by simp at h⟩
   | true=>
    simp only [jc,j6,j5]
    exact ⟨_,htail,fun _=>rfl⟩
  ·rw [j00 hw,j6]
   unfold okW
   rw [j00 hw]
   simp only [j6,j5]
   exact ⟨_,htail,fun _=>rfl⟩
 ·rw [j01 (show shK (zAt zs L.2.1) L t<0 by omega)]
  have hon:onX zs cs L t=false:=by
   unfold onX
   rw [j00 hk];rfl
  rw [hon]
  simp only [j5,jc,js,Bool.or_true]
  exact ⟨0,rfl,fun h=>by simp at h⟩
theorem juj {L:j0L} (hL:LCk zs.length ps.length cs.length L) {ss:List j1P} {t:Int} (h0:0≤t) (h1:t≤8589934592):jj2 (zs,(ps,(cs,ss))) L t=some (perX zs cs L t):=by
 obtain ⟨k,e,hk⟩:=jvO hs hL (ss:=ss) h0 h1
 have hon:onX zs cs L t=true→0≤shK (zAt zs L.2.1) L t:=jxk
 simp only [jj2]
 rw [show jgg (zs,ps,cs,ss) (L.1,L.2.1,(L.2.2.1.1,L.2.2.1.2),L.2.2.2.1,L.2.2.2.2.1,L.2.2.2.2.2.1,L.2.2.2.2.2.2.1,L.2.2.2.2.2.2.2.1,L.2.2.2.2.2.2.2.2) t=_ from e]
 simp only [j3,show Int.ofNat L.2.2.2.2.2.1.length=(L.2.2.2.2.2.1.length:Int) from rfl]
 unfold perX
 cases hc:onX zs cs L t with
 | false=>rfl
 | true=>
  have hm0:=hL.m0
  have hk0:=hon hc
  have:=hk hc
  subst this
  have q1:0≤Int.tmod (shK (zAt zs L.2.1) L t) (L.2.2.2.2.2.1.length:Int):=Int.tmod_nonneg _ hk0
  have q2:Int.tmod (shK (zAt zs L.2.1) L t) (L.2.2.2.2.2.1.length:Int)<(L.2.2.2.2.2.1.length:Int):=Int.tmod_lt_of_pos _ (by omega)
  rw [j3B (show ¬ (L.2.2.2.2.2.1.length:Int)=0 by omega),j0Y q1 q2]
  rfl
theorem jvP:∀ z∈zs,j5P z=some 0:=fun z hz=>r4ck (hs.so.ok z hz)
end
noncomputable def pfX (zs:List j1l) (cs:List CalT) (ls:List j0L) (t:Int) (i:Nat):Int:=perX zs cs (ls.getD i (ByteArray.empty,((0:Int),(((0:Int),(0:Int)),((0:Int),((0:Int),(([]:List Int),(([]:List (Int×Int)),((0:Int),(0:Int)))))))))) t
def OrS (p:Int):SgL→Prop
 | []=>True
 | x::r=>p≤x.1∧x.1<x.2.1∧OrS x.2.1 r
theorem OrS.weak {p q:Int} (hq:q≤p):∀ {l:SgL},OrS p l→OrS q l
 | [],_=>trivial
 | _::_,h=>⟨by have:=h.1;omega,h.2⟩
theorem OrS.app {e:Int} {r:SgL} (hr:OrS e r):∀ {l:SgL} {p:Int},OrS p l→p≤e→(∀ x∈l,x.2.1≤e)→OrS p (l++r)
 | [],_,_,hp,_=>hr.weak hp
 | x::l,p,h,_,hl=>⟨h.1,h.2.1,hr.app h.2.2 (hl x (by simp)) (fun y hy=>hl y (by simp [hy]))⟩
theorem OrS.apart {p:Int}:∀ {l:SgL},OrS p l→l.Pairwise (fun x y=>x.2.1≤y.1)∧∀ x∈l,p≤x.1
 | [],_=>⟨List.Pairwise.nil,by simp⟩
 | x::l,h=>by
  obtain ⟨h1,h2⟩:=OrS.apart h.2.2
  exact ⟨List.pairwise_cons.2 ⟨h2,h1⟩,fun y hy=>by
   rcases jg.1 hy with rfl | hy
   ·exact h.1
   ·have:=h2 y hy;have:=h.1;have:=h.2.1;omega⟩
section
variable {nm:ByteArray} {ls:List j0L} {es:List j3l} {np:Nat} (hE:∀ x∈es,ECk np x) (hl:es.length≤48)
include hE hl
end
section
variable {o:Int} {l:TrL} (h:TOk o l)
include h
end
section
variable {zs:List j1l} {ps:List j0W} {cs:List CalT} (hs:SOk2 zs ps cs)
include hs
end
def jnX (t p:Int) (x:j3l):Int:=
 if t<x.2.2.2.1∨x.2.2.2.2≤t then p else if x.1=1 then x.2.1 else if x.1=2∧p=x.2.1 then x.2.2.1 else if x.1=2∧p=x.2.2.1 then x.2.1 else p
def jdd (t:Int):Int→List j3l→Int
 | p,[]=>p
 | p,x::r=>jdd t (jnX t p x) r
theorem jpm {es:List j3l} (hl:es.length≤100) {t:Int}:∀ (n i:Nat) (p:Int),i+n=es.length→j4N p t es (es.length:Int) (i:Int)=some (jdd t p (es.drop i))
 | 0,i,p,hi=>by
  rw [jdF]
  simp only [j4w]
  rw [j00 (by omega),j6,j0d,jf (by omega)]
  rfl
 | n+1,i,p,hi=>by
  have hi':i<es.length:=by omega
  have hgd:es.getD i ((0:Int),((0:Int),((0:Int),((0:Int),(0:Int)))))=es[i]:=by simp [List.getD,hi']
  have ih:=fun p=>jpm hl (t:=t) n (i+1) p (by omega)
  rw [jdF]
  simp only [j4w,jf8,j3]
  rw [j01 (by omega),j0Y (by omega) (by omega),j02 (x:=(i:Int)+1) (by omega) (by omega),jn hi']
  simp only [j5,j7,hgd,jdd]
  generalize es[i]=x
  unfold jnX
  by_cases ha:t<x.2.2.2.1∨x.2.2.2.2≤t
  ·rw [if_pos ha]
   have:cond (decide (x.2.2.2.1≤t)) (decide (t<x.2.2.2.2)) false=false:=by
    rcases ha with ha | ha
    ·rw [j00 (show ¬ x.2.2.2.1≤t by omega)];rfl
    ·rw [j00 (show ¬ t<x.2.2.2.2 by omega)];cases decide (x.2.2.2.1≤t)<;>rfl
   rw [this]
   simp only [js,j5,j09]
   exact ih p
  ·rw [if_neg ha,j01 (show x.2.2.2.1≤t by omega),j01 (show t<x.2.2.2.2 by omega)]
   simp only [j5,jc,j6]
   by_cases h0:x.1=0
   ·rw [j6W h0,if_neg (by omega),if_neg (by omega),if_neg (by omega),j5,j09]
    exact ih p
   rw [j3B h0,j6]
   by_cases h1:x.1=1
   ·rw [if_pos h1,j6W h1,j5,j09]
    exact ih _
   ·rw [if_neg h1,j3B h1,j6]
    by_cases h2:x.1=2
    ·rw [show (x.1 != 2)=false by simp [h2],j6]
     by_cases h3:p=x.2.1
     ·rw [if_pos ⟨h2,h3⟩,j6W h3,j5,j09]
      exact ih _
     ·rw [if_neg (fun h=>h3 h.2),j3B h3,j6]
      by_cases h4:p=x.2.2.1
      ·rw [if_pos ⟨h2,h4⟩,j6W h4,j5,j09]
       exact ih _
      ·rw [if_neg (fun h=>h4 h.2),j3B h4,j6,j09]
       exact ih _
    ·rw [if_neg (fun h=>h2 h.1),if_neg (fun h=>h2 h.1),show (x.1 != 2)=true by simp [h2],j5,j09]
     exact ih _
theorem jqc {nm:ByteArray} {ls:List j0L} {es:List j3l} {p t:Int} (hl:es.length≤1000):∀ (n i:Nat),i+n=es.length→ja4 p t (i:Int) nm ls es=some (cond (jaH (es.drop i) p t) (.inl true) (.inr ()))
 | 0,i,hi=>by
  rw [jeM]
  simp only [j5c,show Int.ofNat es.length=(es.length:Int) from rfl]
  rw [j00 (by omega),j6,j0d,jf (by omega)]
  rfl
 | n+1,i,hi=>by
  have hlt:i<es.length:=by omega
  have hgd:es.getD i ((0:Int),((0:Int),((0:Int),((0:Int),(0:Int)))))=es[i]:=by simp [List.getD,hlt]
  have ih:=jqc (nm:=nm) (ls:=ls) (p:=p) (t:=t) hl n (i+1) (by omega)
  rw [jeM]
  simp only [j5c,show Int.ofNat es.length=(es.length:Int) from rfl]
  rw [j01 (by omega),j0Y (by omega) (by omega),j02 (x:=(i:Int)+1) (by omega) (by omega),jn hlt]
  simp only [j5,j7,hgd]
  have ha:jaH (es[i]::es.drop (i+1)) p t=((es[i].1==0&&(es[i].2.1==p&&(decide (es[i].2.2.2.1≤t)&&decide (t<es[i].2.2.2.2))))||jaH (es.drop (i+1)) p t):=rfl
  have e:(cond (cond (cond (es[i].1==(0:Int)) (es[i].2.1==p) false) (decide (es[i].2.2.2.1≤t)) false) (decide (t<es[i].2.2.2.2)) false)=(es[i].1==0&&(es[i].2.1==p&&(decide (es[i].2.2.2.1≤t)&&decide (t<es[i].2.2.2.2)))):=by
   cases es[i].1==(0:Int)<;>cases es[i].2.1==p<;>cases decide (es[i].2.2.2.1≤t)<;>rfl
  rw [e,ha]
  cases (es[i].1==0&&(es[i].2.1==p&&(decide (es[i].2.2.2.1≤t)&&decide (t<es[i].2.2.2.2)))) with
  | true=>rfl
  | false=>
   rw [j6,j09,za]
   exact ih
theorem jra {nm:ByteArray} {ls:List j0L} {es:List j3l} {p t:Int} (hl:es.length≤1000):jia (nm,(ls,es)) p t=some (jaH es p t):=by
 have:=jqc (nm:=nm) (ls:=ls) (p:=p) (t:=t) hl es.length 0 (by omega)
 simp only [jia,show ja4 p t 0 nm ls es=_ from this,j3,kr]
 cases jaH es p t<;>rfl
section
variable {zs:List j1l} {ps:List j0W} {cs:List CalT} (hs:SOk2 zs ps cs)
include hs
theorem jtb {ss:List j1P} {nm:ByteArray} {ls:List j0L} {es:List j3l} (hel:es.length≤1000) (hll:ls.length≤1000) (hL:∀ L∈ls,LCk zs.length ps.length cs.length L) {t:Int} (h0:0≤t) (h1:t≤8589934592):∀ n:Nat,n≤ls.length→
  jbM t ((n:Int)-1) zs ps cs ss nm ls es=some (match topI (jeD es t (pfX zs cs ls t)) n with | some i=> .inl ((i:Int),pfX zs cs ls t i) | none=> .inr ())
 | 0,hn=>by
  rw [jgh]
  simp only [j5R]
  rw [j00 (by omega),j6,j0d]
  rfl
 | n+1,hn=>by
  have hlt:n<ls.length:=by omega
  have hgd:ls.getD n (ByteArray.empty,((0:Int),(((0:Int),(0:Int)),((0:Int),((0:Int),(([]:List Int),(([]:List (Int×Int)),((0:Int),(0:Int)))))))))=ls[n]:=by simp [List.getD,hlt]
  have ih:=jtb (ss:=ss) (nm:=nm) hel hll hL h0 h1 n (by omega)
  have hp:=juj hs (hL _ (je hlt)) (ss:=ss) h0 h1
  have e:pfX zs cs ls t n=perX zs cs ls[n] t:=by simp [pfX,List.getD,hlt]
  rw [show ((n+1:Nat):Int)-1=(n:Int) by omega,jgh]
  simp only [j5R]
  rw [j01 (show (n:Int)≥0 by omega),j0Y (by omega) (by omega),j02 (x:=(n:Int)-1) (by omega) (by omega)]
  simp only [j5,j7,hgd]
  rw [show jj2 (zs,(ps,(cs,ss))) (ls[n].1,(ls[n].2.1,((ls[n].2.2.1.1,ls[n].2.2.1.2),(ls[n].2.2.2.1,(ls[n].2.2.2.2.1,(ls[n].2.2.2.2.2.1,(ls[n].2.2.2.2.2.2.1,(ls[n].2.2.2.2.2.2.2.1,ls[n].2.2.2.2.2.2.2.2)))))))) t=_ from hp]
  simp only [j3,topI,jeD,e]
  by_cases hp0:0≤perX zs cs ls[n] t
  ·rw [j01 (show perX zs cs ls[n] t≥0 from hp0)]
   simp only [j5,jra hel,j3,Bool.true_and]
   cases jaH es (perX zs cs ls[n] t) t with
   | true=>
    simp only [jc,j6,j09]
    exact ih
   | false=>
    simp only [js,j5,e]
    exact j0d ..
  ·rw [j00 (show ¬ perX zs cs ls[n] t≥0 from hp0)]
   simp only [j6,Bool.false_and,j09]
   exact ih
noncomputable def whoS (zs:List j1l) (cs:List CalT) (s:j1P) (t:Int):Int:=jdd t (topP s.2.2 t (pfX zs cs s.2.1 t) s.2.1.length) s.2.2
end
section
variable {zs:List j1l} {ps:List j0W} {cs:List CalT} (hs:SOk2 zs ps cs)
include hs
theorem juk {s:j1P} {r:List j1P} (hc:jbk (zs,(ps,(cs,s::r)))) {e:j3l} (hc2:jbk (zs,(ps,(cs,(s.1,(s.2.1,s.2.2++[e]))::r)))) :
  jdL (zs,(ps,(cs,s::r))) 0 e=some ((zs,(ps,(cs,(s.1,(s.2.1,s.2.2++[e]))::r))),0):=by
 have hel:=(hc.sc s (by simp)).el
 have hsl:(s::r).length≤12:=hc.sl
 simp only [jdL]
 rw [show j8H (zs,ps,cs,s::r)=_ from jvL hc (jvP hs)]
 simp only [j3,jb,j6,show Int.ofNat (s::r).length=((s::r).length:Int) from rfl]
 rw [j00 (show ¬ (0:Int)<0 by omega),j00 (show ¬ (0:Int)≥((s::r).length:Int) by simp),j0Y (show (0:Int)≤0 by omega) (by simp)]
 simp only [j5,j6,show Int.toNat 0=0 from rfl,show List.getD (s::r) 0 (ByteArray.empty,(([]:List j0L),([]:List j3l)))=s from rfl]
 rw [j01 (show ([]:List j3l).length+s.2.2.length≤j07 by simp [j07];omega)]
 simp only [j5,k7]
 rw [j01 (show s.2.2.length+[e].length≤j07 by simp [j07];omega)]
 simp only [j5,jls]
 rw [j01 (show ([]:List j1P).length+(s::r).length≤j07 by simp only [j07,List.length_nil];omega)]
 simp only [j5,k7]
 rw [j0Y (show (0:Int)≤0 by omega) (by simp)]
 simp only [j5,show Int.toNat 0=0 from rfl,show List.getD (s::r) 0 (ByteArray.empty,(([]:List j0L),([]:List j3l)))=s from rfl,zb,j3]
 rw [show j8H (zs,ps,cs,(s.1,s.2.1,s.2.2++[e])::r)=_ from jvL hc2 (jvP hs)]
 rfl
theorem jnY {L:List Int}:∀ (n:Nat) (a:Int) (s:j1P) (r:List j1P),DOk L a→jbk (zs,(ps,(cs,s::r)))→s.2.1.length≤3→s.2.2.length+n≤6→
  ∃ es a',j3y 0 (n:Int) L a zs ps cs (s::r)=some (L,a',zs,ps,cs,(s.1,(s.2.1,es))::r)∧es.length≤6∧jbk (zs,(ps,(cs,(s.1,(s.2.1,es))::r)))∧DOk L a'
 | 0,a,s,r,hd,hc,hll,hel=>by
  refine ⟨s.2.2,a,?_,by omega,hc,hd⟩
  rw [j7S]
  simp only [j2c]
  rw [j00 (by omega),j6,j0d]
 | n+1,a,s,r,hd,hc,hll,hel=>by
  obtain ⟨x,a1,e1,hx,d1⟩:=jsX hd (zs:=zs) (ps:=ps) (cs:=cs) (ss:=s::r) hs.so.p0 hs.so.p1
  have hk:=hc.sc s (by simp)
  have hck:SCk zs.length ps.length cs.length (s.1,(s.2.1,s.2.2++[x])):=
   ⟨hk.nm,hk.ly,hk.ll,fun y hy=>by
    rcases jo.1 hy with h | h
    ·exact hk.ed y h
    ·simp only [jx] at h;subst h;exact hx,by simp;omega⟩
  have hc2:jbk (zs,(ps,(cs,(s.1,(s.2.1,s.2.2++[x]))::r))):=jpj hs (by simpa using hc.sl) (by
   have:=hc.sn
   simpa using this) (fun y hy=>by
    rcases jg.1 hy with rfl | h
    ·exact hck
    ·exact hc.sc y (by simp [h]))
  obtain ⟨es,a',e2,h1,h2,h3⟩:=jnY n a1 (s.1,(s.2.1,s.2.2++[x])) r d1 hc2 hll (by simp;omega)
  refine ⟨es,a',?_,h1,h2,h3⟩
  rw [j7S]
  simp only [j2c]
  rw [j01 (show ((n+1:Nat):Int)>0 by omega),j5,show j5i L a (zs,(ps,(cs,s::r)))=_ from e1]
  simp only [j3]
  rw [show jdL (zs,ps,cs,s::r) 0 (x.1,x.2.1,x.2.2.1,x.2.2.2.1,x.2.2.2.2)=_ from juk hs hc (e:=x) hc2]
  simp only [j3,qd,j5]
  rw [j02 (x:=((n+1:Nat):Int)-1) (by omega) (by omega),show ((n+1:Nat):Int)-1=(n:Int) by omega,j09]
  exact e2
theorem jtc {ss:List j1P} {s:j1P} (hk:SCk zs.length ps.length cs.length s) {t:Int} (h0:0≤t) (h1:t≤8589934592):j74 ((zs,(ps,(cs,ss))),zs.map tb) s t=some (whoS zs cs s t):=by
 have hll:=hk.ll;have hel:=hk.el
 have hL:=jr8 (zs:=zs) (ps:=ps) (cs:=cs) (ss:=ss) (tbs:=zs.map tb) (ls:=s.2.1) (nm:=s.1) (es:=s.2.2) (t:=t) (Pf:=pfX zs cs s.2.1 t) (by omega) (fun k hkl=>by
  have e:pfX zs cs s.2.1 t k=perX zs cs s.2.1[k] t:=by simp [pfX,List.getD,hkl]
  rw [e]
  exact (jxl hs (hk.ly _ (je hkl)) (ss:=ss) h0 h1).2.1)
 have hL2:∃ k,j3g ((zs,(ps,(cs,ss))),zs.map tb) (s.1,(s.2.1,s.2.2)) t=some (k,topP s.2.2 t (pfX zs cs s.2.1 t) s.2.1.length):=by
  rw [show j3g ((zs,(ps,(cs,ss))),zs.map tb) (s.1,(s.2.1,s.2.2)) t=_ from hL]
  simp only [topP]
  cases topI (jeD s.2.2 t (pfX zs cs s.2.1 t)) s.2.1.length with
  | none=>exact ⟨_,rfl⟩
  | some k=>exact ⟨_,rfl⟩
 obtain ⟨k,hL2⟩:=hL2
 have ef:=jpm (es:=s.2.2) (by omega) (t:=t) s.2.2.length 0 (topP s.2.2 t (pfX zs cs s.2.1 t) s.2.1.length) (by omega)
 rw [kr] at ef
 simp only [j74]
 rw [j00 (show ¬ t<0 by omega),j00 (show ¬ t>8589934592 by omega)]
 simp only [j6]
 simp only [hL2,j3,j8u,show Int.ofNat s.2.2.length=(s.2.2.length:Int) from rfl,show j4N (topP s.2.2 t (pfX zs cs s.2.1 t) s.2.1.length) t s.2.2 (s.2.2.length:Int) 0=_ from ef]
 rfl
end
section
variable {zs:List j1l} {ps:List j0W} {cs:List CalT} {nm:ByteArray} {ls:List j0L} {es:List j3l}
structure Sht (zs:List j1l) (ps:List j0W) (cs:List CalT) (ls:List j0L) (es:List j3l):Prop where
 z:zs.length≤1000∧∀ z∈zs,z.2.2.length≤1000
 p:ps.length≤1000∧∀ p∈ps,p.2.2.1.length≤1000
 c:cs.length≤1000∧∀ c∈cs,c.2.2.length≤1000
 l:ls.length≤1000∧∀ x∈ls,x.2.2.2.2.2.1.length≤1000∧x.2.2.2.2.2.2.1.length≤1000
 e:es.length≤1000
theorem jwU (hc:jbk (zs,(ps,(cs,[(nm,(ls,es))])))):Sht zs ps cs ls es:=by
 have hk:=hc.sc (nm,(ls,es)) (by simp)
 refine ⟨⟨by have:=hc.zl;dsimp only at this;omega,fun z hz=>(hc.zc z hz).len⟩,⟨by have:=hc.pl;dsimp only at this;omega,fun p hp=>by have:=(hc.pc p hp).wl;omega⟩,
  ⟨by have:=hc.cl;dsimp only at this;omega,fun c hcc=>by have:=(hc.cc c hcc).len;omega⟩,⟨by have:=hk.ll;dsimp only at this;omega,fun x hx=> ?_⟩,by have:=hk.el;dsimp only at this;omega⟩
 have h:=hk.ly x hx
 have:=h.m1;have:=h.wl
 omega
end
section
variable {zs:List j1l} {ps:List j0W} {cs:List CalT} {nm:ByteArray} {ls:List j0L} {es:List j3l}
end
theorem jnZ {es es':List j3l} {t:Int} {Pf:Nat→Int} {n:Nat} (h:jeD es t Pf=jeD es' t Pf):topP es t Pf n=topP es' t Pf n:=by
 unfold topP;rw [h]
theorem jjH {t p:Int} {x:j3l} (h:x.1=0):jnX t p x=p:=by
 simp [jnX,h]
section
variable {zs:List j1l} {ps:List j0W} {cs:List CalT} (hs:SOk2 zs ps cs)
include hs
theorem jpn {s:j1P} (hc:jbk (zs,(ps,(cs,[s])))) {t:Int} (h0:0≤t) (h1:t≤8589934592):j69 (zs,(ps,(cs,[s]))) 0 t=some (whoS zs cs s t):=by
 have hk:=hc.sc s (by simp)
 simp only [j69,jwK hs.so.ok hc,j3,jc,j6,jcf,qb]
 rw [j01 (show (0:Int)≥0 by omega),j01 (show (0:Int)<Int.ofNat 1 by decide),j0Y (show (0:Int)≤0 by omega) (show (0:Int)<((1:Nat):Int) by omega)]
 simp only [j5,jc,j6,show Int.toNat 0=0 from rfl,List.getD_cons_zero]
 rw [show j74 ((zs,(ps,(cs,[s]))),zs.map tb) (s.1,(s.2.1,s.2.2)) t=_ from jtc hs hk h0 h1]
 rfl
theorem juU {nm:ByteArray} {ls:List j0L} {es es':List j3l} (hc:jbk (zs,(ps,(cs,[(nm,(ls,es))])))) (he:∀ x∈es',ECk ps.length x) (hl:es'.length≤48):jbk (zs,(ps,(cs,[(nm,(ls,es'))]))):=by
 have hk:=hc.sc (nm,(ls,es)) (by simp)
 exact jpj hs (by simp) (by simpa using hc.sn) (fun y hy=>by
  simp only [jx] at hy;subst hy
  exact ⟨hk.nm,hk.ly,hk.ll,he,hl⟩)
end
theorem jvQ {L:List Int} {a:Int} (h:DOk L a):∃ zs ps cs nm ls es a',j52 L a 1=some ((zs,(ps,(cs,[(nm,(ls,es))]))),L,a')∧SOk2 zs ps cs∧jbk (zs,(ps,(cs,[(nm,(ls,es))])))∧ls.length≤3∧es.length≤3∧DOk L a':=by
 obtain ⟨zs,ps,cs,ss,a1,e1,hs,g0,g1,g2,g3,d1⟩:=jr9 (n:=1) h (by omega) (by omega)
 obtain ⟨s,rfl⟩:∃ s,ss=[s]:=by
  match ss,g0,g1 with
  | [s],_,_=>exact ⟨s,rfl⟩
  | s::s'::r,_,g1=>simp at g1;omega
 have hsg:=g3 s (by simp)
 have hc:=jpj hs (ss:=[s]) (by simp) (by rw [g2];exact jvI.take _) (fun y h=>(g3 y h).ck)
 exact ⟨zs,ps,cs,s.1,s.2.1,s.2.2,a1,e1,hs,hc,hsg.ll,hsg.el,d1⟩
def lvE (es:List j3l):List j3l:=es.filter fun x=>x.1==0
def otE (es:List j3l):List j3l:=es.filter fun x=> !(x.1==0)
theorem jtd {es:List j3l} (hl:es.length≤1000) {zs:List j1l} {ps:List j0W} {cs:List CalT} {ss:List j1P} {D:List Int} {a:Int}:∀ (n i:Nat) (u v:List j3l),i+n=es.length→u.length≤i→v.length≤i→
  j43 es (es.length:Int) (i:Int) zs ps cs ss D a u v=some (zs,ps,cs,ss,D,a,u++lvE (es.drop i),v++otE (es.drop i))
 | 0,i,u,v,hi,hu,hv=>by
  rw [j8L]
  simp only [j2t]
  rw [j00 (by omega),j6,j0d,jf (by omega)]
  simp [lvE,otE]
 | n+1,i,u,v,hi,hu,hv=>by
  have hlt:i<es.length:=by omega
  have hgd:es.getD i ((0:Int),((0:Int),((0:Int),((0:Int),(0:Int)))))=es[i]:=by simp [List.getD,hlt]
  rw [j8L]
  simp only [j2t]
  rw [j01 (show (i:Int)<(es.length:Int) by omega),j0Y (by omega) (by omega),j02 (x:=(i:Int)+1) (by omega) (by omega),jn hlt]
  simp only [j5,j7,hgd,qb]
  rw [j01 (show u.length+1≤j07 by simp [j07];omega),j01 (show v.length+1≤j07 by simp [j07];omega)]
  simp only [j5,lvE,otE,List.filter_cons]
  cases h:es[i].1==(0:Int) with
  | true=>
   simp only [j5,j09,jc,jw,qc,if_true]
   have ih:=jtd hl (zs:=zs) (ps:=ps) (cs:=cs) (ss:=ss) (D:=D) (a:=a) n (i+1) (u++[es[i]]) v (by omega) (by simp;omega) (by omega)
   rw [jp] at ih
   exact ih
  | false=>
   simp only [j6,j09,js,jw,qc,if_true]
   have ih:=jtd hl (zs:=zs) (ps:=ps) (cs:=cs) (ss:=ss) (D:=D) (a:=a) n (i+1) u (v++[es[i]]) (by omega) (by omega) (by simp;omega)
   rw [jp] at ih
   exact ih
theorem jul (es:List j3l) (p t:Int):jaH (lvE es) p t=jaH es p t:=by
 unfold jaH lvE
 rw [List.any_filter]
 congr 1
 funext x
 cases x.1==0<;>simp
theorem jum (es:List j3l) (p t:Int):jaH (otE es) p t=false:=by
 unfold jaH otE
 rw [List.any_filter]
 rw [kc]
 intro x _
 cases x.1==0<;>simp
theorem jun (u v:List j3l) (p t:Int):jaH (u++v) p t=(jaH u p t||jaH v p t):=by simp [jaH]
theorem jhg (t:Int):∀ (u v:List j3l) (p:Int),jdd t p (u++v)=jdd t (jdd t p u) v
 | [],_,_=>rfl
 | x::r,v,p=>jhg t r v (jnX t p x)
theorem jgH (t:Int):∀ (es:List j3l) (p:Int),jdd t p (lvE es)=p
 | [],_=>rfl
 | x::r,p=>by
  unfold lvE
  rw [List.filter_cons]
  by_cases h:x.1=0
  ·rw [if_pos (by simp [h])]
   show jdd t (jnX t p x) (lvE r)=p
   rw [jjH h]
   exact jgH t r p
  ·rw [if_neg (by simp [h])]
   exact jgH t r p
theorem je9 (t:Int):∀ (es:List j3l) (p:Int),jdd t p (otE es)=jdd t p es
 | [],_=>rfl
 | x::r,p=>by
  unfold otE
  rw [List.filter_cons]
  by_cases h:x.1=0
  ·rw [if_neg (by simp [h])]
   show jdd t p (otE r)=jdd t (jnX t p x) r
   rw [jjH h]
   exact je9 t r p
  ·rw [if_pos (by simp [h])]
   exact je9 t r (jnX t p x)
theorem jte (es:List j3l) (t:Int) (Pf:Nat→Int):jeD (lvE es++otE es) t Pf=jeD es t Pf∧jeD (otE es++lvE es) t Pf=jeD es t Pf:=by
 constructor<;>(funext i;simp only [jeD,jun,jul,jum,Bool.or_false,za])
theorem jtf {zs:List j1l} {cs:List CalT} {nm:ByteArray} {ls:List j0L} {es:List j3l} {t:Int} :
  whoS zs cs (nm,(ls,lvE es++otE es)) t=whoS zs cs (nm,(ls,es)) t∧whoS zs cs (nm,(ls,otE es++lvE es)) t=whoS zs cs (nm,(ls,es)) t:=by
 constructor
 ·show jdd t (topP (lvE es++otE es) t (pfX zs cs ls t) ls.length) (lvE es++otE es)=jdd t (topP es t (pfX zs cs ls t) ls.length) es
  rw [jnZ (jte es t _).1,jhg,jgH,je9]
 ·show jdd t (topP (otE es++lvE es) t (pfX zs cs ls t) ls.length) (otE es++lvE es)=jdd t (topP es t (pfX zs cs ls t) ls.length) es
  rw [jnZ (jte es t _).2,jhg,je9,jgH]
section
variable {zs:List j1l} {ps:List j0W} {cs:List CalT} (hs:SOk2 zs ps cs)
include hs
theorem jtg {s:j1P} (hc:jbk (zs,(ps,(cs,[s])))) {t:Int} (h0:0≤t) (h1:t≤8589934592):jlu (zs,(ps,(cs,[s]))) 0 t=some (topP s.2.2 t (pfX zs cs s.2.1 t) s.2.1.length):=by
 have hk:=hc.sc s (by simp)
 have hll:=hk.ll;have hel:=hk.el
 have lp:=jtb hs (ss:=[s]) (nm:=s.1) (es:=s.2.2) (by omega) (by omega) hk.ly h0 h1 s.2.1.length (jv _)
 have et:∃ k,jlt (zs,(ps,(cs,[s]))) 0 t=some (k,topP s.2.2 t (pfX zs cs s.2.1 t) s.2.1.length):=by
  simp only [jlt,qb]
  rw [j0Y (show (0:Int)≤0 by omega) (show (0:Int)<((1:Nat):Int) by omega)]
  simp only [j5,show Int.toNat 0=0 from rfl,List.getD_cons_zero,show Int.ofNat s.2.1.length=(s.2.1.length:Int) from rfl]
  rw [j02 (x:=(s.2.1.length:Int)-1) (by omega) (by omega),show jbM t ((s.2.1.length:Int)-1) zs ps cs [s] s.1 s.2.1 s.2.2=_ from lp]
  simp only [j3,topP]
  cases topI (jeD s.2.2 t (pfX zs cs s.2.1 t)) s.2.1.length with
  | none=>exact ⟨_,rfl⟩
  | some k=>exact ⟨_,rfl⟩
 obtain ⟨k,et⟩:=et
 simp only [jlu,jsy,qb]
 rw [j01 (show (0:Int)≥0 by omega),j01 (show (0:Int)<Int.ofNat 1 by decide),j01 (show t≥0 from h0),j01 h1]
 simp only [j5,jvL hc (jvP hs),j3,qd,jc,j6,et]
theorem juV {nm:ByteArray} {ls:List j0L} {es:List j3l} (hc:jbk (zs,(ps,(cs,[(nm,(ls,es))])))) (hc1:jbk (zs,(ps,(cs,[(nm,(ls,lvE es++otE es))])))) (hc2:jbk (zs,(ps,(cs,[(nm,(ls,otE es++lvE es))])))) (hel:(otE es).length≤48) {L:List Int}:∀ (n:Nat) (q a:Int),q+n=8→0≤q→DOk L a→
  j5v q zs ps cs [(nm,(ls,es))] L a (otE es) zs ps cs [(nm,(ls,lvE es++otE es))] zs ps cs [(nm,(ls,otE es++lvE es))]=some (.inr ())
 | 0,q,a,hq,q0,hd=>by
  rw [j8M]
  simp only [j2u]
  rw [j00 (by omega),j6,j0d]
 | n+1,q,a,hq,q0,hd=>by
  obtain ⟨t,a',e,t0,t1,d'⟩:=jkM hd
  have ih:=juV hc hc1 hc2 hel (L:=L) n (q+1) a' (by omega) (by omega) d'
  have ef:=jpm (es:=otE es) (by omega) (t:=t) (otE es).length 0 (topP es t (pfX zs cs ls t) ls.length) (by omega)
  rw [kr,je9] at ef
  rw [j8M]
  simp only [j2u,e,j3]
  rw [j01 (show q<8 by omega),j5,jpn hs hc (by omega) (by omega),jpn hs hc1 (by omega) (by omega),jpn hs hc2 (by omega) (by omega),jtg hs hc (by omega) (by omega),jtf.1,jtf.2,j02 (x:=q+1) (by omega) (by omega)]
  simp only [j3,jb,j6,j8u]
  rw [show j4N (topP es t (pfX zs cs ls t) ls.length) t (otE es) (Int.ofNat (otE es).length) 0=_ from ef]
  simp only [j3,show whoS zs cs (nm,(ls,es)) t=jdd t (topP es t (pfX zs cs ls t) ls.length) es from rfl,jb,j6,j09]
  exact ih
end
theorem jkb (t:List Int) (_h:Wf (.list (.int .i64)) t):ja5 t=some true:=by
 simp only [ja5,jgY,j3,show Int.ofNat (List.length t)=(t.length:Int) from rfl]
 by_cases hl:(t.length:Int)≤500
 ·rw [j01 hl]
  simp only [jc,j6,jiZ,j3]
  obtain ⟨zs,ps,cs,nm,ls,es0,a1,e1,hs,hc0,hll,hel,d1⟩:=jvQ (L:=t) (a:=0) ⟨by omega,by omega,by omega⟩
  obtain ⟨es,a2,e2,hes,hc,d2⟩:=jnY hs 3 a1 (nm,(ls,es0)) [] d1 hc0 hll (by show es0.length+3≤6;omega)
  have hk:=hc.sc (nm,(ls,es)) (by simp)
  have hl1:(lvE es).length≤es.length:=List.length_filter_le ..
  have hl2:(otE es).length≤es.length:=List.length_filter_le ..
  have m1:∀ x∈lvE es,ECk ps.length x:=fun x hx=>hk.ed x ((List.mem_filter.1 hx).1)
  have m2:∀ x∈otE es,ECk ps.length x:=fun x hx=>hk.ed x ((List.mem_filter.1 hx).1)
  have c1:jbk (zs,(ps,(cs,[(nm,(ls,lvE es++otE es))]))):=juU hs hc (fun x hx=>(jo.1 hx).elim (m1 x) (m2 x)) (by simp;omega)
  have c2:jbk (zs,(ps,(cs,[(nm,(ls,otE es++lvE es))]))):=juU hs hc (fun x hx=>(jo.1 hx).elim (m2 x) (m1 x)) (by simp;omega)
  have sh:=jwU hc
  have hp1:=hs.so.p1;have hz1:=hs.so.z1;have hc1:=hs.so.c1
  have hcp:=jvJ (zs:=zs) (ps:=ps) (cs:=cs) (ss:=[(nm,(ls,es))]) (by omega) (by omega) (by omega) (by simp) (fun s hs=>by simp only [jx] at hs;subst hs;exact ⟨by show ls.length≤1000;omega,by show es.length≤1000;omega⟩)
  have l0:=jtd (es:=es) (by omega) (zs:=zs) (ps:=ps) (cs:=cs) (ss:=[(nm,(ls,es))]) (D:=t) (a:=a2) es.length 0 [] [] (by omega) (by simp) (by simp)
  rw [kr,k7,k7] at l0
  simp only [e1,j3,j94]
  rw [show j3y 0 3 t a1 zs ps cs [(nm,(ls,es0))]=_ from e2]
  simp only [j3,qb,List.getD_cons_zero]
  rw [j0Y (show (0:Int)≤0 by omega) (show (0:Int)<((1:Nat):Int) by omega),j5,show j43 es (Int.ofNat es.length) 0 zs ps cs [(nm,(ls,es))] t a2 [] []=_ from l0]
  simp only [j3,show jbL (zs,(ps,(cs,[(nm,(ls,es))])))=_ from hcp,qb,List.getD_cons_zero,k7,List.length_nil,zb]
  rw [j0Y (show (0:Int)≤0 by omega) (show (0:Int)<((1:Nat):Int) by omega),j01 (show 0+(lvE es).length≤j07 by simp [j07];omega),j01 (show (lvE es).length+(otE es).length≤j07 by simp [j07];omega),
   j01 (show 0+(otE es).length≤j07 by simp [j07];omega),j01 (show (otE es).length+(lvE es).length≤j07 by simp [j07];omega)]
  simp only [j5]
  rw [juV hs hc c1 c2 (by omega) 8 0 a2 (by omega) (by omega) d2]
  simp only [j3,j4Q,jux]
 ·rw [j00 hl]
  simp only [js,j5,jux,j3]
end Go.Proofs.Pw
