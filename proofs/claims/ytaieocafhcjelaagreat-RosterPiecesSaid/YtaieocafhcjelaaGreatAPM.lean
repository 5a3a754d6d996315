/- The references of chapters 11 to 14: who is on duty, who is on call. -/
import Derived.Test.YtaieocafhcjelaaGreatAPL
import Derived.Test.YtaieocafhcjelaaGreatAPJ
import Derived.Test.YtaieocafhcjelaaGreatAPI
import Derived.Test.YtaieocafhcjelaaGreatAPK
noncomputable section
open Go Go.Lft
namespace Go.Proofs.Pw
theorem jBo {w:WL} (hl:w.length≤14) (s:Int):∀ (n i:Nat),i+n=w.length→j9l w s (i:Int)=some (cond (hasB s (w.drop i)) (.inl true) (.inr ()))
 | 0,i,hi=>by
  rw [jfZ]
  simp only [j5r,show Int.ofNat w.length=(w.length:Int) from rfl]
  rw [j00 (by omega),j6,j08,jc (by omega)]
  rfl
 | n+1,i,hi=>by
  have hi':i<w.length:=by omega
  have hgd:w.getD i ((0:Int),(0:Int))=w[i]:=by simp [List.getD,hi']
  rw [jfZ]
  simp only [j5r,show Int.ofNat w.length=(w.length:Int) from rfl]
  rw [j01 (by omega),j0s (by omega) (by omega)]
  simp only [j5,qy,j7,hgd]
  rw [j02 (x:=(i:Int)+1) (by omega) (by omega),jb hi']
  have hb:hasB s (w[i]::w.drop (i+1))=cond (cond (decide (w[i].1≤s)) (decide (s<w[i].2)) false) true (hasB s (w.drop (i+1))):=rfl
  rw [hb]
  by_cases h1:w[i].1≤s
  ·rw [j01 (show s≥w[i].1 from h1)]
   simp only [j5]
   by_cases h2:s<w[i].2
   ·rw [j01 h2]
    rfl
   ·rw [j00 h2]
    simp only [j6,j05]
    exact jBo hl s n (i+1) (by omega)
  ·rw [j00 (show ¬ s≥w[i].1 from h1)]
   simp only [j6,j05]
   exact jBo hl s n (i+1) (by omega)
theorem jya {w:WL} (hl:w.length≤14) (s:Int):jhC w s=some (hasB s w):=by
 have:=jBo hl s w.length 0 (by omega)
 simp only [jhC,show j9l w s 0=_ from this,j3,jy]
 cases hasB s w<;>rfl
theorem jCQ {z:j1R} (hz:ZOk z) {t:Int} (h0:0≤t) (h1:t≤8589934592):j4d z t=some (locD z t,0):=by
 have h4:=hz.zref.2.1
 obtain ⟨k,hk,k1,k2⟩:=jfF h4.2 h0 h1
 have e:=jk3 h4.2 hk k1 k2
 have:locD z t=((t+tof z.2.1 (tb z).2 k)/86400,(t+tof z.2.1 (tb z).2 k)%86400):=by
  simp only [locD,show j0q (tb z) t=_ from e,z6]
 rw [this]
 exact juQ h4 h0 h1 hk k1 k2
theorem jCR {z:j1R} (hz:ZOk z) {t:Int} (h0:0≤t) (h1:t≤8589934592) {w:WL} (hw:WOk 0 w) (hl:w.length≤14):jcc z t=some (secD (locD z t),0)∧jrs z w t=some (hasB (secD (locD z t)) w):=by
 have e1:=jCQ hz h0 h1
 obtain ⟨_,hsc⟩:=jqB hz h0 h1
 have e2:jhB (locD z t)=some (secD (locD z t)):=hsc
 have e3:jcc z t=some (secD (locD z t),0):=by
  simp only [jcc,show j4d (z.1,(z.2.1,z.2.2)) t=_ from e1,j3,jd,j6,show jhB ((locD z t).1,(locD z t).2)=_ from e2]
 refine ⟨e3,?_⟩
 simp only [jrs,show jcc (z.1,(z.2.1,z.2.2)) t=_ from e3,j3,qe,j5,r5ck hw hl,jya hl]
section
variable {zs:List j1R} {ps:List j1q} {cs:List CalT} (hs:SOk2 zs ps cs)
include hs
theorem jBp {k d e:Int} {x:CalT} (hx:CCk zs.length x) {L:j0w}:∀ (n i:Nat) (b:Bool),i+n=x.2.2.length→b=decide (d∈x.2.2.take i)→
  j8K k b (i:Int) L.1 L.2.1 L.2.2.1.1 L.2.2.1.2 L.2.2.2.1 L.2.2.2.2.1 L.2.2.2.2.2.1 L.2.2.2.2.2.2.1 L.2.2.2.2.2.2.2.1 L.2.2.2.2.2.2.2.2 x.1 x.2.1 x.2.2 d e=
   some (k,decide (d∈x.2.2),L.1,L.2.1,L.2.2.1.1,L.2.2.1.2,L.2.2.2.1,L.2.2.2.2.1,L.2.2.2.2.2.1,L.2.2.2.2.2.2.1,L.2.2.2.2.2.2.2.1,L.2.2.2.2.2.2.2.2)
 | 0,i,b,hi,hb=>by
  rw [jhZ]
  simp only [j6J,show Int.ofNat x.2.2.length=(x.2.2.length:Int) from rfl]
  rw [j00 (by omega),j6,j08,hb,List.take_of_length_le (by omega)]
 | n+1,i,b,hi,hb=>by
  have _:=hs
  have hxl:=hx.len
  have hi':i<x.2.2.length:=by omega
  have hgd:x.2.2.getD i (0:Int)=x.2.2[i]:=by simp [hi']
  rw [jhZ]
  simp only [j6J,show Int.ofNat x.2.2.length=(x.2.2.length:Int) from rfl]
  rw [j01 (by omega),j02 (x:=(i:Int)+1) (by omega) (by omega),j5]
  have ht:x.2.2.take (i+1)=x.2.2.take i++[x.2.2[i]]:=by rw [ke,ji hi'];rfl
  cases hbb:b with
  | true=>
   simp only [j5,j05]
   refine jBp hx n (i+1) true (by omega) ?_
   have:d∈x.2.2.take i:=kx (by rw [←hb,hbb])
   rw [ht]
   exact (j01 (kb _ this)).symm
  | false=>
   have hnm:d∉x.2.2.take i:=of_decide_eq_false (by rw [←hb,hbb])
   rw [j0s (show (0:Int)≤(i:Int) by omega) (by omega)]
   simp only [j6,j5,j7,hgd,j05]
   refine jBp hx n (i+1) _ (by omega) ?_
   rw [ht]
   by_cases he:x.2.2[i]=d
   ·rw [j4Q he]
    exact (j01 (ki _ (by simp [he]))).symm
   ·rw [j2c he]
    refine (j00 fun hm=> ?_).symm
    rcases jq.1 hm with h | h
    ·exact hnm h
    ·simp at h;exact he h.symm
theorem jyb {L:j0w} (hL:LCk zs.length ps.length cs.length L) {ss:List j1y} {t:Int} (h0:0≤t) (h1:t≤8589934592):∃ k,jfb (zs,(ps,(cs,ss))) L t=some (k,onX zs cs L t)∧(onX zs cs L t=true→k=shK (zAt zs L.2.1) L t):=by
 have hRt:=hL.rt2
 have hz:ZOk (zAt zs L.2.1):=zget hs.so.ok hL.z0 hL.z1
 have h4:=hz.zref.2.1
 obtain ⟨K,eK,hK⟩:=jDt h4 hRt h0 h1
 have hKs:K=shK (zAt zs L.2.1) L t:=ShO.uniq h4.2 hRt hK (jhf hz hRt h0 h1).2
 subst hKs
 have ek:jgM (zAt zs L.2.1) L t=some (shK (zAt zs L.2.1) L t,0):=by
  simp only [jgM,show jgI ((zAt zs L.2.1).1,((zAt zs L.2.1).2.1,(zAt zs L.2.1).2.2)) (L.1,L.2.1,(L.2.2.1.1,L.2.2.1.2),L.2.2.2.1,L.2.2.2.2.1,L.2.2.2.2.2.1,L.2.2.2.2.2.2.1,L.2.2.2.2.2.2.2.1,L.2.2.2.2.2.2.2.2)=_ from jtU h4 L,j3]
  rw [if_pos hRt,j00 (show ¬ t<0 by omega),j00 (show ¬ t>8589934592 by omega)]
  simp only [jd,j6]
  rw [show jgL ((zAt zs L.2.1).1,((zAt zs L.2.1).2.1,(zAt zs L.2.1).2.2)) (L.1,L.2.1,(L.2.2.1.1,L.2.2.1.2),L.2.2.2.1,L.2.2.2.2.1,L.2.2.2.2.2.1,L.2.2.2.2.2.2.1,L.2.2.2.2.2.2.2.1,L.2.2.2.2.2.2.2.2) t=_ from eK]
  rfl
 obtain ⟨_,ein⟩:=jCR hz h0 h1 hL.w hL.wl
 have htail:(cond (L.2.2.2.2.2.2.2.2==(0:Int)) (some (shK (zAt zs L.2.1) L t,true)) (cond (inR L.2.2.2.2.2.2.2.1 cs.length) (cond (inR (cs.getD L.2.2.2.2.2.2.2.1.toNat (ByteArray.empty,((0:Int),([]:List Int)))).2.1 zs.length)
   ((j4d ((zs.getD (cs.getD L.2.2.2.2.2.2.2.1.toNat (ByteArray.empty,((0:Int),([]:List Int)))).2.1.toNat (ByteArray.empty,((0:Int),([]:List Rule)))).1,((zs.getD (cs.getD L.2.2.2.2.2.2.2.1.toNat (ByteArray.empty,((0:Int),([]:List Int)))).2.1.toNat (ByteArray.empty,((0:Int),([]:List Rule)))).2.1,(zs.getD (cs.getD L.2.2.2.2.2.2.2.1.toNat (ByteArray.empty,((0:Int),([]:List Int)))).2.1.toNat (ByteArray.empty,((0:Int),([]:List Rule)))).2.2)) t).bind fun r67=>
     (j8K (shK (zAt zs L.2.1) L t) false 0 L.1 L.2.1 L.2.2.1.1 L.2.2.1.2 L.2.2.2.1 L.2.2.2.2.1 L.2.2.2.2.2.1 L.2.2.2.2.2.2.1 L.2.2.2.2.2.2.2.1 L.2.2.2.2.2.2.2.2 (cs.getD L.2.2.2.2.2.2.2.1.toNat (ByteArray.empty,((0:Int),([]:List Int)))).1 (cs.getD L.2.2.2.2.2.2.2.1.toNat (ByteArray.empty,((0:Int),([]:List Int)))).2.1 (cs.getD L.2.2.2.2.2.2.2.1.toNat (ByteArray.empty,((0:Int),([]:List Int)))).2.2 r67.1.1 r67.1.2).bind fun q0=>
      some (q0.1,(q0.2.1==(q0.2.2.2.2.2.2.2.2.2.2.2==(2:Int))))) none) none))=some (shK (zAt zs L.2.1) L t,calB zs cs L t):=by
  by_cases hm:L.2.2.2.2.2.2.2.2=0
  ·rw [j4Q hm,j5]
   unfold calB
   rw [j4Q hm];rfl
  ·have hcal:=hL.cal hm
   have hx:=cget hs hcal.1 hcal.2
   have hxz:=zget hs.so.ok hx.z0 hx.z1
   rw [j2c hm,j6,j0s hcal.1 hcal.2,j0s hx.z0 hx.z1]
   simp only [j5]
   rw [show j4d ((zs.getD (cs.getD L.2.2.2.2.2.2.2.1.toNat (ByteArray.empty,((0:Int),([]:List Int)))).2.1.toNat (ByteArray.empty,((0:Int),([]:List Rule)))).1,((zs.getD (cs.getD L.2.2.2.2.2.2.2.1.toNat (ByteArray.empty,((0:Int),([]:List Int)))).2.1.toNat (ByteArray.empty,((0:Int),([]:List Rule)))).2.1,(zs.getD (cs.getD L.2.2.2.2.2.2.2.1.toNat (ByteArray.empty,((0:Int),([]:List Int)))).2.1.toNat (ByteArray.empty,((0:Int),([]:List Rule)))).2.2)) t=_ from jCQ hxz h0 h1]
   simp only [j3]
   rw [show j8K (shK (zAt zs L.2.1) L t) false 0 L.1 L.2.1 L.2.2.1.1 L.2.2.1.2 L.2.2.2.1 L.2.2.2.2.1 L.2.2.2.2.2.1 L.2.2.2.2.2.2.1 L.2.2.2.2.2.2.2.1 L.2.2.2.2.2.2.2.2 (cs.getD L.2.2.2.2.2.2.2.1.toNat (ByteArray.empty,((0:Int),([]:List Int)))).1 (cs.getD L.2.2.2.2.2.2.2.1.toNat (ByteArray.empty,((0:Int),([]:List Int)))).2.1 (cs.getD L.2.2.2.2.2.2.2.1.toNat (ByteArray.empty,((0:Int),([]:List Int)))).2.2 _ _=_ from jBp hs hx (L:=L) (cs.getD L.2.2.2.2.2.2.2.1.toNat (ByteArray.empty,((0:Int),([]:List Int)))).2.2.length 0 false (by omega) (by simp)]
   unfold calB
   rw [j2c hm]
   rfl
 simp only [jfb]
 rw [j0s hL.z0 hL.z1]
 simp only [j5]
 rw [show jgM ((zs.getD L.2.1.toNat (ByteArray.empty,((0:Int),([]:List Rule)))).1,((zs.getD L.2.1.toNat (ByteArray.empty,((0:Int),([]:List Rule)))).2.1,(zs.getD L.2.1.toNat (ByteArray.empty,((0:Int),([]:List Rule)))).2.2)) (L.1,L.2.1,(L.2.2.1.1,L.2.2.1.2),L.2.2.2.1,L.2.2.2.2.1,L.2.2.2.2.2.1,L.2.2.2.2.2.2.1,L.2.2.2.2.2.2.2.1,L.2.2.2.2.2.2.2.2) t=_ from ek]
 simp only [j3,jd,j6]
 by_cases hk:0≤shK (zAt zs L.2.1) L t
 ·rw [j00 (show ¬ shK (zAt zs L.2.1) L t<0 by omega)]
  simp only [j6,show Int.ofNat L.2.2.2.2.2.2.1.length=(L.2.2.2.2.2.2.1.length:Int) from rfl]
  have hon:onX zs cs L t=cond (okW L.2.2.2.2.2.2.1 (secD (locD (zAt zs L.2.1) t))) (calB zs cs L t) false:=by
   unfold onX
   rw [j01 hk];rfl
  rw [hon]
  by_cases hw:(L.2.2.2.2.2.2.1.length:Int)>0
  ·rw [j01 hw,j5,show jrs ((zs.getD L.2.1.toNat (ByteArray.empty,((0:Int),([]:List Rule)))).1,((zs.getD L.2.1.toNat (ByteArray.empty,((0:Int),([]:List Rule)))).2.1,(zs.getD L.2.1.toNat (ByteArray.empty,((0:Int),([]:List Rule)))).2.2)) L.2.2.2.2.2.2.1 t=_ from ein]
   simp only [j3]
   unfold okW
   rw [j01 hw,j5]
   cases hasB (secD (locD (zAt zs L.2.1) t)) L.2.2.2.2.2.2.1 with
   | false=>exact ⟨0,rfl,fun h=>by simp at h⟩
   | true=>
    simp only [jj,j6,j5]
    exact ⟨_,htail,fun _=>rfl⟩
  ·rw [j00 hw,j6]
   unfold okW
   rw [j00 hw]
   simp only [j6,j5]
   exact ⟨_,htail,fun _=>rfl⟩
 ·rw [j01 (show shK (zAt zs L.2.1) L t<0 by omega)]
  have hon:onX zs cs L t=false:=by
   unfold onX
   rw [j00 hk];rfl
  rw [hon]
  simp only [j5,jj,ju,Bool.or_true]
  exact ⟨0,rfl,fun h=>by simp at h⟩
theorem jzw {L:j0w} (hL:LCk zs.length ps.length cs.length L) {ss:List j1y} {t:Int} (h0:0≤t) (h1:t≤8589934592):jn1 (zs,(ps,(cs,ss))) L t=some (perX zs cs L t):=by
 obtain ⟨k,e,hk⟩:=jyb hs hL (ss:=ss) h0 h1
 have hon:=(jxW hs hL (ss:=[]) h0 h1).2.2
 simp only [jn1]
 rw [show jfb (zs,ps,cs,ss) (L.1,L.2.1,(L.2.2.1.1,L.2.2.1.2),L.2.2.2.1,L.2.2.2.2.1,L.2.2.2.2.2.1,L.2.2.2.2.2.2.1,L.2.2.2.2.2.2.2.1,L.2.2.2.2.2.2.2.2) t=_ from e]
 simp only [j3,show Int.ofNat L.2.2.2.2.2.1.length=(L.2.2.2.2.2.1.length:Int) from rfl]
 unfold perX
 cases hc:onX zs cs L t with
 | false=>rfl
 | true=>
  have hm0:=hL.m0
  have hk0:=hon hc
  have:=hk hc
  subst this
  have q1:0≤Int.tmod (shK (zAt zs L.2.1) L t) (L.2.2.2.2.2.1.length:Int):=vi _ hk0
  have q2:Int.tmod (shK (zAt zs L.2.1) L t) (L.2.2.2.2.2.1.length:Int)<(L.2.2.2.2.2.1.length:Int):=zr _ (by omega)
  rw [j2c (show ¬ (L.2.2.2.2.2.1.length:Int)=0 by omega),j0s q1 q2]
  rfl
theorem jzx:∀ z∈zs,j7t z=some 0:=fun z hz=>r4ck (hs.so.ok z hz)
theorem jzy {ss:List j1y} (hc:jhe (zs,(ps,(cs,ss)))) {L:j0w} (hL:LCk zs.length ps.length cs.length L) (hn:j51 L.1=some true) {t:Int} (h0:0≤t) (h1:t≤8589934592):jey (zs,(ps,(cs,ss))) L t=some (perX zs cs L t):=by
 obtain ⟨k,e,hk⟩:=jyb hs hL (ss:=ss) h0 h1
 have e1:=jzv hc (jzx hs)
 have e2:=jzv (jA0 (ss:=[((ByteArray.mk #[97]),([L],([]:List j43)))]) hs (by simp) (NmL.one nm_a) (fun s h=>by
  simp at h;subst h
  exact ⟨NmL.one hn,fun x hx=>by simp at hx;subst hx;exact hL,by simp,by simp,by simp⟩)) (jzx hs)
 have ef:jjC (zs,(ps,(cs,ss))) L=some true:=by
  simp only [jjC,e1,j3,qe,j5]
  rw [show j8t (zs,ps,cs,[(ByteArray.mk #[97],[(L.1,L.2.1,(L.2.2.1.1,L.2.2.1.2),L.2.2.2.1,L.2.2.2.2.1,L.2.2.2.2.2.1,L.2.2.2.2.2.2.1,L.2.2.2.2.2.2.2.1,L.2.2.2.2.2.2.2.2)],[])])=_ from e2]
  rfl
 have eo:jrt (zs,(ps,(cs,ss))) L t=some (onX zs cs L t):=by
  simp only [jrt]
  rw [j01 (show t≥0 from h0),j01 h1]
  simp only [j5]
  rw [show jjC (zs,ps,cs,ss) (L.1,L.2.1,(L.2.2.1.1,L.2.2.1.2),L.2.2.2.1,L.2.2.2.2.1,L.2.2.2.2.2.1,L.2.2.2.2.2.2.1,L.2.2.2.2.2.2.2.1,L.2.2.2.2.2.2.2.2)=_ from ef]
  simp only [j3,j5,jn0]
  rw [show jfb (zs,ps,cs,ss) (L.1,L.2.1,(L.2.2.1.1,L.2.2.1.2),L.2.2.2.1,L.2.2.2.2.1,L.2.2.2.2.2.1,L.2.2.2.2.2.2.1,L.2.2.2.2.2.2.2.1,L.2.2.2.2.2.2.2.2) t=_ from e]
  rfl
 simp only [jey]
 rw [show jrt (zs,ps,cs,ss) (L.1,L.2.1,(L.2.2.1.1,L.2.2.1.2),L.2.2.2.1,L.2.2.2.2.1,L.2.2.2.2.2.1,L.2.2.2.2.2.2.1,L.2.2.2.2.2.2.2.1,L.2.2.2.2.2.2.2.2) t=_ from eo]
 simp only [j3]
 rw [show jn1 (zs,ps,cs,ss) (L.1,L.2.1,(L.2.2.1.1,L.2.2.1.2),L.2.2.2.1,L.2.2.2.2.1,L.2.2.2.2.2.1,L.2.2.2.2.2.2.1,L.2.2.2.2.2.2.2.1,L.2.2.2.2.2.2.2.2) t=_ from jzw hs hL h0 h1]
 cases hc:onX zs cs L t with
 | false=>
  unfold perX
  rw [hc];rfl
 | true=>rfl
end
def pfX (zs:List j1R) (cs:List CalT) (ls:List j0w) (t:Int) (i:Nat):Int:=perX zs cs (ls.getD i (ByteArray.empty,((0:Int),(((0:Int),(0:Int)),((0:Int),((0:Int),(([]:List Int),(([]:List (Int×Int)),((0:Int),(0:Int)))))))))) t
def lvs (es:List j43) (p:Int):SL:=(es.filter fun x=>x.1==0&&x.2.1==p).map fun x=>(x.2.2.2.1,x.2.2.2.2)
theorem jCS {es:List j43} {p t:Int}:inS t (lvs es p)↔j9O es p t=true:=by
 unfold inS lvs j9O
 rw [zm]
 constructor
 ·rintro ⟨s,hs,h1,h2⟩
  obtain ⟨x,hx,rfl⟩:=k7.1 hs
  obtain ⟨h3,h4⟩:=vk.1 hx
  dsimp only at h1 h2
  refine ⟨x,h3,?_⟩
  simp only [ja,jl] at h4 ⊢
  exact ⟨h4.1,h4.2,h1,h2⟩
 ·rintro ⟨x,hx,h⟩
  simp only [ja,jl] at h
  exact ⟨_,k7.2 ⟨x,vk.2 ⟨hx,by simp only [ja];exact ⟨h.1,h.2.1⟩⟩,rfl⟩,h.2.2.1,h.2.2.2⟩
theorem jBq {es:List j43} (hl:es.length≤1000) {p:Int}:∀ (n i:Nat) (acc:SL),i+n=es.length→acc.length≤i→j4J p es (es.length:Int) (i:Int) acc=some (acc++lvs (es.drop i) p)
 | 0,i,acc,hi,_=>by
  rw [jdA]
  simp only [j4m]
  rw [j00 (by omega),j6,j08,jc (by omega)]
  simp [lvs]
 | n+1,i,acc,hi,ha=>by
  have hi':i<es.length:=by omega
  have hgd:es.getD i ((0:Int),((0:Int),((0:Int),((0:Int),(0:Int)))))=es[i]:=by simp [List.getD,hi']
  rw [jdA]
  simp only [j4m]
  rw [j01 (by omega),j0s (by omega) (by omega),j02 (x:=(i:Int)+1) (by omega) (by omega)]
  simp only [j5,j7,hgd]
  have hc:cond (es[i].1==(0:Int)) (es[i].2.1==p) false=(es[i].1==0&&es[i].2.1==p):=by cases es[i].1==(0:Int)<;>rfl
  rw [hc,jb hi']
  cases hx:(es[i].1==0&&es[i].2.1==p) with
  | true=>
   rw [j5,j01 (by simp [j07];omega),j5,j05]
   have:=jBq hl (p:=p) n (i+1) (acc++[(es[i].2.2.2.1,es[i].2.2.2.2)]) (by omega) (by simp;omega)
   have e:lvs (es[i]::es.drop (i+1)) p=(es[i].2.2.2.1,es[i].2.2.2.2)::lvs (es.drop (i+1)) p:=by simp only [lvs,List.filter_cons,hx,if_true,kj]
   rw [e]
   rw [jk] at this
   exact this
  | false=>
   rw [j6,j05]
   have:=jBq hl (p:=p) n (i+1) acc (by omega) (by omega)
   have e:lvs (es[i]::es.drop (i+1)) p=lvs (es.drop (i+1)) p:=by
    unfold lvs
    rw [List.filter_cons_of_neg (by simp only [hx];simp)]
   rw [e]
   exact this
theorem jyc {es:List j43} {np:Nat} (hE:∀ x∈es,ECk np x) (hl:es.length≤48) (nm:ByteArray) (ls:List j0w) (p:Int) :
  ∃ out,j4z (nm,(ls,es)) p=some out∧StS (-1) out∧(∀ t,inS t out↔j9O es p t=true)∧out.length≤es.length:=by
 have lp:=jBq (es:=es) (by omega) (p:=p) es.length 0 [] (by omega) (by simp)
 rw [jt,jy] at lp
 have hfl:(lvs es p).length≤es.length:=by unfold lvs;rw [kv];exact List.length_filter_le _ _
 have hb:∀ s∈lvs es p,0≤s.1∧s.1<s.2∧s.2≤1000000000000:=fun s h=>by
  obtain ⟨x,hx,rfl⟩:=k7.1 h
  have:=hE x (vk.1 hx).1
  exact ⟨this.f0,this.ft,this.t1⟩
 obtain ⟨out,e,h1,h2,h3,h4⟩:=jmf (l:=lvs es p) (by omega) (fun s h=>by have:=hb s h;omega) (lo:=0) (hi:=1000000000000) (fun s h _=>by have:=hb s h;omega)
 refine ⟨out,?_,h1,fun t=>(h2 t).trans jCS,by omega⟩
 simp only [j4z,show Int.ofNat es.length=(es.length:Int) from rfl]
 rw [show j4J p es (es.length:Int) 0 []=_ from lp]
 simp only [j3,e]
theorem jvU {β:Type} (l:List (Int×β)) (k:Int) (v:β) (j:Int):j8m (j7V l k v) j=(j==k||j8m l j):=by
 induction l with
 | nil=>simp [j7V,j8m]
 | cons x r ih=>
  simp only [j7V]
  by_cases h:k=x.1
  ·rw [j4Q h,j5]
   simp only [j8m,List.any_cons]
   rw [←h]
   cases j==k<;>simp
  ·rw [j2c h,j6]
   have:j8m (x::j7V r k v) j=(j==x.1||j8m (j7V r k v) j):=rfl
   rw [this,ih]
   have:j8m (x::r) j=(j==x.1||j8m r j):=rfl
   rw [this]
   cases j==x.1<;>cases j==k<;>simp
theorem jp5 {β:Type} (d:β) (l:List (Int×β)) (k:Int) (v:β) (j:Int):j6u d (j7V l k v) j=cond (j==k) v (j6u d l j):=by
 induction l with
 | nil=>rfl
 | cons x r ih=>
  simp only [j7V]
  by_cases h:k=x.1
  ·rw [j4Q h,j5]
   show cond (j==k) v (j6u d r j)=cond (j==k) v (cond (j==x.1) x.2 (j6u d r j))
   rw [←h]
   cases j==k<;>rfl
  ·rw [j2c h,j6]
   show cond (j==x.1) x.2 (j6u d (j7V r k v) j)=cond (j==k) v (cond (j==x.1) x.2 (j6u d r j))
   rw [ih]
   by_cases hj:j=x.1
   ·rw [j4Q hj,j5,j2c (show ¬ j=k by omega)]
    rfl
   ·rw [j2c hj]
    rfl
def OrS (p:Int):SgL→Prop
 | []=>True
 | x::r=>p≤x.1∧x.1<x.2.1∧OrS x.2.1 r
def inG (t:Int) (l:SgL):Prop:=∃ x∈l,x.1≤t∧t<x.2.1
theorem jki {t:Int} {s:SgT} {l:SgL}:inG t (s::l)↔(s.1≤t∧t<s.2.1)∨inG t l:=by
 constructor
 ·rintro ⟨u,hu,h⟩
  rcases jf.1 hu with rfl | hu
  ·exact .inl h
  ·exact .inr ⟨u,hu,h⟩
 ·rintro (h | ⟨u,hu,h⟩)
  ·exact ⟨s,by simp,h⟩
  ·exact ⟨u,by simp [hu],h⟩
theorem jtV {t:Int}:¬ inG t []:=by rintro ⟨s,hs,_⟩;simp at hs
theorem OrS.weak {p q:Int} (hq:q≤p):∀ {l:SgL},OrS p l→OrS q l
 | [],_=>trivial
 | _::_,h=>⟨by have:=h.1;omega,h.2⟩
theorem OrS.low {p t:Int}:∀ {l:SgL},OrS p l→inG t l→p≤t
 | [],_,h=>absurd h jtV
 | s::r,h,hx=>by
  rcases jki.1 hx with hx | hx
  ·have:=h.1;omega
  ·have:=OrS.low h.2.2 hx;have:=h.1;have:=h.2.1;omega
theorem OrS.app {e:Int} {r:SgL} (hr:OrS e r):∀ {l:SgL} {p:Int},OrS p l→p≤e→(∀ x∈l,x.2.1≤e)→OrS p (l++r)
 | [],_,_,hp,_=>hr.weak hp
 | x::l,p,h,_,hl=>⟨h.1,h.2.1,hr.app h.2.2 (hl x (by simp)) (fun y hy=>hl y (by simp [hy]))⟩
theorem OrS.apart {p:Int}:∀ {l:SgL},OrS p l→l.Pairwise (fun x y=>x.2.1≤y.1)∧∀ x∈l,p≤x.1
 | [],_=>⟨List.Pairwise.nil,by simp⟩
 | x::l,h=>by
  obtain ⟨h1,h2⟩:=OrS.apart h.2.2
  exact ⟨qb.2 ⟨h2,h1⟩,fun y hy=>by
   rcases jf.1 hy with rfl | hy
   ·exact h.1
   ·have:=h2 y hy;have:=h.1;have:=h.2.1;omega⟩
def lvO (s:j1y) (p:Int):SL:=(j4z s p).getD []
def woO (s:j1y) (x:SgT):SL:=(j2k [(x.1,x.2.1)] (lvO s x.2.2)).getD []
def prs (s:j1y) (x:SgT):SgL:=if x.2.2<0 then [] else (woO s x).map fun u=>(u.1,(u.2,x.2.2))
section
variable {nm:ByteArray} {ls:List j0w} {es:List j43} {np:Nat} (hE:∀ x∈es,ECk np x) (hl:es.length≤48)
include hE hl
theorem jAl (p:Int):j4z (nm,(ls,es)) p=some (lvO (nm,(ls,es)) p)∧StS (-1) (lvO (nm,(ls,es)) p)∧(∀ t,inS t (lvO (nm,(ls,es)) p)↔j9O es p t=true)∧(lvO (nm,(ls,es)) p).length≤es.length:=by
 obtain ⟨out,e,h⟩:=jyc hE hl nm ls p
 have:lvO (nm,(ls,es)) p=out:=by simp [lvO,e]
 rw [this]
 exact ⟨e,h⟩
theorem jyd {x:SgT} (hx:x.1<x.2.1):j2k [(x.1,x.2.1)] (lvO (nm,(ls,es)) x.2.2)=some (woO (nm,(ls,es)) x)∧StS (x.1-1) (woO (nm,(ls,es)) x)∧
  (∀ t,inS t (woO (nm,(ls,es)) x)↔(x.1≤t∧t<x.2.1)∧j9O es x.2.2 t=false)∧(woO (nm,(ls,es)) x).length≤1+es.length:=by
 obtain ⟨_,l1,l2,l3⟩:=jAl (nm:=nm) (ls:=ls) hE hl x.2.2
 obtain ⟨out,e,h1,h2,h3⟩:=jl8 (B:=lvO (nm,(ls,es)) x.2.2) (by omega) (A:=[(x.1,x.2.1)]) (p:=x.1-1) ⟨by dsimp only;omega,hx,trivial⟩ l1 (by simp)
 have:woO (nm,(ls,es)) x=out:=by simp [woO,e]
 rw [this]
 refine ⟨e,h1,fun t=> ?_,by rw [qg] at h3;omega⟩
 rw [h2 t,l2 t,j1r]
 constructor
 ·rintro ⟨h | h,h'⟩
  ·exact ⟨h,by simpa using h'⟩
  ·exact absurd h j4x
 ·rintro ⟨h,h'⟩
  exact ⟨.inl h,by simp [h']⟩
omit hE hl in
theorem jAm {S:SgL} {m j f e p:Int} {mp:List (Int×SL)} {W:SL} (hW:W.length≤1000):∀ (n i:Nat) (acc:SgL),i+n=W.length→acc.length+n≤1000000000→
  j2J S m j (W.length:Int) (i:Int) nm ls es f e p mp acc W=some (S,m,j,nm,ls,es,mp,acc++(W.drop i).map fun u=>(u.1,(u.2,p)))
 | 0,i,acc,hi,_=>by
  rw [jcp]
  simp only [j3P]
  rw [j00 (by omega),j6,j08,jc (by omega)]
  simp
 | n+1,i,acc,hi,ha=>by
  have hi':i<W.length:=by omega
  have hgd:W.getD i ((0:Int),(0:Int))=W[i]:=by simp [List.getD,hi']
  rw [jcp]
  simp only [j3P]
  rw [j01 (by omega),j0s (by omega) (by omega),j02 (x:=(i:Int)+1) (by omega) (by omega)]
  simp only [j5,j7,hgd]
  rw [j01 (by simp [j07];omega),j5,j05,jb hi',kj]
  have:=jAm (S:=S) (m:=m) (j:=j) (f:=f) (e:=e) (p:=p) (mp:=mp) hW n (i+1) (acc++[(W[i].1,(W[i].2,p))]) (by omega) (by simp;omega)
  rw [jk] at this
  exact this
theorem jye {S:SgL} (hS:S.length≤100000) (hpos:∀ x∈S,x.1<x.2.1):∀ (n i:Nat) (mp:List (Int×SL)) (acc:SgL),i+n=S.length→(∀ p,j8m mp p=true→j6u [] mp p=lvO (nm,(ls,es)) p)→acc.length≤49*i→
  j3o S (S.length:Int) (i:Int) nm ls es mp acc=some (acc++(S.drop i).flatMap (prs (nm,(ls,es))))
 | 0,i,mp,acc,hi,_,_=>by
  rw [jcq]
  simp only [j1P]
  rw [j00 (by omega),j6,j08,jc (by omega)]
  simp
 | n+1,i,mp,acc,hi,hm,ha=>by
  have hi':i<S.length:=by omega
  have hgd:S.getD i ((0:Int),((0:Int),(0:Int)))=S[i]:=by simp [List.getD,hi']
  have hp:=hpos _ (jg hi')
  rw [jcq]
  simp only [j1P]
  rw [j01 (show (i:Int)<(S.length:Int) by omega),j0s (by omega) (by omega)]
  simp only [j5,j7,hgd]
  rw [jb hi',qv]
  by_cases hneg:S[i].2.2<0
  ·rw [j01 hneg,j5,j02 (x:=(i:Int)+1) (by omega) (by omega),j05]
   have e:prs (nm,(ls,es)) S[i]=[]:=if_pos hneg
   rw [e,jt]
   exact jye hS hpos n (i+1) mp acc (by omega) hm (by omega)
  ·have e:prs (nm,(ls,es)) S[i]=(woO (nm,(ls,es)) S[i]).map fun u=>(u.1,(u.2,S[i].2.2)):=if_neg hneg
   obtain ⟨w1,_,_,w4⟩:=jyd (nm:=nm) (ls:=ls) hE hl hp
   rw [j00 hneg,j6]
   have fin:∀ mp':List (Int×SL),(∀ p,j8m mp' p=true→j6u [] mp' p=lvO (nm,(ls,es)) p)→j6u [] mp' S[i].2.2=lvO (nm,(ls,es)) S[i].2.2→
     lpK ((j2k [(S[i].1,S[i].2.1)] (j6u [] mp' S[i].2.2)).bind fun r49=>
      (j2J S (S.length:Int) (i:Int) (Int.ofNat r49.length) 0 nm ls es S[i].1 S[i].2.1 S[i].2.2 mp' acc r49).bind fun q2=>
       (some (Sum.inl (q2.1,q2.2.1,w64 (q2.2.2.1+1),q2.2.2.2.1,q2.2.2.2.2.1,q2.2.2.2.2.2.1,q2.2.2.2.2.2.2.1,q2.2.2.2.2.2.2.2)):Option ((SgL×Int×Int×ByteArray×List j0w×List j43×List (Int×SL)×SgL) ⊕ SgL)))
      (fun h=>j3o h.1 h.2.1 h.2.2.1 h.2.2.2.1 h.2.2.2.2.1 h.2.2.2.2.2.1 h.2.2.2.2.2.2.1 h.2.2.2.2.2.2.2)=some (acc++(prs (nm,(ls,es)) S[i]++(S.drop (i+1)).flatMap (prs (nm,(ls,es))))):=fun mp' hm' hg=>by
    have l2:=jAm (nm:=nm) (ls:=ls) (es:=es) (S:=S) (m:=(S.length:Int)) (j:=(i:Int)) (f:=S[i].1) (e:=S[i].2.1) (p:=S[i].2.2) (mp:=mp') (W:=woO (nm,(ls,es)) S[i]) (by omega) (woO (nm,(ls,es)) S[i]).length 0 acc (by omega) (by omega)
    rw [hg,w1]
    simp only [j3]
    rw [show j2J S (S.length:Int) (i:Int) (Int.ofNat (woO (nm,(ls,es)) S[i]).length) 0 nm ls es S[i].1 S[i].2.1 S[i].2.2 mp' acc (woO (nm,(ls,es)) S[i])=_ from l2]
    simp only [j3,jy]
    rw [j02 (x:=(i:Int)+1) (by omega) (by omega),j05,←e,←jk]
    exact jye hS hpos n (i+1) mp' _ (by omega) hm' (by rw [jh,e,kv];omega)
   cases hh:j8m mp S[i].2.2 with
   | true=>
    simp only [jj,j6]
    exact fin mp hm (hm _ hh)
   | false=>
    simp only [ju,j5]
    rw [show j4z (nm,(ls,es)) S[i].2.2=_ from (jAl (nm:=nm) (ls:=ls) hE hl S[i].2.2).1]
    simp only [j3]
    refine fin _ (fun p hp'=> ?_) ?_
    ·rw [jp5]
     by_cases hpe:p=S[i].2.2
     ·rw [j4Q hpe,j5,hpe]
     ·rw [jvU,j2c hpe,vf] at hp'
      rw [j2c hpe,j6]
      exact hm p hp'
    ·rw [jp5]
     simp
theorem jvV {S:SgL} (hS:S.length≤100000) (hpos:∀ x∈S,x.1<x.2.1):j5f (nm,(ls,es)) S=some (S.flatMap (prs (nm,(ls,es)))):=by
 simp only [j5f,show Int.ofNat S.length=(S.length:Int) from rfl]
 rw [show j3o S (S.length:Int) 0 nm ls es [] []=_ from jye hE hl hS hpos S.length 0 [] [] (by omega) (fun p h=>by simp [j8m] at h) (by simp)]
 rfl
theorem jBr {x:SgT} (hx:x.1<x.2.1):(prs (nm,(ls,es)) x).length≤1+es.length:=by
 unfold prs
 split
 ·simp
 ·rw [kv]
  exact (jyd (nm:=nm) (ls:=ls) hE hl hx).2.2.2
theorem juX:∀ {S:SgL},(∀ x∈S,x.1<x.2.1)→(S.flatMap (prs (nm,(ls,es)))).length≤S.length*(1+es.length)
 | [],_=>by simp
 | x::S,h=>by
  have h1:=jBr (nm:=nm) (ls:=ls) hE hl (h x (by simp))
  have h2:=juX (S:=S) (fun y hy=>h y (by simp [hy]))
  rw [qv,jh,jp,Nat.add_mul];omega
theorem jAn {p:Int} {c e:Int}:∀ {W:SL} {q:Int},StS q W→(∀ u∈W,u.2≤e)→OrS (q+1) (W.map fun u=>(u.1,(u.2,c)))∧(p≤q+1→OrS p (W.map fun u=>(u.1,(u.2,c))))
 | [],_,_,_=>⟨trivial,fun _=>trivial⟩
 | u::W,q,h,hb=>by
  have _:=hE;have _:=hl
  have h3:=(jAn (p:=u.2) (c:=c) (e:=e) (W:=W) h.2.2 (fun v hv=>hb v (by simp [hv]))).2 (by omega)
  exact ⟨⟨by have:=h.1;dsimp only;omega,h.2.1,h3⟩,fun hp=>⟨by have:=h.1;dsimp only;omega,h.2.1,h3⟩⟩
theorem jyf {f:Int→Int} {b:Int}:∀ {S:SgL} {a:Int},Ch f b a S→(∀ x∈S,x.1<x.2.1)→
  OrS a (S.flatMap (prs (nm,(ls,es))))∧(∀ x∈S.flatMap (prs (nm,(ls,es))),x.2.1≤b∧∀ t,x.1≤t→t<x.2.1→f t=x.2.2∧0≤x.2.2∧j9O es x.2.2 t=false)∧
   ∀ t,a≤t→t<b→0≤f t→j9O es (f t) t=false→inG t (S.flatMap (prs (nm,(ls,es))))
 | [],a,h,_=>⟨trivial,by simp,fun t h1 h2=>by have h:a=b:=h;omega⟩
 | x::S,a,h,hpos=>by
  obtain ⟨h1,h2,h3,h4⟩:=h
  have hx:=hpos x (by simp)
  obtain ⟨i1,i2,i3⟩:=jyf (f:=f) (b:=b) h4 (fun y hy=>hpos y (by simp [hy]))
  have hle:=h4.le
  obtain ⟨_,w2,w3,_⟩:=jyd (nm:=nm) (ls:=ls) hE hl hx
  have hmem:∀ y∈prs (nm,(ls,es)) x,0≤x.2.2∧y.2.2=x.2.2∧y.1<y.2.1∧x.1≤y.1∧y.2.1≤x.2.1∧∀ t,y.1≤t→t<y.2.1→j9O es x.2.2 t=false:=fun y hy=>by
   unfold prs at hy
   split at hy
   ·simp at hy
   ·obtain ⟨u,hu,rfl⟩:=k7.1 hy
    have hm:=StS.mem w2 u hu
    have e1:=(w3 (u.2-1)).1 ⟨u,hu,by omega,by omega⟩
    exact ⟨by omega,rfl,hm.2,by dsimp only;omega,by dsimp only;omega,fun t t1 t2=>((w3 t).1 ⟨u,hu,t1,t2⟩).2⟩
  rw [qv]
  refine ⟨?_,fun y hy=> ?_,fun t t1 t2 t3 t4=> ?_⟩
  ·refine OrS.app i1 ?_ h2 (fun y hy=>(hmem y hy).2.2.2.2.1)
   unfold prs
   split
   ·trivial
   ·exact (jAn hE hl (p:=a) (c:=x.2.2) (e:=x.2.1) w2 (fun u hu=>by
     have hm:=StS.mem w2 u hu
     have e1:=(w3 (u.2-1)).1 ⟨u,hu,by omega,by omega⟩
     omega)).2 (by omega)
  ·rcases jq.1 hy with hy | hy
   ·obtain ⟨g1,g2,g3,g4,g5,g6⟩:=hmem y hy
    exact ⟨by omega,fun t t1 t2=>⟨by rw [g2];exact h3 t (by omega) (by omega),by omega,by rw [g2];exact g6 t t1 t2⟩⟩
   ·exact i2 y hy
  ·by_cases hlt:t<x.2.1
   ·have hf:=h3 t t1 hlt
    rw [hf] at t3 t4
    obtain ⟨u,hu,u1,u2⟩:=(w3 t).2 ⟨⟨by omega,hlt⟩,t4⟩
    refine ⟨(u.1,(u.2,x.2.2)),kb _ ?_,u1,u2⟩
    unfold prs
    rw [if_neg (by omega)]
    exact k7.2 ⟨u,hu,rfl⟩
   ·obtain ⟨y,hy,y1,y2⟩:=i3 t (by omega) t2 t3 t4
    exact ⟨y,ki _ hy,y1,y2⟩
end
def wiF:Nat→SgL→SL→SgL
 | n+1,s::a,u::b=>(if (if u.1>s.1 then u.1 else s.1)<(if u.2<s.2.1 then u.2 else s.2.1) then [((if u.1>s.1 then u.1 else s.1),((if u.2<s.2.1 then u.2 else s.2.1),s.2.2))] else [])++
  (if s.2.1<u.2 then wiF n a (u::b) else wiF n (s::a) b)
 | _,_,_=>[]
theorem jyg:∀ (n:Nat) (a:SgL) (b:SL) (p q:Int),a.length+b.length≤n→OrS p a→StS q b→
  OrS p (wiF n a b)∧OrS q (wiF n a b)∧(∀ x∈wiF n a b,∃ s∈a,s.1≤x.1∧x.2.1≤s.2.1∧x.2.2=s.2.2∧∀ t,x.1≤t→t<x.2.1→inS t b)∧(∀ t,inG t a→inS t b→inG t (wiF n a b))∧(wiF n a b).length≤a.length+b.length
 | 0,a,b,p,q,hn,_,_=>by
  obtain rfl:a=[]:=zi.1 (by omega)
  exact ⟨trivial,trivial,by simp [wiF],fun t h=>absurd h jtV,by simp [wiF]⟩
 | n+1,[],b,p,q,_,_,_=>⟨trivial,trivial,by simp [wiF],fun t h=>absurd h jtV,by simp [wiF]⟩
 | n+1,_::_,[],p,q,_,_,_=>⟨trivial,trivial,by simp [wiF],fun t _ h=>absurd h j4x,by simp [wiF]⟩
 | n+1,s::a,u::b,p,q,hn,ha,hb=>by
  obtain ⟨a1,a2,a3⟩:=ha
  obtain ⟨b1,b2,b3⟩:=hb
  simp only [jp] at hn ⊢
  have hx:∃ f t:Int,f=(if u.1>s.1 then u.1 else s.1)∧t=(if u.2<s.2.1 then u.2 else s.2.1)∧(∀ x,(f≤x∧x<t)↔(s.1≤x∧x<s.2.1)∧(u.1≤x∧x<u.2))∧p≤f∧q≤f∧t≤s.2.1∧t≤u.2∧s.1≤f:=by
   refine ⟨_,_,rfl,rfl,fun x=> ?_,?_,?_,?_,?_,?_⟩
   ·constructor
    ·intro h;split at h<;>split at h<;>omega
    ·intro h;split<;>split<;>omega
   all_goals split<;>omega
  obtain ⟨f,t,ef,et,hi,f1,f2,t1,t2,f3⟩:=hx
  simp only [wiF,←ef,←et]
  have key:∀ (a':SgL) (b':SL) (r:SgL),OrS t r→OrS p r→OrS q r→(∀ x∈r,∃ s'∈(s::a),s'.1≤x.1∧x.2.1≤s'.2.1∧x.2.2=s'.2.2∧∀ y,x.1≤y→y<x.2.1→inS y (u::b))→(∀ y,inG y a'→inS y b'→inG y r)→
    r.length≤a'.length+b'.length→a'.length+b'.length+1=a.length+1+(b.length+1)→(∀ y,inG y (s::a)→inS y (u::b)→(f≤y∧y<t)∨(inG y a'∧inS y b'))→
    OrS p ((if f<t then [(f,(t,s.2.2))] else [])++r)∧OrS q ((if f<t then [(f,(t,s.2.2))] else [])++r)∧(∀ x∈((if f<t then [(f,(t,s.2.2))] else [])++r),∃ s'∈(s::a),s'.1≤x.1∧x.2.1≤s'.2.1∧x.2.2=s'.2.2∧∀ y,x.1≤y→y<x.2.1→inS y (u::b))∧
     (∀ y,inG y (s::a)→inS y (u::b)→inG y ((if f<t then [(f,(t,s.2.2))] else [])++r))∧((if f<t then [(f,(t,s.2.2))] else [])++r).length≤a.length+1+(b.length+1):=by
   intro a' b' r hr1 hr2 hr3 hr4 hr5 hl hl2 hiff
   by_cases hft:f<t
   ·rw [if_pos hft]
    refine ⟨⟨f1,hft,hr1⟩,⟨f2,hft,hr1⟩,fun x hx=> ?_,fun y y1 y2=> ?_,by simp;omega⟩
    ·rcases jf.1 hx with rfl | hx
     ·exact ⟨s,by simp,f3,t1,rfl,fun y y1 y2=>j1r.2 (.inl ((hi y).1 ⟨y1,y2⟩).2)⟩
     ·exact hr4 x hx
    ·rcases hiff y y1 y2 with h | h
     ·exact jki.2 (.inl h)
     ·exact jki.2 (.inr (hr5 y h.1 h.2))
   ·rw [if_neg hft,jt]
    refine ⟨hr2,hr3,hr4,fun y y1 y2=> ?_,by omega⟩
    rcases hiff y y1 y2 with h | h
    ·omega
    ·exact hr5 y h.1 h.2
  by_cases hc:s.2.1<u.2
  ·rw [if_pos hc]
   obtain ⟨i1,i2,i3,i4,i5⟩:=jyg n a (u::b) s.2.1 q (by simp;omega) a3 ⟨b1,b2,b3⟩
   refine key a (u::b) _ (i1.weak t1) (i1.weak (by omega)) i2 (fun x hx=> ?_) i4 i5 (by simp;omega) (fun y y1 y2=> ?_)
   ·obtain ⟨s',hs',r⟩:=i3 x hx
    exact ⟨s',by simp [hs'],r⟩
   ·rcases jki.1 y1 with h | h
    ·rcases j1r.1 y2 with h' | h'
     ·exact .inl ((hi y).2 ⟨h,h'⟩)
     ·have:=StS.low b3 h';omega
    ·exact .inr ⟨h,y2⟩
  ·rw [if_neg hc]
   obtain ⟨i1,i2,i3,i4,i5⟩:=jyg n (s::a) b p u.2 (by simp;omega) ⟨a1,a2,a3⟩ b3
   refine key (s::a) b _ (i2.weak t2) i1 (i2.weak (by omega)) (fun x hx=> ?_) i4 i5 (by simp;omega) (fun y y1 y2=> ?_)
   ·obtain ⟨s',hs',r1,r2,r3,r4⟩:=i3 x hx
    exact ⟨s',hs',r1,r2,r3,fun y y1 y2=>j1r.2 (.inr (r4 y y1 y2))⟩
   ·rcases j1r.1 y2 with h | h
    ·rcases jki.1 y1 with h' | h'
     ·exact .inl ((hi y).2 ⟨h',h⟩)
     ·have:=OrS.low a3 h';omega
    ·exact .inr ⟨y1,h⟩
theorem jyh {A:SgL} {B:SL} (hA:A.length≤10000000) (hB:B.length≤10000000):∀ (n i k:Nat) (acc:SgL),i≤A.length→k≤B.length→(A.length-i)+(B.length-k)=n→acc.length+n≤3000000→
  j39 A B (i:Int) (k:Int) acc=some (acc++wiF n (A.drop i) (B.drop k))
 | n,i,k,acc,hi,hk,hn,hacc=>by
  rw [jju]
  simp only [j5M,show Int.ofNat (List.length A)=(A.length:Int) from rfl,show Int.ofNat (List.length B)=(B.length:Int) from rfl]
  by_cases hend:i<A.length∧k<B.length
  ·obtain ⟨hi',hk'⟩:=hend
   obtain ⟨n,rfl⟩:∃ m,n=m+1:=⟨n-1,by omega⟩
   have gA:A.getD i ((0:Int),((0:Int),(0:Int)))=A[i]:=by simp [List.getD,hi']
   have gB:B.getD k ((0:Int),(0:Int))=B[k]:=by simp [List.getD,hk']
   rw [j01 (show (i:Int)<(A.length:Int) by omega),j01 (show (k:Int)<(B.length:Int) by omega),j0s (show (0:Int)≤(i:Int) by omega) (by omega),j0s (show (0:Int)≤(k:Int) by omega) (by omega)]
   simp only [j5,j7,gA,gB]
   rw [j02 (x:=(i:Int)+1) (by omega) (by omega),j02 (x:=(k:Int)+1) (by omega) (by omega)]
   rw [jb hi',jb hk']
   simp only [wiF]
   generalize (if B[k].1>A[i].1 then B[k].1 else A[i].1:Int)=f
   generalize (if B[k].2<A[i].2.1 then B[k].2 else A[i].2.1:Int)=t
   have ih1:∀ acc':SgL,acc'.length≤acc.length+1→j39 A B ((i:Int)+1) (k:Int) acc'=some (acc'++wiF n (A.drop (i+1)) (B[k]::B.drop (k+1))):=fun acc' ha'=>by
    have:=jyh hA hB n (i+1) k acc' (by omega) (by omega) (by omega) (by omega)
    rw [←jb hk']
    exact this
   have ih2:∀ acc':SgL,acc'.length≤acc.length+1→j39 A B (i:Int) ((k:Int)+1) acc'=some (acc'++wiF n (A[i]::A.drop (i+1)) (B.drop (k+1))):=fun acc' ha'=>by
    have:=jyh hA hB n i (k+1) acc' (by omega) (by omega) (by omega) (by omega)
    rw [←jb hi']
    exact this
   by_cases hft:f<t
   ·rw [j01 hft,if_pos hft,j01 (by simp [j07];omega)]
    simp only [j5]
    by_cases hc:A[i].2.1<B[k].2
    ·rw [j01 hc,if_pos hc]
     simp only [j5,j05]
     rw [ih1 _ (by simp),jk]
    ·rw [j00 hc,if_neg hc]
     simp only [j6,j05]
     rw [ih2 _ (by simp),jk]
   ·rw [j00 hft,if_neg hft]
    simp only [j6]
    by_cases hc:A[i].2.1<B[k].2
    ·rw [j01 hc,if_pos hc]
     simp only [j5,j05]
     rw [ih1 _ (by omega),jt]
    ·rw [j00 hc,if_neg hc]
     simp only [j6,j05]
     rw [ih2 _ (by omega),jt]
  ·have hc:cond (decide ((i:Int)<(A.length:Int))) (decide ((k:Int)<(B.length:Int))) false=false:=by
    by_cases h1:i<A.length
    ·rw [j01 (by omega),j5];exact j00 (by omega)
    ·rw [j00 (by omega),j6]
   rw [hc,j6,j08]
   have:wiF n (A.drop i) (B.drop k)=[]:=by
    by_cases h1:i<A.length
    ·rw [vl (show B.length≤k by omega)]
     cases n<;>cases A.drop i<;>rfl
    ·rw [vl (show A.length≤i by omega)]
     cases n<;>rfl
   rw [this,qo]
theorem jCT {l:SgL} (hl:l.length≤10000000):∀ (n i:Nat) (acc:SL),i+n=l.length→acc.length≤i→j5A l (l.length:Int) (i:Int) acc=some (acc++(l.drop i).map fun x=>(x.1,x.2.1))
 | 0,i,acc,hi,_=>by
  rw [jeu]
  simp only [j4K]
  rw [j00 (by omega),j6,j08,jc (by omega)]
  simp
 | n+1,i,acc,hi,ha=>by
  have hi':i<l.length:=by omega
  have hgd:l.getD i ((0:Int),((0:Int),(0:Int)))=l[i]:=by simp [List.getD,hi']
  rw [jeu]
  simp only [j4K]
  rw [j01 (by omega),j0s (by omega) (by omega),j02 (x:=(i:Int)+1) (by omega) (by omega)]
  simp only [j5,j7,hgd]
  rw [j01 (by simp [j07];omega),j5,j05,jb hi',kj]
  have:=jCT hl n (i+1) (acc++[(l[i].1,l[i].2.1)]) (by omega) (by simp;omega)
  rw [jk] at this
  exact this
theorem jzz {l:SgL} (hl:l.length≤10000000) {lo hi:Int} (h0:0≤lo) (h1:hi≤8589934592) (hb:∀ x∈l,lo≤x.1∧x.1<x.2.1∧x.2.1≤hi) :
  ∃ out,j7o l=some out∧StS (lo-1) out∧(∀ t,inS t out↔inG t l)∧out.length≤l.length:=by
 have lp:=jCT hl l.length 0 [] (by omega) (by simp)
 rw [jt,jy] at lp
 have hb':∀ s∈l.map (fun x=>(x.1,x.2.1)),lo≤s.1∧s.1<s.2∧s.2≤hi:=fun s h=>by
  obtain ⟨x,hx,rfl⟩:=k7.1 h
  exact hb x hx
 obtain ⟨out,e,g1,g2,g3,g4⟩:=jmf (l:=l.map fun x=>(x.1,x.2.1)) (by simpa using hl) (fun s h=>by have:=hb' s h;omega) (lo:=lo) (hi:=hi) (fun s h _=>by have:=hb' s h;omega)
 refine ⟨out,?_,g1,fun t=>(g2 t).trans ⟨?_,?_⟩,by simpa using g3⟩
 ·simp only [j7o,show Int.ofNat l.length=(l.length:Int) from rfl]
  rw [show j5A l (l.length:Int) 0 []=_ from lp]
  simp only [j3,e]
 ·rintro ⟨s,hs,h⟩
  obtain ⟨x,hx,rfl⟩:=k7.1 hs
  exact ⟨x,hx,h⟩
 ·rintro ⟨x,hx,h⟩
  exact ⟨_,k7.2 ⟨x,hx,rfl⟩,h⟩
end Go.Proofs.Pw
