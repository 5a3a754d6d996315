/- Chapter 11: who is on duty in a layer. -/
import Derived.Test.YtcegmhnnglcgeaaGreatIPE
import Derived.Test.YtcegmhnnglcgeaaGreatIPB
import Derived.KernelRfl
import Derived.Test.YtcegmhnnglcgeaaGreatILD
import Derived.Test.YtcegmhnnglcgeaaGreatIPA
import Derived.Test.YtcegmhnnglcgeaaGreatIFns
open Go Go.Lft
namespace Go.Proofs.Pw
def tb (z:j2E):Int×TrL:=(z.2.1,outT z.2.1 (j8M (occs z.2.2)))
theorem ZOk.ztab {z:j2E} (h:ZOk z):ZTab z (tb z).2:=MZ.tab (o:=z.2.1) (rs:=z.2.2) h z.1
theorem jtu {zs:List j2E} (h:∀ z∈zs,ZOk z) (hl:zs.length≤100):∀ (n i:Nat),i+n=zs.length→j5b zs (zs.length:Int) (i:Int) ((zs.take i).map tb)=some (zs.map tb)
 | 0,i,hi=>by
  rw [jcX]
  simp only [j2o]
  rw [j00 (by omega),j6,j0a,List.take_of_length_le (by omega)]
 | n+1,i,hi=>by
  have hlt:i<zs.length:=by omega
  have hgd:zs.getD i (ByteArray.empty,((0:Int),([]:List Rule)))=zs[i]:=by simp [hlt]
  have ht:=jys (h zs[i] (List.getElem_mem hlt)).ztab
  have ih:=jtu h hl n (i+1) (by omega)
  rw [List.take_add_one,List.getElem?_eq_getElem hlt,List.map_append] at ih
  rw [jcX]
  simp only [j2o]
  rw [j01 (by omega),j14 (by omega) (by omega),j02 (x:=(i:Int)+1) (by omega) (by omega)]
  simp only [j5,j7,hgd]
  rw [show jeE (zs[i].1,(zs[i].2.1,zs[i].2.2))=_ from ht]
  simp only [j3]
  rw [j01 (by simp [j07];omega),j5,j06]
  exact ih
theorem jwA {zs:List j2E} (h:∀ z∈zs,ZOk z) (hl:zs.length≤100) {ps:List j1E} {cs:List CalT} {ss:List j1N}:jb8 (zs,(ps,(cs,ss)))=some ((zs,(ps,(cs,ss))),zs.map tb):=by
 have lp:=jtu h hl zs.length 0 (by omega)
 simp only [jb8,j9i,show Int.ofNat zs.length=(zs.length:Int) from rfl]
 rw [show j5b zs (zs.length:Int) 0 []=_ from lp]
 rfl
theorem joJ {zs:List j2E} {i:Int} (h0:0≤i) (h1:i<(zs.length:Int)):List.getD (zs.map tb) i.toNat ((0:Int),([]:TrL))=tb (zs.getD i.toNat (ByteArray.empty,((0:Int),([]:List Rule)))):=by
 have hlt:i.toNat<zs.length:=by omega
 simp [List.getD_eq_getElem?_getD,hlt]
theorem zget {zs:List j2E} (h:∀ z∈zs,ZOk z) {i:Int} (h0:0≤i) (h1:i<(zs.length:Int)):ZOk (zs.getD i.toNat (ByteArray.empty,((0:Int),([]:List Rule)))):=by
 have hlt:i.toNat<zs.length:=by omega
 rw [List.getD_eq_getElem?_getD,List.getElem?_eq_getElem hlt]
 exact h _ (List.getElem_mem hlt)
theorem jqU (a b:Int):j9U a b=some (decide (a<b)):=by
 simp only [j9U,jaG,j3,bne_self_eq_false,j6]
theorem juW {ds:List Int} (hs:ds.Pairwise (· < ·)) (hl:ds.length≤64) {x:Int}:∀ (n a b:Nat),b-a≤n→a≤b→b≤ds.length→(∀ i,(hi:i<ds.length)→i<a→ds[i]<x)→(∀ i,(hi:i<ds.length)→b≤i→x≤ds[i])→
  ∃ k:Nat,j1h ds x (ds.length:Int) (a:Int) (b:Int)=some (ds,x,(ds.length:Int),(k:Int))∧k≤ds.length∧(∀ i,(hi:i<ds.length)→i<k→ds[i]<x)∧∀ i,(hi:i<ds.length)→k≤i→x≤ds[i]
 | n,a,b,hn,hab,hb,h1,h2=>by
  rw [j8s]
  simp only [j21]
  by_cases hlt:a<b
  ·have hm:IntKind.wrap .u64 ((a:Int)+(b:Int))=(a:Int)+(b:Int):=IntWalk.u64_in _ ⟨by omega,by omega⟩
   have hd:Int.fdiv ((a:Int)+(b:Int)) 2=(((a+b)/2:Nat):Int):=by
    rw [Int.fdiv_eq_ediv_of_nonneg _ (by omega)];omega
   have hml:(a+b)/2<ds.length:=by omega
   have hgd:ds.getD ((a+b)/2) (0:Int)=ds[(a+b)/2]:=by simp [hml]
   rw [j01 (show (a:Int)<(b:Int) by omega),j02 (x:=(a:Int)+(b:Int)) (by omega) (by omega),hm,hd,j02 (x:=(((a+b)/2:Nat):Int)) (by omega) (by omega),j14 (by omega) (by omega),j02 (x:=(((a+b)/2:Nat):Int)+1) (by omega) (by omega)]
   simp only [j5,j7,hgd,jqU,j3]
   cases n with
   | zero=>omega
   | succ n=>
    by_cases hc:ds[(a+b)/2]<x
    ·rw [j01 hc,j5,j06]
     refine juW hs hl n ((a+b)/2+1) b (by omega) (by omega) hb (fun i hi hia=> ?_) h2
     by_cases he:i=(a+b)/2
     ·subst he;exact hc
     ·exact Int.lt_trans (List.pairwise_iff_getElem.1 hs i ((a+b)/2) hi hml (by omega)) hc
    ·rw [j00 hc,j6,j06]
     refine juW hs hl n a ((a+b)/2) (by omega) (by omega) (by omega) h1 (fun i hi hia=> ?_)
     by_cases he:i=(a+b)/2
     ·subst he;exact Int.not_lt.1 hc
     ·exact Int.le_trans (Int.not_lt.1 hc) (Int.le_of_lt (List.pairwise_iff_getElem.1 hs ((a+b)/2) i hml hi (by omega)))
  ·have:a=b:=by omega
   subst this
   rw [j00 (by omega),j6,j0a]
   exact ⟨a,rfl,hb,h1,h2⟩
theorem jyE {ds:List Int} (hs:ds.Pairwise (· < ·)) (hl:ds.length≤64) (x:Int):∃ i,j0j ds x=some (i,decide (x∈ds)):=by
 obtain ⟨k,e,hk,h1,h2⟩:=juW hs hl (x:=x) ds.length 0 ds.length (by omega) (by omega) (Nat.le_refl _) (fun i _ h=>by omega) (fun i hi h=>by omega)
 rw [show ((0:Nat):Int)=0 from rfl] at e
 simp only [j0j,show Int.ofNat ds.length=(ds.length:Int) from rfl,e,j3,j7]
 by_cases hkl:k<ds.length
 ·have hgd:ds.getD k (0:Int)=ds[k]:=by simp [hkl]
  rw [j14 (by omega) (by omega),j01 (show (k:Int)<(ds.length:Int) by omega),hgd]
  simp only [Bool.true_or,j5]
  by_cases hx:ds[k]=x
  ·rw [j7a hx]
   rw [j01 (show x∈ds from hx▸List.getElem_mem hkl)]
   exact ⟨_,rfl⟩
  ·rw [j48 hx]
   have hn:¬ x∈ds:=by
    intro hm
    obtain ⟨i,hi,rfl⟩:=List.getElem_of_mem hm
    rcases Nat.lt_trichotomy i k with h | h | h
    ·have:=h1 i hi h;omega
    ·subst h;exact hx rfl
    ·have a1:=h2 k hkl (Nat.le_refl _)
     have a2:=List.pairwise_iff_getElem.1 hs k i hkl hi h
     omega
   rw [j00 hn]
   simp only [j6,j68,j3,bne_self_eq_false]
   exact ⟨_,rfl⟩
 ·have hn:¬ x∈ds:=by
   intro hm
   obtain ⟨i,hi,rfl⟩:=List.getElem_of_mem hm
   have:=h1 i hi (by omega)
   omega
  rw [j00 hn,j00 (show ¬ (k:Int)<(ds.length:Int) by omega)]
  simp only [Bool.not_false,Bool.or_true,j5,j6,Bool.false_and]
  exact ⟨_,rfl⟩
def okW (w:WL) (s:Int):Bool:=cond (decide ((w.length:Int)>0)) (hasB s w) true
section
variable {zs:List j2E} {ps:List j1E} {cs:List CalT} {ss:List j1N} (hz:∀ z∈zs,ZOk z)
include hz
theorem jxH {L:j0R} (hL:LCk zs.length ps.length cs.length L) (hRt:Rt L) {t:Int} (h0:0≤t) (h1:t≤8589934592) {z:j2E} (hzz:zs.getD L.2.1.toNat (ByteArray.empty,((0:Int),([]:List Rule)))=z)
  {s:Int} {d:Int×Int} (hd:j0v (tb z) t=some d) (hs:j3I d=some s) {K:Int} (hK:j20 (tb z) L t=some K) (b:Bool)
  (hcal:L.2.2.2.2.2.2.2.2=0→b=true) (hcal2:L.2.2.2.2.2.2.2.2≠0→∃ x:CalT,cs.getD L.2.2.2.2.2.2.2.1.toNat (ByteArray.empty,((0:Int),([]:List Int)))=x∧CCk zs.length x∧∃ d',j0v (tb (zs.getD x.2.1.toNat (ByteArray.empty,((0:Int),([]:List Rule))))) t=some d'∧b=(decide (d'.1∈x.2.2)==(L.2.2.2.2.2.2.2.2==(2:Int)))) :
  ∃ r,j4p ((zs,(ps,(cs,ss))),zs.map tb) L t=some (r,cond (decide (0≤K)) (cond (okW L.2.2.2.2.2.2.1 s) b false) false)∧(cond (decide (0≤K)) (cond (okW L.2.2.2.2.2.2.1 s) b false) false=true→r=K):=by
 have _:=hz;have _:=hRt
 have hwl:=hL.wl
 have hlen:(zs.map tb).length=zs.length:=List.length_map ..
 have hg:=joJ (zs:=zs) hL.z0 hL.z1
 rw [hzz] at hg
 simp only [j4p]
 rw [j00 (show ¬ t<0 by omega),j00 (show ¬ t>8589934592 by omega),j14 hL.z0 (by rw [hlen];exact hL.z1)]
 simp only [j6,j5,hg]
 rw [show j20 ((tb z).1,(tb z).2) (L.1,L.2.1,(L.2.2.1.1,L.2.2.1.2),L.2.2.2.1,L.2.2.2.2.1,L.2.2.2.2.2.1,L.2.2.2.2.2.2.1,L.2.2.2.2.2.2.2.1,L.2.2.2.2.2.2.2.2) t=_ from hK]
 simp only [j3]
 by_cases hk:0≤K
 ·rw [j00 (show ¬ K<0 by omega),j01 hk]
  simp only [j6,j5,show Int.ofNat L.2.2.2.2.2.2.1.length=(L.2.2.2.2.2.2.1.length:Int) from rfl]
  have tail:∃ r,(cond (L.2.2.2.2.2.2.2.2==(0:Int)) (some (K,true)) (cond (inR L.2.2.2.2.2.2.2.1 cs.length) (cond (inR (cs.getD L.2.2.2.2.2.2.2.1.toNat (ByteArray.empty,((0:Int),([]:List Int)))).2.1 (zs.map tb).length) ((j0v ((List.getD (zs.map tb) (cs.getD L.2.2.2.2.2.2.2.1.toNat (ByteArray.empty,((0:Int),([]:List Int)))).2.1.toNat ((0:Int),([]:TrL))).1,(List.getD (zs.map tb) (cs.getD L.2.2.2.2.2.2.2.1.toNat (ByteArray.empty,((0:Int),([]:List Int)))).2.1.toNat ((0:Int),([]:TrL))).2) t).bind fun r68=>
    (j0j (cs.getD L.2.2.2.2.2.2.2.1.toNat (ByteArray.empty,((0:Int),([]:List Int)))).2.2 r68.1).bind fun r70=>some (K,(r70.2==(L.2.2.2.2.2.2.2.2==(2:Int))))) none) none))=some (r,b)∧(b=true→r=K):=by
   by_cases hm:L.2.2.2.2.2.2.2.2=0
   ·rw [j7a hm,j5,hcal hm]
    exact ⟨K,rfl,fun _=>rfl⟩
   ·obtain ⟨x,hx,hxc,d',hd',hb⟩:=hcal2 hm
    have hc:=hL.cal hm
    obtain ⟨i,hi⟩:=jyE hxc.asc hxc.len d'.1
    have hg2:=joJ (zs:=zs) hxc.z0 hxc.z1
    rw [j48 hm,j6,j14 hc.1 hc.2,hx,j14 hxc.z0 (by rw [hlen];exact hxc.z1)]
    simp only [j5,hg2]
    rw [show j0v ((tb (zs.getD x.2.1.toNat (ByteArray.empty,((0:Int),([]:List Rule))))).1,(tb (zs.getD x.2.1.toNat (ByteArray.empty,((0:Int),([]:List Rule))))).2) t=_ from hd']
    simp only [j3,hi]
    rw [←hb]
    exact ⟨K,rfl,fun _=>rfl⟩
  by_cases hw:(L.2.2.2.2.2.2.1.length:Int)>0
  ·rw [j01 hw,j5,show j0v ((tb z).1,(tb z).2) t=_ from hd]
   simp only [j3,show j3I (d.1,d.2)=_ from hs,jxq hwl,okW]
   rw [j01 hw,j5]
   cases hh:hasB s L.2.2.2.2.2.2.1 with
   | true=>
    simp only [Bool.not_true,j6,j5]
    exact tail
   | false=>exact ⟨0,rfl,fun h=>by simp at h⟩
  ·simp only [okW]
   rw [j00 hw]
   simp only [j6,j5]
   exact tail
 ·rw [j01 (show K<0 by omega),j00 hk]
  exact ⟨0,rfl,fun h=>by simp at h⟩
def whoL (L:j0R) (K:Int):Int:=L.2.2.2.2.2.1.getD (Int.tmod K (L.2.2.2.2.2.1.length:Int)).toNat 0
omit hz in
theorem juX {v:CfgT×List (Int×TrL)} {L:j0R} {t r K:Int} {b:Bool} (hm:L.2.2.2.2.2.1.length≠0) (e:j4p v L t=some (r,b)) (hr:b=true→r=K) (hK:b=true→0≤K) :
  j24 v L t=some (cond b (whoL L K) (-1)):=by
 simp only [j24,show j4p ((v.1.1,v.1.2.1,v.1.2.2.1,v.1.2.2.2),v.2) (L.1,L.2.1,(L.2.2.1.1,L.2.2.1.2),L.2.2.2.1,L.2.2.2.2.1,L.2.2.2.2.2.1,L.2.2.2.2.2.2.1,L.2.2.2.2.2.2.2.1,L.2.2.2.2.2.2.2.2) t=_ from e,j3]
 cases b with
 | false=>rfl
 | true=>
  have:=hr rfl
  subst this
  have hk:=hK rfl
  have q1:0≤Int.tmod r (L.2.2.2.2.2.1.length:Int):=Int.tmod_nonneg _ hk
  have q2:Int.tmod r (L.2.2.2.2.2.1.length:Int)<(L.2.2.2.2.2.1.length:Int):=Int.tmod_lt_of_pos _ (by omega)
  simp only [Bool.not_true,j6,j5,show Int.ofNat L.2.2.2.2.2.1.length=(L.2.2.2.2.2.1.length:Int) from rfl,whoL]
  rw [j48 (show ¬ (L.2.2.2.2.2.1.length:Int)=0 by omega),j14 q1 q2]
  rfl
end
theorem LCk.rt {nz np nc:Nat} {L:j0R} (h:LCk nz np nc L) (hd:L.2.2.1.1≤100000):Rt L:=
 ⟨h.d0,hd,h.c0,h.c1,h.u0,h.u1,h.e0,h.e1,fun hn=>h.m0 (by rw [hn];rfl)⟩
theorem jxI {z:j2E} (hz:ZOk z) {t:Int} (h0:0≤t) (h1:t≤8589934592):∃ d s,j0v (tb z) t=some d∧j3I d=some s:=by
 have ht:=hz.ztab
 obtain ⟨j,hj,j1,j2⟩:=jho ht.2 h0 h1
 have o0:=ht.2.of0 j hj;have o1:=ht.2.of1 j hj
 obtain ⟨s,hs⟩:∃ s,j3I ((t+tof z.2.1 (tb z).2 j)/86400,(t+tof z.2.1 (tb z).2 j)%86400)=some s:=by
  simp only [j3I,jlW,j3]
  exact ⟨_,rfl⟩
 exact ⟨_,s,jjl ht.2 hj j1 j2,hs⟩
theorem joK:j5a 2241=some 98981:=by kernel_rfl
theorem joL:j5a 1970=some 0:=by kernel_rfl
theorem jvy {d:Int} (h:j1H d=some true):d≤100000:=by
 apply Classical.byContradiction
 intro hd
 simp only [j1H,j6F,joL,joK,j3] at h
 rw [j00 (show ¬ d<0 by omega),j01 (show d≥98981 by omega)] at h
 simp at h
theorem LCk.rt2 {nz np nc:Nat} {L:j0R} (h:LCk nz np nc L):Rt L:=h.rt (jvy h.day)
section
variable {zs:List j2E} {ps:List j1E} {cs:List CalT} (hs:SOk2 zs ps cs)
include hs
theorem cget {i:Int} (h0:0≤i) (h1:i<(cs.length:Int)):CCk zs.length (cs.getD i.toNat (ByteArray.empty,((0:Int),([]:List Int)))):=by
 have hi:i.toNat<cs.length:=by omega
 rw [show cs.getD i.toNat (ByteArray.empty,((0:Int),([]:List Int)))=cs[i.toNat] by simp [List.getD,hi]]
 exact hs.c.ck _ (List.getElem_mem hi)
end
def jcI (es:List j59) (p t:Int):Bool:=es.any fun x=>x.1==0&&(x.2.1==p&&(decide (x.2.2.2.1≤t)&&decide (t<x.2.2.2.2)))
theorem jxJ {es:List j59} {p t:Int} (hl:es.length≤1000):∀ (n i:Nat),i+n=es.length→∃ r,j0x es p t (es.length:Int) (i:Int)=some r∧
  match r with
  | .inl k=>0≤k∧jcI (es.drop i) p t=true
  | .inr _=>jcI (es.drop i) p t=false
 | 0,i,hi=>by
  rw [j3G]
  simp only [j0O]
  rw [j00 (by omega),j6,j0a,List.drop_of_length_le (by omega)]
  exact ⟨_,rfl,rfl⟩
 | n+1,i,hi=>by
  have hlt:i<es.length:=by omega
  have hgd:es.getD i ((0:Int),((0:Int),((0:Int),((0:Int),(0:Int)))))=es[i]:=by simp [List.getD,hlt]
  rw [j3G]
  simp only [j0O,jdx]
  rw [j01 (by omega),j14 (by omega) (by omega),j02 (x:=(i:Int)+1) (by omega) (by omega)]
  simp only [j5,j7,hgd,j3]
  rw [List.drop_eq_getElem_cons hlt]
  have e:(cond (cond (cond (es[i].1==(0:Int)) (es[i].2.1==p) false) (decide (es[i].2.2.2.1≤t)) false) (decide (t<es[i].2.2.2.2)) false)=(es[i].1==0&&(es[i].2.1==p&&(decide (es[i].2.2.2.1≤t)&&decide (t<es[i].2.2.2.2)))):=by
   cases es[i].1==(0:Int)<;>cases es[i].2.1==p<;>cases decide (es[i].2.2.2.1≤t)<;>rfl
  rw [e]
  have ha:jcI (es[i]::es.drop (i+1)) p t=((es[i].1==0&&(es[i].2.1==p&&(decide (es[i].2.2.2.1≤t)&&decide (t<es[i].2.2.2.2))))||jcI (es.drop (i+1)) p t):=rfl
  rw [ha]
  cases hx:(es[i].1==0&&(es[i].2.1==p&&(decide (es[i].2.2.2.1≤t)&&decide (t<es[i].2.2.2.2)))) with
  | true=>
   rw [j5,j0a]
   exact ⟨_,rfl,by omega,rfl⟩
  | false=>
   rw [j6,j06]
   obtain ⟨r,e1,e2⟩:=jxJ (es:=es) (p:=p) (t:=t) hl n (i+1) (by omega)
   exact ⟨r,e1,by simpa using e2⟩
theorem jwB {nm:ByteArray} {ls:List j0R} {es:List j59} {p t:Int} (hl:es.length≤1000):j9o (nm,(ls,es)) p t=some (jcI es p t):=by
 obtain ⟨r,e1,e2⟩:=jxJ (p:=p) (t:=t) hl es.length 0 (by omega)
 simp only [j9o,j0J,j0X,show Int.ofNat es.length=(es.length:Int) from rfl]
 rw [show j0x es p t (es.length:Int) 0=_ from e1]
 cases r with
 | inl k=>
  simp only [List.drop_zero] at e2
  simp only [j3,jmy,e2.2]
  rw [j01 (show k≥0 from e2.1)]
 | inr u=>
  simp only [List.drop_zero] at e2
  simp only [j3,j9E,e2]
  rfl
def topI (good:Nat→Bool):Nat→Option Nat
 | 0=>none
 | n+1=>cond (good n) (some n) (topI good n)
def j6B (es:List j59) (t:Int) (Pf:Nat→Int) (i:Nat):Bool:=decide (0≤Pf i) && !jcI es (Pf i) t
theorem jvz {ls:List j0R} {zs:List j2E} {ps:List j1E} {cs:List CalT} {ss:List j1N} {tbs:List (Int×TrL)} {nm:ByteArray} {es:List j59} {t b6 b7:Int} {Pf:Nat→Int} (hl:es.length≤1000)
  (hP:∀ i (h:i<ls.length),j24 ((zs,(ps,(cs,ss))),tbs) ls[i] t=some (Pf i)):∀ n:Nat,n≤ls.length→
  j43 (n:Int) ls zs ps cs ss tbs nm ls es t b6 b7=some (match topI (j6B es t Pf) n with | some i=> .inr ((i:Int),Pf i) | none=> .inl (b6,b7))
 | 0,hn=>by
  rw [jbe]
  simp only [j1W]
  rw [j01 (by omega),j5,j0a]
  rfl
 | n+1,hn=>by
  have hlt:n<ls.length:=by omega
  have hgd:ls.getD n (ByteArray.empty,((0:Int),(((0:Int),(0:Int)),((0:Int),((0:Int),(([]:List Int),(([]:List (Int×Int)),((0:Int),(0:Int)))))))))=ls[n]:=by simp [List.getD,hlt]
  have ih:=jvz (nm:=nm) (b6:=b6) (b7:=b7) hl hP n (by omega)
  have hp:=hP n hlt
  rw [jbe]
  simp only [j1W]
  rw [j00 (by omega),j01 (show ((n+1:Nat):Int)≤Int.ofNat ls.length by simp;omega),show ((n+1:Nat):Int)-1=(n:Int) by omega]
  simp only [j5,j6,j7,hgd]
  rw [show j24 ((zs,(ps,(cs,ss))),tbs) (ls[n].1,(ls[n].2.1,((ls[n].2.2.1.1,ls[n].2.2.1.2),(ls[n].2.2.2.1,(ls[n].2.2.2.2.1,(ls[n].2.2.2.2.2.1,(ls[n].2.2.2.2.2.2.1,(ls[n].2.2.2.2.2.2.2.1,ls[n].2.2.2.2.2.2.2.2)))))))) t=_ from hp]
  simp only [j3,topI,j6B]
  by_cases h0:0≤Pf n
  ·rw [j00 (show ¬ Pf n<0 by omega),j01 h0]
   simp only [j6,jwB hl,j3,Bool.true_and]
   cases jcI es (Pf n) t with
   | true=>
    simp only [Bool.not_true,j6,j06]
    exact ih
   | false=>rfl
  ·rw [j01 (show Pf n<0 by omega),j00 h0]
   simp only [j5,Bool.false_and,j6,j06]
   exact ih
theorem jm1 {ls:List j0R} {zs:List j2E} {ps:List j1E} {cs:List CalT} {ss:List j1N} {tbs:List (Int×TrL)} {nm:ByteArray} {es:List j59} {t:Int} {Pf:Nat→Int} (hl:es.length≤1000)
  (hP:∀ i (h:i<ls.length),j24 ((zs,(ps,(cs,ss))),tbs) ls[i] t=some (Pf i)) :
  j3h ((zs,(ps,(cs,ss))),tbs) (nm,(ls,es)) t=some (match topI (j6B es t Pf) ls.length with | some i=>((i:Int),Pf i) | none=>((-1:Int),(-1:Int))):=by
 have lp:=jvz (nm:=nm) (b6:=0) (b7:=0) hl hP ls.length (Nat.le_refl _)
 simp only [j3h,j1b,j3]
 rw [show j43 (Int.ofNat ls.length) ls zs ps cs ss tbs nm ls es t 0 0=_ from lp]
 cases topI (j6B es t Pf) ls.length with
 | none=>rfl
 | some i=>rfl
section
variable {zs:List j2E} {ps:List j1E} {cs:List CalT} {ss:List j1N}
theorem jtv (hz:∀ z∈zs,ZOk z) (hc:jlo (zs,(ps,(cs,ss)))):jdu (zs,(ps,(cs,ss)))=some (((zs,(ps,(cs,ss))),zs.map tb),true):=by
 have hzl:zs.length≤16:=hc.zl
 simp only [jdu,show j4U (zs,(ps,(cs,ss)))=_ from jpO hc,j3,bne_self_eq_false,j6,jwA (ps:=ps) (cs:=cs) (ss:=ss) hz (show zs.length≤100 by omega)]
def topP (es:List j59) (t:Int) (Pf:Nat→Int) (n:Nat):Int:=match topI (j6B es t Pf) n with
 | some i=>Pf i
 | none=> -1
end
def nms3:List ByteArray:=[(ByteArray.mk #[102,105,114,115,116]),(ByteArray.mk #[115,101,99,111,110,100]),(ByteArray.mk #[116,104,105,114,100])]
theorem jwC:NmL nms3:=by
 refine ⟨by decide,fun k hk=> ?_⟩
 simp only [nms3,List.mem_cons,List.not_mem_nil,or_false] at hk
 rcases hk with rfl | rfl | rfl<;>exact j8N 60 _ true (by kernel_rfl)
structure SG (nz np nc:Nat) (s:j1N):Prop where
 ck:SCk nz np nc s
 nm:s.2.1.map (·.1)=nmsL.take s.2.1.length
 ll:s.2.1.length≤3
 el:s.2.2.length≤3
theorem jvA {L:List Int} {zs:List j2E} {ps:List j1E} {cs:List CalT} (hs:SOk zs ps cs):∀ (n:Nat) (a:Int) (ss:List j1N),DOk L a→ss.length+n≤3→ss.map (·.1)=nms3.take ss.length→(∀ s∈ss,SG zs.length ps.length cs.length s)→
  ∃ ss' a',j5W (n:Int) L a zs ps cs ss=some (L,a',zs,ps,cs,ss')∧ss'.length=ss.length+n∧ss'.map (·.1)=nms3.take ss'.length∧(∀ s∈ss',SG zs.length ps.length cs.length s)∧DOk L a'
 | 0,a,ss,hd,hl,hn,hg=>by
  rw [j9b]
  simp only [j36]
  rw [j00 (by omega),j6,j0a]
  exact ⟨ss,a,rfl,rfl,hn,hg,hd⟩
 | n+1,a,ss,hd,hl,hn,hg=>by
  have hlt:ss.length<nms3.length:=by show ss.length<3;omega
  have hmod:Int.tmod (Int.ofNat ss.length) 3=(ss.length:Int):=by
   have:Int.tmod (ss.length:Int) 3=(ss.length:Int):=Int.tmod_eq_of_lt (by omega) (by omega)
   exact this
  obtain ⟨k,a3,e3,k0,k1,d3⟩:=j0Q (n:=4) hd (by omega) (by omega)
  obtain ⟨ls,a4,e4,l4,lk,ln,d4⟩:=jxC (s6:=((n+1:Nat):Int)) (nm:=List.getD nms3 ss.length ByteArray.empty) (ss:=ss) hs k.toNat a3 [] d3 (by simp;omega) (by simp) rfl
  obtain ⟨m,a5,e5,m0,m1,d5⟩:=j0Q (n:=4) d4 (by omega) (by omega)
  obtain ⟨es,a6,e6,l6,ek,d6⟩:=jxD (s6:=((n+1:Nat):Int)) (nm:=List.getD nms3 ss.length ByteArray.empty) (zs:=zs) (cs:=cs) (ss:=ss) (ls:=ls) hs m.toNat a5 [] d5 (by simp;omega) (by simp)
  rw [show ((k.toNat:Nat):Int)=k by omega] at e4
  rw [show ((m.toNat:Nat):Int)=m by omega] at e6
  have hnew:SG zs.length ps.length cs.length (List.getD nms3 ss.length ByteArray.empty,(ls,es)):=
   ⟨⟨by dsimp only;rw [ln];exact jtn.take _,lk,by dsimp only;omega,ek,by dsimp only;omega⟩,ln,l4,l6⟩
  obtain ⟨ss',a',e',h1,h2,h3,h4⟩:=jvA hs n a6 (ss++[(List.getD nms3 ss.length ByteArray.empty,(ls,es))]) d6 (by simp;omega) (by
   rw [List.map_append,hn,List.length_append]
   exact jng hlt) (fun s h=>by
   rcases List.mem_append.1 h with h | h
   ·exact hg s h
   ·simp at h;subst h;exact hnew)
  rw [j9b]
  simp only [j36]
  rw [j01 (show ((n+1:Nat):Int)>0 by omega),hmod,j14 (by omega) (by show (ss.length:Int)<(3:Nat);omega)]
  simp only [j5,j7,e3,j3]
  rw [show j4z ((n+1:Nat):Int) k L a3 zs ps cs (List.getD [(ByteArray.mk #[102,105,114,115,116]),(ByteArray.mk #[115,101,99,111,110,100]),(ByteArray.mk #[116,104,105,114,100])] ss.length ByteArray.empty) ss []=_ from e4]
  simp only [j3,e5,e6]
  rw [j01 (by simp [j07];omega),j02 (by omega) (by omega),show ((n+1:Nat):Int)-1=(n:Int) by omega]
  simp only [j5,j06]
  exact ⟨ss',a',e',by rw [h1];simp;omega,h2,h3,h4⟩
theorem jrJ {L:List Int} {a n:Int} (h:DOk L a) (n0:1≤n) (n1:n≤3):∃ zs ps cs ss a',j7U L a n=some ((zs,(ps,(cs,ss))),L,a')∧SOk2 zs ps cs∧1≤ss.length∧(ss.length:Int)≤n∧ss.map (·.1)=nms3.take ss.length∧(∀ s∈ss,SG zs.length ps.length cs.length s)∧DOk L a':=by
 obtain ⟨zs,ps,cs,a1,e1,hs,d1⟩:=jtq h
 obtain ⟨x,a2,e2,x0,x1,d2⟩:=j0Q (n:=n) d1 (by omega) (by omega)
 obtain ⟨ss,a3,e3,h1,h2,h3,d3⟩:=jvA hs.so (1+x).toNat a2 [] d2 (by simp;omega) (by simp) (by simp)
 rw [show (((1+x).toNat:Nat):Int)=1+x by omega] at e3
 simp at h1
 simp only [j7U,e1,e2,j3]
 rw [j02 (x:=1+x) (by omega) (by omega)]
 simp only [e3,j3]
 exact ⟨zs,ps,cs,ss,a3,rfl,hs,by omega,by omega,h2,h3,d3⟩
theorem jwD {zs:List j2E} {ps:List j1E} {cs:List CalT} {ss:List j1N} (hs:SOk2 zs ps cs) (h0:ss.length≤12) (h1:NmL (ss.map (·.1))) (h2:∀ s∈ss,SCk zs.length ps.length cs.length s):jlo (zs,(ps,(cs,ss))):=jxE hs h0 h1 h2
abbrev SL:=List (Int×Int)
def inS (x:Int) (l:SL):Prop:=∃ s∈l,s.1≤x∧x<s.2
def StS (p:Int):SL→Prop
 | []=>True
 | x::r=>p<x.1∧x.1<x.2∧StS x.2 r
def Sml (l:SL):Prop:=∀ s∈l, -1000000000000≤s.1∧s.1≤1000000000000 ∧ -1000000000000≤s.2∧s.2≤1000000000000
theorem j4m {x:Int}:¬ inS x []:=by rintro ⟨s,hs,_⟩;simp at hs
theorem j1v {x:Int} {s:Int×Int} {l:SL}:inS x (s::l)↔(s.1≤x∧x<s.2)∨inS x l:=by
 constructor
 ·rintro ⟨u,hu,h⟩
  rcases List.mem_cons.1 hu with rfl | hu
  ·exact Or.inl h
  ·exact Or.inr ⟨u,hu,h⟩
 ·rintro (h | ⟨u,hu,h⟩)
  ·exact ⟨s,by simp,h⟩
  ·exact ⟨u,by simp [hu],h⟩
theorem jni {x:Int} {l r:SL}:inS x (l++r)↔inS x l∨inS x r:=by
 constructor
 ·rintro ⟨u,hu,h⟩
  rcases List.mem_append.1 hu with hu | hu
  ·exact Or.inl ⟨u,hu,h⟩
  ·exact Or.inr ⟨u,hu,h⟩
 ·rintro (⟨u,hu,h⟩ | ⟨u,hu,h⟩)
  ·exact ⟨u,by simp [hu],h⟩
  ·exact ⟨u,by simp [hu],h⟩
def nE (s:Int×Int):Bool:= !(decide (s.2≤s.1))
theorem jvB {l:SL} (hl:l.length≤1000000):∀ (n i:Nat),i+n=l.length→(∀ s∈l.take i,nE s=true)→
  (∃ j:Nat,j0w (l.length:Int) (i:Int) l=some (.inl ((j:Int),l))∧j<l.length∧(∀ s∈l.take j,nE s=true)∧nE (l.getD j (0,0))=false)∨
  (j0w (l.length:Int) (i:Int) l=some (.inr l)∧∀ s∈l,nE s=true)
 | 0,i,hi,h=>by
  rw [j3F]
  simp only [j0N]
  rw [j00 (by omega),j6,j0a]
  rw [List.take_of_length_le (by omega)] at h
  exact Or.inr ⟨rfl,h⟩
 | n+1,i,hi,h=>by
  rw [j3F]
  simp only [j0N,j8r]
  rw [j01 (show (i:Int)<(l.length:Int) by omega),j14 (by omega) (by omega),j02 (x:=(i:Int)+1) (by omega) (by omega)]
  simp only [j5,j7,j3]
  have hlt:i<l.length:=by omega
  cases hc:decide ((l.getD i ((0:Int),(0:Int))).2≤(l.getD i ((0:Int),(0:Int))).1) with
  | true=>
   simp only [j5,j0a]
   exact Or.inl ⟨i,rfl,hlt,h,by simp only [nE];rw [hc];rfl⟩
  | false=>
   simp only [j6,j06]
   refine jvB hl n (i+1) (by omega) fun s hs=> ?_
   rw [List.take_add_one] at hs
   rcases List.mem_append.1 hs with hs | hs
   ·exact h s hs
   ·have hgd:l.getD i ((0:Int),(0:Int))=l[i]:=by simp [hlt]
    rw [hgd] at hc
    rw [List.getElem?_eq_getElem hlt] at hs
    simp at hs;subst hs
    simp only [nE];rw [hc];rfl
theorem jtw {l:SL} (hl:l.length≤1000000):∀ (n i j:Nat) (b:SL),j+n=l.length→i≤j→b.length=l.length→b.drop j=l.drop j→b.take i=(l.take j).filter nE→
  ∃ (k:Nat) (b':SL),j0E (i:Int) (j:Int) b=some ((k:Int),b')∧b'.length=l.length∧k≤l.length∧b'.take k=l.filter nE
 | 0,i,j,b,hj,hij,hb,hd,ht=>by
  rw [j3p]
  simp only [j0I,show Int.ofNat (List.length b)=(b.length:Int) from rfl]
  rw [j00 (by omega),j6,j0a]
  rw [List.take_of_length_le (l:=l) (by omega)] at ht
  exact ⟨i,b,rfl,hb,by omega,ht⟩
 | n+1,i,j,b,hj,hij,hb,hd,ht=>by
  have hlt:j<l.length:=by omega
  have hbj:b.getD j ((0:Int),(0:Int))=l[j]:=by
   have:b[j]? = l[j]? := by
    have h:=congrArg (fun x=>x[0]?) hd
    simpa [List.getElem?_drop] using h
   rw [List.getD_eq_getElem?_getD,this,List.getElem?_eq_getElem hlt];rfl
  have hd':b.drop (j+1)=l.drop (j+1):=by
   have:=congrArg (List.drop 1) hd
   simpa [List.drop_drop] using this
  have htk:l.take (j+1)=l.take j++[l[j]]:=by rw [List.take_add_one,List.getElem?_eq_getElem hlt];rfl
  rw [j3p]
  simp only [j0I,j8r,show Int.ofNat (List.length b)=(b.length:Int) from rfl]
  rw [j01 (show (j:Int)<(b.length:Int) by omega),j14 (by omega) (by omega),j14 (by omega) (by omega),j02 (x:=(j:Int)+1) (by omega) (by omega),j02 (x:=(i:Int)+1) (by omega) (by omega)]
  simp only [j5,j7,j3,hbj]
  cases hc:decide (l[j].2≤l[j].1) with
  | true=>
   simp only [Bool.not_true,j6,j06]
   refine jtw hl n i (j+1) b (by omega) (by omega) hb hd' ?_
   rw [htk,List.filter_append,ht]
   simp [nE,hc]
  | false=>
   simp only [Bool.not_false,j5,j06]
   refine jtw hl n (i+1) (j+1) _ (by omega) (by omega) (by simpa using hb) ?_ ?_
   ·rw [List.drop_set_of_lt (by omega)];exact hd'
   ·have hib:i<b.length:=by omega
    rw [List.take_add_one,List.take_set_of_le (Nat.le_refl _),List.getElem?_set_self hib,ht,htk,List.filter_append]
    simp [nE,hc]
theorem jtx {l:SL} (hl:l.length≤1000000):∃ n m,j0z l=some (n,m)∧m.take n.toNat=l.filter nE:=by
 simp only [j0z,j0W,show Int.ofNat (List.length l)=(l.length:Int) from rfl]
 rcases jvB hl l.length 0 (by omega) (by simp) with ⟨j,e,hj,h1,h2⟩ | ⟨e,h⟩
 ·rw [show ((0:Nat):Int)=0 from rfl] at e
  rw [e]
  simp only [j3,jmy]
  rw [j48 (by omega),j02 (x:=(j:Int)+1) (by omega) (by omega)]
  have hgd:l.getD j ((0:Int),(0:Int))=l[j]:=by simp [hj]
  rw [hgd] at h2
  obtain ⟨k,b,e2,hb,hk,ht⟩:=jtw hl (l.length-(j+1)) j (j+1) l (by omega) (by omega) rfl rfl (by
   rw [List.take_add_one,List.getElem?_eq_getElem hj,List.filter_append,List.filter_eq_self.2 h1]
   simp [h2])
  rw [show ((j:Int)+1)=((j+1:Nat):Int) from rfl,e2]
  simp only [j6,j3,show Int.ofNat (List.length b)=(b.length:Int) from rfl,j7]
  rw [j01 (show (0:Int)≤(k:Int) by omega),j01 (show (k:Int)≤(b.length:Int) by omega)]
  simp only [Bool.and_self,j5,Bool.true_and]
  rw [j01 (by simp;omega),j5]
  refine ⟨_,_,rfl,?_⟩
  simp only [show (Int.ofNat k).toNat=k from rfl]
  rw [List.take_append_of_le_length (by simp;omega),List.take_take,Nat.min_self,ht]
 ·rw [show ((0:Nat):Int)=0 from rfl] at e
  rw [e]
  simp only [j3,j9E,beq_self_eq_true,j5]
  refine ⟨_,_,rfl,?_⟩
  simp only [show (Int.ofNat l.length).toNat=l.length from rfl]
  rw [List.take_of_length_le (Nat.le_refl _),List.filter_eq_self.2 h]
def mg1 (e:Int×Int):SL→SL
 | []=>[e]
 | s::r=>if s.1≤e.2 then mg1 (e.1,if s.2>e.2 then s.2 else e.2) r else e::mg1 s r
def mg:SL→SL
 | []=>[]
 | s::r=>mg1 s r
theorem jwE {L:SL} (hL:L.length≤1000000):∀ (n i:Nat) (A:SL) (e:Int×Int),i+n=L.length→A.length<i→
  j5S (L.length:Int) (i:Int) (A++[e]) L=some (A++mg1 e (L.drop i))
 | 0,i,A,e,hi,hA=>by
  rw [jae]
  simp only [j3W]
  rw [j00 (by omega),j6,j0a,List.drop_of_length_le (by omega)]
  rfl
 | n+1,i,A,e,hi,hA=>by
  have hlt:i<L.length:=by omega
  have hgd:L.getD i ((0:Int),(0:Int))=L[i]:=by simp [hlt]
  have hle:(A++[e]).length=A.length+1:=by simp
  have hge:(A++[e]).getD A.length ((0:Int),(0:Int))=e:=by simp
  rw [jae,List.drop_eq_getElem_cons hlt]
  simp only [j3W,mg1,show Int.ofNat (List.length (A++[e]))=((A.length:Int)+1) from by rw [hle];rfl]
  rw [j01 (show (i:Int)<(L.length:Int) by omega),j14 (by omega) (by omega),j01 (show (A.length:Int)+1>0 by omega),j02 (x:=(A.length:Int)+1-1) (by omega) (by omega),j02 (x:=(i:Int)+1) (by omega) (by omega),
   j14 (by omega) (by rw [hle];omega),show ((A.length:Int)+1-1).toNat=A.length by omega]
  simp only [j5,j7,hgd,hge]
  by_cases hc:L[i].1≤e.2
  ·rw [j01 hc,if_pos hc]
   simp only [j5,j06]
   rw [show (A++[e]).set A.length (e.1,if L[i].2>e.2 then L[i].2 else e.2)=A++[(e.1,if L[i].2>e.2 then L[i].2 else e.2)] by
    rw [List.set_append_right _ _ (Nat.le_refl _)];simp]
   exact jwE hL n (i+1) A _ (by omega) (by omega)
  ·rw [j00 hc,if_neg hc,j01 (by rw [hle];simp [j07];omega)]
   simp only [j6,j5,j06]
   have:=jwE hL n (i+1) (A++[e]) L[i] (by omega) (by rw [hle];omega)
   rw [show A++e::mg1 L[i] (L.drop (i+1))=A++[e]++mg1 L[i] (L.drop (i+1)) by simp]
   exact this
theorem jyF {L:SL} (hL:L.length≤1000000):j5S (L.length:Int) 0 [] L=some (mg L):=by
 rw [jae]
 simp only [j3W]
 cases L with
 | nil=>rw [j00 (by simp),j6,j0a];rfl
 | cons s r=>
  rw [j01 (show (0:Int)<((s::r).length:Int) by simp only [List.length_cons];omega),j14 (by omega) (by simp only [List.length_cons];omega)]
  simp only [j5,show Int.ofNat (List.length ([]:SL))=0 from rfl]
  rw [j00 (show ¬ ((0:Int)>0) by omega),j6,j01 (by simp [j07]),j02 (x:=(0:Int)+1) (by omega) (by omega)]
  simp only [j5,j06]
  have:=jwE hL r.length 1 [] s (by simp;omega) (by simp)
  simpa [mg] using this
def Srt:SL→Prop
 | []=>True
 | s::r=>(∀ u∈r,s.1≤u.1)∧Srt r
theorem jty:∀ {r:SL} {e:Int×Int} {p:Int},p<e.1→e.1<e.2→(∀ s∈r,nE s=true)→Srt r→StS p (mg1 e r)
 | [],e,p,h1,h2,_,_=>⟨h1,h2,trivial⟩
 | s::r,e,p,h1,h2,h3,h4=>by
  simp only [mg1]
  have hs:s.1<s.2:=by have:=h3 s (by simp);simp [nE] at this;omega
  split
  ·exact jty (by exact h1) (by dsimp only;split<;>omega) (fun u hu=>h3 u (by simp [hu])) h4.2
  ·exact ⟨h1,h2,jty (by omega) hs (fun u hu=>h3 u (by simp [hu])) h4.2⟩
theorem jtz {x:Int}:∀ {r:SL} {e:Int×Int},(∀ s∈r,e.1≤s.1)→(∀ s∈r,nE s=true)→Srt r→(inS x (mg1 e r)↔(e.1≤x∧x<e.2)∨inS x r)
 | [],e,_,_,_=>by simp [mg1,inS]
 | s::r,e,h1,h3,h4=>by
  have hs:s.1<s.2:=by have:=h3 s (by simp);simp [nE] at this;omega
  have he:e.1≤s.1:=h1 s (by simp)
  simp only [mg1]
  split
  ·rw [jtz (e:=(e.1,if s.2>e.2 then s.2 else e.2)) (fun u hu=>h1 u (by simp [hu])) (fun u hu=>h3 u (by simp [hu])) h4.2,j1v]
   dsimp only
   constructor
   ·rintro (⟨a,b⟩ | h)
    ·split at b
     ·by_cases hx:x<e.2
      ·exact Or.inl ⟨a,hx⟩
      ·exact Or.inr (Or.inl ⟨by omega,b⟩)
     ·exact Or.inl ⟨a,b⟩
    ·exact Or.inr (Or.inr h)
   ·rintro (⟨a,b⟩ | ⟨a,b⟩ | h)
    ·exact Or.inl ⟨a,by split<;>omega⟩
    ·exact Or.inl ⟨by omega,by split<;>omega⟩
    ·exact Or.inr h
  ·rw [j1v,jtz h4.1 (fun u hu=>h3 u (by simp [hu])) h4.2,j1v]
theorem jpP:∀ (r:SL) (e:Int×Int),(mg1 e r).length≤r.length+1
 | [],e=>by simp [mg1]
 | s::r,e=>by
  simp only [mg1]
  split
  ·have:=jpP r (e.1,if s.2>e.2 then s.2 else e.2);simp only [List.length_cons];omega
  ·have:=jpP r s;simp only [List.length_cons];omega
theorem jtA {lo hi:Int}:∀ {r:SL} {e:Int×Int},(lo≤e.1∧e.2≤hi)→(∀ s∈r,lo≤s.1∧s.2≤hi)→∀ u∈mg1 e r,lo≤u.1∧u.2≤hi
 | [],e,h1,h2=>by simp only [mg1];intro u hu;simp at hu;subst hu;exact h1
 | s::r,e,h1,h2=>by
  have hs:=h2 s (by simp)
  simp only [mg1]
  split
  ·exact jtA ⟨h1.1,by dsimp only;split<;>omega⟩ (fun u hu=>h2 u (by simp [hu]))
  ·intro u hu
   rcases List.mem_cons.1 hu with rfl | hu
   ·exact h1
   ·exact jtA hs (fun u hu=>h2 u (by simp [hu])) u hu
theorem jxK {L:SL} (h:L.Pairwise (fun x y=>¬ w64 (y.1-x.1)<0)) (hb:Sml L):Srt L:=by
 induction L with
 | nil=>trivial
 | cons s r ih=>
  rw [List.pairwise_cons] at h
  refine ⟨fun u hu=> ?_,ih h.2 (fun v hv=>hb v (by simp [hv]))⟩
  have h1:=h.1 u hu
  have h2:=hb s (by simp)
  have h3:=hb u (by simp [hu])
  rw [j02 (x:=u.1-s.1) (by omega) (by omega)] at h1
  omega
theorem juY:Go.Sort.SWO (Go.Proofs.ltOf fun (x y:Go.Lft.Sml (.pair (.int .i64) (.int .i64)))=>(j72 x.1 y.1).getD 0):=by
 refine jmB (fun x=>x.1.1) (fun x=> ?_) _ fun x y=>rfl
 have:=x.2
 simp only [j64,Bool.and_eq_true,decide_eq_true_eq] at this
 exact this.1
theorem jwF {l:SL} (hl:l.length≤1000000) (hb:Sml l):∃ L,j1j l=some L∧L.Perm l∧Srt L:=by
 obtain ⟨L,e,hp,hs⟩:=jqG (a:= .pair (.int .i64) (.int .i64)) (cf:=fun x y=>(j72 x y).getD 0) juY (xs:=l) (fun x hx=>by
  have:=hb x hx
  simp only [j64,Bool.and_eq_true,decide_eq_true_eq]
  refine ⟨⟨?_,?_⟩,⟨?_,?_⟩⟩
  ·exact Int.le_trans (by decide) this.1
  ·exact Int.le_trans this.2.1 (by decide)
  ·exact Int.le_trans (by decide) this.2.2.1
  ·exact Int.le_trans this.2.2.2 (by decide)) (by show List.length l<_;omega)
 exact ⟨L,e,hp,jxK hs fun s hm=>hb s (hp.mem_iff.1 hm)⟩
theorem jhB {l:SL} (hl:l.length≤1000000) (hb:Sml l) {lo hi:Int} (hlo:∀ s∈l,s.1<s.2→lo≤s.1∧s.2≤hi) :
  ∃ out,j5v l=some out∧StS (lo-1) out∧(∀ x,inS x out↔inS x l)∧out.length≤l.length∧∀ u∈out,lo≤u.1∧u.2≤hi:=by
 obtain ⟨n,m,e1,ht⟩:=jtx hl
 have hfl:(l.filter nE).length≤l.length:=List.length_filter_le _ _
 obtain ⟨L,e2,hp,hs⟩:=jwF (l:=l.filter nE) (by omega) (fun s h=>hb s (List.mem_filter.1 h).1)
 have hLl:L.length=(l.filter nE).length:=hp.length_eq
 have hLm:∀ s,s∈L↔s∈l∧nE s=true:=fun s=>hp.mem_iff.trans List.mem_filter
 have hLx:∀ x,inS x L↔inS x l:=by
  intro x
  constructor
  ·rintro ⟨s,h,h2⟩;exact ⟨s,((hLm s).1 h).1,h2⟩
  ·rintro ⟨s,h,h2⟩;exact ⟨s,(hLm s).2 ⟨h,by simp only [nE];rw [j00 (by omega)];rfl⟩,h2⟩
 have hne:∀ s∈L,s.1<s.2:=fun s h=>by have:=((hLm s).1 h).2;simp [nE] at this;omega
 refine ⟨mg L,?_,?_⟩
 ·simp only [j5v,j3M]
  rw [j01 (by simp [j07];omega)]
  simp only [j5,j3,List.nil_append,e1,ht,e2,show Int.ofNat (List.length L)=(L.length:Int) from rfl,jyF (L:=L) (by omega)]
 ·cases L with
  | nil=>
   refine ⟨trivial,fun x=>hLx x,by simp [mg],by simp [mg]⟩
  | cons s r=>
   have h0:=hlo s ((hLm s).1 (by simp)).1 (hne s (by simp))
   have hr:∀ u∈r,nE u=true:=fun u hu=>((hLm u).1 (by simp [hu])).2
   refine ⟨jty (by omega) (hne s (by simp)) hr hs.2,fun x=> ?_,?_,?_⟩
   ·rw [←hLx x,j1v]
    exact jtz hs.1 hr hs.2
   ·have:=jpP r s
    simp only [mg,List.length_cons] at *
    omega
   ·exact jtA h0 fun u hu=>hlo u ((hLm u).1 (by simp [hu])).1 (hne u (by simp [hu]))
end Go.Proofs.Pw
