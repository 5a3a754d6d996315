/- Chapter 11: who is on duty in a layer. -/
import Derived.Test.YthpdddnkpjnllaaGreatGPE
import Derived.Test.YthpdddnkpjnllaaGreatGPF
import Derived.Test.YthpdddnkpjnllaaGreatGPB
import Derived.KernelRfl
import Derived.Test.YthpdddnkpjnllaaGreatGLD
import Derived.Test.YthpdddnkpjnllaaGreatGPA
import Derived.Test.YthpdddnkpjnllaaGreatGFns
import Derived.Test.YthpdddnkpjnllaaGreatGPC
noncomputable section
open Go Go.Lft
namespace Go.Proofs.Pw
def tb (z:j1w):Int×TrL:=(z.2.1,outT z.2.1 (j73 (occs z.2.2)))
theorem ZOk.ztab {z:j1w} (h:ZOk z):ZTab z (tb z).2:=MZ.tab (o:=z.2.1) (rs:=z.2.2) h z.1
theorem ZOk.zdif {z:j1w} (h:ZOk z):Dif z.2.1 (tb z).2:=jsG _ _ _ (MZ.good h)
theorem ZOk.zref {z:j1w} (h:ZOk z):ZTab z (tb z).2∧Z4 z (tb z).2∧Dif z.2.1 (tb z).2:=⟨h.ztab,MZ.r4 (o:=z.2.1) (rs:=z.2.2) h z.1,h.zdif⟩
theorem jwx {zs:List j1w} (h:∀ z∈zs,ZOk z) (hl:zs.length≤100):∀ (n i:Nat),i+n=zs.length→j4N zs (zs.length:Int) (i:Int) ((zs.take i).map tb)=some (zs.map tb)
 | 0,i,hi=>by
  rw [jdZ]
  simp only [j1L]
  rw [j00 (by omega),j6,j0e,List.take_of_length_le (by omega)]
 | n+1,i,hi=>by
  have hlt:i<zs.length:=by omega
  have hgd:zs.getD i (ByteArray.empty,((0:Int),([]:List Rule)))=zs[i]:=by simp [hlt]
  have ht:=jAF (h zs[i] (List.getElem_mem hlt)).ztab
  have ih:=jwx h hl n (i+1) (by omega)
  rw [List.take_add_one,List.getElem?_eq_getElem hlt,List.map_append] at ih
  rw [jdZ]
  simp only [j1L]
  rw [j01 (by omega),j0Z (by omega) (by omega),j03 (x:=(i:Int)+1) (by omega) (by omega)]
  simp only [j5,j7,hgd]
  rw [show jg4 (zs[i].1,(zs[i].2.1,zs[i].2.2))=_ from ht]
  simp only [j3]
  rw [j01 (by simp [j0c];omega),j5,j0a]
  exact ih
theorem jzc {zs:List j1w} (h:∀ z∈zs,ZOk z) (hl:zs.length≤100) {ps:List j1C} {cs:List CalT} {ss:List j2c}:jbG (zs,(ps,(cs,ss)))=some ((zs,(ps,(cs,ss))),zs.map tb):=by
 have lp:=jwx h hl zs.length 0 (by omega)
 simp only [jbG,j9p,show Int.ofNat zs.length=(zs.length:Int) from rfl]
 rw [show j4N zs (zs.length:Int) 0 []=_ from lp]
 rfl
theorem jwy {zs:List j1w} {i:Int} (h0:0≤i) (h1:i<(zs.length:Int)):List.getD (zs.map tb) i.toNat ((0:Int),([]:TrL))=tb (zs.getD i.toNat (ByteArray.empty,((0:Int),([]:List Rule)))):=by
 have hlt:i.toNat<zs.length:=by omega
 simp [List.getD_eq_getElem?_getD,hlt]
theorem zget {zs:List j1w} (h:∀ z∈zs,ZOk z) {i:Int} (h0:0≤i) (h1:i<(zs.length:Int)):ZOk (zs.getD i.toNat (ByteArray.empty,((0:Int),([]:List Rule)))):=by
 have hlt:i.toNat<zs.length:=by omega
 rw [List.getD_eq_getElem?_getD,List.getElem?_eq_getElem hlt]
 exact h _ (List.getElem_mem hlt)
theorem jxK (a b:Int):j9Z a b=some (decide (a<b)):=by
 simp only [j9Z,jba,j3,bne_self_eq_false,j6]
theorem jzd {ds:List Int} (hs:ds.Pairwise (· < ·)) (hl:ds.length≤64) {x:Int}:∀ (n a b:Nat),b-a≤n→a≤b→b≤ds.length→(∀ i,(hi:i<ds.length)→i<a→ds[i]<x)→(∀ i,(hi:i<ds.length)→b≤i→x≤ds[i])→
  ∃ k:Nat,j0X ds x (ds.length:Int) (a:Int) (b:Int)=some (ds,x,(ds.length:Int),(k:Int))∧k≤ds.length∧(∀ i,(hi:i<ds.length)→i<k→ds[i]<x)∧∀ i,(hi:i<ds.length)→k≤i→x≤ds[i]
 | n,a,b,hn,hab,hb,h1,h2=>by
  rw [j8s]
  simp only [j1u]
  by_cases hlt:a<b
  ·have hm:IntKind.wrap .u64 ((a:Int)+(b:Int))=(a:Int)+(b:Int):=IntWalk.u64_in _ ⟨by omega,by omega⟩
   have hd:Int.fdiv ((a:Int)+(b:Int)) 2=(((a+b)/2:Nat):Int):=by
    rw [Int.fdiv_eq_ediv_of_nonneg _ (by omega)];omega
   have hml:(a+b)/2<ds.length:=by omega
   have hgd:ds.getD ((a+b)/2) (0:Int)=ds[(a+b)/2]:=by simp [hml]
   rw [j01 (show (a:Int)<(b:Int) by omega),j03 (x:=(a:Int)+(b:Int)) (by omega) (by omega),hm,hd,j03 (x:=(((a+b)/2:Nat):Int)) (by omega) (by omega),j0Z (by omega) (by omega),j03 (x:=(((a+b)/2:Nat):Int)+1) (by omega) (by omega)]
   simp only [j5,j7,hgd,jxK,j3]
   cases n with
   | zero=>omega
   | succ n=>
    by_cases hc:ds[(a+b)/2]<x
    ·rw [j01 hc,j5,j0a]
     refine jzd hs hl n ((a+b)/2+1) b (by omega) (by omega) hb (fun i hi hia=> ?_) h2
     by_cases he:i=(a+b)/2
     ·subst he;exact hc
     ·exact Int.lt_trans (List.pairwise_iff_getElem.1 hs i ((a+b)/2) hi hml (by omega)) hc
    ·rw [j00 hc,j6,j0a]
     refine jzd hs hl n a ((a+b)/2) (by omega) (by omega) (by omega) h1 (fun i hi hia=> ?_)
     by_cases he:i=(a+b)/2
     ·subst he;exact Int.not_lt.1 hc
     ·exact Int.le_trans (Int.not_lt.1 hc) (Int.le_of_lt (List.pairwise_iff_getElem.1 hs ((a+b)/2) i hml hi (by omega)))
  ·have:a=b:=by omega
   subst this
   rw [j00 (by omega),j6,j0e]
   exact ⟨a,rfl,hb,h1,h2⟩
theorem jAS {ds:List Int} (hs:ds.Pairwise (· < ·)) (hl:ds.length≤64) (x:Int):∃ i,j0t ds x=some (i,decide (x∈ds)):=by
 obtain ⟨k,e,hk,h1,h2⟩:=jzd hs hl (x:=x) ds.length 0 ds.length (by omega) (by omega) (Nat.le_refl _) (fun i _ h=>by omega) (fun i hi h=>by omega)
 rw [show ((0:Nat):Int)=0 from rfl] at e
 simp only [j0t,show Int.ofNat ds.length=(ds.length:Int) from rfl,e,j3,j7]
 by_cases hkl:k<ds.length
 ·have hgd:ds.getD k (0:Int)=ds[k]:=by simp [hkl]
  rw [j0Z (by omega) (by omega),j01 (show (k:Int)<(ds.length:Int) by omega),hgd]
  simp only [Bool.true_or,j5]
  by_cases hx:ds[k]=x
  ·rw [j7q hx]
   rw [j01 (show x∈ds from hx▸List.getElem_mem hkl)]
   exact ⟨_,rfl⟩
  ·rw [j3S hx]
   have hn:¬ x∈ds:=by
    intro hm
    obtain ⟨i,hi,rfl⟩:=List.getElem_of_mem hm
    rcases Nat.lt_trichotomy i k with h | h | h
    ·have:=h1 i hi h;omega
    ·subst h;exact hx rfl
    ·have a1:=h2 k hkl (Nat.le_refl _)
     have a2:=List.pairwise_iff_getElem.1 hs k i hkl hi h
     omega
   rw [j00 hn]
   simp only [j6,j7M,j3,bne_self_eq_false]
   exact ⟨_,rfl⟩
 ·have hn:¬ x∈ds:=by
   intro hm
   obtain ⟨i,hi,rfl⟩:=List.getElem_of_mem hm
   have:=h1 i hi (by omega)
   omega
  rw [j00 hn,j00 (show ¬ (k:Int)<(ds.length:Int) by omega)]
  simp only [Bool.not_false,Bool.or_true,j5,j6,Bool.false_and]
  exact ⟨_,rfl⟩
def okW (w:WL) (s:Int):Bool:=cond (decide ((w.length:Int)>0)) (hasB s w) true
section
variable {zs:List j1w} {ps:List j1C} {cs:List CalT} {ss:List j2c} (hz:∀ z∈zs,ZOk z)
include hz
theorem jA9 {L:j0J} (hL:LCk zs.length ps.length cs.length L) (hRt:Rt L) {t:Int} (h0:0≤t) (h1:t≤8589934592) {z:j1w} (hzz:zs.getD L.2.1.toNat (ByteArray.empty,((0:Int),([]:List Rule)))=z)
  {s:Int} {d:Int×Int} (hd:j0s (tb z) t=some d) (hs:j3a d=some s) {K:Int} (hK:j1U (tb z) L t=some K) (b:Bool)
  (hcal:L.2.2.2.2.2.2.2.2=0→b=true) (hcal2:L.2.2.2.2.2.2.2.2≠0→∃ x:CalT,cs.getD L.2.2.2.2.2.2.2.1.toNat (ByteArray.empty,((0:Int),([]:List Int)))=x∧CCk zs.length x∧∃ d',j0s (tb (zs.getD x.2.1.toNat (ByteArray.empty,((0:Int),([]:List Rule))))) t=some d'∧b=(decide (d'.1∈x.2.2)==(L.2.2.2.2.2.2.2.2==(2:Int)))) :
  ∃ r,j6B ((zs,(ps,(cs,ss))),zs.map tb) L t=some (r,cond (decide (0≤K)) (cond (okW L.2.2.2.2.2.2.1 s) b false) false)∧(cond (decide (0≤K)) (cond (okW L.2.2.2.2.2.2.1 s) b false) false=true→r=K):=by
 have _:=hz;have _:=hRt
 have hwl:=hL.wl
 have hlen:(zs.map tb).length=zs.length:=List.length_map ..
 have hg:=jwy (zs:=zs) hL.z0 hL.z1
 rw [hzz] at hg
 simp only [j6B]
 rw [j00 (show ¬ t<0 by omega),j00 (show ¬ t>8589934592 by omega),j0Z hL.z0 (by rw [hlen];exact hL.z1)]
 simp only [j6,j5,hg]
 rw [show j1U ((tb z).1,(tb z).2) (L.1,L.2.1,(L.2.2.1.1,L.2.2.1.2),L.2.2.2.1,L.2.2.2.2.1,L.2.2.2.2.2.1,L.2.2.2.2.2.2.1,L.2.2.2.2.2.2.2.1,L.2.2.2.2.2.2.2.2) t=_ from hK]
 simp only [j3]
 by_cases hk:0≤K
 ·rw [j00 (show ¬ K<0 by omega),j01 hk]
  simp only [j6,j5,show Int.ofNat L.2.2.2.2.2.2.1.length=(L.2.2.2.2.2.2.1.length:Int) from rfl]
  have tail:∃ r,(cond (L.2.2.2.2.2.2.2.2==(0:Int)) (some (K,true)) (cond (inR L.2.2.2.2.2.2.2.1 cs.length) (cond (inR (cs.getD L.2.2.2.2.2.2.2.1.toNat (ByteArray.empty,((0:Int),([]:List Int)))).2.1 (zs.map tb).length) ((j0s ((List.getD (zs.map tb) (cs.getD L.2.2.2.2.2.2.2.1.toNat (ByteArray.empty,((0:Int),([]:List Int)))).2.1.toNat ((0:Int),([]:TrL))).1,(List.getD (zs.map tb) (cs.getD L.2.2.2.2.2.2.2.1.toNat (ByteArray.empty,((0:Int),([]:List Int)))).2.1.toNat ((0:Int),([]:TrL))).2) t).bind fun r68=>
    (j0t (cs.getD L.2.2.2.2.2.2.2.1.toNat (ByteArray.empty,((0:Int),([]:List Int)))).2.2 r68.1).bind fun r70=>some (K,(r70.2==(L.2.2.2.2.2.2.2.2==(2:Int))))) none) none))=some (r,b)∧(b=true→r=K):=by
   by_cases hm:L.2.2.2.2.2.2.2.2=0
   ·rw [j7q hm,j5,hcal hm]
    exact ⟨K,rfl,fun _=>rfl⟩
   ·obtain ⟨x,hx,hxc,d',hd',hb⟩:=hcal2 hm
    have hc:=hL.cal hm
    obtain ⟨i,hi⟩:=jAS hxc.asc hxc.len d'.1
    have hg2:=jwy (zs:=zs) hxc.z0 hxc.z1
    rw [j3S hm,j6,j0Z hc.1 hc.2,hx,j0Z hxc.z0 (by rw [hlen];exact hxc.z1)]
    simp only [j5,hg2]
    rw [show j0s ((tb (zs.getD x.2.1.toNat (ByteArray.empty,((0:Int),([]:List Rule))))).1,(tb (zs.getD x.2.1.toNat (ByteArray.empty,((0:Int),([]:List Rule))))).2) t=_ from hd']
    simp only [j3,hi]
    rw [←hb]
    exact ⟨K,rfl,fun _=>rfl⟩
  by_cases hw:(L.2.2.2.2.2.2.1.length:Int)>0
  ·rw [j01 hw,j5,show j0s ((tb z).1,(tb z).2) t=_ from hd]
   simp only [j3,show j3a (d.1,d.2)=_ from hs,jzO hwl,okW]
   rw [j01 hw,j5]
   cases hh:hasB s L.2.2.2.2.2.2.1 with
   | true=>
    simp only [Bool.not_true,j6,j5]
    exact tail
   | false=>exact ⟨0,rfl,fun h=>by simp at h⟩
  ·simp only [okW]
   rw [j00 hw]
   simp only [j6,j5]
   exact tail
 ·rw [j01 (show K<0 by omega),j00 hk]
  exact ⟨0,rfl,fun h=>by simp at h⟩
def whoL (L:j0J) (K:Int):Int:=L.2.2.2.2.2.1.getD (Int.tmod K (L.2.2.2.2.2.1.length:Int)).toNat 0
omit hz in
theorem jxL {v:CfgT×List (Int×TrL)} {L:j0J} {t r K:Int} {b:Bool} (hm:L.2.2.2.2.2.1.length≠0) (e:j6B v L t=some (r,b)) (hr:b=true→r=K) (hK:b=true→0≤K) :
  j3z v L t=some (cond b (whoL L K) (-1)):=by
 simp only [j3z,show j6B ((v.1.1,v.1.2.1,v.1.2.2.1,v.1.2.2.2),v.2) (L.1,L.2.1,(L.2.2.1.1,L.2.2.1.2),L.2.2.2.1,L.2.2.2.2.1,L.2.2.2.2.2.1,L.2.2.2.2.2.2.1,L.2.2.2.2.2.2.2.1,L.2.2.2.2.2.2.2.2) t=_ from e,j3]
 cases b with
 | false=>rfl
 | true=>
  have:=hr rfl
  subst this
  have hk:=hK rfl
  have q1:0≤Int.tmod r (L.2.2.2.2.2.1.length:Int):=Int.tmod_nonneg _ hk
  have q2:Int.tmod r (L.2.2.2.2.2.1.length:Int)<(L.2.2.2.2.2.1.length:Int):=Int.tmod_lt_of_pos _ (by omega)
  simp only [Bool.not_true,j6,j5,show Int.ofNat L.2.2.2.2.2.1.length=(L.2.2.2.2.2.1.length:Int) from rfl,whoL]
  rw [j3S (show ¬ (L.2.2.2.2.2.1.length:Int)=0 by omega),j0Z q1 q2]
  rfl
end
theorem LCk.rt {nz np nc:Nat} {L:j0J} (h:LCk nz np nc L) (hd:L.2.2.1.1≤100000):Rt L:=
 ⟨h.d0,hd,h.c0,h.c1,h.u0,h.u1,h.e0,h.e1,fun hn=>h.m0 (by rw [hn];rfl)⟩
theorem jAa {z:j1w} (hz:ZOk z) {t:Int} (h0:0≤t) (h1:t≤8589934592):∃ d s,j0s (tb z) t=some d∧j3a d=some s:=by
 have ht:=hz.ztab
 obtain ⟨j,hj,j1,j2⟩:=jlE ht.2 h0 h1
 have o0:=ht.2.of0 j hj;have o1:=ht.2.of1 j hj
 obtain ⟨s,hs⟩:∃ s,j3a ((t+tof z.2.1 (tb z).2 j)/86400,(t+tof z.2.1 (tb z).2 j)%86400)=some s:=by
  simp only [j3a,jkB,j3]
  exact ⟨_,rfl⟩
 exact ⟨_,s,jlF ht.2 hj j1 j2,hs⟩
theorem jgO:j4M 2241=some 98981:=by kernel_rfl
theorem jgP:j4M 1970=some 0:=by kernel_rfl
theorem jAb {d:Int} (h:j0D d=some true):d≤100000:=by
 apply Classical.byContradiction
 intro hd
 simp only [j0D,j3T,jgP,jgO,j3] at h
 rw [j00 (show ¬ d<0 by omega),j01 (show d≥98981 by omega)] at h
 simp at h
theorem LCk.rt2 {nz np nc:Nat} {L:j0J} (h:LCk nz np nc L):Rt L:=h.rt (jAb h.day)
section
variable {zs:List j1w} {ps:List j1C} {cs:List CalT} (hs:SOk2 zs ps cs)
include hs
theorem cget {i:Int} (h0:0≤i) (h1:i<(cs.length:Int)):CCk zs.length (cs.getD i.toNat (ByteArray.empty,((0:Int),([]:List Int)))):=by
 have hi:i.toNat<cs.length:=by omega
 rw [show cs.getD i.toNat (ByteArray.empty,((0:Int),([]:List Int)))=cs[i.toNat] by simp [List.getD,hi]]
 exact hs.c.ck _ (List.getElem_mem hi)
end
def jiI (es:List j94) (p t:Int):Bool:=es.any fun x=>x.1==0&&(x.2.1==p&&(decide (x.2.2.2.1≤t)&&decide (t<x.2.2.2.2)))
theorem jAc {es:List j94} {p t:Int} (hl:es.length≤1000):∀ (n i:Nat),i+n=es.length→∃ r,j0M es p t (es.length:Int) (i:Int)=some r∧
  match r with
  | .inl k=>0≤k∧jiI (es.drop i) p t=true
  | .inr _=>jiI (es.drop i) p t=false
 | 0,i,hi=>by
  rw [j39]
  simp only [j0B]
  rw [j00 (by omega),j6,j0e,List.drop_of_length_le (by omega)]
  exact ⟨_,rfl,rfl⟩
 | n+1,i,hi=>by
  have hlt:i<es.length:=by omega
  have hgd:es.getD i ((0:Int),((0:Int),((0:Int),((0:Int),(0:Int)))))=es[i]:=by simp [List.getD,hlt]
  rw [j39]
  simp only [j0B,jeG]
  rw [j01 (by omega),j0Z (by omega) (by omega),j03 (x:=(i:Int)+1) (by omega) (by omega)]
  simp only [j5,j7,hgd,j3]
  rw [List.drop_eq_getElem_cons hlt]
  have e:(cond (cond (cond (es[i].1==(0:Int)) (es[i].2.1==p) false) (decide (es[i].2.2.2.1≤t)) false) (decide (t<es[i].2.2.2.2)) false)=(es[i].1==0&&(es[i].2.1==p&&(decide (es[i].2.2.2.1≤t)&&decide (t<es[i].2.2.2.2)))):=by
   cases es[i].1==(0:Int)<;>cases es[i].2.1==p<;>cases decide (es[i].2.2.2.1≤t)<;>rfl
  rw [e]
  have ha:jiI (es[i]::es.drop (i+1)) p t=((es[i].1==0&&(es[i].2.1==p&&(decide (es[i].2.2.2.1≤t)&&decide (t<es[i].2.2.2.2))))||jiI (es.drop (i+1)) p t):=rfl
  rw [ha]
  cases hx:(es[i].1==0&&(es[i].2.1==p&&(decide (es[i].2.2.2.1≤t)&&decide (t<es[i].2.2.2.2)))) with
  | true=>
   rw [j5,j0e]
   exact ⟨_,rfl,by omega,rfl⟩
  | false=>
   rw [j6,j0a]
   obtain ⟨r,e1,e2⟩:=jAc (es:=es) (p:=p) (t:=t) hl n (i+1) (by omega)
   exact ⟨r,e1,by simpa using e2⟩
theorem jze {nm:ByteArray} {ls:List j0J} {es:List j94} {p t:Int} (hl:es.length≤1000):jha (nm,(ls,es)) p t=some (jiI es p t):=by
 obtain ⟨r,e1,e2⟩:=jAc (p:=p) (t:=t) hl es.length 0 (by omega)
 simp only [jha,j25,j2B,show Int.ofNat es.length=(es.length:Int) from rfl]
 rw [show j0M es p t (es.length:Int) 0=_ from e1]
 cases r with
 | inl k=>
  simp only [List.drop_zero] at e2
  simp only [j3,jtq,e2.2]
  rw [j01 (show k≥0 from e2.1)]
 | inr u=>
  simp only [List.drop_zero] at e2
  simp only [j3,j69,e2]
  rfl
def topI (good:Nat→Bool):Nat→Option Nat
 | 0=>none
 | n+1=>cond (good n) (some n) (topI good n)
def jn9 (es:List j94) (t:Int) (Pf:Nat→Int) (i:Nat):Bool:=decide (0≤Pf i) && !jiI es (Pf i) t
theorem jAd {ls:List j0J} {zs:List j1w} {ps:List j1C} {cs:List CalT} {ss:List j2c} {tbs:List (Int×TrL)} {nm:ByteArray} {es:List j94} {t b6 b7:Int} {Pf:Nat→Int} (hl:es.length≤1000)
  (hP:∀ i (h:i<ls.length),j3z ((zs,(ps,(cs,ss))),tbs) ls[i] t=some (Pf i)):∀ n:Nat,n≤ls.length→
  j7O (n:Int) ls zs ps cs ss tbs nm ls es t b6 b7=some (match topI (jn9 es t Pf) n with | some i=> .inr ((i:Int),Pf i) | none=> .inl (b6,b7))
 | 0,hn=>by
  rw [jc7]
  simp only [j3l]
  rw [j01 (by omega),j5,j0e]
  rfl
 | n+1,hn=>by
  have hlt:n<ls.length:=by omega
  have hgd:ls.getD n (ByteArray.empty,((0:Int),(((0:Int),(0:Int)),((0:Int),((0:Int),(([]:List Int),(([]:List (Int×Int)),((0:Int),(0:Int)))))))))=ls[n]:=by simp [List.getD,hlt]
  have ih:=jAd (nm:=nm) (b6:=b6) (b7:=b7) hl hP n (by omega)
  have hp:=hP n hlt
  rw [jc7]
  simp only [j3l]
  rw [j00 (by omega),j01 (show ((n+1:Nat):Int)≤Int.ofNat ls.length by simp;omega),show ((n+1:Nat):Int)-1=(n:Int) by omega]
  simp only [j5,j6,j7,hgd]
  rw [show j3z ((zs,(ps,(cs,ss))),tbs) (ls[n].1,(ls[n].2.1,((ls[n].2.2.1.1,ls[n].2.2.1.2),(ls[n].2.2.2.1,(ls[n].2.2.2.2.1,(ls[n].2.2.2.2.2.1,(ls[n].2.2.2.2.2.2.1,(ls[n].2.2.2.2.2.2.2.1,ls[n].2.2.2.2.2.2.2.2)))))))) t=_ from hp]
  simp only [j3,topI,jn9]
  by_cases h0:0≤Pf n
  ·rw [j00 (show ¬ Pf n<0 by omega),j01 h0]
   simp only [j6,jze hl,j3,Bool.true_and]
   cases jiI es (Pf n) t with
   | true=>
    simp only [Bool.not_true,j6,j0a]
    exact ih
   | false=>rfl
  ·rw [j01 (show Pf n<0 by omega),j00 h0]
   simp only [j5,Bool.false_and,j6,j0a]
   exact ih
section
variable {zs:List j1w} {ps:List j1C} {cs:List CalT} {ss:List j2c}
theorem jAe (hz:∀ z∈zs,ZOk z) (hc:jsK (zs,(ps,(cs,ss)))):jex (zs,(ps,(cs,ss)))=some (((zs,(ps,(cs,ss))),zs.map tb),true):=by
 have hzl:zs.length≤16:=hc.zl
 simp only [jex,show j4s (zs,(ps,(cs,ss)))=_ from jsL hc,j3,bne_self_eq_false,j6,jzc (ps:=ps) (cs:=cs) (ss:=ss) hz (show zs.length≤100 by omega)]
def topP (es:List j94) (t:Int) (Pf:Nat→Int) (n:Nat):Int:=match topI (jn9 es t Pf) n with
 | some i=>Pf i
 | none=> -1
end
def nms3:List ByteArray:=[(ByteArray.mk #[102,105,114,115,116]),(ByteArray.mk #[115,101,99,111,110,100]),(ByteArray.mk #[116,104,105,114,100])]
theorem jzf:NmL nms3:=by
 refine ⟨by decide,fun k hk=> ?_⟩
 simp only [nms3,List.mem_cons,List.not_mem_nil,or_false] at hk
 rcases hk with rfl | rfl | rfl<;>exact j8R 60 _ true (by kernel_rfl)
structure SG (nz np nc:Nat) (s:j2c):Prop where
 ck:SCk nz np nc s
 nm:s.2.1.map (·.1)=nmsL.take s.2.1.length
 ll:s.2.1.length≤3
 el:s.2.2.length≤3
theorem jye {L:List Int} {zs:List j1w} {ps:List j1C} {cs:List CalT} (hs:SOk zs ps cs):∀ (n:Nat) (a:Int) (ss:List j2c),DOk L a→ss.length+n≤3→ss.map (·.1)=nms3.take ss.length→(∀ s∈ss,SG zs.length ps.length cs.length s)→
  ∃ ss' a',j5v (n:Int) L a zs ps cs ss=some (L,a',zs,ps,cs,ss')∧ss'.length=ss.length+n∧ss'.map (·.1)=nms3.take ss'.length∧(∀ s∈ss',SG zs.length ps.length cs.length s)∧DOk L a'
 | 0,a,ss,hd,hl,hn,hg=>by
  rw [j9g]
  simp only [j2y]
  rw [j00 (by omega),j6,j0e]
  exact ⟨ss,a,rfl,rfl,hn,hg,hd⟩
 | n+1,a,ss,hd,hl,hn,hg=>by
  have hlt:ss.length<nms3.length:=by show ss.length<3;omega
  have hmod:Int.tmod (Int.ofNat ss.length) 3=(ss.length:Int):=by
   have:Int.tmod (ss.length:Int) 3=(ss.length:Int):=Int.tmod_eq_of_lt (by omega) (by omega)
   exact this
  obtain ⟨k,a3,e3,k0,k1,d3⟩:=j0E (n:=4) hd (by omega) (by omega)
  obtain ⟨ls,a4,e4,l4,lk,ln,d4⟩:=jA0 (s6:=((n+1:Nat):Int)) (nm:=List.getD nms3 ss.length ByteArray.empty) (ss:=ss) hs k.toNat a3 [] d3 (by simp;omega) (by simp) rfl
  obtain ⟨m,a5,e5,m0,m1,d5⟩:=j0E (n:=4) d4 (by omega) (by omega)
  obtain ⟨es,a6,e6,l6,ek,d6⟩:=jA1 (s6:=((n+1:Nat):Int)) (nm:=List.getD nms3 ss.length ByteArray.empty) (zs:=zs) (cs:=cs) (ss:=ss) (ls:=ls) hs m.toNat a5 [] d5 (by simp;omega) (by simp)
  rw [show ((k.toNat:Nat):Int)=k by omega] at e4
  rw [show ((m.toNat:Nat):Int)=m by omega] at e6
  have hnew:SG zs.length ps.length cs.length (List.getD nms3 ss.length ByteArray.empty,(ls,es)):=
   ⟨⟨by dsimp only;rw [ln];exact jwp.take _,lk,by dsimp only;omega,ek,by dsimp only;omega⟩,ln,l4,l6⟩
  obtain ⟨ss',a',e',h1,h2,h3,h4⟩:=jye hs n a6 (ss++[(List.getD nms3 ss.length ByteArray.empty,(ls,es))]) d6 (by simp;omega) (by
   rw [List.map_append,hn,List.length_append]
   exact jpF hlt) (fun s h=>by
   rcases List.mem_append.1 h with h | h
   ·exact hg s h
   ·simp at h;subst h;exact hnew)
  rw [j9g]
  simp only [j2y]
  rw [j01 (show ((n+1:Nat):Int)>0 by omega),hmod,j0Z (by omega) (by show (ss.length:Int)<(3:Nat);omega)]
  simp only [j5,j7,e3,j3]
  rw [show j46 ((n+1:Nat):Int) k L a3 zs ps cs (List.getD [(ByteArray.mk #[102,105,114,115,116]),(ByteArray.mk #[115,101,99,111,110,100]),(ByteArray.mk #[116,104,105,114,100])] ss.length ByteArray.empty) ss []=_ from e4]
  simp only [j3,e5,e6]
  rw [j01 (by simp [j0c];omega),j03 (by omega) (by omega),show ((n+1:Nat):Int)-1=(n:Int) by omega]
  simp only [j5,j0a]
  exact ⟨ss',a',e',by rw [h1];simp;omega,h2,h3,h4⟩
theorem juK {L:List Int} {a n:Int} (h:DOk L a) (n0:1≤n) (n1:n≤3):∃ zs ps cs ss a',j7N L a n=some ((zs,(ps,(cs,ss))),L,a')∧SOk2 zs ps cs∧1≤ss.length∧(ss.length:Int)≤n∧ss.map (·.1)=nms3.take ss.length∧(∀ s∈ss,SG zs.length ps.length cs.length s)∧DOk L a':=by
 obtain ⟨zs,ps,cs,a1,e1,hs,d1⟩:=jws h
 obtain ⟨x,a2,e2,x0,x1,d2⟩:=j0E (n:=n) d1 (by omega) (by omega)
 obtain ⟨ss,a3,e3,h1,h2,h3,d3⟩:=jye hs.so (1+x).toNat a2 [] d2 (by simp;omega) (by simp) (by simp)
 rw [show (((1+x).toNat:Nat):Int)=1+x by omega] at e3
 simp at h1
 simp only [j7N,e1,e2,j3]
 rw [j03 (x:=1+x) (by omega) (by omega)]
 simp only [e3,j3]
 exact ⟨zs,ps,cs,ss,a3,rfl,hs,by omega,by omega,h2,h3,d3⟩
theorem jzg {zs:List j1w} {ps:List j1C} {cs:List CalT} {ss:List j2c} (hs:SOk2 zs ps cs) (h0:ss.length≤12) (h1:NmL (ss.map (·.1))) (h2:∀ s∈ss,SCk zs.length ps.length cs.length s):jsK (zs,(ps,(cs,ss))):=jA2 hs h0 h1 h2
theorem jwz:j8d=some true:=jpC 60 true (by kernel_rfl)
abbrev SL:=List (Int×Int)
def Sml (l:SL):Prop:=∀ s∈l, -1000000000000≤s.1∧s.1≤1000000000000 ∧ -1000000000000≤s.2∧s.2≤1000000000000
theorem jAf {d:Int} (h:j0D d=some true):0≤d:=by
 apply Classical.byContradiction
 intro hd
 simp only [j0D,j3T,jgP,jgO,j3] at h
 rw [j01 (show d<0 by omega)] at h
 simp at h
section
variable {zs:List j1w} {ps:List j1C} {cs:List CalT} (hs:SOk2 zs ps cs)
include hs
omit hs in
def zAt (zs:List j1w) (i:Int):j1w:=zs.getD i.toNat (ByteArray.empty,((0:Int),([]:List Rule)))
omit hs in
def cAt (cs:List CalT) (i:Int):CalT:=cs.getD i.toNat (ByteArray.empty,((0:Int),([]:List Int)))
omit hs in
def locD (z:j1w) (t:Int):Int×Int:=(j0s (tb z) t).getD (0,0)
omit hs in
def secD (d:Int×Int):Int:=(j3a d).getD 0
omit hs in
def shK (z:j1w) (L:j0J) (t:Int):Int:=(j1U (tb z) L t).getD (-1)
omit hs in
def calB (zs:List j1w) (cs:List CalT) (L:j0J) (t:Int):Bool:=
 cond (L.2.2.2.2.2.2.2.2==0) true (decide ((locD (zAt zs (cAt cs L.2.2.2.2.2.2.2.1).2.1) t).1∈(cAt cs L.2.2.2.2.2.2.2.1).2.2)==(L.2.2.2.2.2.2.2.2==(2:Int)))
omit hs in
def onX (zs:List j1w) (cs:List CalT) (L:j0J) (t:Int):Bool:=
 cond (decide (0≤shK (zAt zs L.2.1) L t)) (cond (okW L.2.2.2.2.2.2.1 (secD (locD (zAt zs L.2.1) t))) (calB zs cs L t) false) false
omit hs in
def perX (zs:List j1w) (cs:List CalT) (L:j0J) (t:Int):Int:=cond (onX zs cs L t) (whoL L (shK (zAt zs L.2.1) L t)) (-1)
omit hs in
theorem jsO {z:j1w} (hz:ZOk z) {t:Int} (h0:0≤t) (h1:t≤8589934592):j0s (tb z) t=some (locD z t)∧j3a (locD z t)=some (secD (locD z t)):=by
 obtain ⟨d,s,hd,hsc⟩:=jAa hz h0 h1
 have:locD z t=d:=by simp [locD,hd]
 rw [this]
 exact ⟨hd,by simp [secD,hsc]⟩
omit hs in
theorem jtI {z:j1w} (hz:ZOk z) {L:j0J} (hR:Rt L) {t:Int} (h0:0≤t) (h1:t≤8589934592):j1U (tb z) L t=some (shK z L t)∧ShO z.2.1 (tb z).2 L t (shK z L t):=by
 obtain ⟨K,e,hK⟩:=jAR hz.ztab.2 hR h0 h1
 have:shK z L t=K:=by simp only [shK,show j1U (tb z) L t=_ from e,Option.getD_some]
 rw [this]
 exact ⟨e,hK⟩
theorem jAg {L:j0J} (hL:LCk zs.length ps.length cs.length L) {ss:List j2c} {t:Int} (h0:0≤t) (h1:t≤8589934592) :
  (∃ r,j6B ((zs,(ps,(cs,ss))),zs.map tb) L t=some (r,onX zs cs L t))∧j3z ((zs,(ps,(cs,ss))),zs.map tb) L t=some (perX zs cs L t)∧(onX zs cs L t=true→0≤shK (zAt zs L.2.1) L t):=by
 have hRt:=hL.rt2
 have hz:=zget hs.so.ok hL.z0 hL.z1
 obtain ⟨hd,hsc⟩:=jsO hz h0 h1
 obtain ⟨eK,hK⟩:=jtI hz hRt h0 h1
 have hon:onX zs cs L t=true→0≤shK (zAt zs L.2.1) L t:=fun h=>by
  by_cases hk:0≤shK (zAt zs L.2.1) L t
  ·exact hk
  ·unfold onX at h;rw [j00 hk] at h;simp at h
 obtain ⟨r,er,hr⟩:=jA9 (ps:=ps) (ss:=ss) hs.so.ok hL hRt h0 h1 rfl hd hsc eK (calB zs cs L t) (fun h=>by unfold calB;rw [j7q h];rfl) (fun h=>⟨_,rfl,cget hs (hL.cal h).1 (hL.cal h).2,_,(jsO (zget hs.so.ok (cget hs (hL.cal h).1 (hL.cal h).2).z0 (cget hs (hL.cal h).1 (hL.cal h).2).z1) h0 h1).1,by
  unfold calB;rw [j3S h];rfl⟩)
 exact ⟨⟨r,er⟩,jxL hL.m0 er hr hon,hon⟩
theorem jwA {L:j0J} (hL:LCk zs.length ps.length cs.length L) {t:Int} (h0:0≤t) (h1:t≤8589934592):(onX zs cs L t=true↔0≤perX zs cs L t) ∧ -1≤perX zs cs L t∧perX zs cs L t<ps.length:=by
 have hon:=(jAg hs hL (ss:=[]) h0 h1).2.2
 unfold perX
 have hp:=hs.so.p0
 cases hc:onX zs cs L t with
 | false=>simp;omega
 | true=>
  have hk:=hon hc
  have hm0:=hL.m0
  have q1:0≤Int.tmod (shK (zAt zs L.2.1) L t) (L.2.2.2.2.2.1.length:Int):=Int.tmod_nonneg _ hk
  have q2:Int.tmod (shK (zAt zs L.2.1) L t) (L.2.2.2.2.2.1.length:Int)<(L.2.2.2.2.2.1.length:Int):=Int.tmod_lt_of_pos _ (by omega)
  have hi:(Int.tmod (shK (zAt zs L.2.1) L t) (L.2.2.2.2.2.1.length:Int)).toNat<L.2.2.2.2.2.1.length:=by omega
  have e:whoL L (shK (zAt zs L.2.1) L t)=L.2.2.2.2.2.1[(Int.tmod (shK (zAt zs L.2.1) L t) (L.2.2.2.2.2.1.length:Int)).toNat]:=by simp [whoL,List.getD,hi]
  rw [j5,e]
  have:=hL.mem _ (List.getElem_mem hi)
  exact ⟨⟨fun _=>this.1,fun _=>rfl⟩,by omega,this.2⟩
end
abbrev SgT:=Int×(Int×Int)
abbrev SgL:=List SgT
def lstP:Option Int→SgL→Option Int
 | q,[]=>q
 | _,s::r=>lstP (some s.2.2) r
def pfX (zs:List j1w) (cs:List CalT) (ls:List j0J) (t:Int) (i:Nat):Int:=perX zs cs (ls.getD i (ByteArray.empty,((0:Int),(((0:Int),(0:Int)),((0:Int),((0:Int),(([]:List Int),(([]:List (Int×Int)),((0:Int),(0:Int)))))))))) t
end Go.Proofs.Pw
