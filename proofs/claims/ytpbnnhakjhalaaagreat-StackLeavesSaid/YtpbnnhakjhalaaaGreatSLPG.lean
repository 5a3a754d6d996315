/- Chapter 11: who is on duty in a layer. -/
import Derived.Test.YtpbnnhakjhalaaaGreatSLPE
import Derived.Test.YtpbnnhakjhalaaaGreatSLPF
import Derived.Test.YtpbnnhakjhalaaaGreatSLPA
import Derived.Test.YtpbnnhakjhalaaaGreatSLFns
import Derived.Test.YtpbnnhakjhalaaaGreatSLPC
import Derived.KernelRfl
import Derived.Test.YtpbnnhakjhalaaaGreatSLPB
import Derived.Test.YtpbnnhakjhalaaaGreatSLLD
noncomputable section
open Go Go.Lft
namespace Go.Proofs.Pw
def tb (z:j2q):Int×TrL:=(z.2.1,outT z.2.1 (j5I (occs z.2.2)))
theorem ZOk.ztab {z:j2q} (h:ZOk z):ZTab z (tb z).2:=MZ.tab (o:=z.2.1) (rs:=z.2.2) h z.1
theorem jqX {zs:List j2q} (h:∀ z∈zs,ZOk z) (hl:zs.length≤100):∀ (n i:Nat),i+n=zs.length→j41 zs (zs.length:Int) (i:Int) ((zs.take i).map tb)=some (zs.map tb)
 | 0,i,hi=>by
  rw [jb4]
  simp only [j1J]
  rw [j00 (by omega),j6,j0D,List.take_of_length_le (by omega)]
 | n+1,i,hi=>by
  have hlt:i<zs.length:=by omega
  have hgd:zs.getD i (ByteArray.empty,((0:Int),([]:List Rule)))=zs[i]:=by simp [hlt]
  have ht:=juq (h zs[i] (jm hlt)).ztab
  have ih:=jqX h hl n (i+1) (by omega)
  rw [List.take_add_one,jn hlt,qt] at ih
  rw [jb4]
  simp only [j1J]
  rw [j01 (by omega),j2Y (by omega) (by omega),j03 (x:=(i:Int)+1) (by omega) (by omega)]
  simp only [j5,j7,hgd]
  rw [show jcQ (zs[i].1,(zs[i].2.1,zs[i].2.2))=_ from ht]
  simp only [j3]
  rw [j01 (by simp [j0b];omega),j5,j0x]
  exact ih
theorem jth {zs:List j2q} (h:∀ z∈zs,ZOk z) (hl:zs.length≤100) {ps:List j1v} {cs:List CalT} {ss:List j3s}:j9o (zs,(ps,(cs,ss)))=some ((zs,(ps,(cs,ss))),zs.map tb):=by
 have lp:=jqX h hl zs.length 0 (by omega)
 simp only [j9o,j7x,show Int.ofNat zs.length=(zs.length:Int) from rfl]
 rw [show j41 zs (zs.length:Int) 0 []=_ from lp]
 rfl
theorem jsr {zs:List j2q} {i:Int} (h0:0≤i) (h1:i<(zs.length:Int)):List.getD (zs.map tb) i.toNat ((0:Int),([]:TrL))=tb (zs.getD i.toNat (ByteArray.empty,((0:Int),([]:List Rule)))):=by
 have hlt:i.toNat<zs.length:=by omega
 simp [List.getD_eq_getElem?_getD,hlt]
theorem zget {zs:List j2q} (h:∀ z∈zs,ZOk z) {i:Int} (h0:0≤i) (h1:i<(zs.length:Int)):ZOk (zs.getD i.toNat (ByteArray.empty,((0:Int),([]:List Rule)))):=by
 have hlt:i.toNat<zs.length:=by omega
 rw [List.getD_eq_getElem?_getD,jn hlt]
 exact h _ (jm hlt)
theorem js3 (a b:Int):jau a b=some (decide (a<b)):=by
 simp only [jau,j93,j3,jf,j6]
theorem jti {ds:List Int} (hs:ds.Pairwise (· < ·)) (hl:ds.length≤64) {x:Int}:∀ (n a b:Nat),b-a≤n→a≤b→b≤ds.length→(∀ i,(hi:i<ds.length)→i<a→ds[i]<x)→(∀ i,(hi:i<ds.length)→b≤i→x≤ds[i])→
  ∃ k:Nat,j0W ds x (ds.length:Int) (a:Int) (b:Int)=some (ds,x,(ds.length:Int),(k:Int))∧k≤ds.length∧(∀ i,(hi:i<ds.length)→i<k→ds[i]<x)∧∀ i,(hi:i<ds.length)→k≤i→x≤ds[i]
 | n,a,b,hn,hab,hb,h1,h2=>by
  rw [j6Q]
  simp only [j1r]
  by_cases hlt:a<b
  ·have hm:IntKind.wrap .u64 ((a:Int)+(b:Int))=(a:Int)+(b:Int):=IntWalk.u64_in _ ⟨by omega,by omega⟩
   have hd:Int.fdiv ((a:Int)+(b:Int)) 2=(((a+b)/2:Nat):Int):=by
    rw [Int.fdiv_eq_ediv_of_nonneg _ (by omega)];omega
   have hml:(a+b)/2<ds.length:=by omega
   have hgd:ds.getD ((a+b)/2) (0:Int)=ds[(a+b)/2]:=by simp [hml]
   rw [j01 (show (a:Int)<(b:Int) by omega),j03 (x:=(a:Int)+(b:Int)) (by omega) (by omega),hm,hd,j03 (x:=(((a+b)/2:Nat):Int)) (by omega) (by omega),j2Y (by omega) (by omega),j03 (x:=(((a+b)/2:Nat):Int)+1) (by omega) (by omega)]
   simp only [j5,j7,hgd,js3,j3]
   cases n with
   | zero=>omega
   | succ n=>
    by_cases hc:ds[(a+b)/2]<x
    ·rw [j01 hc,j5,j0x]
     refine jti hs hl n ((a+b)/2+1) b (by omega) (by omega) hb (fun i hi hia=> ?_) h2
     by_cases he:i=(a+b)/2
     ·subst he;exact hc
     ·exact Int.lt_trans (qx.1 hs i ((a+b)/2) hi hml (by omega)) hc
    ·rw [j00 hc,j6,j0x]
     refine jti hs hl n a ((a+b)/2) (by omega) (by omega) (by omega) h1 (fun i hi hia=> ?_)
     by_cases he:i=(a+b)/2
     ·subst he;exact Int.not_lt.1 hc
     ·exact Int.le_trans (Int.not_lt.1 hc) (Int.le_of_lt (qx.1 hs ((a+b)/2) i hml hi (by omega)))
  ·have:a=b:=by omega
   subst this
   rw [j00 (by omega),j6,j0D]
   exact ⟨a,rfl,hb,h1,h2⟩
theorem juD {ds:List Int} (hs:ds.Pairwise (· < ·)) (hl:ds.length≤64) (x:Int):∃ i,j0B ds x=some (i,decide (x∈ds)):=by
 obtain ⟨k,e,hk,h1,h2⟩:=jti hs hl (x:=x) ds.length 0 ds.length (by omega) (by omega) (jv _) (fun i _ h=>by omega) (fun i hi h=>by omega)
 rw [show ((0:Nat):Int)=0 from rfl] at e
 simp only [j0B,show Int.ofNat ds.length=(ds.length:Int) from rfl,e,j3,j7]
 by_cases hkl:k<ds.length
 ·have hgd:ds.getD k (0:Int)=ds[k]:=by simp [hkl]
  rw [j2Y (by omega) (by omega),j01 (show (k:Int)<(ds.length:Int) by omega),hgd]
  simp only [Bool.true_or,j5]
  by_cases hx:ds[k]=x
  ·rw [jcj hx]
   rw [j01 (show x∈ds from hx▸jm hkl)]
   exact ⟨_,rfl⟩
  ·rw [j6E hx]
   have hn:¬ x∈ds:=by
    intro hm
    obtain ⟨i,hi,rfl⟩:=List.getElem_of_mem hm
    rcases zi i k with h | h | h
    ·have:=h1 i hi h;omega
    ·subst h;exact hx rfl
    ·have a1:=h2 k hkl (jv _)
     have a2:=qx.1 hs k i hkl hi h
     omega
   rw [j00 hn]
   simp only [j6,j6i,j3,jf]
   exact ⟨_,rfl⟩
 ·have hn:¬ x∈ds:=by
   intro hm
   obtain ⟨i,hi,rfl⟩:=List.getElem_of_mem hm
   have:=h1 i hi (by omega)
   omega
  rw [j00 hn,j00 (show ¬ (k:Int)<(ds.length:Int) by omega)]
  simp only [kp,Bool.or_true,j5,j6,Bool.false_and]
  exact ⟨_,rfl⟩
def okW (w:WL) (s:Int):Bool:=cond (decide ((w.length:Int)>0)) (hasB s w) true
section
variable {zs:List j2q} {ps:List j1v} {cs:List CalT} {ss:List j3s} (hz:∀ z∈zs,ZOk z)
include hz
theorem ju9 {L:j1M} (hL:LCk zs.length ps.length cs.length L) (hRt:Rt L) {t:Int} (h0:0≤t) (h1:t≤8589934592) {z:j2q} (hzz:zs.getD L.2.1.toNat (ByteArray.empty,((0:Int),([]:List Rule)))=z)
  {s:Int} {d:Int×Int} (hd:j0y (tb z) t=some d) (hs:j3i d=some s) {K:Int} (hK:j1T (tb z) L t=some K) (b:Bool)
  (hcal:L.2.2.2.2.2.2.2.2=0→b=true) (hcal2:L.2.2.2.2.2.2.2.2≠0→∃ x:CalT,cs.getD L.2.2.2.2.2.2.2.1.toNat (ByteArray.empty,((0:Int),([]:List Int)))=x∧CCk zs.length x∧∃ d',j0y (tb (zs.getD x.2.1.toNat (ByteArray.empty,((0:Int),([]:List Rule))))) t=some d'∧b=(decide (d'.1∈x.2.2)==(L.2.2.2.2.2.2.2.2==(2:Int)))) :
  ∃ r,j3q ((zs,(ps,(cs,ss))),zs.map tb) L t=some (r,cond (decide (0≤K)) (cond (okW L.2.2.2.2.2.2.1 s) b false) false)∧(cond (decide (0≤K)) (cond (okW L.2.2.2.2.2.2.1 s) b false) false=true→r=K):=by
 have _:=hz;have _:=hRt
 have hwl:=hL.wl
 have hlen:(zs.map tb).length=zs.length:=qc ..
 have hg:=jsr (zs:=zs) hL.z0 hL.z1
 rw [hzz] at hg
 simp only [j3q]
 rw [j00 (show ¬ t<0 by omega),j00 (show ¬ t>8589934592 by omega),j2Y hL.z0 (by rw [hlen];exact hL.z1)]
 simp only [j6,j5,hg]
 rw [show j1T ((tb z).1,(tb z).2) (L.1,L.2.1,(L.2.2.1.1,L.2.2.1.2),L.2.2.2.1,L.2.2.2.2.1,L.2.2.2.2.2.1,L.2.2.2.2.2.2.1,L.2.2.2.2.2.2.2.1,L.2.2.2.2.2.2.2.2) t=_ from hK]
 simp only [j3]
 by_cases hk:0≤K
 ·rw [j00 (show ¬ K<0 by omega),j01 hk]
  simp only [j6,j5,show Int.ofNat L.2.2.2.2.2.2.1.length=(L.2.2.2.2.2.2.1.length:Int) from rfl]
  have tail:∃ r,(cond (L.2.2.2.2.2.2.2.2==(0:Int)) (some (K,true)) (cond (inR L.2.2.2.2.2.2.2.1 cs.length) (cond (inR (cs.getD L.2.2.2.2.2.2.2.1.toNat (ByteArray.empty,((0:Int),([]:List Int)))).2.1 (zs.map tb).length) ((j0y ((List.getD (zs.map tb) (cs.getD L.2.2.2.2.2.2.2.1.toNat (ByteArray.empty,((0:Int),([]:List Int)))).2.1.toNat ((0:Int),([]:TrL))).1,(List.getD (zs.map tb) (cs.getD L.2.2.2.2.2.2.2.1.toNat (ByteArray.empty,((0:Int),([]:List Int)))).2.1.toNat ((0:Int),([]:TrL))).2) t).bind fun r68=>
    (j0B (cs.getD L.2.2.2.2.2.2.2.1.toNat (ByteArray.empty,((0:Int),([]:List Int)))).2.2 r68.1).bind fun r70=>some (K,(r70.2==(L.2.2.2.2.2.2.2.2==(2:Int))))) none) none))=some (r,b)∧(b=true→r=K):=by
   by_cases hm:L.2.2.2.2.2.2.2.2=0
   ·rw [jcj hm,j5,hcal hm]
    exact ⟨K,rfl,fun _=>rfl⟩
   ·obtain ⟨x,hx,hxc,d',hd',hb⟩:=hcal2 hm
    have hc:=hL.cal hm
    obtain ⟨i,hi⟩:=juD hxc.asc hxc.len d'.1
    have hg2:=jsr (zs:=zs) hxc.z0 hxc.z1
    rw [j6E hm,j6,j2Y hc.1 hc.2,hx,j2Y hxc.z0 (by rw [hlen];exact hxc.z1)]
    simp only [j5,hg2]
    rw [show j0y ((tb (zs.getD x.2.1.toNat (ByteArray.empty,((0:Int),([]:List Rule))))).1,(tb (zs.getD x.2.1.toNat (ByteArray.empty,((0:Int),([]:List Rule))))).2) t=_ from hd']
    simp only [j3,hi]
    rw [←hb]
    exact ⟨K,rfl,fun _=>rfl⟩
  by_cases hw:(L.2.2.2.2.2.2.1.length:Int)>0
  ·rw [j01 hw,j5,show j0y ((tb z).1,(tb z).2) t=_ from hd]
   simp only [j3,show j3i (d.1,d.2)=_ from hs,jtO hwl,okW]
   rw [j01 hw,j5]
   cases hh:hasB s L.2.2.2.2.2.2.1 with
   | true=>
    simp only [jk,j6,j5]
    exact tail
   | false=>exact ⟨0,rfl,fun h=>by simp at h⟩
  ·simp only [okW]
   rw [j00 hw]
   simp only [j6,j5]
   exact tail
 ·rw [j01 (show K<0 by omega),j00 hk]
  exact ⟨0,rfl,fun h=>by simp at h⟩
def whoL (L:j1M) (K:Int):Int:=L.2.2.2.2.2.1.getD (Int.tmod K (L.2.2.2.2.2.1.length:Int)).toNat 0
omit hz in
theorem js4 {v:CfgT×List (Int×TrL)} {L:j1M} {t r K:Int} {b:Bool} (hm:L.2.2.2.2.2.1.length≠0) (e:j3q v L t=some (r,b)) (hr:b=true→r=K) (hK:b=true→0≤K) :
  j1c v L t=some (cond b (whoL L K) (-1)):=by
 simp only [j1c,show j3q ((v.1.1,v.1.2.1,v.1.2.2.1,v.1.2.2.2),v.2) (L.1,L.2.1,(L.2.2.1.1,L.2.2.1.2),L.2.2.2.1,L.2.2.2.2.1,L.2.2.2.2.2.1,L.2.2.2.2.2.2.1,L.2.2.2.2.2.2.2.1,L.2.2.2.2.2.2.2.2) t=_ from e,j3]
 cases b with
 | false=>rfl
 | true=>
  have:=hr rfl
  subst this
  have hk:=hK rfl
  have q1:0≤Int.tmod r (L.2.2.2.2.2.1.length:Int):=Int.tmod_nonneg _ hk
  have q2:Int.tmod r (L.2.2.2.2.2.1.length:Int)<(L.2.2.2.2.2.1.length:Int):=Int.tmod_lt_of_pos _ (by omega)
  simp only [jk,j6,j5,show Int.ofNat L.2.2.2.2.2.1.length=(L.2.2.2.2.2.1.length:Int) from rfl,whoL]
  rw [j6E (show ¬ (L.2.2.2.2.2.1.length:Int)=0 by omega),j2Y q1 q2]
  rfl
end
theorem LCk.rt {nz np nc:Nat} {L:j1M} (h:LCk nz np nc L) (hd:L.2.2.1.1≤100000):Rt L:=
 ⟨h.d0,hd,h.c0,h.c1,h.u0,h.u1,h.e0,h.e1,fun hn=>h.m0 (by rw [hn];rfl)⟩
theorem jua {z:j2q} (hz:ZOk z) {t:Int} (h0:0≤t) (h1:t≤8589934592):∃ d s,j0y (tb z) t=some d∧j3i d=some s:=by
 have ht:=hz.ztab
 obtain ⟨j,hj,j1,j2⟩:=joa ht.2 h0 h1
 have o0:=ht.2.of0 j hj;have o1:=ht.2.of1 j hj
 obtain ⟨s,hs⟩:∃ s,j3i ((t+tof z.2.1 (tb z).2 j)/86400,(t+tof z.2.1 (tb z).2 j)%86400)=some s:=by
  simp only [j3i,jjJ,j3]
  exact ⟨_,rfl⟩
 exact ⟨_,s,jod ht.2 hj j1 j2,hs⟩
abbrev SL:=List (Int×Int)
def StS (p:Int):SL→Prop
 | []=>True
 | x::r=>p<x.1∧x.1<x.2∧StS x.2 r
def Sml (l:SL):Prop:=∀ s∈l, -1000000000000≤s.1∧s.1≤1000000000000 ∧ -1000000000000≤s.2∧s.2≤1000000000000
section
variable {o:Int} {l:TrL} (h:TOk o l)
include h
end
theorem StS.weak {p q:Int} (hq:q≤p):∀ {l:SL},StS p l→StS q l
 | [],_=>trivial
 | _::_,h=>⟨by have:=h.1;omega,h.2⟩
theorem StS.mem {p:Int}:∀ {l:SL},StS p l→∀ s∈l,p<s.1∧s.1<s.2
 | [],_,s,hs=>by simp at hs
 | u::r,h,s,hs=>by
  rcases jc.1 hs with rfl | hs
  ·exact ⟨h.1,h.2.1⟩
  ·have:=StS.mem h.2.2 s hs;have:=h.1;have:=h.2.1;omega
section
variable {B:SL} (hB:B.length≤10000000)
include hB
end
set_option linter.unusedSectionVars false
section
variable {l:SL} {p:Int} (h:StS p l) (hp : -1≤p) (hl:l.length≤4096) (hb:∀ u∈l,u.2≤8589934592)
include h hp hl hb
end
theorem jqY:j40 2241=some 98981:=by kernel_rfl
theorem jqZ:j40 1970=some 0:=by kernel_rfl
theorem jub {d:Int} (h:j1o d=some true):d≤100000:=by
 apply Classical.byContradiction
 intro hd
 simp only [j1o,j6z,jqZ,jqY,j3] at h
 rw [j00 (show ¬ d<0 by omega),j01 (show d≥98981 by omega)] at h
 simp at h
theorem LCk.rt2 {nz np nc:Nat} {L:j1M} (h:LCk nz np nc L):Rt L:=h.rt (jub h.day)
section
variable {zs:List j2q} {ps:List j1v} {cs:List CalT} (hs:SOk2 zs ps cs)
include hs
theorem cget {i:Int} (h0:0≤i) (h1:i<(cs.length:Int)):CCk zs.length (cs.getD i.toNat (ByteArray.empty,((0:Int),([]:List Int)))):=by
 have hi:i.toNat<cs.length:=by omega
 rw [show cs.getD i.toNat (ByteArray.empty,((0:Int),([]:List Int)))=cs[i.toNat] by simp [List.getD,hi]]
 exact hs.c.ck _ (jm hi)
end
def jmt (es:List jd7) (p t:Int):Bool:=es.any fun x=>x.1==0&&(x.2.1==p&&(decide (x.2.2.2.1≤t)&&decide (t<x.2.2.2.2)))
theorem juc {es:List jd7} {p t:Int} (hl:es.length≤1000):∀ (n i:Nat),i+n=es.length→∃ r,j0r es p t (es.length:Int) (i:Int)=some r∧
  match r with
  | .inl k=>0≤k∧jmt (es.drop i) p t=true
  | .inr _=>jmt (es.drop i) p t=false
 | 0,i,hi=>by
  rw [j2Q]
  simp only [j0G]
  rw [j00 (by omega),j6,j0D,jg (by omega)]
  exact ⟨_,rfl,rfl⟩
 | n+1,i,hi=>by
  have hlt:i<es.length:=by omega
  have hgd:es.getD i ((0:Int),((0:Int),((0:Int),((0:Int),(0:Int)))))=es[i]:=by simp [List.getD,hlt]
  rw [j2Q]
  simp only [j0G,jbH]
  rw [j01 (by omega),j2Y (by omega) (by omega),j03 (x:=(i:Int)+1) (by omega) (by omega)]
  simp only [j5,j7,hgd,j3]
  rw [ju hlt]
  have e:(cond (cond (cond (es[i].1==(0:Int)) (es[i].2.1==p) false) (decide (es[i].2.2.2.1≤t)) false) (decide (t<es[i].2.2.2.2)) false)=(es[i].1==0&&(es[i].2.1==p&&(decide (es[i].2.2.2.1≤t)&&decide (t<es[i].2.2.2.2)))):=by
   cases es[i].1==(0:Int)<;>cases es[i].2.1==p<;>cases decide (es[i].2.2.2.1≤t)<;>rfl
  rw [e]
  have ha:jmt (es[i]::es.drop (i+1)) p t=((es[i].1==0&&(es[i].2.1==p&&(decide (es[i].2.2.2.1≤t)&&decide (t<es[i].2.2.2.2))))||jmt (es.drop (i+1)) p t):=rfl
  rw [ha]
  cases hx:(es[i].1==0&&(es[i].2.1==p&&(decide (es[i].2.2.2.1≤t)&&decide (t<es[i].2.2.2.2)))) with
  | true=>
   rw [j5,j0D]
   exact ⟨_,rfl,by omega,rfl⟩
  | false=>
   rw [j6,j0x]
   obtain ⟨r,e1,e2⟩:=juc (es:=es) (p:=p) (t:=t) hl n (i+1) (by omega)
   exact ⟨r,e1,by simpa using e2⟩
theorem jtj {nm:ByteArray} {ls:List j1M} {es:List jd7} {p t:Int} (hl:es.length≤1000):j6D (nm,(ls,es)) p t=some (jmt es p t):=by
 obtain ⟨r,e1,e2⟩:=juc (p:=p) (t:=t) hl es.length 0 (by omega)
 simp only [j6D,j0C,j0J,show Int.ofNat es.length=(es.length:Int) from rfl]
 rw [show j0r es p t (es.length:Int) 0=_ from e1]
 cases r with
 | inl k=>
  simp only [z6] at e2
  simp only [j3,jrI,e2.2]
  rw [j01 (show k≥0 from e2.1)]
 | inr u=>
  simp only [z6] at e2
  simp only [j3,j91,e2]
  rfl
def topI (good:Nat→Bool):Nat→Option Nat
 | 0=>none
 | n+1=>cond (good n) (some n) (topI good n)
def jfI (es:List jd7) (t:Int) (Pf:Nat→Int) (i:Nat):Bool:=decide (0≤Pf i) && !jmt es (Pf i) t
theorem jss {ls:List j1M} {zs:List j2q} {ps:List j1v} {cs:List CalT} {ss:List j3s} {tbs:List (Int×TrL)} {nm:ByteArray} {es:List jd7} {t b6 b7:Int} {Pf:Nat→Int} (hl:es.length≤1000)
  (hP:∀ i (h:i<ls.length),j1c ((zs,(ps,(cs,ss))),tbs) ls[i] t=some (Pf i)):∀ n:Nat,n≤ls.length→
  j37 (n:Int) ls zs ps cs ss tbs nm ls es t b6 b7=some (match topI (jfI es t Pf) n with | some i=> .inr ((i:Int),Pf i) | none=> .inl (b6,b7))
 | 0,hn=>by
  rw [j9C]
  simp only [j1l]
  rw [j01 (by omega),j5,j0D]
  rfl
 | n+1,hn=>by
  have hlt:n<ls.length:=by omega
  have hgd:ls.getD n (ByteArray.empty,((0:Int),(((0:Int),(0:Int)),((0:Int),((0:Int),(([]:List Int),(([]:List (Int×Int)),((0:Int),(0:Int)))))))))=ls[n]:=by simp [List.getD,hlt]
  have ih:=jss (nm:=nm) (b6:=b6) (b7:=b7) hl hP n (by omega)
  have hp:=hP n hlt
  rw [j9C]
  simp only [j1l]
  rw [j00 (by omega),j01 (show ((n+1:Nat):Int)≤Int.ofNat ls.length by simp;omega),show ((n+1:Nat):Int)-1=(n:Int) by omega]
  simp only [j5,j6,j7,hgd]
  rw [show j1c ((zs,(ps,(cs,ss))),tbs) (ls[n].1,(ls[n].2.1,((ls[n].2.2.1.1,ls[n].2.2.1.2),(ls[n].2.2.2.1,(ls[n].2.2.2.2.1,(ls[n].2.2.2.2.2.1,(ls[n].2.2.2.2.2.2.1,(ls[n].2.2.2.2.2.2.2.1,ls[n].2.2.2.2.2.2.2.2)))))))) t=_ from hp]
  simp only [j3,topI,jfI]
  by_cases h0:0≤Pf n
  ·rw [j00 (show ¬ Pf n<0 by omega),j01 h0]
   simp only [j6,jtj hl,j3,Bool.true_and]
   cases jmt es (Pf n) t with
   | true=>
    simp only [jk,j6,j0x]
    exact ih
   | false=>rfl
  ·rw [j01 (show Pf n<0 by omega),j00 h0]
   simp only [j5,Bool.false_and,j6,j0x]
   exact ih
theorem jp6 {ls:List j1M} {zs:List j2q} {ps:List j1v} {cs:List CalT} {ss:List j3s} {tbs:List (Int×TrL)} {nm:ByteArray} {es:List jd7} {t:Int} {Pf:Nat→Int} (hl:es.length≤1000)
  (hP:∀ i (h:i<ls.length),j1c ((zs,(ps,(cs,ss))),tbs) ls[i] t=some (Pf i)) :
  j2R ((zs,(ps,(cs,ss))),tbs) (nm,(ls,es)) t=some (match topI (jfI es t Pf) ls.length with | some i=>((i:Int),Pf i) | none=>((-1:Int),(-1:Int))):=by
 have lp:=jss (nm:=nm) (b6:=0) (b7:=0) hl hP ls.length (jv _)
 simp only [j2R,j1q,j3]
 rw [show j37 (Int.ofNat ls.length) ls zs ps cs ss tbs nm ls es t 0 0=_ from lp]
 cases topI (jfI es t Pf) ls.length with
 | none=>rfl
 | some i=>rfl
section
variable {zs:List j2q} {ps:List j1v} {cs:List CalT} {ss:List j3s}
theorem jud (hz:∀ z∈zs,ZOk z) (hc:jix (zs,(ps,(cs,ss)))):jcR (zs,(ps,(cs,ss)))=some (((zs,(ps,(cs,ss))),zs.map tb),true):=by
 have hzl:zs.length≤16:=hc.zl
 simp only [jcR,show j3M (zs,(ps,(cs,ss)))=_ from jnt hc,j3,jf,j6,jth (ps:=ps) (cs:=cs) (ss:=ss) hz (show zs.length≤100 by omega)]
theorem js5 (hz:∀ z∈zs,ZOk z) (hc:jix (zs,(ps,(cs,ss)))) {i:Nat} (hi:i<ss.length):j6C (zs,(ps,(cs,ss))) (i:Int)=some (((zs,(ps,(cs,ss))),zs.map tb),ss[i],true):=by
 have hgd:ss.getD i (ByteArray.empty,(([]:List j1M),([]:List jd7)))=ss[i]:=by simp [List.getD,hi]
 simp only [j6C,jud hz hc,j3,jk,j6,jbC,show Int.ofNat ss.length=(ss.length:Int) from rfl]
 rw [j01 (show (i:Int)≥0 by omega),j01 (show (i:Int)<(ss.length:Int) by omega),j2Y (by omega) (by omega)]
 simp only [j5,jk,j6,j7,hgd]
def topP (es:List jd7) (t:Int) (Pf:Nat→Int) (n:Nat):Int:=match topI (jfI es t Pf) n with
 | some i=>Pf i
 | none=> -1
def topN (es:List jd7) (t:Int) (Pf:Nat→Int) (n:Nat):Int:=match topI (jfI es t Pf) n with
 | some i=>i
 | none=> -1
theorem jtk (hz:∀ z∈zs,ZOk z) (hc:jix (zs,(ps,(cs,ss)))) {i:Nat} (hi:i<ss.length) {t:Int} {Pf:Nat→Int}
  (hP:∀ k (h:k<ss[i].2.1.length),j1c ((zs,(ps,(cs,ss))),zs.map tb) ss[i].2.1[k] t=some (Pf k)) :
  j4J (zs,(ps,(cs,ss))) (i:Int) t=some (topP ss[i].2.2 t Pf ss[i].2.1.length)∧j5g (zs,(ps,(cs,ss))) (i:Int) t=some (topN ss[i].2.2 t Pf ss[i].2.1.length):=by
 have hel:=(hc.sc ss[i] (jm hi)).el
 have ho:=js5 hz hc hi
 have hL:=jp6 (nm:=ss[i].1) (es:=ss[i].2.2) (by omega) hP
 constructor
 ·simp only [j4J,ho,j3,jk,j6]
  rw [show j2R ((zs,(ps,(cs,ss))),zs.map tb) (ss[i].1,(ss[i].2.1,ss[i].2.2)) t=_ from hL]
  simp only [j3,topP]
  cases topI (jfI ss[i].2.2 t Pf) ss[i].2.1.length<;>rfl
 ·simp only [j5g,ho,j3,jk,j6]
  rw [show j2R ((zs,(ps,(cs,ss))),zs.map tb) (ss[i].1,(ss[i].2.1,ss[i].2.2)) t=_ from hL]
  simp only [j3,topN]
  cases topI (jfI ss[i].2.2 t Pf) ss[i].2.1.length<;>rfl
end
def nms3:List ByteArray:=[(ByteArray.mk #[102,105,114,115,116]),(ByteArray.mk #[115,101,99,111,110,100]),(ByteArray.mk #[116,104,105,114,100])]
theorem jtl:NmL nms3:=by
 refine ⟨by decide,fun k hk=> ?_⟩
 simp only [nms3,jc,qo,or_false] at hk
 rcases hk with rfl | rfl | rfl<;>exact j75 60 _ true (by kernel_rfl)
structure SG (nz np nc:Nat) (s:j3s):Prop where
 ck:SCk nz np nc s
 nm:s.2.1.map (·.1)=nmsL.take s.2.1.length
 ll:s.2.1.length≤3
 el:s.2.2.length≤3
theorem jst {L:List Int} {zs:List j2q} {ps:List j1v} {cs:List CalT} (hs:SOk zs ps cs):∀ (n:Nat) (a:Int) (ss:List j3s),DOk L a→ss.length+n≤3→ss.map (·.1)=nms3.take ss.length→(∀ s∈ss,SG zs.length ps.length cs.length s)→
  ∃ ss' a',j4z (n:Int) L a zs ps cs ss=some (L,a',zs,ps,cs,ss')∧ss'.length=ss.length+n∧ss'.map (·.1)=nms3.take ss'.length∧(∀ s∈ss',SG zs.length ps.length cs.length s)∧DOk L a'
 | 0,a,ss,hd,hl,hn,hg=>by
  rw [j7n]
  simp only [j2l]
  rw [j00 (by omega),j6,j0D]
  exact ⟨ss,a,rfl,rfl,hn,hg,hd⟩
 | n+1,a,ss,hd,hl,hn,hg=>by
  have hlt:ss.length<nms3.length:=by show ss.length<3;omega
  have hmod:Int.tmod (Int.ofNat ss.length) 3=(ss.length:Int):=by
   have:Int.tmod (ss.length:Int) 3=(ss.length:Int):=Int.tmod_eq_of_lt (by omega) (by omega)
   exact this
  obtain ⟨k,a3,e3,k0,k1,d3⟩:=j0I (n:=4) hd (by omega) (by omega)
  obtain ⟨ls,a4,e4,l4,lk,ln,d4⟩:=ju0 (s6:=((n+1:Nat):Int)) (nm:=List.getD nms3 ss.length ByteArray.empty) (ss:=ss) hs k.toNat a3 [] d3 (by simp;omega) (by simp) rfl
  obtain ⟨m,a5,e5,m0,m1,d5⟩:=j0I (n:=4) d4 (by omega) (by omega)
  obtain ⟨es,a6,e6,l6,ek,d6⟩:=ju1 (s6:=((n+1:Nat):Int)) (nm:=List.getD nms3 ss.length ByteArray.empty) (zs:=zs) (cs:=cs) (ss:=ss) (ls:=ls) hs m.toNat a5 [] d5 (by simp;omega) (by simp)
  rw [show ((k.toNat:Nat):Int)=k by omega] at e4
  rw [show ((m.toNat:Nat):Int)=m by omega] at e6
  have hnew:SG zs.length ps.length cs.length (List.getD nms3 ss.length ByteArray.empty,(ls,es)):=
   ⟨⟨by dsimp only;rw [ln];exact jqS.take _,lk,by dsimp only;omega,ek,by dsimp only;omega⟩,ln,l4,l6⟩
  obtain ⟨ss',a',e',h1,h2,h3,h4⟩:=jst hs n a6 (ss++[(List.getD nms3 ss.length ByteArray.empty,(ls,es))]) d6 (by simp;omega) (by
   rw [qt,hn,jh]
   exact jl1 hlt) (fun s h=>by
   rcases jr.1 h with h | h
   ·exact hg s h
   ·simp at h;subst h;exact hnew)
  rw [j7n]
  simp only [j2l]
  rw [j01 (show ((n+1:Nat):Int)>0 by omega),hmod,j2Y (by omega) (by show (ss.length:Int)<(3:Nat);omega)]
  simp only [j5,j7,e3,j3]
  rw [show j3w ((n+1:Nat):Int) k L a3 zs ps cs (List.getD [(ByteArray.mk #[102,105,114,115,116]),(ByteArray.mk #[115,101,99,111,110,100]),(ByteArray.mk #[116,104,105,114,100])] ss.length ByteArray.empty) ss []=_ from e4]
  simp only [j3,e5,e6]
  rw [j01 (by simp [j0b];omega),j03 (by omega) (by omega),show ((n+1:Nat):Int)-1=(n:Int) by omega]
  simp only [j5,j0x]
  exact ⟨ss',a',e',by rw [h1];simp;omega,h2,h3,h4⟩
theorem jp7 {L:List Int} {a n:Int} (h:DOk L a) (n0:1≤n) (n1:n≤3):∃ zs ps cs ss a',j6j L a n=some ((zs,(ps,(cs,ss))),L,a')∧SOk2 zs ps cs∧1≤ss.length∧(ss.length:Int)≤n∧ss.map (·.1)=nms3.take ss.length∧(∀ s∈ss,SG zs.length ps.length cs.length s)∧DOk L a':=by
 obtain ⟨zs,ps,cs,a1,e1,hs,d1⟩:=jqU h
 obtain ⟨x,a2,e2,x0,x1,d2⟩:=j0I (n:=n) d1 (by omega) (by omega)
 obtain ⟨ss,a3,e3,h1,h2,h3,d3⟩:=jst hs.so (1+x).toNat a2 [] d2 (by simp;omega) (by simp) (by simp)
 rw [show (((1+x).toNat:Nat):Int)=1+x by omega] at e3
 simp at h1
 simp only [j6j,e1,e2,j3]
 rw [j03 (x:=1+x) (by omega) (by omega)]
 simp only [e3,j3]
 exact ⟨zs,ps,cs,ss,a3,rfl,hs,by omega,by omega,h2,h3,d3⟩
theorem jr0 {zs:List j2q} {ps:List j1v} {cs:List CalT} {ss:List j3s} (hs:SOk2 zs ps cs) (h0:ss.length≤12) (h1:NmL (ss.map (·.1))) (h2:∀ s∈ss,SCk zs.length ps.length cs.length s):jix (zs,(ps,(cs,ss))):=ju2 hs h0 h1 h2
instance (L:j1M):Decidable (Rt L):=
 decidable_of_iff (1≤L.2.2.1.1∧L.2.2.1.1≤100000∧0≤L.2.2.1.2∧L.2.2.1.2≤86399∧0≤L.2.2.2.1∧L.2.2.2.1≤2∧1≤L.2.2.2.2.1∧L.2.2.2.2.1≤400∧L.2.2.2.2.2.1≠[])
  ⟨fun ⟨a,b,c,d,e,f,g,h,i⟩=>⟨a,b,c,d,e,f,g,h,i⟩,fun ⟨a,b,c,d,e,f,g,h,i⟩=>⟨a,b,c,d,e,f,g,h,i⟩⟩
section
variable {z:j2q} {l:TrL} (h4:Z4 z l)
include h4
end
abbrev SgT:=Int×(Int×Int)
abbrev SgL:=List SgT
def Ch (f:Int→Int) (b:Int):Int→SgL→Prop
 | a,[]=>a=b
 | a,s::r=>s.1=a∧a≤s.2.1∧(∀ t,a≤t→t<s.2.1→f t=s.2.2)∧Ch f b s.2.1 r
def Cov (f:Int→Int) (b:Int):Option Int→Int→SgL→Prop
 | _,a,[]=>a=b
 | q,a,s::r=>s.1=a∧a<s.2.1∧q≠some s.2.2∧(∀ t,a≤t→t<s.2.1→f t=s.2.2)∧Cov f b (some s.2.2) s.2.1 r
theorem Ch.le {f:Int→Int} {b:Int}:∀ {l:SgL} {a:Int},Ch f b a l→a≤b
 | [],_,h=>Int.le_of_eq h
 | _::_,_,h=>Int.le_trans h.2.1 h.2.2.2.le
theorem Ch.app {f:Int→Int} {b c:Int}:∀ {l r:SgL} {a:Int},Ch f b a l→Ch f c b r→Ch f c a (l++r)
 | [],_,_,h,h'=>by have h:_=_:=h;subst h;exact h'
 | _::_,_,_,h,h'=>⟨h.1,h.2.1,h.2.2.1,h.2.2.2.app h'⟩
theorem Cov.ch {f:Int→Int} {b:Int}:∀ {l:SgL} {q:Option Int} {a:Int},Cov f b q a l→Ch f b a l
 | [],_,_,h=>h
 | _::_,_,_,h=>⟨h.1,Int.le_of_lt h.2.1,h.2.2.2.1,h.2.2.2.2.ch⟩
theorem Cov.uniq {f:Int→Int} {b:Int}:∀ {l l':SgL} {q:Option Int} {a:Int},Cov f b q a l→Cov f b q a l'→l=l'
 | [],[],_,_,_,_=>rfl
 | [],_::_,_,_,h,h'=>by have:=h'.2.1;have:=h'.2.2.2.2.ch.le;have h:_=_:=h;omega
 | _::_,[],_,_,h,h'=>by have:=h.2.1;have:=h.2.2.2.2.ch.le;have h':_=_:=h';omega
 | s::r,s'::r',q,a,h,h'=>by
  obtain ⟨h1,h2,h3,h4,h5⟩:=h
  obtain ⟨g1,g2,g3,g4,g5⟩:=h'
  have hp:s.2.2=s'.2.2:=by rw [←h4 a (by omega) h2,←g4 a (by omega) g2]
  have ht:s.2.1=s'.2.1:=by
   apply Classical.byContradiction
   intro hne
   by_cases hlt:s.2.1<s'.2.1
   ·match r,h5 with
    | [],h5=>have:=g5.ch.le;have h5:_=_:=h5;omega
    | u::v,h5=>
     have e1:=h5.2.2.2.1 s.2.1 (by omega) h5.2.1
     have e2:=g4 s.2.1 (by omega) hlt
     exact h5.2.2.1 (by rw [←e1,e2,hp])
   ·match r',g5 with
    | [],g5=>have:=h5.ch.le;have g5:_=_:=g5;omega
    | u::v,g5=>
     have e1:=g5.2.2.2.1 s'.2.1 (by omega) g5.2.1
     have e2:=h4 s'.2.1 (by omega) (by omega)
     exact g5.2.2.1 (by rw [←e1,e2,hp])
  have hs:s=s':=Prod.ext (by rw [h1,g1]) (Prod.ext ht hp)
  subst hs
  rw [h5.uniq g5]
def lstP:Option Int→SgL→Option Int
 | q,[]=>q
 | _,s::r=>lstP (some s.2.2) r
theorem Cov.ext {f:Int→Int} {b c x p:Int}:∀ {l:SgL} {q:Option Int} {a:Int},Cov f b q a (l++[(x,(b,p))])→b≤c→(∀ t,b≤t→t<c→f t=p)→Cov f c q a (l++[(x,(c,p))])
 | [],_,_,h,hbc,hp=>⟨h.1,by have:=h.2.1;dsimp only at this ⊢;omega,h.2.2.1,fun t h1 h2=>by
  by_cases ht:t<b
  ·exact h.2.2.2.1 t h1 ht
  ·exact hp t (by omega) h2,rfl⟩
 | _::_,_,_,h,hbc,hp=>⟨h.1,h.2.1,h.2.2.1,h.2.2.2.1,h.2.2.2.2.ext hbc hp⟩
theorem Ch.mem {f:Int→Int} {b:Int}:∀ {l:SgL} {a:Int},Ch f b a l→∀ s∈l,a≤s.1∧s.1≤s.2.1∧s.2.1≤b∧∀ t,s.1≤t→t<s.2.1→f t=s.2.2
 | [],_,_,s,hs=>by simp at hs
 | u::r,a,h,s,hs=>by
  obtain ⟨h1,h2,h3,h4⟩:=h
  rcases jc.1 hs with rfl | hs
  ·exact ⟨by omega,by omega,h4.le,fun t t1 t2=>h3 t (by omega) t2⟩
  ·have:=h4.mem s hs
   exact ⟨by omega,this.2.1,this.2.2.1,this.2.2.2⟩
theorem Ch.has {f:Int→Int} {b:Int}:∀ {l:SgL} {a:Int},Ch f b a l→∀ x,a≤x→x<b→∃ s∈l,s.1≤x∧x<s.2.1
 | [],_,h,x,h1,h2=>by have h:_=_:=h;omega
 | u::r,a,h,x,h1,h2=>by
  obtain ⟨g1,g2,g3,g4⟩:=h
  by_cases hx:x<u.2.1
  ·exact ⟨u,by simp,by omega,hx⟩
  ·obtain ⟨s,hs,e⟩:=g4.has x (by omega) h2
   exact ⟨s,by simp [hs],e⟩
theorem Ch.congr {f g:Int→Int} {b:Int}:∀ {l:SgL} {a:Int},Ch f b a l→(∀ t,a≤t→t<b→f t=g t)→Ch g b a l
 | [],_,h,_=>h
 | u::r,a,h,hg=>by
  obtain ⟨g1,g2,g3,g4⟩:=h
  have:=g4.le
  exact ⟨g1,g2,fun t t1 t2=>by rw [←hg t t1 (by omega)];exact g3 t t1 t2,g4.congr (fun t t1 t2=>hg t (by omega) t2)⟩
theorem Cov.pos {f:Int→Int} {b:Int}:∀ {l:SgL} {q:Option Int} {a:Int},Cov f b q a l→∀ s∈l,s.1<s.2.1
 | [],_,_,_,s,hs=>by simp at hs
 | u::r,_,a,h,s,hs=>by
  rcases jc.1 hs with rfl | hs
  ·have:=h.1;have:=h.2.1;omega
  ·exact h.2.2.2.2.pos s hs
section
variable {zs:List j2q} {ps:List j1v} {cs:List CalT} (hs:SOk2 zs ps cs)
include hs
omit hs in
def zAt (zs:List j2q) (i:Int):j2q:=zs.getD i.toNat (ByteArray.empty,((0:Int),([]:List Rule)))
omit hs in
def cAt (cs:List CalT) (i:Int):CalT:=cs.getD i.toNat (ByteArray.empty,((0:Int),([]:List Int)))
omit hs in
def locD (z:j2q) (t:Int):Int×Int:=(j0y (tb z) t).getD (0,0)
omit hs in
def secD (d:Int×Int):Int:=(j3i d).getD 0
omit hs in
def shK (z:j2q) (L:j1M) (t:Int):Int:=(j1T (tb z) L t).getD (-1)
omit hs in
def calB (zs:List j2q) (cs:List CalT) (L:j1M) (t:Int):Bool:=
 cond (L.2.2.2.2.2.2.2.2==0) true (decide ((locD (zAt zs (cAt cs L.2.2.2.2.2.2.2.1).2.1) t).1∈(cAt cs L.2.2.2.2.2.2.2.1).2.2)==(L.2.2.2.2.2.2.2.2==(2:Int)))
omit hs in
def onX (zs:List j2q) (cs:List CalT) (L:j1M) (t:Int):Bool:=
 cond (decide (0≤shK (zAt zs L.2.1) L t)) (cond (okW L.2.2.2.2.2.2.1 (secD (locD (zAt zs L.2.1) t))) (calB zs cs L t) false) false
omit hs in
def perX (zs:List j2q) (cs:List CalT) (L:j1M) (t:Int):Int:=cond (onX zs cs L t) (whoL L (shK (zAt zs L.2.1) L t)) (-1)
omit hs in
theorem jr1 {z:j2q} (hz:ZOk z) {t:Int} (h0:0≤t) (h1:t≤8589934592):j0y (tb z) t=some (locD z t)∧j3i (locD z t)=some (secD (locD z t)):=by
 obtain ⟨d,s,hd,hsc⟩:=jua hz h0 h1
 have:locD z t=d:=by simp [locD,hd]
 rw [this]
 exact ⟨hd,by simp [secD,hsc]⟩
omit hs in
theorem jue {z:j2q} (hz:ZOk z) {L:j1M} (hR:Rt L) {t:Int} (h0:0≤t) (h1:t≤8589934592):j1T (tb z) L t=some (shK z L t)∧ShO z.2.1 (tb z).2 L t (shK z L t):=by
 obtain ⟨K,e,hK⟩:=juC hz.ztab.2 hR h0 h1
 have:shK z L t=K:=by simp only [shK,show j1T (tb z) L t=_ from e,qm]
 rw [this]
 exact ⟨e,hK⟩
theorem juE {L:j1M} (hL:LCk zs.length ps.length cs.length L) {ss:List j3s} {t:Int} (h0:0≤t) (h1:t≤8589934592) :
  (∃ r,j3q ((zs,(ps,(cs,ss))),zs.map tb) L t=some (r,onX zs cs L t))∧j1c ((zs,(ps,(cs,ss))),zs.map tb) L t=some (perX zs cs L t)∧(onX zs cs L t=true→0≤shK (zAt zs L.2.1) L t):=by
 have hRt:=hL.rt2
 have hz:=zget hs.so.ok hL.z0 hL.z1
 obtain ⟨hd,hsc⟩:=jr1 hz h0 h1
 obtain ⟨eK,hK⟩:=jue hz hRt h0 h1
 have hon:onX zs cs L t=true→0≤shK (zAt zs L.2.1) L t:=fun h=>by
  by_cases hk:0≤shK (zAt zs L.2.1) L t
  ·exact hk
  ·unfold onX at h;rw [j00 hk] at h;simp at h
 obtain ⟨r,er,hr⟩:=ju9 (ps:=ps) (ss:=ss) hs.so.ok hL hRt h0 h1 rfl hd hsc eK (calB zs cs L t) (fun h=>by unfold calB;rw [jcj h];rfl) (fun h=>⟨_,rfl,cget hs (hL.cal h).1 (hL.cal h).2,_,(jr1 (zget hs.so.ok (cget hs (hL.cal h).1 (hL.cal h).2).z0 (cget hs (hL.cal h).1 (hL.cal h).2).z1) h0 h1).1,by
  unfold calB;rw [j6E h];rfl⟩)
 exact ⟨⟨r,er⟩,js4 hL.m0 er hr hon,hon⟩
end
section
variable {zs:List j2q} {ps:List j1v} {cs:List CalT} (hs:SOk2 zs ps cs)
include hs
end
section
variable {zs:List j2q} {ps:List j1v} {cs:List CalT} (hs:SOk2 zs ps cs)
include hs
section
variable {ss:List j3s} (g0:ss.length≤12) (g1:NmL (ss.map (·.1))) (g2:∀ s∈ss,SCk zs.length ps.length cs.length s)
 {L:j1M} (hL:LCk zs.length ps.length cs.length L) (hn:j5x L.1=some true)
include g0 g1 g2 hL hn
end
end
section
variable {zs:List j2q} {ps:List j1v} {cs:List CalT} {ss:List j3s}
end
section
variable {zs:List j2q} {ps:List j1v} {cs:List CalT} (hs:SOk2 zs ps cs)
include hs
end
def pfX (zs:List j2q) (cs:List CalT) (ls:List j1M) (t:Int) (i:Nat):Int:=perX zs cs (ls.getD i (ByteArray.empty,((0:Int),(((0:Int),(0:Int)),((0:Int),((0:Int),(([]:List Int),(([]:List (Int×Int)),((0:Int),(0:Int)))))))))) t
def OrS (p:Int):SgL→Prop
 | []=>True
 | x::r=>p≤x.1∧x.1<x.2.1∧OrS x.2.1 r
theorem OrS.weak {p q:Int} (hq:q≤p):∀ {l:SgL},OrS p l→OrS q l
 | [],_=>trivial
 | _::_,h=>⟨by have:=h.1;omega,h.2⟩
theorem OrS.app {e:Int} {r:SgL} (hr:OrS e r):∀ {l:SgL} {p:Int},OrS p l→p≤e→(∀ x∈l,x.2.1≤e)→OrS p (l++r)
 | [],_,_,hp,_=>hr.weak hp
 | x::l,p,h,_,hl=>⟨h.1,h.2.1,hr.app h.2.2 (hl x (by simp)) (fun y hy=>hl y (by simp [hy]))⟩
theorem OrS.apart {p:Int}:∀ {l:SgL},OrS p l→l.Pairwise (fun x y=>x.2.1≤y.1)∧∀ x∈l,p≤x.1
 | [],_=>⟨List.Pairwise.nil,by simp⟩
 | x::l,h=>by
  obtain ⟨h1,h2⟩:=OrS.apart h.2.2
  exact ⟨List.pairwise_cons.2 ⟨h2,h1⟩,fun y hy=>by
   rcases jc.1 hy with rfl | hy
   ·exact h.1
   ·have:=h2 y hy;have:=h.1;have:=h.2.1;omega⟩
section
variable {nm:ByteArray} {ls:List j1M} {es:List jd7} {np:Nat} (hE:∀ x∈es,ECk np x) (hl:es.length≤48)
include hE hl
end
section
variable {zs:List j2q} {ps:List j1v} {cs:List CalT} (hs:SOk2 zs ps cs)
include hs
theorem jr2 {ss:List j3s} (hc:jix (zs,(ps,(cs,ss)))) {i:Nat} (hi:i<ss.length) {t:Int} (h0:0≤t) (h1:t≤8589934592) :
  j4J (zs,(ps,(cs,ss))) (i:Int) t=some (topP ss[i].2.2 t (pfX zs cs ss[i].2.1 t) ss[i].2.1.length)∧j5g (zs,(ps,(cs,ss))) (i:Int) t=some (topN ss[i].2.2 t (pfX zs cs ss[i].2.1 t) ss[i].2.1.length):=
 jtk hs.so.ok hc hi (fun k hk=>by
  have hL:=(hc.sc _ (jm hi)).ly _ (jm hk)
  have e:pfX zs cs ss[i].2.1 t k=perX zs cs ss[i].2.1[k] t:=by simp [pfX,List.getD,hk]
  rw [e]
  exact (juE hs hL (ss:=ss) h0 h1).2.1)
end
end Go.Proofs.Pw
