/- Chapter 11: who is on duty in a layer. -/
import Derived.Test.YtpbnnhakjhalaaaGreatELPE
import Derived.Test.YtpbnnhakjhalaaaGreatELPF
import Derived.Test.YtpbnnhakjhalaaaGreatELPA
import Derived.Test.YtpbnnhakjhalaaaGreatELFns
import Derived.Test.YtpbnnhakjhalaaaGreatELPC
import Derived.Test.YtpbnnhakjhalaaaGreatELPB
import Derived.KernelRfl
import Derived.Test.YtpbnnhakjhalaaaGreatELLD
noncomputable section
open Go Go.Lft
namespace Go.Proofs.Pw
def tb (z:j1T):Int×TrL:=(z.2.1,outT z.2.1 (j60 (occs z.2.2)))
theorem ZOk.ztab {z:j1T} (h:ZOk z):ZTab z (tb z).2:=MZ.tab (o:=z.2.1) (rs:=z.2.2) h z.1
theorem jpP {zs:List j1T} (h:∀ z∈zs,ZOk z) (hl:zs.length≤100):∀ (n i:Nat),i+n=zs.length→j42 zs (zs.length:Int) (i:Int) ((zs.take i).map tb)=some (zs.map tb)
 | 0,i,hi=>by
  rw [jaI]
  simp only [j1I]
  rw [j00 (by omega),j6,j0j,List.take_of_length_le (by omega)]
 | n+1,i,hi=>by
  have hlt:i<zs.length:=by omega
  have hgd:zs.getD i (ByteArray.empty,((0:Int),([]:List Rule)))=zs[i]:=by simp [hlt]
  have ht:=jtG (h zs[i] (jf hlt)).ztab
  have ih:=jpP h hl n (i+1) (by omega)
  rw [List.take_add_one,jo hlt,qv] at ih
  rw [jaI]
  simp only [j1I]
  rw [j01 (by omega),j1M (by omega) (by omega),j02 (x:=(i:Int)+1) (by omega) (by omega)]
  simp only [j5,j7,hgd]
  rw [show jcm (zs[i].1,(zs[i].2.1,zs[i].2.2))=_ from ht]
  simp only [j3]
  rw [j01 (by simp [j0m];omega),j5,j0b]
  exact ih
theorem jso {zs:List j1T} (h:∀ z∈zs,ZOk z) (hl:zs.length≤100) {ps:List j12} {cs:List CalT} {ss:List j2E}:j9e (zs,(ps,(cs,ss)))=some ((zs,(ps,(cs,ss))),zs.map tb):=by
 have lp:=jpP h hl zs.length 0 (by omega)
 simp only [j9e,j7G,show Int.ofNat zs.length=(zs.length:Int) from rfl]
 rw [show j42 zs (zs.length:Int) 0 []=_ from lp]
 rfl
theorem jrq {zs:List j1T} {i:Int} (h0:0≤i) (h1:i<(zs.length:Int)):List.getD (zs.map tb) i.toNat ((0:Int),([]:TrL))=tb (zs.getD i.toNat (ByteArray.empty,((0:Int),([]:List Rule)))):=by
 have hlt:i.toNat<zs.length:=by omega
 simp [List.getD_eq_getElem?_getD,hlt]
theorem zget {zs:List j1T} (h:∀ z∈zs,ZOk z) {i:Int} (h0:0≤i) (h1:i<(zs.length:Int)):ZOk (zs.getD i.toNat (ByteArray.empty,((0:Int),([]:List Rule)))):=by
 have hlt:i.toNat<zs.length:=by omega
 rw [List.getD_eq_getElem?_getD,jo hlt]
 exact h _ (jf hlt)
theorem jr1 (a b:Int):ja4 a b=some (decide (a<b)):=by
 simp only [ja4,j8W,j3,jb,j6]
theorem jsp {ds:List Int} (hs:ds.Pairwise (· < ·)) (hl:ds.length≤64) {x:Int}:∀ (n a b:Nat),b-a≤n→a≤b→b≤ds.length→(∀ i,(hi:i<ds.length)→i<a→ds[i]<x)→(∀ i,(hi:i<ds.length)→b≤i→x≤ds[i])→
  ∃ k:Nat,j0T ds x (ds.length:Int) (a:Int) (b:Int)=some (ds,x,(ds.length:Int),(k:Int))∧k≤ds.length∧(∀ i,(hi:i<ds.length)→i<k→ds[i]<x)∧∀ i,(hi:i<ds.length)→k≤i→x≤ds[i]
 | n,a,b,hn,hab,hb,h1,h2=>by
  rw [j6W]
  simp only [j1s]
  by_cases hlt:a<b
  ·have hm:IntKind.wrap .u64 ((a:Int)+(b:Int))=(a:Int)+(b:Int):=IntWalk.u64_in _ ⟨by omega,by omega⟩
   have hd:Int.fdiv ((a:Int)+(b:Int)) 2=(((a+b)/2:Nat):Int):=by
    rw [Int.fdiv_eq_ediv_of_nonneg _ (by omega)];omega
   have hml:(a+b)/2<ds.length:=by omega
   have hgd:ds.getD ((a+b)/2) (0:Int)=ds[(a+b)/2]:=by simp [hml]
   rw [j01 (show (a:Int)<(b:Int) by omega),j02 (x:=(a:Int)+(b:Int)) (by omega) (by omega),hm,hd,j02 (x:=(((a+b)/2:Nat):Int)) (by omega) (by omega),j1M (by omega) (by omega),j02 (x:=(((a+b)/2:Nat):Int)+1) (by omega) (by omega)]
   simp only [j5,j7,hgd,jr1,j3]
   cases n with
   | zero=>omega
   | succ n=>
    by_cases hc:ds[(a+b)/2]<x
    ·rw [j01 hc,j5,j0b]
     refine jsp hs hl n ((a+b)/2+1) b (by omega) (by omega) hb (fun i hi hia=> ?_) h2
     by_cases he:i=(a+b)/2
     ·subst he;exact hc
     ·exact Int.lt_trans (qz.1 hs i ((a+b)/2) hi hml (by omega)) hc
    ·rw [j00 hc,j6,j0b]
     refine jsp hs hl n a ((a+b)/2) (by omega) (by omega) (by omega) h1 (fun i hi hia=> ?_)
     by_cases he:i=(a+b)/2
     ·subst he;exact Int.not_lt.1 hc
     ·exact Int.le_trans (Int.not_lt.1 hc) (Int.le_of_lt (qz.1 hs ((a+b)/2) i hml hi (by omega)))
  ·have:a=b:=by omega
   subst this
   rw [j00 (by omega),j6,j0j]
   exact ⟨a,rfl,hb,h1,h2⟩
theorem jtT {ds:List Int} (hs:ds.Pairwise (· < ·)) (hl:ds.length≤64) (x:Int):∃ i,j0C ds x=some (i,decide (x∈ds)):=by
 obtain ⟨k,e,hk,h1,h2⟩:=jsp hs hl (x:=x) ds.length 0 ds.length (by omega) (by omega) (ju _) (fun i _ h=>by omega) (fun i hi h=>by omega)
 rw [show ((0:Nat):Int)=0 from rfl] at e
 simp only [j0C,show Int.ofNat ds.length=(ds.length:Int) from rfl,e,j3,j7]
 by_cases hkl:k<ds.length
 ·have hgd:ds.getD k (0:Int)=ds[k]:=by simp [hkl]
  rw [j1M (by omega) (by omega),j01 (show (k:Int)<(ds.length:Int) by omega),hgd]
  simp only [Bool.true_or,j5]
  by_cases hx:ds[k]=x
  ·rw [j9D hx]
   rw [j01 (show x∈ds from hx▸jf hkl)]
   exact ⟨_,rfl⟩
  ·rw [j4u hx]
   have hn:¬ x∈ds:=by
    intro hm
    obtain ⟨i,hi,rfl⟩:=List.getElem_of_mem hm
    rcases zb i k with h | h | h
    ·have:=h1 i hi h;omega
    ·subst h;exact hx rfl
    ·have a1:=h2 k hkl (ju _)
     have a2:=qz.1 hs k i hkl hi h
     omega
   rw [j00 hn]
   simp only [j6,j6v,j3,jb]
   exact ⟨_,rfl⟩
 ·have hn:¬ x∈ds:=by
   intro hm
   obtain ⟨i,hi,rfl⟩:=List.getElem_of_mem hm
   have:=h1 i hi (by omega)
   omega
  rw [j00 hn,j00 (show ¬ (k:Int)<(ds.length:Int) by omega)]
  simp only [kn,Bool.or_true,j5,j6,Bool.false_and]
  exact ⟨_,rfl⟩
def okW (w:WL) (s:Int):Bool:=cond (decide ((w.length:Int)>0)) (hasB s w) true
section
variable {zs:List j1T} {ps:List j12} {cs:List CalT} {ss:List j2E} (hz:∀ z∈zs,ZOk z)
include hz
theorem jtk {L:j1b} (hL:LCk zs.length ps.length cs.length L) (hRt:Rt L) {t:Int} (h0:0≤t) (h1:t≤8589934592) {z:j1T} (hzz:zs.getD L.2.1.toNat (ByteArray.empty,((0:Int),([]:List Rule)))=z)
  {s:Int} {d:Int×Int} (hd:j0y (tb z) t=some d) (hs:j3f d=some s) {K:Int} (hK:j24 (tb z) L t=some K) (b:Bool)
  (hcal:L.2.2.2.2.2.2.2.2=0→b=true) (hcal2:L.2.2.2.2.2.2.2.2≠0→∃ x:CalT,cs.getD L.2.2.2.2.2.2.2.1.toNat (ByteArray.empty,((0:Int),([]:List Int)))=x∧CCk zs.length x∧∃ d',j0y (tb (zs.getD x.2.1.toNat (ByteArray.empty,((0:Int),([]:List Rule))))) t=some d'∧b=(decide (d'.1∈x.2.2)==(L.2.2.2.2.2.2.2.2==(2:Int)))) :
  ∃ r,j3m ((zs,(ps,(cs,ss))),zs.map tb) L t=some (r,cond (decide (0≤K)) (cond (okW L.2.2.2.2.2.2.1 s) b false) false)∧(cond (decide (0≤K)) (cond (okW L.2.2.2.2.2.2.1 s) b false) false=true→r=K):=by
 have _:=hz;have _:=hRt
 have hwl:=hL.wl
 have hlen:(zs.map tb).length=zs.length:=qj ..
 have hg:=jrq (zs:=zs) hL.z0 hL.z1
 rw [hzz] at hg
 simp only [j3m]
 rw [j00 (show ¬ t<0 by omega),j00 (show ¬ t>8589934592 by omega),j1M hL.z0 (by rw [hlen];exact hL.z1)]
 simp only [j6,j5,hg]
 rw [show j24 ((tb z).1,(tb z).2) (L.1,L.2.1,(L.2.2.1.1,L.2.2.1.2),L.2.2.2.1,L.2.2.2.2.1,L.2.2.2.2.2.1,L.2.2.2.2.2.2.1,L.2.2.2.2.2.2.2.1,L.2.2.2.2.2.2.2.2) t=_ from hK]
 simp only [j3]
 by_cases hk:0≤K
 ·rw [j00 (show ¬ K<0 by omega),j01 hk]
  simp only [j6,j5,show Int.ofNat L.2.2.2.2.2.2.1.length=(L.2.2.2.2.2.2.1.length:Int) from rfl]
  have tail:∃ r,(cond (L.2.2.2.2.2.2.2.2==(0:Int)) (some (K,true)) (cond (inR L.2.2.2.2.2.2.2.1 cs.length) (cond (inR (cs.getD L.2.2.2.2.2.2.2.1.toNat (ByteArray.empty,((0:Int),([]:List Int)))).2.1 (zs.map tb).length) ((j0y ((List.getD (zs.map tb) (cs.getD L.2.2.2.2.2.2.2.1.toNat (ByteArray.empty,((0:Int),([]:List Int)))).2.1.toNat ((0:Int),([]:TrL))).1,(List.getD (zs.map tb) (cs.getD L.2.2.2.2.2.2.2.1.toNat (ByteArray.empty,((0:Int),([]:List Int)))).2.1.toNat ((0:Int),([]:TrL))).2) t).bind fun r68=>
    (j0C (cs.getD L.2.2.2.2.2.2.2.1.toNat (ByteArray.empty,((0:Int),([]:List Int)))).2.2 r68.1).bind fun r70=>some (K,(r70.2==(L.2.2.2.2.2.2.2.2==(2:Int))))) none) none))=some (r,b)∧(b=true→r=K):=by
   by_cases hm:L.2.2.2.2.2.2.2.2=0
   ·rw [j9D hm,j5,hcal hm]
    exact ⟨K,rfl,fun _=>rfl⟩
   ·obtain ⟨x,hx,hxc,d',hd',hb⟩:=hcal2 hm
    have hc:=hL.cal hm
    obtain ⟨i,hi⟩:=jtT hxc.asc hxc.len d'.1
    have hg2:=jrq (zs:=zs) hxc.z0 hxc.z1
    rw [j4u hm,j6,j1M hc.1 hc.2,hx,j1M hxc.z0 (by rw [hlen];exact hxc.z1)]
    simp only [j5,hg2]
    rw [show j0y ((tb (zs.getD x.2.1.toNat (ByteArray.empty,((0:Int),([]:List Rule))))).1,(tb (zs.getD x.2.1.toNat (ByteArray.empty,((0:Int),([]:List Rule))))).2) t=_ from hd']
    simp only [j3,hi]
    rw [←hb]
    exact ⟨K,rfl,fun _=>rfl⟩
  by_cases hw:(L.2.2.2.2.2.2.1.length:Int)>0
  ·rw [j01 hw,j5,show j0y ((tb z).1,(tb z).2) t=_ from hd]
   simp only [j3,show j3f (d.1,d.2)=_ from hs,jsZ hwl,okW]
   rw [j01 hw,j5]
   cases hh:hasB s L.2.2.2.2.2.2.1 with
   | true=>
    simp only [jd,j6,j5]
    exact tail
   | false=>exact ⟨0,rfl,fun h=>by simp at h⟩
  ·simp only [okW]
   rw [j00 hw]
   simp only [j6,j5]
   exact tail
 ·rw [j01 (show K<0 by omega),j00 hk]
  exact ⟨0,rfl,fun h=>by simp at h⟩
def whoL (L:j1b) (K:Int):Int:=L.2.2.2.2.2.1.getD (Int.tmod K (L.2.2.2.2.2.1.length:Int)).toNat 0
omit hz in
theorem jr2 {v:CfgT×List (Int×TrL)} {L:j1b} {t r K:Int} {b:Bool} (hm:L.2.2.2.2.2.1.length≠0) (e:j3m v L t=some (r,b)) (hr:b=true→r=K) (hK:b=true→0≤K) :
  j1w v L t=some (cond b (whoL L K) (-1)):=by
 simp only [j1w,show j3m ((v.1.1,v.1.2.1,v.1.2.2.1,v.1.2.2.2),v.2) (L.1,L.2.1,(L.2.2.1.1,L.2.2.1.2),L.2.2.2.1,L.2.2.2.2.1,L.2.2.2.2.2.1,L.2.2.2.2.2.2.1,L.2.2.2.2.2.2.2.1,L.2.2.2.2.2.2.2.2) t=_ from e,j3]
 cases b with
 | false=>rfl
 | true=>
  have:=hr rfl
  subst this
  have hk:=hK rfl
  have q1:0≤Int.tmod r (L.2.2.2.2.2.1.length:Int):=Int.tmod_nonneg _ hk
  have q2:Int.tmod r (L.2.2.2.2.2.1.length:Int)<(L.2.2.2.2.2.1.length:Int):=Int.tmod_lt_of_pos _ (by omega)
  simp only [jd,j6,j5,show Int.ofNat L.2.2.2.2.2.1.length=(L.2.2.2.2.2.1.length:Int) from rfl,whoL]
  rw [j4u (show ¬ (L.2.2.2.2.2.1.length:Int)=0 by omega),j1M q1 q2]
  rfl
end
theorem LCk.rt {nz np nc:Nat} {L:j1b} (h:LCk nz np nc L) (hd:L.2.2.1.1≤100000):Rt L:=
 ⟨h.d0,hd,h.c0,h.c1,h.u0,h.u1,h.e0,h.e1,fun hn=>h.m0 (by rw [hn];rfl)⟩
theorem jtl {z:j1T} (hz:ZOk z) {t:Int} (h0:0≤t) (h1:t≤8589934592):∃ d s,j0y (tb z) t=some d∧j3f d=some s:=by
 have ht:=hz.ztab
 obtain ⟨j,hj,j1,j2⟩:=jn1 ht.2 h0 h1
 have o0:=ht.2.of0 j hj;have o1:=ht.2.of1 j hj
 obtain ⟨s,hs⟩:∃ s,j3f ((t+tof z.2.1 (tb z).2 j)/86400,(t+tof z.2.1 (tb z).2 j)%86400)=some s:=by
  simp only [j3f,jiI,j3]
  exact ⟨_,rfl⟩
 exact ⟨_,s,jn4 ht.2 hj j1 j2,hs⟩
abbrev SL:=List (Int×Int)
def StS (p:Int):SL→Prop
 | []=>True
 | x::r=>p<x.1∧x.1<x.2∧StS x.2 r
section
variable {o:Int} {l:TrL} (h:TOk o l)
include h
end
theorem StS.weak {p q:Int} (hq:q≤p):∀ {l:SL},StS p l→StS q l
 | [],_=>trivial
 | _::_,h=>⟨by have:=h.1;omega,h.2⟩
theorem StS.mem {p:Int}:∀ {l:SL},StS p l→∀ s∈l,p<s.1∧s.1<s.2
 | [],_,s,hs=>by simp at hs
 | u::r,h,s,hs=>by
  rcases je.1 hs with rfl | hs
  ·exact ⟨h.1,h.2.1⟩
  ·have:=StS.mem h.2.2 s hs;have:=h.1;have:=h.2.1;omega
section
variable {B:SL} (hB:B.length≤10000000)
include hB
end
set_option linter.unusedSectionVars false
section
variable {l:SL} {p:Int} (h:StS p l) (hp : -1≤p) (hl:l.length≤4096) (hb:∀ u∈l,u.2≤8589934592)
include h hp hl hb
end
theorem jlo:j40 2241=some 98981:=by kernel_rfl
theorem jlp:j40 1970=some 0:=by kernel_rfl
theorem jtm {d:Int} (h:j1e d=some true):d≤100000:=by
 apply z3
 intro hd
 simp only [j1e,j5o,jlp,jlo,j3] at h
 rw [j00 (show ¬ d<0 by omega),j01 (show d≥98981 by omega)] at h
 simp at h
theorem LCk.rt2 {nz np nc:Nat} {L:j1b} (h:LCk nz np nc L):Rt L:=h.rt (jtm h.day)
section
variable {zs:List j1T} {ps:List j12} {cs:List CalT} (hs:SOk2 zs ps cs)
include hs
theorem cget {i:Int} (h0:0≤i) (h1:i<(cs.length:Int)):CCk zs.length (cs.getD i.toNat (ByteArray.empty,((0:Int),([]:List Int)))):=by
 have hi:i.toNat<cs.length:=by omega
 rw [show cs.getD i.toNat (ByteArray.empty,((0:Int),([]:List Int)))=cs[i.toNat] by simp [List.getD,hi]]
 exact hs.c.ck _ (jf hi)
end
def jlq (es:List j5P) (p t:Int):Bool:=es.any fun x=>x.1==0&&(x.2.1==p&&(decide (x.2.2.2.1≤t)&&decide (t<x.2.2.2.2)))
theorem jtn {es:List j5P} {p t:Int} (hl:es.length≤1000):∀ (n i:Nat),i+n=es.length→∃ r,j0s es p t (es.length:Int) (i:Int)=some r∧
  match r with
  | .inl k=>0≤k∧jlq (es.drop i) p t=true
  | .inr _=>jlq (es.drop i) p t=false
 | 0,i,hi=>by
  rw [j2S]
  simp only [j0G]
  rw [j00 (by omega),j6,j0j,jg (by omega)]
  exact ⟨_,rfl,rfl⟩
 | n+1,i,hi=>by
  have hlt:i<es.length:=by omega
  have hgd:es.getD i ((0:Int),((0:Int),((0:Int),((0:Int),(0:Int)))))=es[i]:=by simp [List.getD,hlt]
  rw [j2S]
  simp only [j0G,jbh]
  rw [j01 (by omega),j1M (by omega) (by omega),j02 (x:=(i:Int)+1) (by omega) (by omega)]
  simp only [j5,j7,hgd,j3]
  rw [jq hlt]
  have e:(cond (cond (cond (es[i].1==(0:Int)) (es[i].2.1==p) false) (decide (es[i].2.2.2.1≤t)) false) (decide (t<es[i].2.2.2.2)) false)=(es[i].1==0&&(es[i].2.1==p&&(decide (es[i].2.2.2.1≤t)&&decide (t<es[i].2.2.2.2)))):=by
   cases es[i].1==(0:Int)<;>cases es[i].2.1==p<;>cases decide (es[i].2.2.2.1≤t)<;>rfl
  rw [e]
  have ha:jlq (es[i]::es.drop (i+1)) p t=((es[i].1==0&&(es[i].2.1==p&&(decide (es[i].2.2.2.1≤t)&&decide (t<es[i].2.2.2.2))))||jlq (es.drop (i+1)) p t):=rfl
  rw [ha]
  cases hx:(es[i].1==0&&(es[i].2.1==p&&(decide (es[i].2.2.2.1≤t)&&decide (t<es[i].2.2.2.2)))) with
  | true=>
   rw [j5,j0j]
   exact ⟨_,rfl,by omega,rfl⟩
  | false=>
   rw [j6,j0b]
   obtain ⟨r,e1,e2⟩:=jtn (es:=es) (p:=p) (t:=t) hl n (i+1) (by omega)
   exact ⟨r,e1,by simpa using e2⟩
theorem jsq {nm:ByteArray} {ls:List j1b} {es:List j5P} {p t:Int} (hl:es.length≤1000):j7K (nm,(ls,es)) p t=some (jlq es p t):=by
 obtain ⟨r,e1,e2⟩:=jtn (p:=p) (t:=t) hl es.length 0 (by omega)
 simp only [j7K,j0D,j0J,show Int.ofNat es.length=(es.length:Int) from rfl]
 rw [show j0s es p t (es.length:Int) 0=_ from e1]
 cases r with
 | inl k=>
  simp only [qp] at e2
  simp only [j3,jqH,e2.2]
  rw [j01 (show k≥0 from e2.1)]
 | inr u=>
  simp only [qp] at e2
  simp only [j3,j3x,e2]
  rfl
def topI (good:Nat→Bool):Nat→Option Nat
 | 0=>none
 | n+1=>cond (good n) (some n) (topI good n)
def jhG (es:List j5P) (t:Int) (Pf:Nat→Int) (i:Nat):Bool:=decide (0≤Pf i) && !jlq es (Pf i) t
theorem jrr {ls:List j1b} {zs:List j1T} {ps:List j12} {cs:List CalT} {ss:List j2E} {tbs:List (Int×TrL)} {nm:ByteArray} {es:List j5P} {t b6 b7:Int} {Pf:Nat→Int} (hl:es.length≤1000)
  (hP:∀ i (h:i<ls.length),j1w ((zs,(ps,(cs,ss))),tbs) ls[i] t=some (Pf i)):∀ n:Nat,n≤ls.length→
  j36 (n:Int) ls zs ps cs ss tbs nm ls es t b6 b7=some (match topI (jhG es t Pf) n with | some i=> .inr ((i:Int),Pf i) | none=> .inl (b6,b7))
 | 0,hn=>by
  rw [j9g]
  simp only [j1o]
  rw [j01 (by omega),j5,j0j]
  rfl
 | n+1,hn=>by
  have hlt:n<ls.length:=by omega
  have hgd:ls.getD n (ByteArray.empty,((0:Int),(((0:Int),(0:Int)),((0:Int),((0:Int),(([]:List Int),(([]:List (Int×Int)),((0:Int),(0:Int)))))))))=ls[n]:=by simp [List.getD,hlt]
  have ih:=jrr (nm:=nm) (b6:=b6) (b7:=b7) hl hP n (by omega)
  have hp:=hP n hlt
  rw [j9g]
  simp only [j1o]
  rw [j00 (by omega),j01 (show ((n+1:Nat):Int)≤Int.ofNat ls.length by simp;omega),show ((n+1:Nat):Int)-1=(n:Int) by omega]
  simp only [j5,j6,j7,hgd]
  rw [show j1w ((zs,(ps,(cs,ss))),tbs) (ls[n].1,(ls[n].2.1,((ls[n].2.2.1.1,ls[n].2.2.1.2),(ls[n].2.2.2.1,(ls[n].2.2.2.2.1,(ls[n].2.2.2.2.2.1,(ls[n].2.2.2.2.2.2.1,(ls[n].2.2.2.2.2.2.2.1,ls[n].2.2.2.2.2.2.2.2)))))))) t=_ from hp]
  simp only [j3,topI,jhG]
  by_cases h0:0≤Pf n
  ·rw [j00 (show ¬ Pf n<0 by omega),j01 h0]
   simp only [j6,jsq hl,j3,Bool.true_and]
   cases jlq es (Pf n) t with
   | true=>
    simp only [jd,j6,j0b]
    exact ih
   | false=>rfl
  ·rw [j01 (show Pf n<0 by omega),j00 h0]
   simp only [j5,Bool.false_and,j6,j0b]
   exact ih
theorem jo1 {ls:List j1b} {zs:List j1T} {ps:List j12} {cs:List CalT} {ss:List j2E} {tbs:List (Int×TrL)} {nm:ByteArray} {es:List j5P} {t:Int} {Pf:Nat→Int} (hl:es.length≤1000)
  (hP:∀ i (h:i<ls.length),j1w ((zs,(ps,(cs,ss))),tbs) ls[i] t=some (Pf i)) :
  j3g ((zs,(ps,(cs,ss))),tbs) (nm,(ls,es)) t=some (match topI (jhG es t Pf) ls.length with | some i=>((i:Int),Pf i) | none=>((-1:Int),(-1:Int))):=by
 have lp:=jrr (nm:=nm) (b6:=0) (b7:=0) hl hP ls.length (ju _)
 simp only [j3g,j29,j3]
 rw [show j36 (Int.ofNat ls.length) ls zs ps cs ss tbs nm ls es t 0 0=_ from lp]
 cases topI (jhG es t Pf) ls.length with
 | none=>rfl
 | some i=>rfl
section
variable {zs:List j1T} {ps:List j12} {cs:List CalT} {ss:List j2E}
theorem jrs (hz:∀ z∈zs,ZOk z) (hc:jbV (zs,(ps,(cs,ss)))):jdw (zs,(ps,(cs,ss)))=some (((zs,(ps,(cs,ss))),zs.map tb),true):=by
 have hzl:zs.length≤16:=hc.zl
 simp only [jdw,show j23 (zs,(ps,(cs,ss)))=_ from jea hc,j3,jb,j6,jso (ps:=ps) (cs:=cs) (ss:=ss) hz (show zs.length≤100 by omega)]
def topP (es:List j5P) (t:Int) (Pf:Nat→Int) (n:Nat):Int:=match topI (jhG es t Pf) n with
 | some i=>Pf i
 | none=> -1
end
def nms3:List ByteArray:=[(ByteArray.mk #[102,105,114,115,116]),(ByteArray.mk #[115,101,99,111,110,100]),(ByteArray.mk #[116,104,105,114,100])]
theorem jsr:NmL nms3:=by
 refine ⟨by decide,fun k hk=> ?_⟩
 simp only [nms3,je,qo,or_false] at hk
 rcases hk with rfl | rfl | rfl<;>exact j7b 60 _ true (by kernel_rfl)
structure SG (nz np nc:Nat) (s:j2E):Prop where
 ck:SCk nz np nc s
 nm:s.2.1.map (·.1)=nmsL.take s.2.1.length
 ll:s.2.1.length≤3
 el:s.2.2.length≤3
theorem jrt {L:List Int} {zs:List j1T} {ps:List j12} {cs:List CalT} (hs:SOk zs ps cs):∀ (n:Nat) (a:Int) (ss:List j2E),DOk L a→ss.length+n≤3→ss.map (·.1)=nms3.take ss.length→(∀ s∈ss,SG zs.length ps.length cs.length s)→
  ∃ ss' a',j4F (n:Int) L a zs ps cs ss=some (L,a',zs,ps,cs,ss')∧ss'.length=ss.length+n∧ss'.map (·.1)=nms3.take ss'.length∧(∀ s∈ss',SG zs.length ps.length cs.length s)∧DOk L a'
 | 0,a,ss,hd,hl,hn,hg=>by
  rw [j7t]
  simp only [j2k]
  rw [j00 (by omega),j6,j0j]
  exact ⟨ss,a,rfl,rfl,hn,hg,hd⟩
 | n+1,a,ss,hd,hl,hn,hg=>by
  have hlt:ss.length<nms3.length:=by show ss.length<3;omega
  have hmod:Int.tmod (Int.ofNat ss.length) 3=(ss.length:Int):=by
   have:Int.tmod (ss.length:Int) 3=(ss.length:Int):=Int.tmod_eq_of_lt (by omega) (by omega)
   exact this
  obtain ⟨k,a3,e3,k0,k1,d3⟩:=j0I (n:=4) hd (by omega) (by omega)
  obtain ⟨ls,a4,e4,l4,lk,ln,d4⟩:=jtb (s6:=((n+1:Nat):Int)) (nm:=List.getD nms3 ss.length ByteArray.empty) (ss:=ss) hs k.toNat a3 [] d3 (by simp;omega) (by simp) rfl
  obtain ⟨m,a5,e5,m0,m1,d5⟩:=j0I (n:=4) d4 (by omega) (by omega)
  obtain ⟨es,a6,e6,l6,ek,d6⟩:=jtc (s6:=((n+1:Nat):Int)) (nm:=List.getD nms3 ss.length ByteArray.empty) (zs:=zs) (cs:=cs) (ss:=ss) (ls:=ls) hs m.toNat a5 [] d5 (by simp;omega) (by simp)
  rw [show ((k.toNat:Nat):Int)=k by omega] at e4
  rw [show ((m.toNat:Nat):Int)=m by omega] at e6
  have hnew:SG zs.length ps.length cs.length (List.getD nms3 ss.length ByteArray.empty,(ls,es)):=
   ⟨⟨by dsimp only;rw [ln];exact jpI.take _,lk,by dsimp only;omega,ek,by dsimp only;omega⟩,ln,l4,l6⟩
  obtain ⟨ss',a',e',h1,h2,h3,h4⟩:=jrt hs n a6 (ss++[(List.getD nms3 ss.length ByteArray.empty,(ls,es))]) d6 (by simp;omega) (by
   rw [qv,hn,ji]
   exact jjY hlt) (fun s h=>by
   rcases jp.1 h with h | h
   ·exact hg s h
   ·simp at h;subst h;exact hnew)
  rw [j7t]
  simp only [j2k]
  rw [j01 (show ((n+1:Nat):Int)>0 by omega),hmod,j1M (by omega) (by show (ss.length:Int)<(3:Nat);omega)]
  simp only [j5,j7,e3,j3]
  rw [show j3t ((n+1:Nat):Int) k L a3 zs ps cs (List.getD [(ByteArray.mk #[102,105,114,115,116]),(ByteArray.mk #[115,101,99,111,110,100]),(ByteArray.mk #[116,104,105,114,100])] ss.length ByteArray.empty) ss []=_ from e4]
  simp only [j3,e5,e6]
  rw [j01 (by simp [j0m];omega),j02 (by omega) (by omega),show ((n+1:Nat):Int)-1=(n:Int) by omega]
  simp only [j5,j0b]
  exact ⟨ss',a',e',by rw [h1];simp;omega,h2,h3,h4⟩
theorem jo2 {L:List Int} {a n:Int} (h:DOk L a) (n0:1≤n) (n1:n≤3):∃ zs ps cs ss a',j4O L a n=some ((zs,(ps,(cs,ss))),L,a')∧SOk2 zs ps cs∧1≤ss.length∧(ss.length:Int)≤n∧ss.map (·.1)=nms3.take ss.length∧(∀ s∈ss,SG zs.length ps.length cs.length s)∧DOk L a':=by
 obtain ⟨zs,ps,cs,a1,e1,hs,d1⟩:=jpL h
 obtain ⟨x,a2,e2,x0,x1,d2⟩:=j0I (n:=n) d1 (by omega) (by omega)
 obtain ⟨ss,a3,e3,h1,h2,h3,d3⟩:=jrt hs.so (1+x).toNat a2 [] d2 (by simp;omega) (by simp) (by simp)
 rw [show (((1+x).toNat:Nat):Int)=1+x by omega] at e3
 simp at h1
 simp only [j4O,e1,e2,j3]
 rw [j02 (x:=1+x) (by omega) (by omega)]
 simp only [e3,j3]
 exact ⟨zs,ps,cs,ss,a3,rfl,hs,by omega,by omega,h2,h3,d3⟩
theorem jpQ {zs:List j1T} {ps:List j12} {cs:List CalT} {ss:List j2E} (hs:SOk2 zs ps cs) (h0:ss.length≤12) (h1:NmL (ss.map (·.1))) (h2:∀ s∈ss,SCk zs.length ps.length cs.length s):jbV (zs,(ps,(cs,ss))):=jtd hs h0 h1 h2
instance (L:j1b):Decidable (Rt L):=
 decidable_of_iff (1≤L.2.2.1.1∧L.2.2.1.1≤100000∧0≤L.2.2.1.2∧L.2.2.1.2≤86399∧0≤L.2.2.2.1∧L.2.2.2.1≤2∧1≤L.2.2.2.2.1∧L.2.2.2.2.1≤400∧L.2.2.2.2.2.1≠[])
  ⟨fun ⟨a,b,c,d,e,f,g,h,i⟩=>⟨a,b,c,d,e,f,g,h,i⟩,fun ⟨a,b,c,d,e,f,g,h,i⟩=>⟨a,b,c,d,e,f,g,h,i⟩⟩
section
variable {z:j1T} {l:TrL} (h4:Z4 z l)
include h4
end
abbrev SgT:=Int×(Int×Int)
abbrev SgL:=List SgT
def Ch (f:Int→Int) (b:Int):Int→SgL→Prop
 | a,[]=>a=b
 | a,s::r=>s.1=a∧a≤s.2.1∧(∀ t,a≤t→t<s.2.1→f t=s.2.2)∧Ch f b s.2.1 r
def Cov (f:Int→Int) (b:Int):Option Int→Int→SgL→Prop
 | _,a,[]=>a=b
 | q,a,s::r=>s.1=a∧a<s.2.1∧q≠some s.2.2∧(∀ t,a≤t→t<s.2.1→f t=s.2.2)∧Cov f b (some s.2.2) s.2.1 r
theorem Ch.le {f:Int→Int} {b:Int}:∀ {l:SgL} {a:Int},Ch f b a l→a≤b
 | [],_,h=>Int.le_of_eq h
 | _::_,_,h=>Int.le_trans h.2.1 h.2.2.2.le
theorem Ch.app {f:Int→Int} {b c:Int}:∀ {l r:SgL} {a:Int},Ch f b a l→Ch f c b r→Ch f c a (l++r)
 | [],_,_,h,h'=>by have h:_=_:=h;subst h;exact h'
 | _::_,_,_,h,h'=>⟨h.1,h.2.1,h.2.2.1,h.2.2.2.app h'⟩
theorem Cov.ch {f:Int→Int} {b:Int}:∀ {l:SgL} {q:Option Int} {a:Int},Cov f b q a l→Ch f b a l
 | [],_,_,h=>h
 | _::_,_,_,h=>⟨h.1,Int.le_of_lt h.2.1,h.2.2.2.1,h.2.2.2.2.ch⟩
theorem Cov.uniq {f:Int→Int} {b:Int}:∀ {l l':SgL} {q:Option Int} {a:Int},Cov f b q a l→Cov f b q a l'→l=l'
 | [],[],_,_,_,_=>rfl
 | [],_::_,_,_,h,h'=>by have:=h'.2.1;have:=h'.2.2.2.2.ch.le;have h:_=_:=h;omega
 | _::_,[],_,_,h,h'=>by have:=h.2.1;have:=h.2.2.2.2.ch.le;have h':_=_:=h';omega
 | s::r,s'::r',q,a,h,h'=>by
  obtain ⟨h1,h2,h3,h4,h5⟩:=h
  obtain ⟨g1,g2,g3,g4,g5⟩:=h'
  have hp:s.2.2=s'.2.2:=by rw [←h4 a (by omega) h2,←g4 a (by omega) g2]
  have ht:s.2.1=s'.2.1:=by
   apply z3
   intro hne
   by_cases hlt:s.2.1<s'.2.1
   ·match r,h5 with
    | [],h5=>have:=g5.ch.le;have h5:_=_:=h5;omega
    | u::v,h5=>
     have e1:=h5.2.2.2.1 s.2.1 (by omega) h5.2.1
     have e2:=g4 s.2.1 (by omega) hlt
     exact h5.2.2.1 (by rw [←e1,e2,hp])
   ·match r',g5 with
    | [],g5=>have:=h5.ch.le;have g5:_=_:=g5;omega
    | u::v,g5=>
     have e1:=g5.2.2.2.1 s'.2.1 (by omega) g5.2.1
     have e2:=h4 s'.2.1 (by omega) (by omega)
     exact g5.2.2.1 (by rw [←e1,e2,hp])
  have hs:s=s':=Prod.ext (by rw [h1,g1]) (Prod.ext ht hp)
  subst hs
  rw [h5.uniq g5]
def lstP:Option Int→SgL→Option Int
 | q,[]=>q
 | _,s::r=>lstP (some s.2.2) r
theorem Cov.ext {f:Int→Int} {b c x p:Int}:∀ {l:SgL} {q:Option Int} {a:Int},Cov f b q a (l++[(x,(b,p))])→b≤c→(∀ t,b≤t→t<c→f t=p)→Cov f c q a (l++[(x,(c,p))])
 | [],_,_,h,hbc,hp=>⟨h.1,by have:=h.2.1;dsimp only at this ⊢;omega,h.2.2.1,fun t h1 h2=>by
  by_cases ht:t<b
  ·exact h.2.2.2.1 t h1 ht
  ·exact hp t (by omega) h2,rfl⟩
 | _::_,_,_,h,hbc,hp=>⟨h.1,h.2.1,h.2.2.1,h.2.2.2.1,h.2.2.2.2.ext hbc hp⟩
theorem Ch.mem {f:Int→Int} {b:Int}:∀ {l:SgL} {a:Int},Ch f b a l→∀ s∈l,a≤s.1∧s.1≤s.2.1∧s.2.1≤b∧∀ t,s.1≤t→t<s.2.1→f t=s.2.2
 | [],_,_,s,hs=>by simp at hs
 | u::r,a,h,s,hs=>by
  obtain ⟨h1,h2,h3,h4⟩:=h
  rcases je.1 hs with rfl | hs
  ·exact ⟨by omega,by omega,h4.le,fun t t1 t2=>h3 t (by omega) t2⟩
  ·have:=h4.mem s hs
   exact ⟨by omega,this.2.1,this.2.2.1,this.2.2.2⟩
theorem Ch.has {f:Int→Int} {b:Int}:∀ {l:SgL} {a:Int},Ch f b a l→∀ x,a≤x→x<b→∃ s∈l,s.1≤x∧x<s.2.1
 | [],_,h,x,h1,h2=>by have h:_=_:=h;omega
 | u::r,a,h,x,h1,h2=>by
  obtain ⟨g1,g2,g3,g4⟩:=h
  by_cases hx:x<u.2.1
  ·exact ⟨u,by simp,by omega,hx⟩
  ·obtain ⟨s,hs,e⟩:=g4.has x (by omega) h2
   exact ⟨s,by simp [hs],e⟩
theorem Ch.congr {f g:Int→Int} {b:Int}:∀ {l:SgL} {a:Int},Ch f b a l→(∀ t,a≤t→t<b→f t=g t)→Ch g b a l
 | [],_,h,_=>h
 | u::r,a,h,hg=>by
  obtain ⟨g1,g2,g3,g4⟩:=h
  have:=g4.le
  exact ⟨g1,g2,fun t t1 t2=>by rw [←hg t t1 (by omega)];exact g3 t t1 t2,g4.congr (fun t t1 t2=>hg t (by omega) t2)⟩
theorem Cov.pos {f:Int→Int} {b:Int}:∀ {l:SgL} {q:Option Int} {a:Int},Cov f b q a l→∀ s∈l,s.1<s.2.1
 | [],_,_,_,s,hs=>by simp at hs
 | u::r,_,a,h,s,hs=>by
  rcases je.1 hs with rfl | hs
  ·have:=h.1;have:=h.2.1;omega
  ·exact h.2.2.2.2.pos s hs
section
variable {zs:List j1T} {ps:List j12} {cs:List CalT} (hs:SOk2 zs ps cs)
include hs
omit hs in
def zAt (zs:List j1T) (i:Int):j1T:=zs.getD i.toNat (ByteArray.empty,((0:Int),([]:List Rule)))
omit hs in
def cAt (cs:List CalT) (i:Int):CalT:=cs.getD i.toNat (ByteArray.empty,((0:Int),([]:List Int)))
omit hs in
def locD (z:j1T) (t:Int):Int×Int:=(j0y (tb z) t).getD (0,0)
omit hs in
def secD (d:Int×Int):Int:=(j3f d).getD 0
omit hs in
def shK (z:j1T) (L:j1b) (t:Int):Int:=(j24 (tb z) L t).getD (-1)
omit hs in
def calB (zs:List j1T) (cs:List CalT) (L:j1b) (t:Int):Bool:=
 cond (L.2.2.2.2.2.2.2.2==0) true (decide ((locD (zAt zs (cAt cs L.2.2.2.2.2.2.2.1).2.1) t).1∈(cAt cs L.2.2.2.2.2.2.2.1).2.2)==(L.2.2.2.2.2.2.2.2==(2:Int)))
omit hs in
def onX (zs:List j1T) (cs:List CalT) (L:j1b) (t:Int):Bool:=
 cond (decide (0≤shK (zAt zs L.2.1) L t)) (cond (okW L.2.2.2.2.2.2.1 (secD (locD (zAt zs L.2.1) t))) (calB zs cs L t) false) false
omit hs in
def perX (zs:List j1T) (cs:List CalT) (L:j1b) (t:Int):Int:=cond (onX zs cs L t) (whoL L (shK (zAt zs L.2.1) L t)) (-1)
omit hs in
theorem jpR {z:j1T} (hz:ZOk z) {t:Int} (h0:0≤t) (h1:t≤8589934592):j0y (tb z) t=some (locD z t)∧j3f (locD z t)=some (secD (locD z t)):=by
 obtain ⟨d,s,hd,hsc⟩:=jtl hz h0 h1
 have:locD z t=d:=by simp [locD,hd]
 rw [this]
 exact ⟨hd,by simp [secD,hsc]⟩
omit hs in
theorem jto {z:j1T} (hz:ZOk z) {L:j1b} (hR:Rt L) {t:Int} (h0:0≤t) (h1:t≤8589934592):j24 (tb z) L t=some (shK z L t)∧ShO z.2.1 (tb z).2 L t (shK z L t):=by
 obtain ⟨K,e,hK⟩:=jtS hz.ztab.2 hR h0 h1
 have:shK z L t=K:=by simp only [shK,show j24 (tb z) L t=_ from e,Option.getD_some]
 rw [this]
 exact ⟨e,hK⟩
theorem jtU {L:j1b} (hL:LCk zs.length ps.length cs.length L) {ss:List j2E} {t:Int} (h0:0≤t) (h1:t≤8589934592) :
  (∃ r,j3m ((zs,(ps,(cs,ss))),zs.map tb) L t=some (r,onX zs cs L t))∧j1w ((zs,(ps,(cs,ss))),zs.map tb) L t=some (perX zs cs L t)∧(onX zs cs L t=true→0≤shK (zAt zs L.2.1) L t):=by
 have hRt:=hL.rt2
 have hz:=zget hs.so.ok hL.z0 hL.z1
 obtain ⟨hd,hsc⟩:=jpR hz h0 h1
 obtain ⟨eK,hK⟩:=jto hz hRt h0 h1
 have hon:onX zs cs L t=true→0≤shK (zAt zs L.2.1) L t:=fun h=>by
  by_cases hk:0≤shK (zAt zs L.2.1) L t
  ·exact hk
  ·unfold onX at h;rw [j00 hk] at h;simp at h
 obtain ⟨r,er,hr⟩:=jtk (ps:=ps) (ss:=ss) hs.so.ok hL hRt h0 h1 rfl hd hsc eK (calB zs cs L t) (fun h=>by unfold calB;rw [j9D h];rfl) (fun h=>⟨_,rfl,cget hs (hL.cal h).1 (hL.cal h).2,_,(jpR (zget hs.so.ok (cget hs (hL.cal h).1 (hL.cal h).2).z0 (cget hs (hL.cal h).1 (hL.cal h).2).z1) h0 h1).1,by
  unfold calB;rw [j4u h];rfl⟩)
 exact ⟨⟨r,er⟩,jr2 hL.m0 er hr hon,hon⟩
end
section
variable {zs:List j1T} {ps:List j12} {cs:List CalT} (hs:SOk2 zs ps cs)
include hs
end
section
variable {zs:List j1T} {ps:List j12} {cs:List CalT} (hs:SOk2 zs ps cs)
include hs
section
variable {ss:List j2E} (g0:ss.length≤12) (g1:NmL (ss.map (·.1))) (g2:∀ s∈ss,SCk zs.length ps.length cs.length s)
 {L:j1b} (hL:LCk zs.length ps.length cs.length L) (hn:j5R L.1=some true)
include g0 g1 g2 hL hn
end
end
theorem jtp {d:Int} (h:j1e d=some true):d≤98980:=by
 apply z3
 intro hd
 simp only [j1e,j5o,jlp,jlo,j3] at h
 rw [j00 (show ¬ d<0 by omega),j01 (show d≥98981 by omega)] at h
 simp at h
section
variable {zs:List j1T} {ps:List j12} {cs:List CalT} {ss:List j2E}
end
section
variable {zs:List j1T} {ps:List j12} {cs:List CalT} (hs:SOk2 zs ps cs)
include hs
end
def pfX (zs:List j1T) (cs:List CalT) (ls:List j1b) (t:Int) (i:Nat):Int:=perX zs cs (ls.getD i (ByteArray.empty,((0:Int),(((0:Int),(0:Int)),((0:Int),((0:Int),(([]:List Int),(([]:List (Int×Int)),((0:Int),(0:Int)))))))))) t
def OrS (p:Int):SgL→Prop
 | []=>True
 | x::r=>p≤x.1∧x.1<x.2.1∧OrS x.2.1 r
theorem OrS.weak {p q:Int} (hq:q≤p):∀ {l:SgL},OrS p l→OrS q l
 | [],_=>trivial
 | _::_,h=>⟨by have:=h.1;omega,h.2⟩
theorem OrS.app {e:Int} {r:SgL} (hr:OrS e r):∀ {l:SgL} {p:Int},OrS p l→p≤e→(∀ x∈l,x.2.1≤e)→OrS p (l++r)
 | [],_,_,hp,_=>hr.weak hp
 | x::l,p,h,_,hl=>⟨h.1,h.2.1,hr.app h.2.2 (hl x (by simp)) (fun y hy=>hl y (by simp [hy]))⟩
theorem OrS.apart {p:Int}:∀ {l:SgL},OrS p l→l.Pairwise (fun x y=>x.2.1≤y.1)∧∀ x∈l,p≤x.1
 | [],_=>⟨List.Pairwise.nil,by simp⟩
 | x::l,h=>by
  obtain ⟨h1,h2⟩:=OrS.apart h.2.2
  exact ⟨List.pairwise_cons.2 ⟨h2,h1⟩,fun y hy=>by
   rcases je.1 hy with rfl | hy
   ·exact h.1
   ·have:=h2 y hy;have:=h.1;have:=h.2.1;omega⟩
section
variable {nm:ByteArray} {ls:List j1b} {es:List j5P} {np:Nat} (hE:∀ x∈es,ECk np x) (hl:es.length≤48)
include hE hl
end
section
variable {o:Int} {l:TrL} (h:TOk o l)
include h
end
section
variable {zs:List j1T} {ps:List j12} {cs:List CalT} (hs:SOk2 zs ps cs)
include hs
end
def jhH (t p:Int) (x:j5P):Int:=
 if t<x.2.2.2.1∨x.2.2.2.2≤t then p else if x.1=1 then x.2.1 else if x.1=2∧p=x.2.1 then x.2.2.1 else if x.1=2∧p=x.2.2.1 then x.2.1 else p
def jlr (t:Int):Int→List j5P→Int
 | p,[]=>p
 | p,x::r=>jlr t (jhH t p x) r
theorem jpS {es:List j5P} (hl:es.length≤100) {t:Int}:∀ (n i:Nat) (p:Int),i+n=es.length→j5v p t es (es.length:Int) (i:Int)=some (jlr t p (es.drop i))
 | 0,i,p,hi=>by
  rw [jcn]
  simp only [j4p]
  rw [j00 (by omega),j6,j0j,jg (by omega)]
  rfl
 | n+1,i,p,hi=>by
  have hi':i<es.length:=by omega
  have hgd:es.getD i ((0:Int),((0:Int),((0:Int),((0:Int),(0:Int)))))=es[i]:=by simp [List.getD,hi']
  have ih:=fun p=>jpS hl (t:=t) n (i+1) p (by omega)
  rw [jcn]
  simp only [j4p,jdy,j3]
  rw [j01 (by omega),j1M (by omega) (by omega),j02 (x:=(i:Int)+1) (by omega) (by omega),jq hi']
  simp only [j5,j7,hgd,jlr]
  generalize es[i]=x
  unfold jhH
  by_cases ha:t<x.2.2.2.1∨x.2.2.2.2≤t
  ·rw [if_pos ha]
   have:cond (decide (x.2.2.2.1≤t)) (decide (t<x.2.2.2.2)) false=false:=by
    rcases ha with ha | ha
    ·rw [j00 (show ¬ x.2.2.2.1≤t by omega)];rfl
    ·rw [j00 (show ¬ t<x.2.2.2.2 by omega)];cases decide (x.2.2.2.1≤t)<;>rfl
   rw [this]
   simp only [kn,j5,j0b]
   exact ih p
  ·rw [if_neg ha,j01 (show x.2.2.2.1≤t by omega),j01 (show t<x.2.2.2.2 by omega)]
   simp only [j5,jd,j6]
   by_cases h0:x.1=0
   ·rw [j9D h0,if_neg (by omega),if_neg (by omega),if_neg (by omega),j5,j0b]
    exact ih p
   rw [j4u h0,j6]
   by_cases h1:x.1=1
   ·rw [if_pos h1,j9D h1,j5,j0b]
    exact ih _
   ·rw [if_neg h1,j4u h1,j6]
    by_cases h2:x.1=2
    ·rw [show (x.1 != 2)=false by simp [h2],j6]
     by_cases h3:p=x.2.1
     ·rw [if_pos ⟨h2,h3⟩,j9D h3,j5,j0b]
      exact ih _
     ·rw [if_neg (fun h=>h3 h.2),j4u h3,j6]
      by_cases h4:p=x.2.2.1
      ·rw [if_pos ⟨h2,h4⟩,j9D h4,j5,j0b]
       exact ih _
      ·rw [if_neg (fun h=>h4 h.2),j4u h4,j6,j0b]
       exact ih _
    ·rw [if_neg (fun h=>h2 h.1),if_neg (fun h=>h2 h.1),show (x.1 != 2)=true by simp [h2],j5,j0b]
     exact ih _
section
variable {zs:List j1T} {ps:List j12} {cs:List CalT} (hs:SOk2 zs ps cs)
include hs
def whoS (zs:List j1T) (cs:List CalT) (s:j2E) (t:Int):Int:=jlr t (topP s.2.2 t (pfX zs cs s.2.1 t) s.2.1.length) s.2.2
end
end Go.Proofs.Pw
