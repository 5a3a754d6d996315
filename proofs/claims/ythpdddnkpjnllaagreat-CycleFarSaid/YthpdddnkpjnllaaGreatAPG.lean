/- Chapter 11: who is on duty in a layer. -/
import Derived.Test.YthpdddnkpjnllaaGreatAPE
import Derived.Test.YthpdddnkpjnllaaGreatAPF
import Derived.Test.YthpdddnkpjnllaaGreatAPB
import Derived.KernelRfl
import Derived.Test.YthpdddnkpjnllaaGreatALD
import Derived.Test.YthpdddnkpjnllaaGreatAPA
import Derived.Test.YthpdddnkpjnllaaGreatAFns
import Derived.Test.YthpdddnkpjnllaaGreatAPC
noncomputable section
open Go Go.Lft
namespace Go.Proofs.Pw
def tb (z:ZoneT):Int×TrL:=(z.2.1,outT z.2.1 (isort (occs z.2.2)))
theorem ZOk.ztab {z:ZoneT} (h:ZOk z):ZTab z (tb z).2:=MZ.tab (o:=z.2.1) (rs:=z.2.2) h z.1
theorem ZOk.zdif {z:ZoneT} (h:ZOk z):Dif z.2.1 (tb z).2:=dif_out _ _ _ (MZ.good h)
theorem ZOk.zref {z:ZoneT} (h:ZOk z):ZTab z (tb z).2∧Z4 z (tb z).2∧Dif z.2.1 (tb z).2:=⟨h.ztab,MZ.r4 (o:=z.2.1) (rs:=z.2.2) h z.1,h.zdif⟩
theorem tabs_lp {zs:List ZoneT} (h:∀ z∈zs,ZOk z) (hl:zs.length≤100):∀ (n i:Nat),i+n=zs.length→j03L zs (zs.length:Int) (i:Int) ((zs.take i).map tb)=some (zs.map tb)
 | 0,i,hi=>by
  rw [j0a9]
  simp only [j01t]
  rw [j000 (by omega),cond_false,lpK_inr,List.take_of_length_le (by omega)]
 | n+1,i,hi=>by
  have hlt:i<zs.length:=by omega
  have hgd:zs.getD i (ByteArray.empty,((0:Int),([]:List Rule)))=zs[i]:=by simp [hlt]
  have ht:=Of_ok (h zs[i] (List.getElem_mem hlt)).ztab
  have ih:=tabs_lp h hl n (i+1) (by omega)
  rw [List.take_add_one,List.getElem?_eq_getElem hlt,List.map_append] at ih
  rw [j0a9]
  simp only [j01t]
  rw [j001 (by omega),inR_t (by omega) (by omega),w64_in (x:=(i:Int)+1) (by omega) (by omega)]
  simp only [cond_true,Int.toNat_natCast,hgd]
  rw [show zone_Of (zs[i].1,(zs[i].2.1,zs[i].2.2))=_ from ht]
  simp only [Option.bind_some]
  rw [j001 (by simp [sizeMax];omega),cond_true,lpK_inl]
  exact ih
theorem view_ok {zs:List ZoneT} (h:∀ z∈zs,ZOk z) (hl:zs.length≤100) {ps:List PersonT} {cs:List CalT} {ss:List SchedT}:j09y (zs,(ps,(cs,ss)))=some ((zs,(ps,(cs,ss))),zs.map tb):=by
 have lp:=tabs_lp h hl zs.length 0 (by omega)
 simp only [j09y,j07z,show Int.ofNat zs.length=(zs.length:Int) from rfl]
 rw [show j03L zs (zs.length:Int) 0 []=_ from lp]
 rfl
theorem tb_get {zs:List ZoneT} {i:Int} (h0:0≤i) (h1:i<(zs.length:Int)):List.getD (zs.map tb) i.toNat ((0:Int),([]:TrL))=tb (zs.getD i.toNat (ByteArray.empty,((0:Int),([]:List Rule)))):=by
 have hlt:i.toNat<zs.length:=by omega
 simp [List.getD_eq_getElem?_getD,hlt]
theorem zget {zs:List ZoneT} (h:∀ z∈zs,ZOk z) {i:Int} (h0:0≤i) (h1:i<(zs.length:Int)):ZOk (zs.getD i.toNat (ByteArray.empty,((0:Int),([]:List Rule)))):=by
 have hlt:i.toNat<zs.length:=by omega
 rw [List.getD_eq_getElem?_getD,List.getElem?_eq_getElem hlt]
 exact h _ (List.getElem_mem hlt)
theorem j0o2 (a b:Int):j09z a b=some (decide (a<b)):=by
 simp only [j09z,j08o,Option.bind_some,bne_self_eq_false,cond_false]
theorem bs_lp {ds:List Int} (hs:ds.Pairwise (· < ·)) (hl:ds.length≤64) {x:Int}:∀ (n a b:Nat),b-a≤n→a≤b→b≤ds.length→(∀ i,(hi:i<ds.length)→i<a→ds[i]<x)→(∀ i,(hi:i<ds.length)→b≤i→x≤ds[i])→
  ∃ k:Nat,j00I ds x (ds.length:Int) (a:Int) (b:Int)=some (ds,x,(ds.length:Int),(k:Int))∧k≤ds.length∧(∀ i,(hi:i<ds.length)→i<k→ds[i]<x)∧∀ i,(hi:i<ds.length)→k≤i→x≤ds[i]
 | n,a,b,hn,hab,hb,h1,h2=>by
  rw [j066]
  simp only [j013]
  by_cases hlt:a<b
  ·have hm:IntKind.wrap .u64 ((a:Int)+(b:Int))=(a:Int)+(b:Int):=IntWalk.u64_in _ ⟨by omega,by omega⟩
   have hd:Int.fdiv ((a:Int)+(b:Int)) 2=(((a+b)/2:Nat):Int):=by
    rw [Int.fdiv_eq_ediv_of_nonneg _ (by omega)];omega
   have hml:(a+b)/2<ds.length:=by omega
   have hgd:ds.getD ((a+b)/2) (0:Int)=ds[(a+b)/2]:=by simp [hml]
   rw [j001 (show (a:Int)<(b:Int) by omega),w64_in (x:=(a:Int)+(b:Int)) (by omega) (by omega),hm,hd,w64_in (x:=(((a+b)/2:Nat):Int)) (by omega) (by omega),inR_t (by omega) (by omega),w64_in (x:=(((a+b)/2:Nat):Int)+1) (by omega) (by omega)]
   simp only [cond_true,Int.toNat_natCast,hgd,j0o2,Option.bind_some]
   cases n with
   | zero=>omega
   | succ n=>
    by_cases hc:ds[(a+b)/2]<x
    ·rw [j001 hc,cond_true,lpK_inl]
     refine bs_lp hs hl n ((a+b)/2+1) b (by omega) (by omega) hb (fun i hi hia=> ?_) h2
     by_cases he:i=(a+b)/2
     ·subst he;exact hc
     ·exact Int.lt_trans (List.pairwise_iff_getElem.1 hs i ((a+b)/2) hi hml (by omega)) hc
    ·rw [j000 hc,cond_false,lpK_inl]
     refine bs_lp hs hl n a ((a+b)/2) (by omega) (by omega) (by omega) h1 (fun i hi hia=> ?_)
     by_cases he:i=(a+b)/2
     ·subst he;exact Int.not_lt.1 hc
     ·exact Int.le_trans (Int.not_lt.1 hc) (Int.le_of_lt (List.pairwise_iff_getElem.1 hs ((a+b)/2) i hml hi (by omega)))
  ·have:a=b:=by omega
   subst this
   rw [j000 (by omega),cond_false,lpK_inr]
   exact ⟨a,rfl,hb,h1,h2⟩
theorem bs_ok {ds:List Int} (hs:ds.Pairwise (· < ·)) (hl:ds.length≤64) (x:Int):∃ i,j00s ds x=some (i,decide (x∈ds)):=by
 obtain ⟨k,e,hk,h1,h2⟩:=bs_lp hs hl (x:=x) ds.length 0 ds.length (by omega) (by omega) (Nat.le_refl _) (fun i _ h=>by omega) (fun i hi h=>by omega)
 rw [show ((0:Nat):Int)=0 from rfl] at e
 simp only [j00s,show Int.ofNat ds.length=(ds.length:Int) from rfl,e,Option.bind_some,Int.toNat_natCast]
 by_cases hkl:k<ds.length
 ·have hgd:ds.getD k (0:Int)=ds[k]:=by simp [hkl]
  rw [inR_t (by omega) (by omega),j001 (show (k:Int)<(ds.length:Int) by omega),hgd]
  simp only [Bool.true_or,cond_true]
  by_cases hx:ds[k]=x
  ·rw [beq_t hx]
   rw [j001 (show x∈ds from hx▸List.getElem_mem hkl)]
   exact ⟨_,rfl⟩
  ·rw [beq_f hx]
   have hn:¬ x∈ds:=by
    intro hm
    obtain ⟨i,hi,rfl⟩:=List.getElem_of_mem hm
    rcases Nat.lt_trichotomy i k with h | h | h
    ·have:=h1 i hi h;omega
    ·subst h;exact hx rfl
    ·have a1:=h2 k hkl (Nat.le_refl _)
     have a2:=List.pairwise_iff_getElem.1 hs k i hkl hi h
     omega
   rw [j000 hn]
   simp only [cond_false,j05Q,Option.bind_some,bne_self_eq_false]
   exact ⟨_,rfl⟩
 ·have hn:¬ x∈ds:=by
   intro hm
   obtain ⟨i,hi,rfl⟩:=List.getElem_of_mem hm
   have:=h1 i hi (by omega)
   omega
  rw [j000 hn,j000 (show ¬ (k:Int)<(ds.length:Int) by omega)]
  simp only [Bool.not_false,Bool.or_true,cond_true,cond_false,Bool.false_and]
  exact ⟨_,rfl⟩
def okW (w:WL) (s:Int):Bool:=cond (decide ((w.length:Int)>0)) (hasB s w) true
section
variable {zs:List ZoneT} {ps:List PersonT} {cs:List CalT} {ss:List SchedT} (hz:∀ z∈zs,ZOk z)
include hz
theorem OnV_ok {L:LayerT} (hL:LCk zs.length ps.length cs.length L) (hRt:Rt L) {t:Int} (h0:0≤t) (h1:t≤8589934592) {z:ZoneT} (hzz:zs.getD L.2.1.toNat (ByteArray.empty,((0:Int),([]:List Rule)))=z)
  {s:Int} {d:Int×Int} (hd:j00m (tb z) t=some d) (hs:j02z d=some s) {K:Int} (hK:j01Y (tb z) L t=some K) (b:Bool)
  (hcal:L.2.2.2.2.2.2.2.2=0→b=true) (hcal2:L.2.2.2.2.2.2.2.2≠0→∃ x:CalT,cs.getD L.2.2.2.2.2.2.2.1.toNat (ByteArray.empty,((0:Int),([]:List Int)))=x∧CCk zs.length x∧∃ d',j00m (tb (zs.getD x.2.1.toNat (ByteArray.empty,((0:Int),([]:List Rule))))) t=some d'∧b=(decide (d'.1∈x.2.2)==(L.2.2.2.2.2.2.2.2==(2:Int)))) :
  ∃ r,j037 ((zs,(ps,(cs,ss))),zs.map tb) L t=some (r,cond (decide (0≤K)) (cond (okW L.2.2.2.2.2.2.1 s) b false) false)∧(cond (decide (0≤K)) (cond (okW L.2.2.2.2.2.2.1 s) b false) false=true→r=K):=by
 have _:=hz;have _:=hRt
 have hwl:=hL.wl
 have hlen:(zs.map tb).length=zs.length:=List.length_map ..
 have hg:=tb_get (zs:=zs) hL.z0 hL.z1
 rw [hzz] at hg
 simp only [j037]
 rw [j000 (show ¬ t<0 by omega),j000 (show ¬ t>8589934592 by omega),inR_t hL.z0 (by rw [hlen];exact hL.z1)]
 simp only [cond_false,cond_true,hg]
 rw [show j01Y ((tb z).1,(tb z).2) (L.1,L.2.1,(L.2.2.1.1,L.2.2.1.2),L.2.2.2.1,L.2.2.2.2.1,L.2.2.2.2.2.1,L.2.2.2.2.2.2.1,L.2.2.2.2.2.2.2.1,L.2.2.2.2.2.2.2.2) t=_ from hK]
 simp only [Option.bind_some]
 by_cases hk:0≤K
 ·rw [j000 (show ¬ K<0 by omega),j001 hk]
  simp only [cond_false,cond_true,show Int.ofNat L.2.2.2.2.2.2.1.length=(L.2.2.2.2.2.2.1.length:Int) from rfl]
  have tail:∃ r,(cond (L.2.2.2.2.2.2.2.2==(0:Int)) (some (K,true)) (cond (inR L.2.2.2.2.2.2.2.1 cs.length) (cond (inR (cs.getD L.2.2.2.2.2.2.2.1.toNat (ByteArray.empty,((0:Int),([]:List Int)))).2.1 (zs.map tb).length) ((j00m ((List.getD (zs.map tb) (cs.getD L.2.2.2.2.2.2.2.1.toNat (ByteArray.empty,((0:Int),([]:List Int)))).2.1.toNat ((0:Int),([]:TrL))).1,(List.getD (zs.map tb) (cs.getD L.2.2.2.2.2.2.2.1.toNat (ByteArray.empty,((0:Int),([]:List Int)))).2.1.toNat ((0:Int),([]:TrL))).2) t).bind fun r68=>
    (j00s (cs.getD L.2.2.2.2.2.2.2.1.toNat (ByteArray.empty,((0:Int),([]:List Int)))).2.2 r68.1).bind fun r70=>some (K,(r70.2==(L.2.2.2.2.2.2.2.2==(2:Int))))) none) none))=some (r,b)∧(b=true→r=K):=by
   by_cases hm:L.2.2.2.2.2.2.2.2=0
   ·rw [beq_t hm,cond_true,hcal hm]
    exact ⟨K,rfl,fun _=>rfl⟩
   ·obtain ⟨x,hx,hxc,d',hd',hb⟩:=hcal2 hm
    have hc:=hL.cal hm
    obtain ⟨i,hi⟩:=bs_ok hxc.asc hxc.len d'.1
    have hg2:=tb_get (zs:=zs) hxc.z0 hxc.z1
    rw [beq_f hm,cond_false,inR_t hc.1 hc.2,hx,inR_t hxc.z0 (by rw [hlen];exact hxc.z1)]
    simp only [cond_true,hg2]
    rw [show j00m ((tb (zs.getD x.2.1.toNat (ByteArray.empty,((0:Int),([]:List Rule))))).1,(tb (zs.getD x.2.1.toNat (ByteArray.empty,((0:Int),([]:List Rule))))).2) t=_ from hd']
    simp only [Option.bind_some,hi]
    rw [←hb]
    exact ⟨K,rfl,fun _=>rfl⟩
  by_cases hw:(L.2.2.2.2.2.2.1.length:Int)>0
  ·rw [j001 hw,cond_true,show j00m ((tb z).1,(tb z).2) t=_ from hd]
   simp only [Option.bind_some,show j02z (d.1,d.2)=_ from hs,Has_ok hwl,okW]
   rw [j001 hw,cond_true]
   cases hh:hasB s L.2.2.2.2.2.2.1 with
   | true=>
    simp only [Bool.not_true,cond_false,cond_true]
    exact tail
   | false=>exact ⟨0,rfl,fun h=>by simp at h⟩
  ·simp only [okW]
   rw [j000 hw]
   simp only [cond_false,cond_true]
   exact tail
 ·rw [j001 (show K<0 by omega),j000 hk]
  exact ⟨0,rfl,fun h=>by simp at h⟩
def whoL (L:LayerT) (K:Int):Int:=L.2.2.2.2.2.1.getD (Int.tmod K (L.2.2.2.2.2.1.length:Int)).toNat 0
omit hz in
theorem j0o3 {v:CfgT×List (Int×TrL)} {L:LayerT} {t r K:Int} {b:Bool} (hm:L.2.2.2.2.2.1.length≠0) (e:j037 v L t=some (r,b)) (hr:b=true→r=K) (hK:b=true→0≤K) :
  j01f v L t=some (cond b (whoL L K) (-1)):=by
 simp only [j01f,show j037 ((v.1.1,v.1.2.1,v.1.2.2.1,v.1.2.2.2),v.2) (L.1,L.2.1,(L.2.2.1.1,L.2.2.1.2),L.2.2.2.1,L.2.2.2.2.1,L.2.2.2.2.2.1,L.2.2.2.2.2.2.1,L.2.2.2.2.2.2.2.1,L.2.2.2.2.2.2.2.2) t=_ from e,Option.bind_some]
 cases b with
 | false=>rfl
 | true=>
  have:=hr rfl
  subst this
  have hk:=hK rfl
  have q1:0≤Int.tmod r (L.2.2.2.2.2.1.length:Int):=Int.tmod_nonneg _ hk
  have q2:Int.tmod r (L.2.2.2.2.2.1.length:Int)<(L.2.2.2.2.2.1.length:Int):=Int.tmod_lt_of_pos _ (by omega)
  simp only [Bool.not_true,cond_false,cond_true,show Int.ofNat L.2.2.2.2.2.1.length=(L.2.2.2.2.2.1.length:Int) from rfl,whoL]
  rw [beq_f (show ¬ (L.2.2.2.2.2.1.length:Int)=0 by omega),inR_t q1 q2]
  rfl
end
theorem LCk.rt {nz np nc:Nat} {L:LayerT} (h:LCk nz np nc L) (hd:L.2.2.1.1≤100000):Rt L:=
 ⟨h.d0,hd,h.c0,h.c1,h.u0,h.u1,h.e0,h.e1,fun hn=>h.m0 (by rw [hn];rfl)⟩
theorem sec_ok {z:ZoneT} (hz:ZOk z) {t:Int} (h0:0≤t) (h1:t≤8589934592):∃ d s,j00m (tb z) t=some d∧j02z d=some s:=by
 have ht:=hz.ztab
 obtain ⟨j,hj,j1,j2⟩:=j0h2 ht.2 h0 h1
 have o0:=ht.2.of0 j hj;have o1:=ht.2.of1 j hj
 obtain ⟨s,hs⟩:∃ s,j02z ((t+tof z.2.1 (tb z).2 j)/86400,(t+tof z.2.1 (tb z).2 j)%86400)=some s:=by
  simp only [j02z,j0fr,Option.bind_some]
  exact ⟨_,rfl⟩
 exact ⟨_,s,j0h3 ht.2 hj j1 j2,hs⟩
end Go.Proofs.Pw
open Go Go.Lft
namespace Go.Proofs.Pw
end Go.Proofs.Pw
open Go Go.Lft
namespace Go.Proofs.Pw
theorem j0dq:j043 2241=some 98981:=by kernel_rfl
theorem j0dr:j043 1970=some 0:=by kernel_rfl
theorem day_le {d:Int} (h:j00B d=some true):d≤100000:=by
 apply Classical.byContradiction
 intro hd
 simp only [j00B,j033,j0dr,j0dq,Option.bind_some] at h
 rw [j000 (show ¬ d<0 by omega),j001 (show d≥98981 by omega)] at h
 simp at h
theorem LCk.rt2 {nz np nc:Nat} {L:LayerT} (h:LCk nz np nc L):Rt L:=h.rt (day_le h.day)
section
variable {zs:List ZoneT} {ps:List PersonT} {cs:List CalT} (hs:SOk2 zs ps cs)
include hs
theorem cget {i:Int} (h0:0≤i) (h1:i<(cs.length:Int)):CCk zs.length (cs.getD i.toNat (ByteArray.empty,((0:Int),([]:List Int)))):=by
 have hi:i.toNat<cs.length:=by omega
 rw [show cs.getD i.toNat (ByteArray.empty,((0:Int),([]:List Int)))=cs[i.toNat] by simp [List.getD,hi]]
 exact hs.c.ck _ (List.getElem_mem hi)
end
def awayB (es:List EditT) (p t:Int):Bool:=es.any fun x=>x.1==0&&(x.2.1==p&&(decide (x.2.2.2.1≤t)&&decide (t<x.2.2.2.2)))
theorem aw_lp {es:List EditT} {p t:Int} (hl:es.length≤1000):∀ (n i:Nat),i+n=es.length→∃ r,j00j es p t (es.length:Int) (i:Int)=some r∧
  match r with
  | .inl k=>0≤k∧awayB (es.drop i) p t=true
  | .inr _=>awayB (es.drop i) p t=false
 | 0,i,hi=>by
  rw [j02a]
  simp only [j00t]
  rw [j000 (by omega),cond_false,lpK_inr,List.drop_of_length_le (by omega)]
  exact ⟨_,rfl,rfl⟩
 | n+1,i,hi=>by
  have hlt:i<es.length:=by omega
  have hgd:es.getD i ((0:Int),((0:Int),((0:Int),((0:Int),(0:Int)))))=es[i]:=by simp [List.getD,hlt]
  rw [j02a]
  simp only [j00t,j0ay]
  rw [j001 (by omega),inR_t (by omega) (by omega),w64_in (x:=(i:Int)+1) (by omega) (by omega)]
  simp only [cond_true,Int.toNat_natCast,hgd,Option.bind_some]
  rw [List.drop_eq_getElem_cons hlt]
  have e:(cond (cond (cond (es[i].1==(0:Int)) (es[i].2.1==p) false) (decide (es[i].2.2.2.1≤t)) false) (decide (t<es[i].2.2.2.2)) false)=(es[i].1==0&&(es[i].2.1==p&&(decide (es[i].2.2.2.1≤t)&&decide (t<es[i].2.2.2.2)))):=by
   cases es[i].1==(0:Int)<;>cases es[i].2.1==p<;>cases decide (es[i].2.2.2.1≤t)<;>rfl
  rw [e]
  have ha:awayB (es[i]::es.drop (i+1)) p t=((es[i].1==0&&(es[i].2.1==p&&(decide (es[i].2.2.2.1≤t)&&decide (t<es[i].2.2.2.2))))||awayB (es.drop (i+1)) p t):=rfl
  rw [ha]
  cases hx:(es[i].1==0&&(es[i].2.1==p&&(decide (es[i].2.2.2.1≤t)&&decide (t<es[i].2.2.2.2)))) with
  | true=>
   rw [cond_true,lpK_inr]
   exact ⟨_,rfl,by omega,rfl⟩
  | false=>
   rw [cond_false,lpK_inl]
   obtain ⟨r,e1,e2⟩:=aw_lp (es:=es) (p:=p) (t:=t) hl n (i+1) (by omega)
   exact ⟨r,e1,by simpa using e2⟩
theorem Away_ok {nm:ByteArray} {ls:List LayerT} {es:List EditT} {p t:Int} (hl:es.length≤1000):j07K (nm,(ls,es)) p t=some (awayB es p t):=by
 obtain ⟨r,e1,e2⟩:=aw_lp (p:=p) (t:=t) hl es.length 0 (by omega)
 simp only [j07K,j00r,j00x,show Int.ofNat es.length=(es.length:Int) from rfl]
 rw [show j00j es p t (es.length:Int) 0=_ from e1]
 cases r with
 | inl k=>
  simp only [List.drop_zero] at e2
  simp only [Option.bind_some,j0lI,e2.2]
  rw [j001 (show k≥0 from e2.1)]
 | inr u=>
  simp only [List.drop_zero] at e2
  simp only [Option.bind_some,j05L,e2]
  rfl
def topI (good:Nat→Bool):Nat→Option Nat
 | 0=>none
 | n+1=>cond (good n) (some n) (topI good n)
def goodL (es:List EditT) (t:Int) (Pf:Nat→Int) (i:Nat):Bool:=decide (0≤Pf i) && !awayB es (Pf i) t
theorem lof_lp {ls:List LayerT} {zs:List ZoneT} {ps:List PersonT} {cs:List CalT} {ss:List SchedT} {tbs:List (Int×TrL)} {nm:ByteArray} {es:List EditT} {t b6 b7:Int} {Pf:Nat→Int} (hl:es.length≤1000)
  (hP:∀ i (h:i<ls.length),j01f ((zs,(ps,(cs,ss))),tbs) ls[i] t=some (Pf i)):∀ n:Nat,n≤ls.length→
  j02G (n:Int) ls zs ps cs ss tbs nm ls es t b6 b7=some (match topI (goodL es t Pf) n with | some i=> .inr ((i:Int),Pf i) | none=> .inl (b6,b7))
 | 0,hn=>by
  rw [j08p]
  simp only [j019]
  rw [j001 (by omega),cond_true,lpK_inr]
  rfl
 | n+1,hn=>by
  have hlt:n<ls.length:=by omega
  have hgd:ls.getD n (ByteArray.empty,((0:Int),(((0:Int),(0:Int)),((0:Int),((0:Int),(([]:List Int),(([]:List (Int×Int)),((0:Int),(0:Int)))))))))=ls[n]:=by simp [List.getD,hlt]
  have ih:=lof_lp (nm:=nm) (b6:=b6) (b7:=b7) hl hP n (by omega)
  have hp:=hP n hlt
  rw [j08p]
  simp only [j019]
  rw [j000 (by omega),j001 (show ((n+1:Nat):Int)≤Int.ofNat ls.length by simp;omega),show ((n+1:Nat):Int)-1=(n:Int) by omega]
  simp only [cond_true,cond_false,Int.toNat_natCast,hgd]
  rw [show j01f ((zs,(ps,(cs,ss))),tbs) (ls[n].1,(ls[n].2.1,((ls[n].2.2.1.1,ls[n].2.2.1.2),(ls[n].2.2.2.1,(ls[n].2.2.2.2.1,(ls[n].2.2.2.2.2.1,(ls[n].2.2.2.2.2.2.1,(ls[n].2.2.2.2.2.2.2.1,ls[n].2.2.2.2.2.2.2.2)))))))) t=_ from hp]
  simp only [Option.bind_some,topI,goodL]
  by_cases h0:0≤Pf n
  ·rw [j000 (show ¬ Pf n<0 by omega),j001 h0]
   simp only [cond_false,Away_ok hl,Option.bind_some,Bool.true_and]
   cases awayB es (Pf n) t with
   | true=>
    simp only [Bool.not_true,cond_false,lpK_inl]
    exact ih
   | false=>rfl
  ·rw [j001 (show Pf n<0 by omega),j000 h0]
   simp only [cond_true,Bool.false_and,cond_false,lpK_inl]
   exact ih
theorem j0ml {ls:List LayerT} {zs:List ZoneT} {ps:List PersonT} {cs:List CalT} {ss:List SchedT} {tbs:List (Int×TrL)} {nm:ByteArray} {es:List EditT} {t:Int} {Pf:Nat→Int} (hl:es.length≤1000)
  (hP:∀ i (h:i<ls.length),j01f ((zs,(ps,(cs,ss))),tbs) ls[i] t=some (Pf i)) :
  j02V ((zs,(ps,(cs,ss))),tbs) (nm,(ls,es)) t=some (match topI (goodL es t Pf) ls.length with | some i=>((i:Int),Pf i) | none=>((-1:Int),(-1:Int))):=by
 have lp:=lof_lp (nm:=nm) (b6:=0) (b7:=0) hl hP ls.length (Nat.le_refl _)
 simp only [j02V,j01G,Option.bind_some]
 rw [show j02G (Int.ofNat ls.length) ls zs ps cs ss tbs nm ls es t 0 0=_ from lp]
 cases topI (goodL es t Pf) ls.length with
 | none=>rfl
 | some i=>rfl
section
variable {zs:List ZoneT} {ps:List PersonT} {cs:List CalT} {ss:List SchedT}
theorem Of_cfg (hz:∀ z∈zs,ZOk z) (hc:CfgOk (zs,(ps,(cs,ss)))):duty_Of (zs,(ps,(cs,ss)))=some (((zs,(ps,(cs,ss))),zs.map tb),true):=by
 have hzl:zs.length≤16:=hc.zl
 simp only [duty_Of,show j02x (zs,(ps,(cs,ss)))=_ from j0gb hc,Option.bind_some,bne_self_eq_false,cond_false,view_ok (ps:=ps) (cs:=cs) (ss:=ss) hz (show zs.length≤100 by omega)]
def topP (es:List EditT) (t:Int) (Pf:Nat→Int) (n:Nat):Int:=match topI (goodL es t Pf) n with
 | some i=>Pf i
 | none=> -1
end
end Go.Proofs.Pw
open Go Go.Lft
namespace Go.Proofs.Pw
def nms3:List ByteArray:=[(ByteArray.mk #[102,105,114,115,116]),(ByteArray.mk #[115,101,99,111,110,100]),(ByteArray.mk #[116,104,105,114,100])]
theorem nms3_ok:NmL nms3:=by
 refine ⟨by decide,fun k hk=> ?_⟩
 simp only [nms3,List.mem_cons,List.not_mem_nil,or_false] at hk
 rcases hk with rfl | rfl | rfl<;>exact j06Q 60 _ true (by kernel_rfl)
structure SG (nz np nc:Nat) (s:SchedT):Prop where
 ck:SCk nz np nc s
 nm:s.2.1.map (·.1)=nmsL.take s.2.1.length
 ll:s.2.1.length≤3
 el:s.2.2.length≤3
theorem CfN_l0 {L:List Int} {zs:List ZoneT} {ps:List PersonT} {cs:List CalT} (hs:SOk zs ps cs):∀ (n:Nat) (a:Int) (ss:List SchedT),DOk L a→ss.length+n≤3→ss.map (·.1)=nms3.take ss.length→(∀ s∈ss,SG zs.length ps.length cs.length s)→
  ∃ ss' a',j04h (n:Int) L a zs ps cs ss=some (L,a',zs,ps,cs,ss')∧ss'.length=ss.length+n∧ss'.map (·.1)=nms3.take ss'.length∧(∀ s∈ss',SG zs.length ps.length cs.length s)∧DOk L a'
 | 0,a,ss,hd,hl,hn,hg=>by
  rw [j06K]
  simp only [j01T]
  rw [j000 (by omega),cond_false,lpK_inr]
  exact ⟨ss,a,rfl,rfl,hn,hg,hd⟩
 | n+1,a,ss,hd,hl,hn,hg=>by
  have hlt:ss.length<nms3.length:=by show ss.length<3;omega
  have hmod:Int.tmod (Int.ofNat ss.length) 3=(ss.length:Int):=by
   have:Int.tmod (ss.length:Int) 3=(ss.length:Int):=Int.tmod_eq_of_lt (by omega) (by omega)
   exact this
  obtain ⟨k,a3,e3,k0,k1,d3⟩:=Next_ok (n:=4) hd (by omega) (by omega)
  obtain ⟨ls,a4,e4,l4,lk,ln,d4⟩:=Cf_l2 (s6:=((n+1:Nat):Int)) (nm:=List.getD nms3 ss.length ByteArray.empty) (ss:=ss) hs k.toNat a3 [] d3 (by simp;omega) (by simp) rfl
  obtain ⟨m,a5,e5,m0,m1,d5⟩:=Next_ok (n:=4) d4 (by omega) (by omega)
  obtain ⟨es,a6,e6,l6,ek,d6⟩:=Cf_l4 (s6:=((n+1:Nat):Int)) (nm:=List.getD nms3 ss.length ByteArray.empty) (zs:=zs) (cs:=cs) (ss:=ss) (ls:=ls) hs m.toNat a5 [] d5 (by simp;omega) (by simp)
  rw [show ((k.toNat:Nat):Int)=k by omega] at e4
  rw [show ((m.toNat:Nat):Int)=m by omega] at e6
  have hnew:SG zs.length ps.length cs.length (List.getD nms3 ss.length ByteArray.empty,(ls,es)):=
   ⟨⟨by dsimp only;rw [ln];exact nmsL_ok.take _,lk,by dsimp only;omega,ek,by dsimp only;omega⟩,ln,l4,l6⟩
  obtain ⟨ss',a',e',h1,h2,h3,h4⟩:=CfN_l0 hs n a6 (ss++[(List.getD nms3 ss.length ByteArray.empty,(ls,es))]) d6 (by simp;omega) (by
   rw [List.map_append,hn,List.length_append]
   exact take_nm hlt) (fun s h=>by
   rcases List.mem_append.1 h with h | h
   ·exact hg s h
   ·simp at h;subst h;exact hnew)
  rw [j06K]
  simp only [j01T]
  rw [j001 (show ((n+1:Nat):Int)>0 by omega),hmod,inR_t (by omega) (by show (ss.length:Int)<(3:Nat);omega)]
  simp only [cond_true,Int.toNat_natCast,e3,Option.bind_some]
  rw [show j02X ((n+1:Nat):Int) k L a3 zs ps cs (List.getD [(ByteArray.mk #[102,105,114,115,116]),(ByteArray.mk #[115,101,99,111,110,100]),(ByteArray.mk #[116,104,105,114,100])] ss.length ByteArray.empty) ss []=_ from e4]
  simp only [Option.bind_some,e5,e6]
  rw [j001 (by simp [sizeMax];omega),w64_in (by omega) (by omega),show ((n+1:Nat):Int)-1=(n:Int) by omega]
  simp only [cond_true,lpK_inl]
  exact ⟨ss',a',e',by rw [h1];simp;omega,h2,h3,h4⟩
theorem j0mm {L:List Int} {a n:Int} (h:DOk L a) (n0:1≤n) (n1:n≤3):∃ zs ps cs ss a',j05R L a n=some ((zs,(ps,(cs,ss))),L,a')∧SOk2 zs ps cs∧1≤ss.length∧(ss.length:Int)≤n∧ss.map (·.1)=nms3.take ss.length∧(∀ s∈ss,SG zs.length ps.length cs.length s)∧DOk L a':=by
 obtain ⟨zs,ps,cs,a1,e1,hs,d1⟩:=j0nb h
 obtain ⟨x,a2,e2,x0,x1,d2⟩:=Next_ok (n:=n) d1 (by omega) (by omega)
 obtain ⟨ss,a3,e3,h1,h2,h3,d3⟩:=CfN_l0 hs.so (1+x).toNat a2 [] d2 (by simp;omega) (by simp) (by simp)
 rw [show (((1+x).toNat:Nat):Int)=1+x by omega] at e3
 simp at h1
 simp only [j05R,e1,e2,Option.bind_some]
 rw [w64_in (x:=1+x) (by omega) (by omega)]
 simp only [e3,Option.bind_some]
 exact ⟨zs,ps,cs,ss,a3,rfl,hs,by omega,by omega,h2,h3,d3⟩
theorem cfgN_of {zs:List ZoneT} {ps:List PersonT} {cs:List CalT} {ss:List SchedT} (hs:SOk2 zs ps cs) (h0:ss.length≤12) (h1:NmL (ss.map (·.1))) (h2:∀ s∈ss,SCk zs.length ps.length cs.length s):CfgOk (zs,(ps,(cs,ss))):=cfg_of hs h0 h1 h2
end Go.Proofs.Pw
open Go Go.Lft
namespace Go.Proofs.Pw
theorem sane16:j06H=some true:=j0ie 60 true (by kernel_rfl)
end Go.Proofs.Pw
open Go Go.Lft
namespace Go.Proofs.Pw
def untN (u:Int):Nat:=if u=0 then 3600 else if u=1 then 86400 else 604800
def perN (L:LayerT):Nat:=L.2.2.2.2.2.1.length*L.2.2.2.2.1.toNat*untN L.2.2.2.1
theorem untN_b (u:Int):3600≤untN u∧untN u≤604800:=by
 unfold untN;split
 ·omega
 ·split<;>omega
theorem perN_b {nz np nc:Nat} {L:LayerT} (h:LCk nz np nc L):1≤perN L∧perN L≤2903040000:=by
 have:=h.m0;have:=h.m1;have:=h.e0;have:=h.e1
 obtain ⟨u0,u1⟩:=untN_b L.2.2.2.1
 unfold perN
 have h1:1≤L.2.2.2.2.2.1.length*L.2.2.2.2.1.toNat:=Nat.mul_pos (by omega) (by omega)
 have h2:L.2.2.2.2.2.1.length*L.2.2.2.2.1.toNat≤12*400:=Nat.mul_le_mul (by omega) (by omega)
 have h3:1≤L.2.2.2.2.2.1.length*L.2.2.2.2.1.toNat*untN L.2.2.2.1:=Nat.mul_pos h1 (by omega)
 have h4:L.2.2.2.2.2.1.length*L.2.2.2.2.1.toNat*untN L.2.2.2.1≤12*400*604800:=Nat.mul_le_mul h2 u1
 omega
theorem j0ne {nz np nc:Nat} {L:LayerT} (h:LCk nz np nc L):j07y L=some ((perN L:Int),0):=by
 have hm0:=h.m0;have hm1:=h.m1;have he0:=h.e0;have he1:=h.e1;have hu0:=h.u0;have hu1:=h.u1
 obtain ⟨p0,p1⟩:=perN_b h
 have h2:L.2.2.2.2.2.1.length*L.2.2.2.2.1.toNat≤12*400:=Nat.mul_le_mul (by omega) (by omega)
 have e1:(L.2.2.2.2.2.1.length:Int)*L.2.2.2.2.1=((L.2.2.2.2.2.1.length*L.2.2.2.2.1.toNat:Nat):Int):=by
  rw [Int.natCast_mul,Int.toNat_of_nonneg (by omega)]
 have e2:([(3600:Int),(86400:Int),(604800:Int)]).getD L.2.2.2.1.toNat (0:Int)=(untN L.2.2.2.1:Int):=by
  have:L.2.2.2.1=0∨L.2.2.2.1=1∨L.2.2.2.1=2:=by omega
  rcases this with h | h | h<;>rw [h]<;>rfl
 simp only [j07y,show Int.ofNat L.2.2.2.2.2.1.length=(L.2.2.2.2.2.1.length:Int) from rfl]
 rw [j000 (show ¬ L.2.2.2.1<0 by omega),j000 (show ¬ L.2.2.2.1≥3 by omega),j000 (show ¬ L.2.2.2.2.1<1 by omega),j000 (show ¬ L.2.2.2.2.1>400 by omega),j000 (show ¬ (L.2.2.2.2.2.1.length:Int)<1 by omega),j000 (show ¬ (L.2.2.2.2.2.1.length:Int)>12 by omega),inR_t hu0 (by omega),e1,w64_in (x:=((L.2.2.2.2.2.1.length*L.2.2.2.2.1.toNat:Nat):Int)) (by omega) (by omega),e2,←Int.natCast_mul]
 simp only [cond_false,cond_true]
 rw [show L.2.2.2.2.2.1.length*L.2.2.2.2.1.toNat*untN L.2.2.2.1=perN L from rfl,w64_in (x:=(perN L:Int)) (by omega) (by omega)]
theorem gcd_lp:∀ (b a:Nat),j06g (a:Int) (b:Int)=some ((Nat.gcd b a:Nat):Int):=by
 intro b
 induction b using Nat.strongRecOn with
 | _ b ih=>
  intro a
  rw [j0fC]
  simp only [j05k]
  by_cases hb:b=0
  ·subst hb
   simp only [Int.natCast_zero,bne_self_eq_false,cond_false,Nat.gcd_zero_left]
   exact lpK_inr ..
  ·rw [show ((b:Int) != 0)=true by simp;omega,show ((b:Int)==0)=false from beq_f (by omega),tmod_nn (by omega),←Int.natCast_emod]
   simp only [cond_true,Bool.not_false,lpK_inl]
   rw [ih (a%b) (Nat.mod_lt _ (by omega)) b,Nat.gcd_rec b a]
theorem gcd_ok (a b:Nat):j09x (a:Int) (b:Int)=some ((Nat.gcd a b:Nat):Int):=by
 simp only [j09x,gcd_lp,Option.bind_some,Nat.gcd_comm]
def capN (x:Nat):Nat:=if x>4294967296 then 4294967297 else x
theorem lcm_div (n p:Nat):n*(p/Nat.gcd n p)=Nat.lcm n p:=by
 rw [Nat.lcm,Nat.mul_div_assoc _ (Nat.gcd_dvd_right n p)]
theorem le_lcm {n p:Nat} (hn:1≤n) (hp:1≤p):n≤Nat.lcm n p:=Nat.le_of_dvd (Nat.lcm_pos hn hp) (Nat.dvd_lcm_left n p)
theorem c1_ok {nz np nc:Nat} {L:LayerT} (h:LCk nz np nc L) {n:Nat} (hn:1≤n) (hn1:n≤4294967297):j02y (n:Int) L=some ((capN (Nat.lcm n (perN L)):Nat):Int):=by
 obtain ⟨p0,p1⟩:=perN_b h
 have hg:1≤Nat.gcd n (perN L):=Nat.gcd_pos_of_pos_left _ (by omega)
 have hq:perN L/Nat.gcd n (perN L)≤perN L:=Nat.div_le_self _ _
 have hM:(4294967296:Int)/(n:Int)=((4294967296/n:Nat):Int):=by rw [Int.natCast_ediv];rfl
 have hM2:4294967296/n≤4294967296:=Nat.div_le_self _ _
 have hlt:4294967296/n<perN L/Nat.gcd n (perN L)↔4294967296<Nat.lcm n (perN L):=by
  rw [←lcm_div,Nat.div_lt_iff_lt_mul (by omega),Nat.mul_comm n]
 have hle:=le_lcm hn p0
 have hlc:=lcm_div n (perN L)
 simp only [j02y]
 rw [show j07y (L.1,(L.2.1,((L.2.2.1.1,L.2.2.1.2),(L.2.2.2.1,(L.2.2.2.2.1,(L.2.2.2.2.2.1,(L.2.2.2.2.2.2.1,(L.2.2.2.2.2.2.2.1,L.2.2.2.2.2.2.2.2))))))))=_ from j0ne h]
 simp only [Option.bind_some,gcd_ok]
 rw [show (((Nat.gcd n (perN L):Nat):Int)==0)=false from beq_f (by omega),show ((n:Int)==0)=false from beq_f (by omega),tdiv_nn (by omega),tdiv_nn (by omega),hM,←Int.natCast_ediv]
 generalize perN L/Nat.gcd n (perN L)=Q at *
 generalize 4294967296/n=R at *
 rw [w64_in (x:=(Q:Int)) (by omega) (by omega),w64_in (x:=(R:Int)) (by omega) (by omega)]
 simp only [Bool.not_false,cond_true,Bool.true_or]
 unfold capN
 by_cases hb:4294967296<Nat.lcm n (perN L)
 ·rw [if_pos hb,j001 (show (Q:Int)>(R:Int) by have:=hlt.2 hb;omega)]
  cases decide ((n:Int)>4294967296)<;>rfl
 ·rw [if_neg hb,j000 (show ¬ (Q:Int)>(R:Int) by
   intro h;exact hb (hlt.1 (by omega))),j000 (show ¬ (n:Int)>4294967296 by omega),←Int.natCast_mul,hlc,w64_in (x:=((Nat.lcm n (perN L):Nat):Int)) (by omega) (by omega)]
  rfl
def foldN (n:Nat):List LayerT→Nat
 | []=>n
 | L::r=>foldN (capN (Nat.lcm n (perN L))) r
theorem capN_b (x:Nat) (h:1≤x):1≤capN x∧capN x≤4294967297:=by
 unfold capN;split<;>omega
theorem j0mn {nz np nc:Nat}:∀ (l:List LayerT),(∀ L∈l,LCk nz np nc L)→foldN 4294967297 l=4294967297
 | [],_=>rfl
 | L::r,h=>by
  have:=le_lcm (n:=4294967297) (by omega) (perN_b (h L (by simp))).1
  simp only [foldN]
  rw [show capN (Nat.lcm 4294967297 (perN L))=4294967297 by unfold capN;rw [if_pos (by omega)]]
  exact j0mn r (fun L hL=>h L (by simp [hL]))
theorem j0nf {nz np nc:Nat} {L:LayerT} {r:List LayerT} (h:∀ L∈r,LCk nz np nc L) {n:Nat} (hf:foldN n (L::r)≤4294967296):Nat.lcm n (perN L)≤4294967296∧foldN n (L::r)=foldN (Nat.lcm n (perN L)) r:=by
 simp only [foldN] at hf ⊢
 by_cases hb:Nat.lcm n (perN L)>4294967296
 ·rw [show capN (Nat.lcm n (perN L))=4294967297 by unfold capN;rw [if_pos hb],j0mn r h] at hf
  omega
 ·rw [show capN (Nat.lcm n (perN L))=Nat.lcm n (perN L) by unfold capN;rw [if_neg hb]]
  exact ⟨by omega,rfl⟩
theorem j0mo {nz np nc:Nat}:∀ (l:List LayerT) (n:Nat),(∀ L∈l,LCk nz np nc L)→foldN n l≤4294967296→n∣foldN n l∧∀ L∈l,perN L∣foldN n l
 | [],n,_,_=>⟨Nat.dvd_refl _,by simp⟩
 | L::r,n,h,hf=>by
  have hr:∀ L∈r,LCk nz np nc L:=fun L hL=>h L (by simp [hL])
  obtain ⟨h1,h2⟩:=j0nf hr hf
  rw [h2] at hf ⊢
  obtain ⟨h3,h4⟩:=j0mo r _ hr hf
  refine ⟨Nat.dvd_trans (Nat.dvd_lcm_left _ _) h3,fun M hM=> ?_⟩
  rcases List.mem_cons.1 hM with rfl | hM
  ·exact Nat.dvd_trans (Nat.dvd_lcm_right _ _) h3
  ·exact h4 M hM
theorem fold_b {nz np nc:Nat}:∀ (l:List LayerT) (n:Nat),(∀ L∈l,LCk nz np nc L)→1≤n→n≤4294967297→1≤foldN n l∧foldN n l≤4294967297
 | [],n,_,h0,h1=>⟨h0,h1⟩
 | L::r,n,h,h0,h1=>by
  have:=capN_b _ (show 1≤Nat.lcm n (perN L) from Nat.lcm_pos h0 (perN_b (h L (by simp))).1)
  exact fold_b r _ (fun L hL=>h L (by simp [hL])) this.1 this.2
theorem fold_lp {nz np nc:Nat} {ls:List LayerT} (h:∀ L∈ls,LCk nz np nc L) (hl:ls.length≤100):∀ (n i s:Nat),i+n=ls.length→1≤s→s≤4294967297→
  j00F (s:Int) ls (ls.length:Int) (i:Int)=some ((foldN s (ls.drop i):Nat):Int)
 | 0,i,s,hi,_,_=>by
  rw [j03X]
  simp only [j00l]
  rw [j000 (by omega),cond_false,lpK_inr,List.drop_of_length_le (by omega)]
  rfl
 | n+1,i,s,hi,s0,s1=>by
  have hi':i<ls.length:=by omega
  have hL:=h _ (List.getElem_mem hi')
  have hb:=capN_b _ (show 1≤Nat.lcm s (perN ls[i]) from Nat.lcm_pos s0 (perN_b hL).1)
  have hgd:ls.getD i (ByteArray.empty,((0:Int),(((0:Int),(0:Int)),((0:Int),((0:Int),(([]:List Int),(([]:List (Int×Int)),((0:Int),(0:Int)))))))))=ls[i]:=by simp [List.getD,hi']
  have ih:=fold_lp h hl n (i+1) _ (by omega) hb.1 hb.2
  rw [j03X]
  simp only [j00l]
  rw [j001 (by omega),inR_t (by omega) (by omega)]
  simp only [cond_true,Int.toNat_natCast,hgd]
  rw [show j02y (s:Int) (ls[i].1,(ls[i].2.1,((ls[i].2.2.1.1,ls[i].2.2.1.2),(ls[i].2.2.2.1,(ls[i].2.2.2.2.1,(ls[i].2.2.2.2.2.1,(ls[i].2.2.2.2.2.2.1,(ls[i].2.2.2.2.2.2.2.1,ls[i].2.2.2.2.2.2.2.2))))))))=_ from c1_ok hL s0 s1]
  simp only [Option.bind_some]
  rw [w64_in (x:=(i:Int)+1) (by omega) (by omega),lpK_inl,List.drop_eq_getElem_cons hi']
  exact ih
def pN (s:SchedT):Nat:=foldN 604800 s.2.1
theorem j0jY {c:CfgT} (hc:CfgOk c) {i:Nat} (hi:i<c.2.2.2.length):j034 c (i:Int)=some (if pN c.2.2.2[i]>4294967296 then (0,5) else ((pN c.2.2.2[i]:Int),0)):=by
 have hsc:=hc.sc _ (List.getElem_mem hi)
 have hll:=hsc.ll
 have hgd:c.2.2.2.getD i (ByteArray.empty,(([]:List LayerT),([]:List EditT)))=c.2.2.2[i]:=by simp [List.getD,hi]
 have lp:=fold_lp hsc.ly (by omega) c.2.2.2[i].2.1.length 0 604800 (by omega) (by omega) (by omega)
 rw [List.drop_zero] at lp
 simp only [j034,show j02x (c.1,(c.2.1,(c.2.2.1,c.2.2.2)))=_ from j0gb hc,Option.bind_some,bne_self_eq_false,cond_false,j06f,show Int.ofNat c.2.2.2.length=(c.2.2.2.length:Int) from rfl]
 rw [j001 (show (i:Int)≥0 by omega),j001 (show (i:Int)<(c.2.2.2.length:Int) by omega),inR_t (by omega) (by omega)]
 simp only [cond_true,Bool.not_true,cond_false,Int.toNat_natCast,hgd,j01o,show Int.ofNat c.2.2.2[i].2.1.length=(c.2.2.2[i].2.1.length:Int) from rfl]
 rw [show j00F 604800 c.2.2.2[i].2.1 (c.2.2.2[i].2.1.length:Int) 0=some ((pN c.2.2.2[i]:Nat):Int) from lp]
 simp only [Option.bind_some]
 by_cases hb:pN c.2.2.2[i]>4294967296
 ·rw [if_pos hb,j001 (by omega)];rfl
 ·rw [if_neg hb,j000 (by omega)];rfl
end Go.Proofs.Pw
open Go Go.Lft
namespace Go.Proofs.Pw
end Go.Proofs.Pw
open Go Go.Lft
namespace Go.Proofs.Pw
end Go.Proofs.Pw
open Go Go.Lft
namespace Go.Proofs.Pw
end Go.Proofs.Pw
open Go Go.Lft
namespace Go.Proofs.Pw
theorem day_ge {d:Int} (h:j00B d=some true):0≤d:=by
 apply Classical.byContradiction
 intro hd
 simp only [j00B,j033,j0dr,j0dq,Option.bind_some] at h
 rw [j001 (show d<0 by omega)] at h
 simp at h
section
variable {zs:List ZoneT} {ps:List PersonT} {cs:List CalT} (hs:SOk2 zs ps cs)
include hs
omit hs in
def zAt (zs:List ZoneT) (i:Int):ZoneT:=zs.getD i.toNat (ByteArray.empty,((0:Int),([]:List Rule)))
omit hs in
def cAt (cs:List CalT) (i:Int):CalT:=cs.getD i.toNat (ByteArray.empty,((0:Int),([]:List Int)))
omit hs in
def locD (z:ZoneT) (t:Int):Int×Int:=(j00m (tb z) t).getD (0,0)
omit hs in
def secD (d:Int×Int):Int:=(j02z d).getD 0
omit hs in
def shK (z:ZoneT) (L:LayerT) (t:Int):Int:=(j01Y (tb z) L t).getD (-1)
omit hs in
def calB (zs:List ZoneT) (cs:List CalT) (L:LayerT) (t:Int):Bool:=
 cond (L.2.2.2.2.2.2.2.2==0) true (decide ((locD (zAt zs (cAt cs L.2.2.2.2.2.2.2.1).2.1) t).1∈(cAt cs L.2.2.2.2.2.2.2.1).2.2)==(L.2.2.2.2.2.2.2.2==(2:Int)))
omit hs in
def onX (zs:List ZoneT) (cs:List CalT) (L:LayerT) (t:Int):Bool:=
 cond (decide (0≤shK (zAt zs L.2.1) L t)) (cond (okW L.2.2.2.2.2.2.1 (secD (locD (zAt zs L.2.1) t))) (calB zs cs L t) false) false
omit hs in
def perX (zs:List ZoneT) (cs:List CalT) (L:LayerT) (t:Int):Int:=cond (onX zs cs L t) (whoL L (shK (zAt zs L.2.1) L t)) (-1)
omit hs in
theorem locD_ok {z:ZoneT} (hz:ZOk z) {t:Int} (h0:0≤t) (h1:t≤8589934592):j00m (tb z) t=some (locD z t)∧j02z (locD z t)=some (secD (locD z t)):=by
 obtain ⟨d,s,hd,hsc⟩:=sec_ok hz h0 h1
 have:locD z t=d:=by simp [locD,hd]
 rw [this]
 exact ⟨hd,by simp [secD,hsc]⟩
omit hs in
theorem shK_ok {z:ZoneT} (hz:ZOk z) {L:LayerT} (hR:Rt L) {t:Int} (h0:0≤t) (h1:t≤8589934592):j01Y (tb z) L t=some (shK z L t)∧ShO z.2.1 (tb z).2 L t (shK z L t):=by
 obtain ⟨K,e,hK⟩:=recSh hz.ztab.2 hR h0 h1
 have:shK z L t=K:=by simp only [shK,show j01Y (tb z) L t=_ from e,Option.getD_some]
 rw [this]
 exact ⟨e,hK⟩
theorem on_ok {L:LayerT} (hL:LCk zs.length ps.length cs.length L) {ss:List SchedT} {t:Int} (h0:0≤t) (h1:t≤8589934592) :
  (∃ r,j037 ((zs,(ps,(cs,ss))),zs.map tb) L t=some (r,onX zs cs L t))∧j01f ((zs,(ps,(cs,ss))),zs.map tb) L t=some (perX zs cs L t)∧(onX zs cs L t=true→0≤shK (zAt zs L.2.1) L t):=by
 have hRt:=hL.rt2
 have hz:=zget hs.so.ok hL.z0 hL.z1
 obtain ⟨hd,hsc⟩:=locD_ok hz h0 h1
 obtain ⟨eK,hK⟩:=shK_ok hz hRt h0 h1
 have hon:onX zs cs L t=true→0≤shK (zAt zs L.2.1) L t:=fun h=>by
  by_cases hk:0≤shK (zAt zs L.2.1) L t
  ·exact hk
  ·unfold onX at h;rw [j000 hk] at h;simp at h
 obtain ⟨r,er,hr⟩:=OnV_ok (ps:=ps) (ss:=ss) hs.so.ok hL hRt h0 h1 rfl hd hsc eK (calB zs cs L t) (fun h=>by unfold calB;rw [beq_t h];rfl) (fun h=>⟨_,rfl,cget hs (hL.cal h).1 (hL.cal h).2,_,(locD_ok (zget hs.so.ok (cget hs (hL.cal h).1 (hL.cal h).2).z0 (cget hs (hL.cal h).1 (hL.cal h).2).z1) h0 h1).1,by
  unfold calB;rw [beq_f h];rfl⟩)
 exact ⟨⟨r,er⟩,j0o3 hL.m0 er hr hon,hon⟩
end
end Go.Proofs.Pw
open Go Go.Lft
namespace Go.Proofs.Pw
abbrev SgT:=Int×(Int×Int)
abbrev SgL:=List SgT
def lstP:Option Int→SgL→Option Int
 | q,[]=>q
 | _,s::r=>lstP (some s.2.2) r
end Go.Proofs.Pw
open Go Go.Lft
namespace Go.Proofs.Pw
end Go.Proofs.Pw
open Go Go.Lft
namespace Go.Proofs.Pw
end Go.Proofs.Pw
open Go Go.Lft
namespace Go.Proofs.Pw
def pfX (zs:List ZoneT) (cs:List CalT) (ls:List LayerT) (t:Int) (i:Nat):Int:=perX zs cs (ls.getD i (ByteArray.empty,((0:Int),(((0:Int),(0:Int)),((0:Int),((0:Int),(([]:List Int),(([]:List (Int×Int)),((0:Int),(0:Int)))))))))) t
end Go.Proofs.Pw
