/- Chapter 11: who is on duty in a layer. -/
import Derived.Test.YthpdddnkpjnllaaGreatBPE
import Derived.Test.YthpdddnkpjnllaaGreatBPF
import Derived.Test.YthpdddnkpjnllaaGreatBPB
import Derived.KernelRfl
import Derived.Test.YthpdddnkpjnllaaGreatBPA
import Derived.Test.YthpdddnkpjnllaaGreatBFns
import Derived.Test.YthpdddnkpjnllaaGreatBPC
import Derived.Test.YthpdddnkpjnllaaGreatBLD
noncomputable section
open Go Go.Lft
namespace Go.Proofs.Pw
def tb (z:ZoneT):Int×TrL:=(z.2.1,outT z.2.1 (isort (occs z.2.2)))
theorem ZOk.ztab {z:ZoneT} (h:ZOk z):ZTab z (tb z).2:=MZ.tab (o:=z.2.1) (rs:=z.2.2) h z.1
theorem ZOk.zdif {z:ZoneT} (h:ZOk z):Dif z.2.1 (tb z).2:=dif_out _ _ _ (MZ.good h)
theorem ZOk.zref {z:ZoneT} (h:ZOk z):ZTab z (tb z).2∧Z4 z (tb z).2∧Dif z.2.1 (tb z).2:=⟨h.ztab,MZ.r4 (o:=z.2.1) (rs:=z.2.2) h z.1,h.zdif⟩
theorem tabs_lp {zs:List ZoneT} (h:∀ z∈zs,ZOk z) (hl:zs.length≤100):∀ (n i:Nat),i+n=zs.length→j03X zs (zs.length:Int) (i:Int) ((zs.take i).map tb)=some (zs.map tb)
 | 0,i,hi=>by
  rw [j0b5]
  simp only [j01A]
  rw [j000 (by omega),cond_false,lpK_inr,List.take_of_length_le (by omega)]
 | n+1,i,hi=>by
  have hlt:i<zs.length:=by omega
  have hgd:zs.getD i (ByteArray.empty,((0:Int),([]:List Rule)))=zs[i]:=by simp [hlt]
  have ht:=Of_ok (h zs[i] (List.getElem_mem hlt)).ztab
  have ih:=tabs_lp h hl n (i+1) (by omega)
  rw [List.take_add_one,List.getElem?_eq_getElem hlt,List.map_append] at ih
  rw [j0b5]
  simp only [j01A]
  rw [j001 (by omega),inR_t (by omega) (by omega),w64_in (x:=(i:Int)+1) (by omega) (by omega)]
  simp only [cond_true,Int.toNat_natCast,hgd]
  rw [show zone_Of (zs[i].1,(zs[i].2.1,zs[i].2.2))=_ from ht]
  simp only [Option.bind_some]
  rw [j001 (by simp [sizeMax];omega),cond_true,lpK_inl]
  exact ih
theorem view_ok {zs:List ZoneT} (h:∀ z∈zs,ZOk z) (hl:zs.length≤100) {ps:List PersonT} {cs:List CalT} {ss:List SchedT}:j0as (zs,(ps,(cs,ss)))=some ((zs,(ps,(cs,ss))),zs.map tb):=by
 have lp:=tabs_lp h hl zs.length 0 (by omega)
 simp only [j0as,j086,show Int.ofNat zs.length=(zs.length:Int) from rfl]
 rw [show j03X zs (zs.length:Int) 0 []=_ from lp]
 rfl
theorem tb_get {zs:List ZoneT} {i:Int} (h0:0≤i) (h1:i<(zs.length:Int)):List.getD (zs.map tb) i.toNat ((0:Int),([]:TrL))=tb (zs.getD i.toNat (ByteArray.empty,((0:Int),([]:List Rule)))):=by
 have hlt:i.toNat<zs.length:=by omega
 simp [List.getD_eq_getElem?_getD,hlt]
theorem zget {zs:List ZoneT} (h:∀ z∈zs,ZOk z) {i:Int} (h0:0≤i) (h1:i<(zs.length:Int)):ZOk (zs.getD i.toNat (ByteArray.empty,((0:Int),([]:List Rule)))):=by
 have hlt:i.toNat<zs.length:=by omega
 rw [List.getD_eq_getElem?_getD,List.getElem?_eq_getElem hlt]
 exact h _ (List.getElem_mem hlt)
theorem j0p4 (a b:Int):j0av a b=some (decide (a<b)):=by
 simp only [j0av,j09e,Option.bind_some,bne_self_eq_false,cond_false]
theorem bs_lp {ds:List Int} (hs:ds.Pairwise (· < ·)) (hl:ds.length≤64) {x:Int}:∀ (n a b:Nat),b-a≤n→a≤b→b≤ds.length→(∀ i,(hi:i<ds.length)→i<a→ds[i]<x)→(∀ i,(hi:i<ds.length)→b≤i→x≤ds[i])→
  ∃ k:Nat,j00F ds x (ds.length:Int) (a:Int) (b:Int)=some (ds,x,(ds.length:Int),(k:Int))∧k≤ds.length∧(∀ i,(hi:i<ds.length)→i<k→ds[i]<x)∧∀ i,(hi:i<ds.length)→k≤i→x≤ds[i]
 | n,a,b,hn,hab,hb,h1,h2=>by
  rw [j06w]
  simp only [j015]
  by_cases hlt:a<b
  ·have hm:IntKind.wrap .u64 ((a:Int)+(b:Int))=(a:Int)+(b:Int):=IntWalk.u64_in _ ⟨by omega,by omega⟩
   have hd:Int.fdiv ((a:Int)+(b:Int)) 2=(((a+b)/2:Nat):Int):=by
    rw [Int.fdiv_eq_ediv_of_nonneg _ (by omega)];omega
   have hml:(a+b)/2<ds.length:=by omega
   have hgd:ds.getD ((a+b)/2) (0:Int)=ds[(a+b)/2]:=by simp [hml]
   rw [j001 (show (a:Int)<(b:Int) by omega),w64_in (x:=(a:Int)+(b:Int)) (by omega) (by omega),hm,hd,w64_in (x:=(((a+b)/2:Nat):Int)) (by omega) (by omega),inR_t (by omega) (by omega),w64_in (x:=(((a+b)/2:Nat):Int)+1) (by omega) (by omega)]
   simp only [cond_true,Int.toNat_natCast,hgd,j0p4,Option.bind_some]
   cases n with
   | zero=>omega
   | succ n=>
    by_cases hc:ds[(a+b)/2]<x
    ·rw [j001 hc,cond_true,lpK_inl]
     refine bs_lp hs hl n ((a+b)/2+1) b (by omega) (by omega) hb (fun i hi hia=> ?_) h2
     by_cases he:i=(a+b)/2
     ·subst he;exact hc
     ·exact Int.lt_trans (List.pairwise_iff_getElem.1 hs i ((a+b)/2) hi hml (by omega)) hc
    ·rw [j000 hc,cond_false,lpK_inl]
     refine bs_lp hs hl n a ((a+b)/2) (by omega) (by omega) (by omega) h1 (fun i hi hia=> ?_)
     by_cases he:i=(a+b)/2
     ·subst he;exact Int.not_lt.1 hc
     ·exact Int.le_trans (Int.not_lt.1 hc) (Int.le_of_lt (List.pairwise_iff_getElem.1 hs ((a+b)/2) i hml hi (by omega)))
  ·have:a=b:=by omega
   subst this
   rw [j000 (by omega),cond_false,lpK_inr]
   exact ⟨a,rfl,hb,h1,h2⟩
theorem bs_ok {ds:List Int} (hs:ds.Pairwise (· < ·)) (hl:ds.length≤64) (x:Int):∃ i,j00r ds x=some (i,decide (x∈ds)):=by
 obtain ⟨k,e,hk,h1,h2⟩:=bs_lp hs hl (x:=x) ds.length 0 ds.length (by omega) (by omega) (Nat.le_refl _) (fun i _ h=>by omega) (fun i hi h=>by omega)
 rw [show ((0:Nat):Int)=0 from rfl] at e
 simp only [j00r,show Int.ofNat ds.length=(ds.length:Int) from rfl,e,Option.bind_some,Int.toNat_natCast]
 by_cases hkl:k<ds.length
 ·have hgd:ds.getD k (0:Int)=ds[k]:=by simp [hkl]
  rw [inR_t (by omega) (by omega),j001 (show (k:Int)<(ds.length:Int) by omega),hgd]
  simp only [Bool.true_or,cond_true]
  by_cases hx:ds[k]=x
  ·rw [beq_t hx]
   rw [j001 (show x∈ds from hx▸List.getElem_mem hkl)]
   exact ⟨_,rfl⟩
  ·rw [beq_f hx]
   have hn:¬ x∈ds:=by
    intro hm
    obtain ⟨i,hi,rfl⟩:=List.getElem_of_mem hm
    rcases Nat.lt_trichotomy i k with h | h | h
    ·have:=h1 i hi h;omega
    ·subst h;exact hx rfl
    ·have a1:=h2 k hkl (Nat.le_refl _)
     have a2:=List.pairwise_iff_getElem.1 hs k i hkl hi h
     omega
   rw [j000 hn]
   simp only [cond_false,j06g,Option.bind_some,bne_self_eq_false]
   exact ⟨_,rfl⟩
 ·have hn:¬ x∈ds:=by
   intro hm
   obtain ⟨i,hi,rfl⟩:=List.getElem_of_mem hm
   have:=h1 i hi (by omega)
   omega
  rw [j000 hn,j000 (show ¬ (k:Int)<(ds.length:Int) by omega)]
  simp only [Bool.not_false,Bool.or_true,cond_true,cond_false,Bool.false_and]
  exact ⟨_,rfl⟩
def okW (w:WL) (s:Int):Bool:=cond (decide ((w.length:Int)>0)) (hasB s w) true
section
variable {zs:List ZoneT} {ps:List PersonT} {cs:List CalT} {ss:List SchedT} (hz:∀ z∈zs,ZOk z)
include hz
theorem OnV_ok {L:LayerT} (hL:LCk zs.length ps.length cs.length L) (hRt:Rt L) {t:Int} (h0:0≤t) (h1:t≤8589934592) {z:ZoneT} (hzz:zs.getD L.2.1.toNat (ByteArray.empty,((0:Int),([]:List Rule)))=z)
  {s:Int} {d:Int×Int} (hd:j00o (tb z) t=some d) (hs:j038 d=some s) {K:Int} (hK:j01N (tb z) L t=some K) (b:Bool)
  (hcal:L.2.2.2.2.2.2.2.2=0→b=true) (hcal2:L.2.2.2.2.2.2.2.2≠0→∃ x:CalT,cs.getD L.2.2.2.2.2.2.2.1.toNat (ByteArray.empty,((0:Int),([]:List Int)))=x∧CCk zs.length x∧∃ d',j00o (tb (zs.getD x.2.1.toNat (ByteArray.empty,((0:Int),([]:List Rule))))) t=some d'∧b=(decide (d'.1∈x.2.2)==(L.2.2.2.2.2.2.2.2==(2:Int)))) :
  ∃ r,j03i ((zs,(ps,(cs,ss))),zs.map tb) L t=some (r,cond (decide (0≤K)) (cond (okW L.2.2.2.2.2.2.1 s) b false) false)∧(cond (decide (0≤K)) (cond (okW L.2.2.2.2.2.2.1 s) b false) false=true→r=K):=by
 have _:=hz;have _:=hRt
 have hwl:=hL.wl
 have hlen:(zs.map tb).length=zs.length:=List.length_map ..
 have hg:=tb_get (zs:=zs) hL.z0 hL.z1
 rw [hzz] at hg
 simp only [j03i]
 rw [j000 (show ¬ t<0 by omega),j000 (show ¬ t>8589934592 by omega),inR_t hL.z0 (by rw [hlen];exact hL.z1)]
 simp only [cond_false,cond_true,hg]
 rw [show j01N ((tb z).1,(tb z).2) (L.1,L.2.1,(L.2.2.1.1,L.2.2.1.2),L.2.2.2.1,L.2.2.2.2.1,L.2.2.2.2.2.1,L.2.2.2.2.2.2.1,L.2.2.2.2.2.2.2.1,L.2.2.2.2.2.2.2.2) t=_ from hK]
 simp only [Option.bind_some]
 by_cases hk:0≤K
 ·rw [j000 (show ¬ K<0 by omega),j001 hk]
  simp only [cond_false,cond_true,show Int.ofNat L.2.2.2.2.2.2.1.length=(L.2.2.2.2.2.2.1.length:Int) from rfl]
  have tail:∃ r,(cond (L.2.2.2.2.2.2.2.2==(0:Int)) (some (K,true)) (cond (inR L.2.2.2.2.2.2.2.1 cs.length) (cond (inR (cs.getD L.2.2.2.2.2.2.2.1.toNat (ByteArray.empty,((0:Int),([]:List Int)))).2.1 (zs.map tb).length) ((j00o ((List.getD (zs.map tb) (cs.getD L.2.2.2.2.2.2.2.1.toNat (ByteArray.empty,((0:Int),([]:List Int)))).2.1.toNat ((0:Int),([]:TrL))).1,(List.getD (zs.map tb) (cs.getD L.2.2.2.2.2.2.2.1.toNat (ByteArray.empty,((0:Int),([]:List Int)))).2.1.toNat ((0:Int),([]:TrL))).2) t).bind fun r68=>
    (j00r (cs.getD L.2.2.2.2.2.2.2.1.toNat (ByteArray.empty,((0:Int),([]:List Int)))).2.2 r68.1).bind fun r70=>some (K,(r70.2==(L.2.2.2.2.2.2.2.2==(2:Int))))) none) none))=some (r,b)∧(b=true→r=K):=by
   by_cases hm:L.2.2.2.2.2.2.2.2=0
   ·rw [beq_t hm,cond_true,hcal hm]
    exact ⟨K,rfl,fun _=>rfl⟩
   ·obtain ⟨x,hx,hxc,d',hd',hb⟩:=hcal2 hm
    have hc:=hL.cal hm
    obtain ⟨i,hi⟩:=bs_ok hxc.asc hxc.len d'.1
    have hg2:=tb_get (zs:=zs) hxc.z0 hxc.z1
    rw [beq_f hm,cond_false,inR_t hc.1 hc.2,hx,inR_t hxc.z0 (by rw [hlen];exact hxc.z1)]
    simp only [cond_true,hg2]
    rw [show j00o ((tb (zs.getD x.2.1.toNat (ByteArray.empty,((0:Int),([]:List Rule))))).1,(tb (zs.getD x.2.1.toNat (ByteArray.empty,((0:Int),([]:List Rule))))).2) t=_ from hd']
    simp only [Option.bind_some,hi]
    rw [←hb]
    exact ⟨K,rfl,fun _=>rfl⟩
  by_cases hw:(L.2.2.2.2.2.2.1.length:Int)>0
  ·rw [j001 hw,cond_true,show j00o ((tb z).1,(tb z).2) t=_ from hd]
   simp only [Option.bind_some,show j038 (d.1,d.2)=_ from hs,Has_ok hwl,okW]
   rw [j001 hw,cond_true]
   cases hh:hasB s L.2.2.2.2.2.2.1 with
   | true=>
    simp only [Bool.not_true,cond_false,cond_true]
    exact tail
   | false=>exact ⟨0,rfl,fun h=>by simp at h⟩
  ·simp only [okW]
   rw [j000 hw]
   simp only [cond_false,cond_true]
   exact tail
 ·rw [j001 (show K<0 by omega),j000 hk]
  exact ⟨0,rfl,fun h=>by simp at h⟩
def whoL (L:LayerT) (K:Int):Int:=L.2.2.2.2.2.1.getD (Int.tmod K (L.2.2.2.2.2.1.length:Int)).toNat 0
omit hz in
theorem j0p5 {v:CfgT×List (Int×TrL)} {L:LayerT} {t r K:Int} {b:Bool} (hm:L.2.2.2.2.2.1.length≠0) (e:j03i v L t=some (r,b)) (hr:b=true→r=K) (hK:b=true→0≤K) :
  j013 v L t=some (cond b (whoL L K) (-1)):=by
 simp only [j013,show j03i ((v.1.1,v.1.2.1,v.1.2.2.1,v.1.2.2.2),v.2) (L.1,L.2.1,(L.2.2.1.1,L.2.2.1.2),L.2.2.2.1,L.2.2.2.2.1,L.2.2.2.2.2.1,L.2.2.2.2.2.2.1,L.2.2.2.2.2.2.2.1,L.2.2.2.2.2.2.2.2) t=_ from e,Option.bind_some]
 cases b with
 | false=>rfl
 | true=>
  have:=hr rfl
  subst this
  have hk:=hK rfl
  have q1:0≤Int.tmod r (L.2.2.2.2.2.1.length:Int):=Int.tmod_nonneg _ hk
  have q2:Int.tmod r (L.2.2.2.2.2.1.length:Int)<(L.2.2.2.2.2.1.length:Int):=Int.tmod_lt_of_pos _ (by omega)
  simp only [Bool.not_true,cond_false,cond_true,show Int.ofNat L.2.2.2.2.2.1.length=(L.2.2.2.2.2.1.length:Int) from rfl,whoL]
  rw [beq_f (show ¬ (L.2.2.2.2.2.1.length:Int)=0 by omega),inR_t q1 q2]
  rfl
end
theorem LCk.rt {nz np nc:Nat} {L:LayerT} (h:LCk nz np nc L) (hd:L.2.2.1.1≤100000):Rt L:=
 ⟨h.d0,hd,h.c0,h.c1,h.u0,h.u1,h.e0,h.e1,fun hn=>h.m0 (by rw [hn];rfl)⟩
theorem sec_ok {z:ZoneT} (hz:ZOk z) {t:Int} (h0:0≤t) (h1:t≤8589934592):∃ d s,j00o (tb z) t=some d∧j038 d=some s:=by
 have ht:=hz.ztab
 obtain ⟨j,hj,j1,j2⟩:=j0if ht.2 h0 h1
 have o0:=ht.2.of0 j hj;have o1:=ht.2.of1 j hj
 obtain ⟨s,hs⟩:∃ s,j038 ((t+tof z.2.1 (tb z).2 j)/86400,(t+tof z.2.1 (tb z).2 j)%86400)=some s:=by
  simp only [j038,j0jr,Option.bind_some]
  exact ⟨_,rfl⟩
 exact ⟨_,s,j0kD ht.2 hj j1 j2,hs⟩
end Go.Proofs.Pw
open Go Go.Lft
namespace Go.Proofs.Pw
theorem sane12:j08r=some true:=j0jv 60 true (by kernel_rfl)
end Go.Proofs.Pw
open Go Go.Lft
namespace Go.Proofs.Pw
theorem j0ir:j04g 2241=some 98981:=by kernel_rfl
theorem j0is:j04g 1970=some 0:=by kernel_rfl
theorem day_le {d:Int} (h:j00V d=some true):d≤100000:=by
 apply Classical.byContradiction
 intro hd
 simp only [j00V,j04C,j0is,j0ir,Option.bind_some] at h
 rw [j000 (show ¬ d<0 by omega),j001 (show d≥98981 by omega)] at h
 simp at h
theorem LCk.rt2 {nz np nc:Nat} {L:LayerT} (h:LCk nz np nc L):Rt L:=h.rt (day_le h.day)
section
variable {zs:List ZoneT} {ps:List PersonT} {cs:List CalT} (hs:SOk2 zs ps cs)
include hs
theorem cget {i:Int} (h0:0≤i) (h1:i<(cs.length:Int)):CCk zs.length (cs.getD i.toNat (ByteArray.empty,((0:Int),([]:List Int)))):=by
 have hi:i.toNat<cs.length:=by omega
 rw [show cs.getD i.toNat (ByteArray.empty,((0:Int),([]:List Int)))=cs[i.toNat] by simp [List.getD,hi]]
 exact hs.c.ck _ (List.getElem_mem hi)
end
def awayB (es:List EditT) (p t:Int):Bool:=es.any fun x=>x.1==0&&(x.2.1==p&&(decide (x.2.2.2.1≤t)&&decide (t<x.2.2.2.2)))
theorem aw_lp {es:List EditT} {p t:Int} (hl:es.length≤1000):∀ (n i:Nat),i+n=es.length→∃ r,j00j es p t (es.length:Int) (i:Int)=some r∧
  match r with
  | .inl k=>0≤k∧awayB (es.drop i) p t=true
  | .inr _=>awayB (es.drop i) p t=false
 | 0,i,hi=>by
  rw [j02j]
  simp only [j00s]
  rw [j000 (by omega),cond_false,lpK_inr,List.drop_of_length_le (by omega)]
  exact ⟨_,rfl,rfl⟩
 | n+1,i,hi=>by
  have hlt:i<es.length:=by omega
  have hgd:es.getD i ((0:Int),((0:Int),((0:Int),((0:Int),(0:Int)))))=es[i]:=by simp [List.getD,hlt]
  rw [j02j]
  simp only [j00s,j0by]
  rw [j001 (by omega),inR_t (by omega) (by omega),w64_in (x:=(i:Int)+1) (by omega) (by omega)]
  simp only [cond_true,Int.toNat_natCast,hgd,Option.bind_some]
  rw [List.drop_eq_getElem_cons hlt]
  have e:(cond (cond (cond (es[i].1==(0:Int)) (es[i].2.1==p) false) (decide (es[i].2.2.2.1≤t)) false) (decide (t<es[i].2.2.2.2)) false)=(es[i].1==0&&(es[i].2.1==p&&(decide (es[i].2.2.2.1≤t)&&decide (t<es[i].2.2.2.2)))):=by
   cases es[i].1==(0:Int)<;>cases es[i].2.1==p<;>cases decide (es[i].2.2.2.1≤t)<;>rfl
  rw [e]
  have ha:awayB (es[i]::es.drop (i+1)) p t=((es[i].1==0&&(es[i].2.1==p&&(decide (es[i].2.2.2.1≤t)&&decide (t<es[i].2.2.2.2))))||awayB (es.drop (i+1)) p t):=rfl
  rw [ha]
  cases hx:(es[i].1==0&&(es[i].2.1==p&&(decide (es[i].2.2.2.1≤t)&&decide (t<es[i].2.2.2.2)))) with
  | true=>
   rw [cond_true,lpK_inr]
   exact ⟨_,rfl,by omega,rfl⟩
  | false=>
   rw [cond_false,lpK_inl]
   obtain ⟨r,e1,e2⟩:=aw_lp (es:=es) (p:=p) (t:=t) hl n (i+1) (by omega)
   exact ⟨r,e1,by simpa using e2⟩
theorem Away_ok {nm:ByteArray} {ls:List LayerT} {es:List EditT} {p t:Int} (hl:es.length≤1000):j05m (nm,(ls,es)) p t=some (awayB es p t):=by
 obtain ⟨r,e1,e2⟩:=aw_lp (p:=p) (t:=t) hl es.length 0 (by omega)
 simp only [j05m,j00q,j00w,show Int.ofNat es.length=(es.length:Int) from rfl]
 rw [show j00j es p t (es.length:Int) 0=_ from e1]
 cases r with
 | inl k=>
  simp only [List.drop_zero] at e2
  simp only [Option.bind_some,j0mZ,e2.2]
  rw [j001 (show k≥0 from e2.1)]
 | inr u=>
  simp only [List.drop_zero] at e2
  simp only [Option.bind_some,j05K,e2]
  rfl
def topI (good:Nat→Bool):Nat→Option Nat
 | 0=>none
 | n+1=>cond (good n) (some n) (topI good n)
def goodL (es:List EditT) (t:Int) (Pf:Nat→Int) (i:Nat):Bool:=decide (0≤Pf i) && !awayB es (Pf i) t
theorem lof_lp {ls:List LayerT} {zs:List ZoneT} {ps:List PersonT} {cs:List CalT} {ss:List SchedT} {tbs:List (Int×TrL)} {nm:ByteArray} {es:List EditT} {t b6 b7:Int} {Pf:Nat→Int} (hl:es.length≤1000)
  (hP:∀ i (h:i<ls.length),j013 ((zs,(ps,(cs,ss))),tbs) ls[i] t=some (Pf i)):∀ n:Nat,n≤ls.length→
  j02S (n:Int) ls zs ps cs ss tbs nm ls es t b6 b7=some (match topI (goodL es t Pf) n with | some i=> .inr ((i:Int),Pf i) | none=> .inl (b6,b7))
 | 0,hn=>by
  rw [j09f]
  simp only [j01c]
  rw [j001 (by omega),cond_true,lpK_inr]
  rfl
 | n+1,hn=>by
  have hlt:n<ls.length:=by omega
  have hgd:ls.getD n (ByteArray.empty,((0:Int),(((0:Int),(0:Int)),((0:Int),((0:Int),(([]:List Int),(([]:List (Int×Int)),((0:Int),(0:Int)))))))))=ls[n]:=by simp [List.getD,hlt]
  have ih:=lof_lp (nm:=nm) (b6:=b6) (b7:=b7) hl hP n (by omega)
  have hp:=hP n hlt
  rw [j09f]
  simp only [j01c]
  rw [j000 (by omega),j001 (show ((n+1:Nat):Int)≤Int.ofNat ls.length by simp;omega),show ((n+1:Nat):Int)-1=(n:Int) by omega]
  simp only [cond_true,cond_false,Int.toNat_natCast,hgd]
  rw [show j013 ((zs,(ps,(cs,ss))),tbs) (ls[n].1,(ls[n].2.1,((ls[n].2.2.1.1,ls[n].2.2.1.2),(ls[n].2.2.2.1,(ls[n].2.2.2.2.1,(ls[n].2.2.2.2.2.1,(ls[n].2.2.2.2.2.2.1,(ls[n].2.2.2.2.2.2.2.1,ls[n].2.2.2.2.2.2.2.2)))))))) t=_ from hp]
  simp only [Option.bind_some,topI,goodL]
  by_cases h0:0≤Pf n
  ·rw [j000 (show ¬ Pf n<0 by omega),j001 h0]
   simp only [cond_false,Away_ok hl,Option.bind_some,Bool.true_and]
   cases awayB es (Pf n) t with
   | true=>
    simp only [Bool.not_true,cond_false,lpK_inl]
    exact ih
   | false=>rfl
  ·rw [j001 (show Pf n<0 by omega),j000 h0]
   simp only [cond_true,Bool.false_and,cond_false,lpK_inl]
   exact ih
theorem j0nx {ls:List LayerT} {zs:List ZoneT} {ps:List PersonT} {cs:List CalT} {ss:List SchedT} {tbs:List (Int×TrL)} {nm:ByteArray} {es:List EditT} {t:Int} {Pf:Nat→Int} (hl:es.length≤1000)
  (hP:∀ i (h:i<ls.length),j013 ((zs,(ps,(cs,ss))),tbs) ls[i] t=some (Pf i)) :
  j02I ((zs,(ps,(cs,ss))),tbs) (nm,(ls,es)) t=some (match topI (goodL es t Pf) ls.length with | some i=>((i:Int),Pf i) | none=>((-1:Int),(-1:Int))):=by
 have lp:=lof_lp (nm:=nm) (b6:=0) (b7:=0) hl hP ls.length (Nat.le_refl _)
 simp only [j02I,j014,Option.bind_some]
 rw [show j02S (Int.ofNat ls.length) ls zs ps cs ss tbs nm ls es t 0 0=_ from lp]
 cases topI (goodL es t Pf) ls.length with
 | none=>rfl
 | some i=>rfl
section
variable {zs:List ZoneT} {ps:List PersonT} {cs:List CalT} {ss:List SchedT}
theorem Of_cfg (hz:∀ z∈zs,ZOk z) (hc:CfgOk (zs,(ps,(cs,ss)))):duty_Of (zs,(ps,(cs,ss)))=some (((zs,(ps,(cs,ss))),zs.map tb),true):=by
 have hzl:zs.length≤16:=hc.zl
 simp only [duty_Of,show j03U (zs,(ps,(cs,ss)))=_ from j0m6 hc,Option.bind_some,bne_self_eq_false,cond_false,view_ok (ps:=ps) (cs:=cs) (ss:=ss) hz (show zs.length≤100 by omega)]
theorem j0p6 (hz:∀ z∈zs,ZOk z) (hc:CfgOk (zs,(ps,(cs,ss)))) {i:Nat} (hi:i<ss.length):j07a (zs,(ps,(cs,ss))) (i:Int)=some (((zs,(ps,(cs,ss))),zs.map tb),ss[i],true):=by
 have hgd:ss.getD i (ByteArray.empty,(([]:List LayerT),([]:List EditT)))=ss[i]:=by simp [List.getD,hi]
 simp only [j07a,Of_cfg hz hc,Option.bind_some,Bool.not_true,cond_false,j0cr,show Int.ofNat ss.length=(ss.length:Int) from rfl]
 rw [j001 (show (i:Int)≥0 by omega),j001 (show (i:Int)<(ss.length:Int) by omega),inR_t (by omega) (by omega)]
 simp only [cond_true,Bool.not_true,cond_false,Int.toNat_natCast,hgd]
def topP (es:List EditT) (t:Int) (Pf:Nat→Int) (n:Nat):Int:=match topI (goodL es t Pf) n with
 | some i=>Pf i
 | none=> -1
def topN (es:List EditT) (t:Int) (Pf:Nat→Int) (n:Nat):Int:=match topI (goodL es t Pf) n with
 | some i=>i
 | none=> -1
theorem Who_cfg (hz:∀ z∈zs,ZOk z) (hc:CfgOk (zs,(ps,(cs,ss)))) {i:Nat} (hi:i<ss.length) {t:Int} {Pf:Nat→Int}
  (hP:∀ k (h:k<ss[i].2.1.length),j013 ((zs,(ps,(cs,ss))),zs.map tb) ss[i].2.1[k] t=some (Pf k)) :
  j06h (zs,(ps,(cs,ss))) (i:Int) t=some (topP ss[i].2.2 t Pf ss[i].2.1.length)∧j04Y (zs,(ps,(cs,ss))) (i:Int) t=some (topN ss[i].2.2 t Pf ss[i].2.1.length):=by
 have hel:=(hc.sc ss[i] (List.getElem_mem hi)).el
 have ho:=j0p6 hz hc hi
 have hL:=j0nx (nm:=ss[i].1) (es:=ss[i].2.2) (by omega) hP
 constructor
 ·simp only [j06h,ho,Option.bind_some,Bool.not_true,cond_false]
  rw [show j02I ((zs,(ps,(cs,ss))),zs.map tb) (ss[i].1,(ss[i].2.1,ss[i].2.2)) t=_ from hL]
  simp only [Option.bind_some,topP]
  cases topI (goodL ss[i].2.2 t Pf) ss[i].2.1.length<;>rfl
 ·simp only [j04Y,ho,Option.bind_some,Bool.not_true,cond_false]
  rw [show j02I ((zs,(ps,(cs,ss))),zs.map tb) (ss[i].1,(ss[i].2.1,ss[i].2.2)) t=_ from hL]
  simp only [Option.bind_some,topN]
  cases topI (goodL ss[i].2.2 t Pf) ss[i].2.1.length<;>rfl
end
end Go.Proofs.Pw
open Go Go.Lft
namespace Go.Proofs.Pw
def nms3:List ByteArray:=[(ByteArray.mk #[102,105,114,115,116]),(ByteArray.mk #[115,101,99,111,110,100]),(ByteArray.mk #[116,104,105,114,100])]
theorem nms3_ok:NmL nms3:=by
 refine ⟨by decide,fun k hk=> ?_⟩
 simp only [nms3,List.mem_cons,List.not_mem_nil,or_false] at hk
 rcases hk with rfl | rfl | rfl<;>exact j065 60 _ true (by kernel_rfl)
structure SG (nz np nc:Nat) (s:SchedT):Prop where
 ck:SCk nz np nc s
 nm:s.2.1.map (·.1)=nmsL.take s.2.1.length
 ll:s.2.1.length≤3
 el:s.2.2.length≤3
theorem CfN_l0 {L:List Int} {zs:List ZoneT} {ps:List PersonT} {cs:List CalT} (hs:SOk zs ps cs):∀ (n:Nat) (a:Int) (ss:List SchedT),DOk L a→ss.length+n≤3→ss.map (·.1)=nms3.take ss.length→(∀ s∈ss,SG zs.length ps.length cs.length s)→
  ∃ ss' a',j04v (n:Int) L a zs ps cs ss=some (L,a',zs,ps,cs,ss')∧ss'.length=ss.length+n∧ss'.map (·.1)=nms3.take ss'.length∧(∀ s∈ss',SG zs.length ps.length cs.length s)∧DOk L a'
 | 0,a,ss,hd,hl,hn,hg=>by
  rw [j07d]
  simp only [j022]
  rw [j000 (by omega),cond_false,lpK_inr]
  exact ⟨ss,a,rfl,rfl,hn,hg,hd⟩
 | n+1,a,ss,hd,hl,hn,hg=>by
  have hlt:ss.length<nms3.length:=by show ss.length<3;omega
  have hmod:Int.tmod (Int.ofNat ss.length) 3=(ss.length:Int):=by
   have:Int.tmod (ss.length:Int) 3=(ss.length:Int):=Int.tmod_eq_of_lt (by omega) (by omega)
   exact this
  obtain ⟨k,a3,e3,k0,k1,d3⟩:=Next_ok (n:=4) hd (by omega) (by omega)
  obtain ⟨ls,a4,e4,l4,lk,ln,d4⟩:=Cf_l2 (s6:=((n+1:Nat):Int)) (nm:=List.getD nms3 ss.length ByteArray.empty) (ss:=ss) hs k.toNat a3 [] d3 (by simp;omega) (by simp) rfl
  obtain ⟨m,a5,e5,m0,m1,d5⟩:=Next_ok (n:=4) d4 (by omega) (by omega)
  obtain ⟨es,a6,e6,l6,ek,d6⟩:=Cf_l4 (s6:=((n+1:Nat):Int)) (nm:=List.getD nms3 ss.length ByteArray.empty) (zs:=zs) (cs:=cs) (ss:=ss) (ls:=ls) hs m.toNat a5 [] d5 (by simp;omega) (by simp)
  rw [show ((k.toNat:Nat):Int)=k by omega] at e4
  rw [show ((m.toNat:Nat):Int)=m by omega] at e6
  have hnew:SG zs.length ps.length cs.length (List.getD nms3 ss.length ByteArray.empty,(ls,es)):=
   ⟨⟨by dsimp only;rw [ln];exact nmsL_ok.take _,lk,by dsimp only;omega,ek,by dsimp only;omega⟩,ln,l4,l6⟩
  obtain ⟨ss',a',e',h1,h2,h3,h4⟩:=CfN_l0 hs n a6 (ss++[(List.getD nms3 ss.length ByteArray.empty,(ls,es))]) d6 (by simp;omega) (by
   rw [List.map_append,hn,List.length_append]
   exact take_nm hlt) (fun s h=>by
   rcases List.mem_append.1 h with h | h
   ·exact hg s h
   ·simp at h;subst h;exact hnew)
  rw [j07d]
  simp only [j022]
  rw [j001 (show ((n+1:Nat):Int)>0 by omega),hmod,inR_t (by omega) (by show (ss.length:Int)<(3:Nat);omega)]
  simp only [cond_true,Int.toNat_natCast,e3,Option.bind_some]
  rw [show j03a ((n+1:Nat):Int) k L a3 zs ps cs (List.getD [(ByteArray.mk #[102,105,114,115,116]),(ByteArray.mk #[115,101,99,111,110,100]),(ByteArray.mk #[116,104,105,114,100])] ss.length ByteArray.empty) ss []=_ from e4]
  simp only [Option.bind_some,e5,e6]
  rw [j001 (by simp [sizeMax];omega),w64_in (by omega) (by omega),show ((n+1:Nat):Int)-1=(n:Int) by omega]
  simp only [cond_true,lpK_inl]
  exact ⟨ss',a',e',by rw [h1];simp;omega,h2,h3,h4⟩
theorem j0ny {L:List Int} {a n:Int} (h:DOk L a) (n0:1≤n) (n1:n≤3):∃ zs ps cs ss a',j06i L a n=some ((zs,(ps,(cs,ss))),L,a')∧SOk2 zs ps cs∧1≤ss.length∧(ss.length:Int)≤n∧ss.map (·.1)=nms3.take ss.length∧(∀ s∈ss,SG zs.length ps.length cs.length s)∧DOk L a':=by
 obtain ⟨zs,ps,cs,a1,e1,hs,d1⟩:=j0og h
 obtain ⟨x,a2,e2,x0,x1,d2⟩:=Next_ok (n:=n) d1 (by omega) (by omega)
 obtain ⟨ss,a3,e3,h1,h2,h3,d3⟩:=CfN_l0 hs.so (1+x).toNat a2 [] d2 (by simp;omega) (by simp) (by simp)
 rw [show (((1+x).toNat:Nat):Int)=1+x by omega] at e3
 simp at h1
 simp only [j06i,e1,e2,Option.bind_some]
 rw [w64_in (x:=1+x) (by omega) (by omega)]
 simp only [e3,Option.bind_some]
 exact ⟨zs,ps,cs,ss,a3,rfl,hs,by omega,by omega,h2,h3,d3⟩
theorem cfgN_of {zs:List ZoneT} {ps:List PersonT} {cs:List CalT} {ss:List SchedT} (hs:SOk2 zs ps cs) (h0:ss.length≤12) (h1:NmL (ss.map (·.1))) (h2:∀ s∈ss,SCk zs.length ps.length cs.length s):CfgOk (zs,(ps,(cs,ss))):=cfg_of hs h0 h1 h2
end Go.Proofs.Pw
open Go Go.Lft
namespace Go.Proofs.Pw
abbrev SL:=List (Int×Int)
def Sml (l:SL):Prop:=∀ s∈l, -1000000000000≤s.1∧s.1≤1000000000000 ∧ -1000000000000≤s.2∧s.2≤1000000000000
end Go.Proofs.Pw
open Go Go.Lft
namespace Go.Proofs.Pw
end Go.Proofs.Pw
open Go Go.Lft
namespace Go.Proofs.Pw
end Go.Proofs.Pw
open Go Go.Lft
namespace Go.Proofs.Pw
section
variable {zs:List ZoneT} {ps:List PersonT} {cs:List CalT} (hs:SOk2 zs ps cs)
include hs
omit hs in
def zAt (zs:List ZoneT) (i:Int):ZoneT:=zs.getD i.toNat (ByteArray.empty,((0:Int),([]:List Rule)))
omit hs in
def cAt (cs:List CalT) (i:Int):CalT:=cs.getD i.toNat (ByteArray.empty,((0:Int),([]:List Int)))
omit hs in
def locD (z:ZoneT) (t:Int):Int×Int:=(j00o (tb z) t).getD (0,0)
omit hs in
def secD (d:Int×Int):Int:=(j038 d).getD 0
omit hs in
def shK (z:ZoneT) (L:LayerT) (t:Int):Int:=(j01N (tb z) L t).getD (-1)
omit hs in
def calB (zs:List ZoneT) (cs:List CalT) (L:LayerT) (t:Int):Bool:=
 cond (L.2.2.2.2.2.2.2.2==0) true (decide ((locD (zAt zs (cAt cs L.2.2.2.2.2.2.2.1).2.1) t).1∈(cAt cs L.2.2.2.2.2.2.2.1).2.2)==(L.2.2.2.2.2.2.2.2==(2:Int)))
omit hs in
def onX (zs:List ZoneT) (cs:List CalT) (L:LayerT) (t:Int):Bool:=
 cond (decide (0≤shK (zAt zs L.2.1) L t)) (cond (okW L.2.2.2.2.2.2.1 (secD (locD (zAt zs L.2.1) t))) (calB zs cs L t) false) false
omit hs in
def perX (zs:List ZoneT) (cs:List CalT) (L:LayerT) (t:Int):Int:=cond (onX zs cs L t) (whoL L (shK (zAt zs L.2.1) L t)) (-1)
omit hs in
theorem locD_ok {z:ZoneT} (hz:ZOk z) {t:Int} (h0:0≤t) (h1:t≤8589934592):j00o (tb z) t=some (locD z t)∧j038 (locD z t)=some (secD (locD z t)):=by
 obtain ⟨d,s,hd,hsc⟩:=sec_ok hz h0 h1
 have:locD z t=d:=by simp [locD,hd]
 rw [this]
 exact ⟨hd,by simp [secD,hsc]⟩
omit hs in
theorem shK_ok {z:ZoneT} (hz:ZOk z) {L:LayerT} (hR:Rt L) {t:Int} (h0:0≤t) (h1:t≤8589934592):j01N (tb z) L t=some (shK z L t)∧ShO z.2.1 (tb z).2 L t (shK z L t):=by
 obtain ⟨K,e,hK⟩:=recSh hz.ztab.2 hR h0 h1
 have:shK z L t=K:=by simp only [shK,show j01N (tb z) L t=_ from e,Option.getD_some]
 rw [this]
 exact ⟨e,hK⟩
theorem on_ok {L:LayerT} (hL:LCk zs.length ps.length cs.length L) {ss:List SchedT} {t:Int} (h0:0≤t) (h1:t≤8589934592) :
  (∃ r,j03i ((zs,(ps,(cs,ss))),zs.map tb) L t=some (r,onX zs cs L t))∧j013 ((zs,(ps,(cs,ss))),zs.map tb) L t=some (perX zs cs L t)∧(onX zs cs L t=true→0≤shK (zAt zs L.2.1) L t):=by
 have hRt:=hL.rt2
 have hz:=zget hs.so.ok hL.z0 hL.z1
 obtain ⟨hd,hsc⟩:=locD_ok hz h0 h1
 obtain ⟨eK,hK⟩:=shK_ok hz hRt h0 h1
 have hon:onX zs cs L t=true→0≤shK (zAt zs L.2.1) L t:=fun h=>by
  by_cases hk:0≤shK (zAt zs L.2.1) L t
  ·exact hk
  ·unfold onX at h;rw [j000 hk] at h;simp at h
 obtain ⟨r,er,hr⟩:=OnV_ok (ps:=ps) (ss:=ss) hs.so.ok hL hRt h0 h1 rfl hd hsc eK (calB zs cs L t) (fun h=>by unfold calB;rw [beq_t h];rfl) (fun h=>⟨_,rfl,cget hs (hL.cal h).1 (hL.cal h).2,_,(locD_ok (zget hs.so.ok (cget hs (hL.cal h).1 (hL.cal h).2).z0 (cget hs (hL.cal h).1 (hL.cal h).2).z1) h0 h1).1,by
  unfold calB;rw [beq_f h];rfl⟩)
 exact ⟨⟨r,er⟩,j0p5 hL.m0 er hr hon,hon⟩
end
end Go.Proofs.Pw
open Go Go.Lft
namespace Go.Proofs.Pw
abbrev SgT:=Int×(Int×Int)
abbrev SgL:=List SgT
def lstP:Option Int→SgL→Option Int
 | q,[]=>q
 | _,s::r=>lstP (some s.2.2) r
end Go.Proofs.Pw
open Go Go.Lft
namespace Go.Proofs.Pw
end Go.Proofs.Pw
open Go Go.Lft
namespace Go.Proofs.Pw
end Go.Proofs.Pw
open Go Go.Lft
namespace Go.Proofs.Pw
def pfX (zs:List ZoneT) (cs:List CalT) (ls:List LayerT) (t:Int) (i:Nat):Int:=perX zs cs (ls.getD i (ByteArray.empty,((0:Int),(((0:Int),(0:Int)),((0:Int),((0:Int),(([]:List Int),(([]:List (Int×Int)),((0:Int),(0:Int)))))))))) t
end Go.Proofs.Pw
open Go Go.Lft
namespace Go.Proofs.Pw
section
variable {zs:List ZoneT} {ps:List PersonT} {cs:List CalT} (hs:SOk2 zs ps cs)
include hs
theorem WhoX_ok {ss:List SchedT} (hc:CfgOk (zs,(ps,(cs,ss)))) {i:Nat} (hi:i<ss.length) {t:Int} (h0:0≤t) (h1:t≤8589934592) :
  j06h (zs,(ps,(cs,ss))) (i:Int) t=some (topP ss[i].2.2 t (pfX zs cs ss[i].2.1 t) ss[i].2.1.length)∧j04Y (zs,(ps,(cs,ss))) (i:Int) t=some (topN ss[i].2.2 t (pfX zs cs ss[i].2.1 t) ss[i].2.1.length):=
 Who_cfg hs.so.ok hc hi (fun k hk=>by
  have hL:=(hc.sc _ (List.getElem_mem hi)).ly _ (List.getElem_mem hk)
  have e:pfX zs cs ss[i].2.1 t k=perX zs cs ss[i].2.1[k] t:=by simp [pfX,List.getD,hk]
  rw [e]
  exact (on_ok hs hL (ss:=ss) h0 h1).2.1)
end
end Go.Proofs.Pw
