/- Chapter 11: who is on duty in a layer. -/
import Derived.Test.YtaieocafhcjelaaGreatBPE
import Derived.Test.YtaieocafhcjelaaGreatBPA
import Derived.Test.YtaieocafhcjelaaGreatBFns
open Go Go.Lft
namespace Go.Proofs.Pw
def tb (z:j2z):Int×TrL:=(z.2.1,outT z.2.1 (j7X (occs z.2.2)))
theorem ZOk.ztab {z:j2z} (h:ZOk z):ZTab z (tb z).2:=MZ.tab (o:=z.2.1) (rs:=z.2.2) h z.1
theorem jso {zs:List j2z} (h:∀ z∈zs,ZOk z) (hl:zs.length≤100):∀ (n i:Nat),i+n=zs.length→j4W zs (zs.length:Int) (i:Int) ((zs.take i).map tb)=some (zs.map tb)
 | 0,i,hi=>by
  rw [jcp]
  simp only [j2f]
  rw [j01 (by omega),j6,j0b,List.take_of_length_le (by omega)]
 | n+1,i,hi=>by
  have hlt:i<zs.length:=by omega
  have hgd:zs.getD i (ByteArray.empty,((0:Int),([]:List Rule)))=zs[i]:=by simp [hlt]
  have ht:=jxd (h zs[i] (jh hlt)).ztab
  have ih:=jso h hl n (i+1) (by omega)
  rw [ko,ji hlt,zm] at ih
  rw [jcp]
  simp only [j2f]
  rw [j00 (by omega),j1c (by omega) (by omega),j02 (x:=(i:Int)+1) (by omega) (by omega)]
  simp only [j5,j7,hgd]
  rw [show je4 (zs[i].1,(zs[i].2.1,zs[i].2.2))=_ from ht]
  simp only [j3]
  rw [j00 (by simp [j06];omega),j5,j07]
  exact ih
theorem jvp {zs:List j2z} (h:∀ z∈zs,ZOk z) (hl:zs.length≤100) {ps:List j1F} {cs:List CalT} {ss:List j2d}:jaG (zs,(ps,(cs,ss)))=some ((zs,(ps,(cs,ss))),zs.map tb):=by
 have lp:=jso h hl zs.length 0 (by omega)
 simp only [jaG,j8V,show Int.ofNat zs.length=(zs.length:Int) from rfl]
 rw [show j4W zs (zs.length:Int) 0 []=_ from lp]
 rfl
theorem jnV {zs:List j2z} {i:Int} (h0:0≤i) (h1:i<(zs.length:Int)):List.getD (zs.map tb) i.toNat ((0:Int),([]:TrL))=tb (zs.getD i.toNat (ByteArray.empty,((0:Int),([]:List Rule)))):=by
 have hlt:i.toNat<zs.length:=by omega
 simp [List.getD_eq_getElem?_getD,hlt]
theorem zget {zs:List j2z} (h:∀ z∈zs,ZOk z) {i:Int} (h0:0≤i) (h1:i<(zs.length:Int)):ZOk (zs.getD i.toNat (ByteArray.empty,((0:Int),([]:List Rule)))):=by
 have hlt:i.toNat<zs.length:=by omega
 rw [List.getD_eq_getElem?_getD,ji hlt]
 exact h _ (jh hlt)
theorem jtR (a b:Int):jbJ a b=some (decide (a<b)):=by
 simp only [jbJ,jaj,j3,jm,j6]
theorem jtS {ds:List Int} (hs:ds.Pairwise (· < ·)) (hl:ds.length≤64) {x:Int}:∀ (n a b:Nat),b-a≤n→a≤b→b≤ds.length→(∀ i,(hi:i<ds.length)→i<a→ds[i]<x)→(∀ i,(hi:i<ds.length)→b≤i→x≤ds[i])→
  ∃ k:Nat,j18 ds x (ds.length:Int) (a:Int) (b:Int)=some (ds,x,(ds.length:Int),(k:Int))∧k≤ds.length∧(∀ i,(hi:i<ds.length)→i<k→ds[i]<x)∧∀ i,(hi:i<ds.length)→k≤i→x≤ds[i]
 | n,a,b,hn,hab,hb,h1,h2=>by
  rw [j89]
  simp only [j1T]
  by_cases hlt:a<b
  ·have hm:IntKind.wrap .u64 ((a:Int)+(b:Int))=(a:Int)+(b:Int):=IntWalk.u64_in _ ⟨by omega,by omega⟩
   have hd:Int.fdiv ((a:Int)+(b:Int)) 2=(((a+b)/2:Nat):Int):=by
    rw [Int.fdiv_eq_ediv_of_nonneg _ (by omega)];omega
   have hml:(a+b)/2<ds.length:=by omega
   have hgd:ds.getD ((a+b)/2) (0:Int)=ds[(a+b)/2]:=by simp [hml]
   rw [j00 (show (a:Int)<(b:Int) by omega),j02 (x:=(a:Int)+(b:Int)) (by omega) (by omega),hm,hd,j02 (x:=(((a+b)/2:Nat):Int)) (by omega) (by omega),j1c (by omega) (by omega),j02 (x:=(((a+b)/2:Nat):Int)+1) (by omega) (by omega)]
   simp only [j5,j7,hgd,jtR,j3]
   cases n with
   | zero=>omega
   | succ n=>
    by_cases hc:ds[(a+b)/2]<x
    ·rw [j00 hc,j5,j07]
     refine jtS hs hl n ((a+b)/2+1) b (by omega) (by omega) hb (fun i hi hia=> ?_) h2
     by_cases he:i=(a+b)/2
     ·subst he;exact hc
     ·exact Int.lt_trans (kv.1 hs i ((a+b)/2) hi hml (by omega)) hc
    ·rw [j01 hc,j6,j07]
     refine jtS hs hl n a ((a+b)/2) (by omega) (by omega) (by omega) h1 (fun i hi hia=> ?_)
     by_cases he:i=(a+b)/2
     ·subst he;exact Int.not_lt.1 hc
     ·exact qn (Int.not_lt.1 hc) (Int.le_of_lt (kv.1 hs ((a+b)/2) i hml hi (by omega)))
  ·have:a=b:=by omega
   subst this
   rw [j01 (by omega),j6,j0b]
   exact ⟨a,rfl,hb,h1,h2⟩
theorem jxp {ds:List Int} (hs:ds.Pairwise (· < ·)) (hl:ds.length≤64) (x:Int):∃ i,j0h ds x=some (i,decide (x∈ds)):=by
 obtain ⟨k,e,hk,h1,h2⟩:=jtS hs hl (x:=x) ds.length 0 ds.length (by omega) (by omega) (jn _) (fun i _ h=>by omega) (fun i hi h=>by omega)
 rw [show ((0:Nat):Int)=0 from rfl] at e
 simp only [j0h,show Int.ofNat ds.length=(ds.length:Int) from rfl,e,j3,j7]
 by_cases hkl:k<ds.length
 ·have hgd:ds.getD k (0:Int)=ds[k]:=by simp [hkl]
  rw [j1c (by omega) (by omega),j00 (show (k:Int)<(ds.length:Int) by omega),hgd]
  simp only [Bool.true_or,j5]
  by_cases hx:ds[k]=x
  ·rw [j7g hx]
   rw [j00 (show x∈ds from hx▸jh hkl)]
   exact ⟨_,rfl⟩
  ·rw [j3V hx]
   have hn:¬ x∈ds:=by
    intro hm
    obtain ⟨i,hi,rfl⟩:=qr hm
    rcases vd i k with h | h | h
    ·have:=h1 i hi h;omega
    ·subst h;exact hx rfl
    ·have a1:=h2 k hkl (jn _)
     have a2:=kv.1 hs k i hkl hi h
     omega
   rw [j01 hn]
   simp only [j6,j5U,j3,jm]
   exact ⟨_,rfl⟩
 ·have hn:¬ x∈ds:=by
   intro hm
   obtain ⟨i,hi,rfl⟩:=qr hm
   have:=h1 i hi (by omega)
   omega
  rw [j01 hn,j01 (show ¬ (k:Int)<(ds.length:Int) by omega)]
  simp only [kb,Bool.or_true,j5,j6,Bool.false_and]
  exact ⟨_,rfl⟩
def okW (w:WL) (s:Int):Bool:=cond (decide ((w.length:Int)>0)) (hasB s w) true
section
variable {zs:List j2z} {ps:List j1F} {cs:List CalT} {ss:List j2d} (hz:∀ z∈zs,ZOk z)
include hz
theorem jwy {L:j0Q} (hL:LCk zs.length ps.length cs.length L) (hRt:Rt L) {t:Int} (h0:0≤t) (h1:t≤8589934592) {z:j2z} (hzz:zs.getD L.2.1.toNat (ByteArray.empty,((0:Int),([]:List Rule)))=z)
  {s:Int} {d:Int×Int} (hd:j0u (tb z) t=some d) (hs:j3w d=some s) {K:Int} (hK:j1S (tb z) L t=some K) (b:Bool)
  (hcal:L.2.2.2.2.2.2.2.2=0→b=true) (hcal2:L.2.2.2.2.2.2.2.2≠0→∃ x:CalT,cs.getD L.2.2.2.2.2.2.2.1.toNat (ByteArray.empty,((0:Int),([]:List Int)))=x∧CCk zs.length x∧∃ d',j0u (tb (zs.getD x.2.1.toNat (ByteArray.empty,((0:Int),([]:List Rule))))) t=some d'∧b=(decide (d'.1∈x.2.2)==(L.2.2.2.2.2.2.2.2==(2:Int)))) :
  ∃ r,j4d ((zs,(ps,(cs,ss))),zs.map tb) L t=some (r,cond (decide (0≤K)) (cond (okW L.2.2.2.2.2.2.1 s) b false) false)∧(cond (decide (0≤K)) (cond (okW L.2.2.2.2.2.2.1 s) b false) false=true→r=K):=by
 have _:=hz;have _:=hRt
 have hwl:=hL.wl
 have hlen:(zs.map tb).length=zs.length:=kp ..
 have hg:=jnV (zs:=zs) hL.z0 hL.z1
 rw [hzz] at hg
 simp only [j4d]
 rw [j01 (show ¬ t<0 by omega),j01 (show ¬ t>8589934592 by omega),j1c hL.z0 (by rw [hlen];exact hL.z1)]
 simp only [j6,j5,hg]
 rw [show j1S ((tb z).1,(tb z).2) (L.1,L.2.1,(L.2.2.1.1,L.2.2.1.2),L.2.2.2.1,L.2.2.2.2.1,L.2.2.2.2.2.1,L.2.2.2.2.2.2.1,L.2.2.2.2.2.2.2.1,L.2.2.2.2.2.2.2.2) t=_ from hK]
 simp only [j3]
 by_cases hk:0≤K
 ·rw [j01 (show ¬ K<0 by omega),j00 hk]
  simp only [j6,j5,show Int.ofNat L.2.2.2.2.2.2.1.length=(L.2.2.2.2.2.2.1.length:Int) from rfl]
  have tail:∃ r,(cond (L.2.2.2.2.2.2.2.2==(0:Int)) (some (K,true)) (cond (inR L.2.2.2.2.2.2.2.1 cs.length) (cond (inR (cs.getD L.2.2.2.2.2.2.2.1.toNat (ByteArray.empty,((0:Int),([]:List Int)))).2.1 (zs.map tb).length) ((j0u ((List.getD (zs.map tb) (cs.getD L.2.2.2.2.2.2.2.1.toNat (ByteArray.empty,((0:Int),([]:List Int)))).2.1.toNat ((0:Int),([]:TrL))).1,(List.getD (zs.map tb) (cs.getD L.2.2.2.2.2.2.2.1.toNat (ByteArray.empty,((0:Int),([]:List Int)))).2.1.toNat ((0:Int),([]:TrL))).2) t).bind fun r68=>
    (j0h (cs.getD L.2.2.2.2.2.2.2.1.toNat (ByteArray.empty,((0:Int),([]:List Int)))).2.2 r68.1).bind fun r70=>some (K,(r70.2==(L.2.2.2.2.2.2.2.2==(2:Int))))) none) none))=some (r,b)∧(b=true→r=K):=by
   by_cases hm:L.2.2.2.2.2.2.2.2=0
   ·rw [j7g hm,j5,hcal hm]
    exact ⟨K,rfl,fun _=>rfl⟩
   ·obtain ⟨x,hx,hxc,d',hd',hb⟩:=hcal2 hm
    have hc:=hL.cal hm
    obtain ⟨i,hi⟩:=jxp hxc.asc hxc.len d'.1
    have hg2:=jnV (zs:=zs) hxc.z0 hxc.z1
    rw [j3V hm,j6,j1c hc.1 hc.2,hx,j1c hxc.z0 (by rw [hlen];exact hxc.z1)]
    simp only [j5,hg2]
    rw [show j0u ((tb (zs.getD x.2.1.toNat (ByteArray.empty,((0:Int),([]:List Rule))))).1,(tb (zs.getD x.2.1.toNat (ByteArray.empty,((0:Int),([]:List Rule))))).2) t=_ from hd']
    simp only [j3,hi]
    rw [←hb]
    exact ⟨K,rfl,fun _=>rfl⟩
  by_cases hw:(L.2.2.2.2.2.2.1.length:Int)>0
  ·rw [j00 hw,j5,show j0u ((tb z).1,(tb z).2) t=_ from hd]
   simp only [j3,show j3w (d.1,d.2)=_ from hs,jwh hwl,okW]
   rw [j00 hw,j5]
   cases hh:hasB s L.2.2.2.2.2.2.1 with
   | true=>
    simp only [jt,j6,j5]
    exact tail
   | false=>exact ⟨0,rfl,fun h=>by simp at h⟩
  ·simp only [okW]
   rw [j01 hw]
   simp only [j6,j5]
   exact tail
 ·rw [j00 (show K<0 by omega),j01 hk]
  exact ⟨0,rfl,fun h=>by simp at h⟩
def whoL (L:j0Q) (K:Int):Int:=L.2.2.2.2.2.1.getD (Int.tmod K (L.2.2.2.2.2.1.length:Int)).toNat 0
omit hz in
theorem jtT {v:CfgT×List (Int×TrL)} {L:j0Q} {t r K:Int} {b:Bool} (hm:L.2.2.2.2.2.1.length≠0) (e:j4d v L t=some (r,b)) (hr:b=true→r=K) (hK:b=true→0≤K) :
  j1W v L t=some (cond b (whoL L K) (-1)):=by
 simp only [j1W,show j4d ((v.1.1,v.1.2.1,v.1.2.2.1,v.1.2.2.2),v.2) (L.1,L.2.1,(L.2.2.1.1,L.2.2.1.2),L.2.2.2.1,L.2.2.2.2.1,L.2.2.2.2.2.1,L.2.2.2.2.2.2.1,L.2.2.2.2.2.2.2.1,L.2.2.2.2.2.2.2.2) t=_ from e,j3]
 cases b with
 | false=>rfl
 | true=>
  have:=hr rfl
  subst this
  have hk:=hK rfl
  have q1:0≤Int.tmod r (L.2.2.2.2.2.1.length:Int):=Int.tmod_nonneg _ hk
  have q2:Int.tmod r (L.2.2.2.2.2.1.length:Int)<(L.2.2.2.2.2.1.length:Int):=v7 _ (by omega)
  simp only [jt,j6,j5,show Int.ofNat L.2.2.2.2.2.1.length=(L.2.2.2.2.2.1.length:Int) from rfl,whoL]
  rw [j3V (show ¬ (L.2.2.2.2.2.1.length:Int)=0 by omega),j1c q1 q2]
  rfl
end
theorem LCk.rt {nz np nc:Nat} {L:j0Q} (h:LCk nz np nc L) (hd:L.2.2.1.1≤100000):Rt L:=
 ⟨h.d0,hd,h.c0,h.c1,h.u0,h.u1,h.e0,h.e1,fun hn=>h.m0 (by rw [hn];rfl)⟩
theorem jwz {z:j2z} (hz:ZOk z) {t:Int} (h0:0≤t) (h1:t≤8589934592):∃ d s,j0u (tb z) t=some d∧j3w d=some s:=by
 have ht:=hz.ztab
 obtain ⟨j,hj,j1,j2⟩:=jgF ht.2 h0 h1
 have o0:=ht.2.of0 j hj;have o1:=ht.2.of1 j hj
 obtain ⟨s,hs⟩:∃ s,j3w ((t+tof z.2.1 (tb z).2 j)/86400,(t+tof z.2.1 (tb z).2 j)%86400)=some s:=by
  simp only [j3w,jl5,j3]
  exact ⟨_,rfl⟩
 exact ⟨_,s,jiz ht.2 hj j1 j2,hs⟩
abbrev SL:=List (Int×Int)
def inS (x:Int) (l:SL):Prop:=∃ s∈l,s.1≤x∧x<s.2
def StS (p:Int):SL→Prop
 | []=>True
 | x::r=>p<x.1∧x.1<x.2∧StS x.2 r
def Sml (l:SL):Prop:=∀ s∈l, -1000000000000≤s.1∧s.1≤1000000000000 ∧ -1000000000000≤s.2∧s.2≤1000000000000
theorem j4a {x:Int}:¬ inS x []:=by rintro ⟨s,hs,_⟩;simp at hs
theorem j1p {x:Int} {s:Int×Int} {l:SL}:inS x (s::l)↔(s.1≤x∧x<s.2)∨inS x l:=by
 constructor
 ·rintro ⟨u,hu,h⟩
  rcases jd.1 hu with rfl | hu
  ·exact Or.inl h
  ·exact Or.inr ⟨u,hu,h⟩
 ·rintro (h | ⟨u,hu,h⟩)
  ·exact ⟨s,by simp,h⟩
  ·exact ⟨u,by simp [hu],h⟩
theorem jmv {x:Int} {l r:SL}:inS x (l++r)↔inS x l∨inS x r:=by
 constructor
 ·rintro ⟨u,hu,h⟩
  rcases jq.1 hu with hu | hu
  ·exact Or.inl ⟨u,hu,h⟩
  ·exact Or.inr ⟨u,hu,h⟩
 ·rintro (⟨u,hu,h⟩ | ⟨u,hu,h⟩)
  ·exact ⟨u,by simp [hu],h⟩
  ·exact ⟨u,by simp [hu],h⟩
def nE (s:Int×Int):Bool:= !(decide (s.2≤s.1))
theorem juo {l:SL} (hl:l.length≤10000000):∀ (n i:Nat),i+n=l.length→(∀ s∈l.take i,nE s=true)→
  (∃ j:Nat,j0v (l.length:Int) (i:Int) l=some (.inl ((j:Int),l))∧j<l.length∧(∀ s∈l.take j,nE s=true)∧nE (l.getD j (0,0))=false)∨
  (j0v (l.length:Int) (i:Int) l=some (.inr l)∧∀ s∈l,nE s=true)
 | 0,i,hi,h=>by
  rw [j3t]
  simp only [j0L]
  rw [j01 (by omega),j6,j0b]
  rw [List.take_of_length_le (by omega)] at h
  exact Or.inr ⟨rfl,h⟩
 | n+1,i,hi,h=>by
  rw [j3t]
  simp only [j0L,j88]
  rw [j00 (show (i:Int)<(l.length:Int) by omega),j1c (by omega) (by omega),j02 (x:=(i:Int)+1) (by omega) (by omega)]
  simp only [j5,j7,j3]
  have hlt:i<l.length:=by omega
  cases hc:decide ((l.getD i ((0:Int),(0:Int))).2≤(l.getD i ((0:Int),(0:Int))).1) with
  | true=>
   simp only [j5,j0b]
   exact Or.inl ⟨i,rfl,hlt,h,by simp only [nE];rw [hc];rfl⟩
  | false=>
   simp only [j6,j07]
   refine juo hl n (i+1) (by omega) fun s hs=> ?_
   rw [ko] at hs
   rcases jq.1 hs with hs | hs
   ·exact h s hs
   ·have hgd:l.getD i ((0:Int),(0:Int))=l[i]:=by simp [hlt]
    rw [hgd] at hc
    rw [ji hlt] at hs
    simp at hs;subst hs
    simp only [nE];rw [hc];rfl
theorem jsp {l:SL} (hl:l.length≤10000000):∀ (n i j:Nat) (b:SL),j+n=l.length→i≤j→b.length=l.length→b.drop j=l.drop j→b.take i=(l.take j).filter nE→
  ∃ (k:Nat) (b':SL),j0D (i:Int) (j:Int) b=some ((k:Int),b')∧b'.length=l.length∧k≤l.length∧b'.take k=l.filter nE
 | 0,i,j,b,hj,hij,hb,hd,ht=>by
  rw [j3e]
  simp only [j0G,show Int.ofNat (List.length b)=(b.length:Int) from rfl]
  rw [j01 (by omega),j6,j0b]
  rw [List.take_of_length_le (l:=l) (by omega)] at ht
  exact ⟨i,b,rfl,hb,by omega,ht⟩
 | n+1,i,j,b,hj,hij,hb,hd,ht=>by
  have hlt:j<l.length:=by omega
  have hbj:b.getD j ((0:Int),(0:Int))=l[j]:=by
   have:b[j]? = l[j]? := by
    have h:=jk (fun x=>x[0]?) hd
    simpa [List.getElem?_drop] using h
   rw [List.getD_eq_getElem?_getD,this,ji hlt];rfl
  have hd':b.drop (j+1)=l.drop (j+1):=by
   have:=jk (List.drop 1) hd
   simpa [List.drop_drop] using this
  have htk:l.take (j+1)=l.take j++[l[j]]:=by rw [ko,ji hlt];rfl
  rw [j3e]
  simp only [j0G,j88,show Int.ofNat (List.length b)=(b.length:Int) from rfl]
  rw [j00 (show (j:Int)<(b.length:Int) by omega),j1c (by omega) (by omega),j1c (by omega) (by omega),j02 (x:=(j:Int)+1) (by omega) (by omega),j02 (x:=(i:Int)+1) (by omega) (by omega)]
  simp only [j5,j7,j3,hbj]
  cases hc:decide (l[j].2≤l[j].1) with
  | true=>
   simp only [jt,j6,j07]
   refine jsp hl n i (j+1) b (by omega) (by omega) hb hd' ?_
   rw [htk,zj,ht]
   simp [nE,hc]
  | false=>
   simp only [kb,j5,j07]
   refine jsp hl n (i+1) (j+1) _ (by omega) (by omega) (by simpa using hb) ?_ ?_
   ·rw [List.drop_set_of_lt (by omega)];exact hd'
   ·have hib:i<b.length:=by omega
    rw [ko,List.take_set_of_le (jn _),List.getElem?_set_self hib,ht,htk,zj]
    simp [nE,hc]
theorem jsq {l:SL} (hl:l.length≤10000000):∃ n m,j0y l=some (n,m)∧m.take n.toNat=l.filter nE:=by
 simp only [j0y,j0R,show Int.ofNat (List.length l)=(l.length:Int) from rfl]
 rcases juo hl l.length 0 (by omega) (by simp) with ⟨j,e,hj,h1,h2⟩ | ⟨e,h⟩
 ·rw [show ((0:Nat):Int)=0 from rfl] at e
  rw [e]
  simp only [j3,jiw]
  rw [j3V (by omega),j02 (x:=(j:Int)+1) (by omega) (by omega)]
  have hgd:l.getD j ((0:Int),(0:Int))=l[j]:=by simp [hj]
  rw [hgd] at h2
  obtain ⟨k,b,e2,hb,hk,ht⟩:=jsp hl (l.length-(j+1)) j (j+1) l (by omega) (by omega) rfl rfl (by
   rw [ko,ji hj,zj,List.filter_eq_self.2 h1]
   simp [h2])
  rw [show ((j:Int)+1)=((j+1:Nat):Int) from rfl,e2]
  simp only [j6,j3,show Int.ofNat (List.length b)=(b.length:Int) from rfl,j7]
  rw [j00 (show (0:Int)≤(k:Int) by omega),j00 (show (k:Int)≤(b.length:Int) by omega)]
  simp only [Bool.and_self,j5,Bool.true_and]
  rw [j00 (by simp;omega),j5]
  refine ⟨_,_,rfl,?_⟩
  simp only [show (Int.ofNat k).toNat=k from rfl]
  rw [List.take_append_of_le_length (by simp;omega),ve,Nat.min_self,ht]
 ·rw [show ((0:Nat):Int)=0 from rfl] at e
  rw [e]
  simp only [j3,j86,zf,j5]
  refine ⟨_,_,rfl,?_⟩
  simp only [show (Int.ofNat l.length).toNat=l.length from rfl]
  rw [List.take_of_length_le (jn _),List.filter_eq_self.2 h]
def mg1 (e:Int×Int):SL→SL
 | []=>[e]
 | s::r=>if s.1≤e.2 then mg1 (e.1,if s.2>e.2 then s.2 else e.2) r else e::mg1 s r
def mg:SL→SL
 | []=>[]
 | s::r=>mg1 s r
theorem jvq {L:SL} (hL:L.length≤10000000):∀ (n i:Nat) (A:SL) (e:Int×Int),i+n=L.length→A.length<i→
  j5F (L.length:Int) (i:Int) (A++[e]) L=some (A++mg1 e (L.drop i))
 | 0,i,A,e,hi,hA=>by
  rw [j9O]
  simp only [j3K]
  rw [j01 (by omega),j6,j0b,je (by omega)]
  rfl
 | n+1,i,A,e,hi,hA=>by
  have hlt:i<L.length:=by omega
  have hgd:L.getD i ((0:Int),(0:Int))=L[i]:=by simp [hlt]
  have hle:(A++[e]).length=A.length+1:=by simp
  have hge:(A++[e]).getD A.length ((0:Int),(0:Int))=e:=by simp
  rw [j9O,jb hlt]
  simp only [j3K,mg1,show Int.ofNat (List.length (A++[e]))=((A.length:Int)+1) from by rw [hle];rfl]
  rw [j00 (show (i:Int)<(L.length:Int) by omega),j1c (by omega) (by omega),j00 (show (A.length:Int)+1>0 by omega),j02 (x:=(A.length:Int)+1-1) (by omega) (by omega),j02 (x:=(i:Int)+1) (by omega) (by omega),
   j1c (by omega) (by rw [hle];omega),show ((A.length:Int)+1-1).toNat=A.length by omega]
  simp only [j5,j7,hgd,hge]
  by_cases hc:L[i].1≤e.2
  ·rw [j00 hc,if_pos hc]
   simp only [j5,j07]
   rw [show (A++[e]).set A.length (e.1,if L[i].2>e.2 then L[i].2 else e.2)=A++[(e.1,if L[i].2>e.2 then L[i].2 else e.2)] by
    rw [List.set_append_right _ _ (jn _)];simp]
   exact jvq hL n (i+1) A _ (by omega) (by omega)
  ·rw [j01 hc,if_neg hc,j00 (by rw [hle];simp [j06];omega)]
   simp only [j6,j5,j07]
   have:=jvq hL n (i+1) (A++[e]) L[i] (by omega) (by rw [hle];omega)
   rw [show A++e::mg1 L[i] (L.drop (i+1))=A++[e]++mg1 L[i] (L.drop (i+1)) by simp]
   exact this
theorem jxq {L:SL} (hL:L.length≤10000000):j5F (L.length:Int) 0 [] L=some (mg L):=by
 rw [j9O]
 simp only [j3K]
 cases L with
 | nil=>rw [j01 (by simp),j6,j0b];rfl
 | cons s r=>
  rw [j00 (show (0:Int)<((s::r).length:Int) by simp only [jo];omega),j1c (by omega) (by simp only [jo];omega)]
  simp only [j5,show Int.ofNat (List.length ([]:SL))=0 from rfl]
  rw [j01 (show ¬ ((0:Int)>0) by omega),j6,j00 (by simp [j06]),j02 (x:=(0:Int)+1) (by omega) (by omega)]
  simp only [j5,j07]
  have:=jvq hL r.length 1 [] s (by simp;omega) (by simp)
  simpa [mg] using this
def Srt:SL→Prop
 | []=>True
 | s::r=>(∀ u∈r,s.1≤u.1)∧Srt r
theorem jsr:∀ {r:SL} {e:Int×Int} {p:Int},p<e.1→e.1<e.2→(∀ s∈r,nE s=true)→Srt r→StS p (mg1 e r)
 | [],e,p,h1,h2,_,_=>⟨h1,h2,trivial⟩
 | s::r,e,p,h1,h2,h3,h4=>by
  simp only [mg1]
  have hs:s.1<s.2:=by have:=h3 s (by simp);simp [nE] at this;omega
  split
  ·exact jsr (by exact h1) (by dsimp only;split<;>omega) (fun u hu=>h3 u (by simp [hu])) h4.2
  ·exact ⟨h1,h2,jsr (by omega) hs (fun u hu=>h3 u (by simp [hu])) h4.2⟩
theorem jss {x:Int}:∀ {r:SL} {e:Int×Int},(∀ s∈r,e.1≤s.1)→(∀ s∈r,nE s=true)→Srt r→(inS x (mg1 e r)↔(e.1≤x∧x<e.2)∨inS x r)
 | [],e,_,_,_=>by simp [mg1,inS]
 | s::r,e,h1,h3,h4=>by
  have hs:s.1<s.2:=by have:=h3 s (by simp);simp [nE] at this;omega
  have he:e.1≤s.1:=h1 s (by simp)
  simp only [mg1]
  split
  ·rw [jss (e:=(e.1,if s.2>e.2 then s.2 else e.2)) (fun u hu=>h1 u (by simp [hu])) (fun u hu=>h3 u (by simp [hu])) h4.2,j1p]
   dsimp only
   constructor
   ·rintro (⟨a,b⟩ | h)
    ·split at b
     ·by_cases hx:x<e.2
      ·exact Or.inl ⟨a,hx⟩
      ·exact Or.inr (Or.inl ⟨by omega,b⟩)
     ·exact Or.inl ⟨a,b⟩
    ·exact Or.inr (Or.inr h)
   ·rintro (⟨a,b⟩ | ⟨a,b⟩ | h)
    ·exact Or.inl ⟨a,by split<;>omega⟩
    ·exact Or.inl ⟨by omega,by split<;>omega⟩
    ·exact Or.inr h
  ·rw [j1p,jss h4.1 (fun u hu=>h3 u (by simp [hu])) h4.2,j1p]
theorem jp0:∀ (r:SL) (e:Int×Int),(mg1 e r).length≤r.length+1
 | [],e=>by simp [mg1]
 | s::r,e=>by
  simp only [mg1]
  split
  ·have:=jp0 r (e.1,if s.2>e.2 then s.2 else e.2);simp only [jo];omega
  ·have:=jp0 r s;simp only [jo];omega
theorem jst {lo hi:Int}:∀ {r:SL} {e:Int×Int},(lo≤e.1∧e.2≤hi)→(∀ s∈r,lo≤s.1∧s.2≤hi)→∀ u∈mg1 e r,lo≤u.1∧u.2≤hi
 | [],e,h1,h2=>by simp only [mg1];intro u hu;simp at hu;subst hu;exact h1
 | s::r,e,h1,h2=>by
  have hs:=h2 s (by simp)
  simp only [mg1]
  split
  ·exact jst ⟨h1.1,by dsimp only;split<;>omega⟩ (fun u hu=>h2 u (by simp [hu]))
  ·intro u hu
   rcases jd.1 hu with rfl | hu
   ·exact h1
   ·exact jst hs (fun u hu=>h2 u (by simp [hu])) u hu
theorem jwA {L:SL} (h:L.Pairwise (fun x y=>¬ w64 (y.1-x.1)<0)) (hb:Sml L):Srt L:=by
 induction L with
 | nil=>trivial
 | cons s r ih=>
  rw [qa] at h
  refine ⟨fun u hu=> ?_,ih h.2 (fun v hv=>hb v (by simp [hv]))⟩
  have h1:=h.1 u hu
  have h2:=hb s (by simp)
  have h3:=hb u (by simp [hu])
  rw [j02 (x:=u.1-s.1) (by omega) (by omega)] at h1
  omega
theorem jtU:Go.Sort.SWO (Go.Proofs.ltOf fun (x y:Go.Lft.Sml (.pair (.int .i64) (.int .i64)))=>(j6L x.1 y.1).getD 0):=by
 refine jlL (fun x=>x.1.1) (fun x=> ?_) _ fun x y=>rfl
 have:=x.2
 simp only [j5Q,ja,jj] at this
 exact this.1
theorem jvr {l:SL} (hl:l.length≤10000000) (hb:Sml l):∃ L,j1a l=some L∧L.Perm l∧Srt L:=by
 obtain ⟨L,e,hp,hs⟩:=jpJ (a:= .pair (.int .i64) (.int .i64)) (cf:=fun x y=>(j6L x y).getD 0) jtU (xs:=l) (fun x hx=>by
  have:=hb x hx
  simp only [j5Q,ja,jj]
  refine ⟨⟨?_,?_⟩,⟨?_,?_⟩⟩
  ·exact qn (by decide) this.1
  ·exact qn this.2.1 (by decide)
  ·exact qn (by decide) this.2.2.1
  ·exact qn this.2.2.2 (by decide)) (by show List.length l<_;omega)
 exact ⟨L,e,hp,jwA hs fun s hm=>hb s (hp.mem_iff.1 hm)⟩
theorem jiB {l:SL} (hl:l.length≤10000000) (hb:Sml l) {lo hi:Int} (hlo:∀ s∈l,s.1<s.2→lo≤s.1∧s.2≤hi) :
  ∃ out,j5j l=some out∧StS (lo-1) out∧(∀ x,inS x out↔inS x l)∧out.length≤l.length∧∀ u∈out,lo≤u.1∧u.2≤hi:=by
 obtain ⟨n,m,e1,ht⟩:=jsq hl
 have hfl:(l.filter nE).length≤l.length:=List.length_filter_le _ _
 obtain ⟨L,e2,hp,hs⟩:=jvr (l:=l.filter nE) (by omega) (fun s h=>hb s (va.1 h).1)
 have hLl:L.length=(l.filter nE).length:=hp.length_eq
 have hLm:∀ s,s∈L↔s∈l∧nE s=true:=fun s=>hp.mem_iff.trans va
 have hLx:∀ x,inS x L↔inS x l:=by
  intro x
  constructor
  ·rintro ⟨s,h,h2⟩;exact ⟨s,((hLm s).1 h).1,h2⟩
  ·rintro ⟨s,h,h2⟩;exact ⟨s,(hLm s).2 ⟨h,by simp only [nE];rw [j01 (by omega)];rfl⟩,h2⟩
 have hne:∀ s∈L,s.1<s.2:=fun s h=>by have:=((hLm s).1 h).2;simp [nE] at this;omega
 refine ⟨mg L,?_,?_⟩
 ·simp only [j5j,j3A]
  rw [j00 (by simp [j06];omega)]
  simp only [j5,j3,js,e1,ht,e2,show Int.ofNat (List.length L)=(L.length:Int) from rfl,jxq (L:=L) (by omega)]
 ·cases L with
  | nil=>
   refine ⟨trivial,fun x=>hLx x,by simp [mg],by simp [mg]⟩
  | cons s r=>
   have h0:=hlo s ((hLm s).1 (by simp)).1 (hne s (by simp))
   have hr:∀ u∈r,nE u=true:=fun u hu=>((hLm u).1 (by simp [hu])).2
   refine ⟨jsr (by omega) (hne s (by simp)) hr hs.2,fun x=> ?_,?_,?_⟩
   ·rw [←hLx x,j1p]
    exact jss hs.1 hr hs.2
   ·have:=jp0 r s
    simp only [mg,jo] at *
    omega
   ·exact jst h0 fun u hu=>hlo u ((hLm u).1 (by simp [hu])).1 (hne u (by simp [hu]))
end Go.Proofs.Pw
