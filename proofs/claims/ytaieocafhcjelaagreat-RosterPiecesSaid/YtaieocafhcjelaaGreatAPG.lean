/- Chapter 11: who is on duty in a layer. -/
import Derived.Test.YtaieocafhcjelaaGreatAPE
import Derived.Test.YtaieocafhcjelaaGreatAPF
import Derived.Test.YtaieocafhcjelaaGreatAPA
import Derived.Test.YtaieocafhcjelaaGreatAFns
open Go Go.Lft
namespace Go.Proofs.Pw
def tb (z:j1R):Int×TrL:=(z.2.1,outT z.2.1 (j6t (occs z.2.2)))
theorem ZOk.ztab {z:j1R} (h:ZOk z):ZTab z (tb z).2:=MZ.tab (o:=z.2.1) (rs:=z.2.2) h z.1
theorem ZOk.zdif {z:j1R} (h:ZOk z):Dif z.2.1 (tb z).2:=jtM _ _ _ (MZ.good h)
theorem ZOk.zref {z:j1R} (h:ZOk z):ZTab z (tb z).2∧Z4 z (tb z).2∧Dif z.2.1 (tb z).2:=⟨h.ztab,MZ.r4 (o:=z.2.1) (rs:=z.2.2) h z.1,h.zdif⟩
theorem jxJ {zs:List j1R} (h:∀ z∈zs,ZOk z) (hl:zs.length≤100):∀ (n i:Nat),i+n=zs.length→j5z zs (zs.length:Int) (i:Int) ((zs.take i).map tb)=some (zs.map tb)
 | 0,i,hi=>by
  rw [jer]
  simp only [j2j]
  rw [j00 (by omega),j6,j08,List.take_of_length_le (by omega)]
 | n+1,i,hi=>by
  have hlt:i<zs.length:=by omega
  have hgd:zs.getD i (ByteArray.empty,((0:Int),([]:List Rule)))=zs[i]:=by simp [hlt]
  have ht:=jDd (h zs[i] (jg hlt)).ztab
  have ih:=jxJ h hl n (i+1) (by omega)
  rw [ke,ji hlt,zg] at ih
  rw [jer]
  simp only [j2j]
  rw [j01 (by omega),j0s (by omega) (by omega),j02 (x:=(i:Int)+1) (by omega) (by omega)]
  simp only [j5,j7,hgd]
  rw [show jgA (zs[i].1,(zs[i].2.1,zs[i].2.2))=_ from ht]
  simp only [j3]
  rw [j01 (by simp [j07];omega),j5,j05]
  exact ih
theorem jBb {zs:List j1R} (h:∀ z∈zs,ZOk z) (hl:zs.length≤100) {ps:List j1q} {cs:List CalT} {ss:List j1y}:jcl (zs,(ps,(cs,ss)))=some ((zs,(ps,(cs,ss))),zs.map tb):=by
 have lp:=jxJ h hl zs.length 0 (by omega)
 simp only [jcl,ja9,show Int.ofNat zs.length=(zs.length:Int) from rfl]
 rw [show j5z zs (zs.length:Int) 0 []=_ from lp]
 rfl
theorem jso {zs:List j1R} {i:Int} (h0:0≤i) (h1:i<(zs.length:Int)):List.getD (zs.map tb) i.toNat ((0:Int),([]:TrL))=tb (zs.getD i.toNat (ByteArray.empty,((0:Int),([]:List Rule)))):=by
 have hlt:i.toNat<zs.length:=by omega
 simp [List.getD_eq_getElem?_getD,hlt]
theorem zget {zs:List j1R} (h:∀ z∈zs,ZOk z) {i:Int} (h0:0≤i) (h1:i<(zs.length:Int)):ZOk (zs.getD i.toNat (ByteArray.empty,((0:Int),([]:List Rule)))):=by
 have hlt:i.toNat<zs.length:=by omega
 rw [List.getD_eq_getElem?_getD,ji hlt]
 exact h _ (jg hlt)
theorem jzo (a b:Int):jdB a b=some (decide (a<b)):=by
 simp only [jdB,jbR,j3,jd,j6]
theorem jzp {ds:List Int} (hs:ds.Pairwise (· < ·)) (hl:ds.length≤64) {x:Int}:∀ (n a b:Nat),b-a≤n→a≤b→b≤ds.length→(∀ i,(hi:i<ds.length)→i<a→ds[i]<x)→(∀ i,(hi:i<ds.length)→b≤i→x≤ds[i])→
  ∃ k:Nat,j1a ds x (ds.length:Int) (a:Int) (b:Int)=some (ds,x,(ds.length:Int),(k:Int))∧k≤ds.length∧(∀ i,(hi:i<ds.length)→i<k→ds[i]<x)∧∀ i,(hi:i<ds.length)→k≤i→x≤ds[i]
 | n,a,b,hn,hab,hb,h1,h2=>by
  rw [j9d]
  simp only [j1W]
  by_cases hlt:a<b
  ·have hm:IntKind.wrap .u64 ((a:Int)+(b:Int))=(a:Int)+(b:Int):=IntWalk.u64_in _ ⟨by omega,by omega⟩
   have hd:Int.fdiv ((a:Int)+(b:Int)) 2=(((a+b)/2:Nat):Int):=by
    rw [Int.fdiv_eq_ediv_of_nonneg _ (by omega)];omega
   have hml:(a+b)/2<ds.length:=by omega
   have hgd:ds.getD ((a+b)/2) (0:Int)=ds[(a+b)/2]:=by simp [hml]
   rw [j01 (show (a:Int)<(b:Int) by omega),j02 (x:=(a:Int)+(b:Int)) (by omega) (by omega),hm,hd,j02 (x:=(((a+b)/2:Nat):Int)) (by omega) (by omega),j0s (by omega) (by omega),j02 (x:=(((a+b)/2:Nat):Int)+1) (by omega) (by omega)]
   simp only [j5,j7,hgd,jzo,j3]
   cases n with
   | zero=>omega
   | succ n=>
    by_cases hc:ds[(a+b)/2]<x
    ·rw [j01 hc,j5,j05]
     refine jzp hs hl n ((a+b)/2+1) b (by omega) (by omega) hb (fun i hi hia=> ?_) h2
     by_cases he:i=(a+b)/2
     ·subst he;exact hc
     ·exact Int.lt_trans (kq.1 hs i ((a+b)/2) hi hml (by omega)) hc
    ·rw [j00 hc,j6,j05]
     refine jzp hs hl n a ((a+b)/2) (by omega) (by omega) (by omega) h1 (fun i hi hia=> ?_)
     by_cases he:i=(a+b)/2
     ·subst he;exact Int.not_lt.1 hc
     ·exact qu (Int.not_lt.1 hc) (Int.le_of_lt (kq.1 hs ((a+b)/2) i hml hi (by omega)))
  ·have:a=b:=by omega
   subst this
   rw [j00 (by omega),j6,j08]
   exact ⟨a,rfl,hb,h1,h2⟩
theorem jDq {ds:List Int} (hs:ds.Pairwise (· < ·)) (hl:ds.length≤64) (x:Int):∃ i,j0i ds x=some (i,decide (x∈ds)):=by
 obtain ⟨k,e,hk,h1,h2⟩:=jzp hs hl (x:=x) ds.length 0 ds.length (by omega) (by omega) (jo _) (fun i _ h=>by omega) (fun i hi h=>by omega)
 rw [show ((0:Nat):Int)=0 from rfl] at e
 simp only [j0i,show Int.ofNat ds.length=(ds.length:Int) from rfl,e,j3,j7]
 by_cases hkl:k<ds.length
 ·have hgd:ds.getD k (0:Int)=ds[k]:=by simp [hkl]
  rw [j0s (by omega) (by omega),j01 (show (k:Int)<(ds.length:Int) by omega),hgd]
  simp only [qy,j5]
  by_cases hx:ds[k]=x
  ·rw [j4Q hx]
   rw [j01 (show x∈ds from hx▸jg hkl)]
   exact ⟨_,rfl⟩
  ·rw [j2c hx]
   have hn:¬ x∈ds:=by
    intro hm
    obtain ⟨i,hi,rfl⟩:=qx hm
    rcases vp i k with h | h | h
    ·have:=h1 i hi h;omega
    ·subst h;exact hx rfl
    ·have a1:=h2 k hkl (jo _)
     have a2:=kq.1 hs k i hkl hi h
     omega
   rw [j00 hn]
   simp only [j6,j6z,j3,jd]
   exact ⟨_,rfl⟩
 ·have hn:¬ x∈ds:=by
   intro hm
   obtain ⟨i,hi,rfl⟩:=qx hm
   have:=h1 i hi (by omega)
   omega
  rw [j00 hn,j00 (show ¬ (k:Int)<(ds.length:Int) by omega)]
  simp only [ju,Bool.or_true,j5,j6,Bool.false_and]
  exact ⟨_,rfl⟩
def okW (w:WL) (s:Int):Bool:=cond (decide ((w.length:Int)>0)) (hasB s w) true
section
variable {zs:List j1R} {ps:List j1q} {cs:List CalT} {ss:List j1y} (hz:∀ z∈zs,ZOk z)
include hz
theorem jCr {L:j0w} (hL:LCk zs.length ps.length cs.length L) (hRt:Rt L) {t:Int} (h0:0≤t) (h1:t≤8589934592) {z:j1R} (hzz:zs.getD L.2.1.toNat (ByteArray.empty,((0:Int),([]:List Rule)))=z)
  {s:Int} {d:Int×Int} (hd:j0q (tb z) t=some d) (hs:j3H d=some s) {K:Int} (hK:j1V (tb z) L t=some K) (b:Bool)
  (hcal:L.2.2.2.2.2.2.2.2=0→b=true) (hcal2:L.2.2.2.2.2.2.2.2≠0→∃ x:CalT,cs.getD L.2.2.2.2.2.2.2.1.toNat (ByteArray.empty,((0:Int),([]:List Int)))=x∧CCk zs.length x∧∃ d',j0q (tb (zs.getD x.2.1.toNat (ByteArray.empty,((0:Int),([]:List Rule))))) t=some d'∧b=(decide (d'.1∈x.2.2)==(L.2.2.2.2.2.2.2.2==(2:Int)))) :
  ∃ r,j4A ((zs,(ps,(cs,ss))),zs.map tb) L t=some (r,cond (decide (0≤K)) (cond (okW L.2.2.2.2.2.2.1 s) b false) false)∧(cond (decide (0≤K)) (cond (okW L.2.2.2.2.2.2.1 s) b false) false=true→r=K):=by
 have _:=hz;have _:=hRt
 have hwl:=hL.wl
 have hlen:(zs.map tb).length=zs.length:=kv ..
 have hg:=jso (zs:=zs) hL.z0 hL.z1
 rw [hzz] at hg
 simp only [j4A]
 rw [j00 (show ¬ t<0 by omega),j00 (show ¬ t>8589934592 by omega),j0s hL.z0 (by rw [hlen];exact hL.z1)]
 simp only [j6,j5,hg]
 rw [show j1V ((tb z).1,(tb z).2) (L.1,L.2.1,(L.2.2.1.1,L.2.2.1.2),L.2.2.2.1,L.2.2.2.2.1,L.2.2.2.2.2.1,L.2.2.2.2.2.2.1,L.2.2.2.2.2.2.2.1,L.2.2.2.2.2.2.2.2) t=_ from hK]
 simp only [j3]
 by_cases hk:0≤K
 ·rw [j00 (show ¬ K<0 by omega),j01 hk]
  simp only [j6,j5,show Int.ofNat L.2.2.2.2.2.2.1.length=(L.2.2.2.2.2.2.1.length:Int) from rfl]
  have tail:∃ r,(cond (L.2.2.2.2.2.2.2.2==(0:Int)) (some (K,true)) (cond (inR L.2.2.2.2.2.2.2.1 cs.length) (cond (inR (cs.getD L.2.2.2.2.2.2.2.1.toNat (ByteArray.empty,((0:Int),([]:List Int)))).2.1 (zs.map tb).length) ((j0q ((List.getD (zs.map tb) (cs.getD L.2.2.2.2.2.2.2.1.toNat (ByteArray.empty,((0:Int),([]:List Int)))).2.1.toNat ((0:Int),([]:TrL))).1,(List.getD (zs.map tb) (cs.getD L.2.2.2.2.2.2.2.1.toNat (ByteArray.empty,((0:Int),([]:List Int)))).2.1.toNat ((0:Int),([]:TrL))).2) t).bind fun r68=>
    (j0i (cs.getD L.2.2.2.2.2.2.2.1.toNat (ByteArray.empty,((0:Int),([]:List Int)))).2.2 r68.1).bind fun r70=>some (K,(r70.2==(L.2.2.2.2.2.2.2.2==(2:Int))))) none) none))=some (r,b)∧(b=true→r=K):=by
   by_cases hm:L.2.2.2.2.2.2.2.2=0
   ·rw [j4Q hm,j5,hcal hm]
    exact ⟨K,rfl,fun _=>rfl⟩
   ·obtain ⟨x,hx,hxc,d',hd',hb⟩:=hcal2 hm
    have hc:=hL.cal hm
    obtain ⟨i,hi⟩:=jDq hxc.asc hxc.len d'.1
    have hg2:=jso (zs:=zs) hxc.z0 hxc.z1
    rw [j2c hm,j6,j0s hc.1 hc.2,hx,j0s hxc.z0 (by rw [hlen];exact hxc.z1)]
    simp only [j5,hg2]
    rw [show j0q ((tb (zs.getD x.2.1.toNat (ByteArray.empty,((0:Int),([]:List Rule))))).1,(tb (zs.getD x.2.1.toNat (ByteArray.empty,((0:Int),([]:List Rule))))).2) t=_ from hd']
    simp only [j3,hi]
    rw [←hb]
    exact ⟨K,rfl,fun _=>rfl⟩
  by_cases hw:(L.2.2.2.2.2.2.1.length:Int)>0
  ·rw [j01 hw,j5,show j0q ((tb z).1,(tb z).2) t=_ from hd]
   simp only [j3,show j3H (d.1,d.2)=_ from hs,jC7 hwl,okW]
   rw [j01 hw,j5]
   cases hh:hasB s L.2.2.2.2.2.2.1 with
   | true=>
    simp only [jj,j6,j5]
    exact tail
   | false=>exact ⟨0,rfl,fun h=>by simp at h⟩
  ·simp only [okW]
   rw [j00 hw]
   simp only [j6,j5]
   exact tail
 ·rw [j01 (show K<0 by omega),j00 hk]
  exact ⟨0,rfl,fun h=>by simp at h⟩
def whoL (L:j0w) (K:Int):Int:=L.2.2.2.2.2.1.getD (Int.tmod K (L.2.2.2.2.2.1.length:Int)).toNat 0
omit hz in
theorem jzq {v:CfgT×List (Int×TrL)} {L:j0w} {t r K:Int} {b:Bool} (hm:L.2.2.2.2.2.1.length≠0) (e:j4A v L t=some (r,b)) (hr:b=true→r=K) (hK:b=true→0≤K) :
  j20 v L t=some (cond b (whoL L K) (-1)):=by
 simp only [j20,show j4A ((v.1.1,v.1.2.1,v.1.2.2.1,v.1.2.2.2),v.2) (L.1,L.2.1,(L.2.2.1.1,L.2.2.1.2),L.2.2.2.1,L.2.2.2.2.1,L.2.2.2.2.2.1,L.2.2.2.2.2.2.1,L.2.2.2.2.2.2.2.1,L.2.2.2.2.2.2.2.2) t=_ from e,j3]
 cases b with
 | false=>rfl
 | true=>
  have:=hr rfl
  subst this
  have hk:=hK rfl
  have q1:0≤Int.tmod r (L.2.2.2.2.2.1.length:Int):=vi _ hk
  have q2:Int.tmod r (L.2.2.2.2.2.1.length:Int)<(L.2.2.2.2.2.1.length:Int):=zr _ (by omega)
  simp only [jj,j6,j5,show Int.ofNat L.2.2.2.2.2.1.length=(L.2.2.2.2.2.1.length:Int) from rfl,whoL]
  rw [j2c (show ¬ (L.2.2.2.2.2.1.length:Int)=0 by omega),j0s q1 q2]
  rfl
end
theorem LCk.rt {nz np nc:Nat} {L:j0w} (h:LCk nz np nc L) (hd:L.2.2.1.1≤100000):Rt L:=
 ⟨h.d0,hd,h.c0,h.c1,h.u0,h.u1,h.e0,h.e1,fun hn=>h.m0 (by rw [hn];rfl)⟩
theorem jCs {z:j1R} (hz:ZOk z) {t:Int} (h0:0≤t) (h1:t≤8589934592):∃ d s,j0q (tb z) t=some d∧j3H d=some s:=by
 have ht:=hz.ztab
 obtain ⟨j,hj,j1,j2⟩:=jfF ht.2 h0 h1
 have o0:=ht.2.of0 j hj;have o1:=ht.2.of1 j hj
 obtain ⟨s,hs⟩:∃ s,j3H ((t+tof z.2.1 (tb z).2 j)/86400,(t+tof z.2.1 (tb z).2 j)%86400)=some s:=by
  simp only [j3H,joZ,j3]
  exact ⟨_,rfl⟩
 exact ⟨_,s,jk3 ht.2 hj j1 j2,hs⟩
abbrev SL:=List (Int×Int)
def inS (x:Int) (l:SL):Prop:=∃ s∈l,s.1≤x∧x<s.2
def StS (p:Int):SL→Prop
 | []=>True
 | x::r=>p<x.1∧x.1<x.2∧StS x.2 r
def Sml (l:SL):Prop:=∀ s∈l, -1000000000000≤s.1∧s.1≤1000000000000 ∧ -1000000000000≤s.2∧s.2≤1000000000000
theorem j4x {x:Int}:¬ inS x []:=by rintro ⟨s,hs,_⟩;simp at hs
theorem j1r {x:Int} {s:Int×Int} {l:SL}:inS x (s::l)↔(s.1≤x∧x<s.2)∨inS x l:=by
 constructor
 ·rintro ⟨u,hu,h⟩
  rcases jf.1 hu with rfl | hu
  ·exact Or.inl h
  ·exact Or.inr ⟨u,hu,h⟩
 ·rintro (h | ⟨u,hu,h⟩)
  ·exact ⟨s,by simp,h⟩
  ·exact ⟨u,by simp [hu],h⟩
theorem jqz {x:Int} {l r:SL}:inS x (l++r)↔inS x l∨inS x r:=by
 constructor
 ·rintro ⟨u,hu,h⟩
  rcases jq.1 hu with hu | hu
  ·exact Or.inl ⟨u,hu,h⟩
  ·exact Or.inr ⟨u,hu,h⟩
 ·rintro (⟨u,hu,h⟩ | ⟨u,hu,h⟩)
  ·exact ⟨u,by simp [hu],h⟩
  ·exact ⟨u,by simp [hu],h⟩
def nE (s:Int×Int):Bool:= !(decide (s.2≤s.1))
theorem jA2 {l:SL} (hl:l.length≤10000000):∀ (n i:Nat),i+n=l.length→(∀ s∈l.take i,nE s=true)→
  (∃ j:Nat,j0x (l.length:Int) (i:Int) l=some (.inl ((j:Int),l))∧j<l.length∧(∀ s∈l.take j,nE s=true)∧nE (l.getD j (0,0))=false)∨
  (j0x (l.length:Int) (i:Int) l=some (.inr l)∧∀ s∈l,nE s=true)
 | 0,i,hi,h=>by
  rw [j3E]
  simp only [j0N]
  rw [j00 (by omega),j6,j08]
  rw [List.take_of_length_le (by omega)] at h
  exact Or.inr ⟨rfl,h⟩
 | n+1,i,hi,h=>by
  rw [j3E]
  simp only [j0N,j9c]
  rw [j01 (show (i:Int)<(l.length:Int) by omega),j0s (by omega) (by omega),j02 (x:=(i:Int)+1) (by omega) (by omega)]
  simp only [j5,j7,j3]
  have hlt:i<l.length:=by omega
  cases hc:decide ((l.getD i ((0:Int),(0:Int))).2≤(l.getD i ((0:Int),(0:Int))).1) with
  | true=>
   simp only [j5,j08]
   exact Or.inl ⟨i,rfl,hlt,h,by simp only [nE];rw [hc];rfl⟩
  | false=>
   simp only [j6,j05]
   refine jA2 hl n (i+1) (by omega) fun s hs=> ?_
   rw [ke] at hs
   rcases jq.1 hs with hs | hs
   ·exact h s hs
   ·have hgd:l.getD i ((0:Int),(0:Int))=l[i]:=by simp [hlt]
    rw [hgd] at hc
    rw [ji hlt] at hs
    simp at hs;subst hs
    simp only [nE];rw [hc];rfl
theorem jxK {l:SL} (hl:l.length≤10000000):∀ (n i j:Nat) (b:SL),j+n=l.length→i≤j→b.length=l.length→b.drop j=l.drop j→b.take i=(l.take j).filter nE→
  ∃ (k:Nat) (b':SL),j0F (i:Int) (j:Int) b=some ((k:Int),b')∧b'.length=l.length∧k≤l.length∧b'.take k=l.filter nE
 | 0,i,j,b,hj,hij,hb,hd,ht=>by
  rw [j3r]
  simp only [j0I,show Int.ofNat (List.length b)=(b.length:Int) from rfl]
  rw [j00 (by omega),j6,j08]
  rw [List.take_of_length_le (l:=l) (by omega)] at ht
  exact ⟨i,b,rfl,hb,by omega,ht⟩
 | n+1,i,j,b,hj,hij,hb,hd,ht=>by
  have hlt:j<l.length:=by omega
  have hbj:b.getD j ((0:Int),(0:Int))=l[j]:=by
   have:b[j]? = l[j]? := by
    have h:=jn (fun x=>x[0]?) hd
    simpa [List.getElem?_drop] using h
   rw [List.getD_eq_getElem?_getD,this,ji hlt];rfl
  have hd':b.drop (j+1)=l.drop (j+1):=by
   have:=jn (List.drop 1) hd
   simpa [List.drop_drop] using this
  have htk:l.take (j+1)=l.take j++[l[j]]:=by rw [ke,ji hlt];rfl
  rw [j3r]
  simp only [j0I,j9c,show Int.ofNat (List.length b)=(b.length:Int) from rfl]
  rw [j01 (show (j:Int)<(b.length:Int) by omega),j0s (by omega) (by omega),j0s (by omega) (by omega),j02 (x:=(j:Int)+1) (by omega) (by omega),j02 (x:=(i:Int)+1) (by omega) (by omega)]
  simp only [j5,j7,j3,hbj]
  cases hc:decide (l[j].2≤l[j].1) with
  | true=>
   simp only [jj,j6,j05]
   refine jxK hl n i (j+1) b (by omega) (by omega) hb hd' ?_
   rw [htk,zu,ht]
   simp [nE,hc]
  | false=>
   simp only [ju,j5,j05]
   refine jxK hl n (i+1) (j+1) _ (by omega) (by omega) (by simpa using hb) ?_ ?_
   ·rw [List.drop_set_of_lt (by omega)];exact hd'
   ·have hib:i<b.length:=by omega
    rw [ke,List.take_set_of_le (jo _),List.getElem?_set_self hib,ht,htk,zu]
    simp [nE,hc]
theorem jxL {l:SL} (hl:l.length≤10000000):∃ n m,j0A l=some (n,m)∧m.take n.toNat=l.filter nE:=by
 simp only [j0A,j0S,show Int.ofNat (List.length l)=(l.length:Int) from rfl]
 rcases jA2 hl l.length 0 (by omega) (by simp) with ⟨j,e,hj,h1,h2⟩ | ⟨e,h⟩
 ·rw [show ((0:Nat):Int)=0 from rfl] at e
  rw [e]
  simp only [j3,jma]
  rw [j2c (by omega),j02 (x:=(j:Int)+1) (by omega) (by omega)]
  have hgd:l.getD j ((0:Int),(0:Int))=l[j]:=by simp [hj]
  rw [hgd] at h2
  obtain ⟨k,b,e2,hb,hk,ht⟩:=jxK hl (l.length-(j+1)) j (j+1) l (by omega) (by omega) rfl rfl (by
   rw [ke,ji hj,zu,List.filter_eq_self.2 h1]
   simp [h2])
  rw [show ((j:Int)+1)=((j+1:Nat):Int) from rfl,e2]
  simp only [j6,j3,show Int.ofNat (List.length b)=(b.length:Int) from rfl,j7]
  rw [j01 (show (0:Int)≤(k:Int) by omega),j01 (show (k:Int)≤(b.length:Int) by omega)]
  simp only [Bool.and_self,j5,vg]
  rw [j01 (by simp;omega),j5]
  refine ⟨_,_,rfl,?_⟩
  simp only [show (Int.ofNat k).toNat=k from rfl]
  rw [qs (by simp;omega),vq,Nat.min_self,ht]
 ·rw [show ((0:Nat):Int)=0 from rfl] at e
  rw [e]
  simp only [j3,j4S,qe,j5]
  refine ⟨_,_,rfl,?_⟩
  simp only [show (Int.ofNat l.length).toNat=l.length from rfl]
  rw [List.take_of_length_le (jo _),List.filter_eq_self.2 h]
def mg1 (e:Int×Int):SL→SL
 | []=>[e]
 | s::r=>if s.1≤e.2 then mg1 (e.1,if s.2>e.2 then s.2 else e.2) r else e::mg1 s r
def mg:SL→SL
 | []=>[]
 | s::r=>mg1 s r
theorem jBc {L:SL} (hL:L.length≤10000000):∀ (n i:Nat) (A:SL) (e:Int×Int),i+n=L.length→A.length<i→
  j6k (L.length:Int) (i:Int) (A++[e]) L=some (A++mg1 e (L.drop i))
 | 0,i,A,e,hi,hA=>by
  rw [jbk]
  simp only [j44]
  rw [j00 (by omega),j6,j08,jc (by omega)]
  rfl
 | n+1,i,A,e,hi,hA=>by
  have hlt:i<L.length:=by omega
  have hgd:L.getD i ((0:Int),(0:Int))=L[i]:=by simp [hlt]
  have hle:(A++[e]).length=A.length+1:=by simp
  have hge:(A++[e]).getD A.length ((0:Int),(0:Int))=e:=by simp
  rw [jbk,jb hlt]
  simp only [j44,mg1,show Int.ofNat (List.length (A++[e]))=((A.length:Int)+1) from by rw [hle];rfl]
  rw [j01 (show (i:Int)<(L.length:Int) by omega),j0s (by omega) (by omega),j01 (show (A.length:Int)+1>0 by omega),j02 (x:=(A.length:Int)+1-1) (by omega) (by omega),j02 (x:=(i:Int)+1) (by omega) (by omega),
   j0s (by omega) (by rw [hle];omega),show ((A.length:Int)+1-1).toNat=A.length by omega]
  simp only [j5,j7,hgd,hge]
  by_cases hc:L[i].1≤e.2
  ·rw [j01 hc,if_pos hc]
   simp only [j5,j05]
   rw [show (A++[e]).set A.length (e.1,if L[i].2>e.2 then L[i].2 else e.2)=A++[(e.1,if L[i].2>e.2 then L[i].2 else e.2)] by
    rw [zv _ _ (jo _)];simp]
   exact jBc hL n (i+1) A _ (by omega) (by omega)
  ·rw [j00 hc,if_neg hc,j01 (by rw [hle];simp [j07];omega)]
   simp only [j6,j5,j05]
   have:=jBc hL n (i+1) (A++[e]) L[i] (by omega) (by rw [hle];omega)
   rw [show A++e::mg1 L[i] (L.drop (i+1))=A++[e]++mg1 L[i] (L.drop (i+1)) by simp]
   exact this
theorem jDr {L:SL} (hL:L.length≤10000000):j6k (L.length:Int) 0 [] L=some (mg L):=by
 rw [jbk]
 simp only [j44]
 cases L with
 | nil=>rw [j00 (by simp),j6,j08];rfl
 | cons s r=>
  rw [j01 (show (0:Int)<((s::r).length:Int) by simp only [jp];omega),j0s (by omega) (by simp only [jp];omega)]
  simp only [j5,show Int.ofNat (List.length ([]:SL))=0 from rfl]
  rw [j00 (show ¬ ((0:Int)>0) by omega),j6,j01 (by simp [j07]),j02 (x:=(0:Int)+1) (by omega) (by omega)]
  simp only [j5,j05]
  have:=jBc hL r.length 1 [] s (by simp;omega) (by simp)
  simpa [mg] using this
def Srt:SL→Prop
 | []=>True
 | s::r=>(∀ u∈r,s.1≤u.1)∧Srt r
theorem jxM:∀ {r:SL} {e:Int×Int} {p:Int},p<e.1→e.1<e.2→(∀ s∈r,nE s=true)→Srt r→StS p (mg1 e r)
 | [],e,p,h1,h2,_,_=>⟨h1,h2,trivial⟩
 | s::r,e,p,h1,h2,h3,h4=>by
  simp only [mg1]
  have hs:s.1<s.2:=by have:=h3 s (by simp);simp [nE] at this;omega
  split
  ·exact jxM (by exact h1) (by dsimp only;split<;>omega) (fun u hu=>h3 u (by simp [hu])) h4.2
  ·exact ⟨h1,h2,jxM (by omega) hs (fun u hu=>h3 u (by simp [hu])) h4.2⟩
theorem jxN {x:Int}:∀ {r:SL} {e:Int×Int},(∀ s∈r,e.1≤s.1)→(∀ s∈r,nE s=true)→Srt r→(inS x (mg1 e r)↔(e.1≤x∧x<e.2)∨inS x r)
 | [],e,_,_,_=>by simp [mg1,inS]
 | s::r,e,h1,h3,h4=>by
  have hs:s.1<s.2:=by have:=h3 s (by simp);simp [nE] at this;omega
  have he:e.1≤s.1:=h1 s (by simp)
  simp only [mg1]
  split
  ·rw [jxN (e:=(e.1,if s.2>e.2 then s.2 else e.2)) (fun u hu=>h1 u (by simp [hu])) (fun u hu=>h3 u (by simp [hu])) h4.2,j1r]
   dsimp only
   constructor
   ·rintro (⟨a,b⟩ | h)
    ·split at b
     ·by_cases hx:x<e.2
      ·exact Or.inl ⟨a,hx⟩
      ·exact Or.inr (Or.inl ⟨by omega,b⟩)
     ·exact Or.inl ⟨a,b⟩
    ·exact Or.inr (Or.inr h)
   ·rintro (⟨a,b⟩ | ⟨a,b⟩ | h)
    ·exact Or.inl ⟨a,by split<;>omega⟩
    ·exact Or.inl ⟨by omega,by split<;>omega⟩
    ·exact Or.inr h
  ·rw [j1r,jxN h4.1 (fun u hu=>h3 u (by simp [hu])) h4.2,j1r]
theorem jtS:∀ (r:SL) (e:Int×Int),(mg1 e r).length≤r.length+1
 | [],e=>by simp [mg1]
 | s::r,e=>by
  simp only [mg1]
  split
  ·have:=jtS r (e.1,if s.2>e.2 then s.2 else e.2);simp only [jp];omega
  ·have:=jtS r s;simp only [jp];omega
theorem jxO {lo hi:Int}:∀ {r:SL} {e:Int×Int},(lo≤e.1∧e.2≤hi)→(∀ s∈r,lo≤s.1∧s.2≤hi)→∀ u∈mg1 e r,lo≤u.1∧u.2≤hi
 | [],e,h1,h2=>by simp only [mg1];intro u hu;simp at hu;subst hu;exact h1
 | s::r,e,h1,h2=>by
  have hs:=h2 s (by simp)
  simp only [mg1]
  split
  ·exact jxO ⟨h1.1,by dsimp only;split<;>omega⟩ (fun u hu=>h2 u (by simp [hu]))
  ·intro u hu
   rcases jf.1 hu with rfl | hu
   ·exact h1
   ·exact jxO hs (fun u hu=>h2 u (by simp [hu])) u hu
theorem jCt {L:SL} (h:L.Pairwise (fun x y=>¬ w64 (y.1-x.1)<0)) (hb:Sml L):Srt L:=by
 induction L with
 | nil=>trivial
 | cons s r ih=>
  rw [qb] at h
  refine ⟨fun u hu=> ?_,ih h.2 (fun v hv=>hb v (by simp [hv]))⟩
  have h1:=h.1 u hu
  have h2:=hb s (by simp)
  have h3:=hb u (by simp [hu])
  rw [j02 (x:=u.1-s.1) (by omega) (by omega)] at h1
  omega
theorem jzr:Go.Sort.SWO (Go.Proofs.ltOf fun (x y:Go.Lft.Sml (.pair (.int .i64) (.int .i64)))=>(j7K x.1 y.1).getD 0):=by
 refine jpE (fun x=>x.1.1) (fun x=> ?_) _ fun x y=>rfl
 have:=x.2
 simp only [j6v,ja,jl] at this
 exact this.1
theorem jBd {l:SL} (hl:l.length≤10000000) (hb:Sml l):∃ L,j1c l=some L∧L.Perm l∧Srt L:=by
 obtain ⟨L,e,hp,hs⟩:=juC (a:= .pair (.int .i64) (.int .i64)) (cf:=fun x y=>(j7K x y).getD 0) jzr (xs:=l) (fun x hx=>by
  have:=hb x hx
  simp only [j6v,ja,jl]
  refine ⟨⟨?_,?_⟩,⟨?_,?_⟩⟩
  ·exact qu (by decide) this.1
  ·exact qu this.2.1 (by decide)
  ·exact qu (by decide) this.2.2.1
  ·exact qu this.2.2.2 (by decide)) (by show List.length l<_;omega)
 exact ⟨L,e,hp,jCt hs fun s hm=>hb s (hp.mem_iff.1 hm)⟩
theorem jmf {l:SL} (hl:l.length≤10000000) (hb:Sml l) {lo hi:Int} (hlo:∀ s∈l,s.1<s.2→lo≤s.1∧s.2≤hi) :
  ∃ out,j5U l=some out∧StS (lo-1) out∧(∀ x,inS x out↔inS x l)∧out.length≤l.length∧∀ u∈out,lo≤u.1∧u.2≤hi:=by
 obtain ⟨n,m,e1,ht⟩:=jxL hl
 have hfl:(l.filter nE).length≤l.length:=List.length_filter_le _ _
 obtain ⟨L,e2,hp,hs⟩:=jBd (l:=l.filter nE) (by omega) (fun s h=>hb s (vk.1 h).1)
 have hLl:L.length=(l.filter nE).length:=hp.length_eq
 have hLm:∀ s,s∈L↔s∈l∧nE s=true:=fun s=>hp.mem_iff.trans vk
 have hLx:∀ x,inS x L↔inS x l:=by
  intro x
  constructor
  ·rintro ⟨s,h,h2⟩;exact ⟨s,((hLm s).1 h).1,h2⟩
  ·rintro ⟨s,h,h2⟩;exact ⟨s,(hLm s).2 ⟨h,by simp only [nE];rw [j00 (by omega)];rfl⟩,h2⟩
 have hne:∀ s∈L,s.1<s.2:=fun s h=>by have:=((hLm s).1 h).2;simp [nE] at this;omega
 refine ⟨mg L,?_,?_⟩
 ·simp only [j5U,j3L]
  rw [j01 (by simp [j07];omega)]
  simp only [j5,j3,jt,e1,ht,e2,show Int.ofNat (List.length L)=(L.length:Int) from rfl,jDr (L:=L) (by omega)]
 ·cases L with
  | nil=>
   refine ⟨trivial,fun x=>hLx x,by simp [mg],by simp [mg]⟩
  | cons s r=>
   have h0:=hlo s ((hLm s).1 (by simp)).1 (hne s (by simp))
   have hr:∀ u∈r,nE u=true:=fun u hu=>((hLm u).1 (by simp [hu])).2
   refine ⟨jxM (by omega) (hne s (by simp)) hr hs.2,fun x=> ?_,?_,?_⟩
   ·rw [←hLx x,j1r]
    exact jxN hs.1 hr hs.2
   ·have:=jtS r s
    simp only [mg,jp] at *
    omega
   ·exact jxO h0 fun u hu=>hlo u ((hLm u).1 (by simp [hu])).1 (hne u (by simp [hu]))
end Go.Proofs.Pw
