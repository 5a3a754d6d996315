/- duty.View.Times: the instants of a range in which a layer is on duty. -/
import Derived.Test.YtcegmhnnglcgeaaGreatIPG
import Derived.Test.YtcegmhnnglcgeaaGreatIPF
import Derived.Test.YtcegmhnnglcgeaaGreatILD
noncomputable section
open Go Go.Lft
namespace Go.Proofs.Pw
theorem jxQ {d:Int} (h:j1H d=some true):0≤d:=by
 apply Classical.byContradiction
 intro hd
 simp only [j1H,j6F,joL,joK,j3] at h
 rw [j01 (show d<0 by omega)] at h
 simp at h
def dsp (p:Int×(Int×Int)) (d:Int):Int×Int:=
 (if d*86400-p.2.2>p.1 then d*86400-p.2.2 else p.1,if d*86400-p.2.2+86400<p.2.1 then d*86400-p.2.2+86400 else p.2.1)
theorem jxR {ds:List Int} (hd:∀ d∈ds,0≤d∧d≤100000) (hl:ds.length≤64) {p:Int×(Int×Int)} (hp : -64800≤p.2.2∧p.2.2≤64800) {m q z:Int} {nm:ByteArray} {ps:List (Int×(Int×Int))}:∀ (n i:Nat) (acc:SL),i+n=ds.length→acc.length+n≤1000000→
  j3v m q ds (ds.length:Int) (i:Int) nm z ds p.1 p.2.1 p.2.2 acc ps=some (m,q,nm,z,ds,acc++(ds.drop i).map (dsp p),ps)
 | 0,i,acc,hi,_=>by
  rw [jay]
  simp only [j3q]
  rw [j00 (by omega),j6,j0a,List.drop_of_length_le (by omega)]
  simp
 | n+1,i,acc,hi,hacc=>by
  have hi':i<ds.length:=by omega
  have hgd:ds.getD i (0:Int)=ds[i]:=by simp [hi']
  have hdi:=hd _ (List.getElem_mem hi')
  rw [jay]
  simp only [j3q]
  rw [j01 (by omega),j14 (by omega) (by omega)]
  simp only [j5,j7,hgd]
  rw [j02 (x:=ds[i]*86400) (by omega) (by omega),j02 (x:=ds[i]*86400-p.2.2) (by omega) (by omega),j02 (x:=ds[i]*86400-p.2.2+86400) (by omega) (by omega),j02 (x:=(i:Int)+1) (by omega) (by omega),j01 (by simp [j07];omega),List.drop_eq_getElem_cons hi']
  simp only [j5,j06,List.map_cons]
  have:=jxR hd hl hp (m:=m) (q:=q) (z:=z) (nm:=nm) (ps:=ps) n (i+1) (acc++[dsp p ds[i]]) (by omega) (by simp;omega)
  rw [List.append_assoc] at this
  exact this
theorem jxS {ds:List Int} (hd:∀ d∈ds,0≤d∧d≤100000) (hl:ds.length≤64) {z:Int} {nm:ByteArray} {ps:List (Int×(Int×Int))} (hps:∀ p∈ps, -64800≤p.2.2∧p.2.2≤64800) (hpl:ps.length≤100):∀ (n i:Nat) (acc:SL),i+n=ps.length→acc.length≤64*i→
  j3w (ps.length:Int) (i:Int) nm z ds acc ps=some (acc++(ps.drop i).flatMap fun p=>ds.map (dsp p))
 | 0,i,acc,hi,_=>by
  rw [jaz]
  simp only [j1F]
  rw [j00 (by omega),j6,j0a,List.drop_of_length_le (by omega)]
  simp
 | n+1,i,acc,hi,hacc=>by
  have hi':i<ps.length:=by omega
  have hgd:ps.getD i ((0:Int),((0:Int),(0:Int)))=ps[i]:=by simp [List.getD,hi']
  have h2:=jxR hd hl (hps _ (List.getElem_mem hi')) (m:=(ps.length:Int)) (q:=(i:Int)) (z:=z) (nm:=nm) (ps:=ps) ds.length 0 acc (by omega) (by omega)
  have ih:=jxS hd hl (z:=z) (nm:=nm) hps hpl n (i+1) (acc++ds.map (dsp ps[i])) (by omega) (by simp;omega)
  rw [jaz]
  simp only [j1F]
  rw [j01 (by omega),j14 (by omega) (by omega)]
  simp only [j5,j7,hgd,show Int.ofNat ds.length=(ds.length:Int) from rfl]
  rw [show j3v (ps.length:Int) (i:Int) ds (ds.length:Int) 0 nm z ds ps[i].1 ps[i].2.1 ps[i].2.2 acc ps=_ from h2]
  simp only [j3,List.drop_zero]
  rw [j02 (x:=(i:Int)+1) (by omega) (by omega),j06,List.drop_eq_getElem_cons hi',List.flatMap_cons,←List.append_assoc]
  exact ih
theorem jvF {α β:Type} (f:α→List β) (k:Nat) (hf:∀ a,(f a).length=k):∀ l:List α,(l.flatMap f).length=l.length*k
 | []=>by simp
 | a::l=>by rw [List.flatMap_cons,List.length_append,jvF f k hf l,hf,List.length_cons,Nat.add_mul,Nat.one_mul];omega
theorem jvG {p:Int×(Int×Int)} {d x:Int}:((dsp p d).1≤x∧x<(dsp p d).2)↔(p.1≤x∧x<p.2.1)∧(x+p.2.2)/86400=d:=by
 simp only [dsp]
 constructor
 ·intro h;split at h<;>split at h<;>omega
 ·intro h;split<;>split<;>omega
section
variable {zs:List j2E} {ps:List j1E} {cs:List CalT} (hs:SOk2 zs ps cs)
include hs
theorem jwI {x:CalT} (hx:CCk zs.length x) {ss:List j1N} {a b:Int} (ha:0≤a) (hab:a≤b) (hb:b≤8589934592) {z:j2E} (hz:zs.getD x.2.1.toNat (ByteArray.empty,((0:Int),([]:List Rule)))=z) :
  ∃ out,j1P ((zs,(ps,(cs,ss))),zs.map tb) x a b=some out∧StS (a-1) out∧out.length≤x.2.2.length*((tb z).2.length+1)∧
   ∀ t d,a≤t→t<b→j0v (tb z) t=some d→(inS t out↔d.1∈x.2.2):=by
 have hlen:(zs.map tb).length=zs.length:=List.length_map ..
 have hg:=joJ (zs:=zs) hx.z0 hx.z1
 have hzk:=zget hs.so.ok hx.z0 hx.z1
 rw [hz] at hg hzk
 have ht:=hzk.ztab.2
 have hll:(tb z).2.length≤20:=jpQ hzk
 obtain ⟨pc,e,pl,pm,pcov⟩:=jvD ht ha hab hb
 have hxl:=hx.len
 have hd:∀ d∈x.2.2,0≤d∧d≤100000:=fun d hd=>⟨jxQ (hx.day d hd),jvy (hx.day d hd)⟩
 have hpo:∀ p∈pc, -64800≤p.2.2∧p.2.2≤64800:=fun p hp=>by
  obtain ⟨_,_,_,i,i1,i2,_⟩:=pm p hp
  have:=ht.of0 i i1;have:=ht.of1 i i1;omega
 have l0:=jxS hd hxl (z:=x.2.1) (nm:=x.1) hpo (by omega) pc.length 0 [] (by omega) (by simp)
 rw [List.nil_append,List.drop_zero] at l0
 have hEl:(pc.flatMap fun p=>x.2.2.map (dsp p)).length=pc.length*x.2.2.length:=jvF _ _ (fun p=>List.length_map ..) pc
 have hm:pc.length*x.2.2.length≤((tb z).2.length+1)*x.2.2.length:=Nat.mul_le_mul_right _ pl
 have hm2:((tb z).2.length+1)*x.2.2.length≤21*64:=Nat.mul_le_mul (by omega) hxl
 have hmem:∀ s∈(pc.flatMap fun p=>x.2.2.map (dsp p)),∃ p∈pc,∃ d∈x.2.2,s=dsp p d:=fun s h=>by
  obtain ⟨p,hp,h⟩:=List.mem_flatMap.1 h
  obtain ⟨d,hd,rfl⟩:=List.mem_map.1 h
  exact ⟨p,hp,d,hd,rfl⟩
 obtain ⟨out,e2,s1,s2,s3,s4⟩:=jhB (l:=pc.flatMap fun p=>x.2.2.map (dsp p)) (by omega) (fun s h=>by
  obtain ⟨p,hp,d,hdm,rfl⟩:=hmem s h
  obtain ⟨h1,h2,h3,_⟩:=pm p hp
  have:=hpo p hp;have:=hd d hdm
  simp only [dsp]
  refine ⟨?_,?_,?_,?_⟩<;>split<;>omega) (lo:=a) (hi:=b) (fun s h hlt=>by
  obtain ⟨p,hp,d,hdm,rfl⟩:=hmem s h
  obtain ⟨h1,h2,h3,_⟩:=pm p hp
  simp only [dsp] at hlt ⊢
  refine ⟨?_,?_⟩<;>split<;>omega)
 refine ⟨out,?_,s1,by rw [Nat.mul_comm];omega,fun t d h1 h2 hdd=> ?_⟩
 ·simp only [j1P]
  rw [j14 hx.z0 (by rw [hlen];exact hx.z1)]
  simp only [j5,hg,show j1q ((tb z).1,(tb z).2) a b=_ from e,j3,show Int.ofNat pc.length=(pc.length:Int) from rfl]
  rw [show j3w (pc.length:Int) 0 x.1 x.2.1 x.2.2 [] pc=_ from l0]
  simp only [j3,e2]
 ·obtain ⟨k,hk,k1,k2⟩:=jho ht (t:=t) (by omega) (by omega)
  have:=jjl ht hk k1 k2
  have hdv:=hdd.symm.trans this
  simp only [j4] at hdv
  subst hdv
  dsimp only
  rw [s2 t]
  constructor
  ·rintro ⟨s,hs',h3,h4⟩
   obtain ⟨p,hp,d,hdm,rfl⟩:=hmem s hs'
   obtain ⟨c1,c2⟩:=jvG.1 ⟨h3,h4⟩
   obtain ⟨_,_,_,i,i1,i2,i3,i4⟩:=pm p hp
   have:i=k:=jfn ht i1 hk (t:=t) (by omega) (by omega) k1 k2
   subst this
   rw [←i2,c2];exact hdm
  ·intro hdm
   obtain ⟨p,hp,c1,c2⟩:=pcov t h1 h2
   obtain ⟨_,_,_,i,i1,i2,i3,i4⟩:=pm p hp
   have:i=k:=jfn ht i1 hk (t:=t) (by omega) (by omega) k1 k2
   subst this
   obtain ⟨g1,g2⟩:=jvG.2 ⟨⟨c1,c2⟩,show (t+p.2.2)/86400=(t+tof z.2.1 (tb z).2 i)/86400 by rw [i2]⟩
   exact ⟨_,List.mem_flatMap.2 ⟨p,hp,List.mem_map.2 ⟨_,hdm,rfl⟩⟩,g1,g2⟩
omit hs in
def zAt (zs:List j2E) (i:Int):j2E:=zs.getD i.toNat (ByteArray.empty,((0:Int),([]:List Rule)))
omit hs in
def cAt (cs:List CalT) (i:Int):CalT:=cs.getD i.toNat (ByteArray.empty,((0:Int),([]:List Int)))
omit hs in
def locD (z:j2E) (t:Int):Int×Int:=(j0v (tb z) t).getD (0,0)
omit hs in
def secD (d:Int×Int):Int:=(j3I d).getD 0
omit hs in
def shK (z:j2E) (L:j0R) (t:Int):Int:=(j20 (tb z) L t).getD (-1)
omit hs in
def calB (zs:List j2E) (cs:List CalT) (L:j0R) (t:Int):Bool:=
 cond (L.2.2.2.2.2.2.2.2==0) true (decide ((locD (zAt zs (cAt cs L.2.2.2.2.2.2.2.1).2.1) t).1∈(cAt cs L.2.2.2.2.2.2.2.1).2.2)==(L.2.2.2.2.2.2.2.2==(2:Int)))
omit hs in
def onX (zs:List j2E) (cs:List CalT) (L:j0R) (t:Int):Bool:=
 cond (decide (0≤shK (zAt zs L.2.1) L t)) (cond (okW L.2.2.2.2.2.2.1 (secD (locD (zAt zs L.2.1) t))) (calB zs cs L t) false) false
omit hs in
def perX (zs:List j2E) (cs:List CalT) (L:j0R) (t:Int):Int:=cond (onX zs cs L t) (whoL L (shK (zAt zs L.2.1) L t)) (-1)
omit hs in
theorem jpR {z:j2E} (hz:ZOk z) {t:Int} (h0:0≤t) (h1:t≤8589934592):j0v (tb z) t=some (locD z t)∧j3I (locD z t)=some (secD (locD z t)):=by
 obtain ⟨d,s,hd,hsc⟩:=jxI hz h0 h1
 have:locD z t=d:=by simp [locD,hd]
 rw [this]
 exact ⟨hd,by simp [secD,hsc]⟩
omit hs in
theorem jfK {z:j2E} (hz:ZOk z) {L:j0R} (hR:Rt L) {t:Int} (h0:0≤t) (h1:t≤8589934592):j20 (tb z) L t=some (shK z L t)∧ShO z.2.1 (tb z).2 L t (shK z L t):=by
 obtain ⟨K,e,hK⟩:=jyD hz.ztab.2 hR h0 h1
 have:shK z L t=K:=by simp only [shK,show j20 (tb z) L t=_ from e,Option.getD_some]
 rw [this]
 exact ⟨e,hK⟩
theorem jtH {L:j0R} (hL:LCk zs.length ps.length cs.length L) {ss:List j1N} {t:Int} (h0:0≤t) (h1:t≤8589934592) :
  (∃ r,j4p ((zs,(ps,(cs,ss))),zs.map tb) L t=some (r,onX zs cs L t))∧j24 ((zs,(ps,(cs,ss))),zs.map tb) L t=some (perX zs cs L t)∧(onX zs cs L t=true→0≤shK (zAt zs L.2.1) L t):=by
 have hRt:=hL.rt2
 have hz:=zget hs.so.ok hL.z0 hL.z1
 obtain ⟨hd,hsc⟩:=jpR hz h0 h1
 obtain ⟨eK,hK⟩:=jfK hz hRt h0 h1
 have hon:onX zs cs L t=true→0≤shK (zAt zs L.2.1) L t:=fun h=>by
  by_cases hk:0≤shK (zAt zs L.2.1) L t
  ·exact hk
  ·unfold onX at h;rw [j00 hk] at h;simp at h
 obtain ⟨r,er,hr⟩:=jxH (ps:=ps) (ss:=ss) hs.so.ok hL hRt h0 h1 rfl hd hsc eK (calB zs cs L t) (fun h=>by unfold calB;rw [j7a h];rfl) (fun h=>⟨_,rfl,cget hs (hL.cal h).1 (hL.cal h).2,_,(jpR (zget hs.so.ok (cget hs (hL.cal h).1 (hL.cal h).2).z0 (cget hs (hL.cal h).1 (hL.cal h).2).z1) h0 h1).1,by
  unfold calB;rw [j48 h];rfl⟩)
 exact ⟨⟨r,er⟩,juX hL.m0 er hr hon,hon⟩
theorem jpS {L:j0R} (hL:LCk zs.length ps.length cs.length L) {t:Int} (h0:0≤t) (h1:t≤8589934592):(onX zs cs L t=true↔0≤perX zs cs L t) ∧ -1≤perX zs cs L t∧perX zs cs L t<ps.length:=by
 have hon:=(jtH hs hL (ss:=[]) h0 h1).2.2
 unfold perX
 have hp:=hs.so.p0
 cases hc:onX zs cs L t with
 | false=>simp;omega
 | true=>
  have hk:=hon hc
  have hm0:=hL.m0
  have q1:0≤Int.tmod (shK (zAt zs L.2.1) L t) (L.2.2.2.2.2.1.length:Int):=Int.tmod_nonneg _ hk
  have q2:Int.tmod (shK (zAt zs L.2.1) L t) (L.2.2.2.2.2.1.length:Int)<(L.2.2.2.2.2.1.length:Int):=Int.tmod_lt_of_pos _ (by omega)
  have hi:(Int.tmod (shK (zAt zs L.2.1) L t) (L.2.2.2.2.2.1.length:Int)).toNat<L.2.2.2.2.2.1.length:=by omega
  have e:whoL L (shK (zAt zs L.2.1) L t)=L.2.2.2.2.2.1[(Int.tmod (shK (zAt zs L.2.1) L t) (L.2.2.2.2.2.1.length:Int)).toNat]:=by simp [whoL,List.getD,hi]
  rw [j5,e]
  have:=hL.mem _ (List.getElem_mem hi)
  exact ⟨⟨fun _=>this.1,fun _=>rfl⟩,by omega,this.2⟩
theorem jtI {L:j0R} (hL:LCk zs.length ps.length cs.length L) {ss:List j1N} {a b:Int} (ha:0≤a) (hab:a≤b) (hb:b≤8589934592) {M:Nat} (hM:M≤60) (hlen:b-a≤604800*M) :
  ∃ out,j3P ((zs,(ps,(cs,ss))),zs.map tb) L a b=some out∧StS (a-1) out∧(∀ t,inS t out↔a≤t∧t<b∧onX zs cs L t=true)∧
   out.length≤L.2.2.2.2.2.2.1.length*(M+1)*21+1+(if L.2.2.2.2.2.2.2.2=0 then 0 else (cAt cs L.2.2.2.2.2.2.2.1).2.2.length*21):=by
 have hRt:=hL.rt2
 have hzl:(zs.map tb).length=zs.length:=List.length_map ..
 have hz:=zget hs.so.ok hL.z0 hL.z1
 have hg:=joJ (zs:=zs) hL.z0 hL.z1
 have hwl:=hL.wl
 have hll:(tb (zAt zs L.2.1)).2.length≤20:=jpQ hz
 obtain ⟨v,ev,hv⟩:=recH hz.ztab.2 hRt (k:=0) (by omega) (by omega)
 have hsh:∀ t,a≤t→t<b→(0≤shK (zAt zs L.2.1) L t↔QO (zAt zs L.2.1).2.1 (tb (zAt zs L.2.1)).2 L t 0):=fun t h1 h2=>by
  have hK:=(jfK hz hRt (t:=t) (by omega) (by omega)).2
  constructor
  ·intro hk
   rcases hK with ⟨hK,_⟩ | ⟨_,hq,_⟩
   ·have:shK (zAt zs L.2.1) L t = -1:=hK
    omega
   ·exact QO.le hz.ztab.2 hRt hk hq
  ·intro hq
   rcases hK with ⟨_,hn⟩ | ⟨hk,_,_⟩
   ·exact absurd hq hn
   ·exact hk
 have hoff:∀ t,a≤t→t<b→¬ QO (zAt zs L.2.1).2.1 (tb (zAt zs L.2.1)).2 L t 0→onX zs cs L t=false:=fun t h1 h2 hq=>by
  unfold onX
  rw [j00 (fun h=>hq ((hsh t h1 h2).1 h))]
  rfl
 simp only [j3P]
 rw [j14 hL.z0 (by rw [hzl];exact hL.z1)]
 simp only [j5,hg]
 rw [show j0M ((tb (zs.getD L.2.1.toNat (ByteArray.empty,((0:Int),([]:List Rule))))).1,(tb (zs.getD L.2.1.toNat (ByteArray.empty,((0:Int),([]:List Rule))))).2) (L.1,L.2.1,(L.2.2.1.1,L.2.2.1.2),L.2.2.2.1,L.2.2.2.2.1,L.2.2.2.2.2.1,L.2.2.2.2.2.2.1,L.2.2.2.2.2.2.2.1,L.2.2.2.2.2.2.2.2) 0=_ from ev]
 simp only [j3]
 have hemp:∀ (P:∀ t,a≤t→t<b→onX zs cs L t=false),∃ out,some ([]:SL)=some out∧StS (a-1) out∧(∀ t,inS t out↔a≤t∧t<b∧onX zs cs L t=true)∧
   out.length≤L.2.2.2.2.2.2.1.length*(M+1)*21+1+(if L.2.2.2.2.2.2.2.2=0 then 0 else (cAt cs L.2.2.2.2.2.2.2.1).2.2.length*21):=fun P=>
  ⟨[],rfl,trivial,fun t=>⟨fun h=>absurd h j4m,fun ⟨h1,h2,h3⟩=>by rw [P t h1 h2] at h3;simp at h3⟩,Nat.zero_le _⟩
 cases hh:hO (zs.getD L.2.1.toNat (ByteArray.empty,((0:Int),([]:List Rule)))).2.1 (tb (zs.getD L.2.1.toNat (ByteArray.empty,((0:Int),([]:List Rule))))).2 L 0 with
 | none=>
  simp only [Option.isSome_none,Bool.not_false,j5]
  exact hemp fun t h1 h2=>hoff t h1 h2 (by
   rintro ⟨u,hu,_⟩
   have hu':=hh.symm.trans hu
   simp at hu')
 | some u=>
  have:=hv u hh
  subst this
  have hq:∀ t,QO (zAt zs L.2.1).2.1 (tb (zAt zs L.2.1)).2 L t 0↔v≤t:=fun t=>⟨fun ⟨u,hu,hut⟩=>by
   have hu':=hh.symm.trans hu
   simp only [j4] at hu'
   omega,fun h=>⟨v,hh,h⟩⟩
  simp only [Option.isSome_some,Bool.not_true,j6]
  by_cases hvb:v≥b
  ·rw [j01 hvb]
   simp only [j5]
   exact hemp fun t h1 h2=>hoff t h1 h2 (fun h=>by have:=(hq t).1 h;omega)
  ·rw [j00 hvb]
   simp only [j6]
   by_cases hab2:a≥b
   ·rw [j01 hab2]
    simp only [j5]
    exact hemp fun t h1 h2=>by omega
   ·rw [j00 hab2]
    simp only [j6]
    obtain ⟨c,hc,hca,hcv,hcb,hcc⟩:∃ c:Int,c=(if v>a then v else a)∧a≤c∧v≤c∧c<b∧∀ t,a≤t→t<c→t<v:=⟨_,rfl,by split<;>omega,by split<;>omega,by split<;>omega,fun t h1 h2=>by split at h2<;>omega⟩
    rw [←hc]
    obtain ⟨A,hA1,hA2,hA3,hA4,hA5,hA6⟩:∃ A:SL,((L.2.2.2.2.2.2.1.length:Int)>0→j3N (tb (zAt zs L.2.1)) L.2.2.2.2.2.2.1 c b=some A)∧(¬ (L.2.2.2.2.2.2.1.length:Int)>0→A=[(c,b)])∧StS (c-1) A∧
      (∀ t,inS t A→t<b)∧(∀ t,c≤t→t<b→(inS t A↔okW L.2.2.2.2.2.2.1 (secD (locD (zAt zs L.2.1) t))=true))∧A.length≤L.2.2.2.2.2.2.1.length*(M+1)*21+1:=by
     by_cases hw:(L.2.2.2.2.2.2.1.length:Int)>0
     ·obtain ⟨A,e,s1,s2,s3,s4⟩:=jrK hz.ztab.2 hll hL.w hwl hM (a:=c) (b:=b) (by omega) (by omega) hb (by omega)
      refine ⟨A,fun _=>e,fun h=>absurd hw h,s1,fun t ⟨s,hs',h1,h2⟩=>by have:=(s2 s hs').2;omega,fun t h1 h2=> ?_,?_⟩
      ·obtain ⟨k,hk,k1,k2⟩:=jho hz.ztab.2 (t:=t) (by omega) (by omega)
       rw [s4 k hk t h1 h2 k1 k2]
       have hloc:locD (zAt zs L.2.1) t=((t+tof (zAt zs L.2.1).2.1 (tb (zAt zs L.2.1)).2 k)/86400,(t+tof (zAt zs L.2.1).2.1 (tb (zAt zs L.2.1)).2 k)%86400):=by
        unfold locD
        rw [show j0v (tb (zAt zs L.2.1)) t=_ from jjl hz.ztab.2 hk k1 k2]
        rfl
       have o0:=hz.ztab.2.of0 k hk;have o1:=hz.ztab.2.of1 k hk
       have hsec:secD (locD (zAt zs L.2.1) t)=(t+tof (zAt zs L.2.1).2.1 (tb (zAt zs L.2.1)).2 k+259200)%604800:=by
        rw [hloc]
        simp only [secD,j3I]
        have o0' : -64800≤tof (zAt zs L.2.1).2.1 (tb (zAt zs L.2.1)).2 k:=o0
        have o1':tof (zAt zs L.2.1).2.1 (tb (zAt zs L.2.1)).2 k≤64800:=o1
        rw [jlX _ (by omega)]
        simp only [j3,Option.getD_some]
        generalize tof (zAt zs L.2.1).2.1 (tb (zAt zs L.2.1)).2 k=o at *
        rw [j02 (x:=((t+o)/86400+3)%7*86400) (by omega) (by omega),j02 (by omega) (by omega)]
        omega
       rw [hsec]
       unfold okW
       rw [j01 hw]
       rfl
      ·have:L.2.2.2.2.2.2.1.length*(M+1)*((tb (zAt zs L.2.1)).2.length+1)≤L.2.2.2.2.2.2.1.length*(M+1)*21:=Nat.mul_le_mul_left _ (by omega)
       have s3':A.length≤L.2.2.2.2.2.2.1.length*(M+1)*((tb (zAt zs L.2.1)).2.length+1):=s3
       omega
     ·refine ⟨[(c,b)],fun h=>absurd h hw,fun _=>rfl,⟨by dsimp only;omega,hcb,trivial⟩,fun t h=> ?_,fun t h1 h2=> ?_,by simp⟩
      ·rcases j1v.1 h with h | h
       ·exact h.2
       ·exact absurd h j4m
      ·unfold okW
       rw [j00 hw]
       exact ⟨fun _=>rfl,fun _=>j1v.2 (.inl ⟨h1,h2⟩)⟩
    have hA7:A.length≤30000:=by
     have:L.2.2.2.2.2.2.1.length*(M+1)≤14*61:=Nat.mul_le_mul hwl (by omega)
     omega
    have hfin:∀ out:SL,StS (c-1) out→(∀ t,inS t out→t<b)→(∀ t,c≤t→t<b→(inS t out↔inS t A∧calB zs cs L t=true))→StS (a-1) out∧∀ t,inS t out↔a≤t∧t<b∧onX zs cs L t=true:=fun out h1 h2 h3=>by
     refine ⟨h1.weak (by omega),fun t=>⟨fun hx=> ?_,fun ⟨g1,g2,g3⟩=> ?_⟩⟩
     ·have l1:=StS.low h1 hx
      have l2:=h2 t hx
      refine ⟨by omega,l2,?_⟩
      have:=(h3 t (by omega) l2).1 hx
      unfold onX
      rw [j01 ((hsh t (by omega) l2).2 ((hq t).2 (by omega))),(hA5 t (by omega) l2).1 this.1,this.2]
      rfl
     ·have hk:=(jtH hs hL (ss:=[]) (t:=t) (by omega) (by omega)).2.2 g3
      have hvt:=(hq t).1 ((hsh t g1 g2).1 hk)
      have hct:c≤t:=by
       apply Classical.byContradiction
       intro hn
       have:=hcc t g1 (by omega)
       omega
      refine (h3 t hct g2).2 ⟨(hA5 t hct g2).2 ?_,?_⟩
      ·unfold onX at g3
       rw [j01 hk] at g3
       revert g3
       cases okW L.2.2.2.2.2.2.1 (secD (locD (zAt zs L.2.1) t))<;>simp
      ·unfold onX at g3
       rw [j01 hk] at g3
       revert g3
       cases okW L.2.2.2.2.2.2.1 (secD (locD (zAt zs L.2.1) t))<;>simp
    by_cases hm:L.2.2.2.2.2.2.2.2=0
    ·have hout:=hfin A hA3 hA4 (fun t _ _=>by unfold calB;rw [j7a hm];simp)
     rw [j48 (show ¬ L.2.2.2.2.2.2.2.2=1 by omega),j48 (show ¬ L.2.2.2.2.2.2.2.2=2 by omega),if_pos hm]
     simp only [j6]
     by_cases hw:(L.2.2.2.2.2.2.1.length:Int)>0
     ·rw [show Int.ofNat L.2.2.2.2.2.2.1.length=(L.2.2.2.2.2.2.1.length:Int) from rfl,j01 hw,j5,show j3N ((tb (zs.getD L.2.1.toNat (ByteArray.empty,((0:Int),([]:List Rule))))).1,(tb (zs.getD L.2.1.toNat (ByteArray.empty,((0:Int),([]:List Rule))))).2) L.2.2.2.2.2.2.1 c b=_ from hA1 hw]
      simp only [j3]
      exact ⟨A,rfl,hout.1,hout.2,by omega⟩
     ·rw [show Int.ofNat L.2.2.2.2.2.2.1.length=(L.2.2.2.2.2.2.1.length:Int) from rfl,j00 hw,j6,←hA2 hw]
      exact ⟨A,rfl,hout.1,hout.2,by omega⟩
    ·have hcal:=hL.cal hm
     have hx:=cget hs hcal.1 hcal.2
     have hxz:=zget hs.so.ok hx.z0 hx.z1
     have hll2:(tb (zAt zs (cAt cs L.2.2.2.2.2.2.2.1).2.1)).2.length≤20:=jpQ hxz
     obtain ⟨D,e2,d1,d2,d3⟩:=jwI hs hx (ss:=ss) (a:=c) (b:=b) (by omega) (by omega) hb rfl
     have hDl:D.length≤(cAt cs L.2.2.2.2.2.2.2.1).2.2.length*21:=Nat.le_trans d2 (Nat.mul_le_mul_left _ (by
      have:(tb (zAt zs (cAt cs L.2.2.2.2.2.2.2.1).2.1)).2.length+1≤21:=by omega
      exact this))
     have hDl2:D.length≤2000:=by
      have:=hx.len
      have h64:(cAt cs L.2.2.2.2.2.2.2.1).2.2.length≤64:=this
      omega
     have hdx:∀ t,c≤t→t<b→(inS t D↔(locD (zAt zs (cAt cs L.2.2.2.2.2.2.2.1).2.1) t).1∈(cAt cs L.2.2.2.2.2.2.2.1).2.2):=fun t h1 h2=>d3 t _ h1 h2 (jpR hxz (by omega) (by omega)).1
     rw [if_neg hm,j14 hcal.1 hcal.2]
     have hmode:L.2.2.2.2.2.2.2.2=1∨L.2.2.2.2.2.2.2.2=2:=by have:=hL.mode0;have:=hL.mode1;omega
     rcases hmode with hm1 | hm2
     ·obtain ⟨out,e3,w1,w2,w3⟩:=jip (by omega) hA3 d1 (by omega)
      have hout:=hfin out w1 (fun t h=>hA4 t ((w2 t).1 h).1) (fun t h1 h2=>by
       rw [w2 t,hdx t h1 h2]
       unfold calB
       rw [j48 hm,j48 (show ¬ L.2.2.2.2.2.2.2.2=2 by omega),j6]
       simp)
      rw [j7a hm1]
      simp only [j5]
      by_cases hw:(L.2.2.2.2.2.2.1.length:Int)>0
      ·rw [show Int.ofNat L.2.2.2.2.2.2.1.length=(L.2.2.2.2.2.2.1.length:Int) from rfl,j01 hw,j5,show j3N ((tb (zs.getD L.2.1.toNat (ByteArray.empty,((0:Int),([]:List Rule))))).1,(tb (zs.getD L.2.1.toNat (ByteArray.empty,((0:Int),([]:List Rule))))).2) L.2.2.2.2.2.2.1 c b=_ from hA1 hw]
       simp only [j3]
       refine ⟨out,?_,hout.1,hout.2,by omega⟩
       rw [show j1P ((zs,(ps,(cs,ss))),zs.map tb) ((cs.getD L.2.2.2.2.2.2.2.1.toNat (ByteArray.empty,((0:Int),([]:List Int)))).1,(cs.getD L.2.2.2.2.2.2.2.1.toNat (ByteArray.empty,((0:Int),([]:List Int)))).2.1,(cs.getD L.2.2.2.2.2.2.2.1.toNat (ByteArray.empty,((0:Int),([]:List Int)))).2.2) c b=_ from e2]
       simp only [j3,e3]
      ·rw [show Int.ofNat L.2.2.2.2.2.2.1.length=(L.2.2.2.2.2.2.1.length:Int) from rfl,j00 hw,j6,←hA2 hw]
       refine ⟨out,?_,hout.1,hout.2,by omega⟩
       rw [show j1P ((zs,(ps,(cs,ss))),zs.map tb) ((cs.getD L.2.2.2.2.2.2.2.1.toNat (ByteArray.empty,((0:Int),([]:List Int)))).1,(cs.getD L.2.2.2.2.2.2.2.1.toNat (ByteArray.empty,((0:Int),([]:List Int)))).2.1,(cs.getD L.2.2.2.2.2.2.2.1.toNat (ByteArray.empty,((0:Int),([]:List Int)))).2.2) c b=_ from e2]
       simp only [j3,e3]
     ·obtain ⟨out,e3,w1,w2,w3⟩:=jtF hA3 d1 (by omega) (by omega)
      have hout:=hfin out w1 (fun t h=>hA4 t ((w2 t).1 h).1) (fun t h1 h2=>by
       rw [w2 t,hdx t h1 h2]
       unfold calB
       rw [j48 hm,j7a hm2,j6]
       simp)
      rw [j48 (show ¬ L.2.2.2.2.2.2.2.2=1 by omega),j7a hm2]
      simp only [j5,j6]
      by_cases hw:(L.2.2.2.2.2.2.1.length:Int)>0
      ·rw [show Int.ofNat L.2.2.2.2.2.2.1.length=(L.2.2.2.2.2.2.1.length:Int) from rfl,j01 hw,j5,show j3N ((tb (zs.getD L.2.1.toNat (ByteArray.empty,((0:Int),([]:List Rule))))).1,(tb (zs.getD L.2.1.toNat (ByteArray.empty,((0:Int),([]:List Rule))))).2) L.2.2.2.2.2.2.1 c b=_ from hA1 hw]
       simp only [j3]
       refine ⟨out,?_,hout.1,hout.2,by omega⟩
       rw [show j1P ((zs,(ps,(cs,ss))),zs.map tb) ((cs.getD L.2.2.2.2.2.2.2.1.toNat (ByteArray.empty,((0:Int),([]:List Int)))).1,(cs.getD L.2.2.2.2.2.2.2.1.toNat (ByteArray.empty,((0:Int),([]:List Int)))).2.1,(cs.getD L.2.2.2.2.2.2.2.1.toNat (ByteArray.empty,((0:Int),([]:List Int)))).2.2) c b=_ from e2]
       simp only [j3,e3]
      ·rw [show Int.ofNat L.2.2.2.2.2.2.1.length=(L.2.2.2.2.2.2.1.length:Int) from rfl,j00 hw,j6,←hA2 hw]
       refine ⟨out,?_,hout.1,hout.2,by omega⟩
       rw [show j1P ((zs,(ps,(cs,ss))),zs.map tb) ((cs.getD L.2.2.2.2.2.2.2.1.toNat (ByteArray.empty,((0:Int),([]:List Int)))).1,(cs.getD L.2.2.2.2.2.2.2.1.toNat (ByteArray.empty,((0:Int),([]:List Int)))).2.1,(cs.getD L.2.2.2.2.2.2.2.1.toNat (ByteArray.empty,((0:Int),([]:List Int)))).2.2) c b=_ from e2]
       simp only [j3,e3]
end
abbrev SgT:=Int×(Int×Int)
abbrev SgL:=List SgT
def Ch (f:Int→Int) (b:Int):Int→SgL→Prop
 | a,[]=>a=b
 | a,s::r=>s.1=a∧a≤s.2.1∧(∀ t,a≤t→t<s.2.1→f t=s.2.2)∧Ch f b s.2.1 r
def Cov (f:Int→Int) (b:Int):Option Int→Int→SgL→Prop
 | _,a,[]=>a=b
 | q,a,s::r=>s.1=a∧a<s.2.1∧q≠some s.2.2∧(∀ t,a≤t→t<s.2.1→f t=s.2.2)∧Cov f b (some s.2.2) s.2.1 r
theorem Ch.le {f:Int→Int} {b:Int}:∀ {l:SgL} {a:Int},Ch f b a l→a≤b
 | [],_,h=>Int.le_of_eq h
 | _::_,_,h=>Int.le_trans h.2.1 h.2.2.2.le
theorem Ch.app {f:Int→Int} {b c:Int}:∀ {l r:SgL} {a:Int},Ch f b a l→Ch f c b r→Ch f c a (l++r)
 | [],_,_,h,h'=>by have h:_=_:=h;subst h;exact h'
 | _::_,_,_,h,h'=>⟨h.1,h.2.1,h.2.2.1,h.2.2.2.app h'⟩
theorem Ch.snoc {f:Int→Int} {b c p:Int} {l:SgL} {a:Int} (h:Ch f b a l) (hbc:b≤c) (hp:∀ t,b≤t→t<c→f t=p):Ch f c a (l++[(b,(c,p))]):=
 h.app ⟨rfl,hbc,hp,rfl⟩
theorem Cov.ch {f:Int→Int} {b:Int}:∀ {l:SgL} {q:Option Int} {a:Int},Cov f b q a l→Ch f b a l
 | [],_,_,h=>h
 | _::_,_,_,h=>⟨h.1,Int.le_of_lt h.2.1,h.2.2.2.1,h.2.2.2.2.ch⟩
def lstP:Option Int→SgL→Option Int
 | q,[]=>q
 | _,s::r=>lstP (some s.2.2) r
theorem joM:∀ (l:SgL) (q:Option Int) (s:SgT),lstP q (l++[s])=some s.2.2
 | [],_,_=>rfl
 | _::r,_,s=>joM r _ s
theorem Cov.snoc {f:Int→Int} {b c p:Int}:∀ {l:SgL} {q:Option Int} {a:Int},Cov f b q a l→b<c→lstP q l≠some p→(∀ t,b≤t→t<c→f t=p)→Cov f c q a (l++[(b,(c,p))])
 | [],_,_,h,hbc,hl,hp=>by have h:_=_:=h;subst h;exact ⟨rfl,hbc,hl,hp,rfl⟩
 | _::_,_,_,h,hbc,hl,hp=>⟨h.1,h.2.1,h.2.2.1,h.2.2.2.1,h.2.2.2.2.snoc hbc hl hp⟩
theorem Cov.ext {f:Int→Int} {b c x p:Int}:∀ {l:SgL} {q:Option Int} {a:Int},Cov f b q a (l++[(x,(b,p))])→b≤c→(∀ t,b≤t→t<c→f t=p)→Cov f c q a (l++[(x,(c,p))])
 | [],_,_,h,hbc,hp=>⟨h.1,by have:=h.2.1;dsimp only at this ⊢;omega,h.2.2.1,fun t h1 h2=>by
  by_cases ht:t<b
  ·exact h.2.2.2.1 t h1 ht
  ·exact hp t (by omega) h2,rfl⟩
 | _::_,_,_,h,hbc,hp=>⟨h.1,h.2.1,h.2.2.1,h.2.2.2.1,h.2.2.2.2.ext hbc hp⟩
def mgA (out:SgL) (s:SgT):SgL:=
 if s.2.1≤s.1 then out else match out.getLast? with
  | some x=>if x.2.1=s.1∧x.2.2=s.2.2 then out.dropLast++[(x.1,(s.2.1,x.2.2))] else out++[s]
  | none=>out++[s]
theorem jxT {f:Int→Int} {a b:Int} {out:SgL} (h:Cov f b none a out) {s:SgT} (h1:s.1=b) (h2:b≤s.2.1) (h3:∀ t,b≤t→t<s.2.1→f t=s.2.2):Cov f s.2.1 none a (mgA out s):=by
 obtain ⟨x,y,p⟩:=s
 dsimp only at h1 h2 h3 ⊢
 subst h1
 unfold mgA
 dsimp only
 by_cases hxy:y≤x
 ·rw [if_pos hxy]
  have:y=x:=by omega
  subst this;exact h
 ·rw [if_neg hxy]
  rcases List.eq_nil_or_concat out with rfl | ⟨l,u,rfl⟩
  ·exact h.snoc (by omega) (by simp [lstP]) h3
  ·rw [List.concat_eq_append] at h ⊢
   rw [List.getLast?_append]
   simp only [List.getLast?_singleton,Option.some_or]
   by_cases hu:u.2.1=x∧u.2.2=p
   ·rw [if_pos hu,List.dropLast_concat]
    obtain ⟨u1,u2,u3⟩:=u
    dsimp only at hu ⊢
    obtain ⟨rfl,rfl⟩:=hu
    exact h.ext h2 h3
   ·rw [if_neg hu]
    refine h.snoc (by omega) ?_ h3
    rw [joM]
    intro e
    have hp:u.2.2=p:=by simpa using e
    refine hu ⟨?_,hp⟩
    have:∀ (l:SgL) (q:Option Int) (a:Int),Cov f x q a (l++[u])→u.2.1=x:=by
     intro l
     induction l with
     | nil=>intro q a h;exact h.2.2.2.2
     | cons v r ih=>intro q a h;exact ih _ _ h.2.2.2.2
    exact this l _ _ h
theorem jvH {f:Int→Int} {b:Int}:∀ (l:SgL) {a c:Int} {out:SgL},Cov f c none a out→Ch f b c l→Cov f b none a (l.foldl mgA out)
 | [],_,_,_,h,h'=>by have h':_=_:=h';subst h';exact h
 | s::r,_,_,_,h,h'=>jvH r (jxT h h'.1 h'.2.1 h'.2.2.1) h'.2.2.2
theorem Ch.cov {f:Int→Int} {a b:Int} {l:SgL} (h:Ch f b a l):Cov f b none a (l.foldl mgA []):=jvH l (show Cov f a none a [] from rfl) h
theorem jxU {f:Int→Int}:∀ {l:SgL} {a b:Int},a≤b→l.Pairwise (fun s u=>s.2.1≤u.1)→(∀ s∈l,s.1<s.2.1∧∀ t,s.1≤t→t<s.2.1→f t=s.2.2)→
  (∀ x,(a≤x∧x<b)↔∃ s∈l,s.1≤x∧x<s.2.1)→Ch f b a l
 | [],a,b,hab,_,_,hc=>by
  apply Classical.byContradiction
  intro hne
  have hne:a≠b:=hne
  obtain ⟨s,hs,_⟩:=(hc a).1 ⟨Int.le_refl _,by omega⟩
  simp at hs
 | s::r,a,b,hab,hp,hf,hc=>by
  obtain ⟨s1,s2⟩:=hf s (by simp)
  obtain ⟨p1,p2⟩:=List.pairwise_cons.1 hp
  have h1:=(hc s.1).2 ⟨s,by simp,Int.le_refl _,s1⟩
  have h2:=(hc (s.2.1-1)).2 ⟨s,by simp,by omega,by omega⟩
  have he:s.1=a:=by
   obtain ⟨u,hu,u1,u2⟩:=(hc a).1 ⟨Int.le_refl _,by omega⟩
   rcases List.mem_cons.1 hu with rfl | hu
   ·omega
   ·have:=p1 u hu;omega
  refine ⟨he,by omega,fun t t1 t2=>s2 t (by omega) t2,jxU (by omega) p2 (fun u hu=>hf u (by simp [hu])) (fun x=>⟨fun hx=> ?_,fun ⟨u,hu,u1,u2⟩=> ?_⟩)⟩
  ·obtain ⟨u,hu,u1,u2⟩:=(hc x).1 ⟨by omega,hx.2⟩
   rcases List.mem_cons.1 hu with rfl | hu
   ·omega
   ·exact ⟨u,hu,u1,u2⟩
  ·have:=p1 u hu
   have:=(hc x).2 ⟨u,by simp [hu],u1,u2⟩
   omega
theorem Ch.mem {f:Int→Int} {b:Int}:∀ {l:SgL} {a:Int},Ch f b a l→∀ s∈l,a≤s.1∧s.1≤s.2.1∧s.2.1≤b∧∀ t,s.1≤t→t<s.2.1→f t=s.2.2
 | [],_,_,s,hs=>by simp at hs
 | u::r,a,h,s,hs=>by
  obtain ⟨h1,h2,h3,h4⟩:=h
  rcases List.mem_cons.1 hs with rfl | hs
  ·exact ⟨by omega,by omega,h4.le,fun t t1 t2=>h3 t (by omega) t2⟩
  ·have:=h4.mem s hs
   exact ⟨by omega,this.2.1,this.2.2.1,this.2.2.2⟩
theorem Ch.has {f:Int→Int} {b:Int}:∀ {l:SgL} {a:Int},Ch f b a l→∀ x,a≤x→x<b→∃ s∈l,s.1≤x∧x<s.2.1
 | [],_,h,x,h1,h2=>by have h:_=_:=h;omega
 | u::r,a,h,x,h1,h2=>by
  obtain ⟨g1,g2,g3,g4⟩:=h
  by_cases hx:x<u.2.1
  ·exact ⟨u,by simp,by omega,hx⟩
  ·obtain ⟨s,hs,e⟩:=g4.has x (by omega) h2
   exact ⟨s,by simp [hs],e⟩
theorem Cov.pos {f:Int→Int} {b:Int}:∀ {l:SgL} {q:Option Int} {a:Int},Cov f b q a l→∀ s∈l,s.1<s.2.1
 | [],_,_,_,s,hs=>by simp at hs
 | u::r,_,a,h,s,hs=>by
  rcases List.mem_cons.1 hs with rfl | hs
  ·have:=h.1;have:=h.2.1;omega
  ·exact h.2.2.2.2.pos s hs
end Go.Proofs.Pw
