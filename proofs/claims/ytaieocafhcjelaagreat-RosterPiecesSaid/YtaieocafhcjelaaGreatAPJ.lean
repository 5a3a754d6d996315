/- duty.View.Times: the instants of a range in which a layer is on duty. -/
import Derived.Test.YtaieocafhcjelaaGreatAPH
import Derived.Test.YtaieocafhcjelaaGreatAPI
noncomputable section
open Go Go.Lft
namespace Go.Proofs.Pw
theorem jCC {d:Int} (h:j0W d=some true):0≤d:=by
 apply jm
 intro hd
 simp only [j0W,j59,jkh,jkg,j3] at h
 rw [j01 (show d<0 by omega)] at h
 simp at h
def dsp (p:Int×(Int×Int)) (d:Int):Int×Int:=
 (if d*86400-p.2.2>p.1 then d*86400-p.2.2 else p.1,if d*86400-p.2.2+86400<p.2.1 then d*86400-p.2.2+86400 else p.2.1)
theorem jCD {ds:List Int} (hd:∀ d∈ds,0≤d∧d≤100000) (hl:ds.length≤64) {p:Int×(Int×Int)} (hp : -64800≤p.2.2∧p.2.2≤64800) {m q z:Int} {nm:ByteArray} {ps:List (Int×(Int×Int))}:∀ (n i:Nat) (acc:SL),i+n=ds.length→acc.length+n≤1000000→
  j3v m q ds (ds.length:Int) (i:Int) nm z ds p.1 p.2.1 p.2.2 acc ps=some (m,q,nm,z,ds,acc++(ds.drop i).map (dsp p),ps)
 | 0,i,acc,hi,_=>by
  rw [jbK]
  simp only [j3s]
  rw [j00 (by omega),j6,j08,jc (by omega)]
  simp
 | n+1,i,acc,hi,hacc=>by
  have hi':i<ds.length:=by omega
  have hgd:ds.getD i (0:Int)=ds[i]:=by simp [hi']
  have hdi:=hd _ (jg hi')
  rw [jbK]
  simp only [j3s]
  rw [j01 (by omega),j0s (by omega) (by omega)]
  simp only [j5,j7,hgd]
  rw [j02 (x:=ds[i]*86400) (by omega) (by omega),j02 (x:=ds[i]*86400-p.2.2) (by omega) (by omega),j02 (x:=ds[i]*86400-p.2.2+86400) (by omega) (by omega),j02 (x:=(i:Int)+1) (by omega) (by omega),j01 (by simp [j07];omega),jb hi']
  simp only [j5,j05,kj]
  have:=jCD hd hl hp (m:=m) (q:=q) (z:=z) (nm:=nm) (ps:=ps) n (i+1) (acc++[dsp p ds[i]]) (by omega) (by simp;omega)
  rw [jk] at this
  exact this
theorem jCE {ds:List Int} (hd:∀ d∈ds,0≤d∧d≤100000) (hl:ds.length≤64) {z:Int} {nm:ByteArray} {ps:List (Int×(Int×Int))} (hps:∀ p∈ps, -64800≤p.2.2∧p.2.2≤64800) (hpl:ps.length≤100):∀ (n i:Nat) (acc:SL),i+n=ps.length→acc.length≤64*i→
  j3w (ps.length:Int) (i:Int) nm z ds acc ps=some (acc++(ps.drop i).flatMap fun p=>ds.map (dsp p))
 | 0,i,acc,hi,_=>by
  rw [jbL]
  simp only [j1A]
  rw [j00 (by omega),j6,j08,jc (by omega)]
  simp
 | n+1,i,acc,hi,hacc=>by
  have hi':i<ps.length:=by omega
  have hgd:ps.getD i ((0:Int),((0:Int),(0:Int)))=ps[i]:=by simp [List.getD,hi']
  have h2:=jCD hd hl (hps _ (jg hi')) (m:=(ps.length:Int)) (q:=(i:Int)) (z:=z) (nm:=nm) (ps:=ps) ds.length 0 acc (by omega) (by omega)
  have ih:=jCE hd hl (z:=z) (nm:=nm) hps hpl n (i+1) (acc++ds.map (dsp ps[i])) (by omega) (by simp;omega)
  rw [jbL]
  simp only [j1A]
  rw [j01 (by omega),j0s (by omega) (by omega)]
  simp only [j5,j7,hgd,show Int.ofNat ds.length=(ds.length:Int) from rfl]
  rw [show j3v (ps.length:Int) (i:Int) ds (ds.length:Int) 0 nm z ds ps[i].1 ps[i].2.1 ps[i].2.2 acc ps=_ from h2]
  simp only [j3,jy]
  rw [j02 (x:=(i:Int)+1) (by omega) (by omega),j05,jb hi',qv,←jk]
  exact ih
theorem jAc {α β:Type} (f:α→List β) (k:Nat) (hf:∀ a,(f a).length=k):∀ l:List α,(l.flatMap f).length=l.length*k
 | []=>by simp
 | a::l=>by rw [qv,jh,jAc f k hf l,hf,jp,Nat.add_mul,Nat.one_mul];omega
theorem jAd {p:Int×(Int×Int)} {d x:Int}:((dsp p d).1≤x∧x<(dsp p d).2)↔(p.1≤x∧x<p.2.1)∧(x+p.2.2)/86400=d:=by
 simp only [dsp]
 constructor
 ·intro h;split at h<;>split at h<;>omega
 ·intro h;split<;>split<;>omega
section
variable {zs:List j1R} {ps:List j1q} {cs:List CalT} (hs:SOk2 zs ps cs)
include hs
theorem jBj {x:CalT} (hx:CCk zs.length x) {ss:List j1y} {a b:Int} (ha:0≤a) (hab:a≤b) (hb:b≤8589934592) {z:j1R} (hz:zs.getD x.2.1.toNat (ByteArray.empty,((0:Int),([]:List Rule)))=z) :
  ∃ out,j1J ((zs,(ps,(cs,ss))),zs.map tb) x a b=some out∧StS (a-1) out∧out.length≤x.2.2.length*((tb z).2.length+1)∧
   ∀ t d,a≤t→t<b→j0q (tb z) t=some d→(inS t out↔d.1∈x.2.2):=by
 have hlen:(zs.map tb).length=zs.length:=kv ..
 have hg:=jso (zs:=zs) hx.z0 hx.z1
 have hzk:=zget hs.so.ok hx.z0 hx.z1
 rw [hz] at hg hzk
 have ht:=hzk.ztab.2
 have hll:(tb z).2.length≤20:=jBe hzk
 obtain ⟨pc,e,pl,pm,pcov⟩:=jA4 ht ha hab hb
 have hxl:=hx.len
 have hd:∀ d∈x.2.2,0≤d∧d≤100000:=fun d hd=>⟨jCC (hx.day d hd),jA6 (hx.day d hd)⟩
 have hpo:∀ p∈pc, -64800≤p.2.2∧p.2.2≤64800:=fun p hp=>by
  obtain ⟨_,_,_,i,i1,i2,_⟩:=pm p hp
  have:=ht.of0 i i1;have:=ht.of1 i i1;omega
 have l0:=jCE hd hxl (z:=x.2.1) (nm:=x.1) hpo (by omega) pc.length 0 [] (by omega) (by simp)
 rw [jt,jy] at l0
 have hEl:(pc.flatMap fun p=>x.2.2.map (dsp p)).length=pc.length*x.2.2.length:=jAc _ _ (fun p=>kv ..) pc
 have hm:pc.length*x.2.2.length≤((tb z).2.length+1)*x.2.2.length:=jw _ pl
 have hm2:((tb z).2.length+1)*x.2.2.length≤21*64:=zj (by omega) hxl
 have hmem:∀ s∈(pc.flatMap fun p=>x.2.2.map (dsp p)),∃ p∈pc,∃ d∈x.2.2,s=dsp p d:=fun s h=>by
  obtain ⟨p,hp,h⟩:=zo.1 h
  obtain ⟨d,hd,rfl⟩:=k7.1 h
  exact ⟨p,hp,d,hd,rfl⟩
 obtain ⟨out,e2,s1,s2,s3,s4⟩:=jmf (l:=pc.flatMap fun p=>x.2.2.map (dsp p)) (by omega) (fun s h=>by
  obtain ⟨p,hp,d,hdm,rfl⟩:=hmem s h
  obtain ⟨h1,h2,h3,_⟩:=pm p hp
  have:=hpo p hp;have:=hd d hdm
  simp only [dsp]
  refine ⟨?_,?_,?_,?_⟩<;>split<;>omega) (lo:=a) (hi:=b) (fun s h hlt=>by
  obtain ⟨p,hp,d,hdm,rfl⟩:=hmem s h
  obtain ⟨h1,h2,h3,_⟩:=pm p hp
  simp only [dsp] at hlt ⊢
  refine ⟨?_,?_⟩<;>split<;>omega)
 refine ⟨out,?_,s1,by rw [Nat.mul_comm];omega,fun t d h1 h2 hdd=> ?_⟩
 ·simp only [j1J]
  rw [j0s hx.z0 (by rw [hlen];exact hx.z1)]
  simp only [j5,hg,show j1j ((tb z).1,(tb z).2) a b=_ from e,j3,show Int.ofNat pc.length=(pc.length:Int) from rfl]
  rw [show j3w (pc.length:Int) 0 x.1 x.2.1 x.2.2 [] pc=_ from l0]
  simp only [j3,e2]
 ·obtain ⟨k,hk,k1,k2⟩:=jfF ht (t:=t) (by omega) (by omega)
  have:=jk3 ht hk k1 k2
  have hdv:=hdd.symm.trans this
  simp only [j4] at hdv
  subst hdv
  dsimp only
  rw [s2 t]
  constructor
  ·rintro ⟨s,hs',h3,h4⟩
   obtain ⟨p,hp,d,hdm,rfl⟩:=hmem s hs'
   obtain ⟨c1,c2⟩:=jAd.1 ⟨h3,h4⟩
   obtain ⟨_,_,_,i,i1,i2,i3,i4⟩:=pm p hp
   have:i=k:=jhE ht i1 hk (t:=t) (by omega) (by omega) k1 k2
   subst this
   rw [←i2,c2];exact hdm
  ·intro hdm
   obtain ⟨p,hp,c1,c2⟩:=pcov t h1 h2
   obtain ⟨_,_,_,i,i1,i2,i3,i4⟩:=pm p hp
   have:i=k:=jhE ht i1 hk (t:=t) (by omega) (by omega) k1 k2
   subst this
   obtain ⟨g1,g2⟩:=jAd.2 ⟨⟨c1,c2⟩,show (t+p.2.2)/86400=(t+tof z.2.1 (tb z).2 i)/86400 by rw [i2]⟩
   exact ⟨_,zo.2 ⟨p,hp,k7.2 ⟨_,hdm,rfl⟩⟩,g1,g2⟩
omit hs in
def zAt (zs:List j1R) (i:Int):j1R:=zs.getD i.toNat (ByteArray.empty,((0:Int),([]:List Rule)))
omit hs in
def cAt (cs:List CalT) (i:Int):CalT:=cs.getD i.toNat (ByteArray.empty,((0:Int),([]:List Int)))
omit hs in
def locD (z:j1R) (t:Int):Int×Int:=(j0q (tb z) t).getD (0,0)
omit hs in
def secD (d:Int×Int):Int:=(j3H d).getD 0
omit hs in
def shK (z:j1R) (L:j0w) (t:Int):Int:=(j1V (tb z) L t).getD (-1)
omit hs in
def calB (zs:List j1R) (cs:List CalT) (L:j0w) (t:Int):Bool:=
 cond (L.2.2.2.2.2.2.2.2==0) true (decide ((locD (zAt zs (cAt cs L.2.2.2.2.2.2.2.1).2.1) t).1∈(cAt cs L.2.2.2.2.2.2.2.1).2.2)==(L.2.2.2.2.2.2.2.2==(2:Int)))
omit hs in
def onX (zs:List j1R) (cs:List CalT) (L:j0w) (t:Int):Bool:=
 cond (decide (0≤shK (zAt zs L.2.1) L t)) (cond (okW L.2.2.2.2.2.2.1 (secD (locD (zAt zs L.2.1) t))) (calB zs cs L t) false) false
omit hs in
def perX (zs:List j1R) (cs:List CalT) (L:j0w) (t:Int):Int:=cond (onX zs cs L t) (whoL L (shK (zAt zs L.2.1) L t)) (-1)
omit hs in
theorem jqB {z:j1R} (hz:ZOk z) {t:Int} (h0:0≤t) (h1:t≤8589934592):j0q (tb z) t=some (locD z t)∧j3H (locD z t)=some (secD (locD z t)):=by
 obtain ⟨d,s,hd,hsc⟩:=jCs hz h0 h1
 have:locD z t=d:=by simp [locD,hd]
 rw [this]
 exact ⟨hd,by simp [secD,hsc]⟩
omit hs in
theorem jhf {z:j1R} (hz:ZOk z) {L:j0w} (hR:Rt L) {t:Int} (h0:0≤t) (h1:t≤8589934592):j1V (tb z) L t=some (shK z L t)∧ShO z.2.1 (tb z).2 L t (shK z L t):=by
 obtain ⟨K,e,hK⟩:=jDp hz.ztab.2 hR h0 h1
 have:shK z L t=K:=by simp only [shK,show j1V (tb z) L t=_ from e,z6]
 rw [this]
 exact ⟨e,hK⟩
theorem jxW {L:j0w} (hL:LCk zs.length ps.length cs.length L) {ss:List j1y} {t:Int} (h0:0≤t) (h1:t≤8589934592) :
  (∃ r,j4A ((zs,(ps,(cs,ss))),zs.map tb) L t=some (r,onX zs cs L t))∧j20 ((zs,(ps,(cs,ss))),zs.map tb) L t=some (perX zs cs L t)∧(onX zs cs L t=true→0≤shK (zAt zs L.2.1) L t):=by
 have hRt:=hL.rt2
 have hz:=zget hs.so.ok hL.z0 hL.z1
 obtain ⟨hd,hsc⟩:=jqB hz h0 h1
 obtain ⟨eK,hK⟩:=jhf hz hRt h0 h1
 have hon:onX zs cs L t=true→0≤shK (zAt zs L.2.1) L t:=fun h=>by
  by_cases hk:0≤shK (zAt zs L.2.1) L t
  ·exact hk
  ·unfold onX at h;rw [j00 hk] at h;simp at h
 obtain ⟨r,er,hr⟩:=jCr (ps:=ps) (ss:=ss) hs.so.ok hL hRt h0 h1 rfl hd hsc eK (calB zs cs L t) (fun h=>by unfold calB;rw [j4Q h];rfl) (fun h=>⟨_,rfl,cget hs (hL.cal h).1 (hL.cal h).2,_,(jqB (zget hs.so.ok (cget hs (hL.cal h).1 (hL.cal h).2).z0 (cget hs (hL.cal h).1 (hL.cal h).2).z1) h0 h1).1,by
  unfold calB;rw [j2c h];rfl⟩)
 exact ⟨⟨r,er⟩,jzq hL.m0 er hr hon,hon⟩
theorem jBk {L:j0w} (hL:LCk zs.length ps.length cs.length L) {t:Int} (h0:0≤t) (h1:t≤8589934592):(onX zs cs L t=true↔0≤perX zs cs L t) ∧ -1≤perX zs cs L t∧perX zs cs L t<ps.length:=by
 have hon:=(jxW hs hL (ss:=[]) h0 h1).2.2
 unfold perX
 have hp:=hs.so.p0
 cases hc:onX zs cs L t with
 | false=>simp;omega
 | true=>
  have hk:=hon hc
  have hm0:=hL.m0
  have q1:0≤Int.tmod (shK (zAt zs L.2.1) L t) (L.2.2.2.2.2.1.length:Int):=vi _ hk
  have q2:Int.tmod (shK (zAt zs L.2.1) L t) (L.2.2.2.2.2.1.length:Int)<(L.2.2.2.2.2.1.length:Int):=zr _ (by omega)
  have hi:(Int.tmod (shK (zAt zs L.2.1) L t) (L.2.2.2.2.2.1.length:Int)).toNat<L.2.2.2.2.2.1.length:=by omega
  have e:whoL L (shK (zAt zs L.2.1) L t)=L.2.2.2.2.2.1[(Int.tmod (shK (zAt zs L.2.1) L t) (L.2.2.2.2.2.1.length:Int)).toNat]:=by simp [whoL,List.getD,hi]
  rw [j5,e]
  have:=hL.mem _ (jg hi)
  exact ⟨⟨fun _=>this.1,fun _=>rfl⟩,by omega,this.2⟩
theorem jxX {L:j0w} (hL:LCk zs.length ps.length cs.length L) {ss:List j1y} {a b:Int} (ha:0≤a) (hab:a≤b) (hb:b≤8589934592) {M:Nat} (hM:M≤60) (hlen:b-a≤604800*M) :
  ∃ out,j3O ((zs,(ps,(cs,ss))),zs.map tb) L a b=some out∧StS (a-1) out∧(∀ t,inS t out↔a≤t∧t<b∧onX zs cs L t=true)∧
   out.length≤L.2.2.2.2.2.2.1.length*(M+1)*5+1+(if L.2.2.2.2.2.2.2.2=0 then 0 else (cAt cs L.2.2.2.2.2.2.2.1).2.2.length*5):=by
 have hRt:=hL.rt2
 have hzl:(zs.map tb).length=zs.length:=kv ..
 have hz:=zget hs.so.ok hL.z0 hL.z1
 have hg:=jso (zs:=zs) hL.z0 hL.z1
 have hwl:=hL.wl
 have hll:(tb (zAt zs L.2.1)).2.length≤4:=jqA hz
 obtain ⟨v,ev,hv⟩:=recH hz.ztab.2 hRt (k:=0) (by omega) (by omega)
 have hsh:∀ t,a≤t→t<b→(0≤shK (zAt zs L.2.1) L t↔QO (zAt zs L.2.1).2.1 (tb (zAt zs L.2.1)).2 L t 0):=fun t h1 h2=>by
  have hK:=(jhf hz hRt (t:=t) (by omega) (by omega)).2
  constructor
  ·intro hk
   rcases hK with ⟨hK,_⟩ | ⟨_,hq,_⟩
   ·have:shK (zAt zs L.2.1) L t = -1:=hK
    omega
   ·exact QO.le hz.ztab.2 hRt hk hq
  ·intro hq
   rcases hK with ⟨_,hn⟩ | ⟨hk,_,_⟩
   ·exact absurd hq hn
   ·exact hk
 have hoff:∀ t,a≤t→t<b→¬ QO (zAt zs L.2.1).2.1 (tb (zAt zs L.2.1)).2 L t 0→onX zs cs L t=false:=fun t h1 h2 hq=>by
  unfold onX
  rw [j00 (fun h=>hq ((hsh t h1 h2).1 h))]
  rfl
 simp only [j3O]
 rw [j0s hL.z0 (by rw [hzl];exact hL.z1)]
 simp only [j5,hg]
 rw [show j0M ((tb (zs.getD L.2.1.toNat (ByteArray.empty,((0:Int),([]:List Rule))))).1,(tb (zs.getD L.2.1.toNat (ByteArray.empty,((0:Int),([]:List Rule))))).2) (L.1,L.2.1,(L.2.2.1.1,L.2.2.1.2),L.2.2.2.1,L.2.2.2.2.1,L.2.2.2.2.2.1,L.2.2.2.2.2.2.1,L.2.2.2.2.2.2.2.1,L.2.2.2.2.2.2.2.2) 0=_ from ev]
 simp only [j3]
 have hemp:∀ (P:∀ t,a≤t→t<b→onX zs cs L t=false),∃ out,some ([]:SL)=some out∧StS (a-1) out∧(∀ t,inS t out↔a≤t∧t<b∧onX zs cs L t=true)∧
   out.length≤L.2.2.2.2.2.2.1.length*(M+1)*5+1+(if L.2.2.2.2.2.2.2.2=0 then 0 else (cAt cs L.2.2.2.2.2.2.2.1).2.2.length*5):=fun P=>
  ⟨[],rfl,trivial,fun t=>⟨fun h=>absurd h j4x,fun ⟨h1,h2,h3⟩=>by rw [P t h1 h2] at h3;simp at h3⟩,ka _⟩
 cases hh:hO (zs.getD L.2.1.toNat (ByteArray.empty,((0:Int),([]:List Rule)))).2.1 (tb (zs.getD L.2.1.toNat (ByteArray.empty,((0:Int),([]:List Rule))))).2 L 0 with
 | none=>
  simp only [zt,ju,j5]
  exact hemp fun t h1 h2=>hoff t h1 h2 (by
   rintro ⟨u,hu,_⟩
   have hu':=hh.symm.trans hu
   simp at hu')
 | some u=>
  have:=hv u hh
  subst this
  have hq:∀ t,QO (zAt zs L.2.1).2.1 (tb (zAt zs L.2.1)).2 L t 0↔v≤t:=fun t=>⟨fun ⟨u,hu,hut⟩=>by
   have hu':=hh.symm.trans hu
   simp only [j4] at hu'
   omega,fun h=>⟨v,hh,h⟩⟩
  simp only [zb,jj,j6]
  by_cases hvb:v≥b
  ·rw [j01 hvb]
   simp only [j5]
   exact hemp fun t h1 h2=>hoff t h1 h2 (fun h=>by have:=(hq t).1 h;omega)
  ·rw [j00 hvb]
   simp only [j6]
   by_cases hab2:a≥b
   ·rw [j01 hab2]
    simp only [j5]
    exact hemp fun t h1 h2=>by omega
   ·rw [j00 hab2]
    simp only [j6]
    obtain ⟨c,hc,hca,hcv,hcb,hcc⟩:∃ c:Int,c=(if v>a then v else a)∧a≤c∧v≤c∧c<b∧∀ t,a≤t→t<c→t<v:=⟨_,rfl,by split<;>omega,by split<;>omega,by split<;>omega,fun t h1 h2=>by split at h2<;>omega⟩
    rw [←hc]
    obtain ⟨A,hA1,hA2,hA3,hA4,hA5,hA6⟩:∃ A:SL,((L.2.2.2.2.2.2.1.length:Int)>0→j3M (tb (zAt zs L.2.1)) L.2.2.2.2.2.2.1 c b=some A)∧(¬ (L.2.2.2.2.2.2.1.length:Int)>0→A=[(c,b)])∧StS (c-1) A∧
      (∀ t,inS t A→t<b)∧(∀ t,c≤t→t<b→(inS t A↔okW L.2.2.2.2.2.2.1 (secD (locD (zAt zs L.2.1) t))=true))∧A.length≤L.2.2.2.2.2.2.1.length*(M+1)*5+1:=by
     by_cases hw:(L.2.2.2.2.2.2.1.length:Int)>0
     ·obtain ⟨A,e,s1,s2,s3,s4⟩:=jvR hz.ztab.2 (q9 hll (by omega)) hL.w hwl hM (a:=c) (b:=b) (by omega) (by omega) hb (by omega)
      refine ⟨A,fun _=>e,fun h=>absurd hw h,s1,fun t ⟨s,hs',h1,h2⟩=>by have:=(s2 s hs').2;omega,fun t h1 h2=> ?_,?_⟩
      ·obtain ⟨k,hk,k1,k2⟩:=jfF hz.ztab.2 (t:=t) (by omega) (by omega)
       rw [s4 k hk t h1 h2 k1 k2]
       have hloc:locD (zAt zs L.2.1) t=((t+tof (zAt zs L.2.1).2.1 (tb (zAt zs L.2.1)).2 k)/86400,(t+tof (zAt zs L.2.1).2.1 (tb (zAt zs L.2.1)).2 k)%86400):=by
        unfold locD
        rw [show j0q (tb (zAt zs L.2.1)) t=_ from jk3 hz.ztab.2 hk k1 k2]
        rfl
       have o0:=hz.ztab.2.of0 k hk;have o1:=hz.ztab.2.of1 k hk
       have hsec:secD (locD (zAt zs L.2.1) t)=(t+tof (zAt zs L.2.1).2.1 (tb (zAt zs L.2.1)).2 k+259200)%604800:=by
        rw [hloc]
        simp only [secD,j3H]
        have o0' : -64800≤tof (zAt zs L.2.1).2.1 (tb (zAt zs L.2.1)).2 k:=o0
        have o1':tof (zAt zs L.2.1).2.1 (tb (zAt zs L.2.1)).2 k≤64800:=o1
        rw [jhD _ (by omega)]
        simp only [j3,z6]
        generalize tof (zAt zs L.2.1).2.1 (tb (zAt zs L.2.1)).2 k=o at *
        rw [j02 (x:=((t+o)/86400+3)%7*86400) (by omega) (by omega),j02 (by omega) (by omega)]
        omega
       rw [hsec]
       unfold okW
       rw [j01 hw]
       rfl
      ·have:L.2.2.2.2.2.2.1.length*(M+1)*((tb (zAt zs L.2.1)).2.length+1)≤L.2.2.2.2.2.2.1.length*(M+1)*5:=Nat.mul_le_mul_left _ (by omega)
       have s3':A.length≤L.2.2.2.2.2.2.1.length*(M+1)*((tb (zAt zs L.2.1)).2.length+1):=s3
       omega
     ·refine ⟨[(c,b)],fun h=>absurd h hw,fun _=>rfl,⟨by dsimp only;omega,hcb,trivial⟩,fun t h=> ?_,fun t h1 h2=> ?_,by simp⟩
      ·rcases j1r.1 h with h | h
       ·exact h.2
       ·exact absurd h j4x
      ·unfold okW
       rw [j00 hw]
       exact ⟨fun _=>rfl,fun _=>j1r.2 (.inl ⟨h1,h2⟩)⟩
    have hA7:A.length≤30000:=by
     have:L.2.2.2.2.2.2.1.length*(M+1)≤14*61:=zj hwl (by omega)
     omega
    have hfin:∀ out:SL,StS (c-1) out→(∀ t,inS t out→t<b)→(∀ t,c≤t→t<b→(inS t out↔inS t A∧calB zs cs L t=true))→StS (a-1) out∧∀ t,inS t out↔a≤t∧t<b∧onX zs cs L t=true:=fun out h1 h2 h3=>by
     refine ⟨h1.weak (by omega),fun t=>⟨fun hx=> ?_,fun ⟨g1,g2,g3⟩=> ?_⟩⟩
     ·have l1:=StS.low h1 hx
      have l2:=h2 t hx
      refine ⟨by omega,l2,?_⟩
      have:=(h3 t (by omega) l2).1 hx
      unfold onX
      rw [j01 ((hsh t (by omega) l2).2 ((hq t).2 (by omega))),(hA5 t (by omega) l2).1 this.1,this.2]
      rfl
     ·have hk:=(jxW hs hL (ss:=[]) (t:=t) (by omega) (by omega)).2.2 g3
      have hvt:=(hq t).1 ((hsh t g1 g2).1 hk)
      have hct:c≤t:=by
       apply jm
       intro hn
       have:=hcc t g1 (by omega)
       omega
      refine (h3 t hct g2).2 ⟨(hA5 t hct g2).2 ?_,?_⟩
      ·unfold onX at g3
       rw [j01 hk] at g3
       revert g3
       cases okW L.2.2.2.2.2.2.1 (secD (locD (zAt zs L.2.1) t))<;>simp
      ·unfold onX at g3
       rw [j01 hk] at g3
       revert g3
       cases okW L.2.2.2.2.2.2.1 (secD (locD (zAt zs L.2.1) t))<;>simp
    by_cases hm:L.2.2.2.2.2.2.2.2=0
    ·have hout:=hfin A hA3 hA4 (fun t _ _=>by unfold calB;rw [j4Q hm];simp)
     rw [j2c (show ¬ L.2.2.2.2.2.2.2.2=1 by omega),j2c (show ¬ L.2.2.2.2.2.2.2.2=2 by omega),if_pos hm]
     simp only [j6]
     by_cases hw:(L.2.2.2.2.2.2.1.length:Int)>0
     ·rw [show Int.ofNat L.2.2.2.2.2.2.1.length=(L.2.2.2.2.2.2.1.length:Int) from rfl,j01 hw,j5,show j3M ((tb (zs.getD L.2.1.toNat (ByteArray.empty,((0:Int),([]:List Rule))))).1,(tb (zs.getD L.2.1.toNat (ByteArray.empty,((0:Int),([]:List Rule))))).2) L.2.2.2.2.2.2.1 c b=_ from hA1 hw]
      simp only [j3]
      exact ⟨A,rfl,hout.1,hout.2,by omega⟩
     ·rw [show Int.ofNat L.2.2.2.2.2.2.1.length=(L.2.2.2.2.2.2.1.length:Int) from rfl,j00 hw,j6,←hA2 hw]
      exact ⟨A,rfl,hout.1,hout.2,by omega⟩
    ·have hcal:=hL.cal hm
     have hx:=cget hs hcal.1 hcal.2
     have hxz:=zget hs.so.ok hx.z0 hx.z1
     have hll2:(tb (zAt zs (cAt cs L.2.2.2.2.2.2.2.1).2.1)).2.length≤4:=jqA hxz
     obtain ⟨D,e2,d1,d2,d3⟩:=jBj hs hx (ss:=ss) (a:=c) (b:=b) (by omega) (by omega) hb rfl
     have hDl:D.length≤(cAt cs L.2.2.2.2.2.2.2.1).2.2.length*5:=q9 d2 (Nat.mul_le_mul_left _ (by
      have:(tb (zAt zs (cAt cs L.2.2.2.2.2.2.2.1).2.1)).2.length+1≤5:=by omega
      exact this))
     have hDl2:D.length≤2000:=by
      have:=hx.len
      have h64:(cAt cs L.2.2.2.2.2.2.2.1).2.2.length≤64:=this
      omega
     have hdx:∀ t,c≤t→t<b→(inS t D↔(locD (zAt zs (cAt cs L.2.2.2.2.2.2.2.1).2.1) t).1∈(cAt cs L.2.2.2.2.2.2.2.1).2.2):=fun t h1 h2=>d3 t _ h1 h2 (jqB hxz (by omega) (by omega)).1
     rw [if_neg hm,j0s hcal.1 hcal.2]
     have hmode:L.2.2.2.2.2.2.2.2=1∨L.2.2.2.2.2.2.2.2=2:=by have:=hL.mode0;have:=hL.mode1;omega
     rcases hmode with hm1 | hm2
     ·obtain ⟨out,e3,w1,w2,w3⟩:=jl8 (by omega) hA3 d1 (by omega)
      have hout:=hfin out w1 (fun t h=>hA4 t ((w2 t).1 h).1) (fun t h1 h2=>by
       rw [w2 t,hdx t h1 h2]
       unfold calB
       rw [j2c hm,j2c (show ¬ L.2.2.2.2.2.2.2.2=2 by omega),j6]
       simp)
      rw [j4Q hm1]
      simp only [j5]
      by_cases hw:(L.2.2.2.2.2.2.1.length:Int)>0
      ·rw [show Int.ofNat L.2.2.2.2.2.2.1.length=(L.2.2.2.2.2.2.1.length:Int) from rfl,j01 hw,j5,show j3M ((tb (zs.getD L.2.1.toNat (ByteArray.empty,((0:Int),([]:List Rule))))).1,(tb (zs.getD L.2.1.toNat (ByteArray.empty,((0:Int),([]:List Rule))))).2) L.2.2.2.2.2.2.1 c b=_ from hA1 hw]
       simp only [j3]
       refine ⟨out,?_,hout.1,hout.2,by omega⟩
       rw [show j1J ((zs,(ps,(cs,ss))),zs.map tb) ((cs.getD L.2.2.2.2.2.2.2.1.toNat (ByteArray.empty,((0:Int),([]:List Int)))).1,(cs.getD L.2.2.2.2.2.2.2.1.toNat (ByteArray.empty,((0:Int),([]:List Int)))).2.1,(cs.getD L.2.2.2.2.2.2.2.1.toNat (ByteArray.empty,((0:Int),([]:List Int)))).2.2) c b=_ from e2]
       simp only [j3,e3]
      ·rw [show Int.ofNat L.2.2.2.2.2.2.1.length=(L.2.2.2.2.2.2.1.length:Int) from rfl,j00 hw,j6,←hA2 hw]
       refine ⟨out,?_,hout.1,hout.2,by omega⟩
       rw [show j1J ((zs,(ps,(cs,ss))),zs.map tb) ((cs.getD L.2.2.2.2.2.2.2.1.toNat (ByteArray.empty,((0:Int),([]:List Int)))).1,(cs.getD L.2.2.2.2.2.2.2.1.toNat (ByteArray.empty,((0:Int),([]:List Int)))).2.1,(cs.getD L.2.2.2.2.2.2.2.1.toNat (ByteArray.empty,((0:Int),([]:List Int)))).2.2) c b=_ from e2]
       simp only [j3,e3]
     ·obtain ⟨out,e3,w1,w2,w3⟩:=jxT hA3 d1 (by omega) (by omega)
      have hout:=hfin out w1 (fun t h=>hA4 t ((w2 t).1 h).1) (fun t h1 h2=>by
       rw [w2 t,hdx t h1 h2]
       unfold calB
       rw [j2c hm,j4Q hm2,j6]
       simp)
      rw [j2c (show ¬ L.2.2.2.2.2.2.2.2=1 by omega),j4Q hm2]
      simp only [j5,j6]
      by_cases hw:(L.2.2.2.2.2.2.1.length:Int)>0
      ·rw [show Int.ofNat L.2.2.2.2.2.2.1.length=(L.2.2.2.2.2.2.1.length:Int) from rfl,j01 hw,j5,show j3M ((tb (zs.getD L.2.1.toNat (ByteArray.empty,((0:Int),([]:List Rule))))).1,(tb (zs.getD L.2.1.toNat (ByteArray.empty,((0:Int),([]:List Rule))))).2) L.2.2.2.2.2.2.1 c b=_ from hA1 hw]
       simp only [j3]
       refine ⟨out,?_,hout.1,hout.2,by omega⟩
       rw [show j1J ((zs,(ps,(cs,ss))),zs.map tb) ((cs.getD L.2.2.2.2.2.2.2.1.toNat (ByteArray.empty,((0:Int),([]:List Int)))).1,(cs.getD L.2.2.2.2.2.2.2.1.toNat (ByteArray.empty,((0:Int),([]:List Int)))).2.1,(cs.getD L.2.2.2.2.2.2.2.1.toNat (ByteArray.empty,((0:Int),([]:List Int)))).2.2) c b=_ from e2]
       simp only [j3,e3]
      ·rw [show Int.ofNat L.2.2.2.2.2.2.1.length=(L.2.2.2.2.2.2.1.length:Int) from rfl,j00 hw,j6,←hA2 hw]
       refine ⟨out,?_,hout.1,hout.2,by omega⟩
       rw [show j1J ((zs,(ps,(cs,ss))),zs.map tb) ((cs.getD L.2.2.2.2.2.2.2.1.toNat (ByteArray.empty,((0:Int),([]:List Int)))).1,(cs.getD L.2.2.2.2.2.2.2.1.toNat (ByteArray.empty,((0:Int),([]:List Int)))).2.1,(cs.getD L.2.2.2.2.2.2.2.1.toNat (ByteArray.empty,((0:Int),([]:List Int)))).2.2) c b=_ from e2]
       simp only [j3,e3]
end
end Go.Proofs.Pw
