/- duty.View.Times: the instants of a range in which a layer is on duty. -/
import Derived.Test.YtllkgjaoejhneaaGreatDEPF
import Derived.Test.YtllkgjaoejhneaaGreatDEPG
open ByteArray renaming empty->j
open _root_ renaming Int->y,List->B,ByteArray->I,Nat->R
open Option renaming some->E
open Bool renaming true->G,false->O
open Int renaming tmod->H,ofNat->N
noncomputable section
open Go Go.Lft
namespace Go.Proofs.Pw
def dsp (p:y×(y×y)) (d:y):y×Int:=
 (if d*86400-p.2.2>p.1 then d*86400-p.2.2 else p.1,if d*86400-p.2.2+86400<p.2.1 then d*86400-p.2.2+86400 else p.2.1)
theorem jzA {ds:B y} (hd:∀ d∈ds,0≤d∧d≤100000) (hl:ds.length≤64) {p:y×(y×y)} (hp : -64800≤p.2.2∧p.2.2≤64800) {m q z:y} {nm:I} {ps:B (y×(y×y))}:∀ (n i:R) (acc:SL),i+n=ds.length→acc.length+n≤1000000→
  j4J m q ds (ds.length:y) (i:y) nm z ds p.1 p.2.1 p.2.2 acc ps=E (m,q,nm,z,ds,acc++(ds.drop i).map (dsp p),ps)
 | 0,i,acc,hi,_=>by
  rw [j9H]
  simp only [j2z]
  rw [j01 omg_,jd,j08,jj omg_]
  simp
 | n+1,i,acc,hi,hacc=>by
  have hi':i<ds.length:=omg_
  have hgd:ds.getD i (0:y)=ds[i]:=by simp [hi']
  have hdi:=hd _ (jx hi')
  rw [j9H]
  simp only [j2z]
  rw [j00 omg_,j1o]
  simp only [jc,je,hgd]
  rw [j07 (x:=ds[i]*86400),j07 (x:=ds[i]*86400-p.2.2),j07 (x:=ds[i]*86400-p.2.2+86400),j07 (x:=(i:y)+1),j00 (by simp [j05];omega),jh hi']
  simp only [jc,j06,qu]
  have:=jzA hd hl hp (m:=m) (q:=q) (z:=z) (nm:=nm) (ps:=ps) n (i+1) (acc++[dsp p ds[i]]) omg_ sqo_
  rw [jr] at this
  exact this
theorem jzB {ds:B y} (hd:∀ d∈ds,0≤d∧d≤100000) (hl:ds.length≤64) {z:y} {nm:I} {ps:B (y×(y×y))} (hps:∀ p∈ps, -64800≤p.2.2∧p.2.2≤64800) (hpl:ps.length≤100):∀ (n i:R) (acc:SL),i+n=ps.length→acc.length≤64*i→
  j4K (ps.length:y) (i:y) nm z ds acc ps=E (acc++(ps.drop i).flatMap fun p=>ds.map (dsp p))
 | 0,i,acc,hi,_=>by
  rw [j9I]
  simp only [j2A]
  rw [j01 omg_,jd,j08,jj omg_]
  simp
 | n+1,i,acc,hi,hacc=>by
  have hi':i<ps.length:=omg_
  have hgd:ps.getD i ((0:y),((0:y),(0:y)))=ps[i]:=by simp [List.getD,hi']
  have h2:=jzA hd hl (hps _ (jx hi')) (m:=(ps.length:y)) (q:=(i:y)) (z:=z) (nm:=nm) (ps:=ps) ds.length 0 acc omg_ omg_
  have ih:=jzB hd hl (z:=z) (nm:=nm) hps hpl n (i+1) (acc++ds.map (dsp ps[i])) omg_ sqo_
  rw [j9I]
  simp only [j2A]
  rw [j00 omg_,j1o]
  simp only [jc,je,hgd,show N ds.length=(ds.length:y) from rfl]
  rw [show j4J (ps.length:y) (i:y) ds (ds.length:y) 0 nm z ds ps[i].1 ps[i].2.1 ps[i].2.2 acc ps=_ from h2]
  simp only [ja,jy]
  rw [j07 (x:=(i:y)+1),j06,jh hi',yp,←jr]
  exact ih
theorem jxa {α β:Type} (f:α→B β) (k:R) (hf:∀ a,(f a).length=k):∀ l:B α,(l.flatMap f).length=l.length*k
 | []=>smp_
 | a::l=>by rw [yp,jo,jxa f k hf l,hf,jp,Nat.add_mul,Nat.one_mul];omega
theorem jxb {p:y×(y×y)} {d x:y}:((dsp p d).1≤x∧x<(dsp p d).2)↔(p.1≤x∧x<p.2.1)∧(x+p.2.2)/86400=d:=by
 simp only [dsp]
 constructor
 ·intro h;split at h<;>split at h<;>omega
 ·intro h;split<;>split<;>omega
section
variable {zs:B j1l} {ps:B j1s} {cs:B CalT} (hs:GOk zs ps cs)
include hs
theorem jyu {x:CalT} (hx:CCk zs.length x) {ss:B j3z} {a b:y} (ha:0≤a) (hab:a≤b) (hb:b≤8589934592) {z:j1l} (hz:zs.getD x.2.1.toNat (j,((0:y),([]:B Rule)))=z) :
  ∃ out,j1T ((zs,(ps,(cs,ss))),zs.map tb) x a b=E out∧StS (a-1) out∧out.length≤x.2.2.length*((tb z).2.length+1)∧
   ∀ t d,a≤t→t<b→j0o (tb z) t=E d→(inS t out↔d.1∈x.2.2):=by
 have hlen:(zs.map tb).length=zs.length:=qa ..
 have hg:=jpd (zs:=zs) hx.z0 hx.z1
 have hzk:=zget hs.ok hx.z0 hx.z1
 rw [hz] at hg hzk
 have ht:=hzk.ztab.2
 have hll:(tb z).2.length≤20:=jyr hzk
 obtain ⟨pc,e,pl,pm,pcov⟩:=jx5 ht ha hab hb
 have hxl:=hx.len
 have hd:∀ d∈x.2.2,0≤d∧d≤100000:=fun d hd=>⟨jzo (hx.day d hd),jzn (hx.day d hd)⟩
 have hpo:∀ p∈pc, -64800≤p.2.2∧p.2.2≤64800:=fun p hp=>by
  obtain ⟨_,_,_,i,i1,i2,_⟩:=pm p hp
  have:=ht.of0 i i1;have:=ht.of1 i i1;omega
 have l0:=jzB hd hxl (z:=x.2.1) (nm:=x.1) hpo omg_ pc.length 0 [] omg_ smp_
 rw [kg,jy] at l0
 have hEl:(pc.flatMap fun p=>x.2.2.map (dsp p)).length=pc.length*x.2.2.length:=jxa _ _ (fun p=>qa ..) pc
 have hm:pc.length*x.2.2.length≤((tb z).2.length+1)*x.2.2.length:=kf _ pl
 have hm2:((tb z).2.length+1)*x.2.2.length≤21*64:=z8 omg_ hxl
 have hmem:∀ s∈(pc.flatMap fun p=>x.2.2.map (dsp p)),∃ p∈pc,∃ d∈x.2.2,s=dsp p d:=fun s h=>by
  obtain ⟨p,hp,h⟩:=zg.1 h
  obtain ⟨d,hd,rfl⟩:=kp.1 h
  exact ⟨p,hp,d,hd,rfl⟩
 obtain ⟨out,e2,s1,s2,s3,s4⟩:=jrE (l:=pc.flatMap fun p=>x.2.2.map (dsp p)) omg_ (fun s h=>by
  obtain ⟨p,hp,d,hdm,rfl⟩:=hmem s h
  obtain ⟨h1,h2,h3,_⟩:=pm p hp
  have:=hpo p hp;have:=hd d hdm
  simp only [dsp]
  refine ⟨?_,?_,?_,?_⟩<;>split<;>omega) (lo:=a) (hi:=b) (fun s h hlt=>by
  obtain ⟨p,hp,d,hdm,rfl⟩:=hmem s h
  obtain ⟨h1,h2,h3,_⟩:=pm p hp
  simp only [dsp] at hlt ⊢
  refine ⟨?_,?_⟩<;>split<;>omega)
 refine ⟨out,?_,s1,by rw [Nat.mul_comm];omega,fun t d h1 h2 hdd=> ?_⟩
 ·simp only [j1T]
  rw [j1v hx.z0 (by rw [hlen];exact hx.z1)]
  simp only [jc,hg,show j1F ((tb z).1,(tb z).2) a b=_ from e,ja,show N pc.length=(pc.length:y) from rfl]
  rw [show j4K (pc.length:y) 0 x.1 x.2.1 x.2.2 [] pc=_ from l0]
  simp only [ja,e2]
 ·obtain ⟨k,hk,k1,k2⟩:=j8U ht (t:=t) omg_ omg_
  have:=jfe ht hk k1 k2
  have hdv:=hdd.symm.trans this
  simp only [jb] at hdv
  subst hdv
  dsimp only
  rw [s2 t]
  constructor
  ·rintro ⟨s,hs',h3,h4⟩
   obtain ⟨p,hp,d,hdm,rfl⟩:=hmem s hs'
   obtain ⟨c1,c2⟩:=jxb.1 ⟨h3,h4⟩
   obtain ⟨_,_,_,i,i1,i2,i3,i4⟩:=pm p hp
   have:i=k:=jfg ht i1 hk (t:=t) omg_ omg_ k1 k2
   subst this
   rw [←i2,c2];exact hdm
  ·intro hdm
   obtain ⟨p,hp,c1,c2⟩:=pcov t h1 h2
   obtain ⟨_,_,_,i,i1,i2,i3,i4⟩:=pm p hp
   have:i=k:=jfg ht i1 hk (t:=t) omg_ omg_ k1 k2
   subst this
   obtain ⟨g1,g2⟩:=jxb.2 ⟨⟨c1,c2⟩,show (t+p.2.2)/86400=(t+tof z.2.1 (tb z).2 i)/86400 by rw [i2]⟩
   exact ⟨_,zg.2 ⟨p,hp,kp.2 ⟨_,hdm,rfl⟩⟩,g1,g2⟩
omit hs in
def zAt (zs:B j1l) (i:y):j1l:=zs.getD i.toNat (j,((0:y),([]:B Rule)))
omit hs in
def cAt (cs:B CalT) (i:y):CalT:=cs.getD i.toNat (j,((0:y),([]:B y)))
omit hs in
def locD (z:j1l) (t:y):y×Int:=(j0o (tb z) t).getD (0,0)
omit hs in
def secD (d:y×y):Int:=(j2L d).getD 0
omit hs in
def shK (z:j1l) (L:j0j) (t:y):Int:=(j1W (tb z) L t).getD (-1)
omit hs in
def calB (zs:B j1l) (cs:B CalT) (L:j0j) (t:y):Bool:=
 cond (L.2.2.2.2.2.2.2.2==0) G (decide ((locD (zAt zs (cAt cs L.2.2.2.2.2.2.2.1).2.1) t).1∈(cAt cs L.2.2.2.2.2.2.2.1).2.2)==(L.2.2.2.2.2.2.2.2==(2:y)))
omit hs in
def onX (zs:B j1l) (cs:B CalT) (L:j0j) (t:y):Bool:=
 cond (decide (0≤shK (zAt zs L.2.1) L t)) (cond (okW L.2.2.2.2.2.2.1 (secD (locD (zAt zs L.2.1) t))) (calB zs cs L t) O) O
omit hs in
def perX (zs:B j1l) (cs:B CalT) (L:j0j) (t:y):Int:=cond (onX zs cs L t) (whoL L (shK (zAt zs L.2.1) L t)) (-1)
omit hs in
theorem jkF {z:j1l} (hz:ZOk z) {t:y} (h0:0≤t) (h1:t≤8589934592):j0o (tb z) t=E (locD z t)∧j2L (locD z t)=E (secD (locD z t)):=by
 obtain ⟨d,s,hd,hsc⟩:=jzs hz h0 h1
 have:locD z t=d:=by simp [locD,hd]
 rw [this]
 exact ⟨hd,by simp [secD,hsc]⟩
omit hs in
theorem jcV {z:j1l} (hz:ZOk z) {L:j0j} (hR:Rt L) {t:y} (h0:0≤t) (h1:t≤8589934592):j1W (tb z) L t=E (shK z L t)∧ShO z.2.1 (tb z).2 L t (shK z L t):=by
 obtain ⟨K,e,hK⟩:=jAf hz.ztab.2 hR h0 h1
 have:shK z L t=K:=by simp only [shK,show j1W (tb z) L t=_ from e,ze]
 rw [this]
 exact ⟨e,hK⟩
omit hs in
theorem jwt {L:j0j} {t:y} (h:onX zs cs L t=G):0≤shK (zAt zs L.2.1) L t:=by
 by_cases hk:0≤shK (zAt zs L.2.1) L t
 ·exact hk
 ·unfold onX at h;rw [j01 hk] at h;simp at h
theorem jAj {L:j0j} (hL:LC1 zs.length ps.length cs.length L) {ss:B j3z} {t:y} (h0:0≤t) (h1:t≤8589934592) :
  (∃ r,j21 ((zs,(ps,(cs,ss))),zs.map tb) L t=E (r,onX zs cs L t))∧j3j ((zs,(ps,(cs,ss))),zs.map tb) L t=E (perX zs cs L t)∧(onX zs cs L t=G→0≤shK (zAt zs L.2.1) L t):=by
 have hRt:=hL.rt2
 have hz:=zget hs.ok hL.z0 hL.z1
 obtain ⟨hd,hsc⟩:=jkF hz h0 h1
 obtain ⟨eK,hK⟩:=jcV hz hRt h0 h1
 have hon:onX zs cs L t=G→0≤shK (zAt zs L.2.1) L t:=fun h=>by
  by_cases hk:0≤shK (zAt zs L.2.1) L t
  ·exact hk
  ·unfold onX at h;rw [j01 hk] at h;simp at h
 obtain ⟨r,er,hr⟩:=jzr (ps:=ps) (ss:=ss) hs.ok hL hRt h0 h1 rfl hd hsc eK (calB zs cs L t) (fun h=>by unfold calB;rw [j5N h];rfl) (fun h=>⟨_,rfl,cget hs (hL.cal h).1 (hL.cal h).2,_,(jkF (zget hs.ok (cget hs (hL.cal h).1 (hL.cal h).2).z0 (cget hs (hL.cal h).1 (hL.cal h).2).z1) h0 h1).1,by
  unfold calB;rw [j2q h];rfl⟩)
 exact ⟨⟨r,er⟩,jwr hL.m0 er hr hon,hon⟩
omit hs in
theorem jyv {L:j0j} (hL:LC1 zs.length ps.length cs.length L) {t:y} (_h0:0≤t) (_h1:t≤8589934592):(onX zs cs L t=G↔0≤perX zs cs L t) ∧ -1≤perX zs cs L t∧perX zs cs L t<ps.length:=by
 have hon:onX zs cs L t=G→0≤shK (zAt zs L.2.1) L t:=jwt
 unfold perX
 cases hc:onX zs cs L t with
 | false=>simp;omega
 | true=>
  have hk:=hon hc
  have hm0:=hL.m0
  have q1:0≤H (shK (zAt zs L.2.1) L t) (L.2.2.2.2.2.1.length:y):=vw _ hk
  have q2:H (shK (zAt zs L.2.1) L t) (L.2.2.2.2.2.1.length:y)<(L.2.2.2.2.2.1.length:y):=v8 _ omg_
  have hi:(H (shK (zAt zs L.2.1) L t) (L.2.2.2.2.2.1.length:y)).toNat<L.2.2.2.2.2.1.length:=omg_
  have e:whoL L (shK (zAt zs L.2.1) L t)=L.2.2.2.2.2.1[(H (shK (zAt zs L.2.1) L t) (L.2.2.2.2.2.1.length:y)).toNat]:=by simp [whoL,List.getD,hi]
  rw [jc,e]
  have:=hL.mem _ (jx hi)
  exact ⟨⟨fun _=>this.1,fun _=>rfl⟩,omg_,this.2⟩
theorem jpf {L:j0j} (hL:LC1 zs.length ps.length cs.length L) {ss:B j3z} {a b:y} (ha:0≤a) (hab:a≤b) (hb:b≤8589934592) {M:R} (hM:M≤60) (hlen:b-a≤604800*M) :
  ∃ out,j3U ((zs,(ps,(cs,ss))),zs.map tb) L a b=E out∧StS (a-1) out∧(∀ t,inS t out↔a≤t∧t<b∧onX zs cs L t=G)∧
   out.length≤L.2.2.2.2.2.2.1.length*(M+1)*5+1+(if L.2.2.2.2.2.2.2.2=0 then 0 else (cAt cs L.2.2.2.2.2.2.2.1).2.2.length*5):=by
 have hRt:=hL.rt2
 have hzl:(zs.map tb).length=zs.length:=qa ..
 have hz:=zget hs.ok hL.z0 hL.z1
 have hg:=jpd (zs:=zs) hL.z0 hL.z1
 have hwl:=hL.wl
 have hll:(tb (zAt zs L.2.1)).2.length≤4:=jdR hz
 obtain ⟨v,ev,hv⟩:=recH hz.ztab.2 hRt (k:=0) omg_ omg_
 have hsh:∀ t,a≤t→t<b→(0≤shK (zAt zs L.2.1) L t↔QO (zAt zs L.2.1).2.1 (tb (zAt zs L.2.1)).2 L t 0):=fun t h1 h2=>by
  have hK:=(jcV hz hRt (t:=t) omg_ omg_).2
  constructor
  ·intro hk
   rcases hK with ⟨hK,_⟩ | ⟨_,hq,_⟩
   ·have:shK (zAt zs L.2.1) L t = -1:=hK
    omega
   ·exact QO.le hz.ztab.2 hRt hk hq
  ·intro hq
   rcases hK with ⟨_,hn⟩ | ⟨hk,_,_⟩
   ·exact absurd hq hn
   ·exact hk
 have hoff:∀ t,a≤t→t<b→¬ QO (zAt zs L.2.1).2.1 (tb (zAt zs L.2.1)).2 L t 0→onX zs cs L t=false:=fun t h1 h2 hq=>by
  unfold onX
  rw [j01 (fun h=>hq ((hsh t h1 h2).1 h))]
  rfl
 simp only [j3U]
 rw [j1v hL.z0 (by rw [hzl];exact hL.z1)]
 simp only [jc,hg]
 rw [show j0N ((tb (zs.getD L.2.1.toNat (j,((0:y),([]:B Rule))))).1,(tb (zs.getD L.2.1.toNat (j,((0:y),([]:B Rule))))).2) (L.1,L.2.1,(L.2.2.1.1,L.2.2.1.2),L.2.2.2.1,L.2.2.2.2.1,L.2.2.2.2.2.1,L.2.2.2.2.2.2.1,L.2.2.2.2.2.2.2.1,L.2.2.2.2.2.2.2.2) 0=_ from ev]
 simp only [ja]
 have hemp:∀ (P:∀ t,a≤t→t<b→onX zs cs L t=O),∃ out,E ([]:SL)=E out∧StS (a-1) out∧(∀ t,inS t out↔a≤t∧t<b∧onX zs cs L t=G)∧
   out.length≤L.2.2.2.2.2.2.1.length*(M+1)*5+1+(if L.2.2.2.2.2.2.2.2=0 then 0 else (cAt cs L.2.2.2.2.2.2.2.1).2.2.length*5):=fun P=>
  ⟨[],rfl,trivial,fun t=>⟨fun h=>absurd h j1I,fun ⟨h1,h2,h3⟩=>by rw [P t h1 h2] at h3;simp at h3⟩,kq _⟩
 cases hh:hO (zs.getD L.2.1.toNat (j,((0:y),([]:B Rule)))).2.1 (tb (zs.getD L.2.1.toNat (j,((0:y),([]:B Rule))))).2 L 0 with
 | none=>
  simp only [va,jt,jc]
  exact hemp fun t h1 h2=>hoff t h1 h2 (by
   rintro ⟨u,hu,_⟩
   have hu':=hh.symm.trans hu
   simp at hu')
 | some u=>
  have:=hv u hh
  subst this
  have hq:∀ t,QO (zAt zs L.2.1).2.1 (tb (zAt zs L.2.1)).2 L t 0↔v≤t:=fun t=>⟨fun ⟨u,hu,hut⟩=>by
   have hu':=hh.symm.trans hu
   simp only [jb] at hu'
   omega,fun h=>⟨v,hh,h⟩⟩
  simp only [zh,jk,jd]
  by_cases hvb:v≥b
  ·rw [j00 hvb]
   simp only [jc]
   exact hemp fun t h1 h2=>hoff t h1 h2 (fun h=>by have:=(hq t).1 h;omega)
  ·rw [j01 hvb]
   simp only [jd]
   by_cases hab2:a≥b
   ·rw [j00 hab2]
    simp only [jc]
    exact hemp fun t h1 h2=>omg_
   ·rw [j01 hab2]
    simp only [jd]
    obtain ⟨c,hc,hca,hcv,hcb,hcc⟩:∃ c:y,c=(if v>a then v else a)∧a≤c∧v≤c∧c<b∧∀ t,a≤t→t<c→t<v:=⟨_,rfl,by split<;>omega,by split<;>omega,by split<;>omega,fun t h1 h2=>by split at h2<;>omega⟩
    rw [←hc]
    obtain ⟨A,hA1,hA2,hA3,hA4,hA5,hA6⟩:∃ A:SL,((L.2.2.2.2.2.2.1.length:y)>0→j50 (tb (zAt zs L.2.1)) L.2.2.2.2.2.2.1 c b=E A)∧(¬ (L.2.2.2.2.2.2.1.length:y)>0→A=[(c,b)])∧StS (c-1) A∧
      (∀ t,inS t A→t<b)∧(∀ t,c≤t→t<b→(inS t A↔okW L.2.2.2.2.2.2.1 (secD (locD (zAt zs L.2.1) t))=G))∧A.length≤L.2.2.2.2.2.2.1.length*(M+1)*5+1:=by
     by_cases hw:(L.2.2.2.2.2.2.1.length:y)>0
     ·obtain ⟨A,e,s1,s2,s3,s4⟩:=jsO hz.ztab.2 (q7 hll omg_) hL.w hwl hM (a:=c) (b:=b) omg_ omg_ hb omg_
      refine ⟨A,fun _=>e,fun h=>absurd hw h,s1,fun t ⟨s,hs',h1,h2⟩=>by have:=(s2 s hs').2;omega,fun t h1 h2=> ?_,?_⟩
      ·obtain ⟨k,hk,k1,k2⟩:=j8U hz.ztab.2 (t:=t) omg_ omg_
       rw [s4 k hk t h1 h2 k1 k2]
       have hloc:locD (zAt zs L.2.1) t=((t+tof (zAt zs L.2.1).2.1 (tb (zAt zs L.2.1)).2 k)/86400,(t+tof (zAt zs L.2.1).2.1 (tb (zAt zs L.2.1)).2 k)%86400):=by
        unfold locD
        rw [show j0o (tb (zAt zs L.2.1)) t=_ from jfe hz.ztab.2 hk k1 k2]
        rfl
       have o0:=hz.ztab.2.of0 k hk;have o1:=hz.ztab.2.of1 k hk
       have hsec:secD (locD (zAt zs L.2.1) t)=(t+tof (zAt zs L.2.1).2.1 (tb (zAt zs L.2.1)).2 k+259200)%604800:=by
        rw [hloc]
        simp only [secD,j2L]
        have o0' : -64800≤tof (zAt zs L.2.1).2.1 (tb (zAt zs L.2.1)).2 k:=o0
        have o1':tof (zAt zs L.2.1).2.1 (tb (zAt zs L.2.1)).2 k≤64800:=o1
        rw [jff _ omg_]
        simp only [ja,ze]
        generalize tof (zAt zs L.2.1).2.1 (tb (zAt zs L.2.1)).2 k=o at *
        rw [j07 (x:=((t+o)/86400+3)%7*86400),j07]
        omega
       rw [hsec]
       unfold okW
       rw [j00 hw]
       rfl
      ·have:L.2.2.2.2.2.2.1.length*(M+1)*((tb (zAt zs L.2.1)).2.length+1)≤L.2.2.2.2.2.2.1.length*(M+1)*5:=Nat.mul_le_mul_left _ omg_
       have s3':A.length≤L.2.2.2.2.2.2.1.length*(M+1)*((tb (zAt zs L.2.1)).2.length+1):=s3
       omega
     ·refine ⟨[(c,b)],fun h=>absurd h hw,fun _=>rfl,⟨by dsimp only;omega,hcb,trivial⟩,fun t h=> ?_,fun t h1 h2=> ?_,smp_⟩
      ·rcases j0q.1 h with h | h
       ·exact h.2
       ·exact absurd h j1I
      ·unfold okW
       rw [j01 hw]
       exact ⟨fun _=>rfl,fun _=>j0q.2 (.inl ⟨h1,h2⟩)⟩
    have hA7:A.length≤30000:=by
     have:L.2.2.2.2.2.2.1.length*(M+1)≤14*61:=z8 hwl omg_
     omega
    have hfin:∀ out:SL,StS (c-1) out→(∀ t,inS t out→t<b)→(∀ t,c≤t→t<b→(inS t out↔inS t A∧calB zs cs L t=G))→StS (a-1) out∧∀ t,inS t out↔a≤t∧t<b∧onX zs cs L t=true:=fun out h1 h2 h3=>by
     refine ⟨h1.weak omg_,fun t=>⟨fun hx=> ?_,fun ⟨g1,g2,g3⟩=> ?_⟩⟩
     ·have l1:=StS.low h1 hx
      have l2:=h2 t hx
      refine ⟨omg_,l2,?_⟩
      have:=(h3 t omg_ l2).1 hx
      unfold onX
      rw [j00 ((hsh t omg_ l2).2 ((hq t).2 omg_)),(hA5 t omg_ l2).1 this.1,this.2]
      rfl
     ·have hk:=jwt g3
      have hvt:=(hq t).1 ((hsh t g1 g2).1 hk)
      have hct:c≤t:=by
       apply kn
       intro hn
       have:=hcc t g1 omg_
       omega
      refine (h3 t hct g2).2 ⟨(hA5 t hct g2).2 ?_,?_⟩
      ·unfold onX at g3
       rw [j00 hk] at g3
       revert g3
       cases okW L.2.2.2.2.2.2.1 (secD (locD (zAt zs L.2.1) t))<;>simp
      ·unfold onX at g3
       rw [j00 hk] at g3
       revert g3
       cases okW L.2.2.2.2.2.2.1 (secD (locD (zAt zs L.2.1) t))<;>simp
    by_cases hm:L.2.2.2.2.2.2.2.2=0
    ·have hout:=hfin A hA3 hA4 (fun t _ _=>by unfold calB;rw [j5N hm];simp)
     rw [j2q (show ¬ L.2.2.2.2.2.2.2.2=1 by omega),j2q (show ¬ L.2.2.2.2.2.2.2.2=2 by omega),if_pos hm]
     simp only [jd]
     by_cases hw:(L.2.2.2.2.2.2.1.length:y)>0
     ·rw [oLn_ L.2.2.2.2.2.2.1,j00 hw,jc,show j50 ((tb (zs.getD L.2.1.toNat (j,((0:y),([]:B Rule))))).1,(tb (zs.getD L.2.1.toNat (j,((0:y),([]:B Rule))))).2) L.2.2.2.2.2.2.1 c b=_ from hA1 hw]
      simp only [ja]
      exact ⟨A,rfl,hout.1,hout.2,omg_⟩
     ·rw [oLn_ L.2.2.2.2.2.2.1,j01 hw,jd,←hA2 hw]
      exact ⟨A,rfl,hout.1,hout.2,omg_⟩
    ·have hcal:=hL.cal hm
     have hx:=cget hs hcal.1 hcal.2
     have hxz:=zget hs.ok hx.z0 hx.z1
     have hll2:(tb (zAt zs (cAt cs L.2.2.2.2.2.2.2.1).2.1)).2.length≤4:=jdR hxz
     obtain ⟨D,e2,d1,d2,d3⟩:=jyu hs hx (ss:=ss) (a:=c) (b:=b) omg_ omg_ hb rfl
     have hDl:D.length≤(cAt cs L.2.2.2.2.2.2.2.1).2.2.length*5:=q7 d2 (Nat.mul_le_mul_left _ (by
      have:(tb (zAt zs (cAt cs L.2.2.2.2.2.2.2.1).2.1)).2.length+1≤5:=omg_
      exact this))
     have hDl2:D.length≤2000:=by
      have:=hx.len
      have h64:(cAt cs L.2.2.2.2.2.2.2.1).2.2.length≤64:=this
      omega
     have hdx:∀ t,c≤t→t<b→(inS t D↔(locD (zAt zs (cAt cs L.2.2.2.2.2.2.2.1).2.1) t).1∈(cAt cs L.2.2.2.2.2.2.2.1).2.2):=fun t h1 h2=>d3 t _ h1 h2 (jkF hxz omg_ omg_).1
     rw [if_neg hm,j1v hcal.1 hcal.2]
     have hmode:L.2.2.2.2.2.2.2.2=1∨L.2.2.2.2.2.2.2.2=2:=by have:=hL.mode0;have:=hL.mode1;omega
     rcases hmode with hm1 | hm2
     ·obtain ⟨out,e3,w1,w2,w3⟩:=jsP omg_ hA3 d1 omg_
      have hout:=hfin out w1 (fun t h=>hA4 t ((w2 t).1 h).1) (fun t h1 h2=>by
       rw [w2 t,hdx t h1 h2]
       unfold calB
       rw [j2q hm,j2q (show ¬ L.2.2.2.2.2.2.2.2=2 by omega),jd]
       simp)
      rw [j5N hm1]
      simp only [jc]
      by_cases hw:(L.2.2.2.2.2.2.1.length:y)>0
      ·rw [oLn_ L.2.2.2.2.2.2.1,j00 hw,jc,show j50 ((tb (zs.getD L.2.1.toNat (j,((0:y),([]:B Rule))))).1,(tb (zs.getD L.2.1.toNat (j,((0:y),([]:B Rule))))).2) L.2.2.2.2.2.2.1 c b=_ from hA1 hw]
       simp only [ja]
       refine ⟨out,?_,hout.1,hout.2,omg_⟩
       rw [show j1T ((zs,(ps,(cs,ss))),zs.map tb) ((cs.getD L.2.2.2.2.2.2.2.1.toNat (j,((0:y),([]:B y)))).1,(cs.getD L.2.2.2.2.2.2.2.1.toNat (j,((0:y),([]:B y)))).2.1,(cs.getD L.2.2.2.2.2.2.2.1.toNat (j,((0:y),([]:B y)))).2.2) c b=_ from e2]
       simp only [ja,e3]
      ·rw [oLn_ L.2.2.2.2.2.2.1,j01 hw,jd,←hA2 hw]
       refine ⟨out,?_,hout.1,hout.2,omg_⟩
       rw [show j1T ((zs,(ps,(cs,ss))),zs.map tb) ((cs.getD L.2.2.2.2.2.2.2.1.toNat (j,((0:y),([]:B y)))).1,(cs.getD L.2.2.2.2.2.2.2.1.toNat (j,((0:y),([]:B y)))).2.1,(cs.getD L.2.2.2.2.2.2.2.1.toNat (j,((0:y),([]:B y)))).2.2) c b=_ from e2]
       simp only [ja,e3]
     ·obtain ⟨out,e3,w1,w2,w3⟩:=jv9 hA3 d1 omg_ omg_
      have hout:=hfin out w1 (fun t h=>hA4 t ((w2 t).1 h).1) (fun t h1 h2=>by
       rw [w2 t,hdx t h1 h2]
       unfold calB
       rw [j2q hm,j5N hm2,jd]
       simp)
      rw [j2q (show ¬ L.2.2.2.2.2.2.2.2=1 by omega),j5N hm2]
      simp only [jc,jd]
      by_cases hw:(L.2.2.2.2.2.2.1.length:y)>0
      ·rw [oLn_ L.2.2.2.2.2.2.1,j00 hw,jc,show j50 ((tb (zs.getD L.2.1.toNat (j,((0:y),([]:B Rule))))).1,(tb (zs.getD L.2.1.toNat (j,((0:y),([]:B Rule))))).2) L.2.2.2.2.2.2.1 c b=_ from hA1 hw]
       simp only [ja]
       refine ⟨out,?_,hout.1,hout.2,omg_⟩
       rw [show j1T ((zs,(ps,(cs,ss))),zs.map tb) ((cs.getD L.2.2.2.2.2.2.2.1.toNat (j,((0:y),([]:B y)))).1,(cs.getD L.2.2.2.2.2.2.2.1.toNat (j,((0:y),([]:B y)))).2.1,(cs.getD L.2.2.2.2.2.2.2.1.toNat (j,((0:y),([]:B y)))).2.2) c b=_ from e2]
       simp only [ja,e3]
      ·rw [oLn_ L.2.2.2.2.2.2.1,j01 hw,jd,←hA2 hw]
       refine ⟨out,?_,hout.1,hout.2,omg_⟩
       rw [show j1T ((zs,(ps,(cs,ss))),zs.map tb) ((cs.getD L.2.2.2.2.2.2.2.1.toNat (j,((0:y),([]:B y)))).1,(cs.getD L.2.2.2.2.2.2.2.1.toNat (j,((0:y),([]:B y)))).2.1,(cs.getD L.2.2.2.2.2.2.2.1.toNat (j,((0:y),([]:B y)))).2.2) c b=_ from e2]
       simp only [ja,e3]
end
end Go.Proofs.Pw
