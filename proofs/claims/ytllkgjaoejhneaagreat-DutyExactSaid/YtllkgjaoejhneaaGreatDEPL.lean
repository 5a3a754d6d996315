/- The references of chapters 11 and 12: between the cuts nothing changes. -/
import Derived.Test.YtllkgjaoejhneaaGreatDEPK
import Derived.Test.YtllkgjaoejhneaaGreatDEPB
import Derived.Test.YtllkgjaoejhneaaGreatDEPD
open ByteArray renaming empty->m
open _root_ renaming Int->D,List->E,Option->J,Nat->K,ByteArray->S
open Int renaming ofNat->F
open List renaming length->G
open Option renaming some->I,none->O,map_none->X,all_none->Y,all_some->Z
open Bool renaming true->R,false->U
open Go Go.Lft
namespace Go.Proofs.Pw
def NoC (out:E D) (x y:D):Prop:=∀ c∈out,¬ (x<c∧c≤y)
theorem NoC.left {A B:E D} {x y:D} (h:NoC (A++B) x y):NoC A x y:=fun c hc=>h c (ke _ hc)
theorem NoC.right {A B:E D} {x y:D} (h:NoC (A++B) x y):NoC B x y:=fun c hc=>h c (kc _ hc)
section
variable {zs:E j1l} {ps:E j1s} {cs:E CalT} {ss:E j3z} (hs:GOk zs ps cs)
include hs
theorem jvl {L:j0j} (hL:LC1 zs.length ps.length cs.length L) {x y:D} (h0:0≤x) (hxy:x≤y) (h1:y≤8589934592)
  (hno:L.2.2.2.2.2.2.2.2≠0→NoC ((tb (zAt zs (cAt cs L.2.2.2.2.2.2.2.1).2.1)).2.map (·.1)++(cAt cs L.2.2.2.2.2.2.2.1).2.2.flatMap (dyB (zAt zs (cAt cs L.2.2.2.2.2.2.2.1).2.1))) x y):calB zs cs L x=calB zs cs L y:=by
 unfold calB
 by_cases hm:L.2.2.2.2.2.2.2.2=0
 ·rw [j5N hm];rfl
 ·have hn:=hno hm
  have hcal:=hL.cal hm
  have hx:=cget hs hcal.1 hcal.2
  have hz:ZOk (zAt zs (cAt cs L.2.2.2.2.2.2.2.1).2.1):=zget hs.ok hx.z0 hx.z1
  rw [jwD hz h0 hxy h1 (fun i hi=> ?_) (fun d hd i i0 i1 t ht=> ?_)]
  ·refine hn.left _ (kp.2 ⟨(tb (zAt zs (cAt cs L.2.2.2.2.2.2.2.1).2.1)).2[i],jx hi,?_⟩)
   unfold tat
   simp [List.getD,hi]
  ·refine hn.right t (zg.2 ⟨d,hd,?_⟩)
   unfold dyB
   have:i=0∨i=1:=omg_
   rcases this with rfl | rfl
   ·exact ke _ ht
   ·exact kc _ ht
theorem jvm {L:j0j} (hL:LC1 zs.length ps.length cs.length L) {a b:D} (ha:0≤a) (hab:a≤b) (hb:b≤8589934592) (hlen:b-a≤34560000) :
  ∃ out,jbB (zs,(ps,(cs,ss))) L a b=I out∧out.length≤2400000∧∀ x y,a≤x→x≤y→y<b→NoC out x y→perX zs cs L x=perX zs cs L y:=by
 have hRt:=hL.rt2
 have hz:ZOk (zAt zs L.2.1):=zget hs.ok hL.z0 hL.z1
 have h4:=hz.zref.2.1
 have hl4:(tb (zAt zs L.2.1)).2.length≤4:=jdR hz
 obtain ⟨H,eH,lH,mH⟩:=jwA h4 hRt ha hab hb omg_
 have eH':j7X ((zs.getD L.2.1.toNat (m,((0:D),([]:E Rule)))).1,((zs.getD L.2.1.toNat (m,((0:D),([]:E Rule)))).2.1,(zs.getD L.2.1.toNat (m,((0:D),([]:E Rule)))).2.2))
  (L.1,L.2.1,(L.2.2.1.1,L.2.2.1.2),L.2.2.2.1,L.2.2.2.2.1,L.2.2.2.2.2.1,L.2.2.2.2.2.2.1,L.2.2.2.2.2.2.2.1,L.2.2.2.2.2.2.2.2) a b=_:=eH
 have hsh:∀ x y,a≤x→x≤y→y<b→NoC H x y→shK (zAt zs L.2.1) L x=shK (zAt zs L.2.1) L y:=fun x y h1 h2 h3 hn=>
  jwB hz hRt omg_ h2 omg_ (fun j v hj hv hc=>hn v (mH j v hj hv omg_ omg_) hc)
 obtain ⟨W,eW,lW,hW⟩:∃ W:SL,((L.2.2.2.2.2.2.1.length:D)>0→jcK (zAt zs L.2.1) L.2.2.2.2.2.2.1 a b=I (W,0))∧W.length≤1000∧
   ((L.2.2.2.2.2.2.1.length:D)>0→∀ x y,a≤x→x≤y→y<b→NoC (brW W) x y→hasB (secD (locD (zAt zs L.2.1) x)) L.2.2.2.2.2.2.1=hasB (secD (locD (zAt zs L.2.1) y)) L.2.2.2.2.2.2.1):=by
  by_cases hw:(L.2.2.2.2.2.2.1.length:D)>0
  ·obtain ⟨W,e,s1,s2,s3,s4⟩:=jsQ h4 (q7 hl4 omg_) (r5ck hL.w hL.wl) hL.w hL.wl (M:=58) omg_ ha hab hb omg_ omg_
   have hwl:W.length≤3*59*5:=q7 s3 (z8 (z8 hL.w3 omg_) omg_)
   rw [if_neg omg_] at e
   refine ⟨W,fun _=>e,omg_,fun _ x y h1 h2 h3 hn=> ?_⟩
   have hin:=jwC (W:=W) h2 (fun u hu=>⟨hn u.1 (zg.2 ⟨u,hu,smp_⟩),hn u.2 (zg.2 ⟨u,hu,smp_⟩)⟩)
   obtain ⟨i,i0,i1,i2⟩:=j8U hz.ztab.2 (t:=x) omg_ omg_
   obtain ⟨j,j0,j1,j2⟩:=j8U hz.ztab.2 (t:=y) omg_ omg_
   rw [s4 i i0 x h1 omg_ i1 i2,s4 j j0 y omg_ h3 j1 j2] at hin
   rw [(jnp hz omg_ omg_ i0 i1 i2).2,(jnp hz omg_ omg_ j0 j1 j2).2]
   exact Bool.eq_iff_iff.2 hin
  ·exact ⟨[],fun h=>absurd h hw,smp_,fun h=>absurd h hw⟩
 have hok:∀ x y,a≤x→x≤y→y<b→((L.2.2.2.2.2.2.1.length:D)>0→NoC (brW W) x y)→okW L.2.2.2.2.2.2.1 (secD (locD (zAt zs L.2.1) x))=okW L.2.2.2.2.2.2.1 (secD (locD (zAt zs L.2.1) y)):=fun x y h1 h2 h3 hn=>by
  unfold okW
  by_cases hw:(L.2.2.2.2.2.2.1.length:D)>0
  ·rw [j00 hw,jc,jc]
   exact hW hw x y h1 h2 h3 (hn hw)
  ·rw [j01 hw,jd,jd]
 have hall:∀ out:E D,(∀ c∈H,c∈out)→((L.2.2.2.2.2.2.1.length:D)>0→∀ c∈brW W,c∈out)→
   (L.2.2.2.2.2.2.2.2≠0→∀ c∈(tb (zAt zs (cAt cs L.2.2.2.2.2.2.2.1).2.1)).2.map (·.1)++(cAt cs L.2.2.2.2.2.2.2.1).2.2.flatMap (dyB (zAt zs (cAt cs L.2.2.2.2.2.2.2.1).2.1)),c∈out)→
   ∀ x y,a≤x→x≤y→y<b→NoC out x y→perX zs cs L x=perX zs cs L y:=fun out m1 m2 m3 x y h1 h2 h3 hn=>by
  have e1:=hsh x y h1 h2 h3 (fun c hc=>hn c (m1 c hc))
  have e2:=hok x y h1 h2 h3 (fun hw c hc=>hn c (m2 hw c hc))
  have e3:=jvl hs hL (x:=x) (y:=y) omg_ h2 omg_ (fun hm c hc=>hn c (m3 hm c hc))
  have eon:onX zs cs L x=onX zs cs L y:=by unfold onX;rw [e1,e2,e3]
  unfold perX
  rw [eon,e1]
 have hcal:∀ acc:E D,acc.length≤2390000→L.2.2.2.2.2.2.2.2≠0→∃ out,(cond (inR L.2.2.2.2.2.2.2.1 cs.length) (cond (inR (cs.getD L.2.2.2.2.2.2.2.1.toNat (m,((0:D),([]:E D)))).2.1 zs.length)
   ((j0c ((zs.getD (cs.getD L.2.2.2.2.2.2.2.1.toNat (m,((0:D),([]:E D)))).2.1.toNat (m,((0:D),([]:E Rule)))).1,((zs.getD (cs.getD L.2.2.2.2.2.2.2.1.toNat (m,((0:D),([]:E D)))).2.1.toNat (m,((0:D),([]:E Rule)))).2.1,(zs.getD (cs.getD L.2.2.2.2.2.2.2.1.toNat (m,((0:D),([]:E D)))).2.1.toNat (m,((0:D),([]:E Rule)))).2.2))).bind fun r88=>
     (j7h 0 zs ps cs ss (cs.getD L.2.2.2.2.2.2.2.1.toNat (m,((0:D),([]:E D)))).1 (cs.getD L.2.2.2.2.2.2.2.1.toNat (m,((0:D),([]:E D)))).2.1 (cs.getD L.2.2.2.2.2.2.2.1.toNat (m,((0:D),([]:E D)))).2.2 acc r88.1).bind fun q2=>
      (j8s 0 q2.1 q2.2.1 q2.2.2.1 q2.2.2.2.1 q2.2.2.2.2.1 q2.2.2.2.2.2.1 q2.2.2.2.2.2.2.1 q2.2.2.2.2.2.2.2).bind fun q4=>I q4) O) O)=I out∧out.length≤2400000∧(∀ c∈acc,c∈out)∧
   ∀ c∈(tb (zAt zs (cAt cs L.2.2.2.2.2.2.2.1).2.1)).2.map (·.1)++(cAt cs L.2.2.2.2.2.2.2.1).2.2.flatMap (dyB (zAt zs (cAt cs L.2.2.2.2.2.2.2.1).2.1)),c∈out:=fun acc hacc hm=>by
  have hc:=hL.cal hm
  have hx:CCk zs.length (cAt cs L.2.2.2.2.2.2.2.1):=cget hs hc.1 hc.2
  have hzc:ZOk (zAt zs (cAt cs L.2.2.2.2.2.2.2.1).2.1):=zget hs.ok hx.z0 hx.z1
  have hlc:(tb (zAt zs (cAt cs L.2.2.2.2.2.2.2.1).2.1)).2.length≤4:=jdR hzc
  have hxl:=hx.len
  have e2:=jzO (zs:=zs) (ps:=ps) (cs:=cs) (ss:=ss) (x:=cAt cs L.2.2.2.2.2.2.2.1) (T:=(tb (zAt zs (cAt cs L.2.2.2.2.2.2.2.1).2.1)).2) omg_ (tb (zAt zs (cAt cs L.2.2.2.2.2.2.2.1).2.1)).2.length 0 acc omg_ omg_
  have e4:=jzP (ps:=ps) (cs:=cs) (ss:=ss) hs.ok hx (cAt cs L.2.2.2.2.2.2.2.1).2.2.length 0 (acc++(tb (zAt zs (cAt cs L.2.2.2.2.2.2.2.1).2.1)).2.map (·.1)) omg_ (by rw [jo,qa];omega)
  rw [show ((0:K):D)=0 from rfl,jy] at e2 e4
  have hfl:∀ ds:E D,(ds.flatMap (dyB (zAt zs (cAt cs L.2.2.2.2.2.2.2.1).2.1))).length≤10*ds.length:=fun ds=>by
   induction ds with
   | nil=>simp
   | cons d r ih=>
    have:=jvk hzc d
    rw [yp,jo,jp]
    omega
  have hf:=hfl (cAt cs L.2.2.2.2.2.2.2.1).2.2
  rw [j1v hc.1 hc.2,show inR (cs.getD L.2.2.2.2.2.2.2.1.toNat (m,((0:D),([]:E D)))).2.1 zs.length=R from j1v hx.z0 hx.z1]
  simp only [jc]
  rw [show j0c ((zs.getD (cs.getD L.2.2.2.2.2.2.2.1.toNat (m,((0:D),([]:E D)))).2.1.toNat (m,((0:D),([]:E Rule)))).1,((zs.getD (cs.getD L.2.2.2.2.2.2.2.1.toNat (m,((0:D),([]:E D)))).2.1.toNat (m,((0:D),([]:E Rule)))).2.1,(zs.getD (cs.getD L.2.2.2.2.2.2.2.1.toNat (m,((0:D),([]:E D)))).2.1.toNat (m,((0:D),([]:E Rule)))).2.2))=_ from hzc.zref.2.1.1]
  simp only [ja]
  rw [show j7h 0 zs ps cs ss (cs.getD L.2.2.2.2.2.2.2.1.toNat (m,((0:D),([]:E D)))).1 (cs.getD L.2.2.2.2.2.2.2.1.toNat (m,((0:D),([]:E D)))).2.1 (cs.getD L.2.2.2.2.2.2.2.1.toNat (m,((0:D),([]:E D)))).2.2 acc _=_ from e2]
  simp only [ja]
  rw [e4]
  refine ⟨_,rfl,?_,fun c h=> ?_,fun c h=> ?_⟩
  ·rw [jo,jo,qa];omega
  ·exact ke _ (ke _ h)
  ·rcases js.1 h with h | h
   ·exact ke _ (kc _ h)
   ·exact kc _ h
 simp only [jbB]
 rw [j1v hL.z0 hL.z1,jc,eH']
 simp only [ja,kg,qc,kj]
 rw [j00 (show H.length≤j05 by unfold j05;omega),jc]
 by_cases hw:(L.2.2.2.2.2.2.1.length:D)>0
 ·have e0:=jzN (zs:=zs) (ps:=ps) (cs:=cs) (ss:=ss) (L:=L) (W:=W) omg_ W.length 0 H omg_ omg_
  rw [show ((0:K):D)=0 from rfl,jy] at e0
  rw [j00 (show F L.2.2.2.2.2.2.1.length>0 from hw),jc]
  rw [show jcK ((zs.getD L.2.1.toNat (m,((0:D),([]:E Rule)))).1,((zs.getD L.2.1.toNat (m,((0:D),([]:E Rule)))).2.1,(zs.getD L.2.1.toNat (m,((0:D),([]:E Rule)))).2.2)) L.2.2.2.2.2.2.1 a b=_ from eW hw]
  simp only [ja,e0]
  have hbl:=jyE W
  by_cases hm:L.2.2.2.2.2.2.2.2=0
  ·rw [j5N hm,jc]
   refine ⟨_,rfl,by rw [jo];omega,hall _ (fun c h=>ke _ h) (fun _ c h=>kc _ h) (fun h=>absurd hm h)⟩
  ·rw [j2q hm,jd]
   obtain ⟨out,eo,lo,mo1,mo2⟩:=hcal (H++brW W) (by rw [jo];omega) hm
   exact ⟨out,eo,lo,hall out (fun c h=>mo1 c (ke _ h)) (fun _ c h=>mo1 c (kc _ h)) (fun _=>mo2)⟩
 ·rw [j01 (show ¬ F L.2.2.2.2.2.2.1.length>0 from hw),jd]
  by_cases hm:L.2.2.2.2.2.2.2.2=0
  ·rw [j5N hm,jc]
   exact ⟨H,rfl,omg_,hall _ (fun c h=>h) (fun h=>absurd h hw) (fun h=>absurd hm h)⟩
  ·rw [j2q hm,jd]
   obtain ⟨out,eo,lo,mo1,mo2⟩:=hcal H omg_ hm
   exact ⟨out,eo,lo,hall out mo1 (fun h=>absurd h hw) (fun _=>mo2)⟩
end
structure TG (o:D) (l:TrL):Prop where
 len:l.length≤1000
 gap:∀ i,i+1<l.length→tat l i+604800≤tat l (i+1)
 pos:∀ i,i<l.length→0≤tat l i
 max:∀ i,i<l.length→tat l i≤8589934592
 of0:∀ i,i≤l.length → -64800≤tof o l i
 of1:∀ i,i≤l.length→tof o l i≤64800
section
variable {o:D} {l:TrL} (h:TG o l)
include h
theorem TG.at_lt:∀ (k i:K),i+k+1<l.length→tat l i+604800≤tat l (i+k+1)
 | 0,i,hk=>h.gap i hk
 | k+1,i,hk=>by
  have h1:=TG.at_lt k i omg_
  have h2:=h.gap (i+k+1) omg_
  rw [show i+(k+1)+1=i+k+1+1 by omega]
  omega
theorem TG.at_le {i j:K} (hij:i<j) (hj:j<l.length):tat l i+604800≤tat l j:=by
 have:=h.at_lt (j-i-1) i omg_
 rwa [show i+(j-i-1)+1=j by omega] at this
theorem TG.frm_le1 {i:K} (hi:i≤l.length):frm l i≤frm l (i+1):=by
 rcases qt i l.length with hl | hl
 ·rw [j7w hl]
  cases i with
  | zero=>rw [frm0];exact h.pos 0 hl
  | succ i=>
   rw [j7w omg_]
   have:=h.gap i hl;omega
 ·have:i=l.length:=omg_
  subst this
  rw [j5g]
  cases hq:l.length with
  | zero=>rw [frm0];omega
  | succ n=>
   rw [j7w omg_]
   have:=h.max n omg_;omega
theorem TG.frm_gap {i j:K} (hi:1≤i) (hij:i<j) (hj:j≤l.length):frm l i+604800≤frm l j:=by
 obtain ⟨i,rfl⟩:∃ i',i=i'+1:=⟨i-1,omg_⟩
 obtain ⟨j,rfl⟩:∃ j',j=j'+1:=⟨j-1,omg_⟩
 rw [j7w omg_,j7w omg_]
 exact h.at_le omg_ omg_
theorem TG.frm_le {i j:K} (hij:i≤j) (hj:j≤l.length+1):frm l i≤frm l j:=by
 induction j with
 | zero=>have:i=0:=omg_
         subst this;omega
 | succ j ih=>
  by_cases he:i=j+1
  ·subst he;omega
  ·have h1:=ih omg_ omg_
   have h2:=h.frm_le1 (i:=j) omg_
   omega
theorem TG.frm_lt {i:K} (hi:i≤l.length) (h0:0<i):frm l i<frm l (i+1):=by
 rcases qt i l.length with hl | hl
 ·have:=h.frm_gap (i:=i) (j:=i+1) h0 omg_ omg_
  omega
 ·have:i=l.length:=omg_
  subst this
  obtain ⟨n,hn⟩:∃ n,l.length=n+1:=⟨l.length-1,omg_⟩
  rw [j5g,show frm l l.length=tat l n by rw [hn];exact j7w omg_]
  have:=h.max n omg_;omega
end
theorem jiA (n lo hi:D):(j6u n lo hi=I R∧j6L n lo hi=I R∧lo≤n∧n≤hi)∨(j6u n lo hi=I U∧j6L n lo hi=I U):=by
 by_cases h:lo≤n∧n≤hi
 ·exact .inl ⟨in_t h.1 h.2,in_t h.1 h.2,h.1,h.2⟩
 ·exact .inr ⟨in_f h,in_f h⟩
theorem jwE (r:Rule):(j93 r=I 0∧j9a r=I R∧ROk r)∨(j93 r=I 1∧j9a r=I U):=by
 simp only [j93,j9a]
 rcases jiA r.1 1970 2240 with ⟨a,b,c1,c2⟩ | ⟨a,b⟩
 case inr=>simp only [a,b,ja,jt,jc,jd];exact .inr ⟨trivial,trivial⟩
 rw [a,b];simp only [ja,jk,jc,jd];clear a b
 rcases jiA r.2.1 r.1 2240 with ⟨a,b,d1,d2⟩ | ⟨a,b⟩
 case inr=>simp only [a,b,ja,jt,jc,jd];exact .inr ⟨trivial,trivial⟩
 rw [a,b];simp only [ja,jk,jc,jd];clear a b
 rcases jiA r.2.2.1 1 12 with ⟨a,b,e1,e2⟩ | ⟨a,b⟩
 case inr=>simp only [a,b,ja,jt,jc,jd];exact .inr ⟨trivial,trivial⟩
 rw [a,b];simp only [ja,jk,jc,jd];clear a b
 rcases jiA r.2.2.2.1 1 5 with ⟨a,b,f1,f2⟩ | ⟨a,b⟩
 case inr=>simp only [a,b,ja,jt,jc,jd];exact .inr ⟨trivial,trivial⟩
 rw [a,b];simp only [ja,jk,jc,jd];clear a b
 rcases jiA r.2.2.2.2.1 0 6 with ⟨a,b,g1,g2⟩ | ⟨a,b⟩
 case inr=>simp only [a,b,ja,jt,jc,jd];exact .inr ⟨trivial,trivial⟩
 rw [a,b];simp only [ja,jk,jc,jd];clear a b
 rcases jiA r.2.2.2.2.2.1 0 86399 with ⟨a,b,i1,i2⟩ | ⟨a,b⟩
 case inr=>simp only [a,b,ja,jt,jc,jd];exact .inr ⟨trivial,trivial⟩
 rw [a,b];simp only [ja,jk,jc,jd];clear a b
 rcases jiA r.2.2.2.2.2.2 (-64800) 64800 with ⟨a,b,j1,j2⟩ | ⟨a,b⟩
 case inr=>simp only [a,b,ja,jt,jc];exact .inr ⟨trivial,trivial⟩
 rw [a,b];simp only [ja,jk,jd]
 exact .inl ⟨trivial,trivial,c1,d1,d2,e1,e2,f1,f2,g1,g2,i1,i2,j1,j2⟩
theorem jxj {rs:E Rule} (hlen:rs.length≤100) (nm:S) (o:D):∀ (n i:K) (s:D),i+n=rs.length→0≤s→s≤300*i→¬ (∀ r∈rs.drop i,ROk r)→
  j2C s rs (rs.length:D) (i:D) nm o rs=I (.inl 1)∧j3d s (i:D) nm o rs=I (.inl 1)
 | 0,i,s,hi,_,_,hb=>by
  rw [jj omg_] at hb
  exact absurd (fun r hr=>by simp at hr) hb
 | n+1,i,s,hi,hs0,hs1,hb=>by
  have hlt:i<rs.length:=omg_
  have hg:rs.getD i ((0:D),((0:D),((0:D),((0:D),((0:D),((0:D),(0:D)))))))=rs[i]:=by simp [hlt]
  rw [j5y,j5Y]
  simp only [j1w,j1G,show F (G rs)=(rs.length:D) from rfl]
  rw [j00 (show (i:D)<(rs.length:D) by omega),j1o]
  simp only [jc,je,hg]
  rcases jwE rs[i] with ⟨a,b,hr⟩ | ⟨a,b⟩
  ·have h0:=hr.y0;have h1:=hr.y1;have h2:=hr.y2
   have ih:=jxj hlen nm o n (i+1) (s+(rs[i].2.1-rs[i].1+1)) omg_ omg_ omg_ (fun h=>hb fun r hrm=>by
    rw [jh hlt] at hrm
    rcases jl.1 hrm with rfl | hrm
    ·exact hr
    ·exact h r hrm)
   simp only [a,b,ja,jm,jk,jd,j06]
   rw [j07 (x:=rs[i].2.1-rs[i].1),j07 (x:=rs[i].2.1-rs[i].1+1),j07 (x:=s+(rs[i].2.1-rs[i].1+1)),j07 (x:=(i:D)+1)]
   exact ih
  ·simp only [a,b,ja,jt,jc,j08]
   exact ⟨rfl,trivial⟩
def trG (now:D) (p:J D):TrL→J TrL
 | []=>I []
 | x::r=>if x.2=now then trG now p r else
  if -86400<x.2-now∧x.2-now<86400∧0≤x.1-now∧x.1-now≤8589934592∧(p.all fun q=>decide (q+604800≤x.1-now))=R then (trG x.2 (I (x.1-now)) r).map ((x.1-now,x.2) :: ·) else O
def trR (acc:TrL):J TrL→D ⊕ TrL
 | none=> .inl 6
 | some l=> .inr (acc++l)
theorem jvn (acc:TrL) (y:D×D) (q:J TrL):trR acc (q.map (y :: ·))=trR (acc++[y]) q:=by
 cases q with
 | none=>rfl
 | some l=>simp [trR]
def OB (L:TrL):Prop:=∀ x∈L,(-1000000000000≤x.1∧x.1≤1000000000000) ∧ -64800≤x.2∧x.2≤64800
theorem jyF {acc:TrL} (h:acc≠[]):acc.getLast? = I (acc.getD (acc.length-1) (0,0)):=by
 have hpos:0<acc.length:=List.length_pos_iff.2 h
 rw [List.getLast?_eq_getElem?,List.getD_eq_getElem?_getD,jv (show acc.length-1<acc.length by omega)];rfl
theorem jxk {L:TrL} (hL:L.length≤1000) (hO:OB L):∀ (n i:K) (now:D) (acc:TrL),i+n=L.length → -64800≤now→now≤64800→acc.length≤i→(∀ x∈acc,0≤x.1∧x.1≤8589934592)→
  j2D now (L.length:D) (i:D) acc L=I (trR acc (trG now (acc.getLast?.map (·.1)) (L.drop i)))∧j3e now (i:D) acc L=I (trR acc (trG now (acc.getLast?.map (·.1)) (L.drop i)))
 | 0,i,now,acc,hi,_,_,_,_=>by
  rw [j3Z,j4i,jj omg_]
  simp only [j15,j1k,show F (G L)=(L.length:D) from rfl]
  rw [j01 (show ¬ (i:D)<(L.length:D) by omega)]
  simp only [jd,j08,trG,trR,ql]
  exact ⟨trivial,trivial⟩
 | n+1,i,now,acc,hi,hn0,hn1,hal,hacc=>by
  have hlt:i<L.length:=omg_
  obtain ⟨⟨x0,x1⟩,o0,o1⟩:=hO _ (jx hlt)
  have hgd:L.getD i ((0:D),(0:D))=L[i]:=by simp [hlt]
  have ihA:=fun now acc=>jxk hL hO n (i+1) now acc
  rw [jh hlt,j3Z,j4i]
  simp only [j15,j1k,show F (G L)=(L.length:D) from rfl]
  rw [j00 (show (i:D)<(L.length:D) by omega),j1o]
  simp only [jc,je,hgd]
  generalize L[i]=x at *
  rw [j07 (x:=(i:D)+1)]
  simp only [trG,show F (G acc)=(acc.length:D) from rfl]
  by_cases hx:x.2=now
  ·rw [if_pos hx,j5N hx]
   simp only [jc,j06]
   exact ihA now acc omg_ hn0 hn1 omg_ hacc
  rw [if_neg hx,j2q hx,j07 (x:=x.1-now),j07 (x:=x.2-now),j07 (x:=(acc.length:D)-1)]
  simp only [jd]
  have hix:∀ b:Bool,(b=R→0<acc.length)→(inR ((acc.length:D)-1) acc.length || !b)=true:=fun b hb=>by
   cases b with
   | false=>simp
   | true=>have:=hb rfl;rw [j1o];rfl
  by_cases hd : -86400<x.2-now∧x.2-now<86400
  case neg=>
   rw [if_neg (fun h=>hd ⟨h.1,h.2.1⟩),juR (fun h=>hd ⟨omg_,omg_⟩)]
   rw [show (cond (decide (x.2-now≥86400)) R (decide (x.2-now ≤ -86400)))=R by simp only [vp,qs,jq];omega]
   rw [hix _ smp_]
   simp only [jc,j08,ja,jt,trR]
   exact ⟨trivial,trivial⟩
  rw [show (cond (decide (x.2-now≥86400)) R (decide (x.2-now ≤ -86400)))=U by rw [qo];simp only [ne_eq,vp,qs,jq];omega,
   j8i (show (-86399:D)≤x.2-now by omega) (show x.2-now≤86399 by omega)]
  simp only [jd,ja,jk]
  by_cases ha:0≤x.1-now∧x.1-now≤8589934592
  case neg=>
   rw [if_neg (fun h=>ha ⟨h.2.2.1,h.2.2.2.1⟩),in_f ha,juR ha]
   simp only [ja]
   rw [hix _ smp_]
   simp only [jt,jc,j08,trR]
   exact ⟨trivial,trivial⟩
  rw [in_t ha.1 ha.2,j8i ha.1 ha.2]
  simp only [ja,jk,jd,jt,vz]
  have hnext:=ihA x.2 (acc++[(x.1-now,x.2)]) omg_ o0 o1 sqo_ (fun y hy=>by
   rcases js.1 hy with hy | hy
   ·exact hacc y hy
   ·simp at hy;subst hy;exact ha)
  rw [show (acc++[(x.1-now,x.2)]).getLast? = I (x.1-now,x.2) by simp,kz] at hnext
  by_cases he:acc=[]
  ·subst he
   simp only [qc,List.getLast?_nil,X,Y]
   rw [show decide (((0:K):D)>0)=U from rfl,if_pos ⟨hd.1,hd.2,ha.1,ha.2,trivial⟩,jvn]
   simp only [jt,yf,jc,jd]
   rw [j00 (by simp [j05])]
   simp only [jc,j06]
   exact hnext
  ·have hpos:0<acc.length:=List.length_pos_iff.2 he
   have hlast:=jyF he
   have hb:=hacc (acc.getD (acc.length-1) (0,0)) (List.mem_of_getLast? hlast)
   rw [hix _ (fun _=>hpos),j1o,j00 (show (acc.length:D)>0 by omega),show ((acc.length:D)-1).toNat=acc.length-1 by omega,hlast]
   simp only [jc,kz,Z]
   generalize acc.getD (acc.length-1) ((0:D),(0:D))=y at *
   rw [j07 (x:=y.1+604800),j07 (x:=x.1-now-y.1)]
   by_cases hg:y.1+604800≤x.1-now
   ·rw [if_pos ⟨hd.1,hd.2,ha.1,ha.2,j00 hg⟩,jvn,j01 (show ¬ x.1-now<y.1+604800 by omega),j01 (show ¬ x.1-now-y.1<604800 by omega),j00 (by simp [j05];omega)]
    simp only [jc,jd,j06]
    exact hnext
   ·rw [if_neg (fun h=>hg (qe h.2.2.2.2)),j00 (show x.1-now<y.1+604800 by omega),j00 (show x.1-now-y.1<604800 by omega)]
    simp only [jc,j08,trR]
    exact ⟨trivial,trivial⟩
def ChG (p:J D):TrL→Prop
 | []=>True
 | x::r=>(0≤x.1∧x.1≤8589934592∧(∀ q,p=I q→q+604800≤x.1) ∧ -64800≤x.2∧x.2≤64800)∧ChG (I x.1) r
theorem jvo:∀ (L l:TrL) (now:D) (p:J D),OB L→trG now p L=I l→ChG p l∧l.length≤L.length
 | [],l,now,p,_,h=>by
  simp only [trG,jb] at h
  subst h;exact ⟨trivial,jz _⟩
 | x::r,l,now,p,hO,h=>by
  have hx:=(hO x smp_).2
  have hr:OB r:=fun y hy=>hO y (by simp [hy])
  simp only [trG] at h
  split at h
  ·obtain ⟨a,b⟩:=jvo r l now p hr h
   exact ⟨a,sqo_⟩
  split at h
  ·next hc=>
   cases hq:trG x.2 (I (x.1-now)) r with
   | none=>rw [hq] at h;simp at h
   | some l'=>
    rw [hq] at h
    simp only [kz,jb] at h
    subst h
    obtain ⟨a,b⟩:=jvo r l' _ _ hr hq
    obtain ⟨c1,c2,c3,c4,c5⟩:=hc
    exact ⟨⟨⟨c3,c4,fun q hq=>by subst hq;simpa using c5,hx⟩,a⟩,sqo_⟩
  ·simp at h
theorem jvp:∀ (l:TrL) (p:J D),ChG p l→(∀ i,i+1<l.length→tat l i+604800≤tat l (i+1))∧(∀ i,i<l.length→0≤tat l i∧tat l i≤8589934592)∧
  (∀ o i, -64800≤o→o≤64800→i≤l.length → -64800≤tof o l i∧tof o l i≤64800)
 | [],_,_=>⟨fun i h=>by simp at h,fun i h=>by simp at h,fun o i h1 h2 h3=>by
  have:i=0:=by simpa using h3
  subst this;exact ⟨h1,h2⟩⟩
 | x::r,p,h=>by
  obtain ⟨⟨g3,g4,g5,g6,g7⟩,g8⟩:=h
  obtain ⟨h1,h2,h3⟩:=jvp r _ g8
  refine ⟨fun i hi=> ?_,fun i hi=> ?_,fun o i ho0 ho1 hi=> ?_⟩
  ·cases i with
   | zero=>
    cases r with
    | nil=>simp at hi
    | cons y ys=>
     have:=g8.1.2.2.1 _ rfl
     exact this
   | succ i=>exact h1 i (by simp at hi ⊢;omega)
  ·cases i with
   | zero=>exact ⟨g3,g4⟩
   | succ i=>exact h2 i (by simp at hi ⊢;omega)
  ·cases i with
   | zero=>exact ⟨ho0,ho1⟩
   | succ i=>
    cases i with
    | zero=>exact ⟨g6,g7⟩
    | succ i=>exact h3 x.2 (i+1) g6 g7 (by simp at hi ⊢;omega)
theorem jyG {rs:E Rule} (h:∀ r∈rs,ROk r):OB (j35 (occs rs)):=fun x hx=>by
 have hx:=jp6 hx
 obtain ⟨r,hr,j,_,rfl⟩:=jry hx
 exact ⟨jqC h _ hx,(h r hr).o0,(h r hr).o1⟩
def ZF (z:S×(D×E Rule)):Prop:=z.2.2.length≤100000∧(occs z.2.2).length<20
theorem jpi (z:S×(D×E Rule)) (hf:(occs z.2.2).length<20):∃ l e,j0M z=I (l,e)∧j0c z=I (l,e)∧l.length≤1000∧(e=0→TG z.2.1 l∧(-64800≤z.2.1∧z.2.1≤64800)∧trG z.2.1 O (j35 (occs z.2.2))=I l):=by
 obtain ⟨nm,o,rs⟩:=z
 rcases jiA o (-64800) 64800 with ⟨a,b,o0,o1⟩ | ⟨a,b⟩
 case inr=>
  refine ⟨[],1,?_,?_,smp_,smp_⟩
  ·simp only [j0M,j1V,a,ja,jt,jc];rfl
  ·simp only [j0c,b,ja,jt,jc]
 by_cases h16:rs.length>16
 ·refine ⟨[],5,?_,?_,smp_,smp_⟩
  ·simp only [j0M,j1V,a,ja,jk,jd,show F (G rs)=(rs.length:D) from rfl]
   rw [j00 (show (rs.length:D)>16 by omega)];rfl
  ·simp only [j0c,b,ja,jk,jd,show F (G rs)=(rs.length:D) from rfl]
   rw [j00 (show (rs.length:D)>16 by omega)];rfl
 by_cases hall:∀ r∈rs,ROk r
 case neg=>
  have hb:=jxj (rs:=rs) omg_ nm o rs.length 0 0 omg_ omg_ omg_ (by rwa [jy])
  rw [show ((0:K):D)=0 from rfl] at hb
  refine ⟨[],1,?_,?_,smp_,smp_⟩
  ·simp only [j0M,j1V,a,ja,jk,jd,show F (G rs)=(rs.length:D) from rfl]
   rw [j01 (show ¬ (rs.length:D)>16 by omega),jd,hb.1];rfl
  ·simp only [j0c,b,ja,jk,jd,show F (G rs)=(rs.length:D) from rfl]
   rw [j01 (show ¬ (rs.length:D)>16 by omega),jd,hb.2];rfl
 have e0:=juM hall omg_ nm o rs.length 0 0 omg_ omg_ omg_
 have e2:=juL hall omg_ rs.length 0 [] omg_ smp_
 have e3:=juS hall omg_ nm o rs.length 0 0 omg_ omg_ omg_
 rw [jy] at e0 e2 e3
 rw [show ((0:K):D)=0 from rfl,Int.zero_add] at e0 e3
 rw [show ((0:K):D)=0 from rfl,kg] at e2
 by_cases hn:(occs rs).length>640
 ·refine ⟨[],5,?_,?_,smp_,smp_⟩
  ·simp only [j0M,j1V,a,ja,jk,jd,show F (G rs)=(rs.length:D) from rfl]
   rw [j01 (show ¬ (rs.length:D)>16 by omega),jd,e0]
   simp only [ja,j48]
   rw [j00 (show ((occs rs).length:D)>640 by omega)];rfl
  ·simp only [j0c,b,ja,jk,jd,show F (G rs)=(rs.length:D) from rfl]
   rw [j01 (show ¬ (rs.length:D)>16 by omega),jd,e3]
   simp only [ja,j48]
   rw [j00 (show ((occs rs).length:D)>640 by omega)];rfl
 have hso:j0f (occs rs)=I (j35 (occs rs)):=jhr (jqC hall) hf
 have hl:(j35 (occs rs)).length≤640:=by simp [j35,j7u];omega
 have hob:=jyG hall
 obtain ⟨t1,t2⟩:=jxk (L:=j35 (occs rs)) omg_ hob (j35 (occs rs)).length 0 o [] omg_ o0 o1 smp_ smp_
 rw [show ((0:K):D)=0 from rfl,jy,show (([]:TrL).getLast?.map (·.1))=(O:J D) from rfl] at t1 t2
 have f1:j0M (nm,(o,rs))=(I (trR [] (trG o O (j35 (occs rs))))).bind fun q0=>sumC q0 (fun a=>I (([]:TrL),a)) (fun b=>I (b,(0:D))):=by
  simp only [j0M,j1V,a,ja,jk,jd,show F (G rs)=(rs.length:D) from rfl]
  rw [j01 (show ¬ (rs.length:D)>16 by omega),jd,e0]
  simp only [ja,j48]
  rw [j01 (show ¬ ((occs rs).length:D)>640 by omega),jd,oLn_ rs,e2]
  simp only [ja,hso,jm,jd,show F (j35 (occs rs)).length=((j35 (occs rs)).length:D) from rfl,t1]
 have f2:j0c (nm,(o,rs))=(I (trR [] (trG o O (j35 (occs rs))))).bind fun q0=>sumC q0 (fun a=>I (([]:TrL),a)) (fun b=>I (b,(0:D))):=by
  simp only [j0c,b,ja,jk,jd,show F (G rs)=(rs.length:D) from rfl]
  rw [j01 (show ¬ (rs.length:D)>16 by omega),jd,e3]
  simp only [ja,j48]
  rw [j01 (show ¬ ((occs rs).length:D)>640 by omega),jd,jrz hall omg_]
  simp only [ja,t2]
 cases hq:trG o O (j35 (occs rs)) with
 | none=>
  rw [hq] at f1 f2
  exact ⟨[],6,f1,f2,smp_,smp_⟩
 | some l=>
  rw [hq] at f1 f2
  obtain ⟨hc,hlen⟩:=jvo _ _ _ _ hob hq
  obtain ⟨c1,c2,c3⟩:=jvp l O hc
  exact ⟨l,0,f1,f2,omg_,fun _=>⟨⟨omg_,c1,fun i hi=>(c2 i hi).1,fun i hi=>(c2 i hi).2,fun i hi=>(c3 o i o0 o1 hi).1,fun i hi=>(c3 o i o0 o1 hi).2⟩,⟨o0,o1⟩,rfl⟩⟩
end Go.Proofs.Pw
