/- Behind the horizon it repeats every week whether anybody is on call. -/
import Derived.Test.YthpdddnkpjnllaaGreatGPI
import Derived.Test.YthpdddnkpjnllaaGreatGPG
open Go Go.Lft
namespace Go.Proofs.Pw
theorem jrt {f:Nat→Bool}:∀ {n k:Nat},topI f n=some k→f k=true
 | 0,k,h=>by simp [topI] at h
 | n+1,k,h=>by
  simp only [topI] at h
  cases hf:f n with
  | true=>rw [hf] at h;simp at h;subst h;exact hf
  | false=>rw [hf] at h;simp at h;exact jrt h
section
variable {zs:List j1w} {ps:List j1C} {cs:List CalT} (hs:SOk2 zs ps cs)
include hs
omit hs in
theorem jwO {o:Int} {l:TrL} (h:TOk o l) {L:j0J} (hR:Rt L) {t K:Int} (hH:∀ v,hO o l L 0=some v→v≤t) (a:ShO o l L t K):0≤K↔(hO o l L 0).isSome=true:=by
 rcases a with ⟨a1,a2⟩ | ⟨a1,a2,a3⟩
 ·constructor
  ·omega
  ·intro hs
   obtain ⟨v,hv⟩:=Option.isSome_iff_exists.1 hs
   exact absurd ⟨v,hv,hH v hv⟩ a2
 ·refine ⟨fun _=> ?_,fun _=>a1⟩
  obtain ⟨v,hv,_⟩:=QO.le h hR (k:=0) (by omega) a2
  rw [hv];rfl
theorem jAt {L:j0J} (hL:LCk zs.length ps.length cs.length L) {t x:Int} (hx:0≤x) (h0:0≤t) (ht:layH zs cs L≤t) (h1:t+604800*x≤8589934592):onX zs cs L (t+604800*x)=onX zs cs L t:=by
 have hRt:=hL.rt2
 have hz:ZOk (zAt zs L.2.1):=zget hs.so.ok hL.z0 hL.z1
 have hcal:L.2.2.2.2.2.2.2.2≠0→calH zs (cAt cs L.2.2.2.2.2.2.2.1)≤t:=fun h=>by
  unfold layH at ht
  rw [if_neg h] at ht;omega
 have ht2:zH (tb (zAt zs L.2.1)).2≤t∧(hO (zAt zs L.2.1).2.1 (tb (zAt zs L.2.1)).2 L 0).getD 0≤t:=by
  unfold layH at ht;omega
 obtain ⟨ht2,ht3⟩:=ht2
 obtain ⟨eS,eD⟩:=jxO hz hx ht2 h1
 obtain ⟨_,hK⟩:=jtI hz hRt h0 (show t≤8589934592 by omega)
 obtain ⟨_,hK'⟩:=jtI hz hRt (show 0≤t+604800*x by omega) h1
 have s1:=jwO hz.ztab.2 hRt (fun v hv=>by rw [hv] at ht3;simpa using ht3) hK
 have s2:=jwO hz.ztab.2 hRt (fun v hv=>by rw [hv] at ht3;simp at ht3;omega) hK'
 have hcb:calB zs cs L (t+604800*x)=calB zs cs L t:=by
  unfold calB
  by_cases hm:L.2.2.2.2.2.2.2.2=0
  ·rw [j7q hm];rfl
  ·have hcc:CCk zs.length (cAt cs L.2.2.2.2.2.2.2.1):=cget hs (hL.cal hm).1 (hL.cal hm).2
   rw [j00 (jwK hs hcc (t:=t) (hcal hm) (by omega)),j00 (jwK hs hcc (t:=t+604800*x) (by have:=hcal hm;omega) h1)]
 have e:decide (0≤shK (zAt zs L.2.1) L (t+604800*x))=decide (0≤shK (zAt zs L.2.1) L t):=decide_eq_decide.2 (s2.trans s1.symm)
 unfold onX
 rw [eS,hcb,e]
theorem jzm {s:j2c} (hk:SCk zs.length ps.length cs.length s) {t:Int} (ht:hzn zs cs s≤t) {x:Int} (hx:0≤x) (h1:t+604800*x≤8589934592) :
  whoS zs cs s (t+604800*x)<0↔whoS zs cs s t<0:=by
 obtain ⟨t0,tl,te⟩:=jrs.1 ht
 have te':∀ y∈s.2.2,y.2.2.2.2≤t+604800*x:=fun y hy=>by have:=te y hy;omega
 have hgood:∀ k,k<s.2.1.length→jn9 s.2.2 (t+604800*x) (pfX zs cs s.2.1 (t+604800*x)) k=jn9 s.2.2 t (pfX zs cs s.2.1 t) k:=fun k hkl=>by
  have hL:=hk.ly _ (List.getElem_mem hkl)
  have e:∀ u,pfX zs cs s.2.1 u k=perX zs cs s.2.1[k] u:=fun u=>by simp [pfX,List.getD,hkl]
  have r1:=(jwA hs hL (t:=t) t0 (by omega)).1
  have r2:=(jwA hs hL (t:=t+604800*x) (by omega) h1).1
  rw [jAt hs hL hx t0 (tl _ (List.getElem_mem hkl)) h1] at r2
  simp only [jn9,jtK te,jtK te',e]
  rw [decide_eq_decide.2 (r2.symm.trans r1)]
 have eT:=jrq s.2.1.length hgood
 unfold whoS
 rw [jna _ _ te,jna _ _ te']
 simp only [topP,eT]
 cases hT:topI (jn9 s.2.2 t (pfX zs cs s.2.1 t)) s.2.1.length with
 | none=>exact Iff.rfl
 | some k=>
  have g1:=jrt hT
  have g2:=g1
  rw [←hgood k (jwL hT)] at g2
  simp only [jn9,Bool.and_eq_true,decide_eq_true_eq] at g1 g2
  dsimp only
  omega
theorem jzn {s:j2c} (hk:SCk zs.length ps.length cs.length s):hzn zs cs s≤8589934592:=by
 have zb:∀ {z:j1w},ZOk z→zH (tb z).2≤8589934592:=fun {z} hz=>by
  unfold zH
  by_cases h0:(tb z).2.length=0
  ·rw [if_pos h0];omega
  ·rw [if_neg h0]
   have hm:=hz.ztab.2.max ((tb z).2.length-1) (by omega)
   have e:=jgH (l:=(tb z).2) (i:=(tb z).2.length-1) (by omega)
   rw [show (tb z).2.length-1+1=(tb z).2.length by omega] at e
   omega
 refine jrs.2 ⟨by omega,fun L hL=> ?_,fun x hx=> ?_⟩
 ·have hL:=hk.ly L hL
  have hz:ZOk (zAt zs L.2.1):=zget hs.so.ok hL.z0 hL.z1
  have hb:=zb hz
  have h1:(hO (zAt zs L.2.1).2.1 (tb (zAt zs L.2.1)).2 L 0).getD 0≤8589934592:=by
   cases h:hO (zAt zs L.2.1).2.1 (tb (zAt zs L.2.1)).2 L 0 with
   | none=>simp
   | some v=>have:=juJ hz.ztab.2 hL.rt2 (k:=0) (by omega) h;simp;omega
  unfold layH
  by_cases hm:L.2.2.2.2.2.2.2.2=0
  ·rw [if_pos hm];omega
  ·rw [if_neg hm]
   have hx:CCk zs.length (cAt cs L.2.2.2.2.2.2.2.1):=cget hs (hL.cal hm).1 (hL.cal hm).2
   generalize cAt cs L.2.2.2.2.2.2.2.1=x at *
   have hxz:ZOk (zAt zs x.2.1):=zget hs.so.ok hx.z0 hx.z1
   have hzb2:=zb hxz
   have h2:calH zs x≤8589934592:=by
    unfold calH
    by_cases hl:x.2.2.length=0
    ·rw [if_pos hl];omega
    ·rw [if_neg hl]
     cases h:fO (zAt zs x.2.1).2.1 (tb (zAt zs x.2.1)).2 (dEnd x) with
     | none=>simp;omega
     | some v=>have:=jro hxz.ztab.2 h;simp;omega
   omega
 ·have he:=hk.ed x hx
  have hd:=jsQ he.day
  have hf:=he.f0;have hft:=he.ft
  rw [jdD (by omega)] at hd
  omega
end
theorem jho (t:List Int) (_h:Wf (.list (.int .i64)) t) (n:Int) (_h1:Wf (.int .i64) n) (k:Int) (_h2:Wf (.int .i64) k):j6A t n k=some true:=by
 simp only [j6A,jke,j3,show Int.ofNat (List.length t)=(t.length:Int) from rfl]
 by_cases hl:(t.length:Int)≤500
 ·rw [j01 hl]
  simp only [Bool.not_true,j6,jmj,j3]
  obtain ⟨zs,ps,cs,ss,a1,e1,hs,g0,g1,g2,g3,d1⟩:=juK (L:=t) (a:=0) (n:=1) ⟨by omega,by omega,by omega⟩ (by omega) (by omega)
  have hc:=jzg hs (ss:=ss) (by omega) (by rw [g2];exact jzf.take _) (fun s h=>(g3 s h).ck)
  have hi:0<ss.length:=by omega
  have hk:=g3 ss[0] (List.getElem_mem _)
  have eH:=jzl hs hc hi
  have hb:=jAY hs hk.ck
  have hm:=jzn hs hk.ck
  simp only [e1,j3]
  rw [show j2e (zs,(ps,(cs,ss))) 0=_ from eH,jy3 n 34560000 (by omega) (by omega),jy3 k 500 (by omega) (by omega)]
  have m0:=Int.emod_nonneg n (show (34560000:Int)≠0 by omega)
  have m1:=Int.emod_lt_of_pos n (show (0:Int)<34560000 by omega)
  have q0:=Int.emod_nonneg k (show (500:Int)≠0 by omega)
  have q1:=Int.emod_lt_of_pos k (show (0:Int)<500 by omega)
  simp only [j3]
  generalize n%34560000=m at *
  generalize k%500=q at *
  rw [j03 (x:=hzn zs cs ss[0]+m) (by omega) (by omega),j03 (x:=1+q) (by omega) (by omega),j03 (x:=(1+q)*604800) (by omega) (by omega),j03 (x:=hzn zs cs ss[0]+m+(1+q)*604800) (by omega) (by omega),j01 hm,j5]
  by_cases hy:hzn zs cs ss[0]+m+(1+q)*604800>8589934592
  ·rw [j01 hy,j5,jwz];rfl
  ·rw [j00 hy,j6]
   have w1:=jyq hs hc hi (t:=hzn zs cs ss[0]+m) (by omega) (by omega)
   have w2:=jyq hs hc hi (t:=hzn zs cs ss[0]+m+(1+q)*604800) (by omega) (by omega)
   have cf:=jzm hs hk.ck (t:=hzn zs cs ss[0]+m) (by omega) (x:=1+q) (by omega) (by omega)
   have ee:(604800:Int)*((1:Int)+q)=(1+q)*604800:=by omega
   rw [ee] at cf
   rw [show jhY (zs,(ps,(cs,ss))) 0 (hzn zs cs ss[0]+m)=_ from w1,show jhY (zs,(ps,(cs,ss))) 0 (hzn zs cs ss[0]+m+(1+q)*604800)=_ from w2]
   simp only [j3]
   rw [decide_eq_decide.2 cf.symm,beq_self_eq_true,j5,jwz]
   rfl
 ·rw [j00 hl]
  simp only [Bool.not_false,j5,jwz,j3]
end Go.Proofs.Pw
