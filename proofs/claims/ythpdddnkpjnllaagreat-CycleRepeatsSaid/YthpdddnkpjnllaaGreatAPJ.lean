/- CycleRepeats and CycleFar. -/
import Derived.Test.YthpdddnkpjnllaaGreatAPI
open Go Go.Lft
namespace Go.Proofs.Pw
noncomputable def hzL (zs:List ZoneT) (cs:List CalT):Int→List LayerT→Int
 | n,[]=>n
 | n,L::r=>hzL zs cs (max n (layH zs cs L)) r
def hzE:Int→List EditT→Int
 | n,[]=>n
 | n,x::r=>hzE (max n x.2.2.2.2) r
theorem hzL_le {zs:List ZoneT} {cs:List CalT} {t:Int}:∀ (ls:List LayerT) (n:Int),hzL zs cs n ls≤t↔n≤t∧∀ L∈ls,layH zs cs L≤t
 | [],n=>by simp [hzL]
 | L::r,n=>by
  simp only [hzL,hzL_le r,List.mem_cons,forall_eq_or_imp]
  constructor
  ·rintro ⟨a,b⟩;exact ⟨by omega,by omega,b⟩
  ·rintro ⟨a,b,c⟩;exact ⟨by omega,c⟩
theorem hzE_le {t:Int}:∀ (es:List EditT) (n:Int),hzE n es≤t↔n≤t∧∀ x∈es,x.2.2.2.2≤t
 | [],n=>by simp [hzE]
 | x::r,n=>by
  simp only [hzE,hzE_le r,List.mem_cons,forall_eq_or_imp]
  constructor
  ·rintro ⟨a,b⟩;exact ⟨by omega,by omega,b⟩
  ·rintro ⟨a,b,c⟩;exact ⟨by omega,c⟩
noncomputable def hzn (zs:List ZoneT) (cs:List CalT) (s:SchedT):Int:=hzE (hzL zs cs 0 s.2.1) s.2.2
theorem hzn_le {zs:List ZoneT} {cs:List CalT} {s:SchedT} {t:Int}:hzn zs cs s≤t↔0≤t∧(∀ L∈s.2.1,layH zs cs L≤t)∧∀ x∈s.2.2,x.2.2.2.2≤t:=by
 unfold hzn
 rw [hzE_le,hzL_le,and_assoc]
section
variable {zs:List ZoneT} {ps:List PersonT} {cs:List CalT} (hs:SOk2 zs ps cs)
include hs
theorem layH_u {L:LayerT} (hL:LCk zs.length ps.length cs.length L):layH zs cs L≤1000000000000:=by
 have hz:ZOk (zAt zs L.2.1):=zget hs.so.ok hL.z0 hL.z1
 have hb:=zH_b hz.ztab.2
 have h1:(hO (zAt zs L.2.1).2.1 (tb (zAt zs L.2.1)).2 L 0).getD 0≤8589934592:=by
  cases h:hO (zAt zs L.2.1).2.1 (tb (zAt zs L.2.1)).2 L 0 with
  | none=>simp
  | some v=>have:=hO_at hz.ztab.2 hL.rt2 (k:=0) (by omega) h;simp;omega
 unfold layH
 by_cases hm:L.2.2.2.2.2.2.2.2=0
 ·rw [if_pos hm];omega
 ·rw [if_neg hm]
  have hx:CCk zs.length (cAt cs L.2.2.2.2.2.2.2.1):=cget hs (hL.cal hm).1 (hL.cal hm).2
  generalize cAt cs L.2.2.2.2.2.2.2.1=x at *
  have hxz:ZOk (zAt zs x.2.1):=zget hs.so.ok hx.z0 hx.z1
  have hzb2:=zH_b hxz.ztab.2
  have h2:calH zs x≤1000000000000:=by
   unfold calH
   by_cases hl:x.2.2.length=0
   ·rw [if_pos hl];omega
   ·rw [if_neg hl]
    cases h:fO (zAt zs x.2.1).2.1 (tb (zAt zs x.2.1)).2 (dEnd x) with
    | none=>simp;omega
    | some v=>have:=fO_at hxz.ztab.2 h;simp;omega
  omega
theorem hzn_b {s:SchedT} (hk:SCk zs.length ps.length cs.length s):0≤hzn zs cs s∧hzn zs cs s≤1000000000000:=
 ⟨(hzn_le.1 (Int.le_refl _)).1,hzn_le.2 ⟨by omega,fun L hL=>layH_u hs (hk.ly L hL),fun x hx=>(hk.ed x hx).t1⟩⟩
theorem r15l_lp {ls:List LayerT} (hl:ls.length≤100) (hls:∀ L∈ls,LCk zs.length ps.length cs.length L) {ss:List SchedT} {nm:ByteArray} {es:List EditT}:∀ (m i:Nat) (n:Int),i+m=ls.length→0≤n→
  j05P n (i:Int) zs ps cs ss nm ls es=some (hzL zs cs n (ls.drop i),nm,ls,es)
 | 0,i,n,hi,_=>by
  rw [j0a1]
  simp only [j02b,show Int.ofNat ls.length=(ls.length:Int) from rfl]
  rw [j000 (by omega),cond_false,lpK_inr,List.drop_of_length_le (by omega)]
  rfl
 | m+1,i,n,hi,hn=>by
  have hi':i<ls.length:=by omega
  rw [j0a1,r15s_ok hs hl hls hi' hn,lpK_inl,List.drop_eq_getElem_cons hi']
  exact r15l_lp hl hls m (i+1) (max n (layH zs cs ls[i])) (by omega) (by omega)
omit hs in
theorem r15e_lp {es:List EditT} (hl:es.length≤100) {nm:ByteArray} {ls:List LayerT}:∀ (m i:Nat) (n:Int),i+m=es.length→
  j05Q n (i:Int) nm ls es=some (hzE n (es.drop i))
 | 0,i,n,hi=>by
  rw [j0a2]
  simp only [j02S,show Int.ofNat es.length=(es.length:Int) from rfl]
  rw [j000 (by omega),cond_false,lpK_inr,List.drop_of_length_le (by omega)]
  rfl
 | m+1,i,n,hi=>by
  have hi':i<es.length:=by omega
  have hgd:es.getD i ((0:Int),((0:Int),((0:Int),((0:Int),(0:Int)))))=es[i]:=by simp [List.getD,hi']
  rw [j0a2]
  simp only [j02S,show Int.ofNat es.length=(es.length:Int) from rfl]
  rw [j001 (by omega),inR_t (by omega) (by omega),w64_in (x:=(i:Int)+1) (by omega) (by omega)]
  simp only [cond_true,Int.toNat_natCast,hgd,ite_max,lpK_inl]
  rw [List.drop_eq_getElem_cons hi']
  exact r15e_lp hl m (i+1) _ (by omega)
theorem R15H_ok {ss:List SchedT} (hc:CfgOk (zs,(ps,(cs,ss)))) {i:Nat} (hi:i<ss.length):j099 (zs,(ps,(cs,ss))) (i:Int)=some (hzn zs cs ss[i]):=by
 have hsc:=hc.sc _ (List.getElem_mem hi)
 have hll:=hsc.ll;have hel:=hsc.el
 have hgs:ss.getD i (ByteArray.empty,(([]:List LayerT),([]:List EditT)))=ss[i]:=by simp [List.getD,hi]
 have e8:=R8_ok hc (zs_r4 hs)
 have l0:=r15l_lp hs (by omega) hsc.ly (ss:=ss) (nm:=ss[i].1) (es:=ss[i].2.2) ss[i].2.1.length 0 0 (by omega) (by omega)
 have l2:=r15e_lp (es:=ss[i].2.2) (by omega) (nm:=ss[i].1) (ls:=ss[i].2.1) ss[i].2.2.length 0 (hzL zs cs 0 ss[i].2.1) (by omega)
 rw [List.drop_zero] at l0 l2
 simp only [j099,e8,Option.bind_some,bne_self_eq_false,cond_false,show Int.ofNat ss.length=(ss.length:Int) from rfl]
 rw [j000 (show ¬ (i:Int)<0 by omega),j000 (show ¬ (i:Int)≥(ss.length:Int) by omega),inR_t (by omega) (by omega)]
 simp only [cond_false,cond_true,Int.toNat_natCast,hgs]
 rw [show j05P 0 0 zs ps cs ss ss[i].1 ss[i].2.1 ss[i].2.2=_ from l0]
 simp only [Option.bind_some]
 rw [show j05Q (hzL zs cs 0 ss[i].2.1) 0 ss[i].1 ss[i].2.1 ss[i].2.2=_ from l2]
 rfl
theorem j0o2 {s:SchedT} (hk:SCk zs.length ps.length cs.length s) (hp:pN s≤4294967296) {t:Int} (ht:hzn zs cs s≤t) {j:Int} (hj:0≤j) (h1:t+(pN s:Int)*j≤8589934592) :
  whoS zs cs s (t+(pN s:Int)*j)=whoS zs cs s t:=by
 obtain ⟨t0,tl,te⟩:=hzn_le.1 ht
 obtain ⟨⟨a,ha⟩,hdv⟩:=j0jm s.2.1 604800 hk.ly hp
 have hpa:pN s=604800*a:=ha
 have hpj:(pN s:Int)*j=604800*((a:Int)*j):=by rw [hpa,Int.natCast_mul,Int.mul_assoc];rfl
 have hx0:0≤(a:Int)*j:=Int.mul_nonneg (by omega) hj
 have hpf:=pf_far hs hk.ly hx0 t0 tl (fun L hL=>by
  obtain ⟨b,hb⟩:=hdv L hL
  have hb:pN s=perN L*b:=hb
  refine ⟨(b:Int)*j,Int.mul_nonneg (by omega) hj,?_⟩
  rw [←hpj,hb,Int.natCast_mul,Int.mul_assoc]) (by rw [←hpj];exact h1)
 rw [hpj] at h1 ⊢
 have te':∀ x∈s.2.2,x.2.2.2.2≤t+604800*((a:Int)*j):=fun x hx=>by have:=te x hx;omega
 unfold whoS
 rw [j0h6 _ _ te,j0h6 _ _ te',j0na hpf te' te]
end
theorem j0eu (t:List Int) (_h:Wf (.list (.int .i64)) t) (n:Int) (_h1:Wf (.int .i64) n) (k:Int) (_h2:Wf (.int .i64) k):j06e t n k=some true:=by
 simp only [j06e,j0eU,Option.bind_some,show Int.ofNat (List.length t)=(t.length:Int) from rfl]
 by_cases hl:(t.length:Int)≤500
 ·rw [j001 hl]
  simp only [Bool.not_true,cond_false,j0gx,Option.bind_some]
  obtain ⟨zs,ps,cs,ss,a1,e1,hs,g0,g1,g2,g3,d1⟩:=j0mg (L:=t) (a:=0) (n:=1) ⟨by omega,by omega,by omega⟩ (by omega) (by omega)
  have hc:=cfgN_of hs (ss:=ss) (by omega) (by rw [g2];exact nms3_ok.take _) (fun s h=>(g3 s h).ck)
  have hk:=g3 ss[0] (List.getElem_mem _)
  have hll:=hk.ll
  have eP:=j0n8 hc (i:=0) (by dsimp only;omega)
  have eH:=R15H_ok hs hc (i:=0) (by omega)
  have hb:=hzn_b hs hk.ck
  have hpb:=fold_b ss[0].2.1 604800 hk.ck.ly (by omega) (by omega)
  simp only [e1,Option.bind_some]
  rw [show j02W (zs,(ps,(cs,ss))) 0=_ from eP]
  dsimp only
  by_cases hbig:pN ss[0]>4294967296
  ·rw [if_pos hbig]
   simp only [Option.bind_some,sane16]
   rfl
  ·rw [if_neg hbig]
   obtain ⟨a,ha⟩:=(j0jm ss[0].2.1 604800 hk.ck.ly (show pN ss[0]≤4294967296 by omega)).1
   have hpa:pN ss[0]=604800*a:=ha
   have hp1:1≤pN ss[0]:=hpb.1
   have m0:=Int.emod_nonneg n (show (43200000:Int)≠0 by omega)
   have m1:=Int.emod_lt_of_pos n (show (0:Int)<43200000 by omega)
   have q0:=Int.emod_nonneg k (show (9:Int)≠0 by omega)
   have q1:=Int.emod_lt_of_pos k (show (0:Int)<9 by omega)
   simp only [Option.bind_some,bne_self_eq_false,cond_false]
   rw [show j099 (zs,(ps,(cs,ss))) 0=_ from eH,Mod_eq n 43200000 (by omega) (by omega),Mod_eq k 9 (by omega) (by omega)]
   simp only [Option.bind_some]
   generalize n%43200000=m at *
   generalize k%9=q at *
   have hm0:0≤(pN ss[0]:Int)*(1+q):=Int.mul_nonneg (by omega) (by omega)
   have hm1:(pN ss[0]:Int)*(1+q)≤4294967296*9:=Int.mul_le_mul (by omega) (by omega) (by omega) (by omega)
   have hfar:=j0o2 hs hk.ck (t:=hzn zs cs ss[0]+m) (show pN ss[0]≤4294967296 by omega) (by omega) (j:=1+q) (by omega)
   rw [w64_in (x:=1+q) (by omega) (by omega),w64_in (x:=(pN ss[0]:Int)*(1+q)) (by omega) (by omega),w64_in (x:=hzn zs cs ss[0]+m) (by omega) (by omega),w64_in (x:=hzn zs cs ss[0]+m+(pN ss[0]:Int)*(1+q)) (by omega) (by omega),j001 (show (pN ss[0]:Int)>0 by omega),tmod_nn (show (0:Int)≤(pN ss[0]:Int) by omega),beq_t (show (pN ss[0]:Int)%604800=0 by rw [hpa];omega)]
   generalize (pN ss[0]:Int)*(1+q)=P at *
   simp only [cond_true,sane16]
   by_cases hy:hzn zs cs ss[0]+m+P>8589934592
   ·rw [j001 hy];rfl
   ·rw [j000 hy,j000 (show ¬ hzn zs cs ss[0]+m>8589934592 by omega)]
    have w1:=W14_ok hs hc (i:=0) (by omega) (t:=hzn zs cs ss[0]+m) (by omega) (by omega)
    have w2:=W14_ok hs hc (i:=0) (by omega) (t:=hzn zs cs ss[0]+m+P) (by omega) (by omega)
    rw [hfar (by omega)] at w2
    simp only [cond_false]
    rw [show r14_Who (zs,(ps,(cs,ss))) 0 (hzn zs cs ss[0]+m)=_ from w1,show r14_Who (zs,(ps,(cs,ss))) 0 (hzn zs cs ss[0]+m+P)=_ from w2]
    simp only [Option.bind_some,beq_self_eq_true,cond_true]
 ·rw [j000 hl]
  simp only [Bool.not_false,cond_true,sane16,Option.bind_some]
end Go.Proofs.Pw
