/- CoverageForever: the first gap of a range, piece by piece. -/
import Derived.Test.YthpdddnkpjnllaaGreatDPO
import Derived.Test.YthpdddnkpjnllaaGreatDPG
import Derived.Test.YthpdddnkpjnllaaGreatDPN
open Go Go.Lft
namespace Go.Proofs.Pw
theorem jAN {f:Int→Int} {b:Int} {S:SgL} (hSl:S.length≤3000000) (hp:∀ s∈S,s.1<s.2.1) {s3 e:Int} {zs:List j1r} {ps:List j1p} {cs:List CalT} {ss:List j15} {tbs:List (Int×TrL)} {nm:ByteArray} {ls:List j0t} {es:List j3Y} :
  ∀ (n i:Nat) (c:Int),i+n=S.length→Ch f b c (S.drop i)→
  (∃ x,j3q s3 e (S.length:Int) (i:Int) zs ps cs ss tbs nm ls es S=some (.inl (x,true))∧c≤x∧x<b∧f x<0∧∀ t,c≤t→t<x→0≤f t)∨
  (j3q s3 e (S.length:Int) (i:Int) zs ps cs ss tbs nm ls es S=some (.inr (s3,e,zs,ps,cs,ss,tbs,nm,ls,es))∧∀ t,c≤t→t<b→0≤f t)
 | 0,i,c,hi,hc=>by
  refine .inr ⟨?_,fun t t0 t1=> ?_⟩
  ·rw [jdX]
   simp only [j4C]
   rw [j00 (by omega),j6,j07]
  ·rw [List.drop_of_length_le (by omega)] at hc
   have hc:c=b:=hc
   omega
 | n+1,i,c,hi,hc=>by
  have hi':i<S.length:=by omega
  have hgd:S.getD i ((0:Int),((0:Int),(0:Int)))=S[i]:=by simp [List.getD,hi']
  rw [List.drop_eq_getElem_cons hi'] at hc
  obtain ⟨h1,h2,h3,h4⟩:=hc
  have hpi:=hp _ (List.getElem_mem hi')
  rw [jdX]
  simp only [j4C]
  rw [j01 (show (i:Int)<(S.length:Int) by omega),j0q (by omega) (by omega)]
  simp only [j5,j7,hgd]
  by_cases hneg:S[i].2.2<0
  ·refine .inl ⟨S[i].1,?_,by omega,?_,?_,fun t t0 t1=>by omega⟩
   ·rw [j01 hneg,j5,j07]
   ·have:=h4.le;omega
   ·rw [h3 _ (by omega) hpi];exact hneg
  ·rw [j00 hneg,j6,j05]
   dsimp only
   rw [j02 (x:=(i:Int)+1) (by omega) (by omega)]
   have ih:=jAN hSl hp (s3:=s3) (e:=e) (zs:=zs) (ps:=ps) (cs:=cs) (ss:=ss) (tbs:=tbs) (nm:=nm) (ls:=ls) (es:=es) n (i+1) _ (by omega) h4
   rw [show ((i+1:Nat):Int)=(i:Int)+1 by omega] at ih
   rcases ih with ⟨x,e1,x0,x1,x2,x3⟩ | ⟨e1,x3⟩
   ·refine .inl ⟨x,e1,by omega,x1,x2,fun t t0 t1=> ?_⟩
    by_cases ht:t<S[i].2.1
    ·rw [h3 t t0 ht];omega
    ·exact x3 t (by omega) t1
   ·refine .inr ⟨e1,fun t t0 t1=> ?_⟩
    by_cases ht:t<S[i].2.1
    ·rw [h3 t t0 ht];omega
    ·exact x3 t (by omega) t1
section
variable {zs:List j1r} {ps:List j1p} {cs:List CalT} (hs:SOk2 zs ps cs)
include hs
theorem jAO {s:j15} (hk:SCk zs.length ps.length cs.length s) (hll:s.2.1.length≤3) (hel:s.2.2.length≤6) {ss:List j15} {b:Int} (hb:b≤8589934592):∀ (n:Nat) (a:Int),0≤a→b≤a+4320000*n→
  (∃ x,j51 a b zs ps cs ss (zs.map tb) s.1 s.2.1 s.2.2=some (.inl (x,true))∧a≤x∧x<b∧whoS zs cs s x<0∧∀ t,a≤t→t<x→0≤whoS zs cs s t)∨
  (j51 a b zs ps cs ss (zs.map tb) s.1 s.2.1 s.2.2=some (.inr ())∧∀ t,a≤t→t<b→0≤whoS zs cs s t)
 | 0,a,ha,hn=>by
  refine .inr ⟨?_,fun t t0 t1=>by omega⟩
  rw [j9z]
  simp only [j1H]
  rw [j00 (by omega),j6,j07]
 | n+1,a,ha,hn=>by
  by_cases hab:a<b
  ·obtain ⟨m,hm⟩:∃ m,m=if a+4320000<b then a+4320000 else b:=⟨_,rfl⟩
   have hm1:a<m∧m≤b∧m-a≤4320000∧(m=b∨m=a+4320000):=by
    rw [hm];split<;>omega
   obtain ⟨S,eS,hS,lS⟩:=jC0 hs hk hll hel (ss:=ss) (a:=a) (b:=m) ha hm1.1 (by omega) hm1.2.2.1
   have l2:=jAN (f:=whoS zs cs s) (b:=m) lS hS.pos (s3:=b) (e:=m) (zs:=zs) (ps:=ps) (cs:=cs) (ss:=ss) (tbs:=zs.map tb) (nm:=s.1) (ls:=s.2.1) (es:=s.2.2) S.length 0 a (by omega) (by rw [List.drop_zero];exact hS.ch)
   rw [j9z]
   simp only [j1H]
   rw [j01 hab,j5,j02 (x:=a+4320000) (by omega) (by omega),←hm,show j3p ((zs,(ps,(cs,ss))),zs.map tb) (s.1,(s.2.1,s.2.2)) a m=_ from eS]
   simp only [j3,show Int.ofNat S.length=(S.length:Int) from rfl]
   rcases l2 with ⟨x,e1,x0,x1,x2,x3⟩ | ⟨e1,x3⟩
   ·refine .inl ⟨x,?_,x0,by omega,x2,x3⟩
    rw [show j3q b m (S.length:Int) 0 zs ps cs ss (zs.map tb) s.1 s.2.1 s.2.2 S=_ from e1]
    simp only [j3,jjQ,j07]
   ·have ih:=jAO hk hll hel (ss:=ss) hb n m (by omega) (by rcases hm1.2.2.2 with h | h<;>omega)
    rw [show j3q b m (S.length:Int) 0 zs ps cs ss (zs.map tb) s.1 s.2.1 s.2.2 S=_ from e1]
    simp only [j3,j4F,j05]
    rcases ih with ⟨x,e2,y0,y1,y2,y3⟩ | ⟨e2,y3⟩
    ·refine .inl ⟨x,e2,by omega,y1,y2,fun t t0 t1=> ?_⟩
     by_cases ht:t<m
     ·exact x3 t t0 ht
     ·exact y3 t (by omega) t1
    ·refine .inr ⟨e2,fun t t0 t1=> ?_⟩
     by_cases ht:t<m
     ·exact x3 t t0 ht
     ·exact y3 t (by omega) t1
  ·refine .inr ⟨?_,fun t t0 t1=>by omega⟩
   rw [j9z]
   simp only [j1H]
   rw [j00 hab,j6,j07]
theorem jC3 {ss:List j15} {s:j15} (hsc:SCk zs.length ps.length cs.length s):j2B ((zs,(ps,(cs,ss))),zs.map tb) (s.1,(s.2.1,s.2.2))=some (hzn zs cs s):=by
 have hll:=hsc.ll;have hel:=hsc.el
 have l0:=jyF hs (es:=s.2.2) (by omega) (nm:=s.1) (ls:=s.2.1) (ss:=ss) s.2.2.length 0 0 (by omega)
 have hn0:=(jsC (t:=hzE 0 s.2.2) s.2.2 0).1 (Int.le_refl _)
 have l2:=jyG hs (by omega) hsc.ly (ss:=ss) s.2.1.length 0 (hzE 0 s.2.2) (by omega) hn0.1
 rw [List.drop_zero] at l0 l2
 simp only [j2B,show Int.ofNat s.2.2.length=(s.2.2.length:Int) from rfl]
 rw [show j2t s.2.2 (s.2.2.length:Int) 0 zs ps cs ss (zs.map tb) s.1 s.2.1 s.2.2 0=_ from l0]
 simp only [j3,show Int.ofNat s.2.1.length=(s.2.1.length:Int) from rfl]
 rw [show j2u s.2.1 (s.2.1.length:Int) 0 zs ps cs ss (zs.map tb) (hzE 0 s.2.2)=_ from l2,jvb]
 rfl
theorem jwi {ss:List j15} (hc:jnZ (zs,(ps,(cs,ss)))) {i:Nat} (hi:i<ss.length) (hll:ss[i].2.1.length≤3) (hel:ss[i].2.2.length≤6) {a:Int} (ha:0≤a) (ha1:a<8589934592) :
  (∃ x,j1I (zs,(ps,(cs,ss))) (i:Int) a=some (x,false,0)∧a≤x∧x<8589934592∧whoS zs cs ss[i] x = -1∧∀ t,a≤t→t<x→0≤whoS zs cs ss[i] t)∨
  (∃ x,j1I (zs,(ps,(cs,ss))) (i:Int) a=some (x,true,0)∧∀ t,a≤t→t<8589934592→0≤whoS zs cs ss[i] t):=by
 have hsc:=hc.sc _ (List.getElem_mem hi)
 have hgs:ss.getD i (ByteArray.empty,(([]:List j0t),([]:List j3Y)))=ss[i]:=by simp [List.getD,hi]
 have hb:=jDj hs hsc
 have hmx:(if hzn zs cs ss[i]>a then hzn zs cs ss[i] else a)=max a (hzn zs cs ss[i]):=jqR _ _
 have hmn:(if 8589934592<max a (hzn zs cs ss[i])+604800 then (8589934592:Int) else max a (hzn zs cs ss[i])+604800)=min (max a (hzn zs cs ss[i])+604800) 8589934592:=by
  split<;>omega
 have g0:=jAO hs hsc hll hel (ss:=ss) (b:=min (max a (hzn zs cs ss[i])+604800) 8589934592) (by omega) 2000 a ha (by omega)
 simp only [j1I]
 rw [show j6v (zs,(ps,(cs,ss))) (i:Int) a a=_ from jwf hs hc hi ha (Int.le_refl _) (by omega) (by omega)]
 simp only [j3,bne_self_eq_false,j6]
 rw [j0q (by omega) (by omega)]
 simp only [j5,j7,hgs]
 rw [show j2B ((zs,(ps,(cs,ss))),zs.map tb) (ss[i].1,(ss[i].2.1,ss[i].2.2))=_ from jC3 hs hsc]
 simp only [j3]
 rw [hmx,j02 (x:=max a (hzn zs cs ss[i])+604800) (by omega) (by omega),hmn]
 simp only [j9l]
 rcases g0 with ⟨x,e,x0,x1,x2,x3⟩ | ⟨e,x3⟩
 ·refine .inl ⟨x,?_,x0,by omega,?_,x3⟩
  ·rw [e];rfl
  ·have:=jC1 hs hsc (t:=x) (by omega) (by omega)
   omega
 ·refine .inr ⟨0,?_,fun t t0 t1=>jC2 hs hsc ha x3 t0 t1⟩
  rw [e];rfl
theorem jAP {ss:List j15} (hc:jnZ (zs,(ps,(cs,ss)))) (hi:0<ss.length) {l:List Int} (hl:l.length=6) (h:∀ x∈l,0≤x∧x≤8589934592∧0≤whoS zs cs ss[0] x):∀ (n i:Nat),i+n=6→
  j3e l (i:Int) zs ps cs ss=some (.inr ())
 | 0,i,hn=>by
  rw [j7L]
  simp only [j27]
  rw [j00 (by omega),j6,j07]
 | n+1,i,hn=>by
  have hi':i<l.length:=by omega
  have hgd:l.getD i 0=l[i]:=by simp [List.getD,hi']
  have hm:=h _ (List.getElem_mem hi')
  have ih:=jAP hc hi hl h n (i+1) (by omega)
  rw [j7L]
  simp only [j27]
  rw [j01 (show (i:Int)<6 by omega),j0q (by omega) (by omega)]
  simp only [j5,j7,hgd]
  rw [show jft (zs,(ps,(cs,ss))) 0 l[i]=_ from jyD hs hc hi hm.1 hm.2.1]
  simp only [j3]
  rw [j00 (by omega),j6,j05]
  dsimp only
  rw [j02 (x:=(i:Int)+1) (by omega) (by omega)]
  exact ih
theorem jAQ {ss:List j15} (hc:jnZ (zs,(ps,(cs,ss)))) (hi:0<ss.length) {l:List Int} (hl:l.length=4) {a g:Int} (h:∀ x∈l,a≤x→x<g→0≤x∧x≤8589934592∧0≤whoS zs cs ss[0] x):∀ (n i:Nat),i+n=4→
  j3f a g l (i:Int) zs ps cs ss=some (.inr ())
 | 0,i,hn=>by
  rw [j7M]
  simp only [j28]
  rw [j00 (by omega),j6,j07]
 | n+1,i,hn=>by
  have hi':i<l.length:=by omega
  have hgd:l.getD i 0=l[i]:=by simp [List.getD,hi']
  have hm:=h _ (List.getElem_mem hi')
  have ih:=jAQ hc hi hl h n (i+1) (by omega)
  rw [j7M]
  simp only [j28]
  rw [j01 (show (i:Int)<4 by omega),j0q (by omega) (by omega)]
  simp only [j5,j7,hgd]
  by_cases h1:l[i]≥a∧l[i]<g
  ·have hm:=hm h1.1 h1.2
   rw [j01 h1.1,j01 h1.2]
   simp only [j5]
   rw [show jft (zs,(ps,(cs,ss))) 0 l[i]=_ from jyD hs hc hi hm.1 hm.2.1]
   simp only [j3]
   rw [j00 (by omega),j6,j05]
   dsimp only
   rw [j02 (x:=(i:Int)+1) (by omega) (by omega)]
   exact ih
  ·have h2:cond (decide (l[i]≥a)) (decide (l[i]<g)) false=false:=by
    by_cases h3:l[i]≥a
    ·rw [j01 h3,j5,j00 (fun h4=>h1 ⟨h3,h4⟩)]
    ·rw [j00 h3,j6]
   rw [h2,j6,j05]
   dsimp only
   rw [j02 (x:=(i:Int)+1) (by omega) (by omega)]
   exact ih
end
theorem jig (t:List Int) (_h:Wf (.list (.int .i64)) t) (n:Int) (_h1:Wf (.int .i64) n) (m:Int) (_h2:Wf (.int .i64) m):j7N t n m=some true:=by
 simp only [j7N,jl4,j3,show Int.ofNat (List.length t)=(t.length:Int) from rfl]
 by_cases hl:(t.length:Int)≤500
 ·rw [j01 hl]
  simp only [Bool.not_true,j6,jne,j3]
  obtain ⟨zs,ps,cs,ss,a1,e1,hs,g0,g1,g2,g3,d1⟩:=jw8 (L:=t) (a:=0) (n:=1) ⟨by omega,by omega,by omega⟩ (by omega) (by omega)
  have hc:=jBC hs (ss:=ss) (by omega) (by rw [g2];exact jBB.take _) (fun s h=>(g3 s h).ck)
  obtain ⟨x,a2,e2,x0,x1,d2⟩:=jpg d1
  have hi:0<ss.length:=by omega
  have hsg:=g3 _ (List.getElem_mem hi)
  have eH:=jBR hs hc hi
  have hb:=jDj hs hsg.ck
  have hf:=jwi hs hc hi hsg.ll (by have:=hsg.el;omega) (a:=x) (by omega) (by omega)
  simp only [e1,e2,j3]
  rw [show j2T (zs,(ps,(cs,ss))) 0=_ from eH]
  simp only [j3]
  rw [j02 (x:=hzn zs cs ss[0]-x) (by omega) (by omega)]
  by_cases hz:hzn zs cs ss[0]-x>103680000
  ·rw [j01 hz,j5,jv3]
   rfl
  ·rw [j00 hz,j6]
   rcases hf with ⟨g,e3,y0,y1,y2,y3⟩ | ⟨g,e3,y3⟩
   ·rw [show j1I (zs,(ps,(cs,ss))) 0 x=_ from e3]
    simp only [j3,bne_self_eq_false,j6]
    rw [j00 (show ¬ g<x by omega),j00 (show ¬ g≥8589934592 by omega)]
    simp only [j6]
    have w1:=jyD hs hc hi (t:=g) (by omega) (by omega)
    rw [y2] at w1
    rw [show jft (zs,(ps,(cs,ss))) 0 g=_ from w1]
    simp only [j3,bne_self_eq_false,j6]
    rw [j02 (x:=g-x) (by omega) (by omega),j02 (x:=g-x+1) (by omega) (by omega),jpd n (g-x+1) (by omega) (by omega),jpd m (g-x+1) (by omega) (by omega),j02 (x:=g-1) (by omega) (by omega)]
    simp only [j3]
    have n0:=Int.emod_nonneg n (show g-x+1≠0 by omega)
    have n1:=Int.emod_lt_of_pos n (show 0<g-x+1 by omega)
    have m0:=Int.emod_nonneg m (show g-x+1≠0 by omega)
    have m1:=Int.emod_lt_of_pos m (show 0<g-x+1 by omega)
    rw [j02 (x:=x+n%(g-x+1)) (by omega) (by omega),j02 (x:=x+m%(g-x+1)) (by omega) (by omega)]
    have l2:=jAQ hs hc hi (l:=[x+n%(g-x+1),x+m%(g-x+1),g-1,x]) rfl (a:=x) (g:=g) (fun z _ z1 z2=>⟨by omega,by omega,y3 z z1 z2⟩) 4 0 rfl
    rw [show j3f x g [x+n%(g-x+1),x+m%(g-x+1),g-1,x] 0 zs ps cs ss=_ from l2]
    simp only [j3,j4F,jv3]
   ·rw [show j1I (zs,(ps,(cs,ss))) 0 x=_ from e3]
    simp only [j3,bne_self_eq_false,j6,j5]
    have n0:=Int.emod_nonneg n (show (259200000:Int)≠0 by omega)
    have n1:=Int.emod_lt_of_pos n (show (0:Int)<259200000 by omega)
    have m0:=Int.emod_nonneg m (show (86400:Int)≠0 by omega)
    have m1:=Int.emod_lt_of_pos m (show (0:Int)<86400 by omega)
    have p0:=Int.emod_nonneg n (show 8589934592-x≠0 by omega)
    have p1:=Int.emod_lt_of_pos n (show 0<8589934592-x by omega)
    have q0:=Int.emod_nonneg m (show 8589934592-x≠0 by omega)
    have q1:=Int.emod_lt_of_pos m (show 0<8589934592-x by omega)
    rw [jpd n 259200000 (by omega) (by omega),jpd m 86400 (by omega) (by omega),j02 (x:=8589934592-x) (by omega) (by omega),jpd n (8589934592-x) (by omega) (by omega),jpd m (8589934592-x) (by omega) (by omega)]
    simp only [j3]
    rw [j02 (x:=x+n%259200000) (by omega) (by omega),j02 (x:=x+m%86400) (by omega) (by omega),j02 (x:=n%(8589934592-x)+x) (by omega) (by omega),j02 (x:=m%(8589934592-x)+x) (by omega) (by omega)]
    have l0:=jAP hs hc hi (l:=[x,x+n%259200000,x+m%86400,n%(8589934592-x)+x,m%(8589934592-x)+x,8589934591]) rfl (fun z hz=>by
     have hz2:x≤z∧z<8589934592:=by
      simp only [List.mem_cons,List.not_mem_nil,or_false] at hz
      omega
     exact ⟨by omega,by omega,y3 z hz2.1 hz2.2⟩) 6 0 rfl
    rw [show j3e [x,x+n%259200000,x+m%86400,n%(8589934592-x)+x,m%(8589934592-x)+x,8589934591] 0 zs ps cs ss=_ from l0]
    simp only [j3,j4F,jv3]
 ·rw [j00 hl]
  simp only [Bool.not_false,j5,jv3,j3]
end Go.Proofs.Pw
