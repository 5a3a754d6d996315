/- RosterPieces. -/
import Derived.Test.YtaieocafhcjelaaGreatAPO
import Derived.Test.YtaieocafhcjelaaGreatAPN
open Go Go.Lft
namespace Go.Proofs.Pw
theorem jAr {s1 y s74 s75 s129 f u p0:Int} {D:List Int} {zs:List j1R} {ps:List j1q} {cs:List CalT} {ss:List j1y} {nm:ByteArray} {ls:List j0w} {es0 es:List j43} {O:SgL} (hl:es.length≤1000):∀ (n i:Nat) (p:Int),i+n=es.length→
  j3W s1 y p s74 s75 D s129 es (es.length:Int) (i:Int) zs ps cs ss nm ls es0 f u p0 O=some (s1,y,jfN y p (es.drop i),s74,s75,D,s129,zs,ps,cs,ss,nm,ls,es0,f,u,p0,O)
 | 0,i,p,hi=>by
  rw [j8Z]
  simp only [j2A]
  rw [j00 (by omega),j6,j08,jc (by omega)]
  rfl
 | n+1,i,p,hi=>by
  have hi':i<es.length:=by omega
  have hgd:es.getD i ((0:Int),((0:Int),((0:Int),((0:Int),(0:Int)))))=es[i]:=by simp [List.getD,hi']
  have ih:=fun q=>jAr (s1:=s1) (y:=y) (s74:=s74) (s75:=s75) (s129:=s129) (f:=f) (u:=u) (p0:=p0) (D:=D) (zs:=zs) (ps:=ps) (cs:=cs) (ss:=ss) (nm:=nm) (ls:=ls) (es0:=es0) (O:=O) hl n (i+1) q (by omega)
  rw [show ((i+1:Nat):Int)=(i:Int)+1 by omega] at ih
  rw [j8Z]
  simp only [j2A]
  rw [j01 (show (i:Int)<(es.length:Int) by omega),j0s (by omega) (by omega),j02 (x:=(i:Int)+1) (by omega) (by omega)]
  simp only [j5,j7,hgd]
  rw [jb hi']
  simp only [jfN]
  generalize es[i]=x at *
  by_cases h1:y<x.2.2.2.1
  ·rw [j01 h1]
   simp only [j5,j05]
   rw [show jst y p x=p from if_pos (.inl h1)]
   exact ih p
  ·rw [j00 h1]
   by_cases h2:x.2.2.2.2≤y
   ·rw [j01 (show y≥x.2.2.2.2 from h2)]
    simp only [j5,j6,j05]
    rw [show jst y p x=p from if_pos (.inr h2)]
    exact ih p
   ·rw [j00 (show ¬ y≥x.2.2.2.2 from h2)]
    simp only [j6]
    have hs:jst y p x=if x.1=1 then x.2.1 else if x.1=2∧p=x.2.1 then x.2.2.1 else if x.1=2∧p=x.2.2.1 then x.2.1 else p:=if_neg (by omega)
    rw [hs]
    by_cases k1:x.1=1
    ·rw [j4Q k1,if_pos k1,j5,j05]
     exact ih _
    ·rw [j2c k1,if_neg k1,j6]
     by_cases k2:x.1=2
     ·rw [j4Q k2]
      simp only [j5]
      by_cases k3:p=x.2.1
      ·rw [j4Q k3,if_pos ⟨k2,k3⟩,j5,j05]
       exact ih _
      ·rw [j2c k3,if_neg (fun h=>k3 h.2),j6]
       by_cases k4:p=x.2.2.1
       ·rw [j4Q k4,if_pos ⟨k2,k4⟩,j5,j05]
        exact ih _
       ·rw [j2c k4,if_neg (fun h=>k4 h.2),j6,j05]
        exact ih _
     ·rw [j2c k2,if_neg (fun h=>k2 h.1),if_neg (fun h=>k2 h.1)]
      simp only [j6,j05]
      exact ih _
section
variable {zs:List j1R} {ps:List j1q} {cs:List CalT} (hs:SOk2 zs ps cs)
include hs
theorem jAs {ss:List j1y} (hc:jhe (zs,(ps,(cs,ss)))) (hi:0<ss.length) {t:Int} (h0:0≤t) (h1:t≤8589934592) {q s74 s75 s129 f u p0:Int} {D:List Int} {O:SgL}:∀ (n k:Nat),k+n=ss[0].2.1.length→
  j3V q t (topP ss[0].2.2 t (pfX zs cs ss[0].2.1 t) k) s74 s75 D s129 ss[0].2.1 (ss[0].2.1.length:Int) (k:Int) zs ps cs ss ss[0].1 ss[0].2.1 ss[0].2.2 f u p0 O=
   some (q,t,topP ss[0].2.2 t (pfX zs cs ss[0].2.1 t) ss[0].2.1.length,s74,s75,D,s129,zs,ps,cs,ss,ss[0].1,ss[0].2.1,ss[0].2.2,f,u,p0,O)
 | 0,k,hk=>by
  rw [j8Y]
  simp only [j2z]
  rw [j00 (by omega),j6,j08,show k=ss[0].2.1.length by omega]
 | n+1,k,hk=>by
  have hk':k<ss[0].2.1.length:=by omega
  have hsc:=hc.sc _ (jg hi)
  have hll:=hsc.ll
  have hel:=hsc.el
  have hL:=hsc.ly _ (jg hk')
  have hnm:=hsc.nm.2 _ (List.mem_map_of_mem (f:=(·.1)) (jg hk'))
  have hgd:ss[0].2.1.getD k (ByteArray.empty,((0:Int),(((0:Int),(0:Int)),((0:Int),((0:Int),(([]:List Int),(([]:List (Int×Int)),((0:Int),(0:Int)))))))))=ss[0].2.1[k]:=by simp [List.getD,hk']
  have hp:=jzy hs hc hL hnm h0 h1
  have e:pfX zs cs ss[0].2.1 t k=perX zs cs ss[0].2.1[k] t:=by simp [pfX,List.getD,hk']
  have ih:=jAs hc hi h0 h1 (q:=q) (s74:=s74) (s75:=s75) (s129:=s129) (f:=f) (u:=u) (p0:=p0) (D:=D) (O:=O) n (k+1) (by omega)
  have hP:topP ss[0].2.2 t (pfX zs cs ss[0].2.1 t) (k+1)=cond (j6X ss[0].2.2 t (pfX zs cs ss[0].2.1 t) k) (pfX zs cs ss[0].2.1 t k) (topP ss[0].2.2 t (pfX zs cs ss[0].2.1 t) k):=by
   simp only [topP,topI]
   cases j6X ss[0].2.2 t (pfX zs cs ss[0].2.1 t) k<;>rfl
  rw [hP] at ih
  have hgood:j6X ss[0].2.2 t (pfX zs cs ss[0].2.1 t) k=(decide ((0:Int)≤perX zs cs ss[0].2.1[k] t) && !j9O ss[0].2.2 (perX zs cs ss[0].2.1[k] t) t):=by simp only [j6X,e]
  rw [hgood,e] at ih
  rw [j8Y]
  simp only [j2z]
  rw [j01 (show (k:Int)<(ss[0].2.1.length:Int) by omega),j0s (by omega) (by omega)]
  simp only [j5,j7,hgd]
  rw [show jey (zs,ps,cs,ss) (ss[0].2.1[k].1,ss[0].2.1[k].2.1,(ss[0].2.1[k].2.2.1.1,ss[0].2.1[k].2.2.1.2),ss[0].2.1[k].2.2.2.1,ss[0].2.1[k].2.2.2.2.1,ss[0].2.1[k].2.2.2.2.2.1,ss[0].2.1[k].2.2.2.2.2.2.1,ss[0].2.1[k].2.2.2.2.2.2.2.1,ss[0].2.1[k].2.2.2.2.2.2.2.2) t=_ from hp]
  simp only [j3]
  rw [j02 (x:=(k:Int)+1) (by omega) (by omega)]
  rw [show decide (perX zs cs ss[0].2.1[k] t≥0)=decide ((0:Int)≤perX zs cs ss[0].2.1[k] t) from rfl]
  cases hd:decide ((0:Int)≤perX zs cs ss[0].2.1[k] t) with
  | false=>
   rw [hd] at ih
   simp only [Bool.false_and,j6,j05] at ih ⊢
   exact ih
  | true=>
   rw [hd] at ih
   simp only [j5,show jjE (ss[0].1,(ss[0].2.1,ss[0].2.2)) (perX zs cs ss[0].2.1[k] t) t=_ from jvY (by omega),j3,vg] at ih ⊢
   cases ha:j9O ss[0].2.2 (perX zs cs ss[0].2.1[k] t) t with
   | false=>
    rw [ha] at ih
    simp only [ju,j5,j05] at ih ⊢
    exact ih
   | true=>
    rw [ha] at ih
    simp only [jj,j6,j05] at ih ⊢
    exact ih
theorem jAt {ss:List j1y} (hc:jhe (zs,(ps,(cs,ss)))) (hi:0<ss.length) {q s74 s75 f u p0:Int} {D:List Int} (hD:D.length=3) (h:∀ y∈D,0≤y∧y≤8589934592∧whoS zs cs ss[0] y=p0) {O:SgL}:∀ (n k:Nat),k+n=3→
  j33 q s74 s75 D (k:Int) zs ps cs ss ss[0].1 ss[0].2.1 ss[0].2.2 f u p0 O=some (.inr (q,s74,s75,zs,ps,cs,ss,ss[0].1,ss[0].2.1,ss[0].2.2,O))
 | 0,k,hk=>by
  rw [j90]
  simp only [j2B]
  rw [j00 (by omega),j6,j08]
 | n+1,k,hk=>by
  have hk':k<D.length:=by omega
  have hgd:D.getD k 0=D[k]:=by simp [List.getD,hk']
  obtain ⟨y0,y1,y2⟩:=h _ (jg hk')
  have hsc:=hc.sc _ (jg hi)
  have hel:=hsc.el
  have l4:=jAs hs hc hi y0 y1 (q:=q) (s74:=s74) (s75:=s75) (s129:=(k:Int)) (f:=f) (u:=u) (p0:=p0) (D:=D) (O:=O) ss[0].2.1.length 0 (by omega)
  have l6:=jAr (s1:=q) (y:=D[k]) (s74:=s74) (s75:=s75) (s129:=(k:Int)) (f:=f) (u:=u) (p0:=p0) (D:=D) (zs:=zs) (ps:=ps) (cs:=cs) (ss:=ss) (nm:=ss[0].1) (ls:=ss[0].2.1) (es0:=ss[0].2.2) (es:=ss[0].2.2) (O:=O) (by omega) ss[0].2.2.length 0 (topP ss[0].2.2 D[k] (pfX zs cs ss[0].2.1 D[k]) ss[0].2.1.length) (by omega)
  rw [jy] at l6
  have hw:=jDv hs hc hi (t:=D[k]) y0 y1
  have hwe:jfN D[k] (topP ss[0].2.2 D[k] (pfX zs cs ss[0].2.1 D[k]) ss[0].2.1.length) ss[0].2.2=p0:=y2
  rw [hwe] at l6
  rw [y2] at hw
  rw [j90]
  simp only [j2B]
  rw [j01 (show (k:Int)<3 by omega),j0s (show (0:Int)≤(k:Int) by omega) (by omega)]
  simp only [j5,j7,hgd,show Int.ofNat ss[0].2.1.length=(ss[0].2.1.length:Int) from rfl]
  rw [show j3V q D[k] (-1) s74 s75 D (k:Int) ss[0].2.1 (ss[0].2.1.length:Int) 0 zs ps cs ss ss[0].1 ss[0].2.1 ss[0].2.2 f u p0 O=_ from l4]
  simp only [j3,show Int.ofNat ss[0].2.2.length=(ss[0].2.2.length:Int) from rfl]
  rw [show j3W q D[k] (topP ss[0].2.2 D[k] (pfX zs cs ss[0].2.1 D[k]) ss[0].2.1.length) s74 s75 D (k:Int) ss[0].2.2 (ss[0].2.2.length:Int) 0 zs ps cs ss ss[0].1 ss[0].2.1 ss[0].2.2 f u p0 O=_ from l6]
  simp only [j3,jd,j6]
  rw [show j7L (zs,ps,cs,ss) 0 D[k]=_ from hw]
  simp only [j3,jd,j6]
  rw [j02 (x:=(k:Int)+1) (by omega) (by omega),j05]
  exact jAt hc hi hD h n (k+1) (by omega)
theorem jAu {ss:List j1y} (hc:jhe (zs,(ps,(cs,ss)))) (hi:0<ss.length) {n a b:Int} (ha:0≤a) (hb:b≤8589934592) {S:SgL} (hS:Cov (whoS zs cs ss[0]) b none a S) (hSl:S.length≤100000):∀ (d j:Nat),j+d=S.length→
  j3X n (S.length:Int) (j:Int) zs ps cs ss ss[0].1 ss[0].2.1 ss[0].2.2 S=some (.inr ())
 | 0,j,hj=>by
  rw [j91]
  simp only [j2C]
  rw [j00 (by omega),j6,j08]
 | d+1,j,hj=>by
  have hj':j<S.length:=by omega
  have hgd:S.getD j ((0:Int),((0:Int),(0:Int)))=S[j]:=by simp [List.getD,hj']
  have hm:=hS.ch.mem _ (jg hj')
  have hp:=hS.pos _ (jg hj')
  have ih:=jAu hc hi (n:=n) ha hb hS hSl d (j+1) (by omega)
  have hm0:0≤n%(S[j].2.1-S[j].1):=Int.emod_nonneg _ (by omega)
  have hm1:n%(S[j].2.1-S[j].1)<S[j].2.1-S[j].1:=Int.emod_lt_of_pos _ (by omega)
  have l2:=jAt hs hc hi (q:=n) (s74:=(S.length:Int)) (s75:=(j:Int)) (f:=S[j].1) (u:=S[j].2.1) (p0:=S[j].2.2) (D:=[S[j].1,S[j].2.1-1,S[j].1+n%(S[j].2.1-S[j].1)]) rfl (fun y hy=>by
   have hy2:S[j].1≤y∧y<S[j].2.1:=by
    simp only [jf,qt,or_false] at hy
    omega
   exact ⟨by omega,by omega,hm.2.2.2 y hy2.1 hy2.2⟩) (O:=S) 3 0 rfl
  have hmod:jhz n (S[j].2.1-S[j].1)=some (n%(S[j].2.1-S[j].1)):=jC6 _ _ (by omega) (by omega)
  rw [j91]
  simp only [j2C]
  rw [j01 (show (j:Int)<(S.length:Int) by omega),j0s (by omega) (by omega)]
  simp only [j5,j7,hgd]
  rw [j00 (show ¬ S[j].1≥S[j].2.1 by omega),j6,j02 (x:=S[j].2.1-1) (by omega) (by omega),j02 (x:=S[j].2.1-S[j].1) (by omega) (by omega),hmod]
  simp only [j3]
  rw [j02 (x:=S[j].1+n%(S[j].2.1-S[j].1)) (by omega) (by omega)]
  rw [show j33 n (S.length:Int) (j:Int) [S[j].1,S[j].2.1-1,S[j].1+n%(S[j].2.1-S[j].1)] 0 zs ps cs ss ss[0].1 ss[0].2.1 ss[0].2.2 S[j].1 S[j].2.1 S[j].2.2 S=_ from l2]
  simp only [j3,j4S]
  rw [j02 (x:=(j:Int)+1) (by omega) (by omega)]
  by_cases hj0:(j:Int)>0
  ·obtain ⟨i,rfl⟩:∃ i,j=i+1:=⟨j-1,by omega⟩
   have hai:=hS.adj2 i hj'
   have hgi:S.getD i ((0:Int),((0:Int),(0:Int)))=S[i]:=by simp [List.getD,show i<S.length by omega]
   rw [j01 hj0,j5,j02 (x:=((i+1:Nat):Int)-1) (by omega) (by omega),show ((i+1:Nat):Int)-1=(i:Int) by omega,j0s (show (0:Int)≤(i:Int) by omega) (by omega)]
   simp only [j5,j7,hgi]
   rw [hai.1,jd,j6,j2c (fun h=>hai.2 h.symm),j6,j05]
   exact ih
  ·rw [j00 hj0,j6,j05]
   exact ih
theorem jsu {L:List Int}:∀ (n:Nat) (a:Int) (s:j1y) (r:List j1y),DOk L a→jhe (zs,(ps,(cs,s::r)))→s.2.1.length≤3→s.2.2.length+n≤6→
  ∃ es a',j4N 0 (n:Int) L a zs ps cs (s::r)=some (L,a',zs,ps,cs,(s.1,(s.2.1,es))::r)∧es.length≤6∧jhe (zs,(ps,(cs,(s.1,(s.2.1,es))::r)))∧DOk L a'
 | 0,a,s,r,hd,hc,hll,hel=>by
  refine ⟨s.2.2,a,?_,by omega,hc,hd⟩
  rw [ja1]
  simp only [j32]
  rw [j00 (by omega),j6,j08]
 | n+1,a,s,r,hd,hc,hll,hel=>by
  obtain ⟨x,a1,e1,hx,d1⟩:=jxE hd (zs:=zs) (ps:=ps) (cs:=cs) (ss:=s::r) hs.so.p0 hs.so.p1
  have hk:=hc.sc s (by simp)
  have hck:SCk zs.length ps.length cs.length (s.1,(s.2.1,s.2.2++[x])):=
   ⟨hk.nm,hk.ly,hk.ll,fun y hy=>by
    rcases jq.1 hy with h | h
    ·exact hk.ed y h
    ·simp only [kg] at h;subst h;exact hx,by simp;omega⟩
  have hc2:jhe (zs,(ps,(cs,(s.1,(s.2.1,s.2.2++[x]))::r))):=jxV hs (by simpa using hc.sl) (by
   have:=hc.sn
   simpa using this) (fun y hy=>by
    rcases jf.1 hy with rfl | h
    ·exact hck
    ·exact hc.sc y (by simp [h]))
  obtain ⟨es,a',e2,h1,h2,h3⟩:=jsu n a1 (s.1,(s.2.1,s.2.2++[x])) r d1 hc2 hll (by simp;omega)
  refine ⟨es,a',?_,h1,h2,h3⟩
  rw [ja1]
  simp only [j32]
  rw [j01 (show ((n+1:Nat):Int)>0 by omega),j5,show j6S L a (zs,(ps,(cs,s::r)))=_ from e1]
  simp only [j3]
  rw [show jgH (zs,ps,cs,s::r) 0 (x.1,x.2.1,x.2.2.1,x.2.2.2.1,x.2.2.2.2)=_ from jzF hs hc (e:=x) hc2]
  simp only [j3,qe,j5]
  rw [j02 (x:=((n+1:Nat):Int)-1) (by omega) (by omega),show ((n+1:Nat):Int)-1=(n:Int) by omega,j05]
  exact e2
end
theorem jla (t:List Int) (_h:Wf (.list (.int .i64)) t) (n:Int) (_h1:Wf (.int .i64) n):j9m t n=some true:=by
 simp only [j9m,jkA,j3,show Int.ofNat (List.length t)=(t.length:Int) from rfl]
 by_cases hl:(t.length:Int)≤500
 ·rw [j01 hl]
  simp only [jj,j6,jmX,j3]
  obtain ⟨zs,ps,cs,ss,a1,e1,hs,g0,g1,g2,g3,d1⟩:=jvT (L:=t) (a:=0) (n:=1) ⟨by omega,by omega,by omega⟩ (by omega) (by omega)
  have hc:=jxV hs (ss:=ss) (by omega) (by rw [g2];exact jBi.take _) (fun s h=>(g3 s h).ck)
  obtain ⟨s,r,rfl⟩:∃ s r,ss=s::r:=by
   cases ss with
   | nil=>simp at g0
   | cons s r=>exact ⟨s,r,rfl⟩
  have hsg:=g3 s (by simp)
  have hel:=hsg.el
  obtain ⟨es,a2,e2,hes,hc2,d2⟩:=jsu hs 2 a1 s r d1 hc hsg.ll (by omega)
  obtain ⟨x,a3,e3,x0,x1,d3⟩:=jp1 d2
  obtain ⟨S,e4,hS,hSl⟩:=jzE hs hc2 (i:=0) (by simp) hsg.ll hes (a:=x) (b:=x+777600) (by omega) (by omega) (by omega) (by omega)
  have hne:S≠[]:=hS.ne (by omega)
  have hSl0:0<S.length:=List.length_pos_iff.2 hne
  have lp:=jAu hs hc2 (by simp) (n:=n) (a:=x) (b:=x+777600) (by omega) (by omega) hS (by omega) S.length 0 (by omega)
  simp only [e1,j3,jbl]
  rw [show j4N 0 2 t a1 zs ps cs (s::r)=_ from e2]
  simp only [j3,e3]
  rw [j02 (x:=x+777600) (by omega) (by omega),show j2o (zs,ps,cs,(s.1,s.2.1,es)::r) 0 x (x+777600)=_ from e4]
  simp only [j3,jd,j6,show Int.ofNat S.length=(S.length:Int) from rfl]
  rw [j2c (show ¬ (S.length:Int)=0 by omega),j0s (show (0:Int)≤0 by omega) (by omega),j02 (x:=(S.length:Int)-1) (by omega) (by omega),j0s (show (0:Int)≤(S.length:Int)-1 by omega) (by omega),show ((S.length:Int)-1).toNat=S.length-1 by omega]
  simp only [qy,j5,j6,hS.head2 hne,hS.ch.last2 hne,jd]
  rw [j0s (show (0:Int)≤0 by omega) (by simp)]
  simp only [j5,show List.getD ((s.1,(s.2.1,es))::r) 0 (ByteArray.empty,(([]:List j0w),([]:List j43)))=(s.1,(s.2.1,es)) from rfl]
  rw [show j3X n (S.length:Int) 0 zs ps cs ((s.1,s.2.1,es)::r) s.1 s.2.1 es S=_ from lp]
  simp only [j3,j4S,jAq]
 ·rw [j00 hl]
  simp only [ju,j5,jAq,j3]
end Go.Proofs.Pw
