/- The horizon, and who is on call with edits. -/
import Derived.Test.YthpdddnkpjnllaaGreatAPI
noncomputable section
open Go Go.Lft
namespace Go.Proofs.Pw
theorem ite_max (a b:Int):(if a>b then a else b)=max b a:=by split<;>omega
theorem j0mr {nm:ByteArray} {ls:List LayerT} {es:List EditT} {p t:Int} (hl:es.length≤1000):∀ (n i:Nat),i+n=es.length→j09k p t (i:Int) nm ls es=some (cond (awayB (es.drop i) p t) (.inl true) (.inr ()))
 | 0,i,hi=>by
  rw [j0cO]
  simp only [j04y,show Int.ofNat es.length=(es.length:Int) from rfl]
  rw [j000 (by omega),cond_false,lpK_inr,List.drop_of_length_le (by omega)]
  rfl
 | n+1,i,hi=>by
  have hlt:i<es.length:=by omega
  have hgd:es.getD i ((0:Int),((0:Int),((0:Int),((0:Int),(0:Int)))))=es[i]:=by simp [List.getD,hlt]
  have ih:=j0mr (nm:=nm) (ls:=ls) (p:=p) (t:=t) hl n (i+1) (by omega)
  rw [j0cO]
  simp only [j04y,show Int.ofNat es.length=(es.length:Int) from rfl]
  rw [j001 (by omega),inR_t (by omega) (by omega),w64_in (x:=(i:Int)+1) (by omega) (by omega),List.drop_eq_getElem_cons hlt]
  simp only [cond_true,Int.toNat_natCast,hgd]
  have ha:awayB (es[i]::es.drop (i+1)) p t=((es[i].1==0&&(es[i].2.1==p&&(decide (es[i].2.2.2.1≤t)&&decide (t<es[i].2.2.2.2))))||awayB (es.drop (i+1)) p t):=rfl
  have e:(cond (cond (cond (es[i].1==(0:Int)) (es[i].2.1==p) false) (decide (es[i].2.2.2.1≤t)) false) (decide (t<es[i].2.2.2.2)) false)=(es[i].1==0&&(es[i].2.1==p&&(decide (es[i].2.2.2.1≤t)&&decide (t<es[i].2.2.2.2)))):=by
   cases es[i].1==(0:Int)<;>cases es[i].2.1==p<;>cases decide (es[i].2.2.2.1≤t)<;>rfl
  rw [e,ha]
  cases (es[i].1==0&&(es[i].2.1==p&&(decide (es[i].2.2.2.1≤t)&&decide (t<es[i].2.2.2.2)))) with
  | true=>rfl
  | false=>
   rw [cond_false,lpK_inl,Bool.false_or]
   exact ih
theorem j0ms {nm:ByteArray} {ls:List LayerT} {es:List EditT} {p t:Int} (hl:es.length≤1000):j0gG (nm,(ls,es)) p t=some (awayB es p t):=by
 have:=j0mr (nm:=nm) (ls:=ls) (p:=p) (t:=t) hl es.length 0 (by omega)
 simp only [j0gG,show j09k p t 0 nm ls es=_ from this,Option.bind_some,List.drop_zero]
 cases awayB es p t<;>rfl
section
variable {zs:List ZoneT} {ps:List PersonT} {cs:List CalT} (hs:SOk2 zs ps cs)
include hs
theorem r12t_lp {ss:List SchedT} {nm:ByteArray} {ls:List LayerT} {es:List EditT} (hel:es.length≤1000) (hll:ls.length≤1000) (hL:∀ L∈ls,LCk zs.length ps.length cs.length L) {t:Int} (h0:0≤t) (h1:t≤8589934592):∀ n:Nat,n≤ls.length→
  j0aF t ((n:Int)-1) zs ps cs ss nm ls es=some (match topI (goodL es t (pfX zs cs ls t)) n with | some i=> .inl ((i:Int),pfX zs cs ls t i) | none=> .inr ())
 | 0,hn=>by
  rw [j0ej]
  simp only [j058]
  rw [j000 (by omega),cond_false,lpK_inr]
  rfl
 | n+1,hn=>by
  have hlt:n<ls.length:=by omega
  have hgd:ls.getD n (ByteArray.empty,((0:Int),(((0:Int),(0:Int)),((0:Int),((0:Int),(([]:List Int),(([]:List (Int×Int)),((0:Int),(0:Int)))))))))=ls[n]:=by simp [List.getD,hlt]
  have ih:=r12t_lp (ss:=ss) (nm:=nm) hel hll hL h0 h1 n (by omega)
  have hp:=j0o5 hs (hL _ (List.getElem_mem hlt)) (ss:=ss) h0 h1
  have e:pfX zs cs ls t n=perX zs cs ls[n] t:=by simp [pfX,List.getD,hlt]
  rw [show ((n+1:Nat):Int)-1=(n:Int) by omega,j0ej]
  simp only [j058]
  rw [j001 (show (n:Int)≥0 by omega),inR_t (by omega) (by omega),w64_in (x:=(n:Int)-1) (by omega) (by omega)]
  simp only [cond_true,Int.toNat_natCast,hgd]
  rw [show r11_Raw (zs,(ps,(cs,ss))) (ls[n].1,(ls[n].2.1,((ls[n].2.2.1.1,ls[n].2.2.1.2),(ls[n].2.2.2.1,(ls[n].2.2.2.2.1,(ls[n].2.2.2.2.2.1,(ls[n].2.2.2.2.2.2.1,(ls[n].2.2.2.2.2.2.2.1,ls[n].2.2.2.2.2.2.2.2)))))))) t=_ from hp]
  simp only [Option.bind_some,topI,goodL,e]
  by_cases hp0:0≤perX zs cs ls[n] t
  ·rw [j001 (show perX zs cs ls[n] t≥0 from hp0)]
   simp only [cond_true,j0ms hel,Option.bind_some,Bool.true_and]
   cases awayB es (perX zs cs ls[n] t) t with
   | true=>
    simp only [Bool.not_true,cond_false,lpK_inl]
    exact ih
   | false=>
    simp only [Bool.not_false,cond_true,e]
    exact lpK_inr ..
  ·rw [j000 (show ¬ perX zs cs ls[n] t≥0 from hp0)]
   simp only [cond_false,Bool.false_and,lpK_inl]
   exact ih
def whoS (zs:List ZoneT) (cs:List CalT) (s:SchedT) (t:Int):Int:=foldE t (topP s.2.2 t (pfX zs cs s.2.1 t) s.2.1.length) s.2.2
theorem W14_ok {ss:List SchedT} (hc:CfgOk (zs,(ps,(cs,ss)))) {i:Nat} (hi:i<ss.length) {t:Int} (h0:0≤t) (h1:t≤8589934592):r14_Who (zs,(ps,(cs,ss))) (i:Int) t=some (whoS zs cs ss[i] t):=by
 have hsc:=hc.sc _ (List.getElem_mem hi)
 have hll:=hsc.ll;have hel:=hsc.el
 have hgs:ss.getD i (ByteArray.empty,(([]:List LayerT),([]:List EditT)))=ss[i]:=by simp [List.getD,hi]
 have e8:=R8_ok hc (zs_r4 hs)
 have lp:=r12t_lp hs (ss:=ss) (nm:=ss[i].1) (es:=ss[i].2.2) (by omega) (by omega) hsc.ly h0 h1 ss[i].2.1.length (Nat.le_refl _)
 have et:∃ k,r12_Top (zs,(ps,(cs,ss))) (i:Int) t=some (k,topP ss[i].2.2 t (pfX zs cs ss[i].2.1 t) ss[i].2.1.length):=by
  simp only [r12_Top]
  rw [inR_t (by omega) (by omega)]
  simp only [cond_true,Int.toNat_natCast,hgs,show Int.ofNat ss[i].2.1.length=(ss[i].2.1.length:Int) from rfl]
  rw [w64_in (x:=(ss[i].2.1.length:Int)-1) (by omega) (by omega),show j0aF t ((ss[i].2.1.length:Int)-1) zs ps cs ss ss[i].1 ss[i].2.1 ss[i].2.2=_ from lp]
  simp only [Option.bind_some,topP]
  cases topI (goodL ss[i].2.2 t (pfX zs cs ss[i].2.1 t)) ss[i].2.1.length with
  | none=>exact ⟨_,rfl⟩
  | some k=>exact ⟨_,rfl⟩
 obtain ⟨k,et⟩:=et
 have ef:=f13_lp (es:=ss[i].2.2) (by omega) (t:=t) ss[i].2.2.length 0 (topP ss[i].2.2 t (pfX zs cs ss[i].2.1 t) ss[i].2.1.length) (by omega)
 rw [List.drop_zero] at ef
 simp only [r14_Who,r13_Who,r12_Ok,show Int.ofNat ss.length=(ss.length:Int) from rfl]
 rw [j001 (show (i:Int)≥0 by omega),j001 (show (i:Int)<(ss.length:Int) by omega),j001 (show t≥0 from h0),j001 h1]
 simp only [cond_true,e8,Option.bind_some,beq_self_eq_true,Bool.not_true,cond_false,r13_Raw,et]
 rw [inR_t (by omega) (by omega)]
 simp only [cond_true,Int.toNat_natCast,hgs,j0iE]
 rw [show j09l ss[i].2.2 (topP ss[i].2.2 t (pfX zs cs ss[i].2.1 t) ss[i].2.1.length) t 0=_ from ef]
 rfl
theorem WE_ok {ss:List SchedT} (hc:CfgOk (zs,(ps,(cs,ss)))) {i:Nat} (hi:i<ss.length) {t:Int} (h0:0≤t) (h1:t≤8589934592):j06G (zs,(ps,(cs,ss))) (i:Int) t=some (whoS zs cs ss[i] t):=by
 have hsc:=hc.sc _ (List.getElem_mem hi)
 have hll:=hsc.ll;have hel:=hsc.el
 have hgs:ss.getD i (ByteArray.empty,(([]:List LayerT),([]:List EditT)))=ss[i]:=by simp [List.getD,hi]
 have hL:=j0ml (zs:=zs) (ps:=ps) (cs:=cs) (ss:=ss) (tbs:=zs.map tb) (ls:=ss[i].2.1) (nm:=ss[i].1) (es:=ss[i].2.2) (t:=t) (Pf:=pfX zs cs ss[i].2.1 t) (by omega) (fun k hk=>by
  have e:pfX zs cs ss[i].2.1 t k=perX zs cs ss[i].2.1[k] t:=by simp [pfX,List.getD,hk]
  rw [e]
  exact (on_ok hs (hsc.ly _ (List.getElem_mem hk)) (ss:=ss) h0 h1).2.1)
 have hL2:∃ k,j02V ((zs,(ps,(cs,ss))),zs.map tb) (ss[i].1,(ss[i].2.1,ss[i].2.2)) t=some (k,topP ss[i].2.2 t (pfX zs cs ss[i].2.1 t) ss[i].2.1.length):=by
  rw [show j02V ((zs,(ps,(cs,ss))),zs.map tb) (ss[i].1,(ss[i].2.1,ss[i].2.2)) t=_ from hL]
  simp only [topP]
  cases topI (goodL ss[i].2.2 t (pfX zs cs ss[i].2.1 t)) ss[i].2.1.length with
  | none=>exact ⟨_,rfl⟩
  | some k=>exact ⟨_,rfl⟩
 obtain ⟨k,hL2⟩:=hL2
 have ef:=f13e_lp (es:=ss[i].2.2) (by omega) (t:=t) ss[i].2.2.length 0 (topP ss[i].2.2 t (pfX zs cs ss[i].2.1 t) ss[i].2.1.length) (by omega)
 rw [List.drop_zero] at ef
 simp only [j06G,j0dF,Of_cfg hs.so.ok hc,Option.bind_some,Bool.not_true,cond_false,j06f,show Int.ofNat ss.length=(ss.length:Int) from rfl]
 rw [j001 (show (i:Int)≥0 by omega),j001 (show (i:Int)<(ss.length:Int) by omega),inR_t (by omega) (by omega)]
 simp only [cond_true,Bool.not_true,cond_false,Int.toNat_natCast,hgs,j09e]
 rw [j000 (show ¬ t<0 by omega),j000 (show ¬ t>8589934592 by omega)]
 simp only [cond_false]
 simp only [hL2,Option.bind_some,j0bo,show Int.ofNat ss[i].2.2.length=(ss[i].2.2.length:Int) from rfl,show j05s (topP ss[i].2.2 t (pfX zs cs ss[i].2.1 t) ss[i].2.1.length) t ss[i].2.2 (ss[i].2.2.length:Int) 0=_ from ef]
 rfl
omit hs in
theorem tat_zH {l:TrL} (h:l.length≠0):zH l=(l.getD (l.length-1) ((0:Int),(0:Int))).1+86400:=by
 unfold zH frm
 rw [if_neg h,if_neg h,if_pos (Nat.le_refl _)]
 rfl
omit hs in
theorem zH_b {o:Int} {l:TrL} (h:TOk o l):0≤zH l∧zH l≤8589934592+86400:=by
 unfold zH
 by_cases h0:l.length=0
 ·rw [if_pos h0];omega
 ·rw [if_neg h0]
  have e:frm l (l.length+1)=8589934593:=frm_end
  have:=h.frm_lt (i:=l.length) (Nat.le_refl _)
  have:=h.frm_le (i:=0) (j:=l.length) (by omega) (by omega)
  have e0:frm l 0=0:=frm0
  omega
omit hs in
theorem tabx {i:Int} (h0:0≤i) (h1:i<(zs.length:Int)) {c:CfgT}:j035 (c,zs.map tb) i=some (tb (zAt zs i)):=by
 simp only [j035,List.length_map]
 rw [inR_t h0 h1,cond_true,tb_get h0 h1]
 rfl
theorem hc1_ok {i:Int} (h0:0≤i) (h1:i<(zs.length:Int)) {ss:List SchedT} {n:Int} (hn:0≤n):j02g i zs ps cs ss (zs.map tb) n=some (zs,ps,cs,ss,zs.map tb,max n (zH (tb (zAt zs i)).2)):=by
 have hz:ZOk (zAt zs i):=zget hs.so.ok h0 h1
 have hb:=zH_b hz.ztab.2
 have hlen:=hz.ztab.2.len
 simp only [j02g,tabx h0 h1,Option.bind_some,j06h,j08N,show Int.ofNat (tb (zAt zs i)).2.length=((tb (zAt zs i)).2.length:Int) from rfl]
 by_cases hl:(tb (zAt zs i)).2.length=0
 ·rw [j000 (by omega),cond_false,show zH (tb (zAt zs i)).2=0 by unfold zH;rw [if_pos hl]]
  simp only [Option.some.injEq,Prod.mk.injEq,true_and]
  omega
 ·have e:=tat_zH hl
  rw [j001 (by omega),cond_true,beq_f (by omega),cond_false,w64_in (x:=((tb (zAt zs i)).2.length:Int)-1) (by omega) (by omega),inR_t (by omega) (by omega),show (((tb (zAt zs i)).2.length:Int)-1).toNat=(tb (zAt zs i)).2.length-1 by omega]
  simp only [cond_true,Option.bind_some]
  rw [←e,w64_in (x:=zH (tb (zAt zs i)).2) (by omega) (by omega),ite_max]
omit hs in
theorem j0k0 {z:ZoneT} (hz:ZOk z):j0aC z=some (zH (tb z).2):=by
 have h4:=hz.zref.2.1
 have hb:=zH_b h4.2
 have hlen:=h4.2.len
 simp only [j0aC,j0dG,show j00D (z.1,(z.2.1,z.2.2))=_ from h4.1,Option.bind_some,bne_self_eq_false,cond_false,show Int.ofNat (tb z).2.length=((tb z).2.length:Int) from rfl]
 by_cases hl:(tb z).2.length=0
 ·rw [beq_t (by omega),cond_true,show zH (tb z).2=0 by unfold zH;rw [if_pos hl]]
 ·have e:=tat_zH hl
  rw [beq_f (by omega),cond_false,cond_false,w64_in (x:=((tb z).2.length:Int)-1) (by omega) (by omega),inR_t (by omega) (by omega),show (((tb z).2.length:Int)-1).toNat=(tb z).2.length-1 by omega]
  simp only [cond_true,Option.bind_some]
  rw [←e,w64_in (x:=zH (tb z).2) (by omega) (by omega)]
omit hs in
theorem j0mt {nz:Nat} {x:CalT} (hx:CCk nz x) (hl:x.2.2.length≠0):0≤x.2.2.getD (x.2.2.length-1) 0∧x.2.2.getD (x.2.2.length-1) 0≤98980:=by
 have hlm:x.2.2.getD (x.2.2.length-1) 0∈x.2.2:=by
  rw [show x.2.2.getD (x.2.2.length-1) 0=x.2.2[x.2.2.length-1] by simp [List.getD,show x.2.2.length-1<x.2.2.length by omega]]
  exact List.getElem_mem _
 exact ⟨day_ge (hx.day _ hlm),day_le2 (hx.day _ hlm)⟩
omit hs in
theorem hO_b {o:Int} {l:TrL} (ht:TOk o l) {L:LayerT} (hR:Rt L):0≤(hO o l L 0).getD 0:=by
 cases h:hO o l L 0 with
 | none=>simp
 | some v=>have:=hO_at ht hR (k:=0) (by omega) h;simp;omega
theorem chs_ok {ls:List LayerT} {m:Int} (hm1:m=ls.length) (hm2:m≤100) (hls:∀ L∈ls,LCk zs.length ps.length cs.length L) {i:Nat} (hi:i<ls.length) {ss:List SchedT} {n:Int} (hn:0≤n) :
  j00A ls m (i:Int) zs ps cs ss (zs.map tb) n=some (.inl (ls,m,(i:Int)+1,zs,ps,cs,ss,zs.map tb,max n (layH zs cs ls[i]))):=by
 have hL:=hls _ (List.getElem_mem hi)
 have hgd:ls.getD i (ByteArray.empty,((0:Int),(((0:Int),(0:Int)),((0:Int),((0:Int),(([]:List Int),(([]:List (Int×Int)),((0:Int),(0:Int)))))))))=ls[i]:=by simp [List.getD,hi]
 simp only [j00A]
 rw [j001 (by omega),inR_t (by omega) (by omega),w64_in (x:=(i:Int)+1) (by omega) (by omega)]
 simp only [cond_true,Int.toNat_natCast,hgd]
 generalize ls[i]=L at *
 have hRt:=hL.rt2
 have hz:ZOk (zAt zs L.2.1):=zget hs.so.ok hL.z0 hL.z1
 obtain ⟨v,eH,hv⟩:=recH hz.ztab.2 hRt (k:=0) (by omega) (by omega)
 have eH':j00N ((tb (zAt zs L.2.1)).1,(tb (zAt zs L.2.1)).2) (L.1,(L.2.1,((L.2.2.1.1,L.2.2.1.2),(L.2.2.2.1,(L.2.2.2.2.1,(L.2.2.2.2.2.1,(L.2.2.2.2.2.2.1,(L.2.2.2.2.2.2.2.1,L.2.2.2.2.2.2.2.2)))))))) 0=some (v,(hO (zAt zs L.2.1).2.1 (tb (zAt zs L.2.1)).2 L 0).isSome):=eH
 have hb:=hO_b hz.ztab.2 hRt
 simp only [hc1_ok hs hL.z0 hL.z1 hn,Option.bind_some,tabx hL.z0 hL.z1,eH',ite_max]
 by_cases hm:L.2.2.2.2.2.2.2.2=0
 ·have el:layH zs cs L=max (zH (tb (zAt zs L.2.1)).2) ((hO (zAt zs L.2.1).2.1 (tb (zAt zs L.2.1)).2 L 0).getD 0):=by
   have hzb:=zH_b hz.ztab.2
   unfold layH;rw [if_pos hm];omega
  rw [beq_t hm,el]
  cases hh:hO (zAt zs L.2.1).2.1 (tb (zAt zs L.2.1)).2 L 0 with
  | none=>simp only [Option.isSome_none,cond_false,cond_true,Option.getD_none];congr 1;congr 1;simp only [Prod.mk.injEq,true_and];omega
  | some w=>
   rw [hv w hh]
   simp only [Option.isSome_some,cond_true,Option.getD_some];congr 1;congr 1;simp only [Prod.mk.injEq,true_and];omega
 ·have hx:CCk zs.length (cAt cs L.2.2.2.2.2.2.2.1):=cget hs (hL.cal hm).1 (hL.cal hm).2
  have el:layH zs cs L=max (max (zH (tb (zAt zs L.2.1)).2) ((hO (zAt zs L.2.1).2.1 (tb (zAt zs L.2.1)).2 L 0).getD 0)) (calH zs (cAt cs L.2.2.2.2.2.2.2.1)):=by unfold layH;rw [if_neg hm]
  rw [beq_f hm,el,inR_t (hL.cal hm).1 (hL.cal hm).2]
  have hcx:cs.getD L.2.2.2.2.2.2.2.1.toNat (ByteArray.empty,((0:Int),([]:List Int)))=cAt cs L.2.2.2.2.2.2.2.1:=rfl
  rw [hcx]
  generalize cAt cs L.2.2.2.2.2.2.2.1=x at *
  have hxz:ZOk (zAt zs x.2.1):=zget hs.so.ok hx.z0 hx.z1
  have hzb:=zH_b hz.ztab.2
  have hzb2:=zH_b hxz.ztab.2
  have hxl:=hx.len
  simp only [cond_false,cond_true,show Int.ofNat x.2.2.length=(x.2.2.length:Int) from rfl]
  by_cases hl:x.2.2.length=0
  ·have ec:calH zs x=zH (tb (zAt zs x.2.1)).2:=by unfold calH;rw [if_pos hl];omega
   rw [j000 (show ¬ (x.2.2.length:Int)>0 by omega),ec]
   cases hh:hO (zAt zs L.2.1).2.1 (tb (zAt zs L.2.1)).2 L 0 with
   | none=>
    simp only [Option.isSome_none,cond_false,Option.getD_none,hc1_ok hs hx.z0 hx.z1 (show 0≤max n (zH (tb (zAt zs L.2.1)).2) by omega),Option.bind_some];congr 1;congr 1;simp only [Prod.mk.injEq,true_and];omega
   | some w=>
    rw [hv w hh]
    simp only [Option.isSome_some,cond_true,cond_false,Option.getD_some,hc1_ok hs hx.z0 hx.z1 (show 0≤max (max n (zH (tb (zAt zs L.2.1)).2)) w by omega),Option.bind_some];congr 1;congr 1;simp only [Prod.mk.injEq,true_and];omega
  ·obtain ⟨l0,l1⟩:=j0mt hx hl
   obtain ⟨u,hu⟩:=fO_day hxz.ztab.2 (s:=dEnd x) (by unfold dEnd;omega)
   have eF:=j0hb hxz.ztab.2 (d:=x.2.2.getD (x.2.2.length-1) 0+1) (c:=0) (by omega) (by omega) (by omega) (by omega)
   rw [Int.add_zero,show (x.2.2.getD (x.2.2.length-1) 0+1)*86400=dEnd x from rfl,hu] at eF
   have eF':j00M ((tb (zAt zs x.2.1)).1,(tb (zAt zs x.2.1)).2) (x.2.2.getD (x.2.2.length-1) 0+1,0)=some (u,true):=eF
   have ec:calH zs x=max (zH (tb (zAt zs x.2.1)).2) u:=by unfold calH;rw [if_neg hl,hu];rfl
   rw [j001 (show (x.2.2.length:Int)>0 by omega),ec,w64_in (x:=(x.2.2.length:Int)-1) (by omega) (by omega),inR_t (show 0≤(x.2.2.length:Int)-1 by omega) (by omega),show ((x.2.2.length:Int)-1).toNat=x.2.2.length-1 by omega,w64_in (x:=x.2.2.getD (x.2.2.length-1) 0+1) (by omega) (by omega)]
   cases hh:hO (zAt zs L.2.1).2.1 (tb (zAt zs L.2.1)).2 L 0 with
   | none=>
    simp only [Option.isSome_none,cond_false,Option.getD_none,hc1_ok hs hx.z0 hx.z1 (show 0≤max n (zH (tb (zAt zs L.2.1)).2) by omega),Option.bind_some,cond_true,tabx hx.z0 hx.z1,eF'];congr 1;congr 1;simp only [Prod.mk.injEq,true_and];omega
   | some w=>
    rw [hv w hh]
    simp only [Option.isSome_some,cond_true,Option.getD_some,hc1_ok hs hx.z0 hx.z1 (show 0≤max (max n (zH (tb (zAt zs L.2.1)).2)) w by omega),Option.bind_some,tabx hx.z0 hx.z1,eF'];congr 1;congr 1;simp only [Prod.mk.injEq,true_and];omega
theorem r15s_ok {ls:List LayerT} (hm2:ls.length≤100) (hls:∀ L∈ls,LCk zs.length ps.length cs.length L) {i:Nat} (hi:i<ls.length) {ss:List SchedT} {nm:ByteArray} {es:List EditT} {n:Int} (hn:0≤n) :
  j02i n (i:Int) zs ps cs ss nm ls es=some (.inl (max n (layH zs cs ls[i]),(i:Int)+1,zs,ps,cs,ss,nm,ls,es)):=by
 have hL:=hls _ (List.getElem_mem hi)
 have hgd:ls.getD i (ByteArray.empty,((0:Int),(((0:Int),(0:Int)),((0:Int),((0:Int),(([]:List Int),(([]:List (Int×Int)),((0:Int),(0:Int)))))))))=ls[i]:=by simp [List.getD,hi]
 simp only [j02i,show Int.ofNat ls.length=(ls.length:Int) from rfl]
 rw [j001 (by omega),inR_t (show (0:Int)≤(i:Int) by omega) (by omega),w64_in (x:=(i:Int)+1) (by omega) (by omega)]
 simp only [cond_true,Int.toNat_natCast,hgd]
 generalize ls[i]=L at *
 have hRt:=hL.rt2
 have hz:ZOk (zAt zs L.2.1):=zget hs.so.ok hL.z0 hL.z1
 have h4:=hz.zref.2.1
 have hzx:zs.getD L.2.1.toNat (ByteArray.empty,((0:Int),([]:List Rule)))=zAt zs L.2.1:=rfl
 obtain ⟨v,eH,hv⟩:=r10H h4 hRt (k:=0) (by omega) (by omega)
 have eH':j09C ((zAt zs L.2.1).1,((zAt zs L.2.1).2.1,(zAt zs L.2.1).2.2)) (L.1,(L.2.1,((L.2.2.1.1,L.2.2.1.2),(L.2.2.2.1,(L.2.2.2.2.1,(L.2.2.2.2.2.1,(L.2.2.2.2.2.2.1,(L.2.2.2.2.2.2.2.1,L.2.2.2.2.2.2.2.2)))))))) 0=some (match hO (zAt zs L.2.1).2.1 (tb (zAt zs L.2.1)).2 L 0 with | some w=>(w,0) | none=>(0,10)):=by
  simp only [j09C]
  rw [show j09B ((zAt zs L.2.1).1,((zAt zs L.2.1).2.1,(zAt zs L.2.1).2.2)) (L.1,L.2.1,(L.2.2.1.1,L.2.2.1.2),L.2.2.2.1,L.2.2.2.2.1,L.2.2.2.2.2.1,L.2.2.2.2.2.2.1,L.2.2.2.2.2.2.2.1,L.2.2.2.2.2.2.2.2)=_ from j0gg h4 L,Option.bind_some,if_pos hRt,j000 (show ¬ (0:Int)<0 by omega),j000 (show ¬ (0:Int)>2386092 by omega)]
  simp only [bne_self_eq_false,cond_false]
  rw [show j05t ((zAt zs L.2.1).1,((zAt zs L.2.1).2.1,(zAt zs L.2.1).2.2)) (L.1,L.2.1,(L.2.2.1.1,L.2.2.1.2),L.2.2.2.1,L.2.2.2.2.1,L.2.2.2.2.2.1,L.2.2.2.2.2.2.1,L.2.2.2.2.2.2.2.1,L.2.2.2.2.2.2.2.2) 0=_ from eH]
  cases hh:hO (zAt zs L.2.1).2.1 (tb (zAt zs L.2.1)).2 L 0 with
  | none=>rfl
  | some w=>rw [hv w hh];rfl
 have hb:=hO_b hz.ztab.2 hRt
 rw [inR_t hL.z0 hL.z1]
 simp only [cond_true,hzx,show j0aC ((zAt zs L.2.1).1,((zAt zs L.2.1).2.1,(zAt zs L.2.1).2.2))=some (zH (tb (zAt zs L.2.1)).2) from j0k0 hz,Option.bind_some,eH',ite_max]
 by_cases hm:L.2.2.2.2.2.2.2.2=0
 ·have el:layH zs cs L=max (zH (tb (zAt zs L.2.1)).2) ((hO (zAt zs L.2.1).2.1 (tb (zAt zs L.2.1)).2 L 0).getD 0):=by
   have hzb:=zH_b hz.ztab.2
   unfold layH;rw [if_pos hm];omega
  rw [beq_t hm,el]
  cases hh:hO (zAt zs L.2.1).2.1 (tb (zAt zs L.2.1)).2 L 0 with
  | none=>simp only [show ((10:Int)==0)=false from rfl,cond_false,cond_true,Option.getD_none];congr 1;congr 1;simp only [Prod.mk.injEq,and_true];omega
  | some w=>simp only [beq_self_eq_true,cond_true,Option.getD_some];congr 1;congr 1;simp only [Prod.mk.injEq,and_true];omega
 ·have hx:CCk zs.length (cAt cs L.2.2.2.2.2.2.2.1):=cget hs (hL.cal hm).1 (hL.cal hm).2
  have el:layH zs cs L=max (max (zH (tb (zAt zs L.2.1)).2) ((hO (zAt zs L.2.1).2.1 (tb (zAt zs L.2.1)).2 L 0).getD 0)) (calH zs (cAt cs L.2.2.2.2.2.2.2.1)):=by unfold layH;rw [if_neg hm]
  rw [beq_f hm,el,inR_t (hL.cal hm).1 (hL.cal hm).2]
  have hcx:cs.getD L.2.2.2.2.2.2.2.1.toNat (ByteArray.empty,((0:Int),([]:List Int)))=cAt cs L.2.2.2.2.2.2.2.1:=rfl
  rw [hcx]
  generalize cAt cs L.2.2.2.2.2.2.2.1=x at *
  have hxz:ZOk (zAt zs x.2.1):=zget hs.so.ok hx.z0 hx.z1
  have hzy:zs.getD x.2.1.toNat (ByteArray.empty,((0:Int),([]:List Rule)))=zAt zs x.2.1:=rfl
  have hzb:=zH_b hz.ztab.2
  have hzb2:=zH_b hxz.ztab.2
  have hxl:=hx.len
  rw [inR_t hx.z0 hx.z1]
  simp only [cond_false,cond_true,hzy,show j0aC ((zAt zs x.2.1).1,((zAt zs x.2.1).2.1,(zAt zs x.2.1).2.2))=some (zH (tb (zAt zs x.2.1)).2) from j0k0 hxz,Option.bind_some,show Int.ofNat x.2.2.length=(x.2.2.length:Int) from rfl]
  by_cases hl:x.2.2.length=0
  ·have ec:calH zs x=zH (tb (zAt zs x.2.1)).2:=by unfold calH;rw [if_pos hl];omega
   rw [j000 (show ¬ (x.2.2.length:Int)>0 by omega),ec]
   cases hh:hO (zAt zs L.2.1).2.1 (tb (zAt zs L.2.1)).2 L 0 with
   | none=>simp only [show ((10:Int)==0)=false from rfl,cond_false,Option.getD_none];congr 1;congr 1;simp only [Prod.mk.injEq,and_true];omega
   | some w=>simp only [beq_self_eq_true,cond_true,cond_false,Option.getD_some];congr 1;congr 1;simp only [Prod.mk.injEq,and_true];omega
  ·obtain ⟨l0,l1⟩:=j0mt hx hl
   obtain ⟨u,hu⟩:=fO_day hxz.ztab.2 (s:=dEnd x) (by unfold dEnd;omega)
   have eF:=j0bu hxz.zref.2.1 (d:=x.2.2.getD (x.2.2.length-1) 0+1) (c:=0) (by omega) (by omega) (by omega)
   rw [Int.add_zero,show (x.2.2.getD (x.2.2.length-1) 0+1)*86400=dEnd x from rfl,hu] at eF
   have eF':j02Z ((zAt zs x.2.1).1,((zAt zs x.2.1).2.1,(zAt zs x.2.1).2.2)) (x.2.2.getD (x.2.2.length-1) 0+1,0)=some (u,0):=eF
   have ec:calH zs x=max (zH (tb (zAt zs x.2.1)).2) u:=by unfold calH;rw [if_neg hl,hu];rfl
   rw [j001 (show (x.2.2.length:Int)>0 by omega),ec,w64_in (x:=(x.2.2.length:Int)-1) (by omega) (by omega),inR_t (show 0≤(x.2.2.length:Int)-1 by omega) (by omega),show ((x.2.2.length:Int)-1).toNat=x.2.2.length-1 by omega,w64_in (x:=x.2.2.getD (x.2.2.length-1) 0+1) (by omega) (by omega)]
   cases hh:hO (zAt zs L.2.1).2.1 (tb (zAt zs L.2.1)).2 L 0 with
   | none=>simp only [show ((10:Int)==0)=false from rfl,cond_false,cond_true,Option.getD_none,eF',Option.bind_some,beq_self_eq_true];congr 1;congr 1;simp only [Prod.mk.injEq,and_true];omega
   | some w=>simp only [beq_self_eq_true,cond_true,Option.getD_some,eF',Option.bind_some];congr 1;congr 1;simp only [Prod.mk.injEq,and_true];omega
end
end Go.Proofs.Pw
open Go Go.Lft
namespace Go.Proofs.Pw
def hzL (zs:List ZoneT) (cs:List CalT):Int→List LayerT→Int
 | n,[]=>n
 | n,L::r=>hzL zs cs (max n (layH zs cs L)) r
def hzE:Int→List EditT→Int
 | n,[]=>n
 | n,x::r=>hzE (max n x.2.2.2.2) r
theorem hzL_le {zs:List ZoneT} {cs:List CalT} {t:Int}:∀ (ls:List LayerT) (n:Int),hzL zs cs n ls≤t↔n≤t∧∀ L∈ls,layH zs cs L≤t
 | [],n=>by simp [hzL]
 | L::r,n=>by
  simp only [hzL,hzL_le r,List.mem_cons,forall_eq_or_imp]
  constructor
  ·rintro ⟨a,b⟩;exact ⟨by omega,by omega,b⟩
  ·rintro ⟨a,b,c⟩;exact ⟨by omega,c⟩
theorem hzE_le {t:Int}:∀ (es:List EditT) (n:Int),hzE n es≤t↔n≤t∧∀ x∈es,x.2.2.2.2≤t
 | [],n=>by simp [hzE]
 | x::r,n=>by
  simp only [hzE,hzE_le r,List.mem_cons,forall_eq_or_imp]
  constructor
  ·rintro ⟨a,b⟩;exact ⟨by omega,by omega,b⟩
  ·rintro ⟨a,b,c⟩;exact ⟨by omega,c⟩
def hzn (zs:List ZoneT) (cs:List CalT) (s:SchedT):Int:=hzE (hzL zs cs 0 s.2.1) s.2.2
theorem hzn_le {zs:List ZoneT} {cs:List CalT} {s:SchedT} {t:Int}:hzn zs cs s≤t↔0≤t∧(∀ L∈s.2.1,layH zs cs L≤t)∧∀ x∈s.2.2,x.2.2.2.2≤t:=by
 unfold hzn
 rw [hzE_le,hzL_le,and_assoc]
theorem j0o8 {zs:List ZoneT} {cs:List CalT} {s:SchedT}:hzL zs cs (hzE 0 s.2.2) s.2.1=hzn zs cs s:=by
 have key:∀ t,hzL zs cs (hzE 0 s.2.2) s.2.1≤t↔hzn zs cs s≤t:=fun t=>by
  rw [hzn_le,hzL_le,hzE_le]
  constructor
  ·rintro ⟨⟨a,b⟩,c⟩;exact ⟨a,c,b⟩
  ·rintro ⟨a,c,b⟩;exact ⟨⟨a,b⟩,c⟩
 have h1:=(key (hzn zs cs s)).2 (Int.le_refl _)
 have h2:=(key (hzL zs cs (hzE 0 s.2.2) s.2.1)).1 (Int.le_refl _)
 omega
section
variable {zs:List ZoneT} {ps:List PersonT} {cs:List CalT} (hs:SOk2 zs ps cs)
include hs
theorem layH_u {L:LayerT} (hL:LCk zs.length ps.length cs.length L):layH zs cs L≤1000000000000:=by
 have hz:ZOk (zAt zs L.2.1):=zget hs.so.ok hL.z0 hL.z1
 have hb:=zH_b hz.ztab.2
 have h1:(hO (zAt zs L.2.1).2.1 (tb (zAt zs L.2.1)).2 L 0).getD 0≤8589934592:=by
  cases h:hO (zAt zs L.2.1).2.1 (tb (zAt zs L.2.1)).2 L 0 with
  | none=>simp
  | some v=>have:=hO_at hz.ztab.2 hL.rt2 (k:=0) (by omega) h;simp;omega
 unfold layH
 by_cases hm:L.2.2.2.2.2.2.2.2=0
 ·rw [if_pos hm];omega
 ·rw [if_neg hm]
  have hx:CCk zs.length (cAt cs L.2.2.2.2.2.2.2.1):=cget hs (hL.cal hm).1 (hL.cal hm).2
  generalize cAt cs L.2.2.2.2.2.2.2.1=x at *
  have hxz:ZOk (zAt zs x.2.1):=zget hs.so.ok hx.z0 hx.z1
  have hzb2:=zH_b hxz.ztab.2
  have h2:calH zs x≤1000000000000:=by
   unfold calH
   by_cases hl:x.2.2.length=0
   ·rw [if_pos hl];omega
   ·rw [if_neg hl]
    cases h:fO (zAt zs x.2.1).2.1 (tb (zAt zs x.2.1)).2 (dEnd x) with
    | none=>simp;omega
    | some v=>have:=fO_at hxz.ztab.2 h;simp;omega
  omega
theorem hzn_b {s:SchedT} (hk:SCk zs.length ps.length cs.length s):0≤hzn zs cs s∧hzn zs cs s≤1000000000000:=
 ⟨(hzn_le.1 (Int.le_refl _)).1,hzn_le.2 ⟨by omega,fun L hL=>layH_u hs (hk.ly L hL),fun x hx=>(hk.ed x hx).t1⟩⟩
theorem r15l_lp {ls:List LayerT} (hl:ls.length≤100) (hls:∀ L∈ls,LCk zs.length ps.length cs.length L) {ss:List SchedT} {nm:ByteArray} {es:List EditT}:∀ (m i:Nat) (n:Int),i+m=ls.length→0≤n→
  j05U n (i:Int) zs ps cs ss nm ls es=some (hzL zs cs n (ls.drop i),nm,ls,es)
 | 0,i,n,hi,_=>by
  rw [j0ac]
  simp only [j02i,show Int.ofNat ls.length=(ls.length:Int) from rfl]
  rw [j000 (by omega),cond_false,lpK_inr,List.drop_of_length_le (by omega)]
  rfl
 | m+1,i,n,hi,hn=>by
  have hi':i<ls.length:=by omega
  rw [j0ac,r15s_ok hs hl hls hi' hn,lpK_inl,List.drop_eq_getElem_cons hi']
  exact r15l_lp hl hls m (i+1) (max n (layH zs cs ls[i])) (by omega) (by omega)
omit hs in
theorem r15e_lp {es:List EditT} (hl:es.length≤100) {nm:ByteArray} {ls:List LayerT}:∀ (m i:Nat) (n:Int),i+m=es.length→
  j05V n (i:Int) nm ls es=some (hzE n (es.drop i))
 | 0,i,n,hi=>by
  rw [j0ad]
  simp only [j030,show Int.ofNat es.length=(es.length:Int) from rfl]
  rw [j000 (by omega),cond_false,lpK_inr,List.drop_of_length_le (by omega)]
  rfl
 | m+1,i,n,hi=>by
  have hi':i<es.length:=by omega
  have hgd:es.getD i ((0:Int),((0:Int),((0:Int),((0:Int),(0:Int)))))=es[i]:=by simp [List.getD,hi']
  rw [j0ad]
  simp only [j030,show Int.ofNat es.length=(es.length:Int) from rfl]
  rw [j001 (by omega),inR_t (by omega) (by omega),w64_in (x:=(i:Int)+1) (by omega) (by omega)]
  simp only [cond_true,Int.toNat_natCast,hgd,ite_max,lpK_inl]
  rw [List.drop_eq_getElem_cons hi']
  exact r15e_lp hl m (i+1) _ (by omega)
theorem che_lp {es:List EditT} (hl:es.length≤100) {nm:ByteArray} {ls:List LayerT} {ss:List SchedT}:∀ (m i:Nat) (n:Int),i+m=es.length→
  j01P es (es.length:Int) (i:Int) zs ps cs ss (zs.map tb) nm ls es n=some (zs,ps,cs,ss,zs.map tb,nm,ls,es,hzE n (es.drop i))
 | 0,i,n,hi=>by
  have _:=hs
  rw [j06E]
  simp only [j01O]
  rw [j000 (by omega),cond_false,lpK_inr,List.drop_of_length_le (by omega)]
  rfl
 | m+1,i,n,hi=>by
  have hi':i<es.length:=by omega
  have hgd:es.getD i ((0:Int),((0:Int),((0:Int),((0:Int),(0:Int)))))=es[i]:=by simp [List.getD,hi']
  rw [j06E]
  simp only [j01O]
  rw [j001 (by omega),inR_t (by omega) (by omega),w64_in (x:=(i:Int)+1) (by omega) (by omega)]
  simp only [cond_true,Int.toNat_natCast,hgd,ite_max,lpK_inl]
  rw [List.drop_eq_getElem_cons hi']
  exact che_lp hl m (i+1) _ (by omega)
theorem chl_lp {ls:List LayerT} (hl:ls.length≤100) (hls:∀ L∈ls,LCk zs.length ps.length cs.length L) {ss:List SchedT}:∀ (m i:Nat) (n:Int),i+m=ls.length→0≤n→
  j01Q ls (ls.length:Int) (i:Int) zs ps cs ss (zs.map tb) n=some (hzL zs cs n (ls.drop i))
 | 0,i,n,hi,_=>by
  rw [j06F]
  simp only [j00A]
  rw [j000 (by omega),cond_false,lpK_inr,List.drop_of_length_le (by omega)]
  rfl
 | m+1,i,n,hi,hn=>by
  have hi':i<ls.length:=by omega
  rw [j06F,chs_ok hs rfl (by omega) hls hi' hn,lpK_inl,List.drop_eq_getElem_cons hi']
  exact chl_lp hl hls m (i+1) (max n (layH zs cs ls[i])) (by omega) (by omega)
theorem R15H_ok {ss:List SchedT} (hc:CfgOk (zs,(ps,(cs,ss)))) {i:Nat} (hi:i<ss.length):j09i (zs,(ps,(cs,ss))) (i:Int)=some (hzn zs cs ss[i]):=by
 have hsc:=hc.sc _ (List.getElem_mem hi)
 have hll:=hsc.ll;have hel:=hsc.el
 have hgs:ss.getD i (ByteArray.empty,(([]:List LayerT),([]:List EditT)))=ss[i]:=by simp [List.getD,hi]
 have e8:=R8_ok hc (zs_r4 hs)
 have l0:=r15l_lp hs (by omega) hsc.ly (ss:=ss) (nm:=ss[i].1) (es:=ss[i].2.2) ss[i].2.1.length 0 0 (by omega) (by omega)
 have l2:=r15e_lp (es:=ss[i].2.2) (by omega) (nm:=ss[i].1) (ls:=ss[i].2.1) ss[i].2.2.length 0 (hzL zs cs 0 ss[i].2.1) (by omega)
 rw [List.drop_zero] at l0 l2
 simp only [j09i,e8,Option.bind_some,bne_self_eq_false,cond_false,show Int.ofNat ss.length=(ss.length:Int) from rfl]
 rw [j000 (show ¬ (i:Int)<0 by omega),j000 (show ¬ (i:Int)≥(ss.length:Int) by omega),inR_t (by omega) (by omega)]
 simp only [cond_false,cond_true,Int.toNat_natCast,hgs]
 rw [show j05U 0 0 zs ps cs ss ss[i].1 ss[i].2.1 ss[i].2.2=_ from l0]
 simp only [Option.bind_some]
 rw [show j05V (hzL zs cs 0 ss[i].2.1) 0 ss[i].1 ss[i].2.1 ss[i].2.2=_ from l2]
 rfl
theorem CovH_ok {ss:List SchedT} (hc:CfgOk (zs,(ps,(cs,ss)))) {i:Nat} (hi:i<ss.length):j02F (zs,(ps,(cs,ss))) (i:Int)=some (hzn zs cs ss[i]):=by
 have hsc:=hc.sc _ (List.getElem_mem hi)
 have hll:=hsc.ll;have hel:=hsc.el
 have hgs:ss.getD i (ByteArray.empty,(([]:List LayerT),([]:List EditT)))=ss[i]:=by simp [List.getD,hi]
 have l0:=che_lp hs (es:=ss[i].2.2) (by omega) (nm:=ss[i].1) (ls:=ss[i].2.1) (ss:=ss) ss[i].2.2.length 0 0 (by omega)
 have hn0:=(hzE_le (t:=hzE 0 ss[i].2.2) ss[i].2.2 0).1 (Int.le_refl _)
 have l2:=chl_lp hs (by omega) hsc.ly (ss:=ss) ss[i].2.1.length 0 (hzE 0 ss[i].2.2) (by omega) hn0.1
 rw [List.drop_zero] at l0 l2
 simp only [j02F,Of_cfg hs.so.ok hc,Option.bind_some,Bool.not_true,cond_false,j06f,show Int.ofNat ss.length=(ss.length:Int) from rfl]
 rw [j001 (show (i:Int)≥0 by omega),j001 (show (i:Int)<(ss.length:Int) by omega),inR_t (by omega) (by omega)]
 simp only [cond_true,Bool.not_true,cond_false,Int.toNat_natCast,hgs,j03o,show Int.ofNat ss[i].2.2.length=(ss[i].2.2.length:Int) from rfl]
 rw [show j01P ss[i].2.2 (ss[i].2.2.length:Int) 0 zs ps cs ss (zs.map tb) ss[i].1 ss[i].2.1 ss[i].2.2 0=_ from l0]
 simp only [Option.bind_some,show Int.ofNat ss[i].2.1.length=(ss[i].2.1.length:Int) from rfl]
 rw [show j01Q ss[i].2.1 (ss[i].2.1.length:Int) 0 zs ps cs ss (zs.map tb) (hzE 0 ss[i].2.2)=_ from l2,j0o8]
 rfl
theorem j0o9 {s:SchedT} (hk:SCk zs.length ps.length cs.length s) (hp:pN s≤4294967296) {t:Int} (ht:hzn zs cs s≤t) {j:Int} (hj:0≤j) (h1:t+(pN s:Int)*j≤8589934592) :
  whoS zs cs s (t+(pN s:Int)*j)=whoS zs cs s t:=by
 obtain ⟨t0,tl,te⟩:=hzn_le.1 ht
 obtain ⟨⟨a,ha⟩,hdv⟩:=j0mo s.2.1 604800 hk.ly hp
 have hpa:pN s=604800*a:=ha
 have hpj:(pN s:Int)*j=604800*((a:Int)*j):=by rw [hpa,Int.natCast_mul,Int.mul_assoc];rfl
 have hx0:0≤(a:Int)*j:=Int.mul_nonneg (by omega) hj
 have hpf:=pf_far hs hk.ly hx0 t0 tl (fun L hL=>by
  obtain ⟨b,hb⟩:=hdv L hL
  have hb:pN s=perN L*b:=hb
  refine ⟨(b:Int)*j,Int.mul_nonneg (by omega) hj,?_⟩
  rw [←hpj,hb,Int.natCast_mul,Int.mul_assoc]) (by rw [←hpj];exact h1)
 rw [hpj] at h1 ⊢
 have te':∀ x∈s.2.2,x.2.2.2.2≤t+604800*((a:Int)*j):=fun x hx=>by have:=te x hx;omega
 unfold whoS
 rw [j0hc _ _ te,j0hc _ _ te',j0nh hpf te' te]
end
section
variable {zs:List ZoneT} {ps:List PersonT} {cs:List CalT} (hs:SOk2 zs ps cs)
include hs
def redI (zs:List ZoneT) (cs:List CalT) (s:SchedT) (t:Int):Int:=if t<hzn zs cs s+(pN s:Int) then t else hzn zs cs s+(t-hzn zs cs s)%(pN s:Int)
theorem j0k1 {ss:List SchedT} (hc:CfgOk (zs,(ps,(cs,ss)))) {i:Nat} (hi:i<ss.length) (hp:pN ss[i]≤4294967296) {t:Int} (h0:0≤t) (h1:t≤8589934592) :
  j028 (zs,(ps,(cs,ss))) (i:Int) t=some (redI zs cs ss[i] t,0):=by
 have hsc:=hc.sc _ (List.getElem_mem hi)
 have hb:=hzn_b hs hsc
 have hpb:1≤pN ss[i]:=(fold_b ss[i].2.1 604800 hsc.ly (by omega) (by omega)).1
 have eP:=j0jY hc hi
 dsimp only at eP
 rw [if_neg (show ¬ pN ss[i]>4294967296 by omega)] at eP
 simp only [j028,eP,Option.bind_some,bne_self_eq_false,cond_false]
 rw [j000 (show ¬ t<0 by omega),j000 (show ¬ t>8589934592 by omega)]
 simp only [cond_false,CovH_ok hs hc hi,Option.bind_some]
 rw [w64_in (x:=hzn zs cs ss[i]+(pN ss[i]:Int)) (by omega) (by omega)]
 unfold redI
 by_cases hlt:t<hzn zs cs ss[i]+(pN ss[i]:Int)
 ·rw [if_pos hlt,j001 hlt];rfl
 ·have m0:=Int.emod_nonneg (t-hzn zs cs ss[i]) (show (pN ss[i]:Int)≠0 by omega)
  have m1:=Int.emod_lt_of_pos (t-hzn zs cs ss[i]) (show (0:Int)<(pN ss[i]:Int) by omega)
  rw [if_neg hlt,j000 hlt,w64_in (x:=t-hzn zs cs ss[i]) (by omega) (by omega),beq_f (show (pN ss[i]:Int)≠0 by omega),tmod_nn (by omega),w64_in (x:=hzn zs cs ss[i]+(t-hzn zs cs ss[i])%(pN ss[i]:Int)) (by omega) (by omega)]
  rfl
end
theorem j0ij (t:List Int) (_h:Wf (.list (.int .i64)) t) (n:Int) (_h1:Wf (.int .i64) n):j09D t n=some true:=by
 simp only [j09D,j0eY,Option.bind_some,show Int.ofNat (List.length t)=(t.length:Int) from rfl]
 by_cases hl:(t.length:Int)≤500
 ·rw [j001 hl]
  simp only [Bool.not_true,cond_false,j0gB,Option.bind_some]
  obtain ⟨zs,ps,cs,ss,a1,e1,hs,g0,g1,g2,g3,d1⟩:=j0mm (L:=t) (a:=0) (n:=1) ⟨by omega,by omega,by omega⟩ (by omega) (by omega)
  have hc:=cfgN_of hs (ss:=ss) (by omega) (by rw [g2];exact nms3_ok.take _) (fun s h=>(g3 s h).ck)
  have hk:=g3 ss[0] (List.getElem_mem _)
  have hll:=hk.ll
  have eP:=j0jY hc (i:=0) (by dsimp only;omega)
  have eH:=R15H_ok hs hc (i:=0) (by omega)
  have hb:=hzn_b hs hk.ck
  have hpb:=fold_b ss[0].2.1 604800 hk.ck.ly (by omega) (by omega)
  simp only [e1,Option.bind_some]
  rw [Mod_eq n 8589934592 (by omega) (by omega)]
  simp only [Option.bind_some]
  rw [show j034 (zs,(ps,(cs,ss))) 0=_ from eP]
  dsimp only
  by_cases hbig:pN ss[0]>4294967296
  ·rw [if_pos hbig]
   simp only [Option.bind_some,sane16]
   rfl
  ·rw [if_neg hbig]
   have hp1:1≤pN ss[0]:=hpb.1
   have m0:=Int.emod_nonneg n (show (8589934592:Int)≠0 by omega)
   have m1:=Int.emod_lt_of_pos n (show (0:Int)<8589934592 by omega)
   generalize n%8589934592=x at *
   have hp:pN ss[0]≤4294967296:=by omega
   have r1:=j0k1 hs hc (i:=0) (by omega) hp (t:=x) (by omega) (by omega)
   have key:0≤redI zs cs ss[0] x∧redI zs cs ss[0] x≤x∧redI zs cs ss[0] x<hzn zs cs ss[0]+(pN ss[0]:Int)∧(x<hzn zs cs ss[0]+(pN ss[0]:Int)↔redI zs cs ss[0] x=x)∧(x-redI zs cs ss[0] x)%(pN ss[0]:Int)=0∧whoS zs cs ss[0] (redI zs cs ss[0] x)=whoS zs cs ss[0] x:=by
    unfold redI
    by_cases hlt:x<hzn zs cs ss[0]+(pN ss[0]:Int)
    ·rw [if_pos hlt]
     exact ⟨m0,by omega,hlt,by simp [hlt],by rw [Int.sub_self];rfl,rfl⟩
    ·have v0:=Int.emod_nonneg (x-hzn zs cs ss[0]) (show (pN ss[0]:Int)≠0 by omega)
     have v1:=Int.emod_lt_of_pos (x-hzn zs cs ss[0]) (show (0:Int)<(pN ss[0]:Int) by omega)
     have v2:=Int.mul_ediv_add_emod (x-hzn zs cs ss[0]) (pN ss[0]:Int)
     have v3:0≤(x-hzn zs cs ss[0])/(pN ss[0]:Int):=Int.ediv_nonneg (by omega) (by omega)
     have hfar:=j0o9 hs hk.ck hp (t:=hzn zs cs ss[0]+(x-hzn zs cs ss[0])%(pN ss[0]:Int)) (by omega) v3
     rw [if_neg hlt]
     have e:hzn zs cs ss[0]+(x-hzn zs cs ss[0])%(pN ss[0]:Int)+(pN ss[0]:Int)*((x-hzn zs cs ss[0])/(pN ss[0]:Int))=x:=by omega
     rw [e] at hfar
     refine ⟨by omega,by omega,by omega,⟨fun h=>by omega,fun h=>by omega⟩,?_,(hfar (by omega)).symm⟩
     rw [show x-(hzn zs cs ss[0]+(x-hzn zs cs ss[0])%(pN ss[0]:Int))=(pN ss[0]:Int)*((x-hzn zs cs ss[0])/(pN ss[0]:Int)) by omega,Int.mul_emod_right]
   obtain ⟨k0,k1,k2,k3,k4,k5⟩:=key
   have r2:=j0k1 hs hc (i:=0) (by omega) hp (t:=redI zs cs ss[0] x) k0 (by omega)
   have e2:redI zs cs ss[0] (redI zs cs ss[0] x)=redI zs cs ss[0] x:=by
    generalize redI zs cs ss[0] x=y at *
    unfold redI;rw [if_pos k2]
   rw [e2] at r2
   have wF:=WE_ok hs hc (i:=0) (by omega) (t:=redI zs cs ss[0] x) k0 (by omega)
   rw [k5] at wF
   have w14:=W14_ok hs hc (i:=0) (by omega) (t:=x) (by omega) (by omega)
   have r3:j08q (zs,(ps,(cs,ss))) 0 x=some (whoS zs cs ss[0] x,0):=by
    simp only [j08q,show j028 (zs,(ps,(cs,ss))) 0 x=_ from r1,Option.bind_some,bne_self_eq_false,cond_false]
    rw [show j06G (zs,(ps,(cs,ss))) 0 (redI zs cs ss[0] x)=_ from wF]
    rfl
   simp only [Option.bind_some,bne_self_eq_false,cond_false,r3]
   rw [show j028 (zs,(ps,(cs,ss))) 0 x=_ from r1,show j09i (zs,(ps,(cs,ss))) 0=_ from eH]
   simp only [Option.bind_some]
   rw [show j028 (zs,(ps,(cs,ss))) 0 (redI zs cs ss[0] x)=_ from r2]
   simp only [Option.bind_some,beq_self_eq_true,cond_true]
   generalize redI zs cs ss[0] x=y at *
   have hb:(decide (x<hzn zs cs ss[0]+(pN ss[0]:Int))==(y==x))=true:=by
    by_cases hlt:x<hzn zs cs ss[0]+(pN ss[0]:Int)
    ·rw [j001 hlt,beq_t (k3.1 hlt)];rfl
    ·rw [j000 hlt,beq_f (fun h=>hlt (k3.2 h))];rfl
   rw [w64_in (x:=hzn zs cs ss[0]+(pN ss[0]:Int)) (by omega) (by omega),w64_in (x:=x-y) (by omega) (by omega),j001 k1,j001 k2,hb,beq_f (show (pN ss[0]:Int)≠0 by omega),tmod_nn (by omega),k4]
   simp only [cond_true,Bool.not_false,Bool.true_or,beq_self_eq_true]
   rw [show r14_Who (zs,(ps,(cs,ss))) 0 x=_ from w14]
   simp only [Option.bind_some,beq_self_eq_true,cond_true,sane16]
 ·rw [j000 hl]
  simp only [Bool.not_false,cond_true,sane16,Option.bind_some]
end Go.Proofs.Pw
