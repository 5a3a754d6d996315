/- Edits are added; who is on call with edits. -/
import Derived.Test.YtpbnnhakjhalaaaGreatESPG
import Derived.Test.YtpbnnhakjhalaaaGreatESPB
open Go Go.Lft
namespace Go.Proofs.Pw
theorem jkG (t:Int):∀ (es:List j6h) (p:Int) (x:j6h),jkF t p (es++[x])=jgV t (jkF t p es) x
 | [],_,_=>rfl
 | y::r,p,x=>jkG t r (jgV t p y) x
section
variable {zs:List j1T} {ps:List j12} {cs:List CalT} (hs:SOk2 zs ps cs)
include hs
theorem jp4 {ss:List j2Q} {s:j2Q} (hk:SCk zs.length ps.length cs.length s) {t:Int} (h0:0≤t) (h1:t≤8589934592):j6n ((zs,(ps,(cs,ss))),zs.map tb) s t=some (whoS zs cs s t):=by
 have hll:=hk.ll;have hel:=hk.el
 have hL:=jnc (zs:=zs) (ps:=ps) (cs:=cs) (ss:=ss) (tbs:=zs.map tb) (ls:=s.2.1) (nm:=s.1) (es:=s.2.2) (t:=t) (Pf:=pfX zs cs s.2.1 t) (by omega) (fun k hkl=>by
  have e:pfX zs cs s.2.1 t k=perX zs cs s.2.1[k] t:=by simp [pfX,List.getD,hkl]
  rw [e]
  exact (jsL hs (hk.ly _ (jj hkl)) (ss:=ss) h0 h1).2.1)
 have hL2:∃ k,j3a ((zs,(ps,(cs,ss))),zs.map tb) (s.1,(s.2.1,s.2.2)) t=some (k,topP s.2.2 t (pfX zs cs s.2.1 t) s.2.1.length):=by
  rw [show j3a ((zs,(ps,(cs,ss))),zs.map tb) (s.1,(s.2.1,s.2.2)) t=_ from hL]
  simp only [topP]
  cases topI (jgU s.2.2 t (pfX zs cs s.2.1 t)) s.2.1.length with
  | none=>exact ⟨_,rfl⟩
  | some k=>exact ⟨_,rfl⟩
 obtain ⟨k,hL2⟩:=hL2
 have ef:=jp3 (es:=s.2.2) (by omega) (t:=t) s.2.2.length 0 (topP s.2.2 t (pfX zs cs s.2.1 t) s.2.1.length) (by omega)
 rw [qm] at ef
 simp only [j6n]
 rw [j00 (show ¬ t<0 by omega),j00 (show ¬ t>8589934592 by omega)]
 simp only [j6]
 simp only [hL2,j3,jad,show Int.ofNat s.2.2.length=(s.2.2.length:Int) from rfl,show j5b (topP s.2.2 t (pfX zs cs s.2.1 t) s.2.1.length) t s.2.2 (s.2.2.length:Int) 0=_ from ef]
 rfl
end
theorem jfz {α:Type} {l:List α} {i:Nat} (h:i<l.length):l.set i l[i]=l:=List.set_getElem_self h
theorem clZ {xs:List j1T} (h:xs.length≤1000):j1X xs=some xs:=by
 simp only [j1X,jw,ko]
 rw [j01 (by simp [j0l];omega),j5]
theorem clP {xs:List j12} (h:xs.length≤1000):j1x xs=some xs:=by
 simp only [j1x,jw,ko]
 rw [j01 (by simp [j0l];omega),j5]
theorem clC {xs:List CalT} (h:xs.length≤1000):j17 xs=some xs:=by
 simp only [j17,jw,ko]
 rw [j01 (by simp [j0l];omega),j5]
theorem clS {xs:List j2Q} (h:xs.length≤1000):j18 xs=some xs:=by
 simp only [j18,jw,ko]
 rw [j01 (by simp [j0l];omega),j5]
theorem clR {xs:List Rule} (h:xs.length≤1000):j19 xs=some xs:=by
 simp only [j19,jw,ko]
 rw [j01 (by simp [j0l];omega),j5]
theorem clW {xs:WL} (h:xs.length≤1000):j0W xs=some xs:=by
 simp only [j0W,jw,ko]
 rw [j01 (by simp [j0l];omega),j5]
theorem clI {xs:List Int} (h:xs.length≤1000):j36 xs=some xs:=by
 simp only [j36,jw,ko]
 rw [j01 (by simp [j0l];omega),j5]
theorem clL {xs:List j1n} (h:xs.length≤1000):j1a xs=some xs:=by
 simp only [j1a,jw,ko]
 rw [j01 (by simp [j0l];omega),j5]
theorem clE {xs:List j6h} (h:xs.length≤1000):j1k xs=some xs:=by
 simp only [j1k,jw,ko]
 rw [j01 (by simp [j0l];omega),j5]
section
variable {zs:List j1T} {ps:List j12} {cs:List CalT} {nm:ByteArray} {ls:List j1n} {es:List j6h}
theorem jqx (hl:zs.length≤1000) (hr:∀ z∈zs,z.2.2.length≤1000):∀ n i:Nat,i+n=zs.length→j58 (zs.length:Int) (i:Int) nm ls es zs ps cs=some (nm,ls,es,zs,ps,cs)
 | 0,i,hi=>by
  rw [jbI]
  simp only [j48]
  rw [j00 (by omega),j6,j0u]
 | n+1,i,hi=>by
  have hlt:i<zs.length:=by omega
  have hgd:zs.getD i (ByteArray.empty,((0:Int),([]:List Rule)))=zs[i]:=by simp [List.getD,hlt]
  rw [jbI]
  simp only [j48]
  rw [j01 (by omega),j2D (by omega) (by omega),j03 (x:=(i:Int)+1) (by omega) (by omega)]
  simp only [j5,j7,hgd,clR (hr _ (jj hlt)),j3,jfz hlt,j0j]
  exact jqx hl hr n (i+1) (by omega)
theorem jqy (hl:ps.length≤1000) (hr:∀ p∈ps,p.2.2.1.length≤1000):∀ n i:Nat,i+n=ps.length→j59 (ps.length:Int) (i:Int) nm ls es zs ps cs=some (nm,ls,es,zs,ps,cs)
 | 0,i,hi=>by
  rw [jbJ]
  simp only [j49]
  rw [j00 (by omega),j6,j0u]
 | n+1,i,hi=>by
  have hlt:i<ps.length:=by omega
  have hgd:ps.getD i (ByteArray.empty,((0:Int),(([]:WL),((0:Int),((0:Int),false)))))=ps[i]:=by simp [List.getD,hlt]
  rw [jbJ]
  simp only [j49]
  rw [j01 (by omega),j2D (by omega) (by omega),j03 (x:=(i:Int)+1) (by omega) (by omega)]
  simp only [j5,j7,hgd,clW (hr _ (jj hlt)),j3,jfz hlt,j0j]
  exact jqy hl hr n (i+1) (by omega)
theorem jqz (hl:cs.length≤1000) (hr:∀ c∈cs,c.2.2.length≤1000):∀ n i:Nat,i+n=cs.length→j5a (cs.length:Int) (i:Int) nm ls es zs ps cs=some (nm,ls,es,zs,ps,cs)
 | 0,i,hi=>by
  rw [jbK]
  simp only [j4a]
  rw [j00 (by omega),j6,j0u]
 | n+1,i,hi=>by
  have hlt:i<cs.length:=by omega
  have hgd:cs.getD i (ByteArray.empty,((0:Int),([]:List Int)))=cs[i]:=by simp [List.getD,hlt]
  rw [jbK]
  simp only [j4a]
  rw [j01 (by omega),j2D (by omega) (by omega),j03 (x:=(i:Int)+1) (by omega) (by omega)]
  simp only [j5,j7,hgd,clI (hr _ (jj hlt)),j3,jfz hlt,j0j]
  exact jqz hl hr n (i+1) (by omega)
theorem jqA {a b:Int} (hl:ls.length≤1000) (hr:∀ x∈ls,x.2.2.2.2.2.1.length≤1000∧x.2.2.2.2.2.2.1.length≤1000):∀ n i:Nat,i+n=ls.length→j4n a b (ls.length:Int) (i:Int) nm zs ps cs ls es=some (a,b,nm,zs,ps,cs,ls,es)
 | 0,i,hi=>by
  rw [jbL]
  simp only [j4b]
  rw [j00 (by omega),j6,j0u]
 | n+1,i,hi=>by
  have hlt:i<ls.length:=by omega
  have hgd:ls.getD i (ByteArray.empty,((0:Int),(((0:Int),(0:Int)),((0:Int),((0:Int),(([]:List Int),(([]:WL),((0:Int),(0:Int)))))))))=ls[i]:=by simp [List.getD,hlt]
  obtain ⟨h1,h2⟩:=hr _ (jj hlt)
  rw [jbL]
  simp only [j4b]
  rw [j01 (by omega),j2D (by omega) (by omega),j03 (x:=(i:Int)+1) (by omega) (by omega)]
  simp only [j5,j7,hgd,clI h1,clW h2,j3,jfz hlt,j2D (show (0:Int)≤(i:Int) by omega) (show (i:Int)<(ls.length:Int) by omega),j0j]
  exact jqA hl hr n (i+1) (by omega)
structure Sht (zs:List j1T) (ps:List j12) (cs:List CalT) (ls:List j1n) (es:List j6h):Prop where
 z:zs.length≤1000∧∀ z∈zs,z.2.2.length≤1000
 p:ps.length≤1000∧∀ p∈ps,p.2.2.1.length≤1000
 c:cs.length≤1000∧∀ c∈cs,c.2.2.length≤1000
 l:ls.length≤1000∧∀ x∈ls,x.2.2.2.2.2.1.length≤1000∧x.2.2.2.2.2.2.1.length≤1000
 e:es.length≤1000
theorem jq8 (h:Sht zs ps cs ls es):j8L (zs,(ps,(cs,[(nm,(ls,es))])))=some (zs,ps,cs,nm,ls,es):=by
 simp only [j8L,clZ h.z.1,clP h.p.1,clC h.c.1,clS (xs:=[(nm,(ls,es))]) (by simp),j3,qr,List.getD_cons_zero]
 have l0:=jqx (nm:=nm) (ls:=ls) (es:=es) (ps:=ps) (cs:=cs) h.z.1 h.z.2 zs.length 0 (by omega)
 have l2:=jqy (nm:=nm) (ls:=ls) (es:=es) (zs:=zs) (cs:=cs) h.p.1 h.p.2 ps.length 0 (by omega)
 have l4:=jqz (nm:=nm) (ls:=ls) (es:=es) (zs:=zs) (ps:=ps) h.c.1 h.c.2 cs.length 0 (by omega)
 have l8:=jqA (a:=1) (b:=0) (nm:=nm) (es:=es) (zs:=zs) (ps:=ps) (cs:=cs) h.l.1 h.l.2 ls.length 0 (by omega)
 rw [show Nat.beq 1 1=true from rfl,j5,show j58 (Int.ofNat zs.length) 0 nm ls es zs ps cs=_ from l0]
 simp only [j3]
 rw [show j59 (Int.ofNat ps.length) 0 nm ls es zs ps cs=_ from l2]
 simp only [j3]
 rw [show j5a (Int.ofNat cs.length) 0 nm ls es zs ps cs=_ from l4]
 simp only [j3,clL h.l.1,clE h.e]
 rw [show j4n 1 0 (Int.ofNat ls.length) 0 nm zs ps cs ls es=_ from l8]
 simp only [j3]
 rw [j03 (x:=(0:Int)+1) (by omega) (by omega),j00 (by omega),j6]
theorem jqB (hc:jbl (zs,(ps,(cs,[(nm,(ls,es))])))):Sht zs ps cs ls es:=by
 have hk:=hc.sc (nm,(ls,es)) (by simp)
 refine ⟨⟨by have:=hc.zl;dsimp only at this;omega,fun z hz=>(hc.zc z hz).len⟩,⟨by have:=hc.pl;dsimp only at this;omega,fun p hp=>by have:=(hc.pc p hp).wl;omega⟩,
  ⟨by have:=hc.cl;dsimp only at this;omega,fun c hcc=>by have:=(hc.cc c hcc).len;omega⟩,⟨by have:=hk.ll;dsimp only at this;omega,fun x hx=> ?_⟩,by have:=hk.el;dsimp only at this;omega⟩
 have h:=hk.ly x hx
 have:=h.m1;have:=h.wl
 omega
theorem jq9 (hc:jbl (zs,(ps,(cs,[(nm,(ls,es))])))):j7E (zs,(ps,(cs,[(nm,(ls,es))]))) 0=some (0,zs,ps,cs,nm,ls,es):=by
 simp only [j7E,show j21 (zs,(ps,(cs,[(nm,(ls,es))])))=some 0 from jds hc,j3,jd,j6,j8K,qr]
 rw [j01 (show (0:Int)≥0 by omega),j01 (show (0:Int)<Int.ofNat 1 by decide)]
 simp only [j5,jl,j6,jq8 (jqB hc),j3]
theorem jgW (hc:jbl (zs,(ps,(cs,[(nm,(ls,es))])))) {x:j6h} (hc':jbl (zs,(ps,(cs,[(nm,(ls,es++[x]))])))) :
  j2U (zs,(ps,(cs,[(nm,(ls,es))]))) 0 x=some ((zs,(ps,(cs,[(nm,(ls,es++[x]))]))),0):=by
 have hel:=(jqB hc).e
 simp only [j2U,jq9 hc,j3,jd,j6,qr]
 rw [j2D (show (0:Int)≤0 by omega) (show (0:Int)<((1:Nat):Int) by omega),j5,j01 (by simp [j0l];omega),j5]
 simp only [show j21 (zs,(ps,(cs,[(nm,(ls,es++[(x.1,(x.2.1,(x.2.2.1,(x.2.2.2.1,x.2.2.2.2))))]))])))=some 0 from jds hc',j3,jd,j6]
end
section
variable {zs:List j1T} {ps:List j12} {cs:List CalT} {nm:ByteArray} {ls:List j1n} {es:List j6h}
end
theorem jp5 {es:List j6h} {t:Int} {x:j6h} {Pf:Nat→Int} (h:x.1≠0∨t<x.2.2.2.1∨x.2.2.2.2≤t):jgU (es++[x]) t Pf=jgU es t Pf:=by
 funext i
 have e:(x.1==0&&(x.2.1==Pf i&&(decide (x.2.2.2.1≤t)&&decide (t<x.2.2.2.2))))=false:=by
  rcases h with h | h | h
  ·rw [j5B h];rfl
  ·rw [j00 (show ¬ x.2.2.2.1≤t by omega)];simp
  ·rw [j00 (show ¬ t<x.2.2.2.2 by omega)];simp
 simp only [jgU,jkE,List.any_append,List.any_cons,List.any_nil,Bool.or_false,e]
theorem jp6 {es es':List j6h} {t:Int} {Pf:Nat→Int} {n:Nat} (h:jgU es t Pf=jgU es' t Pf):topP es t Pf n=topP es' t Pf n:=by
 unfold topP;rw [h]
theorem jfA {zs:List j1T} {cs:List CalT} {nm:ByteArray} {ls:List j1n} {es:List j6h} {t:Int} {x:j6h} (h:x.1≠0∨t<x.2.2.2.1∨x.2.2.2.2≤t) :
  whoS zs cs (nm,(ls,es++[x])) t=jgV t (whoS zs cs (nm,(ls,es)) t) x:=by
 show jkF t (topP (es++[x]) t (pfX zs cs ls t) ls.length) (es++[x])=jgV t (jkF t (topP es t (pfX zs cs ls t) ls.length) es) x
 rw [jp6 (jp5 h),jkG]
section
variable {zs:List j1T} {ps:List j12} {cs:List CalT} (hs:SOk2 zs ps cs)
include hs
theorem jjg {s:j2Q} (hc:jbl (zs,(ps,(cs,[s])))) {t:Int} (h0:0≤t) (h1:t≤8589934592):j4N (zs,(ps,(cs,[s]))) 0 t=some (whoS zs cs s t):=by
 have hk:=hc.sc s (by simp)
 simp only [j4N,jsk hs.so.ok hc,j3,jl,j6,j8K,qr]
 rw [j01 (show (0:Int)≥0 by omega),j01 (show (0:Int)<Int.ofNat 1 by decide),j2D (show (0:Int)≤0 by omega) (show (0:Int)<((1:Nat):Int) by omega)]
 simp only [j5,jl,j6,show Int.toNat 0=0 from rfl,List.getD_cons_zero]
 rw [show j6n ((zs,(ps,(cs,[s]))),zs.map tb) (s.1,(s.2.1,s.2.2)) t=_ from jp4 hs hk h0 h1]
 rfl
theorem jsm {nm:ByteArray} {ls:List j1n} {es es':List j6h} (hc:jbl (zs,(ps,(cs,[(nm,(ls,es))])))) (he:∀ x∈es',ECk ps.length x) (hl:es'.length≤48):jbl (zs,(ps,(cs,[(nm,(ls,es'))]))):=by
 have hk:=hc.sc (nm,(ls,es)) (by simp)
 exact jp1 hs (by simp) (by simpa using hc.sn) (fun y hy=>by
  simp only [jx] at hy;subst hy
  exact ⟨hk.nm,hk.ly,hk.ll,he,hl⟩)
theorem jlE {nm:ByteArray} {ls:List j1n} {es:List j6h} (hc:jbl (zs,(ps,(cs,[(nm,(ls,es))])))) {x:j6h} (hx:ECk ps.length x) (hl:es.length≤20):jbl (zs,(ps,(cs,[(nm,(ls,es++[x]))]))):=
 jsm hs hc (fun y hy=>by
  rcases jp.1 hy with h | h
  ·exact (hc.sc (nm,(ls,es)) (by simp)).ed y h
  ·simp only [jx] at h;subst h;exact hx) (by simp;omega)
end
theorem jrs {L:List Int} {a:Int} (h:DOk L a):∃ zs ps cs nm ls es a',j4B L a 1=some ((zs,(ps,(cs,[(nm,(ls,es))]))),L,a')∧SOk2 zs ps cs∧jbl (zs,(ps,(cs,[(nm,(ls,es))])))∧ls.length≤3∧es.length≤3∧DOk L a':=by
 obtain ⟨zs,ps,cs,ss,a1,e1,hs,g0,g1,g2,g3,d1⟩:=jnd (n:=1) h (by omega) (by omega)
 obtain ⟨s,rfl⟩:∃ s,ss=[s]:=by
  match ss,g0,g1 with
  | [s],_,_=>exact ⟨s,rfl⟩
  | s::s'::r,_,g1=>simp at g1;omega
 have hsg:=g3 s (by simp)
 have hc:=jp1 hs (ss:=[s]) (by simp) (by rw [g2];exact jrr.take _) (fun y h=>(g3 y h).ck)
 exact ⟨zs,ps,cs,s.1,s.2.1,s.2.2,a1,e1,hs,hc,hsg.ll,hsg.el,d1⟩
theorem jkH {t f u A B p:Int} (h:A≠B):jgV t (jgV t p (2,(A,(B,(f,u))))) (2,(A,(B,(f,u))))=p∧jgV t p (2,(A,(B,(f,u))))=jgV t p (2,(B,(A,(f,u)))):=by
 simp only [jgV]
 by_cases ho:t<f∨u≤t
 ·simp only [if_pos ho,and_self]
 ·simp only [if_neg ho,show ¬ (2:Int)=1 by omega,q8,kf]
  by_cases h1:p=A
  ·subst h1
   simp only [if_true,if_neg (fun e:B=p=>h e.symm)]
   refine ⟨trivial,?_⟩
   rw [if_neg (show ¬ p=B from h)]
  ·by_cases h2:p=B
   ·subst h2
    simp only [if_neg h1,if_true]
    exact ⟨trivial,trivial⟩
   ·simp only [if_neg h1,if_neg h2]
    exact ⟨trivial,trivial⟩
section
variable {zs:List j1T} {ps:List j12} {cs:List CalT} (hs:SOk2 zs ps cs)
include hs
theorem jqC {s s1 s2 s3:j2Q} (hc:jbl (zs,(ps,(cs,[s])))) (hc1:jbl (zs,(ps,(cs,[s1])))) (hc2:jbl (zs,(ps,(cs,[s2])))) (hc3:jbl (zs,(ps,(cs,[s3]))))
  (h3:∀ t,whoS zs cs s3 t=whoS zs cs s t) (h2:∀ t,whoS zs cs s1 t=whoS zs cs s2 t) {L:List Int}:∀ (n:Nat) (q a:Int),q+n=8→0≤q→DOk L a→
  j4S q zs ps cs [s] zs ps cs [s1] zs ps cs [s2] zs ps cs [s3] L a=some (.inr ())
 | 0,q,a,hq,q0,hd=>by
  rw [j7J]
  simp only [j2s]
  rw [j00 (by omega),j6,j0u]
 | n+1,q,a,hq,q0,hd=>by
  obtain ⟨t,a',e,t0,t1,d'⟩:=jhY hd
  have ih:=jqC hc hc1 hc2 hc3 h3 h2 (L:=L) n (q+1) a' (by omega) (by omega) d'
  rw [j7J]
  simp only [j2s,e,j3]
  rw [j01 (show q<8 by omega),j5,jjg hs hc3 (by omega) (by omega),jjg hs hc (by omega) (by omega),jjg hs hc1 (by omega) (by omega),jjg hs hc2 (by omega) (by omega),h3,h2,j03 (x:=q+1) (by omega) (by omega)]
  simp only [j3,jd,j6,j0j]
  exact ih
end
theorem jhn (t:List Int) (_h:Wf (.list (.int .i64)) t):j8P t=some true:=by
 simp only [j8P,jew,j3,show Int.ofNat (List.length t)=(t.length:Int) from rfl]
 by_cases hl:(t.length:Int)≤500
 ·rw [j01 hl]
  simp only [jl,j6,jgo,j3]
  obtain ⟨zs,ps,cs,nm,ls,es,a1,e1,hs,hc,hll,hel,d1⟩:=jrs (L:=t) (a:=0) ⟨by omega,by omega,by omega⟩
  have hp1:=hs.so.p1
  simp only [e1,j3,show Int.ofNat ps.length=(ps.length:Int) from rfl]
  by_cases h2:(ps.length:Int)<2
  ·rw [j01 h2]
   simp only [j5,joM,j3]
  ·rw [j00 h2]
   obtain ⟨A,a2,e2,A0,A1,d2⟩:=j0H (n:=(ps.length:Int)) d1 (by omega) (by omega)
   obtain ⟨d,a3,e3,k0,k1,d3⟩:=j0H (n:=(ps.length:Int)-1) d2 (by omega) (by omega)
   have hlen:(ps.length:Int)≠0:=by omega
   have B0:=Int.emod_nonneg (A+1+d) hlen
   have B1:=Int.emod_lt_of_pos (A+1+d) (show 0<(ps.length:Int) by omega)
   have hAB:A≠(A+1+d)%(ps.length:Int):=by
    intro he
    by_cases hlt:A+1+d<(ps.length:Int)
    ·rw [Int.emod_eq_of_lt (by omega) hlt] at he;omega
    ·rw [←Int.sub_emod_right,Int.emod_eq_of_lt (by omega) (by omega)] at he;omega
   simp only [j6,e2,j3]
   rw [j03 (x:=(ps.length:Int)-1) (by omega) (by omega),e3]
   simp only [j3]
   rw [j03 (x:=A+1) (by omega) (by omega),j03 (x:=A+1+d) (by omega) (by omega),show ((ps.length:Int)==0)=false from j5B hlen,jiZ (by omega)]
   simp only [km,j5]
   generalize (A+1+d)%(ps.length:Int)=B at *
   have mk:∀ P Q:Int,0≤P→P<(ps.length:Int)→0≤Q→Q<(ps.length:Int)→P≠Q→ECk ps.length ((2:Int),(P,(Q,((1767225600:Int),(1768953600:Int))))):=fun P Q p0 p1 q0 q1 hne=>
    ⟨by show (0:Int)≤2;omega,by show (2:Int)≤2;omega,.inl ⟨p0,p1⟩,fun _=>⟨q0,q1,hne⟩,fun h=>absurd rfl h,by show (0:Int)≤1767225600;omega,by show (1767225600:Int)<1768953600;omega,by show (1768953600:Int)≤1000000000000;omega,by
     show j1q (Int.tdiv 1768953600 86400)=some true
     rw [jbW (by omega)]
     exact jmp (by omega) (by omega)⟩
   have x1:=mk A B A0 A1 B0 B1 hAB
   have x2:=mk B A B0 B1 A0 A1 (fun h=>hAB h.symm)
   have c1:=jlE hs hc x1 (by omega)
   have c2:=jlE hs hc x2 (by omega)
   have c3:=jlE hs c1 x1 (by simp;omega)
   rw [show j2U (zs,(ps,(cs,[(nm,(ls,es))]))) 0 (2,(A,(B,(1767225600,1768953600))))=_ from jgW hc c1]
   simp only [j3]
   rw [show j2U (zs,(ps,(cs,[(nm,(ls,es))]))) 0 (2,(B,(A,(1767225600,1768953600))))=_ from jgW hc c2]
   simp only [j3]
   rw [show j2U (zs,(ps,(cs,[(nm,(ls,es++[(2,(A,(B,(1767225600,1768953600))))]))]))) 0 (2,(A,(B,(1767225600,1768953600))))=_ from jgW c1 c3]
   simp only [j3,jd,j6]
   have n2:(2:Int)≠0:=by omega
   have lp:=jqC hs hc c1 c2 c3 (fun t=>by rw [jfA (.inl n2),jfA (.inl n2),(jkH hAB).1]) (fun t=>by rw [jfA (.inl n2),jfA (.inl n2),(jkH hAB).2]) 8 0 a3 (by omega) (by omega) d3
   rw [lp]
   simp only [j3,j8s,joM]
 ·rw [j00 hl]
  simp only [km,j5,joM,j3]
end Go.Proofs.Pw
