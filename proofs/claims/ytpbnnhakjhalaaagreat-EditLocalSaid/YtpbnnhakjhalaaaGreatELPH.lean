/- Edits are added; who is on call with edits. -/
import Derived.Test.YtpbnnhakjhalaaaGreatELPG
import Derived.Test.YtpbnnhakjhalaaaGreatELPB
open Go Go.Lft
namespace Go.Proofs.Pw
theorem jls (t:Int):∀ (es:List j5P) (p:Int) (x:j5P),jlr t p (es++[x])=jhH t (jlr t p es) x
 | [],_,_=>rfl
 | y::r,p,x=>jls t r (jhH t p y) x
section
variable {zs:List j1T} {ps:List j12} {cs:List CalT} (hs:SOk2 zs ps cs)
include hs
theorem jpT {ss:List j2E} {s:j2E} (hk:SCk zs.length ps.length cs.length s) {t:Int} (h0:0≤t) (h1:t≤8589934592):j5V ((zs,(ps,(cs,ss))),zs.map tb) s t=some (whoS zs cs s t):=by
 have hll:=hk.ll;have hel:=hk.el
 have hL:=jo1 (zs:=zs) (ps:=ps) (cs:=cs) (ss:=ss) (tbs:=zs.map tb) (ls:=s.2.1) (nm:=s.1) (es:=s.2.2) (t:=t) (Pf:=pfX zs cs s.2.1 t) (by omega) (fun k hkl=>by
  have e:pfX zs cs s.2.1 t k=perX zs cs s.2.1[k] t:=by simp [pfX,List.getD,hkl]
  rw [e]
  exact (jtU hs (hk.ly _ (jf hkl)) (ss:=ss) h0 h1).2.1)
 have hL2:∃ k,j3g ((zs,(ps,(cs,ss))),zs.map tb) (s.1,(s.2.1,s.2.2)) t=some (k,topP s.2.2 t (pfX zs cs s.2.1 t) s.2.1.length):=by
  rw [show j3g ((zs,(ps,(cs,ss))),zs.map tb) (s.1,(s.2.1,s.2.2)) t=_ from hL]
  simp only [topP]
  cases topI (jhG s.2.2 t (pfX zs cs s.2.1 t)) s.2.1.length with
  | none=>exact ⟨_,rfl⟩
  | some k=>exact ⟨_,rfl⟩
 obtain ⟨k,hL2⟩:=hL2
 have ef:=jpS (es:=s.2.2) (by omega) (t:=t) s.2.2.length 0 (topP s.2.2 t (pfX zs cs s.2.1 t) s.2.1.length) (by omega)
 rw [qp] at ef
 simp only [j5V]
 rw [j00 (show ¬ t<0 by omega),j00 (show ¬ t>8589934592 by omega)]
 simp only [j6]
 simp only [hL2,j3,jaK,show Int.ofNat s.2.2.length=(s.2.2.length:Int) from rfl,show j5v (topP s.2.2 t (pfX zs cs s.2.1 t) s.2.1.length) t s.2.2 (s.2.2.length:Int) 0=_ from ef]
 rfl
end
theorem jgk {α:Type} {l:List α} {i:Nat} (h:i<l.length):l.set i l[i]=l:=List.set_getElem_self h
theorem clZ {xs:List j1T} (h:xs.length≤1000):j1Z xs=some xs:=by
 simp only [j1Z,jw,kp]
 rw [j01 (by simp [j0m];omega),j5]
theorem clP {xs:List j12} (h:xs.length≤1000):j1x xs=some xs:=by
 simp only [j1x,jw,kp]
 rw [j01 (by simp [j0m];omega),j5]
theorem clC {xs:List CalT} (h:xs.length≤1000):j17 xs=some xs:=by
 simp only [j17,jw,kp]
 rw [j01 (by simp [j0m];omega),j5]
theorem clS {xs:List j2E} (h:xs.length≤1000):j18 xs=some xs:=by
 simp only [j18,jw,kp]
 rw [j01 (by simp [j0m];omega),j5]
theorem clR {xs:List Rule} (h:xs.length≤1000):j19 xs=some xs:=by
 simp only [j19,jw,kp]
 rw [j01 (by simp [j0m];omega),j5]
theorem clW {xs:WL} (h:xs.length≤1000):j0V xs=some xs:=by
 simp only [j0V,jw,kp]
 rw [j01 (by simp [j0m];omega),j5]
theorem clI {xs:List Int} (h:xs.length≤1000):j3a xs=some xs:=by
 simp only [j3a,jw,kp]
 rw [j01 (by simp [j0m];omega),j5]
theorem clL {xs:List j1b} (h:xs.length≤1000):j1a xs=some xs:=by
 simp only [j1a,jw,kp]
 rw [j01 (by simp [j0m];omega),j5]
theorem clE {xs:List j5P} (h:xs.length≤1000):j1m xs=some xs:=by
 simp only [j1m,jw,kp]
 rw [j01 (by simp [j0m];omega),j5]
section
variable {zs:List j1T} {ps:List j12} {cs:List CalT} {nm:ByteArray} {ls:List j1b} {es:List j5P}
theorem jru (hl:zs.length≤1000) (hr:∀ z∈zs,z.2.2.length≤1000):∀ n i:Nat,i+n=zs.length→j5s (zs.length:Int) (i:Int) nm ls es zs ps cs=some (nm,ls,es,zs,ps,cs)
 | 0,i,hi=>by
  rw [jci]
  simp only [j4l]
  rw [j00 (by omega),j6,j0j]
 | n+1,i,hi=>by
  have hlt:i<zs.length:=by omega
  have hgd:zs.getD i (ByteArray.empty,((0:Int),([]:List Rule)))=zs[i]:=by simp [List.getD,hlt]
  rw [jci]
  simp only [j4l]
  rw [j01 (by omega),j1M (by omega) (by omega),j02 (x:=(i:Int)+1) (by omega) (by omega)]
  simp only [j5,j7,hgd,clR (hr _ (jf hlt)),j3,jgk hlt,j0b]
  exact jru hl hr n (i+1) (by omega)
theorem jrv (hl:ps.length≤1000) (hr:∀ p∈ps,p.2.2.1.length≤1000):∀ n i:Nat,i+n=ps.length→j5t (ps.length:Int) (i:Int) nm ls es zs ps cs=some (nm,ls,es,zs,ps,cs)
 | 0,i,hi=>by
  rw [jcj]
  simp only [j4m]
  rw [j00 (by omega),j6,j0j]
 | n+1,i,hi=>by
  have hlt:i<ps.length:=by omega
  have hgd:ps.getD i (ByteArray.empty,((0:Int),(([]:WL),((0:Int),((0:Int),false)))))=ps[i]:=by simp [List.getD,hlt]
  rw [jcj]
  simp only [j4m]
  rw [j01 (by omega),j1M (by omega) (by omega),j02 (x:=(i:Int)+1) (by omega) (by omega)]
  simp only [j5,j7,hgd,clW (hr _ (jf hlt)),j3,jgk hlt,j0b]
  exact jrv hl hr n (i+1) (by omega)
theorem jrw (hl:cs.length≤1000) (hr:∀ c∈cs,c.2.2.length≤1000):∀ n i:Nat,i+n=cs.length→j5u (cs.length:Int) (i:Int) nm ls es zs ps cs=some (nm,ls,es,zs,ps,cs)
 | 0,i,hi=>by
  rw [jck]
  simp only [j4n]
  rw [j00 (by omega),j6,j0j]
 | n+1,i,hi=>by
  have hlt:i<cs.length:=by omega
  have hgd:cs.getD i (ByteArray.empty,((0:Int),([]:List Int)))=cs[i]:=by simp [List.getD,hlt]
  rw [jck]
  simp only [j4n]
  rw [j01 (by omega),j1M (by omega) (by omega),j02 (x:=(i:Int)+1) (by omega) (by omega)]
  simp only [j5,j7,hgd,clI (hr _ (jf hlt)),j3,jgk hlt,j0b]
  exact jrw hl hr n (i+1) (by omega)
theorem jrx {a b:Int} (hl:ls.length≤1000) (hr:∀ x∈ls,x.2.2.2.2.2.1.length≤1000∧x.2.2.2.2.2.2.1.length≤1000):∀ n i:Nat,i+n=ls.length→j4z a b (ls.length:Int) (i:Int) nm zs ps cs ls es=some (a,b,nm,zs,ps,cs,ls,es)
 | 0,i,hi=>by
  rw [jcl]
  simp only [j4o]
  rw [j00 (by omega),j6,j0j]
 | n+1,i,hi=>by
  have hlt:i<ls.length:=by omega
  have hgd:ls.getD i (ByteArray.empty,((0:Int),(((0:Int),(0:Int)),((0:Int),((0:Int),(([]:List Int),(([]:WL),((0:Int),(0:Int)))))))))=ls[i]:=by simp [List.getD,hlt]
  obtain ⟨h1,h2⟩:=hr _ (jf hlt)
  rw [jcl]
  simp only [j4o]
  rw [j01 (by omega),j1M (by omega) (by omega),j02 (x:=(i:Int)+1) (by omega) (by omega)]
  simp only [j5,j7,hgd,clI h1,clW h2,j3,jgk hlt,j1M (show (0:Int)≤(i:Int) by omega) (show (i:Int)<(ls.length:Int) by omega),j0b]
  exact jrx hl hr n (i+1) (by omega)
structure Sht (zs:List j1T) (ps:List j12) (cs:List CalT) (ls:List j1b) (es:List j5P):Prop where
 z:zs.length≤1000∧∀ z∈zs,z.2.2.length≤1000
 p:ps.length≤1000∧∀ p∈ps,p.2.2.1.length≤1000
 c:cs.length≤1000∧∀ c∈cs,c.2.2.length≤1000
 l:ls.length≤1000∧∀ x∈ls,x.2.2.2.2.2.1.length≤1000∧x.2.2.2.2.2.2.1.length≤1000
 e:es.length≤1000
theorem jr3 (h:Sht zs ps cs ls es):j9d (zs,(ps,(cs,[(nm,(ls,es))])))=some (zs,ps,cs,nm,ls,es):=by
 simp only [j9d,clZ h.z.1,clP h.p.1,clC h.c.1,clS (xs:=[(nm,(ls,es))]) (by simp),j3,q8,List.getD_cons_zero]
 have l0:=jru (nm:=nm) (ls:=ls) (es:=es) (ps:=ps) (cs:=cs) h.z.1 h.z.2 zs.length 0 (by omega)
 have l2:=jrv (nm:=nm) (ls:=ls) (es:=es) (zs:=zs) (cs:=cs) h.p.1 h.p.2 ps.length 0 (by omega)
 have l4:=jrw (nm:=nm) (ls:=ls) (es:=es) (zs:=zs) (ps:=ps) h.c.1 h.c.2 cs.length 0 (by omega)
 have l8:=jrx (a:=1) (b:=0) (nm:=nm) (es:=es) (zs:=zs) (ps:=ps) (cs:=cs) h.l.1 h.l.2 ls.length 0 (by omega)
 rw [show Nat.beq 1 1=true from rfl,j5,show j5s (Int.ofNat zs.length) 0 nm ls es zs ps cs=_ from l0]
 simp only [j3]
 rw [show j5t (Int.ofNat ps.length) 0 nm ls es zs ps cs=_ from l2]
 simp only [j3]
 rw [show j5u (Int.ofNat cs.length) 0 nm ls es zs ps cs=_ from l4]
 simp only [j3,clL h.l.1,clE h.e]
 rw [show j4z 1 0 (Int.ofNat ls.length) 0 nm zs ps cs ls es=_ from l8]
 simp only [j3]
 rw [j02 (x:=(0:Int)+1) (by omega) (by omega),j00 (by omega),j6]
theorem jnd (hc:jbV (zs,(ps,(cs,[(nm,(ls,es))])))):Sht zs ps cs ls es:=by
 have hk:=hc.sc (nm,(ls,es)) (by simp)
 refine ⟨⟨by have:=hc.zl;dsimp only at this;omega,fun z hz=>(hc.zc z hz).len⟩,⟨by have:=hc.pl;dsimp only at this;omega,fun p hp=>by have:=(hc.pc p hp).wl;omega⟩,
  ⟨by have:=hc.cl;dsimp only at this;omega,fun c hcc=>by have:=(hc.cc c hcc).len;omega⟩,⟨by have:=hk.ll;dsimp only at this;omega,fun x hx=> ?_⟩,by have:=hk.el;dsimp only at this;omega⟩
 have h:=hk.ly x hx
 have:=h.m1;have:=h.wl
 omega
theorem jne (hc:jbV (zs,(ps,(cs,[(nm,(ls,es))])))):j84 (zs,(ps,(cs,[(nm,(ls,es))]))) 0=some (0,zs,ps,cs,nm,ls,es):=by
 simp only [j84,show j23 (zs,(ps,(cs,[(nm,(ls,es))])))=some 0 from jea hc,j3,jb,j6,j7F,q8]
 rw [j01 (show (0:Int)≥0 by omega),j01 (show (0:Int)<Int.ofNat 1 by decide)]
 simp only [j5,jd,j6,jr3 (jnd hc),j3]
theorem jpU (hc:jbV (zs,(ps,(cs,[(nm,(ls,es))])))) {x:j5P} (hc':jbV (zs,(ps,(cs,[(nm,(ls,es++[x]))])))) :
  j4X (zs,(ps,(cs,[(nm,(ls,es))]))) 0 x=some ((zs,(ps,(cs,[(nm,(ls,es++[x]))]))),0):=by
 have hel:=(jnd hc).e
 simp only [j4X,jne hc,j3,jb,j6,q8]
 rw [j1M (show (0:Int)≤0 by omega) (show (0:Int)<((1:Nat):Int) by omega),j5,j01 (by simp [j0m];omega),j5]
 simp only [show j23 (zs,(ps,(cs,[(nm,(ls,es++[(x.1,(x.2.1,(x.2.2.1,(x.2.2.2.1,x.2.2.2.2))))]))])))=some 0 from jea hc',j3,jb,j6]
theorem jtq (hl:es.length≤1000) {i:Nat} (hi:i<es.length):∃ m,j1P es (i:Int) ((i:Int)+1)=some (((es.length-1:Nat):Int),m)∧List.take (es.length-1) m=es.eraseIdx i:=by
 have e1:((i:Int)+1).toNat=i+1:=by omega
 have e2:i+(es.length-(i+1))=es.length-1:=by omega
 have hA:(List.take i es++(List.drop (i+1) es++List.drop (es.length-1) es)).length=es.length:=by simp;omega
 simp only [j1P,show Int.ofNat es.length=(es.length:Int) from rfl]
 rw [j01 (show (0:Int)≤(i:Int) by omega),j01 (show (i:Int)≤(i:Int)+1 by omega),j01 (show (i:Int)+1≤(es.length:Int) by omega),j01 (show (es.length:Int)≤(es.length:Int) by omega),j4u (show ¬ (i:Int)=(i:Int)+1 by omega),
  j01 (show (i:Int)≤(es.length:Int) by omega),j01 (show (0:Int)≤(i:Int)+1 by omega)]
 simp only [z8,j5,j6,j7,e1,e2]
 rw [j01 (show i≤i+1 by omega),j5]
 simp only [hA,show ∀ n:Nat,Int.ofNat n=(n:Int) from fun _=>rfl,j7]
 rw [j01 (show (0:Int)≤((es.length-1:Nat):Int) by omega),j01 (show ((es.length-1:Nat):Int)≤(es.length:Int) by omega)]
 simp only [decide_true,z8,j5]
 refine ⟨_,rfl,?_⟩
 have hlen:(List.take i es++List.drop (i+1) es).length=es.length-1:=by simp;omega
 have ht:List.take (es.length-1) (List.take i es++(List.drop (i+1) es++List.drop (es.length-1) es))=List.take i es++List.drop (i+1) es:=by
  rw [←jm]
  exact qt hlen
 rw [qt (by rw [kr];omega),ht,List.eraseIdx_eq_take_drop_succ]
theorem jo3 (hc:jbV (zs,(ps,(cs,[(nm,(ls,es))])))) {i:Nat} (hi:i<es.length):j41 (zs,(ps,(cs,[(nm,(ls,es))]))) 0 (i:Int)=some ((zs,(ps,(cs,[(nm,(ls,es.eraseIdx i))]))),0):=by
 have hel:=(jnd hc).e
 obtain ⟨m,hd,ht⟩:=jtq hel hi
 simp only [j41,jne hc,j3,jb,j6,show Int.ofNat es.length=(es.length:Int) from rfl]
 rw [j1M (show (0:Int)≤0 by omega) (show (0:Int)<((1:Nat):Int) by omega),j5,j00 (show ¬ (i:Int)<0 by omega),j00 (show ¬ (i:Int)≥(es.length:Int) by omega),j02 (x:=(i:Int)+1) (by omega) (by omega)]
 simp only [j6,hd,j3,j7,ht]
end
theorem jtr {nm nm':ByteArray} {o o':Int} {rs:List Rule} (hl:rs.length≤1000):∀ n i:Nat,i+n=rs.length→j5x (i:Int) nm o rs nm' o' rs=some (.inr ())
 | 0,i,hi=>by
  rw [ja5]
  simp only [j3b,show Int.ofNat rs.length=(rs.length:Int) from rfl]
  rw [j00 (by omega),j6,j0j]
 | n+1,i,hi=>by
  rw [ja5]
  simp only [j3b,show Int.ofNat rs.length=(rs.length:Int) from rfl]
  rw [j01 (by omega),j1M (by omega) (by omega),j02 (x:=(i:Int)+1) (by omega) (by omega)]
  simp only [j5,kg,z8,jd,j6,j0b]
  exact jtr hl n (i+1) (by omega)
theorem jr4 {z:j1T} (hl:z.2.2.length≤1000):j89 z z=some true:=by
 simp only [j89,kg,jd,j6,jb]
 rw [show j5x 0 z.1 z.2.1 z.2.2 z.1 z.2.1 z.2.2=_ from jtr hl z.2.2.length 0 (by omega)]
 simp only [j3,j3x]
theorem jts {w:WL} (hl:w.length≤1000):∀ n i:Nat,i+n=w.length→j3O w w (i:Int)=some (.inr ())
 | 0,i,hi=>by
  rw [j8a]
  simp only [j2x,show Int.ofNat w.length=(w.length:Int) from rfl]
  rw [j00 (by omega),j6,j0j]
 | n+1,i,hi=>by
  rw [j8a]
  simp only [j2x,show Int.ofNat w.length=(w.length:Int) from rfl]
  rw [j01 (by omega),j1M (by omega) (by omega),j02 (x:=(i:Int)+1) (by omega) (by omega)]
  simp only [j5,kg,z8,jd,j6,j0b]
  exact jts hl n (i+1) (by omega)
theorem jpV {w:WL} (hl:w.length≤1000):j5y w w=some true:=by
 simp only [j5y,j6,jb]
 rw [show j3O w w 0=_ from jts hl w.length 0 (by omega)]
 simp only [j3,j3x]
theorem jtt {w:List Int} (hl:w.length≤1000):∀ n i:Nat,i+n=w.length→j5z w w (i:Int)=some (.inr ())
 | 0,i,hi=>by
  rw [ja6]
  simp only [j3c,show Int.ofNat w.length=(w.length:Int) from rfl]
  rw [j00 (by omega),j6,j0j]
 | n+1,i,hi=>by
  rw [ja6]
  simp only [j3c,show Int.ofNat w.length=(w.length:Int) from rfl]
  rw [j01 (by omega),j1M (by omega) (by omega),j02 (x:=(i:Int)+1) (by omega) (by omega)]
  simp only [j5,jb,j6,j0b]
  exact jtt hl n (i+1) (by omega)
theorem jpW {w:List Int} (hl:w.length≤1000):j8b w w=some true:=by
 simp only [j8b,j6,jb]
 rw [show j5z w w 0=_ from jtt hl w.length 0 (by omega)]
 simp only [j3,j3x]
theorem jss {x:j1b} (h:x.2.2.2.2.2.1.length≤1000∧x.2.2.2.2.2.2.1.length≤1000):j70 x x=some true:=by
 simp only [j70,kg,j5,z8,jpW h.1,jpV h.2,j3]
theorem jry {nm nm':ByteArray} {ls:List j1b} {es es':List j5P} (hl:ls.length≤1000) (hr:∀ x∈ls,x.2.2.2.2.2.1.length≤1000∧x.2.2.2.2.2.2.1.length≤1000):∀ n i:Nat,i+n=ls.length→j3u (i:Int) nm ls es nm' ls es'=some (.inr (nm,ls,es,nm',ls,es'))
 | 0,i,hi=>by
  rw [j7u]
  simp only [j2l,show Int.ofNat ls.length=(ls.length:Int) from rfl]
  rw [j00 (by omega),j6,j0j]
 | n+1,i,hi=>by
  have hlt:i<ls.length:=by omega
  have hgd:ls.getD i (ByteArray.empty,((0:Int),(((0:Int),(0:Int)),((0:Int),((0:Int),(([]:List Int),(([]:WL),((0:Int),(0:Int)))))))))=ls[i]:=by simp [List.getD,hlt]
  have e:=jss (hr _ (jf hlt))
  rw [j7u]
  simp only [j2l,show Int.ofNat ls.length=(ls.length:Int) from rfl]
  rw [j01 (by omega),j1M (by omega) (by omega),j02 (x:=(i:Int)+1) (by omega) (by omega)]
  simp only [j5,j7,hgd]
  rw [show j70 (ls[i].1,(ls[i].2.1,((ls[i].2.2.1.1,ls[i].2.2.1.2),(ls[i].2.2.2.1,(ls[i].2.2.2.2.1,(ls[i].2.2.2.2.2.1,(ls[i].2.2.2.2.2.2.1,(ls[i].2.2.2.2.2.2.2.1,ls[i].2.2.2.2.2.2.2.2)))))))) (ls[i].1,(ls[i].2.1,((ls[i].2.2.1.1,ls[i].2.2.1.2),(ls[i].2.2.2.1,(ls[i].2.2.2.2.1,(ls[i].2.2.2.2.2.1,(ls[i].2.2.2.2.2.2.1,(ls[i].2.2.2.2.2.2.2.1,ls[i].2.2.2.2.2.2.2.2))))))))=_ from e]
  simp only [j3,jd,j6,j0b]
  exact jry hl hr n (i+1) (by omega)
theorem jrz {nm nm':ByteArray} {ls ls':List j1b} {es:List j5P} (hl:es.length≤1000):∀ n i:Nat,i+n=es.length→j3v (i:Int) nm ls es nm' ls' es=some (.inr ())
 | 0,i,hi=>by
  rw [j7v]
  simp only [j2m,show Int.ofNat es.length=(es.length:Int) from rfl]
  rw [j00 (by omega),j6,j0j]
 | n+1,i,hi=>by
  rw [j7v]
  simp only [j2m,show Int.ofNat es.length=(es.length:Int) from rfl]
  rw [j01 (by omega),j1M (by omega) (by omega),j02 (x:=(i:Int)+1) (by omega) (by omega)]
  simp only [j5,kg,z8,jd,j6,j0b]
  exact jrz hl n (i+1) (by omega)
section
variable {zs:List j1T} {ps:List j12} {cs:List CalT} {nm:ByteArray} {ls:List j1b} {es:List j5P}
theorem jst (h:Sht zs ps cs ls es):j3K (nm,(ls,es)) (nm,(ls,es))=some true:=by
 simp only [j3K,kg,jd,j6,jb]
 rw [show j3u 0 nm ls es nm ls es=_ from jry h.l.1 h.l.2 ls.length 0 (by omega)]
 simp only [j3,j3x]
 rw [show j3v 0 nm ls es nm ls es=_ from jrz h.e es.length 0 (by omega)]
 simp only [j3,j3x]
theorem jrA {ss:List j2E} (hl:zs.length≤1000) (hr:∀ z∈zs,z.2.2.length≤1000):∀ n i:Nat,i+n=zs.length→j9h (i:Int) zs ps cs ss zs ps cs ss=some (.inr (zs,ps,cs,ss,zs,ps,cs,ss))
 | 0,i,hi=>by
  rw [jd8]
  simp only [j4P,show Int.ofNat zs.length=(zs.length:Int) from rfl]
  rw [j00 (by omega),j6,j0j]
 | n+1,i,hi=>by
  have hlt:i<zs.length:=by omega
  have hgd:zs.getD i (ByteArray.empty,((0:Int),([]:List Rule)))=zs[i]:=by simp [List.getD,hlt]
  have e:=jr4 (hr _ (jf hlt))
  rw [jd8]
  simp only [j4P,show Int.ofNat zs.length=(zs.length:Int) from rfl]
  rw [j01 (by omega),j1M (by omega) (by omega),j02 (x:=(i:Int)+1) (by omega) (by omega)]
  simp only [j5,j7,hgd]
  rw [show j89 (zs[i].1,(zs[i].2.1,zs[i].2.2)) (zs[i].1,(zs[i].2.1,zs[i].2.2))=_ from e]
  simp only [j3,jd,j6,j0b]
  exact jrA hl hr n (i+1) (by omega)
theorem jrB {ss:List j2E} (hl:ps.length≤1000) (hr:∀ p∈ps,p.2.2.1.length≤1000):∀ n i:Nat,i+n=ps.length→j9i (i:Int) zs ps cs ss zs ps cs ss=some (.inr (zs,ps,cs,ss,zs,ps,cs,ss))
 | 0,i,hi=>by
  rw [jd9]
  simp only [j4Q,show Int.ofNat ps.length=(ps.length:Int) from rfl]
  rw [j00 (by omega),j6,j0j]
 | n+1,i,hi=>by
  have hlt:i<ps.length:=by omega
  have hgd:ps.getD i (ByteArray.empty,((0:Int),(([]:WL),((0:Int),((0:Int),false)))))=ps[i]:=by simp [List.getD,hlt]
  have e:=jpV (hr _ (jf hlt))
  rw [jd9]
  simp only [j4Q,show Int.ofNat ps.length=(ps.length:Int) from rfl]
  rw [j01 (by omega),j1M (by omega) (by omega),j02 (x:=(i:Int)+1) (by omega) (by omega)]
  simp only [j5,j7,hgd,kg,jd,j6,jb,e,j3,j0b]
  exact jrB hl hr n (i+1) (by omega)
theorem jrC {ss:List j2E} (hl:cs.length≤1000) (hr:∀ c∈cs,c.2.2.length≤1000):∀ n i:Nat,i+n=cs.length→j9j (i:Int) zs ps cs ss zs ps cs ss=some (.inr (zs,ps,cs,ss,zs,ps,cs,ss))
 | 0,i,hi=>by
  rw [jda]
  simp only [j4R,show Int.ofNat cs.length=(cs.length:Int) from rfl]
  rw [j00 (by omega),j6,j0j]
 | n+1,i,hi=>by
  have hlt:i<cs.length:=by omega
  have hgd:cs.getD i (ByteArray.empty,((0:Int),([]:List Int)))=cs[i]:=by simp [List.getD,hlt]
  have e:=jpW (hr _ (jf hlt))
  rw [jda]
  simp only [j4R,show Int.ofNat cs.length=(cs.length:Int) from rfl]
  rw [j01 (by omega),j1M (by omega) (by omega),j02 (x:=(i:Int)+1) (by omega) (by omega)]
  simp only [j5,j7,hgd,kg,jd,j6,jb,e,j3,j0b]
  exact jrC hl hr n (i+1) (by omega)
theorem jtu {s:j2E} (h:j3K s s=some true):jbi 0 zs ps cs [s] zs ps cs [s]=some (.inr ()):=by
 rw [jdb]
 simp only [j4S,show Int.ofNat [s].length=1 from rfl]
 rw [j01 (show (0:Int)<1 by omega),j1M (show (0:Int)≤0 by omega) (show (0:Int)<(([s].length:Nat):Int) by simp),j02 (x:=(0:Int)+1) (by omega) (by omega)]
 simp only [j5,show Int.toNat 0=0 from rfl,List.getD_cons_zero]
 rw [show j3K (s.1,(s.2.1,s.2.2)) (s.1,(s.2.1,s.2.2))=_ from h]
 simp only [j3,jd,j6,j0b]
 rw [jdb]
 simp only [j4S,show Int.ofNat [s].length=1 from rfl]
 rw [j00 (show ¬ (0:Int)+1<1 by omega),j6,j0j]
theorem jpX (h:Sht zs ps cs ls es):jew (zs,(ps,(cs,[(nm,(ls,es))]))) (zs,(ps,(cs,[(nm,(ls,es))])))=some true:=by
 simp only [jew,jb,j6]
 rw [show j9h 0 zs ps cs [(nm,(ls,es))] zs ps cs [(nm,(ls,es))]=_ from jrA h.z.1 h.z.2 zs.length 0 (by omega)]
 simp only [j3,j3x]
 rw [show j9i 0 zs ps cs [(nm,(ls,es))] zs ps cs [(nm,(ls,es))]=_ from jrB h.p.1 h.p.2 ps.length 0 (by omega)]
 simp only [j3,j3x]
 rw [show j9j 0 zs ps cs [(nm,(ls,es))] zs ps cs [(nm,(ls,es))]=_ from jrC h.c.1 h.c.2 cs.length 0 (by omega)]
 simp only [j3,j3x]
 rw [jtu (jst h)]
 simp only [j3,j3x]
end
theorem jpY {es:List j5P} {t:Int} {x:j5P} {Pf:Nat→Int} (h:x.1≠0∨t<x.2.2.2.1∨x.2.2.2.2≤t):jhG (es++[x]) t Pf=jhG es t Pf:=by
 funext i
 have e:(x.1==0&&(x.2.1==Pf i&&(decide (x.2.2.2.1≤t)&&decide (t<x.2.2.2.2))))=false:=by
  rcases h with h | h | h
  ·rw [j4u h];rfl
  ·rw [j00 (show ¬ x.2.2.2.1≤t by omega)];simp
  ·rw [j00 (show ¬ t<x.2.2.2.2 by omega)];simp
 simp only [jhG,jlq,List.any_append,List.any_cons,List.any_nil,Bool.or_false,e]
theorem jpZ {es es':List j5P} {t:Int} {Pf:Nat→Int} {n:Nat} (h:jhG es t Pf=jhG es' t Pf):topP es t Pf n=topP es' t Pf n:=by
 unfold topP;rw [h]
theorem jk0 {zs:List j1T} {cs:List CalT} {nm:ByteArray} {ls:List j1b} {es:List j5P} {t:Int} {x:j5P} (h:x.1≠0∨t<x.2.2.2.1∨x.2.2.2.2≤t) :
  whoS zs cs (nm,(ls,es++[x])) t=jhH t (whoS zs cs (nm,(ls,es)) t) x:=by
 show jlr t (topP (es++[x]) t (pfX zs cs ls t) ls.length) (es++[x])=jhH t (jlr t (topP es t (pfX zs cs ls t) ls.length) es) x
 rw [jpZ (jpY h),jls]
theorem jq0 {t p:Int} {x:j5P} (h:t<x.2.2.2.1∨x.2.2.2.2≤t):jhH t p x=p:=by
 unfold jhH;rw [if_pos h]
section
variable {zs:List j1T} {ps:List j12} {cs:List CalT} (hs:SOk2 zs ps cs)
include hs
theorem jq1 {s:j2E} (hc:jbV (zs,(ps,(cs,[s])))) {t:Int} (h0:0≤t) (h1:t≤8589934592):j56 (zs,(ps,(cs,[s]))) 0 t=some (whoS zs cs s t):=by
 have hk:=hc.sc s (by simp)
 simp only [j56,jrs hs.so.ok hc,j3,jd,j6,j7F,q8]
 rw [j01 (show (0:Int)≥0 by omega),j01 (show (0:Int)<Int.ofNat 1 by decide),j1M (show (0:Int)≤0 by omega) (show (0:Int)<((1:Nat):Int) by omega)]
 simp only [j5,jd,j6,show Int.toNat 0=0 from rfl,List.getD_cons_zero]
 rw [show j5V ((zs,(ps,(cs,[s]))),zs.map tb) (s.1,(s.2.1,s.2.2)) t=_ from jpT hs hk h0 h1]
 rfl
theorem jnf {s:j2E} (hc:jbV (zs,(ps,(cs,[s])))) {t:Int} (h0:t<0):j56 (zs,(ps,(cs,[s]))) 0 t=some (-1):=by
 simp only [j56,jrs hs.so.ok hc,j3,jd,j6,j7F,q8]
 rw [j01 (show (0:Int)≥0 by omega),j01 (show (0:Int)<Int.ofNat 1 by decide),j1M (show (0:Int)≤0 by omega) (show (0:Int)<((1:Nat):Int) by omega)]
 simp only [j5,jd,j6,j5V]
 rw [j01 h0]
 rfl
theorem jtv {nm:ByteArray} {ls:List j1b} {es es':List j5P} (hc:jbV (zs,(ps,(cs,[(nm,(ls,es))])))) (he:∀ x∈es',ECk ps.length x) (hl:es'.length≤48):jbV (zs,(ps,(cs,[(nm,(ls,es'))]))):=by
 have hk:=hc.sc (nm,(ls,es)) (by simp)
 exact jpQ hs (by simp) (by simpa using hc.sn) (fun y hy=>by
  simp only [jx] at hy;subst hy
  exact ⟨hk.nm,hk.ly,hk.ll,he,hl⟩)
theorem jsu {nm:ByteArray} {ls:List j1b} {es:List j5P} (hc:jbV (zs,(ps,(cs,[(nm,(ls,es))])))) {x:j5P} (hx:ECk ps.length x) (hl:es.length≤20):jbV (zs,(ps,(cs,[(nm,(ls,es++[x]))]))):=
 jtv hs hc (fun y hy=>by
  rcases jp.1 hy with h | h
  ·exact (hc.sc (nm,(ls,es)) (by simp)).ed y h
  ·simp only [jx] at h;subst h;exact hx) (by simp;omega)
end
theorem jsv {L:List Int} {a:Int} (h:DOk L a):∃ zs ps cs nm ls es a',j4O L a 1=some ((zs,(ps,(cs,[(nm,(ls,es))]))),L,a')∧SOk2 zs ps cs∧jbV (zs,(ps,(cs,[(nm,(ls,es))])))∧ls.length≤3∧es.length≤3∧DOk L a':=by
 obtain ⟨zs,ps,cs,ss,a1,e1,hs,g0,g1,g2,g3,d1⟩:=jo2 (n:=1) h (by omega) (by omega)
 obtain ⟨s,rfl⟩:∃ s,ss=[s]:=by
  match ss,g0,g1 with
  | [s],_,_=>exact ⟨s,rfl⟩
  | s::s'::r,_,g1=>simp at g1;omega
 have hsg:=g3 s (by simp)
 have hc:=jpQ hs (ss:=[s]) (by simp) (by rw [g2];exact jsr.take _) (fun y h=>(g3 y h).ck)
 exact ⟨zs,ps,cs,s.1,s.2.1,s.2.2,a1,e1,hs,hc,hsg.ll,hsg.el,d1⟩
theorem jsw {t p k A B f u:Int} (h1:f≤t) (h2:t<u):(k=1→jhH t p (k,(A,(B,(f,u))))=A)∧(k=2→jhH t p (k,(A,(B,(f,u))))=if p=A then B else if p=B then A else p):=by
 simp only [jhH]
 rw [if_neg (show ¬ (t<f∨u≤t) by omega)]
 refine ⟨fun h=>by rw [if_pos h],fun h=> ?_⟩
 subst h
 simp only [show ¬ (2:Int)=1 by omega,qa,kf]
section
variable {zs:List j1T} {ps:List j12} {cs:List CalT} (hs:SOk2 zs ps cs)
include hs
theorem jrD {nm:ByteArray} {ls:List j1b} {es:List j5P} {k A B f u:Int} (hc:jbV (zs,(ps,(cs,[(nm,(ls,es))])))) (hc1:jbV (zs,(ps,(cs,[(nm,(ls,es++[(k,(A,(B,(f,u))))]))])))) (hf:0≤f) (hAB:k=2→A≠B)
  {l:List Int} (hl:l.length=8) (hx:∀ x∈l,x≤8589934592):∀ n i:Nat,i+n=8→
  j3P l (i:Int) zs ps cs [(nm,(ls,es))] k A B f u zs ps cs [(nm,(ls,es++[(k,(A,(B,(f,u))))]))]=some (.inr ())
 | 0,i,hi=>by
  rw [j8c]
  simp only [j2y]
  rw [j00 (by omega),j6,j0j]
 | n+1,i,hi=>by
  have hlt:i<l.length:=by omega
  have hgd:l.getD i (0:Int)=l[i]:=by simp [List.getD,hlt]
  have ih:=jrD hc hc1 hf hAB hl hx n (i+1) (by omega)
  have hxm:=hx _ (jf hlt)
  rw [j8c]
  simp only [j2y]
  rw [j01 (show (i:Int)<8 by omega),j1M (show (0:Int)≤(i:Int) by omega) (show (i:Int)<((8:Nat):Int) by omega),j02 (x:=(i:Int)+1) (by omega) (by omega)]
  simp only [j5,j7,hgd]
  generalize l[i]=x at *
  by_cases hneg:x<0
  ·rw [jnf hs hc hneg,jnf hs hc1 hneg,j01 (show x<f by omega)]
   simp only [j3,j5,jb,j6,j0b]
   exact ih
  ·rw [jq1 hs hc (t:=x) (by omega) (by omega),jq1 hs hc1 (t:=x) (by omega) (by omega)]
   simp only [j3]
   by_cases ho:x<f∨u≤x
   ·rw [jk0 (.inr ho),jq0 ho]
    have:cond (decide (x<f)) true (decide (x≥u))=true:=by
     rcases ho with ho | ho
     ·rw [j01 ho];rfl
     ·rw [j01 (show x≥u from ho)];cases decide (x<f)<;>rfl
    rw [this]
    simp only [j5,jb,j6,j0b]
    exact ih
   ·rw [j00 (show ¬ x<f by omega),j00 (show ¬ x≥u by omega)]
    simp only [j6]
    obtain ⟨q1,q2⟩:=jsw (p:=whoS zs cs (nm,(ls,es)) x) (k:=k) (A:=A) (B:=B) (f:=f) (u:=u) (t:=x) (by omega) (by omega)
    by_cases hk1:k=1
    ·rw [jk0 (.inl (by show k≠0;omega)),q1 hk1,jb,j4u (show ¬ k=2 by omega)]
     have:cond (k==(1:Int)) false false=false:=by cases k==(1:Int)<;>rfl
     rw [this]
     simp only [j6,j0b]
     exact ih
    ·rw [j4u hk1]
     by_cases hk2:k=2
     ·rw [jk0 (.inl (by show k≠0;omega)),q2 hk2,j9D hk2]
      have hAB:=hAB hk2
      generalize whoS zs cs (nm,(ls,es)) x=p at *
      by_cases hA:p=A
      ·subst hA
       rw [if_pos rfl]
       simp only [j6,kg,j5,jb,j4u hAB,j0b]
       exact ih
      ·rw [if_neg hA]
       by_cases hB:p=B
       ·subst hB
        rw [if_pos rfl]
        simp only [j6,kg,j5,jb,j4u hA,show (p != A)=true by simp [hA],j0b]
        exact ih
       ·rw [if_neg hB]
        simp only [j6,j4u hA,j4u hB,show (p != A)=true by simp [hA],show (p != B)=true by simp [hB],j5,jb,j0b]
        exact ih
     ·rw [j4u hk2]
      simp only [j6,j0b]
      exact ih
end
theorem ji9 (t:List Int) (_h:Wf (.list (.int .i64)) t):j9k t=some true:=by
 simp only [j9k,jfg,j3,show Int.ofNat (List.length t)=(t.length:Int) from rfl]
 by_cases hl:(t.length:Int)≤500
 ·rw [j01 hl]
  simp only [jd,j6,jh8,j3]
  obtain ⟨zs,ps,cs,nm,ls,es,a1,e1,hs,hc,hll,hel,d1⟩:=jsv (L:=t) (a:=0) ⟨by omega,by omega,by omega⟩
  obtain ⟨⟨k,A,B,f,u⟩,a2,e2,hx,d2⟩:=jpN d1 (zs:=zs) (ps:=ps) (cs:=cs) (ss:=[(nm,(ls,es))]) hs.so.p0 hs.so.p1
  have hf0:0≤f:=hx.f0
  have hfu:f<u:=hx.ft
  have hu1:u≤1000000000000:=hx.t1
  have hu:u≤8589934592:=by
   have h:=jtp hx.day
   rw [show (k,A,B,f,u).2.2.2.2=u from rfl,jcy (by omega)] at h
   omega
  have c1:=jsu hs hc hx (by omega)
  simp only [e1,j3]
  rw [show j4Z t a1 (zs,(ps,(cs,[(nm,(ls,es))])))=_ from e2]
  simp only [j3]
  rw [show j4X (zs,(ps,(cs,[(nm,(ls,es))]))) 0 (k,(A,(B,(f,u))))=_ from jpU hc c1]
  simp only [j3,jb,j6,q8,show ((Int.ofNat 1) != (1:Int))=false from rfl,List.getD_cons_zero]
  rw [j1M (show (0:Int)≤0 by omega) (show (0:Int)<((1:Nat):Int) by omega),j5,show Int.ofNat (es++[(k,(A,(B,(f,u))))]).length=(es.length:Int)+1 by simp,
   j02 (x:=(es.length:Int)+1-1) (by omega) (by omega),show (es.length:Int)+1-1=(es.length:Int) by omega]
  have eC:=jo3 c1 (i:=es.length) (by simp)
  rw [show (es++[(k,(A,(B,(f,u))))]).eraseIdx es.length=es by rw [List.eraseIdx_append_of_length_le (ju _)];simp] at eC
  rw [show j41 (zs,(ps,(cs,[(nm,(ls,es++[(k,(A,(B,(f,u))))]))]))) 0 (es.length:Int)=_ from eC]
  simp only [j3,jb,j6]
  rw [show jew (zs,(ps,(cs,[(nm,(ls,es))]))) (zs,(ps,(cs,[(nm,(ls,es))])))=_ from jpX (jnd hc)]
  simp only [j3,jd,j6]
  obtain ⟨i1,a3,e3,t30,t31,d3⟩:=jb0 d2
  obtain ⟨i2,a4,e4,t40,t41,d4⟩:=jb0 d3
  obtain ⟨i3,a5,e5,t50,t51,d5⟩:=jb0 d4
  obtain ⟨i4,a6,e6,t60,t61,d6⟩:=jb0 d5
  rw [j02 (x:=f-1) (by omega) (by omega),j02 (x:=u-1) (by omega) (by omega)]
  simp only [e3,e4,e5,e6,j3]
  have lp:=jrD hs hc c1 hf0 (fun h=>(hx.b h).2.2) (l:=[f-1,f,u-1,u,i1,i2,i3,i4]) rfl (by
   intro x hx
   simp only [je,qo,or_false] at hx
   rcases hx with rfl | rfl | rfl | rfl | rfl | rfl | rfl | rfl<;>omega) 8 0 (by omega)
  rw [show j3P [f-1,f,u-1,u,i1,i2,i3,i4] 0 zs ps cs [(nm,(ls,es))] k A B f u zs ps cs [(nm,(ls,es++[(k,(A,(B,(f,u))))]))]=_ from lp]
  simp only [j3,j3x,jre]
 ·rw [j00 hl]
  simp only [kn,j5,jre,j3]
end Go.Proofs.Pw
