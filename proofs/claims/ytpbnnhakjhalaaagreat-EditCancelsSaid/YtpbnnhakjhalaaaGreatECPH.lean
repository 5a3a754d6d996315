/- edit.Copy, Apply and Cancel of a right configuration with one schedule. -/
import Derived.Test.YtpbnnhakjhalaaaGreatECPF
import Derived.Test.YtpbnnhakjhalaaaGreatECPG
import Derived.Test.YtpbnnhakjhalaaaGreatECPB
open Go Go.Lft
namespace Go.Proofs.Pw
theorem jhr {α:Type} {l:List α} {i:Nat} (h:i<l.length):l.set i l[i]=l:=List.set_getElem_self h
theorem clZ {xs:List j2P} (h:xs.length≤1000):j1J xs=some xs:=by
 simp only [j1J,jt,ko]
 rw [j01 (by simp [j0a];omega),j4]
theorem clP {xs:List j1b} (h:xs.length≤1000):j1l xs=some xs:=by
 simp only [j1l,jt,ko]
 rw [j01 (by simp [j0a];omega),j4]
theorem clC {xs:List CalT} (h:xs.length≤1000):j11 xs=some xs:=by
 simp only [j11,jt,ko]
 rw [j01 (by simp [j0a];omega),j4]
theorem clS {xs:List j2M} (h:xs.length≤1000):j12 xs=some xs:=by
 simp only [j12,jt,ko]
 rw [j01 (by simp [j0a];omega),j4]
theorem clR {xs:List Rule} (h:xs.length≤1000):j13 xs=some xs:=by
 simp only [j13,jt,ko]
 rw [j01 (by simp [j0a];omega),j4]
theorem clW {xs:WL} (h:xs.length≤1000):j0O xs=some xs:=by
 simp only [j0O,jt,ko]
 rw [j01 (by simp [j0a];omega),j4]
theorem clI {xs:List Int} (h:xs.length≤1000):j32 xs=some xs:=by
 simp only [j32,jt,ko]
 rw [j01 (by simp [j0a];omega),j4]
theorem clL {xs:List j2l} (h:xs.length≤1000):j14 xs=some xs:=by
 simp only [j14,jt,ko]
 rw [j01 (by simp [j0a];omega),j4]
theorem clE {xs:List jaT} (h:xs.length≤1000):j1f xs=some xs:=by
 simp only [j1f,jt,ko]
 rw [j01 (by simp [j0a];omega),j4]
section
variable {zs:List j2P} {ps:List j1b} {cs:List CalT} {nm:ByteArray} {ls:List j2l} {es:List jaT}
theorem jsS (hl:zs.length≤1000) (hr:∀ z∈zs,z.2.2.length≤1000):∀ n i:Nat,i+n=zs.length→j5s (zs.length:Int) (i:Int) nm ls es zs ps cs=some (nm,ls,es,zs,ps,cs)
 | 0,i,hi=>by
  rw [jcX]
  simp only [j4b]
  rw [j00 (by omega),j5,j0n]
 | n+1,i,hi=>by
  have hlt:i<zs.length:=by omega
  have hgd:zs.getD i (ByteArray.empty,((0:Int),([]:List Rule)))=zs[i]:=by simp [List.getD,hlt]
  rw [jcX]
  simp only [j4b]
  rw [j01 (by omega),j1v (by omega) (by omega),j04 (x:=(i:Int)+1) (by omega) (by omega)]
  simp only [j4,j6,hgd,clR (hr _ (jc hlt)),j2,jhr hlt,j0i]
  exact jsS hl hr n (i+1) (by omega)
theorem jsT (hl:ps.length≤1000) (hr:∀ p∈ps,p.2.2.1.length≤1000):∀ n i:Nat,i+n=ps.length→j5t (ps.length:Int) (i:Int) nm ls es zs ps cs=some (nm,ls,es,zs,ps,cs)
 | 0,i,hi=>by
  rw [jcY]
  simp only [j4c]
  rw [j00 (by omega),j5,j0n]
 | n+1,i,hi=>by
  have hlt:i<ps.length:=by omega
  have hgd:ps.getD i (ByteArray.empty,((0:Int),(([]:WL),((0:Int),((0:Int),false)))))=ps[i]:=by simp [List.getD,hlt]
  rw [jcY]
  simp only [j4c]
  rw [j01 (by omega),j1v (by omega) (by omega),j04 (x:=(i:Int)+1) (by omega) (by omega)]
  simp only [j4,j6,hgd,clW (hr _ (jc hlt)),j2,jhr hlt,j0i]
  exact jsT hl hr n (i+1) (by omega)
theorem jsU (hl:cs.length≤1000) (hr:∀ c∈cs,c.2.2.length≤1000):∀ n i:Nat,i+n=cs.length→j5u (cs.length:Int) (i:Int) nm ls es zs ps cs=some (nm,ls,es,zs,ps,cs)
 | 0,i,hi=>by
  rw [jcZ]
  simp only [j4d]
  rw [j00 (by omega),j5,j0n]
 | n+1,i,hi=>by
  have hlt:i<cs.length:=by omega
  have hgd:cs.getD i (ByteArray.empty,((0:Int),([]:List Int)))=cs[i]:=by simp [List.getD,hlt]
  rw [jcZ]
  simp only [j4d]
  rw [j01 (by omega),j1v (by omega) (by omega),j04 (x:=(i:Int)+1) (by omega) (by omega)]
  simp only [j4,j6,hgd,clI (hr _ (jc hlt)),j2,jhr hlt,j0i]
  exact jsU hl hr n (i+1) (by omega)
theorem jsV {a b:Int} (hl:ls.length≤1000) (hr:∀ x∈ls,x.2.2.2.2.2.1.length≤1000∧x.2.2.2.2.2.2.1.length≤1000):∀ n i:Nat,i+n=ls.length→j4t a b (ls.length:Int) (i:Int) nm zs ps cs ls es=some (a,b,nm,zs,ps,cs,ls,es)
 | 0,i,hi=>by
  rw [jd0]
  simp only [j4e]
  rw [j00 (by omega),j5,j0n]
 | n+1,i,hi=>by
  have hlt:i<ls.length:=by omega
  have hgd:ls.getD i (ByteArray.empty,((0:Int),(((0:Int),(0:Int)),((0:Int),((0:Int),(([]:List Int),(([]:WL),((0:Int),(0:Int)))))))))=ls[i]:=by simp [List.getD,hlt]
  obtain ⟨h1,h2⟩:=hr _ (jc hlt)
  rw [jd0]
  simp only [j4e]
  rw [j01 (by omega),j1v (by omega) (by omega),j04 (x:=(i:Int)+1) (by omega) (by omega)]
  simp only [j4,j6,hgd,clI h1,clW h2,j2,jhr hlt,j1v (show (0:Int)≤(i:Int) by omega) (show (i:Int)<(ls.length:Int) by omega),j0i]
  exact jsV hl hr n (i+1) (by omega)
structure Sht (zs:List j2P) (ps:List j1b) (cs:List CalT) (ls:List j2l) (es:List jaT):Prop where
 z:zs.length≤1000∧∀ z∈zs,z.2.2.length≤1000
 p:ps.length≤1000∧∀ p∈ps,p.2.2.1.length≤1000
 c:cs.length≤1000∧∀ c∈cs,c.2.2.length≤1000
 l:ls.length≤1000∧∀ x∈ls,x.2.2.2.2.2.1.length≤1000∧x.2.2.2.2.2.2.1.length≤1000
 e:es.length≤1000
theorem jsp (h:Sht zs ps cs ls es):j9v (zs,(ps,(cs,[(nm,(ls,es))])))=some (zs,ps,cs,nm,ls,es):=by
 simp only [j9v,clZ h.z.1,clP h.p.1,clC h.c.1,clS (xs:=[(nm,(ls,es))]) (by simp),j2,qu,List.getD_cons_zero]
 have l0:=jsS (nm:=nm) (ls:=ls) (es:=es) (ps:=ps) (cs:=cs) h.z.1 h.z.2 zs.length 0 (by omega)
 have l2:=jsT (nm:=nm) (ls:=ls) (es:=es) (zs:=zs) (cs:=cs) h.p.1 h.p.2 ps.length 0 (by omega)
 have l4:=jsU (nm:=nm) (ls:=ls) (es:=es) (zs:=zs) (ps:=ps) h.c.1 h.c.2 cs.length 0 (by omega)
 have l8:=jsV (a:=1) (b:=0) (nm:=nm) (es:=es) (zs:=zs) (ps:=ps) (cs:=cs) h.l.1 h.l.2 ls.length 0 (by omega)
 rw [show Nat.beq 1 1=true from rfl,j4,show j5s (Int.ofNat zs.length) 0 nm ls es zs ps cs=_ from l0]
 simp only [j2]
 rw [show j5t (Int.ofNat ps.length) 0 nm ls es zs ps cs=_ from l2]
 simp only [j2]
 rw [show j5u (Int.ofNat cs.length) 0 nm ls es zs ps cs=_ from l4]
 simp only [j2,clL h.l.1,clE h.e]
 rw [show j4t 1 0 (Int.ofNat ls.length) 0 nm zs ps cs ls es=_ from l8]
 simp only [j2]
 rw [j04 (x:=(0:Int)+1) (by omega) (by omega),j00 (by omega),j5]
theorem jrq (hc:jcA (zs,(ps,(cs,[(nm,(ls,es))])))):Sht zs ps cs ls es:=by
 have hk:=hc.sc (nm,(ls,es)) (by simp)
 refine ⟨⟨by have:=hc.zl;dsimp only at this;omega,fun z hz=>(hc.zc z hz).len⟩,⟨by have:=hc.pl;dsimp only at this;omega,fun p hp=>by have:=(hc.pc p hp).wl;omega⟩,
  ⟨by have:=hc.cl;dsimp only at this;omega,fun c hcc=>by have:=(hc.cc c hcc).len;omega⟩,⟨by have:=hk.ll;dsimp only at this;omega,fun x hx=> ?_⟩,by have:=hk.el;dsimp only at this;omega⟩
 have h:=hk.ly x hx
 have:=h.m1;have:=h.wl
 omega
theorem joF (hc:jcA (zs,(ps,(cs,[(nm,(ls,es))])))):j88 (zs,(ps,(cs,[(nm,(ls,es))]))) 0=some (0,zs,ps,cs,nm,ls,es):=by
 simp only [j88,show j2z (zs,(ps,(cs,[(nm,(ls,es))])))=some 0 from jnU hc,j2,ja,j5,jbI,qu]
 rw [j01 (show (0:Int)≥0 by omega),j01 (show (0:Int)<Int.ofNat 1 by decide)]
 simp only [j4,jd,j5,jsp (jrq hc),j2]
theorem juJ (hl:es.length≤1000) {i:Nat} (hi:i<es.length):∃ m,j1A es (i:Int) ((i:Int)+1)=some (((es.length-1:Nat):Int),m)∧List.take (es.length-1) m=es.eraseIdx i:=by
 have e1:((i:Int)+1).toNat=i+1:=by omega
 have e2:i+(es.length-(i+1))=es.length-1:=by omega
 have hA:(List.take i es++(List.drop (i+1) es++List.drop (es.length-1) es)).length=es.length:=by simp;omega
 simp only [j1A,show Int.ofNat es.length=(es.length:Int) from rfl]
 rw [j01 (show (0:Int)≤(i:Int) by omega),j01 (show (i:Int)≤(i:Int)+1 by omega),j01 (show (i:Int)+1≤(es.length:Int) by omega),j01 (show (es.length:Int)≤(es.length:Int) by omega),j9f (show ¬ (i:Int)=(i:Int)+1 by omega),
  j01 (show (i:Int)≤(es.length:Int) by omega),j01 (show (0:Int)≤(i:Int)+1 by omega)]
 simp only [z6,j4,j5,j6,e1,e2]
 rw [j01 (show i≤i+1 by omega),j4]
 simp only [hA,show ∀ n:Nat,Int.ofNat n=(n:Int) from fun _=>rfl,j6]
 rw [j01 (show (0:Int)≤((es.length-1:Nat):Int) by omega),j01 (show ((es.length-1:Nat):Int)≤(es.length:Int) by omega)]
 simp only [decide_true,z6,j4]
 refine ⟨_,rfl,?_⟩
 have hlen:(List.take i es++List.drop (i+1) es).length=es.length-1:=by simp;omega
 have ht:List.take (es.length-1) (List.take i es++(List.drop (i+1) es++List.drop (es.length-1) es))=List.take i es++List.drop (i+1) es:=by
  rw [←jm]
  exact qr hlen
 rw [qr (by rw [kg];omega),ht,List.eraseIdx_eq_take_drop_succ]
theorem jdI (hc:jcA (zs,(ps,(cs,[(nm,(ls,es))])))) {i:Nat} (hi:i<es.length):j19 (zs,(ps,(cs,[(nm,(ls,es))]))) 0 (i:Int)=some ((zs,(ps,(cs,[(nm,(ls,es.eraseIdx i))]))),0):=by
 have hel:=(jrq hc).e
 obtain ⟨m,hd,ht⟩:=juJ hel hi
 simp only [j19,joF hc,j2,ja,j5,show Int.ofNat es.length=(es.length:Int) from rfl]
 rw [j1v (show (0:Int)≤0 by omega) (show (0:Int)<((1:Nat):Int) by omega),j4,j00 (show ¬ (i:Int)<0 by omega),j00 (show ¬ (i:Int)≥(es.length:Int) by omega),j04 (x:=(i:Int)+1) (by omega) (by omega)]
 simp only [j5,hd,j2,j6,ht]
theorem jpz (hc:jcA (zs,(ps,(cs,[(nm,(ls,es))])))) {k:Int} (hk:(es.length:Int)≤k):j19 (zs,(ps,(cs,[(nm,(ls,es))]))) 0 k=some (([],([],([],[]))),10):=by
 simp only [j19,joF hc,j2,ja,j5,show Int.ofNat es.length=(es.length:Int) from rfl]
 rw [j1v (show (0:Int)≤0 by omega) (show (0:Int)<((1:Nat):Int) by omega),j4,j00 (show ¬ k<0 by omega),j01 (show k≥(es.length:Int) by omega)]
 rfl
end
theorem juK {nm nm':ByteArray} {o o':Int} {rs:List Rule} (hl:rs.length≤1000):∀ n i:Nat,i+n=rs.length→j5z (i:Int) nm o rs nm' o' rs=some (.inr ())
 | 0,i,hi=>by
  rw [jas]
  simp only [j33,show Int.ofNat rs.length=(rs.length:Int) from rfl]
  rw [j00 (by omega),j5,j0n]
 | n+1,i,hi=>by
  rw [jas]
  simp only [j33,show Int.ofNat rs.length=(rs.length:Int) from rfl]
  rw [j01 (by omega),j1v (by omega) (by omega),j04 (x:=(i:Int)+1) (by omega) (by omega)]
  simp only [j4,jz,z6,jd,j5,j0i]
  exact juK hl n (i+1) (by omega)
theorem jsq {z:j2P} (hl:z.2.2.length≤1000):j8n z z=some true:=by
 simp only [j8n,jz,jd,j5,ja]
 rw [show j5z 0 z.1 z.2.1 z.2.2 z.1 z.2.1 z.2.2=_ from juK hl z.2.2.length 0 (by omega)]
 simp only [j2,j2s]
theorem juL {w:WL} (hl:w.length≤1000):∀ n i:Nat,i+n=w.length→j3L w w (i:Int)=some (.inr ())
 | 0,i,hi=>by
  rw [j8o]
  simp only [j2k,show Int.ofNat w.length=(w.length:Int) from rfl]
  rw [j00 (by omega),j5,j0n]
 | n+1,i,hi=>by
  rw [j8o]
  simp only [j2k,show Int.ofNat w.length=(w.length:Int) from rfl]
  rw [j01 (by omega),j1v (by omega) (by omega),j04 (x:=(i:Int)+1) (by omega) (by omega)]
  simp only [j4,jz,z6,jd,j5,j0i]
  exact juL hl n (i+1) (by omega)
theorem jrr {w:WL} (hl:w.length≤1000):j5A w w=some true:=by
 simp only [j5A,j5,ja]
 rw [show j3L w w 0=_ from juL hl w.length 0 (by omega)]
 simp only [j2,j2s]
theorem juM {w:List Int} (hl:w.length≤1000):∀ n i:Nat,i+n=w.length→j5B w w (i:Int)=some (.inr ())
 | 0,i,hi=>by
  rw [jat]
  simp only [j34,show Int.ofNat w.length=(w.length:Int) from rfl]
  rw [j00 (by omega),j5,j0n]
 | n+1,i,hi=>by
  rw [jat]
  simp only [j34,show Int.ofNat w.length=(w.length:Int) from rfl]
  rw [j01 (by omega),j1v (by omega) (by omega),j04 (x:=(i:Int)+1) (by omega) (by omega)]
  simp only [j4,ja,j5,j0i]
  exact juM hl n (i+1) (by omega)
theorem jrs {w:List Int} (hl:w.length≤1000):j8p w w=some true:=by
 simp only [j8p,j5,ja]
 rw [show j5B w w 0=_ from juM hl w.length 0 (by omega)]
 simp only [j2,j2s]
theorem jtN {x:j2l} (h:x.2.2.2.2.2.1.length≤1000∧x.2.2.2.2.2.2.1.length≤1000):j79 x x=some true:=by
 simp only [j79,jz,j4,z6,jrs h.1,jrr h.2,j2]
theorem jsW {nm nm':ByteArray} {ls:List j2l} {es es':List jaT} (hl:ls.length≤1000) (hr:∀ x∈ls,x.2.2.2.2.2.1.length≤1000∧x.2.2.2.2.2.2.1.length≤1000):∀ n i:Nat,i+n=ls.length→j3m (i:Int) nm ls es nm' ls es'=some (.inr (nm,ls,es,nm',ls,es'))
 | 0,i,hi=>by
  rw [j7B]
  simp only [j23,show Int.ofNat ls.length=(ls.length:Int) from rfl]
  rw [j00 (by omega),j5,j0n]
 | n+1,i,hi=>by
  have hlt:i<ls.length:=by omega
  have hgd:ls.getD i (ByteArray.empty,((0:Int),(((0:Int),(0:Int)),((0:Int),((0:Int),(([]:List Int),(([]:WL),((0:Int),(0:Int)))))))))=ls[i]:=by simp [List.getD,hlt]
  have e:=jtN (hr _ (jc hlt))
  rw [j7B]
  simp only [j23,show Int.ofNat ls.length=(ls.length:Int) from rfl]
  rw [j01 (by omega),j1v (by omega) (by omega),j04 (x:=(i:Int)+1) (by omega) (by omega)]
  simp only [j4,j6,hgd]
  rw [show j79 (ls[i].1,(ls[i].2.1,((ls[i].2.2.1.1,ls[i].2.2.1.2),(ls[i].2.2.2.1,(ls[i].2.2.2.2.1,(ls[i].2.2.2.2.2.1,(ls[i].2.2.2.2.2.2.1,(ls[i].2.2.2.2.2.2.2.1,ls[i].2.2.2.2.2.2.2.2)))))))) (ls[i].1,(ls[i].2.1,((ls[i].2.2.1.1,ls[i].2.2.1.2),(ls[i].2.2.2.1,(ls[i].2.2.2.2.1,(ls[i].2.2.2.2.2.1,(ls[i].2.2.2.2.2.2.1,(ls[i].2.2.2.2.2.2.2.1,ls[i].2.2.2.2.2.2.2.2))))))))=_ from e]
  simp only [j2,jd,j5,j0i]
  exact jsW hl hr n (i+1) (by omega)
theorem jsX {nm nm':ByteArray} {ls ls':List j2l} {es:List jaT} (hl:es.length≤1000):∀ n i:Nat,i+n=es.length→j3n (i:Int) nm ls es nm' ls' es=some (.inr ())
 | 0,i,hi=>by
  rw [j7C]
  simp only [j24,show Int.ofNat es.length=(es.length:Int) from rfl]
  rw [j00 (by omega),j5,j0n]
 | n+1,i,hi=>by
  rw [j7C]
  simp only [j24,show Int.ofNat es.length=(es.length:Int) from rfl]
  rw [j01 (by omega),j1v (by omega) (by omega),j04 (x:=(i:Int)+1) (by omega) (by omega)]
  simp only [j4,jz,z6,jd,j5,j0i]
  exact jsX hl n (i+1) (by omega)
section
variable {zs:List j2P} {ps:List j1b} {cs:List CalT} {nm:ByteArray} {ls:List j2l} {es:List jaT}
theorem jtO (h:Sht zs ps cs ls es):j3A (nm,(ls,es)) (nm,(ls,es))=some true:=by
 simp only [j3A,jz,jd,j5,ja]
 rw [show j3m 0 nm ls es nm ls es=_ from jsW h.l.1 h.l.2 ls.length 0 (by omega)]
 simp only [j2,j2s]
 rw [show j3n 0 nm ls es nm ls es=_ from jsX h.e es.length 0 (by omega)]
 simp only [j2,j2s]
theorem jsY {ss:List j2M} (hl:zs.length≤1000) (hr:∀ z∈zs,z.2.2.length≤1000):∀ n i:Nat,i+n=zs.length→j9I (i:Int) zs ps cs ss zs ps cs ss=some (.inr (zs,ps,cs,ss,zs,ps,cs,ss))
 | 0,i,hi=>by
  rw [je1]
  simp only [j4R,show Int.ofNat zs.length=(zs.length:Int) from rfl]
  rw [j00 (by omega),j5,j0n]
 | n+1,i,hi=>by
  have hlt:i<zs.length:=by omega
  have hgd:zs.getD i (ByteArray.empty,((0:Int),([]:List Rule)))=zs[i]:=by simp [List.getD,hlt]
  have e:=jsq (hr _ (jc hlt))
  rw [je1]
  simp only [j4R,show Int.ofNat zs.length=(zs.length:Int) from rfl]
  rw [j01 (by omega),j1v (by omega) (by omega),j04 (x:=(i:Int)+1) (by omega) (by omega)]
  simp only [j4,j6,hgd]
  rw [show j8n (zs[i].1,(zs[i].2.1,zs[i].2.2)) (zs[i].1,(zs[i].2.1,zs[i].2.2))=_ from e]
  simp only [j2,jd,j5,j0i]
  exact jsY hl hr n (i+1) (by omega)
theorem jsZ {ss:List j2M} (hl:ps.length≤1000) (hr:∀ p∈ps,p.2.2.1.length≤1000):∀ n i:Nat,i+n=ps.length→j9J (i:Int) zs ps cs ss zs ps cs ss=some (.inr (zs,ps,cs,ss,zs,ps,cs,ss))
 | 0,i,hi=>by
  rw [je2]
  simp only [j4S,show Int.ofNat ps.length=(ps.length:Int) from rfl]
  rw [j00 (by omega),j5,j0n]
 | n+1,i,hi=>by
  have hlt:i<ps.length:=by omega
  have hgd:ps.getD i (ByteArray.empty,((0:Int),(([]:WL),((0:Int),((0:Int),false)))))=ps[i]:=by simp [List.getD,hlt]
  have e:=jrr (hr _ (jc hlt))
  rw [je2]
  simp only [j4S,show Int.ofNat ps.length=(ps.length:Int) from rfl]
  rw [j01 (by omega),j1v (by omega) (by omega),j04 (x:=(i:Int)+1) (by omega) (by omega)]
  simp only [j4,j6,hgd,jz,jd,j5,ja,e,j2,j0i]
  exact jsZ hl hr n (i+1) (by omega)
theorem jt0 {ss:List j2M} (hl:cs.length≤1000) (hr:∀ c∈cs,c.2.2.length≤1000):∀ n i:Nat,i+n=cs.length→j9K (i:Int) zs ps cs ss zs ps cs ss=some (.inr (zs,ps,cs,ss,zs,ps,cs,ss))
 | 0,i,hi=>by
  rw [je3]
  simp only [j4T,show Int.ofNat cs.length=(cs.length:Int) from rfl]
  rw [j00 (by omega),j5,j0n]
 | n+1,i,hi=>by
  have hlt:i<cs.length:=by omega
  have hgd:cs.getD i (ByteArray.empty,((0:Int),([]:List Int)))=cs[i]:=by simp [List.getD,hlt]
  have e:=jrs (hr _ (jc hlt))
  rw [je3]
  simp only [j4T,show Int.ofNat cs.length=(cs.length:Int) from rfl]
  rw [j01 (by omega),j1v (by omega) (by omega),j04 (x:=(i:Int)+1) (by omega) (by omega)]
  simp only [j4,j6,hgd,jz,jd,j5,ja,e,j2,j0i]
  exact jt0 hl hr n (i+1) (by omega)
theorem juN {s:j2M} (h:j3A s s=some true):jbN 0 zs ps cs [s] zs ps cs [s]=some (.inr ()):=by
 rw [je4]
 simp only [j4U,show Int.ofNat [s].length=1 from rfl]
 rw [j01 (show (0:Int)<1 by omega),j1v (show (0:Int)≤0 by omega) (show (0:Int)<(([s].length:Nat):Int) by simp),j04 (x:=(0:Int)+1) (by omega) (by omega)]
 simp only [j4,show Int.toNat 0=0 from rfl,List.getD_cons_zero]
 rw [show j3A (s.1,(s.2.1,s.2.2)) (s.1,(s.2.1,s.2.2))=_ from h]
 simp only [j2,jd,j5,j0i]
 rw [je4]
 simp only [j4U,show Int.ofNat [s].length=1 from rfl]
 rw [j00 (show ¬ (0:Int)+1<1 by omega),j5,j0n]
theorem jrt (h:Sht zs ps cs ls es):jfy (zs,(ps,(cs,[(nm,(ls,es))]))) (zs,(ps,(cs,[(nm,(ls,es))])))=some true:=by
 simp only [jfy,ja,j5]
 rw [show j9I 0 zs ps cs [(nm,(ls,es))] zs ps cs [(nm,(ls,es))]=_ from jsY h.z.1 h.z.2 zs.length 0 (by omega)]
 simp only [j2,j2s]
 rw [show j9J 0 zs ps cs [(nm,(ls,es))] zs ps cs [(nm,(ls,es))]=_ from jsZ h.p.1 h.p.2 ps.length 0 (by omega)]
 simp only [j2,j2s]
 rw [show j9K 0 zs ps cs [(nm,(ls,es))] zs ps cs [(nm,(ls,es))]=_ from jt0 h.c.1 h.c.2 cs.length 0 (by omega)]
 simp only [j2,j2s]
 rw [juN (jtO h)]
 simp only [j2,j2s]
end
section
variable {zs:List j2P} {ps:List j1b} {cs:List CalT} (hs:SOk2 zs ps cs)
include hs
theorem jt1 {nm:ByteArray} {ls:List j2l} {es es':List jaT} (hc:jcA (zs,(ps,(cs,[(nm,(ls,es))])))) (he:∀ x∈es',ECk ps.length x) (hl:es'.length≤48):jcA (zs,(ps,(cs,[(nm,(ls,es'))]))):=by
 have hk:=hc.sc (nm,(ls,es)) (by simp)
 exact jnX hs (by simp) (by simpa using hc.sn) (fun y hy=>by
  simp only [jv] at hy;subst hy
  exact ⟨hk.nm,hk.ly,hk.ll,he,hl⟩)
end
theorem jtP {L:List Int} {a:Int} (h:DOk L a):∃ zs ps cs nm ls es a',j4I L a 1=some ((zs,(ps,(cs,[(nm,(ls,es))]))),L,a')∧SOk2 zs ps cs∧jcA (zs,(ps,(cs,[(nm,(ls,es))])))∧ls.length≤3∧es.length≤3∧DOk L a':=by
 obtain ⟨zs,ps,cs,ss,a1,e1,hs,g0,g1,g2,g3,d1⟩:=jpy (n:=1) h (by omega) (by omega)
 obtain ⟨s,rfl⟩:∃ s,ss=[s]:=by
  match ss,g0,g1 with
  | [s],_,_=>exact ⟨s,rfl⟩
  | s::s'::r,_,g1=>simp at g1;omega
 have hsg:=g3 s (by simp)
 have hc:=jnX hs (ss:=[s]) (by simp) (by rw [g2];exact jtL.take _) (fun y h=>(g3 y h).ck)
 exact ⟨zs,ps,cs,s.1,s.2.1,s.2.2,a1,e1,hs,hc,hsg.ll,hsg.el,d1⟩
theorem jh9 (t:List Int) (_h:Wf (.list (.int .i64)) t) (n:Int) (_h1:Wf (.int .i64) n):j7N t n=some true:=by
 simp only [j7N,jgf,j2,show Int.ofNat (List.length t)=(t.length:Int) from rfl]
 by_cases hl:(t.length:Int)≤500
 ·rw [j01 hl]
  simp only [jd,j5,jih,j2]
  obtain ⟨zs,ps,cs,nm,ls,es0,a1,e1,hs,hc0,hll,hel,d1⟩:=jtP (L:=t) (a:=0) ⟨by omega,by omega,by omega⟩
  obtain ⟨es,a2,e2,hes,hc,d2⟩:=jmK hs 3 a1 (nm,(ls,es0)) [] d1 hc0 hll (by show es0.length+3≤6;omega)
  have hk:=hc.sc (nm,(ls,es)) (by simp)
  simp only [e1,j2,j8M]
  rw [show j3l 0 3 t a1 zs ps cs [(nm,(ls,es0))]=_ from e2]
  simp only [j2,qu,List.getD_cons_zero,show Int.ofNat es.length=(es.length:Int) from rfl]
  rw [j1v (show (0:Int)≤0 by omega) (show (0:Int)<((1:Nat):Int) by omega),j4]
  by_cases h2:(es.length:Int)<2
  ·rw [j01 h2]
   simp only [j4,jr7,j2]
  ·rw [j00 h2,j5]
   rw [j04 (x:=(es.length:Int)-1) (by omega) (by omega),jui n ((es.length:Int)-1) (by omega) (by omega)]
   have k0:=Int.emod_nonneg n (show (es.length:Int)-1≠0 by omega)
   have k1:=Int.emod_lt_of_pos n (show 0<(es.length:Int)-1 by omega)
   simp only [j2]
   generalize n%((es.length:Int)-1)=kz at *
   obtain ⟨k,rfl⟩:∃ k:Nat,kz=(k:Int):=⟨kz.toNat,by omega⟩
   have hkl:k<es.length-1:=by omega
   rw [j04 (x:=(es.length:Int)-2) (by omega) (by omega),show (es.length:Int)-2=((es.length-2:Nat):Int) by omega,show (es.length:Int)-1=((es.length-1:Nat):Int) by omega]
   have len1:(es.eraseIdx k).length=es.length-1:=by rw [List.length_eraseIdx,if_pos (by omega)]
   have len2:(es.eraseIdx (es.length-1)).length=es.length-1:=by rw [List.length_eraseIdx,if_pos (by omega)]
   have cE:∀ i,jcA (zs,(ps,(cs,[(nm,(ls,es.eraseIdx i))]))):=fun i=>jt1 hs hc (fun x hx=>hk.ed x (List.mem_of_mem_eraseIdx hx)) (by have:=List.length_eraseIdx_le es i;omega)
   have hcomm:(es.eraseIdx k).eraseIdx (es.length-2)=(es.eraseIdx (es.length-1)).eraseIdx k:=by
    apply List.ext_getElem?
    intro j
    simp only [List.getElem?_eraseIdx]
    repeat' split
    all_goals first | rfl | omega
   have x1:=jdI hc (i:=k) (by omega)
   have x2:=jdI (cE k) (i:=es.length-2) (by omega)
   have x3:=jdI hc (i:=es.length-1) (by omega)
   have x4:=jdI (cE (es.length-1)) (i:=k) (by omega)
   have x5:=jpz hc (k:=(es.length:Int)) (by omega)
   have cF:jcA (zs,(ps,(cs,[(nm,(ls,(es.eraseIdx (es.length-1)).eraseIdx k))]))):=jt1 hs hc (fun x hx=>hk.ed x (List.mem_of_mem_eraseIdx (List.mem_of_mem_eraseIdx hx))) (by have:=List.length_eraseIdx_le (es.eraseIdx (es.length-1)) k;omega)
   rw [hcomm] at x2
   rw [show j19 (zs,(ps,(cs,[(nm,(ls,es))]))) 0 (k:Int)=_ from x1]
   simp only [j2]
   rw [show j19 (zs,(ps,(cs,[(nm,(ls,es.eraseIdx k))]))) 0 ((es.length-2:Nat):Int)=_ from x2]
   simp only [j2]
   rw [show j19 (zs,(ps,(cs,[(nm,(ls,es))]))) 0 ((es.length-1:Nat):Int)=_ from x3]
   simp only [j2]
   rw [show j19 (zs,(ps,(cs,[(nm,(ls,es.eraseIdx (es.length-1)))]))) 0 (k:Int)=_ from x4]
   simp only [j2]
   rw [show j19 (zs,(ps,(cs,[(nm,(ls,es))]))) 0 (es.length:Int)=_ from x5]
   simp only [j2,jz,j4]
   rw [show jfy (zs,(ps,(cs,[(nm,(ls,(es.eraseIdx (es.length-1)).eraseIdx k))]))) (zs,(ps,(cs,[(nm,(ls,(es.eraseIdx (es.length-1)).eraseIdx k))])))=_ from jrt (jrq cF)]
   simp only [j2,qu,List.getD_cons_zero]
   rw [j1v (show (0:Int)≤0 by omega) (show (0:Int)<((1:Nat):Int) by omega),show Int.ofNat ((es.eraseIdx (es.length-1)).eraseIdx k).length=((es.length-2:Nat):Int) by rw [List.length_eraseIdx,if_pos (by omega),len2,Nat.sub_sub];rfl]
   simp only [Bool.true_or,j4,jz,jr7,j2]
 ·rw [j00 hl]
  simp only [qa,j4,jr7,j2]
end Go.Proofs.Pw
