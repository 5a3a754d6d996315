/- Chapter 8: configurations that are right. -/
import Derived.Test.YtcegmhnnglcgeaaGreatHPA
import Derived.Test.YtcegmhnnglcgeaaGreatHPC
import Derived.Test.YtcegmhnnglcgeaaGreatHPB
import Derived.KernelRfl
open Go Go.Lft
namespace Go.Proofs.Pw
abbrev jtb:=Int×(Int×(Int×(Int×Int)))
abbrev CfgT:=List j40×(List j2D×(List CalT×List j5e))
theorem jmz {n lo hi:Int} (h1:lo≤n) (h2:n≤hi):j6B n lo hi=some true:=by
 simp only [j6B]
 rw [j03 (show n≥lo from h1),j03 h2];rfl
theorem jq4 {i n:Int} (h1:0≤i) (h2:i<n):j1V i n=some true:=by
 simp only [j1V]
 rw [j03 (show i≥0 from h1),j03 h2];rfl
theorem jwl {i n:Int} (h1:i<0):j1V i n=some false:=by
 simp only [j1V]
 rw [j01 (show ¬ i≥0 by omega)];rfl
structure ZCk (z:j40):Prop where
 ck:j7X z=some 0
 o60:Int.tmod z.2.1 60=0
 r60:∀ r∈z.2.2,Int.tmod r.2.2.2.2.2.2 60=0
 len:z.2.2.length≤1000
theorem jvN {rs:List Rule} (h:∀ r∈rs,Int.tmod r.2.2.2.2.2.2 60=0) (hl:rs.length≤1000):∀ (n i:Nat),i+n=rs.length→j0l rs (rs.length:Int) (i:Int)=some (.inr ())
 | 0,i,hi=>by
  rw [j24]
  simp only [j0o]
  rw [j01 (by omega),j6,j0M]
 | n+1,i,hi=>by
  have hlt:i<rs.length:=by omega
  have hgd:rs.getD i ((0:Int),((0:Int),((0:Int),((0:Int),((0:Int),((0:Int),(0:Int)))))))=rs[i]:=by simp [hlt]
  have:=h rs[i] (List.getElem_mem hlt)
  rw [j24]
  simp only [j0o,j6T]
  rw [j03 (by omega),j4c (by omega) (by omega),j06 (x:=(i:Int)+1) (by omega) (by omega)]
  simp only [j5,j7,hgd,j3,this,bne_self_eq_false,j6,j0O]
  exact jvN h hl n (i+1) (by omega)
theorem jwm {z:j40} (h:ZCk z):j2o z=some 0:=by
 have lp:=jvN h.r60 h.len z.2.2.length 0 (by omega)
 rw [show ((0:Nat):Int)=0 from rfl] at lp
 simp only [j2o,show j7X (z.1,(z.2.1,z.2.2))=_ from h.ck,j3,h.o60,bne_self_eq_false,j6,j0m,j0s,show Int.ofNat z.2.2.length=(z.2.2.length:Int) from rfl,lp,jdT]
 rfl
theorem jvO {zs:List j40} (hn:NmL (zs.map (·.1))) (hc:∀ z∈zs,ZCk z) (hl:zs.length≤100):∀ (n i:Nat),i+n=zs.length→j1a zs (zs.length:Int) (i:Int) (jdx ((zs.take i).map (·.1)))=some (.inr ())
 | 0,i,hi=>by
  rw [j5Z]
  simp only [j0y]
  rw [j01 (by omega),j6,j0M]
 | n+1,i,hi=>by
  have hlt:i<zs.length:=by omega
  have hgd:zs.getD i (ByteArray.empty,((0:Int),([]:List Rule)))=zs[i]:=by simp [hlt]
  have h1:=jle (·.1) hn hlt
  have h2:=jwm (hc zs[i] (List.getElem_mem hlt))
  rw [j5Z]
  simp only [j0y,jab]
  rw [j03 (by omega),j4c (by omega) (by omega),j06 (x:=(i:Int)+1) (by omega) (by omega)]
  simp only [j5,j7,hgd,j3,h1,bne_self_eq_false,j6]
  rw [show j2o (zs[i].1,(zs[i].2.1,zs[i].2.2))=_ from h2]
  simp only [j3,bne_self_eq_false,j6,j0O]
  exact jvO hn hc hl n (i+1) (by omega)
theorem jwn {zs:List j40} (hn:NmL (zs.map (·.1))) (hc:∀ z∈zs,ZCk z) (hl:zs.length≤100):j1A zs=some 0:=by
 have lp:=jvO hn hc hl zs.length 0 (by omega)
 simp only [j1A,show Int.ofNat zs.length=(zs.length:Int) from rfl]
 rw [show j1a zs (zs.length:Int) 0 []=_ from lp]
 rfl
structure PCk (nz:Nat) (p:j2D):Prop where
 nb:(ByteArray.toList p.1==ByteArray.toList (ByteArray.mk #[110,111,98,111,100,121]))=false
 z0:0≤p.2.1
 z1:p.2.1<nz
 w:WOk 0 p.2.2.1
 wl:p.2.2.1.length≤14
 m:j5q p.2.2.2.1=some true
 r:j5q p.2.2.2.2.1=some true
theorem jwo {c:CfgT} {p:j2D} (h:PCk c.1.length p):j1u c p=some 0:=by
 have hz0:=h.z0;have hz1:=h.z1
 simp only [j1u,show Int.ofNat c.1.length=(c.1.length:Int) from rfl,jq4 hz0 hz1,j3,Bool.not_true,j6,jqP h.w h.wl,bne_self_eq_false,h.m,h.r]
theorem jvP {zs:List j40} {ps:List j2D} {cs:List CalT} {ss:List j5e} (hn:NmL (ps.map (·.1))) (hc:∀ p∈ps,PCk zs.length p) (hl:ps.length≤100):∀ (n i:Nat),i+n=ps.length→j3w ps (ps.length:Int) (i:Int) zs ps cs ss (jdx ((ps.take i).map (·.1)))=some (.inr (zs,ps,cs,ss))
 | 0,i,hi=>by
  rw [jbl]
  simp only [j1q]
  rw [j01 (by omega),j6,j0M]
 | n+1,i,hi=>by
  have hlt:i<ps.length:=by omega
  have hgd:ps.getD i (ByteArray.empty,((0:Int),(([]:List (Int×Int)),((0:Int),((0:Int),false)))))=ps[i]:=by simp [hlt]
  have h1:=jle (·.1) hn hlt
  have hp:=hc ps[i] (List.getElem_mem hlt)
  have h2:=jwo (c:=(zs,(ps,(cs,ss)))) hp
  rw [jbl]
  simp only [j1q]
  rw [j03 (by omega),j4c (by omega) (by omega),j06 (x:=(i:Int)+1) (by omega) (by omega)]
  simp only [j5,j7,hgd,j3,h1,hp.nb,beq_self_eq_true,j6]
  rw [show j1u (zs,(ps,(cs,ss))) (ps[i].1,(ps[i].2.1,(ps[i].2.2.1,(ps[i].2.2.2.1,(ps[i].2.2.2.2.1,ps[i].2.2.2.2.2)))))=_ from h2]
  simp only [j3,bne_self_eq_false,j6,j0O]
  exact jvP hn hc hl n (i+1) (by omega)
structure CCk (nz:Nat) (c:CalT):Prop where
 z0:0≤c.2.1
 z1:c.2.1<nz
 len:c.2.2.length≤64
 day:∀ d∈c.2.2,j22 d=some true
 asc:c.2.2.Pairwise (· < ·)
theorem jvQ {ds:List Int} (h:∀ d∈ds,j22 d=some true) (hl:ds.length≤64):∀ (n i:Nat),i+n=ds.length→j1g ds (ds.length:Int) (i:Int)=some (.inr ())
 | 0,i,hi=>by
  rw [j5j]
  simp only [j0t]
  rw [j01 (by omega),j6,j0M]
 | n+1,i,hi=>by
  have hlt:i<ds.length:=by omega
  have hgd:ds.getD i (0:Int)=ds[i]:=by simp [hlt]
  have:=h ds[i] (List.getElem_mem hlt)
  rw [j5j]
  simp only [j0t,j1F]
  rw [j03 (by omega),j4c (by omega) (by omega),j06 (x:=(i:Int)+1) (by omega) (by omega)]
  simp only [j5,j7,hgd,this,j3,Bool.not_true,j6,j0O]
  exact jvQ h hl n (i+1) (by omega)
theorem jvR {nm:ByteArray} {z:Int} {ds:List Int} (h:ds.Pairwise (· < ·)) (hl:ds.length≤64):∀ (n i:Nat),i+n=ds.length→j1H (ds.length:Int) (i:Int) nm z ds=some (.inr ())
 | 0,i,hi=>by
  rw [j6b]
  simp only [j1x]
  rw [j01 (by omega),j6,j0M]
 | n+1,i,hi=>by
  have hlt:i<ds.length:=by omega
  have hgd:ds.getD i (0:Int)=ds[i]:=by simp [hlt]
  have ih:=jvR (nm:=nm) (z:=z) h hl n (i+1) (by omega)
  rw [j6b]
  simp only [j1x]
  rw [j03 (by omega),j4c (i:=(i:Int)) (by omega) (by omega),j06 (x:=(i:Int)+1) (by omega) (by omega)]
  simp only [j5,j7,hgd]
  by_cases h0:i=0
  ·subst h0
   rw [j01 (by omega),j6,j0O]
   exact ih
  ·have hj:i-1<ds.length:=by omega
   have hgj:ds.getD (i-1) (0:Int)=ds[i-1]:=by simp [hj]
   have hp:ds[i-1]<ds[i]:=List.pairwise_iff_getElem.1 h (i-1) i hj hlt (by omega)
   rw [j03 (show (i:Int)>0 by omega),j06 (x:=(i:Int)-1) (by omega) (by omega),j4c (i:=(i:Int)-1) (by omega) (by omega),show ((i:Int)-1).toNat=i-1 by omega,hgj,j01 (show ¬ ds[i]≤ds[i-1] by omega)]
   simp only [j5,j6,j0O]
   exact ih
theorem jwp {c:CfgT} {x:CalT} (h:CCk c.1.length x):j1o c x=some 0:=by
 have hz0:=h.z0;have hz1:=h.z1;have hl:=h.len
 have l1:=jvQ h.day hl x.2.2.length 0 (by omega)
 have l2:=jvR (nm:=x.1) (z:=x.2.1) h.asc hl x.2.2.length 0 (by omega)
 rw [show ((0:Nat):Int)=0 from rfl] at l1 l2
 simp only [j1o,show Int.ofNat c.1.length=(c.1.length:Int) from rfl,show Int.ofNat x.2.2.length=(x.2.2.length:Int) from rfl,jq4 hz0 hz1,j3,Bool.not_true,j6,j1h,j1G,l1,l2,jdT]
 rw [j01 (by omega)]
 rfl
theorem jvS {zs:List j40} {ps:List j2D} {cs:List CalT} {ss:List j5e} (hn:NmL (cs.map (·.1))) (hc:∀ x∈cs,CCk zs.length x) (hl:cs.length≤100):∀ (n i:Nat),i+n=cs.length→j0K zs ps cs ss cs (cs.length:Int) (i:Int) (jdx ((cs.take i).map (·.1)))=some (.inr ())
 | 0,i,hi=>by
  rw [j4U]
  simp only [j0q]
  rw [j01 (by omega),j6,j0M]
 | n+1,i,hi=>by
  have hlt:i<cs.length:=by omega
  have hgd:cs.getD i (ByteArray.empty,((0:Int),([]:List Int)))=cs[i]:=by simp [hlt]
  have h1:=jle (·.1) hn hlt
  have h2:=jwp (c:=(zs,(ps,(cs,ss)))) (hc cs[i] (List.getElem_mem hlt))
  rw [j4U]
  simp only [j0q,jad,j4k]
  rw [j03 (by omega),j4c (by omega) (by omega),j06 (x:=(i:Int)+1) (by omega) (by omega)]
  simp only [j5,j7,hgd,j3,h1,bne_self_eq_false,j6]
  rw [show j1o (zs,(ps,(cs,ss))) (cs[i].1,(cs[i].2.1,cs[i].2.2))=_ from h2]
  simp only [j3,bne_self_eq_false,j6,j0O]
  exact jvS hn hc hl n (i+1) (by omega)
theorem jwq {zs:List j40} {ps:List j2D} {cs:List CalT} {ss:List j5e} (hn:NmL (cs.map (·.1))) (hc:∀ x∈cs,CCk zs.length x) (hl:cs.length≤100):j14 cs zs ps cs ss=some 0:=by
 have lp:=jvS (ps:=ps) (ss:=ss) hn hc hl cs.length 0 (by omega)
 simp only [j14,show Int.ofNat cs.length=(cs.length:Int) from rfl]
 rw [show j0K zs ps cs ss cs (cs.length:Int) 0 []=_ from lp]
 rfl
structure LCk (nz np nc:Nat) (l:jaT):Prop where
 z0:0≤l.2.1
 z1:l.2.1<nz
 d0:1≤l.2.2.1.1
 day:j22 l.2.2.1.1=some true
 c0:0≤l.2.2.1.2
 c1:l.2.2.1.2≤86399
 u0:0≤l.2.2.2.1
 u1:l.2.2.2.1≤2
 e0:1≤l.2.2.2.2.1
 e1:l.2.2.2.2.1≤400
 m0:l.2.2.2.2.2.1.length≠0
 m1:l.2.2.2.2.2.1.length≤12
 mem:∀ m∈l.2.2.2.2.2.1,0≤m∧m<(np:Int)
 w:WOk 0 l.2.2.2.2.2.2.1
 wl:l.2.2.2.2.2.2.1.length≤14
 mode0:0≤l.2.2.2.2.2.2.2.2
 mode1:l.2.2.2.2.2.2.2.2≤2
 cal:l.2.2.2.2.2.2.2.2≠0→0≤l.2.2.2.2.2.2.2.1∧l.2.2.2.2.2.2.2.1<(nc:Int)
 cal0:l.2.2.2.2.2.2.2.2=0→l.2.2.2.2.2.2.2.1=0
theorem jvT {zs:List j40} {ps:List j2D} {cs:List CalT} {ss:List j5e} {ms:List Int} (h:∀ m∈ms,0≤m∧m<(ps.length:Int)) (hl:ms.length≤12):∀ (n i:Nat),i+n=ms.length→j0W ms zs ps cs ss (ms.length:Int) (i:Int)=some (.inr ())
 | 0,i,hi=>by
  rw [j4o]
  simp only [j0S]
  rw [j01 (by omega),j6,j0M]
 | n+1,i,hi=>by
  have hlt:i<ms.length:=by omega
  have hgd:ms.getD i (0:Int)=ms[i]:=by simp [hlt]
  have hm:=h ms[i] (List.getElem_mem hlt)
  rw [j4o]
  simp only [j0S,j6c,show Int.ofNat ps.length=(ps.length:Int) from rfl]
  rw [j03 (by omega),j4c (by omega) (by omega),j06 (x:=(i:Int)+1) (by omega) (by omega)]
  simp only [j5,j7,hgd,jq4 hm.1 hm.2,j3,Bool.not_true,j6,j0O]
  exact jvT h hl n (i+1) (by omega)
theorem jwr {c:CfgT} {l:jaT} (h:LCk c.1.length c.2.1.length c.2.2.1.length l):j25 c l=some 0:=by
 have hz0:=h.z0;have hz1:=h.z1;have hd0:=h.d0;have hm0:=h.m0;have hm1:=h.m1
 have l1:=jvT (zs:=c.1) (cs:=c.2.2.1) (ss:=c.2.2.2) h.mem hm1 l.2.2.2.2.2.1.length 0 (by omega)
 rw [show ((0:Nat):Int)=0 from rfl] at l1
 simp only [j25,show Int.ofNat c.1.length=(c.1.length:Int) from rfl,show Int.ofNat l.2.2.2.2.2.1.length=(l.2.2.2.2.2.1.length:Int) from rfl,show Int.ofNat c.2.2.1.length=(c.2.2.1.length:Int) from rfl,jq4 hz0 hz1,j3,Bool.not_true,j6,h.day,jmz h.c0 h.c1,jmz h.u0 h.u1,jmz h.e0 h.e1,jmz h.mode0 h.mode1,
  j0X,j1i,l1,jdT,jqP h.w h.wl,bne_self_eq_false]
 rw [j01 (show ¬ l.2.2.1.1<1 by omega),jdw (show ¬ (l.2.2.2.2.2.1.length:Int)=0 by omega),j01 (show ¬ (l.2.2.2.2.2.1.length:Int)>12 by omega),j01 (show ¬ (-1:Int)≥0 by omega)]
 simp only [j6]
 by_cases hmd:l.2.2.2.2.2.2.2.2=0
 ·rw [hmd,h.cal0 hmd];rfl
 ·have hc:=h.cal hmd
  rw [show (l.2.2.2.2.2.2.2.2 != 0)=true by simp [hmd],jdw hmd,j5,jq4 hc.1 hc.2]
  rfl
theorem jvU {zs:List j40} {ps:List j2D} {cs:List CalT} {ss:List j5e} {ls:List jaT} (hn:NmL (ls.map (·.1))) (hc:∀ x∈ls,LCk zs.length ps.length cs.length x) (hl:ls.length≤100):∀ (n i:Nat),i+n=ls.length→j15 zs ps cs ss ls (ls.length:Int) (i:Int) (jdx ((ls.take i).map (·.1)))=some (.inr ())
 | 0,i,hi=>by
  rw [j5H]
  simp only [j0w]
  rw [j01 (by omega),j6,j0M]
 | n+1,i,hi=>by
  have hlt:i<ls.length:=by omega
  have hgd:ls.getD i (ByteArray.empty,((0:Int),(((0:Int),(0:Int)),((0:Int),((0:Int),(([]:(List Int)),(([]:(List (Int×Int))),((0:Int),(0:Int)))))))))=ls[i]:=by simp [hlt]
  have h1:=jle (·.1) hn hlt
  have h2:=jwr (c:=(zs,(ps,(cs,ss)))) (hc ls[i] (List.getElem_mem hlt))
  rw [j5H]
  simp only [j0w,j54,j1I]
  rw [j03 (by omega),j4c (by omega) (by omega),j06 (x:=(i:Int)+1) (by omega) (by omega)]
  simp only [j5,j7,hgd,j3,h1,bne_self_eq_false,j6]
  rw [show j25 (zs,(ps,(cs,ss))) (ls[i].1,ls[i].2.1,(ls[i].2.2.1.1,ls[i].2.2.1.2),ls[i].2.2.2.1,ls[i].2.2.2.2.1,ls[i].2.2.2.2.2.1,ls[i].2.2.2.2.2.2.1,ls[i].2.2.2.2.2.2.2.1,ls[i].2.2.2.2.2.2.2.2)=_ from h2]
  simp only [j3,bne_self_eq_false,j6,j0O]
  exact jvU hn hc hl n (i+1) (by omega)
theorem jws {zs:List j40} {ps:List j2D} {cs:List CalT} {ss:List j5e} {ls:List jaT} (hn:NmL (ls.map (·.1))) (hc:∀ x∈ls,LCk zs.length ps.length cs.length x) (hl:ls.length≤100):j1v ls zs ps cs ss=some 0:=by
 have lp:=jvU (ss:=ss) hn hc hl ls.length 0 (by omega)
 simp only [j1v,show Int.ofNat ls.length=(ls.length:Int) from rfl]
 rw [show j15 zs ps cs ss ls (ls.length:Int) 0 []=_ from lp]
 rfl
structure ECk (np:Nat) (x:jtb):Prop where
 k0:0≤x.1
 k1:x.1≤2
 a:0≤x.2.1∧x.2.1<(np:Int)∨x.1=1∧x.2.1 = -1
 b:x.1=2→0≤x.2.2.1∧x.2.2.1<(np:Int)∧x.2.1≠x.2.2.1
 b0:x.1≠2→x.2.2.1=0
 f0:0≤x.2.2.2.1
 ft:x.2.2.2.1<x.2.2.2.2
 t1:x.2.2.2.2≤1000000000000
 day:j22 (Int.tdiv x.2.2.2.2 86400)=some true
theorem jwt {c:CfgT} {x:jtb} (h:ECk c.2.1.length x):j2p c x=some 0:=by
 have hf0:=h.f0;have hft:=h.ft;have ht1:=h.t1;have hday:=h.day
 have hdv:w64 (Int.tdiv x.2.2.2.2 86400)=Int.tdiv x.2.2.2.2 86400:=by
  rw [jfC (by omega)]
  exact j06 (by omega) (by omega)
 simp only [j2p,show Int.ofNat c.2.1.length=(c.2.1.length:Int) from rfl,jmz h.k0 h.k1,j3,Bool.not_true,j6,hdv,hday]
 rw [j01 (show ¬ x.2.2.2.1<0 by omega),j01 (show ¬ x.2.2.2.2<0 by omega),j01 (show ¬ x.2.2.2.1≥x.2.2.2.2 by omega)]
 simp only [j6]
 have hA:∃ b,j1V x.2.1 (c.2.1.length:Int)=some b∧cond (!b) (!(cond (x.1==(1:Int)) (x.2.1==(-1:Int)) false)) false=false:=by
  rcases h.a with ⟨a1,a2⟩ | ⟨a1,a2⟩
  ·exact ⟨true,jq4 a1 a2,rfl⟩
  ·exact ⟨false,jwl (by omega),by rw [a1,a2];rfl⟩
 obtain ⟨b,e1,e2⟩:=hA
 rw [e1]
 simp only [j3,e2,j6]
 by_cases h2:x.1=2
 ·obtain ⟨b1,b2,b3⟩:=h.b h2
  rw [jj4 h2,j5,jq4 b1 b2,show (x.1 != 2)=false by rw [h2];rfl,jdw b3]
  rfl
 ·rw [jdw h2,j6,show (x.1 != 2)=true by simp [h2],h.b0 h2]
  rfl
theorem jvV {zs:List j40} {ps:List j2D} {cs:List CalT} {ss:List j5e} {es:List jtb} (hc:∀ x∈es,ECk ps.length x) (hl:es.length≤48):∀ (n i:Nat),i+n=es.length→j1J es (es.length:Int) (i:Int) zs ps cs ss=some (.inr ())
 | 0,i,hi=>by
  rw [j6d]
  simp only [j0B]
  rw [j01 (by omega),j6,j0M]
 | n+1,i,hi=>by
  have hlt:i<es.length:=by omega
  have hgd:es.getD i ((0:Int),((0:Int),((0:Int),((0:Int),(0:Int)))))=es[i]:=by simp [hlt]
  have h2:=jwt (c:=(zs,(ps,(cs,ss)))) (hc es[i] (List.getElem_mem hlt))
  rw [j6d]
  simp only [j0B]
  rw [j03 (by omega),j4c (by omega) (by omega),j06 (x:=(i:Int)+1) (by omega) (by omega)]
  simp only [j5,j7,hgd]
  rw [show j2p (zs,(ps,(cs,ss))) (es[i].1,es[i].2.1,es[i].2.2.1,es[i].2.2.2.1,es[i].2.2.2.2)=_ from h2]
  simp only [j3,bne_self_eq_false,j6,j0O]
  exact jvV hc hl n (i+1) (by omega)
structure SCk (nz np nc:Nat) (s:j5e):Prop where
 nm:NmL (s.2.1.map (·.1))
 ly:∀ x∈s.2.1,LCk nz np nc x
 ll:s.2.1.length≤6
 ed:∀ x∈s.2.2,ECk np x
 el:s.2.2.length≤48
theorem jwu {c:CfgT} {s:j5e} (h:SCk c.1.length c.2.1.length c.2.2.1.length s):j1p c s=some 0:=by
 have hll:=h.ll;have hel:=h.el
 have lp:=jvV (zs:=c.1) (ps:=c.2.1) (cs:=c.2.2.1) (ss:=c.2.2.2) h.ed hel s.2.2.length 0 (by omega)
 rw [show ((0:Nat):Int)=0 from rfl] at lp
 simp only [j1p,show Int.ofNat s.2.1.length=(s.2.1.length:Int) from rfl,show Int.ofNat s.2.2.length=(s.2.2.length:Int) from rfl]
 rw [j01 (show ¬ (s.2.1.length:Int)>6 by omega),j01 (show ¬ (s.2.2.length:Int)>48 by omega)]
 simp only [j6,jws (zs:=c.1) (ps:=c.2.1) (cs:=c.2.2.1) (ss:=c.2.2.2) h.nm h.ly (by omega),j3,bne_self_eq_false,lp,jdT]
theorem jvW {zs:List j40} {ps:List j2D} {cs:List CalT} {ss:List j5e} (hn:NmL (ss.map (·.1))) (hc:∀ x∈ss,SCk zs.length ps.length cs.length x) (hl:ss.length≤100):∀ (n i:Nat),i+n=ss.length→j0L zs ps cs ss ss (ss.length:Int) (i:Int) (jdx ((ss.take i).map (·.1)))=some (.inr ())
 | 0,i,hi=>by
  rw [j4V]
  simp only [j0r]
  rw [j01 (by omega),j6,j0M]
 | n+1,i,hi=>by
  have hlt:i<ss.length:=by omega
  have hgd:ss.getD i (ByteArray.empty,(([]:List jaT),([]:List jtb)))=ss[i]:=by simp [hlt]
  have h1:=jle (·.1) hn hlt
  have h2:=jwu (c:=(zs,(ps,(cs,ss)))) (hc ss[i] (List.getElem_mem hlt))
  rw [j4V]
  simp only [j0r,jae,j4l]
  rw [j03 (by omega),j4c (by omega) (by omega),j06 (x:=(i:Int)+1) (by omega) (by omega)]
  simp only [j5,j7,hgd,j3,h1,bne_self_eq_false,j6]
  rw [show j1p (zs,(ps,(cs,ss))) (ss[i].1,(ss[i].2.1,ss[i].2.2))=_ from h2]
  simp only [j3,bne_self_eq_false,j6,j0O]
  exact jvW hn hc hl n (i+1) (by omega)
structure jq5 (c:CfgT):Prop where
 zn:NmL (c.1.map (·.1))
 zc:∀ z∈c.1,ZCk z
 zl:c.1.length≤16
 pn:NmL (c.2.1.map (·.1))
 pc:∀ p∈c.2.1,PCk c.1.length p
 pl:c.2.1.length≤32
 cn:NmL (c.2.2.1.map (·.1))
 cc:∀ x∈c.2.2.1,CCk c.1.length x
 cl:c.2.2.1.length≤8
 sn:NmL (c.2.2.2.map (·.1))
 sc:∀ x∈c.2.2.2,SCk c.1.length c.2.1.length c.2.2.1.length x
 sl:c.2.2.2.length≤12
theorem jq6 {c:CfgT} (h:jq5 c):j4p c=some 0:=by
 have hzl:=h.zl;have hpl:=h.pl;have hcl:=h.cl;have hsl:=h.sl
 have lp:=jvP (zs:=c.1) (cs:=c.2.2.1) (ss:=c.2.2.2) h.pn h.pc (by omega) c.2.1.length 0 (by omega)
 have ls:=jvW (zs:=c.1) (ps:=c.2.1) (cs:=c.2.2.1) h.sn h.sc (by omega) c.2.2.2.length 0 (by omega)
 simp only [j4p,show Int.ofNat c.1.length=(c.1.length:Int) from rfl,show Int.ofNat c.2.1.length=(c.2.1.length:Int) from rfl,show Int.ofNat c.2.2.1.length=(c.2.2.1.length:Int) from rfl,show Int.ofNat c.2.2.2.length=(c.2.2.2.length:Int) from rfl]
 rw [j01 (show ¬ (c.1.length:Int)>16 by omega),j01 (show ¬ (c.2.1.length:Int)>32 by omega),j01 (show ¬ (c.2.2.1.length:Int)>8 by omega),j01 (show ¬ (c.2.2.2.length:Int)>12 by omega)]
 simp only [j6,jwn h.zn h.zc (by omega),j3,bne_self_eq_false]
 rw [show j3w c.2.1 (c.2.1.length:Int) 0 c.1 c.2.1 c.2.2.1 c.2.2.2 []=_ from lp]
 simp only [j3,jdT,jwq (zs:=c.1) (ps:=c.2.1) (cs:=c.2.2.1) (ss:=c.2.2.2) h.cn h.cc (by omega),bne_self_eq_false,j6,j1t,show Int.ofNat c.2.2.2.length=(c.2.2.2.length:Int) from rfl]
 rw [show j0L c.1 c.2.1 c.2.2.1 c.2.2.2 c.2.2.2 (c.2.2.2.length:Int) 0 []=_ from ls]
 rfl
def nmsL:List ByteArray:=[(ByteArray.mk #[97,100,97]),(ByteArray.mk #[98,111,98]),(ByteArray.mk #[99,108,101,111]),(ByteArray.mk #[100,97,110]),(ByteArray.mk #[101,118,101]),(ByteArray.mk #[102,97,121]),(ByteArray.mk #[103,117,115]),(ByteArray.mk #[104,97,108])]
def nmsZ:List ByteArray:=[(ByteArray.mk #[104,101,114,101]),(ByteArray.mk #[116,104,101,114,101])]
theorem jqQ:jg1=some nmsL:=rfl
theorem jtc:NmL nmsL:=by
 refine ⟨by decide,fun k hk=> ?_⟩
 simp only [nmsL,List.mem_cons,List.not_mem_nil,or_false] at hk
 rcases hk with rfl | rfl | rfl | rfl | rfl | rfl | rfl | rfl<;>exact j8B 60 _ true (by kernel_rfl)
theorem jvb:NmL nmsZ:=by
 refine ⟨by decide,fun k hk=> ?_⟩
 simp only [nmsZ,List.mem_cons,List.not_mem_nil,or_false] at hk
 rcases hk with rfl | rfl<;>exact j8B 60 _ true (by kernel_rfl)
theorem NmL.take {l:List ByteArray} (h:NmL l) (n:Nat):NmL (l.take n):=⟨h.1.sublist (List.take_sublist n l),fun k hk=>h.2 k (List.mem_of_mem_take hk)⟩
theorem NmL.one {s:ByteArray} (h:j7W s=some true):NmL [s]:=⟨by simp,fun k hk=>by simp at hk;subst hk;exact h⟩
theorem NmL.nil:NmL []:=⟨List.nodup_nil,by simp⟩
theorem jvc:j7W (ByteArray.mk #[100,97,121,115])=some true:=j8B 60 _ true (by kernel_rfl)
theorem jvd:∀ k∈nmsL,(ByteArray.toList k==ByteArray.toList (ByteArray.mk #[110,111,98,111,100,121]))=false:=by
 intro k hk
 simp only [nmsL,List.mem_cons,List.not_mem_nil,or_false] at hk
 rcases hk with rfl | rfl | rfl | rfl | rfl | rfl | rfl | rfl<;>kernel_rfl
theorem ju5:((List.range 61).all fun i=>jnJ 60 (20440+(i:Int))==some true)=true:=by kernel_rfl
theorem jtd {d:Int} (h1:20440≤d) (h2:d≤20500):j22 d=some true:=by
 have h:=List.all_eq_true.1 ju5 (d-20440).toNat (List.mem_range.2 (by omega))
 rw [show (20440:Int)+(((d-20440).toNat:Nat):Int)=d by omega] at h
 exact j9B 60 d true (eq_of_beq h)
theorem t60 {x:Int} (h:x%60=0):Int.tmod x 60=0:=by
 have:=jfD x 60
 rw [h] at this
 simpa using this
theorem all2 {P:Rule→Prop} {r s:Rule} (h1:P r) (h2:P s):∀ x∈[r,s],P x:=by
 intro x hx
 simp at hx
 rcases hx with rfl | rfl
 ·exact h1
 ·exact h2
theorem jve {L:List Int} {a:Int} (h:DOk L a) (nm:ByteArray):∃ o rs a',j3U L a nm=some ((nm,(o,rs)),L,a')∧Int.tmod o 60=0∧∀ r∈rs,Int.tmod r.2.2.2.2.2.2 60=0:=by
 obtain ⟨p,a1,e1,m1,d1⟩:=j7S h (xs:=[(0:Int),(4:Int),(-20:Int),(22:Int),(48:Int),(-47:Int)]) (by simp) (by simp)
 obtain ⟨x2,a2,e2,x20,x21,d2⟩:=j0E (n:=2) d1 (by omega) (by omega)
 obtain ⟨x3,a3,e3,x30,x31,d3⟩:=j0E (n:=3) d2 (by omega) (by omega)
 obtain ⟨y,a4,e4,y0,y1,d4⟩:=j0E (n:=2) d3 (by omega) (by omega)
 obtain ⟨q,a5,e5,q0,q1,d5⟩:=j0E (n:=4) d4 (by omega) (by omega)
 have hp : -47≤p∧p≤48:=by simp at m1;omega
 have hmul:0≤x2*x3∧x2*x3≤2:=by
  obtain rfl | rfl:x2=0∨x2=1:=by omega
  all_goals omega
 have ho0 : -43200≤900*(p+x2*x3):=by omega
 have ho1:900*(p+x2*x3)≤45000:=by omega
 have ho2:(900*(p+x2*x3))%60=0:=by omega
 simp only [j3U,e1,e2,e3,e4,e5,j3]
 rw [j06 (x:=x2*x3) (by omega) (by omega),j06 (x:=p+x2*x3) (by omega) (by omega),j06 (x:=900*(p+x2*x3)) (by omega) (by omega),j06 (x:=2025+y) (by omega) (by omega)]
 generalize 900*(p+x2*x3)=o at *
 generalize 2025+y=last at *
 by_cases hq1:q=1
 ·rw [jj4 hq1,j5,j06 (x:=o+3600) (by omega) (by omega)]
  exact ⟨_,_,_,rfl,t60 ho2,all2 (P:=fun r=>Int.tmod r.2.2.2.2.2.2 60=0) (t60 (show (o+3600)%60=0 by omega)) (t60 ho2)⟩
 ·rw [jdw hq1,j6]
  by_cases hq2:q=2
  ·rw [jj4 hq2,j5]
   obtain ⟨b1,c1,f1,b10,b11,g1⟩:=j0E (n:=4) d5 (by omega) (by omega)
   obtain ⟨b2,c2,f2,b20,b21,g2⟩:=j0E (n:=7) g1 (by omega) (by omega)
   obtain ⟨b3,c3,f3,b30,b31,g3⟩:=j0E (n:=24) g2 (by omega) (by omega)
   obtain ⟨b4,c4,f4,b40,b41,g4⟩:=j0E (n:=8) g3 (by omega) (by omega)
   obtain ⟨b5,c5,f5,b50,b51,g5⟩:=j0E (n:=2) g4 (by omega) (by omega)
   obtain ⟨b6,c6,f6,m6,g6⟩:=j7S g5 (xs:=[(2:Int),(3:Int),(5:Int)]) (by simp) (by simp)
   obtain ⟨b7,c7,f7,b70,b71,g7⟩:=j0E (n:=7) g6 (by omega) (by omega)
   obtain ⟨b8,c8,f8,b80,b81,g8⟩:=j0E (n:=24) g7 (by omega) (by omega)
   simp only [f1,f2,f3,f4,f5,f6,f7,f8,j3]
   rw [j06 (x:=1+b4) (by omega) (by omega),j06 (x:=1800*(1+b4)) (by omega) (by omega),j06 (x:=o+1800*(1+b4)) (by omega) (by omega)]
   exact ⟨_,_,_,rfl,t60 ho2,all2 (P:=fun r=>Int.tmod r.2.2.2.2.2.2 60=0) (t60 (show (o+1800*(1+b4))%60=0 by omega)) (t60 ho2)⟩
  ·rw [jdw hq2,j6]
   by_cases hq3:q=3
   ·rw [jj4 hq3,j5]
    obtain ⟨b1,c1,f1,m1,g1⟩:=j7S d5 (xs:=[(3600:Int),(-3600:Int),(82800:Int),(-82800:Int),(43200:Int)]) (by simp) (by simp)
    obtain ⟨b2,c2,f2,b20,b21,g2⟩:=j0E (n:=7) g1 (by omega) (by omega)
    obtain ⟨b3,c3,f3,b30,b31,g3⟩:=j0E (n:=48) g2 (by omega) (by omega)
    have hb1 : -82800≤b1∧b1≤82800∧b1%60=0:=by simp at m1;omega
    simp only [f1,f2,f3,j3]
    rw [j06 (x:=o+b1) (by omega) (by omega)]
    cases cond (decide (o+b1>64800)) true (decide (o+b1 < -64800)) with
    | true=>exact ⟨_,_,_,rfl,t60 ho2,fun r hr=>by simp at hr;subst hr;rfl⟩
    | false=>exact ⟨_,_,_,rfl,t60 ho2,fun r hr=>by simp at hr;subst hr;exact t60 (by dsimp only;omega)⟩
   ·rw [jdw hq3,j6]
    exact ⟨_,_,_,rfl,t60 ho2,by simp⟩
theorem ju6 {L:List Int} {a:Int} (h:DOk L a) (nm:ByteArray):∃ o rs a',j3U L a nm=some ((nm,(o,rs)),L,a')∧MZ o rs∧ZCk (nm,(o,rs))∧DOk L a':=by
 obtain ⟨o,rs,a1,e1,m1,d1⟩:=jva h nm
 obtain ⟨o',rs',a2,e2,m2,m3⟩:=jve h nm
 have:=e1.symm.trans e2
 simp only [j4,j8,true_and] at this
 obtain ⟨⟨rfl,rfl⟩,rfl⟩:=this
 have ht:=(m1.tab nm).1
 have hl:=m1.len
 exact ⟨o,rs,a1,e1,m1,⟨by simp only [j7X,show j1S (nm,(o,rs))=_ from ht,j3],m2,m3,by dsimp only;omega⟩,d1⟩
structure ZInv (zs:List j40):Prop where
 ok:∀ z∈zs,ZOk z
 ck:∀ z∈zs,ZCk z
 nm:zs.map (·.1)=nmsZ.take zs.length
theorem jnL {l:List ByteArray} {n:Nat} (hn:n<l.length):l.take n++[l.getD n ByteArray.empty]=l.take (n+1):=by
 rw [List.take_add_one,List.getElem?_eq_getElem hn]
 simp [hn]
theorem jut {L:List Int}:∀ (n:Nat) (a:Int) (zs:List j40),DOk L a→zs.length+n≤2→ZInv zs→
  ∃ zs' a',j60 (n:Int) L a zs=some (L,a',zs')∧zs'.length=zs.length+n∧ZInv zs'∧DOk L a'
 | 0,a,zs,hd,_,hz=>by
  rw [j9N]
  simp only [j2M]
  rw [j01 (by omega),j6,j0M]
  exact ⟨zs,a,rfl,rfl,hz,hd⟩
 | n+1,a,zs,hd,hl,hz=>by
  obtain ⟨o,rs,a1,e1,m1,k1,d1⟩:=ju6 hd (List.getD nmsZ zs.length ByteArray.empty)
  obtain ⟨zs',a',e2,h2,h3,h4⟩:=jut n a1 (zs++[(List.getD nmsZ zs.length ByteArray.empty,(o,rs))]) d1 (by simp;omega) ⟨fun z hz'=>by
   rcases List.mem_append.1 hz' with h | h
   ·exact hz.ok z h
   ·simp at h;subst h;exact m1,fun z hz'=>by
   rcases List.mem_append.1 hz' with h | h
   ·exact hz.ck z h
   ·simp at h;subst h;exact k1,by
   rw [List.map_append,hz.nm,List.length_append]
   exact jnL (by show zs.length<2;omega)⟩
  rw [j9N]
  simp only [j2M,show Int.ofNat (List.length zs)=(zs.length:Int) from rfl]
  rw [j03 (by omega),j4c (show (0:Int)≤(zs.length:Int) by omega) (by simp;omega)]
  simp only [j5,j7]
  rw [show j3U L a (List.getD [(ByteArray.mk #[104,101,114,101]),(ByteArray.mk #[116,104,101,114,101])] zs.length ByteArray.empty)=_ from e1]
  simp only [j3]
  rw [j03 (by simp [j0d];omega),j06 (x:=((n+1:Nat):Int)-1) (by omega) (by omega)]
  simp only [j5,j0O]
  rw [show ((n+1:Nat):Int)-1=(n:Int) by omega]
  exact ⟨zs',a',e2,by rw [h2];simp;omega,h3,h4⟩
structure PInv (nz:Nat) (ps:List j2D):Prop where
 ck:∀ p∈ps,PCk nz p
 nm:ps.map (·.1)=nmsL.take ps.length
theorem jqR {n:Int} (h0:0≤n) (h1:n≤168):j5q (w64 (3600*n))=some true:=by
 rw [j06 (by omega) (by omega)]
 simp only [j5q,jmz (show 0≤3600*n by omega) (show 3600*n≤604800 by omega),j3,j5]
 rw [jfD,jj4 (show (3600*n)%3600=0 by omega)]
theorem jte {L:List Int} {zs:List j40} (hz0:1≤zs.length) (hz1:zs.length≤100):∀ (n:Nat) (a:Int) (ps:List j2D),DOk L a→ps.length+n≤4→PInv zs.length ps→
  ∃ ps' a',j61 (n:Int) L a zs ps=some (L,a',zs,ps')∧ps'.length=ps.length+n∧PInv zs.length ps'∧DOk L a'
 | 0,a,ps,hd,_,hp=>by
  rw [j9O]
  simp only [j2N]
  rw [j01 (by omega),j6,j0M]
  exact ⟨ps,a,rfl,rfl,hp,hd⟩
 | n+1,a,ps,hd,hl,hp=>by
  obtain ⟨x,a1,e1,x0,x1,d1⟩:=j0E (n:=(zs.length:Int)) hd (by omega) (by omega)
  obtain ⟨b,a2,e2,d2⟩:=jjd (n:=3) d1 (by omega) (by omega)
  obtain ⟨c,a3,e3,d3⟩:=jjd (n:=2) d2 (by omega) (by omega)
  have hnm:ps.length<nmsL.length:=by show ps.length<8;omega
  have hmem:nmsL.getD ps.length ByteArray.empty∈nmsL:=by
   rw [List.getD_eq_getElem?_getD,List.getElem?_eq_getElem hnm]
   exact List.getElem_mem hnm
  have ext:∀ (w:WL) (p q:Int),WOk 0 w→w.length≤14→p∈[(0:Int),(40:Int),(100:Int),(12:Int)]→q∈[(0:Int),(11:Int),(24:Int),(1:Int)]→
    PInv zs.length (ps++[(nmsL.getD ps.length ByteArray.empty,(x,(w,(w64 (3600*p),(w64 (3600*q),b)))))]):=by
   intro w p q hw hwl hpm hqm
   have hp':0≤p∧p≤168:=by simp at hpm;omega
   have hq':0≤q∧q≤168:=by simp at hqm;omega
   refine ⟨fun r hr=> ?_,?_⟩
   ·rcases List.mem_append.1 hr with h | h
    ·exact hp.ck r h
    ·simp at h;subst h
     exact ⟨jvd _ hmem,x0,x1,hw,hwl,jqR hp'.1 hp'.2,jqR hq'.1 hq'.2⟩
   ·rw [List.map_append,hp.nm,List.length_append]
    exact jnL hnm
  rw [j9O]
  simp only [j2N,jqQ,j3,show Int.ofNat (List.length ps)=(ps.length:Int) from rfl,show Int.ofNat (List.length zs)=(zs.length:Int) from rfl]
  rw [j03 (by omega),j4c (show (0:Int)≤(ps.length:Int) by omega) (by omega)]
  simp only [j5,e1,e2,e3,j3]
  rw [j06 (x:=((n+1:Nat):Int)-1) (by omega) (by omega),show ((n+1:Nat):Int)-1=(n:Int) by omega]
  cases c with
  | true=>
   obtain ⟨w,a4,e4,hw,hwl,d4⟩:=jjc d3
   obtain ⟨p,a5,e5,hpm,d5⟩:=j7S d4 (xs:=[(0:Int),(40:Int),(100:Int),(12:Int)]) (by simp) (by simp)
   obtain ⟨q,a6,e6,hqm,d6⟩:=j7S d5 (xs:=[(0:Int),(11:Int),(24:Int),(1:Int)]) (by simp) (by simp)
   simp only [j5,e4,e5,e6,j3]
   rw [j03 (by simp [j0d];omega)]
   simp only [j5,j0O]
   obtain ⟨ps',a',e,h1,h2,h3⟩:=jte hz0 hz1 n a6 _ d6 (by simp;omega) (ext w p q hw (by omega) hpm hqm)
   exact ⟨ps',a',e,by rw [h1];simp;omega,h2,h3⟩
  | false=>
   obtain ⟨p,a5,e5,hpm,d5⟩:=j7S d3 (xs:=[(0:Int),(40:Int),(100:Int),(12:Int)]) (by simp) (by simp)
   obtain ⟨q,a6,e6,hqm,d6⟩:=j7S d5 (xs:=[(0:Int),(11:Int),(24:Int),(1:Int)]) (by simp) (by simp)
   simp only [j6,e5,e6,j3]
   rw [j03 (by simp [j0d];omega)]
   simp only [j5,j0O]
   obtain ⟨ps',a',e,h1,h2,h3⟩:=jte hz0 hz1 n a6 _ d6 (by simp;omega) (ext [] p q (show (0:Int)≤604800 by omega) (by simp) hpm hqm)
   exact ⟨ps',a',e,by rw [h1];simp;omega,h2,h3⟩
def DInv (q:Int) (ds:List Int):Prop:=ds.Pairwise (· < ·)∧∀ d∈ds,20454<d∧d≤q
theorem juu {L:List Int} {s:Int} {nm:ByteArray} {z:Int} {zs:List j40} {ps:List j2D} {cs:List CalT}:∀ (n:Nat) (a day:Int) (ds:List Int),DOk L a→ds.length+n≤4→20454≤day→day+6*n≤20480→DInv day ds→
  ∃ ds' a',j62 s (n:Int) day L a nm z zs ps cs ds=some (s,L,a',nm,z,zs,ps,cs,ds')∧ds'.length≤4∧DInv 20480 ds'∧DOk L a'
 | 0,a,day,ds,hd,hl,hy,hy2,hi=>by
  rw [j9P]
  simp only [j2O]
  rw [j01 (by omega),j6,j0M]
  exact ⟨ds,a,rfl,by omega,⟨hi.1,fun d hd=>by have:=hi.2 d hd;omega⟩,hd⟩
 | n+1,a,day,ds,hd,hl,hy,hy2,hi=>by
  obtain ⟨x,a1,e1,x0,x1,d1⟩:=j0E (n:=6) hd (by omega) (by omega)
  rw [j9P]
  simp only [j2O]
  rw [j03 (by omega),j06 (x:=((n+1:Nat):Int)-1) (by omega) (by omega),show ((n+1:Nat):Int)-1=(n:Int) by omega]
  simp only [j5,e1,j3]
  rw [j03 (by simp [j0d];omega),j06 (x:=1+x) (by omega) (by omega),j06 (x:=day+(1+x)) (by omega) (by omega)]
  simp only [j5,j0O]
  refine juu n a1 _ _ d1 (by simp;omega) (by omega) (by omega) ⟨List.pairwise_append.2 ⟨hi.1,by simp,fun u hu v hv=> ?_⟩,fun d hd=> ?_⟩
  ·simp at hv;subst hv
   have:=hi.2 u hu;omega
  ·rcases List.mem_append.1 hd with h | h
   ·have:=hi.2 d h;omega
   ·simp at h;omega
structure CInv (nz:Nat) (cs:List CalT):Prop where
 ck:∀ c∈cs,CCk nz c
 nm:NmL (cs.map (·.1))
 len:cs.length≤1
 dl:∀ c∈cs,c.2.2.length≤4
theorem jvX {nz:Nat} {nm:ByteArray} {x:Int} {ds:List Int} (x0:0≤x) (x1:x<nz) (hl:ds.length≤64) (hi:DInv 20480 ds):CCk nz (nm,(x,ds)):=
 ⟨x0,x1,hl,fun d hd=>jtd (by have:=hi.2 d hd;omega) (by have:=hi.2 d hd;omega),hi.1⟩
structure SOk2 (zs:List j40) (ps:List j2D) (cs:List CalT):Prop where
 so:SOk zs ps cs
 z:ZInv zs
 p:PInv zs.length ps
 c:CInv zs.length cs
theorem jtf {L:List Int} {a:Int} (h:DOk L a):∃ zs ps cs a',j8l L a=some ((zs,(ps,(cs,([]:List j5e)))),L,a')∧SOk2 zs ps cs∧DOk L a':=by
 obtain ⟨x,a1,e1,x0,x1,d1⟩:=j0E (n:=2) h (by omega) (by omega)
 obtain ⟨zs,a2,e2,l2,k2,d2⟩:=jut (1+x).toNat a1 [] d1 (by simp;omega) ⟨by simp,by simp,rfl⟩
 obtain ⟨y,a3,e3,y0,y1,d3⟩:=j0E (n:=4) d2 (by omega) (by omega)
 simp at l2
 obtain ⟨ps,a4,e4,l4,k4,d4⟩:=jte (zs:=zs) (by omega) (by omega) (1+y).toNat a3 [] d3 (by simp;omega) ⟨by simp,rfl⟩
 obtain ⟨q,a5,e5,q0,q1,d5⟩:=j0E (n:=2) d4 (by omega) (by omega)
 simp at l4
 have hcal:∃ cs a',j63 q L a5 zs ps []=some (L,a',zs,ps,cs)∧CInv zs.length cs∧DOk L a':=by
  by_cases hq:q=0
  ·subst hq
   rw [j6i]
   simp only [j1X]
   rw [j01 (by omega),j6,j0M]
   exact ⟨[],a5,rfl,⟨by simp,NmL.nil,by simp,by simp⟩,d5⟩
  ·have hq1:q=1:=by omega
   subst hq1
   obtain ⟨x,a6,e6,x0,x1,d6⟩:=j0E (n:=(zs.length:Int)) d5 (by omega) (by omega)
   obtain ⟨y,a7,e7,y0,y1,d7⟩:=j0E (n:=4) d6 (by omega) (by omega)
   obtain ⟨ds,a8,e8,l8,k8,d8⟩:=juu (s:=(1:Int)) (nm:=ByteArray.mk #[100,97,121,115]) (z:=x) (zs:=zs) (ps:=ps) (cs:=[]) y.toNat a7 20454 [] d7 (by simp;omega) (by omega) (by omega) ⟨by simp,by simp⟩
   rw [show ((y.toNat:Nat):Int)=y by omega] at e8
   rw [j6i]
   simp only [j1X,show Int.ofNat (List.length zs)=(zs.length:Int) from rfl]
   rw [j03 (by omega)]
   simp only [j5,e6,e7,e8,j3]
   rw [j03 (by simp [j0d]),j06 (x:=(1:Int)-1) (by omega) (by omega)]
   simp only [j5,j0O]
   rw [j6i]
   simp only [j1X]
   rw [j01 (by omega),j6,j0M]
   refine ⟨_,a8,rfl,⟨fun c hc=> ?_,NmL.one jvc,by simp,fun c hc=>by simp at hc;subst hc;exact l8⟩,d8⟩
   simp at hc;subst hc
   exact jvX x0 x1 (by omega) k8
 obtain ⟨cs,a6,e6,k6,d6⟩:=hcal
 rw [show (((1+x).toNat:Nat):Int)=1+x by omega] at e2
 rw [show (((1+y).toNat:Nat):Int)=1+y by omega] at e4
 simp only [j8l,e1,j3]
 rw [j06 (x:=1+x) (by omega) (by omega)]
 simp only [e2,e3,j3]
 rw [j06 (x:=1+y) (by omega) (by omega)]
 simp only [e4,e5,e6,j3]
 exact ⟨zs,ps,cs,a6,rfl,⟨⟨by omega,by omega,k2.ok,by omega,by omega,k6.len⟩,k2,k4,k6⟩,d6⟩
end Go.Proofs.Pw
