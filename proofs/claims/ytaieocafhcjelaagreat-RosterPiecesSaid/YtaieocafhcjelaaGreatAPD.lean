/- Chapter 8: configurations that are right. -/
import Derived.Test.YtaieocafhcjelaaGreatAPA
import Derived.Test.YtaieocafhcjelaaGreatAPC
import Derived.Test.YtaieocafhcjelaaGreatAPB
import Derived.KernelRfl
open Go Go.Lft
namespace Go.Proofs.Pw
abbrev j43:=Int×(Int×(Int×(Int×Int)))
abbrev CfgT:=List j1R×(List j1q×(List CalT×List j1y))
theorem jp2 {n lo hi:Int} (h1:lo≤n) (h2:n≤hi):j7J n lo hi=some true:=by
 simp only [j7J]
 rw [j01 (show n≥lo from h1),j01 h2];rfl
theorem jtO {i n:Int} (h1:0≤i) (h2:i<n):j2r i n=some true:=by
 simp only [j2r]
 rw [j01 (show i≥0 from h1),j01 h2];rfl
theorem jDe {i n:Int} (h1:i<0):j2r i n=some false:=by
 simp only [j2r]
 rw [j00 (show ¬ i≥0 by omega)];rfl
structure ZCk (z:j1R):Prop where
 ck:j8U z=some 0
 o60:Int.tmod z.2.1 60=0
 r60:∀ r∈z.2.2,Int.tmod r.2.2.2.2.2.2 60=0
 len:z.2.2.length≤1000
theorem jC8 {rs:List Rule} (h:∀ r∈rs,Int.tmod r.2.2.2.2.2.2 60=0) (hl:rs.length≤1000):∀ (n i:Nat),i+n=rs.length→j0m rs (rs.length:Int) (i:Int)=some (.inr ())
 | 0,i,hi=>by
  rw [j2E]
  simp only [j0r]
  rw [j00 (by omega),j6,j08]
 | n+1,i,hi=>by
  have hlt:i<rs.length:=by omega
  have hgd:rs.getD i ((0:Int),((0:Int),((0:Int),((0:Int),((0:Int),((0:Int),(0:Int)))))))=rs[i]:=by simp [hlt]
  have:=h rs[i] (jg hlt)
  rw [j2E]
  simp only [j0r,j7Y]
  rw [j01 (by omega),j0s (by omega) (by omega),j02 (x:=(i:Int)+1) (by omega) (by omega)]
  simp only [j5,j7,hgd,j3,this,jd,j6,j05]
  exact jC8 h hl n (i+1) (by omega)
theorem jDf {z:j1R} (h:ZCk z):j2W z=some 0:=by
 have lp:=jC8 h.r60 h.len z.2.2.length 0 (by omega)
 rw [show ((0:Nat):Int)=0 from rfl] at lp
 simp only [j2W,show j8U (z.1,(z.2.1,z.2.2))=_ from h.ck,j3,h.o60,jd,j6,j0n,j0v,show Int.ofNat z.2.2.length=(z.2.2.length:Int) from rfl,lp,j4S]
 rfl
theorem jC9 {zs:List j1R} (hn:NmL (zs.map (·.1))) (hc:∀ z∈zs,ZCk z) (hl:zs.length≤100):∀ (n i:Nat),i+n=zs.length→j1s zs (zs.length:Int) (i:Int) (jeG ((zs.take i).map (·.1)))=some (.inr ())
 | 0,i,hi=>by
  rw [j71]
  simp only [j0G]
  rw [j00 (by omega),j6,j08]
 | n+1,i,hi=>by
  have hlt:i<zs.length:=by omega
  have hgd:zs.getD i (ByteArray.empty,((0:Int),([]:List Rule)))=zs[i]:=by simp [hlt]
  have h1:=jnu (·.1) hn hlt
  have h2:=jDf (hc zs[i] (jg hlt))
  rw [j71]
  simp only [j0G,jbg]
  rw [j01 (by omega),j0s (by omega) (by omega),j02 (x:=(i:Int)+1) (by omega) (by omega)]
  simp only [j5,j7,hgd,j3,h1,jd,j6]
  rw [show j2W (zs[i].1,(zs[i].2.1,zs[i].2.2))=_ from h2]
  simp only [j3,jd,j6,j05]
  exact jC9 hn hc hl n (i+1) (by omega)
theorem jDg {zs:List j1R} (hn:NmL (zs.map (·.1))) (hc:∀ z∈zs,ZCk z) (hl:zs.length≤100):j27 zs=some 0:=by
 have lp:=jC9 hn hc hl zs.length 0 (by omega)
 simp only [j27,show Int.ofNat zs.length=(zs.length:Int) from rfl]
 rw [show j1s zs (zs.length:Int) 0 []=_ from lp]
 rfl
structure PCk (nz:Nat) (p:j1q):Prop where
 nb:(ByteArray.toList p.1==ByteArray.toList (ByteArray.mk #[110,111,98,111,100,121]))=false
 z0:0≤p.2.1
 z1:p.2.1<nz
 w:WOk 0 p.2.2.1
 wl:p.2.2.1.length≤14
 m:j58 p.2.2.2.1=some true
 r:j58 p.2.2.2.2.1=some true
theorem jDh {c:CfgT} {p:j1q} (h:PCk c.1.length p):j1T c p=some 0:=by
 have hz0:=h.z0;have hz1:=h.z1
 simp only [j1T,show Int.ofNat c.1.length=(c.1.length:Int) from rfl,jtO hz0 hz1,j3,jj,j6,juN h.w h.wl,jd,h.m,h.r]
theorem jCa {zs:List j1R} {ps:List j1q} {cs:List CalT} {ss:List j1y} (hn:NmL (ps.map (·.1))) (hc:∀ p∈ps,PCk zs.length p) (hl:ps.length≤100):∀ (n i:Nat),i+n=ps.length→j4b ps (ps.length:Int) (i:Int) zs ps cs ss (jeG ((ps.take i).map (·.1)))=some (.inr (zs,ps,cs,ss))
 | 0,i,hi=>by
  rw [jck]
  simp only [j1M]
  rw [j00 (by omega),j6,j08]
 | n+1,i,hi=>by
  have hlt:i<ps.length:=by omega
  have hgd:ps.getD i (ByteArray.empty,((0:Int),(([]:List (Int×Int)),((0:Int),((0:Int),false)))))=ps[i]:=by simp [hlt]
  have h1:=jnu (·.1) hn hlt
  have hp:=hc ps[i] (jg hlt)
  have h2:=jDh (c:=(zs,(ps,(cs,ss)))) hp
  rw [jck]
  simp only [j1M]
  rw [j01 (by omega),j0s (by omega) (by omega),j02 (x:=(i:Int)+1) (by omega) (by omega)]
  simp only [j5,j7,hgd,j3,h1,hp.nb,qe,j6]
  rw [show j1T (zs,(ps,(cs,ss))) (ps[i].1,(ps[i].2.1,(ps[i].2.2.1,(ps[i].2.2.2.1,(ps[i].2.2.2.2.1,ps[i].2.2.2.2.2)))))=_ from h2]
  simp only [j3,jd,j6,j05]
  exact jCa hn hc hl n (i+1) (by omega)
structure CCk (nz:Nat) (c:CalT):Prop where
 z0:0≤c.2.1
 z1:c.2.1<nz
 len:c.2.2.length≤64
 day:∀ d∈c.2.2,j0W d=some true
 asc:c.2.2.Pairwise (· < ·)
theorem jCb {ds:List Int} (h:∀ d∈ds,j0W d=some true) (hl:ds.length≤64):∀ (n i:Nat),i+n=ds.length→j1C ds (ds.length:Int) (i:Int)=some (.inr ())
 | 0,i,hi=>by
  rw [j6a]
  simp only [j0z]
  rw [j00 (by omega),j6,j08]
 | n+1,i,hi=>by
  have hlt:i<ds.length:=by omega
  have hgd:ds.getD i (0:Int)=ds[i]:=by simp [hlt]
  have:=h ds[i] (jg hlt)
  rw [j6a]
  simp only [j0z,j2d]
  rw [j01 (by omega),j0s (by omega) (by omega),j02 (x:=(i:Int)+1) (by omega) (by omega)]
  simp only [j5,j7,hgd,this,j3,jj,j6,j05]
  exact jCb h hl n (i+1) (by omega)
theorem jCc {nm:ByteArray} {z:Int} {ds:List Int} (h:ds.Pairwise (· < ·)) (hl:ds.length≤64):∀ (n i:Nat),i+n=ds.length→j2f (ds.length:Int) (i:Int) nm z ds=some (.inr ())
 | 0,i,hi=>by
  rw [j7j]
  simp only [j1Y]
  rw [j00 (by omega),j6,j08]
 | n+1,i,hi=>by
  have hlt:i<ds.length:=by omega
  have hgd:ds.getD i (0:Int)=ds[i]:=by simp [hlt]
  have ih:=jCc (nm:=nm) (z:=z) h hl n (i+1) (by omega)
  rw [j7j]
  simp only [j1Y]
  rw [j01 (by omega),j0s (i:=(i:Int)) (by omega) (by omega),j02 (x:=(i:Int)+1) (by omega) (by omega)]
  simp only [j5,j7,hgd]
  by_cases h0:i=0
  ·subst h0
   rw [j00 (by omega),j6,j05]
   exact ih
  ·have hj:i-1<ds.length:=by omega
   have hgj:ds.getD (i-1) (0:Int)=ds[i-1]:=by simp [hj]
   have hp:ds[i-1]<ds[i]:=kq.1 h (i-1) i hj hlt (by omega)
   rw [j01 (show (i:Int)>0 by omega),j02 (x:=(i:Int)-1) (by omega) (by omega),j0s (i:=(i:Int)-1) (by omega) (by omega),show ((i:Int)-1).toNat=i-1 by omega,hgj,j00 (show ¬ ds[i]≤ds[i-1] by omega)]
   simp only [j5,j6,j05]
   exact ih
theorem jDi {c:CfgT} {x:CalT} (h:CCk c.1.length x):j1K c x=some 0:=by
 have hz0:=h.z0;have hz1:=h.z1;have hl:=h.len
 have l1:=jCb h.day hl x.2.2.length 0 (by omega)
 have l2:=jCc (nm:=x.1) (z:=x.2.1) h.asc hl x.2.2.length 0 (by omega)
 rw [show ((0:Nat):Int)=0 from rfl] at l1 l2
 simp only [j1K,show Int.ofNat c.1.length=(c.1.length:Int) from rfl,show Int.ofNat x.2.2.length=(x.2.2.length:Int) from rfl,jtO hz0 hz1,j3,jj,j6,j1D,j2e,l1,l2,j4S]
 rw [j00 (by omega)]
 rfl
theorem jCd {zs:List j1R} {ps:List j1q} {cs:List CalT} {ss:List j1y} (hn:NmL (cs.map (·.1))) (hc:∀ x∈cs,CCk zs.length x) (hl:cs.length≤100):∀ (n i:Nat),i+n=cs.length→j0X zs ps cs ss cs (cs.length:Int) (i:Int) (jeG ((cs.take i).map (·.1)))=some (.inr ())
 | 0,i,hi=>by
  rw [j5I]
  simp only [j0t]
  rw [j00 (by omega),j6,j08]
 | n+1,i,hi=>by
  have hlt:i<cs.length:=by omega
  have hgd:cs.getD i (ByteArray.empty,((0:Int),([]:List Int)))=cs[i]:=by simp [hlt]
  have h1:=jnu (·.1) hn hlt
  have h2:=jDi (c:=(zs,(ps,(cs,ss)))) (hc cs[i] (jg hlt))
  rw [j5I]
  simp only [j0t,jbi,j52]
  rw [j01 (by omega),j0s (by omega) (by omega),j02 (x:=(i:Int)+1) (by omega) (by omega)]
  simp only [j5,j7,hgd,j3,h1,jd,j6]
  rw [show j1K (zs,(ps,(cs,ss))) (cs[i].1,(cs[i].2.1,cs[i].2.2))=_ from h2]
  simp only [j3,jd,j6,j05]
  exact jCd hn hc hl n (i+1) (by omega)
theorem jDj {zs:List j1R} {ps:List j1q} {cs:List CalT} {ss:List j1y} (hn:NmL (cs.map (·.1))) (hc:∀ x∈cs,CCk zs.length x) (hl:cs.length≤100):j1f cs zs ps cs ss=some 0:=by
 have lp:=jCd (ps:=ps) (ss:=ss) hn hc hl cs.length 0 (by omega)
 simp only [j1f,show Int.ofNat cs.length=(cs.length:Int) from rfl]
 rw [show j0X zs ps cs ss cs (cs.length:Int) 0 []=_ from lp]
 rfl
structure LCk (nz np nc:Nat) (l:j0w):Prop where
 z0:0≤l.2.1
 z1:l.2.1<nz
 d0:1≤l.2.2.1.1
 day:j0W l.2.2.1.1=some true
 c0:0≤l.2.2.1.2
 c1:l.2.2.1.2≤86399
 u0:0≤l.2.2.2.1
 u1:l.2.2.2.1≤2
 e0:1≤l.2.2.2.2.1
 e1:l.2.2.2.2.1≤400
 m0:l.2.2.2.2.2.1.length≠0
 m1:l.2.2.2.2.2.1.length≤12
 mem:∀ m∈l.2.2.2.2.2.1,0≤m∧m<(np:Int)
 w:WOk 0 l.2.2.2.2.2.2.1
 wl:l.2.2.2.2.2.2.1.length≤14
 mode0:0≤l.2.2.2.2.2.2.2.2
 mode1:l.2.2.2.2.2.2.2.2≤2
 cal:l.2.2.2.2.2.2.2.2≠0→0≤l.2.2.2.2.2.2.2.1∧l.2.2.2.2.2.2.2.1<(nc:Int)
 cal0:l.2.2.2.2.2.2.2.2=0→l.2.2.2.2.2.2.2.1=0
theorem jCe {zs:List j1R} {ps:List j1q} {cs:List CalT} {ss:List j1y} {ms:List Int} (h:∀ m∈ms,0≤m∧m<(ps.length:Int)) (hl:ms.length≤12):∀ (n i:Nat),i+n=ms.length→j17 ms zs ps cs ss (ms.length:Int) (i:Int)=some (.inr ())
 | 0,i,hi=>by
  rw [j5a]
  simp only [j12]
  rw [j00 (by omega),j6,j08]
 | n+1,i,hi=>by
  have hlt:i<ms.length:=by omega
  have hgd:ms.getD i (0:Int)=ms[i]:=by simp [hlt]
  have hm:=h ms[i] (jg hlt)
  rw [j5a]
  simp only [j12,j7k,show Int.ofNat ps.length=(ps.length:Int) from rfl]
  rw [j01 (by omega),j0s (by omega) (by omega),j02 (x:=(i:Int)+1) (by omega) (by omega)]
  simp only [j5,j7,hgd,jtO hm.1 hm.2,j3,jj,j6,j05]
  exact jCe h hl n (i+1) (by omega)
theorem jDk {c:CfgT} {l:j0w} (h:LCk c.1.length c.2.1.length c.2.2.1.length l):j2F c l=some 0:=by
 have hz0:=h.z0;have hz1:=h.z1;have hd0:=h.d0;have hm0:=h.m0;have hm1:=h.m1
 have l1:=jCe (zs:=c.1) (cs:=c.2.2.1) (ss:=c.2.2.2) h.mem hm1 l.2.2.2.2.2.1.length 0 (by omega)
 rw [show ((0:Nat):Int)=0 from rfl] at l1
 simp only [j2F,show Int.ofNat c.1.length=(c.1.length:Int) from rfl,show Int.ofNat l.2.2.2.2.2.1.length=(l.2.2.2.2.2.1.length:Int) from rfl,show Int.ofNat c.2.2.1.length=(c.2.2.1.length:Int) from rfl,jtO hz0 hz1,j3,jj,j6,h.day,jp2 h.c0 h.c1,jp2 h.u0 h.u1,jp2 h.e0 h.e1,jp2 h.mode0 h.mode1,
  j18,j1E,l1,j4S,juN h.w h.wl,jd]
 rw [j00 (show ¬ l.2.2.1.1<1 by omega),j2c (show ¬ (l.2.2.2.2.2.1.length:Int)=0 by omega),j00 (show ¬ (l.2.2.2.2.2.1.length:Int)>12 by omega),j00 (show ¬ (-1:Int)≥0 by omega)]
 simp only [j6]
 by_cases hmd:l.2.2.2.2.2.2.2.2=0
 ·rw [hmd,h.cal0 hmd];rfl
 ·have hc:=h.cal hmd
  rw [show (l.2.2.2.2.2.2.2.2 != 0)=true by simp [hmd],j2c hmd,j5,jtO hc.1 hc.2]
  rfl
theorem jCf {zs:List j1R} {ps:List j1q} {cs:List CalT} {ss:List j1y} {ls:List j0w} (hn:NmL (ls.map (·.1))) (hc:∀ x∈ls,LCk zs.length ps.length cs.length x) (hl:ls.length≤100):∀ (n i:Nat),i+n=ls.length→j1g zs ps cs ss ls (ls.length:Int) (i:Int) (jeG ((ls.take i).map (·.1)))=some (.inr ())
 | 0,i,hi=>by
  rw [j6y]
  simp only [j0E]
  rw [j00 (by omega),j6,j08]
 | n+1,i,hi=>by
  have hlt:i<ls.length:=by omega
  have hgd:ls.getD i (ByteArray.empty,((0:Int),(((0:Int),(0:Int)),((0:Int),((0:Int),(([]:(List Int)),(([]:(List (Int×Int))),((0:Int),(0:Int)))))))))=ls[i]:=by simp [hlt]
  have h1:=jnu (·.1) hn hlt
  have h2:=jDk (c:=(zs,(ps,(cs,ss)))) (hc ls[i] (jg hlt))
  rw [j6y]
  simp only [j0E,j5S,j2g]
  rw [j01 (by omega),j0s (by omega) (by omega),j02 (x:=(i:Int)+1) (by omega) (by omega)]
  simp only [j5,j7,hgd,j3,h1,jd,j6]
  rw [show j2F (zs,(ps,(cs,ss))) (ls[i].1,ls[i].2.1,(ls[i].2.2.1.1,ls[i].2.2.1.2),ls[i].2.2.2.1,ls[i].2.2.2.2.1,ls[i].2.2.2.2.2.1,ls[i].2.2.2.2.2.2.1,ls[i].2.2.2.2.2.2.2.1,ls[i].2.2.2.2.2.2.2.2)=_ from h2]
  simp only [j3,jd,j6,j05]
  exact jCf hn hc hl n (i+1) (by omega)
theorem jDl {zs:List j1R} {ps:List j1q} {cs:List CalT} {ss:List j1y} {ls:List j0w} (hn:NmL (ls.map (·.1))) (hc:∀ x∈ls,LCk zs.length ps.length cs.length x) (hl:ls.length≤100):j1U ls zs ps cs ss=some 0:=by
 have lp:=jCf (ss:=ss) hn hc hl ls.length 0 (by omega)
 simp only [j1U,show Int.ofNat ls.length=(ls.length:Int) from rfl]
 rw [show j1g zs ps cs ss ls (ls.length:Int) 0 []=_ from lp]
 rfl
structure ECk (np:Nat) (x:j43):Prop where
 k0:0≤x.1
 k1:x.1≤2
 a:0≤x.2.1∧x.2.1<(np:Int)∨x.1=1∧x.2.1 = -1
 b:x.1=2→0≤x.2.2.1∧x.2.2.1<(np:Int)∧x.2.1≠x.2.2.1
 b0:x.1≠2→x.2.2.1=0
 f0:0≤x.2.2.2.1
 ft:x.2.2.2.1<x.2.2.2.2
 t1:x.2.2.2.2≤1000000000000
 day:j0W (Int.tdiv x.2.2.2.2 86400)=some true
theorem jDm {c:CfgT} {x:j43} (h:ECk c.2.1.length x):j2X c x=some 0:=by
 have hf0:=h.f0;have hft:=h.ft;have ht1:=h.t1;have hday:=h.day
 have hdv:w64 (Int.tdiv x.2.2.2.2 86400)=Int.tdiv x.2.2.2.2 86400:=by
  rw [jfE (by omega)]
  exact j02 (by omega) (by omega)
 simp only [j2X,show Int.ofNat c.2.1.length=(c.2.1.length:Int) from rfl,jp2 h.k0 h.k1,j3,jj,j6,hdv,hday]
 rw [j00 (show ¬ x.2.2.2.1<0 by omega),j00 (show ¬ x.2.2.2.2<0 by omega),j00 (show ¬ x.2.2.2.1≥x.2.2.2.2 by omega)]
 simp only [j6]
 have hA:∃ b,j2r x.2.1 (c.2.1.length:Int)=some b∧cond (!b) (!(cond (x.1==(1:Int)) (x.2.1==(-1:Int)) false)) false=false:=by
  rcases h.a with ⟨a1,a2⟩ | ⟨a1,a2⟩
  ·exact ⟨true,jtO a1 a2,rfl⟩
  ·exact ⟨false,jDe (by omega),by rw [a1,a2];rfl⟩
 obtain ⟨b,e1,e2⟩:=hA
 rw [e1]
 simp only [j3,e2,j6]
 by_cases h2:x.1=2
 ·obtain ⟨b1,b2,b3⟩:=h.b h2
  rw [j4Q h2,j5,jtO b1 b2,show (x.1 != 2)=false by rw [h2];rfl,j2c b3]
  rfl
 ·rw [j2c h2,j6,show (x.1 != 2)=true by simp [h2],h.b0 h2]
  rfl
theorem jCg {zs:List j1R} {ps:List j1q} {cs:List CalT} {ss:List j1y} {es:List j43} (hc:∀ x∈es,ECk ps.length x) (hl:es.length≤48):∀ (n i:Nat),i+n=es.length→j2h es (es.length:Int) (i:Int) zs ps cs ss=some (.inr ())
 | 0,i,hi=>by
  rw [j7l]
  simp only [j0L]
  rw [j00 (by omega),j6,j08]
 | n+1,i,hi=>by
  have hlt:i<es.length:=by omega
  have hgd:es.getD i ((0:Int),((0:Int),((0:Int),((0:Int),(0:Int)))))=es[i]:=by simp [hlt]
  have h2:=jDm (c:=(zs,(ps,(cs,ss)))) (hc es[i] (jg hlt))
  rw [j7l]
  simp only [j0L]
  rw [j01 (by omega),j0s (by omega) (by omega),j02 (x:=(i:Int)+1) (by omega) (by omega)]
  simp only [j5,j7,hgd]
  rw [show j2X (zs,(ps,(cs,ss))) (es[i].1,es[i].2.1,es[i].2.2.1,es[i].2.2.2.1,es[i].2.2.2.2)=_ from h2]
  simp only [j3,jd,j6,j05]
  exact jCg hc hl n (i+1) (by omega)
structure SCk (nz np nc:Nat) (s:j1y):Prop where
 nm:NmL (s.2.1.map (·.1))
 ly:∀ x∈s.2.1,LCk nz np nc x
 ll:s.2.1.length≤6
 ed:∀ x∈s.2.2,ECk np x
 el:s.2.2.length≤48
theorem jDn {c:CfgT} {s:j1y} (h:SCk c.1.length c.2.1.length c.2.2.1.length s):j1L c s=some 0:=by
 have hll:=h.ll;have hel:=h.el
 have lp:=jCg (zs:=c.1) (ps:=c.2.1) (cs:=c.2.2.1) (ss:=c.2.2.2) h.ed hel s.2.2.length 0 (by omega)
 rw [show ((0:Nat):Int)=0 from rfl] at lp
 simp only [j1L,show Int.ofNat s.2.1.length=(s.2.1.length:Int) from rfl,show Int.ofNat s.2.2.length=(s.2.2.length:Int) from rfl]
 rw [j00 (show ¬ (s.2.1.length:Int)>6 by omega),j00 (show ¬ (s.2.2.length:Int)>48 by omega)]
 simp only [j6,jDl (zs:=c.1) (ps:=c.2.1) (cs:=c.2.2.1) (ss:=c.2.2.2) h.nm h.ly (by omega),j3,jd,lp,j4S]
theorem jCh {zs:List j1R} {ps:List j1q} {cs:List CalT} {ss:List j1y} (hn:NmL (ss.map (·.1))) (hc:∀ x∈ss,SCk zs.length ps.length cs.length x) (hl:ss.length≤100):∀ (n i:Nat),i+n=ss.length→j0Y zs ps cs ss ss (ss.length:Int) (i:Int) (jeG ((ss.take i).map (·.1)))=some (.inr ())
 | 0,i,hi=>by
  rw [j5J]
  simp only [j0u]
  rw [j00 (by omega),j6,j08]
 | n+1,i,hi=>by
  have hlt:i<ss.length:=by omega
  have hgd:ss.getD i (ByteArray.empty,(([]:List j0w),([]:List j43)))=ss[i]:=by simp [hlt]
  have h1:=jnu (·.1) hn hlt
  have h2:=jDn (c:=(zs,(ps,(cs,ss)))) (hc ss[i] (jg hlt))
  rw [j5J]
  simp only [j0u,jbj,j53]
  rw [j01 (by omega),j0s (by omega) (by omega),j02 (x:=(i:Int)+1) (by omega) (by omega)]
  simp only [j5,j7,hgd,j3,h1,jd,j6]
  rw [show j1L (zs,(ps,(cs,ss))) (ss[i].1,(ss[i].2.1,ss[i].2.2))=_ from h2]
  simp only [j3,jd,j6,j05]
  exact jCh hn hc hl n (i+1) (by omega)
structure jhe (c:CfgT):Prop where
 zn:NmL (c.1.map (·.1))
 zc:∀ z∈c.1,ZCk z
 zl:c.1.length≤16
 pn:NmL (c.2.1.map (·.1))
 pc:∀ p∈c.2.1,PCk c.1.length p
 pl:c.2.1.length≤32
 cn:NmL (c.2.2.1.map (·.1))
 cc:∀ x∈c.2.2.1,CCk c.1.length x
 cl:c.2.2.1.length≤8
 sn:NmL (c.2.2.2.map (·.1))
 sc:∀ x∈c.2.2.2,SCk c.1.length c.2.1.length c.2.2.1.length x
 sl:c.2.2.2.length≤12
theorem jtP {c:CfgT} (h:jhe c):j5b c=some 0:=by
 have hzl:=h.zl;have hpl:=h.pl;have hcl:=h.cl;have hsl:=h.sl
 have lp:=jCa (zs:=c.1) (cs:=c.2.2.1) (ss:=c.2.2.2) h.pn h.pc (by omega) c.2.1.length 0 (by omega)
 have ls:=jCh (zs:=c.1) (ps:=c.2.1) (cs:=c.2.2.1) h.sn h.sc (by omega) c.2.2.2.length 0 (by omega)
 simp only [j5b,show Int.ofNat c.1.length=(c.1.length:Int) from rfl,show Int.ofNat c.2.1.length=(c.2.1.length:Int) from rfl,show Int.ofNat c.2.2.1.length=(c.2.2.1.length:Int) from rfl,show Int.ofNat c.2.2.2.length=(c.2.2.2.length:Int) from rfl]
 rw [j00 (show ¬ (c.1.length:Int)>16 by omega),j00 (show ¬ (c.2.1.length:Int)>32 by omega),j00 (show ¬ (c.2.2.1.length:Int)>8 by omega),j00 (show ¬ (c.2.2.2.length:Int)>12 by omega)]
 simp only [j6,jDg h.zn h.zc (by omega),j3,jd]
 rw [show j4b c.2.1 (c.2.1.length:Int) 0 c.1 c.2.1 c.2.2.1 c.2.2.2 []=_ from lp]
 simp only [j3,j4S,jDj (zs:=c.1) (ps:=c.2.1) (cs:=c.2.2.1) (ss:=c.2.2.2) h.cn h.cc (by omega),jd,j6,j1S,show Int.ofNat c.2.2.2.length=(c.2.2.2.length:Int) from rfl]
 rw [show j0Y c.1 c.2.1 c.2.2.1 c.2.2.2 c.2.2.2 (c.2.2.2.length:Int) 0 []=_ from ls]
 rfl
def nmsL:List ByteArray:=[(ByteArray.mk #[97,100,97]),(ByteArray.mk #[98,111,98]),(ByteArray.mk #[99,108,101,111]),(ByteArray.mk #[100,97,110]),(ByteArray.mk #[101,118,101]),(ByteArray.mk #[102,97,121]),(ByteArray.mk #[103,117,115]),(ByteArray.mk #[104,97,108])]
def nmsZ:List ByteArray:=[(ByteArray.mk #[104,101,114,101]),(ByteArray.mk #[116,104,101,114,101])]
theorem juO:jhv=some nmsL:=rfl
theorem jxz:NmL nmsL:=by
 refine ⟨by decide,fun k hk=> ?_⟩
 simp only [nmsL,jf,qt,or_false] at hk
 rcases hk with rfl | rfl | rfl | rfl | rfl | rfl | rfl | rfl<;>exact j7S 60 _ true (by kernel_rfl)
theorem jB4:NmL nmsZ:=by
 refine ⟨by decide,fun k hk=> ?_⟩
 simp only [nmsZ,jf,qt,or_false] at hk
 rcases hk with rfl | rfl<;>exact j7S 60 _ true (by kernel_rfl)
theorem NmL.take {l:List ByteArray} (h:NmL l) (n:Nat):NmL (l.take n):=⟨h.1.sublist (List.take_sublist n l),fun k hk=>h.2 k (q8 hk)⟩
theorem NmL.one {s:ByteArray} (h:j51 s=some true):NmL [s]:=⟨by simp,fun k hk=>by simp at hk;subst hk;exact h⟩
theorem NmL.nil:NmL []:=⟨zk,by simp⟩
theorem jB5:j51 (ByteArray.mk #[100,97,121,115])=some true:=j7S 60 _ true (by kernel_rfl)
theorem nm_a:j51 (ByteArray.mk #[97])=some true:=j7S 60 _ true (by kernel_rfl)
theorem jB6:∀ k∈nmsL,(ByteArray.toList k==ByteArray.toList (ByteArray.mk #[110,111,98,111,100,121]))=false:=by
 intro k hk
 simp only [nmsL,jf,qt,or_false] at hk
 rcases hk with rfl | rfl | rfl | rfl | rfl | rfl | rfl | rfl<;>kernel_rfl
theorem jzh:((List.range 61).all fun i=>jqu 60 (20440+(i:Int))==some true)=true:=by kernel_rfl
theorem jxA {d:Int} (h1:20440≤d) (h2:d≤20500):j0W d=some true:=by
 have h:=js.1 jzh (d-20440).toNat (List.mem_range.2 (by omega))
 rw [show (20440:Int)+(((d-20440).toNat:Nat):Int)=d by omega] at h
 exact jaE 60 d true (eq_of_beq h)
theorem t60 {x:Int} (h:x%60=0):Int.tmod x 60=0:=by
 have:=jh6 x 60
 rw [h] at this
 simpa using this
theorem all2 {P:Rule→Prop} {r s:Rule} (h1:P r) (h2:P s):∀ x∈[r,s],P x:=by
 intro x hx
 simp at hx
 rcases hx with rfl | rfl
 ·exact h1
 ·exact h2
theorem jB7 {L:List Int} {a:Int} (h:DOk L a) (nm:ByteArray):∃ o rs a',j4B L a nm=some ((nm,(o,rs)),L,a')∧Int.tmod o 60=0∧∀ r∈rs,Int.tmod r.2.2.2.2.2.2 60=0:=by
 obtain ⟨p,a1,e1,m1,d1⟩:=j8Q h (xs:=[(0:Int),(4:Int),(-20:Int),(22:Int),(48:Int),(-47:Int)]) (by simp) (by simp)
 obtain ⟨x2,a2,e2,x20,x21,d2⟩:=j0Q (n:=2) d1 (by omega) (by omega)
 obtain ⟨x3,a3,e3,x30,x31,d3⟩:=j0Q (n:=3) d2 (by omega) (by omega)
 obtain ⟨y,a4,e4,y0,y1,d4⟩:=j0Q (n:=2) d3 (by omega) (by omega)
 obtain ⟨q,a5,e5,q0,q1,d5⟩:=j0Q (n:=4) d4 (by omega) (by omega)
 have hp : -47≤p∧p≤48:=by simp at m1;omega
 have hmul:0≤x2*x3∧x2*x3≤2:=by
  obtain rfl | rfl:x2=0∨x2=1:=by omega
  all_goals omega
 have ho0 : -43200≤900*(p+x2*x3):=by omega
 have ho1:900*(p+x2*x3)≤45000:=by omega
 have ho2:(900*(p+x2*x3))%60=0:=by omega
 simp only [j4B,e1,e2,e3,e4,e5,j3]
 rw [j02 (x:=x2*x3) (by omega) (by omega),j02 (x:=p+x2*x3) (by omega) (by omega),j02 (x:=900*(p+x2*x3)) (by omega) (by omega),j02 (x:=2025+y) (by omega) (by omega)]
 generalize 900*(p+x2*x3)=o at *
 generalize 2025+y=last at *
 by_cases hq1:q=1
 ·rw [j4Q hq1,j5,j02 (x:=o+3600) (by omega) (by omega)]
  exact ⟨_,_,_,rfl,t60 ho2,all2 (P:=fun r=>Int.tmod r.2.2.2.2.2.2 60=0) (t60 (show (o+3600)%60=0 by omega)) (t60 ho2)⟩
 ·rw [j2c hq1,j6]
  by_cases hq2:q=2
  ·rw [j4Q hq2,j5]
   obtain ⟨b1,c1,f1,b10,b11,g1⟩:=j0Q (n:=4) d5 (by omega) (by omega)
   obtain ⟨b2,c2,f2,b20,b21,g2⟩:=j0Q (n:=7) g1 (by omega) (by omega)
   obtain ⟨b3,c3,f3,b30,b31,g3⟩:=j0Q (n:=24) g2 (by omega) (by omega)
   obtain ⟨b4,c4,f4,b40,b41,g4⟩:=j0Q (n:=8) g3 (by omega) (by omega)
   obtain ⟨b5,c5,f5,b50,b51,g5⟩:=j0Q (n:=2) g4 (by omega) (by omega)
   obtain ⟨b6,c6,f6,m6,g6⟩:=j8Q g5 (xs:=[(2:Int),(3:Int),(5:Int)]) (by simp) (by simp)
   obtain ⟨b7,c7,f7,b70,b71,g7⟩:=j0Q (n:=7) g6 (by omega) (by omega)
   obtain ⟨b8,c8,f8,b80,b81,g8⟩:=j0Q (n:=24) g7 (by omega) (by omega)
   simp only [f1,f2,f3,f4,f5,f6,f7,f8,j3]
   rw [j02 (x:=1+b4) (by omega) (by omega),j02 (x:=1800*(1+b4)) (by omega) (by omega),j02 (x:=o+1800*(1+b4)) (by omega) (by omega)]
   exact ⟨_,_,_,rfl,t60 ho2,all2 (P:=fun r=>Int.tmod r.2.2.2.2.2.2 60=0) (t60 (show (o+1800*(1+b4))%60=0 by omega)) (t60 ho2)⟩
  ·rw [j2c hq2,j6]
   by_cases hq3:q=3
   ·rw [j4Q hq3,j5]
    obtain ⟨b1,c1,f1,m1,g1⟩:=j8Q d5 (xs:=[(3600:Int),(-3600:Int),(82800:Int),(-82800:Int),(43200:Int)]) (by simp) (by simp)
    obtain ⟨b2,c2,f2,b20,b21,g2⟩:=j0Q (n:=7) g1 (by omega) (by omega)
    obtain ⟨b3,c3,f3,b30,b31,g3⟩:=j0Q (n:=48) g2 (by omega) (by omega)
    have hb1 : -82800≤b1∧b1≤82800∧b1%60=0:=by simp at m1;omega
    simp only [f1,f2,f3,j3]
    rw [j02 (x:=o+b1) (by omega) (by omega)]
    cases cond (decide (o+b1>64800)) true (decide (o+b1 < -64800)) with
    | true=>exact ⟨_,_,_,rfl,t60 ho2,fun r hr=>by simp at hr;subst hr;rfl⟩
    | false=>exact ⟨_,_,_,rfl,t60 ho2,fun r hr=>by simp at hr;subst hr;exact t60 (by dsimp only;omega)⟩
   ·rw [j2c hq3,j6]
    exact ⟨_,_,_,rfl,t60 ho2,by simp⟩
theorem jzi {L:List Int} {a:Int} (h:DOk L a) (nm:ByteArray):∃ o rs a',j4B L a nm=some ((nm,(o,rs)),L,a')∧MZ o rs∧ZCk (nm,(o,rs))∧DOk L a':=by
 obtain ⟨o,rs,a1,e1,m1,d1⟩:=jB3 h nm
 obtain ⟨o',rs',a2,e2,m2,m3⟩:=jB7 h nm
 have:=e1.symm.trans e2
 simp only [j4,j8,qc] at this
 obtain ⟨⟨rfl,rfl⟩,rfl⟩:=this
 have ht:=(m1.tab nm).1
 have hl:=m1.len
 exact ⟨o,rs,a1,e1,m1,⟨by simp only [j8U,show j2q (nm,(o,rs))=_ from ht,j3],m2,m3,by dsimp only;omega⟩,d1⟩
structure ZInv (zs:List j1R):Prop where
 ok:∀ z∈zs,ZOk z
 ck:∀ z∈zs,ZCk z
 nm:zs.map (·.1)=nmsZ.take zs.length
theorem jqx {l:List ByteArray} {n:Nat} (hn:n<l.length):l.take n++[l.getD n ByteArray.empty]=l.take (n+1):=by
 rw [ke,ji hn]
 simp [hn]
theorem jzY {L:List Int}:∀ (n:Nat) (a:Int) (zs:List j1R),DOk L a→zs.length+n≤2→ZInv zs→
  ∃ zs' a',j74 (n:Int) L a zs=some (L,a',zs')∧zs'.length=zs.length+n∧ZInv zs'∧DOk L a'
 | 0,a,zs,hd,_,hz=>by
  rw [jaS]
  simp only [j3e]
  rw [j00 (by omega),j6,j08]
  exact ⟨zs,a,rfl,rfl,hz,hd⟩
 | n+1,a,zs,hd,hl,hz=>by
  obtain ⟨o,rs,a1,e1,m1,k1,d1⟩:=jzi hd (List.getD nmsZ zs.length ByteArray.empty)
  obtain ⟨zs',a',e2,h2,h3,h4⟩:=jzY n a1 (zs++[(List.getD nmsZ zs.length ByteArray.empty,(o,rs))]) d1 (by simp;omega) ⟨fun z hz'=>by
   rcases jq.1 hz' with h | h
   ·exact hz.ok z h
   ·simp at h;subst h;exact m1,fun z hz'=>by
   rcases jq.1 hz' with h | h
   ·exact hz.ck z h
   ·simp at h;subst h;exact k1,by
   rw [zg,hz.nm,jh]
   exact jqx (by show zs.length<2;omega)⟩
  rw [jaS]
  simp only [j3e,show Int.ofNat (List.length zs)=(zs.length:Int) from rfl]
  rw [j01 (by omega),j0s (show (0:Int)≤(zs.length:Int) by omega) (by simp;omega)]
  simp only [j5,j7]
  rw [show j4B L a (List.getD [(ByteArray.mk #[104,101,114,101]),(ByteArray.mk #[116,104,101,114,101])] zs.length ByteArray.empty)=_ from e1]
  simp only [j3]
  rw [j01 (by simp [j07];omega),j02 (x:=((n+1:Nat):Int)-1) (by omega) (by omega)]
  simp only [j5,j05]
  rw [show ((n+1:Nat):Int)-1=(n:Int) by omega]
  exact ⟨zs',a',e2,by rw [h2];simp;omega,h3,h4⟩
structure PInv (nz:Nat) (ps:List j1q):Prop where
 ck:∀ p∈ps,PCk nz p
 nm:ps.map (·.1)=nmsL.take ps.length
theorem juP {n:Int} (h0:0≤n) (h1:n≤168):j58 (w64 (3600*n))=some true:=by
 rw [j02 (by omega) (by omega)]
 simp only [j58,jp2 (show 0≤3600*n by omega) (show 3600*n≤604800 by omega),j3,j5]
 rw [jh6,j4Q (show (3600*n)%3600=0 by omega)]
theorem jxB {L:List Int} {zs:List j1R} (hz0:1≤zs.length) (hz1:zs.length≤100):∀ (n:Nat) (a:Int) (ps:List j1q),DOk L a→ps.length+n≤4→PInv zs.length ps→
  ∃ ps' a',j75 (n:Int) L a zs ps=some (L,a',zs,ps')∧ps'.length=ps.length+n∧PInv zs.length ps'∧DOk L a'
 | 0,a,ps,hd,_,hp=>by
  rw [jaT]
  simp only [j3f]
  rw [j00 (by omega),j6,j08]
  exact ⟨ps,a,rfl,rfl,hp,hd⟩
 | n+1,a,ps,hd,hl,hp=>by
  obtain ⟨x,a1,e1,x0,x1,d1⟩:=j0Q (n:=(zs.length:Int)) hd (by omega) (by omega)
  obtain ⟨b,a2,e2,d2⟩:=jl7 (n:=3) d1 (by omega) (by omega)
  obtain ⟨c,a3,e3,d3⟩:=jl7 (n:=2) d2 (by omega) (by omega)
  have hnm:ps.length<nmsL.length:=by show ps.length<8;omega
  have hmem:nmsL.getD ps.length ByteArray.empty∈nmsL:=by
   rw [List.getD_eq_getElem?_getD,ji hnm]
   exact jg hnm
  have ext:∀ (w:WL) (p q:Int),WOk 0 w→w.length≤14→p∈[(0:Int),(40:Int),(100:Int),(12:Int)]→q∈[(0:Int),(11:Int),(24:Int),(1:Int)]→
    PInv zs.length (ps++[(nmsL.getD ps.length ByteArray.empty,(x,(w,(w64 (3600*p),(w64 (3600*q),b)))))]):=by
   intro w p q hw hwl hpm hqm
   have hp':0≤p∧p≤168:=by simp at hpm;omega
   have hq':0≤q∧q≤168:=by simp at hqm;omega
   refine ⟨fun r hr=> ?_,?_⟩
   ·rcases jq.1 hr with h | h
    ·exact hp.ck r h
    ·simp at h;subst h
     exact ⟨jB6 _ hmem,x0,x1,hw,hwl,juP hp'.1 hp'.2,juP hq'.1 hq'.2⟩
   ·rw [zg,hp.nm,jh]
    exact jqx hnm
  rw [jaT]
  simp only [j3f,juO,j3,show Int.ofNat (List.length ps)=(ps.length:Int) from rfl,show Int.ofNat (List.length zs)=(zs.length:Int) from rfl]
  rw [j01 (by omega),j0s (show (0:Int)≤(ps.length:Int) by omega) (by omega)]
  simp only [j5,e1,e2,e3,j3]
  rw [j02 (x:=((n+1:Nat):Int)-1) (by omega) (by omega),show ((n+1:Nat):Int)-1=(n:Int) by omega]
  cases c with
  | true=>
   obtain ⟨w,a4,e4,hw,hwl,d4⟩:=jl6 d3
   obtain ⟨p,a5,e5,hpm,d5⟩:=j8Q d4 (xs:=[(0:Int),(40:Int),(100:Int),(12:Int)]) (by simp) (by simp)
   obtain ⟨q,a6,e6,hqm,d6⟩:=j8Q d5 (xs:=[(0:Int),(11:Int),(24:Int),(1:Int)]) (by simp) (by simp)
   simp only [j5,e4,e5,e6,j3]
   rw [j01 (by simp [j07];omega)]
   simp only [j5,j05]
   obtain ⟨ps',a',e,h1,h2,h3⟩:=jxB hz0 hz1 n a6 _ d6 (by simp;omega) (ext w p q hw (by omega) hpm hqm)
   exact ⟨ps',a',e,by rw [h1];simp;omega,h2,h3⟩
  | false=>
   obtain ⟨p,a5,e5,hpm,d5⟩:=j8Q d3 (xs:=[(0:Int),(40:Int),(100:Int),(12:Int)]) (by simp) (by simp)
   obtain ⟨q,a6,e6,hqm,d6⟩:=j8Q d5 (xs:=[(0:Int),(11:Int),(24:Int),(1:Int)]) (by simp) (by simp)
   simp only [j6,e5,e6,j3]
   rw [j01 (by simp [j07];omega)]
   simp only [j5,j05]
   obtain ⟨ps',a',e,h1,h2,h3⟩:=jxB hz0 hz1 n a6 _ d6 (by simp;omega) (ext [] p q (show (0:Int)≤604800 by omega) (by simp) hpm hqm)
   exact ⟨ps',a',e,by rw [h1];simp;omega,h2,h3⟩
def DInv (q:Int) (ds:List Int):Prop:=ds.Pairwise (· < ·)∧∀ d∈ds,20454<d∧d≤q
theorem jzZ {L:List Int} {s:Int} {nm:ByteArray} {z:Int} {zs:List j1R} {ps:List j1q} {cs:List CalT}:∀ (n:Nat) (a day:Int) (ds:List Int),DOk L a→ds.length+n≤4→20454≤day→day+6*n≤20480→DInv day ds→
  ∃ ds' a',j76 s (n:Int) day L a nm z zs ps cs ds=some (s,L,a',nm,z,zs,ps,cs,ds')∧ds'.length≤4∧DInv 20480 ds'∧DOk L a'
 | 0,a,day,ds,hd,hl,hy,hy2,hi=>by
  rw [jaU]
  simp only [j3g]
  rw [j00 (by omega),j6,j08]
  exact ⟨ds,a,rfl,by omega,⟨hi.1,fun d hd=>by have:=hi.2 d hd;omega⟩,hd⟩
 | n+1,a,day,ds,hd,hl,hy,hy2,hi=>by
  obtain ⟨x,a1,e1,x0,x1,d1⟩:=j0Q (n:=6) hd (by omega) (by omega)
  rw [jaU]
  simp only [j3g]
  rw [j01 (by omega),j02 (x:=((n+1:Nat):Int)-1) (by omega) (by omega),show ((n+1:Nat):Int)-1=(n:Int) by omega]
  simp only [j5,e1,j3]
  rw [j01 (by simp [j07];omega),j02 (x:=1+x) (by omega) (by omega),j02 (x:=day+(1+x)) (by omega) (by omega)]
  simp only [j5,j05]
  refine jzZ n a1 _ _ d1 (by simp;omega) (by omega) (by omega) ⟨List.pairwise_append.2 ⟨hi.1,by simp,fun u hu v hv=> ?_⟩,fun d hd=> ?_⟩
  ·simp at hv;subst hv
   have:=hi.2 u hu;omega
  ·rcases jq.1 hd with h | h
   ·have:=hi.2 d h;omega
   ·simp at h;omega
structure CInv (nz:Nat) (cs:List CalT):Prop where
 ck:∀ c∈cs,CCk nz c
 nm:NmL (cs.map (·.1))
 len:cs.length≤1
 dl:∀ c∈cs,c.2.2.length≤4
theorem jCi {nz:Nat} {nm:ByteArray} {x:Int} {ds:List Int} (x0:0≤x) (x1:x<nz) (hl:ds.length≤64) (hi:DInv 20480 ds):CCk nz (nm,(x,ds)):=
 ⟨x0,x1,hl,fun d hd=>jxA (by have:=hi.2 d hd;omega) (by have:=hi.2 d hd;omega),hi.1⟩
structure SOk2 (zs:List j1R) (ps:List j1q) (cs:List CalT):Prop where
 so:SOk zs ps cs
 z:ZInv zs
 p:PInv zs.length ps
 c:CInv zs.length cs
theorem jxC {L:List Int} {a:Int} (h:DOk L a):∃ zs ps cs a',j9g L a=some ((zs,(ps,(cs,([]:List j1y)))),L,a')∧SOk2 zs ps cs∧DOk L a':=by
 obtain ⟨x,a1,e1,x0,x1,d1⟩:=j0Q (n:=2) h (by omega) (by omega)
 obtain ⟨zs,a2,e2,l2,k2,d2⟩:=jzY (1+x).toNat a1 [] d1 (by simp;omega) ⟨by simp,by simp,rfl⟩
 obtain ⟨y,a3,e3,y0,y1,d3⟩:=j0Q (n:=4) d2 (by omega) (by omega)
 simp at l2
 obtain ⟨ps,a4,e4,l4,k4,d4⟩:=jxB (zs:=zs) (by omega) (by omega) (1+y).toNat a3 [] d3 (by simp;omega) ⟨by simp,rfl⟩
 obtain ⟨q,a5,e5,q0,q1,d5⟩:=j0Q (n:=2) d4 (by omega) (by omega)
 simp at l4
 have hcal:∃ cs a',j77 q L a5 zs ps []=some (L,a',zs,ps,cs)∧CInv zs.length cs∧DOk L a':=by
  by_cases hq:q=0
  ·subst hq
   rw [j7p]
   simp only [j2t]
   rw [j00 (by omega),j6,j08]
   exact ⟨[],a5,rfl,⟨by simp,NmL.nil,by simp,by simp⟩,d5⟩
  ·have hq1:q=1:=by omega
   subst hq1
   obtain ⟨x,a6,e6,x0,x1,d6⟩:=j0Q (n:=(zs.length:Int)) d5 (by omega) (by omega)
   obtain ⟨y,a7,e7,y0,y1,d7⟩:=j0Q (n:=4) d6 (by omega) (by omega)
   obtain ⟨ds,a8,e8,l8,k8,d8⟩:=jzZ (s:=(1:Int)) (nm:=ByteArray.mk #[100,97,121,115]) (z:=x) (zs:=zs) (ps:=ps) (cs:=[]) y.toNat a7 20454 [] d7 (by simp;omega) (by omega) (by omega) ⟨by simp,by simp⟩
   rw [show ((y.toNat:Nat):Int)=y by omega] at e8
   rw [j7p]
   simp only [j2t,show Int.ofNat (List.length zs)=(zs.length:Int) from rfl]
   rw [j01 (by omega)]
   simp only [j5,e6,e7,e8,j3]
   rw [j01 (by simp [j07]),j02 (x:=(1:Int)-1) (by omega) (by omega)]
   simp only [j5,j05]
   rw [j7p]
   simp only [j2t]
   rw [j00 (by omega),j6,j08]
   refine ⟨_,a8,rfl,⟨fun c hc=> ?_,NmL.one jB5,by simp,fun c hc=>by simp at hc;subst hc;exact l8⟩,d8⟩
   simp at hc;subst hc
   exact jCi x0 x1 (by omega) k8
 obtain ⟨cs,a6,e6,k6,d6⟩:=hcal
 rw [show (((1+x).toNat:Nat):Int)=1+x by omega] at e2
 rw [show (((1+y).toNat:Nat):Int)=1+y by omega] at e4
 simp only [j9g,e1,j3]
 rw [j02 (x:=1+x) (by omega) (by omega)]
 simp only [e2,e3,j3]
 rw [j02 (x:=1+y) (by omega) (by omega)]
 simp only [e4,e5,e6,j3]
 exact ⟨zs,ps,cs,a6,rfl,⟨⟨by omega,by omega,k2.ok,by omega,by omega,k6.len⟩,k2,k4,k6⟩,d6⟩
end Go.Proofs.Pw
