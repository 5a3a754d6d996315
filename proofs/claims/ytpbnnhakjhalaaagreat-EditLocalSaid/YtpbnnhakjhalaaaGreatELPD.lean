/- Chapter 8: configurations that are right. -/
import Derived.Test.YtpbnnhakjhalaaaGreatELPA
import Derived.Test.YtpbnnhakjhalaaaGreatELPC
import Derived.Test.YtpbnnhakjhalaaaGreatELPB
import Derived.KernelRfl
open Go Go.Lft
namespace Go.Proofs.Pw
abbrev j5P:=Int×(Int×(Int×(Int×Int)))
abbrev CfgT:=List j1T×(List j12×(List CalT×List j2E))
theorem jiK {n lo hi:Int} (h1:lo≤n) (h2:n≤hi):j5U n lo hi=some true:=by
 simp only [j5U]
 rw [j01 (show n≥lo from h1),j01 h2];rfl
theorem jmo {i n:Int} (h1:0≤i) (h2:i<n):j1O i n=some true:=by
 simp only [j1O]
 rw [j01 (show i≥0 from h1),j01 h2];rfl
theorem jtH {i n:Int} (h1:i<0):j1O i n=some false:=by
 simp only [j1O]
 rw [j00 (show ¬ i≥0 by omega)];rfl
structure ZCk (z:j1T):Prop where
 ck:j6J z=some 0
 o60:Int.tmod z.2.1 60=0
 r60:∀ r∈z.2.2,Int.tmod r.2.2.2.2.2.2 60=0
 len:z.2.2.length≤1000
theorem jt0 {rs:List Rule} (h:∀ r∈rs,Int.tmod r.2.2.2.2.2.2 60=0) (hl:rs.length≤1000):∀ (n i:Nat),i+n=rs.length→j0h rs (rs.length:Int) (i:Int)=some (.inr ())
 | 0,i,hi=>by
  rw [j1X]
  simp only [j0l]
  rw [j00 (by omega),j6,j0j]
 | n+1,i,hi=>by
  have hlt:i<rs.length:=by omega
  have hgd:rs.getD i ((0:Int),((0:Int),((0:Int),((0:Int),((0:Int),((0:Int),(0:Int)))))))=rs[i]:=by simp [hlt]
  have:=h rs[i] (jf hlt)
  rw [j1X]
  simp only [j0l,j64]
  rw [j01 (by omega),j1M (by omega) (by omega),j02 (x:=(i:Int)+1) (by omega) (by omega)]
  simp only [j5,j7,hgd,j3,this,jb,j6,j0b]
  exact jt0 h hl n (i+1) (by omega)
theorem jtI {z:j1T} (h:ZCk z):j2f z=some 0:=by
 have lp:=jt0 h.r60 h.len z.2.2.length 0 (by omega)
 rw [show ((0:Nat):Int)=0 from rfl] at lp
 simp only [j2f,show j6J (z.1,(z.2.1,z.2.2))=_ from h.ck,j3,h.o60,jb,j6,j0i,j0r,show Int.ofNat z.2.2.length=(z.2.2.length:Int) from rfl,lp,j3x]
 rfl
theorem jt1 {zs:List j1T} (hn:NmL (zs.map (·.1))) (hc:∀ z∈zs,ZCk z) (hl:zs.length≤100):∀ (n i:Nat),i+n=zs.length→j14 zs (zs.length:Int) (i:Int) (jaR ((zs.take i).map (·.1)))=some (.inr ())
 | 0,i,hi=>by
  rw [j55]
  simp only [j0A]
  rw [j00 (by omega),j6,j0j]
 | n+1,i,hi=>by
  have hlt:i<zs.length:=by omega
  have hgd:zs.getD i (ByteArray.empty,((0:Int),([]:List Rule)))=zs[i]:=by simp [hlt]
  have h1:=jhq (·.1) hn hlt
  have h2:=jtI (hc zs[i] (jf hlt))
  rw [j55]
  simp only [j0A,j8v]
  rw [j01 (by omega),j1M (by omega) (by omega),j02 (x:=(i:Int)+1) (by omega) (by omega)]
  simp only [j5,j7,hgd,j3,h1,jb,j6]
  rw [show j2f (zs[i].1,(zs[i].2.1,zs[i].2.2))=_ from h2]
  simp only [j3,jb,j6,j0b]
  exact jt1 hn hc hl n (i+1) (by omega)
theorem jtJ {zs:List j1T} (hn:NmL (zs.map (·.1))) (hc:∀ z∈zs,ZCk z) (hl:zs.length≤100):j1z zs=some 0:=by
 have lp:=jt1 hn hc hl zs.length 0 (by omega)
 simp only [j1z,show Int.ofNat zs.length=(zs.length:Int) from rfl]
 rw [show j14 zs (zs.length:Int) 0 []=_ from lp]
 rfl
structure PCk (nz:Nat) (p:j12):Prop where
 nb:(ByteArray.toList p.1==ByteArray.toList (ByteArray.mk #[110,111,98,111,100,121]))=false
 z0:0≤p.2.1
 z1:p.2.1<nz
 w:WOk 0 p.2.2.1
 wl:p.2.2.1.length≤14
 m:j4D p.2.2.2.1=some true
 r:j4D p.2.2.2.2.1=some true
theorem jtK {c:CfgT} {p:j12} (h:PCk c.1.length p):j1q c p=some 0:=by
 have hz0:=h.z0;have hz1:=h.z1
 simp only [j1q,show Int.ofNat c.1.length=(c.1.length:Int) from rfl,jmo hz0 hz1,j3,jd,j6,jn9 h.w h.wl,jb,h.m,h.r]
theorem jt2 {zs:List j1T} {ps:List j12} {cs:List CalT} {ss:List j2E} (hn:NmL (ps.map (·.1))) (hc:∀ p∈ps,PCk zs.length p) (hl:ps.length≤100):∀ (n i:Nat),i+n=ps.length→j35 ps (ps.length:Int) (i:Int) zs ps cs ss (jaR ((ps.take i).map (·.1)))=some (.inr (zs,ps,cs,ss))
 | 0,i,hi=>by
  rw [j9c]
  simp only [j1l]
  rw [j00 (by omega),j6,j0j]
 | n+1,i,hi=>by
  have hlt:i<ps.length:=by omega
  have hgd:ps.getD i (ByteArray.empty,((0:Int),(([]:List (Int×Int)),((0:Int),((0:Int),false)))))=ps[i]:=by simp [hlt]
  have h1:=jhq (·.1) hn hlt
  have hp:=hc ps[i] (jf hlt)
  have h2:=jtK (c:=(zs,(ps,(cs,ss)))) hp
  rw [j9c]
  simp only [j1l]
  rw [j01 (by omega),j1M (by omega) (by omega),j02 (x:=(i:Int)+1) (by omega) (by omega)]
  simp only [j5,j7,hgd,j3,h1,hp.nb,kg,j6]
  rw [show j1q (zs,(ps,(cs,ss))) (ps[i].1,(ps[i].2.1,(ps[i].2.2.1,(ps[i].2.2.2.1,(ps[i].2.2.2.2.1,ps[i].2.2.2.2.2)))))=_ from h2]
  simp only [j3,jb,j6,j0b]
  exact jt2 hn hc hl n (i+1) (by omega)
structure CCk (nz:Nat) (c:CalT):Prop where
 z0:0≤c.2.1
 z1:c.2.1<nz
 len:c.2.2.length≤64
 day:∀ d∈c.2.2,j1e d=some true
 asc:c.2.2.Pairwise (· < ·)
theorem jt3 {ds:List Int} (h:∀ d∈ds,j1e d=some true) (hl:ds.length≤64):∀ (n i:Nat),i+n=ds.length→j1f ds (ds.length:Int) (i:Int)=some (.inr ())
 | 0,i,hi=>by
  rw [j4y]
  simp only [j0t]
  rw [j00 (by omega),j6,j0j]
 | n+1,i,hi=>by
  have hlt:i<ds.length:=by omega
  have hgd:ds.getD i (0:Int)=ds[i]:=by simp [hlt]
  have:=h ds[i] (jf hlt)
  rw [j4y]
  simp only [j0t,j1C]
  rw [j01 (by omega),j1M (by omega) (by omega),j02 (x:=(i:Int)+1) (by omega) (by omega)]
  simp only [j5,j7,hgd,this,j3,jd,j6,j0b]
  exact jt3 h hl n (i+1) (by omega)
theorem jt4 {nm:ByteArray} {z:Int} {ds:List Int} (h:ds.Pairwise (· < ·)) (hl:ds.length≤64):∀ (n i:Nat),i+n=ds.length→j1E (ds.length:Int) (i:Int) nm z ds=some (.inr ())
 | 0,i,hi=>by
  rw [j5p]
  simp only [j1u]
  rw [j00 (by omega),j6,j0j]
 | n+1,i,hi=>by
  have hlt:i<ds.length:=by omega
  have hgd:ds.getD i (0:Int)=ds[i]:=by simp [hlt]
  have ih:=jt4 (nm:=nm) (z:=z) h hl n (i+1) (by omega)
  rw [j5p]
  simp only [j1u]
  rw [j01 (by omega),j1M (i:=(i:Int)) (by omega) (by omega),j02 (x:=(i:Int)+1) (by omega) (by omega)]
  simp only [j5,j7,hgd]
  by_cases h0:i=0
  ·subst h0
   rw [j00 (by omega),j6,j0b]
   exact ih
  ·have hj:i-1<ds.length:=by omega
   have hgj:ds.getD (i-1) (0:Int)=ds[i-1]:=by simp [hj]
   have hp:ds[i-1]<ds[i]:=qz.1 h (i-1) i hj hlt (by omega)
   rw [j01 (show (i:Int)>0 by omega),j02 (x:=(i:Int)-1) (by omega) (by omega),j1M (i:=(i:Int)-1) (by omega) (by omega),show ((i:Int)-1).toNat=i-1 by omega,hgj,j00 (show ¬ ds[i]≤ds[i-1] by omega)]
   simp only [j5,j6,j0b]
   exact ih
theorem jtL {c:CfgT} {x:CalT} (h:CCk c.1.length x):j1j c x=some 0:=by
 have hz0:=h.z0;have hz1:=h.z1;have hl:=h.len
 have l1:=jt3 h.day hl x.2.2.length 0 (by omega)
 have l2:=jt4 (nm:=x.1) (z:=x.2.1) h.asc hl x.2.2.length 0 (by omega)
 rw [show ((0:Nat):Int)=0 from rfl] at l1 l2
 simp only [j1j,show Int.ofNat c.1.length=(c.1.length:Int) from rfl,show Int.ofNat x.2.2.length=(x.2.2.length:Int) from rfl,jmo hz0 hz1,j3,jd,j6,j1g,j1D,l1,l2,j3x]
 rw [j00 (by omega)]
 rfl
theorem jt5 {zs:List j1T} {ps:List j12} {cs:List CalT} {ss:List j2E} (hn:NmL (cs.map (·.1))) (hc:∀ x∈cs,CCk zs.length x) (hl:cs.length≤100):∀ (n i:Nat),i+n=cs.length→j0L zs ps cs ss cs (cs.length:Int) (i:Int) (jaR ((cs.take i).map (·.1)))=some (.inr ())
 | 0,i,hi=>by
  rw [j49]
  simp only [j0p]
  rw [j00 (by omega),j6,j0j]
 | n+1,i,hi=>by
  have hlt:i<cs.length:=by omega
  have hgd:cs.getD i (ByteArray.empty,((0:Int),([]:List Int)))=cs[i]:=by simp [hlt]
  have h1:=jhq (·.1) hn hlt
  have h2:=jtL (c:=(zs,(ps,(cs,ss)))) (hc cs[i] (jf hlt))
  rw [j49]
  simp only [j0p,j8x,j3G]
  rw [j01 (by omega),j1M (by omega) (by omega),j02 (x:=(i:Int)+1) (by omega) (by omega)]
  simp only [j5,j7,hgd,j3,h1,jb,j6]
  rw [show j1j (zs,(ps,(cs,ss))) (cs[i].1,(cs[i].2.1,cs[i].2.2))=_ from h2]
  simp only [j3,jb,j6,j0b]
  exact jt5 hn hc hl n (i+1) (by omega)
theorem jtM {zs:List j1T} {ps:List j12} {cs:List CalT} {ss:List j2E} (hn:NmL (cs.map (·.1))) (hc:∀ x∈cs,CCk zs.length x) (hl:cs.length≤100):j0X cs zs ps cs ss=some 0:=by
 have lp:=jt5 (ps:=ps) (ss:=ss) hn hc hl cs.length 0 (by omega)
 simp only [j0X,show Int.ofNat cs.length=(cs.length:Int) from rfl]
 rw [show j0L zs ps cs ss cs (cs.length:Int) 0 []=_ from lp]
 rfl
structure LCk (nz np nc:Nat) (l:j1b):Prop where
 z0:0≤l.2.1
 z1:l.2.1<nz
 d0:1≤l.2.2.1.1
 day:j1e l.2.2.1.1=some true
 c0:0≤l.2.2.1.2
 c1:l.2.2.1.2≤86399
 u0:0≤l.2.2.2.1
 u1:l.2.2.2.1≤2
 e0:1≤l.2.2.2.2.1
 e1:l.2.2.2.2.1≤400
 m0:l.2.2.2.2.2.1.length≠0
 m1:l.2.2.2.2.2.1.length≤12
 mem:∀ m∈l.2.2.2.2.2.1,0≤m∧m<(np:Int)
 w:WOk 0 l.2.2.2.2.2.2.1
 wl:l.2.2.2.2.2.2.1.length≤14
 mode0:0≤l.2.2.2.2.2.2.2.2
 mode1:l.2.2.2.2.2.2.2.2≤2
 cal:l.2.2.2.2.2.2.2.2≠0→0≤l.2.2.2.2.2.2.2.1∧l.2.2.2.2.2.2.2.1<(nc:Int)
 cal0:l.2.2.2.2.2.2.2.2=0→l.2.2.2.2.2.2.2.1=0
 w3:l.2.2.2.2.2.2.1.length≤3
 h6:l.2.2.2.1=0→6≤l.2.2.2.2.1
theorem jt6 {zs:List j1T} {ps:List j12} {cs:List CalT} {ss:List j2E} {ms:List Int} (h:∀ m∈ms,0≤m∧m<(ps.length:Int)) (hl:ms.length≤12):∀ (n i:Nat),i+n=ms.length→j0R ms zs ps cs ss (ms.length:Int) (i:Int)=some (.inr ())
 | 0,i,hi=>by
  rw [j3M]
  simp only [j0O]
  rw [j00 (by omega),j6,j0j]
 | n+1,i,hi=>by
  have hlt:i<ms.length:=by omega
  have hgd:ms.getD i (0:Int)=ms[i]:=by simp [hlt]
  have hm:=h ms[i] (jf hlt)
  rw [j3M]
  simp only [j0O,j5q,show Int.ofNat ps.length=(ps.length:Int) from rfl]
  rw [j01 (by omega),j1M (by omega) (by omega),j02 (x:=(i:Int)+1) (by omega) (by omega)]
  simp only [j5,j7,hgd,jmo hm.1 hm.2,j3,jd,j6,j0b]
  exact jt6 h hl n (i+1) (by omega)
theorem jtN {c:CfgT} {l:j1b} (h:LCk c.1.length c.2.1.length c.2.2.1.length l):j1Y c l=some 0:=by
 have hz0:=h.z0;have hz1:=h.z1;have hd0:=h.d0;have hm0:=h.m0;have hm1:=h.m1
 have l1:=jt6 (zs:=c.1) (cs:=c.2.2.1) (ss:=c.2.2.2) h.mem hm1 l.2.2.2.2.2.1.length 0 (by omega)
 rw [show ((0:Nat):Int)=0 from rfl] at l1
 simp only [j1Y,show Int.ofNat c.1.length=(c.1.length:Int) from rfl,show Int.ofNat l.2.2.2.2.2.1.length=(l.2.2.2.2.2.1.length:Int) from rfl,show Int.ofNat c.2.2.1.length=(c.2.2.1.length:Int) from rfl,jmo hz0 hz1,j3,jd,j6,h.day,jiK h.c0 h.c1,jiK h.u0 h.u1,jiK h.e0 h.e1,jiK h.mode0 h.mode1,
  j0S,j1h,l1,j3x,jn9 h.w h.wl,jb]
 rw [j00 (show ¬ l.2.2.1.1<1 by omega),j4u (show ¬ (l.2.2.2.2.2.1.length:Int)=0 by omega),j00 (show ¬ (l.2.2.2.2.2.1.length:Int)>12 by omega),j00 (show ¬ (-1:Int)≥0 by omega)]
 simp only [j6]
 by_cases hmd:l.2.2.2.2.2.2.2.2=0
 ·rw [hmd,h.cal0 hmd];rfl
 ·have hc:=h.cal hmd
  rw [show (l.2.2.2.2.2.2.2.2 != 0)=true by simp [hmd],j4u hmd,j5,jmo hc.1 hc.2]
  rfl
theorem jt7 {zs:List j1T} {ps:List j12} {cs:List CalT} {ss:List j2E} {ls:List j1b} (hn:NmL (ls.map (·.1))) (hc:∀ x∈ls,LCk zs.length ps.length cs.length x) (hl:ls.length≤100):∀ (n i:Nat),i+n=ls.length→j0Y zs ps cs ss ls (ls.length:Int) (i:Int) (jaR ((ls.take i).map (·.1)))=some (.inr ())
 | 0,i,hi=>by
  rw [j4M]
  simp only [j0x]
  rw [j00 (by omega),j6,j0j]
 | n+1,i,hi=>by
  have hlt:i<ls.length:=by omega
  have hgd:ls.getD i (ByteArray.empty,((0:Int),(((0:Int),(0:Int)),((0:Int),((0:Int),(([]:(List Int)),(([]:(List (Int×Int))),((0:Int),(0:Int)))))))))=ls[i]:=by simp [hlt]
  have h1:=jhq (·.1) hn hlt
  have h2:=jtN (c:=(zs,(ps,(cs,ss)))) (hc ls[i] (jf hlt))
  rw [j4M]
  simp only [j0x,j4k,j1F]
  rw [j01 (by omega),j1M (by omega) (by omega),j02 (x:=(i:Int)+1) (by omega) (by omega)]
  simp only [j5,j7,hgd,j3,h1,jb,j6]
  rw [show j1Y (zs,(ps,(cs,ss))) (ls[i].1,ls[i].2.1,(ls[i].2.2.1.1,ls[i].2.2.1.2),ls[i].2.2.2.1,ls[i].2.2.2.2.1,ls[i].2.2.2.2.2.1,ls[i].2.2.2.2.2.2.1,ls[i].2.2.2.2.2.2.2.1,ls[i].2.2.2.2.2.2.2.2)=_ from h2]
  simp only [j3,jb,j6,j0b]
  exact jt7 hn hc hl n (i+1) (by omega)
theorem jtO {zs:List j1T} {ps:List j12} {cs:List CalT} {ss:List j2E} {ls:List j1b} (hn:NmL (ls.map (·.1))) (hc:∀ x∈ls,LCk zs.length ps.length cs.length x) (hl:ls.length≤100):j1r ls zs ps cs ss=some 0:=by
 have lp:=jt7 (ss:=ss) hn hc hl ls.length 0 (by omega)
 simp only [j1r,show Int.ofNat ls.length=(ls.length:Int) from rfl]
 rw [show j0Y zs ps cs ss ls (ls.length:Int) 0 []=_ from lp]
 rfl
structure ECk (np:Nat) (x:j5P):Prop where
 k0:0≤x.1
 k1:x.1≤2
 a:0≤x.2.1∧x.2.1<(np:Int)∨x.1=1∧x.2.1 = -1
 b:x.1=2→0≤x.2.2.1∧x.2.2.1<(np:Int)∧x.2.1≠x.2.2.1
 b0:x.1≠2→x.2.2.1=0
 f0:0≤x.2.2.2.1
 ft:x.2.2.2.1<x.2.2.2.2
 t1:x.2.2.2.2≤1000000000000
 day:j1e (Int.tdiv x.2.2.2.2 86400)=some true
theorem jtP {c:CfgT} {x:j5P} (h:ECk c.2.1.length x):j2g c x=some 0:=by
 have hf0:=h.f0;have hft:=h.ft;have ht1:=h.t1;have hday:=h.day
 have hdv:w64 (Int.tdiv x.2.2.2.2 86400)=Int.tdiv x.2.2.2.2 86400:=by
  rw [jcy (by omega)]
  exact j02 (by omega) (by omega)
 simp only [j2g,show Int.ofNat c.2.1.length=(c.2.1.length:Int) from rfl,jiK h.k0 h.k1,j3,jd,j6,hdv,hday]
 rw [j00 (show ¬ x.2.2.2.1<0 by omega),j00 (show ¬ x.2.2.2.2<0 by omega),j00 (show ¬ x.2.2.2.1≥x.2.2.2.2 by omega)]
 simp only [j6]
 have hA:∃ b,j1O x.2.1 (c.2.1.length:Int)=some b∧cond (!b) (!(cond (x.1==(1:Int)) (x.2.1==(-1:Int)) false)) false=false:=by
  rcases h.a with ⟨a1,a2⟩ | ⟨a1,a2⟩
  ·exact ⟨true,jmo a1 a2,rfl⟩
  ·exact ⟨false,jtH (by omega),by rw [a1,a2];rfl⟩
 obtain ⟨b,e1,e2⟩:=hA
 rw [e1]
 simp only [j3,e2,j6]
 by_cases h2:x.1=2
 ·obtain ⟨b1,b2,b3⟩:=h.b h2
  rw [j9D h2,j5,jmo b1 b2,show (x.1 != 2)=false by rw [h2];rfl,j4u b3]
  rfl
 ·rw [j4u h2,j6,show (x.1 != 2)=true by simp [h2],h.b0 h2]
  rfl
theorem jt8 {zs:List j1T} {ps:List j12} {cs:List CalT} {ss:List j2E} {es:List j5P} (hc:∀ x∈es,ECk ps.length x) (hl:es.length≤48):∀ (n i:Nat),i+n=es.length→j1G es (es.length:Int) (i:Int) zs ps cs ss=some (.inr ())
 | 0,i,hi=>by
  rw [j5r]
  simp only [j0F]
  rw [j00 (by omega),j6,j0j]
 | n+1,i,hi=>by
  have hlt:i<es.length:=by omega
  have hgd:es.getD i ((0:Int),((0:Int),((0:Int),((0:Int),(0:Int)))))=es[i]:=by simp [hlt]
  have h2:=jtP (c:=(zs,(ps,(cs,ss)))) (hc es[i] (jf hlt))
  rw [j5r]
  simp only [j0F]
  rw [j01 (by omega),j1M (by omega) (by omega),j02 (x:=(i:Int)+1) (by omega) (by omega)]
  simp only [j5,j7,hgd]
  rw [show j2g (zs,(ps,(cs,ss))) (es[i].1,es[i].2.1,es[i].2.2.1,es[i].2.2.2.1,es[i].2.2.2.2)=_ from h2]
  simp only [j3,jb,j6,j0b]
  exact jt8 hc hl n (i+1) (by omega)
structure SCk (nz np nc:Nat) (s:j2E):Prop where
 nm:NmL (s.2.1.map (·.1))
 ly:∀ x∈s.2.1,LCk nz np nc x
 ll:s.2.1.length≤6
 ed:∀ x∈s.2.2,ECk np x
 el:s.2.2.length≤48
theorem jtQ {c:CfgT} {s:j2E} (h:SCk c.1.length c.2.1.length c.2.2.1.length s):j1k c s=some 0:=by
 have hll:=h.ll;have hel:=h.el
 have lp:=jt8 (zs:=c.1) (ps:=c.2.1) (cs:=c.2.2.1) (ss:=c.2.2.2) h.ed hel s.2.2.length 0 (by omega)
 rw [show ((0:Nat):Int)=0 from rfl] at lp
 simp only [j1k,show Int.ofNat s.2.1.length=(s.2.1.length:Int) from rfl,show Int.ofNat s.2.2.length=(s.2.2.length:Int) from rfl]
 rw [j00 (show ¬ (s.2.1.length:Int)>6 by omega),j00 (show ¬ (s.2.2.length:Int)>48 by omega)]
 simp only [j6,jtO (zs:=c.1) (ps:=c.2.1) (cs:=c.2.2.1) (ss:=c.2.2.2) h.nm h.ly (by omega),j3,jb,lp,j3x]
theorem jt9 {zs:List j1T} {ps:List j12} {cs:List CalT} {ss:List j2E} (hn:NmL (ss.map (·.1))) (hc:∀ x∈ss,SCk zs.length ps.length cs.length x) (hl:ss.length≤100):∀ (n i:Nat),i+n=ss.length→j0M zs ps cs ss ss (ss.length:Int) (i:Int) (jaR ((ss.take i).map (·.1)))=some (.inr ())
 | 0,i,hi=>by
  rw [j4a]
  simp only [j0q]
  rw [j00 (by omega),j6,j0j]
 | n+1,i,hi=>by
  have hlt:i<ss.length:=by omega
  have hgd:ss.getD i (ByteArray.empty,(([]:List j1b),([]:List j5P)))=ss[i]:=by simp [hlt]
  have h1:=jhq (·.1) hn hlt
  have h2:=jtQ (c:=(zs,(ps,(cs,ss)))) (hc ss[i] (jf hlt))
  rw [j4a]
  simp only [j0q,j8y,j3H]
  rw [j01 (by omega),j1M (by omega) (by omega),j02 (x:=(i:Int)+1) (by omega) (by omega)]
  simp only [j5,j7,hgd,j3,h1,jb,j6]
  rw [show j1k (zs,(ps,(cs,ss))) (ss[i].1,(ss[i].2.1,ss[i].2.2))=_ from h2]
  simp only [j3,jb,j6,j0b]
  exact jt9 hn hc hl n (i+1) (by omega)
structure jbV (c:CfgT):Prop where
 zn:NmL (c.1.map (·.1))
 zc:∀ z∈c.1,ZCk z
 zl:c.1.length≤16
 pn:NmL (c.2.1.map (·.1))
 pc:∀ p∈c.2.1,PCk c.1.length p
 pl:c.2.1.length≤32
 cn:NmL (c.2.2.1.map (·.1))
 cc:∀ x∈c.2.2.1,CCk c.1.length x
 cl:c.2.2.1.length≤8
 sn:NmL (c.2.2.2.map (·.1))
 sc:∀ x∈c.2.2.2,SCk c.1.length c.2.1.length c.2.2.1.length x
 sl:c.2.2.2.length≤12
theorem jea {c:CfgT} (h:jbV c):j23 c=some 0:=by
 have hzl:=h.zl;have hpl:=h.pl;have hcl:=h.cl;have hsl:=h.sl
 have lp:=jt2 (zs:=c.1) (cs:=c.2.2.1) (ss:=c.2.2.2) h.pn h.pc (by omega) c.2.1.length 0 (by omega)
 have ls:=jt9 (zs:=c.1) (ps:=c.2.1) (cs:=c.2.2.1) h.sn h.sc (by omega) c.2.2.2.length 0 (by omega)
 simp only [j23,show Int.ofNat c.1.length=(c.1.length:Int) from rfl,show Int.ofNat c.2.1.length=(c.2.1.length:Int) from rfl,show Int.ofNat c.2.2.1.length=(c.2.2.1.length:Int) from rfl,show Int.ofNat c.2.2.2.length=(c.2.2.2.length:Int) from rfl]
 rw [j00 (show ¬ (c.1.length:Int)>16 by omega),j00 (show ¬ (c.2.1.length:Int)>32 by omega),j00 (show ¬ (c.2.2.1.length:Int)>8 by omega),j00 (show ¬ (c.2.2.2.length:Int)>12 by omega)]
 simp only [j6,jtJ h.zn h.zc (by omega),j3,jb]
 rw [show j35 c.2.1 (c.2.1.length:Int) 0 c.1 c.2.1 c.2.2.1 c.2.2.2 []=_ from lp]
 simp only [j3,j3x,jtM (zs:=c.1) (ps:=c.2.1) (cs:=c.2.2.1) (ss:=c.2.2.2) h.cn h.cc (by omega),jb,j6,j1p,show Int.ofNat c.2.2.2.length=(c.2.2.2.length:Int) from rfl]
 rw [show j0M c.1 c.2.1 c.2.2.1 c.2.2.2 c.2.2.2 (c.2.2.2.length:Int) 0 []=_ from ls]
 rfl
def nmsL:List ByteArray:=[(ByteArray.mk #[97,100,97]),(ByteArray.mk #[98,111,98]),(ByteArray.mk #[99,108,101,111]),(ByteArray.mk #[100,97,110]),(ByteArray.mk #[101,118,101]),(ByteArray.mk #[102,97,121]),(ByteArray.mk #[103,117,115]),(ByteArray.mk #[104,97,108])]
def nmsZ:List ByteArray:=[(ByteArray.mk #[104,101,114,101]),(ByteArray.mk #[116,104,101,114,101])]
theorem jna:jcN=some nmsL:=rfl
theorem jpI:NmL nmsL:=by
 refine ⟨by decide,fun k hk=> ?_⟩
 simp only [nmsL,je,qo,or_false] at hk
 rcases hk with rfl | rfl | rfl | rfl | rfl | rfl | rfl | rfl<;>exact j7b 60 _ true (by kernel_rfl)
theorem jsf:NmL nmsZ:=by
 refine ⟨by decide,fun k hk=> ?_⟩
 simp only [nmsZ,je,qo,or_false] at hk
 rcases hk with rfl | rfl<;>exact j7b 60 _ true (by kernel_rfl)
theorem NmL.take {l:List ByteArray} (h:NmL l) (n:Nat):NmL (l.take n):=⟨h.1.sublist (List.take_sublist n l),fun k hk=>h.2 k (ka hk)⟩
theorem NmL.one {s:ByteArray} (h:j5R s=some true):NmL [s]:=⟨by simp,fun k hk=>by simp at hk;subst hk;exact h⟩
theorem NmL.nil:NmL []:=⟨ze,by simp⟩
theorem jsg:j5R (ByteArray.mk #[100,97,121,115])=some true:=j7b 60 _ true (by kernel_rfl)
theorem jsh:∀ k∈nmsL,(ByteArray.toList k==ByteArray.toList (ByteArray.mk #[110,111,98,111,100,121]))=false:=by
 intro k hk
 simp only [nmsL,je,qo,or_false] at hk
 rcases hk with rfl | rfl | rfl | rfl | rfl | rfl | rfl | rfl<;>kernel_rfl
theorem jqU:((List.range 61).all fun i=>jjW 60 (20440+(i:Int))==some true)=true:=by kernel_rfl
theorem jpJ {d:Int} (h1:20440≤d) (h2:d≤20500):j1e d=some true:=by
 have h:=jj.1 jqU (d-20440).toNat (List.mem_range.2 (by omega))
 rw [show (20440:Int)+(((d-20440).toNat:Nat):Int)=d by omega] at h
 exact j7Y 60 d true (eq_of_beq h)
theorem t60 {x:Int} (h:x%60=0):Int.tmod x 60=0:=by
 have:=jcz x 60
 rw [h] at this
 simpa using this
theorem all2 {P:Rule→Prop} {r s:Rule} (h1:P r) (h2:P s):∀ x∈[r,s],P x:=by
 intro x hx
 simp at hx
 rcases hx with rfl | rfl
 ·exact h1
 ·exact h2
theorem jsi {L:List Int} {a:Int} (h:DOk L a) (nm:ByteArray):∃ o rs a',j3n L a nm=some ((nm,(o,rs)),L,a')∧Int.tmod o 60=0∧∀ r∈rs,Int.tmod r.2.2.2.2.2.2 60=0:=by
 obtain ⟨p,a1,e1,m1,d1⟩:=j6E h (xs:=[(0:Int),(4:Int),(-20:Int),(22:Int),(48:Int),(-47:Int)]) (by simp) (by simp)
 obtain ⟨x2,a2,e2,x20,x21,d2⟩:=j0I (n:=2) d1 (by omega) (by omega)
 obtain ⟨x3,a3,e3,x30,x31,d3⟩:=j0I (n:=3) d2 (by omega) (by omega)
 obtain ⟨y,a4,e4,y0,y1,d4⟩:=j0I (n:=2) d3 (by omega) (by omega)
 obtain ⟨q,a5,e5,q0,q1,d5⟩:=j0I (n:=4) d4 (by omega) (by omega)
 have hp : -47≤p∧p≤48:=by simp at m1;omega
 have hmul:0≤x2*x3∧x2*x3≤2:=by
  obtain rfl | rfl:x2=0∨x2=1:=by omega
  all_goals omega
 have ho0 : -43200≤900*(p+x2*x3):=by omega
 have ho1:900*(p+x2*x3)≤45000:=by omega
 have ho2:(900*(p+x2*x3))%60=0:=by omega
 simp only [j3n,e1,e2,e3,e4,e5,j3]
 rw [j02 (x:=x2*x3) (by omega) (by omega),j02 (x:=p+x2*x3) (by omega) (by omega),j02 (x:=900*(p+x2*x3)) (by omega) (by omega),j02 (x:=2025+y) (by omega) (by omega)]
 generalize 900*(p+x2*x3)=o at *
 generalize 2025+y=last at *
 by_cases hq1:q=1
 ·rw [j9D hq1,j5,j02 (x:=o+3600) (by omega) (by omega)]
  exact ⟨_,_,_,rfl,t60 ho2,all2 (P:=fun r=>Int.tmod r.2.2.2.2.2.2 60=0) (t60 (show (o+3600)%60=0 by omega)) (t60 ho2)⟩
 ·rw [j4u hq1,j6]
  by_cases hq2:q=2
  ·rw [j9D hq2,j5]
   obtain ⟨b1,c1,f1,b10,b11,g1⟩:=j0I (n:=4) d5 (by omega) (by omega)
   obtain ⟨b2,c2,f2,b20,b21,g2⟩:=j0I (n:=7) g1 (by omega) (by omega)
   obtain ⟨b3,c3,f3,b30,b31,g3⟩:=j0I (n:=24) g2 (by omega) (by omega)
   obtain ⟨b4,c4,f4,b40,b41,g4⟩:=j0I (n:=8) g3 (by omega) (by omega)
   obtain ⟨b5,c5,f5,b50,b51,g5⟩:=j0I (n:=2) g4 (by omega) (by omega)
   obtain ⟨b6,c6,f6,m6,g6⟩:=j6E g5 (xs:=[(2:Int),(3:Int),(5:Int)]) (by simp) (by simp)
   obtain ⟨b7,c7,f7,b70,b71,g7⟩:=j0I (n:=7) g6 (by omega) (by omega)
   obtain ⟨b8,c8,f8,b80,b81,g8⟩:=j0I (n:=24) g7 (by omega) (by omega)
   simp only [f1,f2,f3,f4,f5,f6,f7,f8,j3]
   rw [j02 (x:=1+b4) (by omega) (by omega),j02 (x:=1800*(1+b4)) (by omega) (by omega),j02 (x:=o+1800*(1+b4)) (by omega) (by omega)]
   exact ⟨_,_,_,rfl,t60 ho2,all2 (P:=fun r=>Int.tmod r.2.2.2.2.2.2 60=0) (t60 (show (o+1800*(1+b4))%60=0 by omega)) (t60 ho2)⟩
  ·rw [j4u hq2,j6]
   by_cases hq3:q=3
   ·rw [j9D hq3,j5]
    obtain ⟨b1,c1,f1,m1,g1⟩:=j6E d5 (xs:=[(3600:Int),(-3600:Int),(82800:Int),(-82800:Int),(43200:Int)]) (by simp) (by simp)
    obtain ⟨b2,c2,f2,b20,b21,g2⟩:=j0I (n:=7) g1 (by omega) (by omega)
    obtain ⟨b3,c3,f3,b30,b31,g3⟩:=j0I (n:=48) g2 (by omega) (by omega)
    have hb1 : -82800≤b1∧b1≤82800∧b1%60=0:=by simp at m1;omega
    simp only [f1,f2,f3,j3]
    rw [j02 (x:=o+b1) (by omega) (by omega)]
    cases cond (decide (o+b1>64800)) true (decide (o+b1 < -64800)) with
    | true=>exact ⟨_,_,_,rfl,t60 ho2,fun r hr=>by simp at hr;subst hr;rfl⟩
    | false=>exact ⟨_,_,_,rfl,t60 ho2,fun r hr=>by simp at hr;subst hr;exact t60 (by dsimp only;omega)⟩
   ·rw [j4u hq3,j6]
    exact ⟨_,_,_,rfl,t60 ho2,by simp⟩
theorem jqV {L:List Int} {a:Int} (h:DOk L a) (nm:ByteArray):∃ o rs a',j3n L a nm=some ((nm,(o,rs)),L,a')∧MZ o rs∧ZCk (nm,(o,rs))∧DOk L a':=by
 obtain ⟨o,rs,a1,e1,m1,d1⟩:=jse h nm
 obtain ⟨o',rs',a2,e2,m2,m3⟩:=jsi h nm
 have:=e1.symm.trans e2
 simp only [j4,j8,kf] at this
 obtain ⟨⟨rfl,rfl⟩,rfl⟩:=this
 have ht:=(m1.tab nm).1
 have hl:=m1.len
 exact ⟨o,rs,a1,e1,m1,⟨by simp only [j6J,show j1L (nm,(o,rs))=_ from ht,j3],m2,m3,by dsimp only;omega⟩,d1⟩
structure ZInv (zs:List j1T):Prop where
 ok:∀ z∈zs,ZOk z
 ck:∀ z∈zs,ZCk z
 nm:zs.map (·.1)=nmsZ.take zs.length
theorem jjY {l:List ByteArray} {n:Nat} (hn:n<l.length):l.take n++[l.getD n ByteArray.empty]=l.take (n+1):=by
 rw [List.take_add_one,jo hn]
 simp [hn]
theorem jrm {L:List Int}:∀ (n:Nat) (a:Int) (zs:List j1T),DOk L a→zs.length+n≤2→ZInv zs→
  ∃ zs' a',j57 (n:Int) L a zs=some (L,a',zs')∧zs'.length=zs.length+n∧ZInv zs'∧DOk L a'
 | 0,a,zs,hd,_,hz=>by
  rw [j85]
  simp only [j2t]
  rw [j00 (by omega),j6,j0j]
  exact ⟨zs,a,rfl,rfl,hz,hd⟩
 | n+1,a,zs,hd,hl,hz=>by
  obtain ⟨o,rs,a1,e1,m1,k1,d1⟩:=jqV hd (List.getD nmsZ zs.length ByteArray.empty)
  obtain ⟨zs',a',e2,h2,h3,h4⟩:=jrm n a1 (zs++[(List.getD nmsZ zs.length ByteArray.empty,(o,rs))]) d1 (by simp;omega) ⟨fun z hz'=>by
   rcases jp.1 hz' with h | h
   ·exact hz.ok z h
   ·simp at h;subst h;exact m1,fun z hz'=>by
   rcases jp.1 hz' with h | h
   ·exact hz.ck z h
   ·simp at h;subst h;exact k1,by
   rw [qv,hz.nm,ji]
   exact jjY (by show zs.length<2;omega)⟩
  rw [j85]
  simp only [j2t,show Int.ofNat (List.length zs)=(zs.length:Int) from rfl]
  rw [j01 (by omega),j1M (show (0:Int)≤(zs.length:Int) by omega) (by simp;omega)]
  simp only [j5,j7]
  rw [show j3n L a (List.getD [(ByteArray.mk #[104,101,114,101]),(ByteArray.mk #[116,104,101,114,101])] zs.length ByteArray.empty)=_ from e1]
  simp only [j3]
  rw [j01 (by simp [j0m];omega),j02 (x:=((n+1:Nat):Int)-1) (by omega) (by omega)]
  simp only [j5,j0b]
  rw [show ((n+1:Nat):Int)-1=(n:Int) by omega]
  exact ⟨zs',a',e2,by rw [h2];simp;omega,h3,h4⟩
structure PInv (nz:Nat) (ps:List j12):Prop where
 ck:∀ p∈ps,PCk nz p
 nm:ps.map (·.1)=nmsL.take ps.length
theorem jnb {n:Int} (h0:0≤n) (h1:n≤168):j4D (w64 (3600*n))=some true:=by
 rw [j02 (by omega) (by omega)]
 simp only [j4D,jiK (show 0≤3600*n by omega) (show 3600*n≤604800 by omega),j3,j5]
 rw [jcz,j9D (show (3600*n)%3600=0 by omega)]
theorem jpK {L:List Int} {zs:List j1T} (hz0:1≤zs.length) (hz1:zs.length≤100):∀ (n:Nat) (a:Int) (ps:List j12),DOk L a→ps.length+n≤4→PInv zs.length ps→
  ∃ ps' a',j58 (n:Int) L a zs ps=some (L,a',zs,ps')∧ps'.length=ps.length+n∧PInv zs.length ps'∧DOk L a'
 | 0,a,ps,hd,_,hp=>by
  rw [j86]
  simp only [j2u]
  rw [j00 (by omega),j6,j0j]
  exact ⟨ps,a,rfl,rfl,hp,hd⟩
 | n+1,a,ps,hd,hl,hp=>by
  obtain ⟨x,a1,e1,x0,x1,d1⟩:=j0I (n:=(zs.length:Int)) hd (by omega) (by omega)
  obtain ⟨b,a2,e2,d2⟩:=jfv (n:=3) d1 (by omega) (by omega)
  obtain ⟨c,a3,e3,d3⟩:=jfv (n:=2) d2 (by omega) (by omega)
  have hnm:ps.length<nmsL.length:=by show ps.length<8;omega
  have hmem:nmsL.getD ps.length ByteArray.empty∈nmsL:=by
   rw [List.getD_eq_getElem?_getD,jo hnm]
   exact jf hnm
  have ext:∀ (w:WL) (p q:Int),WOk 0 w→w.length≤14→p∈[(0:Int),(40:Int),(100:Int),(12:Int)]→q∈[(0:Int),(11:Int),(24:Int),(1:Int)]→
    PInv zs.length (ps++[(nmsL.getD ps.length ByteArray.empty,(x,(w,(w64 (3600*p),(w64 (3600*q),b)))))]):=by
   intro w p q hw hwl hpm hqm
   have hp':0≤p∧p≤168:=by simp at hpm;omega
   have hq':0≤q∧q≤168:=by simp at hqm;omega
   refine ⟨fun r hr=> ?_,?_⟩
   ·rcases jp.1 hr with h | h
    ·exact hp.ck r h
    ·simp at h;subst h
     exact ⟨jsh _ hmem,x0,x1,hw,hwl,jnb hp'.1 hp'.2,jnb hq'.1 hq'.2⟩
   ·rw [qv,hp.nm,ji]
    exact jjY hnm
  rw [j86]
  simp only [j2u,jna,j3,show Int.ofNat (List.length ps)=(ps.length:Int) from rfl,show Int.ofNat (List.length zs)=(zs.length:Int) from rfl]
  rw [j01 (by omega),j1M (show (0:Int)≤(ps.length:Int) by omega) (by omega)]
  simp only [j5,e1,e2,e3,j3]
  rw [j02 (x:=((n+1:Nat):Int)-1) (by omega) (by omega),show ((n+1:Nat):Int)-1=(n:Int) by omega]
  cases c with
  | true=>
   obtain ⟨w,a4,e4,hw,hwl,d4⟩:=jfu d3
   obtain ⟨p,a5,e5,hpm,d5⟩:=j6E d4 (xs:=[(0:Int),(40:Int),(100:Int),(12:Int)]) (by simp) (by simp)
   obtain ⟨q,a6,e6,hqm,d6⟩:=j6E d5 (xs:=[(0:Int),(11:Int),(24:Int),(1:Int)]) (by simp) (by simp)
   simp only [j5,e4,e5,e6,j3]
   rw [j01 (by simp [j0m];omega)]
   simp only [j5,j0b]
   obtain ⟨ps',a',e,h1,h2,h3⟩:=jpK hz0 hz1 n a6 _ d6 (by simp;omega) (ext w p q hw (by omega) hpm hqm)
   exact ⟨ps',a',e,by rw [h1];simp;omega,h2,h3⟩
  | false=>
   obtain ⟨p,a5,e5,hpm,d5⟩:=j6E d3 (xs:=[(0:Int),(40:Int),(100:Int),(12:Int)]) (by simp) (by simp)
   obtain ⟨q,a6,e6,hqm,d6⟩:=j6E d5 (xs:=[(0:Int),(11:Int),(24:Int),(1:Int)]) (by simp) (by simp)
   simp only [j6,e5,e6,j3]
   rw [j01 (by simp [j0m];omega)]
   simp only [j5,j0b]
   obtain ⟨ps',a',e,h1,h2,h3⟩:=jpK hz0 hz1 n a6 _ d6 (by simp;omega) (ext [] p q (show (0:Int)≤604800 by omega) (by simp) hpm hqm)
   exact ⟨ps',a',e,by rw [h1];simp;omega,h2,h3⟩
def DInv (q:Int) (ds:List Int):Prop:=ds.Pairwise (· < ·)∧∀ d∈ds,20454<d∧d≤q
theorem jrn {L:List Int} {s:Int} {nm:ByteArray} {z:Int} {zs:List j1T} {ps:List j12} {cs:List CalT}:∀ (n:Nat) (a day:Int) (ds:List Int),DOk L a→ds.length+n≤4→20454≤day→day+6*n≤20480→DInv day ds→
  ∃ ds' a',j59 s (n:Int) day L a nm z zs ps cs ds=some (s,L,a',nm,z,zs,ps,cs,ds')∧ds'.length≤4∧DInv 20480 ds'∧DOk L a'
 | 0,a,day,ds,hd,hl,hy,hy2,hi=>by
  rw [j87]
  simp only [j2v]
  rw [j00 (by omega),j6,j0j]
  exact ⟨ds,a,rfl,by omega,⟨hi.1,fun d hd=>by have:=hi.2 d hd;omega⟩,hd⟩
 | n+1,a,day,ds,hd,hl,hy,hy2,hi=>by
  obtain ⟨x,a1,e1,x0,x1,d1⟩:=j0I (n:=6) hd (by omega) (by omega)
  rw [j87]
  simp only [j2v]
  rw [j01 (by omega),j02 (x:=((n+1:Nat):Int)-1) (by omega) (by omega),show ((n+1:Nat):Int)-1=(n:Int) by omega]
  simp only [j5,e1,j3]
  rw [j01 (by simp [j0m];omega),j02 (x:=1+x) (by omega) (by omega),j02 (x:=day+(1+x)) (by omega) (by omega)]
  simp only [j5,j0b]
  refine jrn n a1 _ _ d1 (by simp;omega) (by omega) (by omega) ⟨List.pairwise_append.2 ⟨hi.1,by simp,fun u hu v hv=> ?_⟩,fun d hd=> ?_⟩
  ·simp at hv;subst hv
   have:=hi.2 u hu;omega
  ·rcases jp.1 hd with h | h
   ·have:=hi.2 d h;omega
   ·simp at h;omega
structure CInv (nz:Nat) (cs:List CalT):Prop where
 ck:∀ c∈cs,CCk nz c
 nm:NmL (cs.map (·.1))
 len:cs.length≤1
 dl:∀ c∈cs,c.2.2.length≤4
theorem jta {nz:Nat} {nm:ByteArray} {x:Int} {ds:List Int} (x0:0≤x) (x1:x<nz) (hl:ds.length≤64) (hi:DInv 20480 ds):CCk nz (nm,(x,ds)):=
 ⟨x0,x1,hl,fun d hd=>jpJ (by have:=hi.2 d hd;omega) (by have:=hi.2 d hd;omega),hi.1⟩
structure SOk2 (zs:List j1T) (ps:List j12) (cs:List CalT):Prop where
 so:SOk zs ps cs
 z:ZInv zs
 p:PInv zs.length ps
 c:CInv zs.length cs
theorem jpL {L:List Int} {a:Int} (h:DOk L a):∃ zs ps cs a',j6Y L a=some ((zs,(ps,(cs,([]:List j2E)))),L,a')∧SOk2 zs ps cs∧DOk L a':=by
 obtain ⟨x,a1,e1,x0,x1,d1⟩:=j0I (n:=2) h (by omega) (by omega)
 obtain ⟨zs,a2,e2,l2,k2,d2⟩:=jrm (1+x).toNat a1 [] d1 (by simp;omega) ⟨by simp,by simp,rfl⟩
 obtain ⟨y,a3,e3,y0,y1,d3⟩:=j0I (n:=4) d2 (by omega) (by omega)
 simp at l2
 obtain ⟨ps,a4,e4,l4,k4,d4⟩:=jpK (zs:=zs) (by omega) (by omega) (1+y).toNat a3 [] d3 (by simp;omega) ⟨by simp,rfl⟩
 obtain ⟨q,a5,e5,q0,q1,d5⟩:=j0I (n:=2) d4 (by omega) (by omega)
 simp at l4
 have hcal:∃ cs a',j5a q L a5 zs ps []=some (L,a',zs,ps,cs)∧CInv zs.length cs∧DOk L a':=by
  by_cases hq:q=0
  ·subst hq
   rw [j5w]
   simp only [j1Q]
   rw [j00 (by omega),j6,j0j]
   exact ⟨[],a5,rfl,⟨by simp,NmL.nil,by simp,by simp⟩,d5⟩
  ·have hq1:q=1:=by omega
   subst hq1
   obtain ⟨x,a6,e6,x0,x1,d6⟩:=j0I (n:=(zs.length:Int)) d5 (by omega) (by omega)
   obtain ⟨y,a7,e7,y0,y1,d7⟩:=j0I (n:=4) d6 (by omega) (by omega)
   obtain ⟨ds,a8,e8,l8,k8,d8⟩:=jrn (s:=(1:Int)) (nm:=ByteArray.mk #[100,97,121,115]) (z:=x) (zs:=zs) (ps:=ps) (cs:=[]) y.toNat a7 20454 [] d7 (by simp;omega) (by omega) (by omega) ⟨by simp,by simp⟩
   rw [show ((y.toNat:Nat):Int)=y by omega] at e8
   rw [j5w]
   simp only [j1Q,show Int.ofNat (List.length zs)=(zs.length:Int) from rfl]
   rw [j01 (by omega)]
   simp only [j5,e6,e7,e8,j3]
   rw [j01 (by simp [j0m]),j02 (x:=(1:Int)-1) (by omega) (by omega)]
   simp only [j5,j0b]
   rw [j5w]
   simp only [j1Q]
   rw [j00 (by omega),j6,j0j]
   refine ⟨_,a8,rfl,⟨fun c hc=> ?_,NmL.one jsg,by simp,fun c hc=>by simp at hc;subst hc;exact l8⟩,d8⟩
   simp at hc;subst hc
   exact jta x0 x1 (by omega) k8
 obtain ⟨cs,a6,e6,k6,d6⟩:=hcal
 rw [show (((1+x).toNat:Nat):Int)=1+x by omega] at e2
 rw [show (((1+y).toNat:Nat):Int)=1+y by omega] at e4
 simp only [j6Y,e1,j3]
 rw [j02 (x:=1+x) (by omega) (by omega)]
 simp only [e2,e3,j3]
 rw [j02 (x:=1+y) (by omega) (by omega)]
 simp only [e4,e5,e6,j3]
 exact ⟨zs,ps,cs,a6,rfl,⟨⟨by omega,by omega,k2.ok,by omega,by omega,k6.len⟩,k2,k4,k6⟩,d6⟩
end Go.Proofs.Pw
