/- Chapter 8: configurations that are right. -/
import Derived.Test.YtaieocafhcjelaaGreatBPA
import Derived.Test.YtaieocafhcjelaaGreatBPC
import Derived.Test.YtaieocafhcjelaaGreatBPB
import Derived.KernelRfl
open Go Go.Lft
namespace Go.Proofs.Pw
abbrev j5x:=Int×(Int×(Int×(Int×Int)))
abbrev CfgT:=List j2z×(List j1F×(List CalT×List j2d))
theorem jl9 {n lo hi:Int} (h1:lo≤n) (h2:n≤hi):j6K n lo hi=some true:=by
 simp only [j6K]
 rw [j00 (show n≥lo from h1),j00 h2];rfl
theorem joY {i n:Int} (h1:0≤i) (h2:i<n):j2n i n=some true:=by
 simp only [j2n]
 rw [j00 (show i≥0 from h1),j00 h2];rfl
theorem jxe {i n:Int} (h1:i<0):j2n i n=some false:=by
 simp only [j2n]
 rw [j01 (show ¬ i≥0 by omega)];rfl
structure ZCk (z:j2z):Prop where
 ck:j7T z=some 0
 o60:Int.tmod z.2.1 60=0
 r60:∀ r∈z.2.2,Int.tmod r.2.2.2.2.2.2 60=0
 len:z.2.2.length≤1000
theorem jwi {rs:List Rule} (h:∀ r∈rs,Int.tmod r.2.2.2.2.2.2 60=0) (hl:rs.length≤1000):∀ (n i:Nat),i+n=rs.length→j0l rs (rs.length:Int) (i:Int)=some (.inr ())
 | 0,i,hi=>by
  rw [j2w]
  simp only [j0q]
  rw [j01 (by omega),j6,j0b]
 | n+1,i,hi=>by
  have hlt:i<rs.length:=by omega
  have hgd:rs.getD i ((0:Int),((0:Int),((0:Int),((0:Int),((0:Int),((0:Int),(0:Int)))))))=rs[i]:=by simp [hlt]
  have:=h rs[i] (jh hlt)
  rw [j2w]
  simp only [j0q,j6Y]
  rw [j00 (by omega),j1c (by omega) (by omega),j02 (x:=(i:Int)+1) (by omega) (by omega)]
  simp only [j5,j7,hgd,j3,this,jm,j6,j07]
  exact jwi h hl n (i+1) (by omega)
theorem jxf {z:j2z} (h:ZCk z):j2R z=some 0:=by
 have lp:=jwi h.r60 h.len z.2.2.length 0 (by omega)
 rw [show ((0:Nat):Int)=0 from rfl] at lp
 simp only [j2R,show j7T (z.1,(z.2.1,z.2.2))=_ from h.ck,j3,h.o60,jm,j6,j0m,j0t,show Int.ofNat z.2.2.length=(z.2.2.length:Int) from rfl,lp,j86]
 rfl
theorem jwj {zs:List j2z} (hn:NmL (zs.map (·.1))) (hc:∀ z∈zs,ZCk z) (hl:zs.length≤100):∀ (n i:Nat),i+n=zs.length→j1q zs (zs.length:Int) (i:Int) (jcB ((zs.take i).map (·.1)))=some (.inr ())
 | 0,i,hi=>by
  rw [j69]
  simp only [j0E]
  rw [j01 (by omega),j6,j0b]
 | n+1,i,hi=>by
  have hlt:i<zs.length:=by omega
  have hgd:zs.getD i (ByteArray.empty,((0:Int),([]:List Rule)))=zs[i]:=by simp [hlt]
  have h1:=jjH (·.1) hn hlt
  have h2:=jxf (hc zs[i] (jh hlt))
  rw [j69]
  simp only [j0E,j9K]
  rw [j00 (by omega),j1c (by omega) (by omega),j02 (x:=(i:Int)+1) (by omega) (by omega)]
  simp only [j5,j7,hgd,j3,h1,jm,j6]
  rw [show j2R (zs[i].1,(zs[i].2.1,zs[i].2.2))=_ from h2]
  simp only [j3,jm,j6,j07]
  exact jwj hn hc hl n (i+1) (by omega)
theorem jxg {zs:List j2z} (hn:NmL (zs.map (·.1))) (hc:∀ z∈zs,ZCk z) (hl:zs.length≤100):j23 zs=some 0:=by
 have lp:=jwj hn hc hl zs.length 0 (by omega)
 simp only [j23,show Int.ofNat zs.length=(zs.length:Int) from rfl]
 rw [show j1q zs (zs.length:Int) 0 []=_ from lp]
 rfl
structure PCk (nz:Nat) (p:j1F):Prop where
 nb:(ByteArray.toList p.1==ByteArray.toList (ByteArray.mk #[110,111,98,111,100,121]))=false
 z0:0≤p.2.1
 z1:p.2.1<nz
 w:WOk 0 p.2.2.1
 wl:p.2.2.1.length≤14
 m:j5D p.2.2.2.1=some true
 r:j5D p.2.2.2.2.1=some true
theorem jxh {c:CfgT} {p:j1F} (h:PCk c.1.length p):j1Q c p=some 0:=by
 have hz0:=h.z0;have hz1:=h.z1
 simp only [j1Q,show Int.ofNat c.1.length=(c.1.length:Int) from rfl,joY hz0 hz1,j3,jt,j6,jpU h.w h.wl,jm,h.m,h.r]
theorem jwk {zs:List j2z} {ps:List j1F} {cs:List CalT} {ss:List j2d} (hn:NmL (ps.map (·.1))) (hc:∀ p∈ps,PCk zs.length p) (hl:ps.length≤100):∀ (n i:Nat),i+n=ps.length→j3Q ps (ps.length:Int) (i:Int) zs ps cs ss (jcB ((ps.take i).map (·.1)))=some (.inr (zs,ps,cs,ss))
 | 0,i,hi=>by
  rw [jaF]
  simp only [j1K]
  rw [j01 (by omega),j6,j0b]
 | n+1,i,hi=>by
  have hlt:i<ps.length:=by omega
  have hgd:ps.getD i (ByteArray.empty,((0:Int),(([]:List (Int×Int)),((0:Int),((0:Int),false)))))=ps[i]:=by simp [hlt]
  have h1:=jjH (·.1) hn hlt
  have hp:=hc ps[i] (jh hlt)
  have h2:=jxh (c:=(zs,(ps,(cs,ss)))) hp
  rw [jaF]
  simp only [j1K]
  rw [j00 (by omega),j1c (by omega) (by omega),j02 (x:=(i:Int)+1) (by omega) (by omega)]
  simp only [j5,j7,hgd,j3,h1,hp.nb,zf,j6]
  rw [show j1Q (zs,(ps,(cs,ss))) (ps[i].1,(ps[i].2.1,(ps[i].2.2.1,(ps[i].2.2.2.1,(ps[i].2.2.2.2.1,ps[i].2.2.2.2.2)))))=_ from h2]
  simp only [j3,jm,j6,j07]
  exact jwk hn hc hl n (i+1) (by omega)
structure CCk (nz:Nat) (c:CalT):Prop where
 z0:0≤c.2.1
 z1:c.2.1<nz
 len:c.2.2.length≤64
 day:∀ d∈c.2.2,j1z d=some true
 asc:c.2.2.Pairwise (· < ·)
theorem jwl {ds:List Int} (h:∀ d∈ds,j1z d=some true) (hl:ds.length≤64):∀ (n i:Nat),i+n=ds.length→j1A ds (ds.length:Int) (i:Int)=some (.inr ())
 | 0,i,hi=>by
  rw [j5y]
  simp only [j0x]
  rw [j01 (by omega),j6,j0b]
 | n+1,i,hi=>by
  have hlt:i<ds.length:=by omega
  have hgd:ds.getD i (0:Int)=ds[i]:=by simp [hlt]
  have:=h ds[i] (jh hlt)
  rw [j5y]
  simp only [j0x,j28]
  rw [j00 (by omega),j1c (by omega) (by omega),j02 (x:=(i:Int)+1) (by omega) (by omega)]
  simp only [j5,j7,hgd,this,j3,jt,j6,j07]
  exact jwl h hl n (i+1) (by omega)
theorem jwm {nm:ByteArray} {z:Int} {ds:List Int} (h:ds.Pairwise (· < ·)) (hl:ds.length≤64):∀ (n i:Nat),i+n=ds.length→j2a (ds.length:Int) (i:Int) nm z ds=some (.inr ())
 | 0,i,hi=>by
  rw [j6q]
  simp only [j1U]
  rw [j01 (by omega),j6,j0b]
 | n+1,i,hi=>by
  have hlt:i<ds.length:=by omega
  have hgd:ds.getD i (0:Int)=ds[i]:=by simp [hlt]
  have ih:=jwm (nm:=nm) (z:=z) h hl n (i+1) (by omega)
  rw [j6q]
  simp only [j1U]
  rw [j00 (by omega),j1c (i:=(i:Int)) (by omega) (by omega),j02 (x:=(i:Int)+1) (by omega) (by omega)]
  simp only [j5,j7,hgd]
  by_cases h0:i=0
  ·subst h0
   rw [j01 (by omega),j6,j07]
   exact ih
  ·have hj:i-1<ds.length:=by omega
   have hgj:ds.getD (i-1) (0:Int)=ds[i-1]:=by simp [hj]
   have hp:ds[i-1]<ds[i]:=kv.1 h (i-1) i hj hlt (by omega)
   rw [j00 (show (i:Int)>0 by omega),j02 (x:=(i:Int)-1) (by omega) (by omega),j1c (i:=(i:Int)-1) (by omega) (by omega),show ((i:Int)-1).toNat=i-1 by omega,hgj,j01 (show ¬ ds[i]≤ds[i-1] by omega)]
   simp only [j5,j6,j07]
   exact ih
theorem jxi {c:CfgT} {x:CalT} (h:CCk c.1.length x):j1I c x=some 0:=by
 have hz0:=h.z0;have hz1:=h.z1;have hl:=h.len
 have l1:=jwl h.day hl x.2.2.length 0 (by omega)
 have l2:=jwm (nm:=x.1) (z:=x.2.1) h.asc hl x.2.2.length 0 (by omega)
 rw [show ((0:Nat):Int)=0 from rfl] at l1 l2
 simp only [j1I,show Int.ofNat c.1.length=(c.1.length:Int) from rfl,show Int.ofNat x.2.2.length=(x.2.2.length:Int) from rfl,joY hz0 hz1,j3,jt,j6,j1B,j29,l1,l2,j86]
 rw [j01 (by omega)]
 rfl
theorem jwn {zs:List j2z} {ps:List j1F} {cs:List CalT} {ss:List j2d} (hn:NmL (cs.map (·.1))) (hc:∀ x∈cs,CCk zs.length x) (hl:cs.length≤100):∀ (n i:Nat),i+n=cs.length→j0V zs ps cs ss cs (cs.length:Int) (i:Int) (jcB ((cs.take i).map (·.1)))=some (.inr ())
 | 0,i,hi=>by
  rw [j57]
  simp only [j0r]
  rw [j01 (by omega),j6,j0b]
 | n+1,i,hi=>by
  have hlt:i<cs.length:=by omega
  have hgd:cs.getD i (ByteArray.empty,((0:Int),([]:List Int)))=cs[i]:=by simp [hlt]
  have h1:=jjH (·.1) hn hlt
  have h2:=jxi (c:=(zs,(ps,(cs,ss)))) (hc cs[i] (jh hlt))
  rw [j57]
  simp only [j0r,j9M,j4A]
  rw [j00 (by omega),j1c (by omega) (by omega),j02 (x:=(i:Int)+1) (by omega) (by omega)]
  simp only [j5,j7,hgd,j3,h1,jm,j6]
  rw [show j1I (zs,(ps,(cs,ss))) (cs[i].1,(cs[i].2.1,cs[i].2.2))=_ from h2]
  simp only [j3,jm,j6,j07]
  exact jwn hn hc hl n (i+1) (by omega)
theorem jxj {zs:List j2z} {ps:List j1F} {cs:List CalT} {ss:List j2d} (hn:NmL (cs.map (·.1))) (hc:∀ x∈cs,CCk zs.length x) (hl:cs.length≤100):j1e cs zs ps cs ss=some 0:=by
 have lp:=jwn (ps:=ps) (ss:=ss) hn hc hl cs.length 0 (by omega)
 simp only [j1e,show Int.ofNat cs.length=(cs.length:Int) from rfl]
 rw [show j0V zs ps cs ss cs (cs.length:Int) 0 []=_ from lp]
 rfl
structure LCk (nz np nc:Nat) (l:j0Q):Prop where
 z0:0≤l.2.1
 z1:l.2.1<nz
 d0:1≤l.2.2.1.1
 day:j1z l.2.2.1.1=some true
 c0:0≤l.2.2.1.2
 c1:l.2.2.1.2≤86399
 u0:0≤l.2.2.2.1
 u1:l.2.2.2.1≤2
 e0:1≤l.2.2.2.2.1
 e1:l.2.2.2.2.1≤400
 m0:l.2.2.2.2.2.1.length≠0
 m1:l.2.2.2.2.2.1.length≤12
 mem:∀ m∈l.2.2.2.2.2.1,0≤m∧m<(np:Int)
 w:WOk 0 l.2.2.2.2.2.2.1
 wl:l.2.2.2.2.2.2.1.length≤14
 mode0:0≤l.2.2.2.2.2.2.2.2
 mode1:l.2.2.2.2.2.2.2.2≤2
 cal:l.2.2.2.2.2.2.2.2≠0→0≤l.2.2.2.2.2.2.2.1∧l.2.2.2.2.2.2.2.1<(nc:Int)
 cal0:l.2.2.2.2.2.2.2.2=0→l.2.2.2.2.2.2.2.1=0
theorem jwo {zs:List j2z} {ps:List j1F} {cs:List CalT} {ss:List j2d} {ms:List Int} (h:∀ m∈ms,0≤m∧m<(ps.length:Int)) (hl:ms.length≤12):∀ (n i:Nat),i+n=ms.length→j15 ms zs ps cs ss (ms.length:Int) (i:Int)=some (.inr ())
 | 0,i,hi=>by
  rw [j4G]
  simp only [j10]
  rw [j01 (by omega),j6,j0b]
 | n+1,i,hi=>by
  have hlt:i<ms.length:=by omega
  have hgd:ms.getD i (0:Int)=ms[i]:=by simp [hlt]
  have hm:=h ms[i] (jh hlt)
  rw [j4G]
  simp only [j10,j6r,show Int.ofNat ps.length=(ps.length:Int) from rfl]
  rw [j00 (by omega),j1c (by omega) (by omega),j02 (x:=(i:Int)+1) (by omega) (by omega)]
  simp only [j5,j7,hgd,joY hm.1 hm.2,j3,jt,j6,j07]
  exact jwo h hl n (i+1) (by omega)
theorem jxk {c:CfgT} {l:j0Q} (h:LCk c.1.length c.2.1.length c.2.2.1.length l):j2x c l=some 0:=by
 have hz0:=h.z0;have hz1:=h.z1;have hd0:=h.d0;have hm0:=h.m0;have hm1:=h.m1
 have l1:=jwo (zs:=c.1) (cs:=c.2.2.1) (ss:=c.2.2.2) h.mem hm1 l.2.2.2.2.2.1.length 0 (by omega)
 rw [show ((0:Nat):Int)=0 from rfl] at l1
 simp only [j2x,show Int.ofNat c.1.length=(c.1.length:Int) from rfl,show Int.ofNat l.2.2.2.2.2.1.length=(l.2.2.2.2.2.1.length:Int) from rfl,show Int.ofNat c.2.2.1.length=(c.2.2.1.length:Int) from rfl,joY hz0 hz1,j3,jt,j6,h.day,jl9 h.c0 h.c1,jl9 h.u0 h.u1,jl9 h.e0 h.e1,jl9 h.mode0 h.mode1,
  j16,j1C,l1,j86,jpU h.w h.wl,jm]
 rw [j01 (show ¬ l.2.2.1.1<1 by omega),j3V (show ¬ (l.2.2.2.2.2.1.length:Int)=0 by omega),j01 (show ¬ (l.2.2.2.2.2.1.length:Int)>12 by omega),j01 (show ¬ (-1:Int)≥0 by omega)]
 simp only [j6]
 by_cases hmd:l.2.2.2.2.2.2.2.2=0
 ·rw [hmd,h.cal0 hmd];rfl
 ·have hc:=h.cal hmd
  rw [show (l.2.2.2.2.2.2.2.2 != 0)=true by simp [hmd],j3V hmd,j5,joY hc.1 hc.2]
  rfl
theorem jwp {zs:List j2z} {ps:List j1F} {cs:List CalT} {ss:List j2d} {ls:List j0Q} (hn:NmL (ls.map (·.1))) (hc:∀ x∈ls,LCk zs.length ps.length cs.length x) (hl:ls.length≤100):∀ (n i:Nat),i+n=ls.length→j1f zs ps cs ss ls (ls.length:Int) (i:Int) (jcB ((ls.take i).map (·.1)))=some (.inr ())
 | 0,i,hi=>by
  rw [j5T]
  simp only [j0C]
  rw [j01 (by omega),j6,j0b]
 | n+1,i,hi=>by
  have hlt:i<ls.length:=by omega
  have hgd:ls.getD i (ByteArray.empty,((0:Int),(((0:Int),(0:Int)),((0:Int),((0:Int),(([]:(List Int)),(([]:(List (Int×Int))),((0:Int),(0:Int)))))))))=ls[i]:=by simp [hlt]
  have h1:=jjH (·.1) hn hlt
  have h2:=jxk (c:=(zs,(ps,(cs,ss)))) (hc ls[i] (jh hlt))
  rw [j5T]
  simp only [j0C,j5h,j2b]
  rw [j00 (by omega),j1c (by omega) (by omega),j02 (x:=(i:Int)+1) (by omega) (by omega)]
  simp only [j5,j7,hgd,j3,h1,jm,j6]
  rw [show j2x (zs,(ps,(cs,ss))) (ls[i].1,ls[i].2.1,(ls[i].2.2.1.1,ls[i].2.2.1.2),ls[i].2.2.2.1,ls[i].2.2.2.2.1,ls[i].2.2.2.2.2.1,ls[i].2.2.2.2.2.2.1,ls[i].2.2.2.2.2.2.2.1,ls[i].2.2.2.2.2.2.2.2)=_ from h2]
  simp only [j3,jm,j6,j07]
  exact jwp hn hc hl n (i+1) (by omega)
theorem jxl {zs:List j2z} {ps:List j1F} {cs:List CalT} {ss:List j2d} {ls:List j0Q} (hn:NmL (ls.map (·.1))) (hc:∀ x∈ls,LCk zs.length ps.length cs.length x) (hl:ls.length≤100):j1R ls zs ps cs ss=some 0:=by
 have lp:=jwp (ss:=ss) hn hc hl ls.length 0 (by omega)
 simp only [j1R,show Int.ofNat ls.length=(ls.length:Int) from rfl]
 rw [show j1f zs ps cs ss ls (ls.length:Int) 0 []=_ from lp]
 rfl
structure ECk (np:Nat) (x:j5x):Prop where
 k0:0≤x.1
 k1:x.1≤2
 a:0≤x.2.1∧x.2.1<(np:Int)∨x.1=1∧x.2.1 = -1
 b:x.1=2→0≤x.2.2.1∧x.2.2.1<(np:Int)∧x.2.1≠x.2.2.1
 b0:x.1≠2→x.2.2.1=0
 f0:0≤x.2.2.2.1
 ft:x.2.2.2.1<x.2.2.2.2
 t1:x.2.2.2.2≤1000000000000
 day:j1z (Int.tdiv x.2.2.2.2 86400)=some true
theorem jxm {c:CfgT} {x:j5x} (h:ECk c.2.1.length x):j2S c x=some 0:=by
 have hf0:=h.f0;have hft:=h.ft;have ht1:=h.t1;have hday:=h.day
 have hdv:w64 (Int.tdiv x.2.2.2.2 86400)=Int.tdiv x.2.2.2.2 86400:=by
  rw [jmc (by omega)]
  exact j02 (by omega) (by omega)
 simp only [j2S,show Int.ofNat c.2.1.length=(c.2.1.length:Int) from rfl,jl9 h.k0 h.k1,j3,jt,j6,hdv,hday]
 rw [j01 (show ¬ x.2.2.2.1<0 by omega),j01 (show ¬ x.2.2.2.2<0 by omega),j01 (show ¬ x.2.2.2.1≥x.2.2.2.2 by omega)]
 simp only [j6]
 have hA:∃ b,j2n x.2.1 (c.2.1.length:Int)=some b∧cond (!b) (!(cond (x.1==(1:Int)) (x.2.1==(-1:Int)) false)) false=false:=by
  rcases h.a with ⟨a1,a2⟩ | ⟨a1,a2⟩
  ·exact ⟨true,joY a1 a2,rfl⟩
  ·exact ⟨false,jxe (by omega),by rw [a1,a2];rfl⟩
 obtain ⟨b,e1,e2⟩:=hA
 rw [e1]
 simp only [j3,e2,j6]
 by_cases h2:x.1=2
 ·obtain ⟨b1,b2,b3⟩:=h.b h2
  rw [j7g h2,j5,joY b1 b2,show (x.1 != 2)=false by rw [h2];rfl,j3V b3]
  rfl
 ·rw [j3V h2,j6,show (x.1 != 2)=true by simp [h2],h.b0 h2]
  rfl
theorem jwq {zs:List j2z} {ps:List j1F} {cs:List CalT} {ss:List j2d} {es:List j5x} (hc:∀ x∈es,ECk ps.length x) (hl:es.length≤48):∀ (n i:Nat),i+n=es.length→j2c es (es.length:Int) (i:Int) zs ps cs ss=some (.inr ())
 | 0,i,hi=>by
  rw [j6s]
  simp only [j0J]
  rw [j01 (by omega),j6,j0b]
 | n+1,i,hi=>by
  have hlt:i<es.length:=by omega
  have hgd:es.getD i ((0:Int),((0:Int),((0:Int),((0:Int),(0:Int)))))=es[i]:=by simp [hlt]
  have h2:=jxm (c:=(zs,(ps,(cs,ss)))) (hc es[i] (jh hlt))
  rw [j6s]
  simp only [j0J]
  rw [j00 (by omega),j1c (by omega) (by omega),j02 (x:=(i:Int)+1) (by omega) (by omega)]
  simp only [j5,j7,hgd]
  rw [show j2S (zs,(ps,(cs,ss))) (es[i].1,es[i].2.1,es[i].2.2.1,es[i].2.2.2.1,es[i].2.2.2.2)=_ from h2]
  simp only [j3,jm,j6,j07]
  exact jwq hc hl n (i+1) (by omega)
structure SCk (nz np nc:Nat) (s:j2d):Prop where
 nm:NmL (s.2.1.map (·.1))
 ly:∀ x∈s.2.1,LCk nz np nc x
 ll:s.2.1.length≤6
 ed:∀ x∈s.2.2,ECk np x
 el:s.2.2.length≤48
theorem jxn {c:CfgT} {s:j2d} (h:SCk c.1.length c.2.1.length c.2.2.1.length s):j1J c s=some 0:=by
 have hll:=h.ll;have hel:=h.el
 have lp:=jwq (zs:=c.1) (ps:=c.2.1) (cs:=c.2.2.1) (ss:=c.2.2.2) h.ed hel s.2.2.length 0 (by omega)
 rw [show ((0:Nat):Int)=0 from rfl] at lp
 simp only [j1J,show Int.ofNat s.2.1.length=(s.2.1.length:Int) from rfl,show Int.ofNat s.2.2.length=(s.2.2.length:Int) from rfl]
 rw [j01 (show ¬ (s.2.1.length:Int)>6 by omega),j01 (show ¬ (s.2.2.length:Int)>48 by omega)]
 simp only [j6,jxl (zs:=c.1) (ps:=c.2.1) (cs:=c.2.2.1) (ss:=c.2.2.2) h.nm h.ly (by omega),j3,jm,lp,j86]
theorem jwr {zs:List j2z} {ps:List j1F} {cs:List CalT} {ss:List j2d} (hn:NmL (ss.map (·.1))) (hc:∀ x∈ss,SCk zs.length ps.length cs.length x) (hl:ss.length≤100):∀ (n i:Nat),i+n=ss.length→j0W zs ps cs ss ss (ss.length:Int) (i:Int) (jcB ((ss.take i).map (·.1)))=some (.inr ())
 | 0,i,hi=>by
  rw [j58]
  simp only [j0s]
  rw [j01 (by omega),j6,j0b]
 | n+1,i,hi=>by
  have hlt:i<ss.length:=by omega
  have hgd:ss.getD i (ByteArray.empty,(([]:List j0Q),([]:List j5x)))=ss[i]:=by simp [hlt]
  have h1:=jjH (·.1) hn hlt
  have h2:=jxn (c:=(zs,(ps,(cs,ss)))) (hc ss[i] (jh hlt))
  rw [j58]
  simp only [j0s,j9N,j4B]
  rw [j00 (by omega),j1c (by omega) (by omega),j02 (x:=(i:Int)+1) (by omega) (by omega)]
  simp only [j5,j7,hgd,j3,h1,jm,j6]
  rw [show j1J (zs,(ps,(cs,ss))) (ss[i].1,(ss[i].2.1,ss[i].2.2))=_ from h2]
  simp only [j3,jm,j6,j07]
  exact jwr hn hc hl n (i+1) (by omega)
structure jms (c:CfgT):Prop where
 zn:NmL (c.1.map (·.1))
 zc:∀ z∈c.1,ZCk z
 zl:c.1.length≤16
 pn:NmL (c.2.1.map (·.1))
 pc:∀ p∈c.2.1,PCk c.1.length p
 pl:c.2.1.length≤32
 cn:NmL (c.2.2.1.map (·.1))
 cc:∀ x∈c.2.2.1,CCk c.1.length x
 cl:c.2.2.1.length≤8
 sn:NmL (c.2.2.2.map (·.1))
 sc:∀ x∈c.2.2.2,SCk c.1.length c.2.1.length c.2.2.1.length x
 sl:c.2.2.2.length≤12
theorem joZ {c:CfgT} (h:jms c):j4H c=some 0:=by
 have hzl:=h.zl;have hpl:=h.pl;have hcl:=h.cl;have hsl:=h.sl
 have lp:=jwk (zs:=c.1) (cs:=c.2.2.1) (ss:=c.2.2.2) h.pn h.pc (by omega) c.2.1.length 0 (by omega)
 have ls:=jwr (zs:=c.1) (ps:=c.2.1) (cs:=c.2.2.1) h.sn h.sc (by omega) c.2.2.2.length 0 (by omega)
 simp only [j4H,show Int.ofNat c.1.length=(c.1.length:Int) from rfl,show Int.ofNat c.2.1.length=(c.2.1.length:Int) from rfl,show Int.ofNat c.2.2.1.length=(c.2.2.1.length:Int) from rfl,show Int.ofNat c.2.2.2.length=(c.2.2.2.length:Int) from rfl]
 rw [j01 (show ¬ (c.1.length:Int)>16 by omega),j01 (show ¬ (c.2.1.length:Int)>32 by omega),j01 (show ¬ (c.2.2.1.length:Int)>8 by omega),j01 (show ¬ (c.2.2.2.length:Int)>12 by omega)]
 simp only [j6,jxg h.zn h.zc (by omega),j3,jm]
 rw [show j3Q c.2.1 (c.2.1.length:Int) 0 c.1 c.2.1 c.2.2.1 c.2.2.2 []=_ from lp]
 simp only [j3,j86,jxj (zs:=c.1) (ps:=c.2.1) (cs:=c.2.2.1) (ss:=c.2.2.2) h.cn h.cc (by omega),jm,j6,j1P,show Int.ofNat c.2.2.2.length=(c.2.2.2.length:Int) from rfl]
 rw [show j0W c.1 c.2.1 c.2.2.1 c.2.2.2 c.2.2.2 (c.2.2.2.length:Int) 0 []=_ from ls]
 rfl
def nmsL:List ByteArray:=[(ByteArray.mk #[97,100,97]),(ByteArray.mk #[98,111,98]),(ByteArray.mk #[99,108,101,111]),(ByteArray.mk #[100,97,110]),(ByteArray.mk #[101,118,101]),(ByteArray.mk #[102,97,121]),(ByteArray.mk #[103,117,115]),(ByteArray.mk #[104,97,108])]
def nmsZ:List ByteArray:=[(ByteArray.mk #[104,101,114,101]),(ByteArray.mk #[116,104,101,114,101])]
theorem jpV:jeE=some nmsL:=rfl
theorem jsh:NmL nmsL:=by
 refine ⟨by decide,fun k hk=> ?_⟩
 simp only [nmsL,jd,qt,or_false] at hk
 rcases hk with rfl | rfl | rfl | rfl | rfl | rfl | rfl | rfl<;>exact j8s 60 _ true (by kernel_rfl)
theorem jvg:NmL nmsZ:=by
 refine ⟨by decide,fun k hk=> ?_⟩
 simp only [nmsZ,jd,qt,or_false] at hk
 rcases hk with rfl | rfl<;>exact j8s 60 _ true (by kernel_rfl)
theorem NmL.take {l:List ByteArray} (h:NmL l) (n:Nat):NmL (l.take n):=⟨h.1.sublist (List.take_sublist n l),fun k hk=>h.2 k (q7 hk)⟩
theorem NmL.one {s:ByteArray} (h:j7S s=some true):NmL [s]:=⟨by simp,fun k hk=>by simp at hk;subst hk;exact h⟩
theorem NmL.nil:NmL []:=⟨zb,by simp⟩
theorem jvh:j7S (ByteArray.mk #[100,97,121,115])=some true:=j8s 60 _ true (by kernel_rfl)
theorem jvi:∀ k∈nmsL,(ByteArray.toList k==ByteArray.toList (ByteArray.mk #[110,111,98,111,100,121]))=false:=by
 intro k hk
 simp only [nmsL,jd,qt,or_false] at hk
 rcases hk with rfl | rfl | rfl | rfl | rfl | rfl | rfl | rfl<;>kernel_rfl
theorem jtM:((List.range 61).all fun i=>jmp 60 (20440+(i:Int))==some true)=true:=by kernel_rfl
theorem jsi {d:Int} (h1:20440≤d) (h2:d≤20500):j1z d=some true:=by
 have h:=jr.1 jtM (d-20440).toNat (List.mem_range.2 (by omega))
 rw [show (20440:Int)+(((d-20440).toNat:Nat):Int)=d by omega] at h
 exact j9k 60 d true (eq_of_beq h)
theorem t60 {x:Int} (h:x%60=0):Int.tmod x 60=0:=by
 have:=jeg x 60
 rw [h] at this
 simpa using this
theorem all2 {P:Rule→Prop} {r s:Rule} (h1:P r) (h2:P s):∀ x∈[r,s],P x:=by
 intro x hx
 simp at hx
 rcases hx with rfl | rfl
 ·exact h1
 ·exact h2
theorem jvj {L:List Int} {a:Int} (h:DOk L a) (nm:ByteArray):∃ o rs a',j4e L a nm=some ((nm,(o,rs)),L,a')∧Int.tmod o 60=0∧∀ r∈rs,Int.tmod r.2.2.2.2.2.2 60=0:=by
 obtain ⟨p,a1,e1,m1,d1⟩:=j7O h (xs:=[(0:Int),(4:Int),(-20:Int),(22:Int),(48:Int),(-47:Int)]) (by simp) (by simp)
 obtain ⟨x2,a2,e2,x20,x21,d2⟩:=j0O (n:=2) d1 (by omega) (by omega)
 obtain ⟨x3,a3,e3,x30,x31,d3⟩:=j0O (n:=3) d2 (by omega) (by omega)
 obtain ⟨y,a4,e4,y0,y1,d4⟩:=j0O (n:=2) d3 (by omega) (by omega)
 obtain ⟨q,a5,e5,q0,q1,d5⟩:=j0O (n:=4) d4 (by omega) (by omega)
 have hp : -47≤p∧p≤48:=by simp at m1;omega
 have hmul:0≤x2*x3∧x2*x3≤2:=by
  obtain rfl | rfl:x2=0∨x2=1:=by omega
  all_goals omega
 have ho0 : -43200≤900*(p+x2*x3):=by omega
 have ho1:900*(p+x2*x3)≤45000:=by omega
 have ho2:(900*(p+x2*x3))%60=0:=by omega
 simp only [j4e,e1,e2,e3,e4,e5,j3]
 rw [j02 (x:=x2*x3) (by omega) (by omega),j02 (x:=p+x2*x3) (by omega) (by omega),j02 (x:=900*(p+x2*x3)) (by omega) (by omega),j02 (x:=2025+y) (by omega) (by omega)]
 generalize 900*(p+x2*x3)=o at *
 generalize 2025+y=last at *
 by_cases hq1:q=1
 ·rw [j7g hq1,j5,j02 (x:=o+3600) (by omega) (by omega)]
  exact ⟨_,_,_,rfl,t60 ho2,all2 (P:=fun r=>Int.tmod r.2.2.2.2.2.2 60=0) (t60 (show (o+3600)%60=0 by omega)) (t60 ho2)⟩
 ·rw [j3V hq1,j6]
  by_cases hq2:q=2
  ·rw [j7g hq2,j5]
   obtain ⟨b1,c1,f1,b10,b11,g1⟩:=j0O (n:=4) d5 (by omega) (by omega)
   obtain ⟨b2,c2,f2,b20,b21,g2⟩:=j0O (n:=7) g1 (by omega) (by omega)
   obtain ⟨b3,c3,f3,b30,b31,g3⟩:=j0O (n:=24) g2 (by omega) (by omega)
   obtain ⟨b4,c4,f4,b40,b41,g4⟩:=j0O (n:=8) g3 (by omega) (by omega)
   obtain ⟨b5,c5,f5,b50,b51,g5⟩:=j0O (n:=2) g4 (by omega) (by omega)
   obtain ⟨b6,c6,f6,m6,g6⟩:=j7O g5 (xs:=[(2:Int),(3:Int),(5:Int)]) (by simp) (by simp)
   obtain ⟨b7,c7,f7,b70,b71,g7⟩:=j0O (n:=7) g6 (by omega) (by omega)
   obtain ⟨b8,c8,f8,b80,b81,g8⟩:=j0O (n:=24) g7 (by omega) (by omega)
   simp only [f1,f2,f3,f4,f5,f6,f7,f8,j3]
   rw [j02 (x:=1+b4) (by omega) (by omega),j02 (x:=1800*(1+b4)) (by omega) (by omega),j02 (x:=o+1800*(1+b4)) (by omega) (by omega)]
   exact ⟨_,_,_,rfl,t60 ho2,all2 (P:=fun r=>Int.tmod r.2.2.2.2.2.2 60=0) (t60 (show (o+1800*(1+b4))%60=0 by omega)) (t60 ho2)⟩
  ·rw [j3V hq2,j6]
   by_cases hq3:q=3
   ·rw [j7g hq3,j5]
    obtain ⟨b1,c1,f1,m1,g1⟩:=j7O d5 (xs:=[(3600:Int),(-3600:Int),(82800:Int),(-82800:Int),(43200:Int)]) (by simp) (by simp)
    obtain ⟨b2,c2,f2,b20,b21,g2⟩:=j0O (n:=7) g1 (by omega) (by omega)
    obtain ⟨b3,c3,f3,b30,b31,g3⟩:=j0O (n:=48) g2 (by omega) (by omega)
    have hb1 : -82800≤b1∧b1≤82800∧b1%60=0:=by simp at m1;omega
    simp only [f1,f2,f3,j3]
    rw [j02 (x:=o+b1) (by omega) (by omega)]
    cases cond (decide (o+b1>64800)) true (decide (o+b1 < -64800)) with
    | true=>exact ⟨_,_,_,rfl,t60 ho2,fun r hr=>by simp at hr;subst hr;rfl⟩
    | false=>exact ⟨_,_,_,rfl,t60 ho2,fun r hr=>by simp at hr;subst hr;exact t60 (by dsimp only;omega)⟩
   ·rw [j3V hq3,j6]
    exact ⟨_,_,_,rfl,t60 ho2,by simp⟩
theorem jtN {L:List Int} {a:Int} (h:DOk L a) (nm:ByteArray):∃ o rs a',j4e L a nm=some ((nm,(o,rs)),L,a')∧MZ o rs∧ZCk (nm,(o,rs))∧DOk L a':=by
 obtain ⟨o,rs,a1,e1,m1,d1⟩:=jvf h nm
 obtain ⟨o',rs',a2,e2,m2,m3⟩:=jvj h nm
 have:=e1.symm.trans e2
 simp only [j4,j8,qb] at this
 obtain ⟨⟨rfl,rfl⟩,rfl⟩:=this
 have ht:=(m1.tab nm).1
 have hl:=m1.len
 exact ⟨o,rs,a1,e1,m1,⟨by simp only [j7T,show j2m (nm,(o,rs))=_ from ht,j3],m2,m3,by dsimp only;omega⟩,d1⟩
structure ZInv (zs:List j2z):Prop where
 ok:∀ z∈zs,ZOk z
 ck:∀ z∈zs,ZCk z
 nm:zs.map (·.1)=nmsZ.take zs.length
theorem jmt {l:List ByteArray} {n:Nat} (hn:n<l.length):l.take n++[l.getD n ByteArray.empty]=l.take (n+1):=by
 rw [ko,ji hn]
 simp [hn]
theorem jul {L:List Int}:∀ (n:Nat) (a:Int) (zs:List j2z),DOk L a→zs.length+n≤2→ZInv zs→
  ∃ zs' a',j6c (n:Int) L a zs=some (L,a',zs')∧zs'.length=zs.length+n∧ZInv zs'∧DOk L a'
 | 0,a,zs,hd,_,hz=>by
  rw [j9y]
  simp only [j37]
  rw [j01 (by omega),j6,j0b]
  exact ⟨zs,a,rfl,rfl,hz,hd⟩
 | n+1,a,zs,hd,hl,hz=>by
  obtain ⟨o,rs,a1,e1,m1,k1,d1⟩:=jtN hd (List.getD nmsZ zs.length ByteArray.empty)
  obtain ⟨zs',a',e2,h2,h3,h4⟩:=jul n a1 (zs++[(List.getD nmsZ zs.length ByteArray.empty,(o,rs))]) d1 (by simp;omega) ⟨fun z hz'=>by
   rcases jq.1 hz' with h | h
   ·exact hz.ok z h
   ·simp at h;subst h;exact m1,fun z hz'=>by
   rcases jq.1 hz' with h | h
   ·exact hz.ck z h
   ·simp at h;subst h;exact k1,by
   rw [zm,hz.nm,jf]
   exact jmt (by show zs.length<2;omega)⟩
  rw [j9y]
  simp only [j37,show Int.ofNat (List.length zs)=(zs.length:Int) from rfl]
  rw [j00 (by omega),j1c (show (0:Int)≤(zs.length:Int) by omega) (by simp;omega)]
  simp only [j5,j7]
  rw [show j4e L a (List.getD [(ByteArray.mk #[104,101,114,101]),(ByteArray.mk #[116,104,101,114,101])] zs.length ByteArray.empty)=_ from e1]
  simp only [j3]
  rw [j00 (by simp [j06];omega),j02 (x:=((n+1:Nat):Int)-1) (by omega) (by omega)]
  simp only [j5,j07]
  rw [show ((n+1:Nat):Int)-1=(n:Int) by omega]
  exact ⟨zs',a',e2,by rw [h2];simp;omega,h3,h4⟩
structure PInv (nz:Nat) (ps:List j1F):Prop where
 ck:∀ p∈ps,PCk nz p
 nm:ps.map (·.1)=nmsL.take ps.length
theorem jpW {n:Int} (h0:0≤n) (h1:n≤168):j5D (w64 (3600*n))=some true:=by
 rw [j02 (by omega) (by omega)]
 simp only [j5D,jl9 (show 0≤3600*n by omega) (show 3600*n≤604800 by omega),j3,j5]
 rw [jeg,j7g (show (3600*n)%3600=0 by omega)]
theorem jsj {L:List Int} {zs:List j2z} (hz0:1≤zs.length) (hz1:zs.length≤100):∀ (n:Nat) (a:Int) (ps:List j1F),DOk L a→ps.length+n≤4→PInv zs.length ps→
  ∃ ps' a',j6d (n:Int) L a zs ps=some (L,a',zs,ps')∧ps'.length=ps.length+n∧PInv zs.length ps'∧DOk L a'
 | 0,a,ps,hd,_,hp=>by
  rw [j9z]
  simp only [j38]
  rw [j01 (by omega),j6,j0b]
  exact ⟨ps,a,rfl,rfl,hp,hd⟩
 | n+1,a,ps,hd,hl,hp=>by
  obtain ⟨x,a1,e1,x0,x1,d1⟩:=j0O (n:=(zs.length:Int)) hd (by omega) (by omega)
  obtain ⟨b,a2,e2,d2⟩:=jhD (n:=3) d1 (by omega) (by omega)
  obtain ⟨c,a3,e3,d3⟩:=jhD (n:=2) d2 (by omega) (by omega)
  have hnm:ps.length<nmsL.length:=by show ps.length<8;omega
  have hmem:nmsL.getD ps.length ByteArray.empty∈nmsL:=by
   rw [List.getD_eq_getElem?_getD,ji hnm]
   exact jh hnm
  have ext:∀ (w:WL) (p q:Int),WOk 0 w→w.length≤14→p∈[(0:Int),(40:Int),(100:Int),(12:Int)]→q∈[(0:Int),(11:Int),(24:Int),(1:Int)]→
    PInv zs.length (ps++[(nmsL.getD ps.length ByteArray.empty,(x,(w,(w64 (3600*p),(w64 (3600*q),b)))))]):=by
   intro w p q hw hwl hpm hqm
   have hp':0≤p∧p≤168:=by simp at hpm;omega
   have hq':0≤q∧q≤168:=by simp at hqm;omega
   refine ⟨fun r hr=> ?_,?_⟩
   ·rcases jq.1 hr with h | h
    ·exact hp.ck r h
    ·simp at h;subst h
     exact ⟨jvi _ hmem,x0,x1,hw,hwl,jpW hp'.1 hp'.2,jpW hq'.1 hq'.2⟩
   ·rw [zm,hp.nm,jf]
    exact jmt hnm
  rw [j9z]
  simp only [j38,jpV,j3,show Int.ofNat (List.length ps)=(ps.length:Int) from rfl,show Int.ofNat (List.length zs)=(zs.length:Int) from rfl]
  rw [j00 (by omega),j1c (show (0:Int)≤(ps.length:Int) by omega) (by omega)]
  simp only [j5,e1,e2,e3,j3]
  rw [j02 (x:=((n+1:Nat):Int)-1) (by omega) (by omega),show ((n+1:Nat):Int)-1=(n:Int) by omega]
  cases c with
  | true=>
   obtain ⟨w,a4,e4,hw,hwl,d4⟩:=jhC d3
   obtain ⟨p,a5,e5,hpm,d5⟩:=j7O d4 (xs:=[(0:Int),(40:Int),(100:Int),(12:Int)]) (by simp) (by simp)
   obtain ⟨q,a6,e6,hqm,d6⟩:=j7O d5 (xs:=[(0:Int),(11:Int),(24:Int),(1:Int)]) (by simp) (by simp)
   simp only [j5,e4,e5,e6,j3]
   rw [j00 (by simp [j06];omega)]
   simp only [j5,j07]
   obtain ⟨ps',a',e,h1,h2,h3⟩:=jsj hz0 hz1 n a6 _ d6 (by simp;omega) (ext w p q hw (by omega) hpm hqm)
   exact ⟨ps',a',e,by rw [h1];simp;omega,h2,h3⟩
  | false=>
   obtain ⟨p,a5,e5,hpm,d5⟩:=j7O d3 (xs:=[(0:Int),(40:Int),(100:Int),(12:Int)]) (by simp) (by simp)
   obtain ⟨q,a6,e6,hqm,d6⟩:=j7O d5 (xs:=[(0:Int),(11:Int),(24:Int),(1:Int)]) (by simp) (by simp)
   simp only [j6,e5,e6,j3]
   rw [j00 (by simp [j06];omega)]
   simp only [j5,j07]
   obtain ⟨ps',a',e,h1,h2,h3⟩:=jsj hz0 hz1 n a6 _ d6 (by simp;omega) (ext [] p q (show (0:Int)≤604800 by omega) (by simp) hpm hqm)
   exact ⟨ps',a',e,by rw [h1];simp;omega,h2,h3⟩
def DInv (q:Int) (ds:List Int):Prop:=ds.Pairwise (· < ·)∧∀ d∈ds,20454<d∧d≤q
theorem jum {L:List Int} {s:Int} {nm:ByteArray} {z:Int} {zs:List j2z} {ps:List j1F} {cs:List CalT}:∀ (n:Nat) (a day:Int) (ds:List Int),DOk L a→ds.length+n≤4→20454≤day→day+6*n≤20480→DInv day ds→
  ∃ ds' a',j6e s (n:Int) day L a nm z zs ps cs ds=some (s,L,a',nm,z,zs,ps,cs,ds')∧ds'.length≤4∧DInv 20480 ds'∧DOk L a'
 | 0,a,day,ds,hd,hl,hy,hy2,hi=>by
  rw [j9A]
  simp only [j39]
  rw [j01 (by omega),j6,j0b]
  exact ⟨ds,a,rfl,by omega,⟨hi.1,fun d hd=>by have:=hi.2 d hd;omega⟩,hd⟩
 | n+1,a,day,ds,hd,hl,hy,hy2,hi=>by
  obtain ⟨x,a1,e1,x0,x1,d1⟩:=j0O (n:=6) hd (by omega) (by omega)
  rw [j9A]
  simp only [j39]
  rw [j00 (by omega),j02 (x:=((n+1:Nat):Int)-1) (by omega) (by omega),show ((n+1:Nat):Int)-1=(n:Int) by omega]
  simp only [j5,e1,j3]
  rw [j00 (by simp [j06];omega),j02 (x:=1+x) (by omega) (by omega),j02 (x:=day+(1+x)) (by omega) (by omega)]
  simp only [j5,j07]
  refine jum n a1 _ _ d1 (by simp;omega) (by omega) (by omega) ⟨List.pairwise_append.2 ⟨hi.1,by simp,fun u hu v hv=> ?_⟩,fun d hd=> ?_⟩
  ·simp at hv;subst hv
   have:=hi.2 u hu;omega
  ·rcases jq.1 hd with h | h
   ·have:=hi.2 d h;omega
   ·simp at h;omega
structure CInv (nz:Nat) (cs:List CalT):Prop where
 ck:∀ c∈cs,CCk nz c
 nm:NmL (cs.map (·.1))
 len:cs.length≤1
 dl:∀ c∈cs,c.2.2.length≤4
theorem jws {nz:Nat} {nm:ByteArray} {x:Int} {ds:List Int} (x0:0≤x) (x1:x<nz) (hl:ds.length≤64) (hi:DInv 20480 ds):CCk nz (nm,(x,ds)):=
 ⟨x0,x1,hl,fun d hd=>jsi (by have:=hi.2 d hd;omega) (by have:=hi.2 d hd;omega),hi.1⟩
structure SOk2 (zs:List j2z) (ps:List j1F) (cs:List CalT):Prop where
 so:SOk zs ps cs
 z:ZInv zs
 p:PInv zs.length ps
 c:CInv zs.length cs
theorem jsk {L:List Int} {a:Int} (h:DOk L a):∃ zs ps cs a',j8b L a=some ((zs,(ps,(cs,([]:List j2d)))),L,a')∧SOk2 zs ps cs∧DOk L a':=by
 obtain ⟨x,a1,e1,x0,x1,d1⟩:=j0O (n:=2) h (by omega) (by omega)
 obtain ⟨zs,a2,e2,l2,k2,d2⟩:=jul (1+x).toNat a1 [] d1 (by simp;omega) ⟨by simp,by simp,rfl⟩
 obtain ⟨y,a3,e3,y0,y1,d3⟩:=j0O (n:=4) d2 (by omega) (by omega)
 simp at l2
 obtain ⟨ps,a4,e4,l4,k4,d4⟩:=jsj (zs:=zs) (by omega) (by omega) (1+y).toNat a3 [] d3 (by simp;omega) ⟨by simp,rfl⟩
 obtain ⟨q,a5,e5,q0,q1,d5⟩:=j0O (n:=2) d4 (by omega) (by omega)
 simp at l4
 have hcal:∃ cs a',j6f q L a5 zs ps []=some (L,a',zs,ps,cs)∧CInv zs.length cs∧DOk L a':=by
  by_cases hq:q=0
  ·subst hq
   rw [j6w]
   simp only [j2p]
   rw [j01 (by omega),j6,j0b]
   exact ⟨[],a5,rfl,⟨by simp,NmL.nil,by simp,by simp⟩,d5⟩
  ·have hq1:q=1:=by omega
   subst hq1
   obtain ⟨x,a6,e6,x0,x1,d6⟩:=j0O (n:=(zs.length:Int)) d5 (by omega) (by omega)
   obtain ⟨y,a7,e7,y0,y1,d7⟩:=j0O (n:=4) d6 (by omega) (by omega)
   obtain ⟨ds,a8,e8,l8,k8,d8⟩:=jum (s:=(1:Int)) (nm:=ByteArray.mk #[100,97,121,115]) (z:=x) (zs:=zs) (ps:=ps) (cs:=[]) y.toNat a7 20454 [] d7 (by simp;omega) (by omega) (by omega) ⟨by simp,by simp⟩
   rw [show ((y.toNat:Nat):Int)=y by omega] at e8
   rw [j6w]
   simp only [j2p,show Int.ofNat (List.length zs)=(zs.length:Int) from rfl]
   rw [j00 (by omega)]
   simp only [j5,e6,e7,e8,j3]
   rw [j00 (by simp [j06]),j02 (x:=(1:Int)-1) (by omega) (by omega)]
   simp only [j5,j07]
   rw [j6w]
   simp only [j2p]
   rw [j01 (by omega),j6,j0b]
   refine ⟨_,a8,rfl,⟨fun c hc=> ?_,NmL.one jvh,by simp,fun c hc=>by simp at hc;subst hc;exact l8⟩,d8⟩
   simp at hc;subst hc
   exact jws x0 x1 (by omega) k8
 obtain ⟨cs,a6,e6,k6,d6⟩:=hcal
 rw [show (((1+x).toNat:Nat):Int)=1+x by omega] at e2
 rw [show (((1+y).toNat:Nat):Int)=1+y by omega] at e4
 simp only [j8b,e1,j3]
 rw [j02 (x:=1+x) (by omega) (by omega)]
 simp only [e2,e3,j3]
 rw [j02 (x:=1+y) (by omega) (by omega)]
 simp only [e4,e5,e6,j3]
 exact ⟨zs,ps,cs,a6,rfl,⟨⟨by omega,by omega,k2.ok,by omega,by omega,k6.len⟩,k2,k4,k6⟩,d6⟩
end Go.Proofs.Pw
