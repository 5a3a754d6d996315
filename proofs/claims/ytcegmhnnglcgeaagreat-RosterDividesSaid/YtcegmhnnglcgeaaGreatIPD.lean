/- Chapter 8: configurations that are right. -/
import Derived.Test.YtcegmhnnglcgeaaGreatIPA
import Derived.Test.YtcegmhnnglcgeaaGreatIPC
import Derived.Test.YtcegmhnnglcgeaaGreatIPB
import Derived.KernelRfl
open Go Go.Lft
namespace Go.Proofs.Pw
abbrev j59:=Int×(Int×(Int×(Int×Int)))
abbrev CfgT:=List j2E×(List j1E×(List CalT×List j1N))
theorem jm0 {n lo hi:Int} (h1:lo≤n) (h2:n≤hi):j71 n lo hi=some true:=by
 simp only [j71]
 rw [j01 (show n≥lo from h1),j01 h2];rfl
theorem jpN {i n:Int} (h1:0≤i) (h2:i<n):j2w i n=some true:=by
 simp only [j2w]
 rw [j01 (show i≥0 from h1),j01 h2];rfl
theorem jyt {i n:Int} (h1:i<0):j2w i n=some false:=by
 simp only [j2w]
 rw [j00 (show ¬ i≥0 by omega)];rfl
structure ZCk (z:j2E):Prop where
 ck:j8d z=some 0
 o60:Int.tmod z.2.1 60=0
 r60:∀ r∈z.2.2,Int.tmod r.2.2.2.2.2.2 60=0
 len:z.2.2.length≤1000
theorem jxr {rs:List Rule} (h:∀ r∈rs,Int.tmod r.2.2.2.2.2.2 60=0) (hl:rs.length≤1000):∀ (n i:Nat),i+n=rs.length→j0n rs (rs.length:Int) (i:Int)=some (.inr ())
 | 0,i,hi=>by
  rw [j2G]
  simp only [j0r]
  rw [j00 (by omega),j6,j0a]
 | n+1,i,hi=>by
  have hlt:i<rs.length:=by omega
  have hgd:rs.getD i ((0:Int),((0:Int),((0:Int),((0:Int),((0:Int),((0:Int),(0:Int)))))))=rs[i]:=by simp [hlt]
  have:=h rs[i] (List.getElem_mem hlt)
  rw [j2G]
  simp only [j0r,j7g]
  rw [j01 (by omega),j14 (by omega) (by omega),j02 (x:=(i:Int)+1) (by omega) (by omega)]
  simp only [j5,j7,hgd,j3,this,bne_self_eq_false,j6,j06]
  exact jxr h hl n (i+1) (by omega)
theorem jyu {z:j2E} (h:ZCk z):j31 z=some 0:=by
 have lp:=jxr h.r60 h.len z.2.2.length 0 (by omega)
 rw [show ((0:Nat):Int)=0 from rfl] at lp
 simp only [j31,show j8d (z.1,(z.2.1,z.2.2))=_ from h.ck,j3,h.o60,bne_self_eq_false,j6,j0o,j0u,show Int.ofNat z.2.2.length=(z.2.2.length:Int) from rfl,lp,j9E]
 rfl
theorem jxs {zs:List j2E} (hn:NmL (zs.map (·.1))) (hc:∀ z∈zs,ZCk z) (hl:zs.length≤100):∀ (n i:Nat),i+n=zs.length→j1w zs (zs.length:Int) (i:Int) (jd8 ((zs.take i).map (·.1)))=some (.inr ())
 | 0,i,hi=>by
  rw [j6p]
  simp only [j0F]
  rw [j00 (by omega),j6,j0a]
 | n+1,i,hi=>by
  have hlt:i<zs.length:=by omega
  have hgd:zs.getD i (ByteArray.empty,((0:Int),([]:List Rule)))=zs[i]:=by simp [hlt]
  have h1:=jkq (·.1) hn hlt
  have h2:=jyu (hc zs[i] (List.getElem_mem hlt))
  rw [j6p]
  simp only [j0F,jaa]
  rw [j01 (by omega),j14 (by omega) (by omega),j02 (x:=(i:Int)+1) (by omega) (by omega)]
  simp only [j5,j7,hgd,j3,h1,bne_self_eq_false,j6]
  rw [show j31 (zs[i].1,(zs[i].2.1,zs[i].2.2))=_ from h2]
  simp only [j3,bne_self_eq_false,j6,j06]
  exact jxs hn hc hl n (i+1) (by omega)
theorem jyv {zs:List j2E} (hn:NmL (zs.map (·.1))) (hc:∀ z∈zs,ZCk z) (hl:zs.length≤100):j2c zs=some 0:=by
 have lp:=jxs hn hc hl zs.length 0 (by omega)
 simp only [j2c,show Int.ofNat zs.length=(zs.length:Int) from rfl]
 rw [show j1w zs (zs.length:Int) 0 []=_ from lp]
 rfl
structure PCk (nz:Nat) (p:j1E):Prop where
 nb:(ByteArray.toList p.1==ByteArray.toList (ByteArray.mk #[110,111,98,111,100,121]))=false
 z0:0≤p.2.1
 z1:p.2.1<nz
 w:WOk 0 p.2.2.1
 wl:p.2.2.1.length≤14
 m:j5Q p.2.2.2.1=some true
 r:j5Q p.2.2.2.2.1=some true
theorem jyw {c:CfgT} {p:j1E} (h:PCk c.1.length p):j1Y c p=some 0:=by
 have hz0:=h.z0;have hz1:=h.z1
 simp only [j1Y,show Int.ofNat c.1.length=(c.1.length:Int) from rfl,jpN hz0 hz1,j3,Bool.not_true,j6,jqQ h.w h.wl,bne_self_eq_false,h.m,h.r]
theorem jxt {zs:List j2E} {ps:List j1E} {cs:List CalT} {ss:List j1N} (hn:NmL (ps.map (·.1))) (hc:∀ p∈ps,PCk zs.length p) (hl:ps.length≤100):∀ (n i:Nat),i+n=ps.length→j42 ps (ps.length:Int) (i:Int) zs ps cs ss (jd8 ((ps.take i).map (·.1)))=some (.inr (zs,ps,cs,ss))
 | 0,i,hi=>by
  rw [jb7]
  simp only [j1S]
  rw [j00 (by omega),j6,j0a]
 | n+1,i,hi=>by
  have hlt:i<ps.length:=by omega
  have hgd:ps.getD i (ByteArray.empty,((0:Int),(([]:List (Int×Int)),((0:Int),((0:Int),false)))))=ps[i]:=by simp [hlt]
  have h1:=jkq (·.1) hn hlt
  have hp:=hc ps[i] (List.getElem_mem hlt)
  have h2:=jyw (c:=(zs,(ps,(cs,ss)))) hp
  rw [jb7]
  simp only [j1S]
  rw [j01 (by omega),j14 (by omega) (by omega),j02 (x:=(i:Int)+1) (by omega) (by omega)]
  simp only [j5,j7,hgd,j3,h1,hp.nb,beq_self_eq_true,j6]
  rw [show j1Y (zs,(ps,(cs,ss))) (ps[i].1,(ps[i].2.1,(ps[i].2.2.1,(ps[i].2.2.2.1,(ps[i].2.2.2.2.1,ps[i].2.2.2.2.2)))))=_ from h2]
  simp only [j3,bne_self_eq_false,j6,j06]
  exact jxt hn hc hl n (i+1) (by omega)
structure CCk (nz:Nat) (c:CalT):Prop where
 z0:0≤c.2.1
 z1:c.2.1<nz
 len:c.2.2.length≤64
 day:∀ d∈c.2.2,j1H d=some true
 asc:c.2.2.Pairwise (· < ·)
theorem jxu {ds:List Int} (h:∀ d∈ds,j1H d=some true) (hl:ds.length≤64):∀ (n i:Nat),i+n=ds.length→j1I ds (ds.length:Int) (i:Int)=some (.inr ())
 | 0,i,hi=>by
  rw [j5K]
  simp only [j0y]
  rw [j00 (by omega),j6,j0a]
 | n+1,i,hi=>by
  have hlt:i<ds.length:=by omega
  have hgd:ds.getD i (0:Int)=ds[i]:=by simp [hlt]
  have:=h ds[i] (List.getElem_mem hlt)
  rw [j5K]
  simp only [j0y,j2h]
  rw [j01 (by omega),j14 (by omega) (by omega),j02 (x:=(i:Int)+1) (by omega) (by omega)]
  simp only [j5,j7,hgd,this,j3,Bool.not_true,j6,j06]
  exact jxu h hl n (i+1) (by omega)
theorem jxv {nm:ByteArray} {z:Int} {ds:List Int} (h:ds.Pairwise (· < ·)) (hl:ds.length≤64):∀ (n i:Nat),i+n=ds.length→j2j (ds.length:Int) (i:Int) nm z ds=some (.inr ())
 | 0,i,hi=>by
  rw [j6G]
  simp only [j22]
  rw [j00 (by omega),j6,j0a]
 | n+1,i,hi=>by
  have hlt:i<ds.length:=by omega
  have hgd:ds.getD i (0:Int)=ds[i]:=by simp [hlt]
  have ih:=jxv (nm:=nm) (z:=z) h hl n (i+1) (by omega)
  rw [j6G]
  simp only [j22]
  rw [j01 (by omega),j14 (i:=(i:Int)) (by omega) (by omega),j02 (x:=(i:Int)+1) (by omega) (by omega)]
  simp only [j5,j7,hgd]
  by_cases h0:i=0
  ·subst h0
   rw [j00 (by omega),j6,j06]
   exact ih
  ·have hj:i-1<ds.length:=by omega
   have hgj:ds.getD (i-1) (0:Int)=ds[i-1]:=by simp [hj]
   have hp:ds[i-1]<ds[i]:=List.pairwise_iff_getElem.1 h (i-1) i hj hlt (by omega)
   rw [j01 (show (i:Int)>0 by omega),j02 (x:=(i:Int)-1) (by omega) (by omega),j14 (i:=(i:Int)-1) (by omega) (by omega),show ((i:Int)-1).toNat=i-1 by omega,hgj,j00 (show ¬ ds[i]≤ds[i-1] by omega)]
   simp only [j5,j6,j06]
   exact ih
theorem jyx {c:CfgT} {x:CalT} (h:CCk c.1.length x):j1Q c x=some 0:=by
 have hz0:=h.z0;have hz1:=h.z1;have hl:=h.len
 have l1:=jxu h.day hl x.2.2.length 0 (by omega)
 have l2:=jxv (nm:=x.1) (z:=x.2.1) h.asc hl x.2.2.length 0 (by omega)
 rw [show ((0:Nat):Int)=0 from rfl] at l1 l2
 simp only [j1Q,show Int.ofNat c.1.length=(c.1.length:Int) from rfl,show Int.ofNat x.2.2.length=(x.2.2.length:Int) from rfl,jpN hz0 hz1,j3,Bool.not_true,j6,j1J,j2i,l1,l2,j9E]
 rw [j00 (by omega)]
 rfl
theorem jxw {zs:List j2E} {ps:List j1E} {cs:List CalT} {ss:List j1N} (hn:NmL (cs.map (·.1))) (hc:∀ x∈cs,CCk zs.length x) (hl:cs.length≤100):∀ (n i:Nat),i+n=cs.length→j11 zs ps cs ss cs (cs.length:Int) (i:Int) (jd8 ((cs.take i).map (·.1)))=some (.inr ())
 | 0,i,hi=>by
  rw [j5k]
  simp only [j0s]
  rw [j00 (by omega),j6,j0a]
 | n+1,i,hi=>by
  have hlt:i<cs.length:=by omega
  have hgd:cs.getD i (ByteArray.empty,((0:Int),([]:List Int)))=cs[i]:=by simp [hlt]
  have h1:=jkq (·.1) hn hlt
  have h2:=jyx (c:=(zs,(ps,(cs,ss)))) (hc cs[i] (List.getElem_mem hlt))
  rw [j5k]
  simp only [j0s,jac,j4N]
  rw [j01 (by omega),j14 (by omega) (by omega),j02 (x:=(i:Int)+1) (by omega) (by omega)]
  simp only [j5,j7,hgd,j3,h1,bne_self_eq_false,j6]
  rw [show j1Q (zs,(ps,(cs,ss))) (cs[i].1,(cs[i].2.1,cs[i].2.2))=_ from h2]
  simp only [j3,bne_self_eq_false,j6,j06]
  exact jxw hn hc hl n (i+1) (by omega)
theorem jyy {zs:List j2E} {ps:List j1E} {cs:List CalT} {ss:List j1N} (hn:NmL (cs.map (·.1))) (hc:∀ x∈cs,CCk zs.length x) (hl:cs.length≤100):j1m cs zs ps cs ss=some 0:=by
 have lp:=jxw (ps:=ps) (ss:=ss) hn hc hl cs.length 0 (by omega)
 simp only [j1m,show Int.ofNat cs.length=(cs.length:Int) from rfl]
 rw [show j11 zs ps cs ss cs (cs.length:Int) 0 []=_ from lp]
 rfl
structure LCk (nz np nc:Nat) (l:j0R):Prop where
 z0:0≤l.2.1
 z1:l.2.1<nz
 d0:1≤l.2.2.1.1
 day:j1H l.2.2.1.1=some true
 c0:0≤l.2.2.1.2
 c1:l.2.2.1.2≤86399
 u0:0≤l.2.2.2.1
 u1:l.2.2.2.1≤2
 e0:1≤l.2.2.2.2.1
 e1:l.2.2.2.2.1≤400
 m0:l.2.2.2.2.2.1.length≠0
 m1:l.2.2.2.2.2.1.length≤12
 mem:∀ m∈l.2.2.2.2.2.1,0≤m∧m<(np:Int)
 w:WOk 0 l.2.2.2.2.2.2.1
 wl:l.2.2.2.2.2.2.1.length≤14
 mode0:0≤l.2.2.2.2.2.2.2.2
 mode1:l.2.2.2.2.2.2.2.2≤2
 cal:l.2.2.2.2.2.2.2.2≠0→0≤l.2.2.2.2.2.2.2.1∧l.2.2.2.2.2.2.2.1<(nc:Int)
 cal0:l.2.2.2.2.2.2.2.2=0→l.2.2.2.2.2.2.2.1=0
theorem jxx {zs:List j2E} {ps:List j1E} {cs:List CalT} {ss:List j1N} {ms:List Int} (h:∀ m∈ms,0≤m∧m<(ps.length:Int)) (hl:ms.length≤12):∀ (n i:Nat),i+n=ms.length→j1e ms zs ps cs ss (ms.length:Int) (i:Int)=some (.inr ())
 | 0,i,hi=>by
  rw [j4T]
  simp only [j19]
  rw [j00 (by omega),j6,j0a]
 | n+1,i,hi=>by
  have hlt:i<ms.length:=by omega
  have hgd:ms.getD i (0:Int)=ms[i]:=by simp [hlt]
  have hm:=h ms[i] (List.getElem_mem hlt)
  rw [j4T]
  simp only [j19,j6H,show Int.ofNat ps.length=(ps.length:Int) from rfl]
  rw [j01 (by omega),j14 (by omega) (by omega),j02 (x:=(i:Int)+1) (by omega) (by omega)]
  simp only [j5,j7,hgd,jpN hm.1 hm.2,j3,Bool.not_true,j6,j06]
  exact jxx h hl n (i+1) (by omega)
theorem jyz {c:CfgT} {l:j0R} (h:LCk c.1.length c.2.1.length c.2.2.1.length l):j2H c l=some 0:=by
 have hz0:=h.z0;have hz1:=h.z1;have hd0:=h.d0;have hm0:=h.m0;have hm1:=h.m1
 have l1:=jxx (zs:=c.1) (cs:=c.2.2.1) (ss:=c.2.2.2) h.mem hm1 l.2.2.2.2.2.1.length 0 (by omega)
 rw [show ((0:Nat):Int)=0 from rfl] at l1
 simp only [j2H,show Int.ofNat c.1.length=(c.1.length:Int) from rfl,show Int.ofNat l.2.2.2.2.2.1.length=(l.2.2.2.2.2.1.length:Int) from rfl,show Int.ofNat c.2.2.1.length=(c.2.2.1.length:Int) from rfl,jpN hz0 hz1,j3,Bool.not_true,j6,h.day,jm0 h.c0 h.c1,jm0 h.u0 h.u1,jm0 h.e0 h.e1,jm0 h.mode0 h.mode1,
  j1f,j1K,l1,j9E,jqQ h.w h.wl,bne_self_eq_false]
 rw [j00 (show ¬ l.2.2.1.1<1 by omega),j48 (show ¬ (l.2.2.2.2.2.1.length:Int)=0 by omega),j00 (show ¬ (l.2.2.2.2.2.1.length:Int)>12 by omega),j00 (show ¬ (-1:Int)≥0 by omega)]
 simp only [j6]
 by_cases hmd:l.2.2.2.2.2.2.2.2=0
 ·rw [hmd,h.cal0 hmd];rfl
 ·have hc:=h.cal hmd
  rw [show (l.2.2.2.2.2.2.2.2 != 0)=true by simp [hmd],j48 hmd,j5,jpN hc.1 hc.2]
  rfl
theorem jxy {zs:List j2E} {ps:List j1E} {cs:List CalT} {ss:List j1N} {ls:List j0R} (hn:NmL (ls.map (·.1))) (hc:∀ x∈ls,LCk zs.length ps.length cs.length x) (hl:ls.length≤100):∀ (n i:Nat),i+n=ls.length→j1n zs ps cs ss ls (ls.length:Int) (i:Int) (jd8 ((ls.take i).map (·.1)))=some (.inr ())
 | 0,i,hi=>by
  rw [j67]
  simp only [j0C]
  rw [j00 (by omega),j6,j0a]
 | n+1,i,hi=>by
  have hlt:i<ls.length:=by omega
  have hgd:ls.getD i (ByteArray.empty,((0:Int),(((0:Int),(0:Int)),((0:Int),((0:Int),(([]:(List Int)),(([]:(List (Int×Int))),((0:Int),(0:Int)))))))))=ls[i]:=by simp [hlt]
  have h1:=jkq (·.1) hn hlt
  have h2:=jyz (c:=(zs,(ps,(cs,ss)))) (hc ls[i] (List.getElem_mem hlt))
  rw [j67]
  simp only [j0C,j5t,j2k]
  rw [j01 (by omega),j14 (by omega) (by omega),j02 (x:=(i:Int)+1) (by omega) (by omega)]
  simp only [j5,j7,hgd,j3,h1,bne_self_eq_false,j6]
  rw [show j2H (zs,(ps,(cs,ss))) (ls[i].1,ls[i].2.1,(ls[i].2.2.1.1,ls[i].2.2.1.2),ls[i].2.2.2.1,ls[i].2.2.2.2.1,ls[i].2.2.2.2.2.1,ls[i].2.2.2.2.2.2.1,ls[i].2.2.2.2.2.2.2.1,ls[i].2.2.2.2.2.2.2.2)=_ from h2]
  simp only [j3,bne_self_eq_false,j6,j06]
  exact jxy hn hc hl n (i+1) (by omega)
theorem jyA {zs:List j2E} {ps:List j1E} {cs:List CalT} {ss:List j1N} {ls:List j0R} (hn:NmL (ls.map (·.1))) (hc:∀ x∈ls,LCk zs.length ps.length cs.length x) (hl:ls.length≤100):j1Z ls zs ps cs ss=some 0:=by
 have lp:=jxy (ss:=ss) hn hc hl ls.length 0 (by omega)
 simp only [j1Z,show Int.ofNat ls.length=(ls.length:Int) from rfl]
 rw [show j1n zs ps cs ss ls (ls.length:Int) 0 []=_ from lp]
 rfl
structure ECk (np:Nat) (x:j59):Prop where
 k0:0≤x.1
 k1:x.1≤2
 a:0≤x.2.1∧x.2.1<(np:Int)∨x.1=1∧x.2.1 = -1
 b:x.1=2→0≤x.2.2.1∧x.2.2.1<(np:Int)∧x.2.1≠x.2.2.1
 b0:x.1≠2→x.2.2.1=0
 f0:0≤x.2.2.2.1
 ft:x.2.2.2.1<x.2.2.2.2
 t1:x.2.2.2.2≤1000000000000
 day:j1H (Int.tdiv x.2.2.2.2 86400)=some true
theorem jyB {c:CfgT} {x:j59} (h:ECk c.2.1.length x):j32 c x=some 0:=by
 have hf0:=h.f0;have hft:=h.ft;have ht1:=h.t1;have hday:=h.day
 have hdv:w64 (Int.tdiv x.2.2.2.2 86400)=Int.tdiv x.2.2.2.2 86400:=by
  rw [jko (by omega)]
  exact j02 (by omega) (by omega)
 simp only [j32,show Int.ofNat c.2.1.length=(c.2.1.length:Int) from rfl,jm0 h.k0 h.k1,j3,Bool.not_true,j6,hdv,hday]
 rw [j00 (show ¬ x.2.2.2.1<0 by omega),j00 (show ¬ x.2.2.2.2<0 by omega),j00 (show ¬ x.2.2.2.1≥x.2.2.2.2 by omega)]
 simp only [j6]
 have hA:∃ b,j2w x.2.1 (c.2.1.length:Int)=some b∧cond (!b) (!(cond (x.1==(1:Int)) (x.2.1==(-1:Int)) false)) false=false:=by
  rcases h.a with ⟨a1,a2⟩ | ⟨a1,a2⟩
  ·exact ⟨true,jpN a1 a2,rfl⟩
  ·exact ⟨false,jyt (by omega),by rw [a1,a2];rfl⟩
 obtain ⟨b,e1,e2⟩:=hA
 rw [e1]
 simp only [j3,e2,j6]
 by_cases h2:x.1=2
 ·obtain ⟨b1,b2,b3⟩:=h.b h2
  rw [j7a h2,j5,jpN b1 b2,show (x.1 != 2)=false by rw [h2];rfl,j48 b3]
  rfl
 ·rw [j48 h2,j6,show (x.1 != 2)=true by simp [h2],h.b0 h2]
  rfl
theorem jxz {zs:List j2E} {ps:List j1E} {cs:List CalT} {ss:List j1N} {es:List j59} (hc:∀ x∈es,ECk ps.length x) (hl:es.length≤48):∀ (n i:Nat),i+n=es.length→j2l es (es.length:Int) (i:Int) zs ps cs ss=some (.inr ())
 | 0,i,hi=>by
  rw [j6I]
  simp only [j0L]
  rw [j00 (by omega),j6,j0a]
 | n+1,i,hi=>by
  have hlt:i<es.length:=by omega
  have hgd:es.getD i ((0:Int),((0:Int),((0:Int),((0:Int),(0:Int)))))=es[i]:=by simp [hlt]
  have h2:=jyB (c:=(zs,(ps,(cs,ss)))) (hc es[i] (List.getElem_mem hlt))
  rw [j6I]
  simp only [j0L]
  rw [j01 (by omega),j14 (by omega) (by omega),j02 (x:=(i:Int)+1) (by omega) (by omega)]
  simp only [j5,j7,hgd]
  rw [show j32 (zs,(ps,(cs,ss))) (es[i].1,es[i].2.1,es[i].2.2.1,es[i].2.2.2.1,es[i].2.2.2.2)=_ from h2]
  simp only [j3,bne_self_eq_false,j6,j06]
  exact jxz hc hl n (i+1) (by omega)
structure SCk (nz np nc:Nat) (s:j1N):Prop where
 nm:NmL (s.2.1.map (·.1))
 ly:∀ x∈s.2.1,LCk nz np nc x
 ll:s.2.1.length≤6
 ed:∀ x∈s.2.2,ECk np x
 el:s.2.2.length≤48
theorem jyC {c:CfgT} {s:j1N} (h:SCk c.1.length c.2.1.length c.2.2.1.length s):j1R c s=some 0:=by
 have hll:=h.ll;have hel:=h.el
 have lp:=jxz (zs:=c.1) (ps:=c.2.1) (cs:=c.2.2.1) (ss:=c.2.2.2) h.ed hel s.2.2.length 0 (by omega)
 rw [show ((0:Nat):Int)=0 from rfl] at lp
 simp only [j1R,show Int.ofNat s.2.1.length=(s.2.1.length:Int) from rfl,show Int.ofNat s.2.2.length=(s.2.2.length:Int) from rfl]
 rw [j00 (show ¬ (s.2.1.length:Int)>6 by omega),j00 (show ¬ (s.2.2.length:Int)>48 by omega)]
 simp only [j6,jyA (zs:=c.1) (ps:=c.2.1) (cs:=c.2.2.1) (ss:=c.2.2.2) h.nm h.ly (by omega),j3,bne_self_eq_false,lp,j9E]
theorem jxA {zs:List j2E} {ps:List j1E} {cs:List CalT} {ss:List j1N} (hn:NmL (ss.map (·.1))) (hc:∀ x∈ss,SCk zs.length ps.length cs.length x) (hl:ss.length≤100):∀ (n i:Nat),i+n=ss.length→j12 zs ps cs ss ss (ss.length:Int) (i:Int) (jd8 ((ss.take i).map (·.1)))=some (.inr ())
 | 0,i,hi=>by
  rw [j5l]
  simp only [j0t]
  rw [j00 (by omega),j6,j0a]
 | n+1,i,hi=>by
  have hlt:i<ss.length:=by omega
  have hgd:ss.getD i (ByteArray.empty,(([]:List j0R),([]:List j59)))=ss[i]:=by simp [hlt]
  have h1:=jkq (·.1) hn hlt
  have h2:=jyC (c:=(zs,(ps,(cs,ss)))) (hc ss[i] (List.getElem_mem hlt))
  rw [j5l]
  simp only [j0t,jad,j4O]
  rw [j01 (by omega),j14 (by omega) (by omega),j02 (x:=(i:Int)+1) (by omega) (by omega)]
  simp only [j5,j7,hgd,j3,h1,bne_self_eq_false,j6]
  rw [show j1R (zs,(ps,(cs,ss))) (ss[i].1,(ss[i].2.1,ss[i].2.2))=_ from h2]
  simp only [j3,bne_self_eq_false,j6,j06]
  exact jxA hn hc hl n (i+1) (by omega)
structure jlo (c:CfgT):Prop where
 zn:NmL (c.1.map (·.1))
 zc:∀ z∈c.1,ZCk z
 zl:c.1.length≤16
 pn:NmL (c.2.1.map (·.1))
 pc:∀ p∈c.2.1,PCk c.1.length p
 pl:c.2.1.length≤32
 cn:NmL (c.2.2.1.map (·.1))
 cc:∀ x∈c.2.2.1,CCk c.1.length x
 cl:c.2.2.1.length≤8
 sn:NmL (c.2.2.2.map (·.1))
 sc:∀ x∈c.2.2.2,SCk c.1.length c.2.1.length c.2.2.1.length x
 sl:c.2.2.2.length≤12
theorem jpO {c:CfgT} (h:jlo c):j4U c=some 0:=by
 have hzl:=h.zl;have hpl:=h.pl;have hcl:=h.cl;have hsl:=h.sl
 have lp:=jxt (zs:=c.1) (cs:=c.2.2.1) (ss:=c.2.2.2) h.pn h.pc (by omega) c.2.1.length 0 (by omega)
 have ls:=jxA (zs:=c.1) (ps:=c.2.1) (cs:=c.2.2.1) h.sn h.sc (by omega) c.2.2.2.length 0 (by omega)
 simp only [j4U,show Int.ofNat c.1.length=(c.1.length:Int) from rfl,show Int.ofNat c.2.1.length=(c.2.1.length:Int) from rfl,show Int.ofNat c.2.2.1.length=(c.2.2.1.length:Int) from rfl,show Int.ofNat c.2.2.2.length=(c.2.2.2.length:Int) from rfl]
 rw [j00 (show ¬ (c.1.length:Int)>16 by omega),j00 (show ¬ (c.2.1.length:Int)>32 by omega),j00 (show ¬ (c.2.2.1.length:Int)>8 by omega),j00 (show ¬ (c.2.2.2.length:Int)>12 by omega)]
 simp only [j6,jyv h.zn h.zc (by omega),j3,bne_self_eq_false]
 rw [show j42 c.2.1 (c.2.1.length:Int) 0 c.1 c.2.1 c.2.2.1 c.2.2.2 []=_ from lp]
 simp only [j3,j9E,jyy (zs:=c.1) (ps:=c.2.1) (cs:=c.2.2.1) (ss:=c.2.2.2) h.cn h.cc (by omega),bne_self_eq_false,j6,j1X,show Int.ofNat c.2.2.2.length=(c.2.2.2.length:Int) from rfl]
 rw [show j12 c.1 c.2.1 c.2.2.1 c.2.2.2 c.2.2.2 (c.2.2.2.length:Int) 0 []=_ from ls]
 rfl
def nmsL:List ByteArray:=[(ByteArray.mk #[97,100,97]),(ByteArray.mk #[98,111,98]),(ByteArray.mk #[99,108,101,111]),(ByteArray.mk #[100,97,110]),(ByteArray.mk #[101,118,101]),(ByteArray.mk #[102,97,121]),(ByteArray.mk #[103,117,115]),(ByteArray.mk #[104,97,108])]
def nmsZ:List ByteArray:=[(ByteArray.mk #[104,101,114,101]),(ByteArray.mk #[116,104,101,114,101])]
theorem jqR:jfj=some nmsL:=rfl
theorem jtn:NmL nmsL:=by
 refine ⟨by decide,fun k hk=> ?_⟩
 simp only [nmsL,List.mem_cons,List.not_mem_nil,or_false] at hk
 rcases hk with rfl | rfl | rfl | rfl | rfl | rfl | rfl | rfl<;>exact j8N 60 _ true (by kernel_rfl)
theorem jwr:NmL nmsZ:=by
 refine ⟨by decide,fun k hk=> ?_⟩
 simp only [nmsZ,List.mem_cons,List.not_mem_nil,or_false] at hk
 rcases hk with rfl | rfl<;>exact j8N 60 _ true (by kernel_rfl)
theorem NmL.take {l:List ByteArray} (h:NmL l) (n:Nat):NmL (l.take n):=⟨h.1.sublist (List.take_sublist n l),fun k hk=>h.2 k (List.mem_of_mem_take hk)⟩
theorem NmL.one {s:ByteArray} (h:j8c s=some true):NmL [s]:=⟨by simp,fun k hk=>by simp at hk;subst hk;exact h⟩
theorem NmL.nil:NmL []:=⟨List.nodup_nil,by simp⟩
theorem jws:j8c (ByteArray.mk #[100,97,121,115])=some true:=j8N 60 _ true (by kernel_rfl)
theorem jwt:∀ k∈nmsL,(ByteArray.toList k==ByteArray.toList (ByteArray.mk #[110,111,98,111,100,121]))=false:=by
 intro k hk
 simp only [nmsL,List.mem_cons,List.not_mem_nil,or_false] at hk
 rcases hk with rfl | rfl | rfl | rfl | rfl | rfl | rfl | rfl<;>kernel_rfl
theorem juR:((List.range 61).all fun i=>jnd 60 (20440+(i:Int))==some true)=true:=by kernel_rfl
theorem jto {d:Int} (h1:20440≤d) (h2:d≤20500):j1H d=some true:=by
 have h:=List.all_eq_true.1 juR (d-20440).toNat (List.mem_range.2 (by omega))
 rw [show (20440:Int)+(((d-20440).toNat:Nat):Int)=d by omega] at h
 exact j9M 60 d true (eq_of_beq h)
theorem t60 {x:Int} (h:x%60=0):Int.tmod x 60=0:=by
 have:=jeX x 60
 rw [h] at this
 simpa using this
theorem all2 {P:Rule→Prop} {r s:Rule} (h1:P r) (h2:P s):∀ x∈[r,s],P x:=by
 intro x hx
 simp at hx
 rcases hx with rfl | rfl
 ·exact h1
 ·exact h2
theorem jwu {L:List Int} {a:Int} (h:DOk L a) (nm:ByteArray):∃ o rs a',j4q L a nm=some ((nm,(o,rs)),L,a')∧Int.tmod o 60=0∧∀ r∈rs,Int.tmod r.2.2.2.2.2.2 60=0:=by
 obtain ⟨p,a1,e1,m1,d1⟩:=j88 h (xs:=[(0:Int),(4:Int),(-20:Int),(22:Int),(48:Int),(-47:Int)]) (by simp) (by simp)
 obtain ⟨x2,a2,e2,x20,x21,d2⟩:=j0Q (n:=2) d1 (by omega) (by omega)
 obtain ⟨x3,a3,e3,x30,x31,d3⟩:=j0Q (n:=3) d2 (by omega) (by omega)
 obtain ⟨y,a4,e4,y0,y1,d4⟩:=j0Q (n:=2) d3 (by omega) (by omega)
 obtain ⟨q,a5,e5,q0,q1,d5⟩:=j0Q (n:=4) d4 (by omega) (by omega)
 have hp : -47≤p∧p≤48:=by simp at m1;omega
 have hmul:0≤x2*x3∧x2*x3≤2:=by
  obtain rfl | rfl:x2=0∨x2=1:=by omega
  all_goals omega
 have ho0 : -43200≤900*(p+x2*x3):=by omega
 have ho1:900*(p+x2*x3)≤45000:=by omega
 have ho2:(900*(p+x2*x3))%60=0:=by omega
 simp only [j4q,e1,e2,e3,e4,e5,j3]
 rw [j02 (x:=x2*x3) (by omega) (by omega),j02 (x:=p+x2*x3) (by omega) (by omega),j02 (x:=900*(p+x2*x3)) (by omega) (by omega),j02 (x:=2025+y) (by omega) (by omega)]
 generalize 900*(p+x2*x3)=o at *
 generalize 2025+y=last at *
 by_cases hq1:q=1
 ·rw [j7a hq1,j5,j02 (x:=o+3600) (by omega) (by omega)]
  exact ⟨_,_,_,rfl,t60 ho2,all2 (P:=fun r=>Int.tmod r.2.2.2.2.2.2 60=0) (t60 (show (o+3600)%60=0 by omega)) (t60 ho2)⟩
 ·rw [j48 hq1,j6]
  by_cases hq2:q=2
  ·rw [j7a hq2,j5]
   obtain ⟨b1,c1,f1,b10,b11,g1⟩:=j0Q (n:=4) d5 (by omega) (by omega)
   obtain ⟨b2,c2,f2,b20,b21,g2⟩:=j0Q (n:=7) g1 (by omega) (by omega)
   obtain ⟨b3,c3,f3,b30,b31,g3⟩:=j0Q (n:=24) g2 (by omega) (by omega)
   obtain ⟨b4,c4,f4,b40,b41,g4⟩:=j0Q (n:=8) g3 (by omega) (by omega)
   obtain ⟨b5,c5,f5,b50,b51,g5⟩:=j0Q (n:=2) g4 (by omega) (by omega)
   obtain ⟨b6,c6,f6,m6,g6⟩:=j88 g5 (xs:=[(2:Int),(3:Int),(5:Int)]) (by simp) (by simp)
   obtain ⟨b7,c7,f7,b70,b71,g7⟩:=j0Q (n:=7) g6 (by omega) (by omega)
   obtain ⟨b8,c8,f8,b80,b81,g8⟩:=j0Q (n:=24) g7 (by omega) (by omega)
   simp only [f1,f2,f3,f4,f5,f6,f7,f8,j3]
   rw [j02 (x:=1+b4) (by omega) (by omega),j02 (x:=1800*(1+b4)) (by omega) (by omega),j02 (x:=o+1800*(1+b4)) (by omega) (by omega)]
   exact ⟨_,_,_,rfl,t60 ho2,all2 (P:=fun r=>Int.tmod r.2.2.2.2.2.2 60=0) (t60 (show (o+1800*(1+b4))%60=0 by omega)) (t60 ho2)⟩
  ·rw [j48 hq2,j6]
   by_cases hq3:q=3
   ·rw [j7a hq3,j5]
    obtain ⟨b1,c1,f1,m1,g1⟩:=j88 d5 (xs:=[(3600:Int),(-3600:Int),(82800:Int),(-82800:Int),(43200:Int)]) (by simp) (by simp)
    obtain ⟨b2,c2,f2,b20,b21,g2⟩:=j0Q (n:=7) g1 (by omega) (by omega)
    obtain ⟨b3,c3,f3,b30,b31,g3⟩:=j0Q (n:=48) g2 (by omega) (by omega)
    have hb1 : -82800≤b1∧b1≤82800∧b1%60=0:=by simp at m1;omega
    simp only [f1,f2,f3,j3]
    rw [j02 (x:=o+b1) (by omega) (by omega)]
    cases cond (decide (o+b1>64800)) true (decide (o+b1 < -64800)) with
    | true=>exact ⟨_,_,_,rfl,t60 ho2,fun r hr=>by simp at hr;subst hr;rfl⟩
    | false=>exact ⟨_,_,_,rfl,t60 ho2,fun r hr=>by simp at hr;subst hr;exact t60 (by dsimp only;omega)⟩
   ·rw [j48 hq3,j6]
    exact ⟨_,_,_,rfl,t60 ho2,by simp⟩
theorem juS {L:List Int} {a:Int} (h:DOk L a) (nm:ByteArray):∃ o rs a',j4q L a nm=some ((nm,(o,rs)),L,a')∧MZ o rs∧ZCk (nm,(o,rs))∧DOk L a':=by
 obtain ⟨o,rs,a1,e1,m1,d1⟩:=jwq h nm
 obtain ⟨o',rs',a2,e2,m2,m3⟩:=jwu h nm
 have:=e1.symm.trans e2
 simp only [j4,j8,true_and] at this
 obtain ⟨⟨rfl,rfl⟩,rfl⟩:=this
 have ht:=(m1.tab nm).1
 have hl:=m1.len
 exact ⟨o,rs,a1,e1,m1,⟨by simp only [j8d,show j2v (nm,(o,rs))=_ from ht,j3],m2,m3,by dsimp only;omega⟩,d1⟩
structure ZInv (zs:List j2E):Prop where
 ok:∀ z∈zs,ZOk z
 ck:∀ z∈zs,ZCk z
 nm:zs.map (·.1)=nmsZ.take zs.length
theorem jng {l:List ByteArray} {n:Nat} (hn:n<l.length):l.take n++[l.getD n ByteArray.empty]=l.take (n+1):=by
 rw [List.take_add_one,List.getElem?_eq_getElem hn]
 simp [hn]
theorem jvv {L:List Int}:∀ (n:Nat) (a:Int) (zs:List j2E),DOk L a→zs.length+n≤2→ZInv zs→
  ∃ zs' a',j6s (n:Int) L a zs=some (L,a',zs')∧zs'.length=zs.length+n∧ZInv zs'∧DOk L a'
 | 0,a,zs,hd,_,hz=>by
  rw [j9Y]
  simp only [j3i]
  rw [j00 (by omega),j6,j0a]
  exact ⟨zs,a,rfl,rfl,hz,hd⟩
 | n+1,a,zs,hd,hl,hz=>by
  obtain ⟨o,rs,a1,e1,m1,k1,d1⟩:=juS hd (List.getD nmsZ zs.length ByteArray.empty)
  obtain ⟨zs',a',e2,h2,h3,h4⟩:=jvv n a1 (zs++[(List.getD nmsZ zs.length ByteArray.empty,(o,rs))]) d1 (by simp;omega) ⟨fun z hz'=>by
   rcases List.mem_append.1 hz' with h | h
   ·exact hz.ok z h
   ·simp at h;subst h;exact m1,fun z hz'=>by
   rcases List.mem_append.1 hz' with h | h
   ·exact hz.ck z h
   ·simp at h;subst h;exact k1,by
   rw [List.map_append,hz.nm,List.length_append]
   exact jng (by show zs.length<2;omega)⟩
  rw [j9Y]
  simp only [j3i,show Int.ofNat (List.length zs)=(zs.length:Int) from rfl]
  rw [j01 (by omega),j14 (show (0:Int)≤(zs.length:Int) by omega) (by simp;omega)]
  simp only [j5,j7]
  rw [show j4q L a (List.getD [(ByteArray.mk #[104,101,114,101]),(ByteArray.mk #[116,104,101,114,101])] zs.length ByteArray.empty)=_ from e1]
  simp only [j3]
  rw [j01 (by simp [j07];omega),j02 (x:=((n+1:Nat):Int)-1) (by omega) (by omega)]
  simp only [j5,j06]
  rw [show ((n+1:Nat):Int)-1=(n:Int) by omega]
  exact ⟨zs',a',e2,by rw [h2];simp;omega,h3,h4⟩
structure PInv (nz:Nat) (ps:List j1E):Prop where
 ck:∀ p∈ps,PCk nz p
 nm:ps.map (·.1)=nmsL.take ps.length
theorem jqS {n:Int} (h0:0≤n) (h1:n≤168):j5Q (w64 (3600*n))=some true:=by
 rw [j02 (by omega) (by omega)]
 simp only [j5Q,jm0 (show 0≤3600*n by omega) (show 3600*n≤604800 by omega),j3,j5]
 rw [jeX,j7a (show (3600*n)%3600=0 by omega)]
theorem jtp {L:List Int} {zs:List j2E} (hz0:1≤zs.length) (hz1:zs.length≤100):∀ (n:Nat) (a:Int) (ps:List j1E),DOk L a→ps.length+n≤4→PInv zs.length ps→
  ∃ ps' a',j6t (n:Int) L a zs ps=some (L,a',zs,ps')∧ps'.length=ps.length+n∧PInv zs.length ps'∧DOk L a'
 | 0,a,ps,hd,_,hp=>by
  rw [j9Z]
  simp only [j3j]
  rw [j00 (by omega),j6,j0a]
  exact ⟨ps,a,rfl,rfl,hp,hd⟩
 | n+1,a,ps,hd,hl,hp=>by
  obtain ⟨x,a1,e1,x0,x1,d1⟩:=j0Q (n:=(zs.length:Int)) hd (by omega) (by omega)
  obtain ⟨b,a2,e2,d2⟩:=jio (n:=3) d1 (by omega) (by omega)
  obtain ⟨c,a3,e3,d3⟩:=jio (n:=2) d2 (by omega) (by omega)
  have hnm:ps.length<nmsL.length:=by show ps.length<8;omega
  have hmem:nmsL.getD ps.length ByteArray.empty∈nmsL:=by
   rw [List.getD_eq_getElem?_getD,List.getElem?_eq_getElem hnm]
   exact List.getElem_mem hnm
  have ext:∀ (w:WL) (p q:Int),WOk 0 w→w.length≤14→p∈[(0:Int),(40:Int),(100:Int),(12:Int)]→q∈[(0:Int),(11:Int),(24:Int),(1:Int)]→
    PInv zs.length (ps++[(nmsL.getD ps.length ByteArray.empty,(x,(w,(w64 (3600*p),(w64 (3600*q),b)))))]):=by
   intro w p q hw hwl hpm hqm
   have hp':0≤p∧p≤168:=by simp at hpm;omega
   have hq':0≤q∧q≤168:=by simp at hqm;omega
   refine ⟨fun r hr=> ?_,?_⟩
   ·rcases List.mem_append.1 hr with h | h
    ·exact hp.ck r h
    ·simp at h;subst h
     exact ⟨jwt _ hmem,x0,x1,hw,hwl,jqS hp'.1 hp'.2,jqS hq'.1 hq'.2⟩
   ·rw [List.map_append,hp.nm,List.length_append]
    exact jng hnm
  rw [j9Z]
  simp only [j3j,jqR,j3,show Int.ofNat (List.length ps)=(ps.length:Int) from rfl,show Int.ofNat (List.length zs)=(zs.length:Int) from rfl]
  rw [j01 (by omega),j14 (show (0:Int)≤(ps.length:Int) by omega) (by omega)]
  simp only [j5,e1,e2,e3,j3]
  rw [j02 (x:=((n+1:Nat):Int)-1) (by omega) (by omega),show ((n+1:Nat):Int)-1=(n:Int) by omega]
  cases c with
  | true=>
   obtain ⟨w,a4,e4,hw,hwl,d4⟩:=jin d3
   obtain ⟨p,a5,e5,hpm,d5⟩:=j88 d4 (xs:=[(0:Int),(40:Int),(100:Int),(12:Int)]) (by simp) (by simp)
   obtain ⟨q,a6,e6,hqm,d6⟩:=j88 d5 (xs:=[(0:Int),(11:Int),(24:Int),(1:Int)]) (by simp) (by simp)
   simp only [j5,e4,e5,e6,j3]
   rw [j01 (by simp [j07];omega)]
   simp only [j5,j06]
   obtain ⟨ps',a',e,h1,h2,h3⟩:=jtp hz0 hz1 n a6 _ d6 (by simp;omega) (ext w p q hw (by omega) hpm hqm)
   exact ⟨ps',a',e,by rw [h1];simp;omega,h2,h3⟩
  | false=>
   obtain ⟨p,a5,e5,hpm,d5⟩:=j88 d3 (xs:=[(0:Int),(40:Int),(100:Int),(12:Int)]) (by simp) (by simp)
   obtain ⟨q,a6,e6,hqm,d6⟩:=j88 d5 (xs:=[(0:Int),(11:Int),(24:Int),(1:Int)]) (by simp) (by simp)
   simp only [j6,e5,e6,j3]
   rw [j01 (by simp [j07];omega)]
   simp only [j5,j06]
   obtain ⟨ps',a',e,h1,h2,h3⟩:=jtp hz0 hz1 n a6 _ d6 (by simp;omega) (ext [] p q (show (0:Int)≤604800 by omega) (by simp) hpm hqm)
   exact ⟨ps',a',e,by rw [h1];simp;omega,h2,h3⟩
def DInv (q:Int) (ds:List Int):Prop:=ds.Pairwise (· < ·)∧∀ d∈ds,20454<d∧d≤q
theorem jvw {L:List Int} {s:Int} {nm:ByteArray} {z:Int} {zs:List j2E} {ps:List j1E} {cs:List CalT}:∀ (n:Nat) (a day:Int) (ds:List Int),DOk L a→ds.length+n≤4→20454≤day→day+6*n≤20480→DInv day ds→
  ∃ ds' a',j6u s (n:Int) day L a nm z zs ps cs ds=some (s,L,a',nm,z,zs,ps,cs,ds')∧ds'.length≤4∧DInv 20480 ds'∧DOk L a'
 | 0,a,day,ds,hd,hl,hy,hy2,hi=>by
  rw [ja0]
  simp only [j3k]
  rw [j00 (by omega),j6,j0a]
  exact ⟨ds,a,rfl,by omega,⟨hi.1,fun d hd=>by have:=hi.2 d hd;omega⟩,hd⟩
 | n+1,a,day,ds,hd,hl,hy,hy2,hi=>by
  obtain ⟨x,a1,e1,x0,x1,d1⟩:=j0Q (n:=6) hd (by omega) (by omega)
  rw [ja0]
  simp only [j3k]
  rw [j01 (by omega),j02 (x:=((n+1:Nat):Int)-1) (by omega) (by omega),show ((n+1:Nat):Int)-1=(n:Int) by omega]
  simp only [j5,e1,j3]
  rw [j01 (by simp [j07];omega),j02 (x:=1+x) (by omega) (by omega),j02 (x:=day+(1+x)) (by omega) (by omega)]
  simp only [j5,j06]
  refine jvw n a1 _ _ d1 (by simp;omega) (by omega) (by omega) ⟨List.pairwise_append.2 ⟨hi.1,by simp,fun u hu v hv=> ?_⟩,fun d hd=> ?_⟩
  ·simp at hv;subst hv
   have:=hi.2 u hu;omega
  ·rcases List.mem_append.1 hd with h | h
   ·have:=hi.2 d h;omega
   ·simp at h;omega
structure CInv (nz:Nat) (cs:List CalT):Prop where
 ck:∀ c∈cs,CCk nz c
 nm:NmL (cs.map (·.1))
 len:cs.length≤1
 dl:∀ c∈cs,c.2.2.length≤4
theorem jxB {nz:Nat} {nm:ByteArray} {x:Int} {ds:List Int} (x0:0≤x) (x1:x<nz) (hl:ds.length≤64) (hi:DInv 20480 ds):CCk nz (nm,(x,ds)):=
 ⟨x0,x1,hl,fun d hd=>jto (by have:=hi.2 d hd;omega) (by have:=hi.2 d hd;omega),hi.1⟩
structure SOk2 (zs:List j2E) (ps:List j1E) (cs:List CalT):Prop where
 so:SOk zs ps cs
 z:ZInv zs
 p:PInv zs.length ps
 c:CInv zs.length cs
theorem jtq {L:List Int} {a:Int} (h:DOk L a):∃ zs ps cs a',j8u L a=some ((zs,(ps,(cs,([]:List j1N)))),L,a')∧SOk2 zs ps cs∧DOk L a':=by
 obtain ⟨x,a1,e1,x0,x1,d1⟩:=j0Q (n:=2) h (by omega) (by omega)
 obtain ⟨zs,a2,e2,l2,k2,d2⟩:=jvv (1+x).toNat a1 [] d1 (by simp;omega) ⟨by simp,by simp,rfl⟩
 obtain ⟨y,a3,e3,y0,y1,d3⟩:=j0Q (n:=4) d2 (by omega) (by omega)
 simp at l2
 obtain ⟨ps,a4,e4,l4,k4,d4⟩:=jtp (zs:=zs) (by omega) (by omega) (1+y).toNat a3 [] d3 (by simp;omega) ⟨by simp,rfl⟩
 obtain ⟨q,a5,e5,q0,q1,d5⟩:=j0Q (n:=2) d4 (by omega) (by omega)
 simp at l4
 have hcal:∃ cs a',j6v q L a5 zs ps []=some (L,a',zs,ps,cs)∧CInv zs.length cs∧DOk L a':=by
  by_cases hq:q=0
  ·subst hq
   rw [j6M]
   simp only [j2y]
   rw [j00 (by omega),j6,j0a]
   exact ⟨[],a5,rfl,⟨by simp,NmL.nil,by simp,by simp⟩,d5⟩
  ·have hq1:q=1:=by omega
   subst hq1
   obtain ⟨x,a6,e6,x0,x1,d6⟩:=j0Q (n:=(zs.length:Int)) d5 (by omega) (by omega)
   obtain ⟨y,a7,e7,y0,y1,d7⟩:=j0Q (n:=4) d6 (by omega) (by omega)
   obtain ⟨ds,a8,e8,l8,k8,d8⟩:=jvw (s:=(1:Int)) (nm:=ByteArray.mk #[100,97,121,115]) (z:=x) (zs:=zs) (ps:=ps) (cs:=[]) y.toNat a7 20454 [] d7 (by simp;omega) (by omega) (by omega) ⟨by simp,by simp⟩
   rw [show ((y.toNat:Nat):Int)=y by omega] at e8
   rw [j6M]
   simp only [j2y,show Int.ofNat (List.length zs)=(zs.length:Int) from rfl]
   rw [j01 (by omega)]
   simp only [j5,e6,e7,e8,j3]
   rw [j01 (by simp [j07]),j02 (x:=(1:Int)-1) (by omega) (by omega)]
   simp only [j5,j06]
   rw [j6M]
   simp only [j2y]
   rw [j00 (by omega),j6,j0a]
   refine ⟨_,a8,rfl,⟨fun c hc=> ?_,NmL.one jws,by simp,fun c hc=>by simp at hc;subst hc;exact l8⟩,d8⟩
   simp at hc;subst hc
   exact jxB x0 x1 (by omega) k8
 obtain ⟨cs,a6,e6,k6,d6⟩:=hcal
 rw [show (((1+x).toNat:Nat):Int)=1+x by omega] at e2
 rw [show (((1+y).toNat:Nat):Int)=1+y by omega] at e4
 simp only [j8u,e1,j3]
 rw [j02 (x:=1+x) (by omega) (by omega)]
 simp only [e2,e3,j3]
 rw [j02 (x:=1+y) (by omega) (by omega)]
 simp only [e4,e5,e6,j3]
 exact ⟨zs,ps,cs,a6,rfl,⟨⟨by omega,by omega,k2.ok,by omega,by omega,k6.len⟩,k2,k4,k6⟩,d6⟩
end Go.Proofs.Pw
