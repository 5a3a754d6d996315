/- Chapter 8: configurations that are right. -/
import Derived.Test.YthpdddnkpjnllaaGreatCPA
import Derived.Test.YthpdddnkpjnllaaGreatCPC
import Derived.Test.YthpdddnkpjnllaaGreatCPB
import Derived.KernelRfl
open Go Go.Lft
namespace Go.Proofs.Pw
abbrev EditT:=Int×(Int×(Int×(Int×Int)))
abbrev CfgT:=List ZoneT×(List PersonT×(List CalT×List SchedT))
theorem rsin_t {n lo hi:Int} (h1:lo≤n) (h2:n≤hi):j061 n lo hi=some true:=by
 simp only [j061]
 rw [j001 (show n≥lo from h1),j001 h2];rfl
theorem idx_t {i n:Int} (h1:0≤i) (h2:i<n):j01Z i n=some true:=by
 simp only [j01Z]
 rw [j001 (show i≥0 from h1),j001 h2];rfl
theorem idx_f {i n:Int} (h1:i<0):j01Z i n=some false:=by
 simp only [j01Z]
 rw [j000 (show ¬ i≥0 by omega)];rfl
structure ZCk (z:ZoneT):Prop where
 ck:j06H z=some 0
 o60:Int.tmod z.2.1 60=0
 r60:∀ r∈z.2.2,Int.tmod r.2.2.2.2.2.2 60=0
 len:z.2.2.length≤1000
theorem cz_lp {rs:List Rule} (h:∀ r∈rs,Int.tmod r.2.2.2.2.2.2 60=0) (hl:rs.length≤1000):∀ (n i:Nat),i+n=rs.length→j00c rs (rs.length:Int) (i:Int)=some (.inr ())
 | 0,i,hi=>by
  rw [j01W]
  simp only [j00f]
  rw [j000 (by omega),cond_false,lpK_inr]
 | n+1,i,hi=>by
  have hlt:i<rs.length:=by omega
  have hgd:rs.getD i ((0:Int),((0:Int),((0:Int),((0:Int),((0:Int),((0:Int),(0:Int)))))))=rs[i]:=by simp [hlt]
  have:=h rs[i] (List.getElem_mem hlt)
  rw [j01W]
  simp only [j00f,j05y]
  rw [j001 (by omega),inR_t (by omega) (by omega),w64_in (x:=(i:Int)+1) (by omega) (by omega)]
  simp only [cond_true,Int.toNat_natCast,hgd,Option.bind_some,this,bne_self_eq_false,cond_false,lpK_inl]
  exact cz_lp h hl n (i+1) (by omega)
theorem cz_ok {z:ZoneT} (h:ZCk z):j02m z=some 0:=by
 have lp:=cz_lp h.r60 h.len z.2.2.length 0 (by omega)
 rw [show ((0:Nat):Int)=0 from rfl] at lp
 simp only [j02m,show j06H (z.1,(z.2.1,z.2.2))=_ from h.ck,Option.bind_some,h.o60,bne_self_eq_false,cond_false,j00d,j00j,show Int.ofNat z.2.2.length=(z.2.2.length:Int) from rfl,lp,j09h]
 rfl
theorem nz_lp {zs:List ZoneT} (hn:NmL (zs.map (·.1))) (hc:∀ z∈zs,ZCk z) (hl:zs.length≤100):∀ (n i:Nat),i+n=zs.length→j013 zs (zs.length:Int) (i:Int) (seenOf ((zs.take i).map (·.1)))=some (.inr ())
 | 0,i,hi=>by
  rw [j04H]
  simp only [j00t]
  rw [j000 (by omega),cond_false,lpK_inr]
 | n+1,i,hi=>by
  have hlt:i<zs.length:=by omega
  have hgd:zs.getD i (ByteArray.empty,((0:Int),([]:List Rule)))=zs[i]:=by simp [hlt]
  have h1:=name_at (·.1) hn hlt
  have h2:=cz_ok (hc zs[i] (List.getElem_mem hlt))
  rw [j04H]
  simp only [j00t,j07E]
  rw [j001 (by omega),inR_t (by omega) (by omega),w64_in (x:=(i:Int)+1) (by omega) (by omega)]
  simp only [cond_true,Int.toNat_natCast,hgd,Option.bind_some,h1,bne_self_eq_false,cond_false]
  rw [show j02m (zs[i].1,(zs[i].2.1,zs[i].2.2))=_ from h2]
  simp only [Option.bind_some,bne_self_eq_false,cond_false,lpK_inl]
  exact nz_lp hn hc hl n (i+1) (by omega)
theorem nz_ok {zs:List ZoneT} (hn:NmL (zs.map (·.1))) (hc:∀ z∈zs,ZCk z) (hl:zs.length≤100):j01u zs=some 0:=by
 have lp:=nz_lp hn hc hl zs.length 0 (by omega)
 simp only [j01u,show Int.ofNat zs.length=(zs.length:Int) from rfl]
 rw [show j013 zs (zs.length:Int) 0 []=_ from lp]
 rfl
structure PCk (nz:Nat) (p:PersonT):Prop where
 nb:(ByteArray.toList p.1==ByteArray.toList (ByteArray.mk #[110,111,98,111,100,121]))=false
 z0:0≤p.2.1
 z1:p.2.1<nz
 w:WOk 0 p.2.2.1
 wl:p.2.2.1.length≤14
 m:j04I p.2.2.2.1=some true
 r:j04I p.2.2.2.2.1=some true
theorem cp_ok {c:CfgT} {p:PersonT} (h:PCk c.1.length p):j01o c p=some 0:=by
 have hz0:=h.z0;have hz1:=h.z1
 simp only [j01o,show Int.ofNat c.1.length=(c.1.length:Int) from rfl,idx_t hz0 hz1,Option.bind_some,Bool.not_true,cond_false,j0jD h.w h.wl,bne_self_eq_false,h.m,h.r]
theorem np_lp {zs:List ZoneT} {ps:List PersonT} {cs:List CalT} {ss:List SchedT} (hn:NmL (ps.map (·.1))) (hc:∀ p∈ps,PCk zs.length p) (hl:ps.length≤100):∀ (n i:Nat),i+n=ps.length→j036 ps (ps.length:Int) (i:Int) zs ps cs ss (seenOf ((ps.take i).map (·.1)))=some (.inr (zs,ps,cs,ss))
 | 0,i,hi=>by
  rw [j08j]
  simp only [j01j]
  rw [j000 (by omega),cond_false,lpK_inr]
 | n+1,i,hi=>by
  have hlt:i<ps.length:=by omega
  have hgd:ps.getD i (ByteArray.empty,((0:Int),(([]:List (Int×Int)),((0:Int),((0:Int),false)))))=ps[i]:=by simp [hlt]
  have h1:=name_at (·.1) hn hlt
  have hp:=hc ps[i] (List.getElem_mem hlt)
  have h2:=cp_ok (c:=(zs,(ps,(cs,ss)))) hp
  rw [j08j]
  simp only [j01j]
  rw [j001 (by omega),inR_t (by omega) (by omega),w64_in (x:=(i:Int)+1) (by omega) (by omega)]
  simp only [cond_true,Int.toNat_natCast,hgd,Option.bind_some,h1,hp.nb,beq_self_eq_true,cond_false]
  rw [show j01o (zs,(ps,(cs,ss))) (ps[i].1,(ps[i].2.1,(ps[i].2.2.1,(ps[i].2.2.2.1,(ps[i].2.2.2.2.1,ps[i].2.2.2.2.2)))))=_ from h2]
  simp only [Option.bind_some,bne_self_eq_false,cond_false,lpK_inl]
  exact np_lp hn hc hl n (i+1) (by omega)
structure CCk (nz:Nat) (c:CalT):Prop where
 z0:0≤c.2.1
 z1:c.2.1<nz
 len:c.2.2.length≤64
 day:∀ d∈c.2.2,j01t d=some true
 asc:c.2.2.Pairwise (· < ·)
theorem cd_lp {ds:List Int} (h:∀ d∈ds,j01t d=some true) (hl:ds.length≤64):∀ (n i:Nat),i+n=ds.length→j018 ds (ds.length:Int) (i:Int)=some (.inr ())
 | 0,i,hi=>by
  rw [j04j]
  simp only [j00m]
  rw [j000 (by omega),cond_false,lpK_inr]
 | n+1,i,hi=>by
  have hlt:i<ds.length:=by omega
  have hgd:ds.getD i (0:Int)=ds[i]:=by simp [hlt]
  have:=h ds[i] (List.getElem_mem hlt)
  rw [j04j]
  simp only [j00m,j01F]
  rw [j001 (by omega),inR_t (by omega) (by omega),w64_in (x:=(i:Int)+1) (by omega) (by omega)]
  simp only [cond_true,Int.toNat_natCast,hgd,this,Option.bind_some,Bool.not_true,cond_false,lpK_inl]
  exact cd_lp h hl n (i+1) (by omega)
theorem ca_lp {nm:ByteArray} {z:Int} {ds:List Int} (h:ds.Pairwise (· < ·)) (hl:ds.length≤64):∀ (n i:Nat),i+n=ds.length→j01H (ds.length:Int) (i:Int) nm z ds=some (.inr ())
 | 0,i,hi=>by
  rw [j054]
  simp only [j01p]
  rw [j000 (by omega),cond_false,lpK_inr]
 | n+1,i,hi=>by
  have hlt:i<ds.length:=by omega
  have hgd:ds.getD i (0:Int)=ds[i]:=by simp [hlt]
  have ih:=ca_lp (nm:=nm) (z:=z) h hl n (i+1) (by omega)
  rw [j054]
  simp only [j01p]
  rw [j001 (by omega),inR_t (i:=(i:Int)) (by omega) (by omega),w64_in (x:=(i:Int)+1) (by omega) (by omega)]
  simp only [cond_true,Int.toNat_natCast,hgd]
  by_cases h0:i=0
  ·subst h0
   rw [j000 (by omega),cond_false,lpK_inl]
   exact ih
  ·have hj:i-1<ds.length:=by omega
   have hgj:ds.getD (i-1) (0:Int)=ds[i-1]:=by simp [hj]
   have hp:ds[i-1]<ds[i]:=List.pairwise_iff_getElem.1 h (i-1) i hj hlt (by omega)
   rw [j001 (show (i:Int)>0 by omega),w64_in (x:=(i:Int)-1) (by omega) (by omega),inR_t (i:=(i:Int)-1) (by omega) (by omega),show ((i:Int)-1).toNat=i-1 by omega,hgj,j000 (show ¬ ds[i]≤ds[i-1] by omega)]
   simp only [cond_true,cond_false,lpK_inl]
   exact ih
theorem cc_ok {c:CfgT} {x:CalT} (h:CCk c.1.length x):j01h c x=some 0:=by
 have hz0:=h.z0;have hz1:=h.z1;have hl:=h.len
 have l1:=cd_lp h.day hl x.2.2.length 0 (by omega)
 have l2:=ca_lp (nm:=x.1) (z:=x.2.1) h.asc hl x.2.2.length 0 (by omega)
 rw [show ((0:Nat):Int)=0 from rfl] at l1 l2
 simp only [j01h,show Int.ofNat c.1.length=(c.1.length:Int) from rfl,show Int.ofNat x.2.2.length=(x.2.2.length:Int) from rfl,idx_t hz0 hz1,Option.bind_some,Bool.not_true,cond_false,j019,j01G,l1,l2,j09h]
 rw [j000 (by omega)]
 rfl
theorem nc_lp {zs:List ZoneT} {ps:List PersonT} {cs:List CalT} {ss:List SchedT} (hn:NmL (cs.map (·.1))) (hc:∀ x∈cs,CCk zs.length x) (hl:cs.length≤100):∀ (n i:Nat),i+n=cs.length→j00G zs ps cs ss cs (cs.length:Int) (i:Int) (seenOf ((cs.take i).map (·.1)))=some (.inr ())
 | 0,i,hi=>by
  rw [j03Q]
  simp only [j00h]
  rw [j000 (by omega),cond_false,lpK_inr]
 | n+1,i,hi=>by
  have hlt:i<cs.length:=by omega
  have hgd:cs.getD i (ByteArray.empty,((0:Int),([]:List Int)))=cs[i]:=by simp [hlt]
  have h1:=name_at (·.1) hn hlt
  have h2:=cc_ok (c:=(zs,(ps,(cs,ss)))) (hc cs[i] (List.getElem_mem hlt))
  rw [j03Q]
  simp only [j00h,j07F,j03P]
  rw [j001 (by omega),inR_t (by omega) (by omega),w64_in (x:=(i:Int)+1) (by omega) (by omega)]
  simp only [cond_true,Int.toNat_natCast,hgd,Option.bind_some,h1,bne_self_eq_false,cond_false]
  rw [show j01h (zs,(ps,(cs,ss))) (cs[i].1,(cs[i].2.1,cs[i].2.2))=_ from h2]
  simp only [Option.bind_some,bne_self_eq_false,cond_false,lpK_inl]
  exact nc_lp hn hc hl n (i+1) (by omega)
theorem nc_ok {zs:List ZoneT} {ps:List PersonT} {cs:List CalT} {ss:List SchedT} (hn:NmL (cs.map (·.1))) (hc:∀ x∈cs,CCk zs.length x) (hl:cs.length≤100):j00V cs zs ps cs ss=some 0:=by
 have lp:=nc_lp (ps:=ps) (ss:=ss) hn hc hl cs.length 0 (by omega)
 simp only [j00V,show Int.ofNat cs.length=(cs.length:Int) from rfl]
 rw [show j00G zs ps cs ss cs (cs.length:Int) 0 []=_ from lp]
 rfl
structure LCk (nz np nc:Nat) (l:LayerT):Prop where
 z0:0≤l.2.1
 z1:l.2.1<nz
 d0:1≤l.2.2.1.1
 day:j01t l.2.2.1.1=some true
 c0:0≤l.2.2.1.2
 c1:l.2.2.1.2≤86399
 u0:0≤l.2.2.2.1
 u1:l.2.2.2.1≤2
 e0:1≤l.2.2.2.2.1
 e1:l.2.2.2.2.1≤400
 m0:l.2.2.2.2.2.1.length≠0
 m1:l.2.2.2.2.2.1.length≤12
 mem:∀ m∈l.2.2.2.2.2.1,0≤m∧m<(np:Int)
 w:WOk 0 l.2.2.2.2.2.2.1
 wl:l.2.2.2.2.2.2.1.length≤14
 mode0:0≤l.2.2.2.2.2.2.2.2
 mode1:l.2.2.2.2.2.2.2.2≤2
 cal:l.2.2.2.2.2.2.2.2≠0→0≤l.2.2.2.2.2.2.2.1∧l.2.2.2.2.2.2.2.1<(nc:Int)
 cal0:l.2.2.2.2.2.2.2.2=0→l.2.2.2.2.2.2.2.1=0
theorem lm_lp {zs:List ZoneT} {ps:List PersonT} {cs:List CalT} {ss:List SchedT} {ms:List Int} (h:∀ m∈ms,0≤m∧m<(ps.length:Int)) (hl:ms.length≤12):∀ (n i:Nat),i+n=ms.length→j00N ms zs ps cs ss (ms.length:Int) (i:Int)=some (.inr ())
 | 0,i,hi=>by
  rw [j03H]
  simp only [j00J]
  rw [j000 (by omega),cond_false,lpK_inr]
 | n+1,i,hi=>by
  have hlt:i<ms.length:=by omega
  have hgd:ms.getD i (0:Int)=ms[i]:=by simp [hlt]
  have hm:=h ms[i] (List.getElem_mem hlt)
  rw [j03H]
  simp only [j00J,j056,show Int.ofNat ps.length=(ps.length:Int) from rfl]
  rw [j001 (by omega),inR_t (by omega) (by omega),w64_in (x:=(i:Int)+1) (by omega) (by omega)]
  simp only [cond_true,Int.toNat_natCast,hgd,idx_t hm.1 hm.2,Option.bind_some,Bool.not_true,cond_false,lpK_inl]
  exact lm_lp h hl n (i+1) (by omega)
theorem cl_ok {c:CfgT} {l:LayerT} (h:LCk c.1.length c.2.1.length c.2.2.1.length l):j020 c l=some 0:=by
 have hz0:=h.z0;have hz1:=h.z1;have hd0:=h.d0;have hm0:=h.m0;have hm1:=h.m1
 have l1:=lm_lp (zs:=c.1) (cs:=c.2.2.1) (ss:=c.2.2.2) h.mem hm1 l.2.2.2.2.2.1.length 0 (by omega)
 rw [show ((0:Nat):Int)=0 from rfl] at l1
 simp only [j020,show Int.ofNat c.1.length=(c.1.length:Int) from rfl,show Int.ofNat l.2.2.2.2.2.1.length=(l.2.2.2.2.2.1.length:Int) from rfl,show Int.ofNat c.2.2.1.length=(c.2.2.1.length:Int) from rfl,idx_t hz0 hz1,Option.bind_some,Bool.not_true,cond_false,h.day,rsin_t h.c0 h.c1,rsin_t h.u0 h.u1,rsin_t h.e0 h.e1,rsin_t h.mode0 h.mode1,
  j00O,j01a,l1,j09h,j0jD h.w h.wl,bne_self_eq_false]
 rw [j000 (show ¬ l.2.2.1.1<1 by omega),beq_f (show ¬ (l.2.2.2.2.2.1.length:Int)=0 by omega),j000 (show ¬ (l.2.2.2.2.2.1.length:Int)>12 by omega),j000 (show ¬ (-1:Int)≥0 by omega)]
 simp only [cond_false]
 by_cases hmd:l.2.2.2.2.2.2.2.2=0
 ·rw [hmd,h.cal0 hmd];rfl
 ·have hc:=h.cal hmd
  rw [show (l.2.2.2.2.2.2.2.2 != 0)=true by simp [hmd],beq_f hmd,cond_true,idx_t hc.1 hc.2]
  rfl
theorem nl_lp {zs:List ZoneT} {ps:List PersonT} {cs:List CalT} {ss:List SchedT} {ls:List LayerT} (hn:NmL (ls.map (·.1))) (hc:∀ x∈ls,LCk zs.length ps.length cs.length x) (hl:ls.length≤100):∀ (n i:Nat),i+n=ls.length→j00W zs ps cs ss ls (ls.length:Int) (i:Int) (seenOf ((ls.take i).map (·.1)))=some (.inr ())
 | 0,i,hi=>by
  rw [j04B]
  simp only [j00r]
  rw [j000 (by omega),cond_false,lpK_inr]
 | n+1,i,hi=>by
  have hlt:i<ls.length:=by omega
  have hgd:ls.getD i (ByteArray.empty,((0:Int),(((0:Int),(0:Int)),((0:Int),((0:Int),(([]:(List Int)),(([]:(List (Int×Int))),((0:Int),(0:Int)))))))))=ls[i]:=by simp [hlt]
  have h1:=name_at (·.1) hn hlt
  have h2:=cl_ok (c:=(zs,(ps,(cs,ss)))) (hc ls[i] (List.getElem_mem hlt))
  rw [j04B]
  simp only [j00r,j048,j01I]
  rw [j001 (by omega),inR_t (by omega) (by omega),w64_in (x:=(i:Int)+1) (by omega) (by omega)]
  simp only [cond_true,Int.toNat_natCast,hgd,Option.bind_some,h1,bne_self_eq_false,cond_false]
  rw [show j020 (zs,(ps,(cs,ss))) (ls[i].1,ls[i].2.1,(ls[i].2.2.1.1,ls[i].2.2.1.2),ls[i].2.2.2.1,ls[i].2.2.2.2.1,ls[i].2.2.2.2.2.1,ls[i].2.2.2.2.2.2.1,ls[i].2.2.2.2.2.2.2.1,ls[i].2.2.2.2.2.2.2.2)=_ from h2]
  simp only [Option.bind_some,bne_self_eq_false,cond_false,lpK_inl]
  exact nl_lp hn hc hl n (i+1) (by omega)
theorem nl_ok {zs:List ZoneT} {ps:List PersonT} {cs:List CalT} {ss:List SchedT} {ls:List LayerT} (hn:NmL (ls.map (·.1))) (hc:∀ x∈ls,LCk zs.length ps.length cs.length x) (hl:ls.length≤100):j01n ls zs ps cs ss=some 0:=by
 have lp:=nl_lp (ss:=ss) hn hc hl ls.length 0 (by omega)
 simp only [j01n,show Int.ofNat ls.length=(ls.length:Int) from rfl]
 rw [show j00W zs ps cs ss ls (ls.length:Int) 0 []=_ from lp]
 rfl
structure ECk (np:Nat) (x:EditT):Prop where
 k0:0≤x.1
 k1:x.1≤2
 a:0≤x.2.1∧x.2.1<(np:Int)∨x.1=1∧x.2.1 = -1
 b:x.1=2→0≤x.2.2.1∧x.2.2.1<(np:Int)∧x.2.1≠x.2.2.1
 b0:x.1≠2→x.2.2.1=0
 f0:0≤x.2.2.2.1
 ft:x.2.2.2.1<x.2.2.2.2
 t1:x.2.2.2.2≤1000000000000
 day:j01t (Int.tdiv x.2.2.2.2 86400)=some true
theorem ce_ok {c:CfgT} {x:EditT} (h:ECk c.2.1.length x):j02n c x=some 0:=by
 have hf0:=h.f0;have hft:=h.ft;have ht1:=h.t1;have hday:=h.day
 have hdv:w64 (Int.tdiv x.2.2.2.2 86400)=Int.tdiv x.2.2.2.2 86400:=by
  rw [tdiv_nn (by omega)]
  exact w64_in (by omega) (by omega)
 simp only [j02n,show Int.ofNat c.2.1.length=(c.2.1.length:Int) from rfl,rsin_t h.k0 h.k1,Option.bind_some,Bool.not_true,cond_false,hdv,hday]
 rw [j000 (show ¬ x.2.2.2.1<0 by omega),j000 (show ¬ x.2.2.2.2<0 by omega),j000 (show ¬ x.2.2.2.1≥x.2.2.2.2 by omega)]
 simp only [cond_false]
 have hA:∃ b,j01Z x.2.1 (c.2.1.length:Int)=some b∧cond (!b) (!(cond (x.1==(1:Int)) (x.2.1==(-1:Int)) false)) false=false:=by
  rcases h.a with ⟨a1,a2⟩ | ⟨a1,a2⟩
  ·exact ⟨true,idx_t a1 a2,rfl⟩
  ·exact ⟨false,idx_f (by omega),by rw [a1,a2];rfl⟩
 obtain ⟨b,e1,e2⟩:=hA
 rw [e1]
 simp only [Option.bind_some,e2,cond_false]
 by_cases h2:x.1=2
 ·obtain ⟨b1,b2,b3⟩:=h.b h2
  rw [beq_t h2,cond_true,idx_t b1 b2,show (x.1 != 2)=false by rw [h2];rfl,beq_f b3]
  rfl
 ·rw [beq_f h2,cond_false,show (x.1 != 2)=true by simp [h2],h.b0 h2]
  rfl
theorem es_lp {zs:List ZoneT} {ps:List PersonT} {cs:List CalT} {ss:List SchedT} {es:List EditT} (hc:∀ x∈es,ECk ps.length x) (hl:es.length≤48):∀ (n i:Nat),i+n=es.length→j01J es (es.length:Int) (i:Int) zs ps cs ss=some (.inr ())
 | 0,i,hi=>by
  rw [j055]
  simp only [j00A]
  rw [j000 (by omega),cond_false,lpK_inr]
 | n+1,i,hi=>by
  have hlt:i<es.length:=by omega
  have hgd:es.getD i ((0:Int),((0:Int),((0:Int),((0:Int),(0:Int)))))=es[i]:=by simp [hlt]
  have h2:=ce_ok (c:=(zs,(ps,(cs,ss)))) (hc es[i] (List.getElem_mem hlt))
  rw [j055]
  simp only [j00A]
  rw [j001 (by omega),inR_t (by omega) (by omega),w64_in (x:=(i:Int)+1) (by omega) (by omega)]
  simp only [cond_true,Int.toNat_natCast,hgd]
  rw [show j02n (zs,(ps,(cs,ss))) (es[i].1,es[i].2.1,es[i].2.2.1,es[i].2.2.2.1,es[i].2.2.2.2)=_ from h2]
  simp only [Option.bind_some,bne_self_eq_false,cond_false,lpK_inl]
  exact es_lp hc hl n (i+1) (by omega)
structure SCk (nz np nc:Nat) (s:SchedT):Prop where
 nm:NmL (s.2.1.map (·.1))
 ly:∀ x∈s.2.1,LCk nz np nc x
 ll:s.2.1.length≤6
 ed:∀ x∈s.2.2,ECk np x
 el:s.2.2.length≤48
theorem cs_ok {c:CfgT} {s:SchedT} (h:SCk c.1.length c.2.1.length c.2.2.1.length s):j01i c s=some 0:=by
 have hll:=h.ll;have hel:=h.el
 have lp:=es_lp (zs:=c.1) (ps:=c.2.1) (cs:=c.2.2.1) (ss:=c.2.2.2) h.ed hel s.2.2.length 0 (by omega)
 rw [show ((0:Nat):Int)=0 from rfl] at lp
 simp only [j01i,show Int.ofNat s.2.1.length=(s.2.1.length:Int) from rfl,show Int.ofNat s.2.2.length=(s.2.2.length:Int) from rfl]
 rw [j000 (show ¬ (s.2.1.length:Int)>6 by omega),j000 (show ¬ (s.2.2.length:Int)>48 by omega)]
 simp only [cond_false,nl_ok (zs:=c.1) (ps:=c.2.1) (cs:=c.2.2.1) (ss:=c.2.2.2) h.nm h.ly (by omega),Option.bind_some,bne_self_eq_false,lp,j09h]
theorem ns_lp {zs:List ZoneT} {ps:List PersonT} {cs:List CalT} {ss:List SchedT} (hn:NmL (ss.map (·.1))) (hc:∀ x∈ss,SCk zs.length ps.length cs.length x) (hl:ss.length≤100):∀ (n i:Nat),i+n=ss.length→j00H zs ps cs ss ss (ss.length:Int) (i:Int) (seenOf ((ss.take i).map (·.1)))=some (.inr ())
 | 0,i,hi=>by
  rw [j03S]
  simp only [j00i]
  rw [j000 (by omega),cond_false,lpK_inr]
 | n+1,i,hi=>by
  have hlt:i<ss.length:=by omega
  have hgd:ss.getD i (ByteArray.empty,(([]:List LayerT),([]:List EditT)))=ss[i]:=by simp [hlt]
  have h1:=name_at (·.1) hn hlt
  have h2:=cs_ok (c:=(zs,(ps,(cs,ss)))) (hc ss[i] (List.getElem_mem hlt))
  rw [j03S]
  simp only [j00i,j07H,j03R]
  rw [j001 (by omega),inR_t (by omega) (by omega),w64_in (x:=(i:Int)+1) (by omega) (by omega)]
  simp only [cond_true,Int.toNat_natCast,hgd,Option.bind_some,h1,bne_self_eq_false,cond_false]
  rw [show j01i (zs,(ps,(cs,ss))) (ss[i].1,(ss[i].2.1,ss[i].2.2))=_ from h2]
  simp only [Option.bind_some,bne_self_eq_false,cond_false,lpK_inl]
  exact ns_lp hn hc hl n (i+1) (by omega)
structure CfgOk (c:CfgT):Prop where
 zn:NmL (c.1.map (·.1))
 zc:∀ z∈c.1,ZCk z
 zl:c.1.length≤16
 pn:NmL (c.2.1.map (·.1))
 pc:∀ p∈c.2.1,PCk c.1.length p
 pl:c.2.1.length≤32
 cn:NmL (c.2.2.1.map (·.1))
 cc:∀ x∈c.2.2.1,CCk c.1.length x
 cl:c.2.2.1.length≤8
 sn:NmL (c.2.2.2.map (·.1))
 sc:∀ x∈c.2.2.2,SCk c.1.length c.2.1.length c.2.2.1.length x
 sl:c.2.2.2.length≤12
theorem j0iv {c:CfgT} (h:CfgOk c):j044 c=some 0:=by
 have hzl:=h.zl;have hpl:=h.pl;have hcl:=h.cl;have hsl:=h.sl
 have lp:=np_lp (zs:=c.1) (cs:=c.2.2.1) (ss:=c.2.2.2) h.pn h.pc (by omega) c.2.1.length 0 (by omega)
 have ls:=ns_lp (zs:=c.1) (ps:=c.2.1) (cs:=c.2.2.1) h.sn h.sc (by omega) c.2.2.2.length 0 (by omega)
 simp only [j044,show Int.ofNat c.1.length=(c.1.length:Int) from rfl,show Int.ofNat c.2.1.length=(c.2.1.length:Int) from rfl,show Int.ofNat c.2.2.1.length=(c.2.2.1.length:Int) from rfl,show Int.ofNat c.2.2.2.length=(c.2.2.2.length:Int) from rfl]
 rw [j000 (show ¬ (c.1.length:Int)>16 by omega),j000 (show ¬ (c.2.1.length:Int)>32 by omega),j000 (show ¬ (c.2.2.1.length:Int)>8 by omega),j000 (show ¬ (c.2.2.2.length:Int)>12 by omega)]
 simp only [cond_false,nz_ok h.zn h.zc (by omega),Option.bind_some,bne_self_eq_false]
 rw [show j036 c.2.1 (c.2.1.length:Int) 0 c.1 c.2.1 c.2.2.1 c.2.2.2 []=_ from lp]
 simp only [Option.bind_some,j09h,nc_ok (zs:=c.1) (ps:=c.2.1) (cs:=c.2.2.1) (ss:=c.2.2.2) h.cn h.cc (by omega),bne_self_eq_false,cond_false,j01g,show Int.ofNat c.2.2.2.length=(c.2.2.2.length:Int) from rfl]
 rw [show j00H c.1 c.2.1 c.2.2.1 c.2.2.2 c.2.2.2 (c.2.2.2.length:Int) 0 []=_ from ls]
 rfl
end Go.Proofs.Pw
open Go Go.Lft
namespace Go.Proofs.Pw
def nmsL:List ByteArray:=[(ByteArray.mk #[97,100,97]),(ByteArray.mk #[98,111,98]),(ByteArray.mk #[99,108,101,111]),(ByteArray.mk #[100,97,110]),(ByteArray.mk #[101,118,101]),(ByteArray.mk #[102,97,121]),(ByteArray.mk #[103,117,115]),(ByteArray.mk #[104,97,108])]
def nmsZ:List ByteArray:=[(ByteArray.mk #[104,101,114,101]),(ByteArray.mk #[116,104,101,114,101])]
theorem j0jE:j0bv=some nmsL:=rfl
theorem nmsL_ok:NmL nmsL:=by
 refine ⟨by decide,fun k hk=> ?_⟩
 simp only [nmsL,List.mem_cons,List.not_mem_nil,or_false] at hk
 rcases hk with rfl | rfl | rfl | rfl | rfl | rfl | rfl | rfl<;>exact j06R 60 _ true (by kernel_rfl)
theorem nmsZ_ok:NmL nmsZ:=by
 refine ⟨by decide,fun k hk=> ?_⟩
 simp only [nmsZ,List.mem_cons,List.not_mem_nil,or_false] at hk
 rcases hk with rfl | rfl<;>exact j06R 60 _ true (by kernel_rfl)
theorem NmL.take {l:List ByteArray} (h:NmL l) (n:Nat):NmL (l.take n):=⟨h.1.sublist (List.take_sublist n l),fun k hk=>h.2 k (List.mem_of_mem_take hk)⟩
theorem NmL.one {s:ByteArray} (h:j06C s=some true):NmL [s]:=⟨by simp,fun k hk=>by simp at hk;subst hk;exact h⟩
theorem NmL.nil:NmL []:=⟨List.nodup_nil,by simp⟩
theorem nm_days:j06C (ByteArray.mk #[100,97,121,115])=some true:=j06R 60 _ true (by kernel_rfl)
theorem nmsL_nb:∀ k∈nmsL,(ByteArray.toList k==ByteArray.toList (ByteArray.mk #[110,111,98,111,100,121]))=false:=by
 intro k hk
 simp only [nmsL,List.mem_cons,List.not_mem_nil,or_false] at hk
 rcases hk with rfl | rfl | rfl | rfl | rfl | rfl | rfl | rfl<;>kernel_rfl
theorem j0ld:((List.range 61).all fun i=>j0gz 60 (20440+(i:Int))==some true)=true:=by kernel_rfl
theorem day_ok {d:Int} (h1:20440≤d) (h2:d≤20500):j01t d=some true:=by
 have h:=List.all_eq_true.1 j0ld (d-20440).toNat (List.mem_range.2 (by omega))
 rw [show (20440:Int)+(((d-20440).toNat:Nat):Int)=d by omega] at h
 exact j07r 60 d true (eq_of_beq h)
theorem t60 {x:Int} (h:x%60=0):Int.tmod x 60=0:=by
 have:=j0bR x 60
 rw [h] at this
 simpa using this
theorem all2 {P:Rule→Prop} {r s:Rule} (h1:P r) (h2:P s):∀ x∈[r,s],P x:=by
 intro x hx
 simp at hx
 rcases hx with rfl | rfl
 ·exact h1
 ·exact h2
theorem Zone_60 {L:List Int} {a:Int} (h:DOk L a) (nm:ByteArray):∃ o rs a',j03s L a nm=some ((nm,(o,rs)),L,a')∧Int.tmod o 60=0∧∀ r∈rs,Int.tmod r.2.2.2.2.2.2 60=0:=by
 obtain ⟨p,a1,e1,m1,d1⟩:=Pick_ok h (xs:=[(0:Int),(4:Int),(-20:Int),(22:Int),(48:Int),(-47:Int)]) (by simp) (by simp)
 obtain ⟨x2,a2,e2,x20,x21,d2⟩:=Next_ok (n:=2) d1 (by omega) (by omega)
 obtain ⟨x3,a3,e3,x30,x31,d3⟩:=Next_ok (n:=3) d2 (by omega) (by omega)
 obtain ⟨y,a4,e4,y0,y1,d4⟩:=Next_ok (n:=2) d3 (by omega) (by omega)
 obtain ⟨q,a5,e5,q0,q1,d5⟩:=Next_ok (n:=4) d4 (by omega) (by omega)
 have hp : -47≤p∧p≤48:=by simp at m1;omega
 have hmul:0≤x2*x3∧x2*x3≤2:=by
  obtain rfl | rfl:x2=0∨x2=1:=by omega
  all_goals omega
 have ho0 : -43200≤900*(p+x2*x3):=by omega
 have ho1:900*(p+x2*x3)≤45000:=by omega
 have ho2:(900*(p+x2*x3))%60=0:=by omega
 simp only [j03s,e1,e2,e3,e4,e5,Option.bind_some]
 rw [w64_in (x:=x2*x3) (by omega) (by omega),w64_in (x:=p+x2*x3) (by omega) (by omega),w64_in (x:=900*(p+x2*x3)) (by omega) (by omega),w64_in (x:=2025+y) (by omega) (by omega)]
 generalize 900*(p+x2*x3)=o at *
 generalize 2025+y=last at *
 by_cases hq1:q=1
 ·rw [beq_t hq1,cond_true,w64_in (x:=o+3600) (by omega) (by omega)]
  exact ⟨_,_,_,rfl,t60 ho2,all2 (P:=fun r=>Int.tmod r.2.2.2.2.2.2 60=0) (t60 (show (o+3600)%60=0 by omega)) (t60 ho2)⟩
 ·rw [beq_f hq1,cond_false]
  by_cases hq2:q=2
  ·rw [beq_t hq2,cond_true]
   obtain ⟨b1,c1,f1,b10,b11,g1⟩:=Next_ok (n:=4) d5 (by omega) (by omega)
   obtain ⟨b2,c2,f2,b20,b21,g2⟩:=Next_ok (n:=7) g1 (by omega) (by omega)
   obtain ⟨b3,c3,f3,b30,b31,g3⟩:=Next_ok (n:=24) g2 (by omega) (by omega)
   obtain ⟨b4,c4,f4,b40,b41,g4⟩:=Next_ok (n:=8) g3 (by omega) (by omega)
   obtain ⟨b5,c5,f5,b50,b51,g5⟩:=Next_ok (n:=2) g4 (by omega) (by omega)
   obtain ⟨b6,c6,f6,m6,g6⟩:=Pick_ok g5 (xs:=[(2:Int),(3:Int),(5:Int)]) (by simp) (by simp)
   obtain ⟨b7,c7,f7,b70,b71,g7⟩:=Next_ok (n:=7) g6 (by omega) (by omega)
   obtain ⟨b8,c8,f8,b80,b81,g8⟩:=Next_ok (n:=24) g7 (by omega) (by omega)
   simp only [f1,f2,f3,f4,f5,f6,f7,f8,Option.bind_some]
   rw [w64_in (x:=1+b4) (by omega) (by omega),w64_in (x:=1800*(1+b4)) (by omega) (by omega),w64_in (x:=o+1800*(1+b4)) (by omega) (by omega)]
   exact ⟨_,_,_,rfl,t60 ho2,all2 (P:=fun r=>Int.tmod r.2.2.2.2.2.2 60=0) (t60 (show (o+1800*(1+b4))%60=0 by omega)) (t60 ho2)⟩
  ·rw [beq_f hq2,cond_false]
   by_cases hq3:q=3
   ·rw [beq_t hq3,cond_true]
    obtain ⟨b1,c1,f1,m1,g1⟩:=Pick_ok d5 (xs:=[(3600:Int),(-3600:Int),(82800:Int),(-82800:Int),(43200:Int)]) (by simp) (by simp)
    obtain ⟨b2,c2,f2,b20,b21,g2⟩:=Next_ok (n:=7) g1 (by omega) (by omega)
    obtain ⟨b3,c3,f3,b30,b31,g3⟩:=Next_ok (n:=48) g2 (by omega) (by omega)
    have hb1 : -82800≤b1∧b1≤82800∧b1%60=0:=by simp at m1;omega
    simp only [f1,f2,f3,Option.bind_some]
    rw [w64_in (x:=o+b1) (by omega) (by omega)]
    cases cond (decide (o+b1>64800)) true (decide (o+b1 < -64800)) with
    | true=>exact ⟨_,_,_,rfl,t60 ho2,fun r hr=>by simp at hr;subst hr;rfl⟩
    | false=>exact ⟨_,_,_,rfl,t60 ho2,fun r hr=>by simp at hr;subst hr;exact t60 (by dsimp only;omega)⟩
   ·rw [beq_f hq3,cond_false]
    exact ⟨_,_,_,rfl,t60 ho2,by simp⟩
theorem j0le {L:List Int} {a:Int} (h:DOk L a) (nm:ByteArray):∃ o rs a',j03s L a nm=some ((nm,(o,rs)),L,a')∧MZ o rs∧ZCk (nm,(o,rs))∧DOk L a':=by
 obtain ⟨o,rs,a1,e1,m1,d1⟩:=Zone_ok h nm
 obtain ⟨o',rs',a2,e2,m2,m3⟩:=Zone_60 h nm
 have:=e1.symm.trans e2
 simp only [Option.some.injEq,Prod.mk.injEq,true_and] at this
 obtain ⟨⟨rfl,rfl⟩,rfl⟩:=this
 have ht:=(m1.tab nm).1
 have hl:=m1.len
 exact ⟨o,rs,a1,e1,m1,⟨by simp only [j06H,show j01V (nm,(o,rs))=_ from ht,Option.bind_some],m2,m3,by dsimp only;omega⟩,d1⟩
structure ZInv (zs:List ZoneT):Prop where
 ok:∀ z∈zs,ZOk z
 ck:∀ z∈zs,ZCk z
 nm:zs.map (·.1)=nmsZ.take zs.length
theorem take_nm {l:List ByteArray} {n:Nat} (hn:n<l.length):l.take n++[l.getD n ByteArray.empty]=l.take (n+1):=by
 rw [List.take_add_one,List.getElem?_eq_getElem hn]
 simp [hn]
theorem St2_l0 {L:List Int}:∀ (n:Nat) (a:Int) (zs:List ZoneT),DOk L a→zs.length+n≤2→ZInv zs→
  ∃ zs' a',j04U (n:Int) L a zs=some (L,a',zs')∧zs'.length=zs.length+n∧ZInv zs'∧DOk L a'
 | 0,a,zs,hd,_,hz=>by
  rw [j07a]
  simp only [j02o]
  rw [j000 (by omega),cond_false,lpK_inr]
  exact ⟨zs,a,rfl,rfl,hz,hd⟩
 | n+1,a,zs,hd,hl,hz=>by
  obtain ⟨o,rs,a1,e1,m1,k1,d1⟩:=j0le hd (List.getD nmsZ zs.length ByteArray.empty)
  obtain ⟨zs',a',e2,h2,h3,h4⟩:=St2_l0 n a1 (zs++[(List.getD nmsZ zs.length ByteArray.empty,(o,rs))]) d1 (by simp;omega) ⟨fun z hz'=>by
   rcases List.mem_append.1 hz' with h | h
   ·exact hz.ok z h
   ·simp at h;subst h;exact m1,fun z hz'=>by
   rcases List.mem_append.1 hz' with h | h
   ·exact hz.ck z h
   ·simp at h;subst h;exact k1,by
   rw [List.map_append,hz.nm,List.length_append]
   exact take_nm (by show zs.length<2;omega)⟩
  rw [j07a]
  simp only [j02o,show Int.ofNat (List.length zs)=(zs.length:Int) from rfl]
  rw [j001 (by omega),inR_t (show (0:Int)≤(zs.length:Int) by omega) (by simp;omega)]
  simp only [cond_true,Int.toNat_natCast]
  rw [show j03s L a (List.getD [(ByteArray.mk #[104,101,114,101]),(ByteArray.mk #[116,104,101,114,101])] zs.length ByteArray.empty)=_ from e1]
  simp only [Option.bind_some]
  rw [j001 (by simp [sizeMax];omega),w64_in (x:=((n+1:Nat):Int)-1) (by omega) (by omega)]
  simp only [cond_true,lpK_inl]
  rw [show ((n+1:Nat):Int)-1=(n:Int) by omega]
  exact ⟨zs',a',e2,by rw [h2];simp;omega,h3,h4⟩
structure PInv (nz:Nat) (ps:List PersonT):Prop where
 ck:∀ p∈ps,PCk nz p
 nm:ps.map (·.1)=nmsL.take ps.length
theorem j0jF {n:Int} (h0:0≤n) (h1:n≤168):j04I (w64 (3600*n))=some true:=by
 rw [w64_in (by omega) (by omega)]
 simp only [j04I,rsin_t (show 0≤3600*n by omega) (show 3600*n≤604800 by omega),Option.bind_some,cond_true]
 rw [j0bR,beq_t (show (3600*n)%3600=0 by omega)]
theorem St2_l2 {L:List Int} {zs:List ZoneT} (hz0:1≤zs.length) (hz1:zs.length≤100):∀ (n:Nat) (a:Int) (ps:List PersonT),DOk L a→ps.length+n≤4→PInv zs.length ps→
  ∃ ps' a',j04V (n:Int) L a zs ps=some (L,a',zs,ps')∧ps'.length=ps.length+n∧PInv zs.length ps'∧DOk L a'
 | 0,a,ps,hd,_,hp=>by
  rw [j07b]
  simp only [j02p]
  rw [j000 (by omega),cond_false,lpK_inr]
  exact ⟨ps,a,rfl,rfl,hp,hd⟩
 | n+1,a,ps,hd,hl,hp=>by
  obtain ⟨x,a1,e1,x0,x1,d1⟩:=Next_ok (n:=(zs.length:Int)) hd (by omega) (by omega)
  obtain ⟨b,a2,e2,d2⟩:=Bool_ok (n:=3) d1 (by omega) (by omega)
  obtain ⟨c,a3,e3,d3⟩:=Bool_ok (n:=2) d2 (by omega) (by omega)
  have hnm:ps.length<nmsL.length:=by show ps.length<8;omega
  have hmem:nmsL.getD ps.length ByteArray.empty∈nmsL:=by
   rw [List.getD_eq_getElem?_getD,List.getElem?_eq_getElem hnm]
   exact List.getElem_mem hnm
  have ext:∀ (w:WL) (p q:Int),WOk 0 w→w.length≤14→p∈[(0:Int),(40:Int),(100:Int),(12:Int)]→q∈[(0:Int),(11:Int),(24:Int),(1:Int)]→
    PInv zs.length (ps++[(nmsL.getD ps.length ByteArray.empty,(x,(w,(w64 (3600*p),(w64 (3600*q),b)))))]):=by
   intro w p q hw hwl hpm hqm
   have hp':0≤p∧p≤168:=by simp at hpm;omega
   have hq':0≤q∧q≤168:=by simp at hqm;omega
   refine ⟨fun r hr=> ?_,?_⟩
   ·rcases List.mem_append.1 hr with h | h
    ·exact hp.ck r h
    ·simp at h;subst h
     exact ⟨nmsL_nb _ hmem,x0,x1,hw,hwl,j0jF hp'.1 hp'.2,j0jF hq'.1 hq'.2⟩
   ·rw [List.map_append,hp.nm,List.length_append]
    exact take_nm hnm
  rw [j07b]
  simp only [j02p,j0jE,Option.bind_some,show Int.ofNat (List.length ps)=(ps.length:Int) from rfl,show Int.ofNat (List.length zs)=(zs.length:Int) from rfl]
  rw [j001 (by omega),inR_t (show (0:Int)≤(ps.length:Int) by omega) (by omega)]
  simp only [cond_true,e1,e2,e3,Option.bind_some]
  rw [w64_in (x:=((n+1:Nat):Int)-1) (by omega) (by omega),show ((n+1:Nat):Int)-1=(n:Int) by omega]
  cases c with
  | true=>
   obtain ⟨w,a4,e4,hw,hwl,d4⟩:=j0e2 d3
   obtain ⟨p,a5,e5,hpm,d5⟩:=Pick_ok d4 (xs:=[(0:Int),(40:Int),(100:Int),(12:Int)]) (by simp) (by simp)
   obtain ⟨q,a6,e6,hqm,d6⟩:=Pick_ok d5 (xs:=[(0:Int),(11:Int),(24:Int),(1:Int)]) (by simp) (by simp)
   simp only [cond_true,e4,e5,e6,Option.bind_some]
   rw [j001 (by simp [sizeMax];omega)]
   simp only [cond_true,lpK_inl]
   obtain ⟨ps',a',e,h1,h2,h3⟩:=St2_l2 hz0 hz1 n a6 _ d6 (by simp;omega) (ext w p q hw (by omega) hpm hqm)
   exact ⟨ps',a',e,by rw [h1];simp;omega,h2,h3⟩
  | false=>
   obtain ⟨p,a5,e5,hpm,d5⟩:=Pick_ok d3 (xs:=[(0:Int),(40:Int),(100:Int),(12:Int)]) (by simp) (by simp)
   obtain ⟨q,a6,e6,hqm,d6⟩:=Pick_ok d5 (xs:=[(0:Int),(11:Int),(24:Int),(1:Int)]) (by simp) (by simp)
   simp only [cond_false,e5,e6,Option.bind_some]
   rw [j001 (by simp [sizeMax];omega)]
   simp only [cond_true,lpK_inl]
   obtain ⟨ps',a',e,h1,h2,h3⟩:=St2_l2 hz0 hz1 n a6 _ d6 (by simp;omega) (ext [] p q (show (0:Int)≤604800 by omega) (by simp) hpm hqm)
   exact ⟨ps',a',e,by rw [h1];simp;omega,h2,h3⟩
def DInv (q:Int) (ds:List Int):Prop:=ds.Pairwise (· < ·)∧∀ d∈ds,20454<d∧d≤q
theorem St2_l6 {L:List Int} {s:Int} {nm:ByteArray} {z:Int} {zs:List ZoneT} {ps:List PersonT} {cs:List CalT}:∀ (n:Nat) (a day:Int) (ds:List Int),DOk L a→ds.length+n≤4→20454≤day→day+6*n≤20480→DInv day ds→
  ∃ ds' a',j04W s (n:Int) day L a nm z zs ps cs ds=some (s,L,a',nm,z,zs,ps,cs,ds')∧ds'.length≤4∧DInv 20480 ds'∧DOk L a'
 | 0,a,day,ds,hd,hl,hy,hy2,hi=>by
  rw [j07c]
  simp only [j02q]
  rw [j000 (by omega),cond_false,lpK_inr]
  exact ⟨ds,a,rfl,by omega,⟨hi.1,fun d hd=>by have:=hi.2 d hd;omega⟩,hd⟩
 | n+1,a,day,ds,hd,hl,hy,hy2,hi=>by
  obtain ⟨x,a1,e1,x0,x1,d1⟩:=Next_ok (n:=6) hd (by omega) (by omega)
  rw [j07c]
  simp only [j02q]
  rw [j001 (by omega),w64_in (x:=((n+1:Nat):Int)-1) (by omega) (by omega),show ((n+1:Nat):Int)-1=(n:Int) by omega]
  simp only [cond_true,e1,Option.bind_some]
  rw [j001 (by simp [sizeMax];omega),w64_in (x:=1+x) (by omega) (by omega),w64_in (x:=day+(1+x)) (by omega) (by omega)]
  simp only [cond_true,lpK_inl]
  refine St2_l6 n a1 _ _ d1 (by simp;omega) (by omega) (by omega) ⟨List.pairwise_append.2 ⟨hi.1,by simp,fun u hu v hv=> ?_⟩,fun d hd=> ?_⟩
  ·simp at hv;subst hv
   have:=hi.2 u hu;omega
  ·rcases List.mem_append.1 hd with h | h
   ·have:=hi.2 d h;omega
   ·simp at h;omega
structure CInv (nz:Nat) (cs:List CalT):Prop where
 ck:∀ c∈cs,CCk nz c
 nm:NmL (cs.map (·.1))
 len:cs.length≤1
 dl:∀ c∈cs,c.2.2.length≤4
theorem cck_of {nz:Nat} {nm:ByteArray} {x:Int} {ds:List Int} (x0:0≤x) (x1:x<nz) (hl:ds.length≤64) (hi:DInv 20480 ds):CCk nz (nm,(x,ds)):=
 ⟨x0,x1,hl,fun d hd=>day_ok (by have:=hi.2 d hd;omega) (by have:=hi.2 d hd;omega),hi.1⟩
structure SOk2 (zs:List ZoneT) (ps:List PersonT) (cs:List CalT):Prop where
 so:SOk zs ps cs
 z:ZInv zs
 p:PInv zs.length ps
 c:CInv zs.length cs
theorem j0kt {L:List Int} {a:Int} (h:DOk L a):∃ zs ps cs a',j06x L a=some ((zs,(ps,(cs,([]:List SchedT)))),L,a')∧SOk2 zs ps cs∧DOk L a':=by
 obtain ⟨x,a1,e1,x0,x1,d1⟩:=Next_ok (n:=2) h (by omega) (by omega)
 obtain ⟨zs,a2,e2,l2,k2,d2⟩:=St2_l0 (1+x).toNat a1 [] d1 (by simp;omega) ⟨by simp,by simp,rfl⟩
 obtain ⟨y,a3,e3,y0,y1,d3⟩:=Next_ok (n:=4) d2 (by omega) (by omega)
 simp at l2
 obtain ⟨ps,a4,e4,l4,k4,d4⟩:=St2_l2 (zs:=zs) (by omega) (by omega) (1+y).toNat a3 [] d3 (by simp;omega) ⟨by simp,rfl⟩
 obtain ⟨q,a5,e5,q0,q1,d5⟩:=Next_ok (n:=2) d4 (by omega) (by omega)
 simp at l4
 have hcal:∃ cs a',j04X q L a5 zs ps []=some (L,a',zs,ps,cs)∧CInv zs.length cs∧DOk L a':=by
  by_cases hq:q=0
  ·subst hq
   rw [j057]
   simp only [j01T]
   rw [j000 (by omega),cond_false,lpK_inr]
   exact ⟨[],a5,rfl,⟨by simp,NmL.nil,by simp,by simp⟩,d5⟩
  ·have hq1:q=1:=by omega
   subst hq1
   obtain ⟨x,a6,e6,x0,x1,d6⟩:=Next_ok (n:=(zs.length:Int)) d5 (by omega) (by omega)
   obtain ⟨y,a7,e7,y0,y1,d7⟩:=Next_ok (n:=4) d6 (by omega) (by omega)
   obtain ⟨ds,a8,e8,l8,k8,d8⟩:=St2_l6 (s:=(1:Int)) (nm:=ByteArray.mk #[100,97,121,115]) (z:=x) (zs:=zs) (ps:=ps) (cs:=[]) y.toNat a7 20454 [] d7 (by simp;omega) (by omega) (by omega) ⟨by simp,by simp⟩
   rw [show ((y.toNat:Nat):Int)=y by omega] at e8
   rw [j057]
   simp only [j01T,show Int.ofNat (List.length zs)=(zs.length:Int) from rfl]
   rw [j001 (by omega)]
   simp only [cond_true,e6,e7,e8,Option.bind_some]
   rw [j001 (by simp [sizeMax]),w64_in (x:=(1:Int)-1) (by omega) (by omega)]
   simp only [cond_true,lpK_inl]
   rw [j057]
   simp only [j01T]
   rw [j000 (by omega),cond_false,lpK_inr]
   refine ⟨_,a8,rfl,⟨fun c hc=> ?_,NmL.one nm_days,by simp,fun c hc=>by simp at hc;subst hc;exact l8⟩,d8⟩
   simp at hc;subst hc
   exact cck_of x0 x1 (by omega) k8
 obtain ⟨cs,a6,e6,k6,d6⟩:=hcal
 rw [show (((1+x).toNat:Nat):Int)=1+x by omega] at e2
 rw [show (((1+y).toNat:Nat):Int)=1+y by omega] at e4
 simp only [j06x,e1,Option.bind_some]
 rw [w64_in (x:=1+x) (by omega) (by omega)]
 simp only [e2,e3,Option.bind_some]
 rw [w64_in (x:=1+y) (by omega) (by omega)]
 simp only [e4,e5,e6,Option.bind_some]
 exact ⟨zs,ps,cs,a6,rfl,⟨⟨by omega,by omega,k2.ok,by omega,by omega,k6.len⟩,k2,k4,k6⟩,d6⟩
end Go.Proofs.Pw
