/- Chapter 8: what is known of a configuration that is found right. -/
import Derived.Test.YtllkgjaoejhneaaGreatDEPN
import Derived.Test.YtllkgjaoejhneaaGreatDEPE
import Derived.Test.YtllkgjaoejhneaaGreatDEPC
open _root_ renaming Int->o,List->E,Nat->J,ByteArray->K,Bool->X
open ByteArray renaming mk->D,empty->I
open Int renaming ofNat->F,tmod->S,toNat->W
open Option renaming some->G
open List renaming getD->H,replicate->N,length->R
open Bool renaming true->M
open Decidable renaming decide->O
open Go Go.Lft
namespace Go.Proofs.Pw
theorem jnq {n lo hi:o} (h:j36 n lo hi=G M):lo≤n∧n≤hi:=by
 simp only [j36,jb] at h
 by_cases h1:n≥lo
 ·rw [j00 h1,jc] at h
  exact ⟨h1,qe h⟩
 ·rw [j01 h1] at h;simp at h
theorem jnr {i n:o} (h:j1f i n=G M):0≤i∧i<n:=by
 simp only [j1f,jb] at h
 by_cases h1:i≥0
 ·rw [j00 h1,jc] at h
  exact ⟨h1,qe h⟩
 ·rw [j01 h1] at h;simp at h
section
variable {zs:E j1l} {ps:E j1s} {cs:E CalT} {ss:E j3z}
theorem jxn {ms:E o} (hl:ms.length≤100):∀ (n i:J),i+n=ms.length→∃ q,((j1d ms zs ps cs ss (ms.length:o) (i:o)).bind fun q0=>sumC q0 (fun a=>G a) (fun _=>G (-1:o)))=G q∧(¬ q≥0→∀ m∈ms.drop i,0≤m∧m<(ps.length:o))
 | 0,i,hi=>by
  rw [j1t,jj omg_]
  simp only [j0p]
  rw [j01 omg_,jd,j08]
  exact ⟨-1,rfl,fun _ m h=>by simp at h⟩
 | n+1,i,hi=>by
  have hlt:i<ms.length:=omg_
  have hgd:ms.getD i (0:o)=ms[i]:=by simp [H,hlt]
  obtain ⟨q,q1,q2⟩:=jxn hl n (i+1) omg_
  obtain ⟨b,hb⟩:∃ b,j1f ms[i] (ps.length:o)=G b:=⟨_,rfl⟩
  rw [j1t,jh hlt]
  simp only [j0p,j4c,show F ps.length=(ps.length:o) from rfl]
  rw [j00 (show (i:o)<(ms.length:o) by omega),j1o,j07 (x:=(i:o)+1)]
  simp only [jc,je,hgd,hb,ja]
  cases b with
  | true=>
   simp only [jk,jd,j06]
   refine ⟨q,q1,fun hq m hm=> ?_⟩
   rcases jl.1 hm with rfl | hm
   ·exact jnr hb
   ·exact q2 hq m hm
  | false=>exact ⟨(i:o),rfl,fun hq=>absurd omg_ hq⟩
theorem jAm {L:j0j} (h:j1a (zs,(ps,(cs,ss))) L=G 0):LC0 zs.length ps.length cs.length L:=by
 obtain ⟨b1,p1⟩:∃ b,j1f L.2.1 (zs.length:o)=G b:=⟨_,rfl⟩
 obtain ⟨b3,s1⟩:∃ b,j36 L.2.2.1.2 0 86399=G b:=⟨_,rfl⟩
 obtain ⟨b4,s3⟩:∃ b,j36 L.2.2.2.1 0 2=G b:=⟨_,rfl⟩
 obtain ⟨b5,s5⟩:∃ b,j36 L.2.2.2.2.1 1 400=G b:=⟨_,rfl⟩
 obtain ⟨c,c1,_,c3⟩:=jkH L.2.2.2.2.2.2.1
 obtain ⟨b6,s7⟩:∃ b,j36 L.2.2.2.2.2.2.2.2 0 2=G b:=⟨_,rfl⟩
 obtain ⟨b7,p3⟩:∃ b,j1f L.2.2.2.2.2.2.2.1 (cs.length:o)=G b:=⟨_,rfl⟩
 simp only [j1a,show F zs.length=(zs.length:o) from rfl,show F cs.length=(cs.length:o) from rfl,show F L.2.2.2.2.2.1.length=(L.2.2.2.2.2.1.length:o) from rfl,p1,ja,jeS,s1,s3,s5] at h
 cases b1 with
 | false=>simp at h
 | true=>
 simp only [jk,jd] at h
 by_cases h1:L.2.2.1.1<1
 ·rw [j00 h1] at h;simp at h
 rw [j01 h1,j00 (show 0≤L.2.2.1.1 by omega)] at h
 simp only [jd,vz] at h
 by_cases h2:L.2.2.1.1≤98980
 case neg=>rw [j01 h2] at h;simp at h
 rw [j00 h2] at h
 simp only [jk,jd] at h
 cases b3 with
 | false=>simp at h
 | true=>
 cases b4 with
 | false=>simp at h
 | true=>
 cases b5 with
 | false=>simp at h
 | true=>
 simp only [jk,jd] at h
 by_cases h0:L.2.2.2.2.2.1.length=0
 ·rw [show ((L.2.2.2.2.2.1.length:o)==0)=M by simp [h0]] at h;simp at h
 rw [j2q (show (L.2.2.2.2.2.1.length:o)≠0 by omega),jd] at h
 by_cases h12:(L.2.2.2.2.2.1.length:o)>12
 ·rw [j00 h12] at h;simp at h
 rw [j01 h12,jd] at h
 obtain ⟨q,q1,q2⟩:=jxn (zs:=zs) (ps:=ps) (cs:=cs) (ss:=ss) (ms:=L.2.2.2.2.2.1) omg_ L.2.2.2.2.2.1.length 0 omg_
 rw [show ((0:J):o)=0 from rfl] at q1
 have hcf:j0Q L.2.2.2.2.2.1 zs ps cs ss=G (O (q≥0)):=by
  simp only [j0Q,j2b,show F L.2.2.2.2.2.1.length=(L.2.2.2.2.2.1.length:o) from rfl]
  rw [q1];rfl
 rw [hcf] at h
 by_cases hq:q≥0
 ·rw [j00 hq] at h;simp at h
 rw [j01 hq] at h
 simp only [ja,jd,c1] at h
 by_cases hc:c=0
 case neg=>rw [show (c != 0)=M by simpa using hc] at h;simp at h
 subst hc
 simp only [jm,jd,s7,ja] at h
 cases b6 with
 | false=>simp at h
 | true=>
 simp only [jk,jd,p3] at h
 obtain ⟨z0,z1⟩:=jnr p1
 obtain ⟨t0,t1⟩:=jnq s1
 obtain ⟨u0,u1⟩:=jnq s3
 obtain ⟨e0,e1⟩:=jnq s5
 obtain ⟨md0,md1⟩:=jnq s7
 obtain ⟨w0,w1⟩:=c3 rfl
 have hmem:=q2 hq
 rw [jy] at hmem
 have hcal:(L.2.2.2.2.2.2.2.2≠0→0≤L.2.2.2.2.2.2.2.1∧L.2.2.2.2.2.2.2.1<(cs.length:o))∧(L.2.2.2.2.2.2.2.2=0→L.2.2.2.2.2.2.2.1=0):=by
  by_cases hm:L.2.2.2.2.2.2.2.2=0
  ·refine ⟨fun hn=>absurd hm hn,fun _=> ?_⟩
   rw [hm] at h
   simp only [jm,jd,qh,jc] at h
   apply kn
   intro hn
   rw [show (L.2.2.2.2.2.2.2.1 != 0)=M by simpa using hn] at h
   simp at h
  ·refine ⟨fun _=> ?_,fun hn=>absurd hn hm⟩
   rw [show (L.2.2.2.2.2.2.2.2 != 0)=M by simpa using hm] at h
   simp only [jc,ja] at h
   cases b7 with
   | false=>simp at h
   | true=>exact jnr p3
 exact ⟨z0,z1,omg_,h2,t0,t1,u0,u1,e0,e1,h0,omg_,hmem,w0,w1,md0,md1,hcal.1,hcal.2⟩
theorem jxo {ds:E o} (hl:ds.length≤100):∀ (n i:J),i+n=ds.length→∃ q,((j1A ds (ds.length:o) (i:o)).bind fun q0=>sumC q0 (fun a=>G a) (fun _=>G (-1:o)))=G q∧(¬ q≥0→∀ d∈ds.drop i,0≤d∧d≤98980)
 | 0,i,hi=>by
  rw [j1O,jj omg_]
  simp only [j0v]
  rw [j01 omg_,jd,j08]
  exact ⟨-1,rfl,fun _ m h=>by simp at h⟩
 | n+1,i,hi=>by
  have hlt:i<ds.length:=omg_
  have hgd:ds.getD i (0:o)=ds[i]:=by simp [H,hlt]
  obtain ⟨q,q1,q2⟩:=jxo hl n (i+1) omg_
  rw [j1O,jh hlt]
  simp only [j0v,j37]
  rw [j00 (show (i:o)<(ds.length:o) by omega),j1o,j07 (x:=(i:o)+1)]
  simp only [jc,je,hgd,jeS,ja]
  by_cases h:0≤ds[i]∧ds[i]≤98980
  ·rw [j00 h.1,j00 h.2]
   simp only [y8,jk,jd,j06]
   refine ⟨q,q1,fun hq m hm=> ?_⟩
   rcases jl.1 hm with rfl | hm
   ·exact h
   ·exact q2 hq m hm
  ·have:(O (0≤ds[i])&&O (ds[i]≤98980))=false:=by
    by_cases h0:0≤ds[i]
    ·rw [j01 (fun h1=>h ⟨h0,h1⟩),Bool.and_false]
    ·rw [j01 h0,Bool.false_and]
   rw [this]
   exact ⟨(i:o),rfl,fun hq=>absurd omg_ hq⟩
theorem jxp {ds:E o} (hl:ds.length≤100) {nm:K} {z:o}:∀ (n i:J),i+1+n=ds.length→j1x (ds.length:o) ((i+1:J):o) nm z ds=G (.inr ())→(ds.drop i).Pairwise (· < ·)
 | 0,i,hi,_=>by
  have:ds.drop i=[ds[i]]:=by rw [jh omg_,jj omg_]
  rw [this];simp
 | n+1,i,hi,h=>by
  have hlt:i+1<ds.length:=omg_
  have g1:ds.getD (i+1) (0:o)=ds[i+1]:=by simp [H,hlt]
  have g0:ds.getD i (0:o)=ds[i]:=by simp [H,show i<ds.length by omega]
  rw [j17] at h
  simp only [j0n] at h
  rw [j00 (show ((i+1:J):o)<(ds.length:o) by omega),j00 (show ((i+1:J):o)>0 by omega),j07 (x:=((i+1:J):o)-1),j07 (x:=((i+1:J):o)+1),
   j1v (show (0:o)≤((i+1:J):o) by omega) omg_,j1v (show (0:o)≤((i+1:J):o)-1 by omega) omg_,show (((i+1:J):o)-1).toNat=i by omega] at h
  simp only [jc,je,g1,g0] at h
  by_cases hc:ds[i+1]≤ds[i]
  ·rw [j00 hc] at h;simp [j08] at h
  ·rw [j01 hc] at h
   simp only [jd,j06] at h
   have ih:=jxp hl n (i+1) omg_ h
   rw [jh (show i<ds.length by omega)]
   refine zi.2 ⟨fun d hd=> ?_,ih⟩
   rw [jh hlt] at hd ih
   rcases jl.1 hd with rfl | hd
   ·omega
   ·have:=(zi.1 ih).1 d hd
    omega
theorem jAn {x:CalT} (h:j1c (zs,(ps,(cs,ss))) x=G 0):CCk zs.length x:=by
 obtain ⟨b1,p1⟩:∃ b,j1f x.2.1 (zs.length:o)=G b:=⟨_,rfl⟩
 simp only [j1c,show F zs.length=(zs.length:o) from rfl,show F x.2.2.length=(x.2.2.length:o) from rfl,p1,ja] at h
 cases b1 with
 | false=>simp at h
 | true=>
 simp only [jk,jd] at h
 by_cases h64:(x.2.2.length:o)>64
 ·rw [j00 h64] at h;simp at h
 rw [j01 h64,jd] at h
 obtain ⟨q,q1,q2⟩:=jxo (ds:=x.2.2) omg_ x.2.2.length 0 omg_
 rw [show ((0:J):o)=0 from rfl] at q1
 have hcf:j16 x.2.2=G (O (q≥0)):=by
  simp only [j16,j38,show F x.2.2.length=(x.2.2.length:o) from rfl]
  rw [q1];rfl
 rw [hcf] at h
 by_cases hq:q≥0
 ·rw [j00 hq] at h;simp at h
 rw [j01 hq] at h
 simp only [ja,jd] at h
 have hd:=q2 hq
 rw [jy] at hd
 have hasc:x.2.2.Pairwise (· < ·):=by
  rcases yn x.2.2.length with h0 | h0
  ·rw [ka h0];exact List.Pairwise.nil
  ·rw [j17] at h
   simp only [j0n] at h
   rw [j00 (show (0:o)<(x.2.2.length:o) by omega),j01 (show ¬ (0:o)>0 by omega)] at h
   simp only [jc,jd,j06] at h
   rw [j07 (x:=(0:o)+1),show (0:o)+1=((0+1:J):o) from rfl] at h
   obtain ⟨e,e1,_⟩:=jyI (zs:=zs) (ps:=ps) (cs:=cs) (ss:=ss) (ds:=x.2.2) (m:=0) (nm:=x.1) (z:=x.2.1) (l3:=[]) omg_ (x.2.2.length-1) 0 omg_
   rw [e1] at h
   by_cases he:e=0
   ·subst he
    have:=jxp (ds:=x.2.2) omg_ (x.2.2.length-1) 0 omg_ e1
    rwa [jy] at this
   ·rw [rE_n _ he] at h
    simp only [ja,j7F,jb] at h
    exact absurd h he
 obtain ⟨z0,z1⟩:=jnr p1
 exact ⟨z0,z1,omg_,fun d hm=>by rw [jeS,j00 (hd d hm).1,j00 (hd d hm).2];rfl,hasc⟩
theorem jns (s:K) (m:E (K×X)):∃ e m',j3H s m=G (e,m'):=by
 obtain ⟨b,b1,_⟩:=jxl s
 simp only [j3H,b1,ja]
 cases b with
 | false=>exact ⟨_,_,rfl⟩
 | true=>
  cases jam false m s with
  | true=>exact ⟨_,_,rfl⟩
  | false=>exact ⟨_,_,rfl⟩
theorem jxq (hl:zs.length≤100) (hz:∀ z∈zs,ZF z):∀ (n i:J) (m:E (K×X)),i+n=zs.length→j10 zs (zs.length:o) (i:o) m=G (.inr ())→∀ z∈zs.drop i,j1D z=G 0
 | 0,i,m,hi,_=>by
  rw [jj omg_]
  intro z h;simp at h
 | n+1,i,m,hi,h=>by
  have hlt:i<zs.length:=omg_
  have hgd:zs.getD i (I,((0:o),([]:E Rule)))=zs[i]:=by simp [H,hlt]
  obtain ⟨e,m',hn⟩:=jns zs[i].1 m
  obtain ⟨ez,_,_,z1,_⟩:=jqO zs[i] (hz _ (jx hlt))
  rw [j3A] at h
  simp only [j0P,j6U] at h
  rw [j00 (show (i:o)<(zs.length:o) by omega),j1o,j07 (x:=(i:o)+1)] at h
  simp only [jc,je,hgd,ja,hn] at h
  by_cases he:e=0
  ·subst he
   simp only [jm,jd] at h
   rw [show j1D (zs[i].1,(zs[i].2.1,zs[i].2.2))=_ from z1] at h
   simp only [ja] at h
   by_cases h0:ez=0
   ·subst h0
    simp only [jm,jd,j06] at h
    rw [jh hlt]
    intro z hm
    rcases jl.1 hm with rfl | hm
    ·exact z1
    ·exact jxq hl hz n (i+1) m' omg_ h z hm
   ·rw [show (ez != 0)=M by simpa using h0] at h
    simp [j08] at h
  ·rw [show (e != 0)=M by simpa using he] at h
   simp [j08] at h
theorem jxr (hzl:zs.length≤100) (hl:cs.length≤100):∀ (n i:J) (m:E (K×X)),i+n=cs.length→j0E zs ps cs ss cs (cs.length:o) (i:o) m=G (.inr ())→∀ x∈cs.drop i,CCk zs.length x
 | 0,i,m,hi,_=>by
  rw [jj omg_]
  intro z h;simp at h
 | n+1,i,m,hi,h=>by
  have hlt:i<cs.length:=omg_
  have hgd:cs.getD i (I,((0:o),([]:E o)))=cs[i]:=by simp [H,hlt]
  obtain ⟨e,m',hn⟩:=jns cs[i].1 m
  rw [j2t] at h
  simp only [j0x,j6V,j6W] at h
  rw [j00 (show (i:o)<(cs.length:o) by omega),j1o,j07 (x:=(i:o)+1)] at h
  simp only [jc,je,hgd,ja,hn] at h
  by_cases he:e=0
  ·subst he
   simp only [jm,jd] at h
   cases hc:j1c (zs,(ps,(cs,ss))) cs[i] with
   | none=>
    rw [show j1c (zs,(ps,(cs,ss))) (cs[i].1,(cs[i].2.1,cs[i].2.2))=_ from hc] at h
    simp [lpK] at h
   | some c=>
    rw [show j1c (zs,(ps,(cs,ss))) (cs[i].1,(cs[i].2.1,cs[i].2.2))=_ from hc] at h
    simp only [ja] at h
    by_cases h0:c=0
    ·subst h0
     simp only [jm,jd,j06] at h
     rw [jh hlt]
     intro z hm
     rcases jl.1 hm with rfl | hm
     ·exact jAn hc
     ·exact jxr hzl hl n (i+1) m' omg_ h z hm
    ·rw [show (c != 0)=M by simpa using h0] at h
     simp [j08] at h
  ·rw [show (e != 0)=M by simpa using he] at h
   simp [j08] at h
theorem jxs {ls:E j0j} (hl:ls.length≤100):∀ (n i:J) (m:E (K×X)),i+n=ls.length→j0U zs ps cs ss ls (ls.length:o) (i:o) m=G (.inr ())→∀ x∈ls.drop i,LC0 zs.length ps.length cs.length x
 | 0,i,m,hi,_=>by
  rw [jj omg_]
  intro z h;simp at h
 | n+1,i,m,hi,h=>by
  have hlt:i<ls.length:=omg_
  have hgd:ls.getD i (I,((0:o),(((0:o),(0:o)),((0:o),((0:o),(([]:E o),(([]:WL),((0:o),(0:o)))))))))=ls[i]:=by simp [H,hlt]
  obtain ⟨e,m',hn⟩:=jns ls[i].1 m
  rw [j3i] at h
  simp only [j0L,j39,j3a] at h
  rw [j00 (show (i:o)<(ls.length:o) by omega),j1o,j07 (x:=(i:o)+1)] at h
  simp only [jc,je,hgd,ja,hn] at h
  by_cases he:e=0
  ·subst he
   simp only [jm,jd] at h
   cases hc:j1a (zs,(ps,(cs,ss))) ls[i] with
   | none=>
    rw [show j1a (zs,(ps,(cs,ss))) (ls[i].1,(ls[i].2.1,((ls[i].2.2.1.1,ls[i].2.2.1.2),(ls[i].2.2.2.1,(ls[i].2.2.2.2.1,(ls[i].2.2.2.2.2.1,(ls[i].2.2.2.2.2.2.1,(ls[i].2.2.2.2.2.2.2.1,ls[i].2.2.2.2.2.2.2.2))))))))=_ from hc] at h
    simp [lpK] at h
   | some c=>
    rw [show j1a (zs,(ps,(cs,ss))) (ls[i].1,(ls[i].2.1,((ls[i].2.2.1.1,ls[i].2.2.1.2),(ls[i].2.2.2.1,(ls[i].2.2.2.2.1,(ls[i].2.2.2.2.2.1,(ls[i].2.2.2.2.2.2.1,(ls[i].2.2.2.2.2.2.2.1,ls[i].2.2.2.2.2.2.2.2))))))))=_ from hc] at h
    simp only [ja] at h
    by_cases h0:c=0
    ·subst h0
     simp only [jm,jd,j06] at h
     rw [jh hlt]
     intro z hm
     rcases jl.1 hm with rfl | hm
     ·exact jAm hc
     ·exact jxs hl n (i+1) m' omg_ h z hm
    ·rw [show (c != 0)=M by simpa using h0] at h
     simp [j08] at h
  ·rw [show (e != 0)=M by simpa using he] at h
   simp [j08] at h
theorem jxt {es:E jbb} (hl:es.length≤100):∀ (n i:J),i+n=es.length→j1y es (es.length:o) (i:o) zs ps cs ss=G (.inr ())→∀ x∈es.drop i,j1p (zs,(ps,(cs,ss))) x=G 0
 | 0,i,hi,_=>by
  rw [jj omg_]
  intro z h;simp at h
 | n+1,i,hi,h=>by
  have hlt:i<es.length:=omg_
  have hgd:es.getD i ((0:o),((0:o),((0:o),((0:o),(0:o)))))=es[i]:=by simp [H,hlt]
  rw [j3R] at h
  simp only [j0W] at h
  rw [j00 (show (i:o)<(es.length:o) by omega),j1o,j07 (x:=(i:o)+1)] at h
  simp only [jc,je,hgd] at h
  cases hc:j1p (zs,(ps,(cs,ss))) es[i] with
  | none=>
   rw [show j1p (zs,(ps,(cs,ss))) (es[i].1,(es[i].2.1,(es[i].2.2.1,(es[i].2.2.2.1,es[i].2.2.2.2))))=_ from hc] at h
   simp [lpK] at h
  | some c=>
   rw [show j1p (zs,(ps,(cs,ss))) (es[i].1,(es[i].2.1,(es[i].2.2.1,(es[i].2.2.2.1,es[i].2.2.2.2))))=_ from hc] at h
   simp only [ja] at h
   by_cases h0:c=0
   ·subst h0
    simp only [jm,jd,j06] at h
    rw [jh hlt]
    intro z hm
    rcases jl.1 hm with rfl | hm
    ·exact hc
    ·exact jxt hl n (i+1) omg_ h z hm
   ·rw [show (c != 0)=M by simpa using h0] at h
    simp [j08] at h
structure SC0 (zs:E j1l) (ps:E j1s) (cs:E CalT) (ss:E j3z) (s:j3z):Prop where
 ll:s.2.1.length≤6
 el:s.2.2.length≤48
 ly:∀ x∈s.2.1,LC0 zs.length ps.length cs.length x
 ed:∀ x∈s.2.2,j1p (zs,(ps,(cs,ss))) x=G 0
theorem jxu {α:Type} {u:α} {e c:o} (h:(G (rE u e):Option (o ⊕ α))=G (.inl c)):c≠0:=by
 by_cases h0:e=0
 ·subst h0;rw [rE_0] at h;simp at h
 ·rw [rE_n _ h0] at h
  simp only [jb,Sum.inl.injEq] at h
  omega
theorem jAo (hzl:zs.length≤100) (hpl:ps.length≤100) (hcl:cs.length≤100) {s:j3z} (hx:∀ x∈s.2.2,x.2.2.2.2≤9223372036854775807) (h:j1e (zs,(ps,(cs,ss))) s=G 0):SC0 zs ps cs ss s:=by
 simp only [j1e,show F s.2.1.length=(s.2.1.length:o) from rfl,show F s.2.2.length=(s.2.2.length:o) from rfl] at h
 by_cases h6:(s.2.1.length:o)>6
 ·rw [j00 h6] at h;simp at h
 by_cases h48:(s.2.2.length:o)>48
 ·rw [j01 h6,j00 h48] at h;simp at h
 rw [j01 h6,j01 h48] at h
 simp only [jd,j2c,show F s.2.1.length=(s.2.1.length:o) from rfl] at h
 obtain ⟨e',e1,_⟩:=jyN (zs:=zs) (ps:=ps) (cs:=cs) (ss:=ss) hzl hpl hcl (ls:=s.2.1) omg_ (m:=0) (nm:=s.1) (es:=s.2.2) (l3:=[]) s.2.1.length 0 [] omg_ rfl
 obtain ⟨c',d1,_⟩:=jyM (zs:=zs) (ps:=ps) (cs:=cs) (ss:=ss) hpl (es:=s.2.2) omg_ hx (m:=0) (nm:=s.1) (ls:=s.2.1) (l3:=[]) s.2.2.length 0 omg_
 rw [show ((0:J):o)=0 from rfl] at e1 d1
 cases hn:j0U zs ps cs ss s.2.1 (s.2.1.length:o) 0 [] with
 | none=>rw [hn] at h;simp at h
 | some r=>
  rw [hn] at h
  cases r with
  | inl e=>
   have he:=jxu (e1.symm.trans hn)
   simp only [ja,j7F] at h
   rw [show (e != 0)=M by simpa using he] at h
   simp only [jc,jb] at h
   exact absurd h he
  | inr u=>
   simp only [ja,j48,jm,jd] at h
   cases hm:j1y s.2.2 (s.2.2.length:o) 0 zs ps cs ss with
   | none=>rw [hm] at h;simp at h
   | some r=>
    rw [hm] at h
    cases r with
    | inl e=>
     have he:=jxu (d1.symm.trans hm)
     simp only [ja,j7F,jb] at h
     exact absurd h he
    | inr u2=>
     have a:=jxs (zs:=zs) (ps:=ps) (cs:=cs) (ss:=ss) (ls:=s.2.1) omg_ s.2.1.length 0 [] omg_ hn
     have b:=jxt (zs:=zs) (ps:=ps) (cs:=cs) (ss:=ss) (es:=s.2.2) omg_ s.2.2.length 0 omg_ hm
     rw [jy] at a b
     exact ⟨omg_,omg_,a,b⟩
theorem jxv (hzl:zs.length≤100) (hpl:ps.length≤100) (hcl:cs.length≤100) (hl:ss.length≤100) (hx:∀ s∈ss,∀ x∈s.2.2,x.2.2.2.2≤9223372036854775807):∀ (n i:J) (m:E (K×X)),i+n=ss.length→j0F zs ps cs ss ss (ss.length:o) (i:o) m=G (.inr ())→∀ s∈ss.drop i,SC0 zs ps cs ss s
 | 0,i,m,hi,_=>by
  rw [jj omg_]
  intro z h;simp at h
 | n+1,i,m,hi,h=>by
  have hlt:i<ss.length:=omg_
  have hgd:ss.getD i (I,(([]:E j0j),([]:E jbb)))=ss[i]:=by simp [H,hlt]
  obtain ⟨e,m',hn⟩:=jns ss[i].1 m
  rw [j2u] at h
  simp only [j0y,j6X,j6Y] at h
  rw [j00 (show (i:o)<(ss.length:o) by omega),j1o,j07 (x:=(i:o)+1)] at h
  simp only [jc,je,hgd,ja,hn] at h
  by_cases he:e=0
  ·subst he
   simp only [jm,jd] at h
   cases hc:j1e (zs,(ps,(cs,ss))) ss[i] with
   | none=>
    rw [show j1e (zs,(ps,(cs,ss))) (ss[i].1,(ss[i].2.1,ss[i].2.2))=_ from hc] at h
    simp [lpK] at h
   | some c=>
    rw [show j1e (zs,(ps,(cs,ss))) (ss[i].1,(ss[i].2.1,ss[i].2.2))=_ from hc] at h
    simp only [ja] at h
    by_cases h0:c=0
    ·subst h0
     simp only [jm,jd,j06] at h
     rw [jh hlt]
     intro z hm
     rcases jl.1 hm with rfl | hm
     ·exact jAo hzl hpl hcl (hx _ (jx hlt)) hc
     ·exact jxv hzl hpl hcl hl hx n (i+1) m' omg_ h z hm
    ·rw [show (c != 0)=M by simpa using h0] at h
     simp [j08] at h
  ·rw [show (e != 0)=M by simpa using he] at h
   simp [j08] at h
structure Cfg0 (zs:E j1l) (ps:E j1s) (cs:E CalT) (ss:E j3z):Prop where
 zl:zs.length≤16
 pl:ps.length≤32
 cl:cs.length≤8
 sl:ss.length≤12
 z:∀ z∈zs,j1D z=G 0
 c:∀ x∈cs,CCk zs.length x
 s:∀ s∈ss,SC0 zs ps cs ss s
theorem jAp (hz:∀ z∈zs,ZF z) (hx:∀ s∈ss,∀ x∈s.2.2,x.2.2.2.2≤9223372036854775807) (h:j3B (zs,(ps,(cs,ss)))=G 0):Cfg0 zs ps cs ss:=by
 simp only [j3B,show F zs.length=(zs.length:o) from rfl,show F ps.length=(ps.length:o) from rfl,show F cs.length=(cs.length:o) from rfl,show F ss.length=(ss.length:o) from rfl] at h
 cases hb:(cond (cond (cond (O ((zs.length:o)>16)) M (O ((ps.length:o)>32))) M (O ((cs.length:o)>8))) M (O ((ss.length:o)>12))) with
 | true=>rw [hb] at h;simp at h
 | false=>
  rw [hb] at h
  simp only [vp,vf,ko] at hb
  simp only [jd] at h
  obtain ⟨r,r1,_,r3⟩:=jyH (zs:=zs) (ps:=ps) (cs:=cs) (ss:=ss) hz omg_ zs.length 0 [] omg_ rfl
  rw [show ((0:J):o)=0 from rfl] at r1
  have r1:j10 zs (zs.length:o) 0 []=G r:=r1
  simp only [j2x,show F zs.length=(zs.length:o) from rfl,r1,ja] at h
  cases r with
  | inl e=>
   have he:e≠0:=fun he=>r3 (by rw [he])
   simp only [j7F,ja] at h
   rw [show (e != 0)=M by simpa using he] at h
   simp only [jc,jb] at h
   exact absurd h he
  | inr u=>
   simp only [j48,ja,jm,jd] at h
   have fz:=jxq (zs:=zs) omg_ hz zs.length 0 [] omg_ r1
   obtain ⟨c,c1,_⟩:=jlW (zs:=zs) (ps:=ps) (cs:=cs) (ss:=ss) omg_ omg_
   rw [c1] at h
   by_cases h1:c=0
   case neg=>
    rw [rE_n _ h1] at h
    simp only [ja,j7F,jb] at h
    exact absurd h h1
   subst h1
   simp only [rE_0,ja,j48] at h
   obtain ⟨d,d1,_⟩:=jyJ (zs:=zs) (ps:=ps) (cs:=cs) (ss:=ss) omg_ omg_ cs.length 0 [] omg_ rfl
   rw [show ((0:J):o)=0 from rfl] at d1
   have d1:j0E zs ps cs ss cs (cs.length:o) 0 []=G (rE () d):=d1
   simp only [j1L,show F cs.length=(cs.length:o) from rfl,d1,ja] at h
   by_cases h2:d=0
   case neg=>
    rw [rE_n _ h2] at h
    simp only [ja,j7F] at h
    rw [show (d != 0)=M by simpa using h2] at h
    simp only [jc,jb] at h
    exact absurd h h2
   subst h2
   rw [rE_0] at h d1
   simp only [ja,j48,jm,jd] at h
   have fc:=jxr (zs:=zs) (ps:=ps) (cs:=cs) (ss:=ss) omg_ omg_ cs.length 0 [] omg_ d1
   obtain ⟨f,f1,_⟩:=jyO (zs:=zs) (ps:=ps) (cs:=cs) (ss:=ss) omg_ omg_ omg_ omg_ hx ss.length 0 [] omg_ rfl
   rw [show ((0:J):o)=0 from rfl] at f1
   have f1:j0F zs ps cs ss ss (ss.length:o) 0 []=G (rE () f):=f1
   simp only [j2v,show F ss.length=(ss.length:o) from rfl,f1,ja] at h
   by_cases h3:f=0
   case neg=>
    rw [rE_n _ h3] at h
    simp only [ja,j7F,jb] at h
    exact absurd h h3
   subst h3
   rw [rE_0] at f1
   have fs:=jxv (zs:=zs) (ps:=ps) (cs:=cs) (ss:=ss) omg_ omg_ omg_ omg_ hx ss.length 0 [] omg_ f1
   rw [jy] at fz fc fs
   exact ⟨omg_,omg_,omg_,omg_,fz,fc,fs⟩
end
structure ZW (z:j1l):Prop where
 ok:∀ r∈z.2.2,ROk r
 len:z.2.2.length≤2
 yr:∀ r∈z.2.2,2025≤r.1
 few:(occs z.2.2).length≤4
theorem ZOk.w {z:j1l} (h:ZOk z):ZW z:=⟨h.ok,h.len,h.yr,h.few⟩
theorem ZW.f {z:j1l} (h:ZW z):ZF z:=⟨by have:=h.len;omega,by have:=h.few;omega⟩
theorem jyQ:cnt 2025=20089:=by decide
theorem jzW {r:Rule} (h:ROk r) {y:o} (hy:2025≤y) (h2:y≤2240):1735000000≤(occ r y).1∧(occ r y).1≤8556000000:=by
 have hv:=jb3 (jal y r.2.2.1 omg_ h2 h.m0 h.m1)
 have hs0:=h.s0;have hs1:=h.s1
 have hn:=jht (w:=r.2.2.2.2.1) (show 1970≤y by omega) h2 h.m0 h.m1 h.k0 h.k1
 have hd:=j3y y r.2.2.1
 have hc:=jaa hy
 have hu:=jb1 y r.2.2.1
 rw [jyQ] at hc
 have hm:20089≤num y r.2.2.1 1:=by unfold num;omega
 unfold occ
 dsimp only
 omega
theorem jnt:∀ (L:TrL) (now:o) (p:Option o) (l:TrL),(∀ x∈L,(1735000000≤x.1∧x.1≤8556000000) ∧ -64800≤x.2∧x.2≤64800) → -64800≤now→now≤64800→trG now p L=G l→Good now p L
 | [],_,_,_,_,_,_,_=>trivial
 | x::r,now,p,l,hL,h0,h1,h=>by
  have hx:=hL x smp_
  simp only [trG] at h
  simp only [Good]
  by_cases he:x.2=now
  ·rw [if_pos he] at h ⊢
   exact jnt r now p l (fun y hy=>hL y (by simp [hy])) h0 h1 h
  ·rw [if_neg he] at h ⊢
   split at h
   ·rename_i hc
    obtain ⟨c1,c2,c3,c4,c5⟩:=hc
    cases hq:trG x.2 (G (x.1-now)) r with
    | none=>rw [hq] at h;simp at h
    | some q=>
     refine ⟨⟨c1,c2,omg_,omg_,fun q' hq'=> ?_,hx.2.1,hx.2.2⟩,jnt r x.2 _ q (fun y hy=>hL y (by simp [hy])) hx.2.1 hx.2.2 hq⟩
     subst hq'
     simpa using c5
   ·simp at h
theorem ZW.zok {z:j1l} (h:ZW z) (hc:j1D z=G 0):ZOk z:=by
 obtain ⟨l,e1,t1,t2,_,h0⟩:=jpi z h.f.2
 obtain ⟨e,e1',b,k1,k2,_,k4⟩:=jqO z h.f
 have c2:j5Z z=G e1:=by simp only [j5Z,show j0c (z.1,(z.2.1,z.2.2))=_ from t2,ja]
 rw [hc] at k1
 rw [c2] at k2
 simp only [jb] at k1 k2
 subst k1 k2
 have he:e1=0:=by
  apply kn
  intro hn
  rw [if_neg (fun hh=>hn hh.1)] at k4
  omega
 obtain ⟨_,⟨o0,o1⟩,hg⟩:=h0 he
 refine ⟨o0,o1,h.ok,h.len,h.yr,h.few,jnt _ _ _ l (fun x hx=> ?_) o0 o1 hg⟩
 obtain ⟨r,hr,j,hj,rfl⟩:=jry (jp6 hx)
 have hk:=h.ok r hr
 have hy:=h.yr r hr
 have hy2:=hk.y2
 exact ⟨jzW hk omg_ omg_,hk.o0,hk.o1⟩
structure CW (c:CfgT):Prop where
 z:∀ z∈c.1,ZW z
 ed:∀ s∈c.2.2.2,∀ x∈s.2.2,x.2.2.2.2≤9223372036854775807
 w3:∀ s∈c.2.2.2,∀ x∈s.2.1,x.2.2.2.2.2.2.1.length≤3
theorem CW.chk {c:CfgT} (h:CW c):∃ e,j3B c=G e∧jaB c=G e∧(e=0→Cfg0 c.1 c.2.1 c.2.2.1 c.2.2.2∧GOk c.1 c.2.1 c.2.2.1):=by
 obtain ⟨zs,ps,cs,ss⟩:=c
 obtain ⟨e,e1,e2⟩:=jyP (zs:=zs) (ps:=ps) (cs:=cs) (ss:=ss) (fun z hz=>(h.z z hz).f) h.ed
 refine ⟨e,e1,e2,fun he=> ?_⟩
 subst he
 have hC:=jAp (fun z hz=>(h.z z hz).f) h.ed e1
 exact ⟨hC,fun z hz=>(h.z z hz).zok (hC.z z hz),hC.c,hC.zl,hC.pl⟩
theorem jrN {L:E o} {a:o} (h:DOk L a) {u0 u1 u2 u3:E Unit} (hp0:1≤u1.length) (hp1:u1.length≤100) :
  ∃ x a',j5w L a (u0,(u1,(u2,u3)))=G (x,L,a')∧(x.2.2.2.1≤1000000000000∧x.2.2.2.2≤1000000000000)∧DOk L a':=by
 obtain ⟨k,a1,e1,k0,k1,d1⟩:=j0K (n:=3) h omg_ omg_
 obtain ⟨p,a2,e2,p0,p1,d2⟩:=j0K (n:=(u1.length:o)) d1 omg_ omg_
 obtain ⟨t,a3,e3,t0,t1,d3⟩:=ji7 d2
 obtain ⟨y,a4,e4,m4,d4⟩:=j8a d3 (xs:=[(3600:o),(86400:o),(7:o),(259200:o),(40000:o)]) smp_ smp_
 have hy:7≤y∧y≤259200:=by simp at m4;omega
 simp only [j5w,show F (R u1)=(u1.length:o) from rfl,e1,e2,e3,e4,ja]
 rw [j07 (x:=t+y)]
 have fin:∀ (kd A B:o) (a':o),DOk L a'→∃ x a'',G ((kd,(A,(B,(t,t+y)))),L,a')=G (x,L,a'')∧(x.2.2.2.1≤1000000000000∧x.2.2.2.2≤1000000000000)∧DOk L a'':=
  fun kd A B a' hd=>⟨_,_,rfl,by dsimp only;omega,hd⟩
 by_cases h2:k=2
 ·rw [j5N h2,jc]
  by_cases hn:(u1.length:o)<2
  ·rw [j00 hn,jc]
   exact fin 0 p 0 _ d4
  ·rw [j01 hn,jd,j07 (x:=(u1.length:o)-1)]
   obtain ⟨q,a5,e5,q0,q1,d5⟩:=j0K (n:=(u1.length:o)-1) d4 omg_ omg_
   simp only [e5,ja]
   rw [j07 (x:=p+1),j07 (x:=p+1+q),j2q (show ¬ (u1.length:o)=0 by omega),j2q (show ¬ k=1 by omega)]
   simp only [jt,jc,jd]
   exact fin k p _ _ d5
 ·rw [j2q h2,jd]
  by_cases h1:k=1
  ·rw [j5N h1,jc]
   obtain ⟨b,a5,e5,d5⟩:=jdP (n:=4) d4 omg_ omg_
   simp only [e5,ja]
   cases b with
   | true=>exact fin k (-1) 0 _ d5
   | false=>exact fin k p 0 _ d5
  ·rw [j2q h1,jd]
   exact fin k p 0 _ d4
def LyW (ls:E j0j):Prop:=∀ x∈ls,x.2.2.2.2.2.2.1.length≤3
def EdW (es:E jbb):Prop:=∀ x∈es,x.2.2.2.2≤1000000000000
def ScW (ss:E j3z):Prop:=∀ s∈ss,(s.2.1.length≤3∧LyW s.2.1)∧s.2.2.length≤3∧EdW s.2.2
theorem LyW.snoc {ls:E j0j} {x:j0j} (h:LyW ls) (hx:x.2.2.2.2.2.2.1.length≤3):LyW (ls++[x]):=fun y hy=>by
 rcases js.1 hy with hy | hy
 ·exact h y hy
 ·simp at hy;subst hy;exact hx
theorem EdW.snoc {es:E jbb} {x:jbb} (h:EdW es) (hx:x.2.2.2.2≤1000000000000):EdW (es++[x]):=fun y hy=>by
 rcases js.1 hy with hy | hy
 ·exact h y hy
 ·simp at hy;subst hy;exact hx
theorem jxw {L:E o} {s6:o} {nm:K} {zs:E j1l} {ps:E j1s} {cs:E CalT} {ss:E j3z} (hs:SOk zs ps cs):∀ (n:J) (a:o) (ls:E j0j),DOk L a→ls.length+n≤3→LyW ls→
  ∃ ls' a',j58 s6 (n:o) L a zs ps cs nm ss ls=G (s6,L,a',zs,ps,cs,nm,ss,ls')∧(ls'.length≤3∧LyW ls')∧DOk L a'
 | 0,a,ls,hd,hl,hk=>by
  rw [j8f]
  simp only [j22]
  rw [j01 omg_,jd,j08]
  exact ⟨ls,a,rfl,⟨omg_,hk⟩,hd⟩
 | n+1,a,ls,hd,hl,hk=>by
  have hnl:jcG=G [(D #[97,100,97]),(D #[98,111,98]),(D #[99,108,101,111]),(D #[100,97,110]),(D #[101,118,101]),(D #[102,97,121]),(D #[103,117,115]),(D #[104,97,108])]:=rfl
  rw [j8f]
  simp only [j22,hnl,ja,show F (R ls)=(ls.length:o) from rfl]
  rw [j00 omg_,j1v (show (0:o)≤(ls.length:o) by omega) (by simp only [jp,qc];omega),j07 (x:=((n+1:J):o)-1),show ((n+1:J):o)-1=(n:o) by omega]
  generalize H [(D #[97,100,97]),(D #[98,111,98]),(D #[99,108,101,111]),(D #[100,97,110]),(D #[101,118,101]),(D #[102,97,121]),(D #[103,117,115]),(D #[104,97,108])] (W (ls.length:o)) I=nmx
  obtain ⟨l,a1,e1,l2,_,_,d1⟩:=jrx (ss:=ss) hd hs nmx
  simp only [jc,e1,ja]
  rw [j00 (by simp [j05];omega)]
  simp only [jc,j06]
  exact jxw hs n a1 (ls++[l]) d1 sqo_ (hk.snoc l2.w3)
theorem jxx {L:E o} {s6:o} {nm:K} {zs:E j1l} {ps:E j1s} {cs:E CalT} {ss:E j3z} {ls:E j0j} (hs:SOk zs ps cs):∀ (n:J) (a:o) (es:E jbb),DOk L a→es.length+n≤3→EdW es→
  ∃ es' a',j59 s6 (n:o) L a zs ps cs nm ss ls es=G (s6,L,a',zs,ps,cs,nm,ss,ls,es')∧es'.length≤3∧EdW es'∧DOk L a'
 | 0,a,es,hd,hl,hk=>by
  rw [j8g]
  simp only [j23]
  rw [j01 omg_,jd,j08]
  exact ⟨es,a,rfl,omg_,hk,hd⟩
 | n+1,a,es,hd,hl,hk=>by
  have hp0:=hs.p0;have hp1:=hs.p1
  obtain ⟨x,a1,e1,x1,d1⟩:=jrN hd (u0:=N zs.length ()) (u1:=N ps.length ()) (u2:=N cs.length ()) (u3:=N ss.length ()) (by rw [zw];omega) (by rw [zw];omega)
  rw [j8g]
  simp only [j23]
  rw [j00 omg_,j07 (x:=((n+1:J):o)-1),show ((n+1:J):o)-1=(n:o) by omega]
  simp only [jc,e1,ja]
  rw [j00 (by simp [j05];omega)]
  simp only [jc,j06]
  exact jxx hs n a1 (es++[x]) d1 sqo_ (hk.snoc x1.2)
theorem jxy {L:E o} {zs:E j1l} {ps:E j1s} {cs:E CalT} (hs:SOk zs ps cs):∀ (n:J) (a:o) (ss:E j3z),DOk L a→ss.length+n≤3→ScW ss→
  ∃ ss' a',j5a (n:o) L a zs ps cs ss=G (L,a',zs,ps,cs,ss')∧ss'.length=ss.length+n∧ScW ss'∧DOk L a'
 | 0,a,ss,hd,hl,hk=>by
  rw [j8h]
  simp only [j24]
  rw [j01 omg_,jd,j08]
  exact ⟨ss,a,rfl,rfl,hk,hd⟩
 | n+1,a,ss,hd,hl,hk=>by
  have hm0:0≤S (ss.length:o) 3:=vw _ omg_
  have hm1:S (ss.length:o) 3<3:=v8 _ omg_
  obtain ⟨k,a3,e3,k0,k1,d3⟩:=j0K (n:=4) hd omg_ omg_
  rw [j8h]
  simp only [j24,show F (R ss)=(ss.length:o) from rfl]
  rw [j00 omg_,j1v hm0 (by simp only [jp,qc];omega)]
  simp only [jc,e3,ja]
  generalize H [(D #[102,105,114,115,116]),(D #[115,101,99,111,110,100]),(D #[116,104,105,114,100])] (W (S (ss.length:o) 3)) I=nm
  obtain ⟨ls,a4,e4,l4,d4⟩:=jxw (s6:=((n+1:J):o)) (nm:=nm) (ss:=ss) hs k.toNat a3 [] d3 sqo_ (fun x hx=>by simp at hx)
  obtain ⟨m,a5,e5,m0,m1,d5⟩:=j0K (n:=4) d4 omg_ omg_
  obtain ⟨es,a6,e6,l6,q6,d6⟩:=jxx (s6:=((n+1:J):o)) (nm:=nm) (zs:=zs) (cs:=cs) (ss:=ss) (ls:=ls) hs m.toNat a5 [] d5 sqo_ (fun x hx=>by simp at hx)
  rw [show ((k.toNat:J):o)=k by omega] at e4
  rw [show ((m.toNat:J):o)=m by omega] at e6
  simp only [e4,e5,e6,ja]
  rw [j00 (by simp [j05];omega),j07 (x:=((n+1:J):o)-1),show ((n+1:J):o)-1=(n:o) by omega]
  simp only [jc,j06]
  obtain ⟨ss',a',e',l',k',d'⟩:=jxy hs n a6 (ss++[(nm,(ls,es))]) d6 sqo_ (fun s hs'=>by
   rcases js.1 hs' with h | h
   ·exact hk s h
   ·simp at h;subst h;exact ⟨l4,l6,q6⟩)
  exact ⟨ss',a',e',by rw [l'];simp;omega,k',d'⟩
theorem jsS {L:E o} {a:o} (h:DOk L a) {n:o} (hn:1≤n) (hn2:n≤3):∃ zs ps cs ss a',j72 L a n=G ((zs,(ps,(cs,ss))),L,a')∧SOk zs ps cs∧1≤ss.length∧(ss.length:o)≤n∧ScW ss∧DOk L a':=by
 obtain ⟨zs,ps,cs,a1,e1,hs,d1⟩:=jwj h
 obtain ⟨x,a2,e2,x0,x1,d2⟩:=j0K (n:=n) d1 hn omg_
 obtain ⟨ss,a3,e3,l3,k3,d3⟩:=jxy hs (1+x).toNat a2 [] d2 sqo_ (fun s hs'=>by simp at hs')
 rw [show (((1+x).toNat:J):o)=1+x by omega] at e3
 simp only [j72,e1,e2,ja]
 rw [j07 (x:=1+x)]
 simp only [e3,ja]
 simp at l3
 exact ⟨zs,ps,cs,ss,a3,rfl,hs,omg_,omg_,k3,d3⟩
theorem jAq {zs:E j1l} {ps:E j1s} {cs:E CalT} {ss:E j3z} (hs:SOk zs ps cs) (hk:ScW ss):CW (zs,(ps,(cs,ss))):=
 ⟨fun z hz=>(hs.ok z hz).w,fun s hs' x hx=>by have:=(hk s hs').2.2 x hx;omega,fun s hs'=>(hk s hs').1.2⟩
end Go.Proofs.Pw
