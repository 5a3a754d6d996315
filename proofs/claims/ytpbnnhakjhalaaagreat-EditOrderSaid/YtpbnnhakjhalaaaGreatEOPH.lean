/- The configurations of the dice, with more than one schedule; copies. -/
import Derived.Test.YtpbnnhakjhalaaaGreatEOPE
import Derived.Test.YtpbnnhakjhalaaaGreatEOPB
import Derived.KernelRfl
import Derived.Test.YtpbnnhakjhalaaaGreatEOPG
import Derived.Test.YtpbnnhakjhalaaaGreatEOLD
noncomputable section
open Go Go.Lft
namespace Go.Proofs.Pw
def nms3:List ByteArray:=[(ByteArray.mk #[102,105,114,115,116]),(ByteArray.mk #[115,101,99,111,110,100]),(ByteArray.mk #[116,104,105,114,100])]
theorem jvI:NmL nms3:=by
 refine ⟨by decide,fun k hk=> ?_⟩
 simp only [nms3,jg,z6,or_false] at hk
 rcases hk with rfl | rfl | rfl<;>exact j7z 60 _ true (by kernel_rfl)
structure SG (nz np nc:Nat) (s:j1P):Prop where
 ck:SCk nz np nc s
 nm:s.2.1.map (·.1)=nmsL.take s.2.1.length
 ll:s.2.1.length≤3
 el:s.2.2.length≤3
theorem juK {L:List Int} {zs:List j1l} {ps:List j0W} {cs:List CalT} (hs:SOk zs ps cs):∀ (n:Nat) (a:Int) (ss:List j1P),DOk L a→ss.length+n≤3→ss.map (·.1)=nms3.take ss.length→(∀ s∈ss,SG zs.length ps.length cs.length s)→
  ∃ ss' a',j4U (n:Int) L a zs ps cs ss=some (L,a',zs,ps,cs,ss')∧ss'.length=ss.length+n∧ss'.map (·.1)=nms3.take ss'.length∧(∀ s∈ss',SG zs.length ps.length cs.length s)∧DOk L a'
 | 0,a,ss,hd,hl,hn,hg=>by
  rw [j7Q]
  simp only [j2b]
  rw [j00 (by omega),j6,j0d]
  exact ⟨ss,a,rfl,rfl,hn,hg,hd⟩
 | n+1,a,ss,hd,hl,hn,hg=>by
  have hlt:ss.length<nms3.length:=by show ss.length<3;omega
  have hmod:Int.tmod (Int.ofNat ss.length) 3=(ss.length:Int):=by
   have:Int.tmod (ss.length:Int) 3=(ss.length:Int):=Int.tmod_eq_of_lt (by omega) (by omega)
   exact this
  obtain ⟨k,a3,e3,k0,k1,d3⟩:=j0I (n:=4) hd (by omega) (by omega)
  obtain ⟨ls,a4,e4,l4,lk,ln,d4⟩:=jww (s6:=((n+1:Nat):Int)) (nm:=List.getD nms3 ss.length ByteArray.empty) (ss:=ss) hs k.toNat a3 [] d3 (by simp;omega) (by simp) rfl
  obtain ⟨m,a5,e5,m0,m1,d5⟩:=j0I (n:=4) d4 (by omega) (by omega)
  obtain ⟨es,a6,e6,l6,ek,d6⟩:=jwx (s6:=((n+1:Nat):Int)) (nm:=List.getD nms3 ss.length ByteArray.empty) (zs:=zs) (cs:=cs) (ss:=ss) (ls:=ls) hs m.toNat a5 [] d5 (by simp;omega) (by simp)
  rw [show ((k.toNat:Nat):Int)=k by omega] at e4
  rw [show ((m.toNat:Nat):Int)=m by omega] at e6
  have hnew:SG zs.length ps.length cs.length (List.getD nms3 ss.length ByteArray.empty,(ls,es)):=
   ⟨⟨by dsimp only;rw [ln];exact jsS.take _,lk,by dsimp only;omega,ek,by dsimp only;omega⟩,ln,l4,l6⟩
  obtain ⟨ss',a',e',h1,h2,h3,h4⟩:=juK hs n a6 (ss++[(List.getD nms3 ss.length ByteArray.empty,(ls,es))]) d6 (by simp;omega) (by
   rw [qq,hn,jk]
   exact jmf hlt) (fun s h=>by
   rcases jo.1 h with h | h
   ·exact hg s h
   ·simp at h;subst h;exact hnew)
  rw [j7Q]
  simp only [j2b]
  rw [j01 (show ((n+1:Nat):Int)>0 by omega),hmod,j0Y (by omega) (by show (ss.length:Int)<(3:Nat);omega)]
  simp only [j5,j7,e3,j3]
  rw [show j3w ((n+1:Nat):Int) k L a3 zs ps cs (List.getD [(ByteArray.mk #[102,105,114,115,116]),(ByteArray.mk #[115,101,99,111,110,100]),(ByteArray.mk #[116,104,105,114,100])] ss.length ByteArray.empty) ss []=_ from e4]
  simp only [j3,e5,e6]
  rw [j01 (by simp [j07];omega),j02 (by omega) (by omega),show ((n+1:Nat):Int)-1=(n:Int) by omega]
  simp only [j5,j09]
  exact ⟨ss',a',e',by rw [h1];simp;omega,h2,h3,h4⟩
theorem jr9 {L:List Int} {a n:Int} (h:DOk L a) (n0:1≤n) (n1:n≤3):∃ zs ps cs ss a',j52 L a n=some ((zs,(ps,(cs,ss))),L,a')∧SOk2 zs ps cs∧1≤ss.length∧(ss.length:Int)≤n∧ss.map (·.1)=nms3.take ss.length∧(∀ s∈ss,SG zs.length ps.length cs.length s)∧DOk L a':=by
 obtain ⟨zs,ps,cs,a1,e1,hs,d1⟩:=jsV h
 obtain ⟨x,a2,e2,x0,x1,d2⟩:=j0I (n:=n) d1 (by omega) (by omega)
 obtain ⟨ss,a3,e3,h1,h2,h3,d3⟩:=juK hs.so (1+x).toNat a2 [] d2 (by simp;omega) (by simp) (by simp)
 rw [show (((1+x).toNat:Nat):Int)=1+x by omega] at e3
 simp at h1
 simp only [j52,e1,e2,j3]
 rw [j02 (x:=1+x) (by omega) (by omega)]
 simp only [e3,j3]
 exact ⟨zs,ps,cs,ss,a3,rfl,hs,by omega,by omega,h2,h3,d3⟩
theorem jpj {zs:List j1l} {ps:List j0W} {cs:List CalT} {ss:List j1P} (hs:SOk2 zs ps cs) (h0:ss.length≤12) (h1:NmL (ss.map (·.1))) (h2:∀ s∈ss,SCk zs.length ps.length cs.length s):jbk (zs,(ps,(cs,ss))):=jwy hs h0 h1 h2
theorem jwL {zs z':List j1l} {ps p':List j0W} {cs c':List CalT} {ss:List j1P} (hl:ss.length≤100) (hb:∀ s∈ss,s.2.1.length≤1000∧s.2.2.length≤1000):∀ (n i:Nat),i+n=ss.length→
  j8I (i:Int) zs ps cs ss z' p' c' (ss.take i)=some (z',p',c',ss)
 | 0,i,hi=>by
  rw [jdM]
  simp only [j4B,show Int.ofNat ss.length=(ss.length:Int) from rfl]
  rw [j00 (by omega),j6,j0d,List.take_of_length_le (by omega)]
 | n+1,i,hi=>by
  have hlt:i<ss.length:=by omega
  have hgd:ss.getD i (ByteArray.empty,(([]:List j0L),([]:List j3l)))=ss[i]:=by simp [List.getD,hlt]
  obtain ⟨b1,b2⟩:=hb ss[i] (je hlt)
  rw [jdM]
  simp only [j4B,show Int.ofNat ss.length=(ss.length:Int) from rfl]
  rw [j01 (by omega),j0Y (by omega) (by omega)]
  simp only [j5,j7,hgd]
  rw [j01 (by simp [j07];omega),j01 (by simp [j07];omega),j01 (by simp [j07];omega),j02 (by omega) (by omega)]
  simp only [j5,k7,j09]
  have:=jwL (zs:=zs) (z':=z') (ps:=ps) (p':=p') (cs:=cs) (c':=c') hl hb n (i+1) (by omega)
  rw [List.take_succ_eq_append_getElem hlt] at this
  exact this
theorem jvJ {zs:List j1l} {ps:List j0W} {cs:List CalT} {ss:List j1P} (hz:zs.length≤1000) (hp:ps.length≤1000) (hc:cs.length≤1000) (hl:ss.length≤100) (hb:∀ s∈ss,s.2.1.length≤1000∧s.2.2.length≤1000) :
  jbL (zs,(ps,(cs,ss)))=some (zs,ps,cs,ss):=by
 have lp:=jwL (zs:=zs) (z':=zs) (ps:=ps) (p':=ps) (cs:=cs) (c':=cs) hl hb ss.length 0 (by omega)
 simp only [jbL]
 rw [j01 (by simp [j07];omega),j01 (by simp [j07];omega),j01 (by simp [j07];omega)]
 simp only [j5,k7]
 rw [show j8I 0 zs ps cs ss zs ps cs []=_ from lp]
 rfl
instance (L:j0L):Decidable (Rt L):=
 decidable_of_iff (1≤L.2.2.1.1∧L.2.2.1.1≤100000∧0≤L.2.2.1.2∧L.2.2.1.2≤86399∧0≤L.2.2.2.1∧L.2.2.2.1≤2∧1≤L.2.2.2.2.1∧L.2.2.2.2.1≤400∧L.2.2.2.2.2.1≠[])
  ⟨fun ⟨a,b,c,d,e,f,g,h,i⟩=>⟨a,b,c,d,e,f,g,h,i⟩,fun ⟨a,b,c,d,e,f,g,h,i⟩=>⟨a,b,c,d,e,f,g,h,i⟩⟩
section
variable {z:j1l} {l:TrL} (h4:Z4 z l)
include h4
theorem jpk (L:j0L):jdN z L=some (if Rt L then 0 else 8):=by
 have hc:j5P (z.1,(z.2.1,z.2.2))=some 0:=by
  simp only [j5P,show j1f (z.1,(z.2.1,z.2.2))=_ from h4.1,j3]
 simp only [jdN,hc,j3,jb,j6]
 have key:(cond (cond (cond (cond (cond (cond (cond (cond (decide (L.2.2.1.1<1)) true (decide (L.2.2.1.1>100000))) true (decide (L.2.2.1.2<0))) true (decide (L.2.2.1.2≥86400))) true (decide (L.2.2.2.1<0))) true (decide (L.2.2.2.1>2))) true (decide (L.2.2.2.2.1<1))) true (decide (L.2.2.2.2.1>400))) true (Int.ofNat L.2.2.2.2.2.1.length==0)) = !decide (Rt L):=by
  have hlen:(Int.ofNat L.2.2.2.2.2.1.length==0)=decide (L.2.2.2.2.2.1=[]):=by
   cases L.2.2.2.2.2.1 with
   | nil=>rfl
   | cons x r=>simp;omega
  rw [hlen]
  rw [Bool.eq_iff_iff]
  simp only [kb,k5]
  constructor
  ·intro hh h
   have a1:=h.d0;have a2:=h.d1;have a3:=h.c0;have a4:=h.c1;have a5:=h.u0;have a6:=h.u1;have a7:=h.e0;have a8:=h.e1
   rw [j00 (show ¬ L.2.2.1.1<1 by omega),j00 (show ¬ L.2.2.1.1>100000 by omega),j00 (show ¬ L.2.2.1.2<0 by omega),j00 (show ¬ L.2.2.1.2≥86400 by omega),j00 (show ¬ L.2.2.2.1<0 by omega),j00 (show ¬ L.2.2.2.1>2 by omega),j00 (show ¬ L.2.2.2.2.1<1 by omega),j00 (show ¬ L.2.2.2.2.1>400 by omega),j00 h.m0] at hh
   simp at hh
  ·intro hn
   by_cases a1:L.2.2.1.1<1
   ·rw [j01 a1];rfl
   rw [j00 a1]
   by_cases a2:L.2.2.1.1>100000
   ·rw [j01 a2];rfl
   rw [j00 a2]
   by_cases a3:L.2.2.1.2<0
   ·rw [j01 a3];rfl
   rw [j00 a3]
   by_cases a4:L.2.2.1.2≥86400
   ·rw [j01 a4];rfl
   rw [j00 a4]
   by_cases a5:L.2.2.2.1<0
   ·rw [j01 a5];rfl
   rw [j00 a5]
   by_cases a6:L.2.2.2.1>2
   ·rw [j01 a6];rfl
   rw [j00 a6]
   by_cases a7:L.2.2.2.2.1<1
   ·rw [j01 a7];rfl
   rw [j00 a7]
   by_cases a8:L.2.2.2.2.1>400
   ·rw [j01 a8];rfl
   rw [j00 a8]
   by_cases a9:L.2.2.2.2.2.1=[]
   ·rw [j01 a9];rfl
   exact absurd ⟨by omega,by omega,by omega,by omega,by omega,by omega,by omega,by omega,a9⟩ hn
 rw [key]
 by_cases h:Rt L
 ·rw [j01 h,if_pos h];rfl
 ·rw [j00 h,if_neg h];rfl
end
theorem juL {z:j1l} {l:TrL} (hz:Z4 z l) {L:j0L} (h:Rt L) {t N:Int} (hN:N≤8589934592):∀ n:Nat,(n:Int)≤N→
  ∃ K:Int,j5Q t ((n:Int)-1) z.1 z.2.1 z.2.2 L.1 L.2.1 L.2.2.1.1 L.2.2.1.2 L.2.2.2.1 L.2.2.2.2.1 L.2.2.2.2.2.1 L.2.2.2.2.2.2.1 L.2.2.2.2.2.2.2.1 L.2.2.2.2.2.2.2.2=some K∧
   (K = -1∨0≤K∧QO z.2.1 l L t K)∧K<n∧∀ j:Int,K<j→0≤j→j<n→¬ QO z.2.1 l L t j
 | 0,_=>by
  rw [jdP]
  simp only [j4C]
  rw [j00 (by omega),j6,j0d]
  exact ⟨_,rfl,.inl (by omega),by omega,fun j h1 h2 h3=>by omega⟩
 | n+1,hn=>by
  obtain ⟨K,e,k0,k1,k2⟩:=juL hz h (t:=t) hN n (by omega)
  obtain ⟨v,hH,hv⟩:=r10H hz h (k:=(n:Int)) (by omega) (by omega)
  rw [jdP,show ((n+1:Nat):Int)-1=(n:Int) by omega]
  simp only [j4C]
  rw [j01 (by omega),j5,show j8K (z.1,(z.2.1,z.2.2)) (L.1,L.2.1,(L.2.2.1.1,L.2.2.1.2),L.2.2.2.1,L.2.2.2.2.1,L.2.2.2.2.2.1,L.2.2.2.2.2.2.1,L.2.2.2.2.2.2.2.1,L.2.2.2.2.2.2.2.2) (n:Int)=_ from hH]
  simp only [j3]
  rw [j02 (x:=(n:Int)-1) (by omega) (by omega)]
  have down:¬ QO z.2.1 l L t (n:Int)→(lpK (some (Sum.inl (t,(n:Int)-1,z.1,z.2.1,z.2.2,L.1,L.2.1,L.2.2.1.1,L.2.2.1.2,L.2.2.2.1,L.2.2.2.2.1,L.2.2.2.2.2.1,L.2.2.2.2.2.2.1,L.2.2.2.2.2.2.2.1,L.2.2.2.2.2.2.2.2)):Option ((Int×Int×ByteArray×Int×List Rule×ByteArray×Int×Int×Int×Int×Int×List Int×WL×Int×Int) ⊕ Int)) (fun h=>j5Q h.1 h.2.1 h.2.2.1 h.2.2.2.1 h.2.2.2.2.1 h.2.2.2.2.2.1 h.2.2.2.2.2.2.1 h.2.2.2.2.2.2.2.1 h.2.2.2.2.2.2.2.2.1 h.2.2.2.2.2.2.2.2.2.1 h.2.2.2.2.2.2.2.2.2.2.1 h.2.2.2.2.2.2.2.2.2.2.2.1 h.2.2.2.2.2.2.2.2.2.2.2.2.1 h.2.2.2.2.2.2.2.2.2.2.2.2.2.1 h.2.2.2.2.2.2.2.2.2.2.2.2.2.2))=some K∧∀ j:Int,K<j→0≤j→j<((n+1:Nat):Int)→¬ QO z.2.1 l L t j:=by
   intro hq
   refine ⟨by rw [j09];exact e,fun j h1 h2 h3=> ?_⟩
   by_cases hjn:j<n
   ·exact k2 j h1 h2 hjn
   ·rw [show j=(n:Int) by omega];exact hq
  cases hx:hO z.2.1 l L (n:Int) with
  | none=>
   simp only [Option.isSome_none,j6]
   obtain ⟨d1,d2⟩:=down fun ⟨y,hy,_⟩=>by rw [hx] at hy;simp at hy
   exact ⟨K,d1,k0,by omega,d2⟩
  | some x=>
   have:=hv x hx
   subst this
   simp only [zf,j5]
   by_cases hc:v≤t
   ·rw [j01 hc,j5,j0d]
    exact ⟨_,rfl,.inr ⟨by omega,v,hx,hc⟩,by omega,fun j h1 h2 h3=>by omega⟩
   ·rw [j00 hc,j6]
    obtain ⟨d1,d2⟩:=down fun ⟨y,hy,hyt⟩=>by rw [hx] at hy;simp at hy;omega
    exact ⟨K,d1,k0,by omega,d2⟩
theorem jxj {z:j1l} {l:TrL} (hz:Z4 z l) {L:j0L} (h:Rt L) {t:Int} (h0t:0≤t) (htt:t≤8589934592):∃ K:Int,jdQ z L t=some K∧ShO z.2.1 l L t K:=by
 have hs:=h.step
 have hd0:=h.d0;have hd1:=h.d1;have he0:=h.e0;have he1:=h.e1;have hc0:=h.c0;have hc1:=h.c1
 simp only [jdQ]
 by_cases h0:L.2.2.2.1=0
 ·have hF:=jfN hz (d:=L.2.2.1.1) (c:=L.2.2.1.2) (by omega) hc0 hc1
  have hs0:L.2.2.1.1*86400+L.2.2.1.2=sLoc L 0:=by unfold sLoc;omega
  rw [j6W h0,j5,show j40 (z.1,(z.2.1,z.2.2)) (L.2.2.1.1,L.2.2.1.2)=_ from hF,hs0]
  simp only [j3]
  have nq:(∀ v,fO z.2.1 l (sLoc L 0)=some v→t<v)→¬ QO z.2.1 l L t 0:=by
   rintro hn ⟨y,hy,hyt⟩
   have:=hn y (jt0 h0 hy)
   omega
  cases hf:fO z.2.1 l (sLoc L 0) with
  | none=>exact ⟨-1,rfl,.inl ⟨rfl,nq fun v hv=>by rw [hf] at hv;simp at hv⟩⟩
  | some v=>
   have hva:=jr7 hz.2 hf
   simp only [qd,j5]
   by_cases hc:v≤t
   ·obtain ⟨s1,s2,s3⟩:=jqa (o:=z.2.1) (l:=l) h h0 htt hf hc hva.2.1
    rw [j01 hc,j5,j02 (x:=t-v) (by omega) (by omega),j02 (x:=3600*L.2.2.2.2.1) (by omega) (by omega),j3B (show ¬ 3600*L.2.2.2.2.1=0 by omega),kz (by omega),j02 (x:=(t-v)/(3600*L.2.2.2.2.1)) (by omega) (by omega)]
    exact ⟨_,rfl,s1⟩
   ·rw [j00 hc]
    exact ⟨-1,rfl,.inl ⟨rfl,nq fun v' hv=>by rw [hf] at hv;simp at hv;omega⟩⟩
 ·obtain ⟨j,hj,j1,j2⟩:=jib hz.2 h0t htt
  have o0:=hz.2.of0 j hj;have o1:=hz.2.of1 j hj
  have eT:=jq7 hz (t:=t) h0t htt hj j1 j2
  rw [j3B h0,j6,show j39 (z.1,(z.2.1,z.2.2)) t=_ from eT]
  simp only [j3]
  have hday:∀ k:Int,QO z.2.1 l L t k→L.2.2.1.1+k*j3m L≤(t+tof z.2.1 l j)/86400+2:=fun k hq=>QO.day hz.2 h h0 hq hj
  generalize hld:(t+tof z.2.1 l j)/86400=ld at hday
  rw [j02 (x:=ld+2) (by omega) (by omega),j02 (x:=ld+2-L.2.2.1.1) (by omega) (by omega)]
  have fin:∀ st:Int,st=j3m L→∃ K:Int,((j5Q t (w64 (Int.tdiv (if (0:Int)>ld+2-L.2.2.1.1 then (0:Int) else ld+2-L.2.2.1.1) st)) z.1 z.2.1 z.2.2 L.1 L.2.1 L.2.2.1.1 L.2.2.1.2 L.2.2.2.1 L.2.2.2.2.1 L.2.2.2.2.2.1 L.2.2.2.2.2.2.1 L.2.2.2.2.2.2.2.1 L.2.2.2.2.2.2.2.2).bind fun q0=>some q0)=some K∧ShO z.2.1 l L t K:=by
   rintro st rfl
   obtain ⟨m,hm,hm0,hm1⟩:∃ m:Int,(if (0:Int)>ld+2-L.2.2.1.1 then (0:Int) else ld+2-L.2.2.1.1)=m∧0≤m∧m≤1000000:=⟨_,rfl,by split<;>omega,by split<;>omega⟩
   have hml:ld+2-L.2.2.1.1≤m:=by rw [←hm];split<;>omega
   rw [hm,kz hm0]
   have q0:0≤m/j3m L:=ze hm0 (by omega)
   have q1:m/j3m L≤m:=z7 _ hm0
   have q2:m<j3m L*(m/j3m L)+j3m L:=Int.lt_mul_ediv_self_add (by omega)
   rw [j02 (by omega) (by omega)]
   generalize m/j3m L=km at *
   obtain ⟨K,e,k0,k1,k2⟩:=juL hz h (t:=t) (Int.le_refl _) (km+1).toNat (by omega)
   rw [show (((km+1).toNat:Nat):Int)-1=km by omega] at e
   rw [e]
   refine ⟨K,rfl,?_⟩
   have top:¬ QO z.2.1 l L t (K+1):=by
    by_cases hK:K+1≤km
    ·exact k2 (K+1) (by omega) (by rcases k0 with k0 | k0<;>omega) (by omega)
    ·intro hq
     have hd:=hday _ hq
     have hkk:K=km:=by omega
     rw [hkk,Int.add_mul,Int.one_mul] at hd
     have:j3m L*km=km*j3m L:=Int.mul_comm _ _
     omega
   rcases k0 with k0 | k0
   ·subst k0;exact .inl ⟨rfl,top⟩
   ·exact .inr ⟨k0.1,k0.2,top⟩
  by_cases h2:L.2.2.2.1=2
  ·have hsd:j3m L=7*L.2.2.2.2.1:=by unfold j3m;rw [if_pos h2]
   rw [j6W h2,j5,j02 (x:=L.2.2.2.2.1*7) (by omega) (by omega),j3B (show ¬ L.2.2.2.2.1*7=0 by omega)]
   simp only [js,j5]
   exact fin _ (by rw [hsd,Int.mul_comm])
  ·have hsd:j3m L=L.2.2.2.2.1:=by unfold j3m;rw [if_neg h2]
   rw [j3B h2,j6,j3B (show ¬ L.2.2.2.2.1=0 by omega)]
   simp only [js,j5]
   exact fin _ hsd.symm
abbrev SgT:=Int×(Int×Int)
abbrev SgL:=List SgT
def Ch (f:Int→Int) (b:Int):Int→SgL→Prop
 | a,[]=>a=b
 | a,s::r=>s.1=a∧a≤s.2.1∧(∀ t,a≤t→t<s.2.1→f t=s.2.2)∧Ch f b s.2.1 r
def Cov (f:Int→Int) (b:Int):Option Int→Int→SgL→Prop
 | _,a,[]=>a=b
 | q,a,s::r=>s.1=a∧a<s.2.1∧q≠some s.2.2∧(∀ t,a≤t→t<s.2.1→f t=s.2.2)∧Cov f b (some s.2.2) s.2.1 r
theorem Ch.le {f:Int→Int} {b:Int}:∀ {l:SgL} {a:Int},Ch f b a l→a≤b
 | [],_,h=>Int.le_of_eq h
 | _::_,_,h=>Int.le_trans h.2.1 h.2.2.2.le
theorem Ch.app {f:Int→Int} {b c:Int}:∀ {l r:SgL} {a:Int},Ch f b a l→Ch f c b r→Ch f c a (l++r)
 | [],_,_,h,h'=>by have h:_=_:=h;subst h;exact h'
 | _::_,_,_,h,h'=>⟨h.1,h.2.1,h.2.2.1,h.2.2.2.app h'⟩
theorem Cov.ch {f:Int→Int} {b:Int}:∀ {l:SgL} {q:Option Int} {a:Int},Cov f b q a l→Ch f b a l
 | [],_,_,h=>h
 | _::_,_,_,h=>⟨h.1,Int.le_of_lt h.2.1,h.2.2.2.1,h.2.2.2.2.ch⟩
theorem Cov.uniq {f:Int→Int} {b:Int}:∀ {l l':SgL} {q:Option Int} {a:Int},Cov f b q a l→Cov f b q a l'→l=l'
 | [],[],_,_,_,_=>rfl
 | [],_::_,_,_,h,h'=>by have:=h'.2.1;have:=h'.2.2.2.2.ch.le;have h:_=_:=h;omega
 | _::_,[],_,_,h,h'=>by have:=h.2.1;have:=h.2.2.2.2.ch.le;have h':_=_:=h';omega
 | s::r,s'::r',q,a,h,h'=>by
  obtain ⟨h1,h2,h3,h4,h5⟩:=h
  obtain ⟨g1,g2,g3,g4,g5⟩:=h'
  have hp:s.2.2=s'.2.2:=by rw [←h4 a (by omega) h2,←g4 a (by omega) g2]
  have ht:s.2.1=s'.2.1:=by
   apply q9
   intro hne
   by_cases hlt:s.2.1<s'.2.1
   ·match r,h5 with
    | [],h5=>have:=g5.ch.le;have h5:_=_:=h5;omega
    | u::v,h5=>
     have e1:=h5.2.2.2.1 s.2.1 (by omega) h5.2.1
     have e2:=g4 s.2.1 (by omega) hlt
     exact h5.2.2.1 (by rw [←e1,e2,hp])
   ·match r',g5 with
    | [],g5=>have:=h5.ch.le;have g5:_=_:=g5;omega
    | u::v,g5=>
     have e1:=g5.2.2.2.1 s'.2.1 (by omega) g5.2.1
     have e2:=h4 s'.2.1 (by omega) (by omega)
     exact g5.2.2.1 (by rw [←e1,e2,hp])
  have hs:s=s':=Prod.ext (by rw [h1,g1]) (Prod.ext ht hp)
  subst hs
  rw [h5.uniq g5]
def lstP:Option Int→SgL→Option Int
 | q,[]=>q
 | _,s::r=>lstP (some s.2.2) r
theorem Cov.ext {f:Int→Int} {b c x p:Int}:∀ {l:SgL} {q:Option Int} {a:Int},Cov f b q a (l++[(x,(b,p))])→b≤c→(∀ t,b≤t→t<c→f t=p)→Cov f c q a (l++[(x,(c,p))])
 | [],_,_,h,hbc,hp=>⟨h.1,by have:=h.2.1;dsimp only at this ⊢;omega,h.2.2.1,fun t h1 h2=>by
  by_cases ht:t<b
  ·exact h.2.2.2.1 t h1 ht
  ·exact hp t (by omega) h2,rfl⟩
 | _::_,_,_,h,hbc,hp=>⟨h.1,h.2.1,h.2.2.1,h.2.2.2.1,h.2.2.2.2.ext hbc hp⟩
theorem Ch.mem {f:Int→Int} {b:Int}:∀ {l:SgL} {a:Int},Ch f b a l→∀ s∈l,a≤s.1∧s.1≤s.2.1∧s.2.1≤b∧∀ t,s.1≤t→t<s.2.1→f t=s.2.2
 | [],_,_,s,hs=>by simp at hs
 | u::r,a,h,s,hs=>by
  obtain ⟨h1,h2,h3,h4⟩:=h
  rcases jg.1 hs with rfl | hs
  ·exact ⟨by omega,by omega,h4.le,fun t t1 t2=>h3 t (by omega) t2⟩
  ·have:=h4.mem s hs
   exact ⟨by omega,this.2.1,this.2.2.1,this.2.2.2⟩
theorem Ch.has {f:Int→Int} {b:Int}:∀ {l:SgL} {a:Int},Ch f b a l→∀ x,a≤x→x<b→∃ s∈l,s.1≤x∧x<s.2.1
 | [],_,h,x,h1,h2=>by have h:_=_:=h;omega
 | u::r,a,h,x,h1,h2=>by
  obtain ⟨g1,g2,g3,g4⟩:=h
  by_cases hx:x<u.2.1
  ·exact ⟨u,by simp,by omega,hx⟩
  ·obtain ⟨s,hs,e⟩:=g4.has x (by omega) h2
   exact ⟨s,by simp [hs],e⟩
theorem Ch.congr {f g:Int→Int} {b:Int}:∀ {l:SgL} {a:Int},Ch f b a l→(∀ t,a≤t→t<b→f t=g t)→Ch g b a l
 | [],_,h,_=>h
 | u::r,a,h,hg=>by
  obtain ⟨g1,g2,g3,g4⟩:=h
  have:=g4.le
  exact ⟨g1,g2,fun t t1 t2=>by rw [←hg t t1 (by omega)];exact g3 t t1 t2,g4.congr (fun t t1 t2=>hg t (by omega) t2)⟩
theorem Cov.pos {f:Int→Int} {b:Int}:∀ {l:SgL} {q:Option Int} {a:Int},Cov f b q a l→∀ s∈l,s.1<s.2.1
 | [],_,_,_,s,hs=>by simp at hs
 | u::r,_,a,h,s,hs=>by
  rcases jg.1 hs with rfl | hs
  ·have:=h.1;have:=h.2.1;omega
  ·exact h.2.2.2.2.pos s hs
section
variable {zs:List j1l} {ps:List j0W} {cs:List CalT} (hs:SOk2 zs ps cs)
include hs
omit hs in
def zAt (zs:List j1l) (i:Int):j1l:=zs.getD i.toNat (ByteArray.empty,((0:Int),([]:List Rule)))
omit hs in
def cAt (cs:List CalT) (i:Int):CalT:=cs.getD i.toNat (ByteArray.empty,((0:Int),([]:List Int)))
omit hs in
def locD (z:j1l) (t:Int):Int×Int:=(j0u (tb z) t).getD (0,0)
omit hs in
def secD (d:Int×Int):Int:=(j3f d).getD 0
omit hs in
def shK (z:j1l) (L:j0L) (t:Int):Int:=(j1W (tb z) L t).getD (-1)
omit hs in
def calB (zs:List j1l) (cs:List CalT) (L:j0L) (t:Int):Bool:=
 cond (L.2.2.2.2.2.2.2.2==0) true (decide ((locD (zAt zs (cAt cs L.2.2.2.2.2.2.2.1).2.1) t).1∈(cAt cs L.2.2.2.2.2.2.2.1).2.2)==(L.2.2.2.2.2.2.2.2==(2:Int)))
omit hs in
def onX (zs:List j1l) (cs:List CalT) (L:j0L) (t:Int):Bool:=
 cond (decide (0≤shK (zAt zs L.2.1) L t)) (cond (okW L.2.2.2.2.2.2.1 (secD (locD (zAt zs L.2.1) t))) (calB zs cs L t) false) false
omit hs in
def perX (zs:List j1l) (cs:List CalT) (L:j0L) (t:Int):Int:=cond (onX zs cs L t) (whoL L (shK (zAt zs L.2.1) L t)) (-1)
omit hs in
theorem jpl {z:j1l} (hz:ZOk z) {t:Int} (h0:0≤t) (h1:t≤8589934592):j0u (tb z) t=some (locD z t)∧j3f (locD z t)=some (secD (locD z t)):=by
 obtain ⟨d,s,hd,hsc⟩:=jwH hz h0 h1
 have:locD z t=d:=by simp [locD,hd]
 rw [this]
 exact ⟨hd,by simp [secD,hsc]⟩
omit hs in
theorem juM {z:j1l} (hz:ZOk z) {L:j0L} (hR:Rt L) {t:Int} (h0:0≤t) (h1:t≤8589934592):j1W (tb z) L t=some (shK z L t)∧ShO z.2.1 (tb z).2 L t (shK z L t):=by
 obtain ⟨K,e,hK⟩:=jxh hz.ztab.2 hR h0 h1
 have:shK z L t=K:=by simp only [shK,show j1W (tb z) L t=_ from e,z5]
 rw [this]
 exact ⟨e,hK⟩
omit hs in
theorem jxk {L:j0L} {t:Int} (h:onX zs cs L t=true):0≤shK (zAt zs L.2.1) L t:=by
 by_cases hk:0≤shK (zAt zs L.2.1) L t
 ·exact hk
 ·unfold onX at h;rw [j00 hk] at h;simp at h
theorem jxl {L:j0L} (hL:LCk zs.length ps.length cs.length L) {ss:List j1P} {t:Int} (h0:0≤t) (h1:t≤8589934592) :
  (∃ r,j3o ((zs,(ps,(cs,ss))),zs.map tb) L t=some (r,onX zs cs L t))∧j1t ((zs,(ps,(cs,ss))),zs.map tb) L t=some (perX zs cs L t)∧(onX zs cs L t=true→0≤shK (zAt zs L.2.1) L t):=by
 have hRt:=hL.rt2
 have hz:=zget hs.so.ok hL.z0 hL.z1
 obtain ⟨hd,hsc⟩:=jpl hz h0 h1
 obtain ⟨eK,hK⟩:=juM hz hRt h0 h1
 have hon:onX zs cs L t=true→0≤shK (zAt zs L.2.1) L t:=fun h=>by
  by_cases hk:0≤shK (zAt zs L.2.1) L t
  ·exact hk
  ·unfold onX at h;rw [j00 hk] at h;simp at h
 obtain ⟨r,er,hr⟩:=jwG (ps:=ps) (ss:=ss) hs.so.ok hL hRt h0 h1 rfl hd hsc eK (calB zs cs L t) (fun h=>by unfold calB;rw [j6W h];rfl) (fun h=>⟨_,rfl,cget hs (hL.cal h).1 (hL.cal h).2,_,(jpl (zget hs.so.ok (cget hs (hL.cal h).1 (hL.cal h).2).z0 (cget hs (hL.cal h).1 (hL.cal h).2).z1) h0 h1).1,by
  unfold calB;rw [j3B h];rfl⟩)
 exact ⟨⟨r,er⟩,juh hL.m0 er hr hon,hon⟩
end
section
variable {zs:List j1l} {ps:List j0W} {cs:List CalT} (hs:SOk2 zs ps cs)
include hs
end
section
variable {zs:List j1l} {ps:List j0W} {cs:List CalT} (hs:SOk2 zs ps cs)
include hs
section
variable {ss:List j1P} (g0:ss.length≤12) (g1:NmL (ss.map (·.1))) (g2:∀ s∈ss,SCk zs.length ps.length cs.length s)
 {L:j0L} (hL:LCk zs.length ps.length cs.length L) (hn:j4s L.1=some true)
include g0 g1 g2 hL hn
end
end
end Go.Proofs.Pw
