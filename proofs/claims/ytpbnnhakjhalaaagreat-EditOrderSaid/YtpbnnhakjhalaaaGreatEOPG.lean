/- Chapter 10: package recur and its reference, for any layer that is right. -/
import Derived.Test.YtpbnnhakjhalaaaGreatEOPF
import Derived.Test.YtpbnnhakjhalaaaGreatEOPE
import Derived.Test.YtpbnnhakjhalaaaGreatEOPA
import Derived.Test.YtpbnnhakjhalaaaGreatEOFns
import Derived.Test.YtpbnnhakjhalaaaGreatEOPC
import Derived.Test.YtpbnnhakjhalaaaGreatEOPB
import Derived.KernelRfl
open Go Go.Lft
namespace Go.Proofs.Pw
theorem jq9 {L:j0L} (h:Rt L):j84 L=some (j3m L):=by
 have:=h.e0;have:=h.e1
 simp only [j84,j3m]
 by_cases h2:L.2.2.2.1=2
 ·rw [j6W h2,j5,if_pos h2,j02 (by omega) (by omega)]
 ·rw [j3B h2,j6,if_neg h2]
def HVal (r:Option (Int×Bool)) (x:Option Int):Prop:=∃ v,r=some (v,x.isSome)∧∀ t,x=some t→v=t
theorem recH {o:Int} {l:TrL} (ht:TOk o l) {L:j0L} (h:Rt L) {k:Int} (hk:0≤k) (hk2:k≤8589934592):HVal (j1a (o,l) L k) (hO o l L k):=by
 have hs:=h.step
 have hd0:=h.d0;have hd1:=h.d1;have hc0:=h.c0;have hc1:=h.c1;have he0:=h.e0;have he1:=h.e1
 have hstep:j84 (L.1,L.2.1,(L.2.2.1.1,L.2.2.1.2),L.2.2.2.1,L.2.2.2.2.1,L.2.2.2.2.2.1,L.2.2.2.2.2.2.1,L.2.2.2.2.2.2.2.1,L.2.2.2.2.2.2.2.2)=_:=jq9 h
 simp only [HVal,j1a,hstep,j3]
 rw [j00 (show ¬ k>8589934592 by omega),j6]
 by_cases h0:L.2.2.2.1=0
 ·have hF:=jnV ht (d:=L.2.2.1.1) (c:=L.2.2.1.2) (by omega) (by omega) hc0 hc1
  have hs0:L.2.2.1.1*86400+L.2.2.1.2=sLoc L 0:=by unfold sLoc;omega
  have hm0:0≤3600*L.2.2.2.2.1*k:=Int.mul_nonneg (by omega) hk
  have hm1:3600*L.2.2.2.2.1*k≤3600*400*8589934592:=Int.mul_le_mul (by omega) hk2 hk (by omega)
  rw [show (L.2.2.2.1 != 0)=false by rw [h0];rfl,j6,hF,hs0]
  simp only [j3]
  unfold hO
  rw [if_pos h0]
  cases hf:fO o l (sLoc L 0) with
  | none=>exact ⟨_,rfl,fun t h=>by simp at h⟩
  | some v=>
   have hv:=jr7 ht hf
   simp only [z5,zf,j5,j3,j02 (x:=3600*L.2.2.2.2.1) (show -9223372036854775808≤_ by omega) (by omega),j02 (x:=3600*L.2.2.2.2.1*k) (show -9223372036854775808≤_ by omega) (by omega),j02 (x:=v+3600*L.2.2.2.2.1*k) (show -9223372036854775808≤_ by omega) (by omega)]
   by_cases hle:v+3600*L.2.2.2.2.1*k≤8589934592
   ·rw [if_pos hle,j01 hle]
    exact ⟨_,rfl,fun t h=>by simpa using h⟩
   ·rw [if_neg hle,j00 hle]
    exact ⟨_,rfl,fun t h=>by simp at h⟩
 ·have hm0:0≤k*j3m L:=Int.mul_nonneg hk (by omega)
  have hm1:k*j3m L≤8589934592*2800:=Int.mul_le_mul hk2 hs.2 (by omega) (by omega)
  rw [show (L.2.2.2.1 != 0)=true by simp [h0],j5,j02 (x:=k*j3m L) (by omega) (by omega),j02 (x:=L.2.2.1.1+k*j3m L) (by omega) (by omega),jnV ht (by omega) (by omega) hc0 hc1]
  simp only [j3]
  unfold hO
  rw [if_neg h0]
  exact ⟨_,rfl,fun t h=>by have h:fO o l ((L.2.2.1.1+k*j3m L)*86400+L.2.2.1.2)=some t:=h;rw [h];rfl⟩
theorem r10H {z:j1l} {l:TrL} (hz:Z4 z l) {L:j0L} (h:Rt L) {k:Int} (hk:0≤k) (hk2:k≤8589934592):HVal (j8K z L k) (hO z.2.1 l L k):=by
 have hs:=h.step
 have hd0:=h.d0;have hd1:=h.d1;have hc0:=h.c0;have hc1:=h.c1;have he0:=h.e0;have he1:=h.e1;have hu1:=h.u1;have hu0:=h.u0
 simp only [HVal,j8K]
 have hm0:0≤k*L.2.2.2.2.1:=Int.mul_nonneg hk (by omega)
 have hm1:k*L.2.2.2.2.1≤8589934592*400:=Int.mul_le_mul hk2 (by omega) (by omega) (by omega)
 rw [j02 (x:=k*L.2.2.2.2.1) (by omega) (by omega)]
 by_cases h0:L.2.2.2.1=0
 ·have hF:=jfN hz (d:=L.2.2.1.1) (c:=L.2.2.1.2) (by omega) hc0 hc1
  have hs0:L.2.2.1.1*86400+L.2.2.1.2=sLoc L 0:=by unfold sLoc;omega
  rw [j6W h0,j5,show j40 (z.1,(z.2.1,z.2.2)) (L.2.2.1.1,L.2.2.1.2)=_ from hF,hs0]
  simp only [j3]
  have hcm:k*L.2.2.2.2.1*3600=3600*L.2.2.2.2.1*k:=by rw [Int.mul_comm,Int.mul_comm k,Int.mul_assoc]
  have hm2:0≤3600*L.2.2.2.2.1*k:=Int.mul_nonneg (by omega) hk
  have hm3:3600*L.2.2.2.2.1*k≤3600*400*8589934592:=Int.mul_le_mul (by omega) hk2 hk (by omega)
  rw [hcm,j02 (x:=3600*L.2.2.2.2.1*k) (by omega) (by omega)]
  unfold hO
  rw [if_pos h0]
  cases hf:fO z.2.1 l (sLoc L 0) with
  | none=>exact ⟨_,rfl,fun t h=>by simp at h⟩
  | some v=>
   have hv:=jr7 hz.2 hf
   simp only [j3]
   rw [j02 (x:=v+3600*L.2.2.2.2.1*k) (by omega) (by omega),qd,j5]
   by_cases hle:v+3600*L.2.2.2.2.1*k≤8589934592
   ·rw [if_pos hle,j01 hle]
    exact ⟨_,rfl,fun t h=>by simpa using h⟩
   ·rw [if_neg hle,j00 hle]
    exact ⟨_,rfl,fun t h=>by simp at h⟩
 ·rw [j3B h0,j6]
  have fin:∀ n:Int,n=k*j3m L→0≤n→HVal ((j40 (z.1,(z.2.1,z.2.2)) (L.2.2.1.1+n,L.2.2.1.2)).bind fun r=>some (r.1,(r.2==(0:Int)))) (hO z.2.1 l L k):=by
   intro n hn hn0
   have hF:=jfN hz (d:=L.2.2.1.1+n) (c:=L.2.2.1.2) (by omega) hc0 hc1
   rw [show j40 (z.1,(z.2.1,z.2.2)) (L.2.2.1.1+n,L.2.2.1.2)=_ from hF]
   unfold hO
   rw [if_neg h0]
   have hsl:(L.2.2.1.1+n)*86400+L.2.2.1.2=sLoc L k:=by rw [hn];rfl
   rw [hsl]
   cases hf:fO z.2.1 l (sLoc L k) with
   | none=>exact ⟨_,rfl,fun t h=>by simp at h⟩
   | some v=>exact ⟨_,rfl,fun t h=>by simpa using h⟩
  by_cases h2:L.2.2.2.1=2
  ·have hsd:j3m L=7*L.2.2.2.2.1:=by unfold j3m;rw [if_pos h2]
   have e1:k*L.2.2.2.2.1*7=k*j3m L:=by rw [hsd,Int.mul_assoc,Int.mul_comm L.2.2.2.2.1 7]
   rw [j6W h2,j5,j02 (x:=k*L.2.2.2.2.1*7) (by omega) (by omega),j02 (x:=L.2.2.1.1+k*L.2.2.2.2.1*7) (by omega) (by omega)]
   exact fin _ e1 (by omega)
  ·have hsd:j3m L=L.2.2.2.2.1:=by unfold j3m;rw [if_neg h2]
   rw [j3B h2,j6,j02 (x:=L.2.2.1.1+k*L.2.2.2.2.1) (by omega) (by omega)]
   exact fin _ (by rw [hsd]) hm0
theorem jwE {o:Int} {l:TrL} (ht:TOk o l) {L:j0L} (h:Rt L) {t N:Int} (hN:N≤8589934592) (hfirst:QO o l L t 0):∀ n:Nat,(n:Int)≤N→
  ∃ k:Int,j3N t (n:Int) o l L.1 L.2.1 L.2.2.1.1 L.2.2.1.2 L.2.2.2.1 L.2.2.2.2.1 L.2.2.2.2.2.1 L.2.2.2.2.2.2.1 L.2.2.2.2.2.2.2.1 L.2.2.2.2.2.2.2.2=
   some (t,k,o,l,L.1,L.2.1,L.2.2.1.1,L.2.2.1.2,L.2.2.2.1,L.2.2.2.2.1,L.2.2.2.2.2.1,L.2.2.2.2.2.2.1,L.2.2.2.2.2.2.2.1,L.2.2.2.2.2.2.2.2)∧0≤k∧QO o l L t k
 | 0,_=>by
  rw [j9U]
  simp only [j1j]
  rw [j00 (by omega),j6,j0d]
  exact ⟨_,rfl,by omega,hfirst⟩
 | n+1,hn=>by
  obtain ⟨k,e,k0,k1⟩:=jwE ht h hN hfirst n (by omega)
  obtain ⟨v,hH,hv⟩:=recH ht h (k:=((n+1:Nat):Int)) (by omega) (by omega)
  rw [j9U]
  simp only [j1j]
  rw [j01 (by omega),j5,show j1a (o,l) (L.1,L.2.1,(L.2.2.1.1,L.2.2.1.2),L.2.2.2.1,L.2.2.2.2.1,L.2.2.2.2.2.1,L.2.2.2.2.2.2.1,L.2.2.2.2.2.2.2.1,L.2.2.2.2.2.2.2.2) ((n+1:Nat):Int)=_ from hH]
  simp only [j3]
  rw [j02 (x:=((n+1:Nat):Int)-1) (by omega) (by omega),show ((n+1:Nat):Int)-1=(n:Int) by omega]
  cases hx:hO o l L ((n+1:Nat):Int) with
  | none=>
   simp only [Option.isSome_none,j6,j09]
   exact ⟨k,e,k0,k1⟩
  | some x=>
   have:=hv x hx
   subst this
   simp only [zf,j5]
   by_cases hc:v≤t
   ·rw [j01 hc,j5,j0d]
    exact ⟨_,rfl,by omega,v,hx,hc⟩
   ·rw [j00 hc,j6,j09]
    exact ⟨k,e,k0,k1⟩
theorem jwF {o:Int} {l:TrL} (ht:TOk o l) {L:j0L} (h:Rt L) {t:Int}:∀ (n:Nat) (k:Int),k+n=2386093→0≤k→QO o l L t k→
  ∃ K:Int,j3O t k o l L.1 L.2.1 L.2.2.1.1 L.2.2.1.2 L.2.2.2.1 L.2.2.2.2.1 L.2.2.2.2.2.1 L.2.2.2.2.2.2.1 L.2.2.2.2.2.2.2.1 L.2.2.2.2.2.2.2.2=some K∧0≤K∧QO o l L t K∧¬ QO o l L t (K+1)
 | 0,k,hn,hk,hq=>by
  obtain ⟨v,hv,_⟩:=hq
  have:=jvE ht h hk hv
  omega
 | n+1,k,hn,hk,hq=>by
  obtain ⟨v,hH,hv⟩:=recH ht h (k:=k+1) (by omega) (by omega)
  rw [jf7]
  simp only [j1F]
  rw [j02 (x:=k+1) (by omega) (by omega),show j1a (o,l) (L.1,L.2.1,(L.2.2.1.1,L.2.2.1.2),L.2.2.2.1,L.2.2.2.2.1,L.2.2.2.2.2.1,L.2.2.2.2.2.2.1,L.2.2.2.2.2.2.2.1,L.2.2.2.2.2.2.2.2) (k+1)=_ from hH]
  simp only [j3]
  cases hx:hO o l L (k+1) with
  | none=>
   simp only [Option.isSome_none,js,j5,j0d]
   exact ⟨k,rfl,hk,hq,fun ⟨y,hy,_⟩=>by rw [hx] at hy;simp at hy⟩
  | some x=>
   have:=hv x hx
   subst this
   simp only [zf,jc,j6]
   by_cases hc:v>t
   ·rw [j01 hc,j5,j0d]
    exact ⟨k,rfl,hk,hq,fun ⟨y,hy,hyt⟩=>by rw [hx] at hy;simp at hy;omega⟩
   ·rw [j00 hc,j6,j09]
    exact jwF ht h n (k+1) (by omega) (by omega) ⟨v,hx,by omega⟩
theorem jqa {o:Int} {l:TrL} {L:j0L} (h:Rt L) {t v:Int} (h0:L.2.2.2.1=0) (htt:t≤8589934592) (hf:fO o l (sLoc L 0)=some v) (hvt:v≤t) (hv0:0≤v) :
  ShO o l L t ((t-v)/(3600*L.2.2.2.2.1))∧0≤(t-v)/(3600*L.2.2.2.2.1)∧(t-v)/(3600*L.2.2.2.2.1)≤8589934592:=by
 have he0:=h.e0;have he1:=h.e1
 have q0:0≤(t-v)/(3600*L.2.2.2.2.1):=ze (by omega) (by omega)
 have q1:3600*L.2.2.2.2.1*((t-v)/(3600*L.2.2.2.2.1))≤t-v:=Int.mul_ediv_self_le (by omega)
 have q2:t-v<3600*L.2.2.2.2.1*((t-v)/(3600*L.2.2.2.2.1))+3600*L.2.2.2.2.1:=Int.lt_mul_ediv_self_add (by omega)
 have q3:(t-v)/(3600*L.2.2.2.2.1)≤t-v:=z7 _ (by omega)
 generalize (t-v)/(3600*L.2.2.2.2.1)=K at *
 refine ⟨.inr ⟨q0,⟨v+3600*L.2.2.2.2.1*K,?_,by omega⟩,?_⟩,q0,by omega⟩
 ·unfold hO
  rw [if_pos h0,hf]
  simp only [j3]
  rw [if_pos (by omega)]
 ·rintro ⟨y,hy,hyt⟩
  unfold hO at hy
  rw [if_pos h0,hf] at hy
  simp only [j3,Int.mul_add,Int.mul_one] at hy
  split at hy
  ·simp at hy;omega
  ·simp at hy
theorem jt0 {o:Int} {l:TrL} {L:j0L} (h0:L.2.2.2.1=0) {v:Int} (hv:hO o l L 0=some v):fO o l (sLoc L 0)=some v:=by
 unfold hO at hv
 rw [if_pos h0] at hv
 cases hf:fO o l (sLoc L 0) with
 | none=>rw [hf] at hv;simp at hv
 | some x=>
  rw [hf] at hv
  simp only [j3,Int.mul_zero,Int.add_zero] at hv
  split at hv
  ·simpa using hv
  ·simp at hv
theorem jxh {o:Int} {l:TrL} (ht:TOk o l) {L:j0L} (h:Rt L) {t:Int} (h0t:0≤t) (htt:t≤8589934592):∃ K:Int,j1W (o,l) L t=some K∧ShO o l L t K:=by
 have hs:=h.step
 have hd0:=h.d0;have hd1:=h.d1;have he0:=h.e0;have he1:=h.e1
 obtain ⟨v0,hH,hv⟩:=recH ht h (k:=0) (by omega) (by omega)
 have hstep:j84 (L.1,L.2.1,(L.2.2.1.1,L.2.2.1.2),L.2.2.2.1,L.2.2.2.2.1,L.2.2.2.2.2.1,L.2.2.2.2.2.2.1,L.2.2.2.2.2.2.2.1,L.2.2.2.2.2.2.2.2)=_:=jq9 h
 simp only [j1W,show j1a (o,l) (L.1,L.2.1,(L.2.2.1.1,L.2.2.1.2),L.2.2.2.1,L.2.2.2.2.1,L.2.2.2.2.2.1,L.2.2.2.2.2.2.1,L.2.2.2.2.2.2.2.1,L.2.2.2.2.2.2.2.2) 0=_ from hH,hstep,j3]
 cases hx:hO o l L 0 with
 | none=>
  simp only [Option.isSome_none,js,j5]
  exact ⟨-1,rfl,.inl ⟨rfl,fun ⟨y,hy,_⟩=>by rw [hx] at hy;simp at hy⟩⟩
 | some v=>
  have:=hv v hx
  subst this
  simp only [zf,jc,j6]
  by_cases hc:v0>t
  ·rw [j01 hc,j5]
   exact ⟨-1,rfl,.inl ⟨rfl,fun ⟨y,hy,hyt⟩=>by rw [hx] at hy;simp at hy;omega⟩⟩
  ·rw [j00 hc,j6]
   have hq:QO o l L t 0:=⟨v0,hx,by omega⟩
   have hva:=jvE ht h (k:=0) (by omega) hx
   by_cases h0:L.2.2.2.1=0
   ·obtain ⟨s1,s2,s3⟩:=jqa (o:=o) (l:=l) h h0 htt (jt0 h0 hx) (by omega) hva.1
    rw [j6W h0,j5,j02 (x:=t-v0) (by omega) (by omega),j02 (x:=3600*L.2.2.2.2.1) (by omega) (by omega),j3B (show ¬ 3600*L.2.2.2.2.1=0 by omega),kz (by omega),j02 (x:=(t-v0)/(3600*L.2.2.2.2.1)) (by omega) (by omega)]
    exact ⟨_,rfl,s1⟩
   ·obtain ⟨j,hj,j1,j2⟩:=jib ht h0t htt
    have o0:=ht.of0 j hj;have o1:=ht.of1 j hj
    rw [j3B h0,j6,jm0 ht hj j1 j2]
    simp only [j3]
    generalize hld:(t+tof o l j)/86400=ld
    rw [j3B (show ¬ j3m L=0 by omega),j02 (x:=ld-L.2.2.1.1) (by omega) (by omega)]
    simp only [js,j5]
    obtain ⟨n,hn,hn2⟩:∃ n:Nat,(if w64 (Int.tdiv (ld-L.2.2.1.1) (j3m L))>0 then w64 (Int.tdiv (ld-L.2.2.1.1) (j3m L)) else 0)=(n:Int)∧(n:Int)≤8589934592:=by
     by_cases hneg:0≤ld-L.2.2.1.1
     ·rw [kz hneg]
      have q0:0≤(ld-L.2.2.1.1)/j3m L:=ze hneg (by omega)
      have q1:(ld-L.2.2.1.1)/j3m L≤ld-L.2.2.1.1:=z7 _ hneg
      rw [j02 (by omega) (by omega)]
      refine ⟨((ld-L.2.2.1.1)/j3m L).toNat,?_,?_⟩
      ·split<;>omega
      ·omega
     ·have e:Int.tdiv (ld-L.2.2.1.1) (j3m L) = -((-(ld-L.2.2.1.1))/j3m L):=by
       rw [←kz (by omega),Int.neg_tdiv,Int.neg_neg]
      have q0:0≤(-(ld-L.2.2.1.1))/j3m L:=ze (by omega) (by omega)
      have q1:(-(ld-L.2.2.1.1))/j3m L ≤ -(ld-L.2.2.1.1):=z7 _ (by omega)
      rw [e,j02 (by omega) (by omega),if_neg (by omega)]
      exact ⟨0,rfl,by omega⟩
    rw [hn]
    obtain ⟨k,e,k0,k1⟩:=jwE ht h (Int.le_refl _) hq n hn2
    have hkb:=k1
    obtain ⟨y,hy,_⟩:=hkb
    have hkk:=jvE ht h k0 hy
    obtain ⟨K,e2,K0,K1,K2⟩:=jwF ht h (t:=t) (2386093-k).toNat k (by omega) k0 k1
    simp only [e,j3,e2]
    exact ⟨K,rfl,.inr ⟨K0,K1,K2⟩⟩
def tb (z:j1l):Int×TrL:=(z.2.1,outT z.2.1 (j6e (occs z.2.2)))
theorem ZOk.ztab {z:j1l} (h:ZOk z):ZTab z (tb z).2:=MZ.tab (o:=z.2.1) (rs:=z.2.2) h z.1
theorem ZOk.zdif {z:j1l} (h:ZOk z):Dif z.2.1 (tb z).2:=jpc _ _ _ (MZ.good h)
theorem ZOk.zref {z:j1l} (h:ZOk z):ZTab z (tb z).2∧Z4 z (tb z).2∧Dif z.2.1 (tb z).2:=⟨h.ztab,MZ.r4 (o:=z.2.1) (rs:=z.2.2) h z.1,h.zdif⟩
theorem jt1 {zs:List j1l} (h:∀ z∈zs,ZOk z) (hl:zs.length≤100):∀ (n i:Nat),i+n=zs.length→j4b zs (zs.length:Int) (i:Int) ((zs.take i).map tb)=some (zs.map tb)
 | 0,i,hi=>by
  rw [jbH]
  simp only [j1E]
  rw [j00 (by omega),j6,j0d,List.take_of_length_le (by omega)]
 | n+1,i,hi=>by
  have hlt:i<zs.length:=by omega
  have hgd:zs.getD i (ByteArray.empty,((0:Int),([]:List Rule)))=zs[i]:=by simp [hlt]
  have ht:=jx5 (h zs[i] (je hlt)).ztab
  have ih:=jt1 h hl n (i+1) (by omega)
  rw [zi,jh hlt,qq] at ih
  rw [jbH]
  simp only [j1E]
  rw [j01 (by omega),j0Y (by omega) (by omega),j02 (x:=(i:Int)+1) (by omega) (by omega)]
  simp only [j5,j7,hgd]
  rw [show jdE (zs[i].1,(zs[i].2.1,zs[i].2.2))=_ from ht]
  simp only [j3]
  rw [j01 (by simp [j07];omega),j5,j09]
  exact ih
theorem jvF {zs:List j1l} (h:∀ z∈zs,ZOk z) (hl:zs.length≤100) {ps:List j0W} {cs:List CalT} {ss:List j1P}:j9T (zs,(ps,(cs,ss)))=some ((zs,(ps,(cs,ss))),zs.map tb):=by
 have lp:=jt1 h hl zs.length 0 (by omega)
 simp only [j9T,j83,show Int.ofNat zs.length=(zs.length:Int) from rfl]
 rw [show j4b zs (zs.length:Int) 0 []=_ from lp]
 rfl
theorem juI {zs:List j1l} {i:Int} (h0:0≤i) (h1:i<(zs.length:Int)):List.getD (zs.map tb) i.toNat ((0:Int),([]:TrL))=tb (zs.getD i.toNat (ByteArray.empty,((0:Int),([]:List Rule)))):=by
 have hlt:i.toNat<zs.length:=by omega
 simp [List.getD_eq_getElem?_getD,hlt]
theorem zget {zs:List j1l} (h:∀ z∈zs,ZOk z) {i:Int} (h0:0≤i) (h1:i<(zs.length:Int)):ZOk (zs.getD i.toNat (ByteArray.empty,((0:Int),([]:List Rule)))):=by
 have hlt:i.toNat<zs.length:=by omega
 rw [List.getD_eq_getElem?_getD,jh hlt]
 exact h _ (je hlt)
theorem jug (a b:Int):jaR a b=some (decide (a<b)):=by
 simp only [jaR,j9t,j3,jb,j6]
theorem jvG {ds:List Int} (hs:ds.Pairwise (· < ·)) (hl:ds.length≤64) {x:Int}:∀ (n a b:Nat),b-a≤n→a≤b→b≤ds.length→(∀ i,(hi:i<ds.length)→i<a→ds[i]<x)→(∀ i,(hi:i<ds.length)→b≤i→x≤ds[i])→
  ∃ k:Nat,j0V ds x (ds.length:Int) (a:Int) (b:Int)=some (ds,x,(ds.length:Int),(k:Int))∧k≤ds.length∧(∀ i,(hi:i<ds.length)→i<k→ds[i]<x)∧∀ i,(hi:i<ds.length)→k≤i→x≤ds[i]
 | n,a,b,hn,hab,hb,h1,h2=>by
  rw [j7h]
  simp only [j1p]
  by_cases hlt:a<b
  ·have hm:IntKind.wrap .u64 ((a:Int)+(b:Int))=(a:Int)+(b:Int):=IntWalk.u64_in _ ⟨by omega,by omega⟩
   have hd:Int.fdiv ((a:Int)+(b:Int)) 2=(((a+b)/2:Nat):Int):=by
    rw [Int.fdiv_eq_ediv_of_nonneg _ (by omega)];omega
   have hml:(a+b)/2<ds.length:=by omega
   have hgd:ds.getD ((a+b)/2) (0:Int)=ds[(a+b)/2]:=by simp [hml]
   rw [j01 (show (a:Int)<(b:Int) by omega),j02 (x:=(a:Int)+(b:Int)) (by omega) (by omega),hm,hd,j02 (x:=(((a+b)/2:Nat):Int)) (by omega) (by omega),j0Y (by omega) (by omega),j02 (x:=(((a+b)/2:Nat):Int)+1) (by omega) (by omega)]
   simp only [j5,j7,hgd,jug,j3]
   cases n with
   | zero=>omega
   | succ n=>
    by_cases hc:ds[(a+b)/2]<x
    ·rw [j01 hc,j5,j09]
     refine jvG hs hl n ((a+b)/2+1) b (by omega) (by omega) hb (fun i hi hia=> ?_) h2
     by_cases he:i=(a+b)/2
     ·subst he;exact hc
     ·exact Int.lt_trans (qm.1 hs i ((a+b)/2) hi hml (by omega)) hc
    ·rw [j00 hc,j6,j09]
     refine jvG hs hl n a ((a+b)/2) (by omega) (by omega) (by omega) h1 (fun i hi hia=> ?_)
     by_cases he:i=(a+b)/2
     ·subst he;exact Int.not_lt.1 hc
     ·exact Int.le_trans (Int.not_lt.1 hc) (Int.le_of_lt (qm.1 hs ((a+b)/2) i hml hi (by omega)))
  ·have:a=b:=by omega
   subst this
   rw [j00 (by omega),j6,j0d]
   exact ⟨a,rfl,hb,h1,h2⟩
theorem jxi {ds:List Int} (hs:ds.Pairwise (· < ·)) (hl:ds.length≤64) (x:Int):∃ i,j0C ds x=some (i,decide (x∈ds)):=by
 obtain ⟨k,e,hk,h1,h2⟩:=jvG hs hl (x:=x) ds.length 0 ds.length (by omega) (by omega) (jv _) (fun i _ h=>by omega) (fun i hi h=>by omega)
 rw [show ((0:Nat):Int)=0 from rfl] at e
 simp only [j0C,show Int.ofNat ds.length=(ds.length:Int) from rfl,e,j3,j7]
 by_cases hkl:k<ds.length
 ·have hgd:ds.getD k (0:Int)=ds[k]:=by simp [hkl]
  rw [j0Y (by omega) (by omega),j01 (show (k:Int)<(ds.length:Int) by omega),hgd]
  simp only [qw,j5]
  by_cases hx:ds[k]=x
  ·rw [j6W hx]
   rw [j01 (show x∈ds from hx▸je hkl)]
   exact ⟨_,rfl⟩
  ·rw [j3B hx]
   have hn:¬ x∈ds:=by
    intro hm
    obtain ⟨i,hi,rfl⟩:=List.getElem_of_mem hm
    rcases zh i k with h | h | h
    ·have:=h1 i hi h;omega
    ·subst h;exact hx rfl
    ·have a1:=h2 k hkl (jv _)
     have a2:=qm.1 hs k i hkl hi h
     omega
   rw [j00 hn]
   simp only [j6,j6N,j3,jb]
   exact ⟨_,rfl⟩
 ·have hn:¬ x∈ds:=by
   intro hm
   obtain ⟨i,hi,rfl⟩:=List.getElem_of_mem hm
   have:=h1 i hi (by omega)
   omega
  rw [j00 hn,j00 (show ¬ (k:Int)<(ds.length:Int) by omega)]
  simp only [js,Bool.or_true,j5,j6,Bool.false_and]
  exact ⟨_,rfl⟩
def okW (w:WL) (s:Int):Bool:=cond (decide ((w.length:Int)>0)) (hasB s w) true
section
variable {zs:List j1l} {ps:List j0W} {cs:List CalT} {ss:List j1P} (hz:∀ z∈zs,ZOk z)
include hz
theorem jwG {L:j0L} (hL:LCk zs.length ps.length cs.length L) (hRt:Rt L) {t:Int} (h0:0≤t) (h1:t≤8589934592) {z:j1l} (hzz:zs.getD L.2.1.toNat (ByteArray.empty,((0:Int),([]:List Rule)))=z)
  {s:Int} {d:Int×Int} (hd:j0u (tb z) t=some d) (hs:j3f d=some s) {K:Int} (hK:j1W (tb z) L t=some K) (b:Bool)
  (hcal:L.2.2.2.2.2.2.2.2=0→b=true) (hcal2:L.2.2.2.2.2.2.2.2≠0→∃ x:CalT,cs.getD L.2.2.2.2.2.2.2.1.toNat (ByteArray.empty,((0:Int),([]:List Int)))=x∧CCk zs.length x∧∃ d',j0u (tb (zs.getD x.2.1.toNat (ByteArray.empty,((0:Int),([]:List Rule))))) t=some d'∧b=(decide (d'.1∈x.2.2)==(L.2.2.2.2.2.2.2.2==(2:Int)))) :
  ∃ r,j3o ((zs,(ps,(cs,ss))),zs.map tb) L t=some (r,cond (decide (0≤K)) (cond (okW L.2.2.2.2.2.2.1 s) b false) false)∧(cond (decide (0≤K)) (cond (okW L.2.2.2.2.2.2.1 s) b false) false=true→r=K):=by
 have _:=hz;have _:=hRt
 have hwl:=hL.wl
 have hlen:(zs.map tb).length=zs.length:=qo ..
 have hg:=juI (zs:=zs) hL.z0 hL.z1
 rw [hzz] at hg
 simp only [j3o]
 rw [j00 (show ¬ t<0 by omega),j00 (show ¬ t>8589934592 by omega),j0Y hL.z0 (by rw [hlen];exact hL.z1)]
 simp only [j6,j5,hg]
 rw [show j1W ((tb z).1,(tb z).2) (L.1,L.2.1,(L.2.2.1.1,L.2.2.1.2),L.2.2.2.1,L.2.2.2.2.1,L.2.2.2.2.2.1,L.2.2.2.2.2.2.1,L.2.2.2.2.2.2.2.1,L.2.2.2.2.2.2.2.2) t=_ from hK]
 simp only [j3]
 by_cases hk:0≤K
 ·rw [j00 (show ¬ K<0 by omega),j01 hk]
  simp only [j6,j5,show Int.ofNat L.2.2.2.2.2.2.1.length=(L.2.2.2.2.2.2.1.length:Int) from rfl]
  have tail:∃ r,(cond (L.2.2.2.2.2.2.2.2==(0:Int)) (some (K,true)) (cond (inR L.2.2.2.2.2.2.2.1 cs.length) (cond (inR (cs.getD L.2.2.2.2.2.2.2.1.toNat (ByteArray.empty,((0:Int),([]:List Int)))).2.1 (zs.map tb).length) ((j0u ((List.getD (zs.map tb) (cs.getD L.2.2.2.2.2.2.2.1.toNat (ByteArray.empty,((0:Int),([]:List Int)))).2.1.toNat ((0:Int),([]:TrL))).1,(List.getD (zs.map tb) (cs.getD L.2.2.2.2.2.2.2.1.toNat (ByteArray.empty,((0:Int),([]:List Int)))).2.1.toNat ((0:Int),([]:TrL))).2) t).bind fun r68=>
    (j0C (cs.getD L.2.2.2.2.2.2.2.1.toNat (ByteArray.empty,((0:Int),([]:List Int)))).2.2 r68.1).bind fun r70=>some (K,(r70.2==(L.2.2.2.2.2.2.2.2==(2:Int))))) none) none))=some (r,b)∧(b=true→r=K):=by
   by_cases hm:L.2.2.2.2.2.2.2.2=0
   ·rw [j6W hm,j5,hcal hm]
    exact ⟨K,rfl,fun _=>rfl⟩
   ·obtain ⟨x,hx,hxc,d',hd',hb⟩:=hcal2 hm
    have hc:=hL.cal hm
    obtain ⟨i,hi⟩:=jxi hxc.asc hxc.len d'.1
    have hg2:=juI (zs:=zs) hxc.z0 hxc.z1
    rw [j3B hm,j6,j0Y hc.1 hc.2,hx,j0Y hxc.z0 (by rw [hlen];exact hxc.z1)]
    simp only [j5,hg2]
    rw [show j0u ((tb (zs.getD x.2.1.toNat (ByteArray.empty,((0:Int),([]:List Rule))))).1,(tb (zs.getD x.2.1.toNat (ByteArray.empty,((0:Int),([]:List Rule))))).2) t=_ from hd']
    simp only [j3,hi]
    rw [←hb]
    exact ⟨K,rfl,fun _=>rfl⟩
  by_cases hw:(L.2.2.2.2.2.2.1.length:Int)>0
  ·rw [j01 hw,j5,show j0u ((tb z).1,(tb z).2) t=_ from hd]
   simp only [j3,show j3f (d.1,d.2)=_ from hs,jwk hwl,okW]
   rw [j01 hw,j5]
   cases hh:hasB s L.2.2.2.2.2.2.1 with
   | true=>
    simp only [jc,j6,j5]
    exact tail
   | false=>exact ⟨0,rfl,fun h=>by simp at h⟩
  ·simp only [okW]
   rw [j00 hw]
   simp only [j6,j5]
   exact tail
 ·rw [j01 (show K<0 by omega),j00 hk]
  exact ⟨0,rfl,fun h=>by simp at h⟩
def whoL (L:j0L) (K:Int):Int:=L.2.2.2.2.2.1.getD (Int.tmod K (L.2.2.2.2.2.1.length:Int)).toNat 0
omit hz in
theorem juh {v:CfgT×List (Int×TrL)} {L:j0L} {t r K:Int} {b:Bool} (hm:L.2.2.2.2.2.1.length≠0) (e:j3o v L t=some (r,b)) (hr:b=true→r=K) (hK:b=true→0≤K) :
  j1t v L t=some (cond b (whoL L K) (-1)):=by
 simp only [j1t,show j3o ((v.1.1,v.1.2.1,v.1.2.2.1,v.1.2.2.2),v.2) (L.1,L.2.1,(L.2.2.1.1,L.2.2.1.2),L.2.2.2.1,L.2.2.2.2.1,L.2.2.2.2.2.1,L.2.2.2.2.2.2.1,L.2.2.2.2.2.2.2.1,L.2.2.2.2.2.2.2.2) t=_ from e,j3]
 cases b with
 | false=>rfl
 | true=>
  have:=hr rfl
  subst this
  have hk:=hK rfl
  have q1:0≤Int.tmod r (L.2.2.2.2.2.1.length:Int):=Int.tmod_nonneg _ hk
  have q2:Int.tmod r (L.2.2.2.2.2.1.length:Int)<(L.2.2.2.2.2.1.length:Int):=Int.tmod_lt_of_pos _ (by omega)
  simp only [jc,j6,j5,show Int.ofNat L.2.2.2.2.2.1.length=(L.2.2.2.2.2.1.length:Int) from rfl,whoL]
  rw [j3B (show ¬ (L.2.2.2.2.2.1.length:Int)=0 by omega),j0Y q1 q2]
  rfl
end
theorem LCk.rt {nz np nc:Nat} {L:j0L} (h:LCk nz np nc L) (hd:L.2.2.1.1≤100000):Rt L:=
 ⟨h.d0,hd,h.c0,h.c1,h.u0,h.u1,h.e0,h.e1,fun hn=>h.m0 (by rw [hn];rfl)⟩
theorem jwH {z:j1l} (hz:ZOk z) {t:Int} (h0:0≤t) (h1:t≤8589934592):∃ d s,j0u (tb z) t=some d∧j3f d=some s:=by
 have ht:=hz.ztab
 obtain ⟨j,hj,j1,j2⟩:=jib ht.2 h0 h1
 have o0:=ht.2.of0 j hj;have o1:=ht.2.of1 j hj
 obtain ⟨s,hs⟩:∃ s,j3f ((t+tof z.2.1 (tb z).2 j)/86400,(t+tof z.2.1 (tb z).2 j)%86400)=some s:=by
  simp only [j3f,jkK,j3]
  exact ⟨_,rfl⟩
 exact ⟨_,s,jm0 ht.2 hj j1 j2,hs⟩
abbrev SL:=List (Int×Int)
def StS (p:Int):SL→Prop
 | []=>True
 | x::r=>p<x.1∧x.1<x.2∧StS x.2 r
section
variable {o:Int} {l:TrL} (h:TOk o l)
include h
end
theorem StS.weak {p q:Int} (hq:q≤p):∀ {l:SL},StS p l→StS q l
 | [],_=>trivial
 | _::_,h=>⟨by have:=h.1;omega,h.2⟩
theorem StS.mem {p:Int}:∀ {l:SL},StS p l→∀ s∈l,p<s.1∧s.1<s.2
 | [],_,s,hs=>by simp at hs
 | u::r,h,s,hs=>by
  rcases jg.1 hs with rfl | hs
  ·exact ⟨h.1,h.2.1⟩
  ·have:=StS.mem h.2.2 s hs;have:=h.1;have:=h.2.1;omega
section
variable {B:SL} (hB:B.length≤10000000)
include hB
end
set_option linter.unusedSectionVars false
section
variable {l:SL} {p:Int} (h:StS p l) (hp : -1≤p) (hl:l.length≤4096) (hb:∀ u∈l,u.2≤8589934592)
include h hp hl hb
end
theorem jjF:j4a 2241=some 98981:=by kernel_rfl
theorem jjG:j4a 1970=some 0:=by kernel_rfl
theorem jwI {d:Int} (h:j0P d=some true):d≤100000:=by
 apply q9
 intro hd
 simp only [j0P,j4K,jjG,jjF,j3] at h
 rw [j00 (show ¬ d<0 by omega),j01 (show d≥98981 by omega)] at h
 simp at h
theorem LCk.rt2 {nz np nc:Nat} {L:j0L} (h:LCk nz np nc L):Rt L:=h.rt (jwI h.day)
section
variable {zs:List j1l} {ps:List j0W} {cs:List CalT} (hs:SOk2 zs ps cs)
include hs
theorem cget {i:Int} (h0:0≤i) (h1:i<(cs.length:Int)):CCk zs.length (cs.getD i.toNat (ByteArray.empty,((0:Int),([]:List Int)))):=by
 have hi:i.toNat<cs.length:=by omega
 rw [show cs.getD i.toNat (ByteArray.empty,((0:Int),([]:List Int)))=cs[i.toNat] by simp [List.getD,hi]]
 exact hs.c.ck _ (je hi)
end
def jaH (es:List j3l) (p t:Int):Bool:=es.any fun x=>x.1==0&&(x.2.1==p&&(decide (x.2.2.2.1≤t)&&decide (t<x.2.2.2.2)))
theorem jwJ {es:List j3l} {p t:Int} (hl:es.length≤1000):∀ (n i:Nat),i+n=es.length→∃ r,j0s es p t (es.length:Int) (i:Int)=some r∧
  match r with
  | .inl k=>0≤k∧jaH (es.drop i) p t=true
  | .inr _=>jaH (es.drop i) p t=false
 | 0,i,hi=>by
  rw [j2K]
  simp only [j0G]
  rw [j00 (by omega),j6,j0d,jf (by omega)]
  exact ⟨_,rfl,rfl⟩
 | n+1,i,hi=>by
  have hlt:i<es.length:=by omega
  have hgd:es.getD i ((0:Int),((0:Int),((0:Int),((0:Int),(0:Int)))))=es[i]:=by simp [List.getD,hlt]
  rw [j2K]
  simp only [j0G,jch]
  rw [j01 (by omega),j0Y (by omega) (by omega),j02 (x:=(i:Int)+1) (by omega) (by omega)]
  simp only [j5,j7,hgd,j3]
  rw [jn hlt]
  have e:(cond (cond (cond (es[i].1==(0:Int)) (es[i].2.1==p) false) (decide (es[i].2.2.2.1≤t)) false) (decide (t<es[i].2.2.2.2)) false)=(es[i].1==0&&(es[i].2.1==p&&(decide (es[i].2.2.2.1≤t)&&decide (t<es[i].2.2.2.2)))):=by
   cases es[i].1==(0:Int)<;>cases es[i].2.1==p<;>cases decide (es[i].2.2.2.1≤t)<;>rfl
  rw [e]
  have ha:jaH (es[i]::es.drop (i+1)) p t=((es[i].1==0&&(es[i].2.1==p&&(decide (es[i].2.2.2.1≤t)&&decide (t<es[i].2.2.2.2))))||jaH (es.drop (i+1)) p t):=rfl
  rw [ha]
  cases hx:(es[i].1==0&&(es[i].2.1==p&&(decide (es[i].2.2.2.1≤t)&&decide (t<es[i].2.2.2.2)))) with
  | true=>
   rw [j5,j0d]
   exact ⟨_,rfl,by omega,rfl⟩
  | false=>
   rw [j6,j09]
   obtain ⟨r,e1,e2⟩:=jwJ (es:=es) (p:=p) (t:=t) hl n (i+1) (by omega)
   exact ⟨r,e1,by simpa using e2⟩
theorem jvH {nm:ByteArray} {ls:List j0L} {es:List j3l} {p t:Int} (hl:es.length≤1000):j87 (nm,(ls,es)) p t=some (jaH es p t):=by
 obtain ⟨r,e1,e2⟩:=jwJ (p:=p) (t:=t) hl es.length 0 (by omega)
 simp only [j87,j0D,j0J,show Int.ofNat es.length=(es.length:Int) from rfl]
 rw [show j0s es p t (es.length:Int) 0=_ from e1]
 cases r with
 | inl k=>
  simp only [kr] at e2
  simp only [j3,jpV,e2.2]
  rw [j01 (show k≥0 from e2.1)]
 | inr u=>
  simp only [kr] at e2
  simp only [j3,j4Q,e2]
  rfl
def topI (good:Nat→Bool):Nat→Option Nat
 | 0=>none
 | n+1=>cond (good n) (some n) (topI good n)
def jeD (es:List j3l) (t:Int) (Pf:Nat→Int) (i:Nat):Bool:=decide (0≤Pf i) && !jaH es (Pf i) t
theorem juJ {ls:List j0L} {zs:List j1l} {ps:List j0W} {cs:List CalT} {ss:List j1P} {tbs:List (Int×TrL)} {nm:ByteArray} {es:List j3l} {t b6 b7:Int} {Pf:Nat→Int} (hl:es.length≤1000)
  (hP:∀ i (h:i<ls.length),j1t ((zs,(ps,(cs,ss))),tbs) ls[i] t=some (Pf i)):∀ n:Nat,n≤ls.length→
  j38 (n:Int) ls zs ps cs ss tbs nm ls es t b6 b7=some (match topI (jeD es t Pf) n with | some i=> .inr ((i:Int),Pf i) | none=> .inl (b6,b7))
 | 0,hn=>by
  rw [j9V]
  simp only [j1k]
  rw [j01 (by omega),j5,j0d]
  rfl
 | n+1,hn=>by
  have hlt:n<ls.length:=by omega
  have hgd:ls.getD n (ByteArray.empty,((0:Int),(((0:Int),(0:Int)),((0:Int),((0:Int),(([]:List Int),(([]:List (Int×Int)),((0:Int),(0:Int)))))))))=ls[n]:=by simp [List.getD,hlt]
  have ih:=juJ (nm:=nm) (b6:=b6) (b7:=b7) hl hP n (by omega)
  have hp:=hP n hlt
  rw [j9V]
  simp only [j1k]
  rw [j00 (by omega),j01 (show ((n+1:Nat):Int)≤Int.ofNat ls.length by simp;omega),show ((n+1:Nat):Int)-1=(n:Int) by omega]
  simp only [j5,j6,j7,hgd]
  rw [show j1t ((zs,(ps,(cs,ss))),tbs) (ls[n].1,(ls[n].2.1,((ls[n].2.2.1.1,ls[n].2.2.1.2),(ls[n].2.2.2.1,(ls[n].2.2.2.2.1,(ls[n].2.2.2.2.2.1,(ls[n].2.2.2.2.2.2.1,(ls[n].2.2.2.2.2.2.2.1,ls[n].2.2.2.2.2.2.2.2)))))))) t=_ from hp]
  simp only [j3,topI,jeD]
  by_cases h0:0≤Pf n
  ·rw [j00 (show ¬ Pf n<0 by omega),j01 h0]
   simp only [j6,jvH hl,j3,Bool.true_and]
   cases jaH es (Pf n) t with
   | true=>
    simp only [jc,j6,j09]
    exact ih
   | false=>rfl
  ·rw [j01 (show Pf n<0 by omega),j00 h0]
   simp only [j5,Bool.false_and,j6,j09]
   exact ih
theorem jr8 {ls:List j0L} {zs:List j1l} {ps:List j0W} {cs:List CalT} {ss:List j1P} {tbs:List (Int×TrL)} {nm:ByteArray} {es:List j3l} {t:Int} {Pf:Nat→Int} (hl:es.length≤1000)
  (hP:∀ i (h:i<ls.length),j1t ((zs,(ps,(cs,ss))),tbs) ls[i] t=some (Pf i)) :
  j3g ((zs,(ps,(cs,ss))),tbs) (nm,(ls,es)) t=some (match topI (jeD es t Pf) ls.length with | some i=>((i:Int),Pf i) | none=>((-1:Int),(-1:Int))):=by
 have lp:=juJ (nm:=nm) (b6:=0) (b7:=0) hl hP ls.length (jv _)
 simp only [j3g,j21,j3]
 rw [show j38 (Int.ofNat ls.length) ls zs ps cs ss tbs nm ls es t 0 0=_ from lp]
 cases topI (jeD es t Pf) ls.length with
 | none=>rfl
 | some i=>rfl
section
variable {zs:List j1l} {ps:List j0W} {cs:List CalT} {ss:List j1P}
theorem jwK (hz:∀ z∈zs,ZOk z) (hc:jbk (zs,(ps,(cs,ss)))):jf6 (zs,(ps,(cs,ss)))=some (((zs,(ps,(cs,ss))),zs.map tb),true):=by
 have hzl:zs.length≤16:=hc.zl
 simp only [jf6,show j2L (zs,(ps,(cs,ss)))=_ from jpg hc,j3,jb,j6,jvF (ps:=ps) (cs:=cs) (ss:=ss) hz (show zs.length≤100 by omega)]
def topP (es:List j3l) (t:Int) (Pf:Nat→Int) (n:Nat):Int:=match topI (jeD es t Pf) n with
 | some i=>Pf i
 | none=> -1
end
end Go.Proofs.Pw
