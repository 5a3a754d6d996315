/- Chapter 10: handovers of any layer that is right. -/
import Derived.Test.YtllkgjaoejhneaaGreatDEPD
import Derived.Test.YtllkgjaoejhneaaGreatDEPA
import Derived.Test.YtllkgjaoejhneaaGreatDEPC
import Derived.KernelRfl
open _root_ renaming Int->p,List->A,Nat->B,Option->Z
open ByteArray renaming empty->q
open Option renaming some->u
open Int renaming mul_nonneg->D,mul_le_mul->E,lt_or_le->H,mul_comm->I,ofNat->M,mul_assoc->R,tdiv->S,tmod->U,mul_add->W,mul_one->X
open List renaming getD_eq_getElem?_getD->F,getD->J
open Decidable renaming decide->G
open Bool renaming true->O,false->Y
open Go Go.Lft
namespace Go.Proofs.Pw
structure Rt (L:j0j):Prop where
 d0:1≤L.2.2.1.1
 d1:L.2.2.1.1≤100000
 c0:0≤L.2.2.1.2
 c1:L.2.2.1.2≤86399
 u0:0≤L.2.2.2.1
 u1:L.2.2.2.1≤2
 e0:1≤L.2.2.2.2.1
 e1:L.2.2.2.2.1≤400
 m0:L.2.2.2.2.2.1≠[]
theorem Rt.step {L:j0j} (h:Rt L):1≤j2N L∧j2N L≤2800:=by
 have:=h.e0;have:=h.e1
 unfold j2N;split<;>omega
noncomputable def hO (o:p) (l:TrL) (L:j0j) (k:p):Z Int:=
 if L.2.2.2.1=0 then (fO o l (sLoc L 0)).bind fun t=>if t+3600*L.2.2.2.2.1*k≤8589934592 then u (t+3600*L.2.2.2.2.1*k) else none
 else fO o l (sLoc L k)
section
variable {o:p} {l:TrL} (ht:TOk o l) {L:j0j} (h:Rt L)
include ht h
theorem jqH {k t:p} (hk:0≤k) (he:hO o l L k=u t):0≤t∧t≤8589934592∧k≤2386092:=by
 have hs:=h.step
 have hd0:=h.d0;have he0:=h.e0;have hc0:=h.c0
 unfold hO at he
 by_cases h0:L.2.2.2.1=0
 ·rw [if_pos h0] at he
  cases hf:fO o l (sLoc L 0) with
  | none=>rw [hf] at he;simp at he
  | some v=>
   rw [hf] at he
   simp only [ja] at he
   have hv:=jsN ht hf
   have hm:3600*k≤3600*L.2.2.2.2.1*k:=Int.mul_le_mul_of_nonneg_right omg_ hk
   split at he
   ·simp at he;omega
   ·simp at he
 ·rw [if_neg h0] at he
  have hv:=jsN ht he
  have hm:k*1≤k*j2N L:=Int.mul_le_mul_of_nonneg_left hs.1 hk
  unfold sLoc at hv
  omega
theorem jwo {k t:p} (he:hO o l L (k+1)=u t):∃ v,hO o l L k=u v∧v≤t:=by
 have hs:=h.step
 have he0:=h.e0
 unfold hO at he ⊢
 by_cases h0:L.2.2.2.1=0
 ·rw [if_pos h0] at he ⊢
  cases hf:fO o l (sLoc L 0) with
  | none=>rw [hf] at he;simp at he
  | some v=>
   rw [hf] at he
   simp only [ja] at he ⊢
   have hm:3600*L.2.2.2.2.1*(k+1)=3600*L.2.2.2.2.1*k+3600*L.2.2.2.2.1:=by rw [W,X]
   split at he
   ·rw [if_pos omg_]
    simp at he
    exact ⟨_,rfl,omg_⟩
   ·simp at he
 ·rw [if_neg h0] at he ⊢
  have hm:(k+1)*j2N L=k*j2N L+j2N L:=by rw [Int.add_mul,Int.one_mul]
  exact jyk ht (by unfold sLoc;rw [hm];omega) he
def QO (o:p) (l:TrL) (L:j0j) (t k:p):Prop:=∃ v,hO o l L k=u v∧v≤t
theorem QO.down {t:p}:∀ (n:B) {k:p},QO o l L t (k+n)→QO o l L t k
 | 0,k,hq=>by rwa [show k+((0:B):p)=k by omega] at hq
 | n+1,k,hq=>by
  rw [show k+((n+1:B):p)=k+(n:p)+1 by omega] at hq
  obtain ⟨v,hv,hvt⟩:=hq
  obtain ⟨v',hv',hl⟩:=jwo ht h (k:=k+(n:p)) hv
  exact QO.down n ⟨v',hv',omg_⟩
theorem QO.le {t k j:p} (hkj:k≤j) (hq:QO o l L t j):QO o l L t k:=by
 refine QO.down ht h (j-k).toNat ?_
 rwa [show k+(((j-k).toNat:B):p)=j by omega]
def ShO (o:p) (l:TrL) (L:j0j) (t K:p):Prop:=(K = -1∧¬ QO o l L t 0)∨(0≤K∧QO o l L t K∧¬ QO o l L t (K+1))
theorem ShO.uniq {t K K':p} (a:ShO o l L t K) (b:ShO o l L t K'):K=K':=by
 rcases a with ⟨a1,a2⟩ | ⟨a1,a2,a3⟩<;>rcases b with ⟨b1,b2⟩ | ⟨b1,b2,b3⟩
 ·omega
 ·exact absurd (QO.le ht h b1 b2) a2
 ·exact absurd (QO.le ht h a1 a2) b2
 ·rcases Int.lt_trichotomy K K' with hlt | heq | hgt
  ·exact absurd (QO.le ht h omg_ b2) a3
  ·exact heq
  ·exact absurd (QO.le ht h omg_ a2) b3
theorem QO.day {t k:p} (h0:L.2.2.2.1≠0) (hq:QO o l L t k) {j:B} (hj:j≤l.length):L.2.2.1.1+k*j2N L≤(t+tof o l j)/86400+2:=by
 obtain ⟨v,hv,hvt⟩:=hq
 unfold hO at hv
 rw [if_neg h0] at hv
 have:=jsN ht hv
 have o0:=ht.of0 j hj
 have hc0:=h.c0
 unfold sLoc at this
 omega
end
theorem juV (day y:p) (hy1:cnt y≤day) (hy2:day<cnt (y+1)) (h3:y≤1000000):∀ (n:B) (k:p),k+n=y → -1000000≤k→j9S day k=u y
 | 0,k,hn,hk=>by
  rw [jdX]
  have:k=y:=omg_
  subst this
  simp only [j4b,j07 (x:=k+1),jbO (k+1) omg_ omg_,ja,j01 (show ¬ cnt (k+1)≤day by omega),jd,j08]
 | n+1,k,hn,hk=>by
  rw [jdX]
  have:=jaa (a:=k+1) (b:=y) omg_
  simp only [j4b,j07 (x:=k+1),jbO (k+1) omg_ omg_,ja,j00 (show cnt (k+1)≤day by omega),jc,j06]
  have ih:=juV day y hy1 hy2 h3 n (k+1) omg_ omg_
  exact ih
theorem jyl (day y:p) (h1 : -365≤day) (h2:day≤1000000) (hy1:cnt y≤day) (hy2:day<cnt (y+1)):jf3 day=u y:=by
 have hq:1970+day/366≤y ∧ -1000000≤day/366∧y≤1000000:=by
  refine ⟨?_,omg_,?_⟩
  ·rcases H y (1970+day/366) with h | h
   ·have h':=jaa (a:=y+1) (b:=1970+day/366) omg_
    exfalso
    have:cnt (1970+day/366)≤day:=by unfold cnt;omega
    omega
   ·exact h
  ·rcases H 1000000 y with h | h
   ·have:=jaa (a:=1000000) (b:=y) omg_
    have h4:364000000≤cnt 1000000:=by decide
    omega
   ·exact h
 simp only [jf3,jj8 day 366 omg_ omg_ omg_,ja]
 rw [j07,juV day y hy1 hy2 hq.2.2 (y-(1970+day/366)).toNat _ omg_ omg_]
 rfl
theorem jym (d:B):∃ y,1970≤y∧cnt y≤d∧(d:p)<cnt (y+1):=by
 induction d with
 | zero=>exact ⟨1970,omg_,by decide,by decide⟩
 | succ d ih=>
  obtain ⟨y,h1,h2,h3⟩:=ih
  by_cases h:((d+1:B):p)<cnt (y+1)
  ·exact ⟨y,h1,omg_,h⟩
  ·have:=jzg (a:=y+1) (b:=y+1+1) omg_
   exact ⟨y+1,omg_,omg_,omg_⟩
theorem jkC (y r:p) (h0:0≤r):∀ k:B,k≤12→r<cum y (k+1)→∃ m:p,1≤m∧m≤k∧cum y m≤r∧r<cum y m+dim y m
 | 0,_,h=>by have:cum y ((0:B)+1)=0:=rfl;omega
 | k+1,hk,h=>by
  by_cases h':r<cum y (k+1)
  ·obtain ⟨m,h1,h2,h3⟩:=jkC y r h0 k omg_ h'
   exact ⟨m,h1,omg_,h3⟩
  ·have:=jdO y (k+1) omg_ omg_
   rw [show ((k+1:B):p)=(k:p)+1 from rfl] at h
   exact ⟨k+1,omg_,omg_,omg_,omg_⟩
theorem jAe (y:p):cum y 13=365+ja9 y:=by unfold cum;omega
theorem jwp (y r:p) (h0:0≤r) (h:r<365+ja9 y):∃ m,1≤m∧m≤12∧cum y m≤r∧r<cum y m+dim y m:=
 jkC y r h0 12 (jz _) (by rw [show ((12:B):p)+1=13 from rfl,jAe];exact h)
theorem jyn (day:p) (h0:0≤day) (h1:day<98981):∃ y m d,jiS y m d∧num y m d=day∧cnt y≤day∧day<cnt (y+1)∧1≤m∧m≤12:=by
 obtain ⟨y,hy1,hy2,hy3⟩:=jym day.toNat
 rw [Int.toNat_of_nonneg h0] at hy2 hy3
 have hs:=jnh y
 obtain ⟨m,hm1,hm2,hm3,hm4⟩:=jwp y (day-cnt y) omg_ omg_
 refine ⟨y,m,day-cnt y-cum y m+1,⟨hy1,?_,omg_,omg_⟩,by unfold num;omega,hy2,hy3,hm1,hm2⟩
 rcases H 2240 y with h | h
 ·have:=jaa (a:=2241) (b:=y) omg_
  have:=jqB;omega
 ·exact h
theorem jzm {y m d:p} (h:jiS y m d):cnt y≤num y m d∧num y m d<cnt (y+1)∧cum y m≤num y m d-cnt y∧num y m d-cnt y<cum y m+dim y m∧num y m d-cnt y-cum y m+1=d:=by
 have hm:=jb2 h
 obtain ⟨h1,h2,h3,h4⟩:=h
 have hc:=jb1 y m
 have:=jdO y m hm.1 hm.2
 have hs:=jnh y
 have:cum y (m+1)≤365+ja9 y:=by have:=jhs y;unfold cum;omega
 unfold num;omega
theorem jpa (y m r x1 x2 x3 x7:p) (hm2:m≤12) (hr0:0≤r) (hr:r<dim y m):∀ (n:B) (k:p),1≤k→k+n=m→
  j7H (r+cum y m-cum y k) x1 x2 x3 y k x7=u (r,x1,x2,x3,y,m,x7)
 | 0,k,hk,hn=>by
  have:k=m:=omg_
  subst this
  rw [jbn]
  simp only [j3p,jkw,ja]
  rw [j01 (show ¬ (r+cum y k-cum y k≥dim y k) by omega)]
  simp only [jd,j08]
  rw [show r+cum y k-cum y k=r by omega]
 | n+1,k,hk,hn=>by
  rw [jbn]
  have hs:=jdO y k hk omg_
  have hmono:cum y (k+1)≤cum y m:=by
   have:∀ (j:B),k+1+j≤12→cum y (k+1)≤cum y (k+1+j):=by
    intro j
    induction j with
    | zero=>intro _;simp
    | succ j ih=>
     intro hj
     have h1:=ih omg_
     have h2:=jdO y (k+1+j) omg_ omg_
     have h3:=j3y y (k+1+j)
     rw [show k+1+((j+1:B):p)=k+1+j+1 by omega]
     omega
   have:=this n omg_
   rwa [show k+1+(n:p)=m by omega] at this
  have c1:=jb1 y k
  have c2:=jb1 y m
  have c3:=j3y y k
  have c4:=j3y y m
  simp only [j3p,jkw,ja]
  rw [j00 (show r+cum y m-cum y k≥dim y k by omega)]
  simp only [jc,j06]
  rw [j07 (x:=r+cum y m-cum y k-dim y k),j07 (x:=k+1),show r+cum y m-cum y k-dim y k=r+cum y m-cum y (k+1) by omega]
  exact jpa y m r x1 x2 x3 x7 hm2 hr0 hr n (k+1) omg_ omg_
theorem juW {y m d:p} (h:jiS y m d):j4Z (num y m d)=u ((y,m,d),0):=by
 have hm:=jb2 h
 have hr:=jb3 h
 obtain ⟨i1,i2,i3,i4,i5⟩:=jzm h
 have hd:=j3y y m
 have hc:=jb1 y m
 simp only [j4Z,jbO 1970 omg_ omg_,jbO 2241 omg_ omg_,ja,juI,jqB]
 rw [j01 (show ¬ num y m d<0 by omega),jd,j01 (show ¬ num y m d≥98981 by omega),jd,jyl (num y m d) y omg_ omg_ i1 i2]
 simp only [ja,jbO y (by have:=h.1;omega) (by have:=h.2.1;omega)]
 have hl:=jpa y m (num y m d-cnt y-cum y m) 0 0 0 0 hm.2 omg_ omg_ (m-1).toNat 1 omg_ omg_
 rw [show num y m d-cnt y-cum y m+cum y m-cum y 1=num y m d-cnt y by (have:cum y 1=0:=rfl);omega] at hl
 rw [j07 (x:=num y m d-cnt y),hl]
 simp only [ja]
 rw [i5,j5C (by have:=h.2.2;omega) (by have:=h.2.2;omega)]
theorem juX (day:p) (h:day<0∨98981≤day):j4Z day=u ((0,0,0),1):=by
 simp only [j4Z,jbO 1970 omg_ omg_,jbO 2241 omg_ omg_,ja,juI,jqB]
 rcases h with h | h
 ·rw [j00 h];rfl
 ·rw [j01 (show ¬ day<0 by omega),jd,j00 (show day≥98981 by omega)];rfl
theorem jeS (n:p):j1g n=u (G (0≤n)&&G (n≤98980)):=by
 by_cases h:0≤n∧n≤98980
 ·obtain ⟨y,m,d,hv,hn,_⟩:=jyn n h.1 omg_
  have:=juW hv
  rw [hn] at this
  simp only [j1g,this,ja]
  rw [j00 h.1,j00 h.2];rfl
 ·simp only [j1g,juX n omg_,ja]
  by_cases h0:0≤n
  ·rw [j00 h0,j01 (fun h1=>h ⟨h0,h1⟩)];rfl
  ·rw [j01 h0];rfl
structure LC0 (nz np nc:B) (l:j0j):Prop where
 z0:0≤l.2.1
 z1:l.2.1<nz
 d0:1≤l.2.2.1.1
 d1:l.2.2.1.1≤98980
 c0:0≤l.2.2.1.2
 c1:l.2.2.1.2≤86399
 u0:0≤l.2.2.2.1
 u1:l.2.2.2.1≤2
 e0:1≤l.2.2.2.2.1
 e1:l.2.2.2.2.1≤400
 m0:l.2.2.2.2.2.1.length≠0
 m1:l.2.2.2.2.2.1.length≤12
 mem:∀ m∈l.2.2.2.2.2.1,0≤m∧m<(np:p)
 w:WOk 0 l.2.2.2.2.2.2.1
 wl:l.2.2.2.2.2.2.1.length≤14
 mode0:0≤l.2.2.2.2.2.2.2.2
 mode1:l.2.2.2.2.2.2.2.2≤2
 cal:l.2.2.2.2.2.2.2.2≠0→0≤l.2.2.2.2.2.2.2.1∧l.2.2.2.2.2.2.2.1<(nc:p)
 cal0:l.2.2.2.2.2.2.2.2=0→l.2.2.2.2.2.2.2.1=0
structure LC1 (nz np nc:B) (l:j0j):Prop extends LC0 nz np nc l where
 w3:l.2.2.2.2.2.2.1.length≤3
theorem LC0.rt2 {nz np nc:B} {L:j0j} (h:LC0 nz np nc L):Rt L:=
 ⟨h.d0,by have:=h.d1;omega,h.c0,h.c1,h.u0,h.u1,h.e0,h.e1,fun hm=>h.m0 (by rw [hm];rfl)⟩
theorem LC1.rt2 {nz np nc:B} {L:j0j} (h:LC1 nz np nc L):Rt L:=h.toLC0.rt2
structure GOk (zs:A j1l) (ps:A j1s) (cs:A CalT):Prop where
 ok:∀ z∈zs,ZOk z
 ck:∀ x∈cs,CCk zs.length x
 zl:zs.length≤16
 pl:ps.length≤32
theorem cget {zs:A j1l} {ps:A j1s} {cs:A CalT} (hs:GOk zs ps cs) {i:p} (h0:0≤i) (h1:i<(cs.length:p)):CCk zs.length (cs.getD i.toNat (q,((0:p),([]:A p)))):=by
 have hi:i.toNat<cs.length:=omg_
 rw [show cs.getD i.toNat (q,((0:p),([]:A p)))=cs[i.toNat] by simp [J,hi]]
 exact hs.ck _ (jx hi)
theorem jpb:j4v 2241=u 98981:=by kernel_rfl
theorem jpc:j4v 1970=u 0:=by kernel_rfl
theorem jzn {d:p} (h:j1g d=u O):d≤100000:=by
 rw [jeS] at h
 simp only [jb,ji,jq] at h
 omega
theorem jzo {d:p} (h:j1g d=u O):0≤d:=by
 rw [jeS] at h
 simp only [jb,ji,jq] at h
 omega
theorem jrC {L:j0j} (h:Rt L):j8p L=u (j2N L):=by
 have:=h.e0;have:=h.e1
 simp only [j8p,j2N]
 by_cases h2:L.2.2.2.1=2
 ·rw [j5N h2,jc,if_pos h2,j07]
 ·rw [j2q h2,jd,if_neg h2]
def HVal (r:Z (p×Bool)) (x:Z p):Prop:=∃ v,r=u (v,x.isSome)∧∀ t,x=u t→v=t
theorem recH {o:p} {l:TrL} (ht:TOk o l) {L:j0j} (h:Rt L) {k:p} (hk:0≤k) (hk2:k≤8589934592):HVal (j0N (o,l) L k) (hO o l L k):=by
 have hs:=h.step
 have hd0:=h.d0;have hd1:=h.d1;have hc0:=h.c0;have hc1:=h.c1;have he0:=h.e0;have he1:=h.e1
 have hstep:j8p (L.1,L.2.1,(L.2.2.1.1,L.2.2.1.2),L.2.2.2.1,L.2.2.2.2.1,L.2.2.2.2.2.1,L.2.2.2.2.2.2.1,L.2.2.2.2.2.2.2.1,L.2.2.2.2.2.2.2.2)=_:=jrC h
 simp only [HVal,j0N,hstep,ja]
 rw [j01 (show ¬ k>8589934592 by omega),jd]
 by_cases h0:L.2.2.2.1=0
 ·have hF:=jp9 ht (d:=L.2.2.1.1) (c:=L.2.2.1.2) omg_ omg_ hc0 hc1
  have hs0:L.2.2.1.1*86400+L.2.2.1.2=sLoc L 0:=by unfold sLoc;omega
  have hm0:0≤3600*L.2.2.2.2.1*k:=D omg_ hk
  have hm1:3600*L.2.2.2.2.1*k≤3600*400*8589934592:=E omg_ hk2 hk omg_
  rw [show (L.2.2.2.1 != 0)=Y by rw [h0];rfl,jd,hF,hs0]
  simp only [ja]
  unfold hO
  rw [if_pos h0]
  cases hf:fO o l (sLoc L 0) with
  | none=>exact ⟨_,rfl,fun t h=>by simp at h⟩
  | some v=>
   have hv:=jsN ht hf
   simp only [ze,zh,jc,ja,j5C (x:=3600*L.2.2.2.2.1) (show -9223372036854775808≤_ by omega) omg_,j5C (x:=3600*L.2.2.2.2.1*k) (show -9223372036854775808≤_ by omega) omg_,j5C (x:=v+3600*L.2.2.2.2.1*k) (show -9223372036854775808≤_ by omega) omg_]
   by_cases hle:v+3600*L.2.2.2.2.1*k≤8589934592
   ·rw [if_pos hle,j00 hle]
    exact ⟨_,rfl,fun t h=>by simpa using h⟩
   ·rw [if_neg hle,j01 hle]
    exact ⟨_,rfl,fun t h=>by simp at h⟩
 ·have hm0:0≤k*j2N L:=D hk omg_
  have hm1:k*j2N L≤8589934592*2800:=E hk2 hs.2 omg_ omg_
  rw [show (L.2.2.2.1 != 0)=O by simp [h0],jc,j07 (x:=k*j2N L),j07 (x:=L.2.2.1.1+k*j2N L),jp9 ht omg_ omg_ hc0 hc1]
  simp only [ja]
  unfold hO
  rw [if_neg h0]
  exact ⟨_,rfl,fun t h=>by have h:fO o l ((L.2.2.1.1+k*j2N L)*86400+L.2.2.1.2)=u t:=h;rw [h];rfl⟩
theorem r10H {z:j1l} {l:TrL} (hz:Z4 z l) {L:j0j} (h:Rt L) {k:p} (hk:0≤k) (hk2:k≤8589934592):HVal (j61 z L k) (hO z.2.1 l L k):=by
 have hs:=h.step
 have hd0:=h.d0;have hd1:=h.d1;have hc0:=h.c0;have hc1:=h.c1;have he0:=h.e0;have he1:=h.e1;have hu1:=h.u1;have hu0:=h.u0
 simp only [HVal,j61]
 have hm0:0≤k*L.2.2.2.2.1:=D hk omg_
 have hm1:k*L.2.2.2.2.1≤8589934592*400:=E hk2 omg_ omg_ omg_
 rw [j07 (x:=k*L.2.2.2.2.1)]
 by_cases h0:L.2.2.2.1=0
 ·have hF:=jgr hz (d:=L.2.2.1.1) (c:=L.2.2.1.2) omg_ hc0 hc1
  have hs0:L.2.2.1.1*86400+L.2.2.1.2=sLoc L 0:=by unfold sLoc;omega
  rw [j5N h0,jc,show j4l (z.1,(z.2.1,z.2.2)) (L.2.2.1.1,L.2.2.1.2)=_ from hF,hs0]
  simp only [ja]
  have hcm:k*L.2.2.2.2.1*3600=3600*L.2.2.2.2.1*k:=by rw [I,I k,R]
  have hm2:0≤3600*L.2.2.2.2.1*k:=D omg_ hk
  have hm3:3600*L.2.2.2.2.1*k≤3600*400*8589934592:=E omg_ hk2 hk omg_
  rw [hcm,j07 (x:=3600*L.2.2.2.2.1*k)]
  unfold hO
  rw [if_pos h0]
  cases hf:fO z.2.1 l (sLoc L 0) with
  | none=>exact ⟨_,rfl,fun t h=>by simp at h⟩
  | some v=>
   have hv:=jsN hz.2 hf
   simp only [ja]
   rw [j07 (x:=v+3600*L.2.2.2.2.1*k),qh,jc]
   by_cases hle:v+3600*L.2.2.2.2.1*k≤8589934592
   ·rw [if_pos hle,j00 hle]
    exact ⟨_,rfl,fun t h=>by simpa using h⟩
   ·rw [if_neg hle,j01 hle]
    exact ⟨_,rfl,fun t h=>by simp at h⟩
 ·rw [j2q h0,jd]
  have fin:∀ n:p,n=k*j2N L→0≤n→HVal ((j4l (z.1,(z.2.1,z.2.2)) (L.2.2.1.1+n,L.2.2.1.2)).bind fun r=>u (r.1,(r.2==(0:p)))) (hO z.2.1 l L k):=by
   intro n hn hn0
   have hF:=jgr hz (d:=L.2.2.1.1+n) (c:=L.2.2.1.2) omg_ hc0 hc1
   rw [show j4l (z.1,(z.2.1,z.2.2)) (L.2.2.1.1+n,L.2.2.1.2)=_ from hF]
   unfold hO
   rw [if_neg h0]
   have hsl:(L.2.2.1.1+n)*86400+L.2.2.1.2=sLoc L k:=by rw [hn];rfl
   rw [hsl]
   cases hf:fO z.2.1 l (sLoc L k) with
   | none=>exact ⟨_,rfl,fun t h=>by simp at h⟩
   | some v=>exact ⟨_,rfl,fun t h=>by simpa using h⟩
  by_cases h2:L.2.2.2.1=2
  ·have hsd:j2N L=7*L.2.2.2.2.1:=by unfold j2N;rw [if_pos h2]
   have e1:k*L.2.2.2.2.1*7=k*j2N L:=by rw [hsd,R,I L.2.2.2.2.1 7]
   rw [j5N h2,jc,j07 (x:=k*L.2.2.2.2.1*7),j07 (x:=L.2.2.1.1+k*L.2.2.2.2.1*7)]
   exact fin _ e1 omg_
  ·have hsd:j2N L=L.2.2.2.2.1:=by unfold j2N;rw [if_neg h2]
   rw [j2q h2,jd,j07 (x:=L.2.2.1.1+k*L.2.2.2.2.1)]
   exact fin _ (by rw [hsd]) hm0
theorem jzp {o:p} {l:TrL} (ht:TOk o l) {L:j0j} (h:Rt L) {t N:p} (hN:N≤8589934592) (hfirst:QO o l L t 0):∀ n:B,(n:p)≤N→
  ∃ k:p,j6Z t (n:p) o l L.1 L.2.1 L.2.2.1.1 L.2.2.1.2 L.2.2.2.1 L.2.2.2.2.1 L.2.2.2.2.2.1 L.2.2.2.2.2.2.1 L.2.2.2.2.2.2.2.1 L.2.2.2.2.2.2.2.2=
   u (t,k,o,l,L.1,L.2.1,L.2.2.1.1,L.2.2.1.2,L.2.2.2.1,L.2.2.2.2.1,L.2.2.2.2.2.1,L.2.2.2.2.2.2.1,L.2.2.2.2.2.2.2.1,L.2.2.2.2.2.2.2.2)∧0≤k∧QO o l L t k
 | 0,_=>by
  rw [jat]
  simp only [j2R]
  rw [j01 omg_,jd,j08]
  exact ⟨_,rfl,omg_,hfirst⟩
 | n+1,hn=>by
  obtain ⟨k,e,k0,k1⟩:=jzp ht h hN hfirst n omg_
  obtain ⟨v,hH,hv⟩:=recH ht h (k:=((n+1:B):p)) omg_ omg_
  rw [jat]
  simp only [j2R]
  rw [j00 omg_,jc,show j0N (o,l) (L.1,L.2.1,(L.2.2.1.1,L.2.2.1.2),L.2.2.2.1,L.2.2.2.2.1,L.2.2.2.2.2.1,L.2.2.2.2.2.2.1,L.2.2.2.2.2.2.2.1,L.2.2.2.2.2.2.2.2) ((n+1:B):p)=_ from hH]
  simp only [ja]
  rw [j07 (x:=((n+1:B):p)-1),show ((n+1:B):p)-1=(n:p) by omega]
  cases hx:hO o l L ((n+1:B):p) with
  | none=>
   simp only [va,jd,j06]
   exact ⟨k,e,k0,k1⟩
  | some x=>
   have:=hv x hx
   subst this
   simp only [zh,jc]
   by_cases hc:v≤t
   ·rw [j00 hc,jc,j08]
    exact ⟨_,rfl,omg_,v,hx,hc⟩
   ·rw [j01 hc,jd,j06]
    exact ⟨k,e,k0,k1⟩
theorem jzq {o:p} {l:TrL} (ht:TOk o l) {L:j0j} (h:Rt L) {t:p}:∀ (n:B) (k:p),k+n=2386093→0≤k→QO o l L t k→
  ∃ K:p,j70 t k o l L.1 L.2.1 L.2.2.1.1 L.2.2.1.2 L.2.2.2.1 L.2.2.2.2.1 L.2.2.2.2.2.1 L.2.2.2.2.2.2.1 L.2.2.2.2.2.2.2.1 L.2.2.2.2.2.2.2.2=u K∧0≤K∧QO o l L t K∧¬ QO o l L t (K+1)
 | 0,k,hn,hk,hq=>by
  obtain ⟨v,hv,_⟩:=hq
  have:=jqH ht h hk hv
  omega
 | n+1,k,hn,hk,hq=>by
  obtain ⟨v,hH,hv⟩:=recH ht h (k:=k+1) omg_ omg_
  rw [jfY]
  simp only [j4d]
  rw [j07 (x:=k+1),show j0N (o,l) (L.1,L.2.1,(L.2.2.1.1,L.2.2.1.2),L.2.2.2.1,L.2.2.2.2.1,L.2.2.2.2.2.1,L.2.2.2.2.2.2.1,L.2.2.2.2.2.2.2.1,L.2.2.2.2.2.2.2.2) (k+1)=_ from hH]
  simp only [ja]
  cases hx:hO o l L (k+1) with
  | none=>
   simp only [va,jt,jc,j08]
   exact ⟨k,rfl,hk,hq,fun ⟨y,hy,_⟩=>by rw [hx] at hy;simp at hy⟩
  | some x=>
   have:=hv x hx
   subst this
   simp only [zh,jk,jd]
   by_cases hc:v>t
   ·rw [j00 hc,jc,j08]
    exact ⟨k,rfl,hk,hq,fun ⟨y,hy,hyt⟩=>by rw [hx] at hy;simp at hy;omega⟩
   ·rw [j01 hc,jd,j06]
    exact jzq ht h n (k+1) omg_ omg_ ⟨v,hx,omg_⟩
theorem jrD {o:p} {l:TrL} {L:j0j} (h:Rt L) {t v:p} (h0:L.2.2.2.1=0) (htt:t≤8589934592) (hf:fO o l (sLoc L 0)=u v) (hvt:v≤t) (hv0:0≤v) :
  ShO o l L t ((t-v)/(3600*L.2.2.2.2.1))∧0≤(t-v)/(3600*L.2.2.2.2.1)∧(t-v)/(3600*L.2.2.2.2.1)≤8589934592:=by
 have he0:=h.e0;have he1:=h.e1
 have q0:0≤(t-v)/(3600*L.2.2.2.2.1):=yo omg_ omg_
 have q1:3600*L.2.2.2.2.1*((t-v)/(3600*L.2.2.2.2.1))≤t-v:=Int.mul_ediv_self_le omg_
 have q2:t-v<3600*L.2.2.2.2.1*((t-v)/(3600*L.2.2.2.2.1))+3600*L.2.2.2.2.1:=Int.lt_mul_ediv_self_add omg_
 have q3:(t-v)/(3600*L.2.2.2.2.1)≤t-v:=yg _ omg_
 generalize (t-v)/(3600*L.2.2.2.2.1)=K at *
 refine ⟨.inr ⟨q0,⟨v+3600*L.2.2.2.2.1*K,?_,omg_⟩,?_⟩,q0,omg_⟩
 ·unfold hO
  rw [if_pos h0,hf]
  simp only [ja]
  rw [if_pos omg_]
 ·rintro ⟨y,hy,hyt⟩
  unfold hO at hy
  rw [if_pos h0,hf] at hy
  simp only [ja,W,X] at hy
  split at hy
  ·simp at hy;omega
  ·simp at hy
theorem juY {o:p} {l:TrL} {L:j0j} (h0:L.2.2.2.1=0) {v:p} (hv:hO o l L 0=u v):fO o l (sLoc L 0)=u v:=by
 unfold hO at hv
 rw [if_pos h0] at hv
 cases hf:fO o l (sLoc L 0) with
 | none=>rw [hf] at hv;simp at hv
 | some x=>
  rw [hf] at hv
  simp only [ja,Int.mul_zero,Int.add_zero] at hv
  split at hv
  ·simpa using hv
  ·simp at hv
theorem jAf {o:p} {l:TrL} (ht:TOk o l) {L:j0j} (h:Rt L) {t:p} (h0t:0≤t) (htt:t≤8589934592):∃ K:p,j1W (o,l) L t=u K∧ShO o l L t K:=by
 have hs:=h.step
 have hd0:=h.d0;have hd1:=h.d1;have he0:=h.e0;have he1:=h.e1
 obtain ⟨v0,hH,hv⟩:=recH ht h (k:=0) omg_ omg_
 have hstep:j8p (L.1,L.2.1,(L.2.2.1.1,L.2.2.1.2),L.2.2.2.1,L.2.2.2.2.1,L.2.2.2.2.2.1,L.2.2.2.2.2.2.1,L.2.2.2.2.2.2.2.1,L.2.2.2.2.2.2.2.2)=_:=jrC h
 simp only [j1W,show j0N (o,l) (L.1,L.2.1,(L.2.2.1.1,L.2.2.1.2),L.2.2.2.1,L.2.2.2.2.1,L.2.2.2.2.2.1,L.2.2.2.2.2.2.1,L.2.2.2.2.2.2.2.1,L.2.2.2.2.2.2.2.2) 0=_ from hH,hstep,ja]
 cases hx:hO o l L 0 with
 | none=>
  simp only [va,jt,jc]
  exact ⟨-1,rfl,.inl ⟨rfl,fun ⟨y,hy,_⟩=>by rw [hx] at hy;simp at hy⟩⟩
 | some v=>
  have:=hv v hx
  subst this
  simp only [zh,jk,jd]
  by_cases hc:v0>t
  ·rw [j00 hc,jc]
   exact ⟨-1,rfl,.inl ⟨rfl,fun ⟨y,hy,hyt⟩=>by rw [hx] at hy;simp at hy;omega⟩⟩
  ·rw [j01 hc,jd]
   have hq:QO o l L t 0:=⟨v0,hx,omg_⟩
   have hva:=jqH ht h (k:=0) omg_ hx
   by_cases h0:L.2.2.2.1=0
   ·obtain ⟨s1,s2,s3⟩:=jrD (o:=o) (l:=l) h h0 htt (juY h0 hx) omg_ hva.1
    rw [j5N h0,jc,j07 (x:=t-v0),j07 (x:=3600*L.2.2.2.2.1),j2q (show ¬ 3600*L.2.2.2.2.1=0 by omega),z7 omg_,j07 (x:=(t-v0)/(3600*L.2.2.2.2.1))]
    exact ⟨_,rfl,s1⟩
   ·obtain ⟨j,hj,j1,j2⟩:=j8U ht h0t htt
    have o0:=ht.of0 j hj;have o1:=ht.of1 j hj
    rw [j2q h0,jd,jfe ht hj j1 j2]
    simp only [ja]
    generalize hld:(t+tof o l j)/86400=ld
    rw [j2q (show ¬ j2N L=0 by omega),j07 (x:=ld-L.2.2.1.1)]
    simp only [jt,jc]
    obtain ⟨n,hn,hn2⟩:∃ n:B,(if w64 (S (ld-L.2.2.1.1) (j2N L))>0 then w64 (S (ld-L.2.2.1.1) (j2N L)) else 0)=(n:p)∧(n:p)≤8589934592:=by
     by_cases hneg:0≤ld-L.2.2.1.1
     ·rw [z7 hneg]
      have q0:0≤(ld-L.2.2.1.1)/j2N L:=yo hneg omg_
      have q1:(ld-L.2.2.1.1)/j2N L≤ld-L.2.2.1.1:=yg _ hneg
      rw [j07]
      refine ⟨((ld-L.2.2.1.1)/j2N L).toNat,?_,?_⟩
      ·split<;>omega
      ·omega
     ·have e:S (ld-L.2.2.1.1) (j2N L) = -((-(ld-L.2.2.1.1))/j2N L):=by
       rw [←z7 omg_,Int.neg_tdiv,Int.neg_neg]
      have q0:0≤(-(ld-L.2.2.1.1))/j2N L:=yo omg_ omg_
      have q1:(-(ld-L.2.2.1.1))/j2N L ≤ -(ld-L.2.2.1.1):=yg _ omg_
      rw [e,j07,if_neg omg_]
      exact ⟨0,rfl,omg_⟩
    rw [hn]
    obtain ⟨k,e,k0,k1⟩:=jzp ht h (kr _) hq n hn2
    have hkb:=k1
    obtain ⟨y,hy,_⟩:=hkb
    have hkk:=jqH ht h k0 hy
    obtain ⟨K,e2,K0,K1,K2⟩:=jzq ht h (t:=t) (2386093-k).toNat k omg_ k0 k1
    simp only [e,ja,e2]
    exact ⟨K,rfl,.inr ⟨K0,K1,K2⟩⟩
def tb (z:j1l):p×TrL:=(z.2.1,outT z.2.1 (j35 (occs z.2.2)))
theorem ZOk.ztab {z:j1l} (h:ZOk z):ZTab z (tb z).2:=MZ.tab (o:=z.2.1) (rs:=z.2.2) h z.1
theorem ZOk.zdif {z:j1l} (h:ZOk z):Dif z.2.1 (tb z).2:=jqE _ _ _ (MZ.good h)
theorem ZOk.zref {z:j1l} (h:ZOk z):ZTab z (tb z).2∧Z4 z (tb z).2∧Dif z.2.1 (tb z).2:=⟨h.ztab,MZ.r4 (o:=z.2.1) (rs:=z.2.2) h z.1,h.zdif⟩
theorem juZ {zs:A j1l} (h:∀ z∈zs,ZOk z) (hl:zs.length≤100):∀ (n i:B),i+n=zs.length→j6K zs (zs.length:p) (i:p) ((zs.take i).map tb)=u (zs.map tb)
 | 0,i,hi=>by
  rw [jcB]
  simp only [j3S]
  rw [j01 omg_,jd,j08,List.take_of_length_le omg_]
 | n+1,i,hi=>by
  have hlt:i<zs.length:=omg_
  have hgd:zs.getD i (q,((0:p),([]:A Rule)))=zs[i]:=by simp [hlt]
  have ht:=jAc (h zs[i] (jx hlt)).ztab
  have ih:=juZ h hl n (i+1) omg_
  rw [ya,jv hlt,List.map_append] at ih
  rw [jcB]
  simp only [j3S]
  rw [j00 omg_,j1o,j07 (x:=(i:p)+1)]
  simp only [jc,je,hgd]
  rw [show jjX (zs[i].1,(zs[i].2.1,zs[i].2.2))=_ from ht]
  simp only [ja]
  rw [j00 (by simp [j05];omega),jc,j06]
  exact ih
theorem jqI {zs:A j1l} (h:∀ z∈zs,ZOk z) (hl:zs.length≤100) {ps:A j1s} {cs:A CalT} {ss:A j3z}:jar (zs,(ps,(cs,ss)))=u ((zs,(ps,(cs,ss))),zs.map tb):=by
 have lp:=juZ h hl zs.length 0 omg_
 simp only [jar,jfW,show M zs.length=(zs.length:p) from rfl]
 rw [show j6K zs (zs.length:p) 0 []=_ from lp]
 rfl
theorem jpd {zs:A j1l} {i:p} (h0:0≤i) (h1:i<(zs.length:p)):J (zs.map tb) i.toNat ((0:p),([]:TrL))=tb (zs.getD i.toNat (q,((0:p),([]:A Rule)))):=by
 have hlt:i.toNat<zs.length:=omg_
 simp [F,hlt]
theorem zget {zs:A j1l} (h:∀ z∈zs,ZOk z) {i:p} (h0:0≤i) (h1:i<(zs.length:p)):ZOk (zs.getD i.toNat (q,((0:p),([]:A Rule)))):=by
 have hlt:i.toNat<zs.length:=omg_
 rw [F,jv hlt]
 exact h _ (jx hlt)
theorem jwq (a b:p):jbu a b=u (G (a<b)):=by
 simp only [jbu,j9T,ja,jm,jd]
theorem jyo {ds:A p} (hs:ds.Pairwise (· < ·)) (hl:ds.length≤64) {x:p}:∀ (n a b:B),b-a≤n→a≤b→b≤ds.length→(∀ i,(hi:i<ds.length)→i<a→ds[i]<x)→(∀ i,(hi:i<ds.length)→b≤i→x≤ds[i])→
  ∃ k:B,j1P ds x (ds.length:p) (a:p) (b:p)=u (ds,x,(ds.length:p),(k:p))∧k≤ds.length∧(∀ i,(hi:i<ds.length)→i<k→ds[i]<x)∧∀ i,(hi:i<ds.length)→k≤i→x≤ds[i]
 | n,a,b,hn,hab,hb,h1,h2=>by
  rw [j7Q]
  simp only [j1i]
  by_cases hlt:a<b
  ·have hm:IntKind.wrap .u64 ((a:p)+(b:p))=(a:p)+(b:p):=IntWalk.u64_in _ ⟨omg_,omg_⟩
   have hd:Int.fdiv ((a:p)+(b:p)) 2=(((a+b)/2:B):p):=by
    rw [Int.fdiv_eq_ediv_of_nonneg _ omg_];omega
   have hml:(a+b)/2<ds.length:=omg_
   have hgd:ds.getD ((a+b)/2) (0:p)=ds[(a+b)/2]:=by simp [hml]
   rw [j00 (show (a:p)<(b:p) by omega),j07 (x:=(a:p)+(b:p)),hm,hd,j07 (x:=(((a+b)/2:B):p)),j1o,j07 (x:=(((a+b)/2:B):p)+1)]
   simp only [jc,je,hgd,jwq,ja]
   cases n with
   | zero=>omega
   | succ n=>
    by_cases hc:ds[(a+b)/2]<x
    ·rw [j00 hc,jc,j06]
     refine jyo hs hl n ((a+b)/2+1) b omg_ omg_ hb (fun i hi hia=> ?_) h2
     by_cases he:i=(a+b)/2
     ·subst he;exact hc
     ·exact Int.lt_trans (vd.1 hs i ((a+b)/2) hi hml omg_) hc
    ·rw [j01 hc,jd,j06]
     refine jyo hs hl n a ((a+b)/2) omg_ omg_ omg_ h1 (fun i hi hia=> ?_)
     by_cases he:i=(a+b)/2
     ·subst he;exact Int.not_lt.1 hc
     ·exact ye (Int.not_lt.1 hc) (Int.le_of_lt (vd.1 hs ((a+b)/2) i hml hi omg_))
  ·have:a=b:=omg_
   subst this
   rw [j01 omg_,jd,j08]
   exact ⟨a,rfl,hb,h1,h2⟩
theorem jAg {ds:A p} (hs:ds.Pairwise (· < ·)) (hl:ds.length≤64) (x:p):∃ i,j19 ds x=u (i,G (x∈ds)):=by
 obtain ⟨k,e,hk,h1,h2⟩:=jyo hs hl (x:=x) ds.length 0 ds.length omg_ omg_ (jz _) (fun i _ h=>omg_) (fun i hi h=>omg_)
 rw [show ((0:B):p)=0 from rfl] at e
 simp only [j19,show M ds.length=(ds.length:p) from rfl,e,ja,je]
 by_cases hkl:k<ds.length
 ·have hgd:ds.getD k (0:p)=ds[k]:=by simp [hkl]
  rw [j1o,j00 (show (k:p)<(ds.length:p) by omega),hgd]
  simp only [zu,jc]
  by_cases hx:ds[k]=x
  ·rw [j5N hx]
   rw [j00 (show x∈ds from hx▸jx hkl)]
   exact ⟨_,rfl⟩
  ·rw [j2q hx]
   have hn:¬ x∈ds:=by
    intro hm
    obtain ⟨i,hi,rfl⟩:=yi hm
    rcases vi i k with h | h | h
    ·have:=h1 i hi h;omega
    ·subst h;exact hx rfl
    ·have a1:=h2 k hkl (jz _)
     have a2:=vd.1 hs k i hkl hi h
     omega
   rw [j01 hn]
   simp only [jd,j71,ja,jm]
   exact ⟨_,rfl⟩
 ·have hn:¬ x∈ds:=by
   intro hm
   obtain ⟨i,hi,rfl⟩:=yi hm
   have:=h1 i hi omg_
   omega
  rw [j01 hn,j01 (show ¬ (k:p)<(ds.length:p) by omega)]
  simp only [jt,yf,jc,jd,Bool.false_and]
  exact ⟨_,rfl⟩
def okW (w:WL) (s:p):Bool:=cond (G ((w.length:p)>0)) (hasB s w) O
section
variable {zs:A j1l} {ps:A j1s} {cs:A CalT} {ss:A j3z} (hz:∀ z∈zs,ZOk z)
include hz
theorem jzr {L:j0j} (hL:LC1 zs.length ps.length cs.length L) (hRt:Rt L) {t:p} (h0:0≤t) (h1:t≤8589934592) {z:j1l} (hzz:zs.getD L.2.1.toNat (q,((0:p),([]:A Rule)))=z)
  {s:p} {d:p×p} (hd:j0o (tb z) t=u d) (hs:j2L d=u s) {K:p} (hK:j1W (tb z) L t=u K) (b:Bool)
  (hcal:L.2.2.2.2.2.2.2.2=0→b=O) (hcal2:L.2.2.2.2.2.2.2.2≠0→∃ x:CalT,cs.getD L.2.2.2.2.2.2.2.1.toNat (q,((0:p),([]:A p)))=x∧CCk zs.length x∧∃ d',j0o (tb (zs.getD x.2.1.toNat (q,((0:p),([]:A Rule))))) t=u d'∧b=(G (d'.1∈x.2.2)==(L.2.2.2.2.2.2.2.2==(2:p)))) :
  ∃ r,j21 ((zs,(ps,(cs,ss))),zs.map tb) L t=u (r,cond (G (0≤K)) (cond (okW L.2.2.2.2.2.2.1 s) b Y) Y)∧(cond (G (0≤K)) (cond (okW L.2.2.2.2.2.2.1 s) b Y) Y=O→r=K):=by
 have _:=hz;have _:=hRt
 have hwl:=hL.wl
 have hlen:(zs.map tb).length=zs.length:=qa ..
 have hg:=jpd (zs:=zs) hL.z0 hL.z1
 rw [hzz] at hg
 simp only [j21]
 rw [j01 (show ¬ t<0 by omega),j01 (show ¬ t>8589934592 by omega),j1v hL.z0 (by rw [hlen];exact hL.z1)]
 simp only [jd,jc,hg]
 rw [show j1W ((tb z).1,(tb z).2) (L.1,L.2.1,(L.2.2.1.1,L.2.2.1.2),L.2.2.2.1,L.2.2.2.2.1,L.2.2.2.2.2.1,L.2.2.2.2.2.2.1,L.2.2.2.2.2.2.2.1,L.2.2.2.2.2.2.2.2) t=_ from hK]
 simp only [ja]
 by_cases hk:0≤K
 ·rw [j01 (show ¬ K<0 by omega),j00 hk]
  simp only [jd,jc,show M L.2.2.2.2.2.2.1.length=(L.2.2.2.2.2.2.1.length:p) from rfl]
  have tail:∃ r,(cond (L.2.2.2.2.2.2.2.2==(0:p)) (u (K,O)) (cond (inR L.2.2.2.2.2.2.2.1 cs.length) (cond (inR (cs.getD L.2.2.2.2.2.2.2.1.toNat (q,((0:p),([]:A p)))).2.1 (zs.map tb).length) ((j0o ((J (zs.map tb) (cs.getD L.2.2.2.2.2.2.2.1.toNat (q,((0:p),([]:A p)))).2.1.toNat ((0:p),([]:TrL))).1,(J (zs.map tb) (cs.getD L.2.2.2.2.2.2.2.1.toNat (q,((0:p),([]:A p)))).2.1.toNat ((0:p),([]:TrL))).2) t).bind fun r68=>
    (j19 (cs.getD L.2.2.2.2.2.2.2.1.toNat (q,((0:p),([]:A p)))).2.2 r68.1).bind fun r70=>u (K,(r70.2==(L.2.2.2.2.2.2.2.2==(2:p))))) none) none))=u (r,b)∧(b=O→r=K):=by
   by_cases hm:L.2.2.2.2.2.2.2.2=0
   ·rw [j5N hm,jc,hcal hm]
    exact ⟨K,rfl,fun _=>rfl⟩
   ·obtain ⟨x,hx,hxc,d',hd',hb⟩:=hcal2 hm
    have hc:=hL.cal hm
    obtain ⟨i,hi⟩:=jAg hxc.asc hxc.len d'.1
    have hg2:=jpd (zs:=zs) hxc.z0 hxc.z1
    rw [j2q hm,jd,j1v hc.1 hc.2,hx,j1v hxc.z0 (by rw [hlen];exact hxc.z1)]
    simp only [jc,hg2]
    rw [show j0o ((tb (zs.getD x.2.1.toNat (q,((0:p),([]:A Rule))))).1,(tb (zs.getD x.2.1.toNat (q,((0:p),([]:A Rule))))).2) t=_ from hd']
    simp only [ja,hi]
    rw [←hb]
    exact ⟨K,rfl,fun _=>rfl⟩
  by_cases hw:(L.2.2.2.2.2.2.1.length:p)>0
  ·rw [j00 hw,jc,show j0o ((tb z).1,(tb z).2) t=_ from hd]
   simp only [ja,show j2L (d.1,d.2)=_ from hs,jzi hwl,okW]
   rw [j00 hw,jc]
   cases hh:hasB s L.2.2.2.2.2.2.1 with
   | true=>
    simp only [jk,jd,jc]
    exact tail
   | false=>exact ⟨0,rfl,fun h=>by simp at h⟩
  ·simp only [okW]
   rw [j01 hw]
   simp only [jd,jc]
   exact tail
 ·rw [j00 (show K<0 by omega),j01 hk]
  exact ⟨0,rfl,fun h=>by simp at h⟩
def whoL (L:j0j) (K:p):Int:=L.2.2.2.2.2.1.getD (U K (L.2.2.2.2.2.1.length:p)).toNat 0
omit hz in
theorem jwr {v:CfgT×A (p×TrL)} {L:j0j} {t r K:p} {b:Bool} (hm:L.2.2.2.2.2.1.length≠0) (e:j21 v L t=u (r,b)) (hr:b=O→r=K) (hK:b=O→0≤K) :
  j3j v L t=u (cond b (whoL L K) (-1)):=by
 simp only [j3j,show j21 ((v.1.1,v.1.2.1,v.1.2.2.1,v.1.2.2.2),v.2) (L.1,L.2.1,(L.2.2.1.1,L.2.2.1.2),L.2.2.2.1,L.2.2.2.2.1,L.2.2.2.2.2.1,L.2.2.2.2.2.2.1,L.2.2.2.2.2.2.2.1,L.2.2.2.2.2.2.2.2) t=_ from e,ja]
 cases b with
 | false=>rfl
 | true=>
  have:=hr rfl
  subst this
  have hk:=hK rfl
  have q1:0≤U r (L.2.2.2.2.2.1.length:p):=vw _ hk
  have q2:U r (L.2.2.2.2.2.1.length:p)<(L.2.2.2.2.2.1.length:p):=v8 _ omg_
  simp only [jk,jd,jc,show M L.2.2.2.2.2.1.length=(L.2.2.2.2.2.1.length:p) from rfl,whoL]
  rw [j2q (show ¬ (L.2.2.2.2.2.1.length:p)=0 by omega),j1v q1 q2]
  rfl
end
theorem jzs {z:j1l} (hz:ZOk z) {t:p} (h0:0≤t) (h1:t≤8589934592):∃ d s,j0o (tb z) t=u d∧j2L d=u s:=by
 have ht:=hz.ztab
 obtain ⟨j,hj,j1,j2⟩:=j8U ht.2 h0 h1
 have o0:=ht.2.of0 j hj;have o1:=ht.2.of1 j hj
 obtain ⟨s,hs⟩:∃ s,j2L ((t+tof z.2.1 (tb z).2 j)/86400,(t+tof z.2.1 (tb z).2 j)%86400)=u s:=by
  simp only [j2L,jlQ,ja]
  exact ⟨_,rfl⟩
 exact ⟨_,s,jfe ht.2 hj j1 j2,hs⟩
end Go.Proofs.Pw
