/- Small facts on Go's division. -/
import Derived.Test.YtllkgjaoejhneaaGreatDELD
import Derived.Test.YtllkgjaoejhneaaGreatDEFns
import Derived.KernelRfl
open _root_ renaming Int->q,Nat->B,ByteArray->H,Decidable->L,List->M
open Int renaming tmod->r,tdiv->u,ofNat->F,ediv_eq_zero_of_lt->G,add_mul_ediv_left->I,neg_tmod->R
open Option renaming some->A
open List renaming length->D,getD_eq_getElem?_getD->E,set->W
open Bool renaming true->J,eq_iff_iff->O,false->S
open Go Go.Lft
namespace Go.Proofs.Pw
theorem tdm (a b:q) (hb:0<b):b*u a b+r a b=a∧(0≤a→0≤r a b)∧(a≤0→r a b≤0)∧r a b<b ∧ -b<r a b:=by
 have h1:=Int.mul_tdiv_add_tmod a b
 have h2:0≤a→0≤r a b:=fun h=>vw b h
 have h3:a≤0→r a b≤0:=fun h=>by
  have:=vw (a:= -a) b omg_
  rw [R] at this;omega
 have h4:=v8 a hb
 have h5 : -b<r a b:=by
  have:=v8 (-a) hb
  rw [R] at this;omega
 exact ⟨h1,h2,h3,h4,h5⟩
theorem jdN {a b:q} (ha:0≤a):u a b=a/b:=z7 ha
theorem jgn {a b:q} (ha:0≤a):r a b=a%b:=Int.tmod_eq_emod_of_nonneg ha
theorem jkr (a b:q):(r a b==0)=(a%b==0):=by
 rw [O]
 simp only [vg]
 rw [←Int.dvd_iff_tmod_eq_zero,←Int.dvd_iff_emod_eq_zero]
theorem j00 {p:Prop} [L p] (h:p):decide p=true:=decide_eq_true h
theorem j01 {p:Prop} [L p] (h:¬ p):decide p=false:=decide_eq_false h
theorem j5N {a b:q} (h:a=b):(a==b)=true:=by simp [h]
theorem j2q {a b:q} (h:a≠b):(a==b)=false:=by simp [h]
theorem j1v {i:q} {n:B} (h1:0≤i) (h2:i<n):inR i n=true:=by simp [inR,h1,h2]
theorem j07 {x:q} (h1 : -9223372036854775808≤x:=by omega) (h2:x≤9223372036854775807:=by omega):w64 x=x:=j5C h1 h2
theorem j1o {i:q} {n:B} (h1:0≤i:=by omega) (h2:i<n:=by omega):inR i n=true:=j1v h1 h2
def jb0 (ks:M H):M (H×Bool):=ks.map fun k=>(k,J)
def NmL (ks:M H):Prop:=ks.Nodup∧∀ k∈ks,jcy k=A J
theorem juD {s:H}:∀ {l:M H},s∉l→jam S (jb0 l) s=S∧j6J (jb0 l) s J=jb0 (l++[s])
 | [],_=>⟨rfl,rfl⟩
 | k::l,h=>by
  simp only [jl,not_or] at h
  obtain ⟨h1,h2⟩:=juD (l:=l) h.2
  have hb:(s==k)=false:=qo.2 fun hh=>h.1 ((MapKept.bytes_beq s k).1 hh)
  refine ⟨?_,?_⟩
  ·show cond (s==k) J (jam S (jb0 l) s)=S
   rw [hb];exact h1
  ·show cond (s==k) ((s,J)::jb0 l) ((k,J)::j6J (jb0 l) s J)=_
   rw [hb,jd,h2];rfl
abbrev TrL:=M (q×q)
def tat (l:TrL) (i:B):Int:=(l.getD i (0,0)).1
def tof (o:q) (l:TrL) (i:B):Int:=if i=0 then o else (l.getD (i-1) (0,0)).2
def frm (l:TrL) (i:B):Int:=if i=0 then 0 else if i≤l.length then tat l (i-1) else 8589934593
structure TOk (o:q) (l:TrL):Prop where
 len:l.length≤1000
 gap:∀ i,i+1<l.length→tat l i+604800≤tat l (i+1)
 pos:∀ i,i<l.length→1000000<tat l i
 max:∀ i,i<l.length→tat l i≤8589000000
 of0:∀ i,i≤l.length → -64800≤tof o l i
 of1:∀ i,i≤l.length→tof o l i≤64800
section
variable {o:q} {l:TrL} (h:TOk o l)
include h
theorem TOk.at_lt:∀ (k i:B),i+k+1<l.length→tat l i+604800≤tat l (i+k+1)
 | 0,i,hk=>h.gap i hk
 | k+1,i,hk=>by
  have h1:=TOk.at_lt k i omg_
  have h2:=h.gap (i+k+1) omg_
  rw [show i+(k+1)+1=i+k+1+1 by omega]
  omega
theorem TOk.at_le {i j:B} (hij:i<j) (hj:j<l.length):tat l i+604800≤tat l j:=by
 have:=h.at_lt (j-i-1) i omg_
 rwa [show i+(j-i-1)+1=j by omega] at this
omit h in
theorem frm0:frm l 0=0:=rfl
omit h in
theorem j7w {i:B} (hi:i<l.length):frm l (i+1)=tat l i:=by
 unfold frm
 rw [if_neg (Nat.succ_ne_zero i),if_pos (show i+1≤l.length by omega)];rfl
omit h in
theorem j5g:frm l (l.length+1)=8589934593:=by
 unfold frm
 rw [if_neg (Nat.succ_ne_zero _),if_neg (show ¬ l.length+1≤l.length by omega)]
theorem TOk.frm_lt {i:B} (hi:i≤l.length):frm l i<frm l (i+1):=by
 rcases qt i l.length with hl | hl
 ·rw [j7w hl]
  cases i with
  | zero=>rw [frm0];exact (by have:=h.pos 0 hl;omega)
  | succ i=>
   rw [j7w omg_]
   have:=h.gap i hl;omega
 ·have:i=l.length:=omg_
  subst this
  rw [j5g]
  cases hq:l.length with
  | zero=>rw [frm0];omega
  | succ n=>
   rw [j7w omg_]
   have:=h.max n omg_;omega
theorem TOk.frm_gap {i j:B} (hi:1≤i) (hij:i<j) (hj:j≤l.length):frm l i+604800≤frm l j:=by
 obtain ⟨i,rfl⟩:∃ i',i=i'+1:=⟨i-1,omg_⟩
 obtain ⟨j,rfl⟩:∃ j',j=j'+1:=⟨j-1,omg_⟩
 rw [j7w omg_,j7w omg_]
 exact h.at_le omg_ omg_
theorem TOk.frm_le {i j:B} (hij:i≤j) (hj:j≤l.length+1):frm l i≤frm l j:=by
 induction j with
 | zero=>have:i=0:=omg_
         subst this;omega
 | succ j ih=>
  by_cases he:i=j+1
  ·subst he;omega
  ·have h1:=ih omg_ omg_
   have h2:=h.frm_lt (i:=j) omg_
   omega
theorem jks {t:q} {k:B} (hk:k≤l.length) (hlo:∀ i,i<k→tat l i≤t) (hhi:∀ i,k≤i→i<l.length→t<tat l i) :
  ∀ (n:B) (a b:B),b-a≤n→a≤k→k≤b→b≤l.length→j8H o l t (a:q) (b:q)=A (k:q)
 | 0,a,b,hn,ha,hb,hbl=>by
  rw [jcC]
  simp only [j2E,j01 (show ¬ (a:q)<(b:q) by omega),jd,j08]
  congr 1;omega
 | n+1,a,b,hn,ha,hb,hbl=>by
  have hlen:=h.len
  rw [jcC]
  by_cases hab:a<b
  ·have hm:IntKind.wrap .u64 ((a:q)+(b:q))=(a:q)+(b:q):=IntWalk.u64_in _ ⟨omg_,omg_⟩
   have hd:Int.fdiv ((a:q)+(b:q)) 2=(((a+b)/2:B):q):=by
    rw [Int.fdiv_eq_ediv_of_nonneg _ omg_];omega
   simp only [j2E,j00 (show (a:q)<(b:q) by omega),jc]
   rw [j5C (x:=(a:q)+(b:q)) omg_ omg_,hm,hd,j5C (x:=(((a+b)/2:B):q)) omg_ omg_]
   simp only [j7f]
   rw [j1v omg_ omg_]
   simp only [jc,ja,je]
   by_cases hc:tat l ((a+b)/2)>t
   ·rw [j00 (show (l.getD ((a+b)/2) ((0:q),(0:q))).1>t from hc)]
    simp only [jk,jd,j06]
    have hkm:k≤(a+b)/2:=by
     rcases qt ((a+b)/2) k with h' | h'
     ·have:=hlo _ h';omega
     ·exact h'
    exact jks hk hlo hhi n a ((a+b)/2) omg_ ha hkm omg_
   ·rw [j01 (show ¬ (l.getD ((a+b)/2) ((0:q),(0:q))).1>t from hc)]
    simp only [jt,jc,j06]
    rw [j5C omg_ omg_]
    have hkm:(a+b)/2<k:=by
     rcases qt ((a+b)/2) k with h' | h'
     ·exact h'
     ·have:=hhi _ h' omg_;omega
    exact jks hk hlo hhi n ((a+b)/2+1) b omg_ omg_ hb hbl
  ·simp only [j2E,j01 (show ¬ (a:q)<(b:q) by omega),jd,j08]
   congr 1;omega
theorem jnf {t:q} {k:B} (hk:k≤l.length) (h1:frm l k≤t) (h2:t<frm l (k+1)):j5k (o,l) t=A (k:q):=by
 have hlo:∀ i,i<k→tat l i≤t:=by
  intro i hi
  have:frm l k=tat l (k-1):=by
   have:=j7w (l:=l) (i:=k-1) omg_
   rwa [show k-1+1=k by omega] at this
  rw [this] at h1
  by_cases he:i=k-1
  ·subst he;exact h1
  ·have:=h.at_le (i:=i) (j:=k-1) omg_ omg_;omega
 have hhi:∀ i,k≤i→i<l.length→t<tat l i:=by
  intro i hi hl
  have:frm l (k+1)=tat l k:=j7w omg_
  rw [this] at h2
  by_cases he:i=k
  ·subst he;exact h2
  ·have:=h.at_le (i:=k) (j:=i) omg_ hl;omega
 have:=jks h hk hlo hhi l.length 0 l.length omg_ omg_ hk omg_
 simp only [j5k,jfX,show F (D l)=(l.length:q) from rfl]
 rw [show (0:q)=((0:B):q) from rfl,this]
 rfl
theorem jkt {k:B} (hk:k≤l.length):j3K (o,l) (k:q)=A (tof o l k):=by
 have hlen:=h.len
 unfold tof
 by_cases h0:k=0
 ·subst h0;rfl
 ·simp only [j3K]
  rw [j2q (show (k:q)≠0 by omega),jd,j5C omg_ omg_,j1v omg_ omg_,show ((k:q)-1).toNat=k-1 by omega,if_neg h0]
  rfl
theorem juE {t:q} {k:B} (hk:k≤l.length) (h1:frm l k≤t) (h2:t<frm l (k+1)):j6e (o,l) t=A (tof o l k):=by
 simp only [j6e,jnf h hk h1 h2,ja,jkt h hk]
theorem j8U {t:q} (h0:0≤t) (h1:t≤8589934592):∃ k,k≤l.length∧frm l k≤t∧t<frm l (k+1):=by
 have _:=h
 have:∀ n,n≤l.length+1→t<frm l n→∃ k,k<n∧frm l k≤t∧t<frm l (k+1):=by
  intro n
  induction n with
  | zero=>intro _ hn;have:frm l 0=0:=rfl
          omega
  | succ n ih=>
   intro hn hlt
   by_cases hc:frm l n≤t
   ·exact ⟨n,omg_,hc,hlt⟩
   ·obtain ⟨k,a1,a2,a3⟩:=ih omg_ omg_
    exact ⟨k,omg_,a2,a3⟩
 have hlast:frm l (l.length+1)=8589934593:=j5g
 obtain ⟨k,a1,a2,a3⟩:=this (l.length+1) omg_ omg_
 exact ⟨k,omg_,a2,a3⟩
def pc (o:q) (l:TrL) (i:B):q×(q×q):=(frm l i,(frm l (i+1),tof o l i))
def pcs (o:q) (l:TrL) (n:B):M (q×(q×q)):=(List.range n).map (pc o l)
omit h in
theorem jrp (n:B):pcs o l (n+1)=pcs o l n++[pc o l n]:=by simp [pcs,List.range_succ]
omit h in
theorem jgo (n:B):(pcs o l n).length=n:=by simp [pcs]
omit h in
theorem jqA {n i:B} (hi:i<n):(pcs o l n).getD i ((0:q),((0:q),(0:q)))=pc o l i:=by
 simp [pcs,List.getD,hi]
theorem jp1:∀ (n k:B),k+n=l.length+1→j2p (frm l k) 8589934593 o l (pcs o l k)=A (pcs o l (l.length+1))
 | 0,k,hk=>by
  have hlast:frm l k=8589934593:=by rw [show k=l.length+1 by omega];exact j5g
  rw [j1E,hlast]
  simp only [j0w]
  rw [j01 omg_,jd,j08,show k=l.length+1 by omega]
 | n+1,k,hk=>by
  have hlen:=h.len
  have hkl:k≤l.length:=omg_
  have hlt:=h.frm_lt hkl
  have hle:=h.frm_le (i:=k+1) (j:=l.length+1) omg_ omg_
  have hlast:frm l (l.length+1)=8589934593:=j5g
  have ih:=jp1 n (k+1) omg_
  rw [j1E]
  simp only [j0w]
  rw [j00 (show frm l k<8589934593 by omega),jnf h hkl omg_ hlt]
  simp only [jc,ja,show F (D l)=(l.length:q) from rfl,jkt h hkl]
  by_cases hlast2:k<l.length
  ·rw [j00 (show (k:q)<(l.length:q) by omega),j1v omg_ omg_]
   simp only [jc,je]
   have hto:(if (l.getD k ((0:q),(0:q))).1<8589934593 then (l.getD k ((0:q),(0:q))).1 else 8589934593)=frm l (k+1):=by
    have hf:frm l (k+1)=tat l k:=j7w hlast2
    have:=h.max k hlast2
    rw [hf,if_pos (show (l.getD k ((0:q),(0:q))).1<8589934593 by show tat l k<_;omega)]
    rfl
   rw [hto,j00 (by rw [jgo];simp [j05];omega)]
   simp only [jc,j06]
   rw [jrp] at ih
   exact ih
  ·rw [j01 (show ¬ (k:q)<(l.length:q) by omega)]
   simp only [jd]
   rw [j00 (by rw [jgo];simp [j05];omega)]
   simp only [jc,j06]
   have hk':k=l.length:=omg_
   rw [jrp] at ih
   unfold pc at ih
   rw [show k+1=l.length+1 by omega,hlast] at ih
   exact ih
theorem jp2:j1F (o,l) 0 8589934593=A (pcs o l (l.length+1)):=by
 have:=jp1 h (l.length+1) 0 omg_
 simp only [j1F]
 rw [show j2p 0 8589934593 o l []=_ from this]
 rfl
def Sol (o:q) (l:TrL) (s:q) (i:B):Prop:=frm l i≤s-tof o l i∧s-tof o l i<frm l (i+1)
instance (o:q) (l:TrL) (s:q) (i:B):L (Sol o l s i):=by unfold Sol;infer_instance
omit h in
theorem ji5 {d c:q} (hd : -1000000≤d) (hd2:d≤1000000) (hc : -86400≤c) (hc2:c≤172800):j3I (d,c)=A (d*86400+c):=by
 simp only [j3I]
 rw [if_neg (show ¬ (-1048576:q)>d by omega),if_neg (show ¬ (1048576:q)<d by omega),j5C (x:=d*86400) omg_ omg_,j5C omg_ omg_]
theorem jrq {d c:q} (hd : -1000000≤d) (hd2:d≤1000000) (hc : -86400≤c) (hc2:c≤172800) {k:B} (hk:k≤l.length) (hks:d*86400+c-tof o l k<frm l (k+1)) (hbef:∀ j,j<k→frm l (j+1)≤d*86400+c-tof o l j) :
  ∀ (n i:B),i+n=k→j3T ((l.length+1:B):q) (i:q) d c (pcs o l (l.length+1))=A (.inl (max (frm l k) (d*86400+c-tof o l k),J))
 | 0,i,hi=>by
  have hlen:=h.len
  have:i=k:=omg_
  subst this
  have o1:=h.of0 i hk;have o2:=h.of1 i hk
  have hlt:=h.frm_lt hk
  rw [j40]
  simp only [j18]
  rw [j00 (show (i:q)<((l.length+1:B):q) by omega),j1v omg_ (by rw [jgo];omega)]
  simp only [jc,je,jqA (show i<l.length+1 by omega),ji5 hd hd2 hc hc2,ja,pc]
  rw [j5C (x:=d*86400+c-tof o l i) omg_ omg_]
  have hm:(if d*86400+c-tof o l i>frm l i then d*86400+c-tof o l i else frm l i)=max (frm l i) (d*86400+c-tof o l i):=by split<;>omega
  rw [hm,j00 omg_,jc,j08]
 | n+1,i,hi=>by
  have hlen:=h.len
  have hil:i≤l.length:=omg_
  have o1:=h.of0 i hil;have o2:=h.of1 i hil
  have hb:=hbef i omg_
  rw [j40]
  simp only [j18]
  rw [j00 (show (i:q)<((l.length+1:B):q) by omega),j1v omg_ (by rw [jgo];omega)]
  simp only [jc,je,jqA (show i<l.length+1 by omega),ji5 hd hd2 hc hc2,ja,pc]
  rw [j5C (x:=d*86400+c-tof o l i) omg_ omg_,j5C (x:=(i:q)+1) omg_ omg_]
  have hm:(if d*86400+c-tof o l i>frm l i then d*86400+c-tof o l i else frm l i)=max (frm l i) (d*86400+c-tof o l i):=by split<;>omega
  rw [hm,j01 omg_,jd,j06]
  exact jrq hd hd2 hc hc2 hk hks hbef n (i+1) omg_
theorem jwf {d c:q} (hd : -1000000≤d) (hd2:d≤1000000) (hc : -86400≤c) (hc2:c≤172800) {k:B} (hk:k≤l.length) (hks:d*86400+c-tof o l k<frm l (k+1)) (hbef:∀ j,j<k→frm l (j+1)≤d*86400+c-tof o l j) :
  j2r (o,l) (d,c)=A (max (frm l k) (d*86400+c-tof o l k),J):=by
 have:=jrq h hd hd2 hc hc2 hk hks hbef k 0 omg_
 simp only [j2r,jp2 h,ja,jgo,show F (D l+1)=((l.length+1:B):q) from rfl]
 rw [show (0:q)=((0:B):q) from rfl,this]
 rfl
omit h in
theorem jwg {n:q} (h1 : -1000000000000≤n) (h2:n≤1000000000000):jf5 n=A (n/86400,n%86400):=by
 obtain ⟨e,p1,p2,p3,p4⟩:=tdm n 86400 omg_
 simp only [jf5]
 rw [j5C (x:=u n 86400) omg_ omg_]
 by_cases hm:r n 86400<0
 ·rw [j00 hm,jc,j5C (x:=u n 86400-1) omg_ omg_,j5C (x:=(u n 86400-1)*86400) omg_ omg_,j5C omg_ omg_]
  have:n/86400=u n 86400-1:=omg_
  congr 2
  ·omega
  ·omega
 ·rw [j01 hm,jd,j5C (x:=u n 86400*86400) omg_ omg_,j5C omg_ omg_]
  congr 2
  ·omega
  ·omega
theorem jfe {t:q} {k:B} (hk:k≤l.length) (h1:frm l k≤t) (h2:t<frm l (k+1)):j0o (o,l) t=A ((t+tof o l k)/86400,(t+tof o l k)%86400):=by
 have o1:=h.of0 k hk;have o2:=h.of1 k hk
 have g1:0≤frm l k:=by have:=h.frm_le (i:=0) (j:=k) omg_ omg_;have e:frm l 0=0:=rfl;omega
 have hlast:frm l (l.length+1)=8589934593:=j5g
 have g2:=h.frm_le (i:=k+1) (j:=l.length+1) omg_ omg_
 simp only [j0o,juE h hk h1 h2,ja]
 rw [j5C (x:=t+tof o l k) omg_ omg_,jwg omg_ omg_]
 rfl
end
def j6R (x:q×q):TrL→TrL
 | []=>[x]
 | y::ys=>if x.1<y.1 then y::j6R x ys else x::y::ys
def j2M:TrL→TrL→TrL
 | [],acc=>acc
 | x::xs,acc=>j2M xs (j6R x acc)
def j35 (l:TrL):TrL:=(j2M l []).reverse
theorem jcU (x:q×q):∀ l,(j6R x l).length=l.length+1
 | []=>rfl
 | y::ys=>by unfold j6R;split<;>simp [jcU x ys]
theorem j7u:∀ (l acc:TrL),(j2M l acc).length=l.length+acc.length
 | [],acc=>by simp [j2M]
 | x::xs,acc=>by simp only [j2M,j7u xs,jcU,jp];omega
def Sm (l:TrL):Prop:=∀ x∈l, -1000000000000≤x.1∧x.1≤1000000000000
theorem jp3 {x:q×q} (hx : -1000000000000≤x.1∧x.1≤1000000000000):∀ {l:TrL},Sm l→Sm (j6R x l)
 | [],_=>fun y hy=>by simp [j6R] at hy;subst hy;exact hx
 | z::zs,h=>by
  unfold j6R
  split
  ·intro y hy
   rcases jl.1 hy with rfl | hy
   ·exact h _ smp_
   ·exact jp3 hx (l:=zs) (fun w hw=>h w (by simp [hw])) y hy
  ·intro y hy
   rcases jl.1 hy with rfl | hy
   ·exact hx
   ·exact h y hy
theorem jyd (rp mid:TrL) (x:q×q):(rp.reverse++x::mid).getD rp.length (0,0)=x:=by
 rw [E,ku smp_]
 simp
theorem jwW (n s8:q) (x:q×q) (hx : -1000000000000≤x.1∧x.1≤1000000000000):∀ (rp mid:TrL),Sm rp→rp.length+mid.length≤1000→
  j0A 0 n s8 (rp.length:q) (rp.reverse++x::mid)=A (0,n,s8,(j6R x rp).reverse++mid)
 | [],mid,_,_=>by
  rw [j1K]
  simp only [j0g]
  rw [j01 smp_,jd,j08]
  rfl
 | y::ys,mid,hsm,hlen=>by
  have hy:=hsm y smp_
  have hL:((y::ys).reverse++x::mid).length=ys.length+1+(mid.length+1):=sqo_
  simp only [jp] at hlen
  rw [j1K]
  simp only [j0g,jp]
  rw [j00 (show ((ys.length+1:B):q)>0 by omega),j1v omg_ (by rw [hL];omega),j07 (x:=((ys.length+1:B):q)-1),j1v omg_ (by rw [hL];omega)]
  simp only [jc,je]
  have g1:((y::ys).reverse++x::mid).getD (ys.length+1) ((0:q),(0:q))=x:=jyd (y::ys) mid x
  have g2:((y::ys).reverse++x::mid).getD ((((ys.length+1:B):q)-1).toNat) ((0:q),(0:q))=y:=by
   rw [show (((ys.length+1:B):q)-1).toNat=ys.length by omega]
   simp
  rw [g1,g2]
  simp only [j7e,ja]
  rw [j07 (x:=x.1-y.1)]
  by_cases hc:x.1<y.1
  ·rw [j00 (show x.1-y.1<0 by omega)]
   have hset:W (W ((y::ys).reverse++x::mid) (ys.length+1) (y.1,y.2)) ((((ys.length+1:B):q)-1).toNat) (x.1,x.2)=ys.reverse++x::(y::mid):=by
    rw [show (((ys.length+1:B):q)-1).toNat=ys.length by omega]
    simp
   rw [j1v omg_ (by rw [zt,hL];omega)]
   simp only [jc,j06,hset]
   have he:=jwW n s8 x hx ys (y::mid) (fun z hz=>hsm z (by simp [hz])) sqo_
   rw [show ((ys.length+1:B):q)-1=(ys.length:q) by omega,he]
   simp [j6R,hc]
  ·rw [j01 (show ¬ x.1-y.1<0 by omega)]
   simp only [jd,j08]
   simp [j6R,hc]
theorem jwX:∀ (xs rp:TrL),Sm rp→Sm xs→rp.length+xs.length≤1000→
  j0B 0 ((rp.length+xs.length:B):q) (rp.length:q) (rp.reverse++xs)=A (j2M xs rp).reverse
 | [],rp,_,_,_=>by
  rw [j0T]
  simp only [j0h]
  rw [j01 smp_,jd,j08]
  simp [j2M]
 | x::xs,rp,hr,hx,hlen=>by
  have hxx:=hx x smp_
  simp only [jp] at hlen
  have he:=jwW ((rp.length+(x::xs).length:B):q) (rp.length:q) x hxx rp xs hr omg_
  have ih:=jwX xs (j6R x rp) (jp3 hxx hr) (fun z hz=>hx z (by simp [hz])) (by rw [jcU];omega)
  rw [jcU] at ih
  rw [j0T]
  simp only [j0h]
  rw [j00 (by simp only [jp];omega),he]
  simp only [jc,ja,j2M]
  rw [show rp.length+1+xs.length=rp.length+(x::xs).length by simp;omega] at ih
  rw [j07,j06]
  exact ih
theorem jhr {l:TrL} (hs:Sm l) (hl:l.length<20):j0f l=A (j35 l):=by
 have hins:j0s l 0 (l.length:q)=A (j35 l):=by
  simp only [j0s]
  cases l with
  | nil=>
   rw [j0T]
   rfl
  | cons x xs=>
   have:=jwX xs [x] (fun z hz=>by simp at hz;subst hz;exact hs _ smp_) (fun z hz=>hs z (by simp [hz])) (by simp at hl ⊢;omega)
   rw [show w64 (0+1)=(([x]:TrL).length:q) from rfl,show ((x::xs).length:q)=(([x].length+xs.length:B):q) by simp;omega]
   rw [show (x::xs)=[x].reverse++xs from rfl,this]
   rfl
 have e0:j0X (l.length:q) 20 0 20 l=A ((l.length:q),20,0,l):=by
  rw [j5h]
  simp only [j0G]
  rw [j01 omg_,jd,j08]
 have e2:j0Y (l.length:q) 20 (j35 l)=A (j35 l):=by
  rw [j5i]
  simp only [j0H]
  rw [j01 omg_,jd,j08]
 simp only [j0f,j1S,show F (D l)=(l.length:q) from rfl,e0,ja,hins,e2]
def jng (y:q):Bool:=decide (y%4=0)&&(!decide (y%100=0)||decide (y%400=0))
def ja9 (y:q):Int:=if y%4=0∧(y%100≠0∨y%400=0) then 1 else 0
theorem jku (y:q):jng y=J↔y%4=0∧(y%100≠0∨y%400=0):=by simp [jng]
theorem jrr (y:q):ja9 y=if jng y then 1 else 0:=by
 unfold ja9
 by_cases h:jng y=J
 ·rw [if_pos ((jku y).1 h),if_pos h]
 ·rw [if_neg (fun h'=>h ((jku y).2 h')),if_neg h]
theorem jhs (y:q):0≤ja9 y∧ja9 y≤1:=by unfold ja9;split<;>omega
def dim (y m:q):Int:=
 if m<1∨12<m then 0 else if m=2 then 28+ja9 y else if m=4∨m=6∨m=9∨m=11 then 30 else 31
def cnt (y:q):Int:=365*(y-1970)+(y-1)/4-(y-1)/100+(y-1)/400-477
def cum (y m:q):Int:=
 if m≤1 then 0 else if m=2 then 31 else if m=3 then 59+ja9 y else if m=4 then 90+ja9 y else if m=5 then 120+ja9 y else if m=6 then 151+ja9 y
 else if m=7 then 181+ja9 y else if m=8 then 212+ja9 y else if m=9 then 243+ja9 y else if m=10 then 273+ja9 y else if m=11 then 304+ja9 y else if m=12 then 334+ja9 y else 365+ja9 y
def num (y m d:q):Int:=cnt y+cum y m+d-1
theorem jnh (y:q):cnt (y+1)=cnt y+365+ja9 y:=by
 unfold cnt ja9
 split<;>omega
theorem jaa {a b:q} (h:a≤b):cnt a+365*(b-a)≤cnt b:=by unfold cnt;omega
theorem jzg {a b:q} (h:a<b):cnt a<cnt b:=by have:=jaa (a:=a) (b:=b) omg_;omega
theorem jdO (y m:q) (h1:1≤m) (h2:m≤12):cum y (m+1)=cum y m+dim y m:=by
 obtain rfl | rfl | rfl | rfl | rfl | rfl | rfl | rfl | rfl | rfl | rfl | rfl:m=1∨m=2∨m=3∨m=4∨m=5∨m=6∨m=7∨m=8∨m=9∨m=10∨m=11∨m=12:=omg_
 all_goals (simp [cum,dim];try omega)
theorem j3y (y m:q):0≤dim y m∧dim y m≤31:=by
 have:=jhs y
 unfold dim;repeat' split
 all_goals omega
theorem jkv (y m:q) (h1:1≤m) (h2:m≤12):28≤dim y m:=by
 have:=jhs y
 unfold dim;rw [if_neg omg_];repeat' split
 all_goals omega
theorem jb1 (y m:q):0≤cum y m∧cum y m≤366:=by
 have:=jhs y
 unfold cum;omega
theorem juF (y:q):jhT y=A (jng y):=by
 have e:(cond (r y 4==(0:q)) (cond (r y 100 != (0:q)) J (r y 400==(0:q))) S)=jng y:=by
  unfold bne
  rw [jkr,jkr,jkr,O,jku]
  by_cases h1:y%4=0<;>by_cases h2:y%100=0<;>by_cases h3:y%400=0<;>simp [h1,h2,h3]
 exact qb A e
theorem jkw (y m:q):j6c y m=A (dim y m):=by
 by_cases h:m<1∨12<m
 ·have hc:cond (decide (m<(1:q))) J (decide (m>(12:q)))=true:=by
   rcases h with h | h<;>by_cases h1:m<1<;>simp [h1]<;>omega
  have:dim y m=0:=if_pos h
  rw [this]
  unfold j6c
  rw [hc];rfl
 ·obtain rfl | rfl | rfl | rfl | rfl | rfl | rfl | rfl | rfl | rfl | rfl | rfl:m=1∨m=2∨m=3∨m=4∨m=5∨m=6∨m=7∨m=8∨m=9∨m=10∨m=11∨m=12:=omg_
  case inr.inl=>
   simp only [j6c,juF,dim,jrr,ja]
   cases jng y<;>rfl
  all_goals rfl
theorem jwh (y m d:q):jap (y,m,d)=A (decide (1970≤y∧y≤2240∧1≤d∧d≤dim y m)):=by
 simp only [jap,jkw,ja]
 by_cases h1:1970≤y<;>by_cases h2:y≤2240<;>by_cases h3:1≤d<;>simp [h1,h2,h3]
theorem jj8 (a b:q) (hb:0<b) (h1 : -1000000000000≤a) (h2:a≤1000000000000):j7d a b=A (a/b):=by
 have hb0:(b==0)=false:=sqo_
 obtain ⟨e,p1,p2,p3,p4⟩:=tdm a b hb
 have hq : -1000000000000≤u a b∧u a b≤1000000000000:=by
  rcases Int.le_total 0 a with h | h
  ·have h0:0≤a/b:=yo h omg_
   have h3:a/b≤a:=yg b h
   rw [jdN h];omega
  ·have h0:0≤(-a)/b:=yo omg_ omg_
   have h3:(-a)/b ≤ -a:=yg b omg_
   have h4:u (-a) b=(-a)/b:=jdN omg_
   rw [Int.neg_tdiv] at h4;omega
 simp only [j7d,hb0,jt,jc]
 rw [j07 (x:=u a b)]
 by_cases hm:r a b<0
 ·rw [j00 hm,jc,j07]
  congr 1
  have:a/b=u a b-1:=by
   have h3:a=(a.tmod b+b)+b*(u a b-1):=by rw [Int.mul_sub];omega
   rw [h3,I _ _ omg_,G omg_ omg_]
   rw [←h3];omega
  omega
 ·rw [j01 hm,jd]
  congr 1
  have h3:a=a.tmod b+b*u a b:=omg_
  have:a/b=u a b:=by
   conv=>lhs;rw [h3]
   rw [I _ _ omg_,G omg_ omg_]
   omega
  omega
theorem jbO (y:q) (h1 : -1000000000≤y) (h2:y≤1000000000):j4v y=A (cnt y):=by
 simp only [j4v]
 rw [j07 (x:=y-1),j07 (x:=y-1970),jj8 _ 4 omg_ omg_ omg_,jj8 _ 100 omg_ omg_ omg_,jj8 _ 400 omg_ omg_ omg_]
 simp only [ja]
 simp (disch:=omega) only [j5C]
 rfl
theorem jp4 (y m d:q) (hm:m≤13):∀ (n:B) (s k:q),1≤k→k+n=m → -1000000000000≤s→s+31*n≤1000000000000→j7G s k y m d=A (s+cum y m-cum y k)
 | 0,s,k,hk,hn,_,_=>by
  rw [jbl]
  have:k=m:=omg_
  subst this
  simp only [j3o,j01 (show ¬ k<k by omega),jd,j08]
  congr 1;omega
 | n+1,s,k,hk,hn,h1,h2=>by
  rw [jbl]
  have hd:=j3y y k
  have hc:=jdO y k hk omg_
  simp only [j3o,jkw,ja,j00 (show k<m by omega),jc,j06]
  rw [j07 (x:=s+dim y k),j07 (x:=k+1)]
  have ih:=jp4 y m d hm n (s+dim y k) (k+1) omg_ omg_ omg_ omg_
  rw [ih]
  congr 1;omega
theorem juG (y m d:q) (h1 : -1000000≤y) (h2:y≤1000000) (hm1:1≤m) (hm2:m≤12) (hd1 : -1000000≤d) (hd2:d≤1000000):jbm (y,m,d)=A (num y m d):=by
 have hb : -1000000000≤cnt y∧cnt y≤1000000000:=by unfold cnt;omega
 simp only [jbm,jbO y omg_ omg_,ja]
 rw [j07 (x:=cnt y+d),j07,jp4 y m d omg_ (m-1).toNat _ 1 omg_ omg_ omg_ omg_]
 have:cum y 1=0:=rfl
 simp only [ja,num]
 congr 1;omega
theorem jlQ (day:q):j54 day=A ((r day 7+10)%7):=by
 obtain ⟨e,p1,p2,p3,p4⟩:=tdm day 7 omg_
 simp only [j54]
 rw [j07,jgn omg_]
theorem jff (day:q) (_h : -3≤day):j54 day=A ((day+3)%7):=by
 rw [jlQ]
 congr 1
 obtain ⟨e,p1,p2,p3,p4⟩:=tdm day 7 omg_
 omega
def jiS (y m d:q):Prop:=1970≤y∧y≤2240∧1≤d∧d≤dim y m
instance (y m d:q):L (jiS y m d):=by unfold jiS;infer_instance
theorem jb2 {y m d:q} (h:jiS y m d):1≤m∧m≤12:=by
 obtain ⟨_,_,h3,h4⟩:=h
 by_cases hm:m<1∨12<m
 ·have:dim y m=0:=if_pos hm
  omega
 ·omega
theorem juH {y m d:q}:decide (1970≤y∧y≤2240∧1≤d∧d≤dim y m)=decide (jiS y m d):=rfl
theorem jb3 {y m d:q} (h:jiS y m d):0≤num y m d∧num y m d<98981:=by
 have hm:=jb2 h
 obtain ⟨h1,h2,h3,h4⟩:=h
 have hc:=jb1 y m
 have c1:=jaa (a:=1970) (b:=y) omg_
 have c2:=jaa (a:=y) (b:=2240) omg_
 have e1:cnt 1970=0:=by decide
 have hd:=j3y y m
 have e2:cnt 2240=98615:=by decide
 have hcs:cum y m+dim y m≤365+ja9 y:=by
  have:=jdO y m hm.1 hm.2
  have:cum y (m+1)≤365+ja9 y:=by have:=jhs y;unfold cum;omega
  omega
 have c3:=jnh y
 have c4:=jaa (a:=y+1) (b:=2241) omg_
 have e3:cnt 2241=98981:=by decide
 unfold num;omega
theorem juI:cnt 1970=0:=by decide
theorem jqB:cnt 2241=98981:=by decide
def nth (y m k w:q):Int:=
 let d:=num y m 1+(w-(num y m 1+3)%7+7)%7+7*(k-1)
 if d≥num y m 1+dim y m then d-7 else d
theorem jal (y m:q) (h1:1970≤y) (h2:y≤2240) (hm1:1≤m) (hm2:m≤12):jiS y m 1:=⟨h1,h2,omg_,by have:=jkv y m hm1 hm2;omega⟩
theorem jzh (y m k w:q) (h1:1970≤y) (h2:y≤2240) (hm1:1≤m) (hm2:m≤12) (hk1:1≤k) (hk2:k≤5) (hw1:0≤w) (hw2:w≤6):jgQ y m k w=A (nth y m k w,0):=by
 have hv:=jal y m h1 h2 hm1 hm2
 have hr:=jb3 hv
 have hd:=j3y y m
 have hVal:jap (y,m,1)=A true:=by rw [jwh,juH,decide_eq_true hv]
 simp only [jgQ,hVal,ja,jk,jd]
 rw [j01 (show ¬ k<1 by omega),j01 (show ¬ k>5 by omega),j01 (show ¬ w<0 by omega),j01 (show ¬ w>6 by omega)]
 simp only [jd,juG y m 1 omg_ omg_ hm1 hm2 omg_ omg_,ja,jff _ (show -3≤num y m 1 by omega),jkw]
 generalize hn:num y m 1=n at *
 have hm7:0≤(n+3)%7∧(n+3)%7≤6:=omg_
 rw [j07 (x:=w-(n+3)%7),j07 (x:=w-(n+3)%7+7),jgn (show 0≤w-(n+3)%7+7 by omega)]
 rw [j07 (x:=k-1),j07 (x:=7*(k-1))]
 rw [j07 (x:=n+(w-(n+3)%7+7)%7),j07 (x:=n+(w-(n+3)%7+7)%7+7*(k-1)),j07 (x:=n+dim y m)]
 unfold nth
 simp only [hn]
 by_cases hc:n+(w-(n+3)%7+7)%7+7*(k-1)≥n+dim y m
 ·rw [j00 hc,jc,if_pos hc,j07]
 ·rw [j01 hc,jd,if_neg hc]
def DOk (l:M q) (a:q):Prop:=0≤a∧a≤(l.length:q)∧l.length≤1000000
theorem j0K {l:M q} {a n:q} (h:DOk l a) (hn:1≤n) (hn2:n≤1000000000000):∃ x a',j02 l a n=A (x,l,a')∧0≤x∧x<n∧DOk l a':=by
 obtain ⟨h1,h2,h3⟩:=h
 simp only [j02,show F (D l)=(l.length:q) from rfl]
 by_cases ha:a≥(l.length:q)
 ·rw [j00 ha,jc]
  exact ⟨0,a,rfl,omg_,omg_,h1,h2,h3⟩
 ·rw [j01 ha,jd,j01 (show ¬ n<1 by omega),jd,j1v h1 omg_,jc,j2q (show n≠0 by omega)]
  obtain ⟨e,p1,p2,p3,p4⟩:=tdm (l.getD a.toNat 0) n omg_
  rw [j07 (x:=a+1)]
  simp only [jt,jc]
  by_cases ht:r (l.getD a.toNat 0) n<0
  ·rw [j00 ht,jc,j07]
   exact ⟨_,_,rfl,omg_,omg_,omg_,omg_,h3⟩
  ·rw [j01 ht,jd]
   exact ⟨_,_,rfl,omg_,omg_,omg_,omg_,h3⟩
theorem j8a {l:M q} {a:q} (h:DOk l a) {xs:M q} (hx0:0<xs.length) (hx1:xs.length≤1000000):∃ x a',j0a l a xs=A (x,l,a')∧x∈xs∧DOk l a':=by
 obtain ⟨x,a',e,h1,h2,h3⟩:=j0K (n:=(xs.length:q)) h omg_ omg_
 simp only [j0a,show F (D xs)=(xs.length:q) from rfl,e,ja]
 rw [j1v h1 omg_,jc]
 have hlt:x.toNat<xs.length:=omg_
 refine ⟨_,_,rfl,?_,h3⟩
 rw [E,jv hlt]
 exact jx hlt
theorem juJ:jf6=A true:=by kernel_rfl
end Go.Proofs.Pw
