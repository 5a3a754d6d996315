/- Small facts on Go's division. -/
import Derived.Test.YtpbnnhakjhalaaaGreatELLD
import Derived.Test.YtpbnnhakjhalaaaGreatELFns
open Go Go.Lft
namespace Go.Proofs.Pw
theorem tdm (a b:Int) (hb:0<b):b*Int.tdiv a b+Int.tmod a b=a∧(0≤a→0≤Int.tmod a b)∧(a≤0→Int.tmod a b≤0)∧Int.tmod a b<b ∧ -b<Int.tmod a b:=by
 have h1:=Int.mul_tdiv_add_tmod a b
 have h2:0≤a→0≤Int.tmod a b:=fun h=>Int.tmod_nonneg b h
 have h3:a≤0→Int.tmod a b≤0:=fun h=>by
  have:=Int.tmod_nonneg (a:= -a) b (by omega)
  rw [Int.neg_tmod] at this;omega
 have h4:=Int.tmod_lt_of_pos a hb
 have h5 : -b<Int.tmod a b:=by
  have:=Int.tmod_lt_of_pos (-a) hb
  rw [Int.neg_tmod] at this;omega
 exact ⟨h1,h2,h3,h4,h5⟩
theorem jcy {a b:Int} (ha:0≤a):Int.tdiv a b=a/b:=qw ha
theorem jmh {a b:Int} (ha:0≤a):Int.tmod a b=a%b:=Int.tmod_eq_emod_of_nonneg ha
theorem jcz (a b:Int):(Int.tmod a b==0)=(a%b==0):=by
 rw [Bool.eq_iff_iff]
 simp only [qf]
 rw [←Int.dvd_iff_tmod_eq_zero,←Int.dvd_iff_emod_eq_zero]
theorem j01 {p:Prop} [Decidable p] (h:p):decide p=true:=zf h
theorem j00 {p:Prop} [Decidable p] (h:¬ p):decide p=false:=decide_eq_false h
theorem j9D {a b:Int} (h:a=b):(a==b)=true:=by simp [h]
theorem j4u {a b:Int} (h:a≠b):(a==b)=false:=by simp [h]
theorem j1M {i:Int} {n:Nat} (h1:0≤i) (h2:i<n):inR i n=true:=by simp [inR,h1,h2]
def jaR (ks:List ByteArray):List (ByteArray×Bool):=ks.map fun k=>(k,true)
def NmL (ks:List ByteArray):Prop:=ks.Nodup∧∀ k∈ks,j5R k=some true
theorem jpx {s:ByteArray}:∀ {l:List ByteArray},s∉l→jbA false (jaR l) s=false∧jar (jaR l) s true=jaR (l++[s])
 | [],_=>⟨rfl,rfl⟩
 | k::l,h=>by
  simp only [je,not_or] at h
  obtain ⟨h1,h2⟩:=jpx (l:=l) h.2
  have hb:(s==k)=false:=qb.2 fun hh=>h.1 ((MapKept.bytes_beq s k).1 hh)
  refine ⟨?_,?_⟩
  ·show cond (s==k) true (jbA false (jaR l) s)=false
   rw [hb];exact h1
  ·show cond (s==k) ((s,true)::jaR l) ((k,true)::jar (jaR l) s true)=_
   rw [hb,j6,h2];rfl
theorem jhq {α:Type} (f:α→ByteArray) {xs:List α} (h:NmL (xs.map f)) {i:Nat} (hi:i<xs.length):j2T (f xs[i]) (jaR ((xs.take i).map f))=some (0,jaR ((xs.take (i+1)).map f)):=by
 have hm:f xs[i]∈xs.map f:=List.mem_map_of_mem (jf hi)
 have hn:f xs[i]∉(xs.take i).map f:=by
  intro hx
  have hs:xs.map f=(xs.take i).map f++(f xs[i]::(xs.drop (i+1)).map f):=by
   rw [←ku,←qv,List.getElem_cons_drop hi,q7]
  have:=h.1
  rw [hs,kx] at this
  exact this.2.2 _ hx _ (by simp) rfl
 obtain ⟨h1,h2⟩:=jpx hn
 simp only [j2T,h.2 _ hm,j3,jd,j6,h1,h2]
 rw [List.take_add_one,jo hi,qv]
 rfl
abbrev TrL:=List (Int×Int)
def tat (l:TrL) (i:Nat):Int:=(l.getD i (0,0)).1
def tof (o:Int) (l:TrL) (i:Nat):Int:=if i=0 then o else (l.getD (i-1) (0,0)).2
def frm (l:TrL) (i:Nat):Int:=if i=0 then 0 else if i≤l.length then tat l (i-1) else 8589934593
structure TOk (o:Int) (l:TrL):Prop where
 len:l.length≤1000
 gap:∀ i,i+1<l.length→tat l i+604800≤tat l (i+1)
 pos:∀ i,i<l.length→1000000<tat l i
 max:∀ i,i<l.length→tat l i≤8589000000
 of0:∀ i,i≤l.length → -64800≤tof o l i
 of1:∀ i,i≤l.length→tof o l i≤64800
section
variable {o:Int} {l:TrL} (h:TOk o l)
include h
theorem TOk.at_lt:∀ (k i:Nat),i+k+1<l.length→tat l i+604800≤tat l (i+k+1)
 | 0,i,hk=>h.gap i hk
 | k+1,i,hk=>by
  have h1:=TOk.at_lt k i (by omega)
  have h2:=h.gap (i+k+1) (by omega)
  rw [show i+(k+1)+1=i+k+1+1 by omega]
  omega
theorem TOk.at_le {i j:Nat} (hij:i<j) (hj:j<l.length):tat l i+604800≤tat l j:=by
 have:=h.at_lt (j-i-1) i (by omega)
 rwa [show i+(j-i-1)+1=j by omega] at this
omit h in
theorem frm0:frm l 0=0:=rfl
omit h in
theorem jnX {i:Nat} (hi:i<l.length):frm l (i+1)=tat l i:=by
 unfold frm
 rw [if_neg (Nat.succ_ne_zero i),if_pos (show i+1≤l.length by omega)];rfl
omit h in
theorem jdY:frm l (l.length+1)=8589934593:=by
 unfold frm
 rw [if_neg (Nat.succ_ne_zero _),if_neg (show ¬ l.length+1≤l.length by omega)]
theorem TOk.frm_lt {i:Nat} (hi:i≤l.length):frm l i<frm l (i+1):=by
 rcases qe i l.length with hl | hl
 ·rw [jnX hl]
  cases i with
  | zero=>rw [frm0];exact (by have:=h.pos 0 hl;omega)
  | succ i=>
   rw [jnX (by omega)]
   have:=h.gap i hl;omega
 ·have:i=l.length:=by omega
  subst this
  rw [jdY]
  cases hq:l.length with
  | zero=>rw [frm0];omega
  | succ n=>
   rw [jnX (by omega)]
   have:=h.max n (by omega);omega
theorem TOk.frm_le {i j:Nat} (hij:i≤j) (hj:j≤l.length+1):frm l i≤frm l j:=by
 induction j with
 | zero=>have:i=0:=by omega
         subst this;omega
 | succ j ih=>
  by_cases he:i=j+1
  ·subst he;omega
  ·have h1:=ih (by omega) (by omega)
   have h2:=h.frm_lt (i:=j) (by omega)
   omega
theorem jhr {t:Int} {k:Nat} (hk:k≤l.length) (hlo:∀ i,i<k→tat l i≤t) (hhi:∀ i,k≤i→i<l.length→t<tat l i) :
  ∀ (n:Nat) (a b:Nat),b-a≤n→a≤k→k≤b→b≤l.length→j4Y o l t (a:Int) (b:Int)=some (k:Int)
 | 0,a,b,hn,ha,hb,hbl=>by
  rw [jaJ]
  simp only [j2L,j00 (show ¬ (a:Int)<(b:Int) by omega),j6,j0j]
  congr 1;omega
 | n+1,a,b,hn,ha,hb,hbl=>by
  have hlen:=h.len
  rw [jaJ]
  by_cases hab:a<b
  ·have hm:IntKind.wrap .u64 ((a:Int)+(b:Int))=(a:Int)+(b:Int):=IntWalk.u64_in _ ⟨by omega,by omega⟩
   have hd:Int.fdiv ((a:Int)+(b:Int)) 2=(((a+b)/2:Nat):Int):=by
    rw [Int.fdiv_eq_ediv_of_nonneg _ (by omega)];omega
   simp only [j2L,j01 (show (a:Int)<(b:Int) by omega),j5]
   rw [j02 (x:=(a:Int)+(b:Int)) (by omega) (by omega),hm,hd,j02 (x:=(((a+b)/2:Nat):Int)) (by omega) (by omega)]
   simp only [j6z]
   rw [j1M (by omega) (by omega)]
   simp only [j5,j3,j7]
   by_cases hc:tat l ((a+b)/2)>t
   ·rw [j01 (show (l.getD ((a+b)/2) ((0:Int),(0:Int))).1>t from hc)]
    simp only [jd,j6,j0b]
    have hkm:k≤(a+b)/2:=by
     rcases qe ((a+b)/2) k with h' | h'
     ·have:=hlo _ h';omega
     ·exact h'
    exact jhr hk hlo hhi n a ((a+b)/2) (by omega) ha hkm (by omega)
   ·rw [j00 (show ¬ (l.getD ((a+b)/2) ((0:Int),(0:Int))).1>t from hc)]
    simp only [kn,j5,j0b]
    rw [j02 (by omega) (by omega)]
    have hkm:(a+b)/2<k:=by
     rcases qe ((a+b)/2) k with h' | h'
     ·exact h'
     ·have:=hhi _ h' (by omega);omega
    exact jhr hk hlo hhi n ((a+b)/2+1) b (by omega) (by omega) hb hbl
  ·simp only [j2L,j00 (show ¬ (a:Int)<(b:Int) by omega),j6,j0j]
   congr 1;omega
theorem jn0 {t:Int} {k:Nat} (hk:k≤l.length) (h1:frm l k≤t) (h2:t<frm l (k+1)):j2G (o,l) t=some (k:Int):=by
 have hlo:∀ i,i<k→tat l i≤t:=by
  intro i hi
  have:frm l k=tat l (k-1):=by
   have:=jnX (l:=l) (i:=k-1) (by omega)
   rwa [show k-1+1=k by omega] at this
  rw [this] at h1
  by_cases he:i=k-1
  ·subst he;exact h1
  ·have:=h.at_le (i:=i) (j:=k-1) (by omega) (by omega);omega
 have hhi:∀ i,k≤i→i<l.length→t<tat l i:=by
  intro i hi hl
  have:frm l (k+1)=tat l k:=jnX (by omega)
  rw [this] at h2
  by_cases he:i=k
  ·subst he;exact h2
  ·have:=h.at_le (i:=k) (j:=i) (by omega) hl;omega
 have:=jhr h hk hlo hhi l.length 0 l.length (by omega) (by omega) hk (by omega)
 simp only [j2G,j7I,show Int.ofNat (List.length l)=(l.length:Int) from rfl]
 rw [show (0:Int)=((0:Nat):Int) from rfl,this]
 rfl
theorem jlc {k:Nat} (hk:k≤l.length):j3q (o,l) (k:Int)=some (tof o l k):=by
 have hlen:=h.len
 unfold tof
 by_cases h0:k=0
 ·subst h0;rfl
 ·simp only [j3q]
  rw [j4u (show (k:Int)≠0 by omega),j6,j02 (by omega) (by omega),j1M (by omega) (by omega),show ((k:Int)-1).toNat=k-1 by omega,if_neg h0]
  rfl
theorem jpy {t:Int} {k:Nat} (hk:k≤l.length) (h1:frm l k≤t) (h2:t<frm l (k+1)):j2N (o,l) t=some (tof o l k):=by
 simp only [j2N,jn0 h hk h1 h2,j3,jlc h hk]
theorem jn1 {t:Int} (h0:0≤t) (h1:t≤8589934592):∃ k,k≤l.length∧frm l k≤t∧t<frm l (k+1):=by
 have _:=h
 have:∀ n,n≤l.length+1→t<frm l n→∃ k,k<n∧frm l k≤t∧t<frm l (k+1):=by
  intro n
  induction n with
  | zero=>intro _ hn;have:frm l 0=0:=rfl
          omega
  | succ n ih=>
   intro hn hlt
   by_cases hc:frm l n≤t
   ·exact ⟨n,by omega,hc,hlt⟩
   ·obtain ⟨k,a1,a2,a3⟩:=ih (by omega) (by omega)
    exact ⟨k,by omega,a2,a3⟩
 have hlast:frm l (l.length+1)=8589934593:=jdY
 obtain ⟨k,a1,a2,a3⟩:=this (l.length+1) (by omega) (by omega)
 exact ⟨k,by omega,a2,a3⟩
def pc (o:Int) (l:TrL) (i:Nat):Int×(Int×Int):=(frm l i,(frm l (i+1),tof o l i))
def pcs (o:Int) (l:TrL) (n:Nat):List (Int×(Int×Int)):=(List.range n).map (pc o l)
omit h in
theorem jn2 (n:Nat):pcs o l (n+1)=pcs o l n++[pc o l n]:=by simp [pcs,List.range_succ]
omit h in
theorem jdZ (n:Nat):(pcs o l n).length=n:=by simp [pcs]
omit h in
theorem jmi {n i:Nat} (hi:i<n):(pcs o l n).getD i ((0:Int),((0:Int),(0:Int)))=pc o l i:=by
 simp [pcs,List.getD,hi]
theorem jld:∀ (n k:Nat),k+n=l.length+1→j1W (frm l k) 8589934593 o l (pcs o l k)=some (pcs o l (l.length+1))
 | 0,k,hk=>by
  have hlast:frm l k=8589934593:=by rw [show k=l.length+1 by omega];exact jdY
  rw [j6V,hlast]
  simp only [j0N]
  rw [j00 (by omega),j6,j0j,show k=l.length+1 by omega]
 | n+1,k,hk=>by
  have hlen:=h.len
  have hkl:k≤l.length:=by omega
  have hlt:=h.frm_lt hkl
  have hle:=h.frm_le (i:=k+1) (j:=l.length+1) (by omega) (by omega)
  have hlast:frm l (l.length+1)=8589934593:=jdY
  have ih:=jld n (k+1) (by omega)
  rw [j6V]
  simp only [j0N]
  rw [j01 (show frm l k<8589934593 by omega),jn0 h hkl (by omega) hlt]
  simp only [j5,j3,show Int.ofNat (List.length l)=(l.length:Int) from rfl,jlc h hkl]
  by_cases hlast2:k<l.length
  ·rw [j01 (show (k:Int)<(l.length:Int) by omega),j1M (by omega) (by omega)]
   simp only [j5,j7]
   have hto:(if (l.getD k ((0:Int),(0:Int))).1<8589934593 then (l.getD k ((0:Int),(0:Int))).1 else 8589934593)=frm l (k+1):=by
    have hf:frm l (k+1)=tat l k:=jnX hlast2
    have:=h.max k hlast2
    rw [hf,if_pos (show (l.getD k ((0:Int),(0:Int))).1<8589934593 by show tat l k<_;omega)]
    rfl
   rw [hto,j01 (by rw [jdZ];simp [j0m];omega)]
   simp only [j5,j0b]
   rw [jn2] at ih
   exact ih
  ·rw [j00 (show ¬ (k:Int)<(l.length:Int) by omega)]
   simp only [j6]
   rw [j01 (by rw [jdZ];simp [j0m];omega)]
   simp only [j5,j0b]
   have hk':k=l.length:=by omega
   rw [jn2] at ih
   unfold pc at ih
   rw [show k+1=l.length+1 by omega,hlast] at ih
   exact ih
theorem jle:j2M (o,l) 0 8589934593=some (pcs o l (l.length+1)):=by
 have:=jld h (l.length+1) 0 (by omega)
 simp only [j2M]
 rw [show j1W 0 8589934593 o l []=_ from this]
 rfl
def Sol (o:Int) (l:TrL) (s:Int) (i:Nat):Prop:=frm l i≤s-tof o l i∧s-tof o l i<frm l (i+1)
instance (o:Int) (l:TrL) (s:Int) (i:Nat):Decidable (Sol o l s i):=by unfold Sol;infer_instance
omit h in
theorem jfq {d c:Int} (hd : -1000000≤d) (hd2:d≤1000000) (hc : -86400≤c) (hc2:c≤172800):j3l (d,c)=some (d*86400+c):=by
 simp only [j3l]
 rw [if_neg (show ¬ (-1048576:Int)>d by omega),if_neg (show ¬ (1048576:Int)<d by omega),j02 (x:=d*86400) (by omega) (by omega),j02 (by omega) (by omega)]
theorem jn3 {d c:Int} (hd : -1000000≤d) (hd2:d≤1000000) (hc : -86400≤c) (hc2:c≤172800) {k:Nat} (hk:k≤l.length) (hks:d*86400+c-tof o l k<frm l (k+1)) (hbef:∀ j,j<k→frm l (j+1)≤d*86400+c-tof o l j) :
  ∀ (n i:Nat),i+n=k→j2a ((l.length+1:Nat):Int) (i:Int) d c (pcs o l (l.length+1))=some (.inl (max (frm l k) (d*86400+c-tof o l k),true))
 | 0,i,hi=>by
  have hlen:=h.len
  have:i=k:=by omega
  subst this
  have o1:=h.of0 i hk;have o2:=h.of1 i hk
  have hlt:=h.frm_lt hk
  rw [j3y]
  simp only [j1i]
  rw [j01 (show (i:Int)<((l.length+1:Nat):Int) by omega),j1M (by omega) (by rw [jdZ];omega)]
  simp only [j5,j7,jmi (show i<l.length+1 by omega),jfq hd hd2 hc hc2,j3,pc]
  rw [j02 (x:=d*86400+c-tof o l i) (by omega) (by omega)]
  have hm:(if d*86400+c-tof o l i>frm l i then d*86400+c-tof o l i else frm l i)=max (frm l i) (d*86400+c-tof o l i):=by split<;>omega
  rw [hm,j01 (by omega),j5,j0j]
 | n+1,i,hi=>by
  have hlen:=h.len
  have hil:i≤l.length:=by omega
  have o1:=h.of0 i hil;have o2:=h.of1 i hil
  have hb:=hbef i (by omega)
  rw [j3y]
  simp only [j1i]
  rw [j01 (show (i:Int)<((l.length+1:Nat):Int) by omega),j1M (by omega) (by rw [jdZ];omega)]
  simp only [j5,j7,jmi (show i<l.length+1 by omega),jfq hd hd2 hc hc2,j3,pc]
  rw [j02 (x:=d*86400+c-tof o l i) (by omega) (by omega),j02 (x:=(i:Int)+1) (by omega) (by omega)]
  have hm:(if d*86400+c-tof o l i>frm l i then d*86400+c-tof o l i else frm l i)=max (frm l i) (d*86400+c-tof o l i):=by split<;>omega
  rw [hm,j00 (by omega),j6,j0b]
  exact jn3 hd hd2 hc hc2 hk hks hbef n (i+1) (by omega)
theorem jqP {d c:Int} (hd : -1000000≤d) (hd2:d≤1000000) (hc : -86400≤c) (hc2:c≤172800) {k:Nat} (hk:k≤l.length) (hks:d*86400+c-tof o l k<frm l (k+1)) (hbef:∀ j,j<k→frm l (j+1)≤d*86400+c-tof o l j) :
  j1v (o,l) (d,c)=some (max (frm l k) (d*86400+c-tof o l k),true):=by
 have:=jn3 h hd hd2 hc hc2 hk hks hbef k 0 (by omega)
 simp only [j1v,jle h,j3,jdZ,show Int.ofNat (List.length l+1)=((l.length+1:Nat):Int) from rfl]
 rw [show (0:Int)=((0:Nat):Int) from rfl,this]
 rfl
omit h in
theorem jqQ {n:Int} (h1 : -1000000000000≤n) (h2:n≤1000000000000):jcM n=some (n/86400,n%86400):=by
 obtain ⟨e,p1,p2,p3,p4⟩:=tdm n 86400 (by omega)
 simp only [jcM]
 rw [j02 (x:=Int.tdiv n 86400) (by omega) (by omega)]
 by_cases hm:Int.tmod n 86400<0
 ·rw [j01 hm,j5,j02 (x:=Int.tdiv n 86400-1) (by omega) (by omega),j02 (x:=(Int.tdiv n 86400-1)*86400) (by omega) (by omega),j02 (by omega) (by omega)]
  have:n/86400=Int.tdiv n 86400-1:=by omega
  congr 2
  ·omega
  ·omega
 ·rw [j00 hm,j6,j02 (x:=Int.tdiv n 86400*86400) (by omega) (by omega),j02 (by omega) (by omega)]
  congr 2
  ·omega
  ·omega
theorem jn4 {t:Int} {k:Nat} (hk:k≤l.length) (h1:frm l k≤t) (h2:t<frm l (k+1)):j0y (o,l) t=some ((t+tof o l k)/86400,(t+tof o l k)%86400):=by
 have o1:=h.of0 k hk;have o2:=h.of1 k hk
 have g1:0≤frm l k:=by have:=h.frm_le (i:=0) (j:=k) (by omega) (by omega);have e:frm l 0=0:=rfl;omega
 have hlast:frm l (l.length+1)=8589934593:=jdY
 have g2:=h.frm_le (i:=k+1) (j:=l.length+1) (by omega) (by omega)
 simp only [j0y,jpy h hk h1 h2,j3]
 rw [j02 (x:=t+tof o l k) (by omega) (by omega),jqQ (by omega) (by omega)]
 rfl
end
def j7w (x:Int×Int):TrL→TrL
 | []=>[x]
 | y::ys=>if x.1<y.1 then y::j7w x ys else x::y::ys
def j32:TrL→TrL→TrL
 | [],acc=>acc
 | x::xs,acc=>j32 xs (j7w x acc)
def j60 (l:TrL):TrL:=(j32 l []).reverse
theorem jaS (x:Int×Int):∀ l,(j7w x l).length=l.length+1
 | []=>rfl
 | y::ys=>by unfold j7w;split<;>simp [jaS x ys]
theorem ja9:∀ (l acc:TrL),(j32 l acc).length=l.length+acc.length
 | [],acc=>by simp [j32]
 | x::xs,acc=>by simp only [j32,ja9 xs,jaS,jy];omega
def Sm (l:TrL):Prop:=∀ x∈l, -1000000000000≤x.1∧x.1≤1000000000000
theorem jlf {x:Int×Int} (hx : -1000000000000≤x.1∧x.1≤1000000000000):∀ {l:TrL},Sm l→Sm (j7w x l)
 | [],_=>fun y hy=>by simp [j7w] at hy;subst hy;exact hx
 | z::zs,h=>by
  unfold j7w
  split
  ·intro y hy
   rcases je.1 hy with rfl | hy
   ·exact h _ (by simp)
   ·exact jlf hx (l:=zs) (fun w hw=>h w (by simp [hw])) y hy
  ·intro y hy
   rcases je.1 hy with rfl | hy
   ·exact hx
   ·exact h y hy
theorem js8 (rp mid:TrL) (x:Int×Int):(rp.reverse++x::mid).getD rp.length (0,0)=x:=by
 rw [List.getD_eq_getElem?_getD,jt (by simp)]
 simp
theorem jrc (n s8:Int) (x:Int×Int) (hx : -1000000000000≤x.1∧x.1≤1000000000000):∀ (rp mid:TrL),Sm rp→rp.length+mid.length≤1000→
  j0f 0 n s8 (rp.length:Int) (rp.reverse++x::mid)=some (0,n,s8,(j7w x rp).reverse++mid)
 | [],mid,_,_=>by
  rw [j1V]
  simp only [j0k]
  rw [j00 (by simp),j6,j0j]
  rfl
 | y::ys,mid,hsm,hlen=>by
  have hy:=hsm y (by simp)
  have hL:((y::ys).reverse++x::mid).length=ys.length+1+(mid.length+1):=by simp;omega
  simp only [jy] at hlen
  rw [j1V]
  simp only [j0k,jy]
  rw [j01 (show ((ys.length+1:Nat):Int)>0 by omega),j1M (by omega) (by rw [hL];omega),j02 (x:=((ys.length+1:Nat):Int)-1) (by omega) (by omega),j1M (by omega) (by rw [hL];omega)]
  simp only [j5,j7]
  have g1:((y::ys).reverse++x::mid).getD (ys.length+1) ((0:Int),(0:Int))=x:=js8 (y::ys) mid x
  have g2:((y::ys).reverse++x::mid).getD ((((ys.length+1:Nat):Int)-1).toNat) ((0:Int),(0:Int))=y:=by
   rw [show (((ys.length+1:Nat):Int)-1).toNat=ys.length by omega]
   simp
  rw [g1,g2]
  simp only [j6y,j3]
  rw [j02 (x:=x.1-y.1) (by omega) (by omega)]
  by_cases hc:x.1<y.1
  ·rw [j01 (show x.1-y.1<0 by omega)]
   have hset:List.set (List.set ((y::ys).reverse++x::mid) (ys.length+1) (y.1,y.2)) ((((ys.length+1:Nat):Int)-1).toNat) (x.1,x.2)=ys.reverse++x::(y::mid):=by
    rw [show (((ys.length+1:Nat):Int)-1).toNat=ys.length by omega]
    simp
   rw [j1M (by omega) (by rw [qu,hL];omega)]
   simp only [j5,j0b,hset]
   have he:=jrc n s8 x hx ys (y::mid) (fun z hz=>hsm z (by simp [hz])) (by simp;omega)
   rw [show ((ys.length+1:Nat):Int)-1=(ys.length:Int) by omega,he]
   simp [j7w,hc]
  ·rw [j00 (show ¬ x.1-y.1<0 by omega)]
   simp only [j6,j0j]
   simp [j7w,hc]
theorem jrd:∀ (xs rp:TrL),Sm rp→Sm xs→rp.length+xs.length≤1000→
  j0g 0 ((rp.length+xs.length:Nat):Int) (rp.length:Int) (rp.reverse++xs)=some (j32 xs rp).reverse
 | [],rp,_,_,_=>by
  rw [j0W]
  simp only [j07]
  rw [j00 (by simp),j6,j0j]
  simp [j32]
 | x::xs,rp,hr,hx,hlen=>by
  have hxx:=hx x (by simp)
  simp only [jy] at hlen
  have he:=jrc ((rp.length+(x::xs).length:Nat):Int) (rp.length:Int) x hxx rp xs hr (by omega)
  have ih:=jrd xs (j7w x rp) (jlf hxx hr) (fun z hz=>hx z (by simp [hz])) (by rw [jaS];omega)
  rw [jaS] at ih
  rw [j0W]
  simp only [j07]
  rw [j01 (by simp only [jy];omega),he]
  simp only [j5,j3,j32]
  rw [show rp.length+1+xs.length=rp.length+(x::xs).length by simp;omega] at ih
  rw [j02 (by omega) (by omega),j0b]
  exact ih
theorem jjK {l:TrL} (hs:Sm l) (hl:l.length<20):j08 l=some (j60 l):=by
 have hins:j0a l 0 (l.length:Int)=some (j60 l):=by
  simp only [j0a]
  cases l with
  | nil=>
   rw [j0W]
   rfl
  | cons x xs=>
   have:=jrd xs [x] (fun z hz=>by simp at hz;subst hz;exact hs _ (by simp)) (fun z hz=>hs z (by simp [hz])) (by simp at hl ⊢;omega)
   rw [show w64 (0+1)=(([x]:TrL).length:Int) from rfl,show ((x::xs).length:Int)=(([x].length+xs.length:Nat):Int) by simp;omega]
   rw [show (x::xs)=[x].reverse++xs from rfl,this]
   rfl
 have e0:j0v (l.length:Int) 20 0 20 l=some ((l.length:Int),20,0,l):=by
  rw [j4K]
  simp only [j0d]
  rw [j00 (by omega),j6,j0j]
 have e2:j0w (l.length:Int) 20 (j60 l)=some (j60 l):=by
  rw [j4L]
  simp only [j0e]
  rw [j00 (by omega),j6,j0j]
 simp only [j08,j0H,show Int.ofNat (List.length l)=(l.length:Int) from rfl,e0,j3,hins,e2]
def jjL (y:Int):Bool:=decide (y%4=0)&&(!decide (y%100=0)||decide (y%400=0))
def jap (y:Int):Int:=if y%4=0∧(y%100≠0∨y%400=0) then 1 else 0
theorem jhs (y:Int):jjL y=true↔y%4=0∧(y%100≠0∨y%400=0):=by simp [jjL]
theorem jn5 (y:Int):jap y=if jjL y then 1 else 0:=by
 unfold jap
 by_cases h:jjL y=true
 ·rw [if_pos ((jhs y).1 h),if_pos h]
 ·rw [if_neg (fun h'=>h ((jhs y).2 h')),if_neg h]
theorem jgj (y:Int):0≤jap y∧jap y≤1:=by unfold jap;split<;>omega
def dim (y m:Int):Int:=
 if m<1∨12<m then 0 else if m=2 then 28+jap y else if m=4∨m=6∨m=9∨m=11 then 30 else 31
def cnt (y:Int):Int:=365*(y-1970)+(y-1)/4-(y-1)/100+(y-1)/400-477
def cum (y m:Int):Int:=
 if m≤1 then 0 else if m=2 then 31 else if m=3 then 59+jap y else if m=4 then 90+jap y else if m=5 then 120+jap y else if m=6 then 151+jap y
 else if m=7 then 181+jap y else if m=8 then 212+jap y else if m=9 then 243+jap y else if m=10 then 273+jap y else if m=11 then 304+jap y else if m=12 then 334+jap y else 365+jap y
def num (y m d:Int):Int:=cnt y+cum y m+d-1
theorem jqR (y:Int):cnt (y+1)=cnt y+365+jap y:=by
 unfold cnt jap
 split<;>omega
theorem jjM {a b:Int} (h:a≤b):cnt a+365*(b-a)≤cnt b:=by unfold cnt;omega
theorem jjN (y m:Int) (h1:1≤m) (h2:m≤12):cum y (m+1)=cum y m+dim y m:=by
 obtain rfl | rfl | rfl | rfl | rfl | rfl | rfl | rfl | rfl | rfl | rfl | rfl:m=1∨m=2∨m=3∨m=4∨m=5∨m=6∨m=7∨m=8∨m=9∨m=10∨m=11∨m=12:=by omega
 all_goals (simp [cum,dim];try omega)
theorem j5M (y m:Int):0≤dim y m∧dim y m≤31:=by
 have:=jgj y
 unfold dim;repeat' split
 all_goals omega
theorem jht (y m:Int) (h1:1≤m) (h2:m≤12):28≤dim y m:=by
 have:=jgj y
 unfold dim;rw [if_neg (by omega)];repeat' split
 all_goals omega
theorem jlg (y m:Int):0≤cum y m∧cum y m≤366:=by
 have:=jgj y
 unfold cum;omega
theorem jpz (y:Int):jfh y=some (jjL y):=by
 have e:(cond (Int.tmod y 4==(0:Int)) (cond (Int.tmod y 100 != (0:Int)) true (Int.tmod y 400==(0:Int))) false)=jjL y:=by
  unfold bne
  rw [jcz,jcz,jcz,Bool.eq_iff_iff,jhs]
  by_cases h1:y%4=0<;>by_cases h2:y%100=0<;>by_cases h3:y%400=0<;>simp [h1,h2,h3]
 exact congrArg some e
theorem jmj (y m:Int):j5S y m=some (dim y m):=by
 by_cases h:m<1∨12<m
 ·have hc:cond (decide (m<(1:Int))) true (decide (m>(12:Int)))=true:=by
   rcases h with h | h<;>by_cases h1:m<1<;>simp [h1]<;>omega
  have:dim y m=0:=if_pos h
  rw [this]
  unfold j5S
  rw [hc];rfl
 ·obtain rfl | rfl | rfl | rfl | rfl | rfl | rfl | rfl | rfl | rfl | rfl | rfl:m=1∨m=2∨m=3∨m=4∨m=5∨m=6∨m=7∨m=8∨m=9∨m=10∨m=11∨m=12:=by omega
  case inr.inl=>
   simp only [j5S,jpz,dim,jn5,j3]
   cases jjL y<;>rfl
  all_goals rfl
theorem jqS (y m d:Int):j99 (y,m,d)=some (decide (1970≤y∧y≤2240∧1≤d∧d≤dim y m)):=by
 simp only [j99,jmj,j3]
 by_cases h1:1970≤y<;>by_cases h2:y≤2240<;>by_cases h3:1≤d<;>simp [h1,h2,h3]
theorem jjO (a b:Int) (hb:0<b) (h1 : -1000000000000≤a) (h2:a≤1000000000000):j6x a b=some (a/b):=by
 have hb0:(b==0)=false:=by simp;omega
 obtain ⟨e,p1,p2,p3,p4⟩:=tdm a b hb
 have hq : -1000000000000≤Int.tdiv a b∧Int.tdiv a b≤1000000000000:=by
  rcases Int.le_total 0 a with h | h
  ·have h0:0≤a/b:=Int.ediv_nonneg h (by omega)
   have h3:a/b≤a:=Int.ediv_le_self b h
   rw [jcy h];omega
  ·have h0:0≤(-a)/b:=Int.ediv_nonneg (by omega) (by omega)
   have h3:(-a)/b ≤ -a:=Int.ediv_le_self b (by omega)
   have h4:Int.tdiv (-a) b=(-a)/b:=jcy (by omega)
   rw [Int.neg_tdiv] at h4;omega
 simp only [j6x,hb0,kn,j5]
 rw [j02 (x:=Int.tdiv a b) (by omega) (by omega)]
 by_cases hm:Int.tmod a b<0
 ·rw [j01 hm,j5,j02 (by omega) (by omega)]
  congr 1
  have:a/b=Int.tdiv a b-1:=by
   have h3:a=(a.tmod b+b)+b*(Int.tdiv a b-1):=by rw [Int.mul_sub];omega
   rw [h3,Int.add_mul_ediv_left _ _ (by omega),Int.ediv_eq_zero_of_lt (by omega) (by omega)]
   rw [←h3];omega
  omega
 ·rw [j00 hm,j6]
  congr 1
  have h3:a=a.tmod b+b*Int.tdiv a b:=by omega
  have:a/b=Int.tdiv a b:=by
   conv=>lhs;rw [h3]
   rw [Int.add_mul_ediv_left _ _ (by omega),Int.ediv_eq_zero_of_lt (by omega) (by omega)]
   omega
  omega
theorem jqT (y:Int) (h1 : -1000000000≤y) (h2:y≤1000000000):j40 y=some (cnt y):=by
 simp only [j40]
 rw [j02 (x:=y-1) (by omega) (by omega),j02 (x:=y-1970) (by omega) (by omega),jjO _ 4 (by omega) (by omega) (by omega),jjO _ 100 (by omega) (by omega) (by omega),jjO _ 400 (by omega) (by omega) (by omega)]
 simp only [j3]
 simp (disch:=omega) only [j02]
 rfl
theorem jlh (y m d:Int) (hm:m≤13):∀ (n:Nat) (s k:Int),1≤k→k+n=m → -1000000000000≤s→s+31*n≤1000000000000→j4j s k y m d=some (s+cum y m-cum y k)
 | 0,s,k,hk,hn,_,_=>by
  rw [ja2]
  have:k=m:=by omega
  subst this
  simp only [j39,j00 (show ¬ k<k by omega),j6,j0j]
  congr 1;omega
 | n+1,s,k,hk,hn,h1,h2=>by
  rw [ja2]
  have hd:=j5M y k
  have hc:=jjN y k hk (by omega)
  simp only [j39,jmj,j3,j01 (show k<m by omega),j5,j0b]
  rw [j02 (x:=s+dim y k) (by omega) (by omega),j02 (x:=k+1) (by omega) (by omega)]
  have ih:=jlh y m d hm n (s+dim y k) (k+1) (by omega) (by omega) (by omega) (by omega)
  rw [ih]
  congr 1;omega
theorem jpA (y m d:Int) (h1 : -1000000≤y) (h2:y≤1000000) (hm1:1≤m) (hm2:m≤12) (hd1 : -1000000≤d) (hd2:d≤1000000):j5n (y,m,d)=some (num y m d):=by
 have hb : -1000000000≤cnt y∧cnt y≤1000000000:=by unfold cnt;omega
 simp only [j5n,jqT y (by omega) (by omega),j3]
 rw [j02 (x:=cnt y+d) (by omega) (by omega),j02 (by omega) (by omega),jlh y m d (by omega) (m-1).toNat _ 1 (by omega) (by omega) (by omega) (by omega)]
 have:cum y 1=0:=rfl
 simp only [j3,num]
 congr 1;omega
theorem jiI (day:Int):j4C day=some ((Int.tmod day 7+10)%7):=by
 obtain ⟨e,p1,p2,p3,p4⟩:=tdm day 7 (by omega)
 simp only [j4C]
 rw [j02 (by omega) (by omega),jmh (by omega)]
theorem jfr (day:Int) (_h : -3≤day):j4C day=some ((day+3)%7):=by
 rw [jiI]
 congr 1
 obtain ⟨e,p1,p2,p3,p4⟩:=tdm day 7 (by omega)
 omega
def jjP (y m d:Int):Prop:=1970≤y∧y≤2240∧1≤d∧d≤dim y m
instance (y m d:Int):Decidable (jjP y m d):=by unfold jjP;infer_instance
theorem je0 {y m d:Int} (h:jjP y m d):1≤m∧m≤12:=by
 obtain ⟨_,_,h3,h4⟩:=h
 by_cases hm:m<1∨12<m
 ·have:dim y m=0:=if_pos hm
  omega
 ·omega
theorem jpB {y m d:Int}:decide (1970≤y∧y≤2240∧1≤d∧d≤dim y m)=decide (jjP y m d):=rfl
theorem jcA {y m d:Int} (h:jjP y m d):0≤num y m d∧num y m d<98981:=by
 have hm:=je0 h
 obtain ⟨h1,h2,h3,h4⟩:=h
 have hc:=jlg y m
 have c1:=jjM (a:=1970) (b:=y) (by omega)
 have c2:=jjM (a:=y) (b:=2240) (by omega)
 have e1:cnt 1970=0:=by decide
 have hd:=j5M y m
 have e2:cnt 2240=98615:=by decide
 have hcs:cum y m+dim y m≤365+jap y:=by
  have:=jjN y m hm.1 hm.2
  have:cum y (m+1)≤365+jap y:=by have:=jgj y;unfold cum;omega
  omega
 have c3:=jqR y
 have c4:=jjM (a:=y+1) (b:=2241) (by omega)
 have e3:cnt 2241=98981:=by decide
 unfold num;omega
def nth (y m k w:Int):Int:=
 let d:=num y m 1+(w-(num y m 1+3)%7+7)%7+7*(k-1)
 if d≥num y m 1+dim y m then d-7 else d
theorem jaT (y m:Int) (h1:1970≤y) (h2:y≤2240) (hm1:1≤m) (hm2:m≤12):jjP y m 1:=⟨h1,h2,by omega,by have:=jht y m hm1 hm2;omega⟩
theorem jsY (y m k w:Int) (h1:1970≤y) (h2:y≤2240) (hm1:1≤m) (hm2:m≤12) (hk1:1≤k) (hk2:k≤5) (hw1:0≤w) (hw2:w≤6):j9a y m k w=some (nth y m k w,0):=by
 have hv:=jaT y m h1 h2 hm1 hm2
 have hr:=jcA hv
 have hd:=j5M y m
 have hVal:j99 (y,m,1)=some true:=by rw [jqS,jpB,zf hv]
 simp only [j9a,hVal,j3,jd,j6]
 rw [j00 (show ¬ k<1 by omega),j00 (show ¬ k>5 by omega),j00 (show ¬ w<0 by omega),j00 (show ¬ w>6 by omega)]
 simp only [j6,jpA y m 1 (by omega) (by omega) hm1 hm2 (by omega) (by omega),j3,jfr _ (show -3≤num y m 1 by omega),jmj]
 generalize hn:num y m 1=n at *
 have hm7:0≤(n+3)%7∧(n+3)%7≤6:=by omega
 rw [j02 (x:=w-(n+3)%7) (by omega) (by omega),j02 (x:=w-(n+3)%7+7) (by omega) (by omega),jmh (show 0≤w-(n+3)%7+7 by omega)]
 rw [j02 (x:=k-1) (by omega) (by omega),j02 (x:=7*(k-1)) (by omega) (by omega)]
 rw [j02 (x:=n+(w-(n+3)%7+7)%7) (by omega) (by omega),j02 (x:=n+(w-(n+3)%7+7)%7+7*(k-1)) (by omega) (by omega),j02 (x:=n+dim y m) (by omega) (by omega)]
 unfold nth
 simp only [hn]
 by_cases hc:n+(w-(n+3)%7+7)%7+7*(k-1)≥n+dim y m
 ·rw [j01 hc,j5,if_pos hc,j02 (by omega) (by omega)]
 ·rw [j00 hc,j6,if_neg hc]
def DOk (l:List Int) (a:Int):Prop:=0≤a∧a≤(l.length:Int)∧l.length≤1000000
theorem j0I {l:List Int} {a n:Int} (h:DOk l a) (hn:1≤n) (hn2:n≤1000000000000):∃ x a',j03 l a n=some (x,l,a')∧0≤x∧x<n∧DOk l a':=by
 obtain ⟨h1,h2,h3⟩:=h
 simp only [j03,show Int.ofNat (List.length l)=(l.length:Int) from rfl]
 by_cases ha:a≥(l.length:Int)
 ·rw [j01 ha,j5]
  exact ⟨0,a,rfl,by omega,by omega,h1,h2,h3⟩
 ·rw [j00 ha,j6,j00 (show ¬ n<1 by omega),j6,j1M h1 (by omega),j5,j4u (show n≠0 by omega)]
  obtain ⟨e,p1,p2,p3,p4⟩:=tdm (l.getD a.toNat 0) n (by omega)
  rw [j02 (x:=a+1) (by omega) (by omega)]
  simp only [kn,j5]
  by_cases ht:Int.tmod (l.getD a.toNat 0) n<0
  ·rw [j01 ht,j5,j02 (by omega) (by omega)]
   exact ⟨_,_,rfl,by omega,by omega,by omega,by omega,h3⟩
  ·rw [j00 ht,j6]
   exact ⟨_,_,rfl,by omega,by omega,by omega,by omega,h3⟩
theorem j6E {l:List Int} {a:Int} (h:DOk l a) {xs:List Int} (hx0:0<xs.length) (hx1:xs.length≤1000000):∃ x a',j15 l a xs=some (x,l,a')∧x∈xs∧DOk l a':=by
 obtain ⟨x,a',e,h1,h2,h3⟩:=j0I (n:=(xs.length:Int)) h (by omega) (by omega)
 simp only [j15,show Int.ofNat (List.length xs)=(xs.length:Int) from rfl,e,j3]
 rw [j1M h1 (by omega),j5]
 have hlt:x.toNat<xs.length:=by omega
 refine ⟨_,_,rfl,?_,h3⟩
 rw [List.getD_eq_getElem?_getD,jo hlt]
 exact jf hlt
end Go.Proofs.Pw
