/- Small facts on Go's division. -/
import Derived.Test.YtaieocafhcjelaaGreatBLD
import Derived.Test.YtaieocafhcjelaaGreatBFns
open Go Go.Lft
namespace Go.Proofs.Pw
theorem tdm (a b:Int) (hb:0<b):b*Int.tdiv a b+Int.tmod a b=a∧(0≤a→0≤Int.tmod a b)∧(a≤0→Int.tmod a b≤0)∧Int.tmod a b<b ∧ -b<Int.tmod a b:=by
 have h1:=Int.mul_tdiv_add_tmod a b
 have h2:0≤a→0≤Int.tmod a b:=fun h=>Int.tmod_nonneg b h
 have h3:a≤0→Int.tmod a b≤0:=fun h=>by
  have:=Int.tmod_nonneg (a:= -a) b (by omega)
  rw [Int.neg_tmod] at this;omega
 have h4:=v7 a hb
 have h5 : -b<Int.tmod a b:=by
  have:=v7 (-a) hb
  rw [Int.neg_tmod] at this;omega
 exact ⟨h1,h2,h3,h4,h5⟩
theorem jmc {a b:Int} (ha:0≤a):Int.tdiv a b=a/b:=zo ha
theorem jmd {a b:Int} (ha:0≤a):Int.tmod a b=a%b:=Int.tmod_eq_emod_of_nonneg ha
theorem jeg (a b:Int):(Int.tmod a b==0)=(a%b==0):=by
 rw [Bool.eq_iff_iff]
 simp only [qy]
 rw [←Int.dvd_iff_tmod_eq_zero,←Int.dvd_iff_emod_eq_zero]
theorem j00 {p:Prop} [Decidable p] (h:p):decide p=true:=qf h
theorem j01 {p:Prop} [Decidable p] (h:¬ p):decide p=false:=decide_eq_false h
theorem j7g {a b:Int} (h:a=b):(a==b)=true:=by simp [h]
theorem j3V {a b:Int} (h:a≠b):(a==b)=false:=by simp [h]
theorem j1c {i:Int} {n:Nat} (h1:0≤i) (h2:i<n):inR i n=true:=by simp [inR,h1,h2]
def jcB (ks:List ByteArray):List (ByteArray×Bool):=ks.map fun k=>(k,true)
def NmL (ks:List ByteArray):Prop:=ks.Nodup∧∀ k∈ks,j7S k=some true
theorem js7 {s:ByteArray}:∀ {l:List ByteArray},s∉l→j5P false (jcB l) s=false∧j6V (jcB l) s true=jcB (l++[s])
 | [],_=>⟨rfl,rfl⟩
 | k::l,h=>by
  simp only [jd,not_or] at h
  obtain ⟨h1,h2⟩:=js7 (l:=l) h.2
  have hb:(s==k)=false:=qz.2 fun hh=>h.1 ((MapKept.bytes_beq s k).1 hh)
  refine ⟨?_,?_⟩
  ·show cond (s==k) true (j5P false (jcB l) s)=false
   rw [hb];exact h1
  ·show cond (s==k) ((s,true)::jcB l) ((k,true)::j6V (jcB l) s true)=_
   rw [hb,j6,h2];rfl
theorem jjH {α:Type} (f:α→ByteArray) {xs:List α} (h:NmL (xs.map f)) {i:Nat} (hi:i<xs.length):j3z (f xs[i]) (jcB ((xs.take i).map f))=some (0,jcB ((xs.take (i+1)).map f)):=by
 have hm:f xs[i]∈xs.map f:=List.mem_map_of_mem (jh hi)
 have hn:f xs[i]∉(xs.take i).map f:=by
  intro hx
  have hs:xs.map f=(xs.take i).map f++(f xs[i]::(xs.drop (i+1)).map f):=by
   rw [←ki,←zm,List.getElem_cons_drop hi,ql]
  have:=h.1
  rw [hs,qh] at this
  exact this.2.2 _ hx _ (by simp) rfl
 obtain ⟨h1,h2⟩:=js7 hn
 simp only [j3z,h.2 _ hm,j3,jt,j6,h1,h2]
 rw [ko,ji hi,zm]
 rfl
abbrev TrL:=List (Int×Int)
def tat (l:TrL) (i:Nat):Int:=(l.getD i (0,0)).1
def tof (o:Int) (l:TrL) (i:Nat):Int:=if i=0 then o else (l.getD (i-1) (0,0)).2
def frm (l:TrL) (i:Nat):Int:=if i=0 then 0 else if i≤l.length then tat l (i-1) else 8589934593
structure TOk (o:Int) (l:TrL):Prop where
 len:l.length≤1000
 gap:∀ i,i+1<l.length→tat l i+604800≤tat l (i+1)
 pos:∀ i,i<l.length→1000000<tat l i
 max:∀ i,i<l.length→tat l i≤8589000000
 of0:∀ i,i≤l.length → -64800≤tof o l i
 of1:∀ i,i≤l.length→tof o l i≤64800
section
variable {o:Int} {l:TrL} (h:TOk o l)
include h
theorem TOk.at_lt:∀ (k i:Nat),i+k+1<l.length→tat l i+604800≤tat l (i+k+1)
 | 0,i,hk=>h.gap i hk
 | k+1,i,hk=>by
  have h1:=TOk.at_lt k i (by omega)
  have h2:=h.gap (i+k+1) (by omega)
  rw [show i+(k+1)+1=i+k+1+1 by omega]
  omega
theorem TOk.at_le {i j:Nat} (hij:i<j) (hj:j<l.length):tat l i+604800≤tat l j:=by
 have:=h.at_lt (j-i-1) i (by omega)
 rwa [show i+(j-i-1)+1=j by omega] at this
omit h in
theorem frm0:frm l 0=0:=rfl
omit h in
theorem joQ {i:Nat} (hi:i<l.length):frm l (i+1)=tat l i:=by
 unfold frm
 rw [if_neg (Nat.succ_ne_zero i),if_pos (show i+1≤l.length by omega)];rfl
omit h in
theorem jde:frm l (l.length+1)=8589934593:=by
 unfold frm
 rw [if_neg (Nat.succ_ne_zero _),if_neg (show ¬ l.length+1≤l.length by omega)]
theorem TOk.frm_lt {i:Nat} (hi:i≤l.length):frm l i<frm l (i+1):=by
 rcases qe i l.length with hl | hl
 ·rw [joQ hl]
  cases i with
  | zero=>rw [frm0];exact (by have:=h.pos 0 hl;omega)
  | succ i=>
   rw [joQ (by omega)]
   have:=h.gap i hl;omega
 ·have:i=l.length:=by omega
  subst this
  rw [jde]
  cases hq:l.length with
  | zero=>rw [frm0];omega
  | succ n=>
   rw [joQ (by omega)]
   have:=h.max n (by omega);omega
theorem TOk.frm_le {i j:Nat} (hij:i≤j) (hj:j≤l.length+1):frm l i≤frm l j:=by
 induction j with
 | zero=>have:i=0:=by omega
         subst this;omega
 | succ j ih=>
  by_cases he:i=j+1
  ·subst he;omega
  ·have h1:=ih (by omega) (by omega)
   have h2:=h.frm_lt (i:=j) (by omega)
   omega
theorem jjI {t:Int} {k:Nat} (hk:k≤l.length) (hlo:∀ i,i<k→tat l i≤t) (hhi:∀ i,k≤i→i<l.length→t<tat l i) :
  ∀ (n:Nat) (a b:Nat),b-a≤n→a≤k→k≤b→b≤l.length→j61 o l t (a:Int) (b:Int)=some (k:Int)
 | 0,a,b,hn,ha,hb,hbl=>by
  rw [jcq]
  simp only [j3j,j01 (show ¬ (a:Int)<(b:Int) by omega),j6,j0b]
  congr 1;omega
 | n+1,a,b,hn,ha,hb,hbl=>by
  have hlen:=h.len
  rw [jcq]
  by_cases hab:a<b
  ·have hm:IntKind.wrap .u64 ((a:Int)+(b:Int))=(a:Int)+(b:Int):=IntWalk.u64_in _ ⟨by omega,by omega⟩
   have hd:Int.fdiv ((a:Int)+(b:Int)) 2=(((a+b)/2:Nat):Int):=by
    rw [Int.fdiv_eq_ediv_of_nonneg _ (by omega)];omega
   simp only [j3j,j00 (show (a:Int)<(b:Int) by omega),j5]
   rw [j02 (x:=(a:Int)+(b:Int)) (by omega) (by omega),hm,hd,j02 (x:=(((a+b)/2:Nat):Int)) (by omega) (by omega)]
   simp only [j7I]
   rw [j1c (by omega) (by omega)]
   simp only [j5,j3,j7]
   by_cases hc:tat l ((a+b)/2)>t
   ·rw [j00 (show (l.getD ((a+b)/2) ((0:Int),(0:Int))).1>t from hc)]
    simp only [jt,j6,j07]
    have hkm:k≤(a+b)/2:=by
     rcases qe ((a+b)/2) k with h' | h'
     ·have:=hlo _ h';omega
     ·exact h'
    exact jjI hk hlo hhi n a ((a+b)/2) (by omega) ha hkm (by omega)
   ·rw [j01 (show ¬ (l.getD ((a+b)/2) ((0:Int),(0:Int))).1>t from hc)]
    simp only [kb,j5,j07]
    rw [j02 (by omega) (by omega)]
    have hkm:(a+b)/2<k:=by
     rcases qe ((a+b)/2) k with h' | h'
     ·exact h'
     ·have:=hhi _ h' (by omega);omega
    exact jjI hk hlo hhi n ((a+b)/2+1) b (by omega) (by omega) hb hbl
  ·simp only [j3j,j01 (show ¬ (a:Int)<(b:Int) by omega),j6,j0b]
   congr 1;omega
theorem jme {t:Int} {k:Nat} (hk:k≤l.length) (h1:frm l k≤t) (h2:t<frm l (k+1)):j3b (o,l) t=some (k:Int):=by
 have hlo:∀ i,i<k→tat l i≤t:=by
  intro i hi
  have:frm l k=tat l (k-1):=by
   have:=joQ (l:=l) (i:=k-1) (by omega)
   rwa [show k-1+1=k by omega] at this
  rw [this] at h1
  by_cases he:i=k-1
  ·subst he;exact h1
  ·have:=h.at_le (i:=i) (j:=k-1) (by omega) (by omega);omega
 have hhi:∀ i,k≤i→i<l.length→t<tat l i:=by
  intro i hi hl
  have:frm l (k+1)=tat l k:=joQ (by omega)
  rw [this] at h2
  by_cases he:i=k
  ·subst he;exact h2
  ·have:=h.at_le (i:=k) (j:=i) (by omega) hl;omega
 have:=jjI h hk hlo hhi l.length 0 l.length (by omega) (by omega) hk (by omega)
 simp only [j3b,j8X,show Int.ofNat (List.length l)=(l.length:Int) from rfl]
 rw [show (0:Int)=((0:Nat):Int) from rfl,this]
 rfl
theorem jjJ {k:Nat} (hk:k≤l.length):j4g (o,l) (k:Int)=some (tof o l k):=by
 have hlen:=h.len
 unfold tof
 by_cases h0:k=0
 ·subst h0;rfl
 ·simp only [j4g]
  rw [j3V (show (k:Int)≠0 by omega),j6,j02 (by omega) (by omega),j1c (by omega) (by omega),show ((k:Int)-1).toNat=k-1 by omega,if_neg h0]
  rfl
theorem js8 {t:Int} {k:Nat} (hk:k≤l.length) (h1:frm l k≤t) (h2:t<frm l (k+1)):j3m (o,l) t=some (tof o l k):=by
 simp only [j3m,jme h hk h1 h2,j3,jjJ h hk]
theorem jgF {t:Int} (h0:0≤t) (h1:t≤8589934592):∃ k,k≤l.length∧frm l k≤t∧t<frm l (k+1):=by
 have _:=h
 have:∀ n,n≤l.length+1→t<frm l n→∃ k,k<n∧frm l k≤t∧t<frm l (k+1):=by
  intro n
  induction n with
  | zero=>intro _ hn;have:frm l 0=0:=rfl
          omega
  | succ n ih=>
   intro hn hlt
   by_cases hc:frm l n≤t
   ·exact ⟨n,by omega,hc,hlt⟩
   ·obtain ⟨k,a1,a2,a3⟩:=ih (by omega) (by omega)
    exact ⟨k,by omega,a2,a3⟩
 have hlast:frm l (l.length+1)=8589934593:=jde
 obtain ⟨k,a1,a2,a3⟩:=this (l.length+1) (by omega) (by omega)
 exact ⟨k,by omega,a2,a3⟩
def pc (o:Int) (l:TrL) (i:Nat):Int×(Int×Int):=(frm l i,(frm l (i+1),tof o l i))
def pcs (o:Int) (l:TrL) (n:Nat):List (Int×(Int×Int)):=(List.range n).map (pc o l)
omit h in
theorem jpO (n:Nat):pcs o l (n+1)=pcs o l n++[pc o l n]:=by simp [pcs,List.range_succ]
omit h in
theorem jfI (n:Nat):(pcs o l n).length=n:=by simp [pcs]
omit h in
theorem joR {n i:Nat} (hi:i<n):(pcs o l n).getD i ((0:Int),((0:Int),(0:Int)))=pc o l i:=by
 simp [pcs,List.getD,hi]
theorem jnM:∀ (n k:Nat),k+n=l.length+1→j1Y (frm l k) 8589934593 o l (pcs o l k)=some (pcs o l (l.length+1))
 | 0,k,hk=>by
  have hlast:frm l k=8589934593:=by rw [show k=l.length+1 by omega];exact jde
  rw [j2o,hlast]
  simp only [j0p]
  rw [j01 (by omega),j6,j0b,show k=l.length+1 by omega]
 | n+1,k,hk=>by
  have hlen:=h.len
  have hkl:k≤l.length:=by omega
  have hlt:=h.frm_lt hkl
  have hle:=h.frm_le (i:=k+1) (j:=l.length+1) (by omega) (by omega)
  have hlast:frm l (l.length+1)=8589934593:=jde
  have ih:=jnM n (k+1) (by omega)
  rw [j2o]
  simp only [j0p]
  rw [j00 (show frm l k<8589934593 by omega),jme h hkl (by omega) hlt]
  simp only [j5,j3,show Int.ofNat (List.length l)=(l.length:Int) from rfl,jjJ h hkl]
  by_cases hlast2:k<l.length
  ·rw [j00 (show (k:Int)<(l.length:Int) by omega),j1c (by omega) (by omega)]
   simp only [j5,j7]
   have hto:(if (l.getD k ((0:Int),(0:Int))).1<8589934593 then (l.getD k ((0:Int),(0:Int))).1 else 8589934593)=frm l (k+1):=by
    have hf:frm l (k+1)=tat l k:=joQ hlast2
    have:=h.max k hlast2
    rw [hf,if_pos (show (l.getD k ((0:Int),(0:Int))).1<8589934593 by show tat l k<_;omega)]
    rfl
   rw [hto,j00 (by rw [jfI];simp [j06];omega)]
   simp only [j5,j07]
   rw [jpO] at ih
   exact ih
  ·rw [j01 (show ¬ (k:Int)<(l.length:Int) by omega)]
   simp only [j6]
   rw [j00 (by rw [jfI];simp [j06];omega)]
   simp only [j5,j07]
   have hk':k=l.length:=by omega
   rw [jpO] at ih
   unfold pc at ih
   rw [show k+1=l.length+1 by omega,hlast] at ih
   exact ih
theorem jnN:j1i (o,l) 0 8589934593=some (pcs o l (l.length+1)):=by
 have:=jnM h (l.length+1) 0 (by omega)
 simp only [j1i]
 rw [show j1Y 0 8589934593 o l []=_ from this]
 rfl
def Sol (o:Int) (l:TrL) (s:Int) (i:Nat):Prop:=frm l i≤s-tof o l i∧s-tof o l i<frm l (i+1)
instance (o:Int) (l:TrL) (s:Int) (i:Nat):Decidable (Sol o l s i):=by unfold Sol;infer_instance
omit h in
theorem jhr {d c:Int} (hd : -1000000≤d) (hd2:d≤1000000) (hc : -86400≤c) (hc2:c≤172800):j4b (d,c)=some (d*86400+c):=by
 simp only [j4b]
 rw [if_neg (show ¬ (-1048576:Int)>d by omega),if_neg (show ¬ (1048576:Int)<d by omega),j02 (x:=d*86400) (by omega) (by omega),j02 (by omega) (by omega)]
theorem jpP {d c:Int} (hd : -1000000≤d) (hd2:d≤1000000) (hc : -86400≤c) (hc2:c≤172800) {k:Nat} (hk:k≤l.length) (hks:d*86400+c-tof o l k<frm l (k+1)) (hbef:∀ j,j<k→frm l (j+1)≤d*86400+c-tof o l j) :
  ∀ (n i:Nat),i+n=k→j2K ((l.length+1:Nat):Int) (i:Int) d c (pcs o l (l.length+1))=some (.inl (max (frm l k) (d*86400+c-tof o l k),true))
 | 0,i,hi=>by
  have hlen:=h.len
  have:i=k:=by omega
  subst this
  have o1:=h.of0 i hk;have o2:=h.of1 i hk
  have hlt:=h.frm_lt hk
  rw [j4s]
  simp only [j1E]
  rw [j00 (show (i:Int)<((l.length+1:Nat):Int) by omega),j1c (by omega) (by rw [jfI];omega)]
  simp only [j5,j7,joR (show i<l.length+1 by omega),jhr hd hd2 hc hc2,j3,pc]
  rw [j02 (x:=d*86400+c-tof o l i) (by omega) (by omega)]
  have hm:(if d*86400+c-tof o l i>frm l i then d*86400+c-tof o l i else frm l i)=max (frm l i) (d*86400+c-tof o l i):=by split<;>omega
  rw [hm,j00 (by omega),j5,j0b]
 | n+1,i,hi=>by
  have hlen:=h.len
  have hil:i≤l.length:=by omega
  have o1:=h.of0 i hil;have o2:=h.of1 i hil
  have hb:=hbef i (by omega)
  rw [j4s]
  simp only [j1E]
  rw [j00 (show (i:Int)<((l.length+1:Nat):Int) by omega),j1c (by omega) (by rw [jfI];omega)]
  simp only [j5,j7,joR (show i<l.length+1 by omega),jhr hd hd2 hc hc2,j3,pc]
  rw [j02 (x:=d*86400+c-tof o l i) (by omega) (by omega),j02 (x:=(i:Int)+1) (by omega) (by omega)]
  have hm:(if d*86400+c-tof o l i>frm l i then d*86400+c-tof o l i else frm l i)=max (frm l i) (d*86400+c-tof o l i):=by split<;>omega
  rw [hm,j01 (by omega),j6,j07]
  exact jpP hd hd2 hc hc2 hk hks hbef n (i+1) (by omega)
theorem jtG {d c:Int} (hd : -1000000≤d) (hd2:d≤1000000) (hc : -86400≤c) (hc2:c≤172800) {k:Nat} (hk:k≤l.length) (hks:d*86400+c-tof o l k<frm l (k+1)) (hbef:∀ j,j<k→frm l (j+1)≤d*86400+c-tof o l j) :
  j1V (o,l) (d,c)=some (max (frm l k) (d*86400+c-tof o l k),true):=by
 have:=jpP h hd hd2 hc hc2 hk hks hbef k 0 (by omega)
 simp only [j1V,jnN h,j3,jfI,show Int.ofNat (List.length l+1)=((l.length+1:Nat):Int) from rfl]
 rw [show (0:Int)=((0:Nat):Int) from rfl,this]
 rfl
omit h in
theorem jtH {n:Int} (h1 : -1000000000000≤n) (h2:n≤1000000000000):jeC n=some (n/86400,n%86400):=by
 obtain ⟨e,p1,p2,p3,p4⟩:=tdm n 86400 (by omega)
 simp only [jeC]
 rw [j02 (x:=Int.tdiv n 86400) (by omega) (by omega)]
 by_cases hm:Int.tmod n 86400<0
 ·rw [j00 hm,j5,j02 (x:=Int.tdiv n 86400-1) (by omega) (by omega),j02 (x:=(Int.tdiv n 86400-1)*86400) (by omega) (by omega),j02 (by omega) (by omega)]
  have:n/86400=Int.tdiv n 86400-1:=by omega
  congr 2
  ·omega
  ·omega
 ·rw [j01 hm,j6,j02 (x:=Int.tdiv n 86400*86400) (by omega) (by omega),j02 (by omega) (by omega)]
  congr 2
  ·omega
  ·omega
theorem jiz {t:Int} {k:Nat} (hk:k≤l.length) (h1:frm l k≤t) (h2:t<frm l (k+1)):j0u (o,l) t=some ((t+tof o l k)/86400,(t+tof o l k)%86400):=by
 have o1:=h.of0 k hk;have o2:=h.of1 k hk
 have g1:0≤frm l k:=by have:=h.frm_le (i:=0) (j:=k) (by omega) (by omega);have e:frm l 0=0:=rfl;omega
 have hlast:frm l (l.length+1)=8589934593:=jde
 have g2:=h.frm_le (i:=k+1) (j:=l.length+1) (by omega) (by omega)
 simp only [j0u,js8 h hk h1 h2,j3]
 rw [j02 (x:=t+tof o l k) (by omega) (by omega),jtH (by omega) (by omega)]
 rfl
end
def jbL (x:Int×Int):TrL→TrL
 | []=>[x]
 | y::ys=>if x.1<y.1 then y::jbL x ys else x::y::ys
def j8r:TrL→TrL→TrL
 | [],acc=>acc
 | x::xs,acc=>j8r xs (jbL x acc)
def j7X (l:TrL):TrL:=(j8r l []).reverse
theorem jeF (x:Int×Int):∀ l,(jbL x l).length=l.length+1
 | []=>rfl
 | y::ys=>by unfold jbL;split<;>simp [jeF x ys]
theorem jeh:∀ (l acc:TrL),(j8r l acc).length=l.length+acc.length
 | [],acc=>by simp [j8r]
 | x::xs,acc=>by simp only [j8r,jeh xs,jeF,jo];omega
def Sm (l:TrL):Prop:=∀ x∈l, -1000000000000≤x.1∧x.1≤1000000000000
theorem jnO {x:Int×Int} (hx : -1000000000000≤x.1∧x.1≤1000000000000):∀ {l:TrL},Sm l→Sm (jbL x l)
 | [],_=>fun y hy=>by simp [jbL] at hy;subst hy;exact hx
 | z::zs,h=>by
  unfold jbL
  split
  ·intro y hy
   rcases jd.1 hy with rfl | hy
   ·exact h _ (by simp)
   ·exact jnO hx (l:=zs) (fun w hw=>h w (by simp [hw])) y hy
  ·intro y hy
   rcases jd.1 hy with rfl | hy
   ·exact hx
   ·exact h y hy
theorem jv8 (rp mid:TrL) (x:Int×Int):(rp.reverse++x::mid).getD rp.length (0,0)=x:=by
 rw [List.getD_eq_getElem?_getD,jz (by simp)]
 simp
theorem juc (n s8:Int) (x:Int×Int) (hx : -1000000000000≤x.1∧x.1≤1000000000000):∀ (rp mid:TrL),Sm rp→rp.length+mid.length≤1000→
  j0j 0 n s8 (rp.length:Int) (rp.reverse++x::mid)=some (0,n,s8,(jbL x rp).reverse++mid)
 | [],mid,_,_=>by
  rw [j2u]
  simp only [j0o]
  rw [j01 (by simp),j6,j0b]
  rfl
 | y::ys,mid,hsm,hlen=>by
  have hy:=hsm y (by simp)
  have hL:((y::ys).reverse++x::mid).length=ys.length+1+(mid.length+1):=by simp;omega
  simp only [jo] at hlen
  rw [j2u]
  simp only [j0o,jo]
  rw [j00 (show ((ys.length+1:Nat):Int)>0 by omega),j1c (by omega) (by rw [hL];omega),j02 (x:=((ys.length+1:Nat):Int)-1) (by omega) (by omega),j1c (by omega) (by rw [hL];omega)]
  simp only [j5,j7]
  have g1:((y::ys).reverse++x::mid).getD (ys.length+1) ((0:Int),(0:Int))=x:=jv8 (y::ys) mid x
  have g2:((y::ys).reverse++x::mid).getD ((((ys.length+1:Nat):Int)-1).toNat) ((0:Int),(0:Int))=y:=by
   rw [show (((ys.length+1:Nat):Int)-1).toNat=ys.length by omega]
   simp
  rw [g1,g2]
  simp only [j7H,j3]
  rw [j02 (x:=x.1-y.1) (by omega) (by omega)]
  by_cases hc:x.1<y.1
  ·rw [j00 (show x.1-y.1<0 by omega)]
   have hset:List.set (List.set ((y::ys).reverse++x::mid) (ys.length+1) (y.1,y.2)) ((((ys.length+1:Nat):Int)-1).toNat) (x.1,x.2)=ys.reverse++x::(y::mid):=by
    rw [show (((ys.length+1:Nat):Int)-1).toNat=ys.length by omega]
    simp
   rw [j1c (by omega) (by rw [List.length_set,hL];omega)]
   simp only [j5,j07,hset]
   have he:=juc n s8 x hx ys (y::mid) (fun z hz=>hsm z (by simp [hz])) (by simp;omega)
   rw [show ((ys.length+1:Nat):Int)-1=(ys.length:Int) by omega,he]
   simp [jbL,hc]
  ·rw [j01 (show ¬ x.1-y.1<0 by omega)]
   simp only [j6,j0b]
   simp [jbL,hc]
theorem jud:∀ (xs rp:TrL),Sm rp→Sm xs→rp.length+xs.length≤1000→
  j0k 0 ((rp.length+xs.length:Nat):Int) (rp.length:Int) (rp.reverse++xs)=some (j8r xs rp).reverse
 | [],rp,_,_,_=>by
  rw [j1d]
  simp only [j08]
  rw [j01 (by simp),j6,j0b]
  simp [j8r]
 | x::xs,rp,hr,hx,hlen=>by
  have hxx:=hx x (by simp)
  simp only [jo] at hlen
  have he:=juc ((rp.length+(x::xs).length:Nat):Int) (rp.length:Int) x hxx rp xs hr (by omega)
  have ih:=jud xs (jbL x rp) (jnO hxx hr) (fun z hz=>hx z (by simp [hz])) (by rw [jeF];omega)
  rw [jeF] at ih
  rw [j1d]
  simp only [j08]
  rw [j00 (by simp only [jo];omega),he]
  simp only [j5,j3,j8r]
  rw [show rp.length+1+xs.length=rp.length+(x::xs).length by simp;omega] at ih
  rw [j02 (by omega) (by omega),j07]
  exact ih
theorem jmf {l:TrL} (hs:Sm l) (hl:l.length<20):j0a l=some (j7X l):=by
 have hins:j0d l 0 (l.length:Int)=some (j7X l):=by
  simp only [j0d]
  cases l with
  | nil=>
   rw [j1d]
   rfl
  | cons x xs=>
   have:=jud xs [x] (fun z hz=>by simp at hz;subst hz;exact hs _ (by simp)) (fun z hz=>hs z (by simp [hz])) (by simp at hl ⊢;omega)
   rw [show w64 (0+1)=(([x]:TrL).length:Int) from rfl,show ((x::xs).length:Int)=(([x].length+xs.length:Nat):Int) by simp;omega]
   rw [show (x::xs)=[x].reverse++xs from rfl,this]
   rfl
 have e0:j0A (l.length:Int) 20 0 20 l=some ((l.length:Int),20,0,l):=by
  rw [j5R]
  simp only [j0f]
  rw [j01 (by omega),j6,j0b]
 have e2:j0B (l.length:Int) 20 (j7X l)=some (j7X l):=by
  rw [j5S]
  simp only [j0g]
  rw [j01 (by omega),j6,j0b]
 simp only [j0a,j0N,show Int.ofNat (List.length l)=(l.length:Int) from rfl,e0,j3,hins,e2]
def joS (y:Int):Bool:=decide (y%4=0)&&(!decide (y%100=0)||decide (y%400=0))
def jc8 (y:Int):Int:=if y%4=0∧(y%100≠0∨y%400=0) then 1 else 0
theorem jjK (y:Int):joS y=true↔y%4=0∧(y%100≠0∨y%400=0):=by simp [joS]
theorem jtI (y:Int):jc8 y=if joS y then 1 else 0:=by
 unfold jc8
 by_cases h:joS y=true
 ·rw [if_pos ((jjK y).1 h),if_pos h]
 ·rw [if_neg (fun h'=>h ((jjK y).2 h')),if_neg h]
theorem jiA (y:Int):0≤jc8 y∧jc8 y≤1:=by unfold jc8;split<;>omega
def dim (y m:Int):Int:=
 if m<1∨12<m then 0 else if m=2 then 28+jc8 y else if m=4∨m=6∨m=9∨m=11 then 30 else 31
def cnt (y:Int):Int:=365*(y-1970)+(y-1)/4-(y-1)/100+(y-1)/400-477
def cum (y m:Int):Int:=
 if m≤1 then 0 else if m=2 then 31 else if m=3 then 59+jc8 y else if m=4 then 90+jc8 y else if m=5 then 120+jc8 y else if m=6 then 151+jc8 y
 else if m=7 then 181+jc8 y else if m=8 then 212+jc8 y else if m=9 then 243+jc8 y else if m=10 then 273+jc8 y else if m=11 then 304+jc8 y else if m=12 then 334+jc8 y else 365+jc8 y
def num (y m d:Int):Int:=cnt y+cum y m+d-1
theorem jtJ (y:Int):cnt (y+1)=cnt y+365+jc8 y:=by
 unfold cnt jc8
 split<;>omega
theorem jmg {a b:Int} (h:a≤b):cnt a+365*(b-a)≤cnt b:=by unfold cnt;omega
theorem jpQ (y m:Int) (h1:1≤m) (h2:m≤12):cum y (m+1)=cum y m+dim y m:=by
 obtain rfl | rfl | rfl | rfl | rfl | rfl | rfl | rfl | rfl | rfl | rfl | rfl:m=1∨m=2∨m=3∨m=4∨m=5∨m=6∨m=7∨m=8∨m=9∨m=10∨m=11∨m=12:=by omega
 all_goals (simp [cum,dim];try omega)
theorem jei (y m:Int):0≤dim y m∧dim y m≤31:=by
 have:=jiA y
 unfold dim;repeat' split
 all_goals omega
theorem jmh (y m:Int) (h1:1≤m) (h2:m≤12):28≤dim y m:=by
 have:=jiA y
 unfold dim;rw [if_neg (by omega)];repeat' split
 all_goals omega
theorem js9 (y m:Int):0≤cum y m∧cum y m≤366:=by
 have:=jiA y
 unfold cum;omega
theorem jv9 (y:Int):jhc y=some (joS y):=by
 have e:(cond (Int.tmod y 4==(0:Int)) (cond (Int.tmod y 100 != (0:Int)) true (Int.tmod y 400==(0:Int))) false)=joS y:=by
  unfold bne
  rw [jeg,jeg,jeg,Bool.eq_iff_iff,jjK]
  by_cases h1:y%4=0<;>by_cases h2:y%100=0<;>by_cases h3:y%400=0<;>simp [h1,h2,h3]
 exact jk some e
theorem joT (y m:Int):j6H y m=some (dim y m):=by
 by_cases h:m<1∨12<m
 ·have hc:cond (decide (m<(1:Int))) true (decide (m>(12:Int)))=true:=by
   rcases h with h | h<;>by_cases h1:m<1<;>simp [h1]<;>omega
  have:dim y m=0:=if_pos h
  rw [this]
  unfold j6H
  rw [hc];rfl
 ·obtain rfl | rfl | rfl | rfl | rfl | rfl | rfl | rfl | rfl | rfl | rfl | rfl:m=1∨m=2∨m=3∨m=4∨m=5∨m=6∨m=7∨m=8∨m=9∨m=10∨m=11∨m=12:=by omega
  case inr.inl=>
   simp only [j6H,jv9,dim,jtI,j3]
   cases joS y<;>rfl
  all_goals rfl
theorem jtK (y m d:Int):jaC (y,m,d)=some (decide (1970≤y∧y≤2240∧1≤d∧d≤dim y m)):=by
 simp only [jaC,joT,j3]
 by_cases h1:1970≤y<;>by_cases h2:y≤2240<;>by_cases h3:1≤d<;>simp [h1,h2,h3]
theorem jmi (a b:Int) (hb:0<b) (h1 : -1000000000000≤a) (h2:a≤1000000000000):j7G a b=some (a/b):=by
 have hb0:(b==0)=false:=by simp;omega
 obtain ⟨e,p1,p2,p3,p4⟩:=tdm a b hb
 have hq : -1000000000000≤Int.tdiv a b∧Int.tdiv a b≤1000000000000:=by
  rcases Int.le_total 0 a with h | h
  ·have h0:0≤a/b:=Int.ediv_nonneg h (by omega)
   have h3:a/b≤a:=Int.ediv_le_self b h
   rw [jmc h];omega
  ·have h0:0≤(-a)/b:=Int.ediv_nonneg (by omega) (by omega)
   have h3:(-a)/b ≤ -a:=Int.ediv_le_self b (by omega)
   have h4:Int.tdiv (-a) b=(-a)/b:=jmc (by omega)
   rw [Int.neg_tdiv] at h4;omega
 simp only [j7G,hb0,kb,j5]
 rw [j02 (x:=Int.tdiv a b) (by omega) (by omega)]
 by_cases hm:Int.tmod a b<0
 ·rw [j00 hm,j5,j02 (by omega) (by omega)]
  congr 1
  have:a/b=Int.tdiv a b-1:=by
   have h3:a=(a.tmod b+b)+b*(Int.tdiv a b-1):=by rw [Int.mul_sub];omega
   rw [h3,Int.add_mul_ediv_left _ _ (by omega),Int.ediv_eq_zero_of_lt (by omega) (by omega)]
   rw [←h3];omega
  omega
 ·rw [j01 hm,j6]
  congr 1
  have h3:a=a.tmod b+b*Int.tdiv a b:=by omega
  have:a/b=Int.tdiv a b:=by
   conv=>lhs;rw [h3]
   rw [Int.add_mul_ediv_left _ _ (by omega),Int.ediv_eq_zero_of_lt (by omega) (by omega)]
   omega
  omega
theorem jtL (y:Int) (h1 : -1000000000≤y) (h2:y≤1000000000):j4V y=some (cnt y):=by
 simp only [j4V]
 rw [j02 (x:=y-1) (by omega) (by omega),j02 (x:=y-1970) (by omega) (by omega),jmi _ 4 (by omega) (by omega) (by omega),jmi _ 100 (by omega) (by omega) (by omega),jmi _ 400 (by omega) (by omega) (by omega)]
 simp only [j3]
 simp (disch:=omega) only [j02]
 rfl
theorem jnP (y m d:Int) (hm:m≤13):∀ (n:Nat) (s k:Int),1≤k→k+n=m → -1000000000000≤s→s+31*n≤1000000000000→j5g s k y m d=some (s+cum y m-cum y k)
 | 0,s,k,hk,hn,_,_=>by
  rw [jbA]
  have:k=m:=by omega
  subst this
  simp only [j3W,j01 (show ¬ k<k by omega),j6,j0b]
  congr 1;omega
 | n+1,s,k,hk,hn,h1,h2=>by
  rw [jbA]
  have hd:=jei y k
  have hc:=jpQ y k hk (by omega)
  simp only [j3W,joT,j3,j00 (show k<m by omega),j5,j07]
  rw [j02 (x:=s+dim y k) (by omega) (by omega),j02 (x:=k+1) (by omega) (by omega)]
  have ih:=jnP y m d hm n (s+dim y k) (k+1) (by omega) (by omega) (by omega) (by omega)
  rw [ih]
  congr 1;omega
theorem jsa (y m d:Int) (h1 : -1000000≤y) (h2:y≤1000000) (hm1:1≤m) (hm2:m≤12) (hd1 : -1000000≤d) (hd2:d≤1000000):j6o (y,m,d)=some (num y m d):=by
 have hb : -1000000000≤cnt y∧cnt y≤1000000000:=by unfold cnt;omega
 simp only [j6o,jtL y (by omega) (by omega),j3]
 rw [j02 (x:=cnt y+d) (by omega) (by omega),j02 (by omega) (by omega),jnP y m d (by omega) (m-1).toNat _ 1 (by omega) (by omega) (by omega) (by omega)]
 have:cum y 1=0:=rfl
 simp only [j3,num]
 congr 1;omega
theorem jl5 (day:Int):j6I day=some ((Int.tmod day 7+10)%7):=by
 obtain ⟨e,p1,p2,p3,p4⟩:=tdm day 7 (by omega)
 simp only [j6I]
 rw [j02 (by omega) (by omega),jmd (by omega)]
theorem jl6 (day:Int) (_h : -3≤day):j6I day=some ((day+3)%7):=by
 rw [jl5]
 congr 1
 obtain ⟨e,p1,p2,p3,p4⟩:=tdm day 7 (by omega)
 omega
def jqD (y m d:Int):Prop:=1970≤y∧y≤2240∧1≤d∧d≤dim y m
instance (y m d:Int):Decidable (jqD y m d):=by unfold jqD;infer_instance
theorem joU {y m d:Int} (h:jqD y m d):1≤m∧m≤12:=by
 obtain ⟨_,_,h3,h4⟩:=h
 by_cases hm:m<1∨12<m
 ·have:dim y m=0:=if_pos hm
  omega
 ·omega
theorem jsb {y m d:Int}:decide (1970≤y∧y≤2240∧1≤d∧d≤dim y m)=decide (jqD y m d):=rfl
theorem jjL {y m d:Int} (h:jqD y m d):0≤num y m d∧num y m d<98981:=by
 have hm:=joU h
 obtain ⟨h1,h2,h3,h4⟩:=h
 have hc:=js9 y m
 have c1:=jmg (a:=1970) (b:=y) (by omega)
 have c2:=jmg (a:=y) (b:=2240) (by omega)
 have e1:cnt 1970=0:=by decide
 have hd:=jei y m
 have e2:cnt 2240=98615:=by decide
 have hcs:cum y m+dim y m≤365+jc8 y:=by
  have:=jpQ y m hm.1 hm.2
  have:cum y (m+1)≤365+jc8 y:=by have:=jiA y;unfold cum;omega
  omega
 have c3:=jtJ y
 have c4:=jmg (a:=y+1) (b:=2241) (by omega)
 have e3:cnt 2241=98981:=by decide
 unfold num;omega
def nth (y m k w:Int):Int:=
 let d:=num y m 1+(w-(num y m 1+3)%7+7)%7+7*(k-1)
 if d≥num y m 1+dim y m then d-7 else d
theorem jhs (y m:Int) (h1:1970≤y) (h2:y≤2240) (hm1:1≤m) (hm2:m≤12):jqD y m 1:=⟨h1,h2,by omega,by have:=jmh y m hm1 hm2;omega⟩
theorem jwg (y m k w:Int) (h1:1970≤y) (h2:y≤2240) (hm1:1≤m) (hm2:m≤12) (hk1:1≤k) (hk2:k≤5) (hw1:0≤w) (hw2:w≤6):jaD y m k w=some (nth y m k w,0):=by
 have hv:=jhs y m h1 h2 hm1 hm2
 have hr:=jjL hv
 have hd:=jei y m
 have hVal:jaC (y,m,1)=some true:=by rw [jtK,jsb,qf hv]
 simp only [jaD,hVal,j3,jt,j6]
 rw [j01 (show ¬ k<1 by omega),j01 (show ¬ k>5 by omega),j01 (show ¬ w<0 by omega),j01 (show ¬ w>6 by omega)]
 simp only [j6,jsa y m 1 (by omega) (by omega) hm1 hm2 (by omega) (by omega),j3,jl6 _ (show -3≤num y m 1 by omega),joT]
 generalize hn:num y m 1=n at *
 have hm7:0≤(n+3)%7∧(n+3)%7≤6:=by omega
 rw [j02 (x:=w-(n+3)%7) (by omega) (by omega),j02 (x:=w-(n+3)%7+7) (by omega) (by omega),jmd (show 0≤w-(n+3)%7+7 by omega)]
 rw [j02 (x:=k-1) (by omega) (by omega),j02 (x:=7*(k-1)) (by omega) (by omega)]
 rw [j02 (x:=n+(w-(n+3)%7+7)%7) (by omega) (by omega),j02 (x:=n+(w-(n+3)%7+7)%7+7*(k-1)) (by omega) (by omega),j02 (x:=n+dim y m) (by omega) (by omega)]
 unfold nth
 simp only [hn]
 by_cases hc:n+(w-(n+3)%7+7)%7+7*(k-1)≥n+dim y m
 ·rw [j00 hc,j5,if_pos hc,j02 (by omega) (by omega)]
 ·rw [j01 hc,j6,if_neg hc]
def DOk (l:List Int) (a:Int):Prop:=0≤a∧a≤(l.length:Int)∧l.length≤1000000
theorem j0O {l:List Int} {a n:Int} (h:DOk l a) (hn:1≤n) (hn2:n≤1000000000000):∃ x a',j03 l a n=some (x,l,a')∧0≤x∧x<n∧DOk l a':=by
 obtain ⟨h1,h2,h3⟩:=h
 simp only [j03,show Int.ofNat (List.length l)=(l.length:Int) from rfl]
 by_cases ha:a≥(l.length:Int)
 ·rw [j00 ha,j5]
  exact ⟨0,a,rfl,by omega,by omega,h1,h2,h3⟩
 ·rw [j01 ha,j6,j01 (show ¬ n<1 by omega),j6,j1c h1 (by omega),j5,j3V (show n≠0 by omega)]
  obtain ⟨e,p1,p2,p3,p4⟩:=tdm (l.getD a.toNat 0) n (by omega)
  rw [j02 (x:=a+1) (by omega) (by omega)]
  simp only [kb,j5]
  by_cases ht:Int.tmod (l.getD a.toNat 0) n<0
  ·rw [j00 ht,j5,j02 (by omega) (by omega)]
   exact ⟨_,_,rfl,by omega,by omega,by omega,by omega,h3⟩
  ·rw [j01 ht,j6]
   exact ⟨_,_,rfl,by omega,by omega,by omega,by omega,h3⟩
theorem j7O {l:List Int} {a:Int} (h:DOk l a) {xs:List Int} (hx0:0<xs.length) (hx1:xs.length≤1000000):∃ x a',j1t l a xs=some (x,l,a')∧x∈xs∧DOk l a':=by
 obtain ⟨x,a',e,h1,h2,h3⟩:=j0O (n:=(xs.length:Int)) h (by omega) (by omega)
 simp only [j1t,show Int.ofNat (List.length xs)=(xs.length:Int) from rfl,e,j3]
 rw [j1c h1 (by omega),j5]
 have hlt:x.toNat<xs.length:=by omega
 refine ⟨_,_,rfl,?_,h3⟩
 rw [List.getD_eq_getElem?_getD,ji hlt]
 exact jh hlt
end Go.Proofs.Pw
