/- Small facts on Go's division. -/
import Derived.Test.YthpdddnkpjnllaaGreatCLD
import Derived.Test.YthpdddnkpjnllaaGreatCFns
open Go Go.Lft
namespace Go.Proofs.Pw
theorem tdm (a b:Int) (hb:0<b):b*Int.tdiv a b+Int.tmod a b=a∧(0≤a→0≤Int.tmod a b)∧(a≤0→Int.tmod a b≤0)∧Int.tmod a b<b ∧ -b<Int.tmod a b:=by
 have h1:=Int.mul_tdiv_add_tmod a b
 have h2:0≤a→0≤Int.tmod a b:=fun h=>Int.tmod_nonneg b h
 have h3:a≤0→Int.tmod a b≤0:=fun h=>by
  have:=Int.tmod_nonneg (a:= -a) b (by omega)
  rw [Int.neg_tmod] at this;omega
 have h4:=Int.tmod_lt_of_pos a hb
 have h5 : -b<Int.tmod a b:=by
  have:=Int.tmod_lt_of_pos (-a) hb
  rw [Int.neg_tmod] at this;omega
 exact ⟨h1,h2,h3,h4,h5⟩
theorem tdiv_nn {a b:Int} (ha:0≤a):Int.tdiv a b=a/b:=Int.tdiv_eq_ediv_of_nonneg ha
theorem tmod_nn {a b:Int} (ha:0≤a):Int.tmod a b=a%b:=Int.tmod_eq_emod_of_nonneg ha
theorem j0bR (a b:Int):(Int.tmod a b==0)=(a%b==0):=by
 rw [Bool.eq_iff_iff]
 simp only [beq_iff_eq]
 rw [←Int.dvd_iff_tmod_eq_zero,←Int.dvd_iff_emod_eq_zero]
theorem j001 {p:Prop} [Decidable p] (h:p):decide p=true:=decide_eq_true h
theorem j000 {p:Prop} [Decidable p] (h:¬ p):decide p=false:=decide_eq_false h
theorem beq_t {a b:Int} (h:a=b):(a==b)=true:=by simp [h]
theorem beq_f {a b:Int} (h:a≠b):(a==b)=false:=by simp [h]
theorem inR_t {i:Int} {n:Nat} (h1:0≤i) (h2:i<n):inR i n=true:=by simp [inR,h1,h2]
end Go.Proofs.Pw
open Go Go.Lft
namespace Go.Proofs.Pw
def seenOf (ks:List ByteArray):List (ByteArray×Bool):=ks.map fun k=>(k,true)
def NmL (ks:List ByteArray):Prop:=ks.Nodup∧∀ k∈ks,j06C k=some true
theorem get_not {s:ByteArray}:∀ {l:List ByteArray},s∉l→mapGet false (seenOf l) s=false∧mapSet (seenOf l) s true=seenOf (l++[s])
 | [],_=>⟨rfl,rfl⟩
 | k::l,h=>by
  simp only [List.mem_cons,not_or] at h
  obtain ⟨h1,h2⟩:=get_not (l:=l) h.2
  have hb:(s==k)=false:=Bool.eq_false_iff.2 fun hh=>h.1 ((MapKept.bytes_beq s k).1 hh)
  refine ⟨?_,?_⟩
  ·show cond (s==k) true (mapGet false (seenOf l) s)=false
   rw [hb];exact h1
  ·show cond (s==k) ((s,true)::seenOf l) ((k,true)::mapSet (seenOf l) s true)=_
   rw [hb,cond_false,h2];rfl
theorem name_at {α:Type} (f:α→ByteArray) {xs:List α} (h:NmL (xs.map f)) {i:Nat} (hi:i<xs.length):j033 (f xs[i]) (seenOf ((xs.take i).map f))=some (0,seenOf ((xs.take (i+1)).map f)):=by
 have hm:f xs[i]∈xs.map f:=List.mem_map_of_mem (List.getElem_mem hi)
 have hn:f xs[i]∉(xs.take i).map f:=by
  intro hx
  have hs:xs.map f=(xs.take i).map f++(f xs[i]::(xs.drop (i+1)).map f):=by
   rw [←List.map_cons,←List.map_append,List.getElem_cons_drop hi,List.take_append_drop]
  have:=h.1
  rw [hs,List.nodup_append] at this
  exact this.2.2 _ hx _ (by simp) rfl
 obtain ⟨h1,h2⟩:=get_not hn
 simp only [j033,h.2 _ hm,Option.bind_some,Bool.not_true,cond_false,h1,h2]
 rw [List.take_add_one,List.getElem?_eq_getElem hi,List.map_append]
 rfl
end Go.Proofs.Pw
open Go Go.Lft
namespace Go.Proofs.Pw
abbrev TrL:=List (Int×Int)
def tat (l:TrL) (i:Nat):Int:=(l.getD i (0,0)).1
def tof (o:Int) (l:TrL) (i:Nat):Int:=if i=0 then o else (l.getD (i-1) (0,0)).2
def frm (l:TrL) (i:Nat):Int:=if i=0 then 0 else if i≤l.length then tat l (i-1) else 8589934593
structure TOk (o:Int) (l:TrL):Prop where
 len:l.length≤1000
 gap:∀ i,i+1<l.length→tat l i+604800≤tat l (i+1)
 pos:∀ i,i<l.length→1000000<tat l i
 max:∀ i,i<l.length→tat l i≤8589000000
 of0:∀ i,i≤l.length → -64800≤tof o l i
 of1:∀ i,i≤l.length→tof o l i≤64800
section
variable {o:Int} {l:TrL} (h:TOk o l)
include h
theorem TOk.at_lt:∀ (k i:Nat),i+k+1<l.length→tat l i+604800≤tat l (i+k+1)
 | 0,i,hk=>h.gap i hk
 | k+1,i,hk=>by
  have h1:=TOk.at_lt k i (by omega)
  have h2:=h.gap (i+k+1) (by omega)
  rw [show i+(k+1)+1=i+k+1+1 by omega]
  omega
theorem TOk.at_le {i j:Nat} (hij:i<j) (hj:j<l.length):tat l i+604800≤tat l j:=by
 have:=h.at_lt (j-i-1) i (by omega)
 rwa [show i+(j-i-1)+1=j by omega] at this
omit h in
theorem frm0:frm l 0=0:=rfl
omit h in
theorem frm_s {i:Nat} (hi:i<l.length):frm l (i+1)=tat l i:=by
 unfold frm
 rw [if_neg (Nat.succ_ne_zero i),if_pos (show i+1≤l.length by omega)];rfl
omit h in
theorem frm_end:frm l (l.length+1)=8589934593:=by
 unfold frm
 rw [if_neg (Nat.succ_ne_zero _),if_neg (show ¬ l.length+1≤l.length by omega)]
theorem TOk.frm_lt {i:Nat} (hi:i≤l.length):frm l i<frm l (i+1):=by
 rcases Nat.lt_or_ge i l.length with hl | hl
 ·rw [frm_s hl]
  cases i with
  | zero=>rw [frm0];exact (by have:=h.pos 0 hl;omega)
  | succ i=>
   rw [frm_s (by omega)]
   have:=h.gap i hl;omega
 ·have:i=l.length:=by omega
  subst this
  rw [frm_end]
  cases hq:l.length with
  | zero=>rw [frm0];omega
  | succ n=>
   rw [frm_s (by omega)]
   have:=h.max n (by omega);omega
theorem TOk.frm_le {i j:Nat} (hij:i≤j) (hj:j≤l.length+1):frm l i≤frm l j:=by
 induction j with
 | zero=>have:i=0:=by omega
         subst this;omega
 | succ j ih=>
  by_cases he:i=j+1
  ·subst he;omega
  ·have h1:=ih (by omega) (by omega)
   have h2:=h.frm_lt (i:=j) (by omega)
   omega
theorem j0fq {t:Int} {k:Nat} (hk:k≤l.length) (hlo:∀ i,i<k→tat l i≤t) (hhi:∀ i,k≤i→i<l.length→t<tat l i) :
  ∀ (n:Nat) (a b:Nat),b-a≤n→a≤k→k≤b→b≤l.length→j04T o l t (a:Int) (b:Int)=some (k:Int)
 | 0,a,b,hn,ha,hb,hbl=>by
  rw [j09L]
  simp only [j02E,j000 (show ¬ (a:Int)<(b:Int) by omega),cond_false,lpK_inr]
  congr 1;omega
 | n+1,a,b,hn,ha,hb,hbl=>by
  have hlen:=h.len
  rw [j09L]
  by_cases hab:a<b
  ·have hm:IntKind.wrap .u64 ((a:Int)+(b:Int))=(a:Int)+(b:Int):=IntWalk.u64_in _ ⟨by omega,by omega⟩
   have hd:Int.fdiv ((a:Int)+(b:Int)) 2=(((a+b)/2:Nat):Int):=by
    rw [Int.fdiv_eq_ediv_of_nonneg _ (by omega)];omega
   simp only [j02E,j001 (show (a:Int)<(b:Int) by omega),cond_true]
   rw [w64_in (x:=(a:Int)+(b:Int)) (by omega) (by omega),hm,hd,w64_in (x:=(((a+b)/2:Nat):Int)) (by omega) (by omega)]
   simp only [j062]
   rw [inR_t (by omega) (by omega)]
   simp only [cond_true,Option.bind_some,Int.toNat_natCast]
   by_cases hc:tat l ((a+b)/2)>t
   ·rw [j001 (show (l.getD ((a+b)/2) ((0:Int),(0:Int))).1>t from hc)]
    simp only [Bool.not_true,cond_false,lpK_inl]
    have hkm:k≤(a+b)/2:=by
     rcases Nat.lt_or_ge ((a+b)/2) k with h' | h'
     ·have:=hlo _ h';omega
     ·exact h'
    exact j0fq hk hlo hhi n a ((a+b)/2) (by omega) ha hkm (by omega)
   ·rw [j000 (show ¬ (l.getD ((a+b)/2) ((0:Int),(0:Int))).1>t from hc)]
    simp only [Bool.not_false,cond_true,lpK_inl]
    rw [w64_in (by omega) (by omega)]
    have hkm:(a+b)/2<k:=by
     rcases Nat.lt_or_ge ((a+b)/2) k with h' | h'
     ·exact h'
     ·have:=hhi _ h' (by omega);omega
    exact j0fq hk hlo hhi n ((a+b)/2+1) b (by omega) (by omega) hb hbl
  ·simp only [j02E,j000 (show ¬ (a:Int)<(b:Int) by omega),cond_false,lpK_inr]
   congr 1;omega
theorem j0hj {t:Int} {k:Nat} (hk:k≤l.length) (h1:frm l k≤t) (h2:t<frm l (k+1)):j02u (o,l) t=some (k:Int):=by
 have hlo:∀ i,i<k→tat l i≤t:=by
  intro i hi
  have:frm l k=tat l (k-1):=by
   have:=frm_s (l:=l) (i:=k-1) (by omega)
   rwa [show k-1+1=k by omega] at this
  rw [this] at h1
  by_cases he:i=k-1
  ·subst he;exact h1
  ·have:=h.at_le (i:=i) (j:=k-1) (by omega) (by omega);omega
 have hhi:∀ i,k≤i→i<l.length→t<tat l i:=by
  intro i hi hl
  have:frm l (k+1)=tat l k:=frm_s (by omega)
  rw [this] at h2
  by_cases he:i=k
  ·subst he;exact h2
  ·have:=h.at_le (i:=k) (j:=i) (by omega) hl;omega
 have:=j0fq h hk hlo hhi l.length 0 l.length (by omega) (by omega) hk (by omega)
 simp only [j02u,j07A,show Int.ofNat (List.length l)=(l.length:Int) from rfl]
 rw [show (0:Int)=((0:Nat):Int) from rfl,this]
 rfl
theorem j0fr {k:Nat} (hk:k≤l.length):j03m (o,l) (k:Int)=some (tof o l k):=by
 have hlen:=h.len
 unfold tof
 by_cases h0:k=0
 ·subst h0;rfl
 ·simp only [j03m]
  rw [beq_f (show (k:Int)≠0 by omega),cond_false,w64_in (by omega) (by omega),inR_t (by omega) (by omega),show ((k:Int)-1).toNat=k-1 by omega,if_neg h0]
  rfl
theorem j0kn {t:Int} {k:Nat} (hk:k≤l.length) (h1:frm l k≤t) (h2:t<frm l (k+1)):j02J (o,l) t=some (tof o l k):=by
 simp only [j02J,j0hj h hk h1 h2,Option.bind_some,j0fr h hk]
theorem j0dS {t:Int} (h0:0≤t) (h1:t≤8589934592):∃ k,k≤l.length∧frm l k≤t∧t<frm l (k+1):=by
 have _:=h
 have:∀ n,n≤l.length+1→t<frm l n→∃ k,k<n∧frm l k≤t∧t<frm l (k+1):=by
  intro n
  induction n with
  | zero=>intro _ hn;have:frm l 0=0:=rfl
          omega
  | succ n ih=>
   intro hn hlt
   by_cases hc:frm l n≤t
   ·exact ⟨n,by omega,hc,hlt⟩
   ·obtain ⟨k,a1,a2,a3⟩:=ih (by omega) (by omega)
    exact ⟨k,by omega,a2,a3⟩
 have hlast:frm l (l.length+1)=8589934593:=frm_end
 obtain ⟨k,a1,a2,a3⟩:=this (l.length+1) (by omega) (by omega)
 exact ⟨k,by omega,a2,a3⟩
def pc (o:Int) (l:TrL) (i:Nat):Int×(Int×Int):=(frm l i,(frm l (i+1),tof o l i))
def pcs (o:Int) (l:TrL) (n:Nat):List (Int×(Int×Int)):=(List.range n).map (pc o l)
omit h in
theorem j0jw (n:Nat):pcs o l (n+1)=pcs o l n++[pc o l n]:=by simp [pcs,List.range_succ]
omit h in
theorem pcs_len (n:Nat):(pcs o l n).length=n:=by simp [pcs]
omit h in
theorem pcs_get {n i:Nat} (hi:i<n):(pcs o l n).getD i ((0:Int),((0:Int),(0:Int)))=pc o l i:=by
 simp [pcs,List.getD,hi]
theorem j0hQ:∀ (n k:Nat),k+n=l.length+1→j01v (frm l k) 8589934593 o l (pcs o l k)=some (pcs o l (l.length+1))
 | 0,k,hk=>by
  have hlast:frm l k=8589934593:=by rw [show k=l.length+1 by omega];exact frm_end
  rw [j01S,hlast]
  simp only [j00g]
  rw [j000 (by omega),cond_false,lpK_inr,show k=l.length+1 by omega]
 | n+1,k,hk=>by
  have hlen:=h.len
  have hkl:k≤l.length:=by omega
  have hlt:=h.frm_lt hkl
  have hle:=h.frm_le (i:=k+1) (j:=l.length+1) (by omega) (by omega)
  have hlast:frm l (l.length+1)=8589934593:=frm_end
  have ih:=j0hQ n (k+1) (by omega)
  rw [j01S]
  simp only [j00g]
  rw [j001 (show frm l k<8589934593 by omega),j0hj h hkl (by omega) hlt]
  simp only [cond_true,Option.bind_some,show Int.ofNat (List.length l)=(l.length:Int) from rfl,j0fr h hkl]
  by_cases hlast2:k<l.length
  ·rw [j001 (show (k:Int)<(l.length:Int) by omega),inR_t (by omega) (by omega)]
   simp only [cond_true,Int.toNat_natCast]
   have hto:(if (l.getD k ((0:Int),(0:Int))).1<8589934593 then (l.getD k ((0:Int),(0:Int))).1 else 8589934593)=frm l (k+1):=by
    have hf:frm l (k+1)=tat l k:=frm_s hlast2
    have:=h.max k hlast2
    rw [hf,if_pos (show (l.getD k ((0:Int),(0:Int))).1<8589934593 by show tat l k<_;omega)]
    rfl
   rw [hto,j001 (by rw [pcs_len];simp [sizeMax];omega)]
   simp only [cond_true,lpK_inl]
   rw [j0jw] at ih
   exact ih
  ·rw [j000 (show ¬ (k:Int)<(l.length:Int) by omega)]
   simp only [cond_false]
   rw [j001 (by rw [pcs_len];simp [sizeMax];omega)]
   simp only [cond_true,lpK_inl]
   have hk':k=l.length:=by omega
   rw [j0jw] at ih
   unfold pc at ih
   rw [show k+1=l.length+1 by omega,hlast] at ih
   exact ih
theorem j0hR:j011 (o,l) 0 8589934593=some (pcs o l (l.length+1)):=by
 have:=j0hQ h (l.length+1) 0 (by omega)
 simp only [j011]
 rw [show j01v 0 8589934593 o l []=_ from this]
 rfl
def Sol (o:Int) (l:TrL) (s:Int) (i:Nat):Prop:=frm l i≤s-tof o l i∧s-tof o l i<frm l (i+1)
instance (o:Int) (l:TrL) (s:Int) (i:Nat):Decidable (Sol o l s i):=by unfold Sol;infer_instance
omit h in
theorem j0dT {d c:Int} (hd : -1000000≤d) (hd2:d≤1000000) (hc : -86400≤c) (hc2:c≤172800):j03y (d,c)=some (d*86400+c):=by
 simp only [j03y]
 rw [if_neg (show ¬ (-1048576:Int)>d by omega),if_neg (show ¬ (1048576:Int)<d by omega),w64_in (x:=d*86400) (by omega) (by omega),w64_in (by omega) (by omega)]
theorem j0jx {d c:Int} (hd : -1000000≤d) (hd2:d≤1000000) (hc : -86400≤c) (hc2:c≤172800) {k:Nat} (hk:k≤l.length) (hks:d*86400+c-tof o l k<frm l (k+1)) (hbef:∀ j,j<k→frm l (j+1)≤d*86400+c-tof o l j) :
  ∀ (n i:Nat),i+n=k→j02c ((l.length+1:Nat):Int) (i:Int) d c (pcs o l (l.length+1))=some (.inl (max (frm l k) (d*86400+c-tof o l k),true))
 | 0,i,hi=>by
  have hlen:=h.len
  have:i=k:=by omega
  subst this
  have o1:=h.of0 i hk;have o2:=h.of1 i hk
  have hlt:=h.frm_lt hk
  rw [j03p]
  simp only [j01c]
  rw [j001 (show (i:Int)<((l.length+1:Nat):Int) by omega),inR_t (by omega) (by rw [pcs_len];omega)]
  simp only [cond_true,Int.toNat_natCast,pcs_get (show i<l.length+1 by omega),j0dT hd hd2 hc hc2,Option.bind_some,pc]
  rw [w64_in (x:=d*86400+c-tof o l i) (by omega) (by omega)]
  have hm:(if d*86400+c-tof o l i>frm l i then d*86400+c-tof o l i else frm l i)=max (frm l i) (d*86400+c-tof o l i):=by split<;>omega
  rw [hm,j001 (by omega),cond_true,lpK_inr]
 | n+1,i,hi=>by
  have hlen:=h.len
  have hil:i≤l.length:=by omega
  have o1:=h.of0 i hil;have o2:=h.of1 i hil
  have hb:=hbef i (by omega)
  rw [j03p]
  simp only [j01c]
  rw [j001 (show (i:Int)<((l.length+1:Nat):Int) by omega),inR_t (by omega) (by rw [pcs_len];omega)]
  simp only [cond_true,Int.toNat_natCast,pcs_get (show i<l.length+1 by omega),j0dT hd hd2 hc hc2,Option.bind_some,pc]
  rw [w64_in (x:=d*86400+c-tof o l i) (by omega) (by omega),w64_in (x:=(i:Int)+1) (by omega) (by omega)]
  have hm:(if d*86400+c-tof o l i>frm l i then d*86400+c-tof o l i else frm l i)=max (frm l i) (d*86400+c-tof o l i):=by split<;>omega
  rw [hm,j000 (by omega),cond_false,lpK_inl]
  exact j0jx hd hd2 hc hc2 hk hks hbef n (i+1) (by omega)
theorem j0l7 {d c:Int} (hd : -1000000≤d) (hd2:d≤1000000) (hc : -86400≤c) (hc2:c≤172800) {k:Nat} (hk:k≤l.length) (hks:d*86400+c-tof o l k<frm l (k+1)) (hbef:∀ j,j<k→frm l (j+1)≤d*86400+c-tof o l j) :
  j01w (o,l) (d,c)=some (max (frm l k) (d*86400+c-tof o l k),true):=by
 have:=j0jx h hd hd2 hc hc2 hk hks hbef k 0 (by omega)
 simp only [j01w,j0hR h,Option.bind_some,pcs_len,show Int.ofNat (List.length l+1)=((l.length+1:Nat):Int) from rfl]
 rw [show (0:Int)=((0:Nat):Int) from rfl,this]
 rfl
omit h in
theorem j0l8 {n:Int} (h1 : -1000000000000≤n) (h2:n≤1000000000000):j0bs n=some (n/86400,n%86400):=by
 obtain ⟨e,p1,p2,p3,p4⟩:=tdm n 86400 (by omega)
 simp only [j0bs]
 rw [w64_in (x:=Int.tdiv n 86400) (by omega) (by omega)]
 by_cases hm:Int.tmod n 86400<0
 ·rw [j001 hm,cond_true,w64_in (x:=Int.tdiv n 86400-1) (by omega) (by omega),w64_in (x:=(Int.tdiv n 86400-1)*86400) (by omega) (by omega),w64_in (by omega) (by omega)]
  have:n/86400=Int.tdiv n 86400-1:=by omega
  congr 2
  ·omega
  ·omega
 ·rw [j000 hm,cond_false,w64_in (x:=Int.tdiv n 86400*86400) (by omega) (by omega),w64_in (by omega) (by omega)]
  congr 2
  ·omega
  ·omega
theorem j0fs {t:Int} {k:Nat} (hk:k≤l.length) (h1:frm l k≤t) (h2:t<frm l (k+1)):j00n (o,l) t=some ((t+tof o l k)/86400,(t+tof o l k)%86400):=by
 have o1:=h.of0 k hk;have o2:=h.of1 k hk
 have g1:0≤frm l k:=by have:=h.frm_le (i:=0) (j:=k) (by omega) (by omega);have e:frm l 0=0:=rfl;omega
 have hlast:frm l (l.length+1)=8589934593:=frm_end
 have g2:=h.frm_le (i:=k+1) (j:=l.length+1) (by omega) (by omega)
 simp only [j00n,j0kn h hk h1 h2,Option.bind_some]
 rw [w64_in (x:=t+tof o l k) (by omega) (by omega),j0l8 (by omega) (by omega)]
 rfl
end
end Go.Proofs.Pw
open Go Go.Lft
namespace Go.Proofs.Pw
def insRev (x:Int×Int):TrL→TrL
 | []=>[x]
 | y::ys=>if x.1<y.1 then y::insRev x ys else x::y::ys
def j081:TrL→TrL→TrL
 | [],acc=>acc
 | x::xs,acc=>j081 xs (insRev x acc)
def isort (l:TrL):TrL:=(j081 l []).reverse
theorem j0bS (x:Int×Int):∀ l,(insRev x l).length=l.length+1
 | []=>rfl
 | y::ys=>by unfold insRev;split<;>simp [j0bS x ys]
theorem j0b6:∀ (l acc:TrL),(j081 l acc).length=l.length+acc.length
 | [],acc=>by simp [j081]
 | x::xs,acc=>by simp only [j081,j0b6 xs,j0bS,List.length_cons];omega
def Sm (l:TrL):Prop:=∀ x∈l, -1000000000000≤x.1∧x.1≤1000000000000
theorem j0hS {x:Int×Int} (hx : -1000000000000≤x.1∧x.1≤1000000000000):∀ {l:TrL},Sm l→Sm (insRev x l)
 | [],_=>fun y hy=>by simp [insRev] at hy;subst hy;exact hx
 | z::zs,h=>by
  unfold insRev
  split
  ·intro y hy
   rcases List.mem_cons.1 hy with rfl | hy
   ·exact h _ (by simp)
   ·exact j0hS hx (l:=zs) (fun w hw=>h w (by simp [hw])) y hy
  ·intro y hy
   rcases List.mem_cons.1 hy with rfl | hy
   ·exact hx
   ·exact h y hy
theorem get_mid (rp mid:TrL) (x:Int×Int):(rp.reverse++x::mid).getD rp.length (0,0)=x:=by
 rw [List.getD_eq_getElem?_getD,List.getElem?_append_right (by simp)]
 simp
theorem ins_l2 (n s8:Int) (x:Int×Int) (hx : -1000000000000≤x.1∧x.1≤1000000000000):∀ (rp mid:TrL),Sm rp→rp.length+mid.length≤1000→
  j00a 0 n s8 (rp.length:Int) (rp.reverse++x::mid)=some (0,n,s8,(insRev x rp).reverse++mid)
 | [],mid,_,_=>by
  rw [j01Q]
  simp only [j00e]
  rw [j000 (by simp),cond_false,lpK_inr]
  rfl
 | y::ys,mid,hsm,hlen=>by
  have hy:=hsm y (by simp)
  have hL:((y::ys).reverse++x::mid).length=ys.length+1+(mid.length+1):=by simp;omega
  simp only [List.length_cons] at hlen
  rw [j01Q]
  simp only [j00e,List.length_cons]
  rw [j001 (show ((ys.length+1:Nat):Int)>0 by omega),inR_t (by omega) (by rw [hL];omega),w64_in (x:=((ys.length+1:Nat):Int)-1) (by omega) (by omega),inR_t (by omega) (by rw [hL];omega)]
  simp only [cond_true,Int.toNat_natCast]
  have g1:((y::ys).reverse++x::mid).getD (ys.length+1) ((0:Int),(0:Int))=x:=get_mid (y::ys) mid x
  have g2:((y::ys).reverse++x::mid).getD ((((ys.length+1:Nat):Int)-1).toNat) ((0:Int),(0:Int))=y:=by
   rw [show (((ys.length+1:Nat):Int)-1).toNat=ys.length by omega]
   simp
  rw [g1,g2]
  simp only [j060,Option.bind_some]
  rw [w64_in (x:=x.1-y.1) (by omega) (by omega)]
  by_cases hc:x.1<y.1
  ·rw [j001 (show x.1-y.1<0 by omega)]
   have hset:List.set (List.set ((y::ys).reverse++x::mid) (ys.length+1) (y.1,y.2)) ((((ys.length+1:Nat):Int)-1).toNat) (x.1,x.2)=ys.reverse++x::(y::mid):=by
    rw [show (((ys.length+1:Nat):Int)-1).toNat=ys.length by omega]
    simp
   rw [inR_t (by omega) (by rw [List.length_set,hL];omega)]
   simp only [cond_true,lpK_inl,hset]
   have he:=ins_l2 n s8 x hx ys (y::mid) (fun z hz=>hsm z (by simp [hz])) (by simp;omega)
   rw [show ((ys.length+1:Nat):Int)-1=(ys.length:Int) by omega,he]
   simp [insRev,hc]
  ·rw [j000 (show ¬ x.1-y.1<0 by omega)]
   simp only [cond_false,lpK_inr]
   simp [insRev,hc]
theorem ins_l0:∀ (xs rp:TrL),Sm rp→Sm xs→rp.length+xs.length≤1000→
  j00b 0 ((rp.length+xs.length:Nat):Int) (rp.length:Int) (rp.reverse++xs)=some (j081 xs rp).reverse
 | [],rp,_,_,_=>by
  rw [j00Q]
  simp only [j003]
  rw [j000 (by simp),cond_false,lpK_inr]
  simp [j081]
 | x::xs,rp,hr,hx,hlen=>by
  have hxx:=hx x (by simp)
  simp only [List.length_cons] at hlen
  have he:=ins_l2 ((rp.length+(x::xs).length:Nat):Int) (rp.length:Int) x hxx rp xs hr (by omega)
  have ih:=ins_l0 xs (insRev x rp) (j0hS hxx hr) (fun z hz=>hx z (by simp [hz])) (by rw [j0bS];omega)
  rw [j0bS] at ih
  rw [j00Q]
  simp only [j003]
  rw [j001 (by simp only [List.length_cons];omega),he]
  simp only [cond_true,Option.bind_some,j081]
  rw [show rp.length+1+xs.length=rp.length+(x::xs).length by simp;omega] at ih
  rw [w64_in (by omega) (by omega),lpK_inl]
  exact ih
theorem j0gs {l:TrL} (hs:Sm l) (hl:l.length<20):j004 l=some (isort l):=by
 have hins:j006 l 0 (l.length:Int)=some (isort l):=by
  simp only [j006]
  cases l with
  | nil=>
   rw [j00Q]
   rfl
  | cons x xs=>
   have:=ins_l0 xs [x] (fun z hz=>by simp at hz;subst hz;exact hs _ (by simp)) (fun z hz=>hs z (by simp [hz])) (by simp at hl ⊢;omega)
   rw [show w64 (0+1)=(([x]:TrL).length:Int) from rfl,show ((x::xs).length:Int)=(([x].length+xs.length:Nat):Int) by simp;omega]
   rw [show (x::xs)=[x].reverse++xs from rfl,this]
   rfl
 have e0:j00p (l.length:Int) 20 0 20 l=some ((l.length:Int),20,0,l):=by
  rw [j04s]
  simp only [j008]
  rw [j000 (by omega),cond_false,lpK_inr]
 have e2:j00q (l.length:Int) 20 (isort l)=some (isort l):=by
  rw [j04t]
  simp only [j009]
  rw [j000 (by omega),cond_false,lpK_inr]
 simp only [j004,j00B,show Int.ofNat (List.length l)=(l.length:Int) from rfl,e0,Option.bind_some,hins,e2]
end Go.Proofs.Pw
open Go Go.Lft
namespace Go.Proofs.Pw
def leapB (y:Int):Bool:=decide (y%4=0)&&(!decide (y%100=0)||decide (y%400=0))
def leapI (y:Int):Int:=if y%4=0∧(y%100≠0∨y%400=0) then 1 else 0
theorem j0ft (y:Int):leapB y=true↔y%4=0∧(y%100≠0∨y%400=0):=by simp [leapB]
theorem j0l9 (y:Int):leapI y=if leapB y then 1 else 0:=by
 unfold leapI
 by_cases h:leapB y=true
 ·rw [if_pos ((j0ft y).1 h),if_pos h]
 ·rw [if_neg (fun h'=>h ((j0ft y).2 h')),if_neg h]
theorem j0fu (y:Int):0≤leapI y∧leapI y≤1:=by unfold leapI;split<;>omega
def dim (y m:Int):Int:=
 if m<1∨12<m then 0 else if m=2 then 28+leapI y else if m=4∨m=6∨m=9∨m=11 then 30 else 31
def cnt (y:Int):Int:=365*(y-1970)+(y-1)/4-(y-1)/100+(y-1)/400-477
def cum (y m:Int):Int:=
 if m≤1 then 0 else if m=2 then 31 else if m=3 then 59+leapI y else if m=4 then 90+leapI y else if m=5 then 120+leapI y else if m=6 then 151+leapI y
 else if m=7 then 181+leapI y else if m=8 then 212+leapI y else if m=9 then 243+leapI y else if m=10 then 273+leapI y else if m=11 then 304+leapI y else if m=12 then 334+leapI y else 365+leapI y
def num (y m d:Int):Int:=cnt y+cum y m+d-1
theorem j0la (y:Int):cnt (y+1)=cnt y+365+leapI y:=by
 unfold cnt leapI
 split<;>omega
theorem j0hk {a b:Int} (h:a≤b):cnt a+365*(b-a)≤cnt b:=by unfold cnt;omega
theorem j0jy (y m:Int) (h1:1≤m) (h2:m≤12):cum y (m+1)=cum y m+dim y m:=by
 obtain rfl | rfl | rfl | rfl | rfl | rfl | rfl | rfl | rfl | rfl | rfl | rfl:m=1∨m=2∨m=3∨m=4∨m=5∨m=6∨m=7∨m=8∨m=9∨m=10∨m=11∨m=12:=by omega
 all_goals (simp [cum,dim];try omega)
theorem j0bT (y m:Int):0≤dim y m∧dim y m≤31:=by
 have:=j0fu y
 unfold dim;repeat' split
 all_goals omega
theorem dim_pos (y m:Int) (h1:1≤m) (h2:m≤12):28≤dim y m:=by
 have:=j0fu y
 unfold dim;rw [if_neg (by omega)];repeat' split
 all_goals omega
theorem j0ko (y m:Int):0≤cum y m∧cum y m≤366:=by
 have:=j0fu y
 unfold cum;omega
theorem Leap_eq (y:Int):j0dB y=some (leapB y):=by
 have e:(cond (Int.tmod y 4==(0:Int)) (cond (Int.tmod y 100 != (0:Int)) true (Int.tmod y 400==(0:Int))) false)=leapB y:=by
  unfold bne
  rw [j0bR,j0bR,j0bR,Bool.eq_iff_iff,j0ft]
  by_cases h1:y%4=0<;>by_cases h2:y%100=0<;>by_cases h3:y%400=0<;>simp [h1,h2,h3]
 exact congrArg some e
theorem Days_eq (y m:Int):j05Z y m=some (dim y m):=by
 by_cases h:m<1∨12<m
 ·have hc:cond (decide (m<(1:Int))) true (decide (m>(12:Int)))=true:=by
   rcases h with h | h<;>by_cases h1:m<1<;>simp [h1]<;>omega
  have:dim y m=0:=if_pos h
  rw [this]
  unfold j05Z
  rw [hc];rfl
 ·obtain rfl | rfl | rfl | rfl | rfl | rfl | rfl | rfl | rfl | rfl | rfl | rfl:m=1∨m=2∨m=3∨m=4∨m=5∨m=6∨m=7∨m=8∨m=9∨m=10∨m=11∨m=12:=by omega
  case inr.inl=>
   simp only [j05Z,Leap_eq,dim,j0l9,Option.bind_some]
   cases leapB y<;>rfl
  all_goals rfl
theorem j0lb (y m d:Int):j08Y (y,m,d)=some (decide (1970≤y∧y≤2240∧1≤d∧d≤dim y m)):=by
 simp only [j08Y,Days_eq,Option.bind_some]
 by_cases h1:1970≤y<;>by_cases h2:y≤2240<;>by_cases h3:1≤d<;>simp [h1,h2,h3]
theorem j0hl (a b:Int) (hb:0<b) (h1 : -1000000000000≤a) (h2:a≤1000000000000):j06n a b=some (a/b):=by
 have hb0:(b==0)=false:=by simp;omega
 obtain ⟨e,p1,p2,p3,p4⟩:=tdm a b hb
 have hq : -1000000000000≤Int.tdiv a b∧Int.tdiv a b≤1000000000000:=by
  rcases Int.le_total 0 a with h | h
  ·have h0:0≤a/b:=Int.ediv_nonneg h (by omega)
   have h3:a/b≤a:=Int.ediv_le_self b h
   rw [tdiv_nn h];omega
  ·have h0:0≤(-a)/b:=Int.ediv_nonneg (by omega) (by omega)
   have h3:(-a)/b ≤ -a:=Int.ediv_le_self b (by omega)
   have h4:Int.tdiv (-a) b=(-a)/b:=tdiv_nn (by omega)
   rw [Int.neg_tdiv] at h4;omega
 simp only [j06n,hb0,Bool.not_false,cond_true]
 rw [w64_in (x:=Int.tdiv a b) (by omega) (by omega)]
 by_cases hm:Int.tmod a b<0
 ·rw [j001 hm,cond_true,w64_in (by omega) (by omega)]
  congr 1
  have:a/b=Int.tdiv a b-1:=by
   have h3:a=(a.tmod b+b)+b*(Int.tdiv a b-1):=by rw [Int.mul_sub];omega
   rw [h3,Int.add_mul_ediv_left _ _ (by omega),Int.ediv_eq_zero_of_lt (by omega) (by omega)]
   rw [←h3];omega
  omega
 ·rw [j000 hm,cond_false]
  congr 1
  have h3:a=a.tmod b+b*Int.tdiv a b:=by omega
  have:a/b=Int.tdiv a b:=by
   conv=>lhs;rw [h3]
   rw [Int.add_mul_ediv_left _ _ (by omega),Int.ediv_eq_zero_of_lt (by omega) (by omega)]
   omega
  omega
theorem j0lc (y:Int) (h1 : -1000000000≤y) (h2:y≤1000000000):j04l y=some (cnt y):=by
 simp only [j04l]
 rw [w64_in (x:=y-1) (by omega) (by omega),w64_in (x:=y-1970) (by omega) (by omega),j0hl _ 4 (by omega) (by omega) (by omega),j0hl _ 100 (by omega) (by omega) (by omega),j0hl _ 400 (by omega) (by omega) (by omega)]
 simp only [Option.bind_some]
 simp (disch:=omega) only [w64_in]
 rfl
theorem j0hT (y m d:Int) (hm:m≤13):∀ (n:Nat) (s k:Int),1≤k→k+n=m → -1000000000000≤s→s+31*n≤1000000000000→j04m s k y m d=some (s+cum y m-cum y k)
 | 0,s,k,hk,hn,_,_=>by
  rw [j08Z]
  have:k=m:=by omega
  subst this
  simp only [j034,j000 (show ¬ k<k by omega),cond_false,lpK_inr]
  congr 1;omega
 | n+1,s,k,hk,hn,h1,h2=>by
  rw [j08Z]
  have hd:=j0bT y k
  have hc:=j0jy y k hk (by omega)
  simp only [j034,Days_eq,Option.bind_some,j001 (show k<m by omega),cond_true,lpK_inl]
  rw [w64_in (x:=s+dim y k) (by omega) (by omega),w64_in (x:=k+1) (by omega) (by omega)]
  have ih:=j0hT y m d hm n (s+dim y k) (k+1) (by omega) (by omega) (by omega) (by omega)
  rw [ih]
  congr 1;omega
theorem j0kp (y m d:Int) (h1 : -1000000≤y) (h2:y≤1000000) (hm1:1≤m) (hm2:m≤12) (hd1 : -1000000≤d) (hd2:d≤1000000):j05x (y,m,d)=some (num y m d):=by
 have hb : -1000000000≤cnt y∧cnt y≤1000000000:=by unfold cnt;omega
 simp only [j05x,j0lc y (by omega) (by omega),Option.bind_some]
 rw [w64_in (x:=cnt y+d) (by omega) (by omega),w64_in (by omega) (by omega),j0hT y m d (by omega) (m-1).toNat _ 1 (by omega) (by omega) (by omega) (by omega)]
 have:cum y 1=0:=rfl
 simp only [Option.bind_some,num]
 congr 1;omega
theorem j0gt (day:Int):j05R day=some ((Int.tmod day 7+10)%7):=by
 obtain ⟨e,p1,p2,p3,p4⟩:=tdm day 7 (by omega)
 simp only [j05R]
 rw [w64_in (by omega) (by omega),tmod_nn (by omega)]
theorem j0gu (day:Int) (_h : -3≤day):j05R day=some ((day+3)%7):=by
 rw [j0gt]
 congr 1
 obtain ⟨e,p1,p2,p3,p4⟩:=tdm day 7 (by omega)
 omega
def valid (y m d:Int):Prop:=1970≤y∧y≤2240∧1≤d∧d≤dim y m
instance (y m d:Int):Decidable (valid y m d):=by unfold valid;infer_instance
theorem j0it {y m d:Int} (h:valid y m d):1≤m∧m≤12:=by
 obtain ⟨_,_,h3,h4⟩:=h
 by_cases hm:m<1∨12<m
 ·have:dim y m=0:=if_pos hm
  omega
 ·omega
theorem j0kq {y m d:Int}:decide (1970≤y∧y≤2240∧1≤d∧d≤dim y m)=decide (valid y m d):=rfl
theorem j0fv {y m d:Int} (h:valid y m d):0≤num y m d∧num y m d<98981:=by
 have hm:=j0it h
 obtain ⟨h1,h2,h3,h4⟩:=h
 have hc:=j0ko y m
 have c1:=j0hk (a:=1970) (b:=y) (by omega)
 have c2:=j0hk (a:=y) (b:=2240) (by omega)
 have e1:cnt 1970=0:=by decide
 have hd:=j0bT y m
 have e2:cnt 2240=98615:=by decide
 have hcs:cum y m+dim y m≤365+leapI y:=by
  have:=j0jy y m hm.1 hm.2
  have:cum y (m+1)≤365+leapI y:=by have:=j0fu y;unfold cum;omega
  omega
 have c3:=j0la y
 have c4:=j0hk (a:=y+1) (b:=2241) (by omega)
 have e3:cnt 2241=98981:=by decide
 unfold num;omega
def nth (y m k w:Int):Int:=
 let d:=num y m 1+(w-(num y m 1+3)%7+7)%7+7*(k-1)
 if d≥num y m 1+dim y m then d-7 else d
theorem j0dU (y m:Int) (h1:1970≤y) (h2:y≤2240) (hm1:1≤m) (hm2:m≤12):valid y m 1:=⟨h1,h2,by omega,by have:=dim_pos y m hm1 hm2;omega⟩
theorem Nth_ok (y m k w:Int) (h1:1970≤y) (h2:y≤2240) (hm1:1≤m) (hm2:m≤12) (hk1:1≤k) (hk2:k≤5) (hw1:0≤w) (hw2:w≤6):j09j y m k w=some (nth y m k w,0):=by
 have hv:=j0dU y m h1 h2 hm1 hm2
 have hr:=j0fv hv
 have hd:=j0bT y m
 have hVal:j08Y (y,m,1)=some true:=by rw [j0lb,j0kq,decide_eq_true hv]
 simp only [j09j,hVal,Option.bind_some,Bool.not_true,cond_false]
 rw [j000 (show ¬ k<1 by omega),j000 (show ¬ k>5 by omega),j000 (show ¬ w<0 by omega),j000 (show ¬ w>6 by omega)]
 simp only [cond_false,j0kp y m 1 (by omega) (by omega) hm1 hm2 (by omega) (by omega),Option.bind_some,j0gu _ (show -3≤num y m 1 by omega),Days_eq]
 generalize hn:num y m 1=n at *
 have hm7:0≤(n+3)%7∧(n+3)%7≤6:=by omega
 rw [w64_in (x:=w-(n+3)%7) (by omega) (by omega),w64_in (x:=w-(n+3)%7+7) (by omega) (by omega),tmod_nn (show 0≤w-(n+3)%7+7 by omega)]
 rw [w64_in (x:=k-1) (by omega) (by omega),w64_in (x:=7*(k-1)) (by omega) (by omega)]
 rw [w64_in (x:=n+(w-(n+3)%7+7)%7) (by omega) (by omega),w64_in (x:=n+(w-(n+3)%7+7)%7+7*(k-1)) (by omega) (by omega),w64_in (x:=n+dim y m) (by omega) (by omega)]
 unfold nth
 simp only [hn]
 by_cases hc:n+(w-(n+3)%7+7)%7+7*(k-1)≥n+dim y m
 ·rw [j001 hc,cond_true,if_pos hc,w64_in (by omega) (by omega)]
 ·rw [j000 hc,cond_false,if_neg hc]
theorem Mod_eq (x n:Int) (hn:0<n) (hn2:n≤1000000000000):j0cl x n=some (x%n):=by
 have h0:(n==0)=false:=by simp;omega
 obtain ⟨e,p1,p2,p3,p4⟩:=tdm x n hn
 simp only [j0cl,h0,Bool.not_false,cond_true]
 rw [w64_in (by omega) (by omega),tmod_nn (by omega)]
 congr 1
 have h3:x=x.tmod n+n*Int.tdiv x n:=by omega
 conv=>rhs;rw [h3]
 rw [Int.add_mul_emod_self_left,Int.add_emod_right]
end Go.Proofs.Pw
open Go Go.Lft
namespace Go.Proofs.Pw
def DOk (l:List Int) (a:Int):Prop:=0≤a∧a≤(l.length:Int)∧l.length≤1000000
theorem Next_ok {l:List Int} {a n:Int} (h:DOk l a) (hn:1≤n) (hn2:n≤1000000000000):∃ x a',j002 l a n=some (x,l,a')∧0≤x∧x<n∧DOk l a':=by
 obtain ⟨h1,h2,h3⟩:=h
 simp only [j002,show Int.ofNat (List.length l)=(l.length:Int) from rfl]
 by_cases ha:a≥(l.length:Int)
 ·rw [j001 ha,cond_true]
  exact ⟨0,a,rfl,by omega,by omega,h1,h2,h3⟩
 ·rw [j000 ha,cond_false,j000 (show ¬ n<1 by omega),cond_false,inR_t h1 (by omega),cond_true,beq_f (show n≠0 by omega)]
  obtain ⟨e,p1,p2,p3,p4⟩:=tdm (l.getD a.toNat 0) n (by omega)
  rw [w64_in (x:=a+1) (by omega) (by omega)]
  simp only [Bool.not_false,cond_true]
  by_cases ht:Int.tmod (l.getD a.toNat 0) n<0
  ·rw [j001 ht,cond_true,w64_in (by omega) (by omega)]
   exact ⟨_,_,rfl,by omega,by omega,by omega,by omega,h3⟩
  ·rw [j000 ht,cond_false]
   exact ⟨_,_,rfl,by omega,by omega,by omega,by omega,h3⟩
theorem Pick_ok {l:List Int} {a:Int} (h:DOk l a) {xs:List Int} (hx0:0<xs.length) (hx1:xs.length≤1000000):∃ x a',j01d l a xs=some (x,l,a')∧x∈xs∧DOk l a':=by
 obtain ⟨x,a',e,h1,h2,h3⟩:=Next_ok (n:=(xs.length:Int)) h (by omega) (by omega)
 simp only [j01d,show Int.ofNat (List.length xs)=(xs.length:Int) from rfl,e,Option.bind_some]
 rw [inR_t h1 (by omega),cond_true]
 have hlt:x.toNat<xs.length:=by omega
 refine ⟨_,_,rfl,?_,h3⟩
 rw [List.getD_eq_getElem?_getD,List.getElem?_eq_getElem hlt]
 exact List.getElem_mem hlt
end Go.Proofs.Pw
