/- Small facts on Go's division. -/
import Derived.Test.YtpbnnhakjhalaaaGreatECLD
import Derived.Test.YtpbnnhakjhalaaaGreatECFns
open Go Go.Lft
namespace Go.Proofs.Pw
theorem tdm (a b:Int) (hb:0<b):b*Int.tdiv a b+Int.tmod a b=a∧(0≤a→0≤Int.tmod a b)∧(a≤0→Int.tmod a b≤0)∧Int.tmod a b<b ∧ -b<Int.tmod a b:=by
 have h1:=Int.mul_tdiv_add_tmod a b
 have h2:0≤a→0≤Int.tmod a b:=fun h=>Int.tmod_nonneg b h
 have h3:a≤0→Int.tmod a b≤0:=fun h=>by
  have:=Int.tmod_nonneg (a:= -a) b (by omega)
  rw [Int.neg_tmod] at this;omega
 have h4:=Int.tmod_lt_of_pos a hb
 have h5 : -b<Int.tmod a b:=by
  have:=Int.tmod_lt_of_pos (-a) hb
  rw [Int.neg_tmod] at this;omega
 exact ⟨h1,h2,h3,h4,h5⟩
theorem jdp {a b:Int} (ha:0≤a):Int.tdiv a b=a/b:=Int.tdiv_eq_ediv_of_nonneg ha
theorem jkZ {a b:Int} (ha:0≤a):Int.tmod a b=a%b:=Int.tmod_eq_emod_of_nonneg ha
theorem jdq (a b:Int):(Int.tmod a b==0)=(a%b==0):=by
 rw [Bool.eq_iff_iff]
 simp only [qe]
 rw [←Int.dvd_iff_tmod_eq_zero,←Int.dvd_iff_emod_eq_zero]
theorem j01 {p:Prop} [Decidable p] (h:p):decide p=true:=zb h
theorem j00 {p:Prop} [Decidable p] (h:¬ p):decide p=false:=decide_eq_false h
theorem jeS {a b:Int} (h:a=b):(a==b)=true:=by simp [h]
theorem j9f {a b:Int} (h:a≠b):(a==b)=false:=by simp [h]
theorem j1v {i:Int} {n:Nat} (h1:0≤i) (h2:i<n):inR i n=true:=by simp [inR,h1,h2]
def jbl (ks:List ByteArray):List (ByteArray×Bool):=ks.map fun k=>(k,true)
def NmL (ks:List ByteArray):Prop:=ks.Nodup∧∀ k∈ks,j48 k=some true
theorem jr2 {s:ByteArray}:∀ {l:List ByteArray},s∉l→jcd false (jbl l) s=false∧jaU (jbl l) s true=jbl (l++[s])
 | [],_=>⟨rfl,rfl⟩
 | k::l,h=>by
  simp only [je,not_or] at h
  obtain ⟨h1,h2⟩:=jr2 (l:=l) h.2
  have hb:(s==k)=false:=kp.2 fun hh=>h.1 ((MapKept.bytes_beq s k).1 hh)
  refine ⟨?_,?_⟩
  ·show cond (s==k) true (jcd false (jbl l) s)=false
   rw [hb];exact h1
  ·show cond (s==k) ((s,true)::jbl l) ((k,true)::jaU (jbl l) s true)=_
   rw [hb,j5,h2];rfl
theorem jiD {α:Type} (f:α→ByteArray) {xs:List α} (h:NmL (xs.map f)) {i:Nat} (hi:i<xs.length):j2A (f xs[i]) (jbl ((xs.take i).map f))=some (0,jbl ((xs.take (i+1)).map f)):=by
 have hm:f xs[i]∈xs.map f:=List.mem_map_of_mem (jc hi)
 have hn:f xs[i]∉(xs.take i).map f:=by
  intro hx
  have hs:xs.map f=(xs.take i).map f++(f xs[i]::(xs.drop (i+1)).map f):=by
   rw [←kv,←qv,List.getElem_cons_drop hi,q9]
  have:=h.1
  rw [hs,ky] at this
  exact this.2.2 _ hx _ (by simp) rfl
 obtain ⟨h1,h2⟩:=jr2 hn
 simp only [j2A,h.2 _ hm,j2,jd,j5,h1,h2]
 rw [List.take_add_one,jl hi,qv]
 rfl
abbrev TrL:=List (Int×Int)
def tat (l:TrL) (i:Nat):Int:=(l.getD i (0,0)).1
def tof (o:Int) (l:TrL) (i:Nat):Int:=if i=0 then o else (l.getD (i-1) (0,0)).2
def frm (l:TrL) (i:Nat):Int:=if i=0 then 0 else if i≤l.length then tat l (i-1) else 8589934593
structure TOk (o:Int) (l:TrL):Prop where
 len:l.length≤1000
 gap:∀ i,i+1<l.length→tat l i+604800≤tat l (i+1)
 pos:∀ i,i<l.length→1000000<tat l i
 max:∀ i,i<l.length→tat l i≤8589000000
 of0:∀ i,i≤l.length → -64800≤tof o l i
 of1:∀ i,i≤l.length→tof o l i≤64800
section
variable {o:Int} {l:TrL} (h:TOk o l)
include h
omit h in
theorem frm0:frm l 0=0:=rfl
omit h in
theorem jtw {i:Nat} (hi:i<l.length):frm l (i+1)=tat l i:=by
 unfold frm
 rw [if_neg (Nat.succ_ne_zero i),if_pos (show i+1≤l.length by omega)];rfl
omit h in
theorem jr3:frm l (l.length+1)=8589934593:=by
 unfold frm
 rw [if_neg (Nat.succ_ne_zero _),if_neg (show ¬ l.length+1≤l.length by omega)]
theorem TOk.frm_lt {i:Nat} (hi:i≤l.length):frm l i<frm l (i+1):=by
 rcases qq i l.length with hl | hl
 ·rw [jtw hl]
  cases i with
  | zero=>rw [frm0];exact (by have:=h.pos 0 hl;omega)
  | succ i=>
   rw [jtw (by omega)]
   have:=h.gap i hl;omega
 ·have:i=l.length:=by omega
  subst this
  rw [jr3]
  cases hq:l.length with
  | zero=>rw [frm0];omega
  | succ n=>
   rw [jtw (by omega)]
   have:=h.max n (by omega);omega
theorem TOk.frm_le {i j:Nat} (hij:i≤j) (hj:j≤l.length+1):frm l i≤frm l j:=by
 induction j with
 | zero=>have:i=0:=by omega
         subst this;omega
 | succ j ih=>
  by_cases he:i=j+1
  ·subst he;omega
  ·have h1:=ih (by omega) (by omega)
   have h2:=h.frm_lt (i:=j) (by omega)
   omega
def pc (o:Int) (l:TrL) (i:Nat):Int×(Int×Int):=(frm l i,(frm l (i+1),tof o l i))
def Sol (o:Int) (l:TrL) (s:Int) (i:Nat):Prop:=frm l i≤s-tof o l i∧s-tof o l i<frm l (i+1)
instance (o:Int) (l:TrL) (s:Int) (i:Nat):Decidable (Sol o l s i):=by unfold Sol;infer_instance
end
def j7D (x:Int×Int):TrL→TrL
 | []=>[x]
 | y::ys=>if x.1<y.1 then y::j7D x ys else x::y::ys
def j2U:TrL→TrL→TrL
 | [],acc=>acc
 | x::xs,acc=>j2U xs (j7D x acc)
def j5Z (l:TrL):TrL:=(j2U l []).reverse
theorem jbm (x:Int×Int):∀ l,(j7D x l).length=l.length+1
 | []=>rfl
 | y::ys=>by unfold j7D;split<;>simp [jbm x ys]
theorem jaw:∀ (l acc:TrL),(j2U l acc).length=l.length+acc.length
 | [],acc=>by simp [j2U]
 | x::xs,acc=>by simp only [j2U,jaw xs,jbm,jy];omega
def Sm (l:TrL):Prop:=∀ x∈l, -1000000000000≤x.1∧x.1≤1000000000000
theorem jmz {x:Int×Int} (hx : -1000000000000≤x.1∧x.1≤1000000000000):∀ {l:TrL},Sm l→Sm (j7D x l)
 | [],_=>fun y hy=>by simp [j7D] at hy;subst hy;exact hx
 | z::zs,h=>by
  unfold j7D
  split
  ·intro y hy
   rcases je.1 hy with rfl | hy
   ·exact h _ (by simp)
   ·exact jmz hx (l:=zs) (fun w hw=>h w (by simp [hw])) y hy
  ·intro y hy
   rcases je.1 hy with rfl | hy
   ·exact hx
   ·exact h y hy
theorem jtx (rp mid:TrL) (x:Int×Int):(rp.reverse++x::mid).getD rp.length (0,0)=x:=by
 rw [jo,js (by simp)]
 simp
theorem jsy (n s8:Int) (x:Int×Int) (hx : -1000000000000≤x.1∧x.1≤1000000000000):∀ (rp mid:TrL),Sm rp→rp.length+mid.length≤1000→
  j0g 0 n s8 (rp.length:Int) (rp.reverse++x::mid)=some (0,n,s8,(j7D x rp).reverse++mid)
 | [],mid,_,_=>by
  rw [j1F]
  simp only [j0l]
  rw [j00 (by simp),j5,j0n]
  rfl
 | y::ys,mid,hsm,hlen=>by
  have hy:=hsm y (by simp)
  have hL:((y::ys).reverse++x::mid).length=ys.length+1+(mid.length+1):=by simp;omega
  simp only [jy] at hlen
  rw [j1F]
  simp only [j0l,jy]
  rw [j01 (show ((ys.length+1:Nat):Int)>0 by omega),j1v (by omega) (by rw [hL];omega),j04 (x:=((ys.length+1:Nat):Int)-1) (by omega) (by omega),j1v (by omega) (by rw [hL];omega)]
  simp only [j4,j6]
  have g1:((y::ys).reverse++x::mid).getD (ys.length+1) ((0:Int),(0:Int))=x:=jtx (y::ys) mid x
  have g2:((y::ys).reverse++x::mid).getD ((((ys.length+1:Nat):Int)-1).toNat) ((0:Int),(0:Int))=y:=by
   rw [show (((ys.length+1:Nat):Int)-1).toNat=ys.length by omega]
   simp
  rw [g1,g2]
  simp only [j6B,j2]
  rw [j04 (x:=x.1-y.1) (by omega) (by omega)]
  by_cases hc:x.1<y.1
  ·rw [j01 (show x.1-y.1<0 by omega)]
   have hset:List.set (List.set ((y::ys).reverse++x::mid) (ys.length+1) (y.1,y.2)) ((((ys.length+1:Nat):Int)-1).toNat) (x.1,x.2)=ys.reverse++x::(y::mid):=by
    rw [show (((ys.length+1:Nat):Int)-1).toNat=ys.length by omega]
    simp
   rw [j1v (by omega) (by rw [qs,hL];omega)]
   simp only [j4,j0i,hset]
   have he:=jsy n s8 x hx ys (y::mid) (fun z hz=>hsm z (by simp [hz])) (by simp;omega)
   rw [show ((ys.length+1:Nat):Int)-1=(ys.length:Int) by omega,he]
   simp [j7D,hc]
  ·rw [j00 (show ¬ x.1-y.1<0 by omega)]
   simp only [j5,j0n]
   simp [j7D,hc]
theorem jsz:∀ (xs rp:TrL),Sm rp→Sm xs→rp.length+xs.length≤1000→
  j0h 0 ((rp.length+xs.length:Nat):Int) (rp.length:Int) (rp.reverse++xs)=some (j2U xs rp).reverse
 | [],rp,_,_,_=>by
  rw [j0Q]
  simp only [j07]
  rw [j00 (by simp),j5,j0n]
  simp [j2U]
 | x::xs,rp,hr,hx,hlen=>by
  have hxx:=hx x (by simp)
  simp only [jy] at hlen
  have he:=jsy ((rp.length+(x::xs).length:Nat):Int) (rp.length:Int) x hxx rp xs hr (by omega)
  have ih:=jsz xs (j7D x rp) (jmz hxx hr) (fun z hz=>hx z (by simp [hz])) (by rw [jbm];omega)
  rw [jbm] at ih
  rw [j0Q]
  simp only [j07]
  rw [j01 (by simp only [jy];omega),he]
  simp only [j4,j2,j2U]
  rw [show rp.length+1+xs.length=rp.length+(x::xs).length by simp;omega] at ih
  rw [j04 (by omega) (by omega),j0i]
  exact ih
theorem jl0 {l:TrL} (hs:Sm l) (hl:l.length<20):j08 l=some (j5Z l):=by
 have hins:j0b l 0 (l.length:Int)=some (j5Z l):=by
  simp only [j0b]
  cases l with
  | nil=>
   rw [j0Q]
   rfl
  | cons x xs=>
   have:=jsz xs [x] (fun z hz=>by simp at hz;subst hz;exact hs _ (by simp)) (fun z hz=>hs z (by simp [hz])) (by simp at hl ⊢;omega)
   rw [show w64 (0+1)=(([x]:TrL).length:Int) from rfl,show ((x::xs).length:Int)=(([x].length+xs.length:Nat):Int) by simp;omega]
   rw [show (x::xs)=[x].reverse++xs from rfl,this]
   rfl
 have e0:j0u (l.length:Int) 20 0 20 l=some ((l.length:Int),20,0,l):=by
  rw [j4E]
  simp only [j0d]
  rw [j00 (by omega),j5,j0n]
 have e2:j0v (l.length:Int) 20 (j5Z l)=some (j5Z l):=by
  rw [j4F]
  simp only [j0e]
  rw [j00 (by omega),j5,j0n]
 simp only [j08,j0C,show Int.ofNat (List.length l)=(l.length:Int) from rfl,e0,j2,hins,e2]
def jl1 (y:Int):Bool:=decide (y%4=0)&&(!decide (y%100=0)||decide (y%400=0))
def jaR (y:Int):Int:=if y%4=0∧(y%100≠0∨y%400=0) then 1 else 0
theorem jiE (y:Int):jl1 y=true↔y%4=0∧(y%100≠0∨y%400=0):=by simp [jl1]
theorem jox (y:Int):jaR y=if jl1 y then 1 else 0:=by
 unfold jaR
 by_cases h:jl1 y=true
 ·rw [if_pos ((jiE y).1 h),if_pos h]
 ·rw [if_neg (fun h'=>h ((jiE y).2 h')),if_neg h]
theorem jhq (y:Int):0≤jaR y∧jaR y≤1:=by unfold jaR;split<;>omega
def dim (y m:Int):Int:=
 if m<1∨12<m then 0 else if m=2 then 28+jaR y else if m=4∨m=6∨m=9∨m=11 then 30 else 31
def cnt (y:Int):Int:=365*(y-1970)+(y-1)/4-(y-1)/100+(y-1)/400-477
def cum (y m:Int):Int:=
 if m≤1 then 0 else if m=2 then 31 else if m=3 then 59+jaR y else if m=4 then 90+jaR y else if m=5 then 120+jaR y else if m=6 then 151+jaR y
 else if m=7 then 181+jaR y else if m=8 then 212+jaR y else if m=9 then 243+jaR y else if m=10 then 273+jaR y else if m=11 then 304+jaR y else if m=12 then 334+jaR y else 365+jaR y
def num (y m d:Int):Int:=cnt y+cum y m+d-1
theorem jsf (y:Int):cnt (y+1)=cnt y+365+jaR y:=by
 unfold cnt jaR
 split<;>omega
theorem jl2 {a b:Int} (h:a≤b):cnt a+365*(b-a)≤cnt b:=by unfold cnt;omega
theorem jl3 (y m:Int) (h1:1≤m) (h2:m≤12):cum y (m+1)=cum y m+dim y m:=by
 obtain rfl | rfl | rfl | rfl | rfl | rfl | rfl | rfl | rfl | rfl | rfl | rfl:m=1∨m=2∨m=3∨m=4∨m=5∨m=6∨m=7∨m=8∨m=9∨m=10∨m=11∨m=12:=by omega
 all_goals (simp [cum,dim];try omega)
theorem j5M (y m:Int):0≤dim y m∧dim y m≤31:=by
 have:=jhq y
 unfold dim;repeat' split
 all_goals omega
theorem jiF (y m:Int) (h1:1≤m) (h2:m≤12):28≤dim y m:=by
 have:=jhq y
 unfold dim;rw [if_neg (by omega)];repeat' split
 all_goals omega
theorem jmA (y m:Int):0≤cum y m∧cum y m≤366:=by
 have:=jhq y
 unfold cum;omega
theorem jr4 (y:Int):jgg y=some (jl1 y):=by
 have e:(cond (Int.tmod y 4==(0:Int)) (cond (Int.tmod y 100 != (0:Int)) true (Int.tmod y 400==(0:Int))) false)=jl1 y:=by
  unfold bne
  rw [jdq,jdq,jdq,Bool.eq_iff_iff,jiE]
  by_cases h1:y%4=0<;>by_cases h2:y%100=0<;>by_cases h3:y%400=0<;>simp [h1,h2,h3]
 exact congrArg some e
theorem jnL (y m:Int):j5Q y m=some (dim y m):=by
 by_cases h:m<1∨12<m
 ·have hc:cond (decide (m<(1:Int))) true (decide (m>(12:Int)))=true:=by
   rcases h with h | h<;>by_cases h1:m<1<;>simp [h1]<;>omega
  have:dim y m=0:=if_pos h
  rw [this]
  unfold j5Q
  rw [hc];rfl
 ·obtain rfl | rfl | rfl | rfl | rfl | rfl | rfl | rfl | rfl | rfl | rfl | rfl:m=1∨m=2∨m=3∨m=4∨m=5∨m=6∨m=7∨m=8∨m=9∨m=10∨m=11∨m=12:=by omega
  case inr.inl=>
   simp only [j5Q,jr4,dim,jox,j2]
   cases jl1 y<;>rfl
  all_goals rfl
theorem jsg (y m d:Int):j9r (y,m,d)=some (decide (1970≤y∧y≤2240∧1≤d∧d≤dim y m)):=by
 simp only [j9r,jnL,j2]
 by_cases h1:1970≤y<;>by_cases h2:y≤2240<;>by_cases h3:1≤d<;>simp [h1,h2,h3]
theorem jl4 (a b:Int) (hb:0<b) (h1 : -1000000000000≤a) (h2:a≤1000000000000):j6A a b=some (a/b):=by
 have hb0:(b==0)=false:=by simp;omega
 obtain ⟨e,p1,p2,p3,p4⟩:=tdm a b hb
 have hq : -1000000000000≤Int.tdiv a b∧Int.tdiv a b≤1000000000000:=by
  rcases Int.le_total 0 a with h | h
  ·have h0:0≤a/b:=Int.ediv_nonneg h (by omega)
   have h3:a/b≤a:=Int.ediv_le_self b h
   rw [jdp h];omega
  ·have h0:0≤(-a)/b:=Int.ediv_nonneg (by omega) (by omega)
   have h3:(-a)/b ≤ -a:=Int.ediv_le_self b (by omega)
   have h4:Int.tdiv (-a) b=(-a)/b:=jdp (by omega)
   rw [Int.neg_tdiv] at h4;omega
 simp only [j6A,hb0,qa,j4]
 rw [j04 (x:=Int.tdiv a b) (by omega) (by omega)]
 by_cases hm:Int.tmod a b<0
 ·rw [j01 hm,j4,j04 (by omega) (by omega)]
  congr 1
  have:a/b=Int.tdiv a b-1:=by
   have h3:a=(a.tmod b+b)+b*(Int.tdiv a b-1):=by rw [Int.mul_sub];omega
   rw [h3,Int.add_mul_ediv_left _ _ (by omega),Int.ediv_eq_zero_of_lt (by omega) (by omega)]
   rw [←h3];omega
  omega
 ·rw [j00 hm,j5]
  congr 1
  have h3:a=a.tmod b+b*Int.tdiv a b:=by omega
  have:a/b=Int.tdiv a b:=by
   conv=>lhs;rw [h3]
   rw [Int.add_mul_ediv_left _ _ (by omega),Int.ediv_eq_zero_of_lt (by omega) (by omega)]
   omega
  omega
theorem jsh (y:Int) (h1 : -1000000000≤y) (h2:y≤1000000000):j3R y=some (cnt y):=by
 simp only [j3R]
 rw [j04 (x:=y-1) (by omega) (by omega),j04 (x:=y-1970) (by omega) (by omega),jl4 _ 4 (by omega) (by omega) (by omega),jl4 _ 100 (by omega) (by omega) (by omega),jl4 _ 400 (by omega) (by omega) (by omega)]
 simp only [j2]
 simp (disch:=omega) only [j04]
 rfl
theorem jmB (y m d:Int) (hm:m≤13):∀ (n:Nat) (s k:Int),1≤k→k+n=m → -1000000000000≤s→s+31*n≤1000000000000→j49 s k y m d=some (s+cum y m-cum y k)
 | 0,s,k,hk,hn,_,_=>by
  rw [jap]
  have:k=m:=by omega
  subst this
  simp only [j31,j00 (show ¬ k<k by omega),j5,j0n]
  congr 1;omega
 | n+1,s,k,hk,hn,h1,h2=>by
  rw [jap]
  have hd:=j5M y k
  have hc:=jl3 y k hk (by omega)
  simp only [j31,jnL,j2,j01 (show k<m by omega),j4,j0i]
  rw [j04 (x:=s+dim y k) (by omega) (by omega),j04 (x:=k+1) (by omega) (by omega)]
  have ih:=jmB y m d hm n (s+dim y k) (k+1) (by omega) (by omega) (by omega) (by omega)
  rw [ih]
  congr 1;omega
theorem jr5 (y m d:Int) (h1 : -1000000≤y) (h2:y≤1000000) (hm1:1≤m) (hm2:m≤12) (hd1 : -1000000≤d) (hd2:d≤1000000):j5n (y,m,d)=some (num y m d):=by
 have hb : -1000000000≤cnt y∧cnt y≤1000000000:=by unfold cnt;omega
 simp only [j5n,jsh y (by omega) (by omega),j2]
 rw [j04 (x:=cnt y+d) (by omega) (by omega),j04 (by omega) (by omega),jmB y m d (by omega) (m-1).toNat _ 1 (by omega) (by omega) (by omega) (by omega)]
 have:cum y 1=0:=rfl
 simp only [j2,num]
 congr 1;omega
theorem jpt (day:Int):j4x day=some ((Int.tmod day 7+10)%7):=by
 obtain ⟨e,p1,p2,p3,p4⟩:=tdm day 7 (by omega)
 simp only [j4x]
 rw [j04 (by omega) (by omega),jkZ (by omega)]
theorem jgq (day:Int) (_h : -3≤day):j4x day=some ((day+3)%7):=by
 rw [jpt]
 congr 1
 obtain ⟨e,p1,p2,p3,p4⟩:=tdm day 7 (by omega)
 omega
def jl5 (y m d:Int):Prop:=1970≤y∧y≤2240∧1≤d∧d≤dim y m
instance (y m d:Int):Decidable (jl5 y m d):=by unfold jl5;infer_instance
theorem jeT {y m d:Int} (h:jl5 y m d):1≤m∧m≤12:=by
 obtain ⟨_,_,h3,h4⟩:=h
 by_cases hm:m<1∨12<m
 ·have:dim y m=0:=if_pos hm
  omega
 ·omega
theorem jr6 {y m d:Int}:decide (1970≤y∧y≤2240∧1≤d∧d≤dim y m)=decide (jl5 y m d):=rfl
theorem jdr {y m d:Int} (h:jl5 y m d):0≤num y m d∧num y m d<98981:=by
 have hm:=jeT h
 obtain ⟨h1,h2,h3,h4⟩:=h
 have hc:=jmA y m
 have c1:=jl2 (a:=1970) (b:=y) (by omega)
 have c2:=jl2 (a:=y) (b:=2240) (by omega)
 have e1:cnt 1970=0:=by decide
 have hd:=j5M y m
 have e2:cnt 2240=98615:=by decide
 have hcs:cum y m+dim y m≤365+jaR y:=by
  have:=jl3 y m hm.1 hm.2
  have:cum y (m+1)≤365+jaR y:=by have:=jhq y;unfold cum;omega
  omega
 have c3:=jsf y
 have c4:=jl2 (a:=y+1) (b:=2241) (by omega)
 have e3:cnt 2241=98981:=by decide
 unfold num;omega
def nth (y m k w:Int):Int:=
 let d:=num y m 1+(w-(num y m 1+3)%7+7)%7+7*(k-1)
 if d≥num y m 1+dim y m then d-7 else d
theorem jbn (y m:Int) (h1:1970≤y) (h2:y≤2240) (hm1:1≤m) (hm2:m≤12):jl5 y m 1:=⟨h1,h2,by omega,by have:=jiF y m hm1 hm2;omega⟩
theorem juh (y m k w:Int) (h1:1970≤y) (h2:y≤2240) (hm1:1≤m) (hm2:m≤12) (hk1:1≤k) (hk2:k≤5) (hw1:0≤w) (hw2:w≤6):j9s y m k w=some (nth y m k w,0):=by
 have hv:=jbn y m h1 h2 hm1 hm2
 have hr:=jdr hv
 have hd:=j5M y m
 have hVal:j9r (y,m,1)=some true:=by rw [jsg,jr6,zb hv]
 simp only [j9s,hVal,j2,jd,j5]
 rw [j00 (show ¬ k<1 by omega),j00 (show ¬ k>5 by omega),j00 (show ¬ w<0 by omega),j00 (show ¬ w>6 by omega)]
 simp only [j5,jr5 y m 1 (by omega) (by omega) hm1 hm2 (by omega) (by omega),j2,jgq _ (show -3≤num y m 1 by omega),jnL]
 generalize hn:num y m 1=n at *
 have hm7:0≤(n+3)%7∧(n+3)%7≤6:=by omega
 rw [j04 (x:=w-(n+3)%7) (by omega) (by omega),j04 (x:=w-(n+3)%7+7) (by omega) (by omega),jkZ (show 0≤w-(n+3)%7+7 by omega)]
 rw [j04 (x:=k-1) (by omega) (by omega),j04 (x:=7*(k-1)) (by omega) (by omega)]
 rw [j04 (x:=n+(w-(n+3)%7+7)%7) (by omega) (by omega),j04 (x:=n+(w-(n+3)%7+7)%7+7*(k-1)) (by omega) (by omega),j04 (x:=n+dim y m) (by omega) (by omega)]
 unfold nth
 simp only [hn]
 by_cases hc:n+(w-(n+3)%7+7)%7+7*(k-1)≥n+dim y m
 ·rw [j01 hc,j4,if_pos hc,j04 (by omega) (by omega)]
 ·rw [j00 hc,j5,if_neg hc]
theorem jui (x n:Int) (hn:0<n) (hn2:n≤1000000000000):jhp x n=some (x%n):=by
 have h0:(n==0)=false:=by simp;omega
 obtain ⟨e,p1,p2,p3,p4⟩:=tdm x n hn
 simp only [jhp,h0,qa,j4]
 rw [j04 (by omega) (by omega),jkZ (by omega)]
 congr 1
 have h3:x=x.tmod n+n*Int.tdiv x n:=by omega
 conv=>rhs;rw [h3]
 rw [Int.add_mul_emod_self_left,Int.add_emod_right]
def DOk (l:List Int) (a:Int):Prop:=0≤a∧a≤(l.length:Int)∧l.length≤1000000
theorem j0D {l:List Int} {a n:Int} (h:DOk l a) (hn:1≤n) (hn2:n≤1000000000000):∃ x a',j03 l a n=some (x,l,a')∧0≤x∧x<n∧DOk l a':=by
 obtain ⟨h1,h2,h3⟩:=h
 simp only [j03,show Int.ofNat (List.length l)=(l.length:Int) from rfl]
 by_cases ha:a≥(l.length:Int)
 ·rw [j01 ha,j4]
  exact ⟨0,a,rfl,by omega,by omega,h1,h2,h3⟩
 ·rw [j00 ha,j5,j00 (show ¬ n<1 by omega),j5,j1v h1 (by omega),j4,j9f (show n≠0 by omega)]
  obtain ⟨e,p1,p2,p3,p4⟩:=tdm (l.getD a.toNat 0) n (by omega)
  rw [j04 (x:=a+1) (by omega) (by omega)]
  simp only [qa,j4]
  by_cases ht:Int.tmod (l.getD a.toNat 0) n<0
  ·rw [j01 ht,j4,j04 (by omega) (by omega)]
   exact ⟨_,_,rfl,by omega,by omega,by omega,by omega,h3⟩
  ·rw [j00 ht,j5]
   exact ⟨_,_,rfl,by omega,by omega,by omega,by omega,h3⟩
theorem j6I {l:List Int} {a:Int} (h:DOk l a) {xs:List Int} (hx0:0<xs.length) (hx1:xs.length≤1000000):∃ x a',j0Z l a xs=some (x,l,a')∧x∈xs∧DOk l a':=by
 obtain ⟨x,a',e,h1,h2,h3⟩:=j0D (n:=(xs.length:Int)) h (by omega) (by omega)
 simp only [j0Z,show Int.ofNat (List.length xs)=(xs.length:Int) from rfl,e,j2]
 rw [j1v h1 (by omega),j4]
 have hlt:x.toNat<xs.length:=by omega
 refine ⟨_,_,rfl,?_,h3⟩
 rw [jo,jl hlt]
 exact jc hlt
end Go.Proofs.Pw
