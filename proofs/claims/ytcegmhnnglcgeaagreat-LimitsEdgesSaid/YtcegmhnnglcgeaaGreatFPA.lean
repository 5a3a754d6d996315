/- Small facts on Go's division. -/
import Derived.Test.YtcegmhnnglcgeaaGreatFLD
import Derived.Test.YtcegmhnnglcgeaaGreatFFns
open Go Go.Lft
namespace Go.Proofs.Pw
theorem tdm (a b:Int) (hb:0<b):b*Int.tdiv a b+Int.tmod a b=a∧(0≤a→0≤Int.tmod a b)∧(a≤0→Int.tmod a b≤0)∧Int.tmod a b<b ∧ -b<Int.tmod a b:=by
 have h1:=Int.mul_tdiv_add_tmod a b
 have h2:0≤a→0≤Int.tmod a b:=fun h=>Int.tmod_nonneg b h
 have h3:a≤0→Int.tmod a b≤0:=fun h=>by
  have:=Int.tmod_nonneg (a:= -a) b (by omega)
  rw [Int.neg_tmod] at this;omega
 have h4:=Int.tmod_lt_of_pos a hb
 have h5 : -b<Int.tmod a b:=by
  have:=Int.tmod_lt_of_pos (-a) hb
  rw [Int.neg_tmod] at this;omega
 exact ⟨h1,h2,h3,h4,h5⟩
theorem jpD {a b:Int} (ha:0≤a):Int.tmod a b=a%b:=Int.tmod_eq_emod_of_nonneg ha
def jqi (y:Int):Int:=if y%4=0∧(y%100≠0∨y%400=0) then 1 else 0
def dim (y m:Int):Int:=
 if m<1∨12<m then 0 else if m=2 then 28+jqi y else if m=4∨m=6∨m=9∨m=11 then 30 else 31
def jq2 (y m d:Int):Prop:=1970≤y∧y≤2240∧1≤d∧d≤dim y m
instance (y m d:Int):Decidable (jq2 y m d):=by unfold jq2;infer_instance
theorem jp6 (x n:Int) (hn:0<n) (hn2:n≤1000000000000):jeQ x n=some (x%n):=by
 have h0:(n==0)=false:=by simp;omega
 obtain ⟨e,p1,p2,p3,p4⟩:=tdm x n hn
 simp only [jeQ,h0,Bool.not_false,cond_true]
 rw [ja8 (by omega) (by omega),jpD (by omega)]
 congr 1
 have h3:x=x.tmod n+n*Int.tdiv x n:=by omega
 conv=>rhs;rw [h3]
 rw [Int.add_mul_emod_self_left,Int.add_emod_right]
end Go.Proofs.Pw
