/- Chapter 18: its examples. -/
import Derived.Test.YtcegmhnnglcgeaaGreatFPB
import Derived.KernelRfl
import Derived.Test.YtcegmhnnglcgeaaGreatFPA
import Derived.Test.YtcegmhnnglcgeaaGreatFLD
open Go Go.Lft
namespace Go.Proofs.Pw
theorem jq3:j8U=some true:=jjQ 60 true (by kernel_rfl)
def aC (w r:Int) (es:List (Int×(Int×(Int×(Int×Int))))):(List (ByteArray×(Int×List (Int×Int×Int×Int×Int×Int×Int))))×(List (ByteArray×(Int×(List (Int×Int)×(Int×(Int×Bool))))))×(List (ByteArray×(Int×List Int)))×(List (ByteArray×(List (ByteArray×(Int×((Int×Int)×(Int×(Int×(List Int×(List (Int×Int)×(Int×Int))))))))×List (Int×(Int×(Int×(Int×Int))))))):=
 ([((ByteArray.mk #[122]),((0:Int),[]))],[((ByteArray.mk #[97]),((0:Int),([((432000:Int),(435600:Int))],(w,(r,true)))))],[],[((ByteArray.mk #[115]),([((ByteArray.mk #[108]),((0:Int),(((1:Int),(0:Int)),((1:Int),((1:Int),([0],([],((0:Int),(0:Int)))))))))],es))])
noncomputable def tH (n0 n:Nat):Bool:=(List.range n).all fun i=>let h:Int:=1+((n0+i:Nat):Int);decide (@j08 (j03 60) (aC (h*3600) 0 []) 0 86400 (86400+h*3600)=some ([],0))&&decide (@j08 (j03 60) (aC (h*3600) 0 []) 0 86400 (86400+h*3600+1)=some ([((0:Int),((0:Int),86400+h*3600+1))],0))
noncomputable def tR (n:Nat):Bool:=(List.range n).all fun i=>let h:Int:=1+(i:Int);decide (@j08 (j03 60) (aC 0 (h*3600) [((0:Int),((0:Int),((0:Int),((90000:Int),90000+h*3600))))]) 0 86400 259200=some ([],0))&&decide (@j08 (j03 60) (aC 0 (h*3600) [((0:Int),((0:Int),((0:Int),((90001:Int),90000+h*3600))))]) 0 86400 259200=some ([((1:Int),((0:Int),90000+h*3600))],0))
theorem tH_0:tH 0 25=true:=by kernel_rfl
theorem jqj:tH 25 25=true:=by kernel_rfl
theorem jqk:tH 50 25=true:=by kernel_rfl
theorem jql:tH 75 25=true:=by kernel_rfl
theorem jqm:tR 24=true:=by kernel_rfl
theorem jjR {α:Type} {a b:Option α} {v:α} (h:OLe a b) (ha:a=some v):b=some v:=h v ha
theorem eH {h:Int} (h0:1≤h) (h1:h≤100):j08 (aC (h*3600) 0 []) 0 86400 (86400+h*3600)=some ([],0)∧j08 (aC (h*3600) 0 []) 0 86400 (86400+h*3600+1)=some ([((0:Int),((0:Int),86400+h*3600+1))],0):=by
 have key:∀ n0 n:Nat,tH n0 n=true→1+(n0:Int)≤h→h<1+n0+n→_:=fun n0 n ht a b=>by
  have:=List.all_eq_true.1 ht (h-1-n0).toNat (List.mem_range.2 (by omega))
  rw [show (1:Int)+((n0+(h-1-n0).toNat:Nat):Int)=h by omega] at this
  simp only [Bool.and_eq_true,decide_eq_true_eq] at this
  exact (⟨jjR (j2H 60 _ _ _ _) this.1,jjR (j2H 60 _ _ _ _) this.2⟩:j08 (aC (h*3600) 0 []) 0 86400 (86400+h*3600)=some ([],0)∧j08 (aC (h*3600) 0 []) 0 86400 (86400+h*3600+1)=some ([((0:Int),((0:Int),86400+h*3600+1))],0))
 by_cases a:h<26
 ·exact key 0 25 tH_0 (by omega) (by omega)
 ·by_cases b:h<51
  ·exact key 25 25 jqj (by omega) (by omega)
  ·by_cases c:h<76
   ·exact key 50 25 jqk (by omega) (by omega)
   ·exact key 75 25 jql (by omega) (by omega)
theorem eR {h:Int} (h0:1≤h) (h1:h≤24):j08 (aC 0 (h*3600) [((0:Int),((0:Int),((0:Int),((90000:Int),90000+h*3600))))]) 0 86400 259200=some ([],0)∧j08 (aC 0 (h*3600) [((0:Int),((0:Int),((0:Int),((90001:Int),90000+h*3600))))]) 0 86400 259200=some ([((1:Int),((0:Int),90000+h*3600))],0):=by
 have:=List.all_eq_true.1 jqm (h-1).toNat (List.mem_range.2 (by omega))
 rw [show (1:Int)+((h-1).toNat:Int)=h by omega] at this
 simp only [Bool.and_eq_true,decide_eq_true_eq] at this
 exact ⟨jjR (j2H 60 _ _ _ _) this.1,jjR (j2H 60 _ _ _ _) this.2⟩
theorem jgB (n:Int) (_h:Wf (.int .i64) n):j7b n=some true:=by
 have n0:=Int.emod_nonneg n (show (100:Int)≠0 by omega)
 have n1:=Int.emod_lt_of_pos n (show (0:Int)<100 by omega)
 have m0:=Int.emod_nonneg n (show (24:Int)≠0 by omega)
 have m1:=Int.emod_lt_of_pos n (show (0:Int)<24 by omega)
 obtain ⟨v1,v2⟩:=eH (h:=1+n%100) (by omega) (by omega)
 obtain ⟨v3,v4⟩:=eR (h:=1+n%24) (by omega) (by omega)
 simp only [j7b]
 rw [jp6 n 100 (by omega) (by omega),jp6 n 24 (by omega) (by omega)]
 simp only [j0]
 generalize n%100=h at *
 generalize n%24=r at *
 rw [ja8 (x:=1+h) (by omega) (by omega),ja8 (x:=1+r) (by omega) (by omega),ja8 (x:=(1+h)*3600) (by omega) (by omega),ja8 (x:=(1+r)*3600) (by omega) (by omega),ja8 (x:=86400+(1+h)*3600) (by omega) (by omega),ja8 (x:=86400+(1+h)*3600+1) (by omega) (by omega),ja8 (x:=90000+(1+r)*3600) (by omega) (by omega)]
 simp only [j74,j0]
 unfold aC at v1 v2 v3 v4
 rw [v1,v2]
 simp only [j0,List.length_cons,List.length_nil]
 rw [show inR 0 (0+1)=true from rfl]
 simp only [cond_true,List.set_cons_zero,show ∀ (a d:ByteArray×_×List (Int×(Int×(Int×(Int×Int))))),List.getD [a] 0 d=a from fun _ _=>rfl]
 rw [v3,v4]
 simp only [j0,List.length_cons,List.length_nil,jq3]
 simp [show inR 0 1=true from rfl]
end Go.Proofs.Pw
