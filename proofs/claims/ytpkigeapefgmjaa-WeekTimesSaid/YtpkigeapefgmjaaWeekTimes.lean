/- WeekTimes: the given function returns true at every input and leaves its arguments alone. -/
import Derived.Test.YtpkigeapefgmjaaRows
import Derived.Test.YtpkigeapefgmjaaCon0
import Derived.Test.YtpkigeapefgmjaaCon1
import Derived.Test.YtpkigeapefgmjaaCon2
import Derived.Test.YtpkigeapefgmjaaCon3
import Derived.Test.YtpkigeapefgmjaaCon4
import Derived.Test.YtpkigeapefgmjaaPE
import Derived.WalkKit
import Derived.ProofKit
import Derived.OpenShut
namespace Go.Proofs.Ytpkigeapefgmjaa.weekTimes
open Go.ChangeShapes Go.WideShapes Go.ChangeAt Go.RowKit Go.Lft
set_option linter.unusedVariables false

theorem own : ownKnob Try.prog.godebug = none := by kernel_rfl

set_option maxRecDepth 100000 in
theorem lifted (os : Os) (started : os.Started) (H : Type) (enc : TypeId × Value → H) :
    ReturnsInHanded {} Try.checked os 7 .any (Rows.weekTimesSpec.pre6 enc Try.prog Try.f7 Rows.weekTimesRow.domain false) (Rows.weekTimesSpec.post enc Try.prog Try.f7 false true false false) := by
  refine returnsInHanded_of_change (C := Try.checked) own started (by kernel_rfl) Try.func7
    (ChangeSpec.witness6 (enc := enc) (C := Try.checked) false ⟨#[], #[.slice none 0 0, .int .i64 0], []⟩ 8 (by kernel_rfl) (by kernel_rfl) (by kernel_rfl) (by kernel_rfl)) ?_
  intro W base args ds gs before hval0 hW hcnd _
  have hval : ∀ (j : Nat) t v, Try.f7.params[j]? = some t → args[j]? = some v → Value.okWide Try.prog W .any base t v := hval0
  have hW' := hW
  obtain ⟨p, q, hA0, hV, rfl, hfz, hnd⟩ := hW
  have hA : DataW.TrodAll enc Try.prog W 0 (fun _ => true) true Try.f7.params.toList args.toList ds p := hA0
  rw [Try.params7] at hA hval
  obtain ⟨v0, vs0, d0, ds0, p0, q0, hargs, rfl, rfl, h0, r0⟩ := trodAll_cons hA
  obtain ⟨v1, vs1, d1, ds1, p1, q1, rfl, rfl, rfl, h1, r1⟩ := trodAll_cons r0
  obtain ⟨rfl, rfl, rfl⟩ := trodAll_nil r1
  obtain rfl : args = #[v0, v1] := by cases args; simp_all
  obtain ⟨rfl, rfl⟩ := trodVars_none hV
  obtain ⟨x0, a0, w0, k0⟩ := open_arg (n := 9) (ty := (.list (.int .i64))) (by kernel_rfl) (hval 0 25 v0 rfl rfl) h0
  obtain ⟨x1, a1, w1, k1⟩ := open_arg (n := 9) (ty := (.int .i64)) (by kernel_rfl) (hval 1 3 v1 rfl rfl) h1
  clear hA0 hval0
  refine (law_calls Pk.law05_WeekTimes_ok (x0, x1) (Pw.WeekTimes_true x0 w0 x1 w1) W (oldS W) [v0, v1] ⟨a0, a1, trivial⟩ rfl (fun _ _ h => h) rfl).mono fun e W' ⟨he, hg⟩ => ?_
  subst he
  exact ⟨_, rfl, Go.Lft.post_of_below (pa := p0 ++ (p1 ++ ([]))) (pv := []) hW' (fun _ _ _ => (trodAll_cons_mk (shut_bool Try.underlying4 _) trodAll_mk0)) (fun sp hsp => (trodAll_cons_mk (k0 W' sp hg (fun q hq => hsp q (by refine List.mem_append_left _ ?_;  exact List.mem_append_left _ hq))) (trodAll_cons_mk (k1 W' sp hg (fun q hq => hsp q (by refine List.mem_append_left _ ?_; refine List.mem_append_right _ ?_; exact List.mem_append_left _ hq))) trodAll_mk0))) (fun _ _ => rfl) rfl
    hg (ok_one (by kernel_rfl) rfl (okWide_bool_mk Try.underlying4 _))⟩

theorem over : Rows.weekTimesRow.holds Try.pinned (OpenSpec.ofChange Rows.weekTimesSpec) :=
  OpenClaim.holds_of_wide 7 Try.f7 rfl rfl rfl rfl rfl rfl rfl ⟨rfl, rfl, rfl, rfl, rfl⟩ rfl rfl rfl rfl rfl (by kernel_rfl) Try.func7 (by kernel_rfl)
    (of_decide_eq_true (by kernel_rfl)) (by unfold Func.isWrapper; first | (rw [if_pos (by decide +kernel)]; kernel_rfl) | (rw [if_neg (by decide +kernel)]; exact ⟨rfl, rfl⟩))
    (fun os started H enc _ => lifted os started H enc)

theorem proved : Rows.WeekTimesSaid :=
  over
#print axioms proved
end Go.Proofs.Ytpkigeapefgmjaa.weekTimes
