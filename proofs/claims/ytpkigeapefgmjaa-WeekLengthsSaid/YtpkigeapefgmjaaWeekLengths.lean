/- WeekLengths: the given function returns true at every input and leaves its arguments alone. -/
import Derived.Test.YtpkigeapefgmjaaRows
import Derived.Test.YtpkigeapefgmjaaCon0
import Derived.Test.YtpkigeapefgmjaaCon1
import Derived.Test.YtpkigeapefgmjaaCon2
import Derived.Test.YtpkigeapefgmjaaCon3
import Derived.Test.YtpkigeapefgmjaaCon4
import Derived.Test.YtpkigeapefgmjaaPG
import Derived.WalkKit
import Derived.ProofKit
import Derived.OpenShut
namespace Go.Proofs.Ytpkigeapefgmjaa.weekLengths
open Go.ChangeShapes Go.WideShapes Go.ChangeAt Go.RowKit Go.Lft
set_option linter.unusedVariables false

theorem own : ownKnob Try.prog.godebug = none := by kernel_rfl

set_option maxRecDepth 100000 in
theorem lifted (os : Os) (started : os.Started) (H : Type) (enc : TypeId × Value → H) :
    ReturnsInHanded {} Try.checked os 9 .any (Rows.weekLengthsSpec.pre6 enc Try.prog Try.f9 Rows.weekLengthsRow.domain false) (Rows.weekLengthsSpec.post enc Try.prog Try.f9 false true false false) := by
  refine returnsInHanded_of_change (C := Try.checked) own started (by kernel_rfl) Try.func9
    (ChangeSpec.witness6 (enc := enc) (C := Try.checked) false ⟨#[], #[.slice none 0 0], []⟩ 8 (by kernel_rfl) (by kernel_rfl) (by kernel_rfl) (by kernel_rfl)) ?_
  intro W base args ds gs before hval0 hW hcnd _
  have hval : ∀ (j : Nat) t v, Try.f9.params[j]? = some t → args[j]? = some v → Value.okWide Try.prog W .any base t v := hval0
  have hW' := hW
  obtain ⟨p, q, hA0, hV, rfl, hfz, hnd⟩ := hW
  have hA : DataW.TrodAll enc Try.prog W 0 (fun _ => true) true Try.f9.params.toList args.toList ds p := hA0
  rw [Try.params9] at hA hval
  obtain ⟨v0, vs0, d0, ds0, p0, q0, hargs, rfl, rfl, h0, r0⟩ := trodAll_cons hA
  obtain ⟨rfl, rfl, rfl⟩ := trodAll_nil r0
  obtain rfl : args = #[v0] := by cases args; simp_all
  obtain ⟨rfl, rfl⟩ := trodVars_none hV
  obtain ⟨x0, a0, w0, k0⟩ := open_arg (n := 9) (ty := (.list (.int .i64))) (by kernel_rfl) (hval 0 25 v0 rfl rfl) h0
  clear hA0 hval0
  refine (law_calls Pk.law05_WeekLengths_ok x0 (Pw.WeekLengths_true x0 w0) W (oldS W) [v0] ⟨a0, trivial⟩ rfl (fun _ _ h => h) rfl).mono fun e W' ⟨he, hg⟩ => ?_
  subst he
  exact ⟨_, rfl, Go.Lft.post_of_below (pa := p0 ++ ([])) (pv := []) hW' (fun _ _ _ => (trodAll_cons_mk (shut_bool Try.underlying4 _) trodAll_mk0)) (fun sp hsp => (trodAll_cons_mk (k0 W' sp hg (fun q hq => hsp q (by refine List.mem_append_left _ ?_;  exact List.mem_append_left _ hq))) trodAll_mk0)) (fun _ _ => rfl) rfl
    hg (ok_one (by kernel_rfl) rfl (okWide_bool_mk Try.underlying4 _))⟩

theorem over : Rows.weekLengthsRow.holds Try.pinned (OpenSpec.ofChange Rows.weekLengthsSpec) :=
  OpenClaim.holds_of_wide 9 Try.f9 rfl rfl rfl rfl rfl rfl rfl ⟨rfl, rfl, rfl, rfl, rfl⟩ rfl rfl rfl rfl rfl (by kernel_rfl) Try.func9 (by kernel_rfl)
    (of_decide_eq_true (by kernel_rfl)) (by unfold Func.isWrapper; first | (rw [if_pos (by decide +kernel)]; kernel_rfl) | (rw [if_neg (by decide +kernel)]; exact ⟨rfl, rfl⟩))
    (fun os started H enc _ => lifted os started H enc)

theorem proved : Rows.WeekLengthsSaid :=
  over
#print axioms proved
end Go.Proofs.Ytpkigeapefgmjaa.weekLengths
