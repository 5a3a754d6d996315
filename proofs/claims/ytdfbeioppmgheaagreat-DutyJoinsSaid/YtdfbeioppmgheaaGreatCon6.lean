/- Contracts: each given function is its plain function, printed by a program. -/
import Derived.Test.YtdfbeioppmgheaaGreatCon5
open Go Go.Lft
set_option linter.unusedVariables false
set_option maxRecDepth 100000
namespace Go.Proofs.Pk

noncomputable def law11_DutyJoins_con : Con := ⟨4, [.v (.list iT), .v iT, .v iT], [(.list iT), iT, iT], ⟨[.v .bool], []⟩, [.bool], fun h => Pw.law11_DutyJoins h.1 h.2.1 h.2.2⟩

noncomputable def law11_DutyJoins_d : FnD where
  N := 86
  np := 3
  cs := [made_Light_con, duty_Merge_con, duty_Segments_con, law11_sane_con, made_Roll_con, made_Dice_Layer_con, made_Dice_Instant_con, made_Dice_Config_con, made_Mod_con, law11_same_con]
  ds := []
  modes := [(17, [false]), (18, []), (19, [false]), (20, [false, false]), (21, [false, false, false]), (22, [false]), (23, [false, false, false, false]), (25, [false, false]), (30, [false, false]), (31, [false])]
  ro := [false]

theorem law11_DutyJoins_ok : Con.OK Tryz.prog law11_DutyJoins_con :=
  con_of tabOk mixedOk law11_DutyJoins_d law11_DutyJoins_con Tryz.f4 (Tryz.f4.body.getD .skip) Tryz.func4 (by kernel_rfl) (by kernel_rfl) (Nat.le_of_ble_eq_true (by kernel_rfl)) (by kernel_rfl) (And.intro made_Light_ok (And.intro duty_Merge_ok (And.intro duty_Segments_ok (And.intro law11_sane_ok (And.intro made_Roll_ok (And.intro made_Dice_Layer_ok (And.intro made_Dice_Instant_ok (And.intro made_Dice_Config_ok (And.intro made_Mod_ok (And.intro law11_same_ok trivial)))))))))) (by kernel_rfl) (by kernel_rfl)
    trivial
    (fun h => by kernel_rfl)
end Go.Proofs.Pk
