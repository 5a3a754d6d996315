/- Contracts: each given function is its plain function, printed by a program. -/
import Derived.Test.YtielflihgdebiaaCon2
open Go Go.Lft
set_option linter.unusedVariables false
namespace Go.Proofs.Pk

noncomputable def zone_Horizon_con : Con := ⟨16, [.v (.pair .str (.pair (.int .i64) (.list (.pair (.int .i64) (.pair (.int .i64) (.pair (.int .i64) (.pair (.int .i64) (.pair (.int .i64) (.pair (.int .i64) (.int .i64))))))))))], [(.pair .str (.pair (.int .i64) (.list (.pair (.int .i64) (.pair (.int .i64) (.pair (.int .i64) (.pair (.int .i64) (.pair (.int .i64) (.pair (.int .i64) (.int .i64))))))))))], ⟨[.v (.int .i64)], []⟩, [(.int .i64)], fun h => Pw.zone_Horizon h⟩

noncomputable def zone_Horizon_d : FnD where
  N := 14
  np := 1
  cs := [zone_Of_con, zone_Table_Last_con]
  ds := []
  modes := [(52, [false]), (53, [false])]
  keep := []
  keepX := []
  ro := [false]
  dw := []

set_option maxRecDepth 100000 in
theorem zone_Horizon_ok : Con.OK Try.prog zone_Horizon_con :=
  con_of tabOk mixedOk zone_Horizon_d zone_Horizon_con Try.f16 (Try.f16.body.getD .skip) Try.func16 (by kernel_rfl) (by kernel_rfl) (Nat.le_of_ble_eq_true (by kernel_rfl)) (by kernel_rfl) (And.intro zone_Of_ok (And.intro zone_Table_Last_ok trivial)) (by kernel_rfl) (by kernel_rfl)
    trivial
    (fun h => by kernel_rfl)

noncomputable def r04_Horizon_con : Con := ⟨17, [.v (.pair .str (.pair (.int .i64) (.list (.pair (.int .i64) (.pair (.int .i64) (.pair (.int .i64) (.pair (.int .i64) (.pair (.int .i64) (.pair (.int .i64) (.int .i64))))))))))], [(.pair .str (.pair (.int .i64) (.list (.pair (.int .i64) (.pair (.int .i64) (.pair (.int .i64) (.pair (.int .i64) (.pair (.int .i64) (.pair (.int .i64) (.int .i64))))))))))], ⟨[.v (.int .i64)], []⟩, [(.int .i64)], fun h => Pw.r04_Horizon h⟩

noncomputable def r04_Horizon_d : FnD where
  N := 24
  np := 1
  cs := [r04_Transitions_con]
  ds := []
  modes := [(12, [false])]
  keep := []
  keepX := []
  ro := [false]
  dw := []

set_option maxRecDepth 100000 in
theorem r04_Horizon_ok : Con.OK Try.prog r04_Horizon_con :=
  con_of tabOk mixedOk r04_Horizon_d r04_Horizon_con Try.f17 (Try.f17.body.getD .skip) Try.func17 (by kernel_rfl) (by kernel_rfl) (Nat.le_of_ble_eq_true (by kernel_rfl)) (by kernel_rfl) (And.intro r04_Transitions_ok trivial) (by kernel_rfl) (by kernel_rfl)
    trivial
    (fun h => by kernel_rfl)

noncomputable def made_Mod_con : Con := ⟨18, [.v (.int .i64), .v (.int .i64)], [(.int .i64), (.int .i64)], ⟨[.v (.int .i64)], []⟩, [(.int .i64)], fun h => Pw.made_Mod h.1 h.2⟩

noncomputable def made_Mod_d : FnD where
  N := 12
  np := 2
  cs := []
  ds := []
  modes := []
  keep := []
  keepX := []
  ro := [false]
  dw := []

set_option maxRecDepth 100000 in
theorem made_Mod_ok : Con.OK Try.prog made_Mod_con :=
  con_of tabOk mixedOk made_Mod_d made_Mod_con Try.f18 (Try.f18.body.getD .skip) Try.func18 (by kernel_rfl) (by kernel_rfl) (Nat.le_of_ble_eq_true (by kernel_rfl)) (by kernel_rfl) trivial (by kernel_rfl) (by kernel_rfl)
    trivial
    (fun h => by kernel_rfl)

noncomputable def zone_OffsetAt_con : Con := ⟨19, [.v (.pair .str (.pair (.int .i64) (.list (.pair (.int .i64) (.pair (.int .i64) (.pair (.int .i64) (.pair (.int .i64) (.pair (.int .i64) (.pair (.int .i64) (.int .i64)))))))))), .v (.int .i64)], [(.pair .str (.pair (.int .i64) (.list (.pair (.int .i64) (.pair (.int .i64) (.pair (.int .i64) (.pair (.int .i64) (.pair (.int .i64) (.pair (.int .i64) (.int .i64)))))))))), (.int .i64)], ⟨[.v (.int .i64), .v (.int .i64)], []⟩, [(.int .i64), (.int .i64)], fun h => Pw.zone_OffsetAt h.1 h.2⟩

noncomputable def zone_OffsetAt_d : FnD where
  N := 20
  np := 2
  cs := [zone_open_con, zone_Table_Offset_con]
  ds := []
  modes := [(54, [false, false]), (55, [false, false])]
  keep := []
  keepX := []
  ro := [false, false]
  dw := []

set_option maxRecDepth 100000 in
theorem zone_OffsetAt_ok : Con.OK Try.prog zone_OffsetAt_con :=
  con_of tabOk mixedOk zone_OffsetAt_d zone_OffsetAt_con Try.f19 (Try.f19.body.getD .skip) Try.func19 (by kernel_rfl) (by kernel_rfl) (Nat.le_of_ble_eq_true (by kernel_rfl)) (by kernel_rfl) (And.intro zone_open_ok (And.intro zone_Table_Offset_ok trivial)) (by kernel_rfl) (by kernel_rfl)
    trivial
    (fun h => by kernel_rfl)

noncomputable def r04_offset_con : Con := ⟨56, [.v (.pair .str (.pair (.int .i64) (.list (.pair (.int .i64) (.pair (.int .i64) (.pair (.int .i64) (.pair (.int .i64) (.pair (.int .i64) (.pair (.int .i64) (.int .i64)))))))))), .v (.list (.pair (.int .i64) (.int .i64))), .v (.int .i64)], [(.pair .str (.pair (.int .i64) (.list (.pair (.int .i64) (.pair (.int .i64) (.pair (.int .i64) (.pair (.int .i64) (.pair (.int .i64) (.pair (.int .i64) (.int .i64)))))))))), (.list (.pair (.int .i64) (.int .i64))), (.int .i64)], ⟨[.v (.int .i64)], []⟩, [(.int .i64)], fun h => Pw.r04_offset h.1 h.2.1 h.2.2⟩

noncomputable def r04_offset_d : FnD where
  N := 32
  np := 3
  cs := []
  ds := [⟨0, [.s (.one (.d (.list (.pair (.int .i64) (.int .i64))))), .s (.one (.d (.int .i64))), .s (.one (.d (.int .i64))), .s (.one (.d (.int .i64)))], [(.list (.pair (.int .i64) (.int .i64))), (.int .i64), (.int .i64), (.int .i64)], [⟨.exit 0, [.s (.one (.d (.int .i64)))], [(.int .i64)]⟩], fun h => Pw.r04_offset_l0_step h.1 h.2.1 h.2.2.1 h.2.2.2⟩]
  modes := []
  keep := [(0, ⟨[1, 2, 7, 8], [], [], []⟩)]
  keepX := [(0, .exit 0, ⟨[7], [], [], []⟩)]
  ro := [false]
  dw := []

set_option maxRecDepth 100000 in
theorem r04_offset_ok : Con.OK Try.prog r04_offset_con :=
  con_of tabOk mixedOk r04_offset_d r04_offset_con Try.f56 (Try.f56.body.getD .skip) Try.func56 (by kernel_rfl) (by kernel_rfl) (Nat.le_of_ble_eq_true (by kernel_rfl)) (by kernel_rfl) trivial (by kernel_rfl) (by kernel_rfl)
    (And.intro (fun h => by kernel_rfl) trivial)
    (fun h => by kernel_rfl)

noncomputable def r04_OffsetAt_con : Con := ⟨20, [.v (.pair .str (.pair (.int .i64) (.list (.pair (.int .i64) (.pair (.int .i64) (.pair (.int .i64) (.pair (.int .i64) (.pair (.int .i64) (.pair (.int .i64) (.int .i64)))))))))), .v (.int .i64)], [(.pair .str (.pair (.int .i64) (.list (.pair (.int .i64) (.pair (.int .i64) (.pair (.int .i64) (.pair (.int .i64) (.pair (.int .i64) (.pair (.int .i64) (.int .i64)))))))))), (.int .i64)], ⟨[.v (.int .i64), .v (.int .i64)], []⟩, [(.int .i64), (.int .i64)], fun h => Pw.r04_OffsetAt h.1 h.2⟩

noncomputable def r04_OffsetAt_d : FnD where
  N := 22
  np := 2
  cs := [r04_in_con, r04_Transitions_con, r04_offset_con]
  ds := []
  modes := [(12, [false]), (49, [false, false, false]), (56, [false, false, false])]
  keep := []
  keepX := []
  ro := [false, false]
  dw := []

set_option maxRecDepth 100000 in
theorem r04_OffsetAt_ok : Con.OK Try.prog r04_OffsetAt_con :=
  con_of tabOk mixedOk r04_OffsetAt_d r04_OffsetAt_con Try.f20 (Try.f20.body.getD .skip) Try.func20 (by kernel_rfl) (by kernel_rfl) (Nat.le_of_ble_eq_true (by kernel_rfl)) (by kernel_rfl) (And.intro r04_in_ok (And.intro r04_Transitions_ok (And.intro r04_offset_ok trivial))) (by kernel_rfl) (by kernel_rfl)
    trivial
    (fun h => by kernel_rfl)

noncomputable def r04_local_con : Con := ⟨58, [.v (.int .i64), .v (.int .i64)], [(.int .i64), (.int .i64)], ⟨[.v (.pair (.int .i64) (.int .i64))], []⟩, [(.pair (.int .i64) (.int .i64))], fun h => Pw.r04_local h.1 h.2⟩

noncomputable def r04_local_d : FnD where
  N := 16
  np := 2
  cs := []
  ds := []
  modes := []
  keep := []
  keepX := []
  ro := [false]
  dw := []

set_option maxRecDepth 100000 in
theorem r04_local_ok : Con.OK Try.prog r04_local_con :=
  con_of tabOk mixedOk r04_local_d r04_local_con Try.f58 (Try.f58.body.getD .skip) Try.func58 (by kernel_rfl) (by kernel_rfl) (Nat.le_of_ble_eq_true (by kernel_rfl)) (by kernel_rfl) trivial (by kernel_rfl) (by kernel_rfl)
    trivial
    (fun h => by kernel_rfl)

noncomputable def r04_ToLocal_con : Con := ⟨22, [.v (.pair .str (.pair (.int .i64) (.list (.pair (.int .i64) (.pair (.int .i64) (.pair (.int .i64) (.pair (.int .i64) (.pair (.int .i64) (.pair (.int .i64) (.int .i64)))))))))), .v (.int .i64)], [(.pair .str (.pair (.int .i64) (.list (.pair (.int .i64) (.pair (.int .i64) (.pair (.int .i64) (.pair (.int .i64) (.pair (.int .i64) (.pair (.int .i64) (.int .i64)))))))))), (.int .i64)], ⟨[.v (.pair (.int .i64) (.int .i64)), .v (.int .i64)], []⟩, [(.pair (.int .i64) (.int .i64)), (.int .i64)], fun h => Pw.r04_ToLocal h.1 h.2⟩

noncomputable def r04_ToLocal_d : FnD where
  N := 21
  np := 2
  cs := [r04_OffsetAt_con, r04_local_con]
  ds := []
  modes := [(20, [false, false]), (58, [false, false])]
  keep := []
  keepX := []
  ro := [false, false]
  dw := []

set_option maxRecDepth 100000 in
theorem r04_ToLocal_ok : Con.OK Try.prog r04_ToLocal_con :=
  con_of tabOk mixedOk r04_ToLocal_d r04_ToLocal_con Try.f22 (Try.f22.body.getD .skip) Try.func22 (by kernel_rfl) (by kernel_rfl) (Nat.le_of_ble_eq_true (by kernel_rfl)) (by kernel_rfl) (And.intro r04_OffsetAt_ok (And.intro r04_local_ok trivial)) (by kernel_rfl) (by kernel_rfl)
    trivial
    (fun h => by kernel_rfl)

noncomputable def r04_small_con : Con := ⟨61, [.v (.int .i64)], [(.int .i64)], ⟨[.v .bool], []⟩, [.bool], fun h => Pw.r04_small h⟩

noncomputable def r04_small_d : FnD where
  N := 5
  np := 1
  cs := [r04_in_con]
  ds := []
  modes := [(49, [false, false, false])]
  keep := []
  keepX := []
  ro := [false]
  dw := []

set_option maxRecDepth 100000 in
theorem r04_small_ok : Con.OK Try.prog r04_small_con :=
  con_of tabOk mixedOk r04_small_d r04_small_con Try.f61 (Try.f61.body.getD .skip) Try.func61 (by kernel_rfl) (by kernel_rfl) (Nat.le_of_ble_eq_true (by kernel_rfl)) (by kernel_rfl) (And.intro r04_in_ok trivial) (by kernel_rfl) (by kernel_rfl)
    trivial
    (fun h => by kernel_rfl)

noncomputable def r04_FromLocal_con : Con := ⟨24, [.v (.pair .str (.pair (.int .i64) (.list (.pair (.int .i64) (.pair (.int .i64) (.pair (.int .i64) (.pair (.int .i64) (.pair (.int .i64) (.pair (.int .i64) (.int .i64)))))))))), .v (.pair (.int .i64) (.int .i64))], [(.pair .str (.pair (.int .i64) (.list (.pair (.int .i64) (.pair (.int .i64) (.pair (.int .i64) (.pair (.int .i64) (.pair (.int .i64) (.pair (.int .i64) (.int .i64)))))))))), (.pair (.int .i64) (.int .i64))], ⟨[.own 3 (.list (.int .i64)), .v (.int .i64)], []⟩, [(.list (.int .i64)), (.int .i64)], fun h => Pw.r04_FromLocal h.1 h.2⟩

noncomputable def r04_FromLocal_d : FnD where
  N := 81
  np := 2
  cs := [r04_in_con, r04_Transitions_con, r04_small_con]
  ds := [⟨0, [.s (.one (.bp 128 0)), .s (.one (.bp 192 0)), .s (.one (.ol 1000000)), .s (.one (.ol 1000001)), .s (.one (.d (.int .i64))), .b (.cell [.d .str, .d (.int .i64), .d (.list (.pair (.int .i64) (.pair (.int .i64) (.pair (.int .i64) (.pair (.int .i64) (.pair (.int .i64) (.pair (.int .i64) (.int .i64))))))))] false), .b (.cell [.d (.int .i64), .d (.int .i64)] false), .b (.lst 42 (.pair (.int .i64) (.int .i64)) false), .b (.lst 3 (.int .i64) false)], [(.int .i64), .str, (.int .i64), (.list (.pair (.int .i64) (.pair (.int .i64) (.pair (.int .i64) (.pair (.int .i64) (.pair (.int .i64) (.pair (.int .i64) (.int .i64)))))))), (.int .i64), (.int .i64), (.list (.pair (.int .i64) (.int .i64))), (.list (.int .i64))], [⟨.exit 0, [.s (.one (.ol 1500100)), .b (.lst 3 (.int .i64) false)], [(.list (.int .i64))]⟩], fun h => Pw.r04_FromLocal_l0_step h.1 h.2.1 h.2.2.1 h.2.2.2.1 h.2.2.2.2.1 h.2.2.2.2.2.1 h.2.2.2.2.2.2.1 h.2.2.2.2.2.2.2⟩]
  modes := [(12, [false]), (49, [false, false, false]), (61, [false])]
  keep := [(0, ⟨[2, 3, 6, 8, 9], [128, 192], [⟨1000000, 42, (.pair (.int .i64) (.int .i64)), [.slot 6], false⟩, ⟨1000001, 3, (.int .i64), [.slot 8], false⟩], []⟩)]
  keepX := [(0, .exit 0, ⟨[8], [], [⟨1500100, 3, (.int .i64), [.slot 8], false⟩], []⟩)]
  ro := [true, false]
  dw := []

set_option maxRecDepth 100000 in
theorem r04_FromLocal_ok : Con.OK Try.prog r04_FromLocal_con :=
  con_of tabOk mixedOk r04_FromLocal_d r04_FromLocal_con Try.f24 (Try.f24.body.getD .skip) Try.func24 (by kernel_rfl) (by kernel_rfl) (Nat.le_of_ble_eq_true (by kernel_rfl)) (by kernel_rfl) (And.intro r04_in_ok (And.intro r04_Transitions_ok (And.intro r04_small_ok trivial))) (by kernel_rfl) (by kernel_rfl)
    (And.intro (fun h => by kernel_rfl) trivial)
    (fun h => by kernel_rfl)

noncomputable def r04_First_con : Con := ⟨26, [.v (.pair .str (.pair (.int .i64) (.list (.pair (.int .i64) (.pair (.int .i64) (.pair (.int .i64) (.pair (.int .i64) (.pair (.int .i64) (.pair (.int .i64) (.int .i64)))))))))), .v (.pair (.int .i64) (.int .i64))], [(.pair .str (.pair (.int .i64) (.list (.pair (.int .i64) (.pair (.int .i64) (.pair (.int .i64) (.pair (.int .i64) (.pair (.int .i64) (.pair (.int .i64) (.int .i64)))))))))), (.pair (.int .i64) (.int .i64))], ⟨[.v (.int .i64), .v (.int .i64)], []⟩, [(.int .i64), (.int .i64)], fun h => Pw.r04_First h.1 h.2⟩

noncomputable def r04_First_d : FnD where
  N := 76
  np := 2
  cs := [r04_in_con, r04_Transitions_con, r04_small_con]
  ds := [⟨0, [.s (.one (.bp 128 0)), .s (.one (.bp 192 0)), .s (.one (.ol 1000000)), .s (.one (.d (.int .i64))), .b (.cell [.d .str, .d (.int .i64), .d (.list (.pair (.int .i64) (.pair (.int .i64) (.pair (.int .i64) (.pair (.int .i64) (.pair (.int .i64) (.pair (.int .i64) (.int .i64))))))))] false), .b (.cell [.d (.int .i64), .d (.int .i64)] false), .b (.lst 42 (.pair (.int .i64) (.int .i64)) false)], [(.int .i64), .str, (.int .i64), (.list (.pair (.int .i64) (.pair (.int .i64) (.pair (.int .i64) (.pair (.int .i64) (.pair (.int .i64) (.pair (.int .i64) (.int .i64)))))))), (.int .i64), (.int .i64), (.list (.pair (.int .i64) (.int .i64)))], [⟨.ret, [.s (.one (.d (.int .i64))), .s (.one (.d (.int .i64)))], [(.int .i64), (.int .i64)]⟩, ⟨.exit 0, [], []⟩], fun h => Pw.r04_First_l0_step h.1 h.2.1 h.2.2.1 h.2.2.2.1 h.2.2.2.2.1 h.2.2.2.2.2.1 h.2.2.2.2.2.2⟩]
  modes := [(12, [false]), (49, [false, false, false]), (61, [false])]
  keep := [(0, ⟨[2, 3, 6, 8], [128, 192], [⟨1000000, 42, (.pair (.int .i64) (.int .i64)), [.slot 6], false⟩], []⟩)]
  keepX := [(0, .ret, ⟨[4, 5], [], [], []⟩),
    (0, .exit 0, ⟨[], [], [], []⟩)]
  ro := [false, false]
  dw := []

set_option maxRecDepth 100000 in
theorem r04_First_ok : Con.OK Try.prog r04_First_con :=
  con_of tabOk mixedOk r04_First_d r04_First_con Try.f26 (Try.f26.body.getD .skip) Try.func26 (by kernel_rfl) (by kernel_rfl) (Nat.le_of_ble_eq_true (by kernel_rfl)) (by kernel_rfl) (And.intro r04_in_ok (And.intro r04_Transitions_ok (And.intro r04_small_ok trivial))) (by kernel_rfl) (by kernel_rfl)
    (And.intro (fun h => by kernel_rfl) trivial)
    (fun h => by kernel_rfl)

noncomputable def law04_ints_con : Con := ⟨27, [.v (.list (.int .i64)), .v (.list (.int .i64))], [(.list (.int .i64)), (.list (.int .i64))], ⟨[.v .bool], []⟩, [.bool], fun h => Pw.law04_ints h.1 h.2⟩

noncomputable def law04_ints_d : FnD where
  N := 26
  np := 2
  cs := []
  ds := [⟨0, [.s (.one (.d (.list (.int .i64)))), .s (.one (.d (.list (.int .i64)))), .s (.one (.d (.int .i64))), .s (.one (.d (.int .i64)))], [(.list (.int .i64)), (.list (.int .i64)), (.int .i64), (.int .i64)], [⟨.ret, [.s (.one (.d .bool))], [.bool]⟩, ⟨.exit 0, [], []⟩], fun h => Pw.law04_ints_l0_step h.1 h.2.1 h.2.2.1 h.2.2.2⟩]
  modes := []
  keep := [(0, ⟨[0, 1, 12, 13], [], [], []⟩)]
  keepX := [(0, .ret, ⟨[4], [], [], []⟩),
    (0, .exit 0, ⟨[], [], [], []⟩)]
  ro := [false]
  dw := []

set_option maxRecDepth 100000 in
theorem law04_ints_ok : Con.OK Try.prog law04_ints_con :=
  con_of tabOk mixedOk law04_ints_d law04_ints_con Try.f27 (Try.f27.body.getD .skip) Try.func27 (by kernel_rfl) (by kernel_rfl) (Nat.le_of_ble_eq_true (by kernel_rfl)) (by kernel_rfl) trivial (by kernel_rfl) (by kernel_rfl)
    (And.intro (fun h => by kernel_rfl) trivial)
    (fun h => by kernel_rfl)

noncomputable def law04_ZoneExact_con : Con := ⟨3, [.v (.pair .str (.pair (.int .i64) (.list (.pair (.int .i64) (.pair (.int .i64) (.pair (.int .i64) (.pair (.int .i64) (.pair (.int .i64) (.pair (.int .i64) (.int .i64)))))))))), .v (.list (.int .i64)), .v (.int .i64), .v (.int .i64), .v (.int .i64)], [(.pair .str (.pair (.int .i64) (.list (.pair (.int .i64) (.pair (.int .i64) (.pair (.int .i64) (.pair (.int .i64) (.pair (.int .i64) (.pair (.int .i64) (.int .i64)))))))))), (.list (.int .i64)), (.int .i64), (.int .i64), (.int .i64)], ⟨[.v .bool], []⟩, [.bool], fun h => Pw.law04_ZoneExact h.1 h.2.1 h.2.2.1 h.2.2.2.1 h.2.2.2.2⟩

noncomputable def law04_ZoneExact_d : FnD where
  N := 230
  np := 5
  cs := [law04_example_con, zone_Transitions_con, zone_FromLocal_con, zone_First_con, zone_ToLocal_con, law04_sane_con, made_Light_con, made_Roll_con, made_Dice_Zone_con, law04_odd_con, r04_Transitions_con, law04_same_con, zone_Check_con, r04_Check_con, zone_Horizon_con, r04_Horizon_con, made_Mod_con, zone_OffsetAt_con, r04_OffsetAt_con, r04_ToLocal_con, r04_FromLocal_con, r04_First_con, law04_ints_con]
  ds := [⟨0, [.s (.one (.d (.int .i64))), .s (.one (.d (.int .i64))), .s (.one (.d (.int .i64))), .s (.av 4 (.pair .str (.pair (.int .i64) (.list (.pair (.int .i64) (.pair (.int .i64) (.pair (.int .i64) (.pair (.int .i64) (.pair (.int .i64) (.pair (.int .i64) (.int .i64))))))))))), .s (.one (.d (.int .i64)))], [(.int .i64), (.int .i64), (.int .i64), (.list (.pair .str (.pair (.int .i64) (.list (.pair (.int .i64) (.pair (.int .i64) (.pair (.int .i64) (.pair (.int .i64) (.pair (.int .i64) (.pair (.int .i64) (.int .i64))))))))))), (.int .i64)], [⟨.ret, [.s (.one (.d .bool))], [.bool]⟩, ⟨.exit 0, [], []⟩], fun h => Pw.law04_ZoneExact_l0_step h.1 h.2.1 h.2.2.1 h.2.2.2.1 h.2.2.2.2⟩,
    ⟨2, [.s (.one (.d (.int .i64))), .s (.one (.d (.int .i64))), .s (.one (.d (.int .i64))), .s (.one (.bp 896 0)), .s (.av 4 (.pair .str (.pair (.int .i64) (.list (.pair (.int .i64) (.pair (.int .i64) (.pair (.int .i64) (.pair (.int .i64) (.pair (.int .i64) (.pair (.int .i64) (.int .i64))))))))))), .s (.one (.d (.int .i64))), .s (.av 5 (.int .i64)), .s (.one (.d (.int .i64))), .b (.cell [.d .str, .d (.int .i64), .d (.list (.pair (.int .i64) (.pair (.int .i64) (.pair (.int .i64) (.pair (.int .i64) (.pair (.int .i64) (.pair (.int .i64) (.int .i64))))))))] false)], [(.int .i64), (.int .i64), (.int .i64), (.list (.pair .str (.pair (.int .i64) (.list (.pair (.int .i64) (.pair (.int .i64) (.pair (.int .i64) (.pair (.int .i64) (.pair (.int .i64) (.pair (.int .i64) (.int .i64))))))))))), (.int .i64), (.list (.int .i64)), (.int .i64), .str, (.int .i64), (.list (.pair (.int .i64) (.pair (.int .i64) (.pair (.int .i64) (.pair (.int .i64) (.pair (.int .i64) (.pair (.int .i64) (.int .i64))))))))], [⟨.ret, [.s (.one (.d .bool))], [.bool]⟩, ⟨.exit 2, [.s (.one (.d (.int .i64))), .s (.one (.d (.int .i64))), .s (.one (.d (.int .i64))), .s (.av 4 (.pair .str (.pair (.int .i64) (.list (.pair (.int .i64) (.pair (.int .i64) (.pair (.int .i64) (.pair (.int .i64) (.pair (.int .i64) (.pair (.int .i64) (.int .i64))))))))))), .s (.one (.d (.int .i64)))], [(.int .i64), (.int .i64), (.int .i64), (.list (.pair .str (.pair (.int .i64) (.list (.pair (.int .i64) (.pair (.int .i64) (.pair (.int .i64) (.pair (.int .i64) (.pair (.int .i64) (.pair (.int .i64) (.int .i64))))))))))), (.int .i64)]⟩], fun h => Pw.law04_ZoneExact_l2_step h.1 h.2.1 h.2.2.1 h.2.2.2.1 h.2.2.2.2.1 h.2.2.2.2.2.1 h.2.2.2.2.2.2.1 h.2.2.2.2.2.2.2.1 h.2.2.2.2.2.2.2.2.1 h.2.2.2.2.2.2.2.2.2⟩,
    ⟨4, [.s (.one (.d (.int .i64))), .s (.one (.d (.int .i64))), .s (.one (.d (.int .i64))), .s (.one (.bp 896 0)), .s (.av 4 (.pair .str (.pair (.int .i64) (.list (.pair (.int .i64) (.pair (.int .i64) (.pair (.int .i64) (.pair (.int .i64) (.pair (.int .i64) (.pair (.int .i64) (.int .i64))))))))))), .s (.one (.d (.int .i64))), .s (.av 5 (.int .i64)), .s (.one (.d (.int .i64))), .s (.av 3 (.pair (.int .i64) (.int .i64))), .s (.one (.d (.int .i64))), .b (.cell [.d .str, .d (.int .i64), .d (.list (.pair (.int .i64) (.pair (.int .i64) (.pair (.int .i64) (.pair (.int .i64) (.pair (.int .i64) (.pair (.int .i64) (.int .i64))))))))] false)], [(.int .i64), (.int .i64), (.int .i64), (.list (.pair .str (.pair (.int .i64) (.list (.pair (.int .i64) (.pair (.int .i64) (.pair (.int .i64) (.pair (.int .i64) (.pair (.int .i64) (.pair (.int .i64) (.int .i64))))))))))), (.int .i64), (.list (.int .i64)), (.int .i64), (.list (.pair (.int .i64) (.int .i64))), (.int .i64), .str, (.int .i64), (.list (.pair (.int .i64) (.pair (.int .i64) (.pair (.int .i64) (.pair (.int .i64) (.pair (.int .i64) (.pair (.int .i64) (.int .i64))))))))], [⟨.ret, [.s (.one (.d .bool))], [.bool]⟩, ⟨.exit 4, [.s (.one (.d (.int .i64))), .s (.one (.d (.int .i64))), .s (.one (.d (.int .i64))), .s (.one (.bp 896 0)), .s (.av 4 (.pair .str (.pair (.int .i64) (.list (.pair (.int .i64) (.pair (.int .i64) (.pair (.int .i64) (.pair (.int .i64) (.pair (.int .i64) (.pair (.int .i64) (.int .i64))))))))))), .s (.one (.d (.int .i64))), .s (.av 5 (.int .i64)), .s (.one (.d (.int .i64))), .b (.cell [.d .str, .d (.int .i64), .d (.list (.pair (.int .i64) (.pair (.int .i64) (.pair (.int .i64) (.pair (.int .i64) (.pair (.int .i64) (.pair (.int .i64) (.int .i64))))))))] false)], [(.int .i64), (.int .i64), (.int .i64), (.list (.pair .str (.pair (.int .i64) (.list (.pair (.int .i64) (.pair (.int .i64) (.pair (.int .i64) (.pair (.int .i64) (.pair (.int .i64) (.pair (.int .i64) (.int .i64))))))))))), (.int .i64), (.list (.int .i64)), (.int .i64), .str, (.int .i64), (.list (.pair (.int .i64) (.pair (.int .i64) (.pair (.int .i64) (.pair (.int .i64) (.pair (.int .i64) (.pair (.int .i64) (.int .i64))))))))]⟩], fun h => Pw.law04_ZoneExact_l4_step h.1 h.2.1 h.2.2.1 h.2.2.2.1 h.2.2.2.2.1 h.2.2.2.2.2.1 h.2.2.2.2.2.2.1 h.2.2.2.2.2.2.2.1 h.2.2.2.2.2.2.2.2.1 h.2.2.2.2.2.2.2.2.2.1 h.2.2.2.2.2.2.2.2.2.2.1 h.2.2.2.2.2.2.2.2.2.2.2⟩]
  modes := [(5, [false]), (6, []), (7, [false]), (8, [false, false]), (9, [false, false]), (10, []), (11, [false]), (12, [false]), (13, [false, false]), (14, [false]), (15, [false]), (16, [false]), (17, [false]), (18, [false, false]), (19, [false, false]), (20, [false, false]), (21, [false, false]), (22, [false, false]), (23, [false, false]), (24, [false, false]), (25, [false, false]), (26, [false, false]), (27, [false, false])]
  keep := [(0, ⟨[2, 3, 4, 60, 61], [], [], []⟩),
    (2, ⟨[2, 3, 4, 14, 60, 61, 119, 120], [896], [], []⟩),
    (4, ⟨[2, 3, 4, 14, 60, 61, 119, 120, 179, 180], [896], [], []⟩)]
  keepX := [(0, .ret, ⟨[10], [], [], []⟩),
    (0, .exit 0, ⟨[], [], [], []⟩),
    (2, .ret, ⟨[10], [], [], []⟩),
    (2, .exit 2, ⟨[2, 3, 4, 60, 61], [], [], []⟩),
    (4, .ret, ⟨[10], [], [], []⟩),
    (4, .exit 4, ⟨[2, 3, 4, 14, 60, 61, 119, 120], [896], [], []⟩)]
  ro := [false]
  dw := [(5, [[], [], [], [3264], [], [], [], []])]

set_option maxRecDepth 100000 in
theorem law04_ZoneExact_ok : Con.OK Try.prog law04_ZoneExact_con :=
  con_of tabOk mixedOk law04_ZoneExact_d law04_ZoneExact_con Try.f3 (Try.f3.body.getD .skip) Try.func3 (by kernel_rfl) (by kernel_rfl) (Nat.le_of_ble_eq_true (by kernel_rfl)) (by kernel_rfl) (And.intro law04_example_ok (And.intro zone_Transitions_ok (And.intro zone_FromLocal_ok (And.intro zone_First_ok (And.intro zone_ToLocal_ok (And.intro law04_sane_ok (And.intro made_Light_ok (And.intro made_Roll_ok (And.intro made_Dice_Zone_ok (And.intro law04_odd_ok (And.intro r04_Transitions_ok (And.intro law04_same_ok (And.intro zone_Check_ok (And.intro r04_Check_ok (And.intro zone_Horizon_ok (And.intro r04_Horizon_ok (And.intro made_Mod_ok (And.intro zone_OffsetAt_ok (And.intro r04_OffsetAt_ok (And.intro r04_ToLocal_ok (And.intro r04_FromLocal_ok (And.intro r04_First_ok (And.intro law04_ints_ok trivial))))))))))))))))))))))) (by kernel_rfl) (by kernel_rfl)
    (And.intro (fun h => by kernel_rfl) (And.intro (fun h => by kernel_rfl) (And.intro (fun h => by kernel_rfl) trivial)))
    (fun h => by kernel_rfl)

noncomputable def recur_in_con : Con := ⟨68, [.v (.int .i64), .v (.int .i64), .v (.int .i64)], [(.int .i64), (.int .i64), (.int .i64)], ⟨[.v .bool], []⟩, [.bool], fun h => Pw.recur_in h.1 h.2.1 h.2.2⟩

noncomputable def recur_in_d : FnD where
  N := 15
  np := 3
  cs := []
  ds := []
  modes := []
  keep := []
  keepX := []
  ro := [false]
  dw := []

set_option maxRecDepth 100000 in
theorem recur_in_ok : Con.OK Try.prog recur_in_con :=
  con_of tabOk mixedOk recur_in_d recur_in_con Try.f68 (Try.f68.body.getD .skip) Try.func68 (by kernel_rfl) (by kernel_rfl) (Nat.le_of_ble_eq_true (by kernel_rfl)) (by kernel_rfl) trivial (by kernel_rfl) (by kernel_rfl)
    trivial
    (fun h => by kernel_rfl)

noncomputable def recur_right_con : Con := ⟨83, [.v (.pair .str (.pair (.int .i64) (.pair (.pair (.int .i64) (.int .i64)) (.pair (.int .i64) (.pair (.int .i64) (.pair (.list (.int .i64)) (.pair (.list (.pair (.int .i64) (.int .i64))) (.pair (.int .i64) (.int .i64)))))))))], [(.pair .str (.pair (.int .i64) (.pair (.pair (.int .i64) (.int .i64)) (.pair (.int .i64) (.pair (.int .i64) (.pair (.list (.int .i64)) (.pair (.list (.pair (.int .i64) (.int .i64))) (.pair (.int .i64) (.int .i64)))))))))], ⟨[.v .bool], []⟩, [.bool], fun h => Pw.recur_right h⟩

noncomputable def recur_right_d : FnD where
  N := 29
  np := 1
  cs := [recur_in_con]
  ds := []
  modes := [(68, [false, false, false])]
  keep := []
  keepX := []
  ro := [false]
  dw := []

set_option maxRecDepth 100000 in
theorem recur_right_ok : Con.OK Try.prog recur_right_con :=
  con_of tabOk mixedOk recur_right_d recur_right_con Try.f83 (Try.f83.body.getD .skip) Try.func83 (by kernel_rfl) (by kernel_rfl) (Nat.le_of_ble_eq_true (by kernel_rfl)) (by kernel_rfl) (And.intro recur_in_ok trivial) (by kernel_rfl) (by kernel_rfl)
    trivial
    (fun h => by kernel_rfl)

noncomputable def recur_open_con : Con := ⟨65, [.v (.pair .str (.pair (.int .i64) (.list (.pair (.int .i64) (.pair (.int .i64) (.pair (.int .i64) (.pair (.int .i64) (.pair (.int .i64) (.pair (.int .i64) (.int .i64)))))))))), .v (.pair .str (.pair (.int .i64) (.pair (.pair (.int .i64) (.int .i64)) (.pair (.int .i64) (.pair (.int .i64) (.pair (.list (.int .i64)) (.pair (.list (.pair (.int .i64) (.int .i64))) (.pair (.int .i64) (.int .i64)))))))))], [(.pair .str (.pair (.int .i64) (.list (.pair (.int .i64) (.pair (.int .i64) (.pair (.int .i64) (.pair (.int .i64) (.pair (.int .i64) (.pair (.int .i64) (.int .i64)))))))))), (.pair .str (.pair (.int .i64) (.pair (.pair (.int .i64) (.int .i64)) (.pair (.int .i64) (.pair (.int .i64) (.pair (.list (.int .i64)) (.pair (.list (.pair (.int .i64) (.int .i64))) (.pair (.int .i64) (.int .i64)))))))))], ⟨[.v (.pair (.int .i64) (.list (.pair (.int .i64) (.int .i64)))), .v .bool], []⟩, [(.pair (.int .i64) (.list (.pair (.int .i64) (.int .i64)))), .bool], fun h => Pw.recur_open h.1 h.2⟩

noncomputable def recur_open_d : FnD where
  N := 20
  np := 2
  cs := [zone_Of_con, recur_right_con]
  ds := []
  modes := [(52, [false]), (83, [false])]
  keep := []
  keepX := []
  ro := [false, false]
  dw := [(2, [[], [], [], [], [], [], [], [256], []])]

set_option maxRecDepth 100000 in
theorem recur_open_ok : Con.OK Try.prog recur_open_con :=
  con_of tabOk mixedOk recur_open_d recur_open_con Try.f65 (Try.f65.body.getD .skip) Try.func65 (by kernel_rfl) (by kernel_rfl) (Nat.le_of_ble_eq_true (by kernel_rfl)) (by kernel_rfl) (And.intro zone_Of_ok (And.intro recur_right_ok trivial)) (by kernel_rfl) (by kernel_rfl)
    trivial
    (fun h => by kernel_rfl)

noncomputable def recur_step_con : Con := ⟨84, [.v (.pair .str (.pair (.int .i64) (.pair (.pair (.int .i64) (.int .i64)) (.pair (.int .i64) (.pair (.int .i64) (.pair (.list (.int .i64)) (.pair (.list (.pair (.int .i64) (.int .i64))) (.pair (.int .i64) (.int .i64)))))))))], [(.pair .str (.pair (.int .i64) (.pair (.pair (.int .i64) (.int .i64)) (.pair (.int .i64) (.pair (.int .i64) (.pair (.list (.int .i64)) (.pair (.list (.pair (.int .i64) (.int .i64))) (.pair (.int .i64) (.int .i64)))))))))], ⟨[.v (.int .i64)], []⟩, [(.int .i64)], fun h => Pw.recur_step h⟩

noncomputable def recur_step_d : FnD where
  N := 11
  np := 1
  cs := []
  ds := []
  modes := []
  keep := []
  keepX := []
  ro := [false]
  dw := []

set_option maxRecDepth 100000 in
theorem recur_step_ok : Con.OK Try.prog recur_step_con :=
  con_of tabOk mixedOk recur_step_d recur_step_con Try.f84 (Try.f84.body.getD .skip) Try.func84 (by kernel_rfl) (by kernel_rfl) (Nat.le_of_ble_eq_true (by kernel_rfl)) (by kernel_rfl) trivial (by kernel_rfl) (by kernel_rfl)
    trivial
    (fun h => by kernel_rfl)

noncomputable def recur_HandoverOf_con : Con := ⟨66, [.v (.pair (.int .i64) (.list (.pair (.int .i64) (.int .i64)))), .v (.pair .str (.pair (.int .i64) (.pair (.pair (.int .i64) (.int .i64)) (.pair (.int .i64) (.pair (.int .i64) (.pair (.list (.int .i64)) (.pair (.list (.pair (.int .i64) (.int .i64))) (.pair (.int .i64) (.int .i64))))))))), .v (.int .i64)], [(.pair (.int .i64) (.list (.pair (.int .i64) (.int .i64)))), (.pair .str (.pair (.int .i64) (.pair (.pair (.int .i64) (.int .i64)) (.pair (.int .i64) (.pair (.int .i64) (.pair (.list (.int .i64)) (.pair (.list (.pair (.int .i64) (.int .i64))) (.pair (.int .i64) (.int .i64))))))))), (.int .i64)], ⟨[.v (.int .i64), .v .bool], []⟩, [(.int .i64), .bool], fun h => Pw.recur_HandoverOf h.1 h.2.1 h.2.2⟩

noncomputable def recur_HandoverOf_d : FnD where
  N := 50
  np := 3
  cs := [zone_Table_First_con, recur_step_con]
  ds := []
  modes := [(62, [false, false]), (84, [false])]
  keep := []
  keepX := []
  ro := [false, false]
  dw := [(5, [[], [], [], [], [], [], [], [], [512]])]

set_option maxRecDepth 100000 in
theorem recur_HandoverOf_ok : Con.OK Try.prog recur_HandoverOf_con :=
  con_of tabOk mixedOk recur_HandoverOf_d recur_HandoverOf_con Try.f66 (Try.f66.body.getD .skip) Try.func66 (by kernel_rfl) (by kernel_rfl) (Nat.le_of_ble_eq_true (by kernel_rfl)) (by kernel_rfl) (And.intro zone_Table_First_ok (And.intro recur_step_ok trivial)) (by kernel_rfl) (by kernel_rfl)
    trivial
    (fun h => by kernel_rfl)

noncomputable def recur_ShiftOf_con : Con := ⟨69, [.v (.pair (.int .i64) (.list (.pair (.int .i64) (.int .i64)))), .v (.pair .str (.pair (.int .i64) (.pair (.pair (.int .i64) (.int .i64)) (.pair (.int .i64) (.pair (.int .i64) (.pair (.list (.int .i64)) (.pair (.list (.pair (.int .i64) (.int .i64))) (.pair (.int .i64) (.int .i64))))))))), .v (.int .i64)], [(.pair (.int .i64) (.list (.pair (.int .i64) (.int .i64)))), (.pair .str (.pair (.int .i64) (.pair (.pair (.int .i64) (.int .i64)) (.pair (.int .i64) (.pair (.int .i64) (.pair (.list (.int .i64)) (.pair (.list (.pair (.int .i64) (.int .i64))) (.pair (.int .i64) (.int .i64))))))))), (.int .i64)], ⟨[.v (.int .i64)], []⟩, [(.int .i64)], fun h => Pw.recur_ShiftOf h.1 h.2.1 h.2.2⟩

noncomputable def recur_ShiftOf_d : FnD where
  N := 84
  np := 3
  cs := [zone_Table_Local_con, recur_step_con, recur_HandoverOf_con]
  ds := [⟨0, [.s (.one (.d (.int .i64))), .s (.one (.bp 192 0)), .s (.one (.bp 256 0)), .s (.one (.d (.int .i64))), .b (.cell [.d (.int .i64), .d (.list (.pair (.int .i64) (.int .i64)))] false), .b (.cell [.d .str, .d (.int .i64), .d (.int .i64), .d (.int .i64), .d (.int .i64), .d (.int .i64), .d (.list (.int .i64)), .d (.list (.pair (.int .i64) (.int .i64))), .d (.int .i64), .d (.int .i64)] false)], [(.int .i64), (.int .i64), (.int .i64), (.list (.pair (.int .i64) (.int .i64))), .str, (.int .i64), (.int .i64), (.int .i64), (.int .i64), (.int .i64), (.list (.int .i64)), (.list (.pair (.int .i64) (.int .i64))), (.int .i64), (.int .i64)], [⟨.exit 0, [.s (.one (.d (.int .i64))), .s (.one (.bp 192 0)), .s (.one (.bp 256 0)), .s (.one (.d (.int .i64))), .b (.cell [.d (.int .i64), .d (.list (.pair (.int .i64) (.int .i64)))] false), .b (.cell [.d .str, .d (.int .i64), .d (.int .i64), .d (.int .i64), .d (.int .i64), .d (.int .i64), .d (.list (.int .i64)), .d (.list (.pair (.int .i64) (.int .i64))), .d (.int .i64), .d (.int .i64)] false)], [(.int .i64), (.int .i64), (.int .i64), (.list (.pair (.int .i64) (.int .i64))), .str, (.int .i64), (.int .i64), (.int .i64), (.int .i64), (.int .i64), (.list (.int .i64)), (.list (.pair (.int .i64) (.int .i64))), (.int .i64), (.int .i64)]⟩], fun h => Pw.recur_ShiftOf_l0_step h.1 h.2.1 h.2.2.1 h.2.2.2.1 h.2.2.2.2.1 h.2.2.2.2.2.1 h.2.2.2.2.2.2.1 h.2.2.2.2.2.2.2.1 h.2.2.2.2.2.2.2.2.1 h.2.2.2.2.2.2.2.2.2.1 h.2.2.2.2.2.2.2.2.2.2.1 h.2.2.2.2.2.2.2.2.2.2.2.1 h.2.2.2.2.2.2.2.2.2.2.2.2.1 h.2.2.2.2.2.2.2.2.2.2.2.2.2⟩,
    ⟨2, [.s (.one (.d (.int .i64))), .s (.one (.bp 192 0)), .s (.one (.bp 256 0)), .s (.one (.d (.int .i64))), .b (.cell [.d (.int .i64), .d (.list (.pair (.int .i64) (.int .i64)))] false), .b (.cell [.d .str, .d (.int .i64), .d (.int .i64), .d (.int .i64), .d (.int .i64), .d (.int .i64), .d (.list (.int .i64)), .d (.list (.pair (.int .i64) (.int .i64))), .d (.int .i64), .d (.int .i64)] false)], [(.int .i64), (.int .i64), (.int .i64), (.list (.pair (.int .i64) (.int .i64))), .str, (.int .i64), (.int .i64), (.int .i64), (.int .i64), (.int .i64), (.list (.int .i64)), (.list (.pair (.int .i64) (.int .i64))), (.int .i64), (.int .i64)], [⟨.ret, [.s (.one (.d (.int .i64)))], [(.int .i64)]⟩], fun h => Pw.recur_ShiftOf_l2_step h.1 h.2.1 h.2.2.1 h.2.2.2.1 h.2.2.2.2.1 h.2.2.2.2.2.1 h.2.2.2.2.2.2.1 h.2.2.2.2.2.2.2.1 h.2.2.2.2.2.2.2.2.1 h.2.2.2.2.2.2.2.2.2.1 h.2.2.2.2.2.2.2.2.2.2.1 h.2.2.2.2.2.2.2.2.2.2.2.1 h.2.2.2.2.2.2.2.2.2.2.2.2.1 h.2.2.2.2.2.2.2.2.2.2.2.2.2⟩]
  modes := [(57, [false, false]), (66, [false, false, false]), (84, [false])]
  keep := [(0, ⟨[2, 3, 4, 9], [192, 256], [], []⟩),
    (2, ⟨[2, 3, 4, 9], [192, 256], [], []⟩)]
  keepX := [(0, .exit 0, ⟨[2, 3, 4, 9], [192, 256], [], []⟩),
    (2, .ret, ⟨[6], [], [], []⟩)]
  ro := [false]
  dw := []

set_option maxRecDepth 100000 in
theorem recur_ShiftOf_ok : Con.OK Try.prog recur_ShiftOf_con :=
  con_of tabOk mixedOk recur_ShiftOf_d recur_ShiftOf_con Try.f69 (Try.f69.body.getD .skip) Try.func69 (by kernel_rfl) (by kernel_rfl) (Nat.le_of_ble_eq_true (by kernel_rfl)) (by kernel_rfl) (And.intro zone_Table_Local_ok (And.intro recur_step_ok (And.intro recur_HandoverOf_ok trivial))) (by kernel_rfl) (by kernel_rfl)
    (And.intro (fun h => by kernel_rfl) (And.intro (fun h => by kernel_rfl) trivial))
    (fun h => by kernel_rfl)

noncomputable def recur_HandoversOf_con : Con := ⟨71, [.v (.pair (.int .i64) (.list (.pair (.int .i64) (.int .i64)))), .v (.pair .str (.pair (.int .i64) (.pair (.pair (.int .i64) (.int .i64)) (.pair (.int .i64) (.pair (.int .i64) (.pair (.list (.int .i64)) (.pair (.list (.pair (.int .i64) (.int .i64))) (.pair (.int .i64) (.int .i64))))))))), .v (.int .i64), .v (.int .i64)], [(.pair (.int .i64) (.list (.pair (.int .i64) (.int .i64)))), (.pair .str (.pair (.int .i64) (.pair (.pair (.int .i64) (.int .i64)) (.pair (.int .i64) (.pair (.int .i64) (.pair (.list (.int .i64)) (.pair (.list (.pair (.int .i64) (.int .i64))) (.pair (.int .i64) (.int .i64))))))))), (.int .i64), (.int .i64)], ⟨[.own 3 (.list (.int .i64))], []⟩, [(.list (.int .i64))], fun h => Pw.recur_HandoversOf h.1 h.2.1 h.2.2.1 h.2.2.2⟩

noncomputable def recur_HandoversOf_d : FnD where
  N := 42
  np := 4
  cs := [recur_HandoverOf_con, recur_ShiftOf_con]
  ds := [⟨0, [.s (.one (.d (.int .i64))), .s (.one (.d (.int .i64))), .s (.one (.bp 256 0)), .s (.one (.bp 320 0)), .s (.one (.ol 1000000)), .s (.one (.d (.int .i64))), .b (.cell [.d (.int .i64), .d (.list (.pair (.int .i64) (.int .i64)))] false), .b (.cell [.d .str, .d (.int .i64), .d (.int .i64), .d (.int .i64), .d (.int .i64), .d (.int .i64), .d (.list (.int .i64)), .d (.list (.pair (.int .i64) (.int .i64))), .d (.int .i64), .d (.int .i64)] false), .b (.lst 3 (.int .i64) false)], [(.int .i64), (.int .i64), (.int .i64), (.int .i64), (.list (.pair (.int .i64) (.int .i64))), .str, (.int .i64), (.int .i64), (.int .i64), (.int .i64), (.int .i64), (.list (.int .i64)), (.list (.pair (.int .i64) (.int .i64))), (.int .i64), (.int .i64), (.list (.int .i64))], [⟨.ret, [.s (.one (.ol 1500000)), .b (.lst 3 (.int .i64) false)], [(.list (.int .i64))]⟩], fun h => Pw.recur_HandoversOf_l0_step h.1 h.2.1 h.2.2.1 h.2.2.2.1 h.2.2.2.2.1 h.2.2.2.2.2.1 h.2.2.2.2.2.2.1 h.2.2.2.2.2.2.2.1 h.2.2.2.2.2.2.2.2.1 h.2.2.2.2.2.2.2.2.2.1 h.2.2.2.2.2.2.2.2.2.2.1 h.2.2.2.2.2.2.2.2.2.2.2.1 h.2.2.2.2.2.2.2.2.2.2.2.2.1 h.2.2.2.2.2.2.2.2.2.2.2.2.2.1 h.2.2.2.2.2.2.2.2.2.2.2.2.2.2.1 h.2.2.2.2.2.2.2.2.2.2.2.2.2.2.2⟩]
  modes := [(66, [false, false, false]), (69, [false, false, false])]
  keep := [(0, ⟨[2, 3, 4, 5, 9, 10], [256, 320], [⟨1000000, 3, (.int .i64), [.slot 9], false⟩], []⟩)]
  keepX := [(0, .ret, ⟨[8], [], [⟨1500000, 3, (.int .i64), [.slot 8], false⟩], []⟩)]
  ro := [true]
  dw := []

set_option maxRecDepth 100000 in
theorem recur_HandoversOf_ok : Con.OK Try.prog recur_HandoversOf_con :=
  con_of tabOk mixedOk recur_HandoversOf_d recur_HandoversOf_con Try.f71 (Try.f71.body.getD .skip) Try.func71 (by kernel_rfl) (by kernel_rfl) (Nat.le_of_ble_eq_true (by kernel_rfl)) (by kernel_rfl) (And.intro recur_HandoverOf_ok (And.intro recur_ShiftOf_ok trivial)) (by kernel_rfl) (by kernel_rfl)
    (And.intro (fun h => by kernel_rfl) trivial)
    (fun h => by kernel_rfl)
end Go.Proofs.Pk
