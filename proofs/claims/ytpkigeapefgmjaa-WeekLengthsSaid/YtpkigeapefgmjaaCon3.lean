/- Contracts: each given function is its plain function, printed by a program. -/
import Derived.Test.YtpkigeapefgmjaaCon2
open Go Go.Lft
set_option linter.unusedVariables false
namespace Go.Proofs.Pk

noncomputable def zone_Horizon_con : Con := ⟨21, [.v (.pair .str (.pair (.int .i64) (.list (.pair (.int .i64) (.pair (.int .i64) (.pair (.int .i64) (.pair (.int .i64) (.pair (.int .i64) (.pair (.int .i64) (.int .i64))))))))))], [(.pair .str (.pair (.int .i64) (.list (.pair (.int .i64) (.pair (.int .i64) (.pair (.int .i64) (.pair (.int .i64) (.pair (.int .i64) (.pair (.int .i64) (.int .i64))))))))))], ⟨[.v (.int .i64)], []⟩, [(.int .i64)], fun h => Pw.zone_Horizon h⟩

noncomputable def zone_Horizon_d : FnD where
  N := 14
  np := 1
  cs := [zone_Of_con, zone_Table_Last_con]
  ds := []
  modes := [(67, [false]), (68, [false])]
  keep := []
  keepX := []
  ro := [false]
  dw := []

set_option maxRecDepth 100000 in
theorem zone_Horizon_ok : Con.OK Try.prog zone_Horizon_con :=
  con_of tabOk mixedOk zone_Horizon_d zone_Horizon_con Try.f21 (Try.f21.body.getD .skip) Try.func21 (by kernel_rfl) (by kernel_rfl) (Nat.le_of_ble_eq_true (by kernel_rfl)) (by kernel_rfl) (And.intro zone_Of_ok (And.intro zone_Table_Last_ok trivial)) (by kernel_rfl) (by kernel_rfl)
    trivial
    (fun h => by kernel_rfl)

noncomputable def r04_Horizon_con : Con := ⟨22, [.v (.pair .str (.pair (.int .i64) (.list (.pair (.int .i64) (.pair (.int .i64) (.pair (.int .i64) (.pair (.int .i64) (.pair (.int .i64) (.pair (.int .i64) (.int .i64))))))))))], [(.pair .str (.pair (.int .i64) (.list (.pair (.int .i64) (.pair (.int .i64) (.pair (.int .i64) (.pair (.int .i64) (.pair (.int .i64) (.pair (.int .i64) (.int .i64))))))))))], ⟨[.v (.int .i64)], []⟩, [(.int .i64)], fun h => Pw.r04_Horizon h⟩

noncomputable def r04_Horizon_d : FnD where
  N := 24
  np := 1
  cs := [r04_Transitions_con]
  ds := []
  modes := [(17, [false])]
  keep := []
  keepX := []
  ro := [false]
  dw := []

set_option maxRecDepth 100000 in
theorem r04_Horizon_ok : Con.OK Try.prog r04_Horizon_con :=
  con_of tabOk mixedOk r04_Horizon_d r04_Horizon_con Try.f22 (Try.f22.body.getD .skip) Try.func22 (by kernel_rfl) (by kernel_rfl) (Nat.le_of_ble_eq_true (by kernel_rfl)) (by kernel_rfl) (And.intro r04_Transitions_ok trivial) (by kernel_rfl) (by kernel_rfl)
    trivial
    (fun h => by kernel_rfl)

noncomputable def made_Mod_con : Con := ⟨23, [.v (.int .i64), .v (.int .i64)], [(.int .i64), (.int .i64)], ⟨[.v (.int .i64)], []⟩, [(.int .i64)], fun h => Pw.made_Mod h.1 h.2⟩

noncomputable def made_Mod_d : FnD where
  N := 12
  np := 2
  cs := []
  ds := []
  modes := []
  keep := []
  keepX := []
  ro := [false]
  dw := []

set_option maxRecDepth 100000 in
theorem made_Mod_ok : Con.OK Try.prog made_Mod_con :=
  con_of tabOk mixedOk made_Mod_d made_Mod_con Try.f23 (Try.f23.body.getD .skip) Try.func23 (by kernel_rfl) (by kernel_rfl) (Nat.le_of_ble_eq_true (by kernel_rfl)) (by kernel_rfl) trivial (by kernel_rfl) (by kernel_rfl)
    trivial
    (fun h => by kernel_rfl)

noncomputable def zone_OffsetAt_con : Con := ⟨24, [.v (.pair .str (.pair (.int .i64) (.list (.pair (.int .i64) (.pair (.int .i64) (.pair (.int .i64) (.pair (.int .i64) (.pair (.int .i64) (.pair (.int .i64) (.int .i64)))))))))), .v (.int .i64)], [(.pair .str (.pair (.int .i64) (.list (.pair (.int .i64) (.pair (.int .i64) (.pair (.int .i64) (.pair (.int .i64) (.pair (.int .i64) (.pair (.int .i64) (.int .i64)))))))))), (.int .i64)], ⟨[.v (.int .i64), .v (.int .i64)], []⟩, [(.int .i64), (.int .i64)], fun h => Pw.zone_OffsetAt h.1 h.2⟩

noncomputable def zone_OffsetAt_d : FnD where
  N := 20
  np := 2
  cs := [zone_open_con, zone_Table_Offset_con]
  ds := []
  modes := [(69, [false, false]), (70, [false, false])]
  keep := []
  keepX := []
  ro := [false, false]
  dw := []

set_option maxRecDepth 100000 in
theorem zone_OffsetAt_ok : Con.OK Try.prog zone_OffsetAt_con :=
  con_of tabOk mixedOk zone_OffsetAt_d zone_OffsetAt_con Try.f24 (Try.f24.body.getD .skip) Try.func24 (by kernel_rfl) (by kernel_rfl) (Nat.le_of_ble_eq_true (by kernel_rfl)) (by kernel_rfl) (And.intro zone_open_ok (And.intro zone_Table_Offset_ok trivial)) (by kernel_rfl) (by kernel_rfl)
    trivial
    (fun h => by kernel_rfl)

noncomputable def r04_offset_con : Con := ⟨71, [.v (.pair .str (.pair (.int .i64) (.list (.pair (.int .i64) (.pair (.int .i64) (.pair (.int .i64) (.pair (.int .i64) (.pair (.int .i64) (.pair (.int .i64) (.int .i64)))))))))), .v (.list (.pair (.int .i64) (.int .i64))), .v (.int .i64)], [(.pair .str (.pair (.int .i64) (.list (.pair (.int .i64) (.pair (.int .i64) (.pair (.int .i64) (.pair (.int .i64) (.pair (.int .i64) (.pair (.int .i64) (.int .i64)))))))))), (.list (.pair (.int .i64) (.int .i64))), (.int .i64)], ⟨[.v (.int .i64)], []⟩, [(.int .i64)], fun h => Pw.r04_offset h.1 h.2.1 h.2.2⟩

noncomputable def r04_offset_d : FnD where
  N := 32
  np := 3
  cs := []
  ds := [⟨0, [.s (.one (.d (.list (.pair (.int .i64) (.int .i64))))), .s (.one (.d (.int .i64))), .s (.one (.d (.int .i64))), .s (.one (.d (.int .i64)))], [(.list (.pair (.int .i64) (.int .i64))), (.int .i64), (.int .i64), (.int .i64)], [⟨.exit 0, [.s (.one (.d (.int .i64)))], [(.int .i64)]⟩], fun h => Pw.r04_offset_l0_step h.1 h.2.1 h.2.2.1 h.2.2.2⟩]
  modes := []
  keep := [(0, ⟨[1, 2, 7, 8], [], [], []⟩)]
  keepX := [(0, .exit 0, ⟨[7], [], [], []⟩)]
  ro := [false]
  dw := []

set_option maxRecDepth 100000 in
theorem r04_offset_ok : Con.OK Try.prog r04_offset_con :=
  con_of tabOk mixedOk r04_offset_d r04_offset_con Try.f71 (Try.f71.body.getD .skip) Try.func71 (by kernel_rfl) (by kernel_rfl) (Nat.le_of_ble_eq_true (by kernel_rfl)) (by kernel_rfl) trivial (by kernel_rfl) (by kernel_rfl)
    (And.intro (fun h => by kernel_rfl) trivial)
    (fun h => by kernel_rfl)

noncomputable def r04_OffsetAt_con : Con := ⟨25, [.v (.pair .str (.pair (.int .i64) (.list (.pair (.int .i64) (.pair (.int .i64) (.pair (.int .i64) (.pair (.int .i64) (.pair (.int .i64) (.pair (.int .i64) (.int .i64)))))))))), .v (.int .i64)], [(.pair .str (.pair (.int .i64) (.list (.pair (.int .i64) (.pair (.int .i64) (.pair (.int .i64) (.pair (.int .i64) (.pair (.int .i64) (.pair (.int .i64) (.int .i64)))))))))), (.int .i64)], ⟨[.v (.int .i64), .v (.int .i64)], []⟩, [(.int .i64), (.int .i64)], fun h => Pw.r04_OffsetAt h.1 h.2⟩

noncomputable def r04_OffsetAt_d : FnD where
  N := 22
  np := 2
  cs := [r04_in_con, r04_Transitions_con, r04_offset_con]
  ds := []
  modes := [(17, [false]), (64, [false, false, false]), (71, [false, false, false])]
  keep := []
  keepX := []
  ro := [false, false]
  dw := []

set_option maxRecDepth 100000 in
theorem r04_OffsetAt_ok : Con.OK Try.prog r04_OffsetAt_con :=
  con_of tabOk mixedOk r04_OffsetAt_d r04_OffsetAt_con Try.f25 (Try.f25.body.getD .skip) Try.func25 (by kernel_rfl) (by kernel_rfl) (Nat.le_of_ble_eq_true (by kernel_rfl)) (by kernel_rfl) (And.intro r04_in_ok (And.intro r04_Transitions_ok (And.intro r04_offset_ok trivial))) (by kernel_rfl) (by kernel_rfl)
    trivial
    (fun h => by kernel_rfl)

noncomputable def r04_local_con : Con := ⟨73, [.v (.int .i64), .v (.int .i64)], [(.int .i64), (.int .i64)], ⟨[.v (.pair (.int .i64) (.int .i64))], []⟩, [(.pair (.int .i64) (.int .i64))], fun h => Pw.r04_local h.1 h.2⟩

noncomputable def r04_local_d : FnD where
  N := 16
  np := 2
  cs := []
  ds := []
  modes := []
  keep := []
  keepX := []
  ro := [false]
  dw := []

set_option maxRecDepth 100000 in
theorem r04_local_ok : Con.OK Try.prog r04_local_con :=
  con_of tabOk mixedOk r04_local_d r04_local_con Try.f73 (Try.f73.body.getD .skip) Try.func73 (by kernel_rfl) (by kernel_rfl) (Nat.le_of_ble_eq_true (by kernel_rfl)) (by kernel_rfl) trivial (by kernel_rfl) (by kernel_rfl)
    trivial
    (fun h => by kernel_rfl)

noncomputable def r04_ToLocal_con : Con := ⟨27, [.v (.pair .str (.pair (.int .i64) (.list (.pair (.int .i64) (.pair (.int .i64) (.pair (.int .i64) (.pair (.int .i64) (.pair (.int .i64) (.pair (.int .i64) (.int .i64)))))))))), .v (.int .i64)], [(.pair .str (.pair (.int .i64) (.list (.pair (.int .i64) (.pair (.int .i64) (.pair (.int .i64) (.pair (.int .i64) (.pair (.int .i64) (.pair (.int .i64) (.int .i64)))))))))), (.int .i64)], ⟨[.v (.pair (.int .i64) (.int .i64)), .v (.int .i64)], []⟩, [(.pair (.int .i64) (.int .i64)), (.int .i64)], fun h => Pw.r04_ToLocal h.1 h.2⟩

noncomputable def r04_ToLocal_d : FnD where
  N := 21
  np := 2
  cs := [r04_OffsetAt_con, r04_local_con]
  ds := []
  modes := [(25, [false, false]), (73, [false, false])]
  keep := []
  keepX := []
  ro := [false, false]
  dw := []

set_option maxRecDepth 100000 in
theorem r04_ToLocal_ok : Con.OK Try.prog r04_ToLocal_con :=
  con_of tabOk mixedOk r04_ToLocal_d r04_ToLocal_con Try.f27 (Try.f27.body.getD .skip) Try.func27 (by kernel_rfl) (by kernel_rfl) (Nat.le_of_ble_eq_true (by kernel_rfl)) (by kernel_rfl) (And.intro r04_OffsetAt_ok (And.intro r04_local_ok trivial)) (by kernel_rfl) (by kernel_rfl)
    trivial
    (fun h => by kernel_rfl)

noncomputable def r04_small_con : Con := ⟨76, [.v (.int .i64)], [(.int .i64)], ⟨[.v .bool], []⟩, [.bool], fun h => Pw.r04_small h⟩

noncomputable def r04_small_d : FnD where
  N := 5
  np := 1
  cs := [r04_in_con]
  ds := []
  modes := [(64, [false, false, false])]
  keep := []
  keepX := []
  ro := [false]
  dw := []

set_option maxRecDepth 100000 in
theorem r04_small_ok : Con.OK Try.prog r04_small_con :=
  con_of tabOk mixedOk r04_small_d r04_small_con Try.f76 (Try.f76.body.getD .skip) Try.func76 (by kernel_rfl) (by kernel_rfl) (Nat.le_of_ble_eq_true (by kernel_rfl)) (by kernel_rfl) (And.intro r04_in_ok trivial) (by kernel_rfl) (by kernel_rfl)
    trivial
    (fun h => by kernel_rfl)

noncomputable def r04_FromLocal_con : Con := ⟨29, [.v (.pair .str (.pair (.int .i64) (.list (.pair (.int .i64) (.pair (.int .i64) (.pair (.int .i64) (.pair (.int .i64) (.pair (.int .i64) (.pair (.int .i64) (.int .i64)))))))))), .v (.pair (.int .i64) (.int .i64))], [(.pair .str (.pair (.int .i64) (.list (.pair (.int .i64) (.pair (.int .i64) (.pair (.int .i64) (.pair (.int .i64) (.pair (.int .i64) (.pair (.int .i64) (.int .i64)))))))))), (.pair (.int .i64) (.int .i64))], ⟨[.own 3 (.list (.int .i64)), .v (.int .i64)], []⟩, [(.list (.int .i64)), (.int .i64)], fun h => Pw.r04_FromLocal h.1 h.2⟩

noncomputable def r04_FromLocal_d : FnD where
  N := 81
  np := 2
  cs := [r04_in_con, r04_Transitions_con, r04_small_con]
  ds := [⟨0, [.s (.one (.bp 128 0)), .s (.one (.bp 192 0)), .s (.one (.ol 1000000)), .s (.one (.ol 1000001)), .s (.one (.d (.int .i64))), .b (.cell [.d .str, .d (.int .i64), .d (.list (.pair (.int .i64) (.pair (.int .i64) (.pair (.int .i64) (.pair (.int .i64) (.pair (.int .i64) (.pair (.int .i64) (.int .i64))))))))] false), .b (.cell [.d (.int .i64), .d (.int .i64)] false), .b (.lst 42 (.pair (.int .i64) (.int .i64)) false), .b (.lst 3 (.int .i64) false)], [(.int .i64), .str, (.int .i64), (.list (.pair (.int .i64) (.pair (.int .i64) (.pair (.int .i64) (.pair (.int .i64) (.pair (.int .i64) (.pair (.int .i64) (.int .i64)))))))), (.int .i64), (.int .i64), (.list (.pair (.int .i64) (.int .i64))), (.list (.int .i64))], [⟨.exit 0, [.s (.one (.ol 1500100)), .b (.lst 3 (.int .i64) false)], [(.list (.int .i64))]⟩], fun h => Pw.r04_FromLocal_l0_step h.1 h.2.1 h.2.2.1 h.2.2.2.1 h.2.2.2.2.1 h.2.2.2.2.2.1 h.2.2.2.2.2.2.1 h.2.2.2.2.2.2.2⟩]
  modes := [(17, [false]), (64, [false, false, false]), (76, [false])]
  keep := [(0, ⟨[2, 3, 6, 8, 9], [128, 192], [⟨1000000, 42, (.pair (.int .i64) (.int .i64)), [.slot 6], false⟩, ⟨1000001, 3, (.int .i64), [.slot 8], false⟩], []⟩)]
  keepX := [(0, .exit 0, ⟨[8], [], [⟨1500100, 3, (.int .i64), [.slot 8], false⟩], []⟩)]
  ro := [true, false]
  dw := []

set_option maxRecDepth 100000 in
theorem r04_FromLocal_ok : Con.OK Try.prog r04_FromLocal_con :=
  con_of tabOk mixedOk r04_FromLocal_d r04_FromLocal_con Try.f29 (Try.f29.body.getD .skip) Try.func29 (by kernel_rfl) (by kernel_rfl) (Nat.le_of_ble_eq_true (by kernel_rfl)) (by kernel_rfl) (And.intro r04_in_ok (And.intro r04_Transitions_ok (And.intro r04_small_ok trivial))) (by kernel_rfl) (by kernel_rfl)
    (And.intro (fun h => by kernel_rfl) trivial)
    (fun h => by kernel_rfl)

noncomputable def r04_First_con : Con := ⟨31, [.v (.pair .str (.pair (.int .i64) (.list (.pair (.int .i64) (.pair (.int .i64) (.pair (.int .i64) (.pair (.int .i64) (.pair (.int .i64) (.pair (.int .i64) (.int .i64)))))))))), .v (.pair (.int .i64) (.int .i64))], [(.pair .str (.pair (.int .i64) (.list (.pair (.int .i64) (.pair (.int .i64) (.pair (.int .i64) (.pair (.int .i64) (.pair (.int .i64) (.pair (.int .i64) (.int .i64)))))))))), (.pair (.int .i64) (.int .i64))], ⟨[.v (.int .i64), .v (.int .i64)], []⟩, [(.int .i64), (.int .i64)], fun h => Pw.r04_First h.1 h.2⟩

noncomputable def r04_First_d : FnD where
  N := 76
  np := 2
  cs := [r04_in_con, r04_Transitions_con, r04_small_con]
  ds := [⟨0, [.s (.one (.bp 128 0)), .s (.one (.bp 192 0)), .s (.one (.ol 1000000)), .s (.one (.d (.int .i64))), .b (.cell [.d .str, .d (.int .i64), .d (.list (.pair (.int .i64) (.pair (.int .i64) (.pair (.int .i64) (.pair (.int .i64) (.pair (.int .i64) (.pair (.int .i64) (.int .i64))))))))] false), .b (.cell [.d (.int .i64), .d (.int .i64)] false), .b (.lst 42 (.pair (.int .i64) (.int .i64)) false)], [(.int .i64), .str, (.int .i64), (.list (.pair (.int .i64) (.pair (.int .i64) (.pair (.int .i64) (.pair (.int .i64) (.pair (.int .i64) (.pair (.int .i64) (.int .i64)))))))), (.int .i64), (.int .i64), (.list (.pair (.int .i64) (.int .i64)))], [⟨.ret, [.s (.one (.d (.int .i64))), .s (.one (.d (.int .i64)))], [(.int .i64), (.int .i64)]⟩, ⟨.exit 0, [], []⟩], fun h => Pw.r04_First_l0_step h.1 h.2.1 h.2.2.1 h.2.2.2.1 h.2.2.2.2.1 h.2.2.2.2.2.1 h.2.2.2.2.2.2⟩]
  modes := [(17, [false]), (64, [false, false, false]), (76, [false])]
  keep := [(0, ⟨[2, 3, 6, 8], [128, 192], [⟨1000000, 42, (.pair (.int .i64) (.int .i64)), [.slot 6], false⟩], []⟩)]
  keepX := [(0, .ret, ⟨[4, 5], [], [], []⟩),
    (0, .exit 0, ⟨[], [], [], []⟩)]
  ro := [false, false]
  dw := []

set_option maxRecDepth 100000 in
theorem r04_First_ok : Con.OK Try.prog r04_First_con :=
  con_of tabOk mixedOk r04_First_d r04_First_con Try.f31 (Try.f31.body.getD .skip) Try.func31 (by kernel_rfl) (by kernel_rfl) (Nat.le_of_ble_eq_true (by kernel_rfl)) (by kernel_rfl) (And.intro r04_in_ok (And.intro r04_Transitions_ok (And.intro r04_small_ok trivial))) (by kernel_rfl) (by kernel_rfl)
    (And.intro (fun h => by kernel_rfl) trivial)
    (fun h => by kernel_rfl)

noncomputable def law04_ints_con : Con := ⟨32, [.v (.list (.int .i64)), .v (.list (.int .i64))], [(.list (.int .i64)), (.list (.int .i64))], ⟨[.v .bool], []⟩, [.bool], fun h => Pw.law04_ints h.1 h.2⟩

noncomputable def law04_ints_d : FnD where
  N := 26
  np := 2
  cs := []
  ds := [⟨0, [.s (.one (.d (.list (.int .i64)))), .s (.one (.d (.list (.int .i64)))), .s (.one (.d (.int .i64))), .s (.one (.d (.int .i64)))], [(.list (.int .i64)), (.list (.int .i64)), (.int .i64), (.int .i64)], [⟨.ret, [.s (.one (.d .bool))], [.bool]⟩, ⟨.exit 0, [], []⟩], fun h => Pw.law04_ints_l0_step h.1 h.2.1 h.2.2.1 h.2.2.2⟩]
  modes := []
  keep := [(0, ⟨[0, 1, 12, 13], [], [], []⟩)]
  keepX := [(0, .ret, ⟨[4], [], [], []⟩),
    (0, .exit 0, ⟨[], [], [], []⟩)]
  ro := [false]
  dw := []

set_option maxRecDepth 100000 in
theorem law04_ints_ok : Con.OK Try.prog law04_ints_con :=
  con_of tabOk mixedOk law04_ints_d law04_ints_con Try.f32 (Try.f32.body.getD .skip) Try.func32 (by kernel_rfl) (by kernel_rfl) (Nat.le_of_ble_eq_true (by kernel_rfl)) (by kernel_rfl) trivial (by kernel_rfl) (by kernel_rfl)
    (And.intro (fun h => by kernel_rfl) trivial)
    (fun h => by kernel_rfl)

noncomputable def law04_ZoneExact_con : Con := ⟨3, [.v (.pair .str (.pair (.int .i64) (.list (.pair (.int .i64) (.pair (.int .i64) (.pair (.int .i64) (.pair (.int .i64) (.pair (.int .i64) (.pair (.int .i64) (.int .i64)))))))))), .v (.list (.int .i64)), .v (.int .i64), .v (.int .i64), .v (.int .i64)], [(.pair .str (.pair (.int .i64) (.list (.pair (.int .i64) (.pair (.int .i64) (.pair (.int .i64) (.pair (.int .i64) (.pair (.int .i64) (.pair (.int .i64) (.int .i64)))))))))), (.list (.int .i64)), (.int .i64), (.int .i64), (.int .i64)], ⟨[.v .bool], []⟩, [.bool], fun h => Pw.law04_ZoneExact h.1 h.2.1 h.2.2.1 h.2.2.2.1 h.2.2.2.2⟩

noncomputable def law04_ZoneExact_d : FnD where
  N := 230
  np := 5
  cs := [law04_example_con, zone_Transitions_con, zone_FromLocal_con, zone_First_con, zone_ToLocal_con, law04_sane_con, made_Light_con, made_Roll_con, made_Dice_Zone_con, law04_odd_con, r04_Transitions_con, law04_same_con, zone_Check_con, r04_Check_con, zone_Horizon_con, r04_Horizon_con, made_Mod_con, zone_OffsetAt_con, r04_OffsetAt_con, r04_ToLocal_con, r04_FromLocal_con, r04_First_con, law04_ints_con]
  ds := [⟨0, [.s (.one (.d (.int .i64))), .s (.one (.d (.int .i64))), .s (.one (.d (.int .i64))), .s (.av 4 (.pair .str (.pair (.int .i64) (.list (.pair (.int .i64) (.pair (.int .i64) (.pair (.int .i64) (.pair (.int .i64) (.pair (.int .i64) (.pair (.int .i64) (.int .i64))))))))))), .s (.one (.d (.int .i64)))], [(.int .i64), (.int .i64), (.int .i64), (.list (.pair .str (.pair (.int .i64) (.list (.pair (.int .i64) (.pair (.int .i64) (.pair (.int .i64) (.pair (.int .i64) (.pair (.int .i64) (.pair (.int .i64) (.int .i64))))))))))), (.int .i64)], [⟨.ret, [.s (.one (.d .bool))], [.bool]⟩, ⟨.exit 0, [], []⟩], fun h => Pw.law04_ZoneExact_l0_step h.1 h.2.1 h.2.2.1 h.2.2.2.1 h.2.2.2.2⟩,
    ⟨2, [.s (.one (.d (.int .i64))), .s (.one (.d (.int .i64))), .s (.one (.d (.int .i64))), .s (.one (.bp 896 0)), .s (.av 4 (.pair .str (.pair (.int .i64) (.list (.pair (.int .i64) (.pair (.int .i64) (.pair (.int .i64) (.pair (.int .i64) (.pair (.int .i64) (.pair (.int .i64) (.int .i64))))))))))), .s (.one (.d (.int .i64))), .s (.av 5 (.int .i64)), .s (.one (.d (.int .i64))), .b (.cell [.d .str, .d (.int .i64), .d (.list (.pair (.int .i64) (.pair (.int .i64) (.pair (.int .i64) (.pair (.int .i64) (.pair (.int .i64) (.pair (.int .i64) (.int .i64))))))))] false)], [(.int .i64), (.int .i64), (.int .i64), (.list (.pair .str (.pair (.int .i64) (.list (.pair (.int .i64) (.pair (.int .i64) (.pair (.int .i64) (.pair (.int .i64) (.pair (.int .i64) (.pair (.int .i64) (.int .i64))))))))))), (.int .i64), (.list (.int .i64)), (.int .i64), .str, (.int .i64), (.list (.pair (.int .i64) (.pair (.int .i64) (.pair (.int .i64) (.pair (.int .i64) (.pair (.int .i64) (.pair (.int .i64) (.int .i64))))))))], [⟨.ret, [.s (.one (.d .bool))], [.bool]⟩, ⟨.exit 2, [.s (.one (.d (.int .i64))), .s (.one (.d (.int .i64))), .s (.one (.d (.int .i64))), .s (.av 4 (.pair .str (.pair (.int .i64) (.list (.pair (.int .i64) (.pair (.int .i64) (.pair (.int .i64) (.pair (.int .i64) (.pair (.int .i64) (.pair (.int .i64) (.int .i64))))))))))), .s (.one (.d (.int .i64)))], [(.int .i64), (.int .i64), (.int .i64), (.list (.pair .str (.pair (.int .i64) (.list (.pair (.int .i64) (.pair (.int .i64) (.pair (.int .i64) (.pair (.int .i64) (.pair (.int .i64) (.pair (.int .i64) (.int .i64))))))))))), (.int .i64)]⟩], fun h => Pw.law04_ZoneExact_l2_step h.1 h.2.1 h.2.2.1 h.2.2.2.1 h.2.2.2.2.1 h.2.2.2.2.2.1 h.2.2.2.2.2.2.1 h.2.2.2.2.2.2.2.1 h.2.2.2.2.2.2.2.2.1 h.2.2.2.2.2.2.2.2.2⟩,
    ⟨4, [.s (.one (.d (.int .i64))), .s (.one (.d (.int .i64))), .s (.one (.d (.int .i64))), .s (.one (.bp 896 0)), .s (.av 4 (.pair .str (.pair (.int .i64) (.list (.pair (.int .i64) (.pair (.int .i64) (.pair (.int .i64) (.pair (.int .i64) (.pair (.int .i64) (.pair (.int .i64) (.int .i64))))))))))), .s (.one (.d (.int .i64))), .s (.av 5 (.int .i64)), .s (.one (.d (.int .i64))), .s (.av 3 (.pair (.int .i64) (.int .i64))), .s (.one (.d (.int .i64))), .b (.cell [.d .str, .d (.int .i64), .d (.list (.pair (.int .i64) (.pair (.int .i64) (.pair (.int .i64) (.pair (.int .i64) (.pair (.int .i64) (.pair (.int .i64) (.int .i64))))))))] false)], [(.int .i64), (.int .i64), (.int .i64), (.list (.pair .str (.pair (.int .i64) (.list (.pair (.int .i64) (.pair (.int .i64) (.pair (.int .i64) (.pair (.int .i64) (.pair (.int .i64) (.pair (.int .i64) (.int .i64))))))))))), (.int .i64), (.list (.int .i64)), (.int .i64), (.list (.pair (.int .i64) (.int .i64))), (.int .i64), .str, (.int .i64), (.list (.pair (.int .i64) (.pair (.int .i64) (.pair (.int .i64) (.pair (.int .i64) (.pair (.int .i64) (.pair (.int .i64) (.int .i64))))))))], [⟨.ret, [.s (.one (.d .bool))], [.bool]⟩, ⟨.exit 4, [.s (.one (.d (.int .i64))), .s (.one (.d (.int .i64))), .s (.one (.d (.int .i64))), .s (.one (.bp 896 0)), .s (.av 4 (.pair .str (.pair (.int .i64) (.list (.pair (.int .i64) (.pair (.int .i64) (.pair (.int .i64) (.pair (.int .i64) (.pair (.int .i64) (.pair (.int .i64) (.int .i64))))))))))), .s (.one (.d (.int .i64))), .s (.av 5 (.int .i64)), .s (.one (.d (.int .i64))), .b (.cell [.d .str, .d (.int .i64), .d (.list (.pair (.int .i64) (.pair (.int .i64) (.pair (.int .i64) (.pair (.int .i64) (.pair (.int .i64) (.pair (.int .i64) (.int .i64))))))))] false)], [(.int .i64), (.int .i64), (.int .i64), (.list (.pair .str (.pair (.int .i64) (.list (.pair (.int .i64) (.pair (.int .i64) (.pair (.int .i64) (.pair (.int .i64) (.pair (.int .i64) (.pair (.int .i64) (.int .i64))))))))))), (.int .i64), (.list (.int .i64)), (.int .i64), .str, (.int .i64), (.list (.pair (.int .i64) (.pair (.int .i64) (.pair (.int .i64) (.pair (.int .i64) (.pair (.int .i64) (.pair (.int .i64) (.int .i64))))))))]⟩], fun h => Pw.law04_ZoneExact_l4_step h.1 h.2.1 h.2.2.1 h.2.2.2.1 h.2.2.2.2.1 h.2.2.2.2.2.1 h.2.2.2.2.2.2.1 h.2.2.2.2.2.2.2.1 h.2.2.2.2.2.2.2.2.1 h.2.2.2.2.2.2.2.2.2.1 h.2.2.2.2.2.2.2.2.2.2.1 h.2.2.2.2.2.2.2.2.2.2.2⟩]
  modes := [(10, [false]), (11, []), (12, [false]), (13, [false, false]), (14, [false, false]), (15, []), (16, [false]), (17, [false]), (18, [false, false]), (19, [false]), (20, [false]), (21, [false]), (22, [false]), (23, [false, false]), (24, [false, false]), (25, [false, false]), (26, [false, false]), (27, [false, false]), (28, [false, false]), (29, [false, false]), (30, [false, false]), (31, [false, false]), (32, [false, false])]
  keep := [(0, ⟨[2, 3, 4, 60, 61], [], [], []⟩),
    (2, ⟨[2, 3, 4, 14, 60, 61, 119, 120], [896], [], []⟩),
    (4, ⟨[2, 3, 4, 14, 60, 61, 119, 120, 179, 180], [896], [], []⟩)]
  keepX := [(0, .ret, ⟨[10], [], [], []⟩),
    (0, .exit 0, ⟨[], [], [], []⟩),
    (2, .ret, ⟨[10], [], [], []⟩),
    (2, .exit 2, ⟨[2, 3, 4, 60, 61], [], [], []⟩),
    (4, .ret, ⟨[10], [], [], []⟩),
    (4, .exit 4, ⟨[2, 3, 4, 14, 60, 61, 119, 120], [896], [], []⟩)]
  ro := [false]
  dw := [(5, [[], [], [], [3264], [], [], [], []])]

set_option maxRecDepth 100000 in
theorem law04_ZoneExact_ok : Con.OK Try.prog law04_ZoneExact_con :=
  con_of tabOk mixedOk law04_ZoneExact_d law04_ZoneExact_con Try.f3 (Try.f3.body.getD .skip) Try.func3 (by kernel_rfl) (by kernel_rfl) (Nat.le_of_ble_eq_true (by kernel_rfl)) (by kernel_rfl) (And.intro law04_example_ok (And.intro zone_Transitions_ok (And.intro zone_FromLocal_ok (And.intro zone_First_ok (And.intro zone_ToLocal_ok (And.intro law04_sane_ok (And.intro made_Light_ok (And.intro made_Roll_ok (And.intro made_Dice_Zone_ok (And.intro law04_odd_ok (And.intro r04_Transitions_ok (And.intro law04_same_ok (And.intro zone_Check_ok (And.intro r04_Check_ok (And.intro zone_Horizon_ok (And.intro r04_Horizon_ok (And.intro made_Mod_ok (And.intro zone_OffsetAt_ok (And.intro r04_OffsetAt_ok (And.intro r04_ToLocal_ok (And.intro r04_FromLocal_ok (And.intro r04_First_ok (And.intro law04_ints_ok trivial))))))))))))))))))))))) (by kernel_rfl) (by kernel_rfl)
    (And.intro (fun h => by kernel_rfl) (And.intro (fun h => by kernel_rfl) (And.intro (fun h => by kernel_rfl) trivial)))
    (fun h => by kernel_rfl)

noncomputable def week_Check_con : Con := ⟨57, [.v (.list (.pair (.int .i64) (.int .i64)))], [(.list (.pair (.int .i64) (.int .i64)))], ⟨[.v (.int .i64)], []⟩, [(.int .i64)], fun h => Pw.week_Check h⟩

noncomputable def week_Check_d : FnD where
  N := 46
  np := 1
  cs := []
  ds := [⟨0, [.s (.one (.d (.list (.pair (.int .i64) (.int .i64))))), .s (.one (.d (.list (.pair (.int .i64) (.int .i64))))), .s (.one (.d (.int .i64))), .s (.one (.d (.int .i64)))], [(.list (.pair (.int .i64) (.int .i64))), (.list (.pair (.int .i64) (.int .i64))), (.int .i64), (.int .i64)], [⟨.ret, [.s (.one (.d (.int .i64)))], [(.int .i64)]⟩, ⟨.exit 0, [], []⟩], fun h => Pw.week_Check_l0_step h.1 h.2.1 h.2.2.1 h.2.2.2⟩]
  modes := []
  keep := [(0, ⟨[0, 8, 9, 10], [], [], []⟩)]
  keepX := [(0, .ret, ⟨[2], [], [], []⟩),
    (0, .exit 0, ⟨[], [], [], []⟩)]
  ro := [false]
  dw := []

set_option maxRecDepth 100000 in
theorem week_Check_ok : Con.OK Try.prog week_Check_con :=
  con_of tabOk mixedOk week_Check_d week_Check_con Try.f57 (Try.f57.body.getD .skip) Try.func57 (by kernel_rfl) (by kernel_rfl) (Nat.le_of_ble_eq_true (by kernel_rfl)) (by kernel_rfl) trivial (by kernel_rfl) (by kernel_rfl)
    (And.intro (fun h => by kernel_rfl) trivial)
    (fun h => by kernel_rfl)

noncomputable def week_Invert_con : Con := ⟨56, [.v (.list (.pair (.int .i64) (.int .i64)))], [(.list (.pair (.int .i64) (.int .i64)))], ⟨[.own 89 (.list (.pair (.int .i64) (.int .i64))), .v (.int .i64)], []⟩, [(.list (.pair (.int .i64) (.int .i64))), (.int .i64)], fun h => Pw.week_Invert h⟩

noncomputable def week_Invert_d : FnD where
  N := 42
  np := 1
  cs := [week_Check_con]
  ds := [⟨0, [.s (.one (.ol 1000000)), .s (.one (.d (.int .i64))), .s (.one (.d (.list (.pair (.int .i64) (.int .i64))))), .s (.one (.d (.int .i64))), .s (.one (.d (.int .i64))), .b (.lst 89 (.pair (.int .i64) (.int .i64)) false)], [(.int .i64), (.list (.pair (.int .i64) (.int .i64))), (.int .i64), (.int .i64), (.list (.pair (.int .i64) (.int .i64)))], [⟨.exit 0, [.s (.one (.ol 1500100)), .s (.one (.d (.int .i64))), .b (.lst 89 (.pair (.int .i64) (.int .i64)) false)], [(.int .i64), (.list (.pair (.int .i64) (.int .i64)))]⟩], fun h => Pw.week_Invert_l0_step h.1 h.2.1 h.2.2.1 h.2.2.2.1 h.2.2.2.2⟩]
  modes := [(57, [false])]
  keep := [(0, ⟨[4, 5, 11, 12, 13], [], [⟨1000000, 89, (.pair (.int .i64) (.int .i64)), [.slot 4], false⟩], []⟩)]
  keepX := [(0, .exit 0, ⟨[4, 5], [], [⟨1500100, 89, (.pair (.int .i64) (.int .i64)), [.slot 4], false⟩], []⟩)]
  ro := [true, false]
  dw := []

set_option maxRecDepth 100000 in
theorem week_Invert_ok : Con.OK Try.prog week_Invert_con :=
  con_of tabOk mixedOk week_Invert_d week_Invert_con Try.f56 (Try.f56.body.getD .skip) Try.func56 (by kernel_rfl) (by kernel_rfl) (Nat.le_of_ble_eq_true (by kernel_rfl)) (by kernel_rfl) (And.intro week_Check_ok trivial) (by kernel_rfl) (by kernel_rfl)
    (And.intro (fun h => by kernel_rfl) trivial)
    (fun h => by kernel_rfl)

noncomputable def week_SecondOf_con : Con := ⟨103, [.v (.pair (.int .i64) (.int .i64))], [(.pair (.int .i64) (.int .i64))], ⟨[.v (.int .i64)], []⟩, [(.int .i64)], fun h => Pw.week_SecondOf h⟩

noncomputable def week_SecondOf_d : FnD where
  N := 10
  np := 1
  cs := [civil_Weekday_con]
  ds := []
  modes := [(107, [false])]
  keep := []
  keepX := []
  ro := [false]
  dw := []

set_option maxRecDepth 100000 in
theorem week_SecondOf_ok : Con.OK Try.prog week_SecondOf_con :=
  con_of tabOk mixedOk week_SecondOf_d week_SecondOf_con Try.f103 (Try.f103.body.getD .skip) Try.func103 (by kernel_rfl) (by kernel_rfl) (Nat.le_of_ble_eq_true (by kernel_rfl)) (by kernel_rfl) (And.intro civil_Weekday_ok trivial) (by kernel_rfl) (by kernel_rfl)
    trivial
    (fun h => by kernel_rfl)

noncomputable def week_Second_con : Con := ⟨87, [.v (.pair .str (.pair (.int .i64) (.list (.pair (.int .i64) (.pair (.int .i64) (.pair (.int .i64) (.pair (.int .i64) (.pair (.int .i64) (.pair (.int .i64) (.int .i64)))))))))), .v (.int .i64)], [(.pair .str (.pair (.int .i64) (.list (.pair (.int .i64) (.pair (.int .i64) (.pair (.int .i64) (.pair (.int .i64) (.pair (.int .i64) (.pair (.int .i64) (.int .i64)))))))))), (.int .i64)], ⟨[.v (.int .i64), .v (.int .i64)], []⟩, [(.int .i64), (.int .i64)], fun h => Pw.week_Second h.1 h.2⟩

noncomputable def week_Second_d : FnD where
  N := 19
  np := 2
  cs := [zone_ToLocal_con, week_SecondOf_con]
  ds := []
  modes := [(26, [false, false]), (103, [false])]
  keep := []
  keepX := []
  ro := [false, false]
  dw := []

set_option maxRecDepth 100000 in
theorem week_Second_ok : Con.OK Try.prog week_Second_con :=
  con_of tabOk mixedOk week_Second_d week_Second_con Try.f87 (Try.f87.body.getD .skip) Try.func87 (by kernel_rfl) (by kernel_rfl) (Nat.le_of_ble_eq_true (by kernel_rfl)) (by kernel_rfl) (And.intro zone_ToLocal_ok (And.intro week_SecondOf_ok trivial)) (by kernel_rfl) (by kernel_rfl)
    trivial
    (fun h => by kernel_rfl)

noncomputable def week_Has_con : Con := ⟨89, [.v (.list (.pair (.int .i64) (.int .i64))), .v (.int .i64)], [(.list (.pair (.int .i64) (.int .i64))), (.int .i64)], ⟨[.v .bool], []⟩, [.bool], fun h => Pw.week_Has h.1 h.2⟩

noncomputable def week_Has_d : FnD where
  N := 24
  np := 2
  cs := []
  ds := [⟨0, [.s (.one (.d (.int .i64))), .s (.one (.d (.list (.pair (.int .i64) (.int .i64))))), .s (.one (.d (.int .i64))), .s (.one (.d (.int .i64)))], [(.int .i64), (.list (.pair (.int .i64) (.int .i64))), (.int .i64), (.int .i64)], [⟨.ret, [.s (.one (.d .bool))], [.bool]⟩, ⟨.exit 0, [], []⟩], fun h => Pw.week_Has_l0_step h.1 h.2.1 h.2.2.1 h.2.2.2⟩]
  modes := []
  keep := [(0, ⟨[1, 7, 8, 9], [], [], []⟩)]
  keepX := [(0, .ret, ⟨[4], [], [], []⟩),
    (0, .exit 0, ⟨[], [], [], []⟩)]
  ro := [false]
  dw := []

set_option maxRecDepth 100000 in
theorem week_Has_ok : Con.OK Try.prog week_Has_con :=
  con_of tabOk mixedOk week_Has_d week_Has_con Try.f89 (Try.f89.body.getD .skip) Try.func89 (by kernel_rfl) (by kernel_rfl) (Nat.le_of_ble_eq_true (by kernel_rfl)) (by kernel_rfl) trivial (by kernel_rfl) (by kernel_rfl)
    (And.intro (fun h => by kernel_rfl) trivial)
    (fun h => by kernel_rfl)

noncomputable def week_In_con : Con := ⟨54, [.v (.pair .str (.pair (.int .i64) (.list (.pair (.int .i64) (.pair (.int .i64) (.pair (.int .i64) (.pair (.int .i64) (.pair (.int .i64) (.pair (.int .i64) (.int .i64)))))))))), .v (.list (.pair (.int .i64) (.int .i64))), .v (.int .i64)], [(.pair .str (.pair (.int .i64) (.list (.pair (.int .i64) (.pair (.int .i64) (.pair (.int .i64) (.pair (.int .i64) (.pair (.int .i64) (.pair (.int .i64) (.int .i64)))))))))), (.list (.pair (.int .i64) (.int .i64))), (.int .i64)], ⟨[.v .bool], []⟩, [.bool], fun h => Pw.week_In h.1 h.2.1 h.2.2⟩

noncomputable def week_In_d : FnD where
  N := 27
  np := 3
  cs := [week_Check_con, week_Second_con, week_Has_con]
  ds := []
  modes := [(57, [false]), (87, [false, false]), (89, [false, false])]
  keep := []
  keepX := []
  ro := [false]
  dw := []

set_option maxRecDepth 100000 in
theorem week_In_ok : Con.OK Try.prog week_In_con :=
  con_of tabOk mixedOk week_In_d week_In_con Try.f54 (Try.f54.body.getD .skip) Try.func54 (by kernel_rfl) (by kernel_rfl) (Nat.le_of_ble_eq_true (by kernel_rfl)) (by kernel_rfl) (And.intro week_Check_ok (And.intro week_Second_ok (And.intro week_Has_ok trivial))) (by kernel_rfl) (by kernel_rfl)
    trivial
    (fun h => by kernel_rfl)

noncomputable def law05_sane_con : Con := ⟨50, [], [], ⟨[.v .bool], []⟩, [.bool], fun h => Pw.law05_sane⟩

noncomputable def law05_sane_d : FnD where
  N := 52
  np := 0
  cs := [week_Invert_con, week_Second_con, week_In_con]
  ds := []
  modes := [(54, [false, false, false]), (56, [false]), (87, [false, false])]
  keep := []
  keepX := []
  ro := [false]
  dw := []

set_option maxRecDepth 100000 in
theorem law05_sane_ok : Con.OK Try.prog law05_sane_con :=
  con_of tabOk mixedOk law05_sane_d law05_sane_con Try.f50 (Try.f50.body.getD .skip) Try.func50 (by kernel_rfl) (by kernel_rfl) (Nat.le_of_ble_eq_true (by kernel_rfl)) (by kernel_rfl) (And.intro week_Invert_ok (And.intro week_Second_ok (And.intro week_In_ok trivial))) (by kernel_rfl) (by kernel_rfl)
    trivial
    (fun h => by kernel_rfl)
end Go.Proofs.Pk
