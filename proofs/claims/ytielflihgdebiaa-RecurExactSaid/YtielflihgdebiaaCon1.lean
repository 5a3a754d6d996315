/- Contracts: each given function is its plain function, printed by a program. -/
import Derived.Test.YtielflihgdebiaaCon0
open Go Go.Lft
set_option linter.unusedVariables false
namespace Go.Proofs.Pk

noncomputable def zone_Of_con : Con := ⟨52, [.v (.pair .str (.pair (.int .i64) (.list (.pair (.int .i64) (.pair (.int .i64) (.pair (.int .i64) (.pair (.int .i64) (.pair (.int .i64) (.pair (.int .i64) (.int .i64))))))))))], [(.pair .str (.pair (.int .i64) (.list (.pair (.int .i64) (.pair (.int .i64) (.pair (.int .i64) (.pair (.int .i64) (.pair (.int .i64) (.pair (.int .i64) (.int .i64))))))))))], ⟨[.v (.pair (.int .i64) (.list (.pair (.int .i64) (.int .i64)))), .v (.int .i64)], []⟩, [(.pair (.int .i64) (.list (.pair (.int .i64) (.int .i64)))), (.int .i64)], fun h => Pw.zone_Of h⟩

noncomputable def zone_Of_d : FnD where
  N := 16
  np := 1
  cs := [zone_Transitions_con]
  ds := []
  modes := [(11, [false])]
  keep := []
  keepX := []
  ro := [false, false]
  dw := []

set_option maxRecDepth 100000 in
theorem zone_Of_ok : Con.OK Try.prog zone_Of_con :=
  con_of tabOk mixedOk zone_Of_d zone_Of_con Try.f52 (Try.f52.body.getD .skip) Try.func52 (by kernel_rfl) (by kernel_rfl) (Nat.le_of_ble_eq_true (by kernel_rfl)) (by kernel_rfl) (And.intro zone_Transitions_ok trivial) (by kernel_rfl) (by kernel_rfl)
    trivial
    (fun h => by kernel_rfl)

noncomputable def zone_civilTime_con : Con := ⟨59, [.v (.pair .str (.pair (.int .i64) (.list (.pair (.int .i64) (.pair (.int .i64) (.pair (.int .i64) (.pair (.int .i64) (.pair (.int .i64) (.pair (.int .i64) (.int .i64)))))))))), .v (.pair (.int .i64) (.int .i64))], [(.pair .str (.pair (.int .i64) (.list (.pair (.int .i64) (.pair (.int .i64) (.pair (.int .i64) (.pair (.int .i64) (.pair (.int .i64) (.pair (.int .i64) (.int .i64)))))))))), (.pair (.int .i64) (.int .i64))], ⟨[.v (.pair (.int .i64) (.list (.pair (.int .i64) (.int .i64)))), .v (.int .i64)], []⟩, [(.pair (.int .i64) (.list (.pair (.int .i64) (.int .i64)))), (.int .i64)], fun h => Pw.zone_civilTime h.1 h.2⟩

noncomputable def zone_civilTime_d : FnD where
  N := 24
  np := 2
  cs := [zone_in_con, zone_Of_con]
  ds := []
  modes := [(48, [false, false, false]), (52, [false])]
  keep := []
  keepX := []
  ro := [false, false]
  dw := []

set_option maxRecDepth 100000 in
theorem zone_civilTime_ok : Con.OK Try.prog zone_civilTime_con :=
  con_of tabOk mixedOk zone_civilTime_d zone_civilTime_con Try.f59 (Try.f59.body.getD .skip) Try.func59 (by kernel_rfl) (by kernel_rfl) (Nat.le_of_ble_eq_true (by kernel_rfl)) (by kernel_rfl) (And.intro zone_in_ok (And.intro zone_Of_ok trivial)) (by kernel_rfl) (by kernel_rfl)
    trivial
    (fun h => by kernel_rfl)

noncomputable def zone_Table_after_c1_con : Con := ⟨94, [.v (.int .i64), .ip [(.int .i64), (.list (.pair (.int .i64) (.int .i64)))], .ip [(.int .i64)]], [(.int .i64), (.int .i64), (.list (.pair (.int .i64) (.int .i64))), (.int .i64)], ⟨[.v .bool], []⟩, [.bool], fun h => Pw.zone_Table_after_c1 h.1 h.2.1 h.2.2.1 h.2.2.2⟩

noncomputable def zone_Table_after_c1_d : FnD where
  N := 13
  np := 3
  cs := []
  ds := []
  modes := []
  keep := []
  keepX := []
  ro := [false]
  dw := []

set_option maxRecDepth 100000 in
theorem zone_Table_after_c1_ok : Con.OK Try.prog zone_Table_after_c1_con :=
  con_of tabOk mixedOk zone_Table_after_c1_d zone_Table_after_c1_con Try.f94 (Try.f94.body.getD .skip) Try.func94 (by kernel_rfl) (by kernel_rfl) (Nat.le_of_ble_eq_true (by kernel_rfl)) (by kernel_rfl) trivial (by kernel_rfl) (by kernel_rfl)
    trivial
    (fun h => by kernel_rfl)

noncomputable def sort_Search_con : Con := ⟨93, [.v (.int .i64), .clo 94 [.p [(.int .i64), (.list (.pair (.int .i64) (.int .i64)))], .p [(.int .i64)]]], [(.int .i64), (.int .i64), (.list (.pair (.int .i64) (.int .i64))), (.int .i64)], ⟨[.v (.int .i64)], []⟩, [(.int .i64)], fun h => Pw.sort_Search h.1 h.2.1 h.2.2.1 h.2.2.2⟩

noncomputable def sort_Search_d : FnD where
  N := 26
  np := 2
  cs := [zone_Table_after_c1_con]
  ds := [⟨0, [.s (.one (.clo 94 [.p [(.int .i64), (.list (.pair (.int .i64) (.int .i64)))], .p [(.int .i64)]])), .s (.one (.d (.int .i64))), .s (.one (.d (.int .i64)))], [(.int .i64), (.list (.pair (.int .i64) (.int .i64))), (.int .i64), (.int .i64), (.int .i64)], [⟨.exit 0, [.s (.one (.d (.int .i64)))], [(.int .i64)]⟩], fun h => Pw.sort_Search_l0_step h.1 h.2.1 h.2.2.1 h.2.2.2.1 h.2.2.2.2⟩]
  modes := [(94, [false])]
  keep := [(0, ⟨[1, 5, 6], [], [], []⟩)]
  keepX := [(0, .exit 0, ⟨[5], [], [], []⟩)]
  ro := [false]
  dw := []

set_option maxRecDepth 100000 in
theorem sort_Search_ok : Con.OK Try.prog sort_Search_con :=
  con_of tabOk mixedOk sort_Search_d sort_Search_con Try.f93 (Try.f93.body.getD .skip) Try.func93 (by kernel_rfl) (by kernel_rfl) (Nat.le_of_ble_eq_true (by kernel_rfl)) (by kernel_rfl) (And.intro zone_Table_after_c1_ok trivial) (by kernel_rfl) (by kernel_rfl)
    (And.intro (fun h => by kernel_rfl) trivial)
    (fun h => by kernel_rfl)

noncomputable def zone_Table_after_con : Con := ⟨79, [.v (.pair (.int .i64) (.list (.pair (.int .i64) (.int .i64)))), .v (.int .i64)], [(.pair (.int .i64) (.list (.pair (.int .i64) (.int .i64)))), (.int .i64)], ⟨[.v (.int .i64)], []⟩, [(.int .i64)], fun h => Pw.zone_Table_after h.1 h.2⟩

noncomputable def zone_Table_after_d : FnD where
  N := 10
  np := 2
  cs := [sort_Search_con]
  ds := []
  modes := [(93, [false, false])]
  keep := []
  keepX := []
  ro := [false]
  dw := []

set_option maxRecDepth 100000 in
theorem zone_Table_after_ok : Con.OK Try.prog zone_Table_after_con :=
  con_of tabOk mixedOk zone_Table_after_d zone_Table_after_con Try.f79 (Try.f79.body.getD .skip) Try.func79 (by kernel_rfl) (by kernel_rfl) (Nat.le_of_ble_eq_true (by kernel_rfl)) (by kernel_rfl) (And.intro sort_Search_ok trivial) (by kernel_rfl) (by kernel_rfl)
    trivial
    (fun h => by kernel_rfl)

noncomputable def zone_Table_before_con : Con := ⟨78, [.v (.pair (.int .i64) (.list (.pair (.int .i64) (.int .i64)))), .v (.int .i64)], [(.pair (.int .i64) (.list (.pair (.int .i64) (.int .i64)))), (.int .i64)], ⟨[.v (.int .i64)], []⟩, [(.int .i64)], fun h => Pw.zone_Table_before h.1 h.2⟩

noncomputable def zone_Table_before_d : FnD where
  N := 16
  np := 2
  cs := []
  ds := []
  modes := []
  keep := []
  keepX := []
  ro := [false]
  dw := []

set_option maxRecDepth 100000 in
theorem zone_Table_before_ok : Con.OK Try.prog zone_Table_before_con :=
  con_of tabOk mixedOk zone_Table_before_d zone_Table_before_con Try.f78 (Try.f78.body.getD .skip) Try.func78 (by kernel_rfl) (by kernel_rfl) (Nat.le_of_ble_eq_true (by kernel_rfl)) (by kernel_rfl) trivial (by kernel_rfl) (by kernel_rfl)
    trivial
    (fun h => by kernel_rfl)

noncomputable def zone_Table_Pieces_con : Con := ⟨81, [.v (.pair (.int .i64) (.list (.pair (.int .i64) (.int .i64)))), .v (.int .i64), .v (.int .i64)], [(.pair (.int .i64) (.list (.pair (.int .i64) (.int .i64)))), (.int .i64), (.int .i64)], ⟨[.own 130 (.list (.pair (.int .i64) (.pair (.int .i64) (.int .i64))))], []⟩, [(.list (.pair (.int .i64) (.pair (.int .i64) (.int .i64))))], fun h => Pw.zone_Table_Pieces h.1 h.2.1 h.2.2⟩

noncomputable def zone_Table_Pieces_d : FnD where
  N := 41
  np := 3
  cs := [zone_Table_after_con, zone_Table_before_con]
  ds := [⟨0, [.s (.one (.d (.int .i64))), .s (.one (.d (.int .i64))), .s (.one (.bp 192 0)), .s (.one (.ol 1000000)), .b (.cell [.d (.int .i64), .d (.list (.pair (.int .i64) (.int .i64)))] false), .b (.lst 130 (.pair (.int .i64) (.pair (.int .i64) (.int .i64))) false)], [(.int .i64), (.int .i64), (.int .i64), (.list (.pair (.int .i64) (.int .i64))), (.list (.pair (.int .i64) (.pair (.int .i64) (.int .i64))))], [⟨.exit 0, [.s (.one (.ol 1500100)), .b (.lst 130 (.pair (.int .i64) (.pair (.int .i64) (.int .i64))) false)], [(.list (.pair (.int .i64) (.pair (.int .i64) (.int .i64))))]⟩], fun h => Pw.zone_Table_Pieces_l0_step h.1 h.2.1 h.2.2.1 h.2.2.2.1 h.2.2.2.2⟩]
  modes := [(78, [false, false]), (79, [false, false])]
  keep := [(0, ⟨[1, 2, 3, 7], [192], [⟨1000000, 130, (.pair (.int .i64) (.pair (.int .i64) (.int .i64))), [.slot 7], false⟩], []⟩)]
  keepX := [(0, .exit 0, ⟨[7], [], [⟨1500100, 130, (.pair (.int .i64) (.pair (.int .i64) (.int .i64))), [.slot 7], false⟩], []⟩)]
  ro := [true]
  dw := []

set_option maxRecDepth 100000 in
theorem zone_Table_Pieces_ok : Con.OK Try.prog zone_Table_Pieces_con :=
  con_of tabOk mixedOk zone_Table_Pieces_d zone_Table_Pieces_con Try.f81 (Try.f81.body.getD .skip) Try.func81 (by kernel_rfl) (by kernel_rfl) (Nat.le_of_ble_eq_true (by kernel_rfl)) (by kernel_rfl) (And.intro zone_Table_after_ok (And.intro zone_Table_before_ok trivial)) (by kernel_rfl) (by kernel_rfl)
    (And.intro (fun h => by kernel_rfl) trivial)
    (fun h => by kernel_rfl)

noncomputable def zone_seconds_con : Con := ⟨82, [.v (.pair (.int .i64) (.int .i64))], [(.pair (.int .i64) (.int .i64))], ⟨[.v (.int .i64)], []⟩, [(.int .i64)], fun h => Pw.zone_seconds h⟩

noncomputable def zone_seconds_d : FnD where
  N := 11
  np := 1
  cs := []
  ds := []
  modes := []
  keep := []
  keepX := []
  ro := [false]
  dw := []

set_option maxRecDepth 100000 in
theorem zone_seconds_ok : Con.OK Try.prog zone_seconds_con :=
  con_of tabOk mixedOk zone_seconds_d zone_seconds_con Try.f82 (Try.f82.body.getD .skip) Try.func82 (by kernel_rfl) (by kernel_rfl) (Nat.le_of_ble_eq_true (by kernel_rfl)) (by kernel_rfl) trivial (by kernel_rfl) (by kernel_rfl)
    trivial
    (fun h => by kernel_rfl)

noncomputable def zone_Table_All_con : Con := ⟨60, [.v (.pair (.int .i64) (.list (.pair (.int .i64) (.int .i64)))), .v (.pair (.int .i64) (.int .i64))], [(.pair (.int .i64) (.list (.pair (.int .i64) (.int .i64)))), (.pair (.int .i64) (.int .i64))], ⟨[.own 3 (.list (.int .i64))], []⟩, [(.list (.int .i64))], fun h => Pw.zone_Table_All h.1 h.2⟩

noncomputable def zone_Table_All_d : FnD where
  N := 37
  np := 2
  cs := [zone_Table_Pieces_con, zone_seconds_con]
  ds := [⟨0, [.s (.one (.bp 192 0)), .s (.one (.ol 1000000)), .s (.one (.ol 1000001)), .s (.one (.d (.int .i64))), .s (.one (.d (.int .i64))), .b (.cell [.d (.int .i64), .d (.int .i64)] false), .b (.lst 3 (.int .i64) false), .b (.lst 130 (.pair (.int .i64) (.pair (.int .i64) (.int .i64))) false)], [(.int .i64), (.int .i64), (.int .i64), (.int .i64), (.list (.int .i64)), (.list (.pair (.int .i64) (.pair (.int .i64) (.int .i64))))], [⟨.exit 0, [.s (.one (.ol 1500100)), .b (.lst 3 (.int .i64) false)], [(.list (.int .i64))]⟩], fun h => Pw.zone_Table_All_l0_step h.1 h.2.1 h.2.2.1 h.2.2.2.1 h.2.2.2.2.1 h.2.2.2.2.2⟩]
  modes := [(81, [false, false, false]), (82, [false])]
  keep := [(0, ⟨[3, 5, 10, 11, 12], [192], [⟨1000000, 3, (.int .i64), [.slot 5], false⟩, ⟨1000001, 130, (.pair (.int .i64) (.pair (.int .i64) (.int .i64))), [.slot 10], false⟩], []⟩)]
  keepX := [(0, .exit 0, ⟨[5], [], [⟨1500100, 3, (.int .i64), [.slot 5], false⟩], []⟩)]
  ro := [true]
  dw := []

set_option maxRecDepth 100000 in
theorem zone_Table_All_ok : Con.OK Try.prog zone_Table_All_con :=
  con_of tabOk mixedOk zone_Table_All_d zone_Table_All_con Try.f60 (Try.f60.body.getD .skip) Try.func60 (by kernel_rfl) (by kernel_rfl) (Nat.le_of_ble_eq_true (by kernel_rfl)) (by kernel_rfl) (And.intro zone_Table_Pieces_ok (And.intro zone_seconds_ok trivial)) (by kernel_rfl) (by kernel_rfl)
    (And.intro (fun h => by kernel_rfl) trivial)
    (fun h => by kernel_rfl)

noncomputable def zone_FromLocal_con : Con := ⟨23, [.v (.pair .str (.pair (.int .i64) (.list (.pair (.int .i64) (.pair (.int .i64) (.pair (.int .i64) (.pair (.int .i64) (.pair (.int .i64) (.pair (.int .i64) (.int .i64)))))))))), .v (.pair (.int .i64) (.int .i64))], [(.pair .str (.pair (.int .i64) (.list (.pair (.int .i64) (.pair (.int .i64) (.pair (.int .i64) (.pair (.int .i64) (.pair (.int .i64) (.pair (.int .i64) (.int .i64)))))))))), (.pair (.int .i64) (.int .i64))], ⟨[.own 3 (.list (.int .i64)), .v (.int .i64)], []⟩, [(.list (.int .i64)), (.int .i64)], fun h => Pw.zone_FromLocal h.1 h.2⟩

noncomputable def zone_FromLocal_d : FnD where
  N := 20
  np := 2
  cs := [zone_civilTime_con, zone_Table_All_con]
  ds := []
  modes := [(59, [false, false]), (60, [false, false])]
  keep := []
  keepX := []
  ro := [true, false]
  dw := []

set_option maxRecDepth 100000 in
theorem zone_FromLocal_ok : Con.OK Try.prog zone_FromLocal_con :=
  con_of tabOk mixedOk zone_FromLocal_d zone_FromLocal_con Try.f23 (Try.f23.body.getD .skip) Try.func23 (by kernel_rfl) (by kernel_rfl) (Nat.le_of_ble_eq_true (by kernel_rfl)) (by kernel_rfl) (And.intro zone_civilTime_ok (And.intro zone_Table_All_ok trivial)) (by kernel_rfl) (by kernel_rfl)
    trivial
    (fun h => by kernel_rfl)

noncomputable def zone_Table_First_con : Con := ⟨62, [.v (.pair (.int .i64) (.list (.pair (.int .i64) (.int .i64)))), .v (.pair (.int .i64) (.int .i64))], [(.pair (.int .i64) (.list (.pair (.int .i64) (.int .i64)))), (.pair (.int .i64) (.int .i64))], ⟨[.v (.int .i64), .v .bool], []⟩, [(.int .i64), .bool], fun h => Pw.zone_Table_First h.1 h.2⟩

noncomputable def zone_Table_First_d : FnD where
  N := 30
  np := 2
  cs := [zone_Table_Pieces_con, zone_seconds_con]
  ds := [⟨0, [.s (.one (.bp 192 0)), .s (.one (.ol 1000000)), .s (.one (.d (.int .i64))), .s (.one (.d (.int .i64))), .b (.cell [.d (.int .i64), .d (.int .i64)] false), .b (.lst 130 (.pair (.int .i64) (.pair (.int .i64) (.int .i64))) false)], [(.int .i64), (.int .i64), (.int .i64), (.int .i64), (.list (.pair (.int .i64) (.pair (.int .i64) (.int .i64))))], [⟨.ret, [.s (.one (.d (.int .i64))), .s (.one (.d .bool))], [(.int .i64), .bool]⟩, ⟨.exit 0, [], []⟩], fun h => Pw.zone_Table_First_l0_step h.1 h.2.1 h.2.2.1 h.2.2.2.1 h.2.2.2.2⟩]
  modes := [(81, [false, false, false]), (82, [false])]
  keep := [(0, ⟨[3, 10, 11, 12], [192], [⟨1000000, 130, (.pair (.int .i64) (.pair (.int .i64) (.int .i64))), [.slot 10], false⟩], []⟩)]
  keepX := [(0, .ret, ⟨[4, 5], [], [], []⟩),
    (0, .exit 0, ⟨[], [], [], []⟩)]
  ro := [false, false]
  dw := []

set_option maxRecDepth 100000 in
theorem zone_Table_First_ok : Con.OK Try.prog zone_Table_First_con :=
  con_of tabOk mixedOk zone_Table_First_d zone_Table_First_con Try.f62 (Try.f62.body.getD .skip) Try.func62 (by kernel_rfl) (by kernel_rfl) (Nat.le_of_ble_eq_true (by kernel_rfl)) (by kernel_rfl) (And.intro zone_Table_Pieces_ok (And.intro zone_seconds_ok trivial)) (by kernel_rfl) (by kernel_rfl)
    (And.intro (fun h => by kernel_rfl) trivial)
    (fun h => by kernel_rfl)

noncomputable def zone_First_con : Con := ⟨25, [.v (.pair .str (.pair (.int .i64) (.list (.pair (.int .i64) (.pair (.int .i64) (.pair (.int .i64) (.pair (.int .i64) (.pair (.int .i64) (.pair (.int .i64) (.int .i64)))))))))), .v (.pair (.int .i64) (.int .i64))], [(.pair .str (.pair (.int .i64) (.list (.pair (.int .i64) (.pair (.int .i64) (.pair (.int .i64) (.pair (.int .i64) (.pair (.int .i64) (.pair (.int .i64) (.int .i64)))))))))), (.pair (.int .i64) (.int .i64))], ⟨[.v (.int .i64), .v (.int .i64)], []⟩, [(.int .i64), (.int .i64)], fun h => Pw.zone_First h.1 h.2⟩

noncomputable def zone_First_d : FnD where
  N := 28
  np := 2
  cs := [zone_civilTime_con, zone_Table_First_con]
  ds := []
  modes := [(59, [false, false]), (62, [false, false])]
  keep := []
  keepX := []
  ro := [false, false]
  dw := []

set_option maxRecDepth 100000 in
theorem zone_First_ok : Con.OK Try.prog zone_First_con :=
  con_of tabOk mixedOk zone_First_d zone_First_con Try.f25 (Try.f25.body.getD .skip) Try.func25 (by kernel_rfl) (by kernel_rfl) (Nat.le_of_ble_eq_true (by kernel_rfl)) (by kernel_rfl) (And.intro zone_civilTime_ok (And.intro zone_Table_First_ok trivial)) (by kernel_rfl) (by kernel_rfl)
    trivial
    (fun h => by kernel_rfl)

noncomputable def zone_open_con : Con := ⟨54, [.v (.pair .str (.pair (.int .i64) (.list (.pair (.int .i64) (.pair (.int .i64) (.pair (.int .i64) (.pair (.int .i64) (.pair (.int .i64) (.pair (.int .i64) (.int .i64)))))))))), .v (.int .i64)], [(.pair .str (.pair (.int .i64) (.list (.pair (.int .i64) (.pair (.int .i64) (.pair (.int .i64) (.pair (.int .i64) (.pair (.int .i64) (.pair (.int .i64) (.int .i64)))))))))), (.int .i64)], ⟨[.v (.pair (.int .i64) (.list (.pair (.int .i64) (.int .i64)))), .v (.int .i64)], []⟩, [(.pair (.int .i64) (.list (.pair (.int .i64) (.int .i64)))), (.int .i64)], fun h => Pw.zone_open h.1 h.2⟩

noncomputable def zone_open_d : FnD where
  N := 23
  np := 2
  cs := [zone_in_con, zone_Of_con]
  ds := []
  modes := [(48, [false, false, false]), (52, [false])]
  keep := []
  keepX := []
  ro := [false, false]
  dw := []

set_option maxRecDepth 100000 in
theorem zone_open_ok : Con.OK Try.prog zone_open_con :=
  con_of tabOk mixedOk zone_open_d zone_open_con Try.f54 (Try.f54.body.getD .skip) Try.func54 (by kernel_rfl) (by kernel_rfl) (Nat.le_of_ble_eq_true (by kernel_rfl)) (by kernel_rfl) (And.intro zone_in_ok (And.intro zone_Of_ok trivial)) (by kernel_rfl) (by kernel_rfl)
    trivial
    (fun h => by kernel_rfl)

noncomputable def zone_Table_Offset_con : Con := ⟨55, [.v (.pair (.int .i64) (.list (.pair (.int .i64) (.int .i64)))), .v (.int .i64)], [(.pair (.int .i64) (.list (.pair (.int .i64) (.int .i64)))), (.int .i64)], ⟨[.v (.int .i64)], []⟩, [(.int .i64)], fun h => Pw.zone_Table_Offset h.1 h.2⟩

noncomputable def zone_Table_Offset_d : FnD where
  N := 10
  np := 2
  cs := [zone_Table_after_con, zone_Table_before_con]
  ds := []
  modes := [(78, [false, false]), (79, [false, false])]
  keep := []
  keepX := []
  ro := [false]
  dw := []

set_option maxRecDepth 100000 in
theorem zone_Table_Offset_ok : Con.OK Try.prog zone_Table_Offset_con :=
  con_of tabOk mixedOk zone_Table_Offset_d zone_Table_Offset_con Try.f55 (Try.f55.body.getD .skip) Try.func55 (by kernel_rfl) (by kernel_rfl) (Nat.le_of_ble_eq_true (by kernel_rfl)) (by kernel_rfl) (And.intro zone_Table_after_ok (And.intro zone_Table_before_ok trivial)) (by kernel_rfl) (by kernel_rfl)
    trivial
    (fun h => by kernel_rfl)

noncomputable def zone_local_con : Con := ⟨80, [.v (.int .i64)], [(.int .i64)], ⟨[.v (.pair (.int .i64) (.int .i64))], []⟩, [(.pair (.int .i64) (.int .i64))], fun h => Pw.zone_local h⟩

noncomputable def zone_local_d : FnD where
  N := 17
  np := 1
  cs := []
  ds := []
  modes := []
  keep := []
  keepX := []
  ro := [false]
  dw := []

set_option maxRecDepth 100000 in
theorem zone_local_ok : Con.OK Try.prog zone_local_con :=
  con_of tabOk mixedOk zone_local_d zone_local_con Try.f80 (Try.f80.body.getD .skip) Try.func80 (by kernel_rfl) (by kernel_rfl) (Nat.le_of_ble_eq_true (by kernel_rfl)) (by kernel_rfl) trivial (by kernel_rfl) (by kernel_rfl)
    trivial
    (fun h => by kernel_rfl)

noncomputable def zone_Table_Local_con : Con := ⟨57, [.v (.pair (.int .i64) (.list (.pair (.int .i64) (.int .i64)))), .v (.int .i64)], [(.pair (.int .i64) (.list (.pair (.int .i64) (.int .i64)))), (.int .i64)], ⟨[.v (.pair (.int .i64) (.int .i64))], []⟩, [(.pair (.int .i64) (.int .i64))], fun h => Pw.zone_Table_Local h.1 h.2⟩

noncomputable def zone_Table_Local_d : FnD where
  N := 11
  np := 2
  cs := [zone_Table_Offset_con, zone_local_con]
  ds := []
  modes := [(55, [false, false]), (80, [false])]
  keep := []
  keepX := []
  ro := [false]
  dw := []

set_option maxRecDepth 100000 in
theorem zone_Table_Local_ok : Con.OK Try.prog zone_Table_Local_con :=
  con_of tabOk mixedOk zone_Table_Local_d zone_Table_Local_con Try.f57 (Try.f57.body.getD .skip) Try.func57 (by kernel_rfl) (by kernel_rfl) (Nat.le_of_ble_eq_true (by kernel_rfl)) (by kernel_rfl) (And.intro zone_Table_Offset_ok (And.intro zone_local_ok trivial)) (by kernel_rfl) (by kernel_rfl)
    trivial
    (fun h => by kernel_rfl)

noncomputable def zone_ToLocal_con : Con := ⟨21, [.v (.pair .str (.pair (.int .i64) (.list (.pair (.int .i64) (.pair (.int .i64) (.pair (.int .i64) (.pair (.int .i64) (.pair (.int .i64) (.pair (.int .i64) (.int .i64)))))))))), .v (.int .i64)], [(.pair .str (.pair (.int .i64) (.list (.pair (.int .i64) (.pair (.int .i64) (.pair (.int .i64) (.pair (.int .i64) (.pair (.int .i64) (.pair (.int .i64) (.int .i64)))))))))), (.int .i64)], ⟨[.v (.pair (.int .i64) (.int .i64)), .v (.int .i64)], []⟩, [(.pair (.int .i64) (.int .i64)), (.int .i64)], fun h => Pw.zone_ToLocal h.1 h.2⟩

noncomputable def zone_ToLocal_d : FnD where
  N := 21
  np := 2
  cs := [zone_open_con, zone_Table_Local_con]
  ds := []
  modes := [(54, [false, false]), (57, [false, false])]
  keep := []
  keepX := []
  ro := [false, false]
  dw := []

set_option maxRecDepth 100000 in
theorem zone_ToLocal_ok : Con.OK Try.prog zone_ToLocal_con :=
  con_of tabOk mixedOk zone_ToLocal_d zone_ToLocal_con Try.f21 (Try.f21.body.getD .skip) Try.func21 (by kernel_rfl) (by kernel_rfl) (Nat.le_of_ble_eq_true (by kernel_rfl)) (by kernel_rfl) (And.intro zone_open_ok (And.intro zone_Table_Local_ok trivial)) (by kernel_rfl) (by kernel_rfl)
    trivial
    (fun h => by kernel_rfl)

noncomputable def law04_sane_con : Con := ⟨6, [], [], ⟨[.v .bool], []⟩, [.bool], fun h => Pw.law04_sane⟩

noncomputable def law04_sane_d : FnD where
  N := 80
  np := 0
  cs := [law04_example_con, zone_FromLocal_con, zone_First_con, zone_ToLocal_con]
  ds := []
  modes := [(10, []), (21, [false, false]), (23, [false, false]), (25, [false, false])]
  keep := []
  keepX := []
  ro := [false]
  dw := []

set_option maxRecDepth 100000 in
theorem law04_sane_ok : Con.OK Try.prog law04_sane_con :=
  con_of tabOk mixedOk law04_sane_d law04_sane_con Try.f6 (Try.f6.body.getD .skip) Try.func6 (by kernel_rfl) (by kernel_rfl) (Nat.le_of_ble_eq_true (by kernel_rfl)) (by kernel_rfl) (And.intro law04_example_ok (And.intro zone_FromLocal_ok (And.intro zone_First_ok (And.intro zone_ToLocal_ok trivial)))) (by kernel_rfl) (by kernel_rfl)
    trivial
    (fun h => by kernel_rfl)

noncomputable def made_Light_con : Con := ⟨5, [.v (.list (.int .i64))], [(.list (.int .i64))], ⟨[.v .bool], []⟩, [.bool], fun h => Pw.made_Light h⟩

noncomputable def made_Light_d : FnD where
  N := 6
  np := 1
  cs := []
  ds := []
  modes := []
  keep := []
  keepX := []
  ro := [false]
  dw := []

set_option maxRecDepth 100000 in
theorem made_Light_ok : Con.OK Try.prog made_Light_con :=
  con_of tabOk mixedOk made_Light_d made_Light_con Try.f5 (Try.f5.body.getD .skip) Try.func5 (by kernel_rfl) (by kernel_rfl) (Nat.le_of_ble_eq_true (by kernel_rfl)) (by kernel_rfl) trivial (by kernel_rfl) (by kernel_rfl)
    trivial
    (fun h => by kernel_rfl)

noncomputable def made_Roll_con : Con := ⟨7, [.v (.list (.int .i64))], [(.list (.int .i64))], ⟨[.box [(.list (.int .i64)), (.int .i64)]], []⟩, [(.list (.int .i64)), (.int .i64)], fun h => Pw.made_Roll h⟩

noncomputable def made_Roll_d : FnD where
  N := 6
  np := 1
  cs := []
  ds := []
  modes := []
  keep := []
  keepX := []
  ro := [false]
  dw := []

set_option maxRecDepth 100000 in
theorem made_Roll_ok : Con.OK Try.prog made_Roll_con :=
  con_of tabOk mixedOk made_Roll_d made_Roll_con Try.f7 (Try.f7.body.getD .skip) Try.func7 (by kernel_rfl) (by kernel_rfl) (Nat.le_of_ble_eq_true (by kernel_rfl)) (by kernel_rfl) trivial (by kernel_rfl) (by kernel_rfl)
    trivial
    (fun h => by kernel_rfl)
end Go.Proofs.Pk
