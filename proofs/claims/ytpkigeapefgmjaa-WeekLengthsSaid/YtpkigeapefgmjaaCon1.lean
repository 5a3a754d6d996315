/- Contracts: each given function is its plain function, printed by a program. -/
import Derived.Test.YtpkigeapefgmjaaCon0
open Go Go.Lft
set_option linter.unusedVariables false
namespace Go.Proofs.Pk

noncomputable def zone_Of_con : Con := ⟨67, [.v (.pair .str (.pair (.int .i64) (.list (.pair (.int .i64) (.pair (.int .i64) (.pair (.int .i64) (.pair (.int .i64) (.pair (.int .i64) (.pair (.int .i64) (.int .i64))))))))))], [(.pair .str (.pair (.int .i64) (.list (.pair (.int .i64) (.pair (.int .i64) (.pair (.int .i64) (.pair (.int .i64) (.pair (.int .i64) (.pair (.int .i64) (.int .i64))))))))))], ⟨[.v (.pair (.int .i64) (.list (.pair (.int .i64) (.int .i64)))), .v (.int .i64)], []⟩, [(.pair (.int .i64) (.list (.pair (.int .i64) (.int .i64)))), (.int .i64)], fun h => Pw.zone_Of h⟩

noncomputable def zone_Of_d : FnD where
  N := 16
  np := 1
  cs := [zone_Transitions_con]
  ds := []
  modes := [(16, [false])]
  keep := []
  keepX := []
  ro := [false, false]
  dw := []

set_option maxRecDepth 100000 in
theorem zone_Of_ok : Con.OK Try.prog zone_Of_con :=
  con_of tabOk mixedOk zone_Of_d zone_Of_con Try.f67 (Try.f67.body.getD .skip) Try.func67 (by kernel_rfl) (by kernel_rfl) (Nat.le_of_ble_eq_true (by kernel_rfl)) (by kernel_rfl) (And.intro zone_Transitions_ok trivial) (by kernel_rfl) (by kernel_rfl)
    trivial
    (fun h => by kernel_rfl)

noncomputable def zone_civilTime_con : Con := ⟨74, [.v (.pair .str (.pair (.int .i64) (.list (.pair (.int .i64) (.pair (.int .i64) (.pair (.int .i64) (.pair (.int .i64) (.pair (.int .i64) (.pair (.int .i64) (.int .i64)))))))))), .v (.pair (.int .i64) (.int .i64))], [(.pair .str (.pair (.int .i64) (.list (.pair (.int .i64) (.pair (.int .i64) (.pair (.int .i64) (.pair (.int .i64) (.pair (.int .i64) (.pair (.int .i64) (.int .i64)))))))))), (.pair (.int .i64) (.int .i64))], ⟨[.v (.pair (.int .i64) (.list (.pair (.int .i64) (.int .i64)))), .v (.int .i64)], []⟩, [(.pair (.int .i64) (.list (.pair (.int .i64) (.int .i64)))), (.int .i64)], fun h => Pw.zone_civilTime h.1 h.2⟩

noncomputable def zone_civilTime_d : FnD where
  N := 24
  np := 2
  cs := [zone_in_con, zone_Of_con]
  ds := []
  modes := [(63, [false, false, false]), (67, [false])]
  keep := []
  keepX := []
  ro := [false, false]
  dw := []

set_option maxRecDepth 100000 in
theorem zone_civilTime_ok : Con.OK Try.prog zone_civilTime_con :=
  con_of tabOk mixedOk zone_civilTime_d zone_civilTime_con Try.f74 (Try.f74.body.getD .skip) Try.func74 (by kernel_rfl) (by kernel_rfl) (Nat.le_of_ble_eq_true (by kernel_rfl)) (by kernel_rfl) (And.intro zone_in_ok (And.intro zone_Of_ok trivial)) (by kernel_rfl) (by kernel_rfl)
    trivial
    (fun h => by kernel_rfl)

noncomputable def zone_Table_after_c1_con : Con := ⟨114, [.v (.int .i64), .ip [(.int .i64), (.list (.pair (.int .i64) (.int .i64)))], .ip [(.int .i64)]], [(.int .i64), (.int .i64), (.list (.pair (.int .i64) (.int .i64))), (.int .i64)], ⟨[.v .bool], []⟩, [.bool], fun h => Pw.zone_Table_after_c1 h.1 h.2.1 h.2.2.1 h.2.2.2⟩

noncomputable def zone_Table_after_c1_d : FnD where
  N := 13
  np := 3
  cs := []
  ds := []
  modes := []
  keep := []
  keepX := []
  ro := [false]
  dw := []

set_option maxRecDepth 100000 in
theorem zone_Table_after_c1_ok : Con.OK Try.prog zone_Table_after_c1_con :=
  con_of tabOk mixedOk zone_Table_after_c1_d zone_Table_after_c1_con Try.f114 (Try.f114.body.getD .skip) Try.func114 (by kernel_rfl) (by kernel_rfl) (Nat.le_of_ble_eq_true (by kernel_rfl)) (by kernel_rfl) trivial (by kernel_rfl) (by kernel_rfl)
    trivial
    (fun h => by kernel_rfl)

noncomputable def sort_Search_con : Con := ⟨113, [.v (.int .i64), .clo 114 [.p [(.int .i64), (.list (.pair (.int .i64) (.int .i64)))], .p [(.int .i64)]]], [(.int .i64), (.int .i64), (.list (.pair (.int .i64) (.int .i64))), (.int .i64)], ⟨[.v (.int .i64)], []⟩, [(.int .i64)], fun h => Pw.sort_Search h.1 h.2.1 h.2.2.1 h.2.2.2⟩

noncomputable def sort_Search_d : FnD where
  N := 26
  np := 2
  cs := [zone_Table_after_c1_con]
  ds := [⟨0, [.s (.one (.clo 114 [.p [(.int .i64), (.list (.pair (.int .i64) (.int .i64)))], .p [(.int .i64)]])), .s (.one (.d (.int .i64))), .s (.one (.d (.int .i64)))], [(.int .i64), (.list (.pair (.int .i64) (.int .i64))), (.int .i64), (.int .i64), (.int .i64)], [⟨.exit 0, [.s (.one (.d (.int .i64)))], [(.int .i64)]⟩], fun h => Pw.sort_Search_l0_step h.1 h.2.1 h.2.2.1 h.2.2.2.1 h.2.2.2.2⟩]
  modes := [(114, [false])]
  keep := [(0, ⟨[1, 5, 6], [], [], []⟩)]
  keepX := [(0, .exit 0, ⟨[5], [], [], []⟩)]
  ro := [false]
  dw := []

set_option maxRecDepth 100000 in
theorem sort_Search_ok : Con.OK Try.prog sort_Search_con :=
  con_of tabOk mixedOk sort_Search_d sort_Search_con Try.f113 (Try.f113.body.getD .skip) Try.func113 (by kernel_rfl) (by kernel_rfl) (Nat.le_of_ble_eq_true (by kernel_rfl)) (by kernel_rfl) (And.intro zone_Table_after_c1_ok trivial) (by kernel_rfl) (by kernel_rfl)
    (And.intro (fun h => by kernel_rfl) trivial)
    (fun h => by kernel_rfl)

noncomputable def zone_Table_after_con : Con := ⟨97, [.v (.pair (.int .i64) (.list (.pair (.int .i64) (.int .i64)))), .v (.int .i64)], [(.pair (.int .i64) (.list (.pair (.int .i64) (.int .i64)))), (.int .i64)], ⟨[.v (.int .i64)], []⟩, [(.int .i64)], fun h => Pw.zone_Table_after h.1 h.2⟩

noncomputable def zone_Table_after_d : FnD where
  N := 10
  np := 2
  cs := [sort_Search_con]
  ds := []
  modes := [(113, [false, false])]
  keep := []
  keepX := []
  ro := [false]
  dw := []

set_option maxRecDepth 100000 in
theorem zone_Table_after_ok : Con.OK Try.prog zone_Table_after_con :=
  con_of tabOk mixedOk zone_Table_after_d zone_Table_after_con Try.f97 (Try.f97.body.getD .skip) Try.func97 (by kernel_rfl) (by kernel_rfl) (Nat.le_of_ble_eq_true (by kernel_rfl)) (by kernel_rfl) (And.intro sort_Search_ok trivial) (by kernel_rfl) (by kernel_rfl)
    trivial
    (fun h => by kernel_rfl)

noncomputable def zone_Table_before_con : Con := ⟨96, [.v (.pair (.int .i64) (.list (.pair (.int .i64) (.int .i64)))), .v (.int .i64)], [(.pair (.int .i64) (.list (.pair (.int .i64) (.int .i64)))), (.int .i64)], ⟨[.v (.int .i64)], []⟩, [(.int .i64)], fun h => Pw.zone_Table_before h.1 h.2⟩

noncomputable def zone_Table_before_d : FnD where
  N := 16
  np := 2
  cs := []
  ds := []
  modes := []
  keep := []
  keepX := []
  ro := [false]
  dw := []

set_option maxRecDepth 100000 in
theorem zone_Table_before_ok : Con.OK Try.prog zone_Table_before_con :=
  con_of tabOk mixedOk zone_Table_before_d zone_Table_before_con Try.f96 (Try.f96.body.getD .skip) Try.func96 (by kernel_rfl) (by kernel_rfl) (Nat.le_of_ble_eq_true (by kernel_rfl)) (by kernel_rfl) trivial (by kernel_rfl) (by kernel_rfl)
    trivial
    (fun h => by kernel_rfl)

noncomputable def zone_Table_Pieces_con : Con := ⟨99, [.v (.pair (.int .i64) (.list (.pair (.int .i64) (.int .i64)))), .v (.int .i64), .v (.int .i64)], [(.pair (.int .i64) (.list (.pair (.int .i64) (.int .i64)))), (.int .i64), (.int .i64)], ⟨[.own 147 (.list (.pair (.int .i64) (.pair (.int .i64) (.int .i64))))], []⟩, [(.list (.pair (.int .i64) (.pair (.int .i64) (.int .i64))))], fun h => Pw.zone_Table_Pieces h.1 h.2.1 h.2.2⟩

noncomputable def zone_Table_Pieces_d : FnD where
  N := 41
  np := 3
  cs := [zone_Table_after_con, zone_Table_before_con]
  ds := [⟨0, [.s (.one (.d (.int .i64))), .s (.one (.d (.int .i64))), .s (.one (.bp 192 0)), .s (.one (.ol 1000000)), .b (.cell [.d (.int .i64), .d (.list (.pair (.int .i64) (.int .i64)))] false), .b (.lst 147 (.pair (.int .i64) (.pair (.int .i64) (.int .i64))) false)], [(.int .i64), (.int .i64), (.int .i64), (.list (.pair (.int .i64) (.int .i64))), (.list (.pair (.int .i64) (.pair (.int .i64) (.int .i64))))], [⟨.exit 0, [.s (.one (.ol 1500100)), .b (.lst 147 (.pair (.int .i64) (.pair (.int .i64) (.int .i64))) false)], [(.list (.pair (.int .i64) (.pair (.int .i64) (.int .i64))))]⟩], fun h => Pw.zone_Table_Pieces_l0_step h.1 h.2.1 h.2.2.1 h.2.2.2.1 h.2.2.2.2⟩]
  modes := [(96, [false, false]), (97, [false, false])]
  keep := [(0, ⟨[1, 2, 3, 7], [192], [⟨1000000, 147, (.pair (.int .i64) (.pair (.int .i64) (.int .i64))), [.slot 7], false⟩], []⟩)]
  keepX := [(0, .exit 0, ⟨[7], [], [⟨1500100, 147, (.pair (.int .i64) (.pair (.int .i64) (.int .i64))), [.slot 7], false⟩], []⟩)]
  ro := [true]
  dw := []

set_option maxRecDepth 100000 in
theorem zone_Table_Pieces_ok : Con.OK Try.prog zone_Table_Pieces_con :=
  con_of tabOk mixedOk zone_Table_Pieces_d zone_Table_Pieces_con Try.f99 (Try.f99.body.getD .skip) Try.func99 (by kernel_rfl) (by kernel_rfl) (Nat.le_of_ble_eq_true (by kernel_rfl)) (by kernel_rfl) (And.intro zone_Table_after_ok (And.intro zone_Table_before_ok trivial)) (by kernel_rfl) (by kernel_rfl)
    (And.intro (fun h => by kernel_rfl) trivial)
    (fun h => by kernel_rfl)

noncomputable def zone_seconds_con : Con := ⟨100, [.v (.pair (.int .i64) (.int .i64))], [(.pair (.int .i64) (.int .i64))], ⟨[.v (.int .i64)], []⟩, [(.int .i64)], fun h => Pw.zone_seconds h⟩

noncomputable def zone_seconds_d : FnD where
  N := 11
  np := 1
  cs := []
  ds := []
  modes := []
  keep := []
  keepX := []
  ro := [false]
  dw := []

set_option maxRecDepth 100000 in
theorem zone_seconds_ok : Con.OK Try.prog zone_seconds_con :=
  con_of tabOk mixedOk zone_seconds_d zone_seconds_con Try.f100 (Try.f100.body.getD .skip) Try.func100 (by kernel_rfl) (by kernel_rfl) (Nat.le_of_ble_eq_true (by kernel_rfl)) (by kernel_rfl) trivial (by kernel_rfl) (by kernel_rfl)
    trivial
    (fun h => by kernel_rfl)

noncomputable def zone_Table_All_con : Con := ⟨75, [.v (.pair (.int .i64) (.list (.pair (.int .i64) (.int .i64)))), .v (.pair (.int .i64) (.int .i64))], [(.pair (.int .i64) (.list (.pair (.int .i64) (.int .i64)))), (.pair (.int .i64) (.int .i64))], ⟨[.own 3 (.list (.int .i64))], []⟩, [(.list (.int .i64))], fun h => Pw.zone_Table_All h.1 h.2⟩

noncomputable def zone_Table_All_d : FnD where
  N := 37
  np := 2
  cs := [zone_Table_Pieces_con, zone_seconds_con]
  ds := [⟨0, [.s (.one (.bp 192 0)), .s (.one (.ol 1000000)), .s (.one (.ol 1000001)), .s (.one (.d (.int .i64))), .s (.one (.d (.int .i64))), .b (.cell [.d (.int .i64), .d (.int .i64)] false), .b (.lst 3 (.int .i64) false), .b (.lst 147 (.pair (.int .i64) (.pair (.int .i64) (.int .i64))) false)], [(.int .i64), (.int .i64), (.int .i64), (.int .i64), (.list (.int .i64)), (.list (.pair (.int .i64) (.pair (.int .i64) (.int .i64))))], [⟨.exit 0, [.s (.one (.ol 1500100)), .b (.lst 3 (.int .i64) false)], [(.list (.int .i64))]⟩], fun h => Pw.zone_Table_All_l0_step h.1 h.2.1 h.2.2.1 h.2.2.2.1 h.2.2.2.2.1 h.2.2.2.2.2⟩]
  modes := [(99, [false, false, false]), (100, [false])]
  keep := [(0, ⟨[3, 5, 10, 11, 12], [192], [⟨1000000, 3, (.int .i64), [.slot 5], false⟩, ⟨1000001, 147, (.pair (.int .i64) (.pair (.int .i64) (.int .i64))), [.slot 10], false⟩], []⟩)]
  keepX := [(0, .exit 0, ⟨[5], [], [⟨1500100, 3, (.int .i64), [.slot 5], false⟩], []⟩)]
  ro := [true]
  dw := []

set_option maxRecDepth 100000 in
theorem zone_Table_All_ok : Con.OK Try.prog zone_Table_All_con :=
  con_of tabOk mixedOk zone_Table_All_d zone_Table_All_con Try.f75 (Try.f75.body.getD .skip) Try.func75 (by kernel_rfl) (by kernel_rfl) (Nat.le_of_ble_eq_true (by kernel_rfl)) (by kernel_rfl) (And.intro zone_Table_Pieces_ok (And.intro zone_seconds_ok trivial)) (by kernel_rfl) (by kernel_rfl)
    (And.intro (fun h => by kernel_rfl) trivial)
    (fun h => by kernel_rfl)

noncomputable def zone_FromLocal_con : Con := ⟨28, [.v (.pair .str (.pair (.int .i64) (.list (.pair (.int .i64) (.pair (.int .i64) (.pair (.int .i64) (.pair (.int .i64) (.pair (.int .i64) (.pair (.int .i64) (.int .i64)))))))))), .v (.pair (.int .i64) (.int .i64))], [(.pair .str (.pair (.int .i64) (.list (.pair (.int .i64) (.pair (.int .i64) (.pair (.int .i64) (.pair (.int .i64) (.pair (.int .i64) (.pair (.int .i64) (.int .i64)))))))))), (.pair (.int .i64) (.int .i64))], ⟨[.own 3 (.list (.int .i64)), .v (.int .i64)], []⟩, [(.list (.int .i64)), (.int .i64)], fun h => Pw.zone_FromLocal h.1 h.2⟩

noncomputable def zone_FromLocal_d : FnD where
  N := 20
  np := 2
  cs := [zone_civilTime_con, zone_Table_All_con]
  ds := []
  modes := [(74, [false, false]), (75, [false, false])]
  keep := []
  keepX := []
  ro := [true, false]
  dw := []

set_option maxRecDepth 100000 in
theorem zone_FromLocal_ok : Con.OK Try.prog zone_FromLocal_con :=
  con_of tabOk mixedOk zone_FromLocal_d zone_FromLocal_con Try.f28 (Try.f28.body.getD .skip) Try.func28 (by kernel_rfl) (by kernel_rfl) (Nat.le_of_ble_eq_true (by kernel_rfl)) (by kernel_rfl) (And.intro zone_civilTime_ok (And.intro zone_Table_All_ok trivial)) (by kernel_rfl) (by kernel_rfl)
    trivial
    (fun h => by kernel_rfl)

noncomputable def zone_Table_First_con : Con := ⟨77, [.v (.pair (.int .i64) (.list (.pair (.int .i64) (.int .i64)))), .v (.pair (.int .i64) (.int .i64))], [(.pair (.int .i64) (.list (.pair (.int .i64) (.int .i64)))), (.pair (.int .i64) (.int .i64))], ⟨[.v (.int .i64), .v .bool], []⟩, [(.int .i64), .bool], fun h => Pw.zone_Table_First h.1 h.2⟩

noncomputable def zone_Table_First_d : FnD where
  N := 30
  np := 2
  cs := [zone_Table_Pieces_con, zone_seconds_con]
  ds := [⟨0, [.s (.one (.bp 192 0)), .s (.one (.ol 1000000)), .s (.one (.d (.int .i64))), .s (.one (.d (.int .i64))), .b (.cell [.d (.int .i64), .d (.int .i64)] false), .b (.lst 147 (.pair (.int .i64) (.pair (.int .i64) (.int .i64))) false)], [(.int .i64), (.int .i64), (.int .i64), (.int .i64), (.list (.pair (.int .i64) (.pair (.int .i64) (.int .i64))))], [⟨.ret, [.s (.one (.d (.int .i64))), .s (.one (.d .bool))], [(.int .i64), .bool]⟩, ⟨.exit 0, [], []⟩], fun h => Pw.zone_Table_First_l0_step h.1 h.2.1 h.2.2.1 h.2.2.2.1 h.2.2.2.2⟩]
  modes := [(99, [false, false, false]), (100, [false])]
  keep := [(0, ⟨[3, 10, 11, 12], [192], [⟨1000000, 147, (.pair (.int .i64) (.pair (.int .i64) (.int .i64))), [.slot 10], false⟩], []⟩)]
  keepX := [(0, .ret, ⟨[4, 5], [], [], []⟩),
    (0, .exit 0, ⟨[], [], [], []⟩)]
  ro := [false, false]
  dw := []

set_option maxRecDepth 100000 in
theorem zone_Table_First_ok : Con.OK Try.prog zone_Table_First_con :=
  con_of tabOk mixedOk zone_Table_First_d zone_Table_First_con Try.f77 (Try.f77.body.getD .skip) Try.func77 (by kernel_rfl) (by kernel_rfl) (Nat.le_of_ble_eq_true (by kernel_rfl)) (by kernel_rfl) (And.intro zone_Table_Pieces_ok (And.intro zone_seconds_ok trivial)) (by kernel_rfl) (by kernel_rfl)
    (And.intro (fun h => by kernel_rfl) trivial)
    (fun h => by kernel_rfl)

noncomputable def zone_First_con : Con := ⟨30, [.v (.pair .str (.pair (.int .i64) (.list (.pair (.int .i64) (.pair (.int .i64) (.pair (.int .i64) (.pair (.int .i64) (.pair (.int .i64) (.pair (.int .i64) (.int .i64)))))))))), .v (.pair (.int .i64) (.int .i64))], [(.pair .str (.pair (.int .i64) (.list (.pair (.int .i64) (.pair (.int .i64) (.pair (.int .i64) (.pair (.int .i64) (.pair (.int .i64) (.pair (.int .i64) (.int .i64)))))))))), (.pair (.int .i64) (.int .i64))], ⟨[.v (.int .i64), .v (.int .i64)], []⟩, [(.int .i64), (.int .i64)], fun h => Pw.zone_First h.1 h.2⟩

noncomputable def zone_First_d : FnD where
  N := 28
  np := 2
  cs := [zone_civilTime_con, zone_Table_First_con]
  ds := []
  modes := [(74, [false, false]), (77, [false, false])]
  keep := []
  keepX := []
  ro := [false, false]
  dw := []

set_option maxRecDepth 100000 in
theorem zone_First_ok : Con.OK Try.prog zone_First_con :=
  con_of tabOk mixedOk zone_First_d zone_First_con Try.f30 (Try.f30.body.getD .skip) Try.func30 (by kernel_rfl) (by kernel_rfl) (Nat.le_of_ble_eq_true (by kernel_rfl)) (by kernel_rfl) (And.intro zone_civilTime_ok (And.intro zone_Table_First_ok trivial)) (by kernel_rfl) (by kernel_rfl)
    trivial
    (fun h => by kernel_rfl)

noncomputable def zone_open_con : Con := ⟨69, [.v (.pair .str (.pair (.int .i64) (.list (.pair (.int .i64) (.pair (.int .i64) (.pair (.int .i64) (.pair (.int .i64) (.pair (.int .i64) (.pair (.int .i64) (.int .i64)))))))))), .v (.int .i64)], [(.pair .str (.pair (.int .i64) (.list (.pair (.int .i64) (.pair (.int .i64) (.pair (.int .i64) (.pair (.int .i64) (.pair (.int .i64) (.pair (.int .i64) (.int .i64)))))))))), (.int .i64)], ⟨[.v (.pair (.int .i64) (.list (.pair (.int .i64) (.int .i64)))), .v (.int .i64)], []⟩, [(.pair (.int .i64) (.list (.pair (.int .i64) (.int .i64)))), (.int .i64)], fun h => Pw.zone_open h.1 h.2⟩

noncomputable def zone_open_d : FnD where
  N := 23
  np := 2
  cs := [zone_in_con, zone_Of_con]
  ds := []
  modes := [(63, [false, false, false]), (67, [false])]
  keep := []
  keepX := []
  ro := [false, false]
  dw := []

set_option maxRecDepth 100000 in
theorem zone_open_ok : Con.OK Try.prog zone_open_con :=
  con_of tabOk mixedOk zone_open_d zone_open_con Try.f69 (Try.f69.body.getD .skip) Try.func69 (by kernel_rfl) (by kernel_rfl) (Nat.le_of_ble_eq_true (by kernel_rfl)) (by kernel_rfl) (And.intro zone_in_ok (And.intro zone_Of_ok trivial)) (by kernel_rfl) (by kernel_rfl)
    trivial
    (fun h => by kernel_rfl)

noncomputable def zone_Table_Offset_con : Con := ⟨70, [.v (.pair (.int .i64) (.list (.pair (.int .i64) (.int .i64)))), .v (.int .i64)], [(.pair (.int .i64) (.list (.pair (.int .i64) (.int .i64)))), (.int .i64)], ⟨[.v (.int .i64)], []⟩, [(.int .i64)], fun h => Pw.zone_Table_Offset h.1 h.2⟩

noncomputable def zone_Table_Offset_d : FnD where
  N := 10
  np := 2
  cs := [zone_Table_after_con, zone_Table_before_con]
  ds := []
  modes := [(96, [false, false]), (97, [false, false])]
  keep := []
  keepX := []
  ro := [false]
  dw := []

set_option maxRecDepth 100000 in
theorem zone_Table_Offset_ok : Con.OK Try.prog zone_Table_Offset_con :=
  con_of tabOk mixedOk zone_Table_Offset_d zone_Table_Offset_con Try.f70 (Try.f70.body.getD .skip) Try.func70 (by kernel_rfl) (by kernel_rfl) (Nat.le_of_ble_eq_true (by kernel_rfl)) (by kernel_rfl) (And.intro zone_Table_after_ok (And.intro zone_Table_before_ok trivial)) (by kernel_rfl) (by kernel_rfl)
    trivial
    (fun h => by kernel_rfl)

noncomputable def zone_local_con : Con := ⟨98, [.v (.int .i64)], [(.int .i64)], ⟨[.v (.pair (.int .i64) (.int .i64))], []⟩, [(.pair (.int .i64) (.int .i64))], fun h => Pw.zone_local h⟩

noncomputable def zone_local_d : FnD where
  N := 17
  np := 1
  cs := []
  ds := []
  modes := []
  keep := []
  keepX := []
  ro := [false]
  dw := []

set_option maxRecDepth 100000 in
theorem zone_local_ok : Con.OK Try.prog zone_local_con :=
  con_of tabOk mixedOk zone_local_d zone_local_con Try.f98 (Try.f98.body.getD .skip) Try.func98 (by kernel_rfl) (by kernel_rfl) (Nat.le_of_ble_eq_true (by kernel_rfl)) (by kernel_rfl) trivial (by kernel_rfl) (by kernel_rfl)
    trivial
    (fun h => by kernel_rfl)

noncomputable def zone_Table_Local_con : Con := ⟨72, [.v (.pair (.int .i64) (.list (.pair (.int .i64) (.int .i64)))), .v (.int .i64)], [(.pair (.int .i64) (.list (.pair (.int .i64) (.int .i64)))), (.int .i64)], ⟨[.v (.pair (.int .i64) (.int .i64))], []⟩, [(.pair (.int .i64) (.int .i64))], fun h => Pw.zone_Table_Local h.1 h.2⟩

noncomputable def zone_Table_Local_d : FnD where
  N := 11
  np := 2
  cs := [zone_Table_Offset_con, zone_local_con]
  ds := []
  modes := [(70, [false, false]), (98, [false])]
  keep := []
  keepX := []
  ro := [false]
  dw := []

set_option maxRecDepth 100000 in
theorem zone_Table_Local_ok : Con.OK Try.prog zone_Table_Local_con :=
  con_of tabOk mixedOk zone_Table_Local_d zone_Table_Local_con Try.f72 (Try.f72.body.getD .skip) Try.func72 (by kernel_rfl) (by kernel_rfl) (Nat.le_of_ble_eq_true (by kernel_rfl)) (by kernel_rfl) (And.intro zone_Table_Offset_ok (And.intro zone_local_ok trivial)) (by kernel_rfl) (by kernel_rfl)
    trivial
    (fun h => by kernel_rfl)

noncomputable def zone_ToLocal_con : Con := ⟨26, [.v (.pair .str (.pair (.int .i64) (.list (.pair (.int .i64) (.pair (.int .i64) (.pair (.int .i64) (.pair (.int .i64) (.pair (.int .i64) (.pair (.int .i64) (.int .i64)))))))))), .v (.int .i64)], [(.pair .str (.pair (.int .i64) (.list (.pair (.int .i64) (.pair (.int .i64) (.pair (.int .i64) (.pair (.int .i64) (.pair (.int .i64) (.pair (.int .i64) (.int .i64)))))))))), (.int .i64)], ⟨[.v (.pair (.int .i64) (.int .i64)), .v (.int .i64)], []⟩, [(.pair (.int .i64) (.int .i64)), (.int .i64)], fun h => Pw.zone_ToLocal h.1 h.2⟩

noncomputable def zone_ToLocal_d : FnD where
  N := 21
  np := 2
  cs := [zone_open_con, zone_Table_Local_con]
  ds := []
  modes := [(69, [false, false]), (72, [false, false])]
  keep := []
  keepX := []
  ro := [false, false]
  dw := []

set_option maxRecDepth 100000 in
theorem zone_ToLocal_ok : Con.OK Try.prog zone_ToLocal_con :=
  con_of tabOk mixedOk zone_ToLocal_d zone_ToLocal_con Try.f26 (Try.f26.body.getD .skip) Try.func26 (by kernel_rfl) (by kernel_rfl) (Nat.le_of_ble_eq_true (by kernel_rfl)) (by kernel_rfl) (And.intro zone_open_ok (And.intro zone_Table_Local_ok trivial)) (by kernel_rfl) (by kernel_rfl)
    trivial
    (fun h => by kernel_rfl)

noncomputable def law04_sane_con : Con := ⟨11, [], [], ⟨[.v .bool], []⟩, [.bool], fun h => Pw.law04_sane⟩

noncomputable def law04_sane_d : FnD where
  N := 80
  np := 0
  cs := [law04_example_con, zone_FromLocal_con, zone_First_con, zone_ToLocal_con]
  ds := []
  modes := [(15, []), (26, [false, false]), (28, [false, false]), (30, [false, false])]
  keep := []
  keepX := []
  ro := [false]
  dw := []

set_option maxRecDepth 100000 in
theorem law04_sane_ok : Con.OK Try.prog law04_sane_con :=
  con_of tabOk mixedOk law04_sane_d law04_sane_con Try.f11 (Try.f11.body.getD .skip) Try.func11 (by kernel_rfl) (by kernel_rfl) (Nat.le_of_ble_eq_true (by kernel_rfl)) (by kernel_rfl) (And.intro law04_example_ok (And.intro zone_FromLocal_ok (And.intro zone_First_ok (And.intro zone_ToLocal_ok trivial)))) (by kernel_rfl) (by kernel_rfl)
    trivial
    (fun h => by kernel_rfl)

noncomputable def made_Light_con : Con := ⟨10, [.v (.list (.int .i64))], [(.list (.int .i64))], ⟨[.v .bool], []⟩, [.bool], fun h => Pw.made_Light h⟩

noncomputable def made_Light_d : FnD where
  N := 6
  np := 1
  cs := []
  ds := []
  modes := []
  keep := []
  keepX := []
  ro := [false]
  dw := []

set_option maxRecDepth 100000 in
theorem made_Light_ok : Con.OK Try.prog made_Light_con :=
  con_of tabOk mixedOk made_Light_d made_Light_con Try.f10 (Try.f10.body.getD .skip) Try.func10 (by kernel_rfl) (by kernel_rfl) (Nat.le_of_ble_eq_true (by kernel_rfl)) (by kernel_rfl) trivial (by kernel_rfl) (by kernel_rfl)
    trivial
    (fun h => by kernel_rfl)

noncomputable def made_Roll_con : Con := ⟨12, [.v (.list (.int .i64))], [(.list (.int .i64))], ⟨[.box [(.list (.int .i64)), (.int .i64)]], []⟩, [(.list (.int .i64)), (.int .i64)], fun h => Pw.made_Roll h⟩

noncomputable def made_Roll_d : FnD where
  N := 6
  np := 1
  cs := []
  ds := []
  modes := []
  keep := []
  keepX := []
  ro := [false]
  dw := []

set_option maxRecDepth 100000 in
theorem made_Roll_ok : Con.OK Try.prog made_Roll_con :=
  con_of tabOk mixedOk made_Roll_d made_Roll_con Try.f12 (Try.f12.body.getD .skip) Try.func12 (by kernel_rfl) (by kernel_rfl) (Nat.le_of_ble_eq_true (by kernel_rfl)) (by kernel_rfl) trivial (by kernel_rfl) (by kernel_rfl)
    trivial
    (fun h => by kernel_rfl)
end Go.Proofs.Pk
