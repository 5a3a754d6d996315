/- Contracts: each given function is its plain function, printed by a program. -/
import Derived.Test.YtngdgmapbahdgaaCon0
open Go Go.Lft
set_option linter.unusedVariables false
namespace Go.Proofs.Pk

noncomputable def zone_Transitions_con : Con := ⟨34, [.v (.pair .str (.pair (.int .i64) (.list (.pair (.int .i64) (.pair (.int .i64) (.pair (.int .i64) (.pair (.int .i64) (.pair (.int .i64) (.pair (.int .i64) (.int .i64))))))))))], [(.pair .str (.pair (.int .i64) (.list (.pair (.int .i64) (.pair (.int .i64) (.pair (.int .i64) (.pair (.int .i64) (.pair (.int .i64) (.pair (.int .i64) (.int .i64))))))))))], ⟨[.own 63 (.list (.pair (.int .i64) (.int .i64))), .v (.int .i64)], []⟩, [(.list (.pair (.int .i64) (.int .i64))), (.int .i64)], fun h => Pw.zone_Transitions h⟩

noncomputable def zone_Transitions_d : FnD where
  N := 79
  np := 1
  cs := [zone_in_con, zone_occurrences_con]
  ds := [⟨0, [.s (.one (.ol 1000000)), .s (.one (.d (.int .i64))), .s (.one (.ol 1000001)), .s (.one (.d (.int .i64))), .s (.one (.d (.int .i64))), .b (.lst 63 (.pair (.int .i64) (.int .i64)) false), .b (.lst 119 (.pair (.int .i64) (.int .i64)) false)], [(.int .i64), (.int .i64), (.int .i64), (.list (.pair (.int .i64) (.int .i64))), (.list (.pair (.int .i64) (.int .i64)))], [⟨.ret, [.s (.one (.nil)), .s (.one (.d (.int .i64)))], [(.int .i64)]⟩, ⟨.exit 0, [.s (.one (.ol 1500100)), .b (.lst 63 (.pair (.int .i64) (.int .i64)) false)], [(.list (.pair (.int .i64) (.int .i64)))]⟩], fun h => Pw.zone_Transitions_l0_step h.1 h.2.1 h.2.2.1 h.2.2.2.1 h.2.2.2.2⟩]
  modes := [(79, [false]), (80, [false, false, false])]
  keep := [(0, ⟨[6, 7, 22, 23, 24], [], [⟨1000000, 63, (.pair (.int .i64) (.int .i64)), [.slot 6], false⟩, ⟨1000001, 119, (.pair (.int .i64) (.int .i64)), [.slot 22], false⟩], []⟩)]
  keepX := [(0, .ret, ⟨[2, 3], [], [], []⟩),
    (0, .exit 0, ⟨[6], [], [⟨1500100, 63, (.pair (.int .i64) (.int .i64)), [.slot 6], false⟩], []⟩)]
  ro := [true, false]
  dw := []

set_option maxRecDepth 100000 in
theorem zone_Transitions_ok : Con.OK Try.prog zone_Transitions_con :=
  con_of tabOk mixedOk zone_Transitions_d zone_Transitions_con Try.f34 (Try.f34.body.getD .skip) Try.func34 (by kernel_rfl) (by kernel_rfl) (Nat.le_of_ble_eq_true (by kernel_rfl)) (by kernel_rfl) (And.intro zone_in_ok (And.intro zone_occurrences_ok trivial)) (by kernel_rfl) (by kernel_rfl)
    (And.intro (fun h => by kernel_rfl) trivial)
    (fun h => by kernel_rfl)

noncomputable def zone_Of_con : Con := ⟨85, [.v (.pair .str (.pair (.int .i64) (.list (.pair (.int .i64) (.pair (.int .i64) (.pair (.int .i64) (.pair (.int .i64) (.pair (.int .i64) (.pair (.int .i64) (.int .i64))))))))))], [(.pair .str (.pair (.int .i64) (.list (.pair (.int .i64) (.pair (.int .i64) (.pair (.int .i64) (.pair (.int .i64) (.pair (.int .i64) (.pair (.int .i64) (.int .i64))))))))))], ⟨[.v (.pair (.int .i64) (.list (.pair (.int .i64) (.int .i64)))), .v (.int .i64)], []⟩, [(.pair (.int .i64) (.list (.pair (.int .i64) (.int .i64)))), (.int .i64)], fun h => Pw.zone_Of h⟩

noncomputable def zone_Of_d : FnD where
  N := 16
  np := 1
  cs := [zone_Transitions_con]
  ds := []
  modes := [(34, [false])]
  keep := []
  keepX := []
  ro := [false, false]
  dw := []

set_option maxRecDepth 100000 in
theorem zone_Of_ok : Con.OK Try.prog zone_Of_con :=
  con_of tabOk mixedOk zone_Of_d zone_Of_con Try.f85 (Try.f85.body.getD .skip) Try.func85 (by kernel_rfl) (by kernel_rfl) (Nat.le_of_ble_eq_true (by kernel_rfl)) (by kernel_rfl) (And.intro zone_Transitions_ok trivial) (by kernel_rfl) (by kernel_rfl)
    trivial
    (fun h => by kernel_rfl)

noncomputable def zone_civilTime_con : Con := ⟨73, [.v (.pair .str (.pair (.int .i64) (.list (.pair (.int .i64) (.pair (.int .i64) (.pair (.int .i64) (.pair (.int .i64) (.pair (.int .i64) (.pair (.int .i64) (.int .i64)))))))))), .v (.pair (.int .i64) (.int .i64))], [(.pair .str (.pair (.int .i64) (.list (.pair (.int .i64) (.pair (.int .i64) (.pair (.int .i64) (.pair (.int .i64) (.pair (.int .i64) (.pair (.int .i64) (.int .i64)))))))))), (.pair (.int .i64) (.int .i64))], ⟨[.v (.pair (.int .i64) (.list (.pair (.int .i64) (.int .i64)))), .v (.int .i64)], []⟩, [(.pair (.int .i64) (.list (.pair (.int .i64) (.int .i64)))), (.int .i64)], fun h => Pw.zone_civilTime h.1 h.2⟩

noncomputable def zone_civilTime_d : FnD where
  N := 24
  np := 2
  cs := [zone_in_con, zone_Of_con]
  ds := []
  modes := [(80, [false, false, false]), (85, [false])]
  keep := []
  keepX := []
  ro := [false, false]
  dw := []

set_option maxRecDepth 100000 in
theorem zone_civilTime_ok : Con.OK Try.prog zone_civilTime_con :=
  con_of tabOk mixedOk zone_civilTime_d zone_civilTime_con Try.f73 (Try.f73.body.getD .skip) Try.func73 (by kernel_rfl) (by kernel_rfl) (Nat.le_of_ble_eq_true (by kernel_rfl)) (by kernel_rfl) (And.intro zone_in_ok (And.intro zone_Of_ok trivial)) (by kernel_rfl) (by kernel_rfl)
    trivial
    (fun h => by kernel_rfl)

noncomputable def zone_Table_after_c1_con : Con := ⟨126, [.v (.int .i64), .ip [(.int .i64), (.list (.pair (.int .i64) (.int .i64)))], .ip [(.int .i64)]], [(.int .i64), (.int .i64), (.list (.pair (.int .i64) (.int .i64))), (.int .i64)], ⟨[.v .bool], []⟩, [.bool], fun h => Pw.zone_Table_after_c1 h.1 h.2.1 h.2.2.1 h.2.2.2⟩

noncomputable def zone_Table_after_c1_d : FnD where
  N := 13
  np := 3
  cs := []
  ds := []
  modes := []
  keep := []
  keepX := []
  ro := [false]
  dw := []

set_option maxRecDepth 100000 in
theorem zone_Table_after_c1_ok : Con.OK Try.prog zone_Table_after_c1_con :=
  con_of tabOk mixedOk zone_Table_after_c1_d zone_Table_after_c1_con Try.f126 (Try.f126.body.getD .skip) Try.func126 (by kernel_rfl) (by kernel_rfl) (Nat.le_of_ble_eq_true (by kernel_rfl)) (by kernel_rfl) trivial (by kernel_rfl) (by kernel_rfl)
    trivial
    (fun h => by kernel_rfl)

noncomputable def sort_Search_con : Con := ⟨125, [.v (.int .i64), .clo 126 [.p [(.int .i64), (.list (.pair (.int .i64) (.int .i64)))], .p [(.int .i64)]]], [(.int .i64), (.int .i64), (.list (.pair (.int .i64) (.int .i64))), (.int .i64)], ⟨[.v (.int .i64)], []⟩, [(.int .i64)], fun h => Pw.sort_Search h.1 h.2.1 h.2.2.1 h.2.2.2⟩

noncomputable def sort_Search_d : FnD where
  N := 26
  np := 2
  cs := [zone_Table_after_c1_con]
  ds := [⟨0, [.s (.one (.clo 126 [.p [(.int .i64), (.list (.pair (.int .i64) (.int .i64)))], .p [(.int .i64)]])), .s (.one (.d (.int .i64))), .s (.one (.d (.int .i64)))], [(.int .i64), (.list (.pair (.int .i64) (.int .i64))), (.int .i64), (.int .i64), (.int .i64)], [⟨.exit 0, [.s (.one (.d (.int .i64)))], [(.int .i64)]⟩], fun h => Pw.sort_Search_l0_step h.1 h.2.1 h.2.2.1 h.2.2.2.1 h.2.2.2.2⟩]
  modes := [(126, [false])]
  keep := [(0, ⟨[1, 5, 6], [], [], []⟩)]
  keepX := [(0, .exit 0, ⟨[5], [], [], []⟩)]
  ro := [false]
  dw := []

set_option maxRecDepth 100000 in
theorem sort_Search_ok : Con.OK Try.prog sort_Search_con :=
  con_of tabOk mixedOk sort_Search_d sort_Search_con Try.f125 (Try.f125.body.getD .skip) Try.func125 (by kernel_rfl) (by kernel_rfl) (Nat.le_of_ble_eq_true (by kernel_rfl)) (by kernel_rfl) (And.intro zone_Table_after_c1_ok trivial) (by kernel_rfl) (by kernel_rfl)
    (And.intro (fun h => by kernel_rfl) trivial)
    (fun h => by kernel_rfl)

noncomputable def zone_Table_after_con : Con := ⟨113, [.v (.pair (.int .i64) (.list (.pair (.int .i64) (.int .i64)))), .v (.int .i64)], [(.pair (.int .i64) (.list (.pair (.int .i64) (.int .i64)))), (.int .i64)], ⟨[.v (.int .i64)], []⟩, [(.int .i64)], fun h => Pw.zone_Table_after h.1 h.2⟩

noncomputable def zone_Table_after_d : FnD where
  N := 10
  np := 2
  cs := [sort_Search_con]
  ds := []
  modes := [(125, [false, false])]
  keep := []
  keepX := []
  ro := [false]
  dw := []

set_option maxRecDepth 100000 in
theorem zone_Table_after_ok : Con.OK Try.prog zone_Table_after_con :=
  con_of tabOk mixedOk zone_Table_after_d zone_Table_after_con Try.f113 (Try.f113.body.getD .skip) Try.func113 (by kernel_rfl) (by kernel_rfl) (Nat.le_of_ble_eq_true (by kernel_rfl)) (by kernel_rfl) (And.intro sort_Search_ok trivial) (by kernel_rfl) (by kernel_rfl)
    trivial
    (fun h => by kernel_rfl)

noncomputable def zone_Table_before_con : Con := ⟨112, [.v (.pair (.int .i64) (.list (.pair (.int .i64) (.int .i64)))), .v (.int .i64)], [(.pair (.int .i64) (.list (.pair (.int .i64) (.int .i64)))), (.int .i64)], ⟨[.v (.int .i64)], []⟩, [(.int .i64)], fun h => Pw.zone_Table_before h.1 h.2⟩

noncomputable def zone_Table_before_d : FnD where
  N := 16
  np := 2
  cs := []
  ds := []
  modes := []
  keep := []
  keepX := []
  ro := [false]
  dw := []

set_option maxRecDepth 100000 in
theorem zone_Table_before_ok : Con.OK Try.prog zone_Table_before_con :=
  con_of tabOk mixedOk zone_Table_before_d zone_Table_before_con Try.f112 (Try.f112.body.getD .skip) Try.func112 (by kernel_rfl) (by kernel_rfl) (Nat.le_of_ble_eq_true (by kernel_rfl)) (by kernel_rfl) trivial (by kernel_rfl) (by kernel_rfl)
    trivial
    (fun h => by kernel_rfl)

noncomputable def zone_Table_Pieces_con : Con := ⟨105, [.v (.pair (.int .i64) (.list (.pair (.int .i64) (.int .i64)))), .v (.int .i64), .v (.int .i64)], [(.pair (.int .i64) (.list (.pair (.int .i64) (.int .i64)))), (.int .i64), (.int .i64)], ⟨[.own 150 (.list (.pair (.int .i64) (.pair (.int .i64) (.int .i64))))], []⟩, [(.list (.pair (.int .i64) (.pair (.int .i64) (.int .i64))))], fun h => Pw.zone_Table_Pieces h.1 h.2.1 h.2.2⟩

noncomputable def zone_Table_Pieces_d : FnD where
  N := 41
  np := 3
  cs := [zone_Table_after_con, zone_Table_before_con]
  ds := [⟨0, [.s (.one (.d (.int .i64))), .s (.one (.d (.int .i64))), .s (.one (.bp 192 0)), .s (.one (.ol 1000000)), .b (.cell [.d (.int .i64), .d (.list (.pair (.int .i64) (.int .i64)))] false), .b (.lst 150 (.pair (.int .i64) (.pair (.int .i64) (.int .i64))) false)], [(.int .i64), (.int .i64), (.int .i64), (.list (.pair (.int .i64) (.int .i64))), (.list (.pair (.int .i64) (.pair (.int .i64) (.int .i64))))], [⟨.exit 0, [.s (.one (.ol 1500100)), .b (.lst 150 (.pair (.int .i64) (.pair (.int .i64) (.int .i64))) false)], [(.list (.pair (.int .i64) (.pair (.int .i64) (.int .i64))))]⟩], fun h => Pw.zone_Table_Pieces_l0_step h.1 h.2.1 h.2.2.1 h.2.2.2.1 h.2.2.2.2⟩]
  modes := [(112, [false, false]), (113, [false, false])]
  keep := [(0, ⟨[1, 2, 3, 7], [192], [⟨1000000, 150, (.pair (.int .i64) (.pair (.int .i64) (.int .i64))), [.slot 7], false⟩], []⟩)]
  keepX := [(0, .exit 0, ⟨[7], [], [⟨1500100, 150, (.pair (.int .i64) (.pair (.int .i64) (.int .i64))), [.slot 7], false⟩], []⟩)]
  ro := [true]
  dw := []

set_option maxRecDepth 100000 in
theorem zone_Table_Pieces_ok : Con.OK Try.prog zone_Table_Pieces_con :=
  con_of tabOk mixedOk zone_Table_Pieces_d zone_Table_Pieces_con Try.f105 (Try.f105.body.getD .skip) Try.func105 (by kernel_rfl) (by kernel_rfl) (Nat.le_of_ble_eq_true (by kernel_rfl)) (by kernel_rfl) (And.intro zone_Table_after_ok (And.intro zone_Table_before_ok trivial)) (by kernel_rfl) (by kernel_rfl)
    (And.intro (fun h => by kernel_rfl) trivial)
    (fun h => by kernel_rfl)

noncomputable def zone_seconds_con : Con := ⟨106, [.v (.pair (.int .i64) (.int .i64))], [(.pair (.int .i64) (.int .i64))], ⟨[.v (.int .i64)], []⟩, [(.int .i64)], fun h => Pw.zone_seconds h⟩

noncomputable def zone_seconds_d : FnD where
  N := 11
  np := 1
  cs := []
  ds := []
  modes := []
  keep := []
  keepX := []
  ro := [false]
  dw := []

set_option maxRecDepth 100000 in
theorem zone_seconds_ok : Con.OK Try.prog zone_seconds_con :=
  con_of tabOk mixedOk zone_seconds_d zone_seconds_con Try.f106 (Try.f106.body.getD .skip) Try.func106 (by kernel_rfl) (by kernel_rfl) (Nat.le_of_ble_eq_true (by kernel_rfl)) (by kernel_rfl) trivial (by kernel_rfl) (by kernel_rfl)
    trivial
    (fun h => by kernel_rfl)

noncomputable def zone_Table_All_con : Con := ⟨74, [.v (.pair (.int .i64) (.list (.pair (.int .i64) (.int .i64)))), .v (.pair (.int .i64) (.int .i64))], [(.pair (.int .i64) (.list (.pair (.int .i64) (.int .i64)))), (.pair (.int .i64) (.int .i64))], ⟨[.own 3 (.list (.int .i64))], []⟩, [(.list (.int .i64))], fun h => Pw.zone_Table_All h.1 h.2⟩

noncomputable def zone_Table_All_d : FnD where
  N := 37
  np := 2
  cs := [zone_Table_Pieces_con, zone_seconds_con]
  ds := [⟨0, [.s (.one (.bp 192 0)), .s (.one (.ol 1000000)), .s (.one (.ol 1000001)), .s (.one (.d (.int .i64))), .s (.one (.d (.int .i64))), .b (.cell [.d (.int .i64), .d (.int .i64)] false), .b (.lst 3 (.int .i64) false), .b (.lst 150 (.pair (.int .i64) (.pair (.int .i64) (.int .i64))) false)], [(.int .i64), (.int .i64), (.int .i64), (.int .i64), (.list (.int .i64)), (.list (.pair (.int .i64) (.pair (.int .i64) (.int .i64))))], [⟨.exit 0, [.s (.one (.ol 1500100)), .b (.lst 3 (.int .i64) false)], [(.list (.int .i64))]⟩], fun h => Pw.zone_Table_All_l0_step h.1 h.2.1 h.2.2.1 h.2.2.2.1 h.2.2.2.2.1 h.2.2.2.2.2⟩]
  modes := [(105, [false, false, false]), (106, [false])]
  keep := [(0, ⟨[3, 5, 10, 11, 12], [192], [⟨1000000, 3, (.int .i64), [.slot 5], false⟩, ⟨1000001, 150, (.pair (.int .i64) (.pair (.int .i64) (.int .i64))), [.slot 10], false⟩], []⟩)]
  keepX := [(0, .exit 0, ⟨[5], [], [⟨1500100, 3, (.int .i64), [.slot 5], false⟩], []⟩)]
  ro := [true]
  dw := []

set_option maxRecDepth 100000 in
theorem zone_Table_All_ok : Con.OK Try.prog zone_Table_All_con :=
  con_of tabOk mixedOk zone_Table_All_d zone_Table_All_con Try.f74 (Try.f74.body.getD .skip) Try.func74 (by kernel_rfl) (by kernel_rfl) (Nat.le_of_ble_eq_true (by kernel_rfl)) (by kernel_rfl) (And.intro zone_Table_Pieces_ok (And.intro zone_seconds_ok trivial)) (by kernel_rfl) (by kernel_rfl)
    (And.intro (fun h => by kernel_rfl) trivial)
    (fun h => by kernel_rfl)

noncomputable def zone_FromLocal_con : Con := ⟨24, [.v (.pair .str (.pair (.int .i64) (.list (.pair (.int .i64) (.pair (.int .i64) (.pair (.int .i64) (.pair (.int .i64) (.pair (.int .i64) (.pair (.int .i64) (.int .i64)))))))))), .v (.pair (.int .i64) (.int .i64))], [(.pair .str (.pair (.int .i64) (.list (.pair (.int .i64) (.pair (.int .i64) (.pair (.int .i64) (.pair (.int .i64) (.pair (.int .i64) (.pair (.int .i64) (.int .i64)))))))))), (.pair (.int .i64) (.int .i64))], ⟨[.own 3 (.list (.int .i64)), .v (.int .i64)], []⟩, [(.list (.int .i64)), (.int .i64)], fun h => Pw.zone_FromLocal h.1 h.2⟩

noncomputable def zone_FromLocal_d : FnD where
  N := 20
  np := 2
  cs := [zone_civilTime_con, zone_Table_All_con]
  ds := []
  modes := [(73, [false, false]), (74, [false, false])]
  keep := []
  keepX := []
  ro := [true, false]
  dw := []

set_option maxRecDepth 100000 in
theorem zone_FromLocal_ok : Con.OK Try.prog zone_FromLocal_con :=
  con_of tabOk mixedOk zone_FromLocal_d zone_FromLocal_con Try.f24 (Try.f24.body.getD .skip) Try.func24 (by kernel_rfl) (by kernel_rfl) (Nat.le_of_ble_eq_true (by kernel_rfl)) (by kernel_rfl) (And.intro zone_civilTime_ok (And.intro zone_Table_All_ok trivial)) (by kernel_rfl) (by kernel_rfl)
    trivial
    (fun h => by kernel_rfl)

noncomputable def zone_Table_First_con : Con := ⟨75, [.v (.pair (.int .i64) (.list (.pair (.int .i64) (.int .i64)))), .v (.pair (.int .i64) (.int .i64))], [(.pair (.int .i64) (.list (.pair (.int .i64) (.int .i64)))), (.pair (.int .i64) (.int .i64))], ⟨[.v (.int .i64), .v .bool], []⟩, [(.int .i64), .bool], fun h => Pw.zone_Table_First h.1 h.2⟩

noncomputable def zone_Table_First_d : FnD where
  N := 30
  np := 2
  cs := [zone_Table_Pieces_con, zone_seconds_con]
  ds := [⟨0, [.s (.one (.bp 192 0)), .s (.one (.ol 1000000)), .s (.one (.d (.int .i64))), .s (.one (.d (.int .i64))), .b (.cell [.d (.int .i64), .d (.int .i64)] false), .b (.lst 150 (.pair (.int .i64) (.pair (.int .i64) (.int .i64))) false)], [(.int .i64), (.int .i64), (.int .i64), (.int .i64), (.list (.pair (.int .i64) (.pair (.int .i64) (.int .i64))))], [⟨.ret, [.s (.one (.d (.int .i64))), .s (.one (.d .bool))], [(.int .i64), .bool]⟩, ⟨.exit 0, [], []⟩], fun h => Pw.zone_Table_First_l0_step h.1 h.2.1 h.2.2.1 h.2.2.2.1 h.2.2.2.2⟩]
  modes := [(105, [false, false, false]), (106, [false])]
  keep := [(0, ⟨[3, 10, 11, 12], [192], [⟨1000000, 150, (.pair (.int .i64) (.pair (.int .i64) (.int .i64))), [.slot 10], false⟩], []⟩)]
  keepX := [(0, .ret, ⟨[4, 5], [], [], []⟩),
    (0, .exit 0, ⟨[], [], [], []⟩)]
  ro := [false, false]
  dw := []

set_option maxRecDepth 100000 in
theorem zone_Table_First_ok : Con.OK Try.prog zone_Table_First_con :=
  con_of tabOk mixedOk zone_Table_First_d zone_Table_First_con Try.f75 (Try.f75.body.getD .skip) Try.func75 (by kernel_rfl) (by kernel_rfl) (Nat.le_of_ble_eq_true (by kernel_rfl)) (by kernel_rfl) (And.intro zone_Table_Pieces_ok (And.intro zone_seconds_ok trivial)) (by kernel_rfl) (by kernel_rfl)
    (And.intro (fun h => by kernel_rfl) trivial)
    (fun h => by kernel_rfl)

noncomputable def zone_First_con : Con := ⟨25, [.v (.pair .str (.pair (.int .i64) (.list (.pair (.int .i64) (.pair (.int .i64) (.pair (.int .i64) (.pair (.int .i64) (.pair (.int .i64) (.pair (.int .i64) (.int .i64)))))))))), .v (.pair (.int .i64) (.int .i64))], [(.pair .str (.pair (.int .i64) (.list (.pair (.int .i64) (.pair (.int .i64) (.pair (.int .i64) (.pair (.int .i64) (.pair (.int .i64) (.pair (.int .i64) (.int .i64)))))))))), (.pair (.int .i64) (.int .i64))], ⟨[.v (.int .i64), .v (.int .i64)], []⟩, [(.int .i64), (.int .i64)], fun h => Pw.zone_First h.1 h.2⟩

noncomputable def zone_First_d : FnD where
  N := 28
  np := 2
  cs := [zone_civilTime_con, zone_Table_First_con]
  ds := []
  modes := [(73, [false, false]), (75, [false, false])]
  keep := []
  keepX := []
  ro := [false, false]
  dw := []

set_option maxRecDepth 100000 in
theorem zone_First_ok : Con.OK Try.prog zone_First_con :=
  con_of tabOk mixedOk zone_First_d zone_First_con Try.f25 (Try.f25.body.getD .skip) Try.func25 (by kernel_rfl) (by kernel_rfl) (Nat.le_of_ble_eq_true (by kernel_rfl)) (by kernel_rfl) (And.intro zone_civilTime_ok (And.intro zone_Table_First_ok trivial)) (by kernel_rfl) (by kernel_rfl)
    trivial
    (fun h => by kernel_rfl)

noncomputable def zone_open_con : Con := ⟨71, [.v (.pair .str (.pair (.int .i64) (.list (.pair (.int .i64) (.pair (.int .i64) (.pair (.int .i64) (.pair (.int .i64) (.pair (.int .i64) (.pair (.int .i64) (.int .i64)))))))))), .v (.int .i64)], [(.pair .str (.pair (.int .i64) (.list (.pair (.int .i64) (.pair (.int .i64) (.pair (.int .i64) (.pair (.int .i64) (.pair (.int .i64) (.pair (.int .i64) (.int .i64)))))))))), (.int .i64)], ⟨[.v (.pair (.int .i64) (.list (.pair (.int .i64) (.int .i64)))), .v (.int .i64)], []⟩, [(.pair (.int .i64) (.list (.pair (.int .i64) (.int .i64)))), (.int .i64)], fun h => Pw.zone_open h.1 h.2⟩

noncomputable def zone_open_d : FnD where
  N := 23
  np := 2
  cs := [zone_in_con, zone_Of_con]
  ds := []
  modes := [(80, [false, false, false]), (85, [false])]
  keep := []
  keepX := []
  ro := [false, false]
  dw := []

set_option maxRecDepth 100000 in
theorem zone_open_ok : Con.OK Try.prog zone_open_con :=
  con_of tabOk mixedOk zone_open_d zone_open_con Try.f71 (Try.f71.body.getD .skip) Try.func71 (by kernel_rfl) (by kernel_rfl) (Nat.le_of_ble_eq_true (by kernel_rfl)) (by kernel_rfl) (And.intro zone_in_ok (And.intro zone_Of_ok trivial)) (by kernel_rfl) (by kernel_rfl)
    trivial
    (fun h => by kernel_rfl)

noncomputable def zone_Table_Offset_con : Con := ⟨81, [.v (.pair (.int .i64) (.list (.pair (.int .i64) (.int .i64)))), .v (.int .i64)], [(.pair (.int .i64) (.list (.pair (.int .i64) (.int .i64)))), (.int .i64)], ⟨[.v (.int .i64)], []⟩, [(.int .i64)], fun h => Pw.zone_Table_Offset h.1 h.2⟩

noncomputable def zone_Table_Offset_d : FnD where
  N := 10
  np := 2
  cs := [zone_Table_after_con, zone_Table_before_con]
  ds := []
  modes := [(112, [false, false]), (113, [false, false])]
  keep := []
  keepX := []
  ro := [false]
  dw := []

set_option maxRecDepth 100000 in
theorem zone_Table_Offset_ok : Con.OK Try.prog zone_Table_Offset_con :=
  con_of tabOk mixedOk zone_Table_Offset_d zone_Table_Offset_con Try.f81 (Try.f81.body.getD .skip) Try.func81 (by kernel_rfl) (by kernel_rfl) (Nat.le_of_ble_eq_true (by kernel_rfl)) (by kernel_rfl) (And.intro zone_Table_after_ok (And.intro zone_Table_before_ok trivial)) (by kernel_rfl) (by kernel_rfl)
    trivial
    (fun h => by kernel_rfl)

noncomputable def zone_local_con : Con := ⟨104, [.v (.int .i64)], [(.int .i64)], ⟨[.v (.pair (.int .i64) (.int .i64))], []⟩, [(.pair (.int .i64) (.int .i64))], fun h => Pw.zone_local h⟩

noncomputable def zone_local_d : FnD where
  N := 17
  np := 1
  cs := []
  ds := []
  modes := []
  keep := []
  keepX := []
  ro := [false]
  dw := []

set_option maxRecDepth 100000 in
theorem zone_local_ok : Con.OK Try.prog zone_local_con :=
  con_of tabOk mixedOk zone_local_d zone_local_con Try.f104 (Try.f104.body.getD .skip) Try.func104 (by kernel_rfl) (by kernel_rfl) (Nat.le_of_ble_eq_true (by kernel_rfl)) (by kernel_rfl) trivial (by kernel_rfl) (by kernel_rfl)
    trivial
    (fun h => by kernel_rfl)

noncomputable def zone_Table_Local_con : Con := ⟨72, [.v (.pair (.int .i64) (.list (.pair (.int .i64) (.int .i64)))), .v (.int .i64)], [(.pair (.int .i64) (.list (.pair (.int .i64) (.int .i64)))), (.int .i64)], ⟨[.v (.pair (.int .i64) (.int .i64))], []⟩, [(.pair (.int .i64) (.int .i64))], fun h => Pw.zone_Table_Local h.1 h.2⟩

noncomputable def zone_Table_Local_d : FnD where
  N := 11
  np := 2
  cs := [zone_Table_Offset_con, zone_local_con]
  ds := []
  modes := [(81, [false, false]), (104, [false])]
  keep := []
  keepX := []
  ro := [false]
  dw := []

set_option maxRecDepth 100000 in
theorem zone_Table_Local_ok : Con.OK Try.prog zone_Table_Local_con :=
  con_of tabOk mixedOk zone_Table_Local_d zone_Table_Local_con Try.f72 (Try.f72.body.getD .skip) Try.func72 (by kernel_rfl) (by kernel_rfl) (Nat.le_of_ble_eq_true (by kernel_rfl)) (by kernel_rfl) (And.intro zone_Table_Offset_ok (And.intro zone_local_ok trivial)) (by kernel_rfl) (by kernel_rfl)
    trivial
    (fun h => by kernel_rfl)

noncomputable def zone_ToLocal_con : Con := ⟨23, [.v (.pair .str (.pair (.int .i64) (.list (.pair (.int .i64) (.pair (.int .i64) (.pair (.int .i64) (.pair (.int .i64) (.pair (.int .i64) (.pair (.int .i64) (.int .i64)))))))))), .v (.int .i64)], [(.pair .str (.pair (.int .i64) (.list (.pair (.int .i64) (.pair (.int .i64) (.pair (.int .i64) (.pair (.int .i64) (.pair (.int .i64) (.pair (.int .i64) (.int .i64)))))))))), (.int .i64)], ⟨[.v (.pair (.int .i64) (.int .i64)), .v (.int .i64)], []⟩, [(.pair (.int .i64) (.int .i64)), (.int .i64)], fun h => Pw.zone_ToLocal h.1 h.2⟩

noncomputable def zone_ToLocal_d : FnD where
  N := 21
  np := 2
  cs := [zone_open_con, zone_Table_Local_con]
  ds := []
  modes := [(71, [false, false]), (72, [false, false])]
  keep := []
  keepX := []
  ro := [false, false]
  dw := []

set_option maxRecDepth 100000 in
theorem zone_ToLocal_ok : Con.OK Try.prog zone_ToLocal_con :=
  con_of tabOk mixedOk zone_ToLocal_d zone_ToLocal_con Try.f23 (Try.f23.body.getD .skip) Try.func23 (by kernel_rfl) (by kernel_rfl) (Nat.le_of_ble_eq_true (by kernel_rfl)) (by kernel_rfl) (And.intro zone_open_ok (And.intro zone_Table_Local_ok trivial)) (by kernel_rfl) (by kernel_rfl)
    trivial
    (fun h => by kernel_rfl)

noncomputable def law04_sane_con : Con := ⟨19, [], [], ⟨[.v .bool], []⟩, [.bool], fun h => Pw.law04_sane⟩

noncomputable def law04_sane_d : FnD where
  N := 80
  np := 0
  cs := [law04_example_con, zone_FromLocal_con, zone_First_con, zone_ToLocal_con]
  ds := []
  modes := [(23, [false, false]), (24, [false, false]), (25, [false, false]), (40, [])]
  keep := []
  keepX := []
  ro := [false]
  dw := []

set_option maxRecDepth 100000 in
theorem law04_sane_ok : Con.OK Try.prog law04_sane_con :=
  con_of tabOk mixedOk law04_sane_d law04_sane_con Try.f19 (Try.f19.body.getD .skip) Try.func19 (by kernel_rfl) (by kernel_rfl) (Nat.le_of_ble_eq_true (by kernel_rfl)) (by kernel_rfl) (And.intro law04_example_ok (And.intro zone_FromLocal_ok (And.intro zone_First_ok (And.intro zone_ToLocal_ok trivial)))) (by kernel_rfl) (by kernel_rfl)
    trivial
    (fun h => by kernel_rfl)

noncomputable def made_Roll_con : Con := ⟨20, [.v (.list (.int .i64))], [(.list (.int .i64))], ⟨[.box [(.list (.int .i64)), (.int .i64)]], []⟩, [(.list (.int .i64)), (.int .i64)], fun h => Pw.made_Roll h⟩

noncomputable def made_Roll_d : FnD where
  N := 6
  np := 1
  cs := []
  ds := []
  modes := []
  keep := []
  keepX := []
  ro := [false]
  dw := []

set_option maxRecDepth 100000 in
theorem made_Roll_ok : Con.OK Try.prog made_Roll_con :=
  con_of tabOk mixedOk made_Roll_d made_Roll_con Try.f20 (Try.f20.body.getD .skip) Try.func20 (by kernel_rfl) (by kernel_rfl) (Nat.le_of_ble_eq_true (by kernel_rfl)) (by kernel_rfl) trivial (by kernel_rfl) (by kernel_rfl)
    trivial
    (fun h => by kernel_rfl)
end Go.Proofs.Pk
