/- Contracts: each given function is its plain function, printed by a program. -/
import Derived.Test.YtielflihgdebiaaTab
open Go Go.Lft
set_option linter.unusedVariables false
namespace Go.Proofs.Pk

noncomputable def law04_example_con : Con := ⟨10, [], [], ⟨[.v (.pair .str (.pair (.int .i64) (.list (.pair (.int .i64) (.pair (.int .i64) (.pair (.int .i64) (.pair (.int .i64) (.pair (.int .i64) (.pair (.int .i64) (.int .i64))))))))))], []⟩, [(.pair .str (.pair (.int .i64) (.list (.pair (.int .i64) (.pair (.int .i64) (.pair (.int .i64) (.pair (.int .i64) (.pair (.int .i64) (.pair (.int .i64) (.int .i64))))))))))], fun h => Pw.law04_example⟩

noncomputable def law04_example_d : FnD where
  N := 5
  np := 0
  cs := []
  ds := []
  modes := []
  keep := []
  keepX := []
  ro := [false]
  dw := []

set_option maxRecDepth 100000 in
theorem law04_example_ok : Con.OK Try.prog law04_example_con :=
  con_of tabOk mixedOk law04_example_d law04_example_con Try.f10 (Try.f10.body.getD .skip) Try.func10 (by kernel_rfl) (by kernel_rfl) (Nat.le_of_ble_eq_true (by kernel_rfl)) (by kernel_rfl) trivial (by kernel_rfl) (by kernel_rfl)
    trivial
    (fun h => by kernel_rfl)

noncomputable def zone_in_con : Con := ⟨48, [.v (.int .i64), .v (.int .i64), .v (.int .i64)], [(.int .i64), (.int .i64), (.int .i64)], ⟨[.v .bool], []⟩, [.bool], fun h => Pw.zone_in h.1 h.2.1 h.2.2⟩

noncomputable def zone_in_d : FnD where
  N := 15
  np := 3
  cs := []
  ds := []
  modes := []
  keep := []
  keepX := []
  ro := [false]
  dw := []

set_option maxRecDepth 100000 in
theorem zone_in_ok : Con.OK Try.prog zone_in_con :=
  con_of tabOk mixedOk zone_in_d zone_in_con Try.f48 (Try.f48.body.getD .skip) Try.func48 (by kernel_rfl) (by kernel_rfl) (Nat.le_of_ble_eq_true (by kernel_rfl)) (by kernel_rfl) trivial (by kernel_rfl) (by kernel_rfl)
    trivial
    (fun h => by kernel_rfl)

noncomputable def zone_rule_con : Con := ⟨73, [.v (.pair (.int .i64) (.pair (.int .i64) (.pair (.int .i64) (.pair (.int .i64) (.pair (.int .i64) (.pair (.int .i64) (.int .i64)))))))], [(.pair (.int .i64) (.pair (.int .i64) (.pair (.int .i64) (.pair (.int .i64) (.pair (.int .i64) (.pair (.int .i64) (.int .i64)))))))], ⟨[.v (.int .i64)], []⟩, [(.int .i64)], fun h => Pw.zone_rule h⟩

noncomputable def zone_rule_d : FnD where
  N := 45
  np := 1
  cs := [zone_in_con]
  ds := []
  modes := [(48, [false, false, false])]
  keep := []
  keepX := []
  ro := [false]
  dw := []

set_option maxRecDepth 100000 in
theorem zone_rule_ok : Con.OK Try.prog zone_rule_con :=
  con_of tabOk mixedOk zone_rule_d zone_rule_con Try.f73 (Try.f73.body.getD .skip) Try.func73 (by kernel_rfl) (by kernel_rfl) (Nat.le_of_ble_eq_true (by kernel_rfl)) (by kernel_rfl) (And.intro zone_in_ok trivial) (by kernel_rfl) (by kernel_rfl)
    trivial
    (fun h => by kernel_rfl)

noncomputable def civil_Leap_con : Con := ⟨96, [.v (.int .i64)], [(.int .i64)], ⟨[.v .bool], []⟩, [.bool], fun h => Pw.civil_Leap h⟩

noncomputable def civil_Leap_d : FnD where
  N := 16
  np := 1
  cs := []
  ds := []
  modes := []
  keep := []
  keepX := []
  ro := [false]
  dw := []

set_option maxRecDepth 100000 in
theorem civil_Leap_ok : Con.OK Try.prog civil_Leap_con :=
  con_of tabOk mixedOk civil_Leap_d civil_Leap_con Try.f96 (Try.f96.body.getD .skip) Try.func96 (by kernel_rfl) (by kernel_rfl) (Nat.le_of_ble_eq_true (by kernel_rfl)) (by kernel_rfl) trivial (by kernel_rfl) (by kernel_rfl)
    trivial
    (fun h => by kernel_rfl)

noncomputable def civil_Days_con : Con := ⟨88, [.v (.int .i64), .v (.int .i64)], [(.int .i64), (.int .i64)], ⟨[.v (.int .i64)], []⟩, [(.int .i64)], fun h => Pw.civil_Days h.1 h.2⟩

noncomputable def civil_Days_d : FnD where
  N := 24
  np := 2
  cs := [civil_Leap_con]
  ds := []
  modes := [(96, [false])]
  keep := []
  keepX := []
  ro := [false]
  dw := []

set_option maxRecDepth 100000 in
theorem civil_Days_ok : Con.OK Try.prog civil_Days_con :=
  con_of tabOk mixedOk civil_Days_d civil_Days_con Try.f88 (Try.f88.body.getD .skip) Try.func88 (by kernel_rfl) (by kernel_rfl) (Nat.le_of_ble_eq_true (by kernel_rfl)) (by kernel_rfl) (And.intro civil_Leap_ok trivial) (by kernel_rfl) (by kernel_rfl)
    trivial
    (fun h => by kernel_rfl)

noncomputable def civil_Valid_con : Con := ⟨85, [.v (.pair (.int .i64) (.pair (.int .i64) (.int .i64)))], [(.pair (.int .i64) (.pair (.int .i64) (.int .i64)))], ⟨[.v .bool], []⟩, [.bool], fun h => Pw.civil_Valid h⟩

noncomputable def civil_Valid_d : FnD where
  N := 26
  np := 1
  cs := [civil_Days_con]
  ds := []
  modes := [(88, [false, false])]
  keep := []
  keepX := []
  ro := [false]
  dw := []

set_option maxRecDepth 100000 in
theorem civil_Valid_ok : Con.OK Try.prog civil_Valid_con :=
  con_of tabOk mixedOk civil_Valid_d civil_Valid_con Try.f85 (Try.f85.body.getD .skip) Try.func85 (by kernel_rfl) (by kernel_rfl) (Nat.le_of_ble_eq_true (by kernel_rfl)) (by kernel_rfl) (And.intro civil_Days_ok trivial) (by kernel_rfl) (by kernel_rfl)
    trivial
    (fun h => by kernel_rfl)

noncomputable def civil_floor_con : Con := ⟨102, [.v (.int .i64), .v (.int .i64)], [(.int .i64), (.int .i64)], ⟨[.v (.int .i64)], []⟩, [(.int .i64)], fun h => Pw.civil_floor h.1 h.2⟩

noncomputable def civil_floor_d : FnD where
  N := 16
  np := 2
  cs := []
  ds := []
  modes := []
  keep := []
  keepX := []
  ro := [false]
  dw := []

set_option maxRecDepth 100000 in
theorem civil_floor_ok : Con.OK Try.prog civil_floor_con :=
  con_of tabOk mixedOk civil_floor_d civil_floor_con Try.f102 (Try.f102.body.getD .skip) Try.func102 (by kernel_rfl) (by kernel_rfl) (Nat.le_of_ble_eq_true (by kernel_rfl)) (by kernel_rfl) trivial (by kernel_rfl) (by kernel_rfl)
    trivial
    (fun h => by kernel_rfl)

noncomputable def civil_count_con : Con := ⟨95, [.v (.int .i64)], [(.int .i64)], ⟨[.v (.int .i64)], []⟩, [(.int .i64)], fun h => Pw.civil_count h⟩

noncomputable def civil_count_d : FnD where
  N := 19
  np := 1
  cs := [civil_floor_con]
  ds := []
  modes := [(102, [false, false])]
  keep := []
  keepX := []
  ro := [false]
  dw := []

set_option maxRecDepth 100000 in
theorem civil_count_ok : Con.OK Try.prog civil_count_con :=
  con_of tabOk mixedOk civil_count_d civil_count_con Try.f95 (Try.f95.body.getD .skip) Try.func95 (by kernel_rfl) (by kernel_rfl) (Nat.le_of_ble_eq_true (by kernel_rfl)) (by kernel_rfl) (And.intro civil_floor_ok trivial) (by kernel_rfl) (by kernel_rfl)
    trivial
    (fun h => by kernel_rfl)

noncomputable def civil_number_con : Con := ⟨86, [.v (.pair (.int .i64) (.pair (.int .i64) (.int .i64)))], [(.pair (.int .i64) (.pair (.int .i64) (.int .i64)))], ⟨[.v (.int .i64)], []⟩, [(.int .i64)], fun h => Pw.civil_number h⟩

noncomputable def civil_number_d : FnD where
  N := 25
  np := 1
  cs := [civil_Days_con, civil_count_con]
  ds := [⟨0, [.s (.one (.bp 64 0)), .s (.one (.d (.int .i64))), .s (.one (.d (.int .i64))), .b (.cell [.d (.int .i64), .d (.int .i64), .d (.int .i64)] false)], [(.int .i64), (.int .i64), (.int .i64), (.int .i64), (.int .i64)], [⟨.exit 0, [.s (.one (.d (.int .i64)))], [(.int .i64)]⟩], fun h => Pw.civil_number_l0_step h.1 h.2.1 h.2.2.1 h.2.2.2.1 h.2.2.2.2⟩]
  modes := [(88, [false, false]), (95, [false])]
  keep := [(0, ⟨[1, 3, 4], [64], [], []⟩)]
  keepX := [(0, .exit 0, ⟨[3], [], [], []⟩)]
  ro := [false]
  dw := []

set_option maxRecDepth 100000 in
theorem civil_number_ok : Con.OK Try.prog civil_number_con :=
  con_of tabOk mixedOk civil_number_d civil_number_con Try.f86 (Try.f86.body.getD .skip) Try.func86 (by kernel_rfl) (by kernel_rfl) (Nat.le_of_ble_eq_true (by kernel_rfl)) (by kernel_rfl) (And.intro civil_Days_ok (And.intro civil_count_ok trivial)) (by kernel_rfl) (by kernel_rfl)
    (And.intro (fun h => by kernel_rfl) trivial)
    (fun h => by kernel_rfl)

noncomputable def civil_Weekday_con : Con := ⟨87, [.v (.int .i64)], [(.int .i64)], ⟨[.v (.int .i64)], []⟩, [(.int .i64)], fun h => Pw.civil_Weekday h⟩

noncomputable def civil_Weekday_d : FnD where
  N := 7
  np := 1
  cs := []
  ds := []
  modes := []
  keep := []
  keepX := []
  ro := [false]
  dw := []

set_option maxRecDepth 100000 in
theorem civil_Weekday_ok : Con.OK Try.prog civil_Weekday_con :=
  con_of tabOk mixedOk civil_Weekday_d civil_Weekday_con Try.f87 (Try.f87.body.getD .skip) Try.func87 (by kernel_rfl) (by kernel_rfl) (Nat.le_of_ble_eq_true (by kernel_rfl)) (by kernel_rfl) trivial (by kernel_rfl) (by kernel_rfl)
    trivial
    (fun h => by kernel_rfl)

noncomputable def civil_Nth_con : Con := ⟨74, [.v (.int .i64), .v (.int .i64), .v (.int .i64), .v (.int .i64)], [(.int .i64), (.int .i64), (.int .i64), (.int .i64)], ⟨[.v (.int .i64), .v (.int .i64)], []⟩, [(.int .i64), (.int .i64)], fun h => Pw.civil_Nth h.1 h.2.1 h.2.2.1 h.2.2.2⟩

noncomputable def civil_Nth_d : FnD where
  N := 59
  np := 4
  cs := [civil_Days_con, civil_Valid_con, civil_number_con, civil_Weekday_con]
  ds := []
  modes := [(85, [false]), (86, [false]), (87, [false]), (88, [false, false])]
  keep := []
  keepX := []
  ro := [false, false]
  dw := []

set_option maxRecDepth 100000 in
theorem civil_Nth_ok : Con.OK Try.prog civil_Nth_con :=
  con_of tabOk mixedOk civil_Nth_d civil_Nth_con Try.f74 (Try.f74.body.getD .skip) Try.func74 (by kernel_rfl) (by kernel_rfl) (Nat.le_of_ble_eq_true (by kernel_rfl)) (by kernel_rfl) (And.intro civil_Days_ok (And.intro civil_Valid_ok (And.intro civil_number_ok (And.intro civil_Weekday_ok trivial)))) (by kernel_rfl) (by kernel_rfl)
    trivial
    (fun h => by kernel_rfl)

noncomputable def zone_occurrences_c1_con : Con := ⟨76, [.v (.pair (.int .i64) (.int .i64)), .v (.pair (.int .i64) (.int .i64))], [(.pair (.int .i64) (.int .i64)), (.pair (.int .i64) (.int .i64))], ⟨[.v (.int .i64)], []⟩, [(.int .i64)], fun h => Pw.zone_occurrences_c1 h.1 h.2⟩

noncomputable def zone_occurrences_c1_d : FnD where
  N := 10
  np := 2
  cs := []
  ds := []
  modes := []
  keep := []
  keepX := []
  ro := [false]
  dw := []

set_option maxRecDepth 100000 in
theorem zone_occurrences_c1_ok : Con.OK Try.prog zone_occurrences_c1_con :=
  con_of tabOk mixedOk zone_occurrences_c1_d zone_occurrences_c1_con Try.f76 (Try.f76.body.getD .skip) Try.func76 (by kernel_rfl) (by kernel_rfl) (Nat.le_of_ble_eq_true (by kernel_rfl)) (by kernel_rfl) trivial (by kernel_rfl) (by kernel_rfl)
    trivial
    (fun h => by kernel_rfl)

noncomputable def slices_insertionSortCmpFunc_zone_occurrence_con : Con := ⟨97, [.rl 90 (.list (.pair (.int .i64) (.int .i64))), .v (.int .i64), .v (.int .i64), .clo 76 []], [(.list (.pair (.int .i64) (.int .i64))), (.int .i64), (.int .i64)], ⟨[], [.rl (.list (.pair (.int .i64) (.int .i64)))]⟩, [(.list (.pair (.int .i64) (.int .i64)))], fun h => Pw.slices_insertionSortCmpFunc_zone_occurrence h.1 h.2.1 h.2.2⟩

noncomputable def slices_insertionSortCmpFunc_zone_occurrence_d : FnD where
  N := 53
  np := 4
  cs := [zone_occurrences_c1_con]
  ds := [⟨0, [.s (.one (.ol 0)), .s (.one (.d (.int .i64))), .s (.one (.d (.int .i64))), .s (.one (.clo 76 [])), .s (.one (.d (.int .i64))), .b (.lst 90 (.pair (.int .i64) (.int .i64)) false)], [(.int .i64), (.int .i64), (.int .i64), (.list (.pair (.int .i64) (.int .i64)))], [⟨.exit 0, [.b (.lst 90 (.pair (.int .i64) (.int .i64)) false)], [(.list (.pair (.int .i64) (.int .i64)))]⟩], fun h => Pw.slices_insertionSortCmpFunc_zone_occurrence_l0_step h.1 h.2.1 h.2.2.1 h.2.2.2⟩,
    ⟨2, [.s (.one (.ol 0)), .s (.one (.d (.int .i64))), .s (.one (.d (.int .i64))), .s (.one (.clo 76 [])), .s (.one (.d (.int .i64))), .s (.one (.d (.int .i64))), .b (.lst 90 (.pair (.int .i64) (.int .i64)) false)], [(.int .i64), (.int .i64), (.int .i64), (.int .i64), (.list (.pair (.int .i64) (.int .i64)))], [⟨.exit 2, [.s (.one (.ol 0)), .s (.one (.d (.int .i64))), .s (.one (.d (.int .i64))), .s (.one (.clo 76 [])), .s (.one (.d (.int .i64))), .b (.lst 90 (.pair (.int .i64) (.int .i64)) false)], [(.int .i64), (.int .i64), (.int .i64), (.list (.pair (.int .i64) (.int .i64)))]⟩], fun h => Pw.slices_insertionSortCmpFunc_zone_occurrence_l2_step h.1 h.2.1 h.2.2.1 h.2.2.2.1 h.2.2.2.2⟩]
  modes := [(76, [false, false])]
  keep := [(0, ⟨[0, 1, 2, 3, 8], [0], [], []⟩),
    (2, ⟨[0, 1, 2, 3, 8, 9], [0], [], []⟩)]
  keepX := [(0, .exit 0, ⟨[], [0], [], []⟩),
    (2, .exit 2, ⟨[0, 1, 2, 3, 8], [0], [], []⟩)]
  ro := []
  dw := [(6, [[], [], [], [], [], [], [], [], [], [], [], [], [], [], [], [0], [], [0]])]

set_option maxRecDepth 100000 in
theorem slices_insertionSortCmpFunc_zone_occurrence_ok : Con.OK Try.prog slices_insertionSortCmpFunc_zone_occurrence_con :=
  con_of tabOk mixedOk slices_insertionSortCmpFunc_zone_occurrence_d slices_insertionSortCmpFunc_zone_occurrence_con Try.f97 (Try.f97.body.getD .skip) Try.func97 (by kernel_rfl) (by kernel_rfl) (Nat.le_of_ble_eq_true (by kernel_rfl)) (by kernel_rfl) (And.intro zone_occurrences_c1_ok trivial) (by kernel_rfl) (by kernel_rfl)
    (And.intro (fun h => by kernel_rfl) (And.intro (fun h => by kernel_rfl) trivial))
    (fun h => by kernel_rfl)

noncomputable def slices_swapRangeCmpFunc_zone_occurrence_con : Con := ⟨104, [.rl 90 (.list (.pair (.int .i64) (.int .i64))), .v (.int .i64), .v (.int .i64), .v (.int .i64), .clo 76 []], [(.list (.pair (.int .i64) (.int .i64))), (.int .i64), (.int .i64), (.int .i64)], ⟨[], [.rl (.list (.pair (.int .i64) (.int .i64)))]⟩, [(.list (.pair (.int .i64) (.int .i64)))], fun h => Pw.slices_swapRangeCmpFunc_zone_occurrence h.1 h.2.1 h.2.2.1 h.2.2.2⟩

noncomputable def slices_swapRangeCmpFunc_zone_occurrence_d : FnD where
  N := 38
  np := 5
  cs := []
  ds := [⟨0, [.s (.one (.ol 0)), .s (.one (.d (.int .i64))), .s (.one (.d (.int .i64))), .s (.one (.d (.int .i64))), .s (.one (.d (.int .i64))), .b (.lst 90 (.pair (.int .i64) (.int .i64)) false)], [(.int .i64), (.int .i64), (.int .i64), (.int .i64), (.list (.pair (.int .i64) (.int .i64)))], [⟨.exit 0, [.b (.lst 90 (.pair (.int .i64) (.int .i64)) false)], [(.list (.pair (.int .i64) (.int .i64)))]⟩], fun h => Pw.slices_swapRangeCmpFunc_zone_occurrence_l0_step h.1 h.2.1 h.2.2.1 h.2.2.2.1 h.2.2.2.2⟩]
  modes := []
  keep := [(0, ⟨[0, 1, 2, 3, 10], [0], [], []⟩)]
  keepX := [(0, .exit 0, ⟨[], [0], [], []⟩)]
  ro := []
  dw := [(3, [[], [], [], [], [], [], [], [], [], [], [], [], [], [], [], [], [], [], [], [], [], [0], [], [0]])]

set_option maxRecDepth 100000 in
theorem slices_swapRangeCmpFunc_zone_occurrence_ok : Con.OK Try.prog slices_swapRangeCmpFunc_zone_occurrence_con :=
  con_of tabOk mixedOk slices_swapRangeCmpFunc_zone_occurrence_d slices_swapRangeCmpFunc_zone_occurrence_con Try.f104 (Try.f104.body.getD .skip) Try.func104 (by kernel_rfl) (by kernel_rfl) (Nat.le_of_ble_eq_true (by kernel_rfl)) (by kernel_rfl) trivial (by kernel_rfl) (by kernel_rfl)
    (And.intro (fun h => by kernel_rfl) trivial)
    (fun h => by kernel_rfl)

noncomputable def slices_rotateCmpFunc_zone_occurrence_con : Con := ⟨103, [.rl 90 (.list (.pair (.int .i64) (.int .i64))), .v (.int .i64), .v (.int .i64), .v (.int .i64), .clo 76 []], [(.list (.pair (.int .i64) (.int .i64))), (.int .i64), (.int .i64), (.int .i64)], ⟨[], [.rl (.list (.pair (.int .i64) (.int .i64)))]⟩, [(.list (.pair (.int .i64) (.int .i64)))], fun h => Pw.slices_rotateCmpFunc_zone_occurrence h.1 h.2.1 h.2.2.1 h.2.2.2⟩

noncomputable def slices_rotateCmpFunc_zone_occurrence_d : FnD where
  N := 58
  np := 5
  cs := [slices_swapRangeCmpFunc_zone_occurrence_con]
  ds := [⟨0, [.s (.one (.ol 0)), .s (.one (.d (.int .i64))), .s (.one (.clo 76 [])), .s (.one (.d (.int .i64))), .s (.one (.d (.int .i64))), .b (.lst 90 (.pair (.int .i64) (.int .i64)) false)], [(.int .i64), (.int .i64), (.int .i64), (.list (.pair (.int .i64) (.int .i64)))], [⟨.exit 0, [.s (.one (.ol 0)), .s (.one (.d (.int .i64))), .s (.one (.clo 76 [])), .s (.one (.d (.int .i64))), .b (.lst 90 (.pair (.int .i64) (.int .i64)) false)], [(.int .i64), (.int .i64), (.list (.pair (.int .i64) (.int .i64)))]⟩], fun h => Pw.slices_rotateCmpFunc_zone_occurrence_l0_step h.1 h.2.1 h.2.2.1 h.2.2.2⟩]
  modes := [(104, [true, false, false, false, false])]
  keep := [(0, ⟨[0, 2, 4, 10, 11], [0], [], []⟩)]
  keepX := [(0, .exit 0, ⟨[0, 2, 4, 10], [0], [], []⟩)]
  ro := []
  dw := []

set_option maxRecDepth 100000 in
theorem slices_rotateCmpFunc_zone_occurrence_ok : Con.OK Try.prog slices_rotateCmpFunc_zone_occurrence_con :=
  con_of tabOk mixedOk slices_rotateCmpFunc_zone_occurrence_d slices_rotateCmpFunc_zone_occurrence_con Try.f103 (Try.f103.body.getD .skip) Try.func103 (by kernel_rfl) (by kernel_rfl) (Nat.le_of_ble_eq_true (by kernel_rfl)) (by kernel_rfl) (And.intro slices_swapRangeCmpFunc_zone_occurrence_ok trivial) (by kernel_rfl) (by kernel_rfl)
    (And.intro (fun h => by kernel_rfl) trivial)
    (fun h => by kernel_rfl)

noncomputable def slices_symMergeCmpFunc_zone_occurrence_con : Con := ⟨98, [.rl 90 (.list (.pair (.int .i64) (.int .i64))), .v (.int .i64), .v (.int .i64), .v (.int .i64), .clo 76 []], [(.list (.pair (.int .i64) (.int .i64))), (.int .i64), (.int .i64), (.int .i64)], ⟨[], [.rl (.list (.pair (.int .i64) (.int .i64)))]⟩, [(.list (.pair (.int .i64) (.int .i64)))], fun h => Pw.slices_symMergeCmpFunc_zone_occurrence h.1 h.2.1 h.2.2.1 h.2.2.2⟩

noncomputable def slices_symMergeCmpFunc_zone_occurrence_conR (g : HL [(.list (.pair (.int .i64) (.int .i64))), (.int .i64), (.int .i64), (.int .i64)] → Option (HL [(.list (.pair (.int .i64) (.int .i64)))])) : Con := ⟨98, [.rl 90 (.list (.pair (.int .i64) (.int .i64))), .v (.int .i64), .v (.int .i64), .v (.int .i64), .clo 76 []], [(.list (.pair (.int .i64) (.int .i64))), (.int .i64), (.int .i64), (.int .i64)], ⟨[], [.rl (.list (.pair (.int .i64) (.int .i64)))]⟩, [(.list (.pair (.int .i64) (.int .i64)))], g⟩

noncomputable def slices_symMergeCmpFunc_zone_occurrence_d (g : HL [(.list (.pair (.int .i64) (.int .i64))), (.int .i64), (.int .i64), (.int .i64)] → Option (HL [(.list (.pair (.int .i64) (.int .i64)))])) : FnD where
  N := 220
  np := 5
  cs := [slices_symMergeCmpFunc_zone_occurrence_conR g, zone_occurrences_c1_con, slices_rotateCmpFunc_zone_occurrence_con]
  ds := [⟨0, [.s (.one (.ol 0)), .s (.one (.d (.int .i64))), .s (.one (.clo 76 [])), .s (.one (.d (.int .i64))), .s (.one (.d (.int .i64))), .b (.lst 90 (.pair (.int .i64) (.int .i64)) false)], [(.int .i64), (.int .i64), (.int .i64), (.list (.pair (.int .i64) (.int .i64)))], [⟨.exit 0, [.s (.one (.ol 0)), .s (.one (.d (.int .i64))), .s (.one (.d (.int .i64))), .b (.lst 90 (.pair (.int .i64) (.int .i64)) false)], [(.int .i64), (.int .i64), (.list (.pair (.int .i64) (.int .i64)))]⟩], fun h => Pw.slices_symMergeCmpFunc_zone_occurrence_l0_step (fun v0 v1 v2 v3 => g (v0, v1, v2, v3)) h.1 h.2.1 h.2.2.1 h.2.2.2⟩,
    ⟨2, [.s (.one (.ol 0)), .s (.one (.d (.int .i64))), .s (.one (.d (.int .i64))), .b (.lst 90 (.pair (.int .i64) (.int .i64)) false)], [(.int .i64), (.int .i64), (.list (.pair (.int .i64) (.int .i64)))], [⟨.exit 2, [.b (.lst 90 (.pair (.int .i64) (.int .i64)) false)], [(.list (.pair (.int .i64) (.int .i64)))]⟩], fun h => Pw.slices_symMergeCmpFunc_zone_occurrence_l2_step (fun v0 v1 v2 v3 => g (v0, v1, v2, v3)) h.1 h.2.1 h.2.2⟩,
    ⟨4, [.s (.one (.ol 0)), .s (.one (.d (.int .i64))), .s (.one (.clo 76 [])), .s (.one (.d (.int .i64))), .s (.one (.d (.int .i64))), .b (.lst 90 (.pair (.int .i64) (.int .i64)) false)], [(.int .i64), (.int .i64), (.int .i64), (.list (.pair (.int .i64) (.int .i64)))], [⟨.exit 4, [.s (.one (.ol 0)), .s (.one (.d (.int .i64))), .s (.one (.d (.int .i64))), .b (.lst 90 (.pair (.int .i64) (.int .i64)) false)], [(.int .i64), (.int .i64), (.list (.pair (.int .i64) (.int .i64)))]⟩], fun h => Pw.slices_symMergeCmpFunc_zone_occurrence_l4_step (fun v0 v1 v2 v3 => g (v0, v1, v2, v3)) h.1 h.2.1 h.2.2.1 h.2.2.2⟩,
    ⟨6, [.s (.one (.ol 0)), .s (.one (.d (.int .i64))), .s (.one (.d (.int .i64))), .b (.lst 90 (.pair (.int .i64) (.int .i64)) false)], [(.int .i64), (.int .i64), (.list (.pair (.int .i64) (.int .i64)))], [⟨.exit 6, [.b (.lst 90 (.pair (.int .i64) (.int .i64)) false)], [(.list (.pair (.int .i64) (.int .i64)))]⟩], fun h => Pw.slices_symMergeCmpFunc_zone_occurrence_l6_step (fun v0 v1 v2 v3 => g (v0, v1, v2, v3)) h.1 h.2.1 h.2.2⟩,
    ⟨8, [.s (.one (.ol 0)), .s (.one (.d (.int .i64))), .s (.one (.d (.int .i64))), .s (.one (.d (.int .i64))), .s (.one (.clo 76 [])), .s (.one (.d (.int .i64))), .s (.one (.d (.int .i64))), .s (.one (.d (.int .i64))), .s (.one (.d (.int .i64))), .s (.one (.d (.int .i64))), .b (.lst 90 (.pair (.int .i64) (.int .i64)) false)], [(.int .i64), (.int .i64), (.int .i64), (.int .i64), (.int .i64), (.int .i64), (.int .i64), (.int .i64), (.list (.pair (.int .i64) (.int .i64)))], [⟨.exit 8, [.s (.one (.ol 0)), .s (.one (.d (.int .i64))), .s (.one (.d (.int .i64))), .s (.one (.d (.int .i64))), .s (.one (.clo 76 [])), .s (.one (.d (.int .i64))), .s (.one (.d (.int .i64))), .s (.one (.d (.int .i64))), .b (.lst 90 (.pair (.int .i64) (.int .i64)) false)], [(.int .i64), (.int .i64), (.int .i64), (.int .i64), (.int .i64), (.int .i64), (.list (.pair (.int .i64) (.int .i64)))]⟩], fun h => Pw.slices_symMergeCmpFunc_zone_occurrence_l8_step (fun v0 v1 v2 v3 => g (v0, v1, v2, v3)) h.1 h.2.1 h.2.2.1 h.2.2.2.1 h.2.2.2.2.1 h.2.2.2.2.2.1 h.2.2.2.2.2.2.1 h.2.2.2.2.2.2.2.1 h.2.2.2.2.2.2.2.2⟩]
  modes := [(76, [false, false]), (98, [true, false, false, false, false]), (103, [true, false, false, false, false])]
  keep := [(0, ⟨[0, 1, 4, 10, 11], [0], [], []⟩),
    (2, ⟨[0, 10, 13], [0], [], []⟩),
    (4, ⟨[0, 2, 4, 14, 15], [0], [], []⟩),
    (6, ⟨[0, 14, 17], [0], [], []⟩),
    (8, ⟨[0, 1, 2, 3, 4, 18, 19, 20, 21, 22], [0], [], []⟩)]
  keepX := [(0, .exit 0, ⟨[0, 1, 10], [0], [], []⟩),
    (2, .exit 2, ⟨[], [0], [], []⟩),
    (4, .exit 4, ⟨[0, 2, 14], [0], [], []⟩),
    (6, .exit 6, ⟨[], [0], [], []⟩),
    (8, .exit 8, ⟨[0, 1, 2, 3, 4, 18, 19, 20], [0], [], []⟩)]
  ro := []
  dw := [(11, [[], [], [], [], [], [], [], [], [], [], [], [], [], [], [], [0], [], [0]]), (23, [[], [], [], [], [], [], [], [], [], [], [], [], [], [], [], [0], [], [0]])]

set_option maxRecDepth 100000 in
theorem slices_symMergeCmpFunc_zone_occurrence_step (g : HL [(.list (.pair (.int .i64) (.int .i64))), (.int .i64), (.int .i64), (.int .i64)] → Option (HL [(.list (.pair (.int .i64) (.int .i64)))])) (hg : Con.OK Try.prog (slices_symMergeCmpFunc_zone_occurrence_conR g)) : Con.OK Try.prog (slices_symMergeCmpFunc_zone_occurrence_conR (Pw.slices_symMergeCmpFunc_zone_occurrence_rec g)) :=
  con_of tabOk mixedOk (slices_symMergeCmpFunc_zone_occurrence_d g) (slices_symMergeCmpFunc_zone_occurrence_conR (Pw.slices_symMergeCmpFunc_zone_occurrence_rec g)) Try.f98 (Try.f98.body.getD .skip) Try.func98 (by kernel_rfl) (by kernel_rfl) (Nat.le_of_ble_eq_true (by kernel_rfl)) (by kernel_rfl) (And.intro hg (And.intro zone_occurrences_c1_ok (And.intro slices_rotateCmpFunc_zone_occurrence_ok trivial))) (by kernel_rfl) (by kernel_rfl)
    (And.intro (fun h => by kernel_rfl) (And.intro (fun h => by kernel_rfl) (And.intro (fun h => by kernel_rfl) (And.intro (fun h => by kernel_rfl) (And.intro (fun h => by kernel_rfl) trivial)))))
    (fun h => by kernel_rfl)

theorem slices_symMergeCmpFunc_zone_occurrence_ok : Con.OK Try.prog slices_symMergeCmpFunc_zone_occurrence_con := rec_ok (f := 98) (ps := [.rl 90 (.list (.pair (.int .i64) (.int .i64))), .v (.int .i64), .v (.int .i64), .v (.int .i64), .clo 76 []]) (ts := [(.list (.pair (.int .i64) (.int .i64))), (.int .i64), (.int .i64), (.int .i64)]) (rp := ⟨[], [.rl (.list (.pair (.int .i64) (.int .i64)))]⟩) (rs := [(.list (.pair (.int .i64) (.int .i64)))]) (B := Pw.slices_symMergeCmpFunc_zone_occurrence_rec) slices_symMergeCmpFunc_zone_occurrence_step

noncomputable def slices_stableCmpFunc_zone_occurrence_con : Con := ⟨89, [.rl 90 (.list (.pair (.int .i64) (.int .i64))), .v (.int .i64), .clo 76 []], [(.list (.pair (.int .i64) (.int .i64))), (.int .i64)], ⟨[], [.rl (.list (.pair (.int .i64) (.int .i64)))]⟩, [(.list (.pair (.int .i64) (.int .i64)))], fun h => Pw.slices_stableCmpFunc_zone_occurrence h.1 h.2⟩

noncomputable def slices_stableCmpFunc_zone_occurrence_d : FnD where
  N := 63
  np := 3
  cs := [slices_insertionSortCmpFunc_zone_occurrence_con, slices_symMergeCmpFunc_zone_occurrence_con]
  ds := [⟨0, [.s (.one (.ol 0)), .s (.one (.d (.int .i64))), .s (.one (.clo 76 [])), .s (.one (.d (.int .i64))), .s (.one (.d (.int .i64))), .s (.one (.d (.int .i64))), .b (.lst 90 (.pair (.int .i64) (.int .i64)) false)], [(.int .i64), (.int .i64), (.int .i64), (.int .i64), (.list (.pair (.int .i64) (.int .i64)))], [⟨.exit 0, [.s (.one (.ol 0)), .s (.one (.d (.int .i64))), .s (.one (.clo 76 [])), .s (.one (.d (.int .i64))), .s (.one (.d (.int .i64))), .b (.lst 90 (.pair (.int .i64) (.int .i64)) false)], [(.int .i64), (.int .i64), (.int .i64), (.list (.pair (.int .i64) (.int .i64)))]⟩], fun h => Pw.slices_stableCmpFunc_zone_occurrence_l0_step h.1 h.2.1 h.2.2.1 h.2.2.2.1 h.2.2.2.2⟩,
    ⟨2, [.s (.one (.ol 0)), .s (.one (.d (.int .i64))), .s (.one (.clo 76 [])), .s (.one (.d (.int .i64))), .b (.lst 90 (.pair (.int .i64) (.int .i64)) false)], [(.int .i64), (.int .i64), (.list (.pair (.int .i64) (.int .i64)))], [⟨.exit 2, [.b (.lst 90 (.pair (.int .i64) (.int .i64)) false)], [(.list (.pair (.int .i64) (.int .i64)))]⟩], fun h => Pw.slices_stableCmpFunc_zone_occurrence_l2_step h.1 h.2.1 h.2.2⟩,
    ⟨4, [.s (.one (.ol 0)), .s (.one (.d (.int .i64))), .s (.one (.clo 76 [])), .s (.one (.d (.int .i64))), .s (.one (.d (.int .i64))), .s (.one (.d (.int .i64))), .b (.lst 90 (.pair (.int .i64) (.int .i64)) false)], [(.int .i64), (.int .i64), (.int .i64), (.int .i64), (.list (.pair (.int .i64) (.int .i64)))], [⟨.exit 4, [.s (.one (.ol 0)), .s (.one (.d (.int .i64))), .s (.one (.clo 76 [])), .s (.one (.d (.int .i64))), .s (.one (.d (.int .i64))), .b (.lst 90 (.pair (.int .i64) (.int .i64)) false)], [(.int .i64), (.int .i64), (.int .i64), (.list (.pair (.int .i64) (.int .i64)))]⟩], fun h => Pw.slices_stableCmpFunc_zone_occurrence_l4_step h.1 h.2.1 h.2.2.1 h.2.2.2.1 h.2.2.2.2⟩]
  modes := [(97, [true, false, false, false]), (98, [true, false, false, false, false])]
  keep := [(0, ⟨[0, 1, 2, 6, 7, 8], [0], [], []⟩),
    (2, ⟨[0, 1, 2, 6], [0], [], []⟩),
    (4, ⟨[0, 1, 2, 6, 7, 8], [0], [], []⟩)]
  keepX := [(0, .exit 0, ⟨[0, 1, 2, 6, 7], [0], [], []⟩),
    (2, .exit 2, ⟨[], [0], [], []⟩),
    (4, .exit 4, ⟨[0, 1, 2, 6, 7], [0], [], []⟩)]
  ro := []
  dw := []

set_option maxRecDepth 100000 in
theorem slices_stableCmpFunc_zone_occurrence_ok : Con.OK Try.prog slices_stableCmpFunc_zone_occurrence_con :=
  con_of tabOk mixedOk slices_stableCmpFunc_zone_occurrence_d slices_stableCmpFunc_zone_occurrence_con Try.f89 (Try.f89.body.getD .skip) Try.func89 (by kernel_rfl) (by kernel_rfl) (Nat.le_of_ble_eq_true (by kernel_rfl)) (by kernel_rfl) (And.intro slices_insertionSortCmpFunc_zone_occurrence_ok (And.intro slices_symMergeCmpFunc_zone_occurrence_ok trivial)) (by kernel_rfl) (by kernel_rfl)
    (And.intro (fun h => by kernel_rfl) (And.intro (fun h => by kernel_rfl) (And.intro (fun h => by kernel_rfl) trivial)))
    (fun h => by kernel_rfl)

noncomputable def slices_SortStableFunc_zone_occurrence_zone_occurrence_con : Con := ⟨75, [.rl 90 (.list (.pair (.int .i64) (.int .i64))), .clo 76 []], [(.list (.pair (.int .i64) (.int .i64)))], ⟨[], [.rl (.list (.pair (.int .i64) (.int .i64)))]⟩, [(.list (.pair (.int .i64) (.int .i64)))], fun h => Pw.slices_SortStableFunc_zone_occurrence_zone_occurrence h⟩

noncomputable def slices_SortStableFunc_zone_occurrence_zone_occurrence_d : FnD where
  N := 9
  np := 2
  cs := [slices_stableCmpFunc_zone_occurrence_con]
  ds := []
  modes := [(89, [true, false, false])]
  keep := []
  keepX := []
  ro := []
  dw := []

set_option maxRecDepth 100000 in
theorem slices_SortStableFunc_zone_occurrence_zone_occurrence_ok : Con.OK Try.prog slices_SortStableFunc_zone_occurrence_zone_occurrence_con :=
  con_of tabOk mixedOk slices_SortStableFunc_zone_occurrence_zone_occurrence_d slices_SortStableFunc_zone_occurrence_zone_occurrence_con Try.f75 (Try.f75.body.getD .skip) Try.func75 (by kernel_rfl) (by kernel_rfl) (Nat.le_of_ble_eq_true (by kernel_rfl)) (by kernel_rfl) (And.intro slices_stableCmpFunc_zone_occurrence_ok trivial) (by kernel_rfl) (by kernel_rfl)
    trivial
    (fun h => by kernel_rfl)

noncomputable def zone_occurrences_con : Con := ⟨47, [.v (.pair .str (.pair (.int .i64) (.list (.pair (.int .i64) (.pair (.int .i64) (.pair (.int .i64) (.pair (.int .i64) (.pair (.int .i64) (.pair (.int .i64) (.int .i64))))))))))], [(.pair .str (.pair (.int .i64) (.list (.pair (.int .i64) (.pair (.int .i64) (.pair (.int .i64) (.pair (.int .i64) (.pair (.int .i64) (.pair (.int .i64) (.int .i64))))))))))], ⟨[.own 90 (.list (.pair (.int .i64) (.int .i64))), .v (.int .i64)], []⟩, [(.list (.pair (.int .i64) (.int .i64))), (.int .i64)], fun h => Pw.zone_occurrences h⟩

noncomputable def zone_occurrences_d : FnD where
  N := 86
  np := 1
  cs := [zone_in_con, zone_rule_con, civil_Nth_con, slices_SortStableFunc_zone_occurrence_zone_occurrence_con]
  ds := [⟨0, [.s (.one (.bp 64 0)), .s (.one (.d (.int .i64))), .s (.one (.d (.list (.pair (.int .i64) (.pair (.int .i64) (.pair (.int .i64) (.pair (.int .i64) (.pair (.int .i64) (.pair (.int .i64) (.int .i64)))))))))), .s (.one (.d (.int .i64))), .s (.one (.d (.int .i64))), .b (.cell [.d .str, .d (.int .i64), .d (.list (.pair (.int .i64) (.pair (.int .i64) (.pair (.int .i64) (.pair (.int .i64) (.pair (.int .i64) (.pair (.int .i64) (.int .i64))))))))] false)], [(.int .i64), (.list (.pair (.int .i64) (.pair (.int .i64) (.pair (.int .i64) (.pair (.int .i64) (.pair (.int .i64) (.pair (.int .i64) (.int .i64)))))))), (.int .i64), (.int .i64), .str, (.int .i64), (.list (.pair (.int .i64) (.pair (.int .i64) (.pair (.int .i64) (.pair (.int .i64) (.pair (.int .i64) (.pair (.int .i64) (.int .i64))))))))], [⟨.ret, [.s (.one (.nil)), .s (.one (.d (.int .i64)))], [(.int .i64)]⟩, ⟨.exit 0, [.s (.one (.bp 64 0)), .s (.one (.d (.int .i64))), .b (.cell [.d .str, .d (.int .i64), .d (.list (.pair (.int .i64) (.pair (.int .i64) (.pair (.int .i64) (.pair (.int .i64) (.pair (.int .i64) (.pair (.int .i64) (.int .i64))))))))] false)], [(.int .i64), .str, (.int .i64), (.list (.pair (.int .i64) (.pair (.int .i64) (.pair (.int .i64) (.pair (.int .i64) (.pair (.int .i64) (.pair (.int .i64) (.int .i64))))))))]⟩], fun h => Pw.zone_occurrences_l0_step h.1 h.2.1 h.2.2.1 h.2.2.2.1 h.2.2.2.2.1 h.2.2.2.2.2.1 h.2.2.2.2.2.2⟩,
    ⟨2, [.s (.one (.ol 1002000)), .s (.one (.d (.list (.pair (.int .i64) (.pair (.int .i64) (.pair (.int .i64) (.pair (.int .i64) (.pair (.int .i64) (.pair (.int .i64) (.int .i64)))))))))), .s (.one (.d (.int .i64))), .s (.one (.d (.int .i64))), .b (.lst 90 (.pair (.int .i64) (.int .i64)) false)], [(.list (.pair (.int .i64) (.pair (.int .i64) (.pair (.int .i64) (.pair (.int .i64) (.pair (.int .i64) (.pair (.int .i64) (.int .i64)))))))), (.int .i64), (.int .i64), (.list (.pair (.int .i64) (.int .i64)))], [⟨.exit 2, [.s (.one (.ol 1502300)), .b (.lst 90 (.pair (.int .i64) (.int .i64)) false)], [(.list (.pair (.int .i64) (.int .i64)))]⟩], fun h => Pw.zone_occurrences_l2_step h.1 h.2.1 h.2.2.1 h.2.2.2⟩,
    ⟨4, [.s (.one (.ol 1004000)), .s (.one (.bp 640 0)), .s (.one (.d (.int .i64))), .s (.one (.d (.list (.pair (.int .i64) (.pair (.int .i64) (.pair (.int .i64) (.pair (.int .i64) (.pair (.int .i64) (.pair (.int .i64) (.int .i64)))))))))), .s (.one (.d (.int .i64))), .s (.one (.d (.int .i64))), .b (.cell [.d (.int .i64), .d (.int .i64), .d (.int .i64), .d (.int .i64), .d (.int .i64), .d (.int .i64), .d (.int .i64)] false), .b (.lst 90 (.pair (.int .i64) (.int .i64)) false)], [(.int .i64), (.list (.pair (.int .i64) (.pair (.int .i64) (.pair (.int .i64) (.pair (.int .i64) (.pair (.int .i64) (.pair (.int .i64) (.int .i64)))))))), (.int .i64), (.int .i64), (.int .i64), (.int .i64), (.int .i64), (.int .i64), (.int .i64), (.int .i64), (.int .i64), (.list (.pair (.int .i64) (.int .i64)))], [⟨.exit 4, [.s (.one (.ol 1504500)), .s (.one (.d (.list (.pair (.int .i64) (.pair (.int .i64) (.pair (.int .i64) (.pair (.int .i64) (.pair (.int .i64) (.pair (.int .i64) (.int .i64)))))))))), .s (.one (.d (.int .i64))), .s (.one (.d (.int .i64))), .b (.lst 90 (.pair (.int .i64) (.int .i64)) false)], [(.list (.pair (.int .i64) (.pair (.int .i64) (.pair (.int .i64) (.pair (.int .i64) (.pair (.int .i64) (.pair (.int .i64) (.int .i64)))))))), (.int .i64), (.int .i64), (.list (.pair (.int .i64) (.int .i64)))]⟩], fun h => Pw.zone_occurrences_l4_step h.1 h.2.1 h.2.2.1 h.2.2.2.1 h.2.2.2.2.1 h.2.2.2.2.2.1 h.2.2.2.2.2.2.1 h.2.2.2.2.2.2.2.1 h.2.2.2.2.2.2.2.2.1 h.2.2.2.2.2.2.2.2.2.1 h.2.2.2.2.2.2.2.2.2.2.1 h.2.2.2.2.2.2.2.2.2.2.2⟩]
  modes := [(48, [false, false, false]), (73, [false]), (74, [false, false, false, false]), (75, [true, false])]
  keep := [(0, ⟨[1, 4, 23, 24, 25], [64], [], []⟩),
    (2, ⟨[8, 46, 47, 48], [], [⟨1002000, 90, (.pair (.int .i64) (.int .i64)), [.slot 8], false⟩], []⟩),
    (4, ⟨[8, 10, 11, 46, 47, 48], [640], [⟨1004000, 90, (.pair (.int .i64) (.int .i64)), [.slot 8], false⟩], []⟩)]
  keepX := [(0, .ret, ⟨[2, 3], [], [], []⟩),
    (0, .exit 0, ⟨[1, 4], [64], [], []⟩),
    (2, .exit 2, ⟨[8], [], [⟨1502300, 90, (.pair (.int .i64) (.int .i64)), [.slot 8], false⟩], []⟩),
    (4, .exit 4, ⟨[8, 46, 47, 48], [], [⟨1504500, 90, (.pair (.int .i64) (.int .i64)), [.slot 8], false⟩], []⟩)]
  ro := [true, false]
  dw := []

set_option maxRecDepth 100000 in
theorem zone_occurrences_ok : Con.OK Try.prog zone_occurrences_con :=
  con_of tabOk mixedOk zone_occurrences_d zone_occurrences_con Try.f47 (Try.f47.body.getD .skip) Try.func47 (by kernel_rfl) (by kernel_rfl) (Nat.le_of_ble_eq_true (by kernel_rfl)) (by kernel_rfl) (And.intro zone_in_ok (And.intro zone_rule_ok (And.intro civil_Nth_ok (And.intro slices_SortStableFunc_zone_occurrence_zone_occurrence_ok trivial)))) (by kernel_rfl) (by kernel_rfl)
    (And.intro (fun h => by kernel_rfl) (And.intro (fun h => by kernel_rfl) (And.intro (fun h => by kernel_rfl) trivial)))
    (fun h => by kernel_rfl)

noncomputable def zone_Transitions_con : Con := ⟨11, [.v (.pair .str (.pair (.int .i64) (.list (.pair (.int .i64) (.pair (.int .i64) (.pair (.int .i64) (.pair (.int .i64) (.pair (.int .i64) (.pair (.int .i64) (.int .i64))))))))))], [(.pair .str (.pair (.int .i64) (.list (.pair (.int .i64) (.pair (.int .i64) (.pair (.int .i64) (.pair (.int .i64) (.pair (.int .i64) (.pair (.int .i64) (.int .i64))))))))))], ⟨[.own 42 (.list (.pair (.int .i64) (.int .i64))), .v (.int .i64)], []⟩, [(.list (.pair (.int .i64) (.int .i64))), (.int .i64)], fun h => Pw.zone_Transitions h⟩

noncomputable def zone_Transitions_d : FnD where
  N := 79
  np := 1
  cs := [zone_in_con, zone_occurrences_con]
  ds := [⟨0, [.s (.one (.ol 1000000)), .s (.one (.d (.int .i64))), .s (.one (.ol 1000001)), .s (.one (.d (.int .i64))), .s (.one (.d (.int .i64))), .b (.lst 42 (.pair (.int .i64) (.int .i64)) false), .b (.lst 90 (.pair (.int .i64) (.int .i64)) false)], [(.int .i64), (.int .i64), (.int .i64), (.list (.pair (.int .i64) (.int .i64))), (.list (.pair (.int .i64) (.int .i64)))], [⟨.ret, [.s (.one (.nil)), .s (.one (.d (.int .i64)))], [(.int .i64)]⟩, ⟨.exit 0, [.s (.one (.ol 1500100)), .b (.lst 42 (.pair (.int .i64) (.int .i64)) false)], [(.list (.pair (.int .i64) (.int .i64)))]⟩], fun h => Pw.zone_Transitions_l0_step h.1 h.2.1 h.2.2.1 h.2.2.2.1 h.2.2.2.2⟩]
  modes := [(47, [false]), (48, [false, false, false])]
  keep := [(0, ⟨[6, 7, 22, 23, 24], [], [⟨1000000, 42, (.pair (.int .i64) (.int .i64)), [.slot 6], false⟩, ⟨1000001, 90, (.pair (.int .i64) (.int .i64)), [.slot 22], false⟩], []⟩)]
  keepX := [(0, .ret, ⟨[2, 3], [], [], []⟩),
    (0, .exit 0, ⟨[6], [], [⟨1500100, 42, (.pair (.int .i64) (.int .i64)), [.slot 6], false⟩], []⟩)]
  ro := [true, false]
  dw := []

set_option maxRecDepth 100000 in
theorem zone_Transitions_ok : Con.OK Try.prog zone_Transitions_con :=
  con_of tabOk mixedOk zone_Transitions_d zone_Transitions_con Try.f11 (Try.f11.body.getD .skip) Try.func11 (by kernel_rfl) (by kernel_rfl) (Nat.le_of_ble_eq_true (by kernel_rfl)) (by kernel_rfl) (And.intro zone_in_ok (And.intro zone_occurrences_ok trivial)) (by kernel_rfl) (by kernel_rfl)
    (And.intro (fun h => by kernel_rfl) trivial)
    (fun h => by kernel_rfl)
end Go.Proofs.Pk
