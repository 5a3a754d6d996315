/- Contracts: each given function is its plain function, printed by a program. -/
import Derived.Test.YtielflihgdebiaaCon1
open Go Go.Lft
set_option linter.unusedVariables false
namespace Go.Proofs.Pk

noncomputable def made_Dice_Next_con : Con := ⟨30, [.ref [(.list (.int .i64)), (.int .i64)], .v (.int .i64)], [(.list (.int .i64)), (.int .i64), (.int .i64)], ⟨[.v (.int .i64)], [.ref [(.list (.int .i64)), (.int .i64)]]⟩, [(.int .i64), (.list (.int .i64)), (.int .i64)], fun h => Pw.made_Dice_Next h.1 h.2.1 h.2.2⟩

noncomputable def made_Dice_Next_d : FnD where
  N := 45
  np := 2
  cs := []
  ds := []
  modes := []
  keep := []
  keepX := []
  ro := [false]
  dw := []

set_option maxRecDepth 100000 in
theorem made_Dice_Next_ok : Con.OK Try.prog made_Dice_Next_con :=
  con_of tabOk mixedOk made_Dice_Next_d made_Dice_Next_con Try.f30 (Try.f30.body.getD .skip) Try.func30 (by kernel_rfl) (by kernel_rfl) (Nat.le_of_ble_eq_true (by kernel_rfl)) (by kernel_rfl) trivial (by kernel_rfl) (by kernel_rfl)
    trivial
    (fun h => by kernel_rfl)

noncomputable def made_Dice_Pick_con : Con := ⟨45, [.ref [(.list (.int .i64)), (.int .i64)], .v (.list (.int .i64))], [(.list (.int .i64)), (.int .i64), (.list (.int .i64))], ⟨[.v (.int .i64)], [.ref [(.list (.int .i64)), (.int .i64)]]⟩, [(.int .i64), (.list (.int .i64)), (.int .i64)], fun h => Pw.made_Dice_Pick h.1 h.2.1 h.2.2⟩

noncomputable def made_Dice_Pick_d : FnD where
  N := 12
  np := 2
  cs := [made_Dice_Next_con]
  ds := []
  modes := [(30, [false, false])]
  keep := []
  keepX := []
  ro := [false]
  dw := []

set_option maxRecDepth 100000 in
theorem made_Dice_Pick_ok : Con.OK Try.prog made_Dice_Pick_con :=
  con_of tabOk mixedOk made_Dice_Pick_d made_Dice_Pick_con Try.f45 (Try.f45.body.getD .skip) Try.func45 (by kernel_rfl) (by kernel_rfl) (Nat.le_of_ble_eq_true (by kernel_rfl)) (by kernel_rfl) (And.intro made_Dice_Next_ok trivial) (by kernel_rfl) (by kernel_rfl)
    trivial
    (fun h => by kernel_rfl)

noncomputable def made_Dice_Zone_con : Con := ⟨8, [.ref [(.list (.int .i64)), (.int .i64)], .v .str], [(.list (.int .i64)), (.int .i64), .str], ⟨[.v (.pair .str (.pair (.int .i64) (.list (.pair (.int .i64) (.pair (.int .i64) (.pair (.int .i64) (.pair (.int .i64) (.pair (.int .i64) (.pair (.int .i64) (.int .i64))))))))))], [.ref [(.list (.int .i64)), (.int .i64)]]⟩, [(.pair .str (.pair (.int .i64) (.list (.pair (.int .i64) (.pair (.int .i64) (.pair (.int .i64) (.pair (.int .i64) (.pair (.int .i64) (.pair (.int .i64) (.int .i64)))))))))), (.list (.int .i64)), (.int .i64)], fun h => Pw.made_Dice_Zone h.1 h.2.1 h.2.2⟩

noncomputable def made_Dice_Zone_d : FnD where
  N := 98
  np := 2
  cs := [made_Dice_Next_con, made_Dice_Pick_con]
  ds := []
  modes := [(30, [false, false]), (45, [false, false])]
  keep := []
  keepX := []
  ro := [false]
  dw := [(7, [[], [], [0], [], [], [0], [], [0], [], [], [], [], [0], [], [], [], [], [], [], [0], [], [], [3968], [0, 3968], [], [0], [], [0], [], [], [], [], [4608], [], [320]]), (9, [[], [], [], [5056], [0, 5056], [], []])]

set_option maxRecDepth 100000 in
theorem made_Dice_Zone_ok : Con.OK Try.prog made_Dice_Zone_con :=
  con_of tabOk mixedOk made_Dice_Zone_d made_Dice_Zone_con Try.f8 (Try.f8.body.getD .skip) Try.func8 (by kernel_rfl) (by kernel_rfl) (Nat.le_of_ble_eq_true (by kernel_rfl)) (by kernel_rfl) (And.intro made_Dice_Next_ok (And.intro made_Dice_Pick_ok trivial)) (by kernel_rfl) (by kernel_rfl)
    trivial
    (fun h => by kernel_rfl)

noncomputable def made_Dice_Bool_con : Con := ⟨46, [.ref [(.list (.int .i64)), (.int .i64)], .v (.int .i64)], [(.list (.int .i64)), (.int .i64), (.int .i64)], ⟨[.v .bool], [.ref [(.list (.int .i64)), (.int .i64)]]⟩, [.bool, (.list (.int .i64)), (.int .i64)], fun h => Pw.made_Dice_Bool h.1 h.2.1 h.2.2⟩

noncomputable def made_Dice_Bool_d : FnD where
  N := 11
  np := 2
  cs := [made_Dice_Next_con]
  ds := []
  modes := [(30, [false, false])]
  keep := []
  keepX := []
  ro := [false]
  dw := []

set_option maxRecDepth 100000 in
theorem made_Dice_Bool_ok : Con.OK Try.prog made_Dice_Bool_con :=
  con_of tabOk mixedOk made_Dice_Bool_d made_Dice_Bool_con Try.f46 (Try.f46.body.getD .skip) Try.func46 (by kernel_rfl) (by kernel_rfl) (Nat.le_of_ble_eq_true (by kernel_rfl)) (by kernel_rfl) (And.intro made_Dice_Next_ok trivial) (by kernel_rfl) (by kernel_rfl)
    trivial
    (fun h => by kernel_rfl)

noncomputable def law04_odd_con : Con := ⟨9, [.ref [(.list (.int .i64)), (.int .i64)], .v (.pair .str (.pair (.int .i64) (.list (.pair (.int .i64) (.pair (.int .i64) (.pair (.int .i64) (.pair (.int .i64) (.pair (.int .i64) (.pair (.int .i64) (.int .i64))))))))))], [(.list (.int .i64)), (.int .i64), (.pair .str (.pair (.int .i64) (.list (.pair (.int .i64) (.pair (.int .i64) (.pair (.int .i64) (.pair (.int .i64) (.pair (.int .i64) (.pair (.int .i64) (.int .i64))))))))))], ⟨[.v (.pair .str (.pair (.int .i64) (.list (.pair (.int .i64) (.pair (.int .i64) (.pair (.int .i64) (.pair (.int .i64) (.pair (.int .i64) (.pair (.int .i64) (.int .i64))))))))))], [.ref [(.list (.int .i64)), (.int .i64)]]⟩, [(.pair .str (.pair (.int .i64) (.list (.pair (.int .i64) (.pair (.int .i64) (.pair (.int .i64) (.pair (.int .i64) (.pair (.int .i64) (.pair (.int .i64) (.int .i64)))))))))), (.list (.int .i64)), (.int .i64)], fun h => Pw.law04_odd h.1 h.2.1 h.2.2⟩

noncomputable def law04_odd_d : FnD where
  N := 131
  np := 2
  cs := [made_Dice_Next_con, made_Dice_Pick_con, made_Dice_Bool_con]
  ds := []
  modes := [(30, [false, false]), (45, [false, false]), (46, [false, false])]
  keep := []
  keepX := []
  ro := [false]
  dw := [(5, [[], [], [], [], [], [], [0], [], []]), (7, [[], [], [], [], [], [], [2496], [512, 2560], [], [192]]), (8, [[], [], [], [], [], [], [], [3136], [0, 3136], [], [], [2560]]), (10, [[], [], [], [], [], [], [], [], [], [], [], [4224], [0, 4224], [], [], [512]])]

set_option maxRecDepth 100000 in
theorem law04_odd_ok : Con.OK Try.prog law04_odd_con :=
  con_of tabOk mixedOk law04_odd_d law04_odd_con Try.f9 (Try.f9.body.getD .skip) Try.func9 (by kernel_rfl) (by kernel_rfl) (Nat.le_of_ble_eq_true (by kernel_rfl)) (by kernel_rfl) (And.intro made_Dice_Next_ok (And.intro made_Dice_Pick_ok (And.intro made_Dice_Bool_ok trivial))) (by kernel_rfl) (by kernel_rfl)
    trivial
    (fun h => by kernel_rfl)

noncomputable def r04_in_con : Con := ⟨49, [.v (.int .i64), .v (.int .i64), .v (.int .i64)], [(.int .i64), (.int .i64), (.int .i64)], ⟨[.v .bool], []⟩, [.bool], fun h => Pw.r04_in h.1 h.2.1 h.2.2⟩

noncomputable def r04_in_d : FnD where
  N := 15
  np := 3
  cs := []
  ds := []
  modes := []
  keep := []
  keepX := []
  ro := [false]
  dw := []

set_option maxRecDepth 100000 in
theorem r04_in_ok : Con.OK Try.prog r04_in_con :=
  con_of tabOk mixedOk r04_in_d r04_in_con Try.f49 (Try.f49.body.getD .skip) Try.func49 (by kernel_rfl) (by kernel_rfl) (Nat.le_of_ble_eq_true (by kernel_rfl)) (by kernel_rfl) trivial (by kernel_rfl) (by kernel_rfl)
    trivial
    (fun h => by kernel_rfl)

noncomputable def r04_right_con : Con := ⟨50, [.v (.pair (.int .i64) (.pair (.int .i64) (.pair (.int .i64) (.pair (.int .i64) (.pair (.int .i64) (.pair (.int .i64) (.int .i64)))))))], [(.pair (.int .i64) (.pair (.int .i64) (.pair (.int .i64) (.pair (.int .i64) (.pair (.int .i64) (.pair (.int .i64) (.int .i64)))))))], ⟨[.v .bool], []⟩, [.bool], fun h => Pw.r04_right h⟩

noncomputable def r04_right_d : FnD where
  N := 38
  np := 1
  cs := [r04_in_con]
  ds := []
  modes := [(49, [false, false, false])]
  keep := []
  keepX := []
  ro := [false]
  dw := []

set_option maxRecDepth 100000 in
theorem r04_right_ok : Con.OK Try.prog r04_right_con :=
  con_of tabOk mixedOk r04_right_d r04_right_con Try.f50 (Try.f50.body.getD .skip) Try.func50 (by kernel_rfl) (by kernel_rfl) (Nat.le_of_ble_eq_true (by kernel_rfl)) (by kernel_rfl) (And.intro r04_in_ok trivial) (by kernel_rfl) (by kernel_rfl)
    trivial
    (fun h => by kernel_rfl)

noncomputable def r01_Leap_con : Con := ⟨101, [.v (.int .i64)], [(.int .i64)], ⟨[.v .bool], []⟩, [.bool], fun h => Pw.r01_Leap h⟩

noncomputable def r01_Leap_d : FnD where
  N := 16
  np := 1
  cs := []
  ds := []
  modes := []
  keep := []
  keepX := []
  ro := [false]
  dw := []

set_option maxRecDepth 100000 in
theorem r01_Leap_ok : Con.OK Try.prog r01_Leap_con :=
  con_of tabOk mixedOk r01_Leap_d r01_Leap_con Try.f101 (Try.f101.body.getD .skip) Try.func101 (by kernel_rfl) (by kernel_rfl) (Nat.le_of_ble_eq_true (by kernel_rfl)) (by kernel_rfl) trivial (by kernel_rfl) (by kernel_rfl)
    trivial
    (fun h => by kernel_rfl)

noncomputable def r01_Days_con : Con := ⟨92, [.v (.int .i64), .v (.int .i64)], [(.int .i64), (.int .i64)], ⟨[.v (.int .i64)], []⟩, [(.int .i64)], fun h => Pw.r01_Days h.1 h.2⟩

noncomputable def r01_Days_d : FnD where
  N := 23
  np := 2
  cs := [r01_Leap_con]
  ds := []
  modes := [(101, [false])]
  keep := []
  keepX := []
  ro := [false]
  dw := []

set_option maxRecDepth 100000 in
theorem r01_Days_ok : Con.OK Try.prog r01_Days_con :=
  con_of tabOk mixedOk r01_Days_d r01_Days_con Try.f92 (Try.f92.body.getD .skip) Try.func92 (by kernel_rfl) (by kernel_rfl) (Nat.le_of_ble_eq_true (by kernel_rfl)) (by kernel_rfl) (And.intro r01_Leap_ok trivial) (by kernel_rfl) (by kernel_rfl)
    trivial
    (fun h => by kernel_rfl)

noncomputable def r01_Valid_con : Con := ⟨99, [.v (.pair (.int .i64) (.pair (.int .i64) (.int .i64)))], [(.pair (.int .i64) (.pair (.int .i64) (.int .i64)))], ⟨[.v .bool], []⟩, [.bool], fun h => Pw.r01_Valid h⟩

noncomputable def r01_Valid_d : FnD where
  N := 36
  np := 1
  cs := [r01_Days_con]
  ds := []
  modes := [(92, [false, false])]
  keep := []
  keepX := []
  ro := [false]
  dw := []

set_option maxRecDepth 100000 in
theorem r01_Valid_ok : Con.OK Try.prog r01_Valid_con :=
  con_of tabOk mixedOk r01_Valid_d r01_Valid_con Try.f99 (Try.f99.body.getD .skip) Try.func99 (by kernel_rfl) (by kernel_rfl) (Nat.le_of_ble_eq_true (by kernel_rfl)) (by kernel_rfl) (And.intro r01_Days_ok trivial) (by kernel_rfl) (by kernel_rfl)
    trivial
    (fun h => by kernel_rfl)

noncomputable def r01_year_con : Con := ⟨100, [.v (.int .i64)], [(.int .i64)], ⟨[.v (.int .i64)], []⟩, [(.int .i64)], fun h => Pw.r01_year h⟩

noncomputable def r01_year_d : FnD where
  N := 18
  np := 1
  cs := []
  ds := []
  modes := []
  keep := []
  keepX := []
  ro := [false]
  dw := []

set_option maxRecDepth 100000 in
theorem r01_year_ok : Con.OK Try.prog r01_year_con :=
  con_of tabOk mixedOk r01_year_d r01_year_con Try.f100 (Try.f100.body.getD .skip) Try.func100 (by kernel_rfl) (by kernel_rfl) (Nat.le_of_ble_eq_true (by kernel_rfl)) (by kernel_rfl) trivial (by kernel_rfl) (by kernel_rfl)
    trivial
    (fun h => by kernel_rfl)

noncomputable def r01_Day_con : Con := ⟨90, [.v (.pair (.int .i64) (.pair (.int .i64) (.int .i64)))], [(.pair (.int .i64) (.pair (.int .i64) (.int .i64)))], ⟨[.v (.int .i64), .v (.int .i64)], []⟩, [(.int .i64), (.int .i64)], fun h => Pw.r01_Day h⟩

noncomputable def r01_Day_d : FnD where
  N := 29
  np := 1
  cs := [r01_Days_con, r01_Valid_con, r01_year_con]
  ds := [⟨0, [.s (.one (.bp 64 0)), .s (.one (.d (.int .i64))), .s (.one (.d (.int .i64))), .b (.cell [.d (.int .i64), .d (.int .i64), .d (.int .i64)] false)], [(.int .i64), (.int .i64), (.int .i64), (.int .i64), (.int .i64)], [⟨.exit 0, [.s (.one (.bp 64 0)), .s (.one (.d (.int .i64))), .b (.cell [.d (.int .i64), .d (.int .i64), .d (.int .i64)] false)], [(.int .i64), (.int .i64), (.int .i64), (.int .i64)]⟩], fun h => Pw.r01_Day_l0_step h.1 h.2.1 h.2.2.1 h.2.2.2.1 h.2.2.2.2⟩]
  modes := [(92, [false, false]), (99, [false]), (100, [false])]
  keep := [(0, ⟨[1, 4, 5], [64], [], []⟩)]
  keepX := [(0, .exit 0, ⟨[1, 4], [64], [], []⟩)]
  ro := [false, false]
  dw := []

set_option maxRecDepth 100000 in
theorem r01_Day_ok : Con.OK Try.prog r01_Day_con :=
  con_of tabOk mixedOk r01_Day_d r01_Day_con Try.f90 (Try.f90.body.getD .skip) Try.func90 (by kernel_rfl) (by kernel_rfl) (Nat.le_of_ble_eq_true (by kernel_rfl)) (by kernel_rfl) (And.intro r01_Days_ok (And.intro r01_Valid_ok (And.intro r01_year_ok trivial))) (by kernel_rfl) (by kernel_rfl)
    (And.intro (fun h => by kernel_rfl) trivial)
    (fun h => by kernel_rfl)

noncomputable def r01_Weekday_con : Con := ⟨91, [.v (.int .i64)], [(.int .i64)], ⟨[.v (.int .i64)], []⟩, [(.int .i64)], fun h => Pw.r01_Weekday h⟩

noncomputable def r01_Weekday_d : FnD where
  N := 7
  np := 1
  cs := []
  ds := []
  modes := []
  keep := []
  keepX := []
  ro := [false]
  dw := []

set_option maxRecDepth 100000 in
theorem r01_Weekday_ok : Con.OK Try.prog r01_Weekday_con :=
  con_of tabOk mixedOk r01_Weekday_d r01_Weekday_con Try.f91 (Try.f91.body.getD .skip) Try.func91 (by kernel_rfl) (by kernel_rfl) (Nat.le_of_ble_eq_true (by kernel_rfl)) (by kernel_rfl) trivial (by kernel_rfl) (by kernel_rfl)
    trivial
    (fun h => by kernel_rfl)

noncomputable def r01_Nth_con : Con := ⟨77, [.v (.int .i64), .v (.int .i64), .v (.int .i64), .v (.int .i64)], [(.int .i64), (.int .i64), (.int .i64), (.int .i64)], ⟨[.v (.int .i64), .v (.int .i64)], []⟩, [(.int .i64), (.int .i64)], fun h => Pw.r01_Nth h.1 h.2.1 h.2.2.1 h.2.2.2⟩

noncomputable def r01_Nth_d : FnD where
  N := 63
  np := 4
  cs := [r01_Days_con, r01_Day_con, r01_Weekday_con]
  ds := [⟨0, [.s (.one (.d (.int .i64))), .s (.one (.d (.int .i64))), .s (.one (.d (.int .i64))), .s (.one (.d (.int .i64))), .s (.one (.d (.int .i64))), .s (.one (.d (.int .i64)))], [(.int .i64), (.int .i64), (.int .i64), (.int .i64), (.int .i64), (.int .i64)], [⟨.exit 0, [.s (.one (.d (.int .i64))), .s (.one (.d (.int .i64))), .s (.one (.d (.int .i64))), .s (.one (.d (.int .i64))), .s (.one (.d (.int .i64)))], [(.int .i64), (.int .i64), (.int .i64), (.int .i64), (.int .i64)]⟩], fun h => Pw.r01_Nth_l0_step h.1 h.2.1 h.2.2.1 h.2.2.2.1 h.2.2.2.2.1 h.2.2.2.2.2⟩,
    ⟨2, [.s (.one (.d (.int .i64))), .s (.one (.d (.int .i64))), .s (.one (.d (.int .i64))), .s (.one (.d (.int .i64)))], [(.int .i64), (.int .i64), (.int .i64), (.int .i64)], [⟨.exit 2, [.s (.one (.d (.int .i64)))], [(.int .i64)]⟩], fun h => Pw.r01_Nth_l2_step h.1 h.2.1 h.2.2.1 h.2.2.2⟩]
  modes := [(90, [false]), (91, [false]), (92, [false, false])]
  keep := [(0, ⟨[0, 1, 2, 3, 10, 12], [], [], []⟩),
    (2, ⟨[0, 1, 10, 12], [], [], []⟩)]
  keepX := [(0, .exit 0, ⟨[0, 1, 2, 10, 12], [], [], []⟩),
    (2, .exit 2, ⟨[12], [], [], []⟩)]
  ro := [false, false]
  dw := []

set_option maxRecDepth 100000 in
theorem r01_Nth_ok : Con.OK Try.prog r01_Nth_con :=
  con_of tabOk mixedOk r01_Nth_d r01_Nth_con Try.f77 (Try.f77.body.getD .skip) Try.func77 (by kernel_rfl) (by kernel_rfl) (Nat.le_of_ble_eq_true (by kernel_rfl)) (by kernel_rfl) (And.intro r01_Days_ok (And.intro r01_Day_ok (And.intro r01_Weekday_ok trivial))) (by kernel_rfl) (by kernel_rfl)
    (And.intro (fun h => by kernel_rfl) (And.intro (fun h => by kernel_rfl) trivial))
    (fun h => by kernel_rfl)

noncomputable def r04_occurrences_con : Con := ⟨51, [.v (.list (.pair (.int .i64) (.pair (.int .i64) (.pair (.int .i64) (.pair (.int .i64) (.pair (.int .i64) (.pair (.int .i64) (.int .i64))))))))], [(.list (.pair (.int .i64) (.pair (.int .i64) (.pair (.int .i64) (.pair (.int .i64) (.pair (.int .i64) (.pair (.int .i64) (.int .i64))))))))], ⟨[.own 95 (.list (.pair (.int .i64) (.int .i64)))], []⟩, [(.list (.pair (.int .i64) (.int .i64)))], fun h => Pw.r04_occurrences h⟩

noncomputable def r04_occurrences_d : FnD where
  N := 98
  np := 1
  cs := [r01_Nth_con]
  ds := [⟨0, [.s (.one (.d (.list (.pair (.int .i64) (.pair (.int .i64) (.pair (.int .i64) (.pair (.int .i64) (.pair (.int .i64) (.pair (.int .i64) (.int .i64)))))))))), .s (.one (.ol 1000000)), .s (.one (.d (.int .i64))), .b (.lst 95 (.pair (.int .i64) (.int .i64)) false)], [(.list (.pair (.int .i64) (.pair (.int .i64) (.pair (.int .i64) (.pair (.int .i64) (.pair (.int .i64) (.pair (.int .i64) (.int .i64)))))))), (.int .i64), (.list (.pair (.int .i64) (.int .i64)))], [⟨.exit 0, [.s (.one (.ol 1500100)), .b (.lst 95 (.pair (.int .i64) (.int .i64)) false)], [(.list (.pair (.int .i64) (.int .i64)))]⟩], fun h => Pw.r04_occurrences_l0_step h.1 h.2.1 h.2.2⟩,
    ⟨2, [.s (.one (.d (.list (.pair (.int .i64) (.pair (.int .i64) (.pair (.int .i64) (.pair (.int .i64) (.pair (.int .i64) (.pair (.int .i64) (.int .i64)))))))))), .s (.one (.ol 1002000)), .s (.one (.d (.int .i64))), .s (.one (.d (.int .i64))), .b (.lst 95 (.pair (.int .i64) (.int .i64)) false)], [(.list (.pair (.int .i64) (.pair (.int .i64) (.pair (.int .i64) (.pair (.int .i64) (.pair (.int .i64) (.pair (.int .i64) (.int .i64)))))))), (.int .i64), (.int .i64), (.list (.pair (.int .i64) (.int .i64)))], [⟨.exit 2, [.s (.one (.d (.list (.pair (.int .i64) (.pair (.int .i64) (.pair (.int .i64) (.pair (.int .i64) (.pair (.int .i64) (.pair (.int .i64) (.int .i64)))))))))), .s (.one (.ol 1502300)), .s (.one (.d (.int .i64))), .b (.lst 95 (.pair (.int .i64) (.int .i64)) false)], [(.list (.pair (.int .i64) (.pair (.int .i64) (.pair (.int .i64) (.pair (.int .i64) (.pair (.int .i64) (.pair (.int .i64) (.int .i64)))))))), (.int .i64), (.list (.pair (.int .i64) (.int .i64)))]⟩], fun h => Pw.r04_occurrences_l2_step h.1 h.2.1 h.2.2.1 h.2.2.2⟩,
    ⟨4, [.s (.one (.d (.list (.pair (.int .i64) (.pair (.int .i64) (.pair (.int .i64) (.pair (.int .i64) (.pair (.int .i64) (.pair (.int .i64) (.int .i64)))))))))), .s (.one (.ol 1004000)), .s (.one (.d (.int .i64))), .s (.one (.d (.int .i64))), .s (.one (.bp 512 0)), .s (.one (.d (.int .i64))), .b (.cell [.d (.int .i64), .d (.int .i64)] false), .b (.lst 95 (.pair (.int .i64) (.int .i64)) false)], [(.list (.pair (.int .i64) (.pair (.int .i64) (.pair (.int .i64) (.pair (.int .i64) (.pair (.int .i64) (.pair (.int .i64) (.int .i64)))))))), (.int .i64), (.int .i64), (.int .i64), (.int .i64), (.int .i64), (.list (.pair (.int .i64) (.int .i64)))], [⟨.exit 4, [.s (.one (.d (.list (.pair (.int .i64) (.pair (.int .i64) (.pair (.int .i64) (.pair (.int .i64) (.pair (.int .i64) (.pair (.int .i64) (.int .i64)))))))))), .s (.one (.ol 1504500)), .s (.one (.d (.int .i64))), .s (.one (.d (.int .i64))), .s (.one (.bp 512 0)), .s (.one (.d (.int .i64))), .b (.cell [.d (.int .i64), .d (.int .i64)] false), .b (.lst 95 (.pair (.int .i64) (.int .i64)) false)], [(.list (.pair (.int .i64) (.pair (.int .i64) (.pair (.int .i64) (.pair (.int .i64) (.pair (.int .i64) (.pair (.int .i64) (.int .i64)))))))), (.int .i64), (.int .i64), (.int .i64), (.int .i64), (.int .i64), (.list (.pair (.int .i64) (.int .i64)))]⟩], fun h => Pw.r04_occurrences_l4_step h.1 h.2.1 h.2.2.1 h.2.2.2.1 h.2.2.2.2.1 h.2.2.2.2.2.1 h.2.2.2.2.2.2⟩]
  modes := [(77, [false, false, false, false])]
  keep := [(0, ⟨[0, 3, 4], [], [⟨1000000, 95, (.pair (.int .i64) (.int .i64)), [.slot 3], false⟩], []⟩),
    (2, ⟨[0, 3, 4, 5], [], [⟨1002000, 95, (.pair (.int .i64) (.int .i64)), [.slot 3], false⟩], []⟩),
    (4, ⟨[0, 3, 4, 5, 8, 9], [512], [⟨1004000, 95, (.pair (.int .i64) (.int .i64)), [.slot 3], false⟩], []⟩)]
  keepX := [(0, .exit 0, ⟨[3], [], [⟨1500100, 95, (.pair (.int .i64) (.int .i64)), [.slot 3], false⟩], []⟩),
    (2, .exit 2, ⟨[0, 3, 4], [], [⟨1502300, 95, (.pair (.int .i64) (.int .i64)), [.slot 3], false⟩], []⟩),
    (4, .exit 4, ⟨[0, 3, 4, 5, 8, 9], [512], [⟨1504500, 95, (.pair (.int .i64) (.int .i64)), [.slot 3], false⟩], []⟩)]
  ro := [true]
  dw := [(9, [[], [], [], [], [], [], [], [], [], [], [], [], [], [], [512], [512]]), (14, [[], [], [], [], [], [], [], [5376]])]

set_option maxRecDepth 100000 in
theorem r04_occurrences_ok : Con.OK Try.prog r04_occurrences_con :=
  con_of tabOk mixedOk r04_occurrences_d r04_occurrences_con Try.f51 (Try.f51.body.getD .skip) Try.func51 (by kernel_rfl) (by kernel_rfl) (Nat.le_of_ble_eq_true (by kernel_rfl)) (by kernel_rfl) (And.intro r01_Nth_ok trivial) (by kernel_rfl) (by kernel_rfl)
    (And.intro (fun h => by kernel_rfl) (And.intro (fun h => by kernel_rfl) (And.intro (fun h => by kernel_rfl) trivial)))
    (fun h => by kernel_rfl)

noncomputable def r04_Transitions_con : Con := ⟨12, [.v (.pair .str (.pair (.int .i64) (.list (.pair (.int .i64) (.pair (.int .i64) (.pair (.int .i64) (.pair (.int .i64) (.pair (.int .i64) (.pair (.int .i64) (.int .i64))))))))))], [(.pair .str (.pair (.int .i64) (.list (.pair (.int .i64) (.pair (.int .i64) (.pair (.int .i64) (.pair (.int .i64) (.pair (.int .i64) (.pair (.int .i64) (.int .i64))))))))))], ⟨[.own 42 (.list (.pair (.int .i64) (.int .i64))), .v (.int .i64)], []⟩, [(.list (.pair (.int .i64) (.int .i64))), (.int .i64)], fun h => Pw.r04_Transitions h⟩

noncomputable def r04_Transitions_d : FnD where
  N := 119
  np := 1
  cs := [r04_in_con, r04_right_con, r04_occurrences_con]
  ds := [⟨0, [.s (.one (.bp 64 0)), .s (.one (.d (.int .i64))), .s (.one (.d (.int .i64))), .b (.cell [.d .str, .d (.int .i64), .d (.list (.pair (.int .i64) (.pair (.int .i64) (.pair (.int .i64) (.pair (.int .i64) (.pair (.int .i64) (.pair (.int .i64) (.int .i64))))))))] false)], [(.int .i64), (.int .i64), .str, (.int .i64), (.list (.pair (.int .i64) (.pair (.int .i64) (.pair (.int .i64) (.pair (.int .i64) (.pair (.int .i64) (.pair (.int .i64) (.int .i64))))))))], [⟨.ret, [.s (.one (.nil)), .s (.one (.d (.int .i64)))], [(.int .i64)]⟩, ⟨.exit 0, [.s (.one (.bp 64 0)), .s (.one (.d (.int .i64))), .b (.cell [.d .str, .d (.int .i64), .d (.list (.pair (.int .i64) (.pair (.int .i64) (.pair (.int .i64) (.pair (.int .i64) (.pair (.int .i64) (.pair (.int .i64) (.int .i64))))))))] false)], [(.int .i64), .str, (.int .i64), (.list (.pair (.int .i64) (.pair (.int .i64) (.pair (.int .i64) (.pair (.int .i64) (.pair (.int .i64) (.pair (.int .i64) (.int .i64))))))))]⟩], fun h => Pw.r04_Transitions_l0_step h.1 h.2.1 h.2.2.1 h.2.2.2.1 h.2.2.2.2⟩,
    ⟨2, [.s (.one (.ol 1002000)), .s (.one (.ol 1002001)), .s (.one (.d (.int .i64))), .s (.one (.d (.int .i64))), .b (.lst 42 (.pair (.int .i64) (.int .i64)) false), .b (.lst 95 (.pair (.int .i64) (.int .i64)) false)], [(.int .i64), (.int .i64), (.list (.pair (.int .i64) (.int .i64))), (.list (.pair (.int .i64) (.int .i64)))], [⟨.ret, [.s (.one (.nil)), .s (.one (.d (.int .i64)))], [(.int .i64)]⟩, ⟨.exit 2, [.s (.one (.ol 1502300)), .b (.lst 42 (.pair (.int .i64) (.int .i64)) false)], [(.list (.pair (.int .i64) (.int .i64)))]⟩], fun h => Pw.r04_Transitions_l2_step h.1 h.2.1 h.2.2.1 h.2.2.2⟩]
  modes := [(49, [false, false, false]), (50, [false]), (51, [false])]
  keep := [(0, ⟨[1, 4, 5], [64], [], []⟩),
    (2, ⟨[6, 7, 8, 9], [], [⟨1002000, 42, (.pair (.int .i64) (.int .i64)), [.slot 6], false⟩, ⟨1002001, 95, (.pair (.int .i64) (.int .i64)), [.slot 7], false⟩], []⟩)]
  keepX := [(0, .ret, ⟨[2, 3], [], [], []⟩),
    (0, .exit 0, ⟨[1, 4], [64], [], []⟩),
    (2, .ret, ⟨[2, 3], [], [], []⟩),
    (2, .exit 2, ⟨[6], [], [⟨1502300, 42, (.pair (.int .i64) (.int .i64)), [.slot 6], false⟩], []⟩)]
  ro := [true, false]
  dw := [(21, [[], [], [], [], [], [], [], [], [], [], [], [], [], [640], [640]]), (24, [[], [], [7296], [7360, 1002000], [], [], [], []])]

set_option maxRecDepth 100000 in
theorem r04_Transitions_ok : Con.OK Try.prog r04_Transitions_con :=
  con_of tabOk mixedOk r04_Transitions_d r04_Transitions_con Try.f12 (Try.f12.body.getD .skip) Try.func12 (by kernel_rfl) (by kernel_rfl) (Nat.le_of_ble_eq_true (by kernel_rfl)) (by kernel_rfl) (And.intro r04_in_ok (And.intro r04_right_ok (And.intro r04_occurrences_ok trivial))) (by kernel_rfl) (by kernel_rfl)
    (And.intro (fun h => by kernel_rfl) (And.intro (fun h => by kernel_rfl) trivial))
    (fun h => by kernel_rfl)

noncomputable def law04_same_con : Con := ⟨13, [.v (.list (.pair (.int .i64) (.int .i64))), .v (.list (.pair (.int .i64) (.int .i64)))], [(.list (.pair (.int .i64) (.int .i64))), (.list (.pair (.int .i64) (.int .i64)))], ⟨[.v .bool], []⟩, [.bool], fun h => Pw.law04_same h.1 h.2⟩

noncomputable def law04_same_d : FnD where
  N := 26
  np := 2
  cs := []
  ds := [⟨0, [.s (.one (.d (.list (.pair (.int .i64) (.int .i64))))), .s (.one (.d (.list (.pair (.int .i64) (.int .i64))))), .s (.one (.d (.int .i64))), .s (.one (.d (.int .i64)))], [(.list (.pair (.int .i64) (.int .i64))), (.list (.pair (.int .i64) (.int .i64))), (.int .i64), (.int .i64)], [⟨.ret, [.s (.one (.d .bool))], [.bool]⟩, ⟨.exit 0, [], []⟩], fun h => Pw.law04_same_l0_step h.1 h.2.1 h.2.2.1 h.2.2.2⟩]
  modes := []
  keep := [(0, ⟨[0, 1, 12, 13], [], [], []⟩)]
  keepX := [(0, .ret, ⟨[4], [], [], []⟩),
    (0, .exit 0, ⟨[], [], [], []⟩)]
  ro := [false]
  dw := []

set_option maxRecDepth 100000 in
theorem law04_same_ok : Con.OK Try.prog law04_same_con :=
  con_of tabOk mixedOk law04_same_d law04_same_con Try.f13 (Try.f13.body.getD .skip) Try.func13 (by kernel_rfl) (by kernel_rfl) (Nat.le_of_ble_eq_true (by kernel_rfl)) (by kernel_rfl) trivial (by kernel_rfl) (by kernel_rfl)
    (And.intro (fun h => by kernel_rfl) trivial)
    (fun h => by kernel_rfl)

noncomputable def zone_Check_con : Con := ⟨14, [.v (.pair .str (.pair (.int .i64) (.list (.pair (.int .i64) (.pair (.int .i64) (.pair (.int .i64) (.pair (.int .i64) (.pair (.int .i64) (.pair (.int .i64) (.int .i64))))))))))], [(.pair .str (.pair (.int .i64) (.list (.pair (.int .i64) (.pair (.int .i64) (.pair (.int .i64) (.pair (.int .i64) (.pair (.int .i64) (.pair (.int .i64) (.int .i64))))))))))], ⟨[.v (.int .i64)], []⟩, [(.int .i64)], fun h => Pw.zone_Check h⟩

noncomputable def zone_Check_d : FnD where
  N := 11
  np := 1
  cs := [zone_Transitions_con]
  ds := []
  modes := [(11, [false])]
  keep := []
  keepX := []
  ro := [false]
  dw := []

set_option maxRecDepth 100000 in
theorem zone_Check_ok : Con.OK Try.prog zone_Check_con :=
  con_of tabOk mixedOk zone_Check_d zone_Check_con Try.f14 (Try.f14.body.getD .skip) Try.func14 (by kernel_rfl) (by kernel_rfl) (Nat.le_of_ble_eq_true (by kernel_rfl)) (by kernel_rfl) (And.intro zone_Transitions_ok trivial) (by kernel_rfl) (by kernel_rfl)
    trivial
    (fun h => by kernel_rfl)

noncomputable def r04_Check_con : Con := ⟨15, [.v (.pair .str (.pair (.int .i64) (.list (.pair (.int .i64) (.pair (.int .i64) (.pair (.int .i64) (.pair (.int .i64) (.pair (.int .i64) (.pair (.int .i64) (.int .i64))))))))))], [(.pair .str (.pair (.int .i64) (.list (.pair (.int .i64) (.pair (.int .i64) (.pair (.int .i64) (.pair (.int .i64) (.pair (.int .i64) (.pair (.int .i64) (.int .i64))))))))))], ⟨[.v (.int .i64)], []⟩, [(.int .i64)], fun h => Pw.r04_Check h⟩

noncomputable def r04_Check_d : FnD where
  N := 11
  np := 1
  cs := [r04_Transitions_con]
  ds := []
  modes := [(12, [false])]
  keep := []
  keepX := []
  ro := [false]
  dw := []

set_option maxRecDepth 100000 in
theorem r04_Check_ok : Con.OK Try.prog r04_Check_con :=
  con_of tabOk mixedOk r04_Check_d r04_Check_con Try.f15 (Try.f15.body.getD .skip) Try.func15 (by kernel_rfl) (by kernel_rfl) (Nat.le_of_ble_eq_true (by kernel_rfl)) (by kernel_rfl) (And.intro r04_Transitions_ok trivial) (by kernel_rfl) (by kernel_rfl)
    trivial
    (fun h => by kernel_rfl)

noncomputable def zone_Table_Last_con : Con := ⟨53, [.v (.pair (.int .i64) (.list (.pair (.int .i64) (.int .i64))))], [(.pair (.int .i64) (.list (.pair (.int .i64) (.int .i64))))], ⟨[.v (.int .i64)], []⟩, [(.int .i64)], fun h => Pw.zone_Table_Last h⟩

noncomputable def zone_Table_Last_d : FnD where
  N := 16
  np := 1
  cs := []
  ds := []
  modes := []
  keep := []
  keepX := []
  ro := [false]
  dw := []

set_option maxRecDepth 100000 in
theorem zone_Table_Last_ok : Con.OK Try.prog zone_Table_Last_con :=
  con_of tabOk mixedOk zone_Table_Last_d zone_Table_Last_con Try.f53 (Try.f53.body.getD .skip) Try.func53 (by kernel_rfl) (by kernel_rfl) (Nat.le_of_ble_eq_true (by kernel_rfl)) (by kernel_rfl) trivial (by kernel_rfl) (by kernel_rfl)
    trivial
    (fun h => by kernel_rfl)
end Go.Proofs.Pk
