/- Contracts: each given function is its plain function, printed by a program. -/
import Derived.Test.YtielflihgdebiaaGreatCon5
open Go Go.Lft
set_option linter.unusedVariables false
set_option maxRecDepth 100000
namespace Go.Proofs.Pk

noncomputable def r04_right_con : Con := ⟨169, [.v ty57], [ty57], ⟨[.v .bool], []⟩, [.bool], fun h => Pw.r04_right h⟩

noncomputable def r04_right_d : FnD where
  N := 38
  np := 1
  cs := [r04_in_con]
  ds := []
  modes := [(168, [false, false, false])]
  ro := [false]

theorem r04_right_ok : Con.OK Tryz.prog r04_right_con :=
  con_of tabOk mixedOk r04_right_d r04_right_con Tryz.f169 (Tryz.f169.body.getD .skip) Tryz.func169 (by kernel_rfl) (by kernel_rfl) (Nat.le_of_ble_eq_true (by kernel_rfl)) (by kernel_rfl) (And.intro r04_in_ok trivial) (by kernel_rfl) (by kernel_rfl)
    trivial
    (fun h => by kernel_rfl)

noncomputable def r01_Leap_con : Con := ⟨324, [.v (.int .i64)], [(.int .i64)], ⟨[.v .bool], []⟩, [.bool], fun h => Pw.r01_Leap h⟩

noncomputable def r01_Leap_d : FnD where
  N := 16
  np := 1
  cs := []
  ds := []
  ro := [false]

theorem r01_Leap_ok : Con.OK Tryz.prog r01_Leap_con :=
  con_of tabOk mixedOk r01_Leap_d r01_Leap_con Tryz.f324 (Tryz.f324.body.getD .skip) Tryz.func324 (by kernel_rfl) (by kernel_rfl) (Nat.le_of_ble_eq_true (by kernel_rfl)) (by kernel_rfl) trivial (by kernel_rfl) (by kernel_rfl)
    trivial
    (fun h => by kernel_rfl)

noncomputable def r01_Days_con : Con := ⟨286, [.v (.int .i64), .v (.int .i64)], [(.int .i64), (.int .i64)], ⟨[.v (.int .i64)], []⟩, [(.int .i64)], fun h => Pw.r01_Days h.1 h.2⟩

noncomputable def r01_Days_d : FnD where
  N := 23
  np := 2
  cs := [r01_Leap_con]
  ds := []
  modes := [(324, [false])]
  ro := [false]

theorem r01_Days_ok : Con.OK Tryz.prog r01_Days_con :=
  con_of tabOk mixedOk r01_Days_d r01_Days_con Tryz.f286 (Tryz.f286.body.getD .skip) Tryz.func286 (by kernel_rfl) (by kernel_rfl) (Nat.le_of_ble_eq_true (by kernel_rfl)) (by kernel_rfl) (And.intro r01_Leap_ok trivial) (by kernel_rfl) (by kernel_rfl)
    trivial
    (fun h => by kernel_rfl)

noncomputable def r01_Valid_con : Con := ⟨323, [.v ty25], [ty25], ⟨[.v .bool], []⟩, [.bool], fun h => Pw.r01_Valid h⟩

noncomputable def r01_Valid_d : FnD where
  N := 36
  np := 1
  cs := [r01_Days_con]
  ds := []
  modes := [(286, [false, false])]
  ro := [false]

theorem r01_Valid_ok : Con.OK Tryz.prog r01_Valid_con :=
  con_of tabOk mixedOk r01_Valid_d r01_Valid_con Tryz.f323 (Tryz.f323.body.getD .skip) Tryz.func323 (by kernel_rfl) (by kernel_rfl) (Nat.le_of_ble_eq_true (by kernel_rfl)) (by kernel_rfl) (And.intro r01_Days_ok trivial) (by kernel_rfl) (by kernel_rfl)
    trivial
    (fun h => by kernel_rfl)

noncomputable def r01_year_con : Con := ⟨288, [.v (.int .i64)], [(.int .i64)], ⟨[.v (.int .i64)], []⟩, [(.int .i64)], fun h => Pw.r01_year h⟩

noncomputable def r01_year_d : FnD where
  N := 18
  np := 1
  cs := []
  ds := []
  ro := [false]

theorem r01_year_ok : Con.OK Tryz.prog r01_year_con :=
  con_of tabOk mixedOk r01_year_d r01_year_con Tryz.f288 (Tryz.f288.body.getD .skip) Tryz.func288 (by kernel_rfl) (by kernel_rfl) (Nat.le_of_ble_eq_true (by kernel_rfl)) (by kernel_rfl) trivial (by kernel_rfl) (by kernel_rfl)
    trivial
    (fun h => by kernel_rfl)

noncomputable def r01_Day_con : Con := ⟨285, [.v ty25], [ty25], ⟨[.v (.int .i64), .v (.int .i64)], []⟩, [(.int .i64), (.int .i64)], fun h => Pw.r01_Day h⟩

noncomputable def r01_Day_d : FnD where
  N := 29
  np := 1
  cs := [r01_Days_con, r01_Valid_con, r01_year_con]
  ds := [⟨0, [.s (.one (.bp 64 0)), .s (.one (.d (.int .i64))), .s (.one (.d (.int .i64))), .b (.cell [.d (.int .i64), .d (.int .i64), .d (.int .i64)] false)], [(.int .i64), (.int .i64), (.int .i64), (.int .i64), (.int .i64)], [⟨.exit 0, [.s (.one (.bp 64 0)), .s (.one (.d (.int .i64))), .b (.cell [.d (.int .i64), .d (.int .i64), .d (.int .i64)] false)], [(.int .i64), (.int .i64), (.int .i64), (.int .i64)]⟩], fun h => Pw.r01_Day_l0_step h.1 h.2.1 h.2.2.1 h.2.2.2.1 h.2.2.2.2⟩]
  modes := [(286, [false, false]), (288, [false]), (323, [false])]
  keep := [(0, ⟨[1, 4, 5], [64], [], []⟩)]
  keepX := [(0, .exit 0, ⟨[1, 4], [64], [], []⟩)]
  ro := [false, false]

theorem r01_Day_ok : Con.OK Tryz.prog r01_Day_con :=
  con_of tabOk mixedOk r01_Day_d r01_Day_con Tryz.f285 (Tryz.f285.body.getD .skip) Tryz.func285 (by kernel_rfl) (by kernel_rfl) (Nat.le_of_ble_eq_true (by kernel_rfl)) (by kernel_rfl) (And.intro r01_Days_ok (And.intro r01_Valid_ok (And.intro r01_year_ok trivial))) (by kernel_rfl) (by kernel_rfl)
    (And.intro (fun h => by kernel_rfl) trivial)
    (fun h => by kernel_rfl)

noncomputable def r01_Weekday_con : Con := ⟨164, [.v (.int .i64)], [(.int .i64)], ⟨[.v (.int .i64)], []⟩, [(.int .i64)], fun h => Pw.r01_Weekday h⟩

noncomputable def r01_Weekday_d : FnD where
  N := 7
  np := 1
  cs := []
  ds := []
  ro := [false]

theorem r01_Weekday_ok : Con.OK Tryz.prog r01_Weekday_con :=
  con_of tabOk mixedOk r01_Weekday_d r01_Weekday_con Tryz.f164 (Tryz.f164.body.getD .skip) Tryz.func164 (by kernel_rfl) (by kernel_rfl) (Nat.le_of_ble_eq_true (by kernel_rfl)) (by kernel_rfl) trivial (by kernel_rfl) (by kernel_rfl)
    trivial
    (fun h => by kernel_rfl)

noncomputable def r01_Nth_con : Con := ⟨238, [.v (.int .i64), .v (.int .i64), .v (.int .i64), .v (.int .i64)], [(.int .i64), (.int .i64), (.int .i64), (.int .i64)], ⟨[.v (.int .i64), .v (.int .i64)], []⟩, [(.int .i64), (.int .i64)], fun h => Pw.r01_Nth h.1 h.2.1 h.2.2.1 h.2.2.2⟩

noncomputable def r01_Nth_d : FnD where
  N := 63
  np := 4
  cs := [r01_Days_con, r01_Day_con, r01_Weekday_con]
  ds := [⟨0, [.s (.one (.d (.int .i64))), .s (.one (.d (.int .i64))), .s (.one (.d (.int .i64))), .s (.one (.d (.int .i64))), .s (.one (.d (.int .i64))), .s (.one (.d (.int .i64)))], [(.int .i64), (.int .i64), (.int .i64), (.int .i64), (.int .i64), (.int .i64)], [⟨.exit 0, [.s (.one (.d (.int .i64))), .s (.one (.d (.int .i64))), .s (.one (.d (.int .i64))), .s (.one (.d (.int .i64))), .s (.one (.d (.int .i64)))], [(.int .i64), (.int .i64), (.int .i64), (.int .i64), (.int .i64)]⟩], fun h => Pw.r01_Nth_l0_step h.1 h.2.1 h.2.2.1 h.2.2.2.1 h.2.2.2.2.1 h.2.2.2.2.2⟩,
    ⟨2, [.s (.one (.d (.int .i64))), .s (.one (.d (.int .i64))), .s (.one (.d (.int .i64))), .s (.one (.d (.int .i64)))], [(.int .i64), (.int .i64), (.int .i64), (.int .i64)], [⟨.exit 2, [.s (.one (.d (.int .i64)))], [(.int .i64)]⟩], fun h => Pw.r01_Nth_l2_step h.1 h.2.1 h.2.2.1 h.2.2.2⟩]
  modes := [(164, [false]), (285, [false]), (286, [false, false])]
  keep := [(0, ⟨[0, 1, 2, 3, 10, 12], [], [], []⟩),
    (2, ⟨[0, 1, 10, 12], [], [], []⟩)]
  keepX := [(0, .exit 0, ⟨[0, 1, 2, 10, 12], [], [], []⟩),
    (2, .exit 2, ⟨[12], [], [], []⟩)]
  ro := [false, false]

theorem r01_Nth_ok : Con.OK Tryz.prog r01_Nth_con :=
  con_of tabOk mixedOk r01_Nth_d r01_Nth_con Tryz.f238 (Tryz.f238.body.getD .skip) Tryz.func238 (by kernel_rfl) (by kernel_rfl) (Nat.le_of_ble_eq_true (by kernel_rfl)) (by kernel_rfl) (And.intro r01_Days_ok (And.intro r01_Day_ok (And.intro r01_Weekday_ok trivial))) (by kernel_rfl) (by kernel_rfl)
    (And.intro (fun h => by kernel_rfl) (And.intro (fun h => by kernel_rfl) trivial))
    (fun h => by kernel_rfl)

noncomputable def r04_occurrences_con : Con := ⟨170, [.v ty60], [ty60], ⟨[.own 215 ty16], []⟩, [ty16], fun h => Pw.r04_occurrences h⟩

noncomputable def r04_occurrences_d : FnD where
  N := 98
  np := 1
  cs := [r01_Nth_con]
  ds := [⟨0, [.s (.one (.d ty60)), .s (.one (.ol 1000000)), .s (.one (.d (.int .i64))), .b (.lst 215 ty10 false)], [ty60, (.int .i64), ty16], [⟨.exit 0, [.s (.one (.ol 1500100)), .b (.lst 215 ty10 false)], [ty16]⟩], fun h => Pw.r04_occurrences_l0_step h.1 h.2.1 h.2.2⟩,
    ⟨2, [.s (.one (.d ty60)), .s (.one (.ol 1002000)), .s (.one (.d (.int .i64))), .s (.one (.d (.int .i64))), .b (.lst 215 ty10 false)], [ty60, (.int .i64), (.int .i64), ty16], [⟨.exit 2, [.s (.one (.d ty60)), .s (.one (.ol 1502300)), .s (.one (.d (.int .i64))), .b (.lst 215 ty10 false)], [ty60, (.int .i64), ty16]⟩], fun h => Pw.r04_occurrences_l2_step h.1 h.2.1 h.2.2.1 h.2.2.2⟩,
    ⟨4, [.s (.one (.d ty60)), .s (.one (.ol 1004000)), .s (.one (.d (.int .i64))), .s (.one (.d (.int .i64))), .s (.one (.bp 512 0)), .s (.one (.d (.int .i64))), .b (.cell [.d (.int .i64), .d (.int .i64)] false), .b (.lst 215 ty10 false)], [ty60, (.int .i64), (.int .i64), (.int .i64), (.int .i64), (.int .i64), ty16], [⟨.exit 4, [.s (.one (.d ty60)), .s (.one (.ol 1504500)), .s (.one (.d (.int .i64))), .s (.one (.d (.int .i64))), .s (.one (.bp 512 0)), .s (.one (.d (.int .i64))), .b (.cell [.d (.int .i64), .d (.int .i64)] false), .b (.lst 215 ty10 false)], [ty60, (.int .i64), (.int .i64), (.int .i64), (.int .i64), (.int .i64), ty16]⟩], fun h => Pw.r04_occurrences_l4_step h.1 h.2.1 h.2.2.1 h.2.2.2.1 h.2.2.2.2.1 h.2.2.2.2.2.1 h.2.2.2.2.2.2⟩]
  modes := [(238, [false, false, false, false])]
  keep := [(0, ⟨[0, 3, 4], [], [⟨1000000, 215, ty10, [.slot 3], false⟩], []⟩),
    (2, ⟨[0, 3, 4, 5], [], [⟨1002000, 215, ty10, [.slot 3], false⟩], []⟩),
    (4, ⟨[0, 3, 4, 5, 8, 9], [512], [⟨1004000, 215, ty10, [.slot 3], false⟩], []⟩)]
  keepX := [(0, .exit 0, ⟨[3], [], [⟨1500100, 215, ty10, [.slot 3], false⟩], []⟩),
    (2, .exit 2, ⟨[0, 3, 4], [], [⟨1502300, 215, ty10, [.slot 3], false⟩], []⟩),
    (4, .exit 4, ⟨[0, 3, 4, 5, 8, 9], [512], [⟨1504500, 215, ty10, [.slot 3], false⟩], []⟩)]
  ro := [true]
  dw := [(9, [[], [], [], [], [], [], [], [], [], [], [], [], [], [], [512], [512]]), (14, [[], [], [], [], [], [], [], [5376]])]

theorem r04_occurrences_ok : Con.OK Tryz.prog r04_occurrences_con :=
  con_of tabOk mixedOk r04_occurrences_d r04_occurrences_con Tryz.f170 (Tryz.f170.body.getD .skip) Tryz.func170 (by kernel_rfl) (by kernel_rfl) (Nat.le_of_ble_eq_true (by kernel_rfl)) (by kernel_rfl) (And.intro r01_Nth_ok trivial) (by kernel_rfl) (by kernel_rfl)
    (And.intro (fun h => by kernel_rfl) (And.intro (fun h => by kernel_rfl) (And.intro (fun h => by kernel_rfl) trivial)))
    (fun h => by kernel_rfl)

noncomputable def r04_Transitions_con : Con := ⟨104, [.v ty67], [ty67], ⟨[.own 150 ty16, .v (.int .i64)], []⟩, [ty16, (.int .i64)], fun h => Pw.r04_Transitions h⟩

noncomputable def r04_Transitions_d : FnD where
  N := 119
  np := 1
  cs := [r04_in_con, r04_right_con, r04_occurrences_con]
  ds := [⟨0, [.s (.one (.bp 64 0)), .s (.one (.d (.int .i64))), .s (.one (.d (.int .i64))), .b (.cell [.d .str, .d (.int .i64), .d ty60] false)], [(.int .i64), (.int .i64), .str, (.int .i64), ty60], [⟨.ret, [.s (.one (.nil)), .s (.one (.d (.int .i64)))], [(.int .i64)]⟩, ⟨.exit 0, [.s (.one (.bp 64 0)), .s (.one (.d (.int .i64))), .b (.cell [.d .str, .d (.int .i64), .d ty60] false)], [(.int .i64), .str, (.int .i64), ty60]⟩], fun h => Pw.r04_Transitions_l0_step h.1 h.2.1 h.2.2.1 h.2.2.2.1 h.2.2.2.2⟩,
    ⟨2, [.s (.one (.ol 1002000)), .s (.one (.ol 1002001)), .s (.one (.d (.int .i64))), .s (.one (.d (.int .i64))), .b (.lst 150 ty10 false), .b (.lst 215 ty10 false)], [(.int .i64), (.int .i64), ty16, ty16], [⟨.ret, [.s (.one (.nil)), .s (.one (.d (.int .i64)))], [(.int .i64)]⟩, ⟨.exit 2, [.s (.one (.ol 1502300)), .b (.lst 150 ty10 false)], [ty16]⟩], fun h => Pw.r04_Transitions_l2_step h.1 h.2.1 h.2.2.1 h.2.2.2⟩]
  modes := [(168, [false, false, false]), (169, [false]), (170, [false])]
  keep := [(0, ⟨[1, 4, 5], [64], [], []⟩),
    (2, ⟨[6, 7, 8, 9], [], [⟨1002000, 150, ty10, [.slot 6], false⟩, ⟨1002001, 215, ty10, [.slot 7], false⟩], []⟩)]
  keepX := [(0, .ret, ⟨[2, 3], [], [], []⟩),
    (0, .exit 0, ⟨[1, 4], [64], [], []⟩),
    (2, .ret, ⟨[2, 3], [], [], []⟩),
    (2, .exit 2, ⟨[6], [], [⟨1502300, 150, ty10, [.slot 6], false⟩], []⟩)]
  ro := [true, false]
  dw := [(21, [[], [], [], [], [], [], [], [], [], [], [], [], [], [640], [640]]), (24, [[], [], [7296], [7360, 1002000], [], [], [], []])]

theorem r04_Transitions_ok : Con.OK Tryz.prog r04_Transitions_con :=
  con_of tabOk mixedOk r04_Transitions_d r04_Transitions_con Tryz.f104 (Tryz.f104.body.getD .skip) Tryz.func104 (by kernel_rfl) (by kernel_rfl) (Nat.le_of_ble_eq_true (by kernel_rfl)) (by kernel_rfl) (And.intro r04_in_ok (And.intro r04_right_ok (And.intro r04_occurrences_ok trivial))) (by kernel_rfl) (by kernel_rfl)
    (And.intro (fun h => by kernel_rfl) (And.intro (fun h => by kernel_rfl) trivial))
    (fun h => by kernel_rfl)

noncomputable def r04_offset_con : Con := ⟨188, [.v ty67, .v ty16, .v (.int .i64)], [ty67, ty16, (.int .i64)], ⟨[.v (.int .i64)], []⟩, [(.int .i64)], fun h => Pw.r04_offset h.1 h.2.1 h.2.2⟩

noncomputable def r04_offset_d : FnD where
  N := 32
  np := 3
  cs := []
  ds := [⟨0, [.s (.one (.d ty16)), .s (.one (.d (.int .i64))), .s (.one (.d (.int .i64))), .s (.one (.d (.int .i64)))], [ty16, (.int .i64), (.int .i64), (.int .i64)], [⟨.exit 0, [.s (.one (.d (.int .i64)))], [(.int .i64)]⟩], fun h => Pw.r04_offset_l0_step h.1 h.2.1 h.2.2.1 h.2.2.2⟩]
  keep := [(0, ⟨[1, 2, 7, 8], [], [], []⟩)]
  keepX := [(0, .exit 0, ⟨[7], [], [], []⟩)]
  ro := [false]

theorem r04_offset_ok : Con.OK Tryz.prog r04_offset_con :=
  con_of tabOk mixedOk r04_offset_d r04_offset_con Tryz.f188 (Tryz.f188.body.getD .skip) Tryz.func188 (by kernel_rfl) (by kernel_rfl) (Nat.le_of_ble_eq_true (by kernel_rfl)) (by kernel_rfl) trivial (by kernel_rfl) (by kernel_rfl)
    (And.intro (fun h => by kernel_rfl) trivial)
    (fun h => by kernel_rfl)

noncomputable def r04_OffsetAt_con : Con := ⟨129, [.v ty67, .v (.int .i64)], [ty67, (.int .i64)], ⟨[.v (.int .i64), .v (.int .i64)], []⟩, [(.int .i64), (.int .i64)], fun h => Pw.r04_OffsetAt h.1 h.2⟩

noncomputable def r04_OffsetAt_d : FnD where
  N := 22
  np := 2
  cs := [r04_in_con, r04_Transitions_con, r04_offset_con]
  ds := []
  modes := [(104, [false]), (168, [false, false, false]), (188, [false, false, false])]
  ro := [false, false]

theorem r04_OffsetAt_ok : Con.OK Tryz.prog r04_OffsetAt_con :=
  con_of tabOk mixedOk r04_OffsetAt_d r04_OffsetAt_con Tryz.f129 (Tryz.f129.body.getD .skip) Tryz.func129 (by kernel_rfl) (by kernel_rfl) (Nat.le_of_ble_eq_true (by kernel_rfl)) (by kernel_rfl) (And.intro r04_in_ok (And.intro r04_Transitions_ok (And.intro r04_offset_ok trivial))) (by kernel_rfl) (by kernel_rfl)
    trivial
    (fun h => by kernel_rfl)

noncomputable def r04_local_con : Con := ⟨130, [.v (.int .i64), .v (.int .i64)], [(.int .i64), (.int .i64)], ⟨[.v ty10], []⟩, [ty10], fun h => Pw.r04_local h.1 h.2⟩

noncomputable def r04_local_d : FnD where
  N := 16
  np := 2
  cs := []
  ds := []
  ro := [false]

theorem r04_local_ok : Con.OK Tryz.prog r04_local_con :=
  con_of tabOk mixedOk r04_local_d r04_local_con Tryz.f130 (Tryz.f130.body.getD .skip) Tryz.func130 (by kernel_rfl) (by kernel_rfl) (Nat.le_of_ble_eq_true (by kernel_rfl)) (by kernel_rfl) trivial (by kernel_rfl) (by kernel_rfl)
    trivial
    (fun h => by kernel_rfl)

noncomputable def r04_ToLocal_con : Con := ⟨71, [.v ty67, .v (.int .i64)], [ty67, (.int .i64)], ⟨[.v ty10, .v (.int .i64)], []⟩, [ty10, (.int .i64)], fun h => Pw.r04_ToLocal h.1 h.2⟩

noncomputable def r04_ToLocal_d : FnD where
  N := 21
  np := 2
  cs := [r04_OffsetAt_con, r04_local_con]
  ds := []
  modes := [(129, [false, false]), (130, [false, false])]
  ro := [false, false]

theorem r04_ToLocal_ok : Con.OK Tryz.prog r04_ToLocal_con :=
  con_of tabOk mixedOk r04_ToLocal_d r04_ToLocal_con Tryz.f71 (Tryz.f71.body.getD .skip) Tryz.func71 (by kernel_rfl) (by kernel_rfl) (Nat.le_of_ble_eq_true (by kernel_rfl)) (by kernel_rfl) (And.intro r04_OffsetAt_ok (And.intro r04_local_ok trivial)) (by kernel_rfl) (by kernel_rfl)
    trivial
    (fun h => by kernel_rfl)

noncomputable def law11_DutyCalendars_con : Con := ⟨14, [.v (.list (.int .i64)), .v (.int .i64)], [(.list (.int .i64)), (.int .i64)], ⟨[.v .bool], []⟩, [.bool], fun h => Pw.law11_DutyCalendars h.1 h.2⟩

noncomputable def law11_DutyCalendars_d : FnD where
  N := 137
  np := 2
  cs := [made_Light_con, duty_Person_con, law11_sane_con, made_Roll_con, made_Dice_Next_con, made_Dice_Layer_con, made_Dice_Instant_con, made_Dice_Config_con, made_Mod_con, r04_ToLocal_con]
  ds := [⟨0, [.s (.one (.d (.int .i64))), .s (.one (.bp 1600 0)), .s (.one (.bp 384 0)), .s (.one (.bp 448 0)), .s (.one (.bp 512 0)), .s (.one (.bp 576 0)), .s (.one (.d (.int .i64))), .b (.cell [.d ty68, .d ty58, .ol 1000000, .nil] false), .b (.cell [.d .str, .d (.int .i64), .d (.int .i64), .d (.int .i64), .d (.int .i64), .d (.int .i64), .d (.list (.int .i64)), .d ty16, .d (.int .i64), .d (.int .i64)] false), .b (.cell [.d .str, .d (.int .i64), .d (.int .i64), .d (.int .i64), .d (.int .i64), .d (.int .i64), .d (.list (.int .i64)), .d ty16, .d (.int .i64), .d (.int .i64)] false), .b (.cell [.d .str, .d (.int .i64), .d (.int .i64), .d (.int .i64), .d (.int .i64), .d (.int .i64), .d (.list (.int .i64)), .d ty16, .d (.int .i64), .d (.int .i64)] false), .b (.cell [.d (.list (.int .i64)), .d (.int .i64)] false), .b (.lst 105 ty27 true)], ((.int .i64) :: (.int .i64) :: ty68 :: ty58 :: .str :: (.int .i64) :: (.int .i64) :: (.int .i64) :: (.int .i64) :: (.int .i64) :: (.list (.int .i64)) :: ty16 :: (.int .i64) :: (.int .i64) :: .str :: (.int .i64) :: (.int .i64) :: (.int .i64) :: (.int .i64) :: (.int .i64) :: (.list (.int .i64)) :: ty16 :: (.int .i64) :: (.int .i64) :: .str :: (.int .i64) :: (.int .i64) :: (.int .i64) :: (.int .i64) :: (.int .i64) :: (.list (.int .i64)) :: ty16 :: (.int .i64) :: (.int .i64) :: (.list (.int .i64)) :: (.int .i64) :: ty32 :: []), [⟨.ret, [.s (.one (.d .bool))], [.bool]⟩, ⟨.exit 0, [], []⟩], fun h => Pw.law11_DutyCalendars_l0_step h.1 h.2.1 h.2.2.1 h.2.2.2.1 h.2.2.2.2.1 h.2.2.2.2.2.1 h.2.2.2.2.2.2.1 h.2.2.2.2.2.2.2.1 h.2.2.2.2.2.2.2.2.1 h.2.2.2.2.2.2.2.2.2.1 h.2.2.2.2.2.2.2.2.2.2.1 h.2.2.2.2.2.2.2.2.2.2.2.1 h.2.2.2.2.2.2.2.2.2.2.2.2.1 h.2.2.2.2.2.2.2.2.2.2.2.2.2.1 h.2.2.2.2.2.2.2.2.2.2.2.2.2.2.1 h.2.2.2.2.2.2.2.2.2.2.2.2.2.2.2.1 h.2.2.2.2.2.2.2.2.2.2.2.2.2.2.2.2.1 h.2.2.2.2.2.2.2.2.2.2.2.2.2.2.2.2.2.1 h.2.2.2.2.2.2.2.2.2.2.2.2.2.2.2.2.2.2.1 h.2.2.2.2.2.2.2.2.2.2.2.2.2.2.2.2.2.2.2.1 h.2.2.2.2.2.2.2.2.2.2.2.2.2.2.2.2.2.2.2.2.1 h.2.2.2.2.2.2.2.2.2.2.2.2.2.2.2.2.2.2.2.2.2.1 h.2.2.2.2.2.2.2.2.2.2.2.2.2.2.2.2.2.2.2.2.2.2.1 h.2.2.2.2.2.2.2.2.2.2.2.2.2.2.2.2.2.2.2.2.2.2.2.1 h.2.2.2.2.2.2.2.2.2.2.2.2.2.2.2.2.2.2.2.2.2.2.2.2.1 h.2.2.2.2.2.2.2.2.2.2.2.2.2.2.2.2.2.2.2.2.2.2.2.2.2.1 h.2.2.2.2.2.2.2.2.2.2.2.2.2.2.2.2.2.2.2.2.2.2.2.2.2.2.1 h.2.2.2.2.2.2.2.2.2.2.2.2.2.2.2.2.2.2.2.2.2.2.2.2.2.2.2.1 h.2.2.2.2.2.2.2.2.2.2.2.2.2.2.2.2.2.2.2.2.2.2.2.2.2.2.2.2.1 h.2.2.2.2.2.2.2.2.2.2.2.2.2.2.2.2.2.2.2.2.2.2.2.2.2.2.2.2.2.1 h.2.2.2.2.2.2.2.2.2.2.2.2.2.2.2.2.2.2.2.2.2.2.2.2.2.2.2.2.2.2.1 h.2.2.2.2.2.2.2.2.2.2.2.2.2.2.2.2.2.2.2.2.2.2.2.2.2.2.2.2.2.2.2.1 h.2.2.2.2.2.2.2.2.2.2.2.2.2.2.2.2.2.2.2.2.2.2.2.2.2.2.2.2.2.2.2.2.1 h.2.2.2.2.2.2.2.2.2.2.2.2.2.2.2.2.2.2.2.2.2.2.2.2.2.2.2.2.2.2.2.2.2.1 h.2.2.2.2.2.2.2.2.2.2.2.2.2.2.2.2.2.2.2.2.2.2.2.2.2.2.2.2.2.2.2.2.2.2.1 h.2.2.2.2.2.2.2.2.2.2.2.2.2.2.2.2.2.2.2.2.2.2.2.2.2.2.2.2.2.2.2.2.2.2.2.1 h.2.2.2.2.2.2.2.2.2.2.2.2.2.2.2.2.2.2.2.2.2.2.2.2.2.2.2.2.2.2.2.2.2.2.2.2⟩,
    ⟨2, [.s (.one (.d (.int .i64))), .s (.one (.bp 1600 0)), .s (.one (.bp 384 0)), .s (.one (.bp 448 0)), .s (.one (.bp 512 0)), .s (.one (.bp 576 0)), .s (.one (.d (.int .i64))), .s (.one (.d (.int .i64))), .s (.one (.d (.int .i64))), .s (.one (.d (.int .i64))), .s (.one (.bp 960 0)), .s (.one (.d (.int .i64))), .s (.one (.d .bool)), .s (.one (.d (.list (.int .i64)))), .s (.one (.d (.int .i64))), .s (.one (.d (.int .i64))), .b (.cell [.d ty68, .d ty58, .ol 1002000, .nil] false), .b (.cell [.d .str, .d (.int .i64), .d (.int .i64), .d (.int .i64), .d (.int .i64), .d (.int .i64), .d (.list (.int .i64)), .d ty16, .d (.int .i64), .d (.int .i64)] false), .b (.cell [.d .str, .d (.int .i64), .d (.int .i64), .d (.int .i64), .d (.int .i64), .d (.int .i64), .d (.list (.int .i64)), .d ty16, .d (.int .i64), .d (.int .i64)] false), .b (.cell [.d .str, .d (.int .i64), .d (.int .i64), .d (.int .i64), .d (.int .i64), .d (.int .i64), .d (.list (.int .i64)), .d ty16, .d (.int .i64), .d (.int .i64)] false), .b (.cell [.d (.int .i64), .d (.int .i64)] false), .b (.cell [.d (.list (.int .i64)), .d (.int .i64)] false), .b (.lst 105 ty27 true)], ((.int .i64) :: (.int .i64) :: (.int .i64) :: (.int .i64) :: (.int .i64) :: (.int .i64) :: .bool :: (.list (.int .i64)) :: (.int .i64) :: (.int .i64) :: ty68 :: ty58 :: .str :: (.int .i64) :: (.int .i64) :: (.int .i64) :: (.int .i64) :: (.int .i64) :: (.list (.int .i64)) :: ty16 :: (.int .i64) :: (.int .i64) :: .str :: (.int .i64) :: (.int .i64) :: (.int .i64) :: (.int .i64) :: (.int .i64) :: (.list (.int .i64)) :: ty16 :: (.int .i64) :: (.int .i64) :: .str :: (.int .i64) :: (.int .i64) :: (.int .i64) :: (.int .i64) :: (.int .i64) :: (.list (.int .i64)) :: ty16 :: (.int .i64) :: (.int .i64) :: (.int .i64) :: (.int .i64) :: (.list (.int .i64)) :: (.int .i64) :: ty32 :: []), [⟨.exit 2, [.s (.one (.d (.int .i64))), .s (.one (.bp 1600 0)), .s (.one (.bp 384 0)), .s (.one (.bp 448 0)), .s (.one (.bp 512 0)), .s (.one (.bp 576 0)), .s (.one (.d (.int .i64))), .s (.one (.d (.int .i64))), .s (.one (.d (.int .i64))), .s (.one (.d (.int .i64))), .s (.one (.d (.int .i64))), .s (.one (.d .bool)), .b (.cell [.d ty68, .d ty58, .ol 1502300, .nil] false), .b (.cell [.d .str, .d (.int .i64), .d (.int .i64), .d (.int .i64), .d (.int .i64), .d (.int .i64), .d (.list (.int .i64)), .d ty16, .d (.int .i64), .d (.int .i64)] false), .b (.cell [.d .str, .d (.int .i64), .d (.int .i64), .d (.int .i64), .d (.int .i64), .d (.int .i64), .d (.list (.int .i64)), .d ty16, .d (.int .i64), .d (.int .i64)] false), .b (.cell [.d .str, .d (.int .i64), .d (.int .i64), .d (.int .i64), .d (.int .i64), .d (.int .i64), .d (.list (.int .i64)), .d ty16, .d (.int .i64), .d (.int .i64)] false), .b (.cell [.d (.list (.int .i64)), .d (.int .i64)] false), .b (.lst 105 ty27 true)], ((.int .i64) :: (.int .i64) :: (.int .i64) :: (.int .i64) :: (.int .i64) :: (.int .i64) :: .bool :: ty68 :: ty58 :: .str :: (.int .i64) :: (.int .i64) :: (.int .i64) :: (.int .i64) :: (.int .i64) :: (.list (.int .i64)) :: ty16 :: (.int .i64) :: (.int .i64) :: .str :: (.int .i64) :: (.int .i64) :: (.int .i64) :: (.int .i64) :: (.int .i64) :: (.list (.int .i64)) :: ty16 :: (.int .i64) :: (.int .i64) :: .str :: (.int .i64) :: (.int .i64) :: (.int .i64) :: (.int .i64) :: (.int .i64) :: (.list (.int .i64)) :: ty16 :: (.int .i64) :: (.int .i64) :: (.list (.int .i64)) :: (.int .i64) :: ty32 :: [])⟩], fun h => Pw.law11_DutyCalendars_l2_step h.1 h.2.1 h.2.2.1 h.2.2.2.1 h.2.2.2.2.1 h.2.2.2.2.2.1 h.2.2.2.2.2.2.1 h.2.2.2.2.2.2.2.1 h.2.2.2.2.2.2.2.2.1 h.2.2.2.2.2.2.2.2.2.1 h.2.2.2.2.2.2.2.2.2.2.1 h.2.2.2.2.2.2.2.2.2.2.2.1 h.2.2.2.2.2.2.2.2.2.2.2.2.1 h.2.2.2.2.2.2.2.2.2.2.2.2.2.1 h.2.2.2.2.2.2.2.2.2.2.2.2.2.2.1 h.2.2.2.2.2.2.2.2.2.2.2.2.2.2.2.1 h.2.2.2.2.2.2.2.2.2.2.2.2.2.2.2.2.1 h.2.2.2.2.2.2.2.2.2.2.2.2.2.2.2.2.2.1 h.2.2.2.2.2.2.2.2.2.2.2.2.2.2.2.2.2.2.1 h.2.2.2.2.2.2.2.2.2.2.2.2.2.2.2.2.2.2.2.1 h.2.2.2.2.2.2.2.2.2.2.2.2.2.2.2.2.2.2.2.2.1 h.2.2.2.2.2.2.2.2.2.2.2.2.2.2.2.2.2.2.2.2.2.1 h.2.2.2.2.2.2.2.2.2.2.2.2.2.2.2.2.2.2.2.2.2.2.1 h.2.2.2.2.2.2.2.2.2.2.2.2.2.2.2.2.2.2.2.2.2.2.2.1 h.2.2.2.2.2.2.2.2.2.2.2.2.2.2.2.2.2.2.2.2.2.2.2.2.1 h.2.2.2.2.2.2.2.2.2.2.2.2.2.2.2.2.2.2.2.2.2.2.2.2.2.1 h.2.2.2.2.2.2.2.2.2.2.2.2.2.2.2.2.2.2.2.2.2.2.2.2.2.2.1 h.2.2.2.2.2.2.2.2.2.2.2.2.2.2.2.2.2.2.2.2.2.2.2.2.2.2.2.1 h.2.2.2.2.2.2.2.2.2.2.2.2.2.2.2.2.2.2.2.2.2.2.2.2.2.2.2.2.1 h.2.2.2.2.2.2.2.2.2.2.2.2.2.2.2.2.2.2.2.2.2.2.2.2.2.2.2.2.2.1 h.2.2.2.2.2.2.2.2.2.2.2.2.2.2.2.2.2.2.2.2.2.2.2.2.2.2.2.2.2.2.1 h.2.2.2.2.2.2.2.2.2.2.2.2.2.2.2.2.2.2.2.2.2.2.2.2.2.2.2.2.2.2.2.1 h.2.2.2.2.2.2.2.2.2.2.2.2.2.2.2.2.2.2.2.2.2.2.2.2.2.2.2.2.2.2.2.2.1 h.2.2.2.2.2.2.2.2.2.2.2.2.2.2.2.2.2.2.2.2.2.2.2.2.2.2.2.2.2.2.2.2.2.1 h.2.2.2.2.2.2.2.2.2.2.2.2.2.2.2.2.2.2.2.2.2.2.2.2.2.2.2.2.2.2.2.2.2.2.1 h.2.2.2.2.2.2.2.2.2.2.2.2.2.2.2.2.2.2.2.2.2.2.2.2.2.2.2.2.2.2.2.2.2.2.2.1 h.2.2.2.2.2.2.2.2.2.2.2.2.2.2.2.2.2.2.2.2.2.2.2.2.2.2.2.2.2.2.2.2.2.2.2.2.1 h.2.2.2.2.2.2.2.2.2.2.2.2.2.2.2.2.2.2.2.2.2.2.2.2.2.2.2.2.2.2.2.2.2.2.2.2.2.1 h.2.2.2.2.2.2.2.2.2.2.2.2.2.2.2.2.2.2.2.2.2.2.2.2.2.2.2.2.2.2.2.2.2.2.2.2.2.2.1 h.2.2.2.2.2.2.2.2.2.2.2.2.2.2.2.2.2.2.2.2.2.2.2.2.2.2.2.2.2.2.2.2.2.2.2.2.2.2.2.1 h.2.2.2.2.2.2.2.2.2.2.2.2.2.2.2.2.2.2.2.2.2.2.2.2.2.2.2.2.2.2.2.2.2.2.2.2.2.2.2.2.1 h.2.2.2.2.2.2.2.2.2.2.2.2.2.2.2.2.2.2.2.2.2.2.2.2.2.2.2.2.2.2.2.2.2.2.2.2.2.2.2.2.2.1 h.2.2.2.2.2.2.2.2.2.2.2.2.2.2.2.2.2.2.2.2.2.2.2.2.2.2.2.2.2.2.2.2.2.2.2.2.2.2.2.2.2.2.1 h.2.2.2.2.2.2.2.2.2.2.2.2.2.2.2.2.2.2.2.2.2.2.2.2.2.2.2.2.2.2.2.2.2.2.2.2.2.2.2.2.2.2.2.1 h.2.2.2.2.2.2.2.2.2.2.2.2.2.2.2.2.2.2.2.2.2.2.2.2.2.2.2.2.2.2.2.2.2.2.2.2.2.2.2.2.2.2.2.2.1 h.2.2.2.2.2.2.2.2.2.2.2.2.2.2.2.2.2.2.2.2.2.2.2.2.2.2.2.2.2.2.2.2.2.2.2.2.2.2.2.2.2.2.2.2.2.1 h.2.2.2.2.2.2.2.2.2.2.2.2.2.2.2.2.2.2.2.2.2.2.2.2.2.2.2.2.2.2.2.2.2.2.2.2.2.2.2.2.2.2.2.2.2.2⟩]
  modes := [(19, [false]), (21, [false]), (23, [false, false]), (24, [false, false]), (29, [false]), (31, [false, false]), (60, []), (61, [false, false, false]), (64, [false, false, false]), (71, [false, false])]
  keep := [(0, ⟨[1, 5, 6, 7, 8, 9, 10], [384, 448, 512, 576, 1600], [⟨1000000, 105, ty27, [.cell 384 2], false⟩], []⟩),
    (2, ⟨[1, 5, 6, 7, 8, 9, 10, 12, 13, 14, 15, 16, 17, 95, 96, 97], [384, 448, 512, 576, 960, 1600], [⟨1002000, 105, ty27, [.cell 384 2], false⟩], []⟩)]
  keepX := [(0, .ret, ⟨[4], [], [], []⟩),
    (0, .exit 0, ⟨[], [], [], []⟩),
    (2, .exit 2, ⟨[1, 5, 6, 7, 8, 9, 10, 12, 13, 14, 16, 17], [384, 448, 512, 576, 1600], [⟨1502300, 105, ty27, [.cell 384 2], false⟩], []⟩)]
  ro := [false]
  dw := [(9, [[], [], [512], [576], [512], [576]]), (16, [[], [], [], [], [], [], [], [], [], [], [], [], [], [], [960], [960], []])]

theorem law11_DutyCalendars_ok : Con.OK Tryz.prog law11_DutyCalendars_con :=
  con_of tabOk mixedOk law11_DutyCalendars_d law11_DutyCalendars_con Tryz.f14 (Tryz.f14.body.getD .skip) Tryz.func14 (by kernel_rfl) (by kernel_rfl) (Nat.le_of_ble_eq_true (by kernel_rfl)) (by kernel_rfl) (And.intro made_Light_ok (And.intro duty_Person_ok (And.intro law11_sane_ok (And.intro made_Roll_ok (And.intro made_Dice_Next_ok (And.intro made_Dice_Layer_ok (And.intro made_Dice_Instant_ok (And.intro made_Dice_Config_ok (And.intro made_Mod_ok (And.intro r04_ToLocal_ok trivial)))))))))) (by kernel_rfl) (by kernel_rfl)
    (And.intro (fun h => by kernel_rfl) (And.intro (fun h => by kernel_rfl) trivial))
    (fun h => by kernel_rfl)
end Go.Proofs.Pk
