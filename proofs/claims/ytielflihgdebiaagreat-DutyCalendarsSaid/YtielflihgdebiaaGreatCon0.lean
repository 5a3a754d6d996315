/- Contracts: each given function is its plain function, printed by a program. -/
import Derived.Test.YtielflihgdebiaaGreatTab
import Derived.Test.YtielflihgdebiaaGreatSrt
open Go Go.Lft
set_option linter.unusedVariables false
set_option maxRecDepth 100000
namespace Go.Proofs.Pk

abbrev ty10 : Ty := (.pair (.int .i64) (.int .i64))
abbrev ty16 : Ty := (.list ty10)
abbrev ty25 : Ty := (.pair (.int .i64) ty10)
abbrev ty27 : Ty := (.pair .str (.pair (.int .i64) (.list (.int .i64))))
abbrev ty31 : Ty := (.pair (.int .i64) ty16)
abbrev ty30 : Ty := (.list ty25)
abbrev ty32 : Ty := (.list ty27)
abbrev ty35 : Ty := (.list ty31)
abbrev ty44 : Ty := (.pair (.int .i64) (.pair (.int .i64) ty25))
abbrev ty46 : Ty := (.list ty44)
abbrev ty55 : Ty := (.pair .str (.pair (.int .i64) (.pair ty16 (.pair (.int .i64) (.pair (.int .i64) .bool)))))
abbrev ty57 : Ty := (.pair (.int .i64) (.pair (.int .i64) ty44))
abbrev ty58 : Ty := (.list ty55)
abbrev ty60 : Ty := (.list ty57)
abbrev ty67 : Ty := (.pair .str (.pair (.int .i64) ty60))
abbrev ty68 : Ty := (.list ty67)
abbrev ty74 : Ty := (.pair .str (.pair (.int .i64) (.pair ty10 (.pair (.int .i64) (.pair (.int .i64) (.pair (.list (.int .i64)) (.pair ty16 ty10)))))))
abbrev ty75 : Ty := (.list ty74)
abbrev ty79 : Ty := (.pair .str (.pair ty75 ty46))
abbrev ty80 : Ty := (.list ty79)
abbrev ty86 : Ty := (.pair ty68 (.pair ty58 (.pair ty32 ty80)))
abbrev ty88 : Ty := (.pair ty86 ty35)

noncomputable def made_Light_con : Con := ⟨19, [.v (.list (.int .i64))], [(.list (.int .i64))], ⟨[.v .bool], []⟩, [.bool], fun h => Pw.made_Light h⟩

noncomputable def made_Light_d : FnD where
  N := 6
  np := 1
  cs := []
  ds := []
  ro := [false]

theorem made_Light_ok : Con.OK Tryz.prog made_Light_con :=
  con_of tabOk mixedOk made_Light_d made_Light_con Tryz.f19 (Tryz.f19.body.getD .skip) Tryz.func19 (by kernel_rfl) (by kernel_rfl) (Nat.le_of_ble_eq_true (by kernel_rfl)) (by kernel_rfl) trivial (by kernel_rfl) (by kernel_rfl)
    trivial
    (fun h => by kernel_rfl)

noncomputable def law11_first_con : Con := ⟨117, [], [], ⟨[.v ty86, .v ty74], []⟩, [ty86, ty74], fun h => Pw.law11_first⟩

noncomputable def law11_first_d : FnD where
  N := 15
  np := 0
  cs := []
  ds := []
  ro := [false, false]

theorem law11_first_ok : Con.OK Tryz.prog law11_first_con :=
  con_of tabOk mixedOk law11_first_d law11_first_con Tryz.f117 (Tryz.f117.body.getD .skip) Tryz.func117 (by kernel_rfl) (by kernel_rfl) (Nat.le_of_ble_eq_true (by kernel_rfl)) (by kernel_rfl) trivial (by kernel_rfl) (by kernel_rfl)
    trivial
    (fun h => by kernel_rfl)

noncomputable def resolve_Check_c1_con : Con := ⟨149, [.v ty67], [ty67], ⟨[.v .str], []⟩, [.str], fun h => Pw.resolve_Check_c1 h⟩

noncomputable def resolve_Check_c1_d : FnD where
  N := 5
  np := 1
  cs := []
  ds := []
  ro := [false]

theorem resolve_Check_c1_ok : Con.OK Tryz.prog resolve_Check_c1_con :=
  con_of tabOk mixedOk resolve_Check_c1_d resolve_Check_c1_con Tryz.f149 (Tryz.f149.body.getD .skip) Tryz.func149 (by kernel_rfl) (by kernel_rfl) (Nat.le_of_ble_eq_true (by kernel_rfl)) (by kernel_rfl) trivial (by kernel_rfl) (by kernel_rfl)
    trivial
    (fun h => by kernel_rfl)

noncomputable def lexer_small_con : Con := ⟨271, [.v (.int .u8)], [(.int .u8)], ⟨[.v .bool], []⟩, [.bool], fun h => Pw.lexer_small h⟩

noncomputable def lexer_small_d : FnD where
  N := 9
  np := 1
  cs := []
  ds := []
  ro := [false]

theorem lexer_small_ok : Con.OK Tryz.prog lexer_small_con :=
  con_of tabOk mixedOk lexer_small_d lexer_small_con Tryz.f271 (Tryz.f271.body.getD .skip) Tryz.func271 (by kernel_rfl) (by kernel_rfl) (Nat.le_of_ble_eq_true (by kernel_rfl)) (by kernel_rfl) trivial (by kernel_rfl) (by kernel_rfl)
    trivial
    (fun h => by kernel_rfl)

noncomputable def lexer_digit_con : Con := ⟨272, [.v (.int .u8)], [(.int .u8)], ⟨[.v .bool], []⟩, [.bool], fun h => Pw.lexer_digit h⟩

noncomputable def lexer_digit_d : FnD where
  N := 9
  np := 1
  cs := []
  ds := []
  ro := [false]

theorem lexer_digit_ok : Con.OK Tryz.prog lexer_digit_con :=
  con_of tabOk mixedOk lexer_digit_d lexer_digit_con Tryz.f272 (Tryz.f272.body.getD .skip) Tryz.func272 (by kernel_rfl) (by kernel_rfl) (Nat.le_of_ble_eq_true (by kernel_rfl)) (by kernel_rfl) trivial (by kernel_rfl) (by kernel_rfl)
    trivial
    (fun h => by kernel_rfl)

noncomputable def lexer_Name_con : Con := ⟨218, [.v .str], [.str], ⟨[.v .bool], []⟩, [.bool], fun h => Pw.lexer_Name h⟩

noncomputable def lexer_Name_d : FnD where
  N := 43
  np := 1
  cs := [lexer_small_con, lexer_digit_con]
  ds := [⟨0, [.s (.one (.d .str)), .s (.one (.d (.int .i64))), .s (.one (.d (.int .i64)))], [.str, (.int .i64), (.int .i64)], [⟨.ret, [.s (.one (.d .bool))], [.bool]⟩, ⟨.exit 0, [], []⟩], fun h => Pw.lexer_Name_l0_step h.1 h.2.1 h.2.2⟩]
  modes := [(271, [false]), (272, [false])]
  keep := [(0, ⟨[0, 19, 20], [], [], []⟩)]
  keepX := [(0, .ret, ⟨[2], [], [], []⟩),
    (0, .exit 0, ⟨[], [], [], []⟩)]
  ro := [false]

theorem lexer_Name_ok : Con.OK Tryz.prog lexer_Name_con :=
  con_of tabOk mixedOk lexer_Name_d lexer_Name_con Tryz.f218 (Tryz.f218.body.getD .skip) Tryz.func218 (by kernel_rfl) (by kernel_rfl) (Nat.le_of_ble_eq_true (by kernel_rfl)) (by kernel_rfl) (And.intro lexer_small_ok (And.intro lexer_digit_ok trivial)) (by kernel_rfl) (by kernel_rfl)
    (And.intro (fun h => by kernel_rfl) trivial)
    (fun h => by kernel_rfl)

noncomputable def resolve_name_con : Con := ⟨151, [.v .str, .rl 4294967490 (.list (.pair .str .bool))], [.str, (.list (.pair .str .bool))], ⟨[.v (.int .i64)], [.rl (.list (.pair .str .bool))]⟩, [(.int .i64), (.list (.pair .str .bool))], fun h => Pw.resolve_name h.1 h.2⟩

noncomputable def resolve_name_d : FnD where
  N := 13
  np := 2
  cs := [lexer_Name_con]
  ds := []
  modes := [(218, [false])]
  ro := [false]

theorem resolve_name_ok : Con.OK Tryz.prog resolve_name_con :=
  con_of tabOk mixedOk resolve_name_d resolve_name_con Tryz.f151 (Tryz.f151.body.getD .skip) Tryz.func151 (by kernel_rfl) (by kernel_rfl) (Nat.le_of_ble_eq_true (by kernel_rfl)) (by kernel_rfl) (And.intro lexer_Name_ok trivial) (by kernel_rfl) (by kernel_rfl)
    trivial
    (fun h => by kernel_rfl)

noncomputable def zone_in_con : Con := ⟨229, [.v (.int .i64), .v (.int .i64), .v (.int .i64)], [(.int .i64), (.int .i64), (.int .i64)], ⟨[.v .bool], []⟩, [.bool], fun h => Pw.zone_in h.1 h.2.1 h.2.2⟩

noncomputable def zone_in_d : FnD where
  N := 15
  np := 3
  cs := []
  ds := []
  ro := [false]

theorem zone_in_ok : Con.OK Tryz.prog zone_in_con :=
  con_of tabOk mixedOk zone_in_d zone_in_con Tryz.f229 (Tryz.f229.body.getD .skip) Tryz.func229 (by kernel_rfl) (by kernel_rfl) (Nat.le_of_ble_eq_true (by kernel_rfl)) (by kernel_rfl) trivial (by kernel_rfl) (by kernel_rfl)
    trivial
    (fun h => by kernel_rfl)

noncomputable def zone_rule_con : Con := ⟨277, [.v ty57], [ty57], ⟨[.v (.int .i64)], []⟩, [(.int .i64)], fun h => Pw.zone_rule h⟩

noncomputable def zone_rule_d : FnD where
  N := 45
  np := 1
  cs := [zone_in_con]
  ds := []
  modes := [(229, [false, false, false])]
  ro := [false]

theorem zone_rule_ok : Con.OK Tryz.prog zone_rule_con :=
  con_of tabOk mixedOk zone_rule_d zone_rule_con Tryz.f277 (Tryz.f277.body.getD .skip) Tryz.func277 (by kernel_rfl) (by kernel_rfl) (Nat.le_of_ble_eq_true (by kernel_rfl)) (by kernel_rfl) (And.intro zone_in_ok trivial) (by kernel_rfl) (by kernel_rfl)
    trivial
    (fun h => by kernel_rfl)

noncomputable def civil_Leap_con : Con := ⟨343, [.v (.int .i64)], [(.int .i64)], ⟨[.v .bool], []⟩, [.bool], fun h => Pw.civil_Leap h⟩

noncomputable def civil_Leap_d : FnD where
  N := 16
  np := 1
  cs := []
  ds := []
  ro := [false]

theorem civil_Leap_ok : Con.OK Tryz.prog civil_Leap_con :=
  con_of tabOk mixedOk civil_Leap_d civil_Leap_con Tryz.f343 (Tryz.f343.body.getD .skip) Tryz.func343 (by kernel_rfl) (by kernel_rfl) (Nat.le_of_ble_eq_true (by kernel_rfl)) (by kernel_rfl) trivial (by kernel_rfl) (by kernel_rfl)
    trivial
    (fun h => by kernel_rfl)

noncomputable def civil_Days_con : Con := ⟨311, [.v (.int .i64), .v (.int .i64)], [(.int .i64), (.int .i64)], ⟨[.v (.int .i64)], []⟩, [(.int .i64)], fun h => Pw.civil_Days h.1 h.2⟩

noncomputable def civil_Days_d : FnD where
  N := 24
  np := 2
  cs := [civil_Leap_con]
  ds := []
  modes := [(343, [false])]
  ro := [false]

theorem civil_Days_ok : Con.OK Tryz.prog civil_Days_con :=
  con_of tabOk mixedOk civil_Days_d civil_Days_con Tryz.f311 (Tryz.f311.body.getD .skip) Tryz.func311 (by kernel_rfl) (by kernel_rfl) (Nat.le_of_ble_eq_true (by kernel_rfl)) (by kernel_rfl) (And.intro civil_Leap_ok trivial) (by kernel_rfl) (by kernel_rfl)
    trivial
    (fun h => by kernel_rfl)

noncomputable def civil_Valid_con : Con := ⟨312, [.v ty25], [ty25], ⟨[.v .bool], []⟩, [.bool], fun h => Pw.civil_Valid h⟩

noncomputable def civil_Valid_d : FnD where
  N := 26
  np := 1
  cs := [civil_Days_con]
  ds := []
  modes := [(311, [false, false])]
  ro := [false]

theorem civil_Valid_ok : Con.OK Tryz.prog civil_Valid_con :=
  con_of tabOk mixedOk civil_Valid_d civil_Valid_con Tryz.f312 (Tryz.f312.body.getD .skip) Tryz.func312 (by kernel_rfl) (by kernel_rfl) (Nat.le_of_ble_eq_true (by kernel_rfl)) (by kernel_rfl) (And.intro civil_Days_ok trivial) (by kernel_rfl) (by kernel_rfl)
    trivial
    (fun h => by kernel_rfl)

noncomputable def civil_floor_con : Con := ⟨342, [.v (.int .i64), .v (.int .i64)], [(.int .i64), (.int .i64)], ⟨[.v (.int .i64)], []⟩, [(.int .i64)], fun h => Pw.civil_floor h.1 h.2⟩

noncomputable def civil_floor_d : FnD where
  N := 16
  np := 2
  cs := []
  ds := []
  ro := [false]

theorem civil_floor_ok : Con.OK Tryz.prog civil_floor_con :=
  con_of tabOk mixedOk civil_floor_d civil_floor_con Tryz.f342 (Tryz.f342.body.getD .skip) Tryz.func342 (by kernel_rfl) (by kernel_rfl) (Nat.le_of_ble_eq_true (by kernel_rfl)) (by kernel_rfl) trivial (by kernel_rfl) (by kernel_rfl)
    trivial
    (fun h => by kernel_rfl)

noncomputable def civil_count_con : Con := ⟨309, [.v (.int .i64)], [(.int .i64)], ⟨[.v (.int .i64)], []⟩, [(.int .i64)], fun h => Pw.civil_count h⟩

noncomputable def civil_count_d : FnD where
  N := 19
  np := 1
  cs := [civil_floor_con]
  ds := []
  modes := [(342, [false, false])]
  ro := [false]

theorem civil_count_ok : Con.OK Tryz.prog civil_count_con :=
  con_of tabOk mixedOk civil_count_d civil_count_con Tryz.f309 (Tryz.f309.body.getD .skip) Tryz.func309 (by kernel_rfl) (by kernel_rfl) (Nat.le_of_ble_eq_true (by kernel_rfl)) (by kernel_rfl) (And.intro civil_floor_ok trivial) (by kernel_rfl) (by kernel_rfl)
    trivial
    (fun h => by kernel_rfl)

noncomputable def civil_number_con : Con := ⟨313, [.v ty25], [ty25], ⟨[.v (.int .i64)], []⟩, [(.int .i64)], fun h => Pw.civil_number h⟩

noncomputable def civil_number_d : FnD where
  N := 25
  np := 1
  cs := [civil_Days_con, civil_count_con]
  ds := [⟨0, [.s (.one (.bp 64 0)), .s (.one (.d (.int .i64))), .s (.one (.d (.int .i64))), .b (.cell [.d (.int .i64), .d (.int .i64), .d (.int .i64)] false)], [(.int .i64), (.int .i64), (.int .i64), (.int .i64), (.int .i64)], [⟨.exit 0, [.s (.one (.d (.int .i64)))], [(.int .i64)]⟩], fun h => Pw.civil_number_l0_step h.1 h.2.1 h.2.2.1 h.2.2.2.1 h.2.2.2.2⟩]
  modes := [(309, [false]), (311, [false, false])]
  keep := [(0, ⟨[1, 3, 4], [64], [], []⟩)]
  keepX := [(0, .exit 0, ⟨[3], [], [], []⟩)]
  ro := [false]

theorem civil_number_ok : Con.OK Tryz.prog civil_number_con :=
  con_of tabOk mixedOk civil_number_d civil_number_con Tryz.f313 (Tryz.f313.body.getD .skip) Tryz.func313 (by kernel_rfl) (by kernel_rfl) (Nat.le_of_ble_eq_true (by kernel_rfl)) (by kernel_rfl) (And.intro civil_Days_ok (And.intro civil_count_ok trivial)) (by kernel_rfl) (by kernel_rfl)
    (And.intro (fun h => by kernel_rfl) trivial)
    (fun h => by kernel_rfl)

noncomputable def civil_Weekday_con : Con := ⟨163, [.v (.int .i64)], [(.int .i64)], ⟨[.v (.int .i64)], []⟩, [(.int .i64)], fun h => Pw.civil_Weekday h⟩

noncomputable def civil_Weekday_d : FnD where
  N := 7
  np := 1
  cs := []
  ds := []
  ro := [false]

theorem civil_Weekday_ok : Con.OK Tryz.prog civil_Weekday_con :=
  con_of tabOk mixedOk civil_Weekday_d civil_Weekday_con Tryz.f163 (Tryz.f163.body.getD .skip) Tryz.func163 (by kernel_rfl) (by kernel_rfl) (Nat.le_of_ble_eq_true (by kernel_rfl)) (by kernel_rfl) trivial (by kernel_rfl) (by kernel_rfl)
    trivial
    (fun h => by kernel_rfl)

noncomputable def civil_Nth_con : Con := ⟨278, [.v (.int .i64), .v (.int .i64), .v (.int .i64), .v (.int .i64)], [(.int .i64), (.int .i64), (.int .i64), (.int .i64)], ⟨[.v (.int .i64), .v (.int .i64)], []⟩, [(.int .i64), (.int .i64)], fun h => Pw.civil_Nth h.1 h.2.1 h.2.2.1 h.2.2.2⟩

noncomputable def civil_Nth_d : FnD where
  N := 59
  np := 4
  cs := [civil_Days_con, civil_Valid_con, civil_number_con, civil_Weekday_con]
  ds := []
  modes := [(163, [false]), (311, [false, false]), (312, [false]), (313, [false])]
  ro := [false, false]

theorem civil_Nth_ok : Con.OK Tryz.prog civil_Nth_con :=
  con_of tabOk mixedOk civil_Nth_d civil_Nth_con Tryz.f278 (Tryz.f278.body.getD .skip) Tryz.func278 (by kernel_rfl) (by kernel_rfl) (Nat.le_of_ble_eq_true (by kernel_rfl)) (by kernel_rfl) (And.intro civil_Days_ok (And.intro civil_Valid_ok (And.intro civil_number_ok (And.intro civil_Weekday_ok trivial)))) (by kernel_rfl) (by kernel_rfl)
    trivial
    (fun h => by kernel_rfl)

noncomputable def zone_occurrences_c1_con : Con := ⟨280, [.v ty10, .v ty10], [ty10, ty10], ⟨[.v (.int .i64)], []⟩, [(.int .i64)], fun h => Pw.zone_occurrences_c1 h.1 h.2⟩

noncomputable def zone_occurrences_c1_d : FnD where
  N := 10
  np := 2
  cs := []
  ds := []
  ro := [false]

theorem zone_occurrences_c1_ok : Con.OK Tryz.prog zone_occurrences_c1_con :=
  con_of tabOk mixedOk zone_occurrences_c1_d zone_occurrences_c1_con Tryz.f280 (Tryz.f280.body.getD .skip) Tryz.func280 (by kernel_rfl) (by kernel_rfl) (Nat.le_of_ble_eq_true (by kernel_rfl)) (by kernel_rfl) trivial (by kernel_rfl) (by kernel_rfl)
    trivial
    (fun h => by kernel_rfl)

noncomputable def slices_insertionSortCmpFunc_zone_occurrence_con : Con := ⟨344, [.rl 263 ty16, .v (.int .i64), .v (.int .i64), .clo 280 []], [ty16, (.int .i64), (.int .i64)], ⟨[], [.rl ty16]⟩, [ty16], fun h => Pw.slices_insertionSortCmpFunc_zone_occurrence h.1 h.2.1 h.2.2⟩

noncomputable def slices_insertionSortCmpFunc_zone_occurrence_d : FnD where
  N := 53
  np := 4
  cs := [zone_occurrences_c1_con]
  ds := [⟨0, [.s (.one (.ol 0)), .s (.one (.d (.int .i64))), .s (.one (.d (.int .i64))), .s (.one (.clo 280 [])), .s (.one (.d (.int .i64))), .b (.lst 263 ty10 false)], [(.int .i64), (.int .i64), (.int .i64), ty16], [⟨.exit 0, [.b (.lst 263 ty10 false)], [ty16]⟩], fun h => Pw.slices_insertionSortCmpFunc_zone_occurrence_l0_step h.1 h.2.1 h.2.2.1 h.2.2.2⟩,
    ⟨2, [.s (.one (.ol 0)), .s (.one (.d (.int .i64))), .s (.one (.d (.int .i64))), .s (.one (.clo 280 [])), .s (.one (.d (.int .i64))), .s (.one (.d (.int .i64))), .b (.lst 263 ty10 false)], [(.int .i64), (.int .i64), (.int .i64), (.int .i64), ty16], [⟨.exit 2, [.s (.one (.ol 0)), .s (.one (.d (.int .i64))), .s (.one (.d (.int .i64))), .s (.one (.clo 280 [])), .s (.one (.d (.int .i64))), .b (.lst 263 ty10 false)], [(.int .i64), (.int .i64), (.int .i64), ty16]⟩], fun h => Pw.slices_insertionSortCmpFunc_zone_occurrence_l2_step h.1 h.2.1 h.2.2.1 h.2.2.2.1 h.2.2.2.2⟩]
  modes := [(280, [false, false])]
  keep := [(0, ⟨[0, 1, 2, 3, 8], [0], [], []⟩),
    (2, ⟨[0, 1, 2, 3, 8, 9], [0], [], []⟩)]
  keepX := [(0, .exit 0, ⟨[], [0], [], []⟩),
    (2, .exit 2, ⟨[0, 1, 2, 3, 8], [0], [], []⟩)]
  dw := [(6, [[], [], [], [], [], [], [], [], [], [], [], [], [], [], [], [0], [], [0]])]

theorem slices_insertionSortCmpFunc_zone_occurrence_ok : Con.OK Tryz.prog slices_insertionSortCmpFunc_zone_occurrence_con :=
  con_of tabOk mixedOk slices_insertionSortCmpFunc_zone_occurrence_d slices_insertionSortCmpFunc_zone_occurrence_con Tryz.f344 (Tryz.f344.body.getD .skip) Tryz.func344 (by kernel_rfl) (by kernel_rfl) (Nat.le_of_ble_eq_true (by kernel_rfl)) (by kernel_rfl) (And.intro zone_occurrences_c1_ok trivial) (by kernel_rfl) (by kernel_rfl)
    (And.intro (fun h => by kernel_rfl) (And.intro (fun h => by kernel_rfl) trivial))
    (fun h => by kernel_rfl)

noncomputable def slices_swapRangeCmpFunc_zone_occurrence_con : Con := ⟨369, [.rl 263 ty16, .v (.int .i64), .v (.int .i64), .v (.int .i64), .clo 280 []], [ty16, (.int .i64), (.int .i64), (.int .i64)], ⟨[], [.rl ty16]⟩, [ty16], fun h => Pw.slices_swapRangeCmpFunc_zone_occurrence h.1 h.2.1 h.2.2.1 h.2.2.2⟩

noncomputable def slices_swapRangeCmpFunc_zone_occurrence_d : FnD where
  N := 38
  np := 5
  cs := []
  ds := [⟨0, [.s (.one (.ol 0)), .s (.one (.d (.int .i64))), .s (.one (.d (.int .i64))), .s (.one (.d (.int .i64))), .s (.one (.d (.int .i64))), .b (.lst 263 ty10 false)], [(.int .i64), (.int .i64), (.int .i64), (.int .i64), ty16], [⟨.exit 0, [.b (.lst 263 ty10 false)], [ty16]⟩], fun h => Pw.slices_swapRangeCmpFunc_zone_occurrence_l0_step h.1 h.2.1 h.2.2.1 h.2.2.2.1 h.2.2.2.2⟩]
  keep := [(0, ⟨[0, 1, 2, 3, 10], [0], [], []⟩)]
  keepX := [(0, .exit 0, ⟨[], [0], [], []⟩)]
  dw := [(3, [[], [], [], [], [], [], [], [], [], [], [], [], [], [], [], [], [], [], [], [], [], [0], [], [0]])]

theorem slices_swapRangeCmpFunc_zone_occurrence_ok : Con.OK Tryz.prog slices_swapRangeCmpFunc_zone_occurrence_con :=
  con_of tabOk mixedOk slices_swapRangeCmpFunc_zone_occurrence_d slices_swapRangeCmpFunc_zone_occurrence_con Tryz.f369 (Tryz.f369.body.getD .skip) Tryz.func369 (by kernel_rfl) (by kernel_rfl) (Nat.le_of_ble_eq_true (by kernel_rfl)) (by kernel_rfl) trivial (by kernel_rfl) (by kernel_rfl)
    (And.intro (fun h => by kernel_rfl) trivial)
    (fun h => by kernel_rfl)
end Go.Proofs.Pk
