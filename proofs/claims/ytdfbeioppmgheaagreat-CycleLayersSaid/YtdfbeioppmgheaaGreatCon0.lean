/- Contracts: each given function is its plain function, printed by a program. -/
import Derived.Test.YtdfbeioppmgheaaGreatTab
open Go Go.Lft
set_option linter.unusedVariables false
set_option maxRecDepth 100000
namespace Go.Proofs.Pk
abbrev ty8 : Ty := (.pair iT iT)
abbrev ty13 : Ty := (.list ty8)
abbrev ty21 : Ty := (.pair iT ty8)
abbrev ty23 : Ty := (.pair .str (.pair iT (.list iT)))
abbrev ty26 : Ty := (.pair iT ty13)
abbrev ty25 : Ty := (.list ty21)
abbrev ty27 : Ty := (.list ty23)
abbrev ty30 : Ty := (.list ty26)
abbrev ty39 : Ty := (.pair iT (.pair iT ty21))
abbrev ty41 : Ty := (.list ty39)
abbrev ty50 : Ty := (.pair .str (.pair iT (.pair ty13 (.pair iT (.pair iT .bool)))))
abbrev ty52 : Ty := (.pair iT (.pair iT ty39))
abbrev ty53 : Ty := (.list ty50)
abbrev ty55 : Ty := (.list ty52)
abbrev ty62 : Ty := (.pair .str (.pair iT ty55))
abbrev ty63 : Ty := (.list ty62)
abbrev ty69 : Ty := (.pair .str (.pair iT (.pair ty8 (.pair iT (.pair iT (.pair (.list iT) (.pair ty13 ty8)))))))
abbrev ty70 : Ty := (.list ty69)
abbrev ty74 : Ty := (.pair .str (.pair ty70 ty41))
abbrev ty75 : Ty := (.list ty74)
abbrev ty81 : Ty := (.pair ty63 (.pair ty53 (.pair ty27 ty75)))
abbrev ty83 : Ty := (.pair ty81 ty30)
noncomputable def made_Light_con : Con := ⟨17, [.v (.list iT)], [(.list iT)], ⟨[.v .bool], []⟩, [.bool], fun h => Pw.made_Light h⟩
noncomputable def made_Light_d : FnD where
 N := 6
 np := 1
 cs := []
 ds := []
 ro := [false]
theorem made_Light_ok : Con.OK Tryz.prog made_Light_con :=
 con_of tabOk mixedOk made_Light_d made_Light_con Tryz.f17 (Tryz.f17.body.getD .skip) Tryz.func17 (by kernel_rfl) (by kernel_rfl) (Nat.le_of_ble_eq_true (by kernel_rfl)) (by kernel_rfl) trivial (by kernel_rfl) (by kernel_rfl)
   trivial
   (fun h => by kernel_rfl)
noncomputable def cycle_Layer_con : Con := ⟨52, [.v ty69], [ty69], ⟨[.v iT, .v iT], []⟩, [iT, iT], fun h => Pw.cycle_Layer h⟩
noncomputable def cycle_Layer_d : FnD where
 N := 47
 np := 1
 cs := []
 ds := []
 ro := [false, false]
theorem cycle_Layer_ok : Con.OK Tryz.prog cycle_Layer_con :=
 con_of tabOk mixedOk cycle_Layer_d cycle_Layer_con Tryz.f52 (Tryz.f52.body.getD .skip) Tryz.func52 (by kernel_rfl) (by kernel_rfl) (Nat.le_of_ble_eq_true (by kernel_rfl)) (by kernel_rfl) trivial (by kernel_rfl) (by kernel_rfl)
   trivial
   (fun h => by kernel_rfl)
noncomputable def resolve_Check_c1_con : Con := ⟨142, [.v ty62], [ty62], ⟨[.v .str], []⟩, [.str], fun h => Pw.resolve_Check_c1 h⟩
noncomputable def resolve_Check_c1_d : FnD where
 N := 5
 np := 1
 cs := []
 ds := []
 ro := [false]
theorem resolve_Check_c1_ok : Con.OK Tryz.prog resolve_Check_c1_con :=
 con_of tabOk mixedOk resolve_Check_c1_d resolve_Check_c1_con Tryz.f142 (Tryz.f142.body.getD .skip) Tryz.func142 (by kernel_rfl) (by kernel_rfl) (Nat.le_of_ble_eq_true (by kernel_rfl)) (by kernel_rfl) trivial (by kernel_rfl) (by kernel_rfl)
   trivial
   (fun h => by kernel_rfl)
noncomputable def lexer_small_con : Con := ⟨265, [.v (.int .u8)], [(.int .u8)], ⟨[.v .bool], []⟩, [.bool], fun h => Pw.lexer_small h⟩
noncomputable def lexer_small_d : FnD where
 N := 9
 np := 1
 cs := []
 ds := []
 ro := [false]
theorem lexer_small_ok : Con.OK Tryz.prog lexer_small_con :=
 con_of tabOk mixedOk lexer_small_d lexer_small_con Tryz.f265 (Tryz.f265.body.getD .skip) Tryz.func265 (by kernel_rfl) (by kernel_rfl) (Nat.le_of_ble_eq_true (by kernel_rfl)) (by kernel_rfl) trivial (by kernel_rfl) (by kernel_rfl)
   trivial
   (fun h => by kernel_rfl)
noncomputable def lexer_digit_con : Con := ⟨266, [.v (.int .u8)], [(.int .u8)], ⟨[.v .bool], []⟩, [.bool], fun h => Pw.lexer_digit h⟩
noncomputable def lexer_digit_d : FnD where
 N := 9
 np := 1
 cs := []
 ds := []
 ro := [false]
theorem lexer_digit_ok : Con.OK Tryz.prog lexer_digit_con :=
 con_of tabOk mixedOk lexer_digit_d lexer_digit_con Tryz.f266 (Tryz.f266.body.getD .skip) Tryz.func266 (by kernel_rfl) (by kernel_rfl) (Nat.le_of_ble_eq_true (by kernel_rfl)) (by kernel_rfl) trivial (by kernel_rfl) (by kernel_rfl)
   trivial
   (fun h => by kernel_rfl)
noncomputable def lexer_Name_con : Con := ⟨206, [.v .str], [.str], ⟨[.v .bool], []⟩, [.bool], fun h => Pw.lexer_Name h⟩
noncomputable def lexer_Name_d : FnD where
 N := 43
 np := 1
 cs := [lexer_small_con, lexer_digit_con]
 ds := [⟨0, [.s (.one (.d .str)), sI, sI], [.str, iT, iT], [⟨.ret, [.s (.one (.d .bool))], [.bool]⟩, ⟨.exit 0, [], []⟩], fun h => Pw.lexer_Name_l0_step h.1 h.2.1 h.2.2⟩]
 modes := [(265, [false]), (266, [false])]
 keep := [(0, ⟨[0, 19, 20], [], [], []⟩)]
 keepX := [(0, .ret, ⟨[2], [], [], []⟩),
   (0, .exit 0, ⟨[], [], [], []⟩)]
 ro := [false]
theorem lexer_Name_ok : Con.OK Tryz.prog lexer_Name_con :=
 con_of tabOk mixedOk lexer_Name_d lexer_Name_con Tryz.f206 (Tryz.f206.body.getD .skip) Tryz.func206 (by kernel_rfl) (by kernel_rfl) (Nat.le_of_ble_eq_true (by kernel_rfl)) (by kernel_rfl) (And.intro lexer_small_ok (And.intro lexer_digit_ok trivial)) (by kernel_rfl) (by kernel_rfl)
   (And.intro (fun h => by kernel_rfl) trivial)
   (fun h => by kernel_rfl)
noncomputable def resolve_name_con : Con := ⟨144, [.v .str, .rl 4294967485 (.list (.pair .str .bool))], [.str, (.list (.pair .str .bool))], ⟨[.v iT], [.rl (.list (.pair .str .bool))]⟩, [iT, (.list (.pair .str .bool))], fun h => Pw.resolve_name h.1 h.2⟩
noncomputable def resolve_name_d : FnD where
 N := 13
 np := 2
 cs := [lexer_Name_con]
 ds := []
 modes := [(206, [false])]
 ro := [false]
theorem resolve_name_ok : Con.OK Tryz.prog resolve_name_con :=
 con_of tabOk mixedOk resolve_name_d resolve_name_con Tryz.f144 (Tryz.f144.body.getD .skip) Tryz.func144 (by kernel_rfl) (by kernel_rfl) (Nat.le_of_ble_eq_true (by kernel_rfl)) (by kernel_rfl) (And.intro lexer_Name_ok trivial) (by kernel_rfl) (by kernel_rfl)
   trivial
   (fun h => by kernel_rfl)
noncomputable def zone_in_con : Con := ⟨290, [.v iT, .v iT, .v iT], [iT, iT, iT], ⟨[.v .bool], []⟩, [.bool], fun h => Pw.zone_in h.1 h.2.1 h.2.2⟩
noncomputable def zone_in_d : FnD where
 N := 15
 np := 3
 cs := []
 ds := []
 ro := [false]
theorem zone_in_ok : Con.OK Tryz.prog zone_in_con :=
 con_of tabOk mixedOk zone_in_d zone_in_con Tryz.f290 (Tryz.f290.body.getD .skip) Tryz.func290 (by kernel_rfl) (by kernel_rfl) (Nat.le_of_ble_eq_true (by kernel_rfl)) (by kernel_rfl) trivial (by kernel_rfl) (by kernel_rfl)
   trivial
   (fun h => by kernel_rfl)
noncomputable def zone_rule_con : Con := ⟨310, [.v ty52], [ty52], ⟨[.v iT], []⟩, [iT], fun h => Pw.zone_rule h⟩
noncomputable def zone_rule_d : FnD where
 N := 45
 np := 1
 cs := [zone_in_con]
 ds := []
 modes := [(290, [false, false, false])]
 ro := [false]
theorem zone_rule_ok : Con.OK Tryz.prog zone_rule_con :=
 con_of tabOk mixedOk zone_rule_d zone_rule_con Tryz.f310 (Tryz.f310.body.getD .skip) Tryz.func310 (by kernel_rfl) (by kernel_rfl) (Nat.le_of_ble_eq_true (by kernel_rfl)) (by kernel_rfl) (And.intro zone_in_ok trivial) (by kernel_rfl) (by kernel_rfl)
   trivial
   (fun h => by kernel_rfl)
noncomputable def civil_Leap_con : Con := ⟨324, [.v iT], [iT], ⟨[.v .bool], []⟩, [.bool], fun h => Pw.civil_Leap h⟩
noncomputable def civil_Leap_d : FnD where
 N := 16
 np := 1
 cs := []
 ds := []
 ro := [false]
theorem civil_Leap_ok : Con.OK Tryz.prog civil_Leap_con :=
 con_of tabOk mixedOk civil_Leap_d civil_Leap_con Tryz.f324 (Tryz.f324.body.getD .skip) Tryz.func324 (by kernel_rfl) (by kernel_rfl) (Nat.le_of_ble_eq_true (by kernel_rfl)) (by kernel_rfl) trivial (by kernel_rfl) (by kernel_rfl)
   trivial
   (fun h => by kernel_rfl)
noncomputable def civil_Days_con : Con := ⟨300, [.v iT, .v iT], [iT, iT], ⟨[.v iT], []⟩, [iT], fun h => Pw.civil_Days h.1 h.2⟩
noncomputable def civil_Days_d : FnD where
 N := 24
 np := 2
 cs := [civil_Leap_con]
 ds := []
 modes := [(324, [false])]
 ro := [false]
theorem civil_Days_ok : Con.OK Tryz.prog civil_Days_con :=
 con_of tabOk mixedOk civil_Days_d civil_Days_con Tryz.f300 (Tryz.f300.body.getD .skip) Tryz.func300 (by kernel_rfl) (by kernel_rfl) (Nat.le_of_ble_eq_true (by kernel_rfl)) (by kernel_rfl) (And.intro civil_Leap_ok trivial) (by kernel_rfl) (by kernel_rfl)
   trivial
   (fun h => by kernel_rfl)
noncomputable def civil_Valid_con : Con := ⟨337, [.v ty21], [ty21], ⟨[.v .bool], []⟩, [.bool], fun h => Pw.civil_Valid h⟩
noncomputable def civil_Valid_d : FnD where
 N := 26
 np := 1
 cs := [civil_Days_con]
 ds := []
 modes := [(300, [false, false])]
 ro := [false]
theorem civil_Valid_ok : Con.OK Tryz.prog civil_Valid_con :=
 con_of tabOk mixedOk civil_Valid_d civil_Valid_con Tryz.f337 (Tryz.f337.body.getD .skip) Tryz.func337 (by kernel_rfl) (by kernel_rfl) (Nat.le_of_ble_eq_true (by kernel_rfl)) (by kernel_rfl) (And.intro civil_Days_ok trivial) (by kernel_rfl) (by kernel_rfl)
   trivial
   (fun h => by kernel_rfl)
noncomputable def civil_floor_con : Con := ⟨323, [.v iT, .v iT], [iT, iT], ⟨[.v iT], []⟩, [iT], fun h => Pw.civil_floor h.1 h.2⟩
noncomputable def civil_floor_d : FnD where
 N := 16
 np := 2
 cs := []
 ds := []
 ro := [false]
theorem civil_floor_ok : Con.OK Tryz.prog civil_floor_con :=
 con_of tabOk mixedOk civil_floor_d civil_floor_con Tryz.f323 (Tryz.f323.body.getD .skip) Tryz.func323 (by kernel_rfl) (by kernel_rfl) (Nat.le_of_ble_eq_true (by kernel_rfl)) (by kernel_rfl) trivial (by kernel_rfl) (by kernel_rfl)
   trivial
   (fun h => by kernel_rfl)
noncomputable def civil_count_con : Con := ⟨298, [.v iT], [iT], ⟨[.v iT], []⟩, [iT], fun h => Pw.civil_count h⟩
noncomputable def civil_count_d : FnD where
 N := 19
 np := 1
 cs := [civil_floor_con]
 ds := []
 modes := [(323, [false, false])]
 ro := [false]
theorem civil_count_ok : Con.OK Tryz.prog civil_count_con :=
 con_of tabOk mixedOk civil_count_d civil_count_con Tryz.f298 (Tryz.f298.body.getD .skip) Tryz.func298 (by kernel_rfl) (by kernel_rfl) (Nat.le_of_ble_eq_true (by kernel_rfl)) (by kernel_rfl) (And.intro civil_floor_ok trivial) (by kernel_rfl) (by kernel_rfl)
   trivial
   (fun h => by kernel_rfl)
noncomputable def civil_number_con : Con := ⟨338, [.v ty21], [ty21], ⟨[.v iT], []⟩, [iT], fun h => Pw.civil_number h⟩
noncomputable def civil_number_d : FnD where
 N := 25
 np := 1
 cs := [civil_Days_con, civil_count_con]
 ds := [⟨0, [.s (.one (.bp 64 0)), sI, sI, .b (.cell [.d iT, .d iT, .d iT] false)], [iT, iT, iT, iT, iT], [⟨.exit 0, [sI], [iT]⟩], fun h => Pw.civil_number_l0_step h.1 h.2.1 h.2.2.1 h.2.2.2.1 h.2.2.2.2⟩]
 modes := [(298, [false]), (300, [false, false])]
 keep := [(0, ⟨[1, 3, 4], [64], [], []⟩)]
 keepX := [(0, .exit 0, ⟨[3], [], [], []⟩)]
 ro := [false]
theorem civil_number_ok : Con.OK Tryz.prog civil_number_con :=
 con_of tabOk mixedOk civil_number_d civil_number_con Tryz.f338 (Tryz.f338.body.getD .skip) Tryz.func338 (by kernel_rfl) (by kernel_rfl) (Nat.le_of_ble_eq_true (by kernel_rfl)) (by kernel_rfl) (And.intro civil_Days_ok (And.intro civil_count_ok trivial)) (by kernel_rfl) (by kernel_rfl)
   (And.intro (fun h => by kernel_rfl) trivial)
   (fun h => by kernel_rfl)
noncomputable def civil_Weekday_con : Con := ⟨178, [.v iT], [iT], ⟨[.v iT], []⟩, [iT], fun h => Pw.civil_Weekday h⟩
noncomputable def civil_Weekday_d : FnD where
 N := 7
 np := 1
 cs := []
 ds := []
 ro := [false]
theorem civil_Weekday_ok : Con.OK Tryz.prog civil_Weekday_con :=
 con_of tabOk mixedOk civil_Weekday_d civil_Weekday_con Tryz.f178 (Tryz.f178.body.getD .skip) Tryz.func178 (by kernel_rfl) (by kernel_rfl) (Nat.le_of_ble_eq_true (by kernel_rfl)) (by kernel_rfl) trivial (by kernel_rfl) (by kernel_rfl)
   trivial
   (fun h => by kernel_rfl)
noncomputable def civil_Nth_con : Con := ⟨311, [.v iT, .v iT, .v iT, .v iT], [iT, iT, iT, iT], ⟨[.v iT, .v iT], []⟩, [iT, iT], fun h => Pw.civil_Nth h.1 h.2.1 h.2.2.1 h.2.2.2⟩
noncomputable def civil_Nth_d : FnD where
 N := 59
 np := 4
 cs := [civil_Days_con, civil_Valid_con, civil_number_con, civil_Weekday_con]
 ds := []
 modes := [(178, [false]), (300, [false, false]), (337, [false]), (338, [false])]
 ro := [false, false]
theorem civil_Nth_ok : Con.OK Tryz.prog civil_Nth_con :=
 con_of tabOk mixedOk civil_Nth_d civil_Nth_con Tryz.f311 (Tryz.f311.body.getD .skip) Tryz.func311 (by kernel_rfl) (by kernel_rfl) (Nat.le_of_ble_eq_true (by kernel_rfl)) (by kernel_rfl) (And.intro civil_Days_ok (And.intro civil_Valid_ok (And.intro civil_number_ok (And.intro civil_Weekday_ok trivial)))) (by kernel_rfl) (by kernel_rfl)
   trivial
   (fun h => by kernel_rfl)
noncomputable def zone_occurrences_c1_con : Con := ⟨313, [.v ty8, .v ty8], [ty8, ty8], ⟨[.v iT], []⟩, [iT], fun h => Pw.zone_occurrences_c1 h.1 h.2⟩
noncomputable def zone_occurrences_c1_d : FnD where
 N := 10
 np := 2
 cs := []
 ds := []
 ro := [false]
theorem zone_occurrences_c1_ok : Con.OK Tryz.prog zone_occurrences_c1_con :=
 con_of tabOk mixedOk zone_occurrences_c1_d zone_occurrences_c1_con Tryz.f313 (Tryz.f313.body.getD .skip) Tryz.func313 (by kernel_rfl) (by kernel_rfl) (Nat.le_of_ble_eq_true (by kernel_rfl)) (by kernel_rfl) trivial (by kernel_rfl) (by kernel_rfl)
   trivial
   (fun h => by kernel_rfl)
noncomputable def slices_insertionSortCmpFunc_zone_occurrence_con : Con := ⟨347, [.rl 310 ty13, .v iT, .v iT, .clo 313 []], [ty13, iT, iT], ⟨[], [.rl ty13]⟩, [ty13], fun h => Pw.slices_insertionSortCmpFunc_zone_occurrence h.1 h.2.1 h.2.2⟩
noncomputable def slices_insertionSortCmpFunc_zone_occurrence_d : FnD where
 N := 53
 np := 4
 cs := [zone_occurrences_c1_con]
 ds := [⟨0, [.s (.one (.ol 0)), sI, sI, .s (.one (.clo 313 [])), sI, .b (.lst 310 ty8 false)], [iT, iT, iT, ty13], [⟨.exit 0, [.b (.lst 310 ty8 false)], [ty13]⟩], fun h => Pw.slices_insertionSortCmpFunc_zone_occurrence_l0_step h.1 h.2.1 h.2.2.1 h.2.2.2⟩,
   ⟨2, [.s (.one (.ol 0)), sI, sI, .s (.one (.clo 313 [])), sI, sI, .b (.lst 310 ty8 false)], [iT, iT, iT, iT, ty13], [⟨.exit 2, [.s (.one (.ol 0)), sI, sI, .s (.one (.clo 313 [])), sI, .b (.lst 310 ty8 false)], [iT, iT, iT, ty13]⟩], fun h => Pw.slices_insertionSortCmpFunc_zone_occurrence_l2_step h.1 h.2.1 h.2.2.1 h.2.2.2.1 h.2.2.2.2⟩]
 modes := [(313, [false, false])]
 keep := [(0, ⟨[0, 1, 2, 3, 8], [0], [], []⟩),
   (2, ⟨[0, 1, 2, 3, 8, 9], [0], [], []⟩)]
 keepX := [(0, .exit 0, ⟨[], [0], [], []⟩),
   (2, .exit 2, ⟨[0, 1, 2, 3, 8], [0], [], []⟩)]
 dw := [(6, [[], [], [], [], [], [], [], [], [], [], [], [], [], [], [], [0], [], [0]])]
theorem slices_insertionSortCmpFunc_zone_occurrence_ok : Con.OK Tryz.prog slices_insertionSortCmpFunc_zone_occurrence_con :=
 con_of tabOk mixedOk slices_insertionSortCmpFunc_zone_occurrence_d slices_insertionSortCmpFunc_zone_occurrence_con Tryz.f347 (Tryz.f347.body.getD .skip) Tryz.func347 (by kernel_rfl) (by kernel_rfl) (Nat.le_of_ble_eq_true (by kernel_rfl)) (by kernel_rfl) (And.intro zone_occurrences_c1_ok trivial) (by kernel_rfl) (by kernel_rfl)
   (And.intro (fun h => by kernel_rfl) (And.intro (fun h => by kernel_rfl) trivial))
   (fun h => by kernel_rfl)
noncomputable def slices_swapRangeCmpFunc_zone_occurrence_con : Con := ⟨352, [.rl 310 ty13, .v iT, .v iT, .v iT, .clo 313 []], [ty13, iT, iT, iT], ⟨[], [.rl ty13]⟩, [ty13], fun h => Pw.slices_swapRangeCmpFunc_zone_occurrence h.1 h.2.1 h.2.2.1 h.2.2.2⟩
noncomputable def slices_swapRangeCmpFunc_zone_occurrence_d : FnD where
 N := 38
 np := 5
 cs := []
 ds := [⟨0, [.s (.one (.ol 0)), sI, sI, sI, sI, .b (.lst 310 ty8 false)], [iT, iT, iT, iT, ty13], [⟨.exit 0, [.b (.lst 310 ty8 false)], [ty13]⟩], fun h => Pw.slices_swapRangeCmpFunc_zone_occurrence_l0_step h.1 h.2.1 h.2.2.1 h.2.2.2.1 h.2.2.2.2⟩]
 keep := [(0, ⟨[0, 1, 2, 3, 10], [0], [], []⟩)]
 keepX := [(0, .exit 0, ⟨[], [0], [], []⟩)]
 dw := [(3, [[], [], [], [], [], [], [], [], [], [], [], [], [], [], [], [], [], [], [], [], [], [0], [], [0]])]
theorem slices_swapRangeCmpFunc_zone_occurrence_ok : Con.OK Tryz.prog slices_swapRangeCmpFunc_zone_occurrence_con :=
 con_of tabOk mixedOk slices_swapRangeCmpFunc_zone_occurrence_d slices_swapRangeCmpFunc_zone_occurrence_con Tryz.f352 (Tryz.f352.body.getD .skip) Tryz.func352 (by kernel_rfl) (by kernel_rfl) (Nat.le_of_ble_eq_true (by kernel_rfl)) (by kernel_rfl) trivial (by kernel_rfl) (by kernel_rfl)
   (And.intro (fun h => by kernel_rfl) trivial)
   (fun h => by kernel_rfl)
end Go.Proofs.Pk
