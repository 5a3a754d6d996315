/- Contracts: each given function is its plain function, printed by a program. -/
import Derived.Test.YtdfbeioppmgheaaGreatCon3
open Go Go.Lft
set_option linter.unusedVariables false
set_option maxRecDepth 100000
namespace Go.Proofs.Pk
noncomputable def slices_DeleteFunc_api_Span_api_Span_con : Con := ⟨246, [.rl 96 ty13, .clo 248 []], [ty13], ⟨[.hd], [.rl ty13]⟩, [iT, ty13], fun h => Pw.slices_DeleteFunc_api_Span_api_Span h⟩
noncomputable def slices_DeleteFunc_api_Span_api_Span_d : FnD where
 N := 42
 np := 2
 cs := [span_Merge_c1_con, slices_IndexFunc_api_Span_api_Span_con]
 ds := [⟨0, [.s (.one (.ol 0)), .s (.one (.clo 248 [])), sI, sI, .b (.lst 96 ty8 false)], [iT, iT, ty13], [⟨.exit 0, [.s (.one (.ol 0)), sI, .b (.lst 96 ty8 false)], [iT, ty13]⟩], fun h => Pw.slices_DeleteFunc_api_Span_api_Span_l0_step h.1 h.2.1 h.2.2⟩]
 modes := [(248, [false]), (291, [true, false])]
 keep := [(0, ⟨[0, 1, 5, 6], [0], [], []⟩)]
 keepX := [(0, .exit 0, ⟨[0, 5], [0], [], []⟩)]
 ro := [false]
 hd := true
theorem slices_DeleteFunc_api_Span_api_Span_ok : Con.OK Tryz.prog slices_DeleteFunc_api_Span_api_Span_con :=
 con_of tabOk mixedOk slices_DeleteFunc_api_Span_api_Span_d slices_DeleteFunc_api_Span_api_Span_con Tryz.f246 (Tryz.f246.body.getD .skip) Tryz.func246 (by kernel_rfl) (by kernel_rfl) (Nat.le_of_ble_eq_true (by kernel_rfl)) (by kernel_rfl) (And.intro span_Merge_c1_ok (And.intro slices_IndexFunc_api_Span_api_Span_ok trivial)) (by kernel_rfl) (by kernel_rfl)
   (And.intro (fun h => by kernel_rfl) trivial)
   (fun h => by kernel_rfl)
noncomputable def span_Merge_c2_con : Con := ⟨250, [.v ty8, .v ty8], [ty8, ty8], ⟨[.v iT], []⟩, [iT], fun h => Pw.span_Merge_c2 h.1 h.2⟩
noncomputable def span_Merge_c2_d : FnD where
 N := 10
 np := 2
 cs := []
 ds := []
 ro := [false]
theorem span_Merge_c2_ok : Con.OK Tryz.prog span_Merge_c2_con :=
 con_of tabOk mixedOk span_Merge_c2_d span_Merge_c2_con Tryz.f250 (Tryz.f250.body.getD .skip) Tryz.func250 (by kernel_rfl) (by kernel_rfl) (Nat.le_of_ble_eq_true (by kernel_rfl)) (by kernel_rfl) trivial (by kernel_rfl) (by kernel_rfl)
   trivial
   (fun h => by kernel_rfl)
noncomputable def slices_SortFunc_api_Span_api_Span_by_span_Merge_c2_con : Con := ⟨249, [.rl 96 ty13, .clo 250 []], [ty13], ⟨[], [.rl ty13]⟩, [ty13], fun h => Pw.slices_SortFunc_api_Span_api_Span_by_span_Merge_c2 h⟩
noncomputable def slices_SortFunc_api_Span_api_Span_by_span_Merge_c2_d : FnD where
 N := 14
 np := 2
 cs := [span_Merge_c2_con]
 ds := []
 modes := [(250, [false, false])]
theorem slices_SortFunc_api_Span_api_Span_by_span_Merge_c2_ok : Con.OK Tryz.prog slices_SortFunc_api_Span_api_Span_by_span_Merge_c2_con :=
 con_sort Tryz.sort249 (ty8) rfl 96 (by kernel_rfl) Tryz.isAgg96 Tryz.sizeOf96 _ 250 (enters_of Tryz.func250 (by kernel_rfl) rfl) sort250_cmp sort250_swo 249 rfl
noncomputable def span_Merge_con : Con := ⟨185, [.v ty13], [ty13], ⟨[.own 96 ty13], []⟩, [ty13], fun h => Pw.span_Merge h⟩
noncomputable def span_Merge_d : FnD where
 N := 54
 np := 1
 cs := [slices_Clone_api_Span_api_Span_con, slices_DeleteFunc_api_Span_api_Span_con, slices_SortFunc_api_Span_api_Span_by_span_Merge_c2_con]
 ds := [⟨0, [.s (.one (.ol 1000000)), .s (.one (.ol 1000001)), sI, sI, .b (.lst 96 ty8 false), .b (.lst 96 ty8 false)], [iT, iT, ty13, ty13], [⟨.exit 0, [.s (.one (.ol 1500100)), .b (.lst 96 ty8 false)], [ty13]⟩], fun h => Pw.span_Merge_l0_step h.1 h.2.1 h.2.2.1 h.2.2.2⟩]
 modes := [(246, [true, false]), (247, [false]), (249, [true, false])]
 keep := [(0, ⟨[4, 13, 14, 15], [], [⟨1000000, 96, ty8, [.slot 4], false⟩, ⟨1000001, 96, ty8, [.slot 13], false⟩], []⟩)]
 keepX := [(0, .exit 0, ⟨[4], [], [⟨1500100, 96, ty8, [.slot 4], false⟩], []⟩)]
 ro := [true]
 dw := [(9, [[], [], [], [], [], [], [], [], [], [], [], [], [], [], [1000000]])]
theorem span_Merge_ok : Con.OK Tryz.prog span_Merge_con :=
 con_of tabOk mixedOk span_Merge_d span_Merge_con Tryz.f185 (Tryz.f185.body.getD .skip) Tryz.func185 (by kernel_rfl) (by kernel_rfl) (Nat.le_of_ble_eq_true (by kernel_rfl)) (by kernel_rfl) (And.intro slices_Clone_api_Span_api_Span_ok (And.intro slices_DeleteFunc_api_Span_api_Span_ok (And.intro slices_SortFunc_api_Span_api_Span_by_span_Merge_c2_ok trivial))) (by kernel_rfl) (by kernel_rfl)
   (And.intro (fun h => by kernel_rfl) trivial)
   (fun h => by kernel_rfl)
noncomputable def week_TimesOf_con : Con := ⟨123, [.v ty26, .v ty13, .v iT, .v iT], [ty26, ty13, iT, iT], ⟨[.own 96 ty13], []⟩, [ty13], fun h => Pw.week_TimesOf h.1 h.2.1 h.2.2.1 h.2.2.2⟩
noncomputable def week_TimesOf_d : FnD where
 N := 73
 np := 4
 cs := [zone_Table_Pieces_con, span_Merge_con]
 ds := [⟨0, [.s (.one (.d ty13)), .s (.one (.ol 1000000)), .s (.one (.ol 1000001)), sI, sI, .b (.lst 96 ty8 false), .b (.lst 229 ty21 false)], [ty13, iT, iT, ty13, ty25], [⟨.exit 0, [.s (.one (.ol 1500100)), .b (.lst 96 ty8 false)], [ty13]⟩], fun h => Pw.week_TimesOf_l0_step h.1 h.2.1 h.2.2.1 h.2.2.2.1 h.2.2.2.2⟩,
   ⟨2, [.s (.one (.d ty13)), .s (.one (.ol 1002000)), .s (.one (.bp 704 0)), sI, .s (.one (.ol 1002001)), sI, sI, .b (.cell [.d iT, .d iT, .d iT] false), .b (.lst 96 ty8 false), .b (.lst 229 ty21 false)], [ty13, iT, iT, iT, iT, iT, iT, ty13, ty25], [⟨.exit 2, [.s (.one (.d ty13)), .s (.one (.ol 1502300)), .s (.one (.ol 1502301)), sI, sI, .b (.lst 96 ty8 false), .b (.lst 229 ty21 false)], [ty13, iT, iT, ty13, ty25]⟩], fun h => Pw.week_TimesOf_l2_step h.1 h.2.1 h.2.2.1 h.2.2.2.1 h.2.2.2.2.1 h.2.2.2.2.2.1 h.2.2.2.2.2.2.1 h.2.2.2.2.2.2.2.1 h.2.2.2.2.2.2.2.2⟩,
   ⟨4, [.s (.one (.d ty13)), .s (.one (.ol 1004000)), .s (.one (.bp 704 0)), sI, .s (.one (.ol 1004001)), sI, sI, .s (.one (.d ty13)), sI, sI, .b (.cell [.d iT, .d iT, .d iT] false), .b (.lst 96 ty8 false), .b (.lst 229 ty21 false)], [ty13, iT, iT, iT, ty13, iT, iT, iT, iT, iT, ty13, ty25], [⟨.exit 4, [.s (.one (.d ty13)), .s (.one (.ol 1504500)), .s (.one (.bp 704 0)), sI, .s (.one (.ol 1504501)), sI, sI, .b (.cell [.d iT, .d iT, .d iT] false), .b (.lst 96 ty8 false), .b (.lst 229 ty21 false)], [ty13, iT, iT, iT, iT, iT, iT, ty13, ty25]⟩], fun h => Pw.week_TimesOf_l4_step h.1 h.2.1 h.2.2.1 h.2.2.2.1 h.2.2.2.2.1 h.2.2.2.2.2.1 h.2.2.2.2.2.2.1 h.2.2.2.2.2.2.2.1 h.2.2.2.2.2.2.2.2.1 h.2.2.2.2.2.2.2.2.2.1 h.2.2.2.2.2.2.2.2.2.2.1 h.2.2.2.2.2.2.2.2.2.2.2⟩]
 modes := [(184, [false, false, false]), (185, [false])]
 keep := [(0, ⟨[1, 9, 19, 20, 21], [], [⟨1000000, 96, ty8, [.slot 9], false⟩, ⟨1000001, 229, ty21, [.slot 19], false⟩], []⟩),
   (2, ⟨[1, 9, 11, 13, 19, 20, 21], [704], [⟨1002000, 96, ty8, [.slot 9], false⟩, ⟨1002001, 229, ty21, [.slot 19], false⟩], []⟩),
   (4, ⟨[1, 9, 11, 13, 19, 20, 21, 45, 46, 47], [704], [⟨1004000, 96, ty8, [.slot 9], false⟩, ⟨1004001, 229, ty21, [.slot 19], false⟩], []⟩)]
 keepX := [(0, .exit 0, ⟨[9], [], [⟨1500100, 96, ty8, [.slot 9], false⟩], []⟩),
   (2, .exit 2, ⟨[1, 9, 19, 20, 21], [], [⟨1502300, 96, ty8, [.slot 9], false⟩, ⟨1502301, 229, ty21, [.slot 19], false⟩], []⟩),
   (4, .exit 4, ⟨[1, 9, 11, 13, 19, 20, 21], [704], [⟨1504500, 96, ty8, [.slot 9], false⟩, ⟨1504501, 229, ty21, [.slot 19], false⟩], []⟩)]
 ro := [true]
theorem week_TimesOf_ok : Con.OK Tryz.prog week_TimesOf_con :=
 con_of tabOk mixedOk week_TimesOf_d week_TimesOf_con Tryz.f123 (Tryz.f123.body.getD .skip) Tryz.func123 (by kernel_rfl) (by kernel_rfl) (Nat.le_of_ble_eq_true (by kernel_rfl)) (by kernel_rfl) (And.intro zone_Table_Pieces_ok (And.intro span_Merge_ok trivial)) (by kernel_rfl) (by kernel_rfl)
   (And.intro (fun h => by kernel_rfl) (And.intro (fun h => by kernel_rfl) (And.intro (fun h => by kernel_rfl) trivial)))
   (fun h => by kernel_rfl)
noncomputable def duty_View_days_con : Con := ⟨125, [.v ty83, .v ty23, .v iT, .v iT], [ty83, ty23, iT, iT], ⟨[.own 96 ty13], []⟩, [ty13], fun h => Pw.duty_View_days h.1 h.2.1 h.2.2.1 h.2.2.2⟩
noncomputable def duty_View_days_d : FnD where
 N := 58
 np := 4
 cs := [zone_Table_Pieces_con, span_Merge_con]
 ds := [⟨0, [.s (.one (.bp 320 0)), .s (.one (.ol 1000000)), .s (.one (.ol 1000001)), sI, sI, .b (.cell [.d .str, .d iT, .d (.list iT)] false), .b (.lst 96 ty8 false), .b (.lst 229 ty21 false)], [iT, iT, .str, iT, (.list iT), ty13, ty25], [⟨.exit 0, [.s (.one (.ol 1500100)), .b (.lst 96 ty8 false)], [ty13]⟩], fun h => Pw.duty_View_days_l0_step h.1 h.2.1 h.2.2.1 h.2.2.2.1 h.2.2.2.2.1 h.2.2.2.2.2.1 h.2.2.2.2.2.2⟩,
   ⟨2, [.s (.one (.bp 320 0)), .s (.one (.ol 1002000)), .s (.one (.bp 704 0)), .s (.one (.ol 1002001)), sI, sI, .s (.one (.d (.list iT))), sI, sI, .b (.cell [.d .str, .d iT, .d (.list iT)] false), .b (.cell [.d iT, .d iT, .d iT] false), .b (.lst 96 ty8 false), .b (.lst 229 ty21 false)], [iT, iT, (.list iT), iT, iT, .str, iT, (.list iT), iT, iT, iT, ty13, ty25], [⟨.exit 2, [.s (.one (.bp 320 0)), .s (.one (.ol 1502300)), .s (.one (.ol 1502301)), sI, sI, .b (.cell [.d .str, .d iT, .d (.list iT)] false), .b (.lst 96 ty8 false), .b (.lst 229 ty21 false)], [iT, iT, .str, iT, (.list iT), ty13, ty25]⟩], fun h => Pw.duty_View_days_l2_step h.1 h.2.1 h.2.2.1 h.2.2.2.1 h.2.2.2.2.1 h.2.2.2.2.2.1 h.2.2.2.2.2.2.1 h.2.2.2.2.2.2.2.1 h.2.2.2.2.2.2.2.2.1 h.2.2.2.2.2.2.2.2.2.1 h.2.2.2.2.2.2.2.2.2.2.1 h.2.2.2.2.2.2.2.2.2.2.2.1 h.2.2.2.2.2.2.2.2.2.2.2.2⟩]
 modes := [(184, [false, false, false]), (185, [false])]
 keep := [(0, ⟨[5, 9, 23, 24, 25], [320], [⟨1000000, 96, ty8, [.slot 9], false⟩, ⟨1000001, 229, ty21, [.slot 23], false⟩], []⟩),
   (2, ⟨[5, 9, 11, 23, 24, 25, 30, 31, 32], [320, 704], [⟨1002000, 96, ty8, [.slot 9], false⟩, ⟨1002001, 229, ty21, [.slot 23], false⟩], []⟩)]
 keepX := [(0, .exit 0, ⟨[9], [], [⟨1500100, 96, ty8, [.slot 9], false⟩], []⟩),
   (2, .exit 2, ⟨[5, 9, 23, 24, 25], [320], [⟨1502300, 96, ty8, [.slot 9], false⟩, ⟨1502301, 229, ty21, [.slot 23], false⟩], []⟩)]
 ro := [true]
theorem duty_View_days_ok : Con.OK Tryz.prog duty_View_days_con :=
 con_of tabOk mixedOk duty_View_days_d duty_View_days_con Tryz.f125 (Tryz.f125.body.getD .skip) Tryz.func125 (by kernel_rfl) (by kernel_rfl) (Nat.le_of_ble_eq_true (by kernel_rfl)) (by kernel_rfl) (And.intro zone_Table_Pieces_ok (And.intro span_Merge_ok trivial)) (by kernel_rfl) (by kernel_rfl)
   (And.intro (fun h => by kernel_rfl) (And.intro (fun h => by kernel_rfl) trivial))
   (fun h => by kernel_rfl)
noncomputable def span_Without_con : Con := ⟨124, [.v ty13, .v ty13], [ty13, ty13], ⟨[.own 96 ty13], []⟩, [ty13], fun h => Pw.span_Without h.1 h.2⟩
noncomputable def span_Without_d : FnD where
 N := 89
 np := 2
 cs := []
 ds := [⟨0, [.s (.one (.d ty13)), .s (.one (.ol 1000000)), sI, .s (.one (.d ty13)), sI, sI, .b (.lst 96 ty8 false)], [ty13, iT, ty13, iT, iT, ty13], [⟨.exit 0, [.s (.one (.ol 1500100)), .b (.lst 96 ty8 false)], [ty13]⟩], fun h => Pw.span_Without_l0_step h.1 h.2.1 h.2.2.1 h.2.2.2.1 h.2.2.2.2.1 h.2.2.2.2.2⟩,
   ⟨2, [.s (.one (.d ty13)), .s (.one (.ol 1002000)), sI, .s (.one (.bp 512 0)), .s (.one (.d ty13)), sI, sI, .b (.cell [.d iT, .d iT] false), .b (.lst 96 ty8 false)], [ty13, iT, ty13, iT, iT, iT, iT, ty13], [⟨.exit 2, [.s (.one (.d ty13)), .s (.one (.ol 1502300)), sI, .s (.one (.bp 512 0)), .s (.one (.d ty13)), sI, sI, .b (.cell [.d iT, .d iT] false), .b (.lst 96 ty8 false)], [ty13, iT, ty13, iT, iT, iT, iT, ty13]⟩], fun h => Pw.span_Without_l2_step h.1 h.2.1 h.2.2.1 h.2.2.2.1 h.2.2.2.2.1 h.2.2.2.2.2.1 h.2.2.2.2.2.2.1 h.2.2.2.2.2.2.2⟩,
   ⟨4, [.s (.one (.d ty13)), .s (.one (.ol 1004000)), sI, .s (.one (.bp 512 0)), sI, sI, .s (.one (.d ty13)), sI, sI, .b (.cell [.d iT, .d iT] false), .b (.lst 96 ty8 false)], [ty13, iT, iT, iT, ty13, iT, iT, iT, iT, ty13], [⟨.exit 4, [.s (.one (.d ty13)), .s (.one (.ol 1504500)), sI, .s (.one (.bp 512 0)), sI, .s (.one (.d ty13)), sI, sI, .b (.cell [.d iT, .d iT] false), .b (.lst 96 ty8 false)], [ty13, iT, iT, ty13, iT, iT, iT, iT, ty13]⟩], fun h => Pw.span_Without_l4_step h.1 h.2.1 h.2.2.1 h.2.2.2.1 h.2.2.2.2.1 h.2.2.2.2.2.1 h.2.2.2.2.2.2.1 h.2.2.2.2.2.2.2.1 h.2.2.2.2.2.2.2.2.1 h.2.2.2.2.2.2.2.2.2⟩]
 keep := [(0, ⟨[1, 5, 6, 11, 12, 13], [], [⟨1000000, 96, ty8, [.slot 5], false⟩], []⟩),
   (2, ⟨[1, 5, 6, 8, 11, 12, 13], [512], [⟨1002000, 96, ty8, [.slot 5], false⟩], []⟩),
   (4, ⟨[1, 5, 6, 8, 9, 10, 11, 12, 13], [512], [⟨1004000, 96, ty8, [.slot 5], false⟩], []⟩)]
 keepX := [(0, .exit 0, ⟨[5], [], [⟨1500100, 96, ty8, [.slot 5], false⟩], []⟩),
   (2, .exit 2, ⟨[1, 5, 6, 8, 11, 12, 13], [512], [⟨1502300, 96, ty8, [.slot 5], false⟩], []⟩),
   (4, .exit 4, ⟨[1, 5, 6, 8, 9, 11, 12, 13], [512], [⟨1504500, 96, ty8, [.slot 5], false⟩], []⟩)]
 ro := [true]
theorem span_Without_ok : Con.OK Tryz.prog span_Without_con :=
 con_of tabOk mixedOk span_Without_d span_Without_con Tryz.f124 (Tryz.f124.body.getD .skip) Tryz.func124 (by kernel_rfl) (by kernel_rfl) (Nat.le_of_ble_eq_true (by kernel_rfl)) (by kernel_rfl) trivial (by kernel_rfl) (by kernel_rfl)
   (And.intro (fun h => by kernel_rfl) (And.intro (fun h => by kernel_rfl) (And.intro (fun h => by kernel_rfl) trivial)))
   (fun h => by kernel_rfl)
noncomputable def span_Common_con : Con := ⟨126, [.v ty13, .v ty13], [ty13, ty13], ⟨[.own 96 ty13], []⟩, [ty13], fun h => Pw.span_Common h.1 h.2⟩
noncomputable def span_Common_d : FnD where
 N := 67
 np := 2
 cs := []
 ds := [⟨0, [.s (.one (.d ty13)), .s (.one (.d ty13)), .s (.one (.ol 1000000)), sI, sI, .b (.lst 96 ty8 false)], [ty13, ty13, iT, iT, ty13], [⟨.exit 0, [.s (.one (.ol 1500100)), .b (.lst 96 ty8 false)], [ty13]⟩], fun h => Pw.span_Common_l0_step h.1 h.2.1 h.2.2.1 h.2.2.2.1 h.2.2.2.2⟩]
 keep := [(0, ⟨[0, 1, 5, 6, 7], [], [⟨1000000, 96, ty8, [.slot 5], false⟩], []⟩)]
 keepX := [(0, .exit 0, ⟨[5], [], [⟨1500100, 96, ty8, [.slot 5], false⟩], []⟩)]
 ro := [true]
 dw := [(4, [[], [], [], [], [], [], [], [], [], [], [], [], [], [], [], [], [], [], [], [], [], [], [], [512], [512]])]
theorem span_Common_ok : Con.OK Tryz.prog span_Common_con :=
 con_of tabOk mixedOk span_Common_d span_Common_con Tryz.f126 (Tryz.f126.body.getD .skip) Tryz.func126 (by kernel_rfl) (by kernel_rfl) (Nat.le_of_ble_eq_true (by kernel_rfl)) (by kernel_rfl) trivial (by kernel_rfl) (by kernel_rfl)
   (And.intro (fun h => by kernel_rfl) trivial)
   (fun h => by kernel_rfl)
noncomputable def duty_View_Times_con : Con := ⟨68, [.v ty83, .v ty69, .v iT, .v iT], [ty83, ty69, iT, iT], ⟨[.own 96 ty13], []⟩, [ty13], fun h => Pw.duty_View_Times h.1 h.2.1 h.2.2.1 h.2.2.2⟩
noncomputable def duty_View_Times_d : FnD where
 N := 90
 np := 4
 cs := [recur_HandoverOf_con, week_TimesOf_con, duty_View_days_con, span_Without_con, span_Common_con]
 ds := []
 modes := [(122, [false, false, false]), (123, [false, false, false, false]), (124, [false, false]), (125, [false, false, false, false]), (126, [false, false])]
 ro := [true]
 dw := [(7, [[], [], [], [], [], [], [], [], [], [], [3584], []]), (10, [[], [], [], [], [], [], [], [], [], [], [], [4608], [4672], []]), (12, [[], [], [], [], [], [], [], [], [], [], [], [5568], [5632], []])]
theorem duty_View_Times_ok : Con.OK Tryz.prog duty_View_Times_con :=
 con_of tabOk mixedOk duty_View_Times_d duty_View_Times_con Tryz.f68 (Tryz.f68.body.getD .skip) Tryz.func68 (by kernel_rfl) (by kernel_rfl) (Nat.le_of_ble_eq_true (by kernel_rfl)) (by kernel_rfl) (And.intro recur_HandoverOf_ok (And.intro week_TimesOf_ok (And.intro duty_View_days_ok (And.intro span_Without_ok (And.intro span_Common_ok trivial))))) (by kernel_rfl) (by kernel_rfl)
   trivial
   (fun h => by kernel_rfl)
noncomputable def zone_Table_Offset_con : Con := ⟨180, [.v ty26, .v iT], [ty26, iT], ⟨[.v iT], []⟩, [iT], fun h => Pw.zone_Table_Offset h.1 h.2⟩
noncomputable def zone_Table_Offset_d : FnD where
 N := 10
 np := 2
 cs := [zone_Table_after_con, zone_Table_before_con]
 ds := []
 modes := [(242, [false, false]), (243, [false, false])]
 ro := [false]
theorem zone_Table_Offset_ok : Con.OK Tryz.prog zone_Table_Offset_con :=
 con_of tabOk mixedOk zone_Table_Offset_d zone_Table_Offset_con Tryz.f180 (Tryz.f180.body.getD .skip) Tryz.func180 (by kernel_rfl) (by kernel_rfl) (Nat.le_of_ble_eq_true (by kernel_rfl)) (by kernel_rfl) (And.intro zone_Table_after_ok (And.intro zone_Table_before_ok trivial)) (by kernel_rfl) (by kernel_rfl)
   trivial
   (fun h => by kernel_rfl)
noncomputable def zone_local_con : Con := ⟨179, [.v iT], [iT], ⟨[.v ty8], []⟩, [ty8], fun h => Pw.zone_local h⟩
noncomputable def zone_local_d : FnD where
 N := 17
 np := 1
 cs := []
 ds := []
 ro := [false]
theorem zone_local_ok : Con.OK Tryz.prog zone_local_con :=
 con_of tabOk mixedOk zone_local_d zone_local_con Tryz.f179 (Tryz.f179.body.getD .skip) Tryz.func179 (by kernel_rfl) (by kernel_rfl) (Nat.le_of_ble_eq_true (by kernel_rfl)) (by kernel_rfl) trivial (by kernel_rfl) (by kernel_rfl)
   trivial
   (fun h => by kernel_rfl)
noncomputable def zone_Table_Local_con : Con := ⟨117, [.v ty26, .v iT], [ty26, iT], ⟨[.v ty8], []⟩, [ty8], fun h => Pw.zone_Table_Local h.1 h.2⟩
noncomputable def zone_Table_Local_d : FnD where
 N := 11
 np := 2
 cs := [zone_Table_Offset_con, zone_local_con]
 ds := []
 modes := [(179, [false]), (180, [false, false])]
 ro := [false]
theorem zone_Table_Local_ok : Con.OK Tryz.prog zone_Table_Local_con :=
 con_of tabOk mixedOk zone_Table_Local_d zone_Table_Local_con Tryz.f117 (Tryz.f117.body.getD .skip) Tryz.func117 (by kernel_rfl) (by kernel_rfl) (Nat.le_of_ble_eq_true (by kernel_rfl)) (by kernel_rfl) (And.intro zone_Table_Offset_ok (And.intro zone_local_ok trivial)) (by kernel_rfl) (by kernel_rfl)
   trivial
   (fun h => by kernel_rfl)
noncomputable def recur_ShiftOf_con : Con := ⟨121, [.v ty26, .v ty69, .v iT], [ty26, ty69, iT], ⟨[.v iT], []⟩, [iT], fun h => Pw.recur_ShiftOf h.1 h.2.1 h.2.2⟩
noncomputable def recur_ShiftOf_d : FnD where
 N := 84
 np := 3
 cs := [recur_step_con, recur_HandoverOf_con, zone_Table_Local_con]
 ds := [⟨0, [sI, .s (.one (.bp 192 0)), .s (.one (.bp 256 0)), sI, .b (.cell [.d iT, .d ty13] false), .b (.cell [.d .str, .d iT, .d iT, .d iT, .d iT, .d iT, .d (.list iT), .d ty13, .d iT, .d iT] false)], [iT, iT, iT, ty13, .str, iT, iT, iT, iT, iT, (.list iT), ty13, iT, iT], [⟨.exit 0, [sI, .s (.one (.bp 192 0)), .s (.one (.bp 256 0)), sI, .b (.cell [.d iT, .d ty13] false), .b (.cell [.d .str, .d iT, .d iT, .d iT, .d iT, .d iT, .d (.list iT), .d ty13, .d iT, .d iT] false)], [iT, iT, iT, ty13, .str, iT, iT, iT, iT, iT, (.list iT), ty13, iT, iT]⟩], fun h => Pw.recur_ShiftOf_l0_step h.1 h.2.1 h.2.2.1 h.2.2.2.1 h.2.2.2.2.1 h.2.2.2.2.2.1 h.2.2.2.2.2.2.1 h.2.2.2.2.2.2.2.1 h.2.2.2.2.2.2.2.2.1 h.2.2.2.2.2.2.2.2.2.1 h.2.2.2.2.2.2.2.2.2.2.1 h.2.2.2.2.2.2.2.2.2.2.2.1 h.2.2.2.2.2.2.2.2.2.2.2.2.1 h.2.2.2.2.2.2.2.2.2.2.2.2.2⟩,
   ⟨2, [sI, .s (.one (.bp 192 0)), .s (.one (.bp 256 0)), sI, .b (.cell [.d iT, .d ty13] false), .b (.cell [.d .str, .d iT, .d iT, .d iT, .d iT, .d iT, .d (.list iT), .d ty13, .d iT, .d iT] false)], [iT, iT, iT, ty13, .str, iT, iT, iT, iT, iT, (.list iT), ty13, iT, iT], [⟨.ret, [sI], [iT]⟩], fun h => Pw.recur_ShiftOf_l2_step h.1 h.2.1 h.2.2.1 h.2.2.2.1 h.2.2.2.2.1 h.2.2.2.2.2.1 h.2.2.2.2.2.2.1 h.2.2.2.2.2.2.2.1 h.2.2.2.2.2.2.2.2.1 h.2.2.2.2.2.2.2.2.2.1 h.2.2.2.2.2.2.2.2.2.2.1 h.2.2.2.2.2.2.2.2.2.2.2.1 h.2.2.2.2.2.2.2.2.2.2.2.2.1 h.2.2.2.2.2.2.2.2.2.2.2.2.2⟩]
 modes := [(117, [false, false]), (122, [false, false, false]), (182, [false])]
 keep := [(0, ⟨[2, 3, 4, 9], [192, 256], [], []⟩),
   (2, ⟨[2, 3, 4, 9], [192, 256], [], []⟩)]
 keepX := [(0, .exit 0, ⟨[2, 3, 4, 9], [192, 256], [], []⟩),
   (2, .ret, ⟨[6], [], [], []⟩)]
 ro := [false]
theorem recur_ShiftOf_ok : Con.OK Tryz.prog recur_ShiftOf_con :=
 con_of tabOk mixedOk recur_ShiftOf_d recur_ShiftOf_con Tryz.f121 (Tryz.f121.body.getD .skip) Tryz.func121 (by kernel_rfl) (by kernel_rfl) (Nat.le_of_ble_eq_true (by kernel_rfl)) (by kernel_rfl) (And.intro recur_step_ok (And.intro recur_HandoverOf_ok (And.intro zone_Table_Local_ok trivial))) (by kernel_rfl) (by kernel_rfl)
   (And.intro (fun h => by kernel_rfl) (And.intro (fun h => by kernel_rfl) trivial))
   (fun h => by kernel_rfl)
noncomputable def duty_Merge_con : Con := ⟨31, [.v ty25], [ty25], ⟨[.own 49 ty25], []⟩, [ty25], fun h => Pw.duty_Merge h⟩
noncomputable def duty_Merge_d : FnD where
 N := 57
 np := 1
 cs := []
 ds := [⟨0, [.s (.one (.ol 1000000)), .s (.one (.d ty25)), sI, sI, .b (.lst 49 ty21 false)], [ty25, iT, iT, ty25], [⟨.exit 0, [.s (.one (.ol 1500100)), .b (.lst 49 ty21 false)], [ty25]⟩], fun h => Pw.duty_Merge_l0_step h.1 h.2.1 h.2.2.1 h.2.2.2⟩]
 keep := [(0, ⟨[3, 7, 8, 9], [], [⟨1000000, 49, ty21, [.slot 3], false⟩], []⟩)]
 keepX := [(0, .exit 0, ⟨[3], [], [⟨1500100, 49, ty21, [.slot 3], false⟩], []⟩)]
 ro := [true]
theorem duty_Merge_ok : Con.OK Tryz.prog duty_Merge_con :=
 con_of tabOk mixedOk duty_Merge_d duty_Merge_con Tryz.f31 (Tryz.f31.body.getD .skip) Tryz.func31 (by kernel_rfl) (by kernel_rfl) (Nat.le_of_ble_eq_true (by kernel_rfl)) (by kernel_rfl) trivial (by kernel_rfl) (by kernel_rfl)
   (And.intro (fun h => by kernel_rfl) trivial)
   (fun h => by kernel_rfl)
noncomputable def duty_View_Segments_con : Con := ⟨67, [.v ty83, .v ty69, .v iT, .v iT], [ty83, ty69, iT, iT], ⟨[.own 49 ty25], []⟩, [ty25], fun h => Pw.duty_View_Segments h.1 h.2.1 h.2.2.1 h.2.2.2⟩
noncomputable def duty_View_Segments_d : FnD where
 N := 95
 np := 4
 cs := [recur_HandoverOf_con, duty_View_Times_con, recur_ShiftOf_con, duty_Merge_con]
 ds := [⟨0, [sI, .s (.one (.bp 320 0)), .s (.one (.ol 1000000)), .s (.one (.bp 640 0)), sI, sI, sI, .s (.one (.ol 1000001)), sI, sI, .b (.cell [.d .str, .d iT, .d iT, .d iT, .d iT, .d iT, .d (.list iT), .d ty13, .d iT, .d iT] false), .b (.cell [.d iT, .d ty13] false), .b (.lst 49 ty21 false), .b (.lst 96 ty8 false)], [iT, iT, iT, iT, iT, iT, .str, iT, iT, iT, iT, iT, (.list iT), ty13, iT, iT, iT, ty13, ty25, ty13], [⟨.exit 0, [sI, .s (.one (.ol 1500100)), sI, .b (.lst 49 ty21 false)], [iT, iT, ty25]⟩], fun h => Pw.duty_View_Segments_l0_step h.1 h.2.1 h.2.2.1 h.2.2.2.1 h.2.2.2.2.1 h.2.2.2.2.2.1 h.2.2.2.2.2.2.1 h.2.2.2.2.2.2.2.1 h.2.2.2.2.2.2.2.2.1 h.2.2.2.2.2.2.2.2.2.1 h.2.2.2.2.2.2.2.2.2.2.1 h.2.2.2.2.2.2.2.2.2.2.2.1 h.2.2.2.2.2.2.2.2.2.2.2.2.1 h.2.2.2.2.2.2.2.2.2.2.2.2.2.1 h.2.2.2.2.2.2.2.2.2.2.2.2.2.2.1 h.2.2.2.2.2.2.2.2.2.2.2.2.2.2.2.1 h.2.2.2.2.2.2.2.2.2.2.2.2.2.2.2.2.1 h.2.2.2.2.2.2.2.2.2.2.2.2.2.2.2.2.2.1 h.2.2.2.2.2.2.2.2.2.2.2.2.2.2.2.2.2.2.1 h.2.2.2.2.2.2.2.2.2.2.2.2.2.2.2.2.2.2.2⟩,
   ⟨2, [sI, .s (.one (.bp 320 0)), .s (.one (.ol 1002000)), .s (.one (.bp 640 0)), sI, sI, sI, .s (.one (.bp 960 0)), .s (.one (.ol 1002001)), sI, sI, .b (.cell [.d .str, .d iT, .d iT, .d iT, .d iT, .d iT, .d (.list iT), .d ty13, .d iT, .d iT] false), .b (.cell [.d iT, .d ty13] false), .b (.cell [.d iT, .d iT] false), .b (.lst 49 ty21 false), .b (.lst 96 ty8 false)], [iT, iT, iT, iT, iT, iT, .str, iT, iT, iT, iT, iT, (.list iT), ty13, iT, iT, iT, ty13, iT, iT, ty25, ty13], [⟨.exit 2, [sI, .s (.one (.bp 320 0)), .s (.one (.ol 1502300)), .s (.one (.bp 640 0)), sI, sI, sI, .s (.one (.ol 1502301)), sI, sI, .b (.cell [.d .str, .d iT, .d iT, .d iT, .d iT, .d iT, .d (.list iT), .d ty13, .d iT, .d iT] false), .b (.cell [.d iT, .d ty13] false), .b (.lst 49 ty21 false), .b (.lst 96 ty8 false)], [iT, iT, iT, iT, iT, iT, .str, iT, iT, iT, iT, iT, (.list iT), ty13, iT, iT, iT, ty13, ty25, ty13]⟩], fun h => Pw.duty_View_Segments_l2_step h.1 h.2.1 h.2.2.1 h.2.2.2.1 h.2.2.2.2.1 h.2.2.2.2.2.1 h.2.2.2.2.2.2.1 h.2.2.2.2.2.2.2.1 h.2.2.2.2.2.2.2.2.1 h.2.2.2.2.2.2.2.2.2.1 h.2.2.2.2.2.2.2.2.2.2.1 h.2.2.2.2.2.2.2.2.2.2.2.1 h.2.2.2.2.2.2.2.2.2.2.2.2.1 h.2.2.2.2.2.2.2.2.2.2.2.2.2.1 h.2.2.2.2.2.2.2.2.2.2.2.2.2.2.1 h.2.2.2.2.2.2.2.2.2.2.2.2.2.2.2.1 h.2.2.2.2.2.2.2.2.2.2.2.2.2.2.2.2.1 h.2.2.2.2.2.2.2.2.2.2.2.2.2.2.2.2.2.1 h.2.2.2.2.2.2.2.2.2.2.2.2.2.2.2.2.2.2.1 h.2.2.2.2.2.2.2.2.2.2.2.2.2.2.2.2.2.2.2.1 h.2.2.2.2.2.2.2.2.2.2.2.2.2.2.2.2.2.2.2.2.1 h.2.2.2.2.2.2.2.2.2.2.2.2.2.2.2.2.2.2.2.2.2⟩]
 modes := [(31, [false]), (68, [false, false, false, false]), (121, [false, false, false]), (122, [false, false, false])]
 keep := [(0, ⟨[3, 5, 9, 10, 11, 12, 13, 30, 31, 32], [320, 640], [⟨1000000, 49, ty21, [.slot 9], false⟩, ⟨1000001, 96, ty8, [.slot 30], false⟩], []⟩),
   (2, ⟨[3, 5, 9, 10, 11, 12, 13, 15, 30, 31, 32], [320, 640, 960], [⟨1002000, 49, ty21, [.slot 9], false⟩, ⟨1002001, 96, ty8, [.slot 30], false⟩], []⟩)]
 keepX := [(0, .exit 0, ⟨[3, 9, 11], [], [⟨1500100, 49, ty21, [.slot 9], false⟩], []⟩),
   (2, .exit 2, ⟨[3, 5, 9, 10, 11, 12, 13, 30, 31, 32], [320, 640], [⟨1502300, 49, ty21, [.slot 9], false⟩, ⟨1502301, 96, ty8, [.slot 30], false⟩], []⟩)]
 ro := [true]
 dw := [(17, [[], [], [], [], [], [], [], [], [], [], [], [], [], [5376], [5440, 1002000], []])]
theorem duty_View_Segments_ok : Con.OK Tryz.prog duty_View_Segments_con :=
 con_of tabOk mixedOk duty_View_Segments_d duty_View_Segments_con Tryz.f67 (Tryz.f67.body.getD .skip) Tryz.func67 (by kernel_rfl) (by kernel_rfl) (Nat.le_of_ble_eq_true (by kernel_rfl)) (by kernel_rfl) (And.intro recur_HandoverOf_ok (And.intro duty_View_Times_ok (And.intro recur_ShiftOf_ok (And.intro duty_Merge_ok trivial)))) (by kernel_rfl) (by kernel_rfl)
   (And.intro (fun h => by kernel_rfl) (And.intro (fun h => by kernel_rfl) trivial))
   (fun h => by kernel_rfl)
noncomputable def stack_leaves_con : Con := ⟨191, [.v ty74, .v iT], [ty74, iT], ⟨[.own 96 ty13], []⟩, [ty13], fun h => Pw.stack_leaves h.1 h.2⟩
noncomputable def stack_leaves_d : FnD where
 N := 35
 np := 2
 cs := [span_Merge_con]
 ds := [⟨0, [sI, .s (.one (.ol 1000000)), .s (.one (.d ty41)), sI, sI, .b (.lst 96 ty8 false)], [iT, ty41, iT, iT, ty13], [⟨.exit 0, [.s (.one (.ol 1500100)), .b (.lst 96 ty8 false)], [ty13]⟩], fun h => Pw.stack_leaves_l0_step h.1 h.2.1 h.2.2.1 h.2.2.2.1 h.2.2.2.2⟩]
 modes := [(185, [false])]
 keep := [(0, ⟨[1, 5, 9, 10, 11], [], [⟨1000000, 96, ty8, [.slot 5], false⟩], []⟩)]
 keepX := [(0, .exit 0, ⟨[5], [], [⟨1500100, 96, ty8, [.slot 5], false⟩], []⟩)]
 ro := [true]
theorem stack_leaves_ok : Con.OK Tryz.prog stack_leaves_con :=
 con_of tabOk mixedOk stack_leaves_d stack_leaves_con Tryz.f191 (Tryz.f191.body.getD .skip) Tryz.func191 (by kernel_rfl) (by kernel_rfl) (Nat.le_of_ble_eq_true (by kernel_rfl)) (by kernel_rfl) (And.intro span_Merge_ok trivial) (by kernel_rfl) (by kernel_rfl)
   (And.intro (fun h => by kernel_rfl) trivial)
   (fun h => by kernel_rfl)
noncomputable def stack_present_con : Con := ⟨134, [.v ty74, .v ty25], [ty74, ty25], ⟨[.own 49 ty25], []⟩, [ty25], fun h => Pw.stack_present h.1 h.2⟩
noncomputable def stack_present_d : FnD where
 N := 68
 np := 2
 cs := [span_Without_con, stack_leaves_con]
 ds := [⟨0, [.s (.one (.bp 128 0)), .s (.one (.ol 1000000)), .s (.one (.ol 1000001)), .s (.one (.d ty25)), sI, sI, .b (.cell [.d .str, .d ty70, .d ty41] false), .b (.lst 4294967530 ty26 false), .b (.lst 49 ty21 false)], [ty25, iT, iT, .str, ty70, ty41, ty30, ty25], [⟨.exit 0, [.s (.one (.ol 1500100)), .b (.lst 49 ty21 false)], [ty25]⟩], fun h => Pw.stack_present_l0_step h.1 h.2.1 h.2.2.1 h.2.2.2.1 h.2.2.2.2.1 h.2.2.2.2.2.1 h.2.2.2.2.2.2.1 h.2.2.2.2.2.2.2⟩,
   ⟨2, [.s (.one (.bp 128 0)), .s (.one (.ol 1002000)), .s (.one (.ol 1002001)), .s (.one (.bp 512 0)), .s (.one (.d ty25)), sI, sI, .s (.one (.ol 1002002)), sI, sI, .b (.cell [.d .str, .d ty70, .d ty41] false), .b (.cell [.d iT, .d iT, .d iT] false), .b (.lst 4294967530 ty26 false), .b (.lst 49 ty21 false), .b (.lst 96 ty8 false)], [ty25, iT, iT, iT, iT, .str, ty70, ty41, iT, iT, iT, ty30, ty25, ty13], [⟨.exit 2, [.s (.one (.bp 128 0)), .s (.one (.ol 1502300)), .s (.one (.ol 1502301)), .s (.one (.d ty25)), sI, sI, .b (.cell [.d .str, .d ty70, .d ty41] false), .b (.lst 4294967530 ty26 false), .b (.lst 49 ty21 false)], [ty25, iT, iT, .str, ty70, ty41, ty30, ty25]⟩], fun h => Pw.stack_present_l2_step h.1 h.2.1 h.2.2.1 h.2.2.2.1 h.2.2.2.2.1 h.2.2.2.2.2.1 h.2.2.2.2.2.2.1 h.2.2.2.2.2.2.2.1 h.2.2.2.2.2.2.2.2.1 h.2.2.2.2.2.2.2.2.2.1 h.2.2.2.2.2.2.2.2.2.2.1 h.2.2.2.2.2.2.2.2.2.2.2.1 h.2.2.2.2.2.2.2.2.2.2.2.2.1 h.2.2.2.2.2.2.2.2.2.2.2.2.2⟩]
 modes := [(124, [false, false]), (191, [false, false])]
 keep := [(0, ⟨[2, 5, 6, 14, 15, 16], [128], [⟨1000000, 4294967530, ty26, [.slot 5], false⟩, ⟨1000001, 49, ty21, [.slot 6], false⟩], []⟩),
   (2, ⟨[2, 5, 6, 8, 14, 15, 16, 49, 50, 51], [128, 512], [⟨1002000, 4294967530, ty26, [.slot 5], false⟩, ⟨1002001, 49, ty21, [.slot 6], false⟩, ⟨1002002, 96, ty8, [.slot 49], false⟩], []⟩)]
 keepX := [(0, .exit 0, ⟨[6], [], [⟨1500100, 49, ty21, [.slot 6], false⟩], []⟩),
   (2, .exit 2, ⟨[2, 5, 6, 14, 15, 16], [128], [⟨1502300, 4294967530, ty26, [.slot 5], false⟩, ⟨1502301, 49, ty21, [.slot 6], false⟩], []⟩)]
 ro := [true]
 dw := [(9, [[], [], [], [], [], [], [2432], [2432, 1000000]])]
theorem stack_present_ok : Con.OK Tryz.prog stack_present_con :=
 con_of tabOk mixedOk stack_present_d stack_present_con Tryz.f134 (Tryz.f134.body.getD .skip) Tryz.func134 (by kernel_rfl) (by kernel_rfl) (Nat.le_of_ble_eq_true (by kernel_rfl)) (by kernel_rfl) (And.intro span_Without_ok (And.intro stack_leaves_ok trivial)) (by kernel_rfl) (by kernel_rfl)
   (And.intro (fun h => by kernel_rfl) (And.intro (fun h => by kernel_rfl) trivial))
   (fun h => by kernel_rfl)
noncomputable def stack_within_con : Con := ⟨133, [.v ty25, .v ty13], [ty25, ty13], ⟨[.own 49 ty25], []⟩, [ty25], fun h => Pw.stack_within h.1 h.2⟩
noncomputable def stack_within_d : FnD where
 N := 72
 np := 2
 cs := []
 ds := [⟨0, [.s (.one (.d ty25)), .s (.one (.d ty13)), .s (.one (.ol 1000000)), sI, sI, .b (.lst 49 ty21 false)], [ty25, ty13, iT, iT, ty25], [⟨.exit 0, [.s (.one (.ol 1500100)), .b (.lst 49 ty21 false)], [ty25]⟩], fun h => Pw.stack_within_l0_step h.1 h.2.1 h.2.2.1 h.2.2.2.1 h.2.2.2.2⟩]
 keep := [(0, ⟨[0, 1, 5, 6, 7], [], [⟨1000000, 49, ty21, [.slot 5], false⟩], []⟩)]
 keepX := [(0, .exit 0, ⟨[5], [], [⟨1500100, 49, ty21, [.slot 5], false⟩], []⟩)]
 ro := [true]
 dw := [(4, [[], [], [], [], [], [], [], [], [], [], [], [], [], [], [], [], [], [], [], [], [], [], [], [], [], [], [], [], [512], [512]])]
theorem stack_within_ok : Con.OK Tryz.prog stack_within_con :=
 con_of tabOk mixedOk stack_within_d stack_within_con Tryz.f133 (Tryz.f133.body.getD .skip) Tryz.func133 (by kernel_rfl) (by kernel_rfl) (Nat.le_of_ble_eq_true (by kernel_rfl)) (by kernel_rfl) trivial (by kernel_rfl) (by kernel_rfl)
   (And.intro (fun h => by kernel_rfl) trivial)
   (fun h => by kernel_rfl)
noncomputable def stack_spans_con : Con := ⟨135, [.v ty25], [ty25], ⟨[.own 96 ty13], []⟩, [ty13], fun h => Pw.stack_spans h⟩
noncomputable def stack_spans_d : FnD where
 N := 23
 np := 1
 cs := [span_Merge_con]
 ds := [⟨0, [.s (.one (.ol 1000000)), .s (.one (.d ty25)), sI, sI, .b (.lst 96 ty8 false)], [ty25, iT, iT, ty13], [⟨.exit 0, [.s (.one (.ol 1500100)), .b (.lst 96 ty8 false)], [ty13]⟩], fun h => Pw.stack_spans_l0_step h.1 h.2.1 h.2.2.1 h.2.2.2⟩]
 modes := [(185, [false])]
 keep := [(0, ⟨[3, 6, 7, 8], [], [⟨1000000, 96, ty8, [.slot 3], false⟩], []⟩)]
 keepX := [(0, .exit 0, ⟨[3], [], [⟨1500100, 96, ty8, [.slot 3], false⟩], []⟩)]
 ro := [true]
theorem stack_spans_ok : Con.OK Tryz.prog stack_spans_con :=
 con_of tabOk mixedOk stack_spans_d stack_spans_con Tryz.f135 (Tryz.f135.body.getD .skip) Tryz.func135 (by kernel_rfl) (by kernel_rfl) (Nat.le_of_ble_eq_true (by kernel_rfl)) (by kernel_rfl) (And.intro span_Merge_ok trivial) (by kernel_rfl) (by kernel_rfl)
   (And.intro (fun h => by kernel_rfl) trivial)
   (fun h => by kernel_rfl)
noncomputable def stack_SegmentsOf_c1_con : Con := ⟨137, [.v ty21, .v ty21], [ty21, ty21], ⟨[.v iT], []⟩, [iT], fun h => Pw.stack_SegmentsOf_c1 h.1 h.2⟩
noncomputable def stack_SegmentsOf_c1_d : FnD where
 N := 10
 np := 2
 cs := []
 ds := []
 ro := [false]
theorem stack_SegmentsOf_c1_ok : Con.OK Tryz.prog stack_SegmentsOf_c1_con :=
 con_of tabOk mixedOk stack_SegmentsOf_c1_d stack_SegmentsOf_c1_con Tryz.f137 (Tryz.f137.body.getD .skip) Tryz.func137 (by kernel_rfl) (by kernel_rfl) (Nat.le_of_ble_eq_true (by kernel_rfl)) (by kernel_rfl) trivial (by kernel_rfl) (by kernel_rfl)
   trivial
   (fun h => by kernel_rfl)
end Go.Proofs.Pk
