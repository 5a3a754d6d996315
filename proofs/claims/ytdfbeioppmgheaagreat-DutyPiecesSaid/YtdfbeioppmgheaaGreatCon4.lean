/- Contracts: each given function is its plain function, printed by a program. -/
import Derived.Test.YtdfbeioppmgheaaGreatCon3
open Go Go.Lft
set_option linter.unusedVariables false
set_option maxRecDepth 100000
namespace Go.Proofs.Pk
noncomputable def slices_SortFunc_api_Span_api_Span_by_span_Merge_c2_con : Con := ⟨249, [.rl 96 ty13, .clo 250 []], [ty13], ⟨[], [.rl ty13]⟩, [ty13], fun h => Pw.slices_SortFunc_api_Span_api_Span_by_span_Merge_c2 h⟩
noncomputable def slices_SortFunc_api_Span_api_Span_by_span_Merge_c2_d : FnD where
 N := 14
 np := 2
 cs := [span_Merge_c2_con]
 ds := []
 modes := [(250, [false, false])]
theorem slices_SortFunc_api_Span_api_Span_by_span_Merge_c2_ok : Con.OK Tryz.prog slices_SortFunc_api_Span_api_Span_by_span_Merge_c2_con :=
 con_sort Tryz.sort249 (ty8) rfl 96 (by kernel_rfl) Tryz.isAgg96 Tryz.sizeOf96 _ 250 (enters_of Tryz.func250 (by kernel_rfl) rfl) sort250_cmp sort250_swo 249 rfl
noncomputable def span_Merge_con : Con := ⟨185, [.v ty13], [ty13], ⟨[.own 96 ty13], []⟩, [ty13], fun h => Pw.span_Merge h⟩
noncomputable def span_Merge_d : FnD where
 N := 54
 np := 1
 cs := [slices_Clone_api_Span_api_Span_con, slices_DeleteFunc_api_Span_api_Span_con, slices_SortFunc_api_Span_api_Span_by_span_Merge_c2_con]
 ds := [⟨0, [.s (.one (.ol 1000000)), .s (.one (.ol 1000001)), sI, sI, .b (.lst 96 ty8 false), .b (.lst 96 ty8 false)], [iT, iT, ty13, ty13], [⟨.exit 0, [.s (.one (.ol 1500100)), .b (.lst 96 ty8 false)], [ty13]⟩], fun h => Pw.span_Merge_l0_step h.1 h.2.1 h.2.2.1 h.2.2.2⟩]
 modes := [(246, [true, false]), (247, [false]), (249, [true, false])]
 keep := [(0, ⟨[4, 13, 14, 15], [], [⟨1000000, 96, ty8, [.slot 4], false⟩, ⟨1000001, 96, ty8, [.slot 13], false⟩], []⟩)]
 keepX := [(0, .exit 0, ⟨[4], [], [⟨1500100, 96, ty8, [.slot 4], false⟩], []⟩)]
 ro := [true]
 dw := [(9, [[], [], [], [], [], [], [], [], [], [], [], [], [], [], [1000000]])]
theorem span_Merge_ok : Con.OK Tryz.prog span_Merge_con :=
 con_of tabOk mixedOk span_Merge_d span_Merge_con Tryz.f185 (Tryz.f185.body.getD .skip) Tryz.func185 (by kernel_rfl) (by kernel_rfl) (Nat.le_of_ble_eq_true (by kernel_rfl)) (by kernel_rfl) (And.intro slices_Clone_api_Span_api_Span_ok (And.intro slices_DeleteFunc_api_Span_api_Span_ok (And.intro slices_SortFunc_api_Span_api_Span_by_span_Merge_c2_ok trivial))) (by kernel_rfl) (by kernel_rfl)
   (And.intro (fun h => by kernel_rfl) trivial)
   (fun h => by kernel_rfl)
noncomputable def week_TimesOf_con : Con := ⟨123, [.v ty26, .v ty13, .v iT, .v iT], [ty26, ty13, iT, iT], ⟨[.own 96 ty13], []⟩, [ty13], fun h => Pw.week_TimesOf h.1 h.2.1 h.2.2.1 h.2.2.2⟩
noncomputable def week_TimesOf_d : FnD where
 N := 73
 np := 4
 cs := [zone_Table_Pieces_con, span_Merge_con]
 ds := [⟨0, [.s (.one (.d ty13)), .s (.one (.ol 1000000)), .s (.one (.ol 1000001)), sI, sI, .b (.lst 96 ty8 false), .b (.lst 229 ty21 false)], [ty13, iT, iT, ty13, ty25], [⟨.exit 0, [.s (.one (.ol 1500100)), .b (.lst 96 ty8 false)], [ty13]⟩], fun h => Pw.week_TimesOf_l0_step h.1 h.2.1 h.2.2.1 h.2.2.2.1 h.2.2.2.2⟩,
   ⟨2, [.s (.one (.d ty13)), .s (.one (.ol 1002000)), .s (.one (.bp 704 0)), sI, .s (.one (.ol 1002001)), sI, sI, .b (.cell [.d iT, .d iT, .d iT] false), .b (.lst 96 ty8 false), .b (.lst 229 ty21 false)], [ty13, iT, iT, iT, iT, iT, iT, ty13, ty25], [⟨.exit 2, [.s (.one (.d ty13)), .s (.one (.ol 1502300)), .s (.one (.ol 1502301)), sI, sI, .b (.lst 96 ty8 false), .b (.lst 229 ty21 false)], [ty13, iT, iT, ty13, ty25]⟩], fun h => Pw.week_TimesOf_l2_step h.1 h.2.1 h.2.2.1 h.2.2.2.1 h.2.2.2.2.1 h.2.2.2.2.2.1 h.2.2.2.2.2.2.1 h.2.2.2.2.2.2.2.1 h.2.2.2.2.2.2.2.2⟩,
   ⟨4, [.s (.one (.d ty13)), .s (.one (.ol 1004000)), .s (.one (.bp 704 0)), sI, .s (.one (.ol 1004001)), sI, sI, .s (.one (.d ty13)), sI, sI, .b (.cell [.d iT, .d iT, .d iT] false), .b (.lst 96 ty8 false), .b (.lst 229 ty21 false)], [ty13, iT, iT, iT, ty13, iT, iT, iT, iT, iT, ty13, ty25], [⟨.exit 4, [.s (.one (.d ty13)), .s (.one (.ol 1504500)), .s (.one (.bp 704 0)), sI, .s (.one (.ol 1504501)), sI, sI, .b (.cell [.d iT, .d iT, .d iT] false), .b (.lst 96 ty8 false), .b (.lst 229 ty21 false)], [ty13, iT, iT, iT, iT, iT, iT, ty13, ty25]⟩], fun h => Pw.week_TimesOf_l4_step h.1 h.2.1 h.2.2.1 h.2.2.2.1 h.2.2.2.2.1 h.2.2.2.2.2.1 h.2.2.2.2.2.2.1 h.2.2.2.2.2.2.2.1 h.2.2.2.2.2.2.2.2.1 h.2.2.2.2.2.2.2.2.2.1 h.2.2.2.2.2.2.2.2.2.2.1 h.2.2.2.2.2.2.2.2.2.2.2⟩]
 modes := [(184, [false, false, false]), (185, [false])]
 keep := [(0, ⟨[1, 9, 19, 20, 21], [], [⟨1000000, 96, ty8, [.slot 9], false⟩, ⟨1000001, 229, ty21, [.slot 19], false⟩], []⟩),
   (2, ⟨[1, 9, 11, 13, 19, 20, 21], [704], [⟨1002000, 96, ty8, [.slot 9], false⟩, ⟨1002001, 229, ty21, [.slot 19], false⟩], []⟩),
   (4, ⟨[1, 9, 11, 13, 19, 20, 21, 45, 46, 47], [704], [⟨1004000, 96, ty8, [.slot 9], false⟩, ⟨1004001, 229, ty21, [.slot 19], false⟩], []⟩)]
 keepX := [(0, .exit 0, ⟨[9], [], [⟨1500100, 96, ty8, [.slot 9], false⟩], []⟩),
   (2, .exit 2, ⟨[1, 9, 19, 20, 21], [], [⟨1502300, 96, ty8, [.slot 9], false⟩, ⟨1502301, 229, ty21, [.slot 19], false⟩], []⟩),
   (4, .exit 4, ⟨[1, 9, 11, 13, 19, 20, 21], [704], [⟨1504500, 96, ty8, [.slot 9], false⟩, ⟨1504501, 229, ty21, [.slot 19], false⟩], []⟩)]
 ro := [true]
theorem week_TimesOf_ok : Con.OK Tryz.prog week_TimesOf_con :=
 con_of tabOk mixedOk week_TimesOf_d week_TimesOf_con Tryz.f123 (Tryz.f123.body.getD .skip) Tryz.func123 (by kernel_rfl) (by kernel_rfl) (Nat.le_of_ble_eq_true (by kernel_rfl)) (by kernel_rfl) (And.intro zone_Table_Pieces_ok (And.intro span_Merge_ok trivial)) (by kernel_rfl) (by kernel_rfl)
   (And.intro (fun h => by kernel_rfl) (And.intro (fun h => by kernel_rfl) (And.intro (fun h => by kernel_rfl) trivial)))
   (fun h => by kernel_rfl)
noncomputable def duty_View_days_con : Con := ⟨125, [.v ty83, .v ty23, .v iT, .v iT], [ty83, ty23, iT, iT], ⟨[.own 96 ty13], []⟩, [ty13], fun h => Pw.duty_View_days h.1 h.2.1 h.2.2.1 h.2.2.2⟩
noncomputable def duty_View_days_d : FnD where
 N := 58
 np := 4
 cs := [zone_Table_Pieces_con, span_Merge_con]
 ds := [⟨0, [.s (.one (.bp 320 0)), .s (.one (.ol 1000000)), .s (.one (.ol 1000001)), sI, sI, .b (.cell [.d .str, .d iT, .d (.list iT)] false), .b (.lst 96 ty8 false), .b (.lst 229 ty21 false)], [iT, iT, .str, iT, (.list iT), ty13, ty25], [⟨.exit 0, [.s (.one (.ol 1500100)), .b (.lst 96 ty8 false)], [ty13]⟩], fun h => Pw.duty_View_days_l0_step h.1 h.2.1 h.2.2.1 h.2.2.2.1 h.2.2.2.2.1 h.2.2.2.2.2.1 h.2.2.2.2.2.2⟩,
   ⟨2, [.s (.one (.bp 320 0)), .s (.one (.ol 1002000)), .s (.one (.bp 704 0)), .s (.one (.ol 1002001)), sI, sI, .s (.one (.d (.list iT))), sI, sI, .b (.cell [.d .str, .d iT, .d (.list iT)] false), .b (.cell [.d iT, .d iT, .d iT] false), .b (.lst 96 ty8 false), .b (.lst 229 ty21 false)], [iT, iT, (.list iT), iT, iT, .str, iT, (.list iT), iT, iT, iT, ty13, ty25], [⟨.exit 2, [.s (.one (.bp 320 0)), .s (.one (.ol 1502300)), .s (.one (.ol 1502301)), sI, sI, .b (.cell [.d .str, .d iT, .d (.list iT)] false), .b (.lst 96 ty8 false), .b (.lst 229 ty21 false)], [iT, iT, .str, iT, (.list iT), ty13, ty25]⟩], fun h => Pw.duty_View_days_l2_step h.1 h.2.1 h.2.2.1 h.2.2.2.1 h.2.2.2.2.1 h.2.2.2.2.2.1 h.2.2.2.2.2.2.1 h.2.2.2.2.2.2.2.1 h.2.2.2.2.2.2.2.2.1 h.2.2.2.2.2.2.2.2.2.1 h.2.2.2.2.2.2.2.2.2.2.1 h.2.2.2.2.2.2.2.2.2.2.2.1 h.2.2.2.2.2.2.2.2.2.2.2.2⟩]
 modes := [(184, [false, false, false]), (185, [false])]
 keep := [(0, ⟨[5, 9, 23, 24, 25], [320], [⟨1000000, 96, ty8, [.slot 9], false⟩, ⟨1000001, 229, ty21, [.slot 23], false⟩], []⟩),
   (2, ⟨[5, 9, 11, 23, 24, 25, 30, 31, 32], [320, 704], [⟨1002000, 96, ty8, [.slot 9], false⟩, ⟨1002001, 229, ty21, [.slot 23], false⟩], []⟩)]
 keepX := [(0, .exit 0, ⟨[9], [], [⟨1500100, 96, ty8, [.slot 9], false⟩], []⟩),
   (2, .exit 2, ⟨[5, 9, 23, 24, 25], [320], [⟨1502300, 96, ty8, [.slot 9], false⟩, ⟨1502301, 229, ty21, [.slot 23], false⟩], []⟩)]
 ro := [true]
theorem duty_View_days_ok : Con.OK Tryz.prog duty_View_days_con :=
 con_of tabOk mixedOk duty_View_days_d duty_View_days_con Tryz.f125 (Tryz.f125.body.getD .skip) Tryz.func125 (by kernel_rfl) (by kernel_rfl) (Nat.le_of_ble_eq_true (by kernel_rfl)) (by kernel_rfl) (And.intro zone_Table_Pieces_ok (And.intro span_Merge_ok trivial)) (by kernel_rfl) (by kernel_rfl)
   (And.intro (fun h => by kernel_rfl) (And.intro (fun h => by kernel_rfl) trivial))
   (fun h => by kernel_rfl)
noncomputable def span_Without_con : Con := ⟨124, [.v ty13, .v ty13], [ty13, ty13], ⟨[.own 96 ty13], []⟩, [ty13], fun h => Pw.span_Without h.1 h.2⟩
noncomputable def span_Without_d : FnD where
 N := 89
 np := 2
 cs := []
 ds := [⟨0, [.s (.one (.d ty13)), .s (.one (.ol 1000000)), sI, .s (.one (.d ty13)), sI, sI, .b (.lst 96 ty8 false)], [ty13, iT, ty13, iT, iT, ty13], [⟨.exit 0, [.s (.one (.ol 1500100)), .b (.lst 96 ty8 false)], [ty13]⟩], fun h => Pw.span_Without_l0_step h.1 h.2.1 h.2.2.1 h.2.2.2.1 h.2.2.2.2.1 h.2.2.2.2.2⟩,
   ⟨2, [.s (.one (.d ty13)), .s (.one (.ol 1002000)), sI, .s (.one (.bp 512 0)), .s (.one (.d ty13)), sI, sI, .b (.cell [.d iT, .d iT] false), .b (.lst 96 ty8 false)], [ty13, iT, ty13, iT, iT, iT, iT, ty13], [⟨.exit 2, [.s (.one (.d ty13)), .s (.one (.ol 1502300)), sI, .s (.one (.bp 512 0)), .s (.one (.d ty13)), sI, sI, .b (.cell [.d iT, .d iT] false), .b (.lst 96 ty8 false)], [ty13, iT, ty13, iT, iT, iT, iT, ty13]⟩], fun h => Pw.span_Without_l2_step h.1 h.2.1 h.2.2.1 h.2.2.2.1 h.2.2.2.2.1 h.2.2.2.2.2.1 h.2.2.2.2.2.2.1 h.2.2.2.2.2.2.2⟩,
   ⟨4, [.s (.one (.d ty13)), .s (.one (.ol 1004000)), sI, .s (.one (.bp 512 0)), sI, sI, .s (.one (.d ty13)), sI, sI, .b (.cell [.d iT, .d iT] false), .b (.lst 96 ty8 false)], [ty13, iT, iT, iT, ty13, iT, iT, iT, iT, ty13], [⟨.exit 4, [.s (.one (.d ty13)), .s (.one (.ol 1504500)), sI, .s (.one (.bp 512 0)), sI, .s (.one (.d ty13)), sI, sI, .b (.cell [.d iT, .d iT] false), .b (.lst 96 ty8 false)], [ty13, iT, iT, ty13, iT, iT, iT, iT, ty13]⟩], fun h => Pw.span_Without_l4_step h.1 h.2.1 h.2.2.1 h.2.2.2.1 h.2.2.2.2.1 h.2.2.2.2.2.1 h.2.2.2.2.2.2.1 h.2.2.2.2.2.2.2.1 h.2.2.2.2.2.2.2.2.1 h.2.2.2.2.2.2.2.2.2⟩]
 keep := [(0, ⟨[1, 5, 6, 11, 12, 13], [], [⟨1000000, 96, ty8, [.slot 5], false⟩], []⟩),
   (2, ⟨[1, 5, 6, 8, 11, 12, 13], [512], [⟨1002000, 96, ty8, [.slot 5], false⟩], []⟩),
   (4, ⟨[1, 5, 6, 8, 9, 10, 11, 12, 13], [512], [⟨1004000, 96, ty8, [.slot 5], false⟩], []⟩)]
 keepX := [(0, .exit 0, ⟨[5], [], [⟨1500100, 96, ty8, [.slot 5], false⟩], []⟩),
   (2, .exit 2, ⟨[1, 5, 6, 8, 11, 12, 13], [512], [⟨1502300, 96, ty8, [.slot 5], false⟩], []⟩),
   (4, .exit 4, ⟨[1, 5, 6, 8, 9, 11, 12, 13], [512], [⟨1504500, 96, ty8, [.slot 5], false⟩], []⟩)]
 ro := [true]
theorem span_Without_ok : Con.OK Tryz.prog span_Without_con :=
 con_of tabOk mixedOk span_Without_d span_Without_con Tryz.f124 (Tryz.f124.body.getD .skip) Tryz.func124 (by kernel_rfl) (by kernel_rfl) (Nat.le_of_ble_eq_true (by kernel_rfl)) (by kernel_rfl) trivial (by kernel_rfl) (by kernel_rfl)
   (And.intro (fun h => by kernel_rfl) (And.intro (fun h => by kernel_rfl) (And.intro (fun h => by kernel_rfl) trivial)))
   (fun h => by kernel_rfl)
noncomputable def span_Common_con : Con := ⟨126, [.v ty13, .v ty13], [ty13, ty13], ⟨[.own 96 ty13], []⟩, [ty13], fun h => Pw.span_Common h.1 h.2⟩
noncomputable def span_Common_d : FnD where
 N := 67
 np := 2
 cs := []
 ds := [⟨0, [.s (.one (.d ty13)), .s (.one (.d ty13)), .s (.one (.ol 1000000)), sI, sI, .b (.lst 96 ty8 false)], [ty13, ty13, iT, iT, ty13], [⟨.exit 0, [.s (.one (.ol 1500100)), .b (.lst 96 ty8 false)], [ty13]⟩], fun h => Pw.span_Common_l0_step h.1 h.2.1 h.2.2.1 h.2.2.2.1 h.2.2.2.2⟩]
 keep := [(0, ⟨[0, 1, 5, 6, 7], [], [⟨1000000, 96, ty8, [.slot 5], false⟩], []⟩)]
 keepX := [(0, .exit 0, ⟨[5], [], [⟨1500100, 96, ty8, [.slot 5], false⟩], []⟩)]
 ro := [true]
 dw := [(4, [[], [], [], [], [], [], [], [], [], [], [], [], [], [], [], [], [], [], [], [], [], [], [], [512], [512]])]
theorem span_Common_ok : Con.OK Tryz.prog span_Common_con :=
 con_of tabOk mixedOk span_Common_d span_Common_con Tryz.f126 (Tryz.f126.body.getD .skip) Tryz.func126 (by kernel_rfl) (by kernel_rfl) (Nat.le_of_ble_eq_true (by kernel_rfl)) (by kernel_rfl) trivial (by kernel_rfl) (by kernel_rfl)
   (And.intro (fun h => by kernel_rfl) trivial)
   (fun h => by kernel_rfl)
noncomputable def duty_View_Times_con : Con := ⟨68, [.v ty83, .v ty69, .v iT, .v iT], [ty83, ty69, iT, iT], ⟨[.own 96 ty13], []⟩, [ty13], fun h => Pw.duty_View_Times h.1 h.2.1 h.2.2.1 h.2.2.2⟩
noncomputable def duty_View_Times_d : FnD where
 N := 90
 np := 4
 cs := [recur_HandoverOf_con, week_TimesOf_con, duty_View_days_con, span_Without_con, span_Common_con]
 ds := []
 modes := [(122, [false, false, false]), (123, [false, false, false, false]), (124, [false, false]), (125, [false, false, false, false]), (126, [false, false])]
 ro := [true]
 dw := [(7, [[], [], [], [], [], [], [], [], [], [], [3584], []]), (10, [[], [], [], [], [], [], [], [], [], [], [], [4608], [4672], []]), (12, [[], [], [], [], [], [], [], [], [], [], [], [5568], [5632], []])]
theorem duty_View_Times_ok : Con.OK Tryz.prog duty_View_Times_con :=
 con_of tabOk mixedOk duty_View_Times_d duty_View_Times_con Tryz.f68 (Tryz.f68.body.getD .skip) Tryz.func68 (by kernel_rfl) (by kernel_rfl) (Nat.le_of_ble_eq_true (by kernel_rfl)) (by kernel_rfl) (And.intro recur_HandoverOf_ok (And.intro week_TimesOf_ok (And.intro duty_View_days_ok (And.intro span_Without_ok (And.intro span_Common_ok trivial))))) (by kernel_rfl) (by kernel_rfl)
   trivial
   (fun h => by kernel_rfl)
noncomputable def zone_Table_Offset_con : Con := ⟨180, [.v ty26, .v iT], [ty26, iT], ⟨[.v iT], []⟩, [iT], fun h => Pw.zone_Table_Offset h.1 h.2⟩
noncomputable def zone_Table_Offset_d : FnD where
 N := 10
 np := 2
 cs := [zone_Table_after_con, zone_Table_before_con]
 ds := []
 modes := [(242, [false, false]), (243, [false, false])]
 ro := [false]
theorem zone_Table_Offset_ok : Con.OK Tryz.prog zone_Table_Offset_con :=
 con_of tabOk mixedOk zone_Table_Offset_d zone_Table_Offset_con Tryz.f180 (Tryz.f180.body.getD .skip) Tryz.func180 (by kernel_rfl) (by kernel_rfl) (Nat.le_of_ble_eq_true (by kernel_rfl)) (by kernel_rfl) (And.intro zone_Table_after_ok (And.intro zone_Table_before_ok trivial)) (by kernel_rfl) (by kernel_rfl)
   trivial
   (fun h => by kernel_rfl)
noncomputable def zone_local_con : Con := ⟨179, [.v iT], [iT], ⟨[.v ty8], []⟩, [ty8], fun h => Pw.zone_local h⟩
noncomputable def zone_local_d : FnD where
 N := 17
 np := 1
 cs := []
 ds := []
 ro := [false]
theorem zone_local_ok : Con.OK Tryz.prog zone_local_con :=
 con_of tabOk mixedOk zone_local_d zone_local_con Tryz.f179 (Tryz.f179.body.getD .skip) Tryz.func179 (by kernel_rfl) (by kernel_rfl) (Nat.le_of_ble_eq_true (by kernel_rfl)) (by kernel_rfl) trivial (by kernel_rfl) (by kernel_rfl)
   trivial
   (fun h => by kernel_rfl)
noncomputable def zone_Table_Local_con : Con := ⟨117, [.v ty26, .v iT], [ty26, iT], ⟨[.v ty8], []⟩, [ty8], fun h => Pw.zone_Table_Local h.1 h.2⟩
noncomputable def zone_Table_Local_d : FnD where
 N := 11
 np := 2
 cs := [zone_Table_Offset_con, zone_local_con]
 ds := []
 modes := [(179, [false]), (180, [false, false])]
 ro := [false]
theorem zone_Table_Local_ok : Con.OK Tryz.prog zone_Table_Local_con :=
 con_of tabOk mixedOk zone_Table_Local_d zone_Table_Local_con Tryz.f117 (Tryz.f117.body.getD .skip) Tryz.func117 (by kernel_rfl) (by kernel_rfl) (Nat.le_of_ble_eq_true (by kernel_rfl)) (by kernel_rfl) (And.intro zone_Table_Offset_ok (And.intro zone_local_ok trivial)) (by kernel_rfl) (by kernel_rfl)
   trivial
   (fun h => by kernel_rfl)
noncomputable def recur_ShiftOf_con : Con := ⟨121, [.v ty26, .v ty69, .v iT], [ty26, ty69, iT], ⟨[.v iT], []⟩, [iT], fun h => Pw.recur_ShiftOf h.1 h.2.1 h.2.2⟩
noncomputable def recur_ShiftOf_d : FnD where
 N := 84
 np := 3
 cs := [recur_step_con, recur_HandoverOf_con, zone_Table_Local_con]
 ds := [⟨0, [sI, .s (.one (.bp 192 0)), .s (.one (.bp 256 0)), sI, .b (.cell [.d iT, .d ty13] false), .b (.cell [.d .str, .d iT, .d iT, .d iT, .d iT, .d iT, .d (.list iT), .d ty13, .d iT, .d iT] false)], [iT, iT, iT, ty13, .str, iT, iT, iT, iT, iT, (.list iT), ty13, iT, iT], [⟨.exit 0, [sI, .s (.one (.bp 192 0)), .s (.one (.bp 256 0)), sI, .b (.cell [.d iT, .d ty13] false), .b (.cell [.d .str, .d iT, .d iT, .d iT, .d iT, .d iT, .d (.list iT), .d ty13, .d iT, .d iT] false)], [iT, iT, iT, ty13, .str, iT, iT, iT, iT, iT, (.list iT), ty13, iT, iT]⟩], fun h => Pw.recur_ShiftOf_l0_step h.1 h.2.1 h.2.2.1 h.2.2.2.1 h.2.2.2.2.1 h.2.2.2.2.2.1 h.2.2.2.2.2.2.1 h.2.2.2.2.2.2.2.1 h.2.2.2.2.2.2.2.2.1 h.2.2.2.2.2.2.2.2.2.1 h.2.2.2.2.2.2.2.2.2.2.1 h.2.2.2.2.2.2.2.2.2.2.2.1 h.2.2.2.2.2.2.2.2.2.2.2.2.1 h.2.2.2.2.2.2.2.2.2.2.2.2.2⟩,
   ⟨2, [sI, .s (.one (.bp 192 0)), .s (.one (.bp 256 0)), sI, .b (.cell [.d iT, .d ty13] false), .b (.cell [.d .str, .d iT, .d iT, .d iT, .d iT, .d iT, .d (.list iT), .d ty13, .d iT, .d iT] false)], [iT, iT, iT, ty13, .str, iT, iT, iT, iT, iT, (.list iT), ty13, iT, iT], [⟨.ret, [sI], [iT]⟩], fun h => Pw.recur_ShiftOf_l2_step h.1 h.2.1 h.2.2.1 h.2.2.2.1 h.2.2.2.2.1 h.2.2.2.2.2.1 h.2.2.2.2.2.2.1 h.2.2.2.2.2.2.2.1 h.2.2.2.2.2.2.2.2.1 h.2.2.2.2.2.2.2.2.2.1 h.2.2.2.2.2.2.2.2.2.2.1 h.2.2.2.2.2.2.2.2.2.2.2.1 h.2.2.2.2.2.2.2.2.2.2.2.2.1 h.2.2.2.2.2.2.2.2.2.2.2.2.2⟩]
 modes := [(117, [false, false]), (122, [false, false, false]), (182, [false])]
 keep := [(0, ⟨[2, 3, 4, 9], [192, 256], [], []⟩),
   (2, ⟨[2, 3, 4, 9], [192, 256], [], []⟩)]
 keepX := [(0, .exit 0, ⟨[2, 3, 4, 9], [192, 256], [], []⟩),
   (2, .ret, ⟨[6], [], [], []⟩)]
 ro := [false]
theorem recur_ShiftOf_ok : Con.OK Tryz.prog recur_ShiftOf_con :=
 con_of tabOk mixedOk recur_ShiftOf_d recur_ShiftOf_con Tryz.f121 (Tryz.f121.body.getD .skip) Tryz.func121 (by kernel_rfl) (by kernel_rfl) (Nat.le_of_ble_eq_true (by kernel_rfl)) (by kernel_rfl) (And.intro recur_step_ok (And.intro recur_HandoverOf_ok (And.intro zone_Table_Local_ok trivial))) (by kernel_rfl) (by kernel_rfl)
   (And.intro (fun h => by kernel_rfl) (And.intro (fun h => by kernel_rfl) trivial))
   (fun h => by kernel_rfl)
noncomputable def duty_Merge_con : Con := ⟨31, [.v ty25], [ty25], ⟨[.own 49 ty25], []⟩, [ty25], fun h => Pw.duty_Merge h⟩
noncomputable def duty_Merge_d : FnD where
 N := 57
 np := 1
 cs := []
 ds := [⟨0, [.s (.one (.ol 1000000)), .s (.one (.d ty25)), sI, sI, .b (.lst 49 ty21 false)], [ty25, iT, iT, ty25], [⟨.exit 0, [.s (.one (.ol 1500100)), .b (.lst 49 ty21 false)], [ty25]⟩], fun h => Pw.duty_Merge_l0_step h.1 h.2.1 h.2.2.1 h.2.2.2⟩]
 keep := [(0, ⟨[3, 7, 8, 9], [], [⟨1000000, 49, ty21, [.slot 3], false⟩], []⟩)]
 keepX := [(0, .exit 0, ⟨[3], [], [⟨1500100, 49, ty21, [.slot 3], false⟩], []⟩)]
 ro := [true]
theorem duty_Merge_ok : Con.OK Tryz.prog duty_Merge_con :=
 con_of tabOk mixedOk duty_Merge_d duty_Merge_con Tryz.f31 (Tryz.f31.body.getD .skip) Tryz.func31 (by kernel_rfl) (by kernel_rfl) (Nat.le_of_ble_eq_true (by kernel_rfl)) (by kernel_rfl) trivial (by kernel_rfl) (by kernel_rfl)
   (And.intro (fun h => by kernel_rfl) trivial)
   (fun h => by kernel_rfl)
noncomputable def duty_View_Segments_con : Con := ⟨67, [.v ty83, .v ty69, .v iT, .v iT], [ty83, ty69, iT, iT], ⟨[.own 49 ty25], []⟩, [ty25], fun h => Pw.duty_View_Segments h.1 h.2.1 h.2.2.1 h.2.2.2⟩
noncomputable def duty_View_Segments_d : FnD where
 N := 95
 np := 4
 cs := [recur_HandoverOf_con, duty_View_Times_con, recur_ShiftOf_con, duty_Merge_con]
 ds := [⟨0, [sI, .s (.one (.bp 320 0)), .s (.one (.ol 1000000)), .s (.one (.bp 640 0)), sI, sI, sI, .s (.one (.ol 1000001)), sI, sI, .b (.cell [.d .str, .d iT, .d iT, .d iT, .d iT, .d iT, .d (.list iT), .d ty13, .d iT, .d iT] false), .b (.cell [.d iT, .d ty13] false), .b (.lst 49 ty21 false), .b (.lst 96 ty8 false)], [iT, iT, iT, iT, iT, iT, .str, iT, iT, iT, iT, iT, (.list iT), ty13, iT, iT, iT, ty13, ty25, ty13], [⟨.exit 0, [sI, .s (.one (.ol 1500100)), sI, .b (.lst 49 ty21 false)], [iT, iT, ty25]⟩], fun h => Pw.duty_View_Segments_l0_step h.1 h.2.1 h.2.2.1 h.2.2.2.1 h.2.2.2.2.1 h.2.2.2.2.2.1 h.2.2.2.2.2.2.1 h.2.2.2.2.2.2.2.1 h.2.2.2.2.2.2.2.2.1 h.2.2.2.2.2.2.2.2.2.1 h.2.2.2.2.2.2.2.2.2.2.1 h.2.2.2.2.2.2.2.2.2.2.2.1 h.2.2.2.2.2.2.2.2.2.2.2.2.1 h.2.2.2.2.2.2.2.2.2.2.2.2.2.1 h.2.2.2.2.2.2.2.2.2.2.2.2.2.2.1 h.2.2.2.2.2.2.2.2.2.2.2.2.2.2.2.1 h.2.2.2.2.2.2.2.2.2.2.2.2.2.2.2.2.1 h.2.2.2.2.2.2.2.2.2.2.2.2.2.2.2.2.2.1 h.2.2.2.2.2.2.2.2.2.2.2.2.2.2.2.2.2.2.1 h.2.2.2.2.2.2.2.2.2.2.2.2.2.2.2.2.2.2.2⟩,
   ⟨2, [sI, .s (.one (.bp 320 0)), .s (.one (.ol 1002000)), .s (.one (.bp 640 0)), sI, sI, sI, .s (.one (.bp 960 0)), .s (.one (.ol 1002001)), sI, sI, .b (.cell [.d .str, .d iT, .d iT, .d iT, .d iT, .d iT, .d (.list iT), .d ty13, .d iT, .d iT] false), .b (.cell [.d iT, .d ty13] false), .b (.cell [.d iT, .d iT] false), .b (.lst 49 ty21 false), .b (.lst 96 ty8 false)], [iT, iT, iT, iT, iT, iT, .str, iT, iT, iT, iT, iT, (.list iT), ty13, iT, iT, iT, ty13, iT, iT, ty25, ty13], [⟨.exit 2, [sI, .s (.one (.bp 320 0)), .s (.one (.ol 1502300)), .s (.one (.bp 640 0)), sI, sI, sI, .s (.one (.ol 1502301)), sI, sI, .b (.cell [.d .str, .d iT, .d iT, .d iT, .d iT, .d iT, .d (.list iT), .d ty13, .d iT, .d iT] false), .b (.cell [.d iT, .d ty13] false), .b (.lst 49 ty21 false), .b (.lst 96 ty8 false)], [iT, iT, iT, iT, iT, iT, .str, iT, iT, iT, iT, iT, (.list iT), ty13, iT, iT, iT, ty13, ty25, ty13]⟩], fun h => Pw.duty_View_Segments_l2_step h.1 h.2.1 h.2.2.1 h.2.2.2.1 h.2.2.2.2.1 h.2.2.2.2.2.1 h.2.2.2.2.2.2.1 h.2.2.2.2.2.2.2.1 h.2.2.2.2.2.2.2.2.1 h.2.2.2.2.2.2.2.2.2.1 h.2.2.2.2.2.2.2.2.2.2.1 h.2.2.2.2.2.2.2.2.2.2.2.1 h.2.2.2.2.2.2.2.2.2.2.2.2.1 h.2.2.2.2.2.2.2.2.2.2.2.2.2.1 h.2.2.2.2.2.2.2.2.2.2.2.2.2.2.1 h.2.2.2.2.2.2.2.2.2.2.2.2.2.2.2.1 h.2.2.2.2.2.2.2.2.2.2.2.2.2.2.2.2.1 h.2.2.2.2.2.2.2.2.2.2.2.2.2.2.2.2.2.1 h.2.2.2.2.2.2.2.2.2.2.2.2.2.2.2.2.2.2.1 h.2.2.2.2.2.2.2.2.2.2.2.2.2.2.2.2.2.2.2.1 h.2.2.2.2.2.2.2.2.2.2.2.2.2.2.2.2.2.2.2.2.1 h.2.2.2.2.2.2.2.2.2.2.2.2.2.2.2.2.2.2.2.2.2⟩]
 modes := [(31, [false]), (68, [false, false, false, false]), (121, [false, false, false]), (122, [false, false, false])]
 keep := [(0, ⟨[3, 5, 9, 10, 11, 12, 13, 30, 31, 32], [320, 640], [⟨1000000, 49, ty21, [.slot 9], false⟩, ⟨1000001, 96, ty8, [.slot 30], false⟩], []⟩),
   (2, ⟨[3, 5, 9, 10, 11, 12, 13, 15, 30, 31, 32], [320, 640, 960], [⟨1002000, 49, ty21, [.slot 9], false⟩, ⟨1002001, 96, ty8, [.slot 30], false⟩], []⟩)]
 keepX := [(0, .exit 0, ⟨[3, 9, 11], [], [⟨1500100, 49, ty21, [.slot 9], false⟩], []⟩),
   (2, .exit 2, ⟨[3, 5, 9, 10, 11, 12, 13, 30, 31, 32], [320, 640], [⟨1502300, 49, ty21, [.slot 9], false⟩, ⟨1502301, 96, ty8, [.slot 30], false⟩], []⟩)]
 ro := [true]
 dw := [(17, [[], [], [], [], [], [], [], [], [], [], [], [], [], [5376], [5440, 1002000], []])]
theorem duty_View_Segments_ok : Con.OK Tryz.prog duty_View_Segments_con :=
 con_of tabOk mixedOk duty_View_Segments_d duty_View_Segments_con Tryz.f67 (Tryz.f67.body.getD .skip) Tryz.func67 (by kernel_rfl) (by kernel_rfl) (Nat.le_of_ble_eq_true (by kernel_rfl)) (by kernel_rfl) (And.intro recur_HandoverOf_ok (And.intro duty_View_Times_ok (And.intro recur_ShiftOf_ok (And.intro duty_Merge_ok trivial)))) (by kernel_rfl) (by kernel_rfl)
   (And.intro (fun h => by kernel_rfl) (And.intro (fun h => by kernel_rfl) trivial))
   (fun h => by kernel_rfl)
noncomputable def duty_Segments_con : Con := ⟨23, [.v ty81, .v ty69, .v iT, .v iT], [ty81, ty69, iT, iT], ⟨[.own 49 ty25, .v iT], []⟩, [ty25, iT], fun h => Pw.duty_Segments h.1 h.2.1 h.2.2.1 h.2.2.2⟩
noncomputable def duty_Segments_d : FnD where
 N := 30
 np := 4
 cs := [duty_check_con, duty_view_con, duty_View_Segments_con]
 ds := []
 modes := [(65, [false, false, false, false]), (66, [false]), (67, [false, false, false, false])]
 ro := [true, false]
 dw := [(4, [[], [], [], [], [], [1600], []])]
theorem duty_Segments_ok : Con.OK Tryz.prog duty_Segments_con :=
 con_of tabOk mixedOk duty_Segments_d duty_Segments_con Tryz.f23 (Tryz.f23.body.getD .skip) Tryz.func23 (by kernel_rfl) (by kernel_rfl) (Nat.le_of_ble_eq_true (by kernel_rfl)) (by kernel_rfl) (And.intro duty_check_ok (And.intro duty_view_ok (And.intro duty_View_Segments_ok trivial))) (by kernel_rfl) (by kernel_rfl)
   trivial
   (fun h => by kernel_rfl)
noncomputable def duty_Times_con : Con := ⟨24, [.v ty81, .v ty69, .v iT, .v iT], [ty81, ty69, iT, iT], ⟨[.own 96 ty13, .v iT], []⟩, [ty13, iT], fun h => Pw.duty_Times h.1 h.2.1 h.2.2.1 h.2.2.2⟩
noncomputable def duty_Times_d : FnD where
 N := 30
 np := 4
 cs := [duty_check_con, duty_view_con, duty_View_Times_con]
 ds := []
 modes := [(65, [false, false, false, false]), (66, [false]), (68, [false, false, false, false])]
 ro := [true, false]
 dw := [(4, [[], [], [], [], [], [1600], []])]
theorem duty_Times_ok : Con.OK Tryz.prog duty_Times_con :=
 con_of tabOk mixedOk duty_Times_d duty_Times_con Tryz.f24 (Tryz.f24.body.getD .skip) Tryz.func24 (by kernel_rfl) (by kernel_rfl) (Nat.le_of_ble_eq_true (by kernel_rfl)) (by kernel_rfl) (And.intro duty_check_ok (And.intro duty_view_ok (And.intro duty_View_Times_ok trivial))) (by kernel_rfl) (by kernel_rfl)
   trivial
   (fun h => by kernel_rfl)
noncomputable def week_SecondOf_con : Con := ⟨115, [.v ty8], [ty8], ⟨[.v iT], []⟩, [iT], fun h => Pw.week_SecondOf h⟩
noncomputable def week_SecondOf_d : FnD where
 N := 10
 np := 1
 cs := [civil_Weekday_con]
 ds := []
 modes := [(178, [false])]
 ro := [false]
theorem week_SecondOf_ok : Con.OK Tryz.prog week_SecondOf_con :=
 con_of tabOk mixedOk week_SecondOf_d week_SecondOf_con Tryz.f115 (Tryz.f115.body.getD .skip) Tryz.func115 (by kernel_rfl) (by kernel_rfl) (Nat.le_of_ble_eq_true (by kernel_rfl)) (by kernel_rfl) (And.intro civil_Weekday_ok trivial) (by kernel_rfl) (by kernel_rfl)
   trivial
   (fun h => by kernel_rfl)
noncomputable def week_Has_con : Con := ⟨114, [.v ty13, .v iT], [ty13, iT], ⟨[.v .bool], []⟩, [.bool], fun h => Pw.week_Has h.1 h.2⟩
noncomputable def week_Has_d : FnD where
 N := 24
 np := 2
 cs := []
 ds := [⟨0, [sI, .s (.one (.d ty13)), sI, sI], [iT, ty13, iT, iT], [⟨.ret, [.s (.one (.d .bool))], [.bool]⟩, ⟨.exit 0, [], []⟩], fun h => Pw.week_Has_l0_step h.1 h.2.1 h.2.2.1 h.2.2.2⟩]
 keep := [(0, ⟨[1, 7, 8, 9], [], [], []⟩)]
 keepX := [(0, .ret, ⟨[4], [], [], []⟩),
   (0, .exit 0, ⟨[], [], [], []⟩)]
 ro := [false]
theorem week_Has_ok : Con.OK Tryz.prog week_Has_con :=
 con_of tabOk mixedOk week_Has_d week_Has_con Tryz.f114 (Tryz.f114.body.getD .skip) Tryz.func114 (by kernel_rfl) (by kernel_rfl) (Nat.le_of_ble_eq_true (by kernel_rfl)) (by kernel_rfl) trivial (by kernel_rfl) (by kernel_rfl)
   (And.intro (fun h => by kernel_rfl) trivial)
   (fun h => by kernel_rfl)
noncomputable def cmp_isNaN_int_con : Con := ⟨251, [.v iT], [iT], ⟨[.v .bool], []⟩, [.bool], fun h => Pw.cmp_isNaN_int h⟩
noncomputable def cmp_isNaN_int_d : FnD where
 N := 6
 np := 1
 cs := []
 ds := []
 ro := [false]
theorem cmp_isNaN_int_ok : Con.OK Tryz.prog cmp_isNaN_int_con :=
 con_of tabOk mixedOk cmp_isNaN_int_d cmp_isNaN_int_con Tryz.f251 (Tryz.f251.body.getD .skip) Tryz.func251 (by kernel_rfl) (by kernel_rfl) (Nat.le_of_ble_eq_true (by kernel_rfl)) (by kernel_rfl) trivial (by kernel_rfl) (by kernel_rfl)
   trivial
   (fun h => by kernel_rfl)
noncomputable def cmp_Less_int_con : Con := ⟨186, [.v iT, .v iT], [iT, iT], ⟨[.v .bool], []⟩, [.bool], fun h => Pw.cmp_Less_int h.1 h.2⟩
noncomputable def cmp_Less_int_d : FnD where
 N := 17
 np := 2
 cs := [cmp_isNaN_int_con]
 ds := []
 modes := [(251, [false])]
 ro := [false]
theorem cmp_Less_int_ok : Con.OK Tryz.prog cmp_Less_int_con :=
 con_of tabOk mixedOk cmp_Less_int_d cmp_Less_int_con Tryz.f186 (Tryz.f186.body.getD .skip) Tryz.func186 (by kernel_rfl) (by kernel_rfl) (Nat.le_of_ble_eq_true (by kernel_rfl)) (by kernel_rfl) (And.intro cmp_isNaN_int_ok trivial) (by kernel_rfl) (by kernel_rfl)
   trivial
   (fun h => by kernel_rfl)
noncomputable def slices_isNaN_int_con : Con := ⟨187, [.v iT], [iT], ⟨[.v .bool], []⟩, [.bool], fun h => Pw.slices_isNaN_int h⟩
noncomputable def slices_isNaN_int_d : FnD where
 N := 6
 np := 1
 cs := []
 ds := []
 ro := [false]
theorem slices_isNaN_int_ok : Con.OK Tryz.prog slices_isNaN_int_con :=
 con_of tabOk mixedOk slices_isNaN_int_d slices_isNaN_int_con Tryz.f187 (Tryz.f187.body.getD .skip) Tryz.func187 (by kernel_rfl) (by kernel_rfl) (Nat.le_of_ble_eq_true (by kernel_rfl)) (by kernel_rfl) trivial (by kernel_rfl) (by kernel_rfl)
   trivial
   (fun h => by kernel_rfl)
end Go.Proofs.Pk
