/- Contracts: each given function is its plain function, printed by a program. -/
import Derived.Test.YtdfbeioppmgheaaGreatCon2
open Go Go.Lft
set_option linter.unusedVariables false
set_option maxRecDepth 100000
namespace Go.Proofs.Pk
noncomputable def zone_Of_con : Con := ⟨181, [.v ty62], [ty62], ⟨[.v ty26, .v iT], []⟩, [ty26, iT], fun h => Pw.zone_Of h⟩
noncomputable def zone_Of_d : FnD where
 N := 16
 np := 1
 cs := [zone_Transitions_con]
 ds := []
 modes := [(244, [false])]
 ro := [false, false]
theorem zone_Of_ok : Con.OK Tryz.prog zone_Of_con :=
 con_of tabOk mixedOk zone_Of_d zone_Of_con Tryz.f181 (Tryz.f181.body.getD .skip) Tryz.func181 (by kernel_rfl) (by kernel_rfl) (Nat.le_of_ble_eq_true (by kernel_rfl)) (by kernel_rfl) (And.intro zone_Transitions_ok trivial) (by kernel_rfl) (by kernel_rfl)
   trivial
   (fun h => by kernel_rfl)
noncomputable def zone_Tables_con : Con := ⟨120, [.v ty63], [ty63], ⟨[.own 160 ty30], []⟩, [ty30], fun h => Pw.zone_Tables h⟩
noncomputable def zone_Tables_d : FnD where
 N := 25
 np := 1
 cs := [zone_Of_con]
 ds := [⟨0, [.s (.one (.ol 1000000)), .s (.one (.d ty63)), sI, sI, .b (.lst 160 ty26 false)], [ty63, iT, iT, ty30], [⟨.exit 0, [.s (.one (.ol 1500100)), .b (.lst 160 ty26 false)], [ty30]⟩], fun h => Pw.zone_Tables_l0_step h.1 h.2.1 h.2.2.1 h.2.2.2⟩]
 modes := [(181, [false])]
 keep := [(0, ⟨[3, 8, 9, 10], [], [⟨1000000, 160, ty26, [.slot 3], false⟩], []⟩)]
 keepX := [(0, .exit 0, ⟨[3], [], [⟨1500100, 160, ty26, [.slot 3], false⟩], []⟩)]
 ro := [true]
theorem zone_Tables_ok : Con.OK Tryz.prog zone_Tables_con :=
 con_of tabOk mixedOk zone_Tables_d zone_Tables_con Tryz.f120 (Tryz.f120.body.getD .skip) Tryz.func120 (by kernel_rfl) (by kernel_rfl) (Nat.le_of_ble_eq_true (by kernel_rfl)) (by kernel_rfl) (And.intro zone_Of_ok trivial) (by kernel_rfl) (by kernel_rfl)
   (And.intro (fun h => by kernel_rfl) trivial)
   (fun h => by kernel_rfl)
noncomputable def duty_view_con : Con := ⟨66, [.v ty81], [ty81], ⟨[.v ty83], []⟩, [ty83], fun h => Pw.duty_view h⟩
noncomputable def duty_view_d : FnD where
 N := 8
 np := 1
 cs := [zone_Tables_con]
 ds := []
 modes := [(120, [false])]
 ro := [false]
 dw := [(1, [[], [], [], [384], [], [128]])]
theorem duty_view_ok : Con.OK Tryz.prog duty_view_con :=
 con_of tabOk mixedOk duty_view_d duty_view_con Tryz.f66 (Tryz.f66.body.getD .skip) Tryz.func66 (by kernel_rfl) (by kernel_rfl) (Nat.le_of_ble_eq_true (by kernel_rfl)) (by kernel_rfl) (And.intro zone_Tables_ok trivial) (by kernel_rfl) (by kernel_rfl)
   trivial
   (fun h => by kernel_rfl)
noncomputable def duty_Of_con : Con := ⟨92, [.v ty81], [ty81], ⟨[.v ty83, .v .bool], []⟩, [ty83, .bool], fun h => Pw.duty_Of h⟩
noncomputable def duty_Of_d : FnD where
 N := 10
 np := 1
 cs := [resolve_Check_con, duty_view_con]
 ds := []
 modes := [(66, [false]), (91, [false])]
 ro := [false, false]
theorem duty_Of_ok : Con.OK Tryz.prog duty_Of_con :=
 con_of tabOk mixedOk duty_Of_d duty_Of_con Tryz.f92 (Tryz.f92.body.getD .skip) Tryz.func92 (by kernel_rfl) (by kernel_rfl) (Nat.le_of_ble_eq_true (by kernel_rfl)) (by kernel_rfl) (And.intro resolve_Check_ok (And.intro duty_view_ok trivial)) (by kernel_rfl) (by kernel_rfl)
   trivial
   (fun h => by kernel_rfl)
noncomputable def stack_Index_con : Con := ⟨93, [.v ty81, .v iT], [ty81, iT], ⟨[.v .bool], []⟩, [.bool], fun h => Pw.stack_Index h.1 h.2⟩
noncomputable def stack_Index_d : FnD where
 N := 14
 np := 2
 cs := []
 ds := []
 ro := [false]
theorem stack_Index_ok : Con.OK Tryz.prog stack_Index_con :=
 con_of tabOk mixedOk stack_Index_d stack_Index_con Tryz.f93 (Tryz.f93.body.getD .skip) Tryz.func93 (by kernel_rfl) (by kernel_rfl) (Nat.le_of_ble_eq_true (by kernel_rfl)) (by kernel_rfl) trivial (by kernel_rfl) (by kernel_rfl)
   trivial
   (fun h => by kernel_rfl)
noncomputable def duty_Range_con : Con := ⟨119, [.v iT, .v iT], [iT, iT], ⟨[.v .bool], []⟩, [.bool], fun h => Pw.duty_Range h.1 h.2⟩
noncomputable def duty_Range_d : FnD where
 N := 26
 np := 2
 cs := []
 ds := []
 ro := [false]
theorem duty_Range_ok : Con.OK Tryz.prog duty_Range_con :=
 con_of tabOk mixedOk duty_Range_d duty_Range_con Tryz.f119 (Tryz.f119.body.getD .skip) Tryz.func119 (by kernel_rfl) (by kernel_rfl) (Nat.le_of_ble_eq_true (by kernel_rfl)) (by kernel_rfl) trivial (by kernel_rfl) (by kernel_rfl)
   trivial
   (fun h => by kernel_rfl)
noncomputable def stack_Check_con : Con := ⟨81, [.v ty81, .v iT, .v iT, .v iT], [ty81, iT, iT, iT], ⟨[.v ty83, .v iT], []⟩, [ty83, iT], fun h => Pw.stack_Check h.1 h.2.1 h.2.2.1 h.2.2.2⟩
noncomputable def stack_Check_d : FnD where
 N := 34
 np := 4
 cs := [duty_Of_con, stack_Index_con, duty_Range_con]
 ds := []
 modes := [(92, [false]), (93, [false, false]), (119, [false, false])]
 ro := [false, false]
theorem stack_Check_ok : Con.OK Tryz.prog stack_Check_con :=
 con_of tabOk mixedOk stack_Check_d stack_Check_con Tryz.f81 (Tryz.f81.body.getD .skip) Tryz.func81 (by kernel_rfl) (by kernel_rfl) (Nat.le_of_ble_eq_true (by kernel_rfl)) (by kernel_rfl) (And.intro duty_Of_ok (And.intro stack_Index_ok (And.intro duty_Range_ok trivial))) (by kernel_rfl) (by kernel_rfl)
   trivial
   (fun h => by kernel_rfl)
noncomputable def slices_Backward_api_Layer_api_Layer_con : Con := ⟨132, [.v ty70], [ty70], ⟨[.clo 190 [.p [ty70]]], []⟩, [ty70], fun h => Pw.slices_Backward_api_Layer_api_Layer h⟩
noncomputable def slices_Backward_api_Layer_api_Layer_d : FnD where
 N := 4
 np := 1
 cs := []
 ds := []
 ro := [false]
theorem slices_Backward_api_Layer_api_Layer_ok : Con.OK Tryz.prog slices_Backward_api_Layer_api_Layer_con :=
 con_of tabOk mixedOk slices_Backward_api_Layer_api_Layer_d slices_Backward_api_Layer_api_Layer_con Tryz.f132 (Tryz.f132.body.getD .skip) Tryz.func132 (by kernel_rfl) (by kernel_rfl) (Nat.le_of_ble_eq_true (by kernel_rfl)) (by kernel_rfl) trivial (by kernel_rfl) (by kernel_rfl)
   trivial
   (fun h => by kernel_rfl)
noncomputable def recur_step_con : Con := ⟨182, [.v ty69], [ty69], ⟨[.v iT], []⟩, [iT], fun h => Pw.recur_step h⟩
noncomputable def recur_step_d : FnD where
 N := 11
 np := 1
 cs := []
 ds := []
 ro := [false]
theorem recur_step_ok : Con.OK Tryz.prog recur_step_con :=
 con_of tabOk mixedOk recur_step_d recur_step_con Tryz.f182 (Tryz.f182.body.getD .skip) Tryz.func182 (by kernel_rfl) (by kernel_rfl) (Nat.le_of_ble_eq_true (by kernel_rfl)) (by kernel_rfl) trivial (by kernel_rfl) (by kernel_rfl)
   trivial
   (fun h => by kernel_rfl)
noncomputable def zone_Table_after_c1_con : Con := ⟨288, [.v iT, .ip [iT, ty13], .ip [iT]], [iT, iT, ty13, iT], ⟨[.v .bool], []⟩, [.bool], fun h => Pw.zone_Table_after_c1 h.1 h.2.1 h.2.2.1 h.2.2.2⟩
noncomputable def zone_Table_after_c1_d : FnD where
 N := 13
 np := 3
 cs := []
 ds := []
 ro := [false]
theorem zone_Table_after_c1_ok : Con.OK Tryz.prog zone_Table_after_c1_con :=
 con_of tabOk mixedOk zone_Table_after_c1_d zone_Table_after_c1_con Tryz.f288 (Tryz.f288.body.getD .skip) Tryz.func288 (by kernel_rfl) (by kernel_rfl) (Nat.le_of_ble_eq_true (by kernel_rfl)) (by kernel_rfl) trivial (by kernel_rfl) (by kernel_rfl)
   trivial
   (fun h => by kernel_rfl)
noncomputable def sort_Search_con : Con := ⟨287, [.v iT, .clo 288 [.p [iT, ty13], .p [iT]]], [iT, iT, ty13, iT], ⟨[.v iT], []⟩, [iT], fun h => Pw.sort_Search h.1 h.2.1 h.2.2.1 h.2.2.2⟩
noncomputable def sort_Search_d : FnD where
 N := 26
 np := 2
 cs := [zone_Table_after_c1_con]
 ds := [⟨0, [.s (.one (.clo 288 [.p [iT, ty13], .p [iT]])), sI, sI], [iT, ty13, iT, iT, iT], [⟨.exit 0, [sI], [iT]⟩], fun h => Pw.sort_Search_l0_step h.1 h.2.1 h.2.2.1 h.2.2.2.1 h.2.2.2.2⟩]
 modes := [(288, [false])]
 keep := [(0, ⟨[1, 5, 6], [], [], []⟩)]
 keepX := [(0, .exit 0, ⟨[5], [], [], []⟩)]
 ro := [false]
theorem sort_Search_ok : Con.OK Tryz.prog sort_Search_con :=
 con_of tabOk mixedOk sort_Search_d sort_Search_con Tryz.f287 (Tryz.f287.body.getD .skip) Tryz.func287 (by kernel_rfl) (by kernel_rfl) (Nat.le_of_ble_eq_true (by kernel_rfl)) (by kernel_rfl) (And.intro zone_Table_after_c1_ok trivial) (by kernel_rfl) (by kernel_rfl)
   (And.intro (fun h => by kernel_rfl) trivial)
   (fun h => by kernel_rfl)
noncomputable def zone_Table_after_con : Con := ⟨243, [.v ty26, .v iT], [ty26, iT], ⟨[.v iT], []⟩, [iT], fun h => Pw.zone_Table_after h.1 h.2⟩
noncomputable def zone_Table_after_d : FnD where
 N := 10
 np := 2
 cs := [sort_Search_con]
 ds := []
 modes := [(287, [false, false])]
 ro := [false]
theorem zone_Table_after_ok : Con.OK Tryz.prog zone_Table_after_con :=
 con_of tabOk mixedOk zone_Table_after_d zone_Table_after_con Tryz.f243 (Tryz.f243.body.getD .skip) Tryz.func243 (by kernel_rfl) (by kernel_rfl) (Nat.le_of_ble_eq_true (by kernel_rfl)) (by kernel_rfl) (And.intro sort_Search_ok trivial) (by kernel_rfl) (by kernel_rfl)
   trivial
   (fun h => by kernel_rfl)
noncomputable def zone_Table_before_con : Con := ⟨242, [.v ty26, .v iT], [ty26, iT], ⟨[.v iT], []⟩, [iT], fun h => Pw.zone_Table_before h.1 h.2⟩
noncomputable def zone_Table_before_d : FnD where
 N := 16
 np := 2
 cs := []
 ds := []
 ro := [false]
theorem zone_Table_before_ok : Con.OK Tryz.prog zone_Table_before_con :=
 con_of tabOk mixedOk zone_Table_before_d zone_Table_before_con Tryz.f242 (Tryz.f242.body.getD .skip) Tryz.func242 (by kernel_rfl) (by kernel_rfl) (Nat.le_of_ble_eq_true (by kernel_rfl)) (by kernel_rfl) trivial (by kernel_rfl) (by kernel_rfl)
   trivial
   (fun h => by kernel_rfl)
noncomputable def zone_Table_Pieces_con : Con := ⟨184, [.v ty26, .v iT, .v iT], [ty26, iT, iT], ⟨[.own 229 ty25], []⟩, [ty25], fun h => Pw.zone_Table_Pieces h.1 h.2.1 h.2.2⟩
noncomputable def zone_Table_Pieces_d : FnD where
 N := 41
 np := 3
 cs := [zone_Table_after_con, zone_Table_before_con]
 ds := [⟨0, [sI, sI, .s (.one (.bp 192 0)), .s (.one (.ol 1000000)), .b (.cell [.d iT, .d ty13] false), .b (.lst 229 ty21 false)], [iT, iT, iT, ty13, ty25], [⟨.exit 0, [.s (.one (.ol 1500100)), .b (.lst 229 ty21 false)], [ty25]⟩], fun h => Pw.zone_Table_Pieces_l0_step h.1 h.2.1 h.2.2.1 h.2.2.2.1 h.2.2.2.2⟩]
 modes := [(242, [false, false]), (243, [false, false])]
 keep := [(0, ⟨[1, 2, 3, 7], [192], [⟨1000000, 229, ty21, [.slot 7], false⟩], []⟩)]
 keepX := [(0, .exit 0, ⟨[7], [], [⟨1500100, 229, ty21, [.slot 7], false⟩], []⟩)]
 ro := [true]
theorem zone_Table_Pieces_ok : Con.OK Tryz.prog zone_Table_Pieces_con :=
 con_of tabOk mixedOk zone_Table_Pieces_d zone_Table_Pieces_con Tryz.f184 (Tryz.f184.body.getD .skip) Tryz.func184 (by kernel_rfl) (by kernel_rfl) (Nat.le_of_ble_eq_true (by kernel_rfl)) (by kernel_rfl) (And.intro zone_Table_after_ok (And.intro zone_Table_before_ok trivial)) (by kernel_rfl) (by kernel_rfl)
   (And.intro (fun h => by kernel_rfl) trivial)
   (fun h => by kernel_rfl)
noncomputable def zone_seconds_con : Con := ⟨245, [.v ty8], [ty8], ⟨[.v iT], []⟩, [iT], fun h => Pw.zone_seconds h⟩
noncomputable def zone_seconds_d : FnD where
 N := 11
 np := 1
 cs := []
 ds := []
 ro := [false]
theorem zone_seconds_ok : Con.OK Tryz.prog zone_seconds_con :=
 con_of tabOk mixedOk zone_seconds_d zone_seconds_con Tryz.f245 (Tryz.f245.body.getD .skip) Tryz.func245 (by kernel_rfl) (by kernel_rfl) (Nat.le_of_ble_eq_true (by kernel_rfl)) (by kernel_rfl) trivial (by kernel_rfl) (by kernel_rfl)
   trivial
   (fun h => by kernel_rfl)
noncomputable def zone_Table_First_con : Con := ⟨183, [.v ty26, .v ty8], [ty26, ty8], ⟨[.v iT, .v .bool], []⟩, [iT, .bool], fun h => Pw.zone_Table_First h.1 h.2⟩
noncomputable def zone_Table_First_d : FnD where
 N := 30
 np := 2
 cs := [zone_Table_Pieces_con, zone_seconds_con]
 ds := [⟨0, [.s (.one (.bp 192 0)), .s (.one (.ol 1000000)), sI, sI, .b (.cell [.d iT, .d iT] false), .b (.lst 229 ty21 false)], [iT, iT, iT, iT, ty25], [⟨.ret, [sI, .s (.one (.d .bool))], [iT, .bool]⟩, ⟨.exit 0, [], []⟩], fun h => Pw.zone_Table_First_l0_step h.1 h.2.1 h.2.2.1 h.2.2.2.1 h.2.2.2.2⟩]
 modes := [(184, [false, false, false]), (245, [false])]
 keep := [(0, ⟨[3, 10, 11, 12], [192], [⟨1000000, 229, ty21, [.slot 10], false⟩], []⟩)]
 keepX := [(0, .ret, ⟨[4, 5], [], [], []⟩),
   (0, .exit 0, ⟨[], [], [], []⟩)]
 ro := [false, false]
theorem zone_Table_First_ok : Con.OK Tryz.prog zone_Table_First_con :=
 con_of tabOk mixedOk zone_Table_First_d zone_Table_First_con Tryz.f183 (Tryz.f183.body.getD .skip) Tryz.func183 (by kernel_rfl) (by kernel_rfl) (Nat.le_of_ble_eq_true (by kernel_rfl)) (by kernel_rfl) (And.intro zone_Table_Pieces_ok (And.intro zone_seconds_ok trivial)) (by kernel_rfl) (by kernel_rfl)
   (And.intro (fun h => by kernel_rfl) trivial)
   (fun h => by kernel_rfl)
noncomputable def recur_HandoverOf_con : Con := ⟨122, [.v ty26, .v ty69, .v iT], [ty26, ty69, iT], ⟨[.v iT, .v .bool], []⟩, [iT, .bool], fun h => Pw.recur_HandoverOf h.1 h.2.1 h.2.2⟩
noncomputable def recur_HandoverOf_d : FnD where
 N := 50
 np := 3
 cs := [recur_step_con, zone_Table_First_con]
 ds := []
 modes := [(182, [false]), (183, [false, false])]
 ro := [false, false]
 dw := [(5, [[], [], [], [], [], [], [], [], [512]])]
theorem recur_HandoverOf_ok : Con.OK Tryz.prog recur_HandoverOf_con :=
 con_of tabOk mixedOk recur_HandoverOf_d recur_HandoverOf_con Tryz.f122 (Tryz.f122.body.getD .skip) Tryz.func122 (by kernel_rfl) (by kernel_rfl) (Nat.le_of_ble_eq_true (by kernel_rfl)) (by kernel_rfl) (And.intro recur_step_ok (And.intro zone_Table_First_ok trivial)) (by kernel_rfl) (by kernel_rfl)
   trivial
   (fun h => by kernel_rfl)
noncomputable def slices_Clone_api_Span_api_Span_con : Con := ⟨247, [.v ty13], [ty13], ⟨[.own 96 ty13], []⟩, [ty13], fun h => Pw.slices_Clone_api_Span_api_Span h⟩
noncomputable def slices_Clone_api_Span_api_Span_d : FnD where
 N := 8
 np := 1
 cs := []
 ds := []
 ro := [true]
theorem slices_Clone_api_Span_api_Span_ok : Con.OK Tryz.prog slices_Clone_api_Span_api_Span_con :=
 con_clone tabOk mixedOk slices_Clone_api_Span_api_Span_d 247 ty8 96 Tryz.f247 (Tryz.f247.body.getD .skip) Tryz.func247 (by kernel_rfl) (by kernel_rfl) (Nat.le_of_ble_eq_true (by kernel_rfl)) (by kernel_rfl) trivial (by kernel_rfl)
   (fun h R k => by kernel_rfl)
noncomputable def span_Merge_c1_con : Con := ⟨248, [.v ty8], [ty8], ⟨[.v .bool], []⟩, [.bool], fun h => Pw.span_Merge_c1 h⟩
noncomputable def span_Merge_c1_d : FnD where
 N := 8
 np := 1
 cs := []
 ds := []
 ro := [false]
theorem span_Merge_c1_ok : Con.OK Tryz.prog span_Merge_c1_con :=
 con_of tabOk mixedOk span_Merge_c1_d span_Merge_c1_con Tryz.f248 (Tryz.f248.body.getD .skip) Tryz.func248 (by kernel_rfl) (by kernel_rfl) (Nat.le_of_ble_eq_true (by kernel_rfl)) (by kernel_rfl) trivial (by kernel_rfl) (by kernel_rfl)
   trivial
   (fun h => by kernel_rfl)
noncomputable def slices_IndexFunc_api_Span_api_Span_con : Con := ⟨291, [.rl 96 ty13, .clo 248 []], [ty13], ⟨[.v iT], [.rl ty13]⟩, [iT, ty13], fun h => Pw.slices_IndexFunc_api_Span_api_Span h⟩
noncomputable def slices_IndexFunc_api_Span_api_Span_d : FnD where
 N := 19
 np := 2
 cs := [span_Merge_c1_con]
 ds := [⟨0, [.s (.one (.ol 0)), .s (.one (.clo 248 [])), sI, sI, .b (.lst 96 ty8 false)], [iT, iT, ty13], [⟨.ret, [sI, .b (.lst 96 ty8 false)], [iT, ty13]⟩, ⟨.exit 0, [.b (.lst 96 ty8 false)], [ty13]⟩], fun h => Pw.slices_IndexFunc_api_Span_api_Span_l0_step h.1 h.2.1 h.2.2⟩]
 modes := [(248, [false])]
 keep := [(0, ⟨[0, 1, 7, 8], [0], [], []⟩)]
 keepX := [(0, .ret, ⟨[4], [0], [], []⟩),
   (0, .exit 0, ⟨[], [0], [], []⟩)]
 ro := [false]
theorem slices_IndexFunc_api_Span_api_Span_ok : Con.OK Tryz.prog slices_IndexFunc_api_Span_api_Span_con :=
 con_of tabOk mixedOk slices_IndexFunc_api_Span_api_Span_d slices_IndexFunc_api_Span_api_Span_con Tryz.f291 (Tryz.f291.body.getD .skip) Tryz.func291 (by kernel_rfl) (by kernel_rfl) (Nat.le_of_ble_eq_true (by kernel_rfl)) (by kernel_rfl) (And.intro span_Merge_c1_ok trivial) (by kernel_rfl) (by kernel_rfl)
   (And.intro (fun h => by kernel_rfl) trivial)
   (fun h => by kernel_rfl)
end Go.Proofs.Pk
