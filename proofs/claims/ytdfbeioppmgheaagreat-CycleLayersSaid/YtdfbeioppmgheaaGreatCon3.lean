/- Contracts: each given function is its plain function, printed by a program. -/
import Derived.Test.YtdfbeioppmgheaaGreatCon2
open Go Go.Lft
set_option linter.unusedVariables false
set_option maxRecDepth 100000
namespace Go.Proofs.Pk
noncomputable def stack_Index_con : Con := ⟨93, [.v ty81, .v iT], [ty81, iT], ⟨[.v .bool], []⟩, [.bool], fun h => Pw.stack_Index h.1 h.2⟩
noncomputable def stack_Index_d : FnD where
 N := 14
 np := 2
 cs := []
 ds := []
 ro := [false]
theorem stack_Index_ok : Con.OK Tryz.prog stack_Index_con :=
 con_of tabOk mixedOk stack_Index_d stack_Index_con Tryz.f93 (Tryz.f93.body.getD .skip) Tryz.func93 (by kernel_rfl) (by kernel_rfl) (Nat.le_of_ble_eq_true (by kernel_rfl)) (by kernel_rfl) trivial (by kernel_rfl) (by kernel_rfl)
   trivial
   (fun h => by kernel_rfl)
noncomputable def cycle_gcd_con : Con := ⟨100, [.v iT, .v iT], [iT, iT], ⟨[.v iT], []⟩, [iT], fun h => Pw.cycle_gcd h.1 h.2⟩
noncomputable def cycle_gcd_d : FnD where
 N := 12
 np := 2
 cs := []
 ds := [⟨0, [sI, sI], [iT, iT], [⟨.exit 0, [sI], [iT]⟩], fun h => Pw.cycle_gcd_l0_step h.1 h.2⟩]
 keep := [(0, ⟨[0, 1], [], [], []⟩)]
 keepX := [(0, .exit 0, ⟨[0], [], [], []⟩)]
 ro := [false]
theorem cycle_gcd_ok : Con.OK Tryz.prog cycle_gcd_con :=
 con_of tabOk mixedOk cycle_gcd_d cycle_gcd_con Tryz.f100 (Tryz.f100.body.getD .skip) Tryz.func100 (by kernel_rfl) (by kernel_rfl) (Nat.le_of_ble_eq_true (by kernel_rfl)) (by kernel_rfl) trivial (by kernel_rfl) (by kernel_rfl)
   (And.intro (fun h => by kernel_rfl) trivial)
   (fun h => by kernel_rfl)
noncomputable def cycle_Period_c1_con : Con := ⟨99, [.v iT, .v ty69], [iT, ty69], ⟨[.v iT], []⟩, [iT], fun h => Pw.cycle_Period_c1 h.1 h.2⟩
noncomputable def cycle_Period_c1_d : FnD where
 N := 28
 np := 2
 cs := [cycle_Layer_con, cycle_gcd_con]
 ds := []
 modes := [(52, [false]), (100, [false, false])]
 ro := [false]
theorem cycle_Period_c1_ok : Con.OK Tryz.prog cycle_Period_c1_con :=
 con_of tabOk mixedOk cycle_Period_c1_d cycle_Period_c1_con Tryz.f99 (Tryz.f99.body.getD .skip) Tryz.func99 (by kernel_rfl) (by kernel_rfl) (Nat.le_of_ble_eq_true (by kernel_rfl)) (by kernel_rfl) (And.intro cycle_Layer_ok (And.intro cycle_gcd_ok trivial)) (by kernel_rfl) (by kernel_rfl)
   trivial
   (fun h => by kernel_rfl)
noncomputable def cycle_fold_api_Layer_int_con : Con := ⟨98, [.v ty70, .v iT, .clo 99 []], [ty70, iT], ⟨[.v iT], []⟩, [iT], fun h => Pw.cycle_fold_api_Layer_int h.1 h.2⟩
noncomputable def cycle_fold_api_Layer_int_d : FnD where
 N := 21
 np := 3
 cs := [cycle_Period_c1_con]
 ds := [⟨0, [sI, .s (.one (.clo 99 [])), .s (.one (.d ty70)), sI, sI], [iT, ty70, iT, iT], [⟨.exit 0, [sI], [iT]⟩], fun h => Pw.cycle_fold_api_Layer_int_l0_step h.1 h.2.1 h.2.2.1 h.2.2.2⟩]
 modes := [(99, [false, false])]
 keep := [(0, ⟨[1, 2, 9, 10, 11], [], [], []⟩)]
 keepX := [(0, .exit 0, ⟨[1], [], [], []⟩)]
 ro := [false]
theorem cycle_fold_api_Layer_int_ok : Con.OK Tryz.prog cycle_fold_api_Layer_int_con :=
 con_of tabOk mixedOk cycle_fold_api_Layer_int_d cycle_fold_api_Layer_int_con Tryz.f98 (Tryz.f98.body.getD .skip) Tryz.func98 (by kernel_rfl) (by kernel_rfl) (Nat.le_of_ble_eq_true (by kernel_rfl)) (by kernel_rfl) (And.intro cycle_Period_c1_ok trivial) (by kernel_rfl) (by kernel_rfl)
   (And.intro (fun h => by kernel_rfl) trivial)
   (fun h => by kernel_rfl)
noncomputable def cycle_Period_con : Con := ⟨51, [.v ty81, .v iT], [ty81, iT], ⟨[.v iT, .v iT], []⟩, [iT, iT], fun h => Pw.cycle_Period h.1 h.2⟩
noncomputable def cycle_Period_d : FnD where
 N := 24
 np := 2
 cs := [resolve_Check_con, stack_Index_con, cycle_fold_api_Layer_int_con]
 ds := []
 modes := [(91, [false]), (93, [false, false]), (98, [false, false, false])]
 ro := [false, false]
theorem cycle_Period_ok : Con.OK Tryz.prog cycle_Period_con :=
 con_of tabOk mixedOk cycle_Period_d cycle_Period_con Tryz.f51 (Tryz.f51.body.getD .skip) Tryz.func51 (by kernel_rfl) (by kernel_rfl) (Nat.le_of_ble_eq_true (by kernel_rfl)) (by kernel_rfl) (And.intro resolve_Check_ok (And.intro stack_Index_ok (And.intro cycle_fold_api_Layer_int_ok trivial))) (by kernel_rfl) (by kernel_rfl)
   trivial
   (fun h => by kernel_rfl)
noncomputable def zone_Of_con : Con := ⟨181, [.v ty62], [ty62], ⟨[.v ty26, .v iT], []⟩, [ty26, iT], fun h => Pw.zone_Of h⟩
noncomputable def zone_Of_d : FnD where
 N := 16
 np := 1
 cs := [zone_Transitions_con]
 ds := []
 modes := [(244, [false])]
 ro := [false, false]
theorem zone_Of_ok : Con.OK Tryz.prog zone_Of_con :=
 con_of tabOk mixedOk zone_Of_d zone_Of_con Tryz.f181 (Tryz.f181.body.getD .skip) Tryz.func181 (by kernel_rfl) (by kernel_rfl) (Nat.le_of_ble_eq_true (by kernel_rfl)) (by kernel_rfl) (And.intro zone_Transitions_ok trivial) (by kernel_rfl) (by kernel_rfl)
   trivial
   (fun h => by kernel_rfl)
noncomputable def zone_Tables_con : Con := ⟨120, [.v ty63], [ty63], ⟨[.own 160 ty30], []⟩, [ty30], fun h => Pw.zone_Tables h⟩
noncomputable def zone_Tables_d : FnD where
 N := 25
 np := 1
 cs := [zone_Of_con]
 ds := [⟨0, [.s (.one (.ol 1000000)), .s (.one (.d ty63)), sI, sI, .b (.lst 160 ty26 false)], [ty63, iT, iT, ty30], [⟨.exit 0, [.s (.one (.ol 1500100)), .b (.lst 160 ty26 false)], [ty30]⟩], fun h => Pw.zone_Tables_l0_step h.1 h.2.1 h.2.2.1 h.2.2.2⟩]
 modes := [(181, [false])]
 keep := [(0, ⟨[3, 8, 9, 10], [], [⟨1000000, 160, ty26, [.slot 3], false⟩], []⟩)]
 keepX := [(0, .exit 0, ⟨[3], [], [⟨1500100, 160, ty26, [.slot 3], false⟩], []⟩)]
 ro := [true]
theorem zone_Tables_ok : Con.OK Tryz.prog zone_Tables_con :=
 con_of tabOk mixedOk zone_Tables_d zone_Tables_con Tryz.f120 (Tryz.f120.body.getD .skip) Tryz.func120 (by kernel_rfl) (by kernel_rfl) (Nat.le_of_ble_eq_true (by kernel_rfl)) (by kernel_rfl) (And.intro zone_Of_ok trivial) (by kernel_rfl) (by kernel_rfl)
   (And.intro (fun h => by kernel_rfl) trivial)
   (fun h => by kernel_rfl)
noncomputable def duty_view_con : Con := ⟨66, [.v ty81], [ty81], ⟨[.v ty83], []⟩, [ty83], fun h => Pw.duty_view h⟩
noncomputable def duty_view_d : FnD where
 N := 8
 np := 1
 cs := [zone_Tables_con]
 ds := []
 modes := [(120, [false])]
 ro := [false]
 dw := [(1, [[], [], [], [384], [], [128]])]
theorem duty_view_ok : Con.OK Tryz.prog duty_view_con :=
 con_of tabOk mixedOk duty_view_d duty_view_con Tryz.f66 (Tryz.f66.body.getD .skip) Tryz.func66 (by kernel_rfl) (by kernel_rfl) (Nat.le_of_ble_eq_true (by kernel_rfl)) (by kernel_rfl) (And.intro zone_Tables_ok trivial) (by kernel_rfl) (by kernel_rfl)
   trivial
   (fun h => by kernel_rfl)
noncomputable def duty_Of_con : Con := ⟨92, [.v ty81], [ty81], ⟨[.v ty83, .v .bool], []⟩, [ty83, .bool], fun h => Pw.duty_Of h⟩
noncomputable def duty_Of_d : FnD where
 N := 10
 np := 1
 cs := [resolve_Check_con, duty_view_con]
 ds := []
 modes := [(66, [false]), (91, [false])]
 ro := [false, false]
theorem duty_Of_ok : Con.OK Tryz.prog duty_Of_con :=
 con_of tabOk mixedOk duty_Of_d duty_Of_con Tryz.f92 (Tryz.f92.body.getD .skip) Tryz.func92 (by kernel_rfl) (by kernel_rfl) (Nat.le_of_ble_eq_true (by kernel_rfl)) (by kernel_rfl) (And.intro resolve_Check_ok (And.intro duty_view_ok trivial)) (by kernel_rfl) (by kernel_rfl)
   trivial
   (fun h => by kernel_rfl)
noncomputable def duty_View_Table_con : Con := ⟨116, [.v ty83, .v iT], [ty83, iT], ⟨[.v ty26], []⟩, [ty26], fun h => Pw.duty_View_Table h.1 h.2⟩
noncomputable def duty_View_Table_d : FnD where
 N := 10
 np := 2
 cs := []
 ds := []
 ro := [false]
theorem duty_View_Table_ok : Con.OK Tryz.prog duty_View_Table_con :=
 con_of tabOk mixedOk duty_View_Table_d duty_View_Table_con Tryz.f116 (Tryz.f116.body.getD .skip) Tryz.func116 (by kernel_rfl) (by kernel_rfl) (Nat.le_of_ble_eq_true (by kernel_rfl)) (by kernel_rfl) trivial (by kernel_rfl) (by kernel_rfl)
   trivial
   (fun h => by kernel_rfl)
noncomputable def zone_Table_Changes_con : Con := ⟨231, [.v ty26], [ty26], ⟨[.v .bool], []⟩, [.bool], fun h => Pw.zone_Table_Changes h⟩
noncomputable def zone_Table_Changes_d : FnD where
 N := 7
 np := 1
 cs := []
 ds := []
 ro := [false]
theorem zone_Table_Changes_ok : Con.OK Tryz.prog zone_Table_Changes_con :=
 con_of tabOk mixedOk zone_Table_Changes_d zone_Table_Changes_con Tryz.f231 (Tryz.f231.body.getD .skip) Tryz.func231 (by kernel_rfl) (by kernel_rfl) (Nat.le_of_ble_eq_true (by kernel_rfl)) (by kernel_rfl) trivial (by kernel_rfl) (by kernel_rfl)
   trivial
   (fun h => by kernel_rfl)
noncomputable def zone_Table_Last_con : Con := ⟨232, [.v ty26], [ty26], ⟨[.v iT], []⟩, [iT], fun h => Pw.zone_Table_Last h⟩
noncomputable def zone_Table_Last_d : FnD where
 N := 16
 np := 1
 cs := []
 ds := []
 ro := [false]
theorem zone_Table_Last_ok : Con.OK Tryz.prog zone_Table_Last_con :=
 con_of tabOk mixedOk zone_Table_Last_d zone_Table_Last_con Tryz.f232 (Tryz.f232.body.getD .skip) Tryz.func232 (by kernel_rfl) (by kernel_rfl) (Nat.le_of_ble_eq_true (by kernel_rfl)) (by kernel_rfl) trivial (by kernel_rfl) (by kernel_rfl)
   trivial
   (fun h => by kernel_rfl)
noncomputable def coverage_horizon_c1_con : Con := ⟨230, [.v iT, .ref [ty63, ty53, ty27, ty75, ty30], .ref [iT]], [iT, ty63, ty53, ty27, ty75, ty30, iT], ⟨[], [.ref [ty63, ty53, ty27, ty75, ty30], .ref [iT]]⟩, [ty63, ty53, ty27, ty75, ty30, iT], fun h => Pw.coverage_horizon_c1 h.1 h.2.1 h.2.2.1 h.2.2.2.1 h.2.2.2.2.1 h.2.2.2.2.2.1 h.2.2.2.2.2.2⟩
noncomputable def coverage_horizon_c1_d : FnD where
 N := 15
 np := 3
 cs := [duty_View_Table_con, zone_Table_Changes_con, zone_Table_Last_con]
 ds := []
 modes := [(116, [false, false]), (231, [false]), (232, [false])]
 dw := [(2, [[], [], [], [], [], [128]])]
theorem coverage_horizon_c1_ok : Con.OK Tryz.prog coverage_horizon_c1_con :=
 con_of tabOk mixedOk coverage_horizon_c1_d coverage_horizon_c1_con Tryz.f230 (Tryz.f230.body.getD .skip) Tryz.func230 (by kernel_rfl) (by kernel_rfl) (Nat.le_of_ble_eq_true (by kernel_rfl)) (by kernel_rfl) (And.intro duty_View_Table_ok (And.intro zone_Table_Changes_ok (And.intro zone_Table_Last_ok trivial))) (by kernel_rfl) (by kernel_rfl)
   trivial
   (fun h => by kernel_rfl)
noncomputable def recur_step_con : Con := ⟨182, [.v ty69], [ty69], ⟨[.v iT], []⟩, [iT], fun h => Pw.recur_step h⟩
noncomputable def recur_step_d : FnD where
 N := 11
 np := 1
 cs := []
 ds := []
 ro := [false]
theorem recur_step_ok : Con.OK Tryz.prog recur_step_con :=
 con_of tabOk mixedOk recur_step_d recur_step_con Tryz.f182 (Tryz.f182.body.getD .skip) Tryz.func182 (by kernel_rfl) (by kernel_rfl) (Nat.le_of_ble_eq_true (by kernel_rfl)) (by kernel_rfl) trivial (by kernel_rfl) (by kernel_rfl)
   trivial
   (fun h => by kernel_rfl)
noncomputable def zone_Table_after_c1_con : Con := ⟨288, [.v iT, .ip [iT, ty13], .ip [iT]], [iT, iT, ty13, iT], ⟨[.v .bool], []⟩, [.bool], fun h => Pw.zone_Table_after_c1 h.1 h.2.1 h.2.2.1 h.2.2.2⟩
noncomputable def zone_Table_after_c1_d : FnD where
 N := 13
 np := 3
 cs := []
 ds := []
 ro := [false]
theorem zone_Table_after_c1_ok : Con.OK Tryz.prog zone_Table_after_c1_con :=
 con_of tabOk mixedOk zone_Table_after_c1_d zone_Table_after_c1_con Tryz.f288 (Tryz.f288.body.getD .skip) Tryz.func288 (by kernel_rfl) (by kernel_rfl) (Nat.le_of_ble_eq_true (by kernel_rfl)) (by kernel_rfl) trivial (by kernel_rfl) (by kernel_rfl)
   trivial
   (fun h => by kernel_rfl)
noncomputable def sort_Search_con : Con := ⟨287, [.v iT, .clo 288 [.p [iT, ty13], .p [iT]]], [iT, iT, ty13, iT], ⟨[.v iT], []⟩, [iT], fun h => Pw.sort_Search h.1 h.2.1 h.2.2.1 h.2.2.2⟩
noncomputable def sort_Search_d : FnD where
 N := 26
 np := 2
 cs := [zone_Table_after_c1_con]
 ds := [⟨0, [.s (.one (.clo 288 [.p [iT, ty13], .p [iT]])), sI, sI], [iT, ty13, iT, iT, iT], [⟨.exit 0, [sI], [iT]⟩], fun h => Pw.sort_Search_l0_step h.1 h.2.1 h.2.2.1 h.2.2.2.1 h.2.2.2.2⟩]
 modes := [(288, [false])]
 keep := [(0, ⟨[1, 5, 6], [], [], []⟩)]
 keepX := [(0, .exit 0, ⟨[5], [], [], []⟩)]
 ro := [false]
theorem sort_Search_ok : Con.OK Tryz.prog sort_Search_con :=
 con_of tabOk mixedOk sort_Search_d sort_Search_con Tryz.f287 (Tryz.f287.body.getD .skip) Tryz.func287 (by kernel_rfl) (by kernel_rfl) (Nat.le_of_ble_eq_true (by kernel_rfl)) (by kernel_rfl) (And.intro zone_Table_after_c1_ok trivial) (by kernel_rfl) (by kernel_rfl)
   (And.intro (fun h => by kernel_rfl) trivial)
   (fun h => by kernel_rfl)
noncomputable def zone_Table_after_con : Con := ⟨243, [.v ty26, .v iT], [ty26, iT], ⟨[.v iT], []⟩, [iT], fun h => Pw.zone_Table_after h.1 h.2⟩
noncomputable def zone_Table_after_d : FnD where
 N := 10
 np := 2
 cs := [sort_Search_con]
 ds := []
 modes := [(287, [false, false])]
 ro := [false]
theorem zone_Table_after_ok : Con.OK Tryz.prog zone_Table_after_con :=
 con_of tabOk mixedOk zone_Table_after_d zone_Table_after_con Tryz.f243 (Tryz.f243.body.getD .skip) Tryz.func243 (by kernel_rfl) (by kernel_rfl) (Nat.le_of_ble_eq_true (by kernel_rfl)) (by kernel_rfl) (And.intro sort_Search_ok trivial) (by kernel_rfl) (by kernel_rfl)
   trivial
   (fun h => by kernel_rfl)
noncomputable def zone_Table_before_con : Con := ⟨242, [.v ty26, .v iT], [ty26, iT], ⟨[.v iT], []⟩, [iT], fun h => Pw.zone_Table_before h.1 h.2⟩
noncomputable def zone_Table_before_d : FnD where
 N := 16
 np := 2
 cs := []
 ds := []
 ro := [false]
theorem zone_Table_before_ok : Con.OK Tryz.prog zone_Table_before_con :=
 con_of tabOk mixedOk zone_Table_before_d zone_Table_before_con Tryz.f242 (Tryz.f242.body.getD .skip) Tryz.func242 (by kernel_rfl) (by kernel_rfl) (Nat.le_of_ble_eq_true (by kernel_rfl)) (by kernel_rfl) trivial (by kernel_rfl) (by kernel_rfl)
   trivial
   (fun h => by kernel_rfl)
noncomputable def zone_Table_Pieces_con : Con := ⟨184, [.v ty26, .v iT, .v iT], [ty26, iT, iT], ⟨[.own 229 ty25], []⟩, [ty25], fun h => Pw.zone_Table_Pieces h.1 h.2.1 h.2.2⟩
noncomputable def zone_Table_Pieces_d : FnD where
 N := 41
 np := 3
 cs := [zone_Table_after_con, zone_Table_before_con]
 ds := [⟨0, [sI, sI, .s (.one (.bp 192 0)), .s (.one (.ol 1000000)), .b (.cell [.d iT, .d ty13] false), .b (.lst 229 ty21 false)], [iT, iT, iT, ty13, ty25], [⟨.exit 0, [.s (.one (.ol 1500100)), .b (.lst 229 ty21 false)], [ty25]⟩], fun h => Pw.zone_Table_Pieces_l0_step h.1 h.2.1 h.2.2.1 h.2.2.2.1 h.2.2.2.2⟩]
 modes := [(242, [false, false]), (243, [false, false])]
 keep := [(0, ⟨[1, 2, 3, 7], [192], [⟨1000000, 229, ty21, [.slot 7], false⟩], []⟩)]
 keepX := [(0, .exit 0, ⟨[7], [], [⟨1500100, 229, ty21, [.slot 7], false⟩], []⟩)]
 ro := [true]
theorem zone_Table_Pieces_ok : Con.OK Tryz.prog zone_Table_Pieces_con :=
 con_of tabOk mixedOk zone_Table_Pieces_d zone_Table_Pieces_con Tryz.f184 (Tryz.f184.body.getD .skip) Tryz.func184 (by kernel_rfl) (by kernel_rfl) (Nat.le_of_ble_eq_true (by kernel_rfl)) (by kernel_rfl) (And.intro zone_Table_after_ok (And.intro zone_Table_before_ok trivial)) (by kernel_rfl) (by kernel_rfl)
   (And.intro (fun h => by kernel_rfl) trivial)
   (fun h => by kernel_rfl)
noncomputable def zone_seconds_con : Con := ⟨245, [.v ty8], [ty8], ⟨[.v iT], []⟩, [iT], fun h => Pw.zone_seconds h⟩
noncomputable def zone_seconds_d : FnD where
 N := 11
 np := 1
 cs := []
 ds := []
 ro := [false]
theorem zone_seconds_ok : Con.OK Tryz.prog zone_seconds_con :=
 con_of tabOk mixedOk zone_seconds_d zone_seconds_con Tryz.f245 (Tryz.f245.body.getD .skip) Tryz.func245 (by kernel_rfl) (by kernel_rfl) (Nat.le_of_ble_eq_true (by kernel_rfl)) (by kernel_rfl) trivial (by kernel_rfl) (by kernel_rfl)
   trivial
   (fun h => by kernel_rfl)
end Go.Proofs.Pk
