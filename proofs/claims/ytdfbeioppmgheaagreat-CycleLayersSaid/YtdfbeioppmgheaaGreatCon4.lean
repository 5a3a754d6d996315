/- Contracts: each given function is its plain function, printed by a program. -/
import Derived.Test.YtdfbeioppmgheaaGreatCon3
open Go Go.Lft
set_option linter.unusedVariables false
set_option maxRecDepth 100000
namespace Go.Proofs.Pk
noncomputable def zone_Table_First_con : Con := ⟨183, [.v ty26, .v ty8], [ty26, ty8], ⟨[.v iT, .v .bool], []⟩, [iT, .bool], fun h => Pw.zone_Table_First h.1 h.2⟩
noncomputable def zone_Table_First_d : FnD where
 N := 30
 np := 2
 cs := [zone_Table_Pieces_con, zone_seconds_con]
 ds := [⟨0, [.s (.one (.bp 192 0)), .s (.one (.ol 1000000)), sI, sI, .b (.cell [.d iT, .d iT] false), .b (.lst 229 ty21 false)], [iT, iT, iT, iT, ty25], [⟨.ret, [sI, .s (.one (.d .bool))], [iT, .bool]⟩, ⟨.exit 0, [], []⟩], fun h => Pw.zone_Table_First_l0_step h.1 h.2.1 h.2.2.1 h.2.2.2.1 h.2.2.2.2⟩]
 modes := [(184, [false, false, false]), (245, [false])]
 keep := [(0, ⟨[3, 10, 11, 12], [192], [⟨1000000, 229, ty21, [.slot 10], false⟩], []⟩)]
 keepX := [(0, .ret, ⟨[4, 5], [], [], []⟩),
   (0, .exit 0, ⟨[], [], [], []⟩)]
 ro := [false, false]
theorem zone_Table_First_ok : Con.OK Tryz.prog zone_Table_First_con :=
 con_of tabOk mixedOk zone_Table_First_d zone_Table_First_con Tryz.f183 (Tryz.f183.body.getD .skip) Tryz.func183 (by kernel_rfl) (by kernel_rfl) (Nat.le_of_ble_eq_true (by kernel_rfl)) (by kernel_rfl) (And.intro zone_Table_Pieces_ok (And.intro zone_seconds_ok trivial)) (by kernel_rfl) (by kernel_rfl)
   (And.intro (fun h => by kernel_rfl) trivial)
   (fun h => by kernel_rfl)
noncomputable def recur_HandoverOf_con : Con := ⟨122, [.v ty26, .v ty69, .v iT], [ty26, ty69, iT], ⟨[.v iT, .v .bool], []⟩, [iT, .bool], fun h => Pw.recur_HandoverOf h.1 h.2.1 h.2.2⟩
noncomputable def recur_HandoverOf_d : FnD where
 N := 50
 np := 3
 cs := [recur_step_con, zone_Table_First_con]
 ds := []
 modes := [(182, [false]), (183, [false, false])]
 ro := [false, false]
 dw := [(5, [[], [], [], [], [], [], [], [], [512]])]
theorem recur_HandoverOf_ok : Con.OK Tryz.prog recur_HandoverOf_con :=
 con_of tabOk mixedOk recur_HandoverOf_d recur_HandoverOf_con Tryz.f122 (Tryz.f122.body.getD .skip) Tryz.func122 (by kernel_rfl) (by kernel_rfl) (Nat.le_of_ble_eq_true (by kernel_rfl)) (by kernel_rfl) (And.intro recur_step_ok (And.intro zone_Table_First_ok trivial)) (by kernel_rfl) (by kernel_rfl)
   trivial
   (fun h => by kernel_rfl)
noncomputable def coverage_horizon_con : Con := ⟨166, [.v ty83, .v ty74], [ty83, ty74], ⟨[.v iT], []⟩, [iT], fun h => Pw.coverage_horizon h.1 h.2⟩
noncomputable def coverage_horizon_d : FnD where
 N := 95
 np := 2
 cs := [duty_View_Table_con, coverage_horizon_c1_con, zone_Table_First_con, recur_HandoverOf_con]
 ds := [⟨0, [.s (.one (.bp 128 0)), .s (.one (.bp 192 0)), .s (.one (.bp 320 0)), .s (.one (.d ty41)), sI, sI, .b (.cell [.d ty63, .d ty53, .d ty27, .d ty75, .d ty30] false), .b (.cell [.d .str, .d ty70, .d ty41] false), .b (.cell [.d iT] false)], [ty41, iT, iT, ty63, ty53, ty27, ty75, ty30, .str, ty70, ty41, iT], [⟨.exit 0, [.s (.one (.bp 128 0)), .s (.one (.bp 192 0)), .s (.one (.bp 320 0)), .b (.cell [.d ty63, .d ty53, .d ty27, .d ty75, .d ty30] false), .b (.cell [.d .str, .d ty70, .d ty41] false), .b (.cell [.d iT] false)], [ty63, ty53, ty27, ty75, ty30, .str, ty70, ty41, iT]⟩], fun h => Pw.coverage_horizon_l0_step h.1 h.2.1 h.2.2.1 h.2.2.2.1 h.2.2.2.2.1 h.2.2.2.2.2.1 h.2.2.2.2.2.2.1 h.2.2.2.2.2.2.2.1 h.2.2.2.2.2.2.2.2.1 h.2.2.2.2.2.2.2.2.2.1 h.2.2.2.2.2.2.2.2.2.2.1 h.2.2.2.2.2.2.2.2.2.2.2⟩,
   ⟨2, [.s (.one (.bp 128 0)), .s (.one (.bp 320 0)), .s (.one (.clr 230 [128, 320])), .s (.one (.d ty70)), sI, sI, .b (.cell [.d ty63, .d ty53, .d ty27, .d ty75, .d ty30] false), .b (.cell [.d iT] false)], [ty70, iT, iT, ty63, ty53, ty27, ty75, ty30, iT], [⟨.exit 2, [.s (.one (.bp 320 0)), .b (.cell [.d iT] false)], [iT]⟩], fun h => Pw.coverage_horizon_l2_step h.1 h.2.1 h.2.2.1 h.2.2.2.1 h.2.2.2.2.1 h.2.2.2.2.2.1 h.2.2.2.2.2.2.1 h.2.2.2.2.2.2.2.1 h.2.2.2.2.2.2.2.2⟩]
 modes := [(116, [false, false]), (122, [false, false, false]), (183, [false, false]), (230, [false])]
 keep := [(0, ⟨[2, 3, 5, 18, 19, 20], [128, 192, 320], [], []⟩),
   (2, ⟨[2, 5, 8, 31, 32, 33], [128, 320], [], []⟩)]
 keepX := [(0, .exit 0, ⟨[2, 3, 5], [128, 192, 320], [], []⟩),
   (2, .exit 2, ⟨[5], [320], [], []⟩)]
 ro := [false]
 cr := [230]
theorem coverage_horizon_ok : Con.OK Tryz.prog coverage_horizon_con :=
 con_of tabOk mixedOk coverage_horizon_d coverage_horizon_con Tryz.f166 (Tryz.f166.body.getD .skip) Tryz.func166 (by kernel_rfl) (by kernel_rfl) (Nat.le_of_ble_eq_true (by kernel_rfl)) (by kernel_rfl) (And.intro duty_View_Table_ok (And.intro coverage_horizon_c1_ok (And.intro zone_Table_First_ok (And.intro recur_HandoverOf_ok trivial)))) (by kernel_rfl) (by kernel_rfl)
   (And.intro (fun h => by kernel_rfl) (And.intro (fun h => by kernel_rfl) trivial))
   (fun h => by kernel_rfl)
noncomputable def coverage_Horizon_con : Con := ⟨106, [.v ty81, .v iT], [ty81, iT], ⟨[.v iT], []⟩, [iT], fun h => Pw.coverage_Horizon h.1 h.2⟩
noncomputable def coverage_Horizon_d : FnD where
 N := 27
 np := 2
 cs := [stack_Index_con, duty_Of_con, coverage_horizon_con]
 ds := []
 modes := [(92, [false]), (93, [false, false]), (166, [false, false])]
 ro := [false]
theorem coverage_Horizon_ok : Con.OK Tryz.prog coverage_Horizon_con :=
 con_of tabOk mixedOk coverage_Horizon_d coverage_Horizon_con Tryz.f106 (Tryz.f106.body.getD .skip) Tryz.func106 (by kernel_rfl) (by kernel_rfl) (Nat.le_of_ble_eq_true (by kernel_rfl)) (by kernel_rfl) (And.intro stack_Index_ok (And.intro duty_Of_ok (And.intro coverage_horizon_ok trivial))) (by kernel_rfl) (by kernel_rfl)
   trivial
   (fun h => by kernel_rfl)
noncomputable def cycle_Reduce_con : Con := ⟨55, [.v ty81, .v iT, .v iT], [ty81, iT, iT], ⟨[.v iT, .v iT], []⟩, [iT, iT], fun h => Pw.cycle_Reduce h.1 h.2.1 h.2.2⟩
noncomputable def cycle_Reduce_d : FnD where
 N := 42
 np := 3
 cs := [cycle_Period_con, coverage_Horizon_con]
 ds := []
 modes := [(51, [false, false]), (106, [false, false])]
 ro := [false, false]
theorem cycle_Reduce_ok : Con.OK Tryz.prog cycle_Reduce_con :=
 con_of tabOk mixedOk cycle_Reduce_d cycle_Reduce_con Tryz.f55 (Tryz.f55.body.getD .skip) Tryz.func55 (by kernel_rfl) (by kernel_rfl) (Nat.le_of_ble_eq_true (by kernel_rfl)) (by kernel_rfl) (And.intro cycle_Period_ok (And.intro coverage_Horizon_ok trivial)) (by kernel_rfl) (by kernel_rfl)
   trivial
   (fun h => by kernel_rfl)
noncomputable def slices_Backward_api_Layer_api_Layer_con : Con := ⟨132, [.v ty70], [ty70], ⟨[.clo 190 [.p [ty70]]], []⟩, [ty70], fun h => Pw.slices_Backward_api_Layer_api_Layer h⟩
noncomputable def slices_Backward_api_Layer_api_Layer_d : FnD where
 N := 4
 np := 1
 cs := []
 ds := []
 ro := [false]
theorem slices_Backward_api_Layer_api_Layer_ok : Con.OK Tryz.prog slices_Backward_api_Layer_api_Layer_con :=
 con_of tabOk mixedOk slices_Backward_api_Layer_api_Layer_d slices_Backward_api_Layer_api_Layer_con Tryz.f132 (Tryz.f132.body.getD .skip) Tryz.func132 (by kernel_rfl) (by kernel_rfl) (Nat.le_of_ble_eq_true (by kernel_rfl)) (by kernel_rfl) trivial (by kernel_rfl) (by kernel_rfl)
   trivial
   (fun h => by kernel_rfl)
noncomputable def zone_Table_Offset_con : Con := ⟨180, [.v ty26, .v iT], [ty26, iT], ⟨[.v iT], []⟩, [iT], fun h => Pw.zone_Table_Offset h.1 h.2⟩
noncomputable def zone_Table_Offset_d : FnD where
 N := 10
 np := 2
 cs := [zone_Table_after_con, zone_Table_before_con]
 ds := []
 modes := [(242, [false, false]), (243, [false, false])]
 ro := [false]
theorem zone_Table_Offset_ok : Con.OK Tryz.prog zone_Table_Offset_con :=
 con_of tabOk mixedOk zone_Table_Offset_d zone_Table_Offset_con Tryz.f180 (Tryz.f180.body.getD .skip) Tryz.func180 (by kernel_rfl) (by kernel_rfl) (Nat.le_of_ble_eq_true (by kernel_rfl)) (by kernel_rfl) (And.intro zone_Table_after_ok (And.intro zone_Table_before_ok trivial)) (by kernel_rfl) (by kernel_rfl)
   trivial
   (fun h => by kernel_rfl)
noncomputable def zone_local_con : Con := ⟨179, [.v iT], [iT], ⟨[.v ty8], []⟩, [ty8], fun h => Pw.zone_local h⟩
noncomputable def zone_local_d : FnD where
 N := 17
 np := 1
 cs := []
 ds := []
 ro := [false]
theorem zone_local_ok : Con.OK Tryz.prog zone_local_con :=
 con_of tabOk mixedOk zone_local_d zone_local_con Tryz.f179 (Tryz.f179.body.getD .skip) Tryz.func179 (by kernel_rfl) (by kernel_rfl) (Nat.le_of_ble_eq_true (by kernel_rfl)) (by kernel_rfl) trivial (by kernel_rfl) (by kernel_rfl)
   trivial
   (fun h => by kernel_rfl)
noncomputable def zone_Table_Local_con : Con := ⟨117, [.v ty26, .v iT], [ty26, iT], ⟨[.v ty8], []⟩, [ty8], fun h => Pw.zone_Table_Local h.1 h.2⟩
noncomputable def zone_Table_Local_d : FnD where
 N := 11
 np := 2
 cs := [zone_Table_Offset_con, zone_local_con]
 ds := []
 modes := [(179, [false]), (180, [false, false])]
 ro := [false]
theorem zone_Table_Local_ok : Con.OK Tryz.prog zone_Table_Local_con :=
 con_of tabOk mixedOk zone_Table_Local_d zone_Table_Local_con Tryz.f117 (Tryz.f117.body.getD .skip) Tryz.func117 (by kernel_rfl) (by kernel_rfl) (Nat.le_of_ble_eq_true (by kernel_rfl)) (by kernel_rfl) (And.intro zone_Table_Offset_ok (And.intro zone_local_ok trivial)) (by kernel_rfl) (by kernel_rfl)
   trivial
   (fun h => by kernel_rfl)
noncomputable def recur_ShiftOf_con : Con := ⟨121, [.v ty26, .v ty69, .v iT], [ty26, ty69, iT], ⟨[.v iT], []⟩, [iT], fun h => Pw.recur_ShiftOf h.1 h.2.1 h.2.2⟩
noncomputable def recur_ShiftOf_d : FnD where
 N := 84
 np := 3
 cs := [recur_step_con, recur_HandoverOf_con, zone_Table_Local_con]
 ds := [⟨0, [sI, .s (.one (.bp 192 0)), .s (.one (.bp 256 0)), sI, .b (.cell [.d iT, .d ty13] false), .b (.cell [.d .str, .d iT, .d iT, .d iT, .d iT, .d iT, .d (.list iT), .d ty13, .d iT, .d iT] false)], [iT, iT, iT, ty13, .str, iT, iT, iT, iT, iT, (.list iT), ty13, iT, iT], [⟨.exit 0, [sI, .s (.one (.bp 192 0)), .s (.one (.bp 256 0)), sI, .b (.cell [.d iT, .d ty13] false), .b (.cell [.d .str, .d iT, .d iT, .d iT, .d iT, .d iT, .d (.list iT), .d ty13, .d iT, .d iT] false)], [iT, iT, iT, ty13, .str, iT, iT, iT, iT, iT, (.list iT), ty13, iT, iT]⟩], fun h => Pw.recur_ShiftOf_l0_step h.1 h.2.1 h.2.2.1 h.2.2.2.1 h.2.2.2.2.1 h.2.2.2.2.2.1 h.2.2.2.2.2.2.1 h.2.2.2.2.2.2.2.1 h.2.2.2.2.2.2.2.2.1 h.2.2.2.2.2.2.2.2.2.1 h.2.2.2.2.2.2.2.2.2.2.1 h.2.2.2.2.2.2.2.2.2.2.2.1 h.2.2.2.2.2.2.2.2.2.2.2.2.1 h.2.2.2.2.2.2.2.2.2.2.2.2.2⟩,
   ⟨2, [sI, .s (.one (.bp 192 0)), .s (.one (.bp 256 0)), sI, .b (.cell [.d iT, .d ty13] false), .b (.cell [.d .str, .d iT, .d iT, .d iT, .d iT, .d iT, .d (.list iT), .d ty13, .d iT, .d iT] false)], [iT, iT, iT, ty13, .str, iT, iT, iT, iT, iT, (.list iT), ty13, iT, iT], [⟨.ret, [sI], [iT]⟩], fun h => Pw.recur_ShiftOf_l2_step h.1 h.2.1 h.2.2.1 h.2.2.2.1 h.2.2.2.2.1 h.2.2.2.2.2.1 h.2.2.2.2.2.2.1 h.2.2.2.2.2.2.2.1 h.2.2.2.2.2.2.2.2.1 h.2.2.2.2.2.2.2.2.2.1 h.2.2.2.2.2.2.2.2.2.2.1 h.2.2.2.2.2.2.2.2.2.2.2.1 h.2.2.2.2.2.2.2.2.2.2.2.2.1 h.2.2.2.2.2.2.2.2.2.2.2.2.2⟩]
 modes := [(117, [false, false]), (122, [false, false, false]), (182, [false])]
 keep := [(0, ⟨[2, 3, 4, 9], [192, 256], [], []⟩),
   (2, ⟨[2, 3, 4, 9], [192, 256], [], []⟩)]
 keepX := [(0, .exit 0, ⟨[2, 3, 4, 9], [192, 256], [], []⟩),
   (2, .ret, ⟨[6], [], [], []⟩)]
 ro := [false]
theorem recur_ShiftOf_ok : Con.OK Tryz.prog recur_ShiftOf_con :=
 con_of tabOk mixedOk recur_ShiftOf_d recur_ShiftOf_con Tryz.f121 (Tryz.f121.body.getD .skip) Tryz.func121 (by kernel_rfl) (by kernel_rfl) (Nat.le_of_ble_eq_true (by kernel_rfl)) (by kernel_rfl) (And.intro recur_step_ok (And.intro recur_HandoverOf_ok (And.intro zone_Table_Local_ok trivial))) (by kernel_rfl) (by kernel_rfl)
   (And.intro (fun h => by kernel_rfl) (And.intro (fun h => by kernel_rfl) trivial))
   (fun h => by kernel_rfl)
noncomputable def week_SecondOf_con : Con := ⟨115, [.v ty8], [ty8], ⟨[.v iT], []⟩, [iT], fun h => Pw.week_SecondOf h⟩
noncomputable def week_SecondOf_d : FnD where
 N := 10
 np := 1
 cs := [civil_Weekday_con]
 ds := []
 modes := [(178, [false])]
 ro := [false]
theorem week_SecondOf_ok : Con.OK Tryz.prog week_SecondOf_con :=
 con_of tabOk mixedOk week_SecondOf_d week_SecondOf_con Tryz.f115 (Tryz.f115.body.getD .skip) Tryz.func115 (by kernel_rfl) (by kernel_rfl) (Nat.le_of_ble_eq_true (by kernel_rfl)) (by kernel_rfl) (And.intro civil_Weekday_ok trivial) (by kernel_rfl) (by kernel_rfl)
   trivial
   (fun h => by kernel_rfl)
noncomputable def week_Has_con : Con := ⟨114, [.v ty13, .v iT], [ty13, iT], ⟨[.v .bool], []⟩, [.bool], fun h => Pw.week_Has h.1 h.2⟩
noncomputable def week_Has_d : FnD where
 N := 24
 np := 2
 cs := []
 ds := [⟨0, [sI, .s (.one (.d ty13)), sI, sI], [iT, ty13, iT, iT], [⟨.ret, [.s (.one (.d .bool))], [.bool]⟩, ⟨.exit 0, [], []⟩], fun h => Pw.week_Has_l0_step h.1 h.2.1 h.2.2.1 h.2.2.2⟩]
 keep := [(0, ⟨[1, 7, 8, 9], [], [], []⟩)]
 keepX := [(0, .ret, ⟨[4], [], [], []⟩),
   (0, .exit 0, ⟨[], [], [], []⟩)]
 ro := [false]
theorem week_Has_ok : Con.OK Tryz.prog week_Has_con :=
 con_of tabOk mixedOk week_Has_d week_Has_con Tryz.f114 (Tryz.f114.body.getD .skip) Tryz.func114 (by kernel_rfl) (by kernel_rfl) (Nat.le_of_ble_eq_true (by kernel_rfl)) (by kernel_rfl) trivial (by kernel_rfl) (by kernel_rfl)
   (And.intro (fun h => by kernel_rfl) trivial)
   (fun h => by kernel_rfl)
noncomputable def cmp_isNaN_int_con : Con := ⟨251, [.v iT], [iT], ⟨[.v .bool], []⟩, [.bool], fun h => Pw.cmp_isNaN_int h⟩
noncomputable def cmp_isNaN_int_d : FnD where
 N := 6
 np := 1
 cs := []
 ds := []
 ro := [false]
theorem cmp_isNaN_int_ok : Con.OK Tryz.prog cmp_isNaN_int_con :=
 con_of tabOk mixedOk cmp_isNaN_int_d cmp_isNaN_int_con Tryz.f251 (Tryz.f251.body.getD .skip) Tryz.func251 (by kernel_rfl) (by kernel_rfl) (Nat.le_of_ble_eq_true (by kernel_rfl)) (by kernel_rfl) trivial (by kernel_rfl) (by kernel_rfl)
   trivial
   (fun h => by kernel_rfl)
noncomputable def cmp_Less_int_con : Con := ⟨186, [.v iT, .v iT], [iT, iT], ⟨[.v .bool], []⟩, [.bool], fun h => Pw.cmp_Less_int h.1 h.2⟩
noncomputable def cmp_Less_int_d : FnD where
 N := 17
 np := 2
 cs := [cmp_isNaN_int_con]
 ds := []
 modes := [(251, [false])]
 ro := [false]
theorem cmp_Less_int_ok : Con.OK Tryz.prog cmp_Less_int_con :=
 con_of tabOk mixedOk cmp_Less_int_d cmp_Less_int_con Tryz.f186 (Tryz.f186.body.getD .skip) Tryz.func186 (by kernel_rfl) (by kernel_rfl) (Nat.le_of_ble_eq_true (by kernel_rfl)) (by kernel_rfl) (And.intro cmp_isNaN_int_ok trivial) (by kernel_rfl) (by kernel_rfl)
   trivial
   (fun h => by kernel_rfl)
noncomputable def slices_isNaN_int_con : Con := ⟨187, [.v iT], [iT], ⟨[.v .bool], []⟩, [.bool], fun h => Pw.slices_isNaN_int h⟩
noncomputable def slices_isNaN_int_d : FnD where
 N := 6
 np := 1
 cs := []
 ds := []
 ro := [false]
theorem slices_isNaN_int_ok : Con.OK Tryz.prog slices_isNaN_int_con :=
 con_of tabOk mixedOk slices_isNaN_int_d slices_isNaN_int_con Tryz.f187 (Tryz.f187.body.getD .skip) Tryz.func187 (by kernel_rfl) (by kernel_rfl) (Nat.le_of_ble_eq_true (by kernel_rfl)) (by kernel_rfl) trivial (by kernel_rfl) (by kernel_rfl)
   trivial
   (fun h => by kernel_rfl)
noncomputable def slices_BinarySearch_int_int_con : Con := ⟨127, [.v (.list iT), .v iT], [(.list iT), iT], ⟨[.v iT, .v .bool], []⟩, [iT, .bool], fun h => Pw.slices_BinarySearch_int_int h.1 h.2⟩
noncomputable def slices_BinarySearch_int_int_d : FnD where
 N := 54
 np := 2
 cs := [cmp_Less_int_con, slices_isNaN_int_con]
 ds := [⟨0, [.s (.one (.d (.list iT))), sI, sI, sI, sI], [(.list iT), iT, iT, iT, iT], [⟨.exit 0, [.s (.one (.d (.list iT))), sI, sI, sI], [(.list iT), iT, iT, iT]⟩], fun h => Pw.slices_BinarySearch_int_int_l0_step h.1 h.2.1 h.2.2.1 h.2.2.2.1 h.2.2.2.2⟩]
 modes := [(186, [false, false]), (187, [false])]
 keep := [(0, ⟨[0, 1, 6, 7, 8], [], [], []⟩)]
 keepX := [(0, .exit 0, ⟨[0, 1, 6, 7], [], [], []⟩)]
 ro := [false, false]
theorem slices_BinarySearch_int_int_ok : Con.OK Tryz.prog slices_BinarySearch_int_int_con :=
 con_of tabOk mixedOk slices_BinarySearch_int_int_d slices_BinarySearch_int_int_con Tryz.f127 (Tryz.f127.body.getD .skip) Tryz.func127 (by kernel_rfl) (by kernel_rfl) (Nat.le_of_ble_eq_true (by kernel_rfl)) (by kernel_rfl) (And.intro cmp_Less_int_ok (And.intro slices_isNaN_int_ok trivial)) (by kernel_rfl) (by kernel_rfl)
   (And.intro (fun h => by kernel_rfl) trivial)
   (fun h => by kernel_rfl)
noncomputable def duty_View_On_con : Con := ⟨71, [.v ty83, .v ty69, .v iT], [ty83, ty69, iT], ⟨[.v iT, .v .bool], []⟩, [iT, .bool], fun h => Pw.duty_View_On h.1 h.2.1 h.2.2⟩
noncomputable def duty_View_On_d : FnD where
 N := 79
 np := 3
 cs := [zone_Table_Local_con, recur_ShiftOf_con, week_SecondOf_con, week_Has_con, slices_BinarySearch_int_int_con]
 ds := []
 modes := [(114, [false, false]), (115, [false]), (117, [false, false]), (121, [false, false, false]), (127, [false, false])]
 ro := [false, false]
theorem duty_View_On_ok : Con.OK Tryz.prog duty_View_On_con :=
 con_of tabOk mixedOk duty_View_On_d duty_View_On_con Tryz.f71 (Tryz.f71.body.getD .skip) Tryz.func71 (by kernel_rfl) (by kernel_rfl) (Nat.le_of_ble_eq_true (by kernel_rfl)) (by kernel_rfl) (And.intro zone_Table_Local_ok (And.intro recur_ShiftOf_ok (And.intro week_SecondOf_ok (And.intro week_Has_ok (And.intro slices_BinarySearch_int_int_ok trivial))))) (by kernel_rfl) (by kernel_rfl)
   trivial
   (fun h => by kernel_rfl)
noncomputable def duty_View_Person_con : Con := ⟨70, [.v ty83, .v ty69, .v iT], [ty83, ty69, iT], ⟨[.v iT], []⟩, [iT], fun h => Pw.duty_View_Person h.1 h.2.1 h.2.2⟩
noncomputable def duty_View_Person_d : FnD where
 N := 27
 np := 3
 cs := [duty_View_On_con]
 ds := []
 modes := [(71, [false, false, false])]
 ro := [false]
theorem duty_View_Person_ok : Con.OK Tryz.prog duty_View_Person_con :=
 con_of tabOk mixedOk duty_View_Person_d duty_View_Person_con Tryz.f70 (Tryz.f70.body.getD .skip) Tryz.func70 (by kernel_rfl) (by kernel_rfl) (Nat.le_of_ble_eq_true (by kernel_rfl)) (by kernel_rfl) (And.intro duty_View_On_ok trivial) (by kernel_rfl) (by kernel_rfl)
   trivial
   (fun h => by kernel_rfl)
noncomputable def stack_Away_c1_con : Con := ⟨78, [.v ty39, .ip [iT], .ip [iT]], [ty39, iT, iT], ⟨[.v .bool], []⟩, [.bool], fun h => Pw.stack_Away_c1 h.1 h.2.1 h.2.2⟩
noncomputable def stack_Away_c1_d : FnD where
 N := 26
 np := 3
 cs := []
 ds := []
 ro := [false]
theorem stack_Away_c1_ok : Con.OK Tryz.prog stack_Away_c1_con :=
 con_of tabOk mixedOk stack_Away_c1_d stack_Away_c1_con Tryz.f78 (Tryz.f78.body.getD .skip) Tryz.func78 (by kernel_rfl) (by kernel_rfl) (Nat.le_of_ble_eq_true (by kernel_rfl)) (by kernel_rfl) trivial (by kernel_rfl) (by kernel_rfl)
   trivial
   (fun h => by kernel_rfl)
noncomputable def slices_IndexFunc_api_Edit_api_Edit_con : Con := ⟨131, [.v ty41, .clo 78 [.p [iT], .p [iT]]], [ty41, iT, iT], ⟨[.v iT], []⟩, [iT], fun h => Pw.slices_IndexFunc_api_Edit_api_Edit h.1 h.2.1 h.2.2⟩
noncomputable def slices_IndexFunc_api_Edit_api_Edit_d : FnD where
 N := 19
 np := 2
 cs := [stack_Away_c1_con]
 ds := [⟨0, [.s (.one (.d ty41)), .s (.one (.clo 78 [.p [iT], .p [iT]])), sI, sI], [ty41, iT, iT, iT, iT], [⟨.ret, [sI], [iT]⟩, ⟨.exit 0, [], []⟩], fun h => Pw.slices_IndexFunc_api_Edit_api_Edit_l0_step h.1 h.2.1 h.2.2.1 h.2.2.2.1 h.2.2.2.2⟩]
 modes := [(78, [false])]
 keep := [(0, ⟨[0, 1, 7, 8], [], [], []⟩)]
 keepX := [(0, .ret, ⟨[4], [], [], []⟩),
   (0, .exit 0, ⟨[], [], [], []⟩)]
 ro := [false]
theorem slices_IndexFunc_api_Edit_api_Edit_ok : Con.OK Tryz.prog slices_IndexFunc_api_Edit_api_Edit_con :=
 con_of tabOk mixedOk slices_IndexFunc_api_Edit_api_Edit_d slices_IndexFunc_api_Edit_api_Edit_con Tryz.f131 (Tryz.f131.body.getD .skip) Tryz.func131 (by kernel_rfl) (by kernel_rfl) (Nat.le_of_ble_eq_true (by kernel_rfl)) (by kernel_rfl) (And.intro stack_Away_c1_ok trivial) (by kernel_rfl) (by kernel_rfl)
   (And.intro (fun h => by kernel_rfl) trivial)
   (fun h => by kernel_rfl)
end Go.Proofs.Pk
