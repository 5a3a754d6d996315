/- Contracts: each given function is its plain function, printed by a program. -/
import Derived.Test.YtdfbeioppmgheaaGreatCon4
open Go Go.Lft
set_option linter.unusedVariables false
set_option maxRecDepth 100000
namespace Go.Proofs.Pk
noncomputable def slices_SortFunc_api_Segment_api_Segment_by_stack_SegmentsOf_c1_con : Con := ⟨136, [.rl 49 ty25, .clo 137 []], [ty25], ⟨[], [.rl ty25]⟩, [ty25], fun h => Pw.slices_SortFunc_api_Segment_api_Segment_by_stack_SegmentsOf_c1 h⟩
noncomputable def slices_SortFunc_api_Segment_api_Segment_by_stack_SegmentsOf_c1_d : FnD where
 N := 14
 np := 2
 cs := [stack_SegmentsOf_c1_con]
 ds := []
 modes := [(137, [false, false])]
theorem slices_SortFunc_api_Segment_api_Segment_by_stack_SegmentsOf_c1_ok : Con.OK Tryz.prog slices_SortFunc_api_Segment_api_Segment_by_stack_SegmentsOf_c1_con :=
 con_sort Tryz.sort136 (ty21) rfl 49 (by kernel_rfl) Tryz.isAgg49 Tryz.sizeOf49 _ 137 (enters_of Tryz.func137 (by kernel_rfl) rfl) sort137_cmp sort137_swo 136 rfl
noncomputable def stack_SegmentsOf_con : Con := ⟨82, [.v ty83, .v ty74, .v iT, .v iT], [ty83, ty74, iT, iT], ⟨[.own 49 ty25], []⟩, [ty25], fun h => Pw.stack_SegmentsOf h.1 h.2.1 h.2.2.1 h.2.2.2⟩
noncomputable def stack_SegmentsOf_d : FnD where
 N := 63
 np := 4
 cs := [slices_Backward_api_Layer_api_Layer_con, span_Without_con, duty_Merge_con, duty_View_Segments_con, stack_present_con, stack_within_con, stack_spans_con, slices_SortFunc_api_Segment_api_Segment_by_stack_SegmentsOf_c1_con]
 ds := [⟨0, [sI, .s (.one (.bp 256 0)), .s (.one (.bp 320 0)), .s (.one (.bp 384 0)), .s (.one (.bp 448 0)), .s (.one (.bp 576 0)), .s (.one (.bp 640 0)), .s (.one (.clo 190 [.p [ty70]])), .b (.cell [.d ty63, .d ty53, .d ty27, .d ty75, .d ty30] false), .b (.cell [.d .str, .d ty70, .d ty41] false), .b (.cell [.d iT] false), .b (.cell [.d iT] false), .b (.cell [.ol 1000000] false), .b (.cell [.ol 1000001] false), .b (.lst 96 ty8 false), .b (.lst 49 ty21 false)], [iT, ty70, ty63, ty53, ty27, ty75, ty30, .str, ty70, ty41, iT, iT, ty13, ty25], [⟨.normal, [.s (.one (.bp 576 0)), .s (.one (.bp 640 0)), .b (.cell [.ol 1500050] false), .b (.cell [.ol 1500051] false), .b (.lst 96 ty8 false), .b (.lst 49 ty21 false)], [ty13, ty25]⟩], fun h => Pw.stack_SegmentsOf_l0_step h.1 h.2.1 h.2.2.1 h.2.2.2.1 h.2.2.2.2.1 h.2.2.2.2.2.1 h.2.2.2.2.2.2.1 h.2.2.2.2.2.2.2.1 h.2.2.2.2.2.2.2.2.1 h.2.2.2.2.2.2.2.2.2.1 h.2.2.2.2.2.2.2.2.2.2.1 h.2.2.2.2.2.2.2.2.2.2.2.1 h.2.2.2.2.2.2.2.2.2.2.2.2.1 h.2.2.2.2.2.2.2.2.2.2.2.2.2⟩,
   ⟨2, [.s (.one (.bp 640 0)), .s (.one (.ol 1002000)), sI, sI, .b (.cell [.ol 1002001] false), .b (.lst 96 ty8 false), .b (.lst 49 ty21 false)], [iT, iT, ty13, ty25], [⟨.exit 2, [.s (.one (.bp 640 0)), .b (.cell [.ol 1502300] false), .b (.lst 49 ty21 false)], [ty25]⟩], fun h => Pw.stack_SegmentsOf_l2_step h.1 h.2.1 h.2.2.1 h.2.2.2⟩]
 modes := [(31, [false]), (67, [false, false, false, false]), (124, [false, false]), (132, [false]), (133, [false, false]), (134, [false, false]), (135, [false]), (136, [true, false])]
 keep := [(0, ⟨[4, 5, 6, 7, 9, 10, 25], [256, 320, 384, 448, 576, 640], [⟨1000000, 96, ty8, [.cell 576 0], false⟩, ⟨1000001, 49, ty21, [.cell 640 0], false⟩], []⟩),
   (2, ⟨[10, 44, 45, 46], [640], [⟨1002000, 96, ty8, [.slot 44], false⟩, ⟨1002001, 49, ty21, [.cell 640 0], false⟩], []⟩)]
 keepX := [(0, .normal, ⟨[9, 10], [576, 640], [⟨1500050, 96, ty8, [.cell 576 0], false⟩, ⟨1500051, 49, ty21, [.cell 640 0], false⟩], []⟩),
   (2, .exit 2, ⟨[10], [640], [⟨1502300, 49, ty21, [.cell 640 0], false⟩], []⟩)]
 ro := [true]
 dw := [(7, [[], [], [], [], [], [2112], [2176], [], [2304], []]), (9, [[], [], [2688], [2752], [576]])]
 bw := [(190, ty69)]
theorem bw190_ok : BwOK Tryz.prog 190 (ty69) :=
 bw_con tabOk Tryz.func190 (fn := Tryz.f190) (A0 := bwA Tryz.f190 0) (A1 := bwA Tryz.f190 1) (A2 := bwA Tryz.f190 2) (A3 := bwA Tryz.f190 3) (by kernel_rfl) (by kernel_rfl) (by kernel_rfl) (by kernel_rfl) (by kernel_rfl) (by kernel_rfl) (by kernel_rfl) (by kernel_rfl) (by kernel_rfl) (by kernel_rfl) (by kernel_rfl) ⟨(by kernel_rfl), (by kernel_rfl)⟩
   (fun xs => by kernel_rfl) (fun i => by kernel_rfl) (fun i => by kernel_rfl) (fun xs i => by kernel_rfl) (fun b i => by kernel_rfl)
theorem stack_SegmentsOf_ok : Con.OK Tryz.prog stack_SegmentsOf_con :=
 con_of tabOk mixedOk stack_SegmentsOf_d stack_SegmentsOf_con Tryz.f82 (Tryz.f82.body.getD .skip) Tryz.func82 (by kernel_rfl) (by kernel_rfl) (Nat.le_of_ble_eq_true (by kernel_rfl)) (by kernel_rfl) (And.intro slices_Backward_api_Layer_api_Layer_ok (And.intro span_Without_ok (And.intro duty_Merge_ok (And.intro duty_View_Segments_ok (And.intro stack_present_ok (And.intro stack_within_ok (And.intro stack_spans_ok (And.intro slices_SortFunc_api_Segment_api_Segment_by_stack_SegmentsOf_c1_ok trivial)))))))) (by kernel_rfl) (by kernel_rfl)
   (And.intro (fun h => by kernel_rfl) (And.intro (fun h => by kernel_rfl) trivial))
   (fun h => by kernel_rfl) (And.intro bw190_ok trivial)
noncomputable def stack_Segments_con : Con := ⟨40, [.v ty81, .v iT, .v iT, .v iT], [ty81, iT, iT, iT], ⟨[.own 49 ty25, .v iT], []⟩, [ty25, iT], fun h => Pw.stack_Segments h.1 h.2.1 h.2.2.1 h.2.2.2⟩
noncomputable def stack_Segments_d : FnD where
 N := 37
 np := 4
 cs := [stack_Check_con, stack_SegmentsOf_con]
 ds := []
 modes := [(81, [false, false, false, false]), (82, [false, false, false, false])]
 ro := [true, false]
 dw := [(4, [[], [], [], [], [], [], [], [], [2048], []])]
theorem stack_Segments_ok : Con.OK Tryz.prog stack_Segments_con :=
 con_of tabOk mixedOk stack_Segments_d stack_Segments_con Tryz.f40 (Tryz.f40.body.getD .skip) Tryz.func40 (by kernel_rfl) (by kernel_rfl) (Nat.le_of_ble_eq_true (by kernel_rfl)) (by kernel_rfl) (And.intro stack_Check_ok (And.intro stack_SegmentsOf_ok trivial)) (by kernel_rfl) (by kernel_rfl)
   trivial
   (fun h => by kernel_rfl)
noncomputable def stack_open_con : Con := ⟨79, [.v ty81, .v iT], [ty81, iT], ⟨[.v ty83, .v ty74, .v .bool], []⟩, [ty83, ty74, .bool], fun h => Pw.stack_open h.1 h.2⟩
noncomputable def stack_open_d : FnD where
 N := 30
 np := 2
 cs := [duty_Of_con, stack_Index_con]
 ds := []
 modes := [(92, [false]), (93, [false, false])]
 ro := [false, false, false]
 dw := [(4, [[], [], [], [], [], [], [256], [320], []])]
theorem stack_open_ok : Con.OK Tryz.prog stack_open_con :=
 con_of tabOk mixedOk stack_open_d stack_open_con Tryz.f79 (Tryz.f79.body.getD .skip) Tryz.func79 (by kernel_rfl) (by kernel_rfl) (Nat.le_of_ble_eq_true (by kernel_rfl)) (by kernel_rfl) (And.intro duty_Of_ok (And.intro stack_Index_ok trivial)) (by kernel_rfl) (by kernel_rfl)
   trivial
   (fun h => by kernel_rfl)
noncomputable def week_SecondOf_con : Con := ⟨115, [.v ty8], [ty8], ⟨[.v iT], []⟩, [iT], fun h => Pw.week_SecondOf h⟩
noncomputable def week_SecondOf_d : FnD where
 N := 10
 np := 1
 cs := [civil_Weekday_con]
 ds := []
 modes := [(178, [false])]
 ro := [false]
theorem week_SecondOf_ok : Con.OK Tryz.prog week_SecondOf_con :=
 con_of tabOk mixedOk week_SecondOf_d week_SecondOf_con Tryz.f115 (Tryz.f115.body.getD .skip) Tryz.func115 (by kernel_rfl) (by kernel_rfl) (Nat.le_of_ble_eq_true (by kernel_rfl)) (by kernel_rfl) (And.intro civil_Weekday_ok trivial) (by kernel_rfl) (by kernel_rfl)
   trivial
   (fun h => by kernel_rfl)
noncomputable def week_Has_con : Con := ⟨114, [.v ty13, .v iT], [ty13, iT], ⟨[.v .bool], []⟩, [.bool], fun h => Pw.week_Has h.1 h.2⟩
noncomputable def week_Has_d : FnD where
 N := 24
 np := 2
 cs := []
 ds := [⟨0, [sI, .s (.one (.d ty13)), sI, sI], [iT, ty13, iT, iT], [⟨.ret, [.s (.one (.d .bool))], [.bool]⟩, ⟨.exit 0, [], []⟩], fun h => Pw.week_Has_l0_step h.1 h.2.1 h.2.2.1 h.2.2.2⟩]
 keep := [(0, ⟨[1, 7, 8, 9], [], [], []⟩)]
 keepX := [(0, .ret, ⟨[4], [], [], []⟩),
   (0, .exit 0, ⟨[], [], [], []⟩)]
 ro := [false]
theorem week_Has_ok : Con.OK Tryz.prog week_Has_con :=
 con_of tabOk mixedOk week_Has_d week_Has_con Tryz.f114 (Tryz.f114.body.getD .skip) Tryz.func114 (by kernel_rfl) (by kernel_rfl) (Nat.le_of_ble_eq_true (by kernel_rfl)) (by kernel_rfl) trivial (by kernel_rfl) (by kernel_rfl)
   (And.intro (fun h => by kernel_rfl) trivial)
   (fun h => by kernel_rfl)
noncomputable def cmp_isNaN_int_con : Con := ⟨251, [.v iT], [iT], ⟨[.v .bool], []⟩, [.bool], fun h => Pw.cmp_isNaN_int h⟩
noncomputable def cmp_isNaN_int_d : FnD where
 N := 6
 np := 1
 cs := []
 ds := []
 ro := [false]
theorem cmp_isNaN_int_ok : Con.OK Tryz.prog cmp_isNaN_int_con :=
 con_of tabOk mixedOk cmp_isNaN_int_d cmp_isNaN_int_con Tryz.f251 (Tryz.f251.body.getD .skip) Tryz.func251 (by kernel_rfl) (by kernel_rfl) (Nat.le_of_ble_eq_true (by kernel_rfl)) (by kernel_rfl) trivial (by kernel_rfl) (by kernel_rfl)
   trivial
   (fun h => by kernel_rfl)
noncomputable def cmp_Less_int_con : Con := ⟨186, [.v iT, .v iT], [iT, iT], ⟨[.v .bool], []⟩, [.bool], fun h => Pw.cmp_Less_int h.1 h.2⟩
noncomputable def cmp_Less_int_d : FnD where
 N := 17
 np := 2
 cs := [cmp_isNaN_int_con]
 ds := []
 modes := [(251, [false])]
 ro := [false]
theorem cmp_Less_int_ok : Con.OK Tryz.prog cmp_Less_int_con :=
 con_of tabOk mixedOk cmp_Less_int_d cmp_Less_int_con Tryz.f186 (Tryz.f186.body.getD .skip) Tryz.func186 (by kernel_rfl) (by kernel_rfl) (Nat.le_of_ble_eq_true (by kernel_rfl)) (by kernel_rfl) (And.intro cmp_isNaN_int_ok trivial) (by kernel_rfl) (by kernel_rfl)
   trivial
   (fun h => by kernel_rfl)
noncomputable def slices_isNaN_int_con : Con := ⟨187, [.v iT], [iT], ⟨[.v .bool], []⟩, [.bool], fun h => Pw.slices_isNaN_int h⟩
noncomputable def slices_isNaN_int_d : FnD where
 N := 6
 np := 1
 cs := []
 ds := []
 ro := [false]
theorem slices_isNaN_int_ok : Con.OK Tryz.prog slices_isNaN_int_con :=
 con_of tabOk mixedOk slices_isNaN_int_d slices_isNaN_int_con Tryz.f187 (Tryz.f187.body.getD .skip) Tryz.func187 (by kernel_rfl) (by kernel_rfl) (Nat.le_of_ble_eq_true (by kernel_rfl)) (by kernel_rfl) trivial (by kernel_rfl) (by kernel_rfl)
   trivial
   (fun h => by kernel_rfl)
noncomputable def slices_BinarySearch_int_int_con : Con := ⟨127, [.v (.list iT), .v iT], [(.list iT), iT], ⟨[.v iT, .v .bool], []⟩, [iT, .bool], fun h => Pw.slices_BinarySearch_int_int h.1 h.2⟩
noncomputable def slices_BinarySearch_int_int_d : FnD where
 N := 54
 np := 2
 cs := [cmp_Less_int_con, slices_isNaN_int_con]
 ds := [⟨0, [.s (.one (.d (.list iT))), sI, sI, sI, sI], [(.list iT), iT, iT, iT, iT], [⟨.exit 0, [.s (.one (.d (.list iT))), sI, sI, sI], [(.list iT), iT, iT, iT]⟩], fun h => Pw.slices_BinarySearch_int_int_l0_step h.1 h.2.1 h.2.2.1 h.2.2.2.1 h.2.2.2.2⟩]
 modes := [(186, [false, false]), (187, [false])]
 keep := [(0, ⟨[0, 1, 6, 7, 8], [], [], []⟩)]
 keepX := [(0, .exit 0, ⟨[0, 1, 6, 7], [], [], []⟩)]
 ro := [false, false]
theorem slices_BinarySearch_int_int_ok : Con.OK Tryz.prog slices_BinarySearch_int_int_con :=
 con_of tabOk mixedOk slices_BinarySearch_int_int_d slices_BinarySearch_int_int_con Tryz.f127 (Tryz.f127.body.getD .skip) Tryz.func127 (by kernel_rfl) (by kernel_rfl) (Nat.le_of_ble_eq_true (by kernel_rfl)) (by kernel_rfl) (And.intro cmp_Less_int_ok (And.intro slices_isNaN_int_ok trivial)) (by kernel_rfl) (by kernel_rfl)
   (And.intro (fun h => by kernel_rfl) trivial)
   (fun h => by kernel_rfl)
noncomputable def duty_View_On_con : Con := ⟨71, [.v ty83, .v ty69, .v iT], [ty83, ty69, iT], ⟨[.v iT, .v .bool], []⟩, [iT, .bool], fun h => Pw.duty_View_On h.1 h.2.1 h.2.2⟩
noncomputable def duty_View_On_d : FnD where
 N := 79
 np := 3
 cs := [zone_Table_Local_con, recur_ShiftOf_con, week_SecondOf_con, week_Has_con, slices_BinarySearch_int_int_con]
 ds := []
 modes := [(114, [false, false]), (115, [false]), (117, [false, false]), (121, [false, false, false]), (127, [false, false])]
 ro := [false, false]
theorem duty_View_On_ok : Con.OK Tryz.prog duty_View_On_con :=
 con_of tabOk mixedOk duty_View_On_d duty_View_On_con Tryz.f71 (Tryz.f71.body.getD .skip) Tryz.func71 (by kernel_rfl) (by kernel_rfl) (Nat.le_of_ble_eq_true (by kernel_rfl)) (by kernel_rfl) (And.intro zone_Table_Local_ok (And.intro recur_ShiftOf_ok (And.intro week_SecondOf_ok (And.intro week_Has_ok (And.intro slices_BinarySearch_int_int_ok trivial))))) (by kernel_rfl) (by kernel_rfl)
   trivial
   (fun h => by kernel_rfl)
noncomputable def duty_View_Person_con : Con := ⟨70, [.v ty83, .v ty69, .v iT], [ty83, ty69, iT], ⟨[.v iT], []⟩, [iT], fun h => Pw.duty_View_Person h.1 h.2.1 h.2.2⟩
noncomputable def duty_View_Person_d : FnD where
 N := 27
 np := 3
 cs := [duty_View_On_con]
 ds := []
 modes := [(71, [false, false, false])]
 ro := [false]
theorem duty_View_Person_ok : Con.OK Tryz.prog duty_View_Person_con :=
 con_of tabOk mixedOk duty_View_Person_d duty_View_Person_con Tryz.f70 (Tryz.f70.body.getD .skip) Tryz.func70 (by kernel_rfl) (by kernel_rfl) (Nat.le_of_ble_eq_true (by kernel_rfl)) (by kernel_rfl) (And.intro duty_View_On_ok trivial) (by kernel_rfl) (by kernel_rfl)
   trivial
   (fun h => by kernel_rfl)
noncomputable def stack_Away_c1_con : Con := ⟨78, [.v ty39, .ip [iT], .ip [iT]], [ty39, iT, iT], ⟨[.v .bool], []⟩, [.bool], fun h => Pw.stack_Away_c1 h.1 h.2.1 h.2.2⟩
noncomputable def stack_Away_c1_d : FnD where
 N := 26
 np := 3
 cs := []
 ds := []
 ro := [false]
theorem stack_Away_c1_ok : Con.OK Tryz.prog stack_Away_c1_con :=
 con_of tabOk mixedOk stack_Away_c1_d stack_Away_c1_con Tryz.f78 (Tryz.f78.body.getD .skip) Tryz.func78 (by kernel_rfl) (by kernel_rfl) (Nat.le_of_ble_eq_true (by kernel_rfl)) (by kernel_rfl) trivial (by kernel_rfl) (by kernel_rfl)
   trivial
   (fun h => by kernel_rfl)
noncomputable def slices_IndexFunc_api_Edit_api_Edit_con : Con := ⟨131, [.v ty41, .clo 78 [.p [iT], .p [iT]]], [ty41, iT, iT], ⟨[.v iT], []⟩, [iT], fun h => Pw.slices_IndexFunc_api_Edit_api_Edit h.1 h.2.1 h.2.2⟩
noncomputable def slices_IndexFunc_api_Edit_api_Edit_d : FnD where
 N := 19
 np := 2
 cs := [stack_Away_c1_con]
 ds := [⟨0, [.s (.one (.d ty41)), .s (.one (.clo 78 [.p [iT], .p [iT]])), sI, sI], [ty41, iT, iT, iT, iT], [⟨.ret, [sI], [iT]⟩, ⟨.exit 0, [], []⟩], fun h => Pw.slices_IndexFunc_api_Edit_api_Edit_l0_step h.1 h.2.1 h.2.2.1 h.2.2.2.1 h.2.2.2.2⟩]
 modes := [(78, [false])]
 keep := [(0, ⟨[0, 1, 7, 8], [], [], []⟩)]
 keepX := [(0, .ret, ⟨[4], [], [], []⟩),
   (0, .exit 0, ⟨[], [], [], []⟩)]
 ro := [false]
theorem slices_IndexFunc_api_Edit_api_Edit_ok : Con.OK Tryz.prog slices_IndexFunc_api_Edit_api_Edit_con :=
 con_of tabOk mixedOk slices_IndexFunc_api_Edit_api_Edit_d slices_IndexFunc_api_Edit_api_Edit_con Tryz.f131 (Tryz.f131.body.getD .skip) Tryz.func131 (by kernel_rfl) (by kernel_rfl) (Nat.le_of_ble_eq_true (by kernel_rfl)) (by kernel_rfl) (And.intro stack_Away_c1_ok trivial) (by kernel_rfl) (by kernel_rfl)
   (And.intro (fun h => by kernel_rfl) trivial)
   (fun h => by kernel_rfl)
noncomputable def slices_ContainsFunc_api_Edit_api_Edit_con : Con := ⟨77, [.v ty41, .clo 78 [.p [iT], .p [iT]]], [ty41, iT, iT], ⟨[.v .bool], []⟩, [.bool], fun h => Pw.slices_ContainsFunc_api_Edit_api_Edit h.1 h.2.1 h.2.2⟩
noncomputable def slices_ContainsFunc_api_Edit_api_Edit_d : FnD where
 N := 9
 np := 2
 cs := [slices_IndexFunc_api_Edit_api_Edit_con]
 ds := []
 modes := [(131, [false, false])]
 ro := [false]
theorem slices_ContainsFunc_api_Edit_api_Edit_ok : Con.OK Tryz.prog slices_ContainsFunc_api_Edit_api_Edit_con :=
 con_of tabOk mixedOk slices_ContainsFunc_api_Edit_api_Edit_d slices_ContainsFunc_api_Edit_api_Edit_con Tryz.f77 (Tryz.f77.body.getD .skip) Tryz.func77 (by kernel_rfl) (by kernel_rfl) (Nat.le_of_ble_eq_true (by kernel_rfl)) (by kernel_rfl) (And.intro slices_IndexFunc_api_Edit_api_Edit_ok trivial) (by kernel_rfl) (by kernel_rfl)
   trivial
   (fun h => by kernel_rfl)
noncomputable def stack_Away_con : Con := ⟨35, [.v ty74, .v iT, .v iT], [ty74, iT, iT], ⟨[.v .bool], []⟩, [.bool], fun h => Pw.stack_Away h.1 h.2.1 h.2.2⟩
noncomputable def stack_Away_d : FnD where
 N := 11
 np := 3
 cs := [slices_ContainsFunc_api_Edit_api_Edit_con]
 ds := []
 modes := [(77, [false, false])]
 ro := [false]
theorem stack_Away_ok : Con.OK Tryz.prog stack_Away_con :=
 con_of tabOk mixedOk stack_Away_d stack_Away_con Tryz.f35 (Tryz.f35.body.getD .skip) Tryz.func35 (by kernel_rfl) (by kernel_rfl) (Nat.le_of_ble_eq_true (by kernel_rfl)) (by kernel_rfl) (And.intro slices_ContainsFunc_api_Edit_api_Edit_ok trivial) (by kernel_rfl) (by kernel_rfl)
   trivial
   (fun h => by kernel_rfl)
noncomputable def stack_LayerOf_con : Con := ⟨80, [.v ty83, .v ty74, .v iT], [ty83, ty74, iT], ⟨[.v iT, .v iT], []⟩, [iT, iT], fun h => Pw.stack_LayerOf h.1 h.2.1 h.2.2⟩
noncomputable def stack_LayerOf_d : FnD where
 N := 29
 np := 3
 cs := [slices_Backward_api_Layer_api_Layer_con, duty_View_Person_con, stack_Away_con]
 ds := [⟨0, [sI, .s (.one (.bp 192 0)), .s (.one (.bp 256 0)), .s (.one (.bp 320 0)), .s (.one (.bp 384 0)), .s (.one (.bp 448 0)), .s (.one (.clo 190 [.p [ty70]])), .b (.cell [.d ty63, .d ty53, .d ty27, .d ty75, .d ty30] false), .b (.cell [.d .str, .d ty70, .d ty41] false), .b (.cell [.d iT] false), .b (.cell [.d iT] false), .b (.cell [.d iT] false)], [iT, ty70, ty63, ty53, ty27, ty75, ty30, .str, ty70, ty41, iT, iT, iT], [⟨.normal, [.s (.one (.bp 384 0)), .s (.one (.bp 448 0)), .b (.cell [.d iT] false), .b (.cell [.d iT] false)], [iT, iT]⟩, ⟨.ret, [.s (.one (.bp 384 0)), .s (.one (.bp 448 0)), .b (.cell [.d iT] false), .b (.cell [.d iT] false)], [iT, iT]⟩], fun h => Pw.stack_LayerOf_l0_step h.1 h.2.1 h.2.2.1 h.2.2.2.1 h.2.2.2.2.1 h.2.2.2.2.2.1 h.2.2.2.2.2.2.1 h.2.2.2.2.2.2.2.1 h.2.2.2.2.2.2.2.2.1 h.2.2.2.2.2.2.2.2.2.1 h.2.2.2.2.2.2.2.2.2.2.1 h.2.2.2.2.2.2.2.2.2.2.2.1 h.2.2.2.2.2.2.2.2.2.2.2.2⟩]
 modes := [(35, [false, false, false]), (70, [false, false, false]), (132, [false])]
 keep := [(0, ⟨[3, 4, 5, 6, 7, 13], [192, 256, 320, 384, 448], [], []⟩)]
 keepX := [(0, .normal, ⟨[6, 7], [384, 448], [], []⟩),
   (0, .ret, ⟨[6, 7], [384, 448], [], []⟩)]
 ro := [false, false]
 bw := [(190, ty69)]
theorem stack_LayerOf_ok : Con.OK Tryz.prog stack_LayerOf_con :=
 con_of tabOk mixedOk stack_LayerOf_d stack_LayerOf_con Tryz.f80 (Tryz.f80.body.getD .skip) Tryz.func80 (by kernel_rfl) (by kernel_rfl) (Nat.le_of_ble_eq_true (by kernel_rfl)) (by kernel_rfl) (And.intro slices_Backward_api_Layer_api_Layer_ok (And.intro duty_View_Person_ok (And.intro stack_Away_ok trivial))) (by kernel_rfl) (by kernel_rfl)
   (And.intro (fun h => by kernel_rfl) trivial)
   (fun h => by kernel_rfl) (And.intro bw190_ok trivial)
noncomputable def stack_Who_con : Con := ⟨37, [.v ty81, .v iT, .v iT], [ty81, iT, iT], ⟨[.v iT], []⟩, [iT], fun h => Pw.stack_Who h.1 h.2.1 h.2.2⟩
noncomputable def stack_Who_d : FnD where
 N := 29
 np := 3
 cs := [stack_open_con, stack_LayerOf_con]
 ds := []
 modes := [(79, [false, false]), (80, [false, false, false])]
 ro := [false]
theorem stack_Who_ok : Con.OK Tryz.prog stack_Who_con :=
 con_of tabOk mixedOk stack_Who_d stack_Who_con Tryz.f37 (Tryz.f37.body.getD .skip) Tryz.func37 (by kernel_rfl) (by kernel_rfl) (Nat.le_of_ble_eq_true (by kernel_rfl)) (by kernel_rfl) (And.intro stack_open_ok (And.intro stack_LayerOf_ok trivial)) (by kernel_rfl) (by kernel_rfl)
   trivial
   (fun h => by kernel_rfl)
noncomputable def stack_Layer_con : Con := ⟨36, [.v ty81, .v iT, .v iT], [ty81, iT, iT], ⟨[.v iT], []⟩, [iT], fun h => Pw.stack_Layer h.1 h.2.1 h.2.2⟩
noncomputable def stack_Layer_d : FnD where
 N := 29
 np := 3
 cs := [stack_open_con, stack_LayerOf_con]
 ds := []
 modes := [(79, [false, false]), (80, [false, false, false])]
 ro := [false]
theorem stack_Layer_ok : Con.OK Tryz.prog stack_Layer_con :=
 con_of tabOk mixedOk stack_Layer_d stack_Layer_con Tryz.f36 (Tryz.f36.body.getD .skip) Tryz.func36 (by kernel_rfl) (by kernel_rfl) (Nat.le_of_ble_eq_true (by kernel_rfl)) (by kernel_rfl) (And.intro stack_open_ok (And.intro stack_LayerOf_ok trivial)) (by kernel_rfl) (by kernel_rfl)
   trivial
   (fun h => by kernel_rfl)
noncomputable def law12_sane_con : Con := ⟨32, [], [], ⟨[.v .bool], []⟩, [.bool], fun h => Pw.law12_sane⟩
noncomputable def law12_sane_d : FnD where
 N := 52
 np := 0
 cs := [law12_three_con, stack_Segments_con, stack_Away_con, stack_Who_con, stack_Layer_con]
 ds := []
 modes := [(35, [false, false, false]), (36, [false, false, false]), (37, [false, false, false]), (40, [false, false, false, false]), (74, [])]
 ro := [false]
theorem law12_sane_ok : Con.OK Tryz.prog law12_sane_con :=
 con_of tabOk mixedOk law12_sane_d law12_sane_con Tryz.f32 (Tryz.f32.body.getD .skip) Tryz.func32 (by kernel_rfl) (by kernel_rfl) (Nat.le_of_ble_eq_true (by kernel_rfl)) (by kernel_rfl) (And.intro law12_three_ok (And.intro stack_Segments_ok (And.intro stack_Away_ok (And.intro stack_Who_ok (And.intro stack_Layer_ok trivial))))) (by kernel_rfl) (by kernel_rfl)
   trivial
   (fun h => by kernel_rfl)
end Go.Proofs.Pk
