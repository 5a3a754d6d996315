/- Contracts: each given function is its plain function, printed by a program. -/
import Derived.Test.YtdfbeioppmgheaaGreatCon4
open Go Go.Lft
set_option linter.unusedVariables false
set_option maxRecDepth 100000
namespace Go.Proofs.Pk
noncomputable def slices_ContainsFunc_api_Edit_api_Edit_con : Con := ⟨77, [.v ty41, .clo 78 [.p [iT], .p [iT]]], [ty41, iT, iT], ⟨[.v .bool], []⟩, [.bool], fun h => Pw.slices_ContainsFunc_api_Edit_api_Edit h.1 h.2.1 h.2.2⟩
noncomputable def slices_ContainsFunc_api_Edit_api_Edit_d : FnD where
 N := 9
 np := 2
 cs := [slices_IndexFunc_api_Edit_api_Edit_con]
 ds := []
 modes := [(131, [false, false])]
 ro := [false]
theorem slices_ContainsFunc_api_Edit_api_Edit_ok : Con.OK Tryz.prog slices_ContainsFunc_api_Edit_api_Edit_con :=
 con_of tabOk mixedOk slices_ContainsFunc_api_Edit_api_Edit_d slices_ContainsFunc_api_Edit_api_Edit_con Tryz.f77 (Tryz.f77.body.getD .skip) Tryz.func77 (by kernel_rfl) (by kernel_rfl) (Nat.le_of_ble_eq_true (by kernel_rfl)) (by kernel_rfl) (And.intro slices_IndexFunc_api_Edit_api_Edit_ok trivial) (by kernel_rfl) (by kernel_rfl)
   trivial
   (fun h => by kernel_rfl)
noncomputable def stack_Away_con : Con := ⟨35, [.v ty74, .v iT, .v iT], [ty74, iT, iT], ⟨[.v .bool], []⟩, [.bool], fun h => Pw.stack_Away h.1 h.2.1 h.2.2⟩
noncomputable def stack_Away_d : FnD where
 N := 11
 np := 3
 cs := [slices_ContainsFunc_api_Edit_api_Edit_con]
 ds := []
 modes := [(77, [false, false])]
 ro := [false]
theorem stack_Away_ok : Con.OK Tryz.prog stack_Away_con :=
 con_of tabOk mixedOk stack_Away_d stack_Away_con Tryz.f35 (Tryz.f35.body.getD .skip) Tryz.func35 (by kernel_rfl) (by kernel_rfl) (Nat.le_of_ble_eq_true (by kernel_rfl)) (by kernel_rfl) (And.intro slices_ContainsFunc_api_Edit_api_Edit_ok trivial) (by kernel_rfl) (by kernel_rfl)
   trivial
   (fun h => by kernel_rfl)
noncomputable def stack_LayerOf_con : Con := ⟨80, [.v ty83, .v ty74, .v iT], [ty83, ty74, iT], ⟨[.v iT, .v iT], []⟩, [iT, iT], fun h => Pw.stack_LayerOf h.1 h.2.1 h.2.2⟩
noncomputable def stack_LayerOf_d : FnD where
 N := 29
 np := 3
 cs := [slices_Backward_api_Layer_api_Layer_con, duty_View_Person_con, stack_Away_con]
 ds := [⟨0, [sI, .s (.one (.bp 192 0)), .s (.one (.bp 256 0)), .s (.one (.bp 320 0)), .s (.one (.bp 384 0)), .s (.one (.bp 448 0)), .s (.one (.clo 190 [.p [ty70]])), .b (.cell [.d ty63, .d ty53, .d ty27, .d ty75, .d ty30] false), .b (.cell [.d .str, .d ty70, .d ty41] false), .b (.cell [.d iT] false), .b (.cell [.d iT] false), .b (.cell [.d iT] false)], [iT, ty70, ty63, ty53, ty27, ty75, ty30, .str, ty70, ty41, iT, iT, iT], [⟨.normal, [.s (.one (.bp 384 0)), .s (.one (.bp 448 0)), .b (.cell [.d iT] false), .b (.cell [.d iT] false)], [iT, iT]⟩, ⟨.ret, [.s (.one (.bp 384 0)), .s (.one (.bp 448 0)), .b (.cell [.d iT] false), .b (.cell [.d iT] false)], [iT, iT]⟩], fun h => Pw.stack_LayerOf_l0_step h.1 h.2.1 h.2.2.1 h.2.2.2.1 h.2.2.2.2.1 h.2.2.2.2.2.1 h.2.2.2.2.2.2.1 h.2.2.2.2.2.2.2.1 h.2.2.2.2.2.2.2.2.1 h.2.2.2.2.2.2.2.2.2.1 h.2.2.2.2.2.2.2.2.2.2.1 h.2.2.2.2.2.2.2.2.2.2.2.1 h.2.2.2.2.2.2.2.2.2.2.2.2⟩]
 modes := [(35, [false, false, false]), (70, [false, false, false]), (132, [false])]
 keep := [(0, ⟨[3, 4, 5, 6, 7, 13], [192, 256, 320, 384, 448], [], []⟩)]
 keepX := [(0, .normal, ⟨[6, 7], [384, 448], [], []⟩),
   (0, .ret, ⟨[6, 7], [384, 448], [], []⟩)]
 ro := [false, false]
 bw := [(190, ty69)]
theorem bw190_ok : BwOK Tryz.prog 190 (ty69) :=
 bw_con tabOk Tryz.func190 (fn := Tryz.f190) (A0 := bwA Tryz.f190 0) (A1 := bwA Tryz.f190 1) (A2 := bwA Tryz.f190 2) (A3 := bwA Tryz.f190 3) (by kernel_rfl) (by kernel_rfl) (by kernel_rfl) (by kernel_rfl) (by kernel_rfl) (by kernel_rfl) (by kernel_rfl) (by kernel_rfl) (by kernel_rfl) (by kernel_rfl) (by kernel_rfl) ⟨(by kernel_rfl), (by kernel_rfl)⟩
   (fun xs => by kernel_rfl) (fun i => by kernel_rfl) (fun i => by kernel_rfl) (fun xs i => by kernel_rfl) (fun b i => by kernel_rfl)
theorem stack_LayerOf_ok : Con.OK Tryz.prog stack_LayerOf_con :=
 con_of tabOk mixedOk stack_LayerOf_d stack_LayerOf_con Tryz.f80 (Tryz.f80.body.getD .skip) Tryz.func80 (by kernel_rfl) (by kernel_rfl) (Nat.le_of_ble_eq_true (by kernel_rfl)) (by kernel_rfl) (And.intro slices_Backward_api_Layer_api_Layer_ok (And.intro duty_View_Person_ok (And.intro stack_Away_ok trivial))) (by kernel_rfl) (by kernel_rfl)
   (And.intro (fun h => by kernel_rfl) trivial)
   (fun h => by kernel_rfl) (And.intro bw190_ok trivial)
noncomputable def edit_active_con : Con := ⟨95, [.v ty39, .v iT], [ty39, iT], ⟨[.v .bool], []⟩, [.bool], fun h => Pw.edit_active h.1 h.2⟩
noncomputable def edit_active_d : FnD where
 N := 15
 np := 2
 cs := []
 ds := []
 ro := [false]
theorem edit_active_ok : Con.OK Tryz.prog edit_active_con :=
 con_of tabOk mixedOk edit_active_d edit_active_con Tryz.f95 (Tryz.f95.body.getD .skip) Tryz.func95 (by kernel_rfl) (by kernel_rfl) (Nat.le_of_ble_eq_true (by kernel_rfl)) (by kernel_rfl) trivial (by kernel_rfl) (by kernel_rfl)
   trivial
   (fun h => by kernel_rfl)
noncomputable def edit_Fold_con : Con := ⟨48, [.v ty41, .v iT, .v iT], [ty41, iT, iT], ⟨[.v iT], []⟩, [iT], fun h => Pw.edit_Fold h.1 h.2.1 h.2.2⟩
noncomputable def edit_Fold_d : FnD where
 N := 51
 np := 3
 cs := [edit_active_con]
 ds := [⟨0, [sI, sI, .s (.one (.d ty41)), sI, sI], [iT, iT, ty41, iT, iT], [⟨.exit 0, [sI], [iT]⟩], fun h => Pw.edit_Fold_l0_step h.1 h.2.1 h.2.2.1 h.2.2.2.1 h.2.2.2.2⟩]
 modes := [(95, [false, false])]
 keep := [(0, ⟨[1, 2, 9, 10, 11], [], [], []⟩)]
 keepX := [(0, .exit 0, ⟨[1], [], [], []⟩)]
 ro := [false]
theorem edit_Fold_ok : Con.OK Tryz.prog edit_Fold_con :=
 con_of tabOk mixedOk edit_Fold_d edit_Fold_con Tryz.f48 (Tryz.f48.body.getD .skip) Tryz.func48 (by kernel_rfl) (by kernel_rfl) (Nat.le_of_ble_eq_true (by kernel_rfl)) (by kernel_rfl) (And.intro edit_active_ok trivial) (by kernel_rfl) (by kernel_rfl)
   (And.intro (fun h => by kernel_rfl) trivial)
   (fun h => by kernel_rfl)
noncomputable def edit_WhoOf_con : Con := ⟨94, [.v ty83, .v ty74, .v iT], [ty83, ty74, iT], ⟨[.v iT], []⟩, [iT], fun h => Pw.edit_WhoOf h.1 h.2.1 h.2.2⟩
noncomputable def edit_WhoOf_d : FnD where
 N := 27
 np := 3
 cs := [stack_LayerOf_con, edit_Fold_con]
 ds := []
 modes := [(48, [false, false, false]), (80, [false, false, false])]
 ro := [false]
theorem edit_WhoOf_ok : Con.OK Tryz.prog edit_WhoOf_con :=
 con_of tabOk mixedOk edit_WhoOf_d edit_WhoOf_con Tryz.f94 (Tryz.f94.body.getD .skip) Tryz.func94 (by kernel_rfl) (by kernel_rfl) (Nat.le_of_ble_eq_true (by kernel_rfl)) (by kernel_rfl) (And.intro stack_LayerOf_ok (And.intro edit_Fold_ok trivial)) (by kernel_rfl) (by kernel_rfl)
   trivial
   (fun h => by kernel_rfl)
noncomputable def edit_Who_con : Con := ⟨47, [.v ty81, .v iT, .v iT], [ty81, iT, iT], ⟨[.v iT], []⟩, [iT], fun h => Pw.edit_Who h.1 h.2.1 h.2.2⟩
noncomputable def edit_Who_d : FnD where
 N := 30
 np := 3
 cs := [stack_Index_con, duty_Of_con, edit_WhoOf_con]
 ds := []
 modes := [(92, [false]), (93, [false, false]), (94, [false, false, false])]
 ro := [false]
theorem edit_Who_ok : Con.OK Tryz.prog edit_Who_con :=
 con_of tabOk mixedOk edit_Who_d edit_Who_con Tryz.f47 (Tryz.f47.body.getD .skip) Tryz.func47 (by kernel_rfl) (by kernel_rfl) (Nat.le_of_ble_eq_true (by kernel_rfl)) (by kernel_rfl) (And.intro stack_Index_ok (And.intro duty_Of_ok (And.intro edit_WhoOf_ok trivial))) (by kernel_rfl) (by kernel_rfl)
   trivial
   (fun h => by kernel_rfl)
noncomputable def roster_Who_con : Con := ⟨107, [.v ty81, .v iT, .v iT], [ty81, iT, iT], ⟨[.v iT], []⟩, [iT], fun h => Pw.roster_Who h.1 h.2.1 h.2.2⟩
noncomputable def roster_Who_d : FnD where
 N := 11
 np := 3
 cs := [edit_Who_con]
 ds := []
 modes := [(47, [false, false, false])]
 ro := [false]
theorem roster_Who_ok : Con.OK Tryz.prog roster_Who_con :=
 con_of tabOk mixedOk roster_Who_d roster_Who_con Tryz.f107 (Tryz.f107.body.getD .skip) Tryz.func107 (by kernel_rfl) (by kernel_rfl) (Nat.le_of_ble_eq_true (by kernel_rfl)) (by kernel_rfl) (And.intro edit_Who_ok trivial) (by kernel_rfl) (by kernel_rfl)
   trivial
   (fun h => by kernel_rfl)
noncomputable def cycle_Far_con : Con := ⟨56, [.v ty81, .v iT, .v iT], [ty81, iT, iT], ⟨[.v iT, .v iT], []⟩, [iT, iT], fun h => Pw.cycle_Far h.1 h.2.1 h.2.2⟩
noncomputable def cycle_Far_d : FnD where
 N := 23
 np := 3
 cs := [cycle_Reduce_con, roster_Who_con]
 ds := []
 modes := [(55, [false, false, false]), (107, [false, false, false])]
 ro := [false, false]
theorem cycle_Far_ok : Con.OK Tryz.prog cycle_Far_con :=
 con_of tabOk mixedOk cycle_Far_d cycle_Far_con Tryz.f56 (Tryz.f56.body.getD .skip) Tryz.func56 (by kernel_rfl) (by kernel_rfl) (Nat.le_of_ble_eq_true (by kernel_rfl)) (by kernel_rfl) (And.intro cycle_Reduce_ok (And.intro roster_Who_ok trivial)) (by kernel_rfl) (by kernel_rfl)
   trivial
   (fun h => by kernel_rfl)
noncomputable def law16_sane_con : Con := ⟨50, [], [], ⟨[.v .bool], []⟩, [.bool], fun h => Pw.law16_sane⟩
noncomputable def law16_sane_d : FnD where
 N := 85
 np := 0
 cs := [cycle_Layer_con, cycle_Period_con, cycle_Reduce_con, cycle_Far_con]
 ds := []
 modes := [(51, [false, false]), (52, [false]), (55, [false, false, false]), (56, [false, false, false])]
 ro := [false]
theorem law16_sane_ok : Con.OK Tryz.prog law16_sane_con :=
 con_of tabOk mixedOk law16_sane_d law16_sane_con Tryz.f50 (Tryz.f50.body.getD .skip) Tryz.func50 (by kernel_rfl) (by kernel_rfl) (Nat.le_of_ble_eq_true (by kernel_rfl)) (by kernel_rfl) (And.intro cycle_Layer_ok (And.intro cycle_Period_ok (And.intro cycle_Reduce_ok (And.intro cycle_Far_ok trivial)))) (by kernel_rfl) (by kernel_rfl)
   trivial
   (fun h => by kernel_rfl)
noncomputable def made_Roll_con : Con := ⟨19, [.v (.list iT)], [(.list iT)], ⟨[.box [(.list iT), iT]], []⟩, [(.list iT), iT], fun h => Pw.made_Roll h⟩
noncomputable def made_Roll_d : FnD where
 N := 6
 np := 1
 cs := []
 ds := []
 ro := [false]
theorem made_Roll_ok : Con.OK Tryz.prog made_Roll_con :=
 con_of tabOk mixedOk made_Roll_d made_Roll_con Tryz.f19 (Tryz.f19.body.getD .skip) Tryz.func19 (by kernel_rfl) (by kernel_rfl) (Nat.le_of_ble_eq_true (by kernel_rfl)) (by kernel_rfl) trivial (by kernel_rfl) (by kernel_rfl)
   trivial
   (fun h => by kernel_rfl)
noncomputable def made_Dice_Next_con : Con := ⟨33, [.ref [(.list iT), iT], .v iT], [(.list iT), iT, iT], ⟨[.v iT], [.ref [(.list iT), iT]]⟩, [iT, (.list iT), iT], fun h => Pw.made_Dice_Next h.1 h.2.1 h.2.2⟩
noncomputable def made_Dice_Next_d : FnD where
 N := 45
 np := 2
 cs := []
 ds := []
 ro := [false]
theorem made_Dice_Next_ok : Con.OK Tryz.prog made_Dice_Next_con :=
 con_of tabOk mixedOk made_Dice_Next_d made_Dice_Next_con Tryz.f33 (Tryz.f33.body.getD .skip) Tryz.func33 (by kernel_rfl) (by kernel_rfl) (Nat.le_of_ble_eq_true (by kernel_rfl)) (by kernel_rfl) trivial (by kernel_rfl) (by kernel_rfl)
   trivial
   (fun h => by kernel_rfl)
noncomputable def made_Dice_Pick_con : Con := ⟨39, [.ref [(.list iT), iT], .v (.list iT)], [(.list iT), iT, (.list iT)], ⟨[.v iT], [.ref [(.list iT), iT]]⟩, [iT, (.list iT), iT], fun h => Pw.made_Dice_Pick h.1 h.2.1 h.2.2⟩
noncomputable def made_Dice_Pick_d : FnD where
 N := 12
 np := 2
 cs := [made_Dice_Next_con]
 ds := []
 modes := [(33, [false, false])]
 ro := [false]
theorem made_Dice_Pick_ok : Con.OK Tryz.prog made_Dice_Pick_con :=
 con_of tabOk mixedOk made_Dice_Pick_d made_Dice_Pick_con Tryz.f39 (Tryz.f39.body.getD .skip) Tryz.func39 (by kernel_rfl) (by kernel_rfl) (Nat.le_of_ble_eq_true (by kernel_rfl)) (by kernel_rfl) (And.intro made_Dice_Next_ok trivial) (by kernel_rfl) (by kernel_rfl)
   trivial
   (fun h => by kernel_rfl)
noncomputable def made_Dice_Zone_con : Con := ⟨118, [.ref [(.list iT), iT], .v .str], [(.list iT), iT, .str], ⟨[.v ty62], [.ref [(.list iT), iT]]⟩, [ty62, (.list iT), iT], fun h => Pw.made_Dice_Zone h.1 h.2.1 h.2.2⟩
noncomputable def made_Dice_Zone_d : FnD where
 N := 98
 np := 2
 cs := [made_Dice_Next_con, made_Dice_Pick_con]
 ds := []
 modes := [(33, [false, false]), (39, [false, false])]
 ro := [false]
 dw := [(7, [[], [], [0], [], [], [0], [], [0], [], [], [], [], [0], [], [], [], [], [], [], [0], [], [], [3968], [0, 3968], [], [0], [], [0], [], [], [], [], [4608], [], [320]]), (9, [[], [], [], [5056], [0, 5056], [], []])]
theorem made_Dice_Zone_ok : Con.OK Tryz.prog made_Dice_Zone_con :=
 con_of tabOk mixedOk made_Dice_Zone_d made_Dice_Zone_con Tryz.f118 (Tryz.f118.body.getD .skip) Tryz.func118 (by kernel_rfl) (by kernel_rfl) (Nat.le_of_ble_eq_true (by kernel_rfl)) (by kernel_rfl) (And.intro made_Dice_Next_ok (And.intro made_Dice_Pick_ok trivial)) (by kernel_rfl) (by kernel_rfl)
   trivial
   (fun h => by kernel_rfl)
noncomputable def made_names_con : Con := ⟨62, [], [], ⟨[.own 9 (.list .str)], []⟩, [(.list .str)], fun h => Pw.made_names⟩
noncomputable def made_names_d : FnD where
 N := 2
 np := 0
 cs := []
 ds := []
 ro := [true]
theorem made_names_ok : Con.OK Tryz.prog made_names_con :=
 con_of tabOk mixedOk made_names_d made_names_con Tryz.f62 (Tryz.f62.body.getD .skip) Tryz.func62 (by kernel_rfl) (by kernel_rfl) (Nat.le_of_ble_eq_true (by kernel_rfl)) (by kernel_rfl) trivial (by kernel_rfl) (by kernel_rfl)
   trivial
   (fun h => by kernel_rfl)
noncomputable def made_Dice_Bool_con : Con := ⟨63, [.ref [(.list iT), iT], .v iT], [(.list iT), iT, iT], ⟨[.v .bool], [.ref [(.list iT), iT]]⟩, [.bool, (.list iT), iT], fun h => Pw.made_Dice_Bool h.1 h.2.1 h.2.2⟩
noncomputable def made_Dice_Bool_d : FnD where
 N := 11
 np := 2
 cs := [made_Dice_Next_con]
 ds := []
 modes := [(33, [false, false])]
 ro := [false]
theorem made_Dice_Bool_ok : Con.OK Tryz.prog made_Dice_Bool_con :=
 con_of tabOk mixedOk made_Dice_Bool_d made_Dice_Bool_con Tryz.f63 (Tryz.f63.body.getD .skip) Tryz.func63 (by kernel_rfl) (by kernel_rfl) (Nat.le_of_ble_eq_true (by kernel_rfl)) (by kernel_rfl) (And.intro made_Dice_Next_ok trivial) (by kernel_rfl) (by kernel_rfl)
   trivial
   (fun h => by kernel_rfl)
noncomputable def made_Dice_Windows_con : Con := ⟨64, [.ref [(.list iT), iT]], [(.list iT), iT], ⟨[.own 92 ty13], [.ref [(.list iT), iT]]⟩, [ty13, (.list iT), iT], fun h => Pw.made_Dice_Windows h.1 h.2⟩
noncomputable def made_Dice_Windows_d : FnD where
 N := 38
 np := 1
 cs := [made_Dice_Next_con, made_Dice_Pick_con]
 ds := [⟨0, [.s (.one (.bp 0 0)), .s (.one (.ol 1000000)), sI, sI, .b (.cell [.d (.list iT), .d iT] false), .b (.lst 92 ty8 false)], [iT, iT, (.list iT), iT, ty13], [⟨.exit 0, [.s (.one (.ol 1500100)), .b (.cell [.d (.list iT), .d iT] false), .b (.lst 92 ty8 false)], [(.list iT), iT, ty13]⟩], fun h => Pw.made_Dice_Windows_l0_step h.1 h.2.1 h.2.2.1 h.2.2.2.1 h.2.2.2.2⟩]
 modes := [(33, [false, false]), (39, [false, false])]
 keep := [(0, ⟨[0, 3, 4, 5], [0], [⟨1000000, 92, ty8, [.slot 3], false⟩], []⟩)]
 keepX := [(0, .exit 0, ⟨[3], [0], [⟨1500100, 92, ty8, [.slot 3], false⟩], []⟩)]
 ro := [true]
theorem made_Dice_Windows_ok : Con.OK Tryz.prog made_Dice_Windows_con :=
 con_of tabOk mixedOk made_Dice_Windows_d made_Dice_Windows_con Tryz.f64 (Tryz.f64.body.getD .skip) Tryz.func64 (by kernel_rfl) (by kernel_rfl) (Nat.le_of_ble_eq_true (by kernel_rfl)) (by kernel_rfl) (And.intro made_Dice_Next_ok (And.intro made_Dice_Pick_ok trivial)) (by kernel_rfl) (by kernel_rfl)
   (And.intro (fun h => by kernel_rfl) trivial)
   (fun h => by kernel_rfl)
noncomputable def made_Dice_Staff_con : Con := ⟨61, [.ref [(.list iT), iT]], [(.list iT), iT], ⟨[.vn ty81 [3]], [.ref [(.list iT), iT]]⟩, [ty81, (.list iT), iT], fun h => Pw.made_Dice_Staff h.1 h.2⟩
noncomputable def made_Dice_Staff_d : FnD where
 N := 109
 np := 1
 cs := [made_Dice_Next_con, made_Dice_Pick_con, made_Dice_Zone_con, made_names_con, made_Dice_Bool_con, made_Dice_Windows_con]
 ds := [⟨0, [.s (.one (.bp 0 0)), .s (.one (.bp 128 0)), .s (.one (.bp 192 0)), sI, .b (.cell [.d (.list iT), .d iT] false), .b (.cell [.nil, .nil, .nil, .nil] false), .b (.cell [.ol 1000000, .nil, .nil, .nil] false), .b (.lst 88 ty62 false)], [iT, (.list iT), iT, ty63], [⟨.exit 0, [.s (.one (.bp 0 0)), .s (.one (.bp 128 0)), .s (.one (.bp 192 0)), .b (.cell [.d (.list iT), .d iT] false), .b (.cell [.nil, .nil, .nil, .nil] false), .b (.cell [.ol 1500100, .nil, .nil, .nil] false), .b (.lst 88 ty62 false)], [(.list iT), iT, ty63]⟩], fun h => Pw.made_Dice_Staff_l0_step h.1 h.2.1 h.2.2.1 h.2.2.2⟩,
   ⟨2, [.s (.one (.bp 0 0)), .s (.one (.bp 128 0)), .s (.one (.bp 192 0)), sI, .b (.cell [.d (.list iT), .d iT] false), .b (.cell [.nil, .nil, .nil, .nil] false), .b (.cell [.ol 1002000, .ol 1002001, .nil, .nil] false), .b (.lst 88 ty62 false), .b (.lst 90 ty50 false)], [iT, (.list iT), iT, ty63, ty53], [⟨.exit 2, [.s (.one (.bp 0 0)), .s (.one (.bp 128 0)), .s (.one (.bp 192 0)), .b (.cell [.d (.list iT), .d iT] false), .b (.cell [.nil, .nil, .nil, .nil] false), .b (.cell [.ol 1502300, .ol 1502301, .nil, .nil] false), .b (.lst 88 ty62 false), .b (.lst 90 ty50 false)], [(.list iT), iT, ty63, ty53]⟩], fun h => Pw.made_Dice_Staff_l2_step h.1 h.2.1 h.2.2.1 h.2.2.2.1 h.2.2.2.2⟩,
   ⟨4, [.s (.one (.bp 0 0)), .s (.one (.bp 128 0)), .s (.one (.bp 192 0)), sI, .b (.cell [.d (.list iT), .d iT] false), .b (.cell [.nil, .nil, .nil, .nil] false), .b (.cell [.ol 1004000, .ol 1004001, .ol 1004002, .nil] false), .b (.lst 88 ty62 false), .b (.lst 90 ty50 false), .b (.lst 131 ty23 false)], [iT, (.list iT), iT, ty63, ty53, ty27], [⟨.exit 4, [.s (.one (.bp 128 0)), .s (.one (.bp 192 0)), .b (.cell [.d (.list iT), .d iT] false), .b (.cell [.nil, .nil, .nil, .nil] false), .b (.cell [.ol 1504500, .ol 1504501, .ol 1504502, .nil] false), .b (.lst 88 ty62 false), .b (.lst 90 ty50 false), .b (.lst 131 ty23 false)], [(.list iT), iT, ty63, ty53, ty27]⟩], fun h => Pw.made_Dice_Staff_l4_step h.1 h.2.1 h.2.2.1 h.2.2.2.1 h.2.2.2.2.1 h.2.2.2.2.2⟩,
   ⟨6, [.s (.one (.bp 0 0)), .s (.one (.bp 128 0)), .s (.one (.bp 192 0)), sI, .s (.one (.bp 512 0)), sI, sI, .b (.cell [.d (.list iT), .d iT] false), .b (.cell [.nil, .nil, .nil, .nil] false), .b (.cell [.ol 1006000, .ol 1006001, .ol 1006002, .nil] false), .b (.cell [.d .str, .d iT, .ol 1006003] false), .b (.lst 88 ty62 false), .b (.lst 90 ty50 false), .b (.lst 131 ty23 false), .b (.lst 3 iT false)], [iT, iT, iT, (.list iT), iT, .str, iT, ty63, ty53, ty27, (.list iT)], [⟨.exit 6, [.s (.one (.bp 0 0)), .s (.one (.bp 128 0)), .s (.one (.bp 192 0)), sI, .s (.one (.bp 512 0)), .b (.cell [.d (.list iT), .d iT] false), .b (.cell [.nil, .nil, .nil, .nil] false), .b (.cell [.ol 1506700, .ol 1506701, .ol 1506702, .nil] false), .b (.cell [.d .str, .d iT, .ol 1506703] false), .b (.lst 88 ty62 false), .b (.lst 90 ty50 false), .b (.lst 131 ty23 false), .b (.lst 3 iT false)], [iT, (.list iT), iT, .str, iT, ty63, ty53, ty27, (.list iT)]⟩], fun h => Pw.made_Dice_Staff_l6_step h.1 h.2.1 h.2.2.1 h.2.2.2.1 h.2.2.2.2.1 h.2.2.2.2.2.1 h.2.2.2.2.2.2.1 h.2.2.2.2.2.2.2.1 h.2.2.2.2.2.2.2.2.1 h.2.2.2.2.2.2.2.2.2.1 h.2.2.2.2.2.2.2.2.2.2⟩]
 modes := [(33, [false, false]), (39, [false, false]), (62, []), (63, [false, false]), (64, [false]), (118, [false, false])]
 keep := [(0, ⟨[0, 2, 3, 4], [0, 128, 192], [⟨1000000, 88, ty62, [.cell 192 0], false⟩], []⟩),
   (2, ⟨[0, 2, 3, 5], [0, 128, 192], [⟨1002000, 88, ty62, [.cell 192 0], false⟩, ⟨1002001, 90, ty50, [.cell 192 1], false⟩], []⟩),
   (4, ⟨[0, 2, 3, 7], [0, 128, 192], [⟨1004000, 88, ty62, [.cell 192 0], false⟩, ⟨1004001, 90, ty50, [.cell 192 1], false⟩, ⟨1004002, 131, ty23, [.cell 192 2], false⟩], []⟩),
   (6, ⟨[0, 2, 3, 7, 8, 9, 10], [0, 128, 192, 512], [⟨1006000, 88, ty62, [.cell 192 0], false⟩, ⟨1006001, 90, ty50, [.cell 192 1], false⟩, ⟨1006002, 131, ty23, [.cell 192 2], false⟩, ⟨1006003, 3, iT, [.cell 512 2], false⟩], []⟩)]
 keepX := [(0, .exit 0, ⟨[0, 2, 3], [0, 128, 192], [⟨1500100, 88, ty62, [.cell 192 0], false⟩], []⟩),
   (2, .exit 2, ⟨[0, 2, 3], [0, 128, 192], [⟨1502300, 88, ty62, [.cell 192 0], false⟩, ⟨1502301, 90, ty50, [.cell 192 1], false⟩], []⟩),
   (4, .exit 4, ⟨[2, 3], [0, 128, 192], [⟨1504500, 88, ty62, [.cell 192 0], false⟩, ⟨1504501, 90, ty50, [.cell 192 1], false⟩, ⟨1504502, 131, ty23, [.cell 192 2], false⟩], []⟩),
   (6, .exit 6, ⟨[0, 2, 3, 7, 8], [0, 128, 192, 512], [⟨1506700, 88, ty62, [.cell 192 0], false⟩, ⟨1506701, 90, ty50, [.cell 192 1], false⟩, ⟨1506702, 131, ty23, [.cell 192 2], false⟩, ⟨1506703, 3, iT, [.cell 512 2], false⟩], []⟩)]
 ro := [false]
 dw := [(5, [[], [], [], [1344], [], [], [], [], [], [0], [1792], [1856, 1000000], [], [192]]), (9, [[2432], [], [], [], [], [], [], [], [], [], [0], [], [0], [], [384], [384]])]
 ns := [3]
theorem made_Dice_Staff_ok : Con.OK Tryz.prog made_Dice_Staff_con :=
 con_of tabOk mixedOk made_Dice_Staff_d made_Dice_Staff_con Tryz.f61 (Tryz.f61.body.getD .skip) Tryz.func61 (by kernel_rfl) (by kernel_rfl) (Nat.le_of_ble_eq_true (by kernel_rfl)) (by kernel_rfl) (And.intro made_Dice_Next_ok (And.intro made_Dice_Pick_ok (And.intro made_Dice_Zone_ok (And.intro made_names_ok (And.intro made_Dice_Bool_ok (And.intro made_Dice_Windows_ok trivial)))))) (by kernel_rfl) (by kernel_rfl)
   (And.intro (fun h => by kernel_rfl) (And.intro (fun h => by kernel_rfl) (And.intro (fun h => by kernel_rfl) (And.intro (fun h => by kernel_rfl) trivial))))
   (fun h => by kernel_rfl)
noncomputable def made_Dice_Layer_con : Con := ⟨21, [.ref [(.list iT), iT], .v ty81, .v .str], [(.list iT), iT, ty81, .str], ⟨[.v ty69], [.ref [(.list iT), iT]]⟩, [ty69, (.list iT), iT], fun h => Pw.made_Dice_Layer h.1 h.2.1 h.2.2.1 h.2.2.2⟩
noncomputable def made_Dice_Layer_d : FnD where
 N := 77
 np := 3
 cs := [made_Dice_Next_con, made_Dice_Pick_con, made_Dice_Bool_con, made_Dice_Windows_con]
 ds := [⟨0, [.s (.one (.bp 0 0)), .s (.one (.bp 256 0)), .s (.one (.bp 384 0)), .s (.one (.bp 448 0)), sI, .b (.cell [.d (.list iT), .d iT] false), .b (.cell [.d ty63, .d ty53, .d ty27, .d ty75] false), .b (.cell [.d .str, .d iT, .d iT, .d iT, .d iT, .d iT, .nil, .nil, .d iT, .d iT] false), .b (.cell [.d .str, .d iT, .d iT, .d iT, .d iT, .d iT, .ol 1000000, .nil, .d iT, .d iT] false), .b (.lst 3 iT false)], [iT, (.list iT), iT, ty63, ty53, ty27, ty75, .str, iT, iT, iT, iT, iT, iT, iT, .str, iT, iT, iT, iT, iT, iT, iT, (.list iT)], [⟨.exit 0, [.s (.one (.bp 0 0)), .s (.one (.bp 256 0)), .s (.one (.bp 384 0)), .s (.one (.bp 448 0)), .b (.cell [.d (.list iT), .d iT] false), .b (.cell [.d ty63, .d ty53, .d ty27, .d ty75] false), .b (.cell [.d .str, .d iT, .d iT, .d iT, .d iT, .d iT, .nil, .nil, .d iT, .d iT] false), .b (.cell [.d .str, .d iT, .d iT, .d iT, .d iT, .d iT, .ol 1500100, .nil, .d iT, .d iT] false), .b (.lst 3 iT false)], [(.list iT), iT, ty63, ty53, ty27, ty75, .str, iT, iT, iT, iT, iT, iT, iT, .str, iT, iT, iT, iT, iT, iT, iT, (.list iT)]⟩], fun h => Pw.made_Dice_Layer_l0_step h.1 h.2.1 h.2.2.1 h.2.2.2.1 h.2.2.2.2.1 h.2.2.2.2.2.1 h.2.2.2.2.2.2.1 h.2.2.2.2.2.2.2.1 h.2.2.2.2.2.2.2.2.1 h.2.2.2.2.2.2.2.2.2.1 h.2.2.2.2.2.2.2.2.2.2.1 h.2.2.2.2.2.2.2.2.2.2.2.1 h.2.2.2.2.2.2.2.2.2.2.2.2.1 h.2.2.2.2.2.2.2.2.2.2.2.2.2.1 h.2.2.2.2.2.2.2.2.2.2.2.2.2.2.1 h.2.2.2.2.2.2.2.2.2.2.2.2.2.2.2.1 h.2.2.2.2.2.2.2.2.2.2.2.2.2.2.2.2.1 h.2.2.2.2.2.2.2.2.2.2.2.2.2.2.2.2.2.1 h.2.2.2.2.2.2.2.2.2.2.2.2.2.2.2.2.2.2.1 h.2.2.2.2.2.2.2.2.2.2.2.2.2.2.2.2.2.2.2.1 h.2.2.2.2.2.2.2.2.2.2.2.2.2.2.2.2.2.2.2.2.1 h.2.2.2.2.2.2.2.2.2.2.2.2.2.2.2.2.2.2.2.2.2.1 h.2.2.2.2.2.2.2.2.2.2.2.2.2.2.2.2.2.2.2.2.2.2.1 h.2.2.2.2.2.2.2.2.2.2.2.2.2.2.2.2.2.2.2.2.2.2.2⟩]
 modes := [(33, [false, false]), (39, [false, false]), (63, [false, false]), (64, [false])]
 keep := [(0, ⟨[0, 4, 6, 7, 8], [0, 256, 384, 448], [⟨1000000, 3, iT, [.cell 448 6], false⟩], []⟩)]
 keepX := [(0, .exit 0, ⟨[0, 4, 6, 7], [0, 256, 384, 448], [⟨1500100, 3, iT, [.cell 448 6], false⟩], []⟩)]
 ro := [false]
 dw := [(7, [[], [], [], [], [], [], [0], [3200], [3264, 1000000], [], [448]])]
theorem made_Dice_Layer_ok : Con.OK Tryz.prog made_Dice_Layer_con :=
 con_of tabOk mixedOk made_Dice_Layer_d made_Dice_Layer_con Tryz.f21 (Tryz.f21.body.getD .skip) Tryz.func21 (by kernel_rfl) (by kernel_rfl) (Nat.le_of_ble_eq_true (by kernel_rfl)) (by kernel_rfl) (And.intro made_Dice_Next_ok (And.intro made_Dice_Pick_ok (And.intro made_Dice_Bool_ok (And.intro made_Dice_Windows_ok trivial)))) (by kernel_rfl) (by kernel_rfl)
   (And.intro (fun h => by kernel_rfl) trivial)
   (fun h => by kernel_rfl)
noncomputable def made_Dice_Instant_con : Con := ⟨22, [.ref [(.list iT), iT]], [(.list iT), iT], ⟨[.v iT], [.ref [(.list iT), iT]]⟩, [iT, (.list iT), iT], fun h => Pw.made_Dice_Instant h.1 h.2⟩
noncomputable def made_Dice_Instant_d : FnD where
 N := 16
 np := 1
 cs := [made_Dice_Next_con, made_Dice_Pick_con, made_Dice_Bool_con]
 ds := []
 modes := [(33, [false, false]), (39, [false, false]), (63, [false, false])]
 ro := [false]
theorem made_Dice_Instant_ok : Con.OK Tryz.prog made_Dice_Instant_con :=
 con_of tabOk mixedOk made_Dice_Instant_d made_Dice_Instant_con Tryz.f22 (Tryz.f22.body.getD .skip) Tryz.func22 (by kernel_rfl) (by kernel_rfl) (Nat.le_of_ble_eq_true (by kernel_rfl)) (by kernel_rfl) (And.intro made_Dice_Next_ok (And.intro made_Dice_Pick_ok (And.intro made_Dice_Bool_ok trivial))) (by kernel_rfl) (by kernel_rfl)
   trivial
   (fun h => by kernel_rfl)
end Go.Proofs.Pk
