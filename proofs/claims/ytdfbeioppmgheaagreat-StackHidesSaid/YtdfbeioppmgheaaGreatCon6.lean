/- Contracts: each given function is its plain function, printed by a program. -/
import Derived.Test.YtdfbeioppmgheaaGreatCon5
open Go Go.Lft
set_option linter.unusedVariables false
set_option maxRecDepth 100000
namespace Go.Proofs.Pk
noncomputable def made_Roll_con : Con := ⟨19, [.v (.list iT)], [(.list iT)], ⟨[.box [(.list iT), iT]], []⟩, [(.list iT), iT], fun h => Pw.made_Roll h⟩
noncomputable def made_Roll_d : FnD where
 N := 6
 np := 1
 cs := []
 ds := []
 ro := [false]
theorem made_Roll_ok : Con.OK Tryz.prog made_Roll_con :=
 con_of tabOk mixedOk made_Roll_d made_Roll_con Tryz.f19 (Tryz.f19.body.getD .skip) Tryz.func19 (by kernel_rfl) (by kernel_rfl) (Nat.le_of_ble_eq_true (by kernel_rfl)) (by kernel_rfl) trivial (by kernel_rfl) (by kernel_rfl)
   trivial
   (fun h => by kernel_rfl)
noncomputable def made_Dice_Next_con : Con := ⟨33, [.ref [(.list iT), iT], .v iT], [(.list iT), iT, iT], ⟨[.v iT], [.ref [(.list iT), iT]]⟩, [iT, (.list iT), iT], fun h => Pw.made_Dice_Next h.1 h.2.1 h.2.2⟩
noncomputable def made_Dice_Next_d : FnD where
 N := 45
 np := 2
 cs := []
 ds := []
 ro := [false]
theorem made_Dice_Next_ok : Con.OK Tryz.prog made_Dice_Next_con :=
 con_of tabOk mixedOk made_Dice_Next_d made_Dice_Next_con Tryz.f33 (Tryz.f33.body.getD .skip) Tryz.func33 (by kernel_rfl) (by kernel_rfl) (Nat.le_of_ble_eq_true (by kernel_rfl)) (by kernel_rfl) trivial (by kernel_rfl) (by kernel_rfl)
   trivial
   (fun h => by kernel_rfl)
noncomputable def made_Dice_Pick_con : Con := ⟨39, [.ref [(.list iT), iT], .v (.list iT)], [(.list iT), iT, (.list iT)], ⟨[.v iT], [.ref [(.list iT), iT]]⟩, [iT, (.list iT), iT], fun h => Pw.made_Dice_Pick h.1 h.2.1 h.2.2⟩
noncomputable def made_Dice_Pick_d : FnD where
 N := 12
 np := 2
 cs := [made_Dice_Next_con]
 ds := []
 modes := [(33, [false, false])]
 ro := [false]
theorem made_Dice_Pick_ok : Con.OK Tryz.prog made_Dice_Pick_con :=
 con_of tabOk mixedOk made_Dice_Pick_d made_Dice_Pick_con Tryz.f39 (Tryz.f39.body.getD .skip) Tryz.func39 (by kernel_rfl) (by kernel_rfl) (Nat.le_of_ble_eq_true (by kernel_rfl)) (by kernel_rfl) (And.intro made_Dice_Next_ok trivial) (by kernel_rfl) (by kernel_rfl)
   trivial
   (fun h => by kernel_rfl)
noncomputable def made_Dice_Zone_con : Con := ⟨118, [.ref [(.list iT), iT], .v .str], [(.list iT), iT, .str], ⟨[.v ty62], [.ref [(.list iT), iT]]⟩, [ty62, (.list iT), iT], fun h => Pw.made_Dice_Zone h.1 h.2.1 h.2.2⟩
noncomputable def made_Dice_Zone_d : FnD where
 N := 98
 np := 2
 cs := [made_Dice_Next_con, made_Dice_Pick_con]
 ds := []
 modes := [(33, [false, false]), (39, [false, false])]
 ro := [false]
 dw := [(7, [[], [], [0], [], [], [0], [], [0], [], [], [], [], [0], [], [], [], [], [], [], [0], [], [], [3968], [0, 3968], [], [0], [], [0], [], [], [], [], [4608], [], [320]]), (9, [[], [], [], [5056], [0, 5056], [], []])]
theorem made_Dice_Zone_ok : Con.OK Tryz.prog made_Dice_Zone_con :=
 con_of tabOk mixedOk made_Dice_Zone_d made_Dice_Zone_con Tryz.f118 (Tryz.f118.body.getD .skip) Tryz.func118 (by kernel_rfl) (by kernel_rfl) (Nat.le_of_ble_eq_true (by kernel_rfl)) (by kernel_rfl) (And.intro made_Dice_Next_ok (And.intro made_Dice_Pick_ok trivial)) (by kernel_rfl) (by kernel_rfl)
   trivial
   (fun h => by kernel_rfl)
noncomputable def made_names_con : Con := ⟨62, [], [], ⟨[.own 9 (.list .str)], []⟩, [(.list .str)], fun h => Pw.made_names⟩
noncomputable def made_names_d : FnD where
 N := 2
 np := 0
 cs := []
 ds := []
 ro := [true]
theorem made_names_ok : Con.OK Tryz.prog made_names_con :=
 con_of tabOk mixedOk made_names_d made_names_con Tryz.f62 (Tryz.f62.body.getD .skip) Tryz.func62 (by kernel_rfl) (by kernel_rfl) (Nat.le_of_ble_eq_true (by kernel_rfl)) (by kernel_rfl) trivial (by kernel_rfl) (by kernel_rfl)
   trivial
   (fun h => by kernel_rfl)
noncomputable def made_Dice_Bool_con : Con := ⟨63, [.ref [(.list iT), iT], .v iT], [(.list iT), iT, iT], ⟨[.v .bool], [.ref [(.list iT), iT]]⟩, [.bool, (.list iT), iT], fun h => Pw.made_Dice_Bool h.1 h.2.1 h.2.2⟩
noncomputable def made_Dice_Bool_d : FnD where
 N := 11
 np := 2
 cs := [made_Dice_Next_con]
 ds := []
 modes := [(33, [false, false])]
 ro := [false]
theorem made_Dice_Bool_ok : Con.OK Tryz.prog made_Dice_Bool_con :=
 con_of tabOk mixedOk made_Dice_Bool_d made_Dice_Bool_con Tryz.f63 (Tryz.f63.body.getD .skip) Tryz.func63 (by kernel_rfl) (by kernel_rfl) (Nat.le_of_ble_eq_true (by kernel_rfl)) (by kernel_rfl) (And.intro made_Dice_Next_ok trivial) (by kernel_rfl) (by kernel_rfl)
   trivial
   (fun h => by kernel_rfl)
noncomputable def made_Dice_Windows_con : Con := ⟨64, [.ref [(.list iT), iT]], [(.list iT), iT], ⟨[.own 92 ty13], [.ref [(.list iT), iT]]⟩, [ty13, (.list iT), iT], fun h => Pw.made_Dice_Windows h.1 h.2⟩
noncomputable def made_Dice_Windows_d : FnD where
 N := 38
 np := 1
 cs := [made_Dice_Next_con, made_Dice_Pick_con]
 ds := [⟨0, [.s (.one (.bp 0 0)), .s (.one (.ol 1000000)), sI, sI, .b (.cell [.d (.list iT), .d iT] false), .b (.lst 92 ty8 false)], [iT, iT, (.list iT), iT, ty13], [⟨.exit 0, [.s (.one (.ol 1500100)), .b (.cell [.d (.list iT), .d iT] false), .b (.lst 92 ty8 false)], [(.list iT), iT, ty13]⟩], fun h => Pw.made_Dice_Windows_l0_step h.1 h.2.1 h.2.2.1 h.2.2.2.1 h.2.2.2.2⟩]
 modes := [(33, [false, false]), (39, [false, false])]
 keep := [(0, ⟨[0, 3, 4, 5], [0], [⟨1000000, 92, ty8, [.slot 3], false⟩], []⟩)]
 keepX := [(0, .exit 0, ⟨[3], [0], [⟨1500100, 92, ty8, [.slot 3], false⟩], []⟩)]
 ro := [true]
theorem made_Dice_Windows_ok : Con.OK Tryz.prog made_Dice_Windows_con :=
 con_of tabOk mixedOk made_Dice_Windows_d made_Dice_Windows_con Tryz.f64 (Tryz.f64.body.getD .skip) Tryz.func64 (by kernel_rfl) (by kernel_rfl) (Nat.le_of_ble_eq_true (by kernel_rfl)) (by kernel_rfl) (And.intro made_Dice_Next_ok (And.intro made_Dice_Pick_ok trivial)) (by kernel_rfl) (by kernel_rfl)
   (And.intro (fun h => by kernel_rfl) trivial)
   (fun h => by kernel_rfl)
noncomputable def made_Dice_Staff_con : Con := ⟨61, [.ref [(.list iT), iT]], [(.list iT), iT], ⟨[.vn ty81 [3]], [.ref [(.list iT), iT]]⟩, [ty81, (.list iT), iT], fun h => Pw.made_Dice_Staff h.1 h.2⟩
noncomputable def made_Dice_Staff_d : FnD where
 N := 109
 np := 1
 cs := [made_Dice_Next_con, made_Dice_Pick_con, made_Dice_Zone_con, made_names_con, made_Dice_Bool_con, made_Dice_Windows_con]
 ds := [⟨0, [.s (.one (.bp 0 0)), .s (.one (.bp 128 0)), .s (.one (.bp 192 0)), sI, .b (.cell [.d (.list iT), .d iT] false), .b (.cell [.nil, .nil, .nil, .nil] false), .b (.cell [.ol 1000000, .nil, .nil, .nil] false), .b (.lst 88 ty62 false)], [iT, (.list iT), iT, ty63], [⟨.exit 0, [.s (.one (.bp 0 0)), .s (.one (.bp 128 0)), .s (.one (.bp 192 0)), .b (.cell [.d (.list iT), .d iT] false), .b (.cell [.nil, .nil, .nil, .nil] false), .b (.cell [.ol 1500100, .nil, .nil, .nil] false), .b (.lst 88 ty62 false)], [(.list iT), iT, ty63]⟩], fun h => Pw.made_Dice_Staff_l0_step h.1 h.2.1 h.2.2.1 h.2.2.2⟩,
   ⟨2, [.s (.one (.bp 0 0)), .s (.one (.bp 128 0)), .s (.one (.bp 192 0)), sI, .b (.cell [.d (.list iT), .d iT] false), .b (.cell [.nil, .nil, .nil, .nil] false), .b (.cell [.ol 1002000, .ol 1002001, .nil, .nil] false), .b (.lst 88 ty62 false), .b (.lst 90 ty50 false)], [iT, (.list iT), iT, ty63, ty53], [⟨.exit 2, [.s (.one (.bp 0 0)), .s (.one (.bp 128 0)), .s (.one (.bp 192 0)), .b (.cell [.d (.list iT), .d iT] false), .b (.cell [.nil, .nil, .nil, .nil] false), .b (.cell [.ol 1502300, .ol 1502301, .nil, .nil] false), .b (.lst 88 ty62 false), .b (.lst 90 ty50 false)], [(.list iT), iT, ty63, ty53]⟩], fun h => Pw.made_Dice_Staff_l2_step h.1 h.2.1 h.2.2.1 h.2.2.2.1 h.2.2.2.2⟩,
   ⟨4, [.s (.one (.bp 0 0)), .s (.one (.bp 128 0)), .s (.one (.bp 192 0)), sI, .b (.cell [.d (.list iT), .d iT] false), .b (.cell [.nil, .nil, .nil, .nil] false), .b (.cell [.ol 1004000, .ol 1004001, .ol 1004002, .nil] false), .b (.lst 88 ty62 false), .b (.lst 90 ty50 false), .b (.lst 131 ty23 false)], [iT, (.list iT), iT, ty63, ty53, ty27], [⟨.exit 4, [.s (.one (.bp 128 0)), .s (.one (.bp 192 0)), .b (.cell [.d (.list iT), .d iT] false), .b (.cell [.nil, .nil, .nil, .nil] false), .b (.cell [.ol 1504500, .ol 1504501, .ol 1504502, .nil] false), .b (.lst 88 ty62 false), .b (.lst 90 ty50 false), .b (.lst 131 ty23 false)], [(.list iT), iT, ty63, ty53, ty27]⟩], fun h => Pw.made_Dice_Staff_l4_step h.1 h.2.1 h.2.2.1 h.2.2.2.1 h.2.2.2.2.1 h.2.2.2.2.2⟩,
   ⟨6, [.s (.one (.bp 0 0)), .s (.one (.bp 128 0)), .s (.one (.bp 192 0)), sI, .s (.one (.bp 512 0)), sI, sI, .b (.cell [.d (.list iT), .d iT] false), .b (.cell [.nil, .nil, .nil, .nil] false), .b (.cell [.ol 1006000, .ol 1006001, .ol 1006002, .nil] false), .b (.cell [.d .str, .d iT, .ol 1006003] false), .b (.lst 88 ty62 false), .b (.lst 90 ty50 false), .b (.lst 131 ty23 false), .b (.lst 3 iT false)], [iT, iT, iT, (.list iT), iT, .str, iT, ty63, ty53, ty27, (.list iT)], [⟨.exit 6, [.s (.one (.bp 0 0)), .s (.one (.bp 128 0)), .s (.one (.bp 192 0)), sI, .s (.one (.bp 512 0)), .b (.cell [.d (.list iT), .d iT] false), .b (.cell [.nil, .nil, .nil, .nil] false), .b (.cell [.ol 1506700, .ol 1506701, .ol 1506702, .nil] false), .b (.cell [.d .str, .d iT, .ol 1506703] false), .b (.lst 88 ty62 false), .b (.lst 90 ty50 false), .b (.lst 131 ty23 false), .b (.lst 3 iT false)], [iT, (.list iT), iT, .str, iT, ty63, ty53, ty27, (.list iT)]⟩], fun h => Pw.made_Dice_Staff_l6_step h.1 h.2.1 h.2.2.1 h.2.2.2.1 h.2.2.2.2.1 h.2.2.2.2.2.1 h.2.2.2.2.2.2.1 h.2.2.2.2.2.2.2.1 h.2.2.2.2.2.2.2.2.1 h.2.2.2.2.2.2.2.2.2.1 h.2.2.2.2.2.2.2.2.2.2⟩]
 modes := [(33, [false, false]), (39, [false, false]), (62, []), (63, [false, false]), (64, [false]), (118, [false, false])]
 keep := [(0, ⟨[0, 2, 3, 4], [0, 128, 192], [⟨1000000, 88, ty62, [.cell 192 0], false⟩], []⟩),
   (2, ⟨[0, 2, 3, 5], [0, 128, 192], [⟨1002000, 88, ty62, [.cell 192 0], false⟩, ⟨1002001, 90, ty50, [.cell 192 1], false⟩], []⟩),
   (4, ⟨[0, 2, 3, 7], [0, 128, 192], [⟨1004000, 88, ty62, [.cell 192 0], false⟩, ⟨1004001, 90, ty50, [.cell 192 1], false⟩, ⟨1004002, 131, ty23, [.cell 192 2], false⟩], []⟩),
   (6, ⟨[0, 2, 3, 7, 8, 9, 10], [0, 128, 192, 512], [⟨1006000, 88, ty62, [.cell 192 0], false⟩, ⟨1006001, 90, ty50, [.cell 192 1], false⟩, ⟨1006002, 131, ty23, [.cell 192 2], false⟩, ⟨1006003, 3, iT, [.cell 512 2], false⟩], []⟩)]
 keepX := [(0, .exit 0, ⟨[0, 2, 3], [0, 128, 192], [⟨1500100, 88, ty62, [.cell 192 0], false⟩], []⟩),
   (2, .exit 2, ⟨[0, 2, 3], [0, 128, 192], [⟨1502300, 88, ty62, [.cell 192 0], false⟩, ⟨1502301, 90, ty50, [.cell 192 1], false⟩], []⟩),
   (4, .exit 4, ⟨[2, 3], [0, 128, 192], [⟨1504500, 88, ty62, [.cell 192 0], false⟩, ⟨1504501, 90, ty50, [.cell 192 1], false⟩, ⟨1504502, 131, ty23, [.cell 192 2], false⟩], []⟩),
   (6, .exit 6, ⟨[0, 2, 3, 7, 8], [0, 128, 192, 512], [⟨1506700, 88, ty62, [.cell 192 0], false⟩, ⟨1506701, 90, ty50, [.cell 192 1], false⟩, ⟨1506702, 131, ty23, [.cell 192 2], false⟩, ⟨1506703, 3, iT, [.cell 512 2], false⟩], []⟩)]
 ro := [false]
 dw := [(5, [[], [], [], [1344], [], [], [], [], [], [0], [1792], [1856, 1000000], [], [192]]), (9, [[2432], [], [], [], [], [], [], [], [], [], [0], [], [0], [], [384], [384]])]
 ns := [3]
theorem made_Dice_Staff_ok : Con.OK Tryz.prog made_Dice_Staff_con :=
 con_of tabOk mixedOk made_Dice_Staff_d made_Dice_Staff_con Tryz.f61 (Tryz.f61.body.getD .skip) Tryz.func61 (by kernel_rfl) (by kernel_rfl) (Nat.le_of_ble_eq_true (by kernel_rfl)) (by kernel_rfl) (And.intro made_Dice_Next_ok (And.intro made_Dice_Pick_ok (And.intro made_Dice_Zone_ok (And.intro made_names_ok (And.intro made_Dice_Bool_ok (And.intro made_Dice_Windows_ok trivial)))))) (by kernel_rfl) (by kernel_rfl)
   (And.intro (fun h => by kernel_rfl) (And.intro (fun h => by kernel_rfl) (And.intro (fun h => by kernel_rfl) (And.intro (fun h => by kernel_rfl) trivial))))
   (fun h => by kernel_rfl)
noncomputable def made_Dice_Layer_con : Con := ⟨21, [.ref [(.list iT), iT], .v ty81, .v .str], [(.list iT), iT, ty81, .str], ⟨[.v ty69], [.ref [(.list iT), iT]]⟩, [ty69, (.list iT), iT], fun h => Pw.made_Dice_Layer h.1 h.2.1 h.2.2.1 h.2.2.2⟩
noncomputable def made_Dice_Layer_d : FnD where
 N := 77
 np := 3
 cs := [made_Dice_Next_con, made_Dice_Pick_con, made_Dice_Bool_con, made_Dice_Windows_con]
 ds := [⟨0, [.s (.one (.bp 0 0)), .s (.one (.bp 256 0)), .s (.one (.bp 384 0)), .s (.one (.bp 448 0)), sI, .b (.cell [.d (.list iT), .d iT] false), .b (.cell [.d ty63, .d ty53, .d ty27, .d ty75] false), .b (.cell [.d .str, .d iT, .d iT, .d iT, .d iT, .d iT, .nil, .nil, .d iT, .d iT] false), .b (.cell [.d .str, .d iT, .d iT, .d iT, .d iT, .d iT, .ol 1000000, .nil, .d iT, .d iT] false), .b (.lst 3 iT false)], [iT, (.list iT), iT, ty63, ty53, ty27, ty75, .str, iT, iT, iT, iT, iT, iT, iT, .str, iT, iT, iT, iT, iT, iT, iT, (.list iT)], [⟨.exit 0, [.s (.one (.bp 0 0)), .s (.one (.bp 256 0)), .s (.one (.bp 384 0)), .s (.one (.bp 448 0)), .b (.cell [.d (.list iT), .d iT] false), .b (.cell [.d ty63, .d ty53, .d ty27, .d ty75] false), .b (.cell [.d .str, .d iT, .d iT, .d iT, .d iT, .d iT, .nil, .nil, .d iT, .d iT] false), .b (.cell [.d .str, .d iT, .d iT, .d iT, .d iT, .d iT, .ol 1500100, .nil, .d iT, .d iT] false), .b (.lst 3 iT false)], [(.list iT), iT, ty63, ty53, ty27, ty75, .str, iT, iT, iT, iT, iT, iT, iT, .str, iT, iT, iT, iT, iT, iT, iT, (.list iT)]⟩], fun h => Pw.made_Dice_Layer_l0_step h.1 h.2.1 h.2.2.1 h.2.2.2.1 h.2.2.2.2.1 h.2.2.2.2.2.1 h.2.2.2.2.2.2.1 h.2.2.2.2.2.2.2.1 h.2.2.2.2.2.2.2.2.1 h.2.2.2.2.2.2.2.2.2.1 h.2.2.2.2.2.2.2.2.2.2.1 h.2.2.2.2.2.2.2.2.2.2.2.1 h.2.2.2.2.2.2.2.2.2.2.2.2.1 h.2.2.2.2.2.2.2.2.2.2.2.2.2.1 h.2.2.2.2.2.2.2.2.2.2.2.2.2.2.1 h.2.2.2.2.2.2.2.2.2.2.2.2.2.2.2.1 h.2.2.2.2.2.2.2.2.2.2.2.2.2.2.2.2.1 h.2.2.2.2.2.2.2.2.2.2.2.2.2.2.2.2.2.1 h.2.2.2.2.2.2.2.2.2.2.2.2.2.2.2.2.2.2.1 h.2.2.2.2.2.2.2.2.2.2.2.2.2.2.2.2.2.2.2.1 h.2.2.2.2.2.2.2.2.2.2.2.2.2.2.2.2.2.2.2.2.1 h.2.2.2.2.2.2.2.2.2.2.2.2.2.2.2.2.2.2.2.2.2.1 h.2.2.2.2.2.2.2.2.2.2.2.2.2.2.2.2.2.2.2.2.2.2.1 h.2.2.2.2.2.2.2.2.2.2.2.2.2.2.2.2.2.2.2.2.2.2.2⟩]
 modes := [(33, [false, false]), (39, [false, false]), (63, [false, false]), (64, [false])]
 keep := [(0, ⟨[0, 4, 6, 7, 8], [0, 256, 384, 448], [⟨1000000, 3, iT, [.cell 448 6], false⟩], []⟩)]
 keepX := [(0, .exit 0, ⟨[0, 4, 6, 7], [0, 256, 384, 448], [⟨1500100, 3, iT, [.cell 448 6], false⟩], []⟩)]
 ro := [false]
 dw := [(7, [[], [], [], [], [], [], [0], [3200], [3264, 1000000], [], [448]])]
theorem made_Dice_Layer_ok : Con.OK Tryz.prog made_Dice_Layer_con :=
 con_of tabOk mixedOk made_Dice_Layer_d made_Dice_Layer_con Tryz.f21 (Tryz.f21.body.getD .skip) Tryz.func21 (by kernel_rfl) (by kernel_rfl) (Nat.le_of_ble_eq_true (by kernel_rfl)) (by kernel_rfl) (And.intro made_Dice_Next_ok (And.intro made_Dice_Pick_ok (And.intro made_Dice_Bool_ok (And.intro made_Dice_Windows_ok trivial)))) (by kernel_rfl) (by kernel_rfl)
   (And.intro (fun h => by kernel_rfl) trivial)
   (fun h => by kernel_rfl)
noncomputable def made_Dice_Instant_con : Con := ⟨22, [.ref [(.list iT), iT]], [(.list iT), iT], ⟨[.v iT], [.ref [(.list iT), iT]]⟩, [iT, (.list iT), iT], fun h => Pw.made_Dice_Instant h.1 h.2⟩
noncomputable def made_Dice_Instant_d : FnD where
 N := 16
 np := 1
 cs := [made_Dice_Next_con, made_Dice_Pick_con, made_Dice_Bool_con]
 ds := []
 modes := [(33, [false, false]), (39, [false, false]), (63, [false, false])]
 ro := [false]
theorem made_Dice_Instant_ok : Con.OK Tryz.prog made_Dice_Instant_con :=
 con_of tabOk mixedOk made_Dice_Instant_d made_Dice_Instant_con Tryz.f22 (Tryz.f22.body.getD .skip) Tryz.func22 (by kernel_rfl) (by kernel_rfl) (Nat.le_of_ble_eq_true (by kernel_rfl)) (by kernel_rfl) (And.intro made_Dice_Next_ok (And.intro made_Dice_Pick_ok (And.intro made_Dice_Bool_ok trivial))) (by kernel_rfl) (by kernel_rfl)
   trivial
   (fun h => by kernel_rfl)
noncomputable def made_Dice_Edit_con : Con := ⟨45, [.ref [(.list iT), iT], .v ty81], [(.list iT), iT, ty81], ⟨[.v ty39], [.ref [(.list iT), iT]]⟩, [ty39, (.list iT), iT], fun h => Pw.made_Dice_Edit h.1 h.2.1 h.2.2⟩
noncomputable def made_Dice_Edit_d : FnD where
 N := 52
 np := 2
 cs := [made_Dice_Next_con, made_Dice_Pick_con, made_Dice_Bool_con, made_Dice_Instant_con]
 ds := []
 modes := [(22, [false]), (33, [false, false]), (39, [false, false]), (63, [false, false])]
 ro := [false]
 dw := [(3, [[], [], [], [1344], [0, 1344], [], [], [384]]), (8, [[], [], [], [], [], [], [0], [], [], [], [], [384]])]
theorem made_Dice_Edit_ok : Con.OK Tryz.prog made_Dice_Edit_con :=
 con_of tabOk mixedOk made_Dice_Edit_d made_Dice_Edit_con Tryz.f45 (Tryz.f45.body.getD .skip) Tryz.func45 (by kernel_rfl) (by kernel_rfl) (Nat.le_of_ble_eq_true (by kernel_rfl)) (by kernel_rfl) (And.intro made_Dice_Next_ok (And.intro made_Dice_Pick_ok (And.intro made_Dice_Bool_ok (And.intro made_Dice_Instant_ok trivial)))) (by kernel_rfl) (by kernel_rfl)
   trivial
   (fun h => by kernel_rfl)
noncomputable def made_Dice_Config_con : Con := ⟨20, [.ref [(.list iT), iT], .v iT], [(.list iT), iT, iT], ⟨[.v ty81], [.ref [(.list iT), iT]]⟩, [ty81, (.list iT), iT], fun h => Pw.made_Dice_Config h.1 h.2.1 h.2.2⟩
noncomputable def made_Dice_Config_d : FnD where
 N := 69
 np := 2
 cs := [made_Dice_Next_con, made_names_con, made_Dice_Staff_con, made_Dice_Layer_con, made_Dice_Edit_con]
 ds := [⟨0, [.s (.one (.bp 0 0)), .s (.one (.bp 256 0)), .s (.one (.bp 320 0)), sI, .b (.cell [.d (.list iT), .d iT] false), .b (.cell [.nil, .nil, .nil, .nil] false), .b (.cell [.d ty63, .d ty53, .d ty27, .ol 1000000] false), .b (.lst 64 ty74 true)], [iT, (.list iT), iT, ty63, ty53, ty27, ty75], [⟨.exit 0, [.s (.one (.bp 256 0)), .s (.one (.bp 320 0)), .b (.cell [.d (.list iT), .d iT] false), .b (.cell [.nil, .nil, .nil, .nil] false), .b (.cell [.d ty63, .d ty53, .d ty27, .ol 1500100] false), .b (.lst 64 ty74 true)], [(.list iT), iT, ty63, ty53, ty27, ty75]⟩], fun h => Pw.made_Dice_Config_l0_step h.1 h.2.1 h.2.2.1 h.2.2.2.1 h.2.2.2.2.1 h.2.2.2.2.2.1 h.2.2.2.2.2.2⟩,
   ⟨2, [.s (.one (.bp 0 0)), .s (.one (.bp 256 0)), .s (.one (.bp 320 0)), sI, .s (.one (.bp 448 0)), sI, .b (.cell [.d (.list iT), .d iT] false), .b (.cell [.nil, .nil, .nil, .nil] false), .b (.cell [.d ty63, .d ty53, .d ty27, .ol 1002000] false), .b (.cell [.d .str, .ol 1002001, .nil] false), .b (.lst 64 ty74 true), .b (.lst 38 ty69 false)], [iT, iT, (.list iT), iT, ty63, ty53, ty27, .str, ty75, ty70], [⟨.exit 2, [.s (.one (.bp 0 0)), .s (.one (.bp 256 0)), .s (.one (.bp 320 0)), sI, .s (.one (.bp 448 0)), .b (.cell [.d (.list iT), .d iT] false), .b (.cell [.nil, .nil, .nil, .nil] false), .b (.cell [.d ty63, .d ty53, .d ty27, .ol 1502300] false), .b (.cell [.d .str, .ol 1502301, .nil] false), .b (.lst 64 ty74 true), .b (.lst 38 ty69 false)], [iT, (.list iT), iT, ty63, ty53, ty27, .str, ty75, ty70]⟩], fun h => Pw.made_Dice_Config_l2_step h.1 h.2.1 h.2.2.1 h.2.2.2.1 h.2.2.2.2.1 h.2.2.2.2.2.1 h.2.2.2.2.2.2.1 h.2.2.2.2.2.2.2.1 h.2.2.2.2.2.2.2.2.1 h.2.2.2.2.2.2.2.2.2⟩,
   ⟨4, [.s (.one (.bp 0 0)), .s (.one (.bp 256 0)), .s (.one (.bp 320 0)), sI, .s (.one (.bp 448 0)), sI, .b (.cell [.d (.list iT), .d iT] false), .b (.cell [.nil, .nil, .nil, .nil] false), .b (.cell [.d ty63, .d ty53, .d ty27, .ol 1004000] false), .b (.cell [.d .str, .ol 1004001, .ol 1004002] false), .b (.lst 64 ty74 true), .b (.lst 38 ty69 false), .b (.lst 70 ty39 false)], [iT, iT, (.list iT), iT, ty63, ty53, ty27, .str, ty75, ty70, ty41], [⟨.exit 4, [.s (.one (.bp 0 0)), .s (.one (.bp 256 0)), .s (.one (.bp 320 0)), sI, .s (.one (.bp 448 0)), .b (.cell [.d (.list iT), .d iT] false), .b (.cell [.nil, .nil, .nil, .nil] false), .b (.cell [.d ty63, .d ty53, .d ty27, .ol 1504500] false), .b (.cell [.d .str, .ol 1504501, .ol 1504502] false), .b (.lst 64 ty74 true), .b (.lst 38 ty69 false), .b (.lst 70 ty39 false)], [iT, (.list iT), iT, ty63, ty53, ty27, .str, ty75, ty70, ty41]⟩], fun h => Pw.made_Dice_Config_l4_step h.1 h.2.1 h.2.2.1 h.2.2.2.1 h.2.2.2.2.1 h.2.2.2.2.2.1 h.2.2.2.2.2.2.1 h.2.2.2.2.2.2.2.1 h.2.2.2.2.2.2.2.2.1 h.2.2.2.2.2.2.2.2.2.1 h.2.2.2.2.2.2.2.2.2.2⟩]
 modes := [(21, [false, false, false]), (33, [false, false]), (45, [false, false]), (61, [false]), (62, [])]
 keep := [(0, ⟨[0, 4, 5, 6], [0, 256, 320], [⟨1000000, 64, ty74, [.cell 320 3], true⟩], []⟩),
   (2, ⟨[0, 4, 5, 6, 7, 8], [0, 256, 320, 448], [⟨1002000, 64, ty74, [.cell 320 3], false⟩, ⟨1002001, 38, ty69, [.cell 448 1], false⟩], []⟩),
   (4, ⟨[0, 4, 5, 6, 7, 9], [0, 256, 320, 448], [⟨1004000, 64, ty74, [.cell 320 3], false⟩, ⟨1004001, 38, ty69, [.cell 448 1], false⟩, ⟨1004002, 70, ty39, [.cell 448 2], false⟩], []⟩)]
 keepX := [(0, .exit 0, ⟨[4, 5], [0, 256, 320], [⟨1500100, 64, ty74, [.cell 320 3], false⟩], []⟩),
   (2, .exit 2, ⟨[0, 4, 5, 6, 7], [0, 256, 320, 448], [⟨1502300, 64, ty74, [.cell 320 3], false⟩, ⟨1502301, 38, ty69, [.cell 448 1], false⟩], []⟩),
   (4, .exit 4, ⟨[0, 4, 5, 6, 7], [0, 256, 320, 448], [⟨1504500, 64, ty74, [.cell 320 3], false⟩, ⟨1504501, 38, ty69, [.cell 448 1], false⟩, ⟨1504502, 70, ty39, [.cell 448 2], false⟩], []⟩)]
 ro := [false]
 dw := [(9, [[], [], [], [], [2432], [], [], [], [], [], [0, 1002000], [2880], [2944, 1002000, 1002001], [], [448]]), (13, [[], [], [], [], [0, 1004000], [3776], [3840, 1004001, 1004002], [], [448]])]
theorem made_Dice_Config_ok : Con.OK Tryz.prog made_Dice_Config_con :=
 con_of tabOk mixedOk made_Dice_Config_d made_Dice_Config_con Tryz.f20 (Tryz.f20.body.getD .skip) Tryz.func20 (by kernel_rfl) (by kernel_rfl) (Nat.le_of_ble_eq_true (by kernel_rfl)) (by kernel_rfl) (And.intro made_Dice_Next_ok (And.intro made_names_ok (And.intro made_Dice_Staff_ok (And.intro made_Dice_Layer_ok (And.intro made_Dice_Edit_ok trivial))))) (by kernel_rfl) (by kernel_rfl)
   (And.intro (fun h => by kernel_rfl) (And.intro (fun h => by kernel_rfl) (And.intro (fun h => by kernel_rfl) trivial)))
   (fun h => by kernel_rfl)
noncomputable def made_Copy_con : Con := ⟨38, [.v ty81], [ty81], ⟨[.so [(some 88, ty63), (some 90, ty53), (some 131, ty27), (some 64, ty75)]], []⟩, [ty63, ty53, ty27, ty75], fun h => Pw.made_Copy h⟩
noncomputable def made_Copy_d : FnD where
 N := 43
 np := 1
 cs := []
 ds := [⟨0, [.s (.one (.bp 64 0)), .s (.one (.bp 128 0)), .s (.one (.bp 192 0)), sI, .b (.cell [.d ty63, .d ty53, .d ty27, .d ty75] false), .b (.cell [.nil, .nil, .nil, .nil] false), .b (.cell [.ol 1000000, .ol 1000001, .ol 1000002, .ol 1000003] false), .b (.lst 88 ty62 false), .b (.lst 90 ty50 false), .b (.lst 131 ty23 false), .b (.lst 64 ty74 false)], [iT, ty63, ty53, ty27, ty75, ty63, ty53, ty27, ty75], [⟨.exit 0, [.s (.one (.bp 128 0)), .s (.one (.bp 192 0)), .b (.cell [.nil, .nil, .nil, .nil] false), .b (.cell [.ol 1500100, .ol 1500101, .ol 1500102, .ol 1500103] false), .b (.lst 88 ty62 false), .b (.lst 90 ty50 false), .b (.lst 131 ty23 false), .b (.lst 64 ty74 false)], [ty63, ty53, ty27, ty75]⟩], fun h => Pw.made_Copy_l0_step h.1 h.2.1 h.2.2.1 h.2.2.2.1 h.2.2.2.2.1 h.2.2.2.2.2.1 h.2.2.2.2.2.2.1 h.2.2.2.2.2.2.2.1 h.2.2.2.2.2.2.2.2⟩]
 keep := [(0, ⟨[1, 2, 3, 4], [64, 128, 192], [⟨1000000, 88, ty62, [.cell 192 0], false⟩, ⟨1000001, 90, ty50, [.cell 192 1], false⟩, ⟨1000002, 131, ty23, [.cell 192 2], false⟩, ⟨1000003, 64, ty74, [.cell 192 3], false⟩], []⟩)]
 keepX := [(0, .exit 0, ⟨[2, 3], [128, 192], [⟨1500100, 88, ty62, [.cell 192 0], false⟩, ⟨1500101, 90, ty50, [.cell 192 1], false⟩, ⟨1500102, 131, ty23, [.cell 192 2], false⟩, ⟨1500103, 64, ty74, [.cell 192 3], false⟩], []⟩)]
 ro := [true]
 dw := [(1, [[], [], [512], [], [], [704], [], [], [896], [], [192], [192]]), (6, [[], [], [1920], [], [], [2112], [], [320], [], [320]])]
 so := [.own 88 ty62, .own 90 ty50, .own 131 ty23, .own 64 ty74]
theorem made_Copy_ok : Con.OK Tryz.prog made_Copy_con :=
 con_of tabOk mixedOk made_Copy_d made_Copy_con Tryz.f38 (Tryz.f38.body.getD .skip) Tryz.func38 (by kernel_rfl) (by kernel_rfl) (Nat.le_of_ble_eq_true (by kernel_rfl)) (by kernel_rfl) trivial (by kernel_rfl) (by kernel_rfl)
   (And.intro (fun h => by kernel_rfl) trivial)
   (fun h => by kernel_rfl)
noncomputable def law12_StackHides_con : Con := ⟨6, [.v (.list iT)], [(.list iT)], ⟨[.v .bool], []⟩, [.bool], fun h => Pw.law12_StackHides h⟩
noncomputable def law12_StackHides_d : FnD where
 N := 90
 np := 1
 cs := [made_Light_con, stack_Who_con, law12_sane_con, made_Roll_con, made_Dice_Next_con, made_Dice_Instant_con, made_Dice_Config_con, made_Copy_con]
 ds := [⟨0, [.s (.one (.bp 1088 0)), .s (.one (.bp 256 0)), .s (.one (.bp 384 0)), .s (.one (.bp 448 0)), .s (.one (.bp 512 0)), sI, .b (.cell [.d ty63, .d ty53, .d ty27, .ol 1000000] false), .b (.cell [.d .str, .d iT, .d iT, .d iT, .d iT, .d iT, .ol 1000001, .nil, .d iT, .d iT] false), .b (.cell [.ol 1000002, .ol 1000003, .ol 1000004, .ol 1000005] false), .b (.cell [.ol 1000006, .ol 1000007, .ol 1000008, .ol 1000009] false), .b (.cell [.d (.list iT), .d iT] false), .b (.lst 64 ty74 true), .b (.lst 3 iT true), .b (.lst 88 ty62 false), .b (.lst 90 ty50 false), .b (.lst 131 ty23 false), .b (.lst 64 ty74 false), .b (.lst 88 ty62 false), .b (.lst 90 ty50 false), .b (.lst 131 ty23 false), .b (.lst 64 ty74 false)], [iT, ty63, ty53, ty27, .str, iT, iT, iT, iT, iT, iT, iT, (.list iT), iT, ty75, (.list iT), ty63, ty53, ty27, ty75, ty63, ty53, ty27, ty75], [⟨.ret, [.s (.one (.d .bool))], [.bool]⟩, ⟨.exit 0, [], []⟩], fun h => Pw.law12_StackHides_l0_step h.1 h.2.1 h.2.2.1 h.2.2.2.1 h.2.2.2.2.1 h.2.2.2.2.2.1 h.2.2.2.2.2.2.1 h.2.2.2.2.2.2.2.1 h.2.2.2.2.2.2.2.2.1 h.2.2.2.2.2.2.2.2.2.1 h.2.2.2.2.2.2.2.2.2.2.1 h.2.2.2.2.2.2.2.2.2.2.2.1 h.2.2.2.2.2.2.2.2.2.2.2.2.1 h.2.2.2.2.2.2.2.2.2.2.2.2.2.1 h.2.2.2.2.2.2.2.2.2.2.2.2.2.2.1 h.2.2.2.2.2.2.2.2.2.2.2.2.2.2.2.1 h.2.2.2.2.2.2.2.2.2.2.2.2.2.2.2.2.1 h.2.2.2.2.2.2.2.2.2.2.2.2.2.2.2.2.2.1 h.2.2.2.2.2.2.2.2.2.2.2.2.2.2.2.2.2.2.1 h.2.2.2.2.2.2.2.2.2.2.2.2.2.2.2.2.2.2.2.1 h.2.2.2.2.2.2.2.2.2.2.2.2.2.2.2.2.2.2.2.2.1 h.2.2.2.2.2.2.2.2.2.2.2.2.2.2.2.2.2.2.2.2.2.1 h.2.2.2.2.2.2.2.2.2.2.2.2.2.2.2.2.2.2.2.2.2.2.1 h.2.2.2.2.2.2.2.2.2.2.2.2.2.2.2.2.2.2.2.2.2.2.2⟩]
 modes := [(17, [false]), (19, [false]), (20, [false, false]), (22, [false]), (32, []), (33, [false, false]), (37, [false, false, false]), (38, [false])]
 keep := [(0, ⟨[3, 4, 6, 7, 8, 9], [256, 384, 448, 512, 1088], [⟨1000000, 64, ty74, [.cell 256 3], false⟩, ⟨1000001, 3, iT, [.cell 384 6], false⟩, ⟨1000002, 88, ty62, [.cell 448 0], false⟩, ⟨1000003, 90, ty50, [.cell 448 1], false⟩, ⟨1000004, 131, ty23, [.cell 448 2], false⟩, ⟨1000005, 64, ty74, [.cell 448 3], false⟩, ⟨1000006, 88, ty62, [.cell 512 0], false⟩, ⟨1000007, 90, ty50, [.cell 512 1], false⟩, ⟨1000008, 131, ty23, [.cell 512 2], false⟩, ⟨1000009, 64, ty74, [.cell 512 3], false⟩], []⟩)]
 keepX := [(0, .ret, ⟨[2], [], [], []⟩),
   (0, .exit 0, ⟨[], [], [], []⟩)]
 ro := [false]
 dw := [(9, [[], [2176, 2368, 2369, 2370, 2371], [], [2176, 2496, 2497, 2498, 2499], [448], [512], [448], [512]]), (10, [[], [], [], [], [2816], [], [1920, 2944], [2816, 3008], [], [], [2371, 3008]]), (11, [[], [], [], [1920, 3392], [], [], [3392, 3584], [], [], [2499, 3584]])]
theorem law12_StackHides_ok : Con.OK Tryz.prog law12_StackHides_con :=
 con_of tabOk mixedOk law12_StackHides_d law12_StackHides_con Tryz.f6 (Tryz.f6.body.getD .skip) Tryz.func6 (by kernel_rfl) (by kernel_rfl) (Nat.le_of_ble_eq_true (by kernel_rfl)) (by kernel_rfl) (And.intro made_Light_ok (And.intro stack_Who_ok (And.intro law12_sane_ok (And.intro made_Roll_ok (And.intro made_Dice_Next_ok (And.intro made_Dice_Instant_ok (And.intro made_Dice_Config_ok (And.intro made_Copy_ok trivial)))))))) (by kernel_rfl) (by kernel_rfl)
   (And.intro (fun h => by kernel_rfl) trivial)
   (fun h => by kernel_rfl)
end Go.Proofs.Pk
