/- Contracts: each given function is its plain function, printed by a program. -/
import Derived.Test.YtielflihgdebiaaGreatCon4
open Go Go.Lft
set_option linter.unusedVariables false
set_option maxRecDepth 100000
namespace Go.Proofs.Pk

noncomputable def slices_BinarySearch_int_int_con : Con := ⟨186, [.v (.list (.int .i64)), .v (.int .i64)], [(.list (.int .i64)), (.int .i64)], ⟨[.v (.int .i64), .v .bool], []⟩, [(.int .i64), .bool], fun h => Pw.slices_BinarySearch_int_int h.1 h.2⟩

noncomputable def slices_BinarySearch_int_int_d : FnD where
  N := 54
  np := 2
  cs := [cmp_Less_int_con, slices_isNaN_int_con]
  ds := [⟨0, [.s (.one (.d (.list (.int .i64)))), .s (.one (.d (.int .i64))), .s (.one (.d (.int .i64))), .s (.one (.d (.int .i64))), .s (.one (.d (.int .i64)))], [(.list (.int .i64)), (.int .i64), (.int .i64), (.int .i64), (.int .i64)], [⟨.exit 0, [.s (.one (.d (.list (.int .i64)))), .s (.one (.d (.int .i64))), .s (.one (.d (.int .i64))), .s (.one (.d (.int .i64)))], [(.list (.int .i64)), (.int .i64), (.int .i64), (.int .i64)]⟩], fun h => Pw.slices_BinarySearch_int_int_l0_step h.1 h.2.1 h.2.2.1 h.2.2.2.1 h.2.2.2.2⟩]
  modes := [(252, [false, false]), (253, [false])]
  keep := [(0, ⟨[0, 1, 6, 7, 8], [], [], []⟩)]
  keepX := [(0, .exit 0, ⟨[0, 1, 6, 7], [], [], []⟩)]
  ro := [false, false]

theorem slices_BinarySearch_int_int_ok : Con.OK Tryz.prog slices_BinarySearch_int_int_con :=
  con_of tabOk mixedOk slices_BinarySearch_int_int_d slices_BinarySearch_int_int_con Tryz.f186 (Tryz.f186.body.getD .skip) Tryz.func186 (by kernel_rfl) (by kernel_rfl) (Nat.le_of_ble_eq_true (by kernel_rfl)) (by kernel_rfl) (And.intro cmp_Less_int_ok (And.intro slices_isNaN_int_ok trivial)) (by kernel_rfl) (by kernel_rfl)
    (And.intro (fun h => by kernel_rfl) trivial)
    (fun h => by kernel_rfl)

noncomputable def duty_View_On_con : Con := ⟨124, [.v ty88, .v ty74, .v (.int .i64)], [ty88, ty74, (.int .i64)], ⟨[.v (.int .i64), .v .bool], []⟩, [(.int .i64), .bool], fun h => Pw.duty_View_On h.1 h.2.1 h.2.2⟩

noncomputable def duty_View_On_d : FnD where
  N := 79
  np := 3
  cs := [zone_Table_Local_con, recur_ShiftOf_con, week_SecondOf_con, week_Has_con, slices_BinarySearch_int_int_con]
  ds := []
  modes := [(98, [false]), (100, [false, false]), (144, [false, false]), (181, [false, false, false]), (186, [false, false])]
  ro := [false, false]

theorem duty_View_On_ok : Con.OK Tryz.prog duty_View_On_con :=
  con_of tabOk mixedOk duty_View_On_d duty_View_On_con Tryz.f124 (Tryz.f124.body.getD .skip) Tryz.func124 (by kernel_rfl) (by kernel_rfl) (Nat.le_of_ble_eq_true (by kernel_rfl)) (by kernel_rfl) (And.intro zone_Table_Local_ok (And.intro recur_ShiftOf_ok (And.intro week_SecondOf_ok (And.intro week_Has_ok (And.intro slices_BinarySearch_int_int_ok trivial))))) (by kernel_rfl) (by kernel_rfl)
    trivial
    (fun h => by kernel_rfl)

noncomputable def duty_View_Person_con : Con := ⟨123, [.v ty88, .v ty74, .v (.int .i64)], [ty88, ty74, (.int .i64)], ⟨[.v (.int .i64)], []⟩, [(.int .i64)], fun h => Pw.duty_View_Person h.1 h.2.1 h.2.2⟩

noncomputable def duty_View_Person_d : FnD where
  N := 27
  np := 3
  cs := [duty_View_On_con]
  ds := []
  modes := [(124, [false, false, false])]
  ro := [false]

theorem duty_View_Person_ok : Con.OK Tryz.prog duty_View_Person_con :=
  con_of tabOk mixedOk duty_View_Person_d duty_View_Person_con Tryz.f123 (Tryz.f123.body.getD .skip) Tryz.func123 (by kernel_rfl) (by kernel_rfl) (Nat.le_of_ble_eq_true (by kernel_rfl)) (by kernel_rfl) (And.intro duty_View_On_ok trivial) (by kernel_rfl) (by kernel_rfl)
    trivial
    (fun h => by kernel_rfl)

noncomputable def duty_Person_con : Con := ⟨64, [.v ty86, .v ty74, .v (.int .i64)], [ty86, ty74, (.int .i64)], ⟨[.v (.int .i64)], []⟩, [(.int .i64)], fun h => Pw.duty_Person h.1 h.2.1 h.2.2⟩

noncomputable def duty_Person_d : FnD where
  N := 16
  np := 3
  cs := [duty_fits_con, duty_view_con, duty_View_Person_con]
  ds := []
  modes := [(119, [false]), (122, [false, false]), (123, [false, false, false])]
  ro := [false]

theorem duty_Person_ok : Con.OK Tryz.prog duty_Person_con :=
  con_of tabOk mixedOk duty_Person_d duty_Person_con Tryz.f64 (Tryz.f64.body.getD .skip) Tryz.func64 (by kernel_rfl) (by kernel_rfl) (Nat.le_of_ble_eq_true (by kernel_rfl)) (by kernel_rfl) (And.intro duty_fits_ok (And.intro duty_view_ok (And.intro duty_View_Person_ok trivial))) (by kernel_rfl) (by kernel_rfl)
    trivial
    (fun h => by kernel_rfl)

noncomputable def duty_On_con : Con := ⟨65, [.v ty86, .v ty74, .v (.int .i64)], [ty86, ty74, (.int .i64)], ⟨[.v .bool], []⟩, [.bool], fun h => Pw.duty_On h.1 h.2.1 h.2.2⟩

noncomputable def duty_On_d : FnD where
  N := 22
  np := 3
  cs := [duty_fits_con, duty_view_con, duty_View_On_con]
  ds := []
  modes := [(119, [false]), (122, [false, false]), (124, [false, false, false])]
  ro := [false]

theorem duty_On_ok : Con.OK Tryz.prog duty_On_con :=
  con_of tabOk mixedOk duty_On_d duty_On_con Tryz.f65 (Tryz.f65.body.getD .skip) Tryz.func65 (by kernel_rfl) (by kernel_rfl) (Nat.le_of_ble_eq_true (by kernel_rfl)) (by kernel_rfl) (And.intro duty_fits_ok (And.intro duty_view_ok (And.intro duty_View_On_ok trivial))) (by kernel_rfl) (by kernel_rfl)
    trivial
    (fun h => by kernel_rfl)

noncomputable def law11_sane_con : Con := ⟨60, [], [], ⟨[.v .bool], []⟩, [.bool], fun h => Pw.law11_sane⟩

noncomputable def law11_sane_d : FnD where
  N := 70
  np := 0
  cs := [law11_first_con, duty_Segments_con, duty_Times_con, duty_Person_con, duty_On_con]
  ds := []
  modes := [(62, [false, false, false, false]), (63, [false, false, false, false]), (64, [false, false, false]), (65, [false, false, false]), (117, [])]
  ro := [false]

theorem law11_sane_ok : Con.OK Tryz.prog law11_sane_con :=
  con_of tabOk mixedOk law11_sane_d law11_sane_con Tryz.f60 (Tryz.f60.body.getD .skip) Tryz.func60 (by kernel_rfl) (by kernel_rfl) (Nat.le_of_ble_eq_true (by kernel_rfl)) (by kernel_rfl) (And.intro law11_first_ok (And.intro duty_Segments_ok (And.intro duty_Times_ok (And.intro duty_Person_ok (And.intro duty_On_ok trivial))))) (by kernel_rfl) (by kernel_rfl)
    trivial
    (fun h => by kernel_rfl)

noncomputable def made_Roll_con : Con := ⟨21, [.v (.list (.int .i64))], [(.list (.int .i64))], ⟨[.box [(.list (.int .i64)), (.int .i64)]], []⟩, [(.list (.int .i64)), (.int .i64)], fun h => Pw.made_Roll h⟩

noncomputable def made_Roll_d : FnD where
  N := 6
  np := 1
  cs := []
  ds := []
  ro := [false]

theorem made_Roll_ok : Con.OK Tryz.prog made_Roll_con :=
  con_of tabOk mixedOk made_Roll_d made_Roll_con Tryz.f21 (Tryz.f21.body.getD .skip) Tryz.func21 (by kernel_rfl) (by kernel_rfl) (Nat.le_of_ble_eq_true (by kernel_rfl)) (by kernel_rfl) trivial (by kernel_rfl) (by kernel_rfl)
    trivial
    (fun h => by kernel_rfl)

noncomputable def made_Dice_Next_con : Con := ⟨31, [.ref [(.list (.int .i64)), (.int .i64)], .v (.int .i64)], [(.list (.int .i64)), (.int .i64), (.int .i64)], ⟨[.v (.int .i64)], [.ref [(.list (.int .i64)), (.int .i64)]]⟩, [(.int .i64), (.list (.int .i64)), (.int .i64)], fun h => Pw.made_Dice_Next h.1 h.2.1 h.2.2⟩

noncomputable def made_Dice_Next_d : FnD where
  N := 45
  np := 2
  cs := []
  ds := []
  ro := [false]

theorem made_Dice_Next_ok : Con.OK Tryz.prog made_Dice_Next_con :=
  con_of tabOk mixedOk made_Dice_Next_d made_Dice_Next_con Tryz.f31 (Tryz.f31.body.getD .skip) Tryz.func31 (by kernel_rfl) (by kernel_rfl) (Nat.le_of_ble_eq_true (by kernel_rfl)) (by kernel_rfl) trivial (by kernel_rfl) (by kernel_rfl)
    trivial
    (fun h => by kernel_rfl)

noncomputable def made_Dice_Pick_con : Con := ⟨38, [.ref [(.list (.int .i64)), (.int .i64)], .v (.list (.int .i64))], [(.list (.int .i64)), (.int .i64), (.list (.int .i64))], ⟨[.v (.int .i64)], [.ref [(.list (.int .i64)), (.int .i64)]]⟩, [(.int .i64), (.list (.int .i64)), (.int .i64)], fun h => Pw.made_Dice_Pick h.1 h.2.1 h.2.2⟩

noncomputable def made_Dice_Pick_d : FnD where
  N := 12
  np := 2
  cs := [made_Dice_Next_con]
  ds := []
  modes := [(31, [false, false])]
  ro := [false]

theorem made_Dice_Pick_ok : Con.OK Tryz.prog made_Dice_Pick_con :=
  con_of tabOk mixedOk made_Dice_Pick_d made_Dice_Pick_con Tryz.f38 (Tryz.f38.body.getD .skip) Tryz.func38 (by kernel_rfl) (by kernel_rfl) (Nat.le_of_ble_eq_true (by kernel_rfl)) (by kernel_rfl) (And.intro made_Dice_Next_ok trivial) (by kernel_rfl) (by kernel_rfl)
    trivial
    (fun h => by kernel_rfl)

noncomputable def made_Dice_Zone_con : Con := ⟨36, [.ref [(.list (.int .i64)), (.int .i64)], .v .str], [(.list (.int .i64)), (.int .i64), .str], ⟨[.v ty67], [.ref [(.list (.int .i64)), (.int .i64)]]⟩, [ty67, (.list (.int .i64)), (.int .i64)], fun h => Pw.made_Dice_Zone h.1 h.2.1 h.2.2⟩

noncomputable def made_Dice_Zone_d : FnD where
  N := 98
  np := 2
  cs := [made_Dice_Next_con, made_Dice_Pick_con]
  ds := []
  modes := [(31, [false, false]), (38, [false, false])]
  ro := [false]
  dw := [(7, [[], [], [0], [], [], [0], [], [0], [], [], [], [], [0], [], [], [], [], [], [], [0], [], [], [3968], [0, 3968], [], [0], [], [0], [], [], [], [], [4608], [], [320]]), (9, [[], [], [], [5056], [0, 5056], [], []])]

theorem made_Dice_Zone_ok : Con.OK Tryz.prog made_Dice_Zone_con :=
  con_of tabOk mixedOk made_Dice_Zone_d made_Dice_Zone_con Tryz.f36 (Tryz.f36.body.getD .skip) Tryz.func36 (by kernel_rfl) (by kernel_rfl) (Nat.le_of_ble_eq_true (by kernel_rfl)) (by kernel_rfl) (And.intro made_Dice_Next_ok (And.intro made_Dice_Pick_ok trivial)) (by kernel_rfl) (by kernel_rfl)
    trivial
    (fun h => by kernel_rfl)

noncomputable def made_names_con : Con := ⟨82, [], [], ⟨[.own 9 (.list .str)], []⟩, [(.list .str)], fun h => Pw.made_names⟩

noncomputable def made_names_d : FnD where
  N := 2
  np := 0
  cs := []
  ds := []
  ro := [true]

theorem made_names_ok : Con.OK Tryz.prog made_names_con :=
  con_of tabOk mixedOk made_names_d made_names_con Tryz.f82 (Tryz.f82.body.getD .skip) Tryz.func82 (by kernel_rfl) (by kernel_rfl) (Nat.le_of_ble_eq_true (by kernel_rfl)) (by kernel_rfl) trivial (by kernel_rfl) (by kernel_rfl)
    trivial
    (fun h => by kernel_rfl)

noncomputable def made_Dice_Bool_con : Con := ⟨89, [.ref [(.list (.int .i64)), (.int .i64)], .v (.int .i64)], [(.list (.int .i64)), (.int .i64), (.int .i64)], ⟨[.v .bool], [.ref [(.list (.int .i64)), (.int .i64)]]⟩, [.bool, (.list (.int .i64)), (.int .i64)], fun h => Pw.made_Dice_Bool h.1 h.2.1 h.2.2⟩

noncomputable def made_Dice_Bool_d : FnD where
  N := 11
  np := 2
  cs := [made_Dice_Next_con]
  ds := []
  modes := [(31, [false, false])]
  ro := [false]

theorem made_Dice_Bool_ok : Con.OK Tryz.prog made_Dice_Bool_con :=
  con_of tabOk mixedOk made_Dice_Bool_d made_Dice_Bool_con Tryz.f89 (Tryz.f89.body.getD .skip) Tryz.func89 (by kernel_rfl) (by kernel_rfl) (Nat.le_of_ble_eq_true (by kernel_rfl)) (by kernel_rfl) (And.intro made_Dice_Next_ok trivial) (by kernel_rfl) (by kernel_rfl)
    trivial
    (fun h => by kernel_rfl)

noncomputable def made_Dice_Windows_con : Con := ⟨37, [.ref [(.list (.int .i64)), (.int .i64)]], [(.list (.int .i64)), (.int .i64)], ⟨[.own 63 ty16], [.ref [(.list (.int .i64)), (.int .i64)]]⟩, [ty16, (.list (.int .i64)), (.int .i64)], fun h => Pw.made_Dice_Windows h.1 h.2⟩

noncomputable def made_Dice_Windows_d : FnD where
  N := 38
  np := 1
  cs := [made_Dice_Next_con, made_Dice_Pick_con]
  ds := [⟨0, [.s (.one (.bp 0 0)), .s (.one (.ol 1000000)), .s (.one (.d (.int .i64))), .s (.one (.d (.int .i64))), .b (.cell [.d (.list (.int .i64)), .d (.int .i64)] false), .b (.lst 63 ty10 false)], [(.int .i64), (.int .i64), (.list (.int .i64)), (.int .i64), ty16], [⟨.exit 0, [.s (.one (.ol 1500100)), .b (.cell [.d (.list (.int .i64)), .d (.int .i64)] false), .b (.lst 63 ty10 false)], [(.list (.int .i64)), (.int .i64), ty16]⟩], fun h => Pw.made_Dice_Windows_l0_step h.1 h.2.1 h.2.2.1 h.2.2.2.1 h.2.2.2.2⟩]
  modes := [(31, [false, false]), (38, [false, false])]
  keep := [(0, ⟨[0, 3, 4, 5], [0], [⟨1000000, 63, ty10, [.slot 3], false⟩], []⟩)]
  keepX := [(0, .exit 0, ⟨[3], [0], [⟨1500100, 63, ty10, [.slot 3], false⟩], []⟩)]
  ro := [true]

theorem made_Dice_Windows_ok : Con.OK Tryz.prog made_Dice_Windows_con :=
  con_of tabOk mixedOk made_Dice_Windows_d made_Dice_Windows_con Tryz.f37 (Tryz.f37.body.getD .skip) Tryz.func37 (by kernel_rfl) (by kernel_rfl) (Nat.le_of_ble_eq_true (by kernel_rfl)) (by kernel_rfl) (And.intro made_Dice_Next_ok (And.intro made_Dice_Pick_ok trivial)) (by kernel_rfl) (by kernel_rfl)
    (And.intro (fun h => by kernel_rfl) trivial)
    (fun h => by kernel_rfl)

noncomputable def made_Dice_Staff_con : Con := ⟨81, [.ref [(.list (.int .i64)), (.int .i64)]], [(.list (.int .i64)), (.int .i64)], ⟨[.vn ty86 [3]], [.ref [(.list (.int .i64)), (.int .i64)]]⟩, [ty86, (.list (.int .i64)), (.int .i64)], fun h => Pw.made_Dice_Staff h.1 h.2⟩

noncomputable def made_Dice_Staff_d : FnD where
  N := 109
  np := 1
  cs := [made_Dice_Next_con, made_Dice_Pick_con, made_Dice_Zone_con, made_names_con, made_Dice_Bool_con, made_Dice_Windows_con]
  ds := [⟨0, [.s (.one (.bp 0 0)), .s (.one (.bp 128 0)), .s (.one (.bp 192 0)), .s (.one (.d (.int .i64))), .b (.cell [.d (.list (.int .i64)), .d (.int .i64)] false), .b (.cell [.nil, .nil, .nil, .nil] false), .b (.cell [.ol 1000000, .nil, .nil, .nil] false), .b (.lst 58 ty67 false)], [(.int .i64), (.list (.int .i64)), (.int .i64), ty68], [⟨.exit 0, [.s (.one (.bp 0 0)), .s (.one (.bp 128 0)), .s (.one (.bp 192 0)), .b (.cell [.d (.list (.int .i64)), .d (.int .i64)] false), .b (.cell [.nil, .nil, .nil, .nil] false), .b (.cell [.ol 1500100, .nil, .nil, .nil] false), .b (.lst 58 ty67 false)], [(.list (.int .i64)), (.int .i64), ty68]⟩], fun h => Pw.made_Dice_Staff_l0_step h.1 h.2.1 h.2.2.1 h.2.2.2⟩,
    ⟨2, [.s (.one (.bp 0 0)), .s (.one (.bp 128 0)), .s (.one (.bp 192 0)), .s (.one (.d (.int .i64))), .b (.cell [.d (.list (.int .i64)), .d (.int .i64)] false), .b (.cell [.nil, .nil, .nil, .nil] false), .b (.cell [.ol 1002000, .ol 1002001, .nil, .nil] false), .b (.lst 58 ty67 false), .b (.lst 110 ty55 false)], [(.int .i64), (.list (.int .i64)), (.int .i64), ty68, ty58], [⟨.exit 2, [.s (.one (.bp 0 0)), .s (.one (.bp 128 0)), .s (.one (.bp 192 0)), .b (.cell [.d (.list (.int .i64)), .d (.int .i64)] false), .b (.cell [.nil, .nil, .nil, .nil] false), .b (.cell [.ol 1502300, .ol 1502301, .nil, .nil] false), .b (.lst 58 ty67 false), .b (.lst 110 ty55 false)], [(.list (.int .i64)), (.int .i64), ty68, ty58]⟩], fun h => Pw.made_Dice_Staff_l2_step h.1 h.2.1 h.2.2.1 h.2.2.2.1 h.2.2.2.2⟩,
    ⟨4, [.s (.one (.bp 0 0)), .s (.one (.bp 128 0)), .s (.one (.bp 192 0)), .s (.one (.d (.int .i64))), .b (.cell [.d (.list (.int .i64)), .d (.int .i64)] false), .b (.cell [.nil, .nil, .nil, .nil] false), .b (.cell [.ol 1004000, .ol 1004001, .ol 1004002, .nil] false), .b (.lst 58 ty67 false), .b (.lst 110 ty55 false), .b (.lst 105 ty27 false)], [(.int .i64), (.list (.int .i64)), (.int .i64), ty68, ty58, ty32], [⟨.exit 4, [.s (.one (.bp 128 0)), .s (.one (.bp 192 0)), .b (.cell [.d (.list (.int .i64)), .d (.int .i64)] false), .b (.cell [.nil, .nil, .nil, .nil] false), .b (.cell [.ol 1504500, .ol 1504501, .ol 1504502, .nil] false), .b (.lst 58 ty67 false), .b (.lst 110 ty55 false), .b (.lst 105 ty27 false)], [(.list (.int .i64)), (.int .i64), ty68, ty58, ty32]⟩], fun h => Pw.made_Dice_Staff_l4_step h.1 h.2.1 h.2.2.1 h.2.2.2.1 h.2.2.2.2.1 h.2.2.2.2.2⟩,
    ⟨6, [.s (.one (.bp 0 0)), .s (.one (.bp 128 0)), .s (.one (.bp 192 0)), .s (.one (.d (.int .i64))), .s (.one (.bp 512 0)), .s (.one (.d (.int .i64))), .s (.one (.d (.int .i64))), .b (.cell [.d (.list (.int .i64)), .d (.int .i64)] false), .b (.cell [.nil, .nil, .nil, .nil] false), .b (.cell [.ol 1006000, .ol 1006001, .ol 1006002, .nil] false), .b (.cell [.d .str, .d (.int .i64), .ol 1006003] false), .b (.lst 58 ty67 false), .b (.lst 110 ty55 false), .b (.lst 105 ty27 false), .b (.lst 3 (.int .i64) false)], [(.int .i64), (.int .i64), (.int .i64), (.list (.int .i64)), (.int .i64), .str, (.int .i64), ty68, ty58, ty32, (.list (.int .i64))], [⟨.exit 6, [.s (.one (.bp 0 0)), .s (.one (.bp 128 0)), .s (.one (.bp 192 0)), .s (.one (.d (.int .i64))), .s (.one (.bp 512 0)), .b (.cell [.d (.list (.int .i64)), .d (.int .i64)] false), .b (.cell [.nil, .nil, .nil, .nil] false), .b (.cell [.ol 1506700, .ol 1506701, .ol 1506702, .nil] false), .b (.cell [.d .str, .d (.int .i64), .ol 1506703] false), .b (.lst 58 ty67 false), .b (.lst 110 ty55 false), .b (.lst 105 ty27 false), .b (.lst 3 (.int .i64) false)], [(.int .i64), (.list (.int .i64)), (.int .i64), .str, (.int .i64), ty68, ty58, ty32, (.list (.int .i64))]⟩], fun h => Pw.made_Dice_Staff_l6_step h.1 h.2.1 h.2.2.1 h.2.2.2.1 h.2.2.2.2.1 h.2.2.2.2.2.1 h.2.2.2.2.2.2.1 h.2.2.2.2.2.2.2.1 h.2.2.2.2.2.2.2.2.1 h.2.2.2.2.2.2.2.2.2.1 h.2.2.2.2.2.2.2.2.2.2⟩]
  modes := [(31, [false, false]), (36, [false, false]), (37, [false]), (38, [false, false]), (82, []), (89, [false, false])]
  keep := [(0, ⟨[0, 2, 3, 4], [0, 128, 192], [⟨1000000, 58, ty67, [.cell 192 0], false⟩], []⟩),
    (2, ⟨[0, 2, 3, 5], [0, 128, 192], [⟨1002000, 58, ty67, [.cell 192 0], false⟩, ⟨1002001, 110, ty55, [.cell 192 1], false⟩], []⟩),
    (4, ⟨[0, 2, 3, 7], [0, 128, 192], [⟨1004000, 58, ty67, [.cell 192 0], false⟩, ⟨1004001, 110, ty55, [.cell 192 1], false⟩, ⟨1004002, 105, ty27, [.cell 192 2], false⟩], []⟩),
    (6, ⟨[0, 2, 3, 7, 8, 9, 10], [0, 128, 192, 512], [⟨1006000, 58, ty67, [.cell 192 0], false⟩, ⟨1006001, 110, ty55, [.cell 192 1], false⟩, ⟨1006002, 105, ty27, [.cell 192 2], false⟩, ⟨1006003, 3, (.int .i64), [.cell 512 2], false⟩], []⟩)]
  keepX := [(0, .exit 0, ⟨[0, 2, 3], [0, 128, 192], [⟨1500100, 58, ty67, [.cell 192 0], false⟩], []⟩),
    (2, .exit 2, ⟨[0, 2, 3], [0, 128, 192], [⟨1502300, 58, ty67, [.cell 192 0], false⟩, ⟨1502301, 110, ty55, [.cell 192 1], false⟩], []⟩),
    (4, .exit 4, ⟨[2, 3], [0, 128, 192], [⟨1504500, 58, ty67, [.cell 192 0], false⟩, ⟨1504501, 110, ty55, [.cell 192 1], false⟩, ⟨1504502, 105, ty27, [.cell 192 2], false⟩], []⟩),
    (6, .exit 6, ⟨[0, 2, 3, 7, 8], [0, 128, 192, 512], [⟨1506700, 58, ty67, [.cell 192 0], false⟩, ⟨1506701, 110, ty55, [.cell 192 1], false⟩, ⟨1506702, 105, ty27, [.cell 192 2], false⟩, ⟨1506703, 3, (.int .i64), [.cell 512 2], false⟩], []⟩)]
  ro := [false]
  dw := [(5, [[], [], [], [1344], [], [], [], [], [], [0], [1792], [1856, 1000000], [], [192]]), (9, [[2432], [], [], [], [], [], [], [], [], [], [0], [], [0], [], [384], [384]])]
  ns := [3]

theorem made_Dice_Staff_ok : Con.OK Tryz.prog made_Dice_Staff_con :=
  con_of tabOk mixedOk made_Dice_Staff_d made_Dice_Staff_con Tryz.f81 (Tryz.f81.body.getD .skip) Tryz.func81 (by kernel_rfl) (by kernel_rfl) (Nat.le_of_ble_eq_true (by kernel_rfl)) (by kernel_rfl) (And.intro made_Dice_Next_ok (And.intro made_Dice_Pick_ok (And.intro made_Dice_Zone_ok (And.intro made_names_ok (And.intro made_Dice_Bool_ok (And.intro made_Dice_Windows_ok trivial)))))) (by kernel_rfl) (by kernel_rfl)
    (And.intro (fun h => by kernel_rfl) (And.intro (fun h => by kernel_rfl) (And.intro (fun h => by kernel_rfl) (And.intro (fun h => by kernel_rfl) trivial))))
    (fun h => by kernel_rfl)

noncomputable def made_Dice_Layer_con : Con := ⟨61, [.ref [(.list (.int .i64)), (.int .i64)], .v ty86, .v .str], [(.list (.int .i64)), (.int .i64), ty86, .str], ⟨[.v ty74], [.ref [(.list (.int .i64)), (.int .i64)]]⟩, [ty74, (.list (.int .i64)), (.int .i64)], fun h => Pw.made_Dice_Layer h.1 h.2.1 h.2.2.1 h.2.2.2⟩

noncomputable def made_Dice_Layer_d : FnD where
  N := 77
  np := 3
  cs := [made_Dice_Next_con, made_Dice_Pick_con, made_Dice_Bool_con, made_Dice_Windows_con]
  ds := [⟨0, [.s (.one (.bp 0 0)), .s (.one (.bp 256 0)), .s (.one (.bp 384 0)), .s (.one (.bp 448 0)), .s (.one (.d (.int .i64))), .b (.cell [.d (.list (.int .i64)), .d (.int .i64)] false), .b (.cell [.d ty68, .d ty58, .d ty32, .d ty80] false), .b (.cell [.d .str, .d (.int .i64), .d (.int .i64), .d (.int .i64), .d (.int .i64), .d (.int .i64), .nil, .nil, .d (.int .i64), .d (.int .i64)] false), .b (.cell [.d .str, .d (.int .i64), .d (.int .i64), .d (.int .i64), .d (.int .i64), .d (.int .i64), .ol 1000000, .nil, .d (.int .i64), .d (.int .i64)] false), .b (.lst 3 (.int .i64) false)], [(.int .i64), (.list (.int .i64)), (.int .i64), ty68, ty58, ty32, ty80, .str, (.int .i64), (.int .i64), (.int .i64), (.int .i64), (.int .i64), (.int .i64), (.int .i64), .str, (.int .i64), (.int .i64), (.int .i64), (.int .i64), (.int .i64), (.int .i64), (.int .i64), (.list (.int .i64))], [⟨.exit 0, [.s (.one (.bp 0 0)), .s (.one (.bp 256 0)), .s (.one (.bp 384 0)), .s (.one (.bp 448 0)), .b (.cell [.d (.list (.int .i64)), .d (.int .i64)] false), .b (.cell [.d ty68, .d ty58, .d ty32, .d ty80] false), .b (.cell [.d .str, .d (.int .i64), .d (.int .i64), .d (.int .i64), .d (.int .i64), .d (.int .i64), .nil, .nil, .d (.int .i64), .d (.int .i64)] false), .b (.cell [.d .str, .d (.int .i64), .d (.int .i64), .d (.int .i64), .d (.int .i64), .d (.int .i64), .ol 1500100, .nil, .d (.int .i64), .d (.int .i64)] false), .b (.lst 3 (.int .i64) false)], [(.list (.int .i64)), (.int .i64), ty68, ty58, ty32, ty80, .str, (.int .i64), (.int .i64), (.int .i64), (.int .i64), (.int .i64), (.int .i64), (.int .i64), .str, (.int .i64), (.int .i64), (.int .i64), (.int .i64), (.int .i64), (.int .i64), (.int .i64), (.list (.int .i64))]⟩], fun h => Pw.made_Dice_Layer_l0_step h.1 h.2.1 h.2.2.1 h.2.2.2.1 h.2.2.2.2.1 h.2.2.2.2.2.1 h.2.2.2.2.2.2.1 h.2.2.2.2.2.2.2.1 h.2.2.2.2.2.2.2.2.1 h.2.2.2.2.2.2.2.2.2.1 h.2.2.2.2.2.2.2.2.2.2.1 h.2.2.2.2.2.2.2.2.2.2.2.1 h.2.2.2.2.2.2.2.2.2.2.2.2.1 h.2.2.2.2.2.2.2.2.2.2.2.2.2.1 h.2.2.2.2.2.2.2.2.2.2.2.2.2.2.1 h.2.2.2.2.2.2.2.2.2.2.2.2.2.2.2.1 h.2.2.2.2.2.2.2.2.2.2.2.2.2.2.2.2.1 h.2.2.2.2.2.2.2.2.2.2.2.2.2.2.2.2.2.1 h.2.2.2.2.2.2.2.2.2.2.2.2.2.2.2.2.2.2.1 h.2.2.2.2.2.2.2.2.2.2.2.2.2.2.2.2.2.2.2.1 h.2.2.2.2.2.2.2.2.2.2.2.2.2.2.2.2.2.2.2.2.1 h.2.2.2.2.2.2.2.2.2.2.2.2.2.2.2.2.2.2.2.2.2.1 h.2.2.2.2.2.2.2.2.2.2.2.2.2.2.2.2.2.2.2.2.2.2.1 h.2.2.2.2.2.2.2.2.2.2.2.2.2.2.2.2.2.2.2.2.2.2.2⟩]
  modes := [(31, [false, false]), (37, [false]), (38, [false, false]), (89, [false, false])]
  keep := [(0, ⟨[0, 4, 6, 7, 8], [0, 256, 384, 448], [⟨1000000, 3, (.int .i64), [.cell 448 6], false⟩], []⟩)]
  keepX := [(0, .exit 0, ⟨[0, 4, 6, 7], [0, 256, 384, 448], [⟨1500100, 3, (.int .i64), [.cell 448 6], false⟩], []⟩)]
  ro := [false]
  dw := [(7, [[], [], [], [], [], [], [0], [3200], [3264, 1000000], [], [448]])]

theorem made_Dice_Layer_ok : Con.OK Tryz.prog made_Dice_Layer_con :=
  con_of tabOk mixedOk made_Dice_Layer_d made_Dice_Layer_con Tryz.f61 (Tryz.f61.body.getD .skip) Tryz.func61 (by kernel_rfl) (by kernel_rfl) (Nat.le_of_ble_eq_true (by kernel_rfl)) (by kernel_rfl) (And.intro made_Dice_Next_ok (And.intro made_Dice_Pick_ok (And.intro made_Dice_Bool_ok (And.intro made_Dice_Windows_ok trivial)))) (by kernel_rfl) (by kernel_rfl)
    (And.intro (fun h => by kernel_rfl) trivial)
    (fun h => by kernel_rfl)

noncomputable def made_Dice_Instant_con : Con := ⟨29, [.ref [(.list (.int .i64)), (.int .i64)]], [(.list (.int .i64)), (.int .i64)], ⟨[.v (.int .i64)], [.ref [(.list (.int .i64)), (.int .i64)]]⟩, [(.int .i64), (.list (.int .i64)), (.int .i64)], fun h => Pw.made_Dice_Instant h.1 h.2⟩

noncomputable def made_Dice_Instant_d : FnD where
  N := 16
  np := 1
  cs := [made_Dice_Next_con, made_Dice_Pick_con, made_Dice_Bool_con]
  ds := []
  modes := [(31, [false, false]), (38, [false, false]), (89, [false, false])]
  ro := [false]

theorem made_Dice_Instant_ok : Con.OK Tryz.prog made_Dice_Instant_con :=
  con_of tabOk mixedOk made_Dice_Instant_d made_Dice_Instant_con Tryz.f29 (Tryz.f29.body.getD .skip) Tryz.func29 (by kernel_rfl) (by kernel_rfl) (Nat.le_of_ble_eq_true (by kernel_rfl)) (by kernel_rfl) (And.intro made_Dice_Next_ok (And.intro made_Dice_Pick_ok (And.intro made_Dice_Bool_ok trivial))) (by kernel_rfl) (by kernel_rfl)
    trivial
    (fun h => by kernel_rfl)

noncomputable def made_Dice_Edit_con : Con := ⟨27, [.ref [(.list (.int .i64)), (.int .i64)], .v ty86], [(.list (.int .i64)), (.int .i64), ty86], ⟨[.v ty44], [.ref [(.list (.int .i64)), (.int .i64)]]⟩, [ty44, (.list (.int .i64)), (.int .i64)], fun h => Pw.made_Dice_Edit h.1 h.2.1 h.2.2⟩

noncomputable def made_Dice_Edit_d : FnD where
  N := 52
  np := 2
  cs := [made_Dice_Next_con, made_Dice_Pick_con, made_Dice_Bool_con, made_Dice_Instant_con]
  ds := []
  modes := [(29, [false]), (31, [false, false]), (38, [false, false]), (89, [false, false])]
  ro := [false]
  dw := [(3, [[], [], [], [1344], [0, 1344], [], [], [384]]), (8, [[], [], [], [], [], [], [0], [], [], [], [], [384]])]

theorem made_Dice_Edit_ok : Con.OK Tryz.prog made_Dice_Edit_con :=
  con_of tabOk mixedOk made_Dice_Edit_d made_Dice_Edit_con Tryz.f27 (Tryz.f27.body.getD .skip) Tryz.func27 (by kernel_rfl) (by kernel_rfl) (Nat.le_of_ble_eq_true (by kernel_rfl)) (by kernel_rfl) (And.intro made_Dice_Next_ok (And.intro made_Dice_Pick_ok (And.intro made_Dice_Bool_ok (And.intro made_Dice_Instant_ok trivial)))) (by kernel_rfl) (by kernel_rfl)
    trivial
    (fun h => by kernel_rfl)

noncomputable def made_Dice_Config_con : Con := ⟨23, [.ref [(.list (.int .i64)), (.int .i64)], .v (.int .i64)], [(.list (.int .i64)), (.int .i64), (.int .i64)], ⟨[.v ty86], [.ref [(.list (.int .i64)), (.int .i64)]]⟩, [ty86, (.list (.int .i64)), (.int .i64)], fun h => Pw.made_Dice_Config h.1 h.2.1 h.2.2⟩

noncomputable def made_Dice_Config_d : FnD where
  N := 69
  np := 2
  cs := [made_Dice_Next_con, made_names_con, made_Dice_Staff_con, made_Dice_Layer_con, made_Dice_Edit_con]
  ds := [⟨0, [.s (.one (.bp 0 0)), .s (.one (.bp 256 0)), .s (.one (.bp 320 0)), .s (.one (.d (.int .i64))), .b (.cell [.d (.list (.int .i64)), .d (.int .i64)] false), .b (.cell [.nil, .nil, .nil, .nil] false), .b (.cell [.d ty68, .d ty58, .d ty32, .ol 1000000] false), .b (.lst 38 ty79 true)], [(.int .i64), (.list (.int .i64)), (.int .i64), ty68, ty58, ty32, ty80], [⟨.exit 0, [.s (.one (.bp 256 0)), .s (.one (.bp 320 0)), .b (.cell [.d (.list (.int .i64)), .d (.int .i64)] false), .b (.cell [.nil, .nil, .nil, .nil] false), .b (.cell [.d ty68, .d ty58, .d ty32, .ol 1500100] false), .b (.lst 38 ty79 true)], [(.list (.int .i64)), (.int .i64), ty68, ty58, ty32, ty80]⟩], fun h => Pw.made_Dice_Config_l0_step h.1 h.2.1 h.2.2.1 h.2.2.2.1 h.2.2.2.2.1 h.2.2.2.2.2.1 h.2.2.2.2.2.2⟩,
    ⟨2, [.s (.one (.bp 0 0)), .s (.one (.bp 256 0)), .s (.one (.bp 320 0)), .s (.one (.d (.int .i64))), .s (.one (.bp 448 0)), .s (.one (.d (.int .i64))), .b (.cell [.d (.list (.int .i64)), .d (.int .i64)] false), .b (.cell [.nil, .nil, .nil, .nil] false), .b (.cell [.d ty68, .d ty58, .d ty32, .ol 1002000] false), .b (.cell [.d .str, .ol 1002001, .nil] false), .b (.lst 38 ty79 true), .b (.lst 89 ty74 false)], [(.int .i64), (.int .i64), (.list (.int .i64)), (.int .i64), ty68, ty58, ty32, .str, ty80, ty75], [⟨.exit 2, [.s (.one (.bp 0 0)), .s (.one (.bp 256 0)), .s (.one (.bp 320 0)), .s (.one (.d (.int .i64))), .s (.one (.bp 448 0)), .b (.cell [.d (.list (.int .i64)), .d (.int .i64)] false), .b (.cell [.nil, .nil, .nil, .nil] false), .b (.cell [.d ty68, .d ty58, .d ty32, .ol 1502300] false), .b (.cell [.d .str, .ol 1502301, .nil] false), .b (.lst 38 ty79 true), .b (.lst 89 ty74 false)], [(.int .i64), (.list (.int .i64)), (.int .i64), ty68, ty58, ty32, .str, ty80, ty75]⟩], fun h => Pw.made_Dice_Config_l2_step h.1 h.2.1 h.2.2.1 h.2.2.2.1 h.2.2.2.2.1 h.2.2.2.2.2.1 h.2.2.2.2.2.2.1 h.2.2.2.2.2.2.2.1 h.2.2.2.2.2.2.2.2.1 h.2.2.2.2.2.2.2.2.2⟩,
    ⟨4, [.s (.one (.bp 0 0)), .s (.one (.bp 256 0)), .s (.one (.bp 320 0)), .s (.one (.d (.int .i64))), .s (.one (.bp 448 0)), .s (.one (.d (.int .i64))), .b (.cell [.d (.list (.int .i64)), .d (.int .i64)] false), .b (.cell [.nil, .nil, .nil, .nil] false), .b (.cell [.d ty68, .d ty58, .d ty32, .ol 1004000] false), .b (.cell [.d .str, .ol 1004001, .ol 1004002] false), .b (.lst 38 ty79 true), .b (.lst 89 ty74 false), .b (.lst 46 ty44 false)], [(.int .i64), (.int .i64), (.list (.int .i64)), (.int .i64), ty68, ty58, ty32, .str, ty80, ty75, ty46], [⟨.exit 4, [.s (.one (.bp 0 0)), .s (.one (.bp 256 0)), .s (.one (.bp 320 0)), .s (.one (.d (.int .i64))), .s (.one (.bp 448 0)), .b (.cell [.d (.list (.int .i64)), .d (.int .i64)] false), .b (.cell [.nil, .nil, .nil, .nil] false), .b (.cell [.d ty68, .d ty58, .d ty32, .ol 1504500] false), .b (.cell [.d .str, .ol 1504501, .ol 1504502] false), .b (.lst 38 ty79 true), .b (.lst 89 ty74 false), .b (.lst 46 ty44 false)], [(.int .i64), (.list (.int .i64)), (.int .i64), ty68, ty58, ty32, .str, ty80, ty75, ty46]⟩], fun h => Pw.made_Dice_Config_l4_step h.1 h.2.1 h.2.2.1 h.2.2.2.1 h.2.2.2.2.1 h.2.2.2.2.2.1 h.2.2.2.2.2.2.1 h.2.2.2.2.2.2.2.1 h.2.2.2.2.2.2.2.2.1 h.2.2.2.2.2.2.2.2.2.1 h.2.2.2.2.2.2.2.2.2.2⟩]
  modes := [(27, [false, false]), (31, [false, false]), (61, [false, false, false]), (81, [false]), (82, [])]
  keep := [(0, ⟨[0, 4, 5, 6], [0, 256, 320], [⟨1000000, 38, ty79, [.cell 320 3], true⟩], []⟩),
    (2, ⟨[0, 4, 5, 6, 7, 8], [0, 256, 320, 448], [⟨1002000, 38, ty79, [.cell 320 3], false⟩, ⟨1002001, 89, ty74, [.cell 448 1], false⟩], []⟩),
    (4, ⟨[0, 4, 5, 6, 7, 9], [0, 256, 320, 448], [⟨1004000, 38, ty79, [.cell 320 3], false⟩, ⟨1004001, 89, ty74, [.cell 448 1], false⟩, ⟨1004002, 46, ty44, [.cell 448 2], false⟩], []⟩)]
  keepX := [(0, .exit 0, ⟨[4, 5], [0, 256, 320], [⟨1500100, 38, ty79, [.cell 320 3], false⟩], []⟩),
    (2, .exit 2, ⟨[0, 4, 5, 6, 7], [0, 256, 320, 448], [⟨1502300, 38, ty79, [.cell 320 3], false⟩, ⟨1502301, 89, ty74, [.cell 448 1], false⟩], []⟩),
    (4, .exit 4, ⟨[0, 4, 5, 6, 7], [0, 256, 320, 448], [⟨1504500, 38, ty79, [.cell 320 3], false⟩, ⟨1504501, 89, ty74, [.cell 448 1], false⟩, ⟨1504502, 46, ty44, [.cell 448 2], false⟩], []⟩)]
  ro := [false]
  dw := [(9, [[], [], [], [], [2432], [], [], [], [], [], [0, 1002000], [2880], [2944, 1002000, 1002001], [], [448]]), (13, [[], [], [], [], [0, 1004000], [3776], [3840, 1004001, 1004002], [], [448]])]

theorem made_Dice_Config_ok : Con.OK Tryz.prog made_Dice_Config_con :=
  con_of tabOk mixedOk made_Dice_Config_d made_Dice_Config_con Tryz.f23 (Tryz.f23.body.getD .skip) Tryz.func23 (by kernel_rfl) (by kernel_rfl) (Nat.le_of_ble_eq_true (by kernel_rfl)) (by kernel_rfl) (And.intro made_Dice_Next_ok (And.intro made_names_ok (And.intro made_Dice_Staff_ok (And.intro made_Dice_Layer_ok (And.intro made_Dice_Edit_ok trivial))))) (by kernel_rfl) (by kernel_rfl)
    (And.intro (fun h => by kernel_rfl) (And.intro (fun h => by kernel_rfl) (And.intro (fun h => by kernel_rfl) trivial)))
    (fun h => by kernel_rfl)

noncomputable def made_Mod_con : Con := ⟨24, [.v (.int .i64), .v (.int .i64)], [(.int .i64), (.int .i64)], ⟨[.v (.int .i64)], []⟩, [(.int .i64)], fun h => Pw.made_Mod h.1 h.2⟩

noncomputable def made_Mod_d : FnD where
  N := 12
  np := 2
  cs := []
  ds := []
  ro := [false]

theorem made_Mod_ok : Con.OK Tryz.prog made_Mod_con :=
  con_of tabOk mixedOk made_Mod_d made_Mod_con Tryz.f24 (Tryz.f24.body.getD .skip) Tryz.func24 (by kernel_rfl) (by kernel_rfl) (Nat.le_of_ble_eq_true (by kernel_rfl)) (by kernel_rfl) trivial (by kernel_rfl) (by kernel_rfl)
    trivial
    (fun h => by kernel_rfl)

noncomputable def r04_in_con : Con := ⟨168, [.v (.int .i64), .v (.int .i64), .v (.int .i64)], [(.int .i64), (.int .i64), (.int .i64)], ⟨[.v .bool], []⟩, [.bool], fun h => Pw.r04_in h.1 h.2.1 h.2.2⟩

noncomputable def r04_in_d : FnD where
  N := 15
  np := 3
  cs := []
  ds := []
  ro := [false]

theorem r04_in_ok : Con.OK Tryz.prog r04_in_con :=
  con_of tabOk mixedOk r04_in_d r04_in_con Tryz.f168 (Tryz.f168.body.getD .skip) Tryz.func168 (by kernel_rfl) (by kernel_rfl) (Nat.le_of_ble_eq_true (by kernel_rfl)) (by kernel_rfl) trivial (by kernel_rfl) (by kernel_rfl)
    trivial
    (fun h => by kernel_rfl)
end Go.Proofs.Pk
