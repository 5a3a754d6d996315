/- Contracts: each given function is its plain function, printed by a program. -/
import Derived.Test.YtielflihgdebiaaGreatCon2
open Go Go.Lft
set_option linter.unusedVariables false
set_option maxRecDepth 100000
namespace Go.Proofs.Pk

noncomputable def duty_fits_con : Con := ⟨122, [.v ty86, .v ty74], [ty86, ty74], ⟨[.v .bool], []⟩, [.bool], fun h => Pw.duty_fits h.1 h.2⟩

noncomputable def duty_fits_d : FnD where
  N := 16
  np := 2
  cs := [resolve_Check_con]
  ds := []
  modes := [(90, [false])]
  ro := [false]

theorem duty_fits_ok : Con.OK Tryz.prog duty_fits_con :=
  con_of tabOk mixedOk duty_fits_d duty_fits_con Tryz.f122 (Tryz.f122.body.getD .skip) Tryz.func122 (by kernel_rfl) (by kernel_rfl) (Nat.le_of_ble_eq_true (by kernel_rfl)) (by kernel_rfl) (And.intro resolve_Check_ok trivial) (by kernel_rfl) (by kernel_rfl)
    trivial
    (fun h => by kernel_rfl)

noncomputable def duty_Range_con : Con := ⟨179, [.v (.int .i64), .v (.int .i64)], [(.int .i64), (.int .i64)], ⟨[.v .bool], []⟩, [.bool], fun h => Pw.duty_Range h.1 h.2⟩

noncomputable def duty_Range_d : FnD where
  N := 26
  np := 2
  cs := []
  ds := []
  ro := [false]

theorem duty_Range_ok : Con.OK Tryz.prog duty_Range_con :=
  con_of tabOk mixedOk duty_Range_d duty_Range_con Tryz.f179 (Tryz.f179.body.getD .skip) Tryz.func179 (by kernel_rfl) (by kernel_rfl) (Nat.le_of_ble_eq_true (by kernel_rfl)) (by kernel_rfl) trivial (by kernel_rfl) (by kernel_rfl)
    trivial
    (fun h => by kernel_rfl)

noncomputable def duty_check_con : Con := ⟨118, [.v ty86, .v ty74, .v (.int .i64), .v (.int .i64)], [ty86, ty74, (.int .i64), (.int .i64)], ⟨[.v (.int .i64)], []⟩, [(.int .i64)], fun h => Pw.duty_check h.1 h.2.1 h.2.2.1 h.2.2.2⟩

noncomputable def duty_check_d : FnD where
  N := 17
  np := 4
  cs := [duty_fits_con, duty_Range_con]
  ds := []
  modes := [(122, [false, false]), (179, [false, false])]
  ro := [false]

theorem duty_check_ok : Con.OK Tryz.prog duty_check_con :=
  con_of tabOk mixedOk duty_check_d duty_check_con Tryz.f118 (Tryz.f118.body.getD .skip) Tryz.func118 (by kernel_rfl) (by kernel_rfl) (Nat.le_of_ble_eq_true (by kernel_rfl)) (by kernel_rfl) (And.intro duty_fits_ok (And.intro duty_Range_ok trivial)) (by kernel_rfl) (by kernel_rfl)
    trivial
    (fun h => by kernel_rfl)

noncomputable def zone_Of_con : Con := ⟨102, [.v ty67], [ty67], ⟨[.v ty31, .v (.int .i64)], []⟩, [ty31, (.int .i64)], fun h => Pw.zone_Of h⟩

noncomputable def zone_Of_d : FnD where
  N := 16
  np := 1
  cs := [zone_Transitions_con]
  ds := []
  modes := [(165, [false])]
  ro := [false, false]

theorem zone_Of_ok : Con.OK Tryz.prog zone_Of_con :=
  con_of tabOk mixedOk zone_Of_d zone_Of_con Tryz.f102 (Tryz.f102.body.getD .skip) Tryz.func102 (by kernel_rfl) (by kernel_rfl) (Nat.le_of_ble_eq_true (by kernel_rfl)) (by kernel_rfl) (And.intro zone_Transitions_ok trivial) (by kernel_rfl) (by kernel_rfl)
    trivial
    (fun h => by kernel_rfl)

noncomputable def zone_Tables_con : Con := ⟨180, [.v ty68], [ty68], ⟨[.own 142 ty35], []⟩, [ty35], fun h => Pw.zone_Tables h⟩

noncomputable def zone_Tables_d : FnD where
  N := 25
  np := 1
  cs := [zone_Of_con]
  ds := [⟨0, [.s (.one (.ol 1000000)), .s (.one (.d ty68)), .s (.one (.d (.int .i64))), .s (.one (.d (.int .i64))), .b (.lst 142 ty31 false)], [ty68, (.int .i64), (.int .i64), ty35], [⟨.exit 0, [.s (.one (.ol 1500100)), .b (.lst 142 ty31 false)], [ty35]⟩], fun h => Pw.zone_Tables_l0_step h.1 h.2.1 h.2.2.1 h.2.2.2⟩]
  modes := [(102, [false])]
  keep := [(0, ⟨[3, 8, 9, 10], [], [⟨1000000, 142, ty31, [.slot 3], false⟩], []⟩)]
  keepX := [(0, .exit 0, ⟨[3], [], [⟨1500100, 142, ty31, [.slot 3], false⟩], []⟩)]
  ro := [true]

theorem zone_Tables_ok : Con.OK Tryz.prog zone_Tables_con :=
  con_of tabOk mixedOk zone_Tables_d zone_Tables_con Tryz.f180 (Tryz.f180.body.getD .skip) Tryz.func180 (by kernel_rfl) (by kernel_rfl) (Nat.le_of_ble_eq_true (by kernel_rfl)) (by kernel_rfl) (And.intro zone_Of_ok trivial) (by kernel_rfl) (by kernel_rfl)
    (And.intro (fun h => by kernel_rfl) trivial)
    (fun h => by kernel_rfl)

noncomputable def duty_view_con : Con := ⟨119, [.v ty86], [ty86], ⟨[.v ty88], []⟩, [ty88], fun h => Pw.duty_view h⟩

noncomputable def duty_view_d : FnD where
  N := 8
  np := 1
  cs := [zone_Tables_con]
  ds := []
  modes := [(180, [false])]
  ro := [false]
  dw := [(1, [[], [], [], [384], [], [128]])]

theorem duty_view_ok : Con.OK Tryz.prog duty_view_con :=
  con_of tabOk mixedOk duty_view_d duty_view_con Tryz.f119 (Tryz.f119.body.getD .skip) Tryz.func119 (by kernel_rfl) (by kernel_rfl) (Nat.le_of_ble_eq_true (by kernel_rfl)) (by kernel_rfl) (And.intro zone_Tables_ok trivial) (by kernel_rfl) (by kernel_rfl)
    trivial
    (fun h => by kernel_rfl)

noncomputable def recur_step_con : Con := ⟨251, [.v ty74], [ty74], ⟨[.v (.int .i64)], []⟩, [(.int .i64)], fun h => Pw.recur_step h⟩

noncomputable def recur_step_d : FnD where
  N := 11
  np := 1
  cs := []
  ds := []
  ro := [false]

theorem recur_step_ok : Con.OK Tryz.prog recur_step_con :=
  con_of tabOk mixedOk recur_step_d recur_step_con Tryz.f251 (Tryz.f251.body.getD .skip) Tryz.func251 (by kernel_rfl) (by kernel_rfl) (Nat.le_of_ble_eq_true (by kernel_rfl)) (by kernel_rfl) trivial (by kernel_rfl) (by kernel_rfl)
    trivial
    (fun h => by kernel_rfl)

noncomputable def zone_Table_after_c1_con : Con := ⟨282, [.v (.int .i64), .ip [(.int .i64), ty16], .ip [(.int .i64)]], [(.int .i64), (.int .i64), ty16, (.int .i64)], ⟨[.v .bool], []⟩, [.bool], fun h => Pw.zone_Table_after_c1 h.1 h.2.1 h.2.2.1 h.2.2.2⟩

noncomputable def zone_Table_after_c1_d : FnD where
  N := 13
  np := 3
  cs := []
  ds := []
  ro := [false]

theorem zone_Table_after_c1_ok : Con.OK Tryz.prog zone_Table_after_c1_con :=
  con_of tabOk mixedOk zone_Table_after_c1_d zone_Table_after_c1_con Tryz.f282 (Tryz.f282.body.getD .skip) Tryz.func282 (by kernel_rfl) (by kernel_rfl) (Nat.le_of_ble_eq_true (by kernel_rfl)) (by kernel_rfl) trivial (by kernel_rfl) (by kernel_rfl)
    trivial
    (fun h => by kernel_rfl)

noncomputable def sort_Search_con : Con := ⟨281, [.v (.int .i64), .clo 282 [.p [(.int .i64), ty16], .p [(.int .i64)]]], [(.int .i64), (.int .i64), ty16, (.int .i64)], ⟨[.v (.int .i64)], []⟩, [(.int .i64)], fun h => Pw.sort_Search h.1 h.2.1 h.2.2.1 h.2.2.2⟩

noncomputable def sort_Search_d : FnD where
  N := 26
  np := 2
  cs := [zone_Table_after_c1_con]
  ds := [⟨0, [.s (.one (.clo 282 [.p [(.int .i64), ty16], .p [(.int .i64)]])), .s (.one (.d (.int .i64))), .s (.one (.d (.int .i64)))], [(.int .i64), ty16, (.int .i64), (.int .i64), (.int .i64)], [⟨.exit 0, [.s (.one (.d (.int .i64)))], [(.int .i64)]⟩], fun h => Pw.sort_Search_l0_step h.1 h.2.1 h.2.2.1 h.2.2.2.1 h.2.2.2.2⟩]
  modes := [(282, [false])]
  keep := [(0, ⟨[1, 5, 6], [], [], []⟩)]
  keepX := [(0, .exit 0, ⟨[5], [], [], []⟩)]
  ro := [false]

theorem sort_Search_ok : Con.OK Tryz.prog sort_Search_con :=
  con_of tabOk mixedOk sort_Search_d sort_Search_con Tryz.f281 (Tryz.f281.body.getD .skip) Tryz.func281 (by kernel_rfl) (by kernel_rfl) (Nat.le_of_ble_eq_true (by kernel_rfl)) (by kernel_rfl) (And.intro zone_Table_after_c1_ok trivial) (by kernel_rfl) (by kernel_rfl)
    (And.intro (fun h => by kernel_rfl) trivial)
    (fun h => by kernel_rfl)

noncomputable def zone_Table_after_con : Con := ⟨231, [.v ty31, .v (.int .i64)], [ty31, (.int .i64)], ⟨[.v (.int .i64)], []⟩, [(.int .i64)], fun h => Pw.zone_Table_after h.1 h.2⟩

noncomputable def zone_Table_after_d : FnD where
  N := 10
  np := 2
  cs := [sort_Search_con]
  ds := []
  modes := [(281, [false, false])]
  ro := [false]

theorem zone_Table_after_ok : Con.OK Tryz.prog zone_Table_after_con :=
  con_of tabOk mixedOk zone_Table_after_d zone_Table_after_con Tryz.f231 (Tryz.f231.body.getD .skip) Tryz.func231 (by kernel_rfl) (by kernel_rfl) (Nat.le_of_ble_eq_true (by kernel_rfl)) (by kernel_rfl) (And.intro sort_Search_ok trivial) (by kernel_rfl) (by kernel_rfl)
    trivial
    (fun h => by kernel_rfl)

noncomputable def zone_Table_before_con : Con := ⟨232, [.v ty31, .v (.int .i64)], [ty31, (.int .i64)], ⟨[.v (.int .i64)], []⟩, [(.int .i64)], fun h => Pw.zone_Table_before h.1 h.2⟩

noncomputable def zone_Table_before_d : FnD where
  N := 16
  np := 2
  cs := []
  ds := []
  ro := [false]

theorem zone_Table_before_ok : Con.OK Tryz.prog zone_Table_before_con :=
  con_of tabOk mixedOk zone_Table_before_d zone_Table_before_con Tryz.f232 (Tryz.f232.body.getD .skip) Tryz.func232 (by kernel_rfl) (by kernel_rfl) (Nat.le_of_ble_eq_true (by kernel_rfl)) (by kernel_rfl) trivial (by kernel_rfl) (by kernel_rfl)
    trivial
    (fun h => by kernel_rfl)

noncomputable def zone_Table_Pieces_con : Con := ⟨166, [.v ty31, .v (.int .i64), .v (.int .i64)], [ty31, (.int .i64), (.int .i64)], ⟨[.own 209 ty30], []⟩, [ty30], fun h => Pw.zone_Table_Pieces h.1 h.2.1 h.2.2⟩

noncomputable def zone_Table_Pieces_d : FnD where
  N := 41
  np := 3
  cs := [zone_Table_after_con, zone_Table_before_con]
  ds := [⟨0, [.s (.one (.d (.int .i64))), .s (.one (.d (.int .i64))), .s (.one (.bp 192 0)), .s (.one (.ol 1000000)), .b (.cell [.d (.int .i64), .d ty16] false), .b (.lst 209 ty25 false)], [(.int .i64), (.int .i64), (.int .i64), ty16, ty30], [⟨.exit 0, [.s (.one (.ol 1500100)), .b (.lst 209 ty25 false)], [ty30]⟩], fun h => Pw.zone_Table_Pieces_l0_step h.1 h.2.1 h.2.2.1 h.2.2.2.1 h.2.2.2.2⟩]
  modes := [(231, [false, false]), (232, [false, false])]
  keep := [(0, ⟨[1, 2, 3, 7], [192], [⟨1000000, 209, ty25, [.slot 7], false⟩], []⟩)]
  keepX := [(0, .exit 0, ⟨[7], [], [⟨1500100, 209, ty25, [.slot 7], false⟩], []⟩)]
  ro := [true]

theorem zone_Table_Pieces_ok : Con.OK Tryz.prog zone_Table_Pieces_con :=
  con_of tabOk mixedOk zone_Table_Pieces_d zone_Table_Pieces_con Tryz.f166 (Tryz.f166.body.getD .skip) Tryz.func166 (by kernel_rfl) (by kernel_rfl) (Nat.le_of_ble_eq_true (by kernel_rfl)) (by kernel_rfl) (And.intro zone_Table_after_ok (And.intro zone_Table_before_ok trivial)) (by kernel_rfl) (by kernel_rfl)
    (And.intro (fun h => by kernel_rfl) trivial)
    (fun h => by kernel_rfl)

noncomputable def zone_seconds_con : Con := ⟨289, [.v ty10], [ty10], ⟨[.v (.int .i64)], []⟩, [(.int .i64)], fun h => Pw.zone_seconds h⟩

noncomputable def zone_seconds_d : FnD where
  N := 11
  np := 1
  cs := []
  ds := []
  ro := [false]

theorem zone_seconds_ok : Con.OK Tryz.prog zone_seconds_con :=
  con_of tabOk mixedOk zone_seconds_d zone_seconds_con Tryz.f289 (Tryz.f289.body.getD .skip) Tryz.func289 (by kernel_rfl) (by kernel_rfl) (Nat.le_of_ble_eq_true (by kernel_rfl)) (by kernel_rfl) trivial (by kernel_rfl) (by kernel_rfl)
    trivial
    (fun h => by kernel_rfl)

noncomputable def zone_Table_First_con : Con := ⟨250, [.v ty31, .v ty10], [ty31, ty10], ⟨[.v (.int .i64), .v .bool], []⟩, [(.int .i64), .bool], fun h => Pw.zone_Table_First h.1 h.2⟩

noncomputable def zone_Table_First_d : FnD where
  N := 30
  np := 2
  cs := [zone_Table_Pieces_con, zone_seconds_con]
  ds := [⟨0, [.s (.one (.bp 192 0)), .s (.one (.ol 1000000)), .s (.one (.d (.int .i64))), .s (.one (.d (.int .i64))), .b (.cell [.d (.int .i64), .d (.int .i64)] false), .b (.lst 209 ty25 false)], [(.int .i64), (.int .i64), (.int .i64), (.int .i64), ty30], [⟨.ret, [.s (.one (.d (.int .i64))), .s (.one (.d .bool))], [(.int .i64), .bool]⟩, ⟨.exit 0, [], []⟩], fun h => Pw.zone_Table_First_l0_step h.1 h.2.1 h.2.2.1 h.2.2.2.1 h.2.2.2.2⟩]
  modes := [(166, [false, false, false]), (289, [false])]
  keep := [(0, ⟨[3, 10, 11, 12], [192], [⟨1000000, 209, ty25, [.slot 10], false⟩], []⟩)]
  keepX := [(0, .ret, ⟨[4, 5], [], [], []⟩),
    (0, .exit 0, ⟨[], [], [], []⟩)]
  ro := [false, false]

theorem zone_Table_First_ok : Con.OK Tryz.prog zone_Table_First_con :=
  con_of tabOk mixedOk zone_Table_First_d zone_Table_First_con Tryz.f250 (Tryz.f250.body.getD .skip) Tryz.func250 (by kernel_rfl) (by kernel_rfl) (Nat.le_of_ble_eq_true (by kernel_rfl)) (by kernel_rfl) (And.intro zone_Table_Pieces_ok (And.intro zone_seconds_ok trivial)) (by kernel_rfl) (by kernel_rfl)
    (And.intro (fun h => by kernel_rfl) trivial)
    (fun h => by kernel_rfl)

noncomputable def recur_HandoverOf_con : Con := ⟨182, [.v ty31, .v ty74, .v (.int .i64)], [ty31, ty74, (.int .i64)], ⟨[.v (.int .i64), .v .bool], []⟩, [(.int .i64), .bool], fun h => Pw.recur_HandoverOf h.1 h.2.1 h.2.2⟩

noncomputable def recur_HandoverOf_d : FnD where
  N := 50
  np := 3
  cs := [recur_step_con, zone_Table_First_con]
  ds := []
  modes := [(250, [false, false]), (251, [false])]
  ro := [false, false]
  dw := [(5, [[], [], [], [], [], [], [], [], [512]])]

theorem recur_HandoverOf_ok : Con.OK Tryz.prog recur_HandoverOf_con :=
  con_of tabOk mixedOk recur_HandoverOf_d recur_HandoverOf_con Tryz.f182 (Tryz.f182.body.getD .skip) Tryz.func182 (by kernel_rfl) (by kernel_rfl) (Nat.le_of_ble_eq_true (by kernel_rfl)) (by kernel_rfl) (And.intro recur_step_ok (And.intro zone_Table_First_ok trivial)) (by kernel_rfl) (by kernel_rfl)
    trivial
    (fun h => by kernel_rfl)

noncomputable def slices_Clone_api_Span_api_Span_con : Con := ⟨234, [.v ty16], [ty16], ⟨[.own 153 ty16], []⟩, [ty16], fun h => Pw.slices_Clone_api_Span_api_Span h⟩

noncomputable def slices_Clone_api_Span_api_Span_d : FnD where
  N := 8
  np := 1
  cs := []
  ds := []
  ro := [true]

theorem slices_Clone_api_Span_api_Span_ok : Con.OK Tryz.prog slices_Clone_api_Span_api_Span_con :=
  con_clone tabOk mixedOk slices_Clone_api_Span_api_Span_d 234 ty10 153 Tryz.f234 (Tryz.f234.body.getD .skip) Tryz.func234 (by kernel_rfl) (by kernel_rfl) (Nat.le_of_ble_eq_true (by kernel_rfl)) (by kernel_rfl) trivial (by kernel_rfl)
    (fun h R k => by kernel_rfl)

noncomputable def span_Merge_c1_con : Con := ⟨235, [.v ty10], [ty10], ⟨[.v .bool], []⟩, [.bool], fun h => Pw.span_Merge_c1 h⟩

noncomputable def span_Merge_c1_d : FnD where
  N := 8
  np := 1
  cs := []
  ds := []
  ro := [false]

theorem span_Merge_c1_ok : Con.OK Tryz.prog span_Merge_c1_con :=
  con_of tabOk mixedOk span_Merge_c1_d span_Merge_c1_con Tryz.f235 (Tryz.f235.body.getD .skip) Tryz.func235 (by kernel_rfl) (by kernel_rfl) (Nat.le_of_ble_eq_true (by kernel_rfl)) (by kernel_rfl) trivial (by kernel_rfl) (by kernel_rfl)
    trivial
    (fun h => by kernel_rfl)

noncomputable def slices_IndexFunc_api_Span_api_Span_con : Con := ⟨283, [.rl 153 ty16, .clo 235 []], [ty16], ⟨[.v (.int .i64)], [.rl ty16]⟩, [(.int .i64), ty16], fun h => Pw.slices_IndexFunc_api_Span_api_Span h⟩

noncomputable def slices_IndexFunc_api_Span_api_Span_d : FnD where
  N := 19
  np := 2
  cs := [span_Merge_c1_con]
  ds := [⟨0, [.s (.one (.ol 0)), .s (.one (.clo 235 [])), .s (.one (.d (.int .i64))), .s (.one (.d (.int .i64))), .b (.lst 153 ty10 false)], [(.int .i64), (.int .i64), ty16], [⟨.ret, [.s (.one (.d (.int .i64))), .b (.lst 153 ty10 false)], [(.int .i64), ty16]⟩, ⟨.exit 0, [.b (.lst 153 ty10 false)], [ty16]⟩], fun h => Pw.slices_IndexFunc_api_Span_api_Span_l0_step h.1 h.2.1 h.2.2⟩]
  modes := [(235, [false])]
  keep := [(0, ⟨[0, 1, 7, 8], [0], [], []⟩)]
  keepX := [(0, .ret, ⟨[4], [0], [], []⟩),
    (0, .exit 0, ⟨[], [0], [], []⟩)]
  ro := [false]

theorem slices_IndexFunc_api_Span_api_Span_ok : Con.OK Tryz.prog slices_IndexFunc_api_Span_api_Span_con :=
  con_of tabOk mixedOk slices_IndexFunc_api_Span_api_Span_d slices_IndexFunc_api_Span_api_Span_con Tryz.f283 (Tryz.f283.body.getD .skip) Tryz.func283 (by kernel_rfl) (by kernel_rfl) (Nat.le_of_ble_eq_true (by kernel_rfl)) (by kernel_rfl) (And.intro span_Merge_c1_ok trivial) (by kernel_rfl) (by kernel_rfl)
    (And.intro (fun h => by kernel_rfl) trivial)
    (fun h => by kernel_rfl)

noncomputable def slices_DeleteFunc_api_Span_api_Span_con : Con := ⟨233, [.rl 153 ty16, .clo 235 []], [ty16], ⟨[.hd], [.rl ty16]⟩, [(.int .i64), ty16], fun h => Pw.slices_DeleteFunc_api_Span_api_Span h⟩

noncomputable def slices_DeleteFunc_api_Span_api_Span_d : FnD where
  N := 42
  np := 2
  cs := [span_Merge_c1_con, slices_IndexFunc_api_Span_api_Span_con]
  ds := [⟨0, [.s (.one (.ol 0)), .s (.one (.clo 235 [])), .s (.one (.d (.int .i64))), .s (.one (.d (.int .i64))), .b (.lst 153 ty10 false)], [(.int .i64), (.int .i64), ty16], [⟨.exit 0, [.s (.one (.ol 0)), .s (.one (.d (.int .i64))), .b (.lst 153 ty10 false)], [(.int .i64), ty16]⟩], fun h => Pw.slices_DeleteFunc_api_Span_api_Span_l0_step h.1 h.2.1 h.2.2⟩]
  modes := [(235, [false]), (283, [true, false])]
  keep := [(0, ⟨[0, 1, 5, 6], [0], [], []⟩)]
  keepX := [(0, .exit 0, ⟨[0, 5], [0], [], []⟩)]
  ro := [false]
  hd := true

theorem slices_DeleteFunc_api_Span_api_Span_ok : Con.OK Tryz.prog slices_DeleteFunc_api_Span_api_Span_con :=
  con_of tabOk mixedOk slices_DeleteFunc_api_Span_api_Span_d slices_DeleteFunc_api_Span_api_Span_con Tryz.f233 (Tryz.f233.body.getD .skip) Tryz.func233 (by kernel_rfl) (by kernel_rfl) (Nat.le_of_ble_eq_true (by kernel_rfl)) (by kernel_rfl) (And.intro span_Merge_c1_ok (And.intro slices_IndexFunc_api_Span_api_Span_ok trivial)) (by kernel_rfl) (by kernel_rfl)
    (And.intro (fun h => by kernel_rfl) trivial)
    (fun h => by kernel_rfl)

noncomputable def span_Merge_c2_con : Con := ⟨237, [.v ty10, .v ty10], [ty10, ty10], ⟨[.v (.int .i64)], []⟩, [(.int .i64)], fun h => Pw.span_Merge_c2 h.1 h.2⟩

noncomputable def span_Merge_c2_d : FnD where
  N := 10
  np := 2
  cs := []
  ds := []
  ro := [false]

theorem span_Merge_c2_ok : Con.OK Tryz.prog span_Merge_c2_con :=
  con_of tabOk mixedOk span_Merge_c2_d span_Merge_c2_con Tryz.f237 (Tryz.f237.body.getD .skip) Tryz.func237 (by kernel_rfl) (by kernel_rfl) (Nat.le_of_ble_eq_true (by kernel_rfl)) (by kernel_rfl) trivial (by kernel_rfl) (by kernel_rfl)
    trivial
    (fun h => by kernel_rfl)
end Go.Proofs.Pk
