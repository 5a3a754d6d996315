/- Contracts: each given function is its plain function, printed by a program. -/
import Derived.Test.YtielflihgdebiaaGreatCon1
open Go Go.Lft
set_option linter.unusedVariables false
set_option maxRecDepth 100000
namespace Go.Proofs.Pk

noncomputable def resolve_day_con : Con := ⟨223, [.v (.int .i64)], [(.int .i64)], ⟨[.v .bool], []⟩, [.bool], fun h => Pw.resolve_day h⟩

noncomputable def resolve_day_d : FnD where
  N := 12
  np := 1
  cs := [civil_DateOf_con]
  ds := []
  modes := [(275, [false])]
  ro := [false]

theorem resolve_day_ok : Con.OK Tryz.prog resolve_day_con :=
  con_of tabOk mixedOk resolve_day_d resolve_day_con Tryz.f223 (Tryz.f223.body.getD .skip) Tryz.func223 (by kernel_rfl) (by kernel_rfl) (Nat.le_of_ble_eq_true (by kernel_rfl)) (by kernel_rfl) (And.intro civil_DateOf_ok trivial) (by kernel_rfl) (by kernel_rfl)
    trivial
    (fun h => by kernel_rfl)

noncomputable def resolve_checkCalendar_c1_con : Con := ⟨222, [.v (.int .i64)], [(.int .i64)], ⟨[.v .bool], []⟩, [.bool], fun h => Pw.resolve_checkCalendar_c1 h⟩

noncomputable def resolve_checkCalendar_c1_d : FnD where
  N := 6
  np := 1
  cs := [resolve_day_con]
  ds := []
  modes := [(223, [false])]
  ro := [false]

theorem resolve_checkCalendar_c1_ok : Con.OK Tryz.prog resolve_checkCalendar_c1_con :=
  con_of tabOk mixedOk resolve_checkCalendar_c1_d resolve_checkCalendar_c1_con Tryz.f222 (Tryz.f222.body.getD .skip) Tryz.func222 (by kernel_rfl) (by kernel_rfl) (Nat.le_of_ble_eq_true (by kernel_rfl)) (by kernel_rfl) (And.intro resolve_day_ok trivial) (by kernel_rfl) (by kernel_rfl)
    trivial
    (fun h => by kernel_rfl)

noncomputable def slices_IndexFunc_int_int_con : Con := ⟨274, [.v (.list (.int .i64)), .clo 222 []], [(.list (.int .i64))], ⟨[.v (.int .i64)], []⟩, [(.int .i64)], fun h => Pw.slices_IndexFunc_int_int h⟩

noncomputable def slices_IndexFunc_int_int_d : FnD where
  N := 19
  np := 2
  cs := [resolve_checkCalendar_c1_con]
  ds := [⟨0, [.s (.one (.d (.list (.int .i64)))), .s (.one (.clo 222 [])), .s (.one (.d (.int .i64))), .s (.one (.d (.int .i64)))], [(.list (.int .i64)), (.int .i64), (.int .i64)], [⟨.ret, [.s (.one (.d (.int .i64)))], [(.int .i64)]⟩, ⟨.exit 0, [], []⟩], fun h => Pw.slices_IndexFunc_int_int_l0_step h.1 h.2.1 h.2.2⟩]
  modes := [(222, [false])]
  keep := [(0, ⟨[0, 1, 7, 8], [], [], []⟩)]
  keepX := [(0, .ret, ⟨[4], [], [], []⟩),
    (0, .exit 0, ⟨[], [], [], []⟩)]
  ro := [false]

theorem slices_IndexFunc_int_int_ok : Con.OK Tryz.prog slices_IndexFunc_int_int_con :=
  con_of tabOk mixedOk slices_IndexFunc_int_int_d slices_IndexFunc_int_int_con Tryz.f274 (Tryz.f274.body.getD .skip) Tryz.func274 (by kernel_rfl) (by kernel_rfl) (Nat.le_of_ble_eq_true (by kernel_rfl)) (by kernel_rfl) (And.intro resolve_checkCalendar_c1_ok trivial) (by kernel_rfl) (by kernel_rfl)
    (And.intro (fun h => by kernel_rfl) trivial)
    (fun h => by kernel_rfl)

noncomputable def slices_ContainsFunc_int_int_con : Con := ⟨221, [.v (.list (.int .i64)), .clo 222 []], [(.list (.int .i64))], ⟨[.v .bool], []⟩, [.bool], fun h => Pw.slices_ContainsFunc_int_int h⟩

noncomputable def slices_ContainsFunc_int_int_d : FnD where
  N := 9
  np := 2
  cs := [slices_IndexFunc_int_int_con]
  ds := []
  modes := [(274, [false, false])]
  ro := [false]

theorem slices_ContainsFunc_int_int_ok : Con.OK Tryz.prog slices_ContainsFunc_int_int_con :=
  con_of tabOk mixedOk slices_ContainsFunc_int_int_d slices_ContainsFunc_int_int_con Tryz.f221 (Tryz.f221.body.getD .skip) Tryz.func221 (by kernel_rfl) (by kernel_rfl) (Nat.le_of_ble_eq_true (by kernel_rfl)) (by kernel_rfl) (And.intro slices_IndexFunc_int_int_ok trivial) (by kernel_rfl) (by kernel_rfl)
    trivial
    (fun h => by kernel_rfl)

noncomputable def resolve_checkCalendar_con : Con := ⟨156, [.v ty86, .v ty27], [ty86, ty27], ⟨[.v (.int .i64)], []⟩, [(.int .i64)], fun h => Pw.resolve_checkCalendar h.1 h.2⟩

noncomputable def resolve_checkCalendar_d : FnD where
  N := 46
  np := 2
  cs := [resolve_index_con, slices_ContainsFunc_int_int_con]
  ds := [⟨1, [.s (.one (.bp 192 0)), .s (.one (.d (.int .i64))), .s (.one (.d (.int .i64))), .b (.cell [.d .str, .d (.int .i64), .d (.list (.int .i64))] false)], [(.int .i64), (.int .i64), .str, (.int .i64), (.list (.int .i64))], [⟨.ret, [.s (.one (.d (.int .i64)))], [(.int .i64)]⟩, ⟨.exit 1, [], []⟩], fun h => Pw.resolve_checkCalendar_l1_step h.1 h.2.1 h.2.2.1 h.2.2.2.1 h.2.2.2.2⟩]
  modes := [(219, [false, false]), (221, [false, false])]
  keep := [(1, ⟨[3, 25, 26], [192], [], []⟩)]
  keepX := [(1, .ret, ⟨[4], [], [], []⟩),
    (1, .exit 1, ⟨[], [], [], []⟩)]
  ro := [false]

theorem resolve_checkCalendar_ok : Con.OK Tryz.prog resolve_checkCalendar_con :=
  con_of tabOk mixedOk resolve_checkCalendar_d resolve_checkCalendar_con Tryz.f156 (Tryz.f156.body.getD .skip) Tryz.func156 (by kernel_rfl) (by kernel_rfl) (Nat.le_of_ble_eq_true (by kernel_rfl)) (by kernel_rfl) (And.intro resolve_index_ok (And.intro slices_ContainsFunc_int_int_ok trivial)) (by kernel_rfl) (by kernel_rfl)
    (And.intro (fun h => by kernel_rfl) trivial)
    (fun h => by kernel_rfl)

noncomputable def resolve_Check_c3_con : Con := ⟨155, [.v ty27, .ip [ty68, ty58, ty32, ty80]], [ty27, ty68, ty58, ty32, ty80], ⟨[.v (.int .i64)], []⟩, [(.int .i64)], fun h => Pw.resolve_Check_c3 h.1 h.2.1 h.2.2.1 h.2.2.2.1 h.2.2.2.2⟩

noncomputable def resolve_Check_c3_d : FnD where
  N := 7
  np := 2
  cs := [resolve_checkCalendar_con]
  ds := []
  modes := [(156, [false, false])]
  ro := [false]

theorem resolve_Check_c3_ok : Con.OK Tryz.prog resolve_Check_c3_con :=
  con_of tabOk mixedOk resolve_Check_c3_d resolve_Check_c3_con Tryz.f155 (Tryz.f155.body.getD .skip) Tryz.func155 (by kernel_rfl) (by kernel_rfl) (Nat.le_of_ble_eq_true (by kernel_rfl)) (by kernel_rfl) (And.intro resolve_checkCalendar_ok trivial) (by kernel_rfl) (by kernel_rfl)
    trivial
    (fun h => by kernel_rfl)

noncomputable def resolve_named_api_Calendar_con : Con := ⟨153, [.v ty32, .clo 154 [], .clo 155 [.p [ty68, ty58, ty32, ty80]]], [ty32, ty68, ty58, ty32, ty80], ⟨[.v (.int .i64)], []⟩, [(.int .i64)], fun h => Pw.resolve_named_api_Calendar h.1 h.2.1 h.2.2.1 h.2.2.2.1 h.2.2.2.2⟩

noncomputable def resolve_named_api_Calendar_d : FnD where
  N := 34
  np := 3
  cs := [resolve_name_con, resolve_Check_c2_con, resolve_Check_c3_con]
  ds := [⟨0, [.s (.one (.clo 154 [])), .s (.one (.clo 155 [.p [ty68, ty58, ty32, ty80]])), .s (.one (.ol 1000000)), .s (.one (.d ty32)), .s (.one (.d (.int .i64))), .s (.one (.d (.int .i64))), .b (.lst 4294967490 (.pair .str .bool) false)], [ty68, ty58, ty32, ty80, ty32, (.int .i64), (.int .i64), (.list (.pair .str .bool))], [⟨.ret, [.s (.one (.d (.int .i64)))], [(.int .i64)]⟩, ⟨.exit 0, [], []⟩], fun h => Pw.resolve_named_api_Calendar_l0_step h.1 h.2.1 h.2.2.1 h.2.2.2.1 h.2.2.2.2.1 h.2.2.2.2.2.1 h.2.2.2.2.2.2.1 h.2.2.2.2.2.2.2⟩]
  modes := [(151, [false, true]), (154, [false]), (155, [false])]
  keep := [(0, ⟨[1, 2, 7, 13, 14, 15], [], [⟨1000000, 4294967490, (.pair .str .bool), [.slot 7], false⟩], []⟩)]
  keepX := [(0, .ret, ⟨[6], [], [], []⟩),
    (0, .exit 0, ⟨[], [], [], []⟩)]
  ro := [false]

theorem resolve_named_api_Calendar_ok : Con.OK Tryz.prog resolve_named_api_Calendar_con :=
  con_of tabOk mixedOk resolve_named_api_Calendar_d resolve_named_api_Calendar_con Tryz.f153 (Tryz.f153.body.getD .skip) Tryz.func153 (by kernel_rfl) (by kernel_rfl) (Nat.le_of_ble_eq_true (by kernel_rfl)) (by kernel_rfl) (And.intro resolve_name_ok (And.intro resolve_Check_c2_ok (And.intro resolve_Check_c3_ok trivial))) (by kernel_rfl) (by kernel_rfl)
    (And.intro (fun h => by kernel_rfl) trivial)
    (fun h => by kernel_rfl)

noncomputable def resolve_Check_c4_con : Con := ⟨158, [.v ty79], [ty79], ⟨[.v .str], []⟩, [.str], fun h => Pw.resolve_Check_c4 h⟩

noncomputable def resolve_Check_c4_d : FnD where
  N := 5
  np := 1
  cs := []
  ds := []
  ro := [false]

theorem resolve_Check_c4_ok : Con.OK Tryz.prog resolve_Check_c4_con :=
  con_of tabOk mixedOk resolve_Check_c4_d resolve_Check_c4_con Tryz.f158 (Tryz.f158.body.getD .skip) Tryz.func158 (by kernel_rfl) (by kernel_rfl) (Nat.le_of_ble_eq_true (by kernel_rfl)) (by kernel_rfl) trivial (by kernel_rfl) (by kernel_rfl)
    trivial
    (fun h => by kernel_rfl)

noncomputable def resolve_checkSchedule_c1_con : Con := ⟨225, [.v ty74], [ty74], ⟨[.v .str], []⟩, [.str], fun h => Pw.resolve_checkSchedule_c1 h⟩

noncomputable def resolve_checkSchedule_c1_d : FnD where
  N := 5
  np := 1
  cs := []
  ds := []
  ro := [false]

theorem resolve_checkSchedule_c1_ok : Con.OK Tryz.prog resolve_checkSchedule_c1_con :=
  con_of tabOk mixedOk resolve_checkSchedule_c1_d resolve_checkSchedule_c1_con Tryz.f225 (Tryz.f225.body.getD .skip) Tryz.func225 (by kernel_rfl) (by kernel_rfl) (Nat.le_of_ble_eq_true (by kernel_rfl)) (by kernel_rfl) trivial (by kernel_rfl) (by kernel_rfl)
    trivial
    (fun h => by kernel_rfl)

noncomputable def resolve_checkLayer_c1_con : Con := ⟨276, [.v (.int .i64), .ip [ty68, ty58, ty32, ty80]], [(.int .i64), ty68, ty58, ty32, ty80], ⟨[.v .bool], []⟩, [.bool], fun h => Pw.resolve_checkLayer_c1 h.1 h.2.1 h.2.2.1 h.2.2.2.1 h.2.2.2.2⟩

noncomputable def resolve_checkLayer_c1_d : FnD where
  N := 10
  np := 2
  cs := [resolve_index_con]
  ds := []
  modes := [(219, [false, false])]
  ro := [false]

theorem resolve_checkLayer_c1_ok : Con.OK Tryz.prog resolve_checkLayer_c1_con :=
  con_of tabOk mixedOk resolve_checkLayer_c1_d resolve_checkLayer_c1_con Tryz.f276 (Tryz.f276.body.getD .skip) Tryz.func276 (by kernel_rfl) (by kernel_rfl) (Nat.le_of_ble_eq_true (by kernel_rfl)) (by kernel_rfl) (And.intro resolve_index_ok trivial) (by kernel_rfl) (by kernel_rfl)
    trivial
    (fun h => by kernel_rfl)

noncomputable def slices_IndexFunc_int_int_s2_con : Con := ⟨274, [.v (.list (.int .i64)), .clo 276 [.p [ty68, ty58, ty32, ty80]]], [(.list (.int .i64)), ty68, ty58, ty32, ty80], ⟨[.v (.int .i64)], []⟩, [(.int .i64)], fun h => Pw.slices_IndexFunc_int_int_s2 h.1 h.2.1 h.2.2.1 h.2.2.2.1 h.2.2.2.2⟩

noncomputable def slices_IndexFunc_int_int_s2_d : FnD where
  N := 19
  np := 2
  cs := [resolve_checkLayer_c1_con]
  ds := [⟨0, [.s (.one (.d (.list (.int .i64)))), .s (.one (.clo 276 [.p [ty68, ty58, ty32, ty80]])), .s (.one (.d (.int .i64))), .s (.one (.d (.int .i64)))], [(.list (.int .i64)), ty68, ty58, ty32, ty80, (.int .i64), (.int .i64)], [⟨.ret, [.s (.one (.d (.int .i64)))], [(.int .i64)]⟩, ⟨.exit 0, [], []⟩], fun h => Pw.slices_IndexFunc_int_int_s2_l0_step h.1 h.2.1 h.2.2.1 h.2.2.2.1 h.2.2.2.2.1 h.2.2.2.2.2.1 h.2.2.2.2.2.2⟩]
  modes := [(276, [false])]
  keep := [(0, ⟨[0, 1, 7, 8], [], [], []⟩)]
  keepX := [(0, .ret, ⟨[4], [], [], []⟩),
    (0, .exit 0, ⟨[], [], [], []⟩)]
  ro := [false]

theorem slices_IndexFunc_int_int_s2_ok : Con.OK Tryz.prog slices_IndexFunc_int_int_s2_con :=
  con_of tabOk mixedOk slices_IndexFunc_int_int_s2_d slices_IndexFunc_int_int_s2_con Tryz.f274 (Tryz.f274.body.getD .skip) Tryz.func274 (by kernel_rfl) (by kernel_rfl) (Nat.le_of_ble_eq_true (by kernel_rfl)) (by kernel_rfl) (And.intro resolve_checkLayer_c1_ok trivial) (by kernel_rfl) (by kernel_rfl)
    (And.intro (fun h => by kernel_rfl) trivial)
    (fun h => by kernel_rfl)

noncomputable def slices_ContainsFunc_int_int_s2_con : Con := ⟨221, [.v (.list (.int .i64)), .clo 276 [.p [ty68, ty58, ty32, ty80]]], [(.list (.int .i64)), ty68, ty58, ty32, ty80], ⟨[.v .bool], []⟩, [.bool], fun h => Pw.slices_ContainsFunc_int_int_s2 h.1 h.2.1 h.2.2.1 h.2.2.2.1 h.2.2.2.2⟩

noncomputable def slices_ContainsFunc_int_int_s2_d : FnD where
  N := 9
  np := 2
  cs := [slices_IndexFunc_int_int_s2_con]
  ds := []
  modes := [(274, [false, false])]
  ro := [false]

theorem slices_ContainsFunc_int_int_s2_ok : Con.OK Tryz.prog slices_ContainsFunc_int_int_s2_con :=
  con_of tabOk mixedOk slices_ContainsFunc_int_int_s2_d slices_ContainsFunc_int_int_s2_con Tryz.f221 (Tryz.f221.body.getD .skip) Tryz.func221 (by kernel_rfl) (by kernel_rfl) (Nat.le_of_ble_eq_true (by kernel_rfl)) (by kernel_rfl) (And.intro slices_IndexFunc_int_int_s2_ok trivial) (by kernel_rfl) (by kernel_rfl)
    trivial
    (fun h => by kernel_rfl)

noncomputable def resolve_checkLayer_con : Con := ⟨227, [.v ty86, .v ty74], [ty86, ty74], ⟨[.v (.int .i64)], []⟩, [(.int .i64)], fun h => Pw.resolve_checkLayer h.1 h.2⟩

noncomputable def resolve_checkLayer_d : FnD where
  N := 91
  np := 2
  cs := [resolve_index_con, week_Check_con, resolve_in_con, resolve_day_con, slices_ContainsFunc_int_int_s2_con]
  ds := []
  modes := [(41, [false]), (219, [false, false]), (221, [false, false]), (223, [false]), (273, [false, false, false])]
  ro := [false]

theorem resolve_checkLayer_ok : Con.OK Tryz.prog resolve_checkLayer_con :=
  con_of tabOk mixedOk resolve_checkLayer_d resolve_checkLayer_con Tryz.f227 (Tryz.f227.body.getD .skip) Tryz.func227 (by kernel_rfl) (by kernel_rfl) (Nat.le_of_ble_eq_true (by kernel_rfl)) (by kernel_rfl) (And.intro resolve_index_ok (And.intro week_Check_ok (And.intro resolve_in_ok (And.intro resolve_day_ok (And.intro slices_ContainsFunc_int_int_s2_ok trivial))))) (by kernel_rfl) (by kernel_rfl)
    trivial
    (fun h => by kernel_rfl)

noncomputable def resolve_checkSchedule_c2_con : Con := ⟨226, [.v ty74, .ip [ty68, ty58, ty32, ty80]], [ty74, ty68, ty58, ty32, ty80], ⟨[.v (.int .i64)], []⟩, [(.int .i64)], fun h => Pw.resolve_checkSchedule_c2 h.1 h.2.1 h.2.2.1 h.2.2.2.1 h.2.2.2.2⟩

noncomputable def resolve_checkSchedule_c2_d : FnD where
  N := 7
  np := 2
  cs := [resolve_checkLayer_con]
  ds := []
  modes := [(227, [false, false])]
  ro := [false]

theorem resolve_checkSchedule_c2_ok : Con.OK Tryz.prog resolve_checkSchedule_c2_con :=
  con_of tabOk mixedOk resolve_checkSchedule_c2_d resolve_checkSchedule_c2_con Tryz.f226 (Tryz.f226.body.getD .skip) Tryz.func226 (by kernel_rfl) (by kernel_rfl) (Nat.le_of_ble_eq_true (by kernel_rfl)) (by kernel_rfl) (And.intro resolve_checkLayer_ok trivial) (by kernel_rfl) (by kernel_rfl)
    trivial
    (fun h => by kernel_rfl)

noncomputable def resolve_named_api_Layer_con : Con := ⟨224, [.v ty75, .clo 225 [], .clo 226 [.p [ty68, ty58, ty32, ty80]]], [ty75, ty68, ty58, ty32, ty80], ⟨[.v (.int .i64)], []⟩, [(.int .i64)], fun h => Pw.resolve_named_api_Layer h.1 h.2.1 h.2.2.1 h.2.2.2.1 h.2.2.2.2⟩

noncomputable def resolve_named_api_Layer_d : FnD where
  N := 34
  np := 3
  cs := [resolve_name_con, resolve_checkSchedule_c1_con, resolve_checkSchedule_c2_con]
  ds := [⟨0, [.s (.one (.clo 225 [])), .s (.one (.clo 226 [.p [ty68, ty58, ty32, ty80]])), .s (.one (.ol 1000000)), .s (.one (.d ty75)), .s (.one (.d (.int .i64))), .s (.one (.d (.int .i64))), .b (.lst 4294967490 (.pair .str .bool) false)], [ty68, ty58, ty32, ty80, ty75, (.int .i64), (.int .i64), (.list (.pair .str .bool))], [⟨.ret, [.s (.one (.d (.int .i64)))], [(.int .i64)]⟩, ⟨.exit 0, [], []⟩], fun h => Pw.resolve_named_api_Layer_l0_step h.1 h.2.1 h.2.2.1 h.2.2.2.1 h.2.2.2.2.1 h.2.2.2.2.2.1 h.2.2.2.2.2.2.1 h.2.2.2.2.2.2.2⟩]
  modes := [(151, [false, true]), (225, [false]), (226, [false])]
  keep := [(0, ⟨[1, 2, 7, 13, 14, 15], [], [⟨1000000, 4294967490, (.pair .str .bool), [.slot 7], false⟩], []⟩)]
  keepX := [(0, .ret, ⟨[6], [], [], []⟩),
    (0, .exit 0, ⟨[], [], [], []⟩)]
  ro := [false]

theorem resolve_named_api_Layer_ok : Con.OK Tryz.prog resolve_named_api_Layer_con :=
  con_of tabOk mixedOk resolve_named_api_Layer_d resolve_named_api_Layer_con Tryz.f224 (Tryz.f224.body.getD .skip) Tryz.func224 (by kernel_rfl) (by kernel_rfl) (Nat.le_of_ble_eq_true (by kernel_rfl)) (by kernel_rfl) (And.intro resolve_name_ok (And.intro resolve_checkSchedule_c1_ok (And.intro resolve_checkSchedule_c2_ok trivial))) (by kernel_rfl) (by kernel_rfl)
    (And.intro (fun h => by kernel_rfl) trivial)
    (fun h => by kernel_rfl)

noncomputable def resolve_checkEdit_con : Con := ⟨228, [.v ty86, .v ty44], [ty86, ty44], ⟨[.v (.int .i64)], []⟩, [(.int .i64)], fun h => Pw.resolve_checkEdit h.1 h.2⟩

noncomputable def resolve_checkEdit_d : FnD where
  N := 83
  np := 2
  cs := [resolve_index_con, resolve_in_con, resolve_day_con]
  ds := []
  modes := [(219, [false, false]), (223, [false]), (273, [false, false, false])]
  ro := [false]

theorem resolve_checkEdit_ok : Con.OK Tryz.prog resolve_checkEdit_con :=
  con_of tabOk mixedOk resolve_checkEdit_d resolve_checkEdit_con Tryz.f228 (Tryz.f228.body.getD .skip) Tryz.func228 (by kernel_rfl) (by kernel_rfl) (Nat.le_of_ble_eq_true (by kernel_rfl)) (by kernel_rfl) (And.intro resolve_index_ok (And.intro resolve_in_ok (And.intro resolve_day_ok trivial))) (by kernel_rfl) (by kernel_rfl)
    trivial
    (fun h => by kernel_rfl)

noncomputable def resolve_checkSchedule_con : Con := ⟨160, [.v ty86, .v ty79], [ty86, ty79], ⟨[.v (.int .i64)], []⟩, [(.int .i64)], fun h => Pw.resolve_checkSchedule h.1 h.2⟩

noncomputable def resolve_checkSchedule_d : FnD where
  N := 40
  np := 2
  cs := [resolve_named_api_Layer_con, resolve_checkEdit_con]
  ds := [⟨0, [.s (.one (.bp 128 0)), .s (.one (.d ty46)), .s (.one (.d (.int .i64))), .s (.one (.d (.int .i64))), .b (.cell [.d ty68, .d ty58, .d ty32, .d ty80] true)], [ty46, (.int .i64), (.int .i64), ty68, ty58, ty32, ty80], [⟨.ret, [.s (.one (.d (.int .i64)))], [(.int .i64)]⟩, ⟨.exit 0, [], []⟩], fun h => Pw.resolve_checkSchedule_l0_step h.1 h.2.1 h.2.2.1 h.2.2.2.1 h.2.2.2.2.1 h.2.2.2.2.2.1 h.2.2.2.2.2.2⟩]
  modes := [(224, [false, false, false]), (228, [false, false])]
  keep := [(0, ⟨[2, 27, 28, 29], [128], [], []⟩)]
  keepX := [(0, .ret, ⟨[4], [], [], []⟩),
    (0, .exit 0, ⟨[], [], [], []⟩)]
  ro := [false]

theorem resolve_checkSchedule_ok : Con.OK Tryz.prog resolve_checkSchedule_con :=
  con_of tabOk mixedOk resolve_checkSchedule_d resolve_checkSchedule_con Tryz.f160 (Tryz.f160.body.getD .skip) Tryz.func160 (by kernel_rfl) (by kernel_rfl) (Nat.le_of_ble_eq_true (by kernel_rfl)) (by kernel_rfl) (And.intro resolve_named_api_Layer_ok (And.intro resolve_checkEdit_ok trivial)) (by kernel_rfl) (by kernel_rfl)
    (And.intro (fun h => by kernel_rfl) trivial)
    (fun h => by kernel_rfl)

noncomputable def resolve_Check_c5_con : Con := ⟨159, [.v ty79, .ip [ty68, ty58, ty32, ty80]], [ty79, ty68, ty58, ty32, ty80], ⟨[.v (.int .i64)], []⟩, [(.int .i64)], fun h => Pw.resolve_Check_c5 h.1 h.2.1 h.2.2.1 h.2.2.2.1 h.2.2.2.2⟩

noncomputable def resolve_Check_c5_d : FnD where
  N := 7
  np := 2
  cs := [resolve_checkSchedule_con]
  ds := []
  modes := [(160, [false, false])]
  ro := [false]

theorem resolve_Check_c5_ok : Con.OK Tryz.prog resolve_Check_c5_con :=
  con_of tabOk mixedOk resolve_Check_c5_d resolve_Check_c5_con Tryz.f159 (Tryz.f159.body.getD .skip) Tryz.func159 (by kernel_rfl) (by kernel_rfl) (Nat.le_of_ble_eq_true (by kernel_rfl)) (by kernel_rfl) (And.intro resolve_checkSchedule_ok trivial) (by kernel_rfl) (by kernel_rfl)
    trivial
    (fun h => by kernel_rfl)

noncomputable def resolve_named_api_Schedule_con : Con := ⟨157, [.v ty80, .clo 158 [], .clo 159 [.p [ty68, ty58, ty32, ty80]]], [ty80, ty68, ty58, ty32, ty80], ⟨[.v (.int .i64)], []⟩, [(.int .i64)], fun h => Pw.resolve_named_api_Schedule h.1 h.2.1 h.2.2.1 h.2.2.2.1 h.2.2.2.2⟩

noncomputable def resolve_named_api_Schedule_d : FnD where
  N := 34
  np := 3
  cs := [resolve_name_con, resolve_Check_c4_con, resolve_Check_c5_con]
  ds := [⟨0, [.s (.one (.clo 158 [])), .s (.one (.clo 159 [.p [ty68, ty58, ty32, ty80]])), .s (.one (.ol 1000000)), .s (.one (.d ty80)), .s (.one (.d (.int .i64))), .s (.one (.d (.int .i64))), .b (.lst 4294967490 (.pair .str .bool) false)], [ty68, ty58, ty32, ty80, ty80, (.int .i64), (.int .i64), (.list (.pair .str .bool))], [⟨.ret, [.s (.one (.d (.int .i64)))], [(.int .i64)]⟩, ⟨.exit 0, [], []⟩], fun h => Pw.resolve_named_api_Schedule_l0_step h.1 h.2.1 h.2.2.1 h.2.2.2.1 h.2.2.2.2.1 h.2.2.2.2.2.1 h.2.2.2.2.2.2.1 h.2.2.2.2.2.2.2⟩]
  modes := [(151, [false, true]), (158, [false]), (159, [false])]
  keep := [(0, ⟨[1, 2, 7, 13, 14, 15], [], [⟨1000000, 4294967490, (.pair .str .bool), [.slot 7], false⟩], []⟩)]
  keepX := [(0, .ret, ⟨[6], [], [], []⟩),
    (0, .exit 0, ⟨[], [], [], []⟩)]
  ro := [false]

theorem resolve_named_api_Schedule_ok : Con.OK Tryz.prog resolve_named_api_Schedule_con :=
  con_of tabOk mixedOk resolve_named_api_Schedule_d resolve_named_api_Schedule_con Tryz.f157 (Tryz.f157.body.getD .skip) Tryz.func157 (by kernel_rfl) (by kernel_rfl) (Nat.le_of_ble_eq_true (by kernel_rfl)) (by kernel_rfl) (And.intro resolve_name_ok (And.intro resolve_Check_c4_ok (And.intro resolve_Check_c5_ok trivial))) (by kernel_rfl) (by kernel_rfl)
    (And.intro (fun h => by kernel_rfl) trivial)
    (fun h => by kernel_rfl)

noncomputable def resolve_Check_con : Con := ⟨90, [.v ty86], [ty86], ⟨[.v (.int .i64)], []⟩, [(.int .i64)], fun h => Pw.resolve_Check h⟩

noncomputable def resolve_Check_d : FnD where
  N := 72
  np := 1
  cs := [resolve_name_con, resolve_named_api_Zone_con, resolve_checkPerson_con, resolve_named_api_Calendar_con, resolve_named_api_Schedule_con]
  ds := [⟨0, [.s (.one (.bp 64 0)), .s (.one (.ol 1000000)), .s (.one (.d ty58)), .s (.one (.d (.int .i64))), .s (.one (.d (.int .i64))), .b (.cell [.d ty68, .d ty58, .d ty32, .d ty80] false), .b (.lst 4294967490 (.pair .str .bool) false)], [ty58, (.int .i64), (.int .i64), ty68, ty58, ty32, ty80, (.list (.pair .str .bool))], [⟨.ret, [.s (.one (.d (.int .i64)))], [(.int .i64)]⟩, ⟨.exit 0, [.s (.one (.bp 64 0)), .b (.cell [.d ty68, .d ty58, .d ty32, .d ty80] false)], [ty68, ty58, ty32, ty80]⟩], fun h => Pw.resolve_Check_l0_step h.1 h.2.1 h.2.2.1 h.2.2.2.1 h.2.2.2.2.1 h.2.2.2.2.2.1 h.2.2.2.2.2.2.1 h.2.2.2.2.2.2.2⟩]
  modes := [(148, [false, false, false]), (151, [false, true]), (152, [false, false]), (153, [false, false, false]), (157, [false, false, false])]
  keep := [(0, ⟨[1, 4, 39, 40, 41], [64], [⟨1000000, 4294967490, (.pair .str .bool), [.slot 4], false⟩], []⟩)]
  keepX := [(0, .ret, ⟨[2], [], [], []⟩),
    (0, .exit 0, ⟨[1], [64], [], []⟩)]
  ro := [false]

theorem resolve_Check_ok : Con.OK Tryz.prog resolve_Check_con :=
  con_of tabOk mixedOk resolve_Check_d resolve_Check_con Tryz.f90 (Tryz.f90.body.getD .skip) Tryz.func90 (by kernel_rfl) (by kernel_rfl) (Nat.le_of_ble_eq_true (by kernel_rfl)) (by kernel_rfl) (And.intro resolve_name_ok (And.intro resolve_named_api_Zone_ok (And.intro resolve_checkPerson_ok (And.intro resolve_named_api_Calendar_ok (And.intro resolve_named_api_Schedule_ok trivial))))) (by kernel_rfl) (by kernel_rfl)
    (And.intro (fun h => by kernel_rfl) trivial)
    (fun h => by kernel_rfl)
end Go.Proofs.Pk
