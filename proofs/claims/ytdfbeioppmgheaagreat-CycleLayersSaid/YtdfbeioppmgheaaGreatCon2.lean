/- Contracts: each given function is its plain function, printed by a program. -/
import Derived.Test.YtdfbeioppmgheaaGreatCon1
open Go Go.Lft
set_option linter.unusedVariables false
set_option maxRecDepth 100000
namespace Go.Proofs.Pk
noncomputable def resolve_day_con : Con := ⟨212, [.v iT], [iT], ⟨[.v .bool], []⟩, [.bool], fun h => Pw.resolve_day h⟩
noncomputable def resolve_day_d : FnD where
 N := 12
 np := 1
 cs := [civil_DateOf_con]
 ds := []
 modes := [(269, [false])]
 ro := [false]
theorem resolve_day_ok : Con.OK Tryz.prog resolve_day_con :=
 con_of tabOk mixedOk resolve_day_d resolve_day_con Tryz.f212 (Tryz.f212.body.getD .skip) Tryz.func212 (by kernel_rfl) (by kernel_rfl) (Nat.le_of_ble_eq_true (by kernel_rfl)) (by kernel_rfl) (And.intro civil_DateOf_ok trivial) (by kernel_rfl) (by kernel_rfl)
   trivial
   (fun h => by kernel_rfl)
noncomputable def resolve_checkCalendar_c1_con : Con := ⟨211, [.v iT], [iT], ⟨[.v .bool], []⟩, [.bool], fun h => Pw.resolve_checkCalendar_c1 h⟩
noncomputable def resolve_checkCalendar_c1_d : FnD where
 N := 6
 np := 1
 cs := [resolve_day_con]
 ds := []
 modes := [(212, [false])]
 ro := [false]
theorem resolve_checkCalendar_c1_ok : Con.OK Tryz.prog resolve_checkCalendar_c1_con :=
 con_of tabOk mixedOk resolve_checkCalendar_c1_d resolve_checkCalendar_c1_con Tryz.f211 (Tryz.f211.body.getD .skip) Tryz.func211 (by kernel_rfl) (by kernel_rfl) (Nat.le_of_ble_eq_true (by kernel_rfl)) (by kernel_rfl) (And.intro resolve_day_ok trivial) (by kernel_rfl) (by kernel_rfl)
   trivial
   (fun h => by kernel_rfl)
noncomputable def slices_IndexFunc_int_int_con : Con := ⟨268, [.v (.list iT), .clo 211 []], [(.list iT)], ⟨[.v iT], []⟩, [iT], fun h => Pw.slices_IndexFunc_int_int h⟩
noncomputable def slices_IndexFunc_int_int_d : FnD where
 N := 19
 np := 2
 cs := [resolve_checkCalendar_c1_con]
 ds := [⟨0, [.s (.one (.d (.list iT))), .s (.one (.clo 211 [])), sI, sI], [(.list iT), iT, iT], [⟨.ret, [sI], [iT]⟩, ⟨.exit 0, [], []⟩], fun h => Pw.slices_IndexFunc_int_int_l0_step h.1 h.2.1 h.2.2⟩]
 modes := [(211, [false])]
 keep := [(0, ⟨[0, 1, 7, 8], [], [], []⟩)]
 keepX := [(0, .ret, ⟨[4], [], [], []⟩),
   (0, .exit 0, ⟨[], [], [], []⟩)]
 ro := [false]
theorem slices_IndexFunc_int_int_ok : Con.OK Tryz.prog slices_IndexFunc_int_int_con :=
 con_of tabOk mixedOk slices_IndexFunc_int_int_d slices_IndexFunc_int_int_con Tryz.f268 (Tryz.f268.body.getD .skip) Tryz.func268 (by kernel_rfl) (by kernel_rfl) (Nat.le_of_ble_eq_true (by kernel_rfl)) (by kernel_rfl) (And.intro resolve_checkCalendar_c1_ok trivial) (by kernel_rfl) (by kernel_rfl)
   (And.intro (fun h => by kernel_rfl) trivial)
   (fun h => by kernel_rfl)
noncomputable def slices_ContainsFunc_int_int_con : Con := ⟨210, [.v (.list iT), .clo 211 []], [(.list iT)], ⟨[.v .bool], []⟩, [.bool], fun h => Pw.slices_ContainsFunc_int_int h⟩
noncomputable def slices_ContainsFunc_int_int_d : FnD where
 N := 9
 np := 2
 cs := [slices_IndexFunc_int_int_con]
 ds := []
 modes := [(268, [false, false])]
 ro := [false]
theorem slices_ContainsFunc_int_int_ok : Con.OK Tryz.prog slices_ContainsFunc_int_int_con :=
 con_of tabOk mixedOk slices_ContainsFunc_int_int_d slices_ContainsFunc_int_int_con Tryz.f210 (Tryz.f210.body.getD .skip) Tryz.func210 (by kernel_rfl) (by kernel_rfl) (Nat.le_of_ble_eq_true (by kernel_rfl)) (by kernel_rfl) (And.intro slices_IndexFunc_int_int_ok trivial) (by kernel_rfl) (by kernel_rfl)
   trivial
   (fun h => by kernel_rfl)
noncomputable def resolve_checkCalendar_con : Con := ⟨149, [.v ty81, .v ty23], [ty81, ty23], ⟨[.v iT], []⟩, [iT], fun h => Pw.resolve_checkCalendar h.1 h.2⟩
noncomputable def resolve_checkCalendar_d : FnD where
 N := 46
 np := 2
 cs := [resolve_index_con, slices_ContainsFunc_int_int_con]
 ds := [⟨1, [.s (.one (.bp 192 0)), sI, sI, .b (.cell [.d .str, .d iT, .d (.list iT)] false)], [iT, iT, .str, iT, (.list iT)], [⟨.ret, [sI], [iT]⟩, ⟨.exit 1, [], []⟩], fun h => Pw.resolve_checkCalendar_l1_step h.1 h.2.1 h.2.2.1 h.2.2.2.1 h.2.2.2.2⟩]
 modes := [(207, [false, false]), (210, [false, false])]
 keep := [(1, ⟨[3, 25, 26], [192], [], []⟩)]
 keepX := [(1, .ret, ⟨[4], [], [], []⟩),
   (1, .exit 1, ⟨[], [], [], []⟩)]
 ro := [false]
theorem resolve_checkCalendar_ok : Con.OK Tryz.prog resolve_checkCalendar_con :=
 con_of tabOk mixedOk resolve_checkCalendar_d resolve_checkCalendar_con Tryz.f149 (Tryz.f149.body.getD .skip) Tryz.func149 (by kernel_rfl) (by kernel_rfl) (Nat.le_of_ble_eq_true (by kernel_rfl)) (by kernel_rfl) (And.intro resolve_index_ok (And.intro slices_ContainsFunc_int_int_ok trivial)) (by kernel_rfl) (by kernel_rfl)
   (And.intro (fun h => by kernel_rfl) trivial)
   (fun h => by kernel_rfl)
noncomputable def resolve_Check_c3_con : Con := ⟨148, [.v ty23, .ip [ty63, ty53, ty27, ty75]], [ty23, ty63, ty53, ty27, ty75], ⟨[.v iT], []⟩, [iT], fun h => Pw.resolve_Check_c3 h.1 h.2.1 h.2.2.1 h.2.2.2.1 h.2.2.2.2⟩
noncomputable def resolve_Check_c3_d : FnD where
 N := 7
 np := 2
 cs := [resolve_checkCalendar_con]
 ds := []
 modes := [(149, [false, false])]
 ro := [false]
theorem resolve_Check_c3_ok : Con.OK Tryz.prog resolve_Check_c3_con :=
 con_of tabOk mixedOk resolve_Check_c3_d resolve_Check_c3_con Tryz.f148 (Tryz.f148.body.getD .skip) Tryz.func148 (by kernel_rfl) (by kernel_rfl) (Nat.le_of_ble_eq_true (by kernel_rfl)) (by kernel_rfl) (And.intro resolve_checkCalendar_ok trivial) (by kernel_rfl) (by kernel_rfl)
   trivial
   (fun h => by kernel_rfl)
noncomputable def resolve_named_api_Calendar_con : Con := ⟨146, [.v ty27, .clo 147 [], .clo 148 [.p [ty63, ty53, ty27, ty75]]], [ty27, ty63, ty53, ty27, ty75], ⟨[.v iT], []⟩, [iT], fun h => Pw.resolve_named_api_Calendar h.1 h.2.1 h.2.2.1 h.2.2.2.1 h.2.2.2.2⟩
noncomputable def resolve_named_api_Calendar_d : FnD where
 N := 34
 np := 3
 cs := [resolve_name_con, resolve_Check_c2_con, resolve_Check_c3_con]
 ds := [⟨0, [.s (.one (.clo 147 [])), .s (.one (.clo 148 [.p [ty63, ty53, ty27, ty75]])), .s (.one (.ol 1000000)), .s (.one (.d ty27)), sI, sI, .b (.lst 4294967485 (.pair .str .bool) false)], [ty63, ty53, ty27, ty75, ty27, iT, iT, (.list (.pair .str .bool))], [⟨.ret, [sI], [iT]⟩, ⟨.exit 0, [], []⟩], fun h => Pw.resolve_named_api_Calendar_l0_step h.1 h.2.1 h.2.2.1 h.2.2.2.1 h.2.2.2.2.1 h.2.2.2.2.2.1 h.2.2.2.2.2.2.1 h.2.2.2.2.2.2.2⟩]
 modes := [(144, [false, true]), (147, [false]), (148, [false])]
 keep := [(0, ⟨[1, 2, 7, 13, 14, 15], [], [⟨1000000, 4294967485, (.pair .str .bool), [.slot 7], false⟩], []⟩)]
 keepX := [(0, .ret, ⟨[6], [], [], []⟩),
   (0, .exit 0, ⟨[], [], [], []⟩)]
 ro := [false]
theorem resolve_named_api_Calendar_ok : Con.OK Tryz.prog resolve_named_api_Calendar_con :=
 con_of tabOk mixedOk resolve_named_api_Calendar_d resolve_named_api_Calendar_con Tryz.f146 (Tryz.f146.body.getD .skip) Tryz.func146 (by kernel_rfl) (by kernel_rfl) (Nat.le_of_ble_eq_true (by kernel_rfl)) (by kernel_rfl) (And.intro resolve_name_ok (And.intro resolve_Check_c2_ok (And.intro resolve_Check_c3_ok trivial))) (by kernel_rfl) (by kernel_rfl)
   (And.intro (fun h => by kernel_rfl) trivial)
   (fun h => by kernel_rfl)
noncomputable def resolve_Check_c4_con : Con := ⟨151, [.v ty74], [ty74], ⟨[.v .str], []⟩, [.str], fun h => Pw.resolve_Check_c4 h⟩
noncomputable def resolve_Check_c4_d : FnD where
 N := 5
 np := 1
 cs := []
 ds := []
 ro := [false]
theorem resolve_Check_c4_ok : Con.OK Tryz.prog resolve_Check_c4_con :=
 con_of tabOk mixedOk resolve_Check_c4_d resolve_Check_c4_con Tryz.f151 (Tryz.f151.body.getD .skip) Tryz.func151 (by kernel_rfl) (by kernel_rfl) (Nat.le_of_ble_eq_true (by kernel_rfl)) (by kernel_rfl) trivial (by kernel_rfl) (by kernel_rfl)
   trivial
   (fun h => by kernel_rfl)
noncomputable def resolve_checkSchedule_c1_con : Con := ⟨214, [.v ty69], [ty69], ⟨[.v .str], []⟩, [.str], fun h => Pw.resolve_checkSchedule_c1 h⟩
noncomputable def resolve_checkSchedule_c1_d : FnD where
 N := 5
 np := 1
 cs := []
 ds := []
 ro := [false]
theorem resolve_checkSchedule_c1_ok : Con.OK Tryz.prog resolve_checkSchedule_c1_con :=
 con_of tabOk mixedOk resolve_checkSchedule_c1_d resolve_checkSchedule_c1_con Tryz.f214 (Tryz.f214.body.getD .skip) Tryz.func214 (by kernel_rfl) (by kernel_rfl) (Nat.le_of_ble_eq_true (by kernel_rfl)) (by kernel_rfl) trivial (by kernel_rfl) (by kernel_rfl)
   trivial
   (fun h => by kernel_rfl)
noncomputable def resolve_checkLayer_c1_con : Con := ⟨270, [.v iT, .ip [ty63, ty53, ty27, ty75]], [iT, ty63, ty53, ty27, ty75], ⟨[.v .bool], []⟩, [.bool], fun h => Pw.resolve_checkLayer_c1 h.1 h.2.1 h.2.2.1 h.2.2.2.1 h.2.2.2.2⟩
noncomputable def resolve_checkLayer_c1_d : FnD where
 N := 10
 np := 2
 cs := [resolve_index_con]
 ds := []
 modes := [(207, [false, false])]
 ro := [false]
theorem resolve_checkLayer_c1_ok : Con.OK Tryz.prog resolve_checkLayer_c1_con :=
 con_of tabOk mixedOk resolve_checkLayer_c1_d resolve_checkLayer_c1_con Tryz.f270 (Tryz.f270.body.getD .skip) Tryz.func270 (by kernel_rfl) (by kernel_rfl) (Nat.le_of_ble_eq_true (by kernel_rfl)) (by kernel_rfl) (And.intro resolve_index_ok trivial) (by kernel_rfl) (by kernel_rfl)
   trivial
   (fun h => by kernel_rfl)
noncomputable def slices_IndexFunc_int_int_s2_con : Con := ⟨268, [.v (.list iT), .clo 270 [.p [ty63, ty53, ty27, ty75]]], [(.list iT), ty63, ty53, ty27, ty75], ⟨[.v iT], []⟩, [iT], fun h => Pw.slices_IndexFunc_int_int_s2 h.1 h.2.1 h.2.2.1 h.2.2.2.1 h.2.2.2.2⟩
noncomputable def slices_IndexFunc_int_int_s2_d : FnD where
 N := 19
 np := 2
 cs := [resolve_checkLayer_c1_con]
 ds := [⟨0, [.s (.one (.d (.list iT))), .s (.one (.clo 270 [.p [ty63, ty53, ty27, ty75]])), sI, sI], [(.list iT), ty63, ty53, ty27, ty75, iT, iT], [⟨.ret, [sI], [iT]⟩, ⟨.exit 0, [], []⟩], fun h => Pw.slices_IndexFunc_int_int_s2_l0_step h.1 h.2.1 h.2.2.1 h.2.2.2.1 h.2.2.2.2.1 h.2.2.2.2.2.1 h.2.2.2.2.2.2⟩]
 modes := [(270, [false])]
 keep := [(0, ⟨[0, 1, 7, 8], [], [], []⟩)]
 keepX := [(0, .ret, ⟨[4], [], [], []⟩),
   (0, .exit 0, ⟨[], [], [], []⟩)]
 ro := [false]
theorem slices_IndexFunc_int_int_s2_ok : Con.OK Tryz.prog slices_IndexFunc_int_int_s2_con :=
 con_of tabOk mixedOk slices_IndexFunc_int_int_s2_d slices_IndexFunc_int_int_s2_con Tryz.f268 (Tryz.f268.body.getD .skip) Tryz.func268 (by kernel_rfl) (by kernel_rfl) (Nat.le_of_ble_eq_true (by kernel_rfl)) (by kernel_rfl) (And.intro resolve_checkLayer_c1_ok trivial) (by kernel_rfl) (by kernel_rfl)
   (And.intro (fun h => by kernel_rfl) trivial)
   (fun h => by kernel_rfl)
noncomputable def slices_ContainsFunc_int_int_s2_con : Con := ⟨210, [.v (.list iT), .clo 270 [.p [ty63, ty53, ty27, ty75]]], [(.list iT), ty63, ty53, ty27, ty75], ⟨[.v .bool], []⟩, [.bool], fun h => Pw.slices_ContainsFunc_int_int_s2 h.1 h.2.1 h.2.2.1 h.2.2.2.1 h.2.2.2.2⟩
noncomputable def slices_ContainsFunc_int_int_s2_d : FnD where
 N := 9
 np := 2
 cs := [slices_IndexFunc_int_int_s2_con]
 ds := []
 modes := [(268, [false, false])]
 ro := [false]
theorem slices_ContainsFunc_int_int_s2_ok : Con.OK Tryz.prog slices_ContainsFunc_int_int_s2_con :=
 con_of tabOk mixedOk slices_ContainsFunc_int_int_s2_d slices_ContainsFunc_int_int_s2_con Tryz.f210 (Tryz.f210.body.getD .skip) Tryz.func210 (by kernel_rfl) (by kernel_rfl) (Nat.le_of_ble_eq_true (by kernel_rfl)) (by kernel_rfl) (And.intro slices_IndexFunc_int_int_s2_ok trivial) (by kernel_rfl) (by kernel_rfl)
   trivial
   (fun h => by kernel_rfl)
noncomputable def resolve_checkLayer_con : Con := ⟨216, [.v ty81, .v ty69], [ty81, ty69], ⟨[.v iT], []⟩, [iT], fun h => Pw.resolve_checkLayer h.1 h.2⟩
noncomputable def resolve_checkLayer_d : FnD where
 N := 91
 np := 2
 cs := [resolve_index_con, week_Check_con, resolve_in_con, resolve_day_con, slices_ContainsFunc_int_int_s2_con]
 ds := []
 modes := [(207, [false, false]), (208, [false]), (210, [false, false]), (212, [false]), (267, [false, false, false])]
 ro := [false]
theorem resolve_checkLayer_ok : Con.OK Tryz.prog resolve_checkLayer_con :=
 con_of tabOk mixedOk resolve_checkLayer_d resolve_checkLayer_con Tryz.f216 (Tryz.f216.body.getD .skip) Tryz.func216 (by kernel_rfl) (by kernel_rfl) (Nat.le_of_ble_eq_true (by kernel_rfl)) (by kernel_rfl) (And.intro resolve_index_ok (And.intro week_Check_ok (And.intro resolve_in_ok (And.intro resolve_day_ok (And.intro slices_ContainsFunc_int_int_s2_ok trivial))))) (by kernel_rfl) (by kernel_rfl)
   trivial
   (fun h => by kernel_rfl)
noncomputable def resolve_checkSchedule_c2_con : Con := ⟨215, [.v ty69, .ip [ty63, ty53, ty27, ty75]], [ty69, ty63, ty53, ty27, ty75], ⟨[.v iT], []⟩, [iT], fun h => Pw.resolve_checkSchedule_c2 h.1 h.2.1 h.2.2.1 h.2.2.2.1 h.2.2.2.2⟩
noncomputable def resolve_checkSchedule_c2_d : FnD where
 N := 7
 np := 2
 cs := [resolve_checkLayer_con]
 ds := []
 modes := [(216, [false, false])]
 ro := [false]
theorem resolve_checkSchedule_c2_ok : Con.OK Tryz.prog resolve_checkSchedule_c2_con :=
 con_of tabOk mixedOk resolve_checkSchedule_c2_d resolve_checkSchedule_c2_con Tryz.f215 (Tryz.f215.body.getD .skip) Tryz.func215 (by kernel_rfl) (by kernel_rfl) (Nat.le_of_ble_eq_true (by kernel_rfl)) (by kernel_rfl) (And.intro resolve_checkLayer_ok trivial) (by kernel_rfl) (by kernel_rfl)
   trivial
   (fun h => by kernel_rfl)
noncomputable def resolve_named_api_Layer_con : Con := ⟨213, [.v ty70, .clo 214 [], .clo 215 [.p [ty63, ty53, ty27, ty75]]], [ty70, ty63, ty53, ty27, ty75], ⟨[.v iT], []⟩, [iT], fun h => Pw.resolve_named_api_Layer h.1 h.2.1 h.2.2.1 h.2.2.2.1 h.2.2.2.2⟩
noncomputable def resolve_named_api_Layer_d : FnD where
 N := 34
 np := 3
 cs := [resolve_name_con, resolve_checkSchedule_c1_con, resolve_checkSchedule_c2_con]
 ds := [⟨0, [.s (.one (.clo 214 [])), .s (.one (.clo 215 [.p [ty63, ty53, ty27, ty75]])), .s (.one (.ol 1000000)), .s (.one (.d ty70)), sI, sI, .b (.lst 4294967485 (.pair .str .bool) false)], [ty63, ty53, ty27, ty75, ty70, iT, iT, (.list (.pair .str .bool))], [⟨.ret, [sI], [iT]⟩, ⟨.exit 0, [], []⟩], fun h => Pw.resolve_named_api_Layer_l0_step h.1 h.2.1 h.2.2.1 h.2.2.2.1 h.2.2.2.2.1 h.2.2.2.2.2.1 h.2.2.2.2.2.2.1 h.2.2.2.2.2.2.2⟩]
 modes := [(144, [false, true]), (214, [false]), (215, [false])]
 keep := [(0, ⟨[1, 2, 7, 13, 14, 15], [], [⟨1000000, 4294967485, (.pair .str .bool), [.slot 7], false⟩], []⟩)]
 keepX := [(0, .ret, ⟨[6], [], [], []⟩),
   (0, .exit 0, ⟨[], [], [], []⟩)]
 ro := [false]
theorem resolve_named_api_Layer_ok : Con.OK Tryz.prog resolve_named_api_Layer_con :=
 con_of tabOk mixedOk resolve_named_api_Layer_d resolve_named_api_Layer_con Tryz.f213 (Tryz.f213.body.getD .skip) Tryz.func213 (by kernel_rfl) (by kernel_rfl) (Nat.le_of_ble_eq_true (by kernel_rfl)) (by kernel_rfl) (And.intro resolve_name_ok (And.intro resolve_checkSchedule_c1_ok (And.intro resolve_checkSchedule_c2_ok trivial))) (by kernel_rfl) (by kernel_rfl)
   (And.intro (fun h => by kernel_rfl) trivial)
   (fun h => by kernel_rfl)
noncomputable def resolve_checkEdit_con : Con := ⟨217, [.v ty81, .v ty39], [ty81, ty39], ⟨[.v iT], []⟩, [iT], fun h => Pw.resolve_checkEdit h.1 h.2⟩
noncomputable def resolve_checkEdit_d : FnD where
 N := 83
 np := 2
 cs := [resolve_index_con, resolve_in_con, resolve_day_con]
 ds := []
 modes := [(207, [false, false]), (212, [false]), (267, [false, false, false])]
 ro := [false]
theorem resolve_checkEdit_ok : Con.OK Tryz.prog resolve_checkEdit_con :=
 con_of tabOk mixedOk resolve_checkEdit_d resolve_checkEdit_con Tryz.f217 (Tryz.f217.body.getD .skip) Tryz.func217 (by kernel_rfl) (by kernel_rfl) (Nat.le_of_ble_eq_true (by kernel_rfl)) (by kernel_rfl) (And.intro resolve_index_ok (And.intro resolve_in_ok (And.intro resolve_day_ok trivial))) (by kernel_rfl) (by kernel_rfl)
   trivial
   (fun h => by kernel_rfl)
noncomputable def resolve_checkSchedule_con : Con := ⟨153, [.v ty81, .v ty74], [ty81, ty74], ⟨[.v iT], []⟩, [iT], fun h => Pw.resolve_checkSchedule h.1 h.2⟩
noncomputable def resolve_checkSchedule_d : FnD where
 N := 40
 np := 2
 cs := [resolve_named_api_Layer_con, resolve_checkEdit_con]
 ds := [⟨0, [.s (.one (.bp 128 0)), .s (.one (.d ty41)), sI, sI, .b (.cell [.d ty63, .d ty53, .d ty27, .d ty75] true)], [ty41, iT, iT, ty63, ty53, ty27, ty75], [⟨.ret, [sI], [iT]⟩, ⟨.exit 0, [], []⟩], fun h => Pw.resolve_checkSchedule_l0_step h.1 h.2.1 h.2.2.1 h.2.2.2.1 h.2.2.2.2.1 h.2.2.2.2.2.1 h.2.2.2.2.2.2⟩]
 modes := [(213, [false, false, false]), (217, [false, false])]
 keep := [(0, ⟨[2, 27, 28, 29], [128], [], []⟩)]
 keepX := [(0, .ret, ⟨[4], [], [], []⟩),
   (0, .exit 0, ⟨[], [], [], []⟩)]
 ro := [false]
theorem resolve_checkSchedule_ok : Con.OK Tryz.prog resolve_checkSchedule_con :=
 con_of tabOk mixedOk resolve_checkSchedule_d resolve_checkSchedule_con Tryz.f153 (Tryz.f153.body.getD .skip) Tryz.func153 (by kernel_rfl) (by kernel_rfl) (Nat.le_of_ble_eq_true (by kernel_rfl)) (by kernel_rfl) (And.intro resolve_named_api_Layer_ok (And.intro resolve_checkEdit_ok trivial)) (by kernel_rfl) (by kernel_rfl)
   (And.intro (fun h => by kernel_rfl) trivial)
   (fun h => by kernel_rfl)
noncomputable def resolve_Check_c5_con : Con := ⟨152, [.v ty74, .ip [ty63, ty53, ty27, ty75]], [ty74, ty63, ty53, ty27, ty75], ⟨[.v iT], []⟩, [iT], fun h => Pw.resolve_Check_c5 h.1 h.2.1 h.2.2.1 h.2.2.2.1 h.2.2.2.2⟩
noncomputable def resolve_Check_c5_d : FnD where
 N := 7
 np := 2
 cs := [resolve_checkSchedule_con]
 ds := []
 modes := [(153, [false, false])]
 ro := [false]
theorem resolve_Check_c5_ok : Con.OK Tryz.prog resolve_Check_c5_con :=
 con_of tabOk mixedOk resolve_Check_c5_d resolve_Check_c5_con Tryz.f152 (Tryz.f152.body.getD .skip) Tryz.func152 (by kernel_rfl) (by kernel_rfl) (Nat.le_of_ble_eq_true (by kernel_rfl)) (by kernel_rfl) (And.intro resolve_checkSchedule_ok trivial) (by kernel_rfl) (by kernel_rfl)
   trivial
   (fun h => by kernel_rfl)
noncomputable def resolve_named_api_Schedule_con : Con := ⟨150, [.v ty75, .clo 151 [], .clo 152 [.p [ty63, ty53, ty27, ty75]]], [ty75, ty63, ty53, ty27, ty75], ⟨[.v iT], []⟩, [iT], fun h => Pw.resolve_named_api_Schedule h.1 h.2.1 h.2.2.1 h.2.2.2.1 h.2.2.2.2⟩
noncomputable def resolve_named_api_Schedule_d : FnD where
 N := 34
 np := 3
 cs := [resolve_name_con, resolve_Check_c4_con, resolve_Check_c5_con]
 ds := [⟨0, [.s (.one (.clo 151 [])), .s (.one (.clo 152 [.p [ty63, ty53, ty27, ty75]])), .s (.one (.ol 1000000)), .s (.one (.d ty75)), sI, sI, .b (.lst 4294967485 (.pair .str .bool) false)], [ty63, ty53, ty27, ty75, ty75, iT, iT, (.list (.pair .str .bool))], [⟨.ret, [sI], [iT]⟩, ⟨.exit 0, [], []⟩], fun h => Pw.resolve_named_api_Schedule_l0_step h.1 h.2.1 h.2.2.1 h.2.2.2.1 h.2.2.2.2.1 h.2.2.2.2.2.1 h.2.2.2.2.2.2.1 h.2.2.2.2.2.2.2⟩]
 modes := [(144, [false, true]), (151, [false]), (152, [false])]
 keep := [(0, ⟨[1, 2, 7, 13, 14, 15], [], [⟨1000000, 4294967485, (.pair .str .bool), [.slot 7], false⟩], []⟩)]
 keepX := [(0, .ret, ⟨[6], [], [], []⟩),
   (0, .exit 0, ⟨[], [], [], []⟩)]
 ro := [false]
theorem resolve_named_api_Schedule_ok : Con.OK Tryz.prog resolve_named_api_Schedule_con :=
 con_of tabOk mixedOk resolve_named_api_Schedule_d resolve_named_api_Schedule_con Tryz.f150 (Tryz.f150.body.getD .skip) Tryz.func150 (by kernel_rfl) (by kernel_rfl) (Nat.le_of_ble_eq_true (by kernel_rfl)) (by kernel_rfl) (And.intro resolve_name_ok (And.intro resolve_Check_c4_ok (And.intro resolve_Check_c5_ok trivial))) (by kernel_rfl) (by kernel_rfl)
   (And.intro (fun h => by kernel_rfl) trivial)
   (fun h => by kernel_rfl)
noncomputable def resolve_Check_con : Con := ⟨91, [.v ty81], [ty81], ⟨[.v iT], []⟩, [iT], fun h => Pw.resolve_Check h⟩
noncomputable def resolve_Check_d : FnD where
 N := 72
 np := 1
 cs := [resolve_name_con, resolve_named_api_Zone_con, resolve_checkPerson_con, resolve_named_api_Calendar_con, resolve_named_api_Schedule_con]
 ds := [⟨0, [.s (.one (.bp 64 0)), .s (.one (.ol 1000000)), .s (.one (.d ty53)), sI, sI, .b (.cell [.d ty63, .d ty53, .d ty27, .d ty75] false), .b (.lst 4294967485 (.pair .str .bool) false)], [ty53, iT, iT, ty63, ty53, ty27, ty75, (.list (.pair .str .bool))], [⟨.ret, [sI], [iT]⟩, ⟨.exit 0, [.s (.one (.bp 64 0)), .b (.cell [.d ty63, .d ty53, .d ty27, .d ty75] false)], [ty63, ty53, ty27, ty75]⟩], fun h => Pw.resolve_Check_l0_step h.1 h.2.1 h.2.2.1 h.2.2.2.1 h.2.2.2.2.1 h.2.2.2.2.2.1 h.2.2.2.2.2.2.1 h.2.2.2.2.2.2.2⟩]
 modes := [(141, [false, false, false]), (144, [false, true]), (145, [false, false]), (146, [false, false, false]), (150, [false, false, false])]
 keep := [(0, ⟨[1, 4, 39, 40, 41], [64], [⟨1000000, 4294967485, (.pair .str .bool), [.slot 4], false⟩], []⟩)]
 keepX := [(0, .ret, ⟨[2], [], [], []⟩),
   (0, .exit 0, ⟨[1], [64], [], []⟩)]
 ro := [false]
theorem resolve_Check_ok : Con.OK Tryz.prog resolve_Check_con :=
 con_of tabOk mixedOk resolve_Check_d resolve_Check_con Tryz.f91 (Tryz.f91.body.getD .skip) Tryz.func91 (by kernel_rfl) (by kernel_rfl) (Nat.le_of_ble_eq_true (by kernel_rfl)) (by kernel_rfl) (And.intro resolve_name_ok (And.intro resolve_named_api_Zone_ok (And.intro resolve_checkPerson_ok (And.intro resolve_named_api_Calendar_ok (And.intro resolve_named_api_Schedule_ok trivial))))) (by kernel_rfl) (by kernel_rfl)
   (And.intro (fun h => by kernel_rfl) trivial)
   (fun h => by kernel_rfl)
end Go.Proofs.Pk
