/- Contracts: each given function is its plain function, printed by a program. -/
import Derived.Test.YtielflihgdebiaaGreatCon3
open Go Go.Lft
set_option linter.unusedVariables false
set_option maxRecDepth 100000
namespace Go.Proofs.Pk

noncomputable def slices_SortFunc_api_Span_api_Span_237_con : Con := ⟨236, [.rl 153 ty16, .clo 237 []], [ty16], ⟨[], [.rl ty16]⟩, [ty16], fun h => Pw.slices_SortFunc_api_Span_api_Span_237 h⟩

noncomputable def slices_SortFunc_api_Span_api_Span_237_d : FnD where
  N := 14
  np := 2
  cs := [span_Merge_c2_con]
  ds := []
  modes := [(237, [false, false])]

theorem slices_SortFunc_api_Span_api_Span_237_ok : Con.OK Tryz.prog slices_SortFunc_api_Span_api_Span_237_con :=
  con_sort Tryz.sort236 (ty10) rfl 153 (by kernel_rfl) Tryz.isAgg153 Tryz.sizeOf153 _ 237 (enters_of Tryz.func237 (by kernel_rfl) rfl) sort237_cmp sort237_swo 236 rfl

noncomputable def span_Merge_con : Con := ⟨167, [.v ty16], [ty16], ⟨[.own 153 ty16], []⟩, [ty16], fun h => Pw.span_Merge h⟩

noncomputable def span_Merge_d : FnD where
  N := 54
  np := 1
  cs := [slices_Clone_api_Span_api_Span_con, slices_DeleteFunc_api_Span_api_Span_con, slices_SortFunc_api_Span_api_Span_237_con]
  ds := [⟨0, [.s (.one (.ol 1000000)), .s (.one (.ol 1000001)), .s (.one (.d (.int .i64))), .s (.one (.d (.int .i64))), .b (.lst 153 ty10 false), .b (.lst 153 ty10 false)], [(.int .i64), (.int .i64), ty16, ty16], [⟨.exit 0, [.s (.one (.ol 1500100)), .b (.lst 153 ty10 false)], [ty16]⟩], fun h => Pw.span_Merge_l0_step h.1 h.2.1 h.2.2.1 h.2.2.2⟩]
  modes := [(233, [true, false]), (234, [false]), (236, [true, false])]
  keep := [(0, ⟨[4, 13, 14, 15], [], [⟨1000000, 153, ty10, [.slot 4], false⟩, ⟨1000001, 153, ty10, [.slot 13], false⟩], []⟩)]
  keepX := [(0, .exit 0, ⟨[4], [], [⟨1500100, 153, ty10, [.slot 4], false⟩], []⟩)]
  ro := [true]
  dw := [(9, [[], [], [], [], [], [], [], [], [], [], [], [], [], [], [1000000]])]

theorem span_Merge_ok : Con.OK Tryz.prog span_Merge_con :=
  con_of tabOk mixedOk span_Merge_d span_Merge_con Tryz.f167 (Tryz.f167.body.getD .skip) Tryz.func167 (by kernel_rfl) (by kernel_rfl) (Nat.le_of_ble_eq_true (by kernel_rfl)) (by kernel_rfl) (And.intro slices_Clone_api_Span_api_Span_ok (And.intro slices_DeleteFunc_api_Span_api_Span_ok (And.intro slices_SortFunc_api_Span_api_Span_237_ok trivial))) (by kernel_rfl) (by kernel_rfl)
    (And.intro (fun h => by kernel_rfl) trivial)
    (fun h => by kernel_rfl)

noncomputable def week_TimesOf_con : Con := ⟨103, [.v ty31, .v ty16, .v (.int .i64), .v (.int .i64)], [ty31, ty16, (.int .i64), (.int .i64)], ⟨[.own 153 ty16], []⟩, [ty16], fun h => Pw.week_TimesOf h.1 h.2.1 h.2.2.1 h.2.2.2⟩

noncomputable def week_TimesOf_d : FnD where
  N := 73
  np := 4
  cs := [zone_Table_Pieces_con, span_Merge_con]
  ds := [⟨0, [.s (.one (.d ty16)), .s (.one (.ol 1000000)), .s (.one (.ol 1000001)), .s (.one (.d (.int .i64))), .s (.one (.d (.int .i64))), .b (.lst 153 ty10 false), .b (.lst 209 ty25 false)], [ty16, (.int .i64), (.int .i64), ty16, ty30], [⟨.exit 0, [.s (.one (.ol 1500100)), .b (.lst 153 ty10 false)], [ty16]⟩], fun h => Pw.week_TimesOf_l0_step h.1 h.2.1 h.2.2.1 h.2.2.2.1 h.2.2.2.2⟩,
    ⟨2, [.s (.one (.d ty16)), .s (.one (.ol 1002000)), .s (.one (.bp 704 0)), .s (.one (.d (.int .i64))), .s (.one (.ol 1002001)), .s (.one (.d (.int .i64))), .s (.one (.d (.int .i64))), .b (.cell [.d (.int .i64), .d (.int .i64), .d (.int .i64)] false), .b (.lst 153 ty10 false), .b (.lst 209 ty25 false)], [ty16, (.int .i64), (.int .i64), (.int .i64), (.int .i64), (.int .i64), (.int .i64), ty16, ty30], [⟨.exit 2, [.s (.one (.d ty16)), .s (.one (.ol 1502300)), .s (.one (.ol 1502301)), .s (.one (.d (.int .i64))), .s (.one (.d (.int .i64))), .b (.lst 153 ty10 false), .b (.lst 209 ty25 false)], [ty16, (.int .i64), (.int .i64), ty16, ty30]⟩], fun h => Pw.week_TimesOf_l2_step h.1 h.2.1 h.2.2.1 h.2.2.2.1 h.2.2.2.2.1 h.2.2.2.2.2.1 h.2.2.2.2.2.2.1 h.2.2.2.2.2.2.2.1 h.2.2.2.2.2.2.2.2⟩,
    ⟨4, [.s (.one (.d ty16)), .s (.one (.ol 1004000)), .s (.one (.bp 704 0)), .s (.one (.d (.int .i64))), .s (.one (.ol 1004001)), .s (.one (.d (.int .i64))), .s (.one (.d (.int .i64))), .s (.one (.d ty16)), .s (.one (.d (.int .i64))), .s (.one (.d (.int .i64))), .b (.cell [.d (.int .i64), .d (.int .i64), .d (.int .i64)] false), .b (.lst 153 ty10 false), .b (.lst 209 ty25 false)], [ty16, (.int .i64), (.int .i64), (.int .i64), ty16, (.int .i64), (.int .i64), (.int .i64), (.int .i64), (.int .i64), ty16, ty30], [⟨.exit 4, [.s (.one (.d ty16)), .s (.one (.ol 1504500)), .s (.one (.bp 704 0)), .s (.one (.d (.int .i64))), .s (.one (.ol 1504501)), .s (.one (.d (.int .i64))), .s (.one (.d (.int .i64))), .b (.cell [.d (.int .i64), .d (.int .i64), .d (.int .i64)] false), .b (.lst 153 ty10 false), .b (.lst 209 ty25 false)], [ty16, (.int .i64), (.int .i64), (.int .i64), (.int .i64), (.int .i64), (.int .i64), ty16, ty30]⟩], fun h => Pw.week_TimesOf_l4_step h.1 h.2.1 h.2.2.1 h.2.2.2.1 h.2.2.2.2.1 h.2.2.2.2.2.1 h.2.2.2.2.2.2.1 h.2.2.2.2.2.2.2.1 h.2.2.2.2.2.2.2.2.1 h.2.2.2.2.2.2.2.2.2.1 h.2.2.2.2.2.2.2.2.2.2.1 h.2.2.2.2.2.2.2.2.2.2.2⟩]
  modes := [(166, [false, false, false]), (167, [false])]
  keep := [(0, ⟨[1, 9, 19, 20, 21], [], [⟨1000000, 153, ty10, [.slot 9], false⟩, ⟨1000001, 209, ty25, [.slot 19], false⟩], []⟩),
    (2, ⟨[1, 9, 11, 13, 19, 20, 21], [704], [⟨1002000, 153, ty10, [.slot 9], false⟩, ⟨1002001, 209, ty25, [.slot 19], false⟩], []⟩),
    (4, ⟨[1, 9, 11, 13, 19, 20, 21, 45, 46, 47], [704], [⟨1004000, 153, ty10, [.slot 9], false⟩, ⟨1004001, 209, ty25, [.slot 19], false⟩], []⟩)]
  keepX := [(0, .exit 0, ⟨[9], [], [⟨1500100, 153, ty10, [.slot 9], false⟩], []⟩),
    (2, .exit 2, ⟨[1, 9, 19, 20, 21], [], [⟨1502300, 153, ty10, [.slot 9], false⟩, ⟨1502301, 209, ty25, [.slot 19], false⟩], []⟩),
    (4, .exit 4, ⟨[1, 9, 11, 13, 19, 20, 21], [704], [⟨1504500, 153, ty10, [.slot 9], false⟩, ⟨1504501, 209, ty25, [.slot 19], false⟩], []⟩)]
  ro := [true]

theorem week_TimesOf_ok : Con.OK Tryz.prog week_TimesOf_con :=
  con_of tabOk mixedOk week_TimesOf_d week_TimesOf_con Tryz.f103 (Tryz.f103.body.getD .skip) Tryz.func103 (by kernel_rfl) (by kernel_rfl) (Nat.le_of_ble_eq_true (by kernel_rfl)) (by kernel_rfl) (And.intro zone_Table_Pieces_ok (And.intro span_Merge_ok trivial)) (by kernel_rfl) (by kernel_rfl)
    (And.intro (fun h => by kernel_rfl) (And.intro (fun h => by kernel_rfl) (And.intro (fun h => by kernel_rfl) trivial)))
    (fun h => by kernel_rfl)

noncomputable def duty_View_days_con : Con := ⟨184, [.v ty88, .v ty27, .v (.int .i64), .v (.int .i64)], [ty88, ty27, (.int .i64), (.int .i64)], ⟨[.own 153 ty16], []⟩, [ty16], fun h => Pw.duty_View_days h.1 h.2.1 h.2.2.1 h.2.2.2⟩

noncomputable def duty_View_days_d : FnD where
  N := 58
  np := 4
  cs := [zone_Table_Pieces_con, span_Merge_con]
  ds := [⟨0, [.s (.one (.bp 320 0)), .s (.one (.ol 1000000)), .s (.one (.ol 1000001)), .s (.one (.d (.int .i64))), .s (.one (.d (.int .i64))), .b (.cell [.d .str, .d (.int .i64), .d (.list (.int .i64))] false), .b (.lst 153 ty10 false), .b (.lst 209 ty25 false)], [(.int .i64), (.int .i64), .str, (.int .i64), (.list (.int .i64)), ty16, ty30], [⟨.exit 0, [.s (.one (.ol 1500100)), .b (.lst 153 ty10 false)], [ty16]⟩], fun h => Pw.duty_View_days_l0_step h.1 h.2.1 h.2.2.1 h.2.2.2.1 h.2.2.2.2.1 h.2.2.2.2.2.1 h.2.2.2.2.2.2⟩,
    ⟨2, [.s (.one (.bp 320 0)), .s (.one (.ol 1002000)), .s (.one (.bp 704 0)), .s (.one (.ol 1002001)), .s (.one (.d (.int .i64))), .s (.one (.d (.int .i64))), .s (.one (.d (.list (.int .i64)))), .s (.one (.d (.int .i64))), .s (.one (.d (.int .i64))), .b (.cell [.d .str, .d (.int .i64), .d (.list (.int .i64))] false), .b (.cell [.d (.int .i64), .d (.int .i64), .d (.int .i64)] false), .b (.lst 153 ty10 false), .b (.lst 209 ty25 false)], [(.int .i64), (.int .i64), (.list (.int .i64)), (.int .i64), (.int .i64), .str, (.int .i64), (.list (.int .i64)), (.int .i64), (.int .i64), (.int .i64), ty16, ty30], [⟨.exit 2, [.s (.one (.bp 320 0)), .s (.one (.ol 1502300)), .s (.one (.ol 1502301)), .s (.one (.d (.int .i64))), .s (.one (.d (.int .i64))), .b (.cell [.d .str, .d (.int .i64), .d (.list (.int .i64))] false), .b (.lst 153 ty10 false), .b (.lst 209 ty25 false)], [(.int .i64), (.int .i64), .str, (.int .i64), (.list (.int .i64)), ty16, ty30]⟩], fun h => Pw.duty_View_days_l2_step h.1 h.2.1 h.2.2.1 h.2.2.2.1 h.2.2.2.2.1 h.2.2.2.2.2.1 h.2.2.2.2.2.2.1 h.2.2.2.2.2.2.2.1 h.2.2.2.2.2.2.2.2.1 h.2.2.2.2.2.2.2.2.2.1 h.2.2.2.2.2.2.2.2.2.2.1 h.2.2.2.2.2.2.2.2.2.2.2.1 h.2.2.2.2.2.2.2.2.2.2.2.2⟩]
  modes := [(166, [false, false, false]), (167, [false])]
  keep := [(0, ⟨[5, 9, 23, 24, 25], [320], [⟨1000000, 153, ty10, [.slot 9], false⟩, ⟨1000001, 209, ty25, [.slot 23], false⟩], []⟩),
    (2, ⟨[5, 9, 11, 23, 24, 25, 30, 31, 32], [320, 704], [⟨1002000, 153, ty10, [.slot 9], false⟩, ⟨1002001, 209, ty25, [.slot 23], false⟩], []⟩)]
  keepX := [(0, .exit 0, ⟨[9], [], [⟨1500100, 153, ty10, [.slot 9], false⟩], []⟩),
    (2, .exit 2, ⟨[5, 9, 23, 24, 25], [320], [⟨1502300, 153, ty10, [.slot 9], false⟩, ⟨1502301, 209, ty25, [.slot 23], false⟩], []⟩)]
  ro := [true]

theorem duty_View_days_ok : Con.OK Tryz.prog duty_View_days_con :=
  con_of tabOk mixedOk duty_View_days_d duty_View_days_con Tryz.f184 (Tryz.f184.body.getD .skip) Tryz.func184 (by kernel_rfl) (by kernel_rfl) (Nat.le_of_ble_eq_true (by kernel_rfl)) (by kernel_rfl) (And.intro zone_Table_Pieces_ok (And.intro span_Merge_ok trivial)) (by kernel_rfl) (by kernel_rfl)
    (And.intro (fun h => by kernel_rfl) (And.intro (fun h => by kernel_rfl) trivial))
    (fun h => by kernel_rfl)

noncomputable def span_Without_con : Con := ⟨183, [.v ty16, .v ty16], [ty16, ty16], ⟨[.own 153 ty16], []⟩, [ty16], fun h => Pw.span_Without h.1 h.2⟩

noncomputable def span_Without_d : FnD where
  N := 89
  np := 2
  cs := []
  ds := [⟨0, [.s (.one (.d ty16)), .s (.one (.ol 1000000)), .s (.one (.d (.int .i64))), .s (.one (.d ty16)), .s (.one (.d (.int .i64))), .s (.one (.d (.int .i64))), .b (.lst 153 ty10 false)], [ty16, (.int .i64), ty16, (.int .i64), (.int .i64), ty16], [⟨.exit 0, [.s (.one (.ol 1500100)), .b (.lst 153 ty10 false)], [ty16]⟩], fun h => Pw.span_Without_l0_step h.1 h.2.1 h.2.2.1 h.2.2.2.1 h.2.2.2.2.1 h.2.2.2.2.2⟩,
    ⟨2, [.s (.one (.d ty16)), .s (.one (.ol 1002000)), .s (.one (.d (.int .i64))), .s (.one (.bp 512 0)), .s (.one (.d ty16)), .s (.one (.d (.int .i64))), .s (.one (.d (.int .i64))), .b (.cell [.d (.int .i64), .d (.int .i64)] false), .b (.lst 153 ty10 false)], [ty16, (.int .i64), ty16, (.int .i64), (.int .i64), (.int .i64), (.int .i64), ty16], [⟨.exit 2, [.s (.one (.d ty16)), .s (.one (.ol 1502300)), .s (.one (.d (.int .i64))), .s (.one (.bp 512 0)), .s (.one (.d ty16)), .s (.one (.d (.int .i64))), .s (.one (.d (.int .i64))), .b (.cell [.d (.int .i64), .d (.int .i64)] false), .b (.lst 153 ty10 false)], [ty16, (.int .i64), ty16, (.int .i64), (.int .i64), (.int .i64), (.int .i64), ty16]⟩], fun h => Pw.span_Without_l2_step h.1 h.2.1 h.2.2.1 h.2.2.2.1 h.2.2.2.2.1 h.2.2.2.2.2.1 h.2.2.2.2.2.2.1 h.2.2.2.2.2.2.2⟩,
    ⟨4, [.s (.one (.d ty16)), .s (.one (.ol 1004000)), .s (.one (.d (.int .i64))), .s (.one (.bp 512 0)), .s (.one (.d (.int .i64))), .s (.one (.d (.int .i64))), .s (.one (.d ty16)), .s (.one (.d (.int .i64))), .s (.one (.d (.int .i64))), .b (.cell [.d (.int .i64), .d (.int .i64)] false), .b (.lst 153 ty10 false)], [ty16, (.int .i64), (.int .i64), (.int .i64), ty16, (.int .i64), (.int .i64), (.int .i64), (.int .i64), ty16], [⟨.exit 4, [.s (.one (.d ty16)), .s (.one (.ol 1504500)), .s (.one (.d (.int .i64))), .s (.one (.bp 512 0)), .s (.one (.d (.int .i64))), .s (.one (.d ty16)), .s (.one (.d (.int .i64))), .s (.one (.d (.int .i64))), .b (.cell [.d (.int .i64), .d (.int .i64)] false), .b (.lst 153 ty10 false)], [ty16, (.int .i64), (.int .i64), ty16, (.int .i64), (.int .i64), (.int .i64), (.int .i64), ty16]⟩], fun h => Pw.span_Without_l4_step h.1 h.2.1 h.2.2.1 h.2.2.2.1 h.2.2.2.2.1 h.2.2.2.2.2.1 h.2.2.2.2.2.2.1 h.2.2.2.2.2.2.2.1 h.2.2.2.2.2.2.2.2.1 h.2.2.2.2.2.2.2.2.2⟩]
  keep := [(0, ⟨[1, 5, 6, 11, 12, 13], [], [⟨1000000, 153, ty10, [.slot 5], false⟩], []⟩),
    (2, ⟨[1, 5, 6, 8, 11, 12, 13], [512], [⟨1002000, 153, ty10, [.slot 5], false⟩], []⟩),
    (4, ⟨[1, 5, 6, 8, 9, 10, 11, 12, 13], [512], [⟨1004000, 153, ty10, [.slot 5], false⟩], []⟩)]
  keepX := [(0, .exit 0, ⟨[5], [], [⟨1500100, 153, ty10, [.slot 5], false⟩], []⟩),
    (2, .exit 2, ⟨[1, 5, 6, 8, 11, 12, 13], [512], [⟨1502300, 153, ty10, [.slot 5], false⟩], []⟩),
    (4, .exit 4, ⟨[1, 5, 6, 8, 9, 11, 12, 13], [512], [⟨1504500, 153, ty10, [.slot 5], false⟩], []⟩)]
  ro := [true]

theorem span_Without_ok : Con.OK Tryz.prog span_Without_con :=
  con_of tabOk mixedOk span_Without_d span_Without_con Tryz.f183 (Tryz.f183.body.getD .skip) Tryz.func183 (by kernel_rfl) (by kernel_rfl) (Nat.le_of_ble_eq_true (by kernel_rfl)) (by kernel_rfl) trivial (by kernel_rfl) (by kernel_rfl)
    (And.intro (fun h => by kernel_rfl) (And.intro (fun h => by kernel_rfl) (And.intro (fun h => by kernel_rfl) trivial)))
    (fun h => by kernel_rfl)

noncomputable def span_Common_con : Con := ⟨185, [.v ty16, .v ty16], [ty16, ty16], ⟨[.own 153 ty16], []⟩, [ty16], fun h => Pw.span_Common h.1 h.2⟩

noncomputable def span_Common_d : FnD where
  N := 67
  np := 2
  cs := []
  ds := [⟨0, [.s (.one (.d ty16)), .s (.one (.d ty16)), .s (.one (.ol 1000000)), .s (.one (.d (.int .i64))), .s (.one (.d (.int .i64))), .b (.lst 153 ty10 false)], [ty16, ty16, (.int .i64), (.int .i64), ty16], [⟨.exit 0, [.s (.one (.ol 1500100)), .b (.lst 153 ty10 false)], [ty16]⟩], fun h => Pw.span_Common_l0_step h.1 h.2.1 h.2.2.1 h.2.2.2.1 h.2.2.2.2⟩]
  keep := [(0, ⟨[0, 1, 5, 6, 7], [], [⟨1000000, 153, ty10, [.slot 5], false⟩], []⟩)]
  keepX := [(0, .exit 0, ⟨[5], [], [⟨1500100, 153, ty10, [.slot 5], false⟩], []⟩)]
  ro := [true]
  dw := [(4, [[], [], [], [], [], [], [], [], [], [], [], [], [], [], [], [], [], [], [], [], [], [], [], [512], [512]])]

theorem span_Common_ok : Con.OK Tryz.prog span_Common_con :=
  con_of tabOk mixedOk span_Common_d span_Common_con Tryz.f185 (Tryz.f185.body.getD .skip) Tryz.func185 (by kernel_rfl) (by kernel_rfl) (Nat.le_of_ble_eq_true (by kernel_rfl)) (by kernel_rfl) trivial (by kernel_rfl) (by kernel_rfl)
    (And.intro (fun h => by kernel_rfl) trivial)
    (fun h => by kernel_rfl)

noncomputable def duty_View_Times_con : Con := ⟨121, [.v ty88, .v ty74, .v (.int .i64), .v (.int .i64)], [ty88, ty74, (.int .i64), (.int .i64)], ⟨[.own 153 ty16], []⟩, [ty16], fun h => Pw.duty_View_Times h.1 h.2.1 h.2.2.1 h.2.2.2⟩

noncomputable def duty_View_Times_d : FnD where
  N := 90
  np := 4
  cs := [recur_HandoverOf_con, week_TimesOf_con, duty_View_days_con, span_Without_con, span_Common_con]
  ds := []
  modes := [(103, [false, false, false, false]), (182, [false, false, false]), (183, [false, false]), (184, [false, false, false, false]), (185, [false, false])]
  ro := [true]
  dw := [(7, [[], [], [], [], [], [], [], [], [], [], [3584], []]), (10, [[], [], [], [], [], [], [], [], [], [], [], [4608], [2624, 3584, 4608, 4672], []]), (12, [[], [], [], [], [], [], [], [], [], [], [], [5568], [2624, 3584, 5568, 5632], []])]

theorem duty_View_Times_ok : Con.OK Tryz.prog duty_View_Times_con :=
  con_of tabOk mixedOk duty_View_Times_d duty_View_Times_con Tryz.f121 (Tryz.f121.body.getD .skip) Tryz.func121 (by kernel_rfl) (by kernel_rfl) (Nat.le_of_ble_eq_true (by kernel_rfl)) (by kernel_rfl) (And.intro recur_HandoverOf_ok (And.intro week_TimesOf_ok (And.intro duty_View_days_ok (And.intro span_Without_ok (And.intro span_Common_ok trivial))))) (by kernel_rfl) (by kernel_rfl)
    trivial
    (fun h => by kernel_rfl)

noncomputable def zone_Table_Offset_con : Con := ⟨205, [.v ty31, .v (.int .i64)], [ty31, (.int .i64)], ⟨[.v (.int .i64)], []⟩, [(.int .i64)], fun h => Pw.zone_Table_Offset h.1 h.2⟩

noncomputable def zone_Table_Offset_d : FnD where
  N := 10
  np := 2
  cs := [zone_Table_after_con, zone_Table_before_con]
  ds := []
  modes := [(231, [false, false]), (232, [false, false])]
  ro := [false]

theorem zone_Table_Offset_ok : Con.OK Tryz.prog zone_Table_Offset_con :=
  con_of tabOk mixedOk zone_Table_Offset_d zone_Table_Offset_con Tryz.f205 (Tryz.f205.body.getD .skip) Tryz.func205 (by kernel_rfl) (by kernel_rfl) (Nat.le_of_ble_eq_true (by kernel_rfl)) (by kernel_rfl) (And.intro zone_Table_after_ok (And.intro zone_Table_before_ok trivial)) (by kernel_rfl) (by kernel_rfl)
    trivial
    (fun h => by kernel_rfl)

noncomputable def zone_local_con : Con := ⟨204, [.v (.int .i64)], [(.int .i64)], ⟨[.v ty10], []⟩, [ty10], fun h => Pw.zone_local h⟩

noncomputable def zone_local_d : FnD where
  N := 17
  np := 1
  cs := []
  ds := []
  ro := [false]

theorem zone_local_ok : Con.OK Tryz.prog zone_local_con :=
  con_of tabOk mixedOk zone_local_d zone_local_con Tryz.f204 (Tryz.f204.body.getD .skip) Tryz.func204 (by kernel_rfl) (by kernel_rfl) (Nat.le_of_ble_eq_true (by kernel_rfl)) (by kernel_rfl) trivial (by kernel_rfl) (by kernel_rfl)
    trivial
    (fun h => by kernel_rfl)

noncomputable def zone_Table_Local_con : Con := ⟨144, [.v ty31, .v (.int .i64)], [ty31, (.int .i64)], ⟨[.v ty10], []⟩, [ty10], fun h => Pw.zone_Table_Local h.1 h.2⟩

noncomputable def zone_Table_Local_d : FnD where
  N := 11
  np := 2
  cs := [zone_Table_Offset_con, zone_local_con]
  ds := []
  modes := [(204, [false]), (205, [false, false])]
  ro := [false]

theorem zone_Table_Local_ok : Con.OK Tryz.prog zone_Table_Local_con :=
  con_of tabOk mixedOk zone_Table_Local_d zone_Table_Local_con Tryz.f144 (Tryz.f144.body.getD .skip) Tryz.func144 (by kernel_rfl) (by kernel_rfl) (Nat.le_of_ble_eq_true (by kernel_rfl)) (by kernel_rfl) (And.intro zone_Table_Offset_ok (And.intro zone_local_ok trivial)) (by kernel_rfl) (by kernel_rfl)
    trivial
    (fun h => by kernel_rfl)

noncomputable def recur_ShiftOf_con : Con := ⟨181, [.v ty31, .v ty74, .v (.int .i64)], [ty31, ty74, (.int .i64)], ⟨[.v (.int .i64)], []⟩, [(.int .i64)], fun h => Pw.recur_ShiftOf h.1 h.2.1 h.2.2⟩

noncomputable def recur_ShiftOf_d : FnD where
  N := 84
  np := 3
  cs := [recur_step_con, recur_HandoverOf_con, zone_Table_Local_con]
  ds := [⟨0, [.s (.one (.d (.int .i64))), .s (.one (.bp 192 0)), .s (.one (.bp 256 0)), .s (.one (.d (.int .i64))), .b (.cell [.d (.int .i64), .d ty16] false), .b (.cell [.d .str, .d (.int .i64), .d (.int .i64), .d (.int .i64), .d (.int .i64), .d (.int .i64), .d (.list (.int .i64)), .d ty16, .d (.int .i64), .d (.int .i64)] false)], [(.int .i64), (.int .i64), (.int .i64), ty16, .str, (.int .i64), (.int .i64), (.int .i64), (.int .i64), (.int .i64), (.list (.int .i64)), ty16, (.int .i64), (.int .i64)], [⟨.exit 0, [.s (.one (.d (.int .i64))), .s (.one (.bp 192 0)), .s (.one (.bp 256 0)), .s (.one (.d (.int .i64))), .b (.cell [.d (.int .i64), .d ty16] false), .b (.cell [.d .str, .d (.int .i64), .d (.int .i64), .d (.int .i64), .d (.int .i64), .d (.int .i64), .d (.list (.int .i64)), .d ty16, .d (.int .i64), .d (.int .i64)] false)], [(.int .i64), (.int .i64), (.int .i64), ty16, .str, (.int .i64), (.int .i64), (.int .i64), (.int .i64), (.int .i64), (.list (.int .i64)), ty16, (.int .i64), (.int .i64)]⟩], fun h => Pw.recur_ShiftOf_l0_step h.1 h.2.1 h.2.2.1 h.2.2.2.1 h.2.2.2.2.1 h.2.2.2.2.2.1 h.2.2.2.2.2.2.1 h.2.2.2.2.2.2.2.1 h.2.2.2.2.2.2.2.2.1 h.2.2.2.2.2.2.2.2.2.1 h.2.2.2.2.2.2.2.2.2.2.1 h.2.2.2.2.2.2.2.2.2.2.2.1 h.2.2.2.2.2.2.2.2.2.2.2.2.1 h.2.2.2.2.2.2.2.2.2.2.2.2.2⟩,
    ⟨2, [.s (.one (.d (.int .i64))), .s (.one (.bp 192 0)), .s (.one (.bp 256 0)), .s (.one (.d (.int .i64))), .b (.cell [.d (.int .i64), .d ty16] false), .b (.cell [.d .str, .d (.int .i64), .d (.int .i64), .d (.int .i64), .d (.int .i64), .d (.int .i64), .d (.list (.int .i64)), .d ty16, .d (.int .i64), .d (.int .i64)] false)], [(.int .i64), (.int .i64), (.int .i64), ty16, .str, (.int .i64), (.int .i64), (.int .i64), (.int .i64), (.int .i64), (.list (.int .i64)), ty16, (.int .i64), (.int .i64)], [⟨.ret, [.s (.one (.d (.int .i64)))], [(.int .i64)]⟩], fun h => Pw.recur_ShiftOf_l2_step h.1 h.2.1 h.2.2.1 h.2.2.2.1 h.2.2.2.2.1 h.2.2.2.2.2.1 h.2.2.2.2.2.2.1 h.2.2.2.2.2.2.2.1 h.2.2.2.2.2.2.2.2.1 h.2.2.2.2.2.2.2.2.2.1 h.2.2.2.2.2.2.2.2.2.2.1 h.2.2.2.2.2.2.2.2.2.2.2.1 h.2.2.2.2.2.2.2.2.2.2.2.2.1 h.2.2.2.2.2.2.2.2.2.2.2.2.2⟩]
  modes := [(144, [false, false]), (182, [false, false, false]), (251, [false])]
  keep := [(0, ⟨[2, 3, 4, 9], [192, 256], [], []⟩),
    (2, ⟨[2, 3, 4, 9], [192, 256], [], []⟩)]
  keepX := [(0, .exit 0, ⟨[2, 3, 4, 9], [192, 256], [], []⟩),
    (2, .ret, ⟨[6], [], [], []⟩)]
  ro := [false]

theorem recur_ShiftOf_ok : Con.OK Tryz.prog recur_ShiftOf_con :=
  con_of tabOk mixedOk recur_ShiftOf_d recur_ShiftOf_con Tryz.f181 (Tryz.f181.body.getD .skip) Tryz.func181 (by kernel_rfl) (by kernel_rfl) (Nat.le_of_ble_eq_true (by kernel_rfl)) (by kernel_rfl) (And.intro recur_step_ok (And.intro recur_HandoverOf_ok (And.intro zone_Table_Local_ok trivial))) (by kernel_rfl) (by kernel_rfl)
    (And.intro (fun h => by kernel_rfl) (And.intro (fun h => by kernel_rfl) trivial))
    (fun h => by kernel_rfl)

noncomputable def duty_Merge_con : Con := ⟨69, [.v ty30], [ty30], ⟨[.own 96 ty30], []⟩, [ty30], fun h => Pw.duty_Merge h⟩

noncomputable def duty_Merge_d : FnD where
  N := 57
  np := 1
  cs := []
  ds := [⟨0, [.s (.one (.ol 1000000)), .s (.one (.d ty30)), .s (.one (.d (.int .i64))), .s (.one (.d (.int .i64))), .b (.lst 96 ty25 false)], [ty30, (.int .i64), (.int .i64), ty30], [⟨.exit 0, [.s (.one (.ol 1500100)), .b (.lst 96 ty25 false)], [ty30]⟩], fun h => Pw.duty_Merge_l0_step h.1 h.2.1 h.2.2.1 h.2.2.2⟩]
  keep := [(0, ⟨[3, 7, 8, 9], [], [⟨1000000, 96, ty25, [.slot 3], false⟩], []⟩)]
  keepX := [(0, .exit 0, ⟨[3], [], [⟨1500100, 96, ty25, [.slot 3], false⟩], []⟩)]
  ro := [true]

theorem duty_Merge_ok : Con.OK Tryz.prog duty_Merge_con :=
  con_of tabOk mixedOk duty_Merge_d duty_Merge_con Tryz.f69 (Tryz.f69.body.getD .skip) Tryz.func69 (by kernel_rfl) (by kernel_rfl) (Nat.le_of_ble_eq_true (by kernel_rfl)) (by kernel_rfl) trivial (by kernel_rfl) (by kernel_rfl)
    (And.intro (fun h => by kernel_rfl) trivial)
    (fun h => by kernel_rfl)

noncomputable def duty_View_Segments_con : Con := ⟨120, [.v ty88, .v ty74, .v (.int .i64), .v (.int .i64)], [ty88, ty74, (.int .i64), (.int .i64)], ⟨[.own 96 ty30], []⟩, [ty30], fun h => Pw.duty_View_Segments h.1 h.2.1 h.2.2.1 h.2.2.2⟩

noncomputable def duty_View_Segments_d : FnD where
  N := 95
  np := 4
  cs := [recur_HandoverOf_con, duty_View_Times_con, recur_ShiftOf_con, duty_Merge_con]
  ds := [⟨0, [.s (.one (.d (.int .i64))), .s (.one (.bp 320 0)), .s (.one (.ol 1000000)), .s (.one (.bp 640 0)), .s (.one (.d (.int .i64))), .s (.one (.d (.int .i64))), .s (.one (.d (.int .i64))), .s (.one (.ol 1000001)), .s (.one (.d (.int .i64))), .s (.one (.d (.int .i64))), .b (.cell [.d .str, .d (.int .i64), .d (.int .i64), .d (.int .i64), .d (.int .i64), .d (.int .i64), .d (.list (.int .i64)), .d ty16, .d (.int .i64), .d (.int .i64)] false), .b (.cell [.d (.int .i64), .d ty16] false), .b (.lst 96 ty25 false), .b (.lst 153 ty10 false)], [(.int .i64), (.int .i64), (.int .i64), (.int .i64), (.int .i64), (.int .i64), .str, (.int .i64), (.int .i64), (.int .i64), (.int .i64), (.int .i64), (.list (.int .i64)), ty16, (.int .i64), (.int .i64), (.int .i64), ty16, ty30, ty16], [⟨.exit 0, [.s (.one (.d (.int .i64))), .s (.one (.ol 1500100)), .s (.one (.d (.int .i64))), .b (.lst 96 ty25 false)], [(.int .i64), (.int .i64), ty30]⟩], fun h => Pw.duty_View_Segments_l0_step h.1 h.2.1 h.2.2.1 h.2.2.2.1 h.2.2.2.2.1 h.2.2.2.2.2.1 h.2.2.2.2.2.2.1 h.2.2.2.2.2.2.2.1 h.2.2.2.2.2.2.2.2.1 h.2.2.2.2.2.2.2.2.2.1 h.2.2.2.2.2.2.2.2.2.2.1 h.2.2.2.2.2.2.2.2.2.2.2.1 h.2.2.2.2.2.2.2.2.2.2.2.2.1 h.2.2.2.2.2.2.2.2.2.2.2.2.2.1 h.2.2.2.2.2.2.2.2.2.2.2.2.2.2.1 h.2.2.2.2.2.2.2.2.2.2.2.2.2.2.2.1 h.2.2.2.2.2.2.2.2.2.2.2.2.2.2.2.2.1 h.2.2.2.2.2.2.2.2.2.2.2.2.2.2.2.2.2.1 h.2.2.2.2.2.2.2.2.2.2.2.2.2.2.2.2.2.2.1 h.2.2.2.2.2.2.2.2.2.2.2.2.2.2.2.2.2.2.2⟩,
    ⟨2, [.s (.one (.d (.int .i64))), .s (.one (.bp 320 0)), .s (.one (.ol 1002000)), .s (.one (.bp 640 0)), .s (.one (.d (.int .i64))), .s (.one (.d (.int .i64))), .s (.one (.d (.int .i64))), .s (.one (.bp 960 0)), .s (.one (.ol 1002001)), .s (.one (.d (.int .i64))), .s (.one (.d (.int .i64))), .b (.cell [.d .str, .d (.int .i64), .d (.int .i64), .d (.int .i64), .d (.int .i64), .d (.int .i64), .d (.list (.int .i64)), .d ty16, .d (.int .i64), .d (.int .i64)] false), .b (.cell [.d (.int .i64), .d ty16] false), .b (.cell [.d (.int .i64), .d (.int .i64)] false), .b (.lst 96 ty25 false), .b (.lst 153 ty10 false)], [(.int .i64), (.int .i64), (.int .i64), (.int .i64), (.int .i64), (.int .i64), .str, (.int .i64), (.int .i64), (.int .i64), (.int .i64), (.int .i64), (.list (.int .i64)), ty16, (.int .i64), (.int .i64), (.int .i64), ty16, (.int .i64), (.int .i64), ty30, ty16], [⟨.exit 2, [.s (.one (.d (.int .i64))), .s (.one (.bp 320 0)), .s (.one (.ol 1502300)), .s (.one (.bp 640 0)), .s (.one (.d (.int .i64))), .s (.one (.d (.int .i64))), .s (.one (.d (.int .i64))), .s (.one (.ol 1502301)), .s (.one (.d (.int .i64))), .s (.one (.d (.int .i64))), .b (.cell [.d .str, .d (.int .i64), .d (.int .i64), .d (.int .i64), .d (.int .i64), .d (.int .i64), .d (.list (.int .i64)), .d ty16, .d (.int .i64), .d (.int .i64)] false), .b (.cell [.d (.int .i64), .d ty16] false), .b (.lst 96 ty25 false), .b (.lst 153 ty10 false)], [(.int .i64), (.int .i64), (.int .i64), (.int .i64), (.int .i64), (.int .i64), .str, (.int .i64), (.int .i64), (.int .i64), (.int .i64), (.int .i64), (.list (.int .i64)), ty16, (.int .i64), (.int .i64), (.int .i64), ty16, ty30, ty16]⟩], fun h => Pw.duty_View_Segments_l2_step h.1 h.2.1 h.2.2.1 h.2.2.2.1 h.2.2.2.2.1 h.2.2.2.2.2.1 h.2.2.2.2.2.2.1 h.2.2.2.2.2.2.2.1 h.2.2.2.2.2.2.2.2.1 h.2.2.2.2.2.2.2.2.2.1 h.2.2.2.2.2.2.2.2.2.2.1 h.2.2.2.2.2.2.2.2.2.2.2.1 h.2.2.2.2.2.2.2.2.2.2.2.2.1 h.2.2.2.2.2.2.2.2.2.2.2.2.2.1 h.2.2.2.2.2.2.2.2.2.2.2.2.2.2.1 h.2.2.2.2.2.2.2.2.2.2.2.2.2.2.2.1 h.2.2.2.2.2.2.2.2.2.2.2.2.2.2.2.2.1 h.2.2.2.2.2.2.2.2.2.2.2.2.2.2.2.2.2.1 h.2.2.2.2.2.2.2.2.2.2.2.2.2.2.2.2.2.2.1 h.2.2.2.2.2.2.2.2.2.2.2.2.2.2.2.2.2.2.2.1 h.2.2.2.2.2.2.2.2.2.2.2.2.2.2.2.2.2.2.2.2.1 h.2.2.2.2.2.2.2.2.2.2.2.2.2.2.2.2.2.2.2.2.2⟩]
  modes := [(69, [false]), (121, [false, false, false, false]), (181, [false, false, false]), (182, [false, false, false])]
  keep := [(0, ⟨[3, 5, 9, 10, 11, 12, 13, 30, 31, 32], [320, 640], [⟨1000000, 96, ty25, [.slot 9], false⟩, ⟨1000001, 153, ty10, [.slot 30], false⟩], []⟩),
    (2, ⟨[3, 5, 9, 10, 11, 12, 13, 15, 30, 31, 32], [320, 640, 960], [⟨1002000, 96, ty25, [.slot 9], false⟩, ⟨1002001, 153, ty10, [.slot 30], false⟩], []⟩)]
  keepX := [(0, .exit 0, ⟨[3, 9, 11], [], [⟨1500100, 96, ty25, [.slot 9], false⟩], []⟩),
    (2, .exit 2, ⟨[3, 5, 9, 10, 11, 12, 13, 30, 31, 32], [320, 640], [⟨1502300, 96, ty25, [.slot 9], false⟩, ⟨1502301, 153, ty10, [.slot 30], false⟩], []⟩)]
  ro := [true]
  dw := [(17, [[], [], [], [], [], [], [], [], [], [], [], [], [], [5376], [5440, 1002000], []])]

theorem duty_View_Segments_ok : Con.OK Tryz.prog duty_View_Segments_con :=
  con_of tabOk mixedOk duty_View_Segments_d duty_View_Segments_con Tryz.f120 (Tryz.f120.body.getD .skip) Tryz.func120 (by kernel_rfl) (by kernel_rfl) (Nat.le_of_ble_eq_true (by kernel_rfl)) (by kernel_rfl) (And.intro recur_HandoverOf_ok (And.intro duty_View_Times_ok (And.intro recur_ShiftOf_ok (And.intro duty_Merge_ok trivial)))) (by kernel_rfl) (by kernel_rfl)
    (And.intro (fun h => by kernel_rfl) (And.intro (fun h => by kernel_rfl) trivial))
    (fun h => by kernel_rfl)

noncomputable def duty_Segments_con : Con := ⟨62, [.v ty86, .v ty74, .v (.int .i64), .v (.int .i64)], [ty86, ty74, (.int .i64), (.int .i64)], ⟨[.own 96 ty30, .v (.int .i64)], []⟩, [ty30, (.int .i64)], fun h => Pw.duty_Segments h.1 h.2.1 h.2.2.1 h.2.2.2⟩

noncomputable def duty_Segments_d : FnD where
  N := 30
  np := 4
  cs := [duty_check_con, duty_view_con, duty_View_Segments_con]
  ds := []
  modes := [(118, [false, false, false, false]), (119, [false]), (120, [false, false, false, false])]
  ro := [true, false]
  dw := [(4, [[], [], [], [], [], [1600], []])]

theorem duty_Segments_ok : Con.OK Tryz.prog duty_Segments_con :=
  con_of tabOk mixedOk duty_Segments_d duty_Segments_con Tryz.f62 (Tryz.f62.body.getD .skip) Tryz.func62 (by kernel_rfl) (by kernel_rfl) (Nat.le_of_ble_eq_true (by kernel_rfl)) (by kernel_rfl) (And.intro duty_check_ok (And.intro duty_view_ok (And.intro duty_View_Segments_ok trivial))) (by kernel_rfl) (by kernel_rfl)
    trivial
    (fun h => by kernel_rfl)

noncomputable def duty_Times_con : Con := ⟨63, [.v ty86, .v ty74, .v (.int .i64), .v (.int .i64)], [ty86, ty74, (.int .i64), (.int .i64)], ⟨[.own 153 ty16, .v (.int .i64)], []⟩, [ty16, (.int .i64)], fun h => Pw.duty_Times h.1 h.2.1 h.2.2.1 h.2.2.2⟩

noncomputable def duty_Times_d : FnD where
  N := 30
  np := 4
  cs := [duty_check_con, duty_view_con, duty_View_Times_con]
  ds := []
  modes := [(118, [false, false, false, false]), (119, [false]), (121, [false, false, false, false])]
  ro := [true, false]
  dw := [(4, [[], [], [], [], [], [1600], []])]

theorem duty_Times_ok : Con.OK Tryz.prog duty_Times_con :=
  con_of tabOk mixedOk duty_Times_d duty_Times_con Tryz.f63 (Tryz.f63.body.getD .skip) Tryz.func63 (by kernel_rfl) (by kernel_rfl) (Nat.le_of_ble_eq_true (by kernel_rfl)) (by kernel_rfl) (And.intro duty_check_ok (And.intro duty_view_ok (And.intro duty_View_Times_ok trivial))) (by kernel_rfl) (by kernel_rfl)
    trivial
    (fun h => by kernel_rfl)

noncomputable def week_SecondOf_con : Con := ⟨98, [.v ty10], [ty10], ⟨[.v (.int .i64)], []⟩, [(.int .i64)], fun h => Pw.week_SecondOf h⟩

noncomputable def week_SecondOf_d : FnD where
  N := 10
  np := 1
  cs := [civil_Weekday_con]
  ds := []
  modes := [(163, [false])]
  ro := [false]

theorem week_SecondOf_ok : Con.OK Tryz.prog week_SecondOf_con :=
  con_of tabOk mixedOk week_SecondOf_d week_SecondOf_con Tryz.f98 (Tryz.f98.body.getD .skip) Tryz.func98 (by kernel_rfl) (by kernel_rfl) (Nat.le_of_ble_eq_true (by kernel_rfl)) (by kernel_rfl) (And.intro civil_Weekday_ok trivial) (by kernel_rfl) (by kernel_rfl)
    trivial
    (fun h => by kernel_rfl)

noncomputable def week_Has_con : Con := ⟨100, [.v ty16, .v (.int .i64)], [ty16, (.int .i64)], ⟨[.v .bool], []⟩, [.bool], fun h => Pw.week_Has h.1 h.2⟩

noncomputable def week_Has_d : FnD where
  N := 24
  np := 2
  cs := []
  ds := [⟨0, [.s (.one (.d (.int .i64))), .s (.one (.d ty16)), .s (.one (.d (.int .i64))), .s (.one (.d (.int .i64)))], [(.int .i64), ty16, (.int .i64), (.int .i64)], [⟨.ret, [.s (.one (.d .bool))], [.bool]⟩, ⟨.exit 0, [], []⟩], fun h => Pw.week_Has_l0_step h.1 h.2.1 h.2.2.1 h.2.2.2⟩]
  keep := [(0, ⟨[1, 7, 8, 9], [], [], []⟩)]
  keepX := [(0, .ret, ⟨[4], [], [], []⟩),
    (0, .exit 0, ⟨[], [], [], []⟩)]
  ro := [false]

theorem week_Has_ok : Con.OK Tryz.prog week_Has_con :=
  con_of tabOk mixedOk week_Has_d week_Has_con Tryz.f100 (Tryz.f100.body.getD .skip) Tryz.func100 (by kernel_rfl) (by kernel_rfl) (Nat.le_of_ble_eq_true (by kernel_rfl)) (by kernel_rfl) trivial (by kernel_rfl) (by kernel_rfl)
    (And.intro (fun h => by kernel_rfl) trivial)
    (fun h => by kernel_rfl)

noncomputable def cmp_isNaN_int_con : Con := ⟨290, [.v (.int .i64)], [(.int .i64)], ⟨[.v .bool], []⟩, [.bool], fun h => Pw.cmp_isNaN_int h⟩

noncomputable def cmp_isNaN_int_d : FnD where
  N := 6
  np := 1
  cs := []
  ds := []
  ro := [false]

theorem cmp_isNaN_int_ok : Con.OK Tryz.prog cmp_isNaN_int_con :=
  con_of tabOk mixedOk cmp_isNaN_int_d cmp_isNaN_int_con Tryz.f290 (Tryz.f290.body.getD .skip) Tryz.func290 (by kernel_rfl) (by kernel_rfl) (Nat.le_of_ble_eq_true (by kernel_rfl)) (by kernel_rfl) trivial (by kernel_rfl) (by kernel_rfl)
    trivial
    (fun h => by kernel_rfl)

noncomputable def cmp_Less_int_con : Con := ⟨252, [.v (.int .i64), .v (.int .i64)], [(.int .i64), (.int .i64)], ⟨[.v .bool], []⟩, [.bool], fun h => Pw.cmp_Less_int h.1 h.2⟩

noncomputable def cmp_Less_int_d : FnD where
  N := 17
  np := 2
  cs := [cmp_isNaN_int_con]
  ds := []
  modes := [(290, [false])]
  ro := [false]

theorem cmp_Less_int_ok : Con.OK Tryz.prog cmp_Less_int_con :=
  con_of tabOk mixedOk cmp_Less_int_d cmp_Less_int_con Tryz.f252 (Tryz.f252.body.getD .skip) Tryz.func252 (by kernel_rfl) (by kernel_rfl) (Nat.le_of_ble_eq_true (by kernel_rfl)) (by kernel_rfl) (And.intro cmp_isNaN_int_ok trivial) (by kernel_rfl) (by kernel_rfl)
    trivial
    (fun h => by kernel_rfl)

noncomputable def slices_isNaN_int_con : Con := ⟨253, [.v (.int .i64)], [(.int .i64)], ⟨[.v .bool], []⟩, [.bool], fun h => Pw.slices_isNaN_int h⟩

noncomputable def slices_isNaN_int_d : FnD where
  N := 6
  np := 1
  cs := []
  ds := []
  ro := [false]

theorem slices_isNaN_int_ok : Con.OK Tryz.prog slices_isNaN_int_con :=
  con_of tabOk mixedOk slices_isNaN_int_d slices_isNaN_int_con Tryz.f253 (Tryz.f253.body.getD .skip) Tryz.func253 (by kernel_rfl) (by kernel_rfl) (Nat.le_of_ble_eq_true (by kernel_rfl)) (by kernel_rfl) trivial (by kernel_rfl) (by kernel_rfl)
    trivial
    (fun h => by kernel_rfl)
end Go.Proofs.Pk
