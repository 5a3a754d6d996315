/- Contracts: each given function is its plain function, printed by a program. -/
import Derived.Test.YtpkigeapefgmjaaCon4
open Go Go.Lft
set_option linter.unusedVariables false
namespace Go.Proofs.Pk

noncomputable def span_Merge_c1_con : Con := ⟨117, [.v (.pair (.int .i64) (.int .i64))], [(.pair (.int .i64) (.int .i64))], ⟨[.v .bool], []⟩, [.bool], fun h => Pw.span_Merge_c1 h⟩

noncomputable def span_Merge_c1_d : FnD where
  N := 8
  np := 1
  cs := []
  ds := []
  modes := []
  keep := []
  keepX := []
  ro := [false]
  dw := []

set_option maxRecDepth 100000 in
theorem span_Merge_c1_ok : Con.OK Try.prog span_Merge_c1_con :=
  con_of tabOk mixedOk span_Merge_c1_d span_Merge_c1_con Try.f117 (Try.f117.body.getD .skip) Try.func117 (by kernel_rfl) (by kernel_rfl) (Nat.le_of_ble_eq_true (by kernel_rfl)) (by kernel_rfl) trivial (by kernel_rfl) (by kernel_rfl)
    trivial
    (fun h => by kernel_rfl)

noncomputable def slices_IndexFunc_api_Span_api_Span_con : Con := ⟨127, [.v (.list (.pair (.int .i64) (.int .i64))), .clo 117 []], [(.list (.pair (.int .i64) (.int .i64)))], ⟨[.v (.int .i64)], []⟩, [(.int .i64)], fun h => Pw.slices_IndexFunc_api_Span_api_Span h⟩

noncomputable def slices_IndexFunc_api_Span_api_Span_d : FnD where
  N := 19
  np := 2
  cs := [span_Merge_c1_con]
  ds := [⟨0, [.s (.one (.d (.list (.pair (.int .i64) (.int .i64))))), .s (.one (.clo 117 [])), .s (.one (.d (.int .i64))), .s (.one (.d (.int .i64)))], [(.list (.pair (.int .i64) (.int .i64))), (.int .i64), (.int .i64)], [⟨.ret, [.s (.one (.d (.int .i64)))], [(.int .i64)]⟩, ⟨.exit 0, [], []⟩], fun h => Pw.slices_IndexFunc_api_Span_api_Span_l0_step h.1 h.2.1 h.2.2⟩]
  modes := [(117, [false])]
  keep := [(0, ⟨[0, 1, 7, 8], [], [], []⟩)]
  keepX := [(0, .ret, ⟨[4], [], [], []⟩),
    (0, .exit 0, ⟨[], [], [], []⟩)]
  ro := [false]
  dw := []

set_option maxRecDepth 100000 in
theorem slices_IndexFunc_api_Span_api_Span_ok : Con.OK Try.prog slices_IndexFunc_api_Span_api_Span_con :=
  con_of tabOk mixedOk slices_IndexFunc_api_Span_api_Span_d slices_IndexFunc_api_Span_api_Span_con Try.f127 (Try.f127.body.getD .skip) Try.func127 (by kernel_rfl) (by kernel_rfl) (Nat.le_of_ble_eq_true (by kernel_rfl)) (by kernel_rfl) (And.intro span_Merge_c1_ok trivial) (by kernel_rfl) (by kernel_rfl)
    (And.intro (fun h => by kernel_rfl) trivial)
    (fun h => by kernel_rfl)

noncomputable def week_Times_con : Con := ⟨52, [.v (.pair .str (.pair (.int .i64) (.list (.pair (.int .i64) (.pair (.int .i64) (.pair (.int .i64) (.pair (.int .i64) (.pair (.int .i64) (.pair (.int .i64) (.int .i64)))))))))), .v (.list (.pair (.int .i64) (.int .i64))), .v (.int .i64), .v (.int .i64)], [(.pair .str (.pair (.int .i64) (.list (.pair (.int .i64) (.pair (.int .i64) (.pair (.int .i64) (.pair (.int .i64) (.pair (.int .i64) (.pair (.int .i64) (.int .i64)))))))))), (.list (.pair (.int .i64) (.int .i64))), (.int .i64), (.int .i64)], ⟨[.v (.list (.pair (.int .i64) (.int .i64))), .v (.int .i64)], []⟩, [(.list (.pair (.int .i64) (.int .i64))), (.int .i64)], fun h => Pw.week_Times h.1 h.2.1 h.2.2.1 h.2.2.2⟩

noncomputable def week_Times_d : FnD where
  N := 57
  np := 4
  cs := [zone_Of_con, week_Check_con]
  ds := []
  modes := [(57, [false]), (67, [false])]
  keep := []
  keepX := []
  ro := [false, false]
  dw := []

set_option maxRecDepth 100000 in
theorem week_Times_ok : Con.OK Try.prog week_Times_con :=
  con_of tabOk mixedOk week_Times_d week_Times_con Try.f52 (Try.f52.body.getD .skip) Try.func52 (by kernel_rfl) (by kernel_rfl) (Nat.le_of_ble_eq_true (by kernel_rfl)) (by kernel_rfl) (And.intro zone_Of_ok (And.intro week_Check_ok trivial)) (by kernel_rfl) (by kernel_rfl)
    trivial
    (fun h => by kernel_rfl)

noncomputable def r03_Valid_con : Con := ⟨53, [.v (.list (.pair (.int .i64) (.int .i64)))], [(.list (.pair (.int .i64) (.int .i64)))], ⟨[.v .bool], []⟩, [.bool], fun h => Pw.r03_Valid h⟩

noncomputable def r03_Valid_d : FnD where
  N := 58
  np := 1
  cs := []
  ds := [⟨0, [.s (.one (.d (.list (.pair (.int .i64) (.int .i64))))), .s (.one (.d (.int .i64)))], [(.list (.pair (.int .i64) (.int .i64))), (.int .i64)], [⟨.ret, [.s (.one (.d .bool))], [.bool]⟩, ⟨.exit 0, [], []⟩], fun h => Pw.r03_Valid_l0_step h.1 h.2⟩]
  modes := []
  keep := [(0, ⟨[0, 3], [], [], []⟩)]
  keepX := [(0, .ret, ⟨[2], [], [], []⟩),
    (0, .exit 0, ⟨[], [], [], []⟩)]
  ro := [false]
  dw := []

set_option maxRecDepth 100000 in
theorem r03_Valid_ok : Con.OK Try.prog r03_Valid_con :=
  con_of tabOk mixedOk r03_Valid_d r03_Valid_con Try.f53 (Try.f53.body.getD .skip) Try.func53 (by kernel_rfl) (by kernel_rfl) (Nat.le_of_ble_eq_true (by kernel_rfl)) (by kernel_rfl) trivial (by kernel_rfl) (by kernel_rfl)
    (And.intro (fun h => by kernel_rfl) trivial)
    (fun h => by kernel_rfl)

noncomputable def r03_Length_con : Con := ⟨59, [.v (.list (.pair (.int .i64) (.int .i64)))], [(.list (.pair (.int .i64) (.int .i64)))], ⟨[.v (.int .i64)], []⟩, [(.int .i64)], fun h => Pw.r03_Length h⟩

noncomputable def r03_Length_d : FnD where
  N := 29
  np := 1
  cs := [r03_Valid_con]
  ds := [⟨0, [.s (.one (.d (.list (.pair (.int .i64) (.int .i64))))), .s (.one (.d (.int .i64))), .s (.one (.d (.int .i64)))], [(.list (.pair (.int .i64) (.int .i64))), (.int .i64), (.int .i64)], [⟨.exit 0, [.s (.one (.d (.int .i64)))], [(.int .i64)]⟩], fun h => Pw.r03_Length_l0_step h.1 h.2.1 h.2.2⟩]
  modes := [(53, [false])]
  keep := [(0, ⟨[0, 3, 4], [], [], []⟩)]
  keepX := [(0, .exit 0, ⟨[3], [], [], []⟩)]
  ro := [false]
  dw := []

set_option maxRecDepth 100000 in
theorem r03_Length_ok : Con.OK Try.prog r03_Length_con :=
  con_of tabOk mixedOk r03_Length_d r03_Length_con Try.f59 (Try.f59.body.getD .skip) Try.func59 (by kernel_rfl) (by kernel_rfl) (Nat.le_of_ble_eq_true (by kernel_rfl)) (by kernel_rfl) (And.intro r03_Valid_ok trivial) (by kernel_rfl) (by kernel_rfl)
    (And.intro (fun h => by kernel_rfl) trivial)
    (fun h => by kernel_rfl)

noncomputable def week_Length_con : Con := ⟨58, [.v (.list (.pair (.int .i64) (.int .i64)))], [(.list (.pair (.int .i64) (.int .i64)))], ⟨[.v (.int .i64)], []⟩, [(.int .i64)], fun h => Pw.week_Length h⟩

noncomputable def week_Length_d : FnD where
  N := 24
  np := 1
  cs := [week_Check_con]
  ds := [⟨0, [.s (.one (.d (.int .i64))), .s (.one (.d (.list (.pair (.int .i64) (.int .i64))))), .s (.one (.d (.int .i64))), .s (.one (.d (.int .i64)))], [(.int .i64), (.list (.pair (.int .i64) (.int .i64))), (.int .i64), (.int .i64)], [⟨.exit 0, [.s (.one (.d (.int .i64)))], [(.int .i64)]⟩], fun h => Pw.week_Length_l0_step h.1 h.2.1 h.2.2.1 h.2.2.2⟩]
  modes := [(57, [false])]
  keep := [(0, ⟨[3, 9, 10, 11], [], [], []⟩)]
  keepX := [(0, .exit 0, ⟨[3], [], [], []⟩)]
  ro := [false]
  dw := []

set_option maxRecDepth 100000 in
theorem week_Length_ok : Con.OK Try.prog week_Length_con :=
  con_of tabOk mixedOk week_Length_d week_Length_con Try.f58 (Try.f58.body.getD .skip) Try.func58 (by kernel_rfl) (by kernel_rfl) (Nat.le_of_ble_eq_true (by kernel_rfl)) (by kernel_rfl) (And.intro week_Check_ok trivial) (by kernel_rfl) (by kernel_rfl)
    (And.intro (fun h => by kernel_rfl) trivial)
    (fun h => by kernel_rfl)

noncomputable def law05_WeekLengths_con : Con := ⟨9, [.v (.list (.int .i64))], [(.list (.int .i64))], ⟨[.v .bool], []⟩, [.bool], fun h => Pw.law05_WeekLengths h⟩

noncomputable def law05_WeekLengths_d : FnD where
  N := 84
  np := 1
  cs := [made_Light_con, made_Roll_con, made_Dice_Zone_con, r04_OffsetAt_con, made_Dice_Windows_con, law05_sane_con, made_Dice_Instant_con, week_Times_con, r03_Length_con, week_Length_con]
  ds := []
  modes := [(10, [false]), (12, [false]), (13, [false, false]), (25, [false, false]), (42, [false]), (50, []), (51, [false]), (52, [false, false, false, false]), (58, [false]), (59, [false])]
  keep := []
  keepX := []
  ro := [false]
  dw := []

set_option maxRecDepth 100000 in
theorem law05_WeekLengths_ok : Con.OK Try.prog law05_WeekLengths_con :=
  con_of tabOk mixedOk law05_WeekLengths_d law05_WeekLengths_con Try.f9 (Try.f9.body.getD .skip) Try.func9 (by kernel_rfl) (by kernel_rfl) (Nat.le_of_ble_eq_true (by kernel_rfl)) (by kernel_rfl) (And.intro made_Light_ok (And.intro made_Roll_ok (And.intro made_Dice_Zone_ok (And.intro r04_OffsetAt_ok (And.intro made_Dice_Windows_ok (And.intro law05_sane_ok (And.intro made_Dice_Instant_ok (And.intro week_Times_ok (And.intro r03_Length_ok (And.intro week_Length_ok trivial)))))))))) (by kernel_rfl) (by kernel_rfl)
    trivial
    (fun h => by kernel_rfl)
end Go.Proofs.Pk
