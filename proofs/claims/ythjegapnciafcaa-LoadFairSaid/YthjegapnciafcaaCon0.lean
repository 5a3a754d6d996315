/- Contracts: each given function is its plain function, printed by a program. -/
import Derived.Test.YthjegapnciafcaaTab
open Go Go.Lft
set_option linter.unusedVariables false
namespace Go.Proofs.Pk

noncomputable def made_Light_con : Con := ⟨5, [.v (.list (.int .i64))], [(.list (.int .i64))], ⟨[.v .bool], []⟩, [.bool], fun h => Pw.made_Light h⟩

noncomputable def made_Light_d : FnD where
  N := 6
  np := 1
  cs := []
  ds := []
  modes := []
  keep := []
  keepX := []
  ro := [false]
  dw := []

set_option maxRecDepth 100000 in
theorem made_Light_ok : Con.OK Try.prog made_Light_con :=
  con_of tabOk mixedOk made_Light_d made_Light_con Try.f5 (Try.f5.body.getD .skip) Try.func5 (by kernel_rfl) (by kernel_rfl) (Nat.le_of_ble_eq_true (by kernel_rfl)) (by kernel_rfl) trivial (by kernel_rfl) (by kernel_rfl)
    trivial
    (fun h => by kernel_rfl)

noncomputable def load_right_con : Con := ⟨18, [.v (.list (.pair (.int .i64) (.pair (.int .i64) (.int .i64))))], [(.list (.pair (.int .i64) (.pair (.int .i64) (.int .i64))))], ⟨[.v .bool], []⟩, [.bool], fun h => Pw.load_right h⟩

noncomputable def load_right_d : FnD where
  N := 64
  np := 1
  cs := []
  ds := [⟨0, [.s (.one (.d (.list (.pair (.int .i64) (.pair (.int .i64) (.int .i64)))))), .s (.one (.d (.list (.pair (.int .i64) (.pair (.int .i64) (.int .i64)))))), .s (.one (.d (.int .i64))), .s (.one (.d (.int .i64)))], [(.list (.pair (.int .i64) (.pair (.int .i64) (.int .i64)))), (.list (.pair (.int .i64) (.pair (.int .i64) (.int .i64)))), (.int .i64), (.int .i64)], [⟨.ret, [.s (.one (.d .bool))], [.bool]⟩, ⟨.exit 0, [], []⟩], fun h => Pw.load_right_l0_step h.1 h.2.1 h.2.2.1 h.2.2.2⟩]
  modes := []
  keep := [(0, ⟨[0, 8, 9, 10], [], [], []⟩)]
  keepX := [(0, .ret, ⟨[2], [], [], []⟩),
    (0, .exit 0, ⟨[], [], [], []⟩)]
  ro := [false]
  dw := []

set_option maxRecDepth 100000 in
theorem load_right_ok : Con.OK Try.prog load_right_con :=
  con_of tabOk mixedOk load_right_d load_right_con Try.f18 (Try.f18.body.getD .skip) Try.func18 (by kernel_rfl) (by kernel_rfl) (Nat.le_of_ble_eq_true (by kernel_rfl)) (by kernel_rfl) trivial (by kernel_rfl) (by kernel_rfl)
    (And.intro (fun h => by kernel_rfl) trivial)
    (fun h => by kernel_rfl)

noncomputable def load_weighted_con : Con := ⟨20, [.v (.list (.pair (.int .i64) (.pair (.int .i64) (.int .i64)))), .v (.int .i64)], [(.list (.pair (.int .i64) (.pair (.int .i64) (.int .i64)))), (.int .i64)], ⟨[.v (.int .i64)], []⟩, [(.int .i64)], fun h => Pw.load_weighted h.1 h.2⟩

noncomputable def load_weighted_d : FnD where
  N := 20
  np := 2
  cs := []
  ds := [⟨0, [.s (.one (.d (.int .i64))), .s (.one (.d (.list (.pair (.int .i64) (.pair (.int .i64) (.int .i64)))))), .s (.one (.d (.int .i64))), .s (.one (.d (.int .i64)))], [(.int .i64), (.list (.pair (.int .i64) (.pair (.int .i64) (.int .i64)))), (.int .i64), (.int .i64)], [⟨.ret, [.s (.one (.d (.int .i64)))], [(.int .i64)]⟩, ⟨.exit 0, [], []⟩], fun h => Pw.load_weighted_l0_step h.1 h.2.1 h.2.2.1 h.2.2.2⟩]
  modes := []
  keep := [(0, ⟨[1, 7, 8, 9], [], [], []⟩)]
  keepX := [(0, .ret, ⟨[4], [], [], []⟩),
    (0, .exit 0, ⟨[], [], [], []⟩)]
  ro := [false]
  dw := []

set_option maxRecDepth 100000 in
theorem load_weighted_ok : Con.OK Try.prog load_weighted_con :=
  con_of tabOk mixedOk load_weighted_d load_weighted_con Try.f20 (Try.f20.body.getD .skip) Try.func20 (by kernel_rfl) (by kernel_rfl) (Nat.le_of_ble_eq_true (by kernel_rfl)) (by kernel_rfl) trivial (by kernel_rfl) (by kernel_rfl)
    (And.intro (fun h => by kernel_rfl) trivial)
    (fun h => by kernel_rfl)

noncomputable def load_Sum_con : Con := ⟨11, [.v (.list (.pair (.int .i64) (.pair (.int .i64) (.int .i64))))], [(.list (.pair (.int .i64) (.pair (.int .i64) (.int .i64))))], ⟨[.v (.pair (.int .i64) (.pair (.int .i64) (.int .i64)))], []⟩, [(.pair (.int .i64) (.pair (.int .i64) (.int .i64)))], fun h => Pw.load_Sum h⟩

noncomputable def load_Sum_d : FnD where
  N := 31
  np := 1
  cs := [load_right_con]
  ds := [⟨0, [.s (.one (.bp 128 0)), .s (.one (.bp 192 0)), .s (.one (.d (.list (.pair (.int .i64) (.pair (.int .i64) (.int .i64)))))), .s (.one (.d (.int .i64))), .s (.one (.d (.int .i64))), .b (.cell [.d (.int .i64), .d (.int .i64), .d (.int .i64)] false), .b (.cell [.d (.int .i64), .d (.int .i64), .d (.int .i64)] false)], [(.list (.pair (.int .i64) (.pair (.int .i64) (.int .i64)))), (.int .i64), (.int .i64), (.int .i64), (.int .i64), (.int .i64), (.int .i64), (.int .i64), (.int .i64)], [⟨.exit 0, [.s (.one (.bp 128 0)), .s (.one (.bp 192 0)), .b (.cell [.d (.int .i64), .d (.int .i64), .d (.int .i64)] false), .b (.cell [.d (.int .i64), .d (.int .i64), .d (.int .i64)] false)], [(.int .i64), (.int .i64), (.int .i64), (.int .i64), (.int .i64), (.int .i64)]⟩], fun h => Pw.load_Sum_l0_step h.1 h.2.1 h.2.2.1 h.2.2.2.1 h.2.2.2.2.1 h.2.2.2.2.2.1 h.2.2.2.2.2.2.1 h.2.2.2.2.2.2.2.1 h.2.2.2.2.2.2.2.2⟩]
  modes := [(18, [false])]
  keep := [(0, ⟨[2, 3, 11, 12, 13], [128, 192], [], []⟩)]
  keepX := [(0, .exit 0, ⟨[2, 3], [128, 192], [], []⟩)]
  ro := [false]
  dw := []

set_option maxRecDepth 100000 in
theorem load_Sum_ok : Con.OK Try.prog load_Sum_con :=
  con_of tabOk mixedOk load_Sum_d load_Sum_con Try.f11 (Try.f11.body.getD .skip) Try.func11 (by kernel_rfl) (by kernel_rfl) (Nat.le_of_ble_eq_true (by kernel_rfl)) (by kernel_rfl) (And.intro load_right_ok trivial) (by kernel_rfl) (by kernel_rfl)
    (And.intro (fun h => by kernel_rfl) trivial)
    (fun h => by kernel_rfl)

noncomputable def ratio_within_con : Con := ⟨27, [.v (.int .i64)], [(.int .i64)], ⟨[.v .bool], []⟩, [.bool], fun h => Pw.ratio_within h⟩

noncomputable def ratio_within_d : FnD where
  N := 9
  np := 1
  cs := []
  ds := []
  modes := []
  keep := []
  keepX := []
  ro := [false]
  dw := []

set_option maxRecDepth 100000 in
theorem ratio_within_ok : Con.OK Try.prog ratio_within_con :=
  con_of tabOk mixedOk ratio_within_d ratio_within_con Try.f27 (Try.f27.body.getD .skip) Try.func27 (by kernel_rfl) (by kernel_rfl) (Nat.le_of_ble_eq_true (by kernel_rfl)) (by kernel_rfl) trivial (by kernel_rfl) (by kernel_rfl)
    trivial
    (fun h => by kernel_rfl)

noncomputable def ratio_size_con : Con := ⟨29, [.v (.int .i64)], [(.int .i64)], ⟨[.v (.int .i64)], []⟩, [(.int .i64)], fun h => Pw.ratio_size h⟩

noncomputable def ratio_size_d : FnD where
  N := 8
  np := 1
  cs := []
  ds := []
  modes := []
  keep := []
  keepX := []
  ro := [false]
  dw := []

set_option maxRecDepth 100000 in
theorem ratio_size_ok : Con.OK Try.prog ratio_size_con :=
  con_of tabOk mixedOk ratio_size_d ratio_size_con Try.f29 (Try.f29.body.getD .skip) Try.func29 (by kernel_rfl) (by kernel_rfl) (Nat.le_of_ble_eq_true (by kernel_rfl)) (by kernel_rfl) trivial (by kernel_rfl) (by kernel_rfl)
    trivial
    (fun h => by kernel_rfl)

noncomputable def ratio_gcd_con : Con := ⟨28, [.v (.int .i64), .v (.int .i64)], [(.int .i64), (.int .i64)], ⟨[.v (.int .i64)], []⟩, [(.int .i64)], fun h => Pw.ratio_gcd h.1 h.2⟩

noncomputable def ratio_gcd_d : FnD where
  N := 12
  np := 2
  cs := []
  ds := [⟨0, [.s (.one (.d (.int .i64))), .s (.one (.d (.int .i64)))], [(.int .i64), (.int .i64)], [⟨.exit 0, [.s (.one (.d (.int .i64)))], [(.int .i64)]⟩], fun h => Pw.ratio_gcd_l0_step h.1 h.2⟩]
  modes := []
  keep := [(0, ⟨[0, 1], [], [], []⟩)]
  keepX := [(0, .exit 0, ⟨[0], [], [], []⟩)]
  ro := [false]
  dw := []

set_option maxRecDepth 100000 in
theorem ratio_gcd_ok : Con.OK Try.prog ratio_gcd_con :=
  con_of tabOk mixedOk ratio_gcd_d ratio_gcd_con Try.f28 (Try.f28.body.getD .skip) Try.func28 (by kernel_rfl) (by kernel_rfl) (Nat.le_of_ble_eq_true (by kernel_rfl)) (by kernel_rfl) trivial (by kernel_rfl) (by kernel_rfl)
    (And.intro (fun h => by kernel_rfl) trivial)
    (fun h => by kernel_rfl)

noncomputable def ratio_New_con : Con := ⟨19, [.v (.int .i64), .v (.int .i64)], [(.int .i64), (.int .i64)], ⟨[.v (.pair (.int .i64) (.int .i64)), .v (.int .i64)], []⟩, [(.pair (.int .i64) (.int .i64)), (.int .i64)], fun h => Pw.ratio_New h.1 h.2⟩

noncomputable def ratio_New_d : FnD where
  N := 30
  np := 2
  cs := [ratio_within_con, ratio_size_con, ratio_gcd_con]
  ds := []
  modes := [(27, [false]), (28, [false, false]), (29, [false])]
  keep := []
  keepX := []
  ro := [false, false]
  dw := [(4, [[], [], [], [], [], [], [], [256], []])]

set_option maxRecDepth 100000 in
theorem ratio_New_ok : Con.OK Try.prog ratio_New_con :=
  con_of tabOk mixedOk ratio_New_d ratio_New_con Try.f19 (Try.f19.body.getD .skip) Try.func19 (by kernel_rfl) (by kernel_rfl) (Nat.le_of_ble_eq_true (by kernel_rfl)) (by kernel_rfl) (And.intro ratio_within_ok (And.intro ratio_size_ok (And.intro ratio_gcd_ok trivial))) (by kernel_rfl) (by kernel_rfl)
    trivial
    (fun h => by kernel_rfl)

noncomputable def load_Share_con : Con := ⟨9, [.v (.list (.pair (.int .i64) (.pair (.int .i64) (.int .i64)))), .v (.int .i64)], [(.list (.pair (.int .i64) (.pair (.int .i64) (.int .i64)))), (.int .i64)], ⟨[.v (.pair (.int .i64) (.int .i64)), .v (.int .i64)], []⟩, [(.pair (.int .i64) (.int .i64)), (.int .i64)], fun h => Pw.load_Share h.1 h.2⟩

noncomputable def load_Share_d : FnD where
  N := 20
  np := 2
  cs := [load_right_con, load_weighted_con, load_Sum_con, ratio_New_con]
  ds := []
  modes := [(11, [false]), (18, [false]), (19, [false, false]), (20, [false, false])]
  keep := []
  keepX := []
  ro := [false, false]
  dw := []

set_option maxRecDepth 100000 in
theorem load_Share_ok : Con.OK Try.prog load_Share_con :=
  con_of tabOk mixedOk load_Share_d load_Share_con Try.f9 (Try.f9.body.getD .skip) Try.func9 (by kernel_rfl) (by kernel_rfl) (Nat.le_of_ble_eq_true (by kernel_rfl)) (by kernel_rfl) (And.intro load_right_ok (And.intro load_weighted_ok (And.intro load_Sum_ok (And.intro ratio_New_ok trivial)))) (by kernel_rfl) (by kernel_rfl)
    trivial
    (fun h => by kernel_rfl)

noncomputable def load_Jain_con : Con := ⟨12, [.v (.list (.pair (.int .i64) (.pair (.int .i64) (.int .i64)))), .v (.list (.int .i64))], [(.list (.pair (.int .i64) (.pair (.int .i64) (.int .i64)))), (.list (.int .i64))], ⟨[.v (.pair (.int .i64) (.int .i64)), .v (.int .i64)], []⟩, [(.pair (.int .i64) (.int .i64)), (.int .i64)], fun h => Pw.load_Jain h.1 h.2⟩

noncomputable def load_Jain_d : FnD where
  N := 68
  np := 2
  cs := [load_right_con, load_weighted_con, ratio_New_con]
  ds := [⟨1, [.s (.one (.d (.list (.pair (.int .i64) (.pair (.int .i64) (.int .i64)))))), .s (.one (.d (.list (.int .i64)))), .s (.one (.bp 256 0)), .s (.one (.d (.int .i64))), .s (.one (.d (.list (.int .i64)))), .s (.one (.d (.int .i64))), .s (.one (.d (.int .i64))), .b (.cell [.d (.int .i64), .d (.int .i64)] false)], [(.list (.pair (.int .i64) (.pair (.int .i64) (.int .i64)))), (.list (.int .i64)), (.int .i64), (.list (.int .i64)), (.int .i64), (.int .i64), (.int .i64), (.int .i64)], [⟨.exit 1, [.s (.one (.d (.list (.pair (.int .i64) (.pair (.int .i64) (.int .i64)))))), .s (.one (.d (.list (.int .i64)))), .s (.one (.bp 256 0)), .s (.one (.d (.int .i64))), .b (.cell [.d (.int .i64), .d (.int .i64)] false)], [(.list (.pair (.int .i64) (.pair (.int .i64) (.int .i64)))), (.list (.int .i64)), (.int .i64), (.int .i64), (.int .i64)]⟩], fun h => Pw.load_Jain_l1_step h.1 h.2.1 h.2.2.1 h.2.2.2.1 h.2.2.2.2.1 h.2.2.2.2.2.1 h.2.2.2.2.2.2.1 h.2.2.2.2.2.2.2⟩,
    ⟨4, [.s (.one (.d (.list (.pair (.int .i64) (.pair (.int .i64) (.int .i64)))))), .s (.one (.d (.list (.int .i64)))), .s (.one (.bp 256 0)), .s (.one (.d (.int .i64))), .s (.one (.d (.int .i64))), .s (.one (.d (.list (.int .i64)))), .s (.one (.d (.int .i64))), .s (.one (.d (.int .i64))), .b (.cell [.d (.int .i64), .d (.int .i64)] false)], [(.list (.pair (.int .i64) (.pair (.int .i64) (.int .i64)))), (.list (.int .i64)), (.int .i64), (.int .i64), (.list (.int .i64)), (.int .i64), (.int .i64), (.int .i64), (.int .i64)], [⟨.exit 4, [.s (.one (.d (.list (.int .i64)))), .s (.one (.bp 256 0)), .s (.one (.d (.int .i64))), .s (.one (.d (.int .i64))), .b (.cell [.d (.int .i64), .d (.int .i64)] false)], [(.list (.int .i64)), (.int .i64), (.int .i64), (.int .i64), (.int .i64)]⟩], fun h => Pw.load_Jain_l4_step h.1 h.2.1 h.2.2.1 h.2.2.2.1 h.2.2.2.2.1 h.2.2.2.2.2.1 h.2.2.2.2.2.2.1 h.2.2.2.2.2.2.2.1 h.2.2.2.2.2.2.2.2⟩]
  modes := [(18, [false]), (19, [false, false]), (20, [false, false])]
  keep := [(1, ⟨[0, 1, 4, 6, 22, 23, 24], [256], [], []⟩),
    (4, ⟨[0, 1, 4, 6, 9, 42, 43, 44], [256], [], []⟩)]
  keepX := [(1, .exit 1, ⟨[0, 1, 4, 6], [256], [], []⟩),
    (4, .exit 4, ⟨[1, 4, 6, 9], [256], [], []⟩)]
  ro := [false, false]
  dw := []

set_option maxRecDepth 100000 in
theorem load_Jain_ok : Con.OK Try.prog load_Jain_con :=
  con_of tabOk mixedOk load_Jain_d load_Jain_con Try.f12 (Try.f12.body.getD .skip) Try.func12 (by kernel_rfl) (by kernel_rfl) (Nat.le_of_ble_eq_true (by kernel_rfl)) (by kernel_rfl) (And.intro load_right_ok (And.intro load_weighted_ok (And.intro ratio_New_ok trivial))) (by kernel_rfl) (by kernel_rfl)
    (And.intro (fun h => by kernel_rfl) (And.intro (fun h => by kernel_rfl) trivial))
    (fun h => by kernel_rfl)

noncomputable def load_Spread_con : Con := ⟨15, [.v (.list (.pair (.int .i64) (.pair (.int .i64) (.int .i64)))), .v (.list (.int .i64))], [(.list (.pair (.int .i64) (.pair (.int .i64) (.int .i64)))), (.list (.int .i64))], ⟨[.v (.int .i64)], []⟩, [(.int .i64)], fun h => Pw.load_Spread h.1 h.2⟩

noncomputable def load_Spread_d : FnD where
  N := 47
  np := 2
  cs := [load_right_con, load_weighted_con]
  ds := [⟨0, [.s (.one (.d (.list (.pair (.int .i64) (.pair (.int .i64) (.int .i64)))))), .s (.one (.d (.int .i64))), .s (.one (.d (.int .i64))), .s (.one (.d (.list (.int .i64)))), .s (.one (.d (.int .i64))), .s (.one (.d (.int .i64)))], [(.list (.pair (.int .i64) (.pair (.int .i64) (.int .i64)))), (.int .i64), (.int .i64), (.list (.int .i64)), (.int .i64), (.int .i64)], [⟨.exit 0, [.s (.one (.d (.int .i64))), .s (.one (.d (.int .i64)))], [(.int .i64), (.int .i64)]⟩], fun h => Pw.load_Spread_l0_step h.1 h.2.1 h.2.2.1 h.2.2.2.1 h.2.2.2.2.1 h.2.2.2.2.2⟩]
  modes := [(18, [false]), (20, [false, false])]
  keep := [(0, ⟨[0, 5, 6, 27, 28, 29], [], [], []⟩)]
  keepX := [(0, .exit 0, ⟨[5, 6], [], [], []⟩)]
  ro := [false]
  dw := []

set_option maxRecDepth 100000 in
theorem load_Spread_ok : Con.OK Try.prog load_Spread_con :=
  con_of tabOk mixedOk load_Spread_d load_Spread_con Try.f15 (Try.f15.body.getD .skip) Try.func15 (by kernel_rfl) (by kernel_rfl) (Nat.le_of_ble_eq_true (by kernel_rfl)) (by kernel_rfl) (And.intro load_right_ok (And.intro load_weighted_ok trivial)) (by kernel_rfl) (by kernel_rfl)
    (And.intro (fun h => by kernel_rfl) trivial)
    (fun h => by kernel_rfl)

noncomputable def law17_sane_con : Con := ⟨6, [], [], ⟨[.v .bool], []⟩, [.bool], fun h => Pw.law17_sane⟩

noncomputable def law17_sane_d : FnD where
  N := 48
  np := 0
  cs := [load_Sum_con, load_Share_con, load_Jain_con, load_Spread_con]
  ds := []
  modes := [(9, [false, false]), (11, [false]), (12, [false, false]), (15, [false, false])]
  keep := []
  keepX := []
  ro := [false]
  dw := []

set_option maxRecDepth 100000 in
theorem law17_sane_ok : Con.OK Try.prog law17_sane_con :=
  con_of tabOk mixedOk law17_sane_d law17_sane_con Try.f6 (Try.f6.body.getD .skip) Try.func6 (by kernel_rfl) (by kernel_rfl) (Nat.le_of_ble_eq_true (by kernel_rfl)) (by kernel_rfl) (And.intro load_Sum_ok (And.intro load_Share_ok (And.intro load_Jain_ok (And.intro load_Spread_ok trivial)))) (by kernel_rfl) (by kernel_rfl)
    trivial
    (fun h => by kernel_rfl)

noncomputable def made_Roll_con : Con := ⟨7, [.v (.list (.int .i64))], [(.list (.int .i64))], ⟨[.box [(.list (.int .i64)), (.int .i64)]], []⟩, [(.list (.int .i64)), (.int .i64)], fun h => Pw.made_Roll h⟩

noncomputable def made_Roll_d : FnD where
  N := 6
  np := 1
  cs := []
  ds := []
  modes := []
  keep := []
  keepX := []
  ro := [false]
  dw := []

set_option maxRecDepth 100000 in
theorem made_Roll_ok : Con.OK Try.prog made_Roll_con :=
  con_of tabOk mixedOk made_Roll_d made_Roll_con Try.f7 (Try.f7.body.getD .skip) Try.func7 (by kernel_rfl) (by kernel_rfl) (Nat.le_of_ble_eq_true (by kernel_rfl)) (by kernel_rfl) trivial (by kernel_rfl) (by kernel_rfl)
    trivial
    (fun h => by kernel_rfl)

noncomputable def made_Dice_Next_con : Con := ⟨16, [.ref [(.list (.int .i64)), (.int .i64)], .v (.int .i64)], [(.list (.int .i64)), (.int .i64), (.int .i64)], ⟨[.v (.int .i64)], [.ref [(.list (.int .i64)), (.int .i64)]]⟩, [(.int .i64), (.list (.int .i64)), (.int .i64)], fun h => Pw.made_Dice_Next h.1 h.2.1 h.2.2⟩

noncomputable def made_Dice_Next_d : FnD where
  N := 45
  np := 2
  cs := []
  ds := []
  modes := []
  keep := []
  keepX := []
  ro := [false]
  dw := []

set_option maxRecDepth 100000 in
theorem made_Dice_Next_ok : Con.OK Try.prog made_Dice_Next_con :=
  con_of tabOk mixedOk made_Dice_Next_d made_Dice_Next_con Try.f16 (Try.f16.body.getD .skip) Try.func16 (by kernel_rfl) (by kernel_rfl) (Nat.le_of_ble_eq_true (by kernel_rfl)) (by kernel_rfl) trivial (by kernel_rfl) (by kernel_rfl)
    trivial
    (fun h => by kernel_rfl)

noncomputable def made_Dice_Pick_con : Con := ⟨17, [.ref [(.list (.int .i64)), (.int .i64)], .v (.list (.int .i64))], [(.list (.int .i64)), (.int .i64), (.list (.int .i64))], ⟨[.v (.int .i64)], [.ref [(.list (.int .i64)), (.int .i64)]]⟩, [(.int .i64), (.list (.int .i64)), (.int .i64)], fun h => Pw.made_Dice_Pick h.1 h.2.1 h.2.2⟩

noncomputable def made_Dice_Pick_d : FnD where
  N := 12
  np := 2
  cs := [made_Dice_Next_con]
  ds := []
  modes := [(16, [false, false])]
  keep := []
  keepX := []
  ro := [false]
  dw := []

set_option maxRecDepth 100000 in
theorem made_Dice_Pick_ok : Con.OK Try.prog made_Dice_Pick_con :=
  con_of tabOk mixedOk made_Dice_Pick_d made_Dice_Pick_con Try.f17 (Try.f17.body.getD .skip) Try.func17 (by kernel_rfl) (by kernel_rfl) (Nat.le_of_ble_eq_true (by kernel_rfl)) (by kernel_rfl) (And.intro made_Dice_Next_ok trivial) (by kernel_rfl) (by kernel_rfl)
    trivial
    (fun h => by kernel_rfl)

noncomputable def made_Dice_Loads_con : Con := ⟨8, [.ref [(.list (.int .i64)), (.int .i64)]], [(.list (.int .i64)), (.int .i64)], ⟨[.own 35 (.list (.pair (.int .i64) (.pair (.int .i64) (.int .i64))))], [.ref [(.list (.int .i64)), (.int .i64)]]⟩, [(.list (.pair (.int .i64) (.pair (.int .i64) (.int .i64)))), (.list (.int .i64)), (.int .i64)], fun h => Pw.made_Dice_Loads h.1 h.2⟩

noncomputable def made_Dice_Loads_d : FnD where
  N := 35
  np := 1
  cs := [made_Dice_Next_con, made_Dice_Pick_con]
  ds := [⟨0, [.s (.one (.bp 0 0)), .s (.one (.ol 1000000)), .s (.one (.d (.int .i64))), .s (.one (.d (.int .i64))), .b (.cell [.d (.list (.int .i64)), .d (.int .i64)] false), .b (.lst 35 (.pair (.int .i64) (.pair (.int .i64) (.int .i64))) false)], [(.int .i64), (.int .i64), (.list (.int .i64)), (.int .i64), (.list (.pair (.int .i64) (.pair (.int .i64) (.int .i64))))], [⟨.exit 0, [.s (.one (.ol 1500100)), .b (.cell [.d (.list (.int .i64)), .d (.int .i64)] false), .b (.lst 35 (.pair (.int .i64) (.pair (.int .i64) (.int .i64))) false)], [(.list (.int .i64)), (.int .i64), (.list (.pair (.int .i64) (.pair (.int .i64) (.int .i64))))]⟩], fun h => Pw.made_Dice_Loads_l0_step h.1 h.2.1 h.2.2.1 h.2.2.2.1 h.2.2.2.2⟩]
  modes := [(16, [false, false]), (17, [false, false])]
  keep := [(0, ⟨[0, 3, 4, 5], [0], [⟨1000000, 35, (.pair (.int .i64) (.pair (.int .i64) (.int .i64))), [.slot 3], false⟩], []⟩)]
  keepX := [(0, .exit 0, ⟨[3], [0], [⟨1500100, 35, (.pair (.int .i64) (.pair (.int .i64) (.int .i64))), [.slot 3], false⟩], []⟩)]
  ro := [true]
  dw := []

set_option maxRecDepth 100000 in
theorem made_Dice_Loads_ok : Con.OK Try.prog made_Dice_Loads_con :=
  con_of tabOk mixedOk made_Dice_Loads_d made_Dice_Loads_con Try.f8 (Try.f8.body.getD .skip) Try.func8 (by kernel_rfl) (by kernel_rfl) (Nat.le_of_ble_eq_true (by kernel_rfl)) (by kernel_rfl) (And.intro made_Dice_Next_ok (And.intro made_Dice_Pick_ok trivial)) (by kernel_rfl) (by kernel_rfl)
    (And.intro (fun h => by kernel_rfl) trivial)
    (fun h => by kernel_rfl)

noncomputable def r02_in_con : Con := ⟨24, [.v (.int .i64)], [(.int .i64)], ⟨[.v .bool], []⟩, [.bool], fun h => Pw.r02_in h⟩

noncomputable def r02_in_d : FnD where
  N := 9
  np := 1
  cs := []
  ds := []
  modes := []
  keep := []
  keepX := []
  ro := [false]
  dw := []

set_option maxRecDepth 100000 in
theorem r02_in_ok : Con.OK Try.prog r02_in_con :=
  con_of tabOk mixedOk r02_in_d r02_in_con Try.f24 (Try.f24.body.getD .skip) Try.func24 (by kernel_rfl) (by kernel_rfl) (Nat.le_of_ble_eq_true (by kernel_rfl)) (by kernel_rfl) trivial (by kernel_rfl) (by kernel_rfl)
    trivial
    (fun h => by kernel_rfl)

noncomputable def r02_size_con : Con := ⟨25, [.v (.int .i64)], [(.int .i64)], ⟨[.v (.int .i64)], []⟩, [(.int .i64)], fun h => Pw.r02_size h⟩

noncomputable def r02_size_d : FnD where
  N := 8
  np := 1
  cs := []
  ds := []
  modes := []
  keep := []
  keepX := []
  ro := [false]
  dw := []

set_option maxRecDepth 100000 in
theorem r02_size_ok : Con.OK Try.prog r02_size_con :=
  con_of tabOk mixedOk r02_size_d r02_size_con Try.f25 (Try.f25.body.getD .skip) Try.func25 (by kernel_rfl) (by kernel_rfl) (Nat.le_of_ble_eq_true (by kernel_rfl)) (by kernel_rfl) trivial (by kernel_rfl) (by kernel_rfl)
    trivial
    (fun h => by kernel_rfl)

noncomputable def r02_gcd_con : Con := ⟨22, [.v (.int .i64), .v (.int .i64)], [(.int .i64), (.int .i64)], ⟨[.v (.int .i64)], []⟩, [(.int .i64)], fun h => Pw.r02_gcd h.1 h.2⟩

noncomputable def r02_gcd_d : FnD where
  N := 12
  np := 2
  cs := []
  ds := [⟨0, [.s (.one (.d (.int .i64))), .s (.one (.d (.int .i64)))], [(.int .i64), (.int .i64)], [⟨.exit 0, [.s (.one (.d (.int .i64)))], [(.int .i64)]⟩], fun h => Pw.r02_gcd_l0_step h.1 h.2⟩]
  modes := []
  keep := [(0, ⟨[0, 1], [], [], []⟩)]
  keepX := [(0, .exit 0, ⟨[0], [], [], []⟩)]
  ro := [false]
  dw := []

set_option maxRecDepth 100000 in
theorem r02_gcd_ok : Con.OK Try.prog r02_gcd_con :=
  con_of tabOk mixedOk r02_gcd_d r02_gcd_con Try.f22 (Try.f22.body.getD .skip) Try.func22 (by kernel_rfl) (by kernel_rfl) (Nat.le_of_ble_eq_true (by kernel_rfl)) (by kernel_rfl) trivial (by kernel_rfl) (by kernel_rfl)
    (And.intro (fun h => by kernel_rfl) trivial)
    (fun h => by kernel_rfl)

noncomputable def r02_Valid_con : Con := ⟨21, [.v (.pair (.int .i64) (.int .i64))], [(.pair (.int .i64) (.int .i64))], ⟨[.v .bool], []⟩, [.bool], fun h => Pw.r02_Valid h⟩

noncomputable def r02_Valid_d : FnD where
  N := 25
  np := 1
  cs := [r02_in_con, r02_size_con, r02_gcd_con]
  ds := []
  modes := [(22, [false, false]), (24, [false]), (25, [false])]
  keep := []
  keepX := []
  ro := [false]
  dw := []

set_option maxRecDepth 100000 in
theorem r02_Valid_ok : Con.OK Try.prog r02_Valid_con :=
  con_of tabOk mixedOk r02_Valid_d r02_Valid_con Try.f21 (Try.f21.body.getD .skip) Try.func21 (by kernel_rfl) (by kernel_rfl) (Nat.le_of_ble_eq_true (by kernel_rfl)) (by kernel_rfl) (And.intro r02_in_ok (And.intro r02_size_ok (And.intro r02_gcd_ok trivial))) (by kernel_rfl) (by kernel_rfl)
    trivial
    (fun h => by kernel_rfl)

noncomputable def r02_product_con : Con := ⟨23, [.v (.int .i64), .v (.int .i64)], [(.int .i64), (.int .i64)], ⟨[.v (.int .i64), .v .bool], []⟩, [(.int .i64), .bool], fun h => Pw.r02_product h.1 h.2⟩

noncomputable def r02_product_d : FnD where
  N := 21
  np := 2
  cs := [r02_size_con]
  ds := []
  modes := [(25, [false])]
  keep := []
  keepX := []
  ro := [false, false]
  dw := []

set_option maxRecDepth 100000 in
theorem r02_product_ok : Con.OK Try.prog r02_product_con :=
  con_of tabOk mixedOk r02_product_d r02_product_con Try.f23 (Try.f23.body.getD .skip) Try.func23 (by kernel_rfl) (by kernel_rfl) (Nat.le_of_ble_eq_true (by kernel_rfl)) (by kernel_rfl) (And.intro r02_size_ok trivial) (by kernel_rfl) (by kernel_rfl)
    trivial
    (fun h => by kernel_rfl)

noncomputable def r02_New_con : Con := ⟨13, [.v (.int .i64), .v (.int .i64)], [(.int .i64), (.int .i64)], ⟨[.v (.pair (.int .i64) (.int .i64)), .v (.int .i64)], []⟩, [(.pair (.int .i64) (.int .i64)), (.int .i64)], fun h => Pw.r02_New h.1 h.2⟩

noncomputable def r02_New_d : FnD where
  N := 30
  np := 2
  cs := [r02_in_con, r02_size_con, r02_gcd_con]
  ds := []
  modes := [(22, [false, false]), (24, [false]), (25, [false])]
  keep := []
  keepX := []
  ro := [false, false]
  dw := [(4, [[], [], [], [], [], [], [], [256], []])]

set_option maxRecDepth 100000 in
theorem r02_New_ok : Con.OK Try.prog r02_New_con :=
  con_of tabOk mixedOk r02_New_d r02_New_con Try.f13 (Try.f13.body.getD .skip) Try.func13 (by kernel_rfl) (by kernel_rfl) (Nat.le_of_ble_eq_true (by kernel_rfl)) (by kernel_rfl) (And.intro r02_in_ok (And.intro r02_size_ok (And.intro r02_gcd_ok trivial))) (by kernel_rfl) (by kernel_rfl)
    trivial
    (fun h => by kernel_rfl)

noncomputable def r02_Add_con : Con := ⟨10, [.v (.pair (.int .i64) (.int .i64)), .v (.pair (.int .i64) (.int .i64))], [(.pair (.int .i64) (.int .i64)), (.pair (.int .i64) (.int .i64))], ⟨[.v (.pair (.int .i64) (.int .i64)), .v (.int .i64)], []⟩, [(.pair (.int .i64) (.int .i64)), (.int .i64)], fun h => Pw.r02_Add h.1 h.2⟩

noncomputable def r02_Add_d : FnD where
  N := 95
  np := 2
  cs := [r02_gcd_con, r02_Valid_con, r02_product_con, r02_New_con]
  ds := []
  modes := [(13, [false, false]), (21, [false]), (22, [false, false]), (23, [false, false])]
  keep := []
  keepX := []
  ro := [false, false]
  dw := []

set_option maxRecDepth 100000 in
theorem r02_Add_ok : Con.OK Try.prog r02_Add_con :=
  con_of tabOk mixedOk r02_Add_d r02_Add_con Try.f10 (Try.f10.body.getD .skip) Try.func10 (by kernel_rfl) (by kernel_rfl) (Nat.le_of_ble_eq_true (by kernel_rfl)) (by kernel_rfl) (And.intro r02_gcd_ok (And.intro r02_Valid_ok (And.intro r02_product_ok (And.intro r02_New_ok trivial)))) (by kernel_rfl) (by kernel_rfl)
    trivial
    (fun h => by kernel_rfl)

noncomputable def law17_LoadShares_con : Con := ⟨3, [.v (.list (.int .i64))], [(.list (.int .i64))], ⟨[.v .bool], []⟩, [.bool], fun h => Pw.law17_LoadShares h⟩

noncomputable def law17_LoadShares_d : FnD where
  N := 65
  np := 1
  cs := [made_Light_con, load_Sum_con, load_Share_con, law17_sane_con, made_Roll_con, made_Dice_Loads_con, r02_Add_con]
  ds := [⟨0, [.s (.one (.ol 1000000)), .s (.one (.bp 256 0)), .s (.one (.d (.int .i64))), .s (.one (.d (.int .i64))), .b (.cell [.d (.int .i64), .d (.int .i64)] false), .b (.lst 35 (.pair (.int .i64) (.pair (.int .i64) (.int .i64))) false)], [(.int .i64), (.int .i64), (.int .i64), (.int .i64), (.list (.pair (.int .i64) (.pair (.int .i64) (.int .i64))))], [⟨.ret, [.s (.one (.d .bool))], [.bool]⟩, ⟨.exit 0, [.s (.one (.ol 1500100)), .s (.one (.bp 256 0)), .b (.cell [.d (.int .i64), .d (.int .i64)] false), .b (.lst 35 (.pair (.int .i64) (.pair (.int .i64) (.int .i64))) false)], [(.int .i64), (.int .i64), (.list (.pair (.int .i64) (.pair (.int .i64) (.int .i64))))]⟩], fun h => Pw.law17_LoadShares_l0_step h.1 h.2.1 h.2.2.1 h.2.2.2.1 h.2.2.2.2⟩]
  modes := [(5, [false]), (6, []), (7, [false]), (8, [false]), (9, [false, false]), (10, [false, false]), (11, [false])]
  keep := [(0, ⟨[3, 4, 20, 21], [256], [⟨1000000, 35, (.pair (.int .i64) (.pair (.int .i64) (.int .i64))), [.slot 3], false⟩], []⟩)]
  keepX := [(0, .ret, ⟨[2], [], [], []⟩),
    (0, .exit 0, ⟨[3, 4], [256], [⟨1500100, 35, (.pair (.int .i64) (.pair (.int .i64) (.int .i64))), [.slot 3], false⟩], []⟩)]
  ro := [false]
  dw := []

set_option maxRecDepth 100000 in
theorem law17_LoadShares_ok : Con.OK Try.prog law17_LoadShares_con :=
  con_of tabOk mixedOk law17_LoadShares_d law17_LoadShares_con Try.f3 (Try.f3.body.getD .skip) Try.func3 (by kernel_rfl) (by kernel_rfl) (Nat.le_of_ble_eq_true (by kernel_rfl)) (by kernel_rfl) (And.intro made_Light_ok (And.intro load_Sum_ok (And.intro load_Share_ok (And.intro law17_sane_ok (And.intro made_Roll_ok (And.intro made_Dice_Loads_ok (And.intro r02_Add_ok trivial))))))) (by kernel_rfl) (by kernel_rfl)
    (And.intro (fun h => by kernel_rfl) trivial)
    (fun h => by kernel_rfl)

noncomputable def r02_less_con : Con := ⟨26, [.v (.int .i64), .v (.int .i64), .v (.int .i64), .v (.int .i64)], [(.int .i64), (.int .i64), (.int .i64), (.int .i64)], ⟨[.v .bool], []⟩, [.bool], fun h => Pw.r02_less h.1 h.2.1 h.2.2.1 h.2.2.2⟩

noncomputable def r02_less_conR (g : HL [(.int .i64), (.int .i64), (.int .i64), (.int .i64)] → Option (HL [.bool])) : Con := ⟨26, [.v (.int .i64), .v (.int .i64), .v (.int .i64), .v (.int .i64)], [(.int .i64), (.int .i64), (.int .i64), (.int .i64)], ⟨[.v .bool], []⟩, [.bool], g⟩

noncomputable def r02_less_d (g : HL [(.int .i64), (.int .i64), (.int .i64), (.int .i64)] → Option (HL [.bool])) : FnD where
  N := 40
  np := 4
  cs := [r02_less_conR g]
  ds := []
  modes := [(26, [false, false, false, false])]
  keep := []
  keepX := []
  ro := [false]
  dw := []

set_option maxRecDepth 100000 in
theorem r02_less_step (g : HL [(.int .i64), (.int .i64), (.int .i64), (.int .i64)] → Option (HL [.bool])) (hg : Con.OK Try.prog (r02_less_conR g)) : Con.OK Try.prog (r02_less_conR (Pw.r02_less_rec g)) :=
  con_of tabOk mixedOk (r02_less_d g) (r02_less_conR (Pw.r02_less_rec g)) Try.f26 (Try.f26.body.getD .skip) Try.func26 (by kernel_rfl) (by kernel_rfl) (Nat.le_of_ble_eq_true (by kernel_rfl)) (by kernel_rfl) (And.intro hg trivial) (by kernel_rfl) (by kernel_rfl)
    trivial
    (fun h => by kernel_rfl)

theorem r02_less_ok : Con.OK Try.prog r02_less_con := rec_ok (f := 26) (ps := [.v (.int .i64), .v (.int .i64), .v (.int .i64), .v (.int .i64)]) (ts := [(.int .i64), (.int .i64), (.int .i64), (.int .i64)]) (rp := ⟨[.v .bool], []⟩) (rs := [.bool]) (B := Pw.r02_less_rec) r02_less_step

noncomputable def r02_Less_con : Con := ⟨14, [.v (.pair (.int .i64) (.int .i64)), .v (.pair (.int .i64) (.int .i64))], [(.pair (.int .i64) (.int .i64)), (.pair (.int .i64) (.int .i64))], ⟨[.v .bool], []⟩, [.bool], fun h => Pw.r02_Less h.1 h.2⟩

noncomputable def r02_Less_d : FnD where
  N := 57
  np := 2
  cs := [r02_Valid_con, r02_less_con]
  ds := []
  modes := [(21, [false]), (26, [false, false, false, false])]
  keep := []
  keepX := []
  ro := [false]
  dw := []

set_option maxRecDepth 100000 in
theorem r02_Less_ok : Con.OK Try.prog r02_Less_con :=
  con_of tabOk mixedOk r02_Less_d r02_Less_con Try.f14 (Try.f14.body.getD .skip) Try.func14 (by kernel_rfl) (by kernel_rfl) (Nat.le_of_ble_eq_true (by kernel_rfl)) (by kernel_rfl) (And.intro r02_Valid_ok (And.intro r02_less_ok trivial)) (by kernel_rfl) (by kernel_rfl)
    trivial
    (fun h => by kernel_rfl)

noncomputable def law17_LoadFair_con : Con := ⟨4, [.v (.list (.int .i64)), .v (.list (.int .u8))], [(.list (.int .i64)), (.list (.int .u8))], ⟨[.v .bool], []⟩, [.bool], fun h => Pw.law17_LoadFair h.1 h.2⟩

noncomputable def law17_LoadFair_d : FnD where
  N := 84
  np := 2
  cs := [made_Light_con, load_Jain_con, load_Spread_con, law17_sane_con, made_Roll_con, made_Dice_Loads_con, r02_New_con, r02_Less_con]
  ds := [⟨0, [.s (.one (.ol 1000000)), .s (.one (.ol 1000001)), .s (.one (.d (.list (.int .u8)))), .s (.one (.d (.int .i64))), .s (.one (.d (.int .i64))), .b (.lst 35 (.pair (.int .i64) (.pair (.int .i64) (.int .i64))) false), .b (.lst 3 (.int .i64) false)], [(.list (.int .u8)), (.int .i64), (.int .i64), (.list (.pair (.int .i64) (.pair (.int .i64) (.int .i64)))), (.list (.int .i64))], [⟨.exit 0, [.s (.one (.ol 1500100)), .s (.one (.ol 1500101)), .b (.lst 35 (.pair (.int .i64) (.pair (.int .i64) (.int .i64))) false), .b (.lst 3 (.int .i64) false)], [(.list (.pair (.int .i64) (.pair (.int .i64) (.int .i64)))), (.list (.int .i64))]⟩], fun h => Pw.law17_LoadFair_l0_step h.1 h.2.1 h.2.2.1 h.2.2.2.1 h.2.2.2.2⟩]
  modes := [(5, [false]), (6, []), (7, [false]), (8, [false]), (12, [false, false]), (13, [false, false]), (14, [false, false]), (15, [false, false])]
  keep := [(0, ⟨[5, 6, 27, 28, 29], [], [⟨1000000, 35, (.pair (.int .i64) (.pair (.int .i64) (.int .i64))), [.slot 5], false⟩, ⟨1000001, 3, (.int .i64), [.slot 6], false⟩], []⟩)]
  keepX := [(0, .exit 0, ⟨[5, 6], [], [⟨1500100, 35, (.pair (.int .i64) (.pair (.int .i64) (.int .i64))), [.slot 5], false⟩, ⟨1500101, 3, (.int .i64), [.slot 6], false⟩], []⟩)]
  ro := [false]
  dw := []

set_option maxRecDepth 100000 in
theorem law17_LoadFair_ok : Con.OK Try.prog law17_LoadFair_con :=
  con_of tabOk mixedOk law17_LoadFair_d law17_LoadFair_con Try.f4 (Try.f4.body.getD .skip) Try.func4 (by kernel_rfl) (by kernel_rfl) (Nat.le_of_ble_eq_true (by kernel_rfl)) (by kernel_rfl) (And.intro made_Light_ok (And.intro load_Jain_ok (And.intro load_Spread_ok (And.intro law17_sane_ok (And.intro made_Roll_ok (And.intro made_Dice_Loads_ok (And.intro r02_New_ok (And.intro r02_Less_ok trivial)))))))) (by kernel_rfl) (by kernel_rfl)
    (And.intro (fun h => by kernel_rfl) trivial)
    (fun h => by kernel_rfl)
end Go.Proofs.Pk
