/- Contracts: each given function is its plain function, printed by a program. -/
import Derived.Test.YtngdgmapbahdgaaCon1
open Go Go.Lft
set_option linter.unusedVariables false
namespace Go.Proofs.Pk

noncomputable def made_Dice_Next_con : Con := ⟨58, [.ref [(.list (.int .i64)), (.int .i64)], .v (.int .i64)], [(.list (.int .i64)), (.int .i64), (.int .i64)], ⟨[.v (.int .i64)], [.ref [(.list (.int .i64)), (.int .i64)]]⟩, [(.int .i64), (.list (.int .i64)), (.int .i64)], fun h => Pw.made_Dice_Next h.1 h.2.1 h.2.2⟩

noncomputable def made_Dice_Next_d : FnD where
  N := 45
  np := 2
  cs := []
  ds := []
  modes := []
  keep := []
  keepX := []
  ro := [false]
  dw := []

set_option maxRecDepth 100000 in
theorem made_Dice_Next_ok : Con.OK Try.prog made_Dice_Next_con :=
  con_of tabOk mixedOk made_Dice_Next_d made_Dice_Next_con Try.f58 (Try.f58.body.getD .skip) Try.func58 (by kernel_rfl) (by kernel_rfl) (Nat.le_of_ble_eq_true (by kernel_rfl)) (by kernel_rfl) trivial (by kernel_rfl) (by kernel_rfl)
    trivial
    (fun h => by kernel_rfl)

noncomputable def made_Dice_Pick_con : Con := ⟨70, [.ref [(.list (.int .i64)), (.int .i64)], .v (.list (.int .i64))], [(.list (.int .i64)), (.int .i64), (.list (.int .i64))], ⟨[.v (.int .i64)], [.ref [(.list (.int .i64)), (.int .i64)]]⟩, [(.int .i64), (.list (.int .i64)), (.int .i64)], fun h => Pw.made_Dice_Pick h.1 h.2.1 h.2.2⟩

noncomputable def made_Dice_Pick_d : FnD where
  N := 12
  np := 2
  cs := [made_Dice_Next_con]
  ds := []
  modes := [(58, [false, false])]
  keep := []
  keepX := []
  ro := [false]
  dw := []

set_option maxRecDepth 100000 in
theorem made_Dice_Pick_ok : Con.OK Try.prog made_Dice_Pick_con :=
  con_of tabOk mixedOk made_Dice_Pick_d made_Dice_Pick_con Try.f70 (Try.f70.body.getD .skip) Try.func70 (by kernel_rfl) (by kernel_rfl) (Nat.le_of_ble_eq_true (by kernel_rfl)) (by kernel_rfl) (And.intro made_Dice_Next_ok trivial) (by kernel_rfl) (by kernel_rfl)
    trivial
    (fun h => by kernel_rfl)

noncomputable def made_Dice_Zone_con : Con := ⟨21, [.ref [(.list (.int .i64)), (.int .i64)], .v .str], [(.list (.int .i64)), (.int .i64), .str], ⟨[.v (.pair .str (.pair (.int .i64) (.list (.pair (.int .i64) (.pair (.int .i64) (.pair (.int .i64) (.pair (.int .i64) (.pair (.int .i64) (.pair (.int .i64) (.int .i64))))))))))], [.ref [(.list (.int .i64)), (.int .i64)]]⟩, [(.pair .str (.pair (.int .i64) (.list (.pair (.int .i64) (.pair (.int .i64) (.pair (.int .i64) (.pair (.int .i64) (.pair (.int .i64) (.pair (.int .i64) (.int .i64)))))))))), (.list (.int .i64)), (.int .i64)], fun h => Pw.made_Dice_Zone h.1 h.2.1 h.2.2⟩

noncomputable def made_Dice_Zone_d : FnD where
  N := 98
  np := 2
  cs := [made_Dice_Next_con, made_Dice_Pick_con]
  ds := []
  modes := [(58, [false, false]), (70, [false, false])]
  keep := []
  keepX := []
  ro := [false]
  dw := [(7, [[], [], [0], [], [], [0], [], [0], [], [], [], [], [0], [], [], [], [], [], [], [0], [], [], [3968], [0, 3968], [], [0], [], [0], [], [], [], [], [4608], [], [320]]), (9, [[], [], [], [5056], [0, 5056], [], []])]

set_option maxRecDepth 100000 in
theorem made_Dice_Zone_ok : Con.OK Try.prog made_Dice_Zone_con :=
  con_of tabOk mixedOk made_Dice_Zone_d made_Dice_Zone_con Try.f21 (Try.f21.body.getD .skip) Try.func21 (by kernel_rfl) (by kernel_rfl) (Nat.le_of_ble_eq_true (by kernel_rfl)) (by kernel_rfl) (And.intro made_Dice_Next_ok (And.intro made_Dice_Pick_ok trivial)) (by kernel_rfl) (by kernel_rfl)
    trivial
    (fun h => by kernel_rfl)

noncomputable def made_Mod_con : Con := ⟨22, [.v (.int .i64), .v (.int .i64)], [(.int .i64), (.int .i64)], ⟨[.v (.int .i64)], []⟩, [(.int .i64)], fun h => Pw.made_Mod h.1 h.2⟩

noncomputable def made_Mod_d : FnD where
  N := 12
  np := 2
  cs := []
  ds := []
  modes := []
  keep := []
  keepX := []
  ro := [false]
  dw := []

set_option maxRecDepth 100000 in
theorem made_Mod_ok : Con.OK Try.prog made_Mod_con :=
  con_of tabOk mixedOk made_Mod_d made_Mod_con Try.f22 (Try.f22.body.getD .skip) Try.func22 (by kernel_rfl) (by kernel_rfl) (Nat.le_of_ble_eq_true (by kernel_rfl)) (by kernel_rfl) trivial (by kernel_rfl) (by kernel_rfl)
    trivial
    (fun h => by kernel_rfl)

noncomputable def law04_ZoneBack_con : Con := ⟨3, [.v (.list (.int .i64)), .v (.int .i64)], [(.list (.int .i64)), (.int .i64)], ⟨[.v .bool], []⟩, [.bool], fun h => Pw.law04_ZoneBack h.1 h.2⟩

noncomputable def law04_ZoneBack_d : FnD where
  N := 126
  np := 2
  cs := [made_Light_con, zone_FromLocal_con, zone_First_con, zone_ToLocal_con, law04_sane_con, made_Roll_con, made_Dice_Zone_con, made_Mod_con]
  ds := [⟨0, [.s (.one (.bp 384 0)), .s (.one (.d (.int .i64))), .s (.one (.bp 512 0)), .s (.one (.ol 1000000)), .s (.one (.d .bool)), .s (.one (.d (.int .i64))), .s (.one (.d (.int .i64))), .b (.cell [.d .str, .d (.int .i64), .d (.list (.pair (.int .i64) (.pair (.int .i64) (.pair (.int .i64) (.pair (.int .i64) (.pair (.int .i64) (.pair (.int .i64) (.int .i64))))))))] false), .b (.cell [.d (.int .i64), .d (.int .i64)] false), .b (.lst 3 (.int .i64) false)], [(.int .i64), .bool, (.int .i64), (.int .i64), .str, (.int .i64), (.list (.pair (.int .i64) (.pair (.int .i64) (.pair (.int .i64) (.pair (.int .i64) (.pair (.int .i64) (.pair (.int .i64) (.int .i64)))))))), (.int .i64), (.int .i64), (.list (.int .i64))], [⟨.ret, [.s (.one (.d .bool))], [.bool]⟩, ⟨.exit 0, [.s (.one (.d .bool))], [.bool]⟩], fun h => Pw.law04_ZoneBack_l0_step h.1 h.2.1 h.2.2.1 h.2.2.2.1 h.2.2.2.2.1 h.2.2.2.2.2.1 h.2.2.2.2.2.2.1 h.2.2.2.2.2.2.2.1 h.2.2.2.2.2.2.2.2.1 h.2.2.2.2.2.2.2.2.2⟩]
  modes := [(18, [false]), (19, []), (20, [false]), (21, [false, false]), (22, [false, false]), (23, [false, false]), (24, [false, false]), (25, [false, false])]
  keep := [(0, ⟨[6, 7, 8, 10, 14, 76, 77], [384, 512], [⟨1000000, 3, (.int .i64), [.slot 10], false⟩], []⟩)]
  keepX := [(0, .ret, ⟨[4], [], [], []⟩),
    (0, .exit 0, ⟨[14], [], [], []⟩)]
  ro := [false]
  dw := [(15, [[], [], [], [], [], [], [], [], [], [1024], [1024], []])]

set_option maxRecDepth 100000 in
theorem law04_ZoneBack_ok : Con.OK Try.prog law04_ZoneBack_con :=
  con_of tabOk mixedOk law04_ZoneBack_d law04_ZoneBack_con Try.f3 (Try.f3.body.getD .skip) Try.func3 (by kernel_rfl) (by kernel_rfl) (Nat.le_of_ble_eq_true (by kernel_rfl)) (by kernel_rfl) (And.intro made_Light_ok (And.intro zone_FromLocal_ok (And.intro zone_First_ok (And.intro zone_ToLocal_ok (And.intro law04_sane_ok (And.intro made_Roll_ok (And.intro made_Dice_Zone_ok (And.intro made_Mod_ok trivial)))))))) (by kernel_rfl) (by kernel_rfl)
    (And.intro (fun h => by kernel_rfl) trivial)
    (fun h => by kernel_rfl)

noncomputable def law04_ZoneAscends_con : Con := ⟨4, [.v (.list (.int .i64)), .v (.int .i64), .v (.int .i64)], [(.list (.int .i64)), (.int .i64), (.int .i64)], ⟨[.v .bool], []⟩, [.bool], fun h => Pw.law04_ZoneAscends h.1 h.2.1 h.2.2⟩

noncomputable def law04_ZoneAscends_d : FnD where
  N := 95
  np := 3
  cs := [made_Light_con, zone_First_con, zone_ToLocal_con, law04_sane_con, made_Roll_con, made_Dice_Zone_con, made_Mod_con]
  ds := [⟨0, [.s (.one (.d (.int .i64))), .s (.one (.bp 512 0)), .s (.one (.d (.int .i64))), .s (.one (.d (.int .i64))), .s (.one (.d (.int .i64))), .b (.cell [.d .str, .d (.int .i64), .d (.list (.pair (.int .i64) (.pair (.int .i64) (.pair (.int .i64) (.pair (.int .i64) (.pair (.int .i64) (.pair (.int .i64) (.int .i64))))))))] false)], [(.int .i64), (.int .i64), (.int .i64), (.int .i64), .str, (.int .i64), (.list (.pair (.int .i64) (.pair (.int .i64) (.pair (.int .i64) (.pair (.int .i64) (.pair (.int .i64) (.pair (.int .i64) (.int .i64))))))))], [⟨.ret, [.s (.one (.d .bool))], [.bool]⟩, ⟨.exit 0, [], []⟩], fun h => Pw.law04_ZoneAscends_l0_step h.1 h.2.1 h.2.2.1 h.2.2.2.1 h.2.2.2.2.1 h.2.2.2.2.2.1 h.2.2.2.2.2.2⟩]
  modes := [(18, [false]), (19, []), (20, [false]), (21, [false, false]), (22, [false, false]), (23, [false, false]), (25, [false, false])]
  keep := [(0, ⟨[2, 8, 9, 10, 11], [512], [], []⟩)]
  keepX := [(0, .ret, ⟨[6], [], [], []⟩),
    (0, .exit 0, ⟨[], [], [], []⟩)]
  ro := [false]
  dw := []

set_option maxRecDepth 100000 in
theorem law04_ZoneAscends_ok : Con.OK Try.prog law04_ZoneAscends_con :=
  con_of tabOk mixedOk law04_ZoneAscends_d law04_ZoneAscends_con Try.f4 (Try.f4.body.getD .skip) Try.func4 (by kernel_rfl) (by kernel_rfl) (Nat.le_of_ble_eq_true (by kernel_rfl)) (by kernel_rfl) (And.intro made_Light_ok (And.intro zone_First_ok (And.intro zone_ToLocal_ok (And.intro law04_sane_ok (And.intro made_Roll_ok (And.intro made_Dice_Zone_ok (And.intro made_Mod_ok trivial))))))) (by kernel_rfl) (by kernel_rfl)
    (And.intro (fun h => by kernel_rfl) trivial)
    (fun h => by kernel_rfl)

noncomputable def week_Check_con : Con := ⟨31, [.v (.list (.pair (.int .i64) (.int .i64)))], [(.list (.pair (.int .i64) (.int .i64)))], ⟨[.v (.int .i64)], []⟩, [(.int .i64)], fun h => Pw.week_Check h⟩

noncomputable def week_Check_d : FnD where
  N := 46
  np := 1
  cs := []
  ds := [⟨0, [.s (.one (.d (.list (.pair (.int .i64) (.int .i64))))), .s (.one (.d (.list (.pair (.int .i64) (.int .i64))))), .s (.one (.d (.int .i64))), .s (.one (.d (.int .i64)))], [(.list (.pair (.int .i64) (.int .i64))), (.list (.pair (.int .i64) (.int .i64))), (.int .i64), (.int .i64)], [⟨.ret, [.s (.one (.d (.int .i64)))], [(.int .i64)]⟩, ⟨.exit 0, [], []⟩], fun h => Pw.week_Check_l0_step h.1 h.2.1 h.2.2.1 h.2.2.2⟩]
  modes := []
  keep := [(0, ⟨[0, 8, 9, 10], [], [], []⟩)]
  keepX := [(0, .ret, ⟨[2], [], [], []⟩),
    (0, .exit 0, ⟨[], [], [], []⟩)]
  ro := [false]
  dw := []

set_option maxRecDepth 100000 in
theorem week_Check_ok : Con.OK Try.prog week_Check_con :=
  con_of tabOk mixedOk week_Check_d week_Check_con Try.f31 (Try.f31.body.getD .skip) Try.func31 (by kernel_rfl) (by kernel_rfl) (Nat.le_of_ble_eq_true (by kernel_rfl)) (by kernel_rfl) trivial (by kernel_rfl) (by kernel_rfl)
    (And.intro (fun h => by kernel_rfl) trivial)
    (fun h => by kernel_rfl)

noncomputable def week_Invert_con : Con := ⟨28, [.v (.list (.pair (.int .i64) (.int .i64)))], [(.list (.pair (.int .i64) (.int .i64)))], ⟨[.own 52 (.list (.pair (.int .i64) (.int .i64))), .v (.int .i64)], []⟩, [(.list (.pair (.int .i64) (.int .i64))), (.int .i64)], fun h => Pw.week_Invert h⟩

noncomputable def week_Invert_d : FnD where
  N := 42
  np := 1
  cs := [week_Check_con]
  ds := [⟨0, [.s (.one (.ol 1000000)), .s (.one (.d (.int .i64))), .s (.one (.d (.list (.pair (.int .i64) (.int .i64))))), .s (.one (.d (.int .i64))), .s (.one (.d (.int .i64))), .b (.lst 52 (.pair (.int .i64) (.int .i64)) false)], [(.int .i64), (.list (.pair (.int .i64) (.int .i64))), (.int .i64), (.int .i64), (.list (.pair (.int .i64) (.int .i64)))], [⟨.exit 0, [.s (.one (.ol 1500100)), .s (.one (.d (.int .i64))), .b (.lst 52 (.pair (.int .i64) (.int .i64)) false)], [(.int .i64), (.list (.pair (.int .i64) (.int .i64)))]⟩], fun h => Pw.week_Invert_l0_step h.1 h.2.1 h.2.2.1 h.2.2.2.1 h.2.2.2.2⟩]
  modes := [(31, [false])]
  keep := [(0, ⟨[4, 5, 11, 12, 13], [], [⟨1000000, 52, (.pair (.int .i64) (.int .i64)), [.slot 4], false⟩], []⟩)]
  keepX := [(0, .exit 0, ⟨[4, 5], [], [⟨1500100, 52, (.pair (.int .i64) (.int .i64)), [.slot 4], false⟩], []⟩)]
  ro := [true, false]
  dw := []

set_option maxRecDepth 100000 in
theorem week_Invert_ok : Con.OK Try.prog week_Invert_con :=
  con_of tabOk mixedOk week_Invert_d week_Invert_con Try.f28 (Try.f28.body.getD .skip) Try.func28 (by kernel_rfl) (by kernel_rfl) (Nat.le_of_ble_eq_true (by kernel_rfl)) (by kernel_rfl) (And.intro week_Check_ok trivial) (by kernel_rfl) (by kernel_rfl)
    (And.intro (fun h => by kernel_rfl) trivial)
    (fun h => by kernel_rfl)

noncomputable def week_SecondOf_con : Con := ⟨107, [.v (.pair (.int .i64) (.int .i64))], [(.pair (.int .i64) (.int .i64))], ⟨[.v (.int .i64)], []⟩, [(.int .i64)], fun h => Pw.week_SecondOf h⟩

noncomputable def week_SecondOf_d : FnD where
  N := 10
  np := 1
  cs := [civil_Weekday_con]
  ds := []
  modes := [(120, [false])]
  keep := []
  keepX := []
  ro := [false]
  dw := []

set_option maxRecDepth 100000 in
theorem week_SecondOf_ok : Con.OK Try.prog week_SecondOf_con :=
  con_of tabOk mixedOk week_SecondOf_d week_SecondOf_con Try.f107 (Try.f107.body.getD .skip) Try.func107 (by kernel_rfl) (by kernel_rfl) (Nat.le_of_ble_eq_true (by kernel_rfl)) (by kernel_rfl) (And.intro civil_Weekday_ok trivial) (by kernel_rfl) (by kernel_rfl)
    trivial
    (fun h => by kernel_rfl)

noncomputable def week_Second_con : Con := ⟨76, [.v (.pair .str (.pair (.int .i64) (.list (.pair (.int .i64) (.pair (.int .i64) (.pair (.int .i64) (.pair (.int .i64) (.pair (.int .i64) (.pair (.int .i64) (.int .i64)))))))))), .v (.int .i64)], [(.pair .str (.pair (.int .i64) (.list (.pair (.int .i64) (.pair (.int .i64) (.pair (.int .i64) (.pair (.int .i64) (.pair (.int .i64) (.pair (.int .i64) (.int .i64)))))))))), (.int .i64)], ⟨[.v (.int .i64), .v (.int .i64)], []⟩, [(.int .i64), (.int .i64)], fun h => Pw.week_Second h.1 h.2⟩

noncomputable def week_Second_d : FnD where
  N := 19
  np := 2
  cs := [zone_ToLocal_con, week_SecondOf_con]
  ds := []
  modes := [(23, [false, false]), (107, [false])]
  keep := []
  keepX := []
  ro := [false, false]
  dw := []

set_option maxRecDepth 100000 in
theorem week_Second_ok : Con.OK Try.prog week_Second_con :=
  con_of tabOk mixedOk week_Second_d week_Second_con Try.f76 (Try.f76.body.getD .skip) Try.func76 (by kernel_rfl) (by kernel_rfl) (Nat.le_of_ble_eq_true (by kernel_rfl)) (by kernel_rfl) (And.intro zone_ToLocal_ok (And.intro week_SecondOf_ok trivial)) (by kernel_rfl) (by kernel_rfl)
    trivial
    (fun h => by kernel_rfl)

noncomputable def week_Has_con : Con := ⟨78, [.v (.list (.pair (.int .i64) (.int .i64))), .v (.int .i64)], [(.list (.pair (.int .i64) (.int .i64))), (.int .i64)], ⟨[.v .bool], []⟩, [.bool], fun h => Pw.week_Has h.1 h.2⟩

noncomputable def week_Has_d : FnD where
  N := 24
  np := 2
  cs := []
  ds := [⟨0, [.s (.one (.d (.int .i64))), .s (.one (.d (.list (.pair (.int .i64) (.int .i64))))), .s (.one (.d (.int .i64))), .s (.one (.d (.int .i64)))], [(.int .i64), (.list (.pair (.int .i64) (.int .i64))), (.int .i64), (.int .i64)], [⟨.ret, [.s (.one (.d .bool))], [.bool]⟩, ⟨.exit 0, [], []⟩], fun h => Pw.week_Has_l0_step h.1 h.2.1 h.2.2.1 h.2.2.2⟩]
  modes := []
  keep := [(0, ⟨[1, 7, 8, 9], [], [], []⟩)]
  keepX := [(0, .ret, ⟨[4], [], [], []⟩),
    (0, .exit 0, ⟨[], [], [], []⟩)]
  ro := [false]
  dw := []

set_option maxRecDepth 100000 in
theorem week_Has_ok : Con.OK Try.prog week_Has_con :=
  con_of tabOk mixedOk week_Has_d week_Has_con Try.f78 (Try.f78.body.getD .skip) Try.func78 (by kernel_rfl) (by kernel_rfl) (Nat.le_of_ble_eq_true (by kernel_rfl)) (by kernel_rfl) trivial (by kernel_rfl) (by kernel_rfl)
    (And.intro (fun h => by kernel_rfl) trivial)
    (fun h => by kernel_rfl)

noncomputable def week_In_con : Con := ⟨32, [.v (.pair .str (.pair (.int .i64) (.list (.pair (.int .i64) (.pair (.int .i64) (.pair (.int .i64) (.pair (.int .i64) (.pair (.int .i64) (.pair (.int .i64) (.int .i64)))))))))), .v (.list (.pair (.int .i64) (.int .i64))), .v (.int .i64)], [(.pair .str (.pair (.int .i64) (.list (.pair (.int .i64) (.pair (.int .i64) (.pair (.int .i64) (.pair (.int .i64) (.pair (.int .i64) (.pair (.int .i64) (.int .i64)))))))))), (.list (.pair (.int .i64) (.int .i64))), (.int .i64)], ⟨[.v .bool], []⟩, [.bool], fun h => Pw.week_In h.1 h.2.1 h.2.2⟩

noncomputable def week_In_d : FnD where
  N := 27
  np := 3
  cs := [week_Check_con, week_Second_con, week_Has_con]
  ds := []
  modes := [(31, [false]), (76, [false, false]), (78, [false, false])]
  keep := []
  keepX := []
  ro := [false]
  dw := []

set_option maxRecDepth 100000 in
theorem week_In_ok : Con.OK Try.prog week_In_con :=
  con_of tabOk mixedOk week_In_d week_In_con Try.f32 (Try.f32.body.getD .skip) Try.func32 (by kernel_rfl) (by kernel_rfl) (Nat.le_of_ble_eq_true (by kernel_rfl)) (by kernel_rfl) (And.intro week_Check_ok (And.intro week_Second_ok (And.intro week_Has_ok trivial))) (by kernel_rfl) (by kernel_rfl)
    trivial
    (fun h => by kernel_rfl)

noncomputable def law05_sane_con : Con := ⟨26, [], [], ⟨[.v .bool], []⟩, [.bool], fun h => Pw.law05_sane⟩

noncomputable def law05_sane_d : FnD where
  N := 52
  np := 0
  cs := [week_Invert_con, week_Second_con, week_In_con]
  ds := []
  modes := [(28, [false]), (32, [false, false, false]), (76, [false, false])]
  keep := []
  keepX := []
  ro := [false]
  dw := []

set_option maxRecDepth 100000 in
theorem law05_sane_ok : Con.OK Try.prog law05_sane_con :=
  con_of tabOk mixedOk law05_sane_d law05_sane_con Try.f26 (Try.f26.body.getD .skip) Try.func26 (by kernel_rfl) (by kernel_rfl) (Nat.le_of_ble_eq_true (by kernel_rfl)) (by kernel_rfl) (And.intro week_Invert_ok (And.intro week_Second_ok (And.intro week_In_ok trivial))) (by kernel_rfl) (by kernel_rfl)
    trivial
    (fun h => by kernel_rfl)

noncomputable def made_Dice_Windows_con : Con := ⟨27, [.ref [(.list (.int .i64)), (.int .i64)]], [(.list (.int .i64)), (.int .i64)], ⟨[.own 52 (.list (.pair (.int .i64) (.int .i64)))], [.ref [(.list (.int .i64)), (.int .i64)]]⟩, [(.list (.pair (.int .i64) (.int .i64))), (.list (.int .i64)), (.int .i64)], fun h => Pw.made_Dice_Windows h.1 h.2⟩

noncomputable def made_Dice_Windows_d : FnD where
  N := 38
  np := 1
  cs := [made_Dice_Next_con, made_Dice_Pick_con]
  ds := [⟨0, [.s (.one (.bp 0 0)), .s (.one (.ol 1000000)), .s (.one (.d (.int .i64))), .s (.one (.d (.int .i64))), .b (.cell [.d (.list (.int .i64)), .d (.int .i64)] false), .b (.lst 52 (.pair (.int .i64) (.int .i64)) false)], [(.int .i64), (.int .i64), (.list (.int .i64)), (.int .i64), (.list (.pair (.int .i64) (.int .i64)))], [⟨.exit 0, [.s (.one (.ol 1500100)), .b (.cell [.d (.list (.int .i64)), .d (.int .i64)] false), .b (.lst 52 (.pair (.int .i64) (.int .i64)) false)], [(.list (.int .i64)), (.int .i64), (.list (.pair (.int .i64) (.int .i64)))]⟩], fun h => Pw.made_Dice_Windows_l0_step h.1 h.2.1 h.2.2.1 h.2.2.2.1 h.2.2.2.2⟩]
  modes := [(58, [false, false]), (70, [false, false])]
  keep := [(0, ⟨[0, 3, 4, 5], [0], [⟨1000000, 52, (.pair (.int .i64) (.int .i64)), [.slot 3], false⟩], []⟩)]
  keepX := [(0, .exit 0, ⟨[3], [0], [⟨1500100, 52, (.pair (.int .i64) (.int .i64)), [.slot 3], false⟩], []⟩)]
  ro := [true]
  dw := []

set_option maxRecDepth 100000 in
theorem made_Dice_Windows_ok : Con.OK Try.prog made_Dice_Windows_con :=
  con_of tabOk mixedOk made_Dice_Windows_d made_Dice_Windows_con Try.f27 (Try.f27.body.getD .skip) Try.func27 (by kernel_rfl) (by kernel_rfl) (Nat.le_of_ble_eq_true (by kernel_rfl)) (by kernel_rfl) (And.intro made_Dice_Next_ok (And.intro made_Dice_Pick_ok trivial)) (by kernel_rfl) (by kernel_rfl)
    (And.intro (fun h => by kernel_rfl) trivial)
    (fun h => by kernel_rfl)

noncomputable def made_Dice_Bool_con : Con := ⟨77, [.ref [(.list (.int .i64)), (.int .i64)], .v (.int .i64)], [(.list (.int .i64)), (.int .i64), (.int .i64)], ⟨[.v .bool], [.ref [(.list (.int .i64)), (.int .i64)]]⟩, [.bool, (.list (.int .i64)), (.int .i64)], fun h => Pw.made_Dice_Bool h.1 h.2.1 h.2.2⟩

noncomputable def made_Dice_Bool_d : FnD where
  N := 11
  np := 2
  cs := [made_Dice_Next_con]
  ds := []
  modes := [(58, [false, false])]
  keep := []
  keepX := []
  ro := [false]
  dw := []

set_option maxRecDepth 100000 in
theorem made_Dice_Bool_ok : Con.OK Try.prog made_Dice_Bool_con :=
  con_of tabOk mixedOk made_Dice_Bool_d made_Dice_Bool_con Try.f77 (Try.f77.body.getD .skip) Try.func77 (by kernel_rfl) (by kernel_rfl) (Nat.le_of_ble_eq_true (by kernel_rfl)) (by kernel_rfl) (And.intro made_Dice_Next_ok trivial) (by kernel_rfl) (by kernel_rfl)
    trivial
    (fun h => by kernel_rfl)

noncomputable def made_Dice_Instant_con : Con := ⟨29, [.ref [(.list (.int .i64)), (.int .i64)]], [(.list (.int .i64)), (.int .i64)], ⟨[.v (.int .i64)], [.ref [(.list (.int .i64)), (.int .i64)]]⟩, [(.int .i64), (.list (.int .i64)), (.int .i64)], fun h => Pw.made_Dice_Instant h.1 h.2⟩

noncomputable def made_Dice_Instant_d : FnD where
  N := 16
  np := 1
  cs := [made_Dice_Next_con, made_Dice_Pick_con, made_Dice_Bool_con]
  ds := []
  modes := [(58, [false, false]), (70, [false, false]), (77, [false, false])]
  keep := []
  keepX := []
  ro := [false]
  dw := []

set_option maxRecDepth 100000 in
theorem made_Dice_Instant_ok : Con.OK Try.prog made_Dice_Instant_con :=
  con_of tabOk mixedOk made_Dice_Instant_d made_Dice_Instant_con Try.f29 (Try.f29.body.getD .skip) Try.func29 (by kernel_rfl) (by kernel_rfl) (Nat.le_of_ble_eq_true (by kernel_rfl)) (by kernel_rfl) (And.intro made_Dice_Next_ok (And.intro made_Dice_Pick_ok (And.intro made_Dice_Bool_ok trivial))) (by kernel_rfl) (by kernel_rfl)
    trivial
    (fun h => by kernel_rfl)

noncomputable def week_Length_con : Con := ⟨30, [.v (.list (.pair (.int .i64) (.int .i64)))], [(.list (.pair (.int .i64) (.int .i64)))], ⟨[.v (.int .i64)], []⟩, [(.int .i64)], fun h => Pw.week_Length h⟩

noncomputable def week_Length_d : FnD where
  N := 24
  np := 1
  cs := [week_Check_con]
  ds := [⟨0, [.s (.one (.d (.int .i64))), .s (.one (.d (.list (.pair (.int .i64) (.int .i64))))), .s (.one (.d (.int .i64))), .s (.one (.d (.int .i64)))], [(.int .i64), (.list (.pair (.int .i64) (.int .i64))), (.int .i64), (.int .i64)], [⟨.exit 0, [.s (.one (.d (.int .i64)))], [(.int .i64)]⟩], fun h => Pw.week_Length_l0_step h.1 h.2.1 h.2.2.1 h.2.2.2⟩]
  modes := [(31, [false])]
  keep := [(0, ⟨[3, 9, 10, 11], [], [], []⟩)]
  keepX := [(0, .exit 0, ⟨[3], [], [], []⟩)]
  ro := [false]
  dw := []

set_option maxRecDepth 100000 in
theorem week_Length_ok : Con.OK Try.prog week_Length_con :=
  con_of tabOk mixedOk week_Length_d week_Length_con Try.f30 (Try.f30.body.getD .skip) Try.func30 (by kernel_rfl) (by kernel_rfl) (Nat.le_of_ble_eq_true (by kernel_rfl)) (by kernel_rfl) (And.intro week_Check_ok trivial) (by kernel_rfl) (by kernel_rfl)
    (And.intro (fun h => by kernel_rfl) trivial)
    (fun h => by kernel_rfl)

noncomputable def law05_WeekInverts_con : Con := ⟨5, [.v (.list (.int .i64)), .v (.int .i64)], [(.list (.int .i64)), (.int .i64)], ⟨[.v .bool], []⟩, [.bool], fun h => Pw.law05_WeekInverts h.1 h.2⟩

noncomputable def law05_WeekInverts_d : FnD where
  N := 106
  np := 2
  cs := [made_Light_con, made_Roll_con, made_Dice_Zone_con, made_Mod_con, week_Check_con, week_Invert_con, week_In_con, law05_sane_con, made_Dice_Windows_con, made_Dice_Instant_con, week_Length_con]
  ds := [⟨0, [.s (.one (.ol 1000000)), .s (.one (.ol 1000001)), .s (.one (.d (.int .i64))), .b (.lst 52 (.pair (.int .i64) (.int .i64)) true), .b (.lst 52 (.pair (.int .i64) (.int .i64)) false)], [(.int .i64), (.list (.pair (.int .i64) (.int .i64))), (.list (.pair (.int .i64) (.int .i64)))], [⟨.ret, [.s (.one (.d .bool))], [.bool]⟩, ⟨.exit 0, [.s (.one (.ol 1500100)), .s (.one (.ol 1500101)), .b (.lst 52 (.pair (.int .i64) (.int .i64)) true), .b (.lst 52 (.pair (.int .i64) (.int .i64)) false)], [(.list (.pair (.int .i64) (.int .i64))), (.list (.pair (.int .i64) (.int .i64)))]⟩], fun h => Pw.law05_WeekInverts_l0_step h.1 h.2.1 h.2.2⟩]
  modes := [(18, [false]), (20, [false]), (21, [false, false]), (22, [false, false]), (26, []), (27, [false]), (28, [false]), (29, [false]), (30, [false]), (31, [false]), (32, [false, false, false])]
  keep := [(0, ⟨[7, 10, 13], [], [⟨1000000, 52, (.pair (.int .i64) (.int .i64)), [.slot 7], false⟩, ⟨1000001, 52, (.pair (.int .i64) (.int .i64)), [.slot 10], false⟩], []⟩)]
  keepX := [(0, .ret, ⟨[4], [], [], []⟩),
    (0, .exit 0, ⟨[7, 10], [], [⟨1500100, 52, (.pair (.int .i64) (.int .i64)), [.slot 7], false⟩, ⟨1500101, 52, (.pair (.int .i64) (.int .i64)), [.slot 10], false⟩], []⟩)]
  ro := [false]
  dw := []

set_option maxRecDepth 100000 in
theorem law05_WeekInverts_ok : Con.OK Try.prog law05_WeekInverts_con :=
  con_of tabOk mixedOk law05_WeekInverts_d law05_WeekInverts_con Try.f5 (Try.f5.body.getD .skip) Try.func5 (by kernel_rfl) (by kernel_rfl) (Nat.le_of_ble_eq_true (by kernel_rfl)) (by kernel_rfl) (And.intro made_Light_ok (And.intro made_Roll_ok (And.intro made_Dice_Zone_ok (And.intro made_Mod_ok (And.intro week_Check_ok (And.intro week_Invert_ok (And.intro week_In_ok (And.intro law05_sane_ok (And.intro made_Dice_Windows_ok (And.intro made_Dice_Instant_ok (And.intro week_Length_ok trivial))))))))))) (by kernel_rfl) (by kernel_rfl)
    (And.intro (fun h => by kernel_rfl) trivial)
    (fun h => by kernel_rfl)

noncomputable def law04_ZoneLimits_c1_con : Con := ⟨33, [.v (.int .i64), .v (.int .i64), .v (.int .i64), .v (.int .i64), .ip [(.int .i64)]], [(.int .i64), (.int .i64), (.int .i64), (.int .i64), (.int .i64)], ⟨[.v (.pair (.int .i64) (.pair (.int .i64) (.pair (.int .i64) (.pair (.int .i64) (.pair (.int .i64) (.pair (.int .i64) (.int .i64)))))))], []⟩, [(.pair (.int .i64) (.pair (.int .i64) (.pair (.int .i64) (.pair (.int .i64) (.pair (.int .i64) (.pair (.int .i64) (.int .i64)))))))], fun h => Pw.law04_ZoneLimits_c1 h.1 h.2.1 h.2.2.1 h.2.2.2.1 h.2.2.2.2⟩

noncomputable def law04_ZoneLimits_c1_d : FnD where
  N := 17
  np := 5
  cs := []
  ds := []
  modes := []
  keep := []
  keepX := []
  ro := [false]
  dw := []

set_option maxRecDepth 100000 in
theorem law04_ZoneLimits_c1_ok : Con.OK Try.prog law04_ZoneLimits_c1_con :=
  con_of tabOk mixedOk law04_ZoneLimits_c1_d law04_ZoneLimits_c1_con Try.f33 (Try.f33.body.getD .skip) Try.func33 (by kernel_rfl) (by kernel_rfl) (Nat.le_of_ble_eq_true (by kernel_rfl)) (by kernel_rfl) trivial (by kernel_rfl) (by kernel_rfl)
    trivial
    (fun h => by kernel_rfl)

noncomputable def zone_Check_con : Con := ⟨35, [.v (.pair .str (.pair (.int .i64) (.list (.pair (.int .i64) (.pair (.int .i64) (.pair (.int .i64) (.pair (.int .i64) (.pair (.int .i64) (.pair (.int .i64) (.int .i64))))))))))], [(.pair .str (.pair (.int .i64) (.list (.pair (.int .i64) (.pair (.int .i64) (.pair (.int .i64) (.pair (.int .i64) (.pair (.int .i64) (.pair (.int .i64) (.int .i64))))))))))], ⟨[.v (.int .i64)], []⟩, [(.int .i64)], fun h => Pw.zone_Check h⟩

noncomputable def zone_Check_d : FnD where
  N := 11
  np := 1
  cs := [zone_Transitions_con]
  ds := []
  modes := [(34, [false])]
  keep := []
  keepX := []
  ro := [false]
  dw := []

set_option maxRecDepth 100000 in
theorem zone_Check_ok : Con.OK Try.prog zone_Check_con :=
  con_of tabOk mixedOk zone_Check_d zone_Check_con Try.f35 (Try.f35.body.getD .skip) Try.func35 (by kernel_rfl) (by kernel_rfl) (Nat.le_of_ble_eq_true (by kernel_rfl)) (by kernel_rfl) (And.intro zone_Transitions_ok trivial) (by kernel_rfl) (by kernel_rfl)
    trivial
    (fun h => by kernel_rfl)
end Go.Proofs.Pk
