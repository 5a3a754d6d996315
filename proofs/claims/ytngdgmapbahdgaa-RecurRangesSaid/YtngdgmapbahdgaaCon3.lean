/- Contracts: each given function is its plain function, printed by a program. -/
import Derived.Test.YtngdgmapbahdgaaCon2
open Go Go.Lft
set_option linter.unusedVariables false
namespace Go.Proofs.Pk

noncomputable def law04_ZoneLimits_con : Con := ⟨6, [.v (.int .u8)], [(.int .u8)], ⟨[.v .bool], []⟩, [.bool], fun h => Pw.law04_ZoneLimits h⟩

noncomputable def law04_ZoneLimits_d : FnD where
  N := 117
  np := 1
  cs := [zone_Transitions_con, law04_sane_con, law04_ZoneLimits_c1_con, zone_Check_con]
  ds := [⟨0, [.s (.one (.bp 320 0)), .s (.one (.bp 384 0)), .s (.one (.bp 448 0)), .s (.one (.bp 512 0)), .s (.one (.bp 576 0)), .s (.one (.d (.int .i64))), .b (.cell [.d .str, .d (.int .i64), .ol 1000000] false), .b (.cell [.d .str, .d (.int .i64), .ol 1000001] false), .b (.cell [.d .str, .d (.int .i64), .ol 1000002] false), .b (.cell [.d .str, .d (.int .i64), .ol 1000003] false), .b (.cell [.d .str, .d (.int .i64), .ol 1000004] false), .b (.lst 54 (.pair (.int .i64) (.pair (.int .i64) (.pair (.int .i64) (.pair (.int .i64) (.pair (.int .i64) (.pair (.int .i64) (.int .i64))))))) false), .b (.lst 54 (.pair (.int .i64) (.pair (.int .i64) (.pair (.int .i64) (.pair (.int .i64) (.pair (.int .i64) (.pair (.int .i64) (.int .i64))))))) false), .b (.lst 54 (.pair (.int .i64) (.pair (.int .i64) (.pair (.int .i64) (.pair (.int .i64) (.pair (.int .i64) (.pair (.int .i64) (.int .i64))))))) false), .b (.lst 54 (.pair (.int .i64) (.pair (.int .i64) (.pair (.int .i64) (.pair (.int .i64) (.pair (.int .i64) (.pair (.int .i64) (.int .i64))))))) false), .b (.lst 54 (.pair (.int .i64) (.pair (.int .i64) (.pair (.int .i64) (.pair (.int .i64) (.pair (.int .i64) (.pair (.int .i64) (.int .i64))))))) false)], [(.int .i64), .str, (.int .i64), .str, (.int .i64), .str, (.int .i64), .str, (.int .i64), .str, (.int .i64), (.list (.pair (.int .i64) (.pair (.int .i64) (.pair (.int .i64) (.pair (.int .i64) (.pair (.int .i64) (.pair (.int .i64) (.int .i64)))))))), (.list (.pair (.int .i64) (.pair (.int .i64) (.pair (.int .i64) (.pair (.int .i64) (.pair (.int .i64) (.pair (.int .i64) (.int .i64)))))))), (.list (.pair (.int .i64) (.pair (.int .i64) (.pair (.int .i64) (.pair (.int .i64) (.pair (.int .i64) (.pair (.int .i64) (.int .i64)))))))), (.list (.pair (.int .i64) (.pair (.int .i64) (.pair (.int .i64) (.pair (.int .i64) (.pair (.int .i64) (.pair (.int .i64) (.int .i64)))))))), (.list (.pair (.int .i64) (.pair (.int .i64) (.pair (.int .i64) (.pair (.int .i64) (.pair (.int .i64) (.pair (.int .i64) (.int .i64))))))))], [⟨.exit 0, [.s (.one (.bp 320 0)), .s (.one (.bp 384 0)), .s (.one (.bp 448 0)), .s (.one (.bp 512 0)), .s (.one (.bp 576 0)), .b (.cell [.d .str, .d (.int .i64), .ol 1500100] false), .b (.cell [.d .str, .d (.int .i64), .ol 1500101] false), .b (.cell [.d .str, .d (.int .i64), .ol 1500102] false), .b (.cell [.d .str, .d (.int .i64), .ol 1500103] false), .b (.cell [.d .str, .d (.int .i64), .ol 1500104] false), .b (.lst 54 (.pair (.int .i64) (.pair (.int .i64) (.pair (.int .i64) (.pair (.int .i64) (.pair (.int .i64) (.pair (.int .i64) (.int .i64))))))) false), .b (.lst 54 (.pair (.int .i64) (.pair (.int .i64) (.pair (.int .i64) (.pair (.int .i64) (.pair (.int .i64) (.pair (.int .i64) (.int .i64))))))) false), .b (.lst 54 (.pair (.int .i64) (.pair (.int .i64) (.pair (.int .i64) (.pair (.int .i64) (.pair (.int .i64) (.pair (.int .i64) (.int .i64))))))) false), .b (.lst 54 (.pair (.int .i64) (.pair (.int .i64) (.pair (.int .i64) (.pair (.int .i64) (.pair (.int .i64) (.pair (.int .i64) (.int .i64))))))) false), .b (.lst 54 (.pair (.int .i64) (.pair (.int .i64) (.pair (.int .i64) (.pair (.int .i64) (.pair (.int .i64) (.pair (.int .i64) (.int .i64))))))) false)], [.str, (.int .i64), .str, (.int .i64), .str, (.int .i64), .str, (.int .i64), .str, (.int .i64), (.list (.pair (.int .i64) (.pair (.int .i64) (.pair (.int .i64) (.pair (.int .i64) (.pair (.int .i64) (.pair (.int .i64) (.int .i64)))))))), (.list (.pair (.int .i64) (.pair (.int .i64) (.pair (.int .i64) (.pair (.int .i64) (.pair (.int .i64) (.pair (.int .i64) (.int .i64)))))))), (.list (.pair (.int .i64) (.pair (.int .i64) (.pair (.int .i64) (.pair (.int .i64) (.pair (.int .i64) (.pair (.int .i64) (.int .i64)))))))), (.list (.pair (.int .i64) (.pair (.int .i64) (.pair (.int .i64) (.pair (.int .i64) (.pair (.int .i64) (.pair (.int .i64) (.int .i64)))))))), (.list (.pair (.int .i64) (.pair (.int .i64) (.pair (.int .i64) (.pair (.int .i64) (.pair (.int .i64) (.pair (.int .i64) (.int .i64))))))))]⟩], fun h => Pw.law04_ZoneLimits_l0_step h.1 h.2.1 h.2.2.1 h.2.2.2.1 h.2.2.2.2.1 h.2.2.2.2.2.1 h.2.2.2.2.2.2.1 h.2.2.2.2.2.2.2.1 h.2.2.2.2.2.2.2.2.1 h.2.2.2.2.2.2.2.2.2.1 h.2.2.2.2.2.2.2.2.2.2.1 h.2.2.2.2.2.2.2.2.2.2.2.1 h.2.2.2.2.2.2.2.2.2.2.2.2.1 h.2.2.2.2.2.2.2.2.2.2.2.2.2.1 h.2.2.2.2.2.2.2.2.2.2.2.2.2.2.1 h.2.2.2.2.2.2.2.2.2.2.2.2.2.2.2⟩]
  modes := [(19, []), (33, [false, false, false, false]), (34, [false]), (35, [false])]
  keep := [(0, ⟨[5, 6, 7, 8, 9, 10], [320, 384, 448, 512, 576], [⟨1000000, 54, (.pair (.int .i64) (.pair (.int .i64) (.pair (.int .i64) (.pair (.int .i64) (.pair (.int .i64) (.pair (.int .i64) (.int .i64))))))), [.cell 320 2], false⟩, ⟨1000001, 54, (.pair (.int .i64) (.pair (.int .i64) (.pair (.int .i64) (.pair (.int .i64) (.pair (.int .i64) (.pair (.int .i64) (.int .i64))))))), [.cell 384 2], false⟩, ⟨1000002, 54, (.pair (.int .i64) (.pair (.int .i64) (.pair (.int .i64) (.pair (.int .i64) (.pair (.int .i64) (.pair (.int .i64) (.int .i64))))))), [.cell 448 2], false⟩, ⟨1000003, 54, (.pair (.int .i64) (.pair (.int .i64) (.pair (.int .i64) (.pair (.int .i64) (.pair (.int .i64) (.pair (.int .i64) (.int .i64))))))), [.cell 512 2], false⟩, ⟨1000004, 54, (.pair (.int .i64) (.pair (.int .i64) (.pair (.int .i64) (.pair (.int .i64) (.pair (.int .i64) (.pair (.int .i64) (.int .i64))))))), [.cell 576 2], false⟩], []⟩)]
  keepX := [(0, .exit 0, ⟨[5, 6, 7, 8, 9], [320, 384, 448, 512, 576], [⟨1500100, 54, (.pair (.int .i64) (.pair (.int .i64) (.pair (.int .i64) (.pair (.int .i64) (.pair (.int .i64) (.pair (.int .i64) (.int .i64))))))), [.cell 320 2], false⟩, ⟨1500101, 54, (.pair (.int .i64) (.pair (.int .i64) (.pair (.int .i64) (.pair (.int .i64) (.pair (.int .i64) (.pair (.int .i64) (.int .i64))))))), [.cell 384 2], false⟩, ⟨1500102, 54, (.pair (.int .i64) (.pair (.int .i64) (.pair (.int .i64) (.pair (.int .i64) (.pair (.int .i64) (.pair (.int .i64) (.int .i64))))))), [.cell 448 2], false⟩, ⟨1500103, 54, (.pair (.int .i64) (.pair (.int .i64) (.pair (.int .i64) (.pair (.int .i64) (.pair (.int .i64) (.pair (.int .i64) (.int .i64))))))), [.cell 512 2], false⟩, ⟨1500104, 54, (.pair (.int .i64) (.pair (.int .i64) (.pair (.int .i64) (.pair (.int .i64) (.pair (.int .i64) (.pair (.int .i64) (.int .i64))))))), [.cell 576 2], false⟩], []⟩)]
  ro := [false]
  dw := [(13, [[], [], [4096], [], [], [], [], [4416], [4096, 4480], [], [704]])]

set_option maxRecDepth 100000 in
theorem law04_ZoneLimits_ok : Con.OK Try.prog law04_ZoneLimits_con :=
  con_of tabOk mixedOk law04_ZoneLimits_d law04_ZoneLimits_con Try.f6 (Try.f6.body.getD .skip) Try.func6 (by kernel_rfl) (by kernel_rfl) (Nat.le_of_ble_eq_true (by kernel_rfl)) (by kernel_rfl) (And.intro zone_Transitions_ok (And.intro law04_sane_ok (And.intro law04_ZoneLimits_c1_ok (And.intro zone_Check_ok trivial)))) (by kernel_rfl) (by kernel_rfl)
    (And.intro (fun h => by kernel_rfl) trivial)
    (fun h => by kernel_rfl)

noncomputable def zone_OffsetAt_con : Con := ⟨36, [.v (.pair .str (.pair (.int .i64) (.list (.pair (.int .i64) (.pair (.int .i64) (.pair (.int .i64) (.pair (.int .i64) (.pair (.int .i64) (.pair (.int .i64) (.int .i64)))))))))), .v (.int .i64)], [(.pair .str (.pair (.int .i64) (.list (.pair (.int .i64) (.pair (.int .i64) (.pair (.int .i64) (.pair (.int .i64) (.pair (.int .i64) (.pair (.int .i64) (.int .i64)))))))))), (.int .i64)], ⟨[.v (.int .i64), .v (.int .i64)], []⟩, [(.int .i64), (.int .i64)], fun h => Pw.zone_OffsetAt h.1 h.2⟩

noncomputable def zone_OffsetAt_d : FnD where
  N := 20
  np := 2
  cs := [zone_open_con, zone_Table_Offset_con]
  ds := []
  modes := [(71, [false, false]), (81, [false, false])]
  keep := []
  keepX := []
  ro := [false, false]
  dw := []

set_option maxRecDepth 100000 in
theorem zone_OffsetAt_ok : Con.OK Try.prog zone_OffsetAt_con :=
  con_of tabOk mixedOk zone_OffsetAt_d zone_OffsetAt_con Try.f36 (Try.f36.body.getD .skip) Try.func36 (by kernel_rfl) (by kernel_rfl) (Nat.le_of_ble_eq_true (by kernel_rfl)) (by kernel_rfl) (And.intro zone_open_ok (And.intro zone_Table_Offset_ok trivial)) (by kernel_rfl) (by kernel_rfl)
    trivial
    (fun h => by kernel_rfl)

noncomputable def r01_Leap_con : Con := ⟨116, [.v (.int .i64)], [(.int .i64)], ⟨[.v .bool], []⟩, [.bool], fun h => Pw.r01_Leap h⟩

noncomputable def r01_Leap_d : FnD where
  N := 16
  np := 1
  cs := []
  ds := []
  modes := []
  keep := []
  keepX := []
  ro := [false]
  dw := []

set_option maxRecDepth 100000 in
theorem r01_Leap_ok : Con.OK Try.prog r01_Leap_con :=
  con_of tabOk mixedOk r01_Leap_d r01_Leap_con Try.f116 (Try.f116.body.getD .skip) Try.func116 (by kernel_rfl) (by kernel_rfl) (Nat.le_of_ble_eq_true (by kernel_rfl)) (by kernel_rfl) trivial (by kernel_rfl) (by kernel_rfl)
    trivial
    (fun h => by kernel_rfl)

noncomputable def r01_Days_con : Con := ⟨84, [.v (.int .i64), .v (.int .i64)], [(.int .i64), (.int .i64)], ⟨[.v (.int .i64)], []⟩, [(.int .i64)], fun h => Pw.r01_Days h.1 h.2⟩

noncomputable def r01_Days_d : FnD where
  N := 23
  np := 2
  cs := [r01_Leap_con]
  ds := []
  modes := [(116, [false])]
  keep := []
  keepX := []
  ro := [false]
  dw := []

set_option maxRecDepth 100000 in
theorem r01_Days_ok : Con.OK Try.prog r01_Days_con :=
  con_of tabOk mixedOk r01_Days_d r01_Days_con Try.f84 (Try.f84.body.getD .skip) Try.func84 (by kernel_rfl) (by kernel_rfl) (Nat.le_of_ble_eq_true (by kernel_rfl)) (by kernel_rfl) (And.intro r01_Leap_ok trivial) (by kernel_rfl) (by kernel_rfl)
    trivial
    (fun h => by kernel_rfl)

noncomputable def r01_Valid_con : Con := ⟨114, [.v (.pair (.int .i64) (.pair (.int .i64) (.int .i64)))], [(.pair (.int .i64) (.pair (.int .i64) (.int .i64)))], ⟨[.v .bool], []⟩, [.bool], fun h => Pw.r01_Valid h⟩

noncomputable def r01_Valid_d : FnD where
  N := 36
  np := 1
  cs := [r01_Days_con]
  ds := []
  modes := [(84, [false, false])]
  keep := []
  keepX := []
  ro := [false]
  dw := []

set_option maxRecDepth 100000 in
theorem r01_Valid_ok : Con.OK Try.prog r01_Valid_con :=
  con_of tabOk mixedOk r01_Valid_d r01_Valid_con Try.f114 (Try.f114.body.getD .skip) Try.func114 (by kernel_rfl) (by kernel_rfl) (Nat.le_of_ble_eq_true (by kernel_rfl)) (by kernel_rfl) (And.intro r01_Days_ok trivial) (by kernel_rfl) (by kernel_rfl)
    trivial
    (fun h => by kernel_rfl)

noncomputable def r01_year_con : Con := ⟨115, [.v (.int .i64)], [(.int .i64)], ⟨[.v (.int .i64)], []⟩, [(.int .i64)], fun h => Pw.r01_year h⟩

noncomputable def r01_year_d : FnD where
  N := 18
  np := 1
  cs := []
  ds := []
  modes := []
  keep := []
  keepX := []
  ro := [false]
  dw := []

set_option maxRecDepth 100000 in
theorem r01_year_ok : Con.OK Try.prog r01_year_con :=
  con_of tabOk mixedOk r01_year_d r01_year_con Try.f115 (Try.f115.body.getD .skip) Try.func115 (by kernel_rfl) (by kernel_rfl) (Nat.le_of_ble_eq_true (by kernel_rfl)) (by kernel_rfl) trivial (by kernel_rfl) (by kernel_rfl)
    trivial
    (fun h => by kernel_rfl)

noncomputable def r01_Day_con : Con := ⟨82, [.v (.pair (.int .i64) (.pair (.int .i64) (.int .i64)))], [(.pair (.int .i64) (.pair (.int .i64) (.int .i64)))], ⟨[.v (.int .i64), .v (.int .i64)], []⟩, [(.int .i64), (.int .i64)], fun h => Pw.r01_Day h⟩

noncomputable def r01_Day_d : FnD where
  N := 29
  np := 1
  cs := [r01_Days_con, r01_Valid_con, r01_year_con]
  ds := [⟨0, [.s (.one (.bp 64 0)), .s (.one (.d (.int .i64))), .s (.one (.d (.int .i64))), .b (.cell [.d (.int .i64), .d (.int .i64), .d (.int .i64)] false)], [(.int .i64), (.int .i64), (.int .i64), (.int .i64), (.int .i64)], [⟨.exit 0, [.s (.one (.bp 64 0)), .s (.one (.d (.int .i64))), .b (.cell [.d (.int .i64), .d (.int .i64), .d (.int .i64)] false)], [(.int .i64), (.int .i64), (.int .i64), (.int .i64)]⟩], fun h => Pw.r01_Day_l0_step h.1 h.2.1 h.2.2.1 h.2.2.2.1 h.2.2.2.2⟩]
  modes := [(84, [false, false]), (114, [false]), (115, [false])]
  keep := [(0, ⟨[1, 4, 5], [64], [], []⟩)]
  keepX := [(0, .exit 0, ⟨[1, 4], [64], [], []⟩)]
  ro := [false, false]
  dw := []

set_option maxRecDepth 100000 in
theorem r01_Day_ok : Con.OK Try.prog r01_Day_con :=
  con_of tabOk mixedOk r01_Day_d r01_Day_con Try.f82 (Try.f82.body.getD .skip) Try.func82 (by kernel_rfl) (by kernel_rfl) (Nat.le_of_ble_eq_true (by kernel_rfl)) (by kernel_rfl) (And.intro r01_Days_ok (And.intro r01_Valid_ok (And.intro r01_year_ok trivial))) (by kernel_rfl) (by kernel_rfl)
    (And.intro (fun h => by kernel_rfl) trivial)
    (fun h => by kernel_rfl)

noncomputable def r01_Weekday_con : Con := ⟨83, [.v (.int .i64)], [(.int .i64)], ⟨[.v (.int .i64)], []⟩, [(.int .i64)], fun h => Pw.r01_Weekday h⟩

noncomputable def r01_Weekday_d : FnD where
  N := 7
  np := 1
  cs := []
  ds := []
  modes := []
  keep := []
  keepX := []
  ro := [false]
  dw := []

set_option maxRecDepth 100000 in
theorem r01_Weekday_ok : Con.OK Try.prog r01_Weekday_con :=
  con_of tabOk mixedOk r01_Weekday_d r01_Weekday_con Try.f83 (Try.f83.body.getD .skip) Try.func83 (by kernel_rfl) (by kernel_rfl) (Nat.le_of_ble_eq_true (by kernel_rfl)) (by kernel_rfl) trivial (by kernel_rfl) (by kernel_rfl)
    trivial
    (fun h => by kernel_rfl)

noncomputable def r01_Nth_con : Con := ⟨37, [.v (.int .i64), .v (.int .i64), .v (.int .i64), .v (.int .i64)], [(.int .i64), (.int .i64), (.int .i64), (.int .i64)], ⟨[.v (.int .i64), .v (.int .i64)], []⟩, [(.int .i64), (.int .i64)], fun h => Pw.r01_Nth h.1 h.2.1 h.2.2.1 h.2.2.2⟩

noncomputable def r01_Nth_d : FnD where
  N := 63
  np := 4
  cs := [r01_Days_con, r01_Day_con, r01_Weekday_con]
  ds := [⟨0, [.s (.one (.d (.int .i64))), .s (.one (.d (.int .i64))), .s (.one (.d (.int .i64))), .s (.one (.d (.int .i64))), .s (.one (.d (.int .i64))), .s (.one (.d (.int .i64)))], [(.int .i64), (.int .i64), (.int .i64), (.int .i64), (.int .i64), (.int .i64)], [⟨.exit 0, [.s (.one (.d (.int .i64))), .s (.one (.d (.int .i64))), .s (.one (.d (.int .i64))), .s (.one (.d (.int .i64))), .s (.one (.d (.int .i64)))], [(.int .i64), (.int .i64), (.int .i64), (.int .i64), (.int .i64)]⟩], fun h => Pw.r01_Nth_l0_step h.1 h.2.1 h.2.2.1 h.2.2.2.1 h.2.2.2.2.1 h.2.2.2.2.2⟩,
    ⟨2, [.s (.one (.d (.int .i64))), .s (.one (.d (.int .i64))), .s (.one (.d (.int .i64))), .s (.one (.d (.int .i64)))], [(.int .i64), (.int .i64), (.int .i64), (.int .i64)], [⟨.exit 2, [.s (.one (.d (.int .i64)))], [(.int .i64)]⟩], fun h => Pw.r01_Nth_l2_step h.1 h.2.1 h.2.2.1 h.2.2.2⟩]
  modes := [(82, [false]), (83, [false]), (84, [false, false])]
  keep := [(0, ⟨[0, 1, 2, 3, 10, 12], [], [], []⟩),
    (2, ⟨[0, 1, 10, 12], [], [], []⟩)]
  keepX := [(0, .exit 0, ⟨[0, 1, 2, 10, 12], [], [], []⟩),
    (2, .exit 2, ⟨[12], [], [], []⟩)]
  ro := [false, false]
  dw := []

set_option maxRecDepth 100000 in
theorem r01_Nth_ok : Con.OK Try.prog r01_Nth_con :=
  con_of tabOk mixedOk r01_Nth_d r01_Nth_con Try.f37 (Try.f37.body.getD .skip) Try.func37 (by kernel_rfl) (by kernel_rfl) (Nat.le_of_ble_eq_true (by kernel_rfl)) (by kernel_rfl) (And.intro r01_Days_ok (And.intro r01_Day_ok (And.intro r01_Weekday_ok trivial))) (by kernel_rfl) (by kernel_rfl)
    (And.intro (fun h => by kernel_rfl) (And.intro (fun h => by kernel_rfl) trivial))
    (fun h => by kernel_rfl)

noncomputable def law04_ZoneRules_con : Con := ⟨7, [.v (.list (.int .i64)), .v (.int .i64)], [(.list (.int .i64)), (.int .i64)], ⟨[.v .bool], []⟩, [.bool], fun h => Pw.law04_ZoneRules h.1 h.2⟩

noncomputable def law04_ZoneRules_d : FnD where
  N := 133
  np := 2
  cs := [made_Light_con, zone_Transitions_con, law04_sane_con, made_Roll_con, made_Dice_Zone_con, zone_OffsetAt_con, r01_Nth_con]
  ds := [⟨0, [.s (.one (.bp 384 0)), .s (.one (.ol 1000000)), .s (.one (.d (.int .i64))), .s (.one (.d (.int .i64))), .b (.cell [.d .str, .d (.int .i64), .d (.list (.pair (.int .i64) (.pair (.int .i64) (.pair (.int .i64) (.pair (.int .i64) (.pair (.int .i64) (.pair (.int .i64) (.int .i64))))))))] false), .b (.lst 63 (.pair (.int .i64) (.int .i64)) false)], [(.int .i64), (.int .i64), .str, (.int .i64), (.list (.pair (.int .i64) (.pair (.int .i64) (.pair (.int .i64) (.pair (.int .i64) (.pair (.int .i64) (.pair (.int .i64) (.int .i64)))))))), (.list (.pair (.int .i64) (.int .i64)))], [⟨.ret, [.s (.one (.d .bool))], [.bool]⟩, ⟨.exit 0, [], []⟩], fun h => Pw.law04_ZoneRules_l0_step h.1 h.2.1 h.2.2.1 h.2.2.2.1 h.2.2.2.2.1 h.2.2.2.2.2⟩,
    ⟨2, [.s (.one (.bp 384 0)), .s (.one (.ol 1002000)), .s (.one (.d (.int .i64))), .s (.one (.d (.int .i64))), .s (.one (.d .bool)), .s (.one (.d (.int .i64))), .s (.one (.d (.int .i64))), .s (.one (.d (.list (.pair (.int .i64) (.pair (.int .i64) (.pair (.int .i64) (.pair (.int .i64) (.pair (.int .i64) (.pair (.int .i64) (.int .i64)))))))))), .s (.one (.d (.int .i64))), .s (.one (.d (.int .i64))), .b (.cell [.d .str, .d (.int .i64), .d (.list (.pair (.int .i64) (.pair (.int .i64) (.pair (.int .i64) (.pair (.int .i64) (.pair (.int .i64) (.pair (.int .i64) (.int .i64))))))))] false), .b (.lst 63 (.pair (.int .i64) (.int .i64)) false)], [(.int .i64), (.int .i64), .bool, (.int .i64), (.int .i64), (.list (.pair (.int .i64) (.pair (.int .i64) (.pair (.int .i64) (.pair (.int .i64) (.pair (.int .i64) (.pair (.int .i64) (.int .i64)))))))), (.int .i64), (.int .i64), .str, (.int .i64), (.list (.pair (.int .i64) (.pair (.int .i64) (.pair (.int .i64) (.pair (.int .i64) (.pair (.int .i64) (.pair (.int .i64) (.int .i64)))))))), (.list (.pair (.int .i64) (.int .i64)))], [⟨.exit 2, [.s (.one (.bp 384 0)), .s (.one (.ol 1502300)), .s (.one (.d (.int .i64))), .s (.one (.d .bool)), .s (.one (.d (.int .i64))), .s (.one (.d (.int .i64))), .b (.cell [.d .str, .d (.int .i64), .d (.list (.pair (.int .i64) (.pair (.int .i64) (.pair (.int .i64) (.pair (.int .i64) (.pair (.int .i64) (.pair (.int .i64) (.int .i64))))))))] false), .b (.lst 63 (.pair (.int .i64) (.int .i64)) false)], [(.int .i64), .bool, (.int .i64), (.int .i64), .str, (.int .i64), (.list (.pair (.int .i64) (.pair (.int .i64) (.pair (.int .i64) (.pair (.int .i64) (.pair (.int .i64) (.pair (.int .i64) (.int .i64)))))))), (.list (.pair (.int .i64) (.int .i64)))]⟩], fun h => Pw.law04_ZoneRules_l2_step h.1 h.2.1 h.2.2.1 h.2.2.2.1 h.2.2.2.2.1 h.2.2.2.2.2.1 h.2.2.2.2.2.2.1 h.2.2.2.2.2.2.2.1 h.2.2.2.2.2.2.2.2.1 h.2.2.2.2.2.2.2.2.2.1 h.2.2.2.2.2.2.2.2.2.2.1 h.2.2.2.2.2.2.2.2.2.2.2⟩,
    ⟨4, [.s (.one (.bp 384 0)), .s (.one (.ol 1004000)), .s (.one (.d (.int .i64))), .s (.one (.d (.int .i64))), .s (.one (.d .bool)), .s (.one (.bp 960 0)), .s (.one (.d (.int .i64))), .s (.one (.d (.int .i64))), .s (.one (.d (.int .i64))), .s (.one (.d (.list (.pair (.int .i64) (.pair (.int .i64) (.pair (.int .i64) (.pair (.int .i64) (.pair (.int .i64) (.pair (.int .i64) (.int .i64)))))))))), .s (.one (.d (.int .i64))), .s (.one (.d (.int .i64))), .b (.cell [.d .str, .d (.int .i64), .d (.list (.pair (.int .i64) (.pair (.int .i64) (.pair (.int .i64) (.pair (.int .i64) (.pair (.int .i64) (.pair (.int .i64) (.int .i64))))))))] false), .b (.cell [.d (.int .i64), .d (.int .i64), .d (.int .i64), .d (.int .i64), .d (.int .i64), .d (.int .i64), .d (.int .i64)] false), .b (.lst 63 (.pair (.int .i64) (.int .i64)) false)], [(.int .i64), (.int .i64), .bool, (.int .i64), (.int .i64), (.int .i64), (.list (.pair (.int .i64) (.pair (.int .i64) (.pair (.int .i64) (.pair (.int .i64) (.pair (.int .i64) (.pair (.int .i64) (.int .i64)))))))), (.int .i64), (.int .i64), .str, (.int .i64), (.list (.pair (.int .i64) (.pair (.int .i64) (.pair (.int .i64) (.pair (.int .i64) (.pair (.int .i64) (.pair (.int .i64) (.int .i64)))))))), (.int .i64), (.int .i64), (.int .i64), (.int .i64), (.int .i64), (.int .i64), (.int .i64), (.list (.pair (.int .i64) (.int .i64)))], [⟨.exit 4, [.s (.one (.bp 384 0)), .s (.one (.ol 1504500)), .s (.one (.d (.int .i64))), .s (.one (.d (.int .i64))), .s (.one (.d .bool)), .s (.one (.d (.int .i64))), .s (.one (.d (.int .i64))), .s (.one (.d (.list (.pair (.int .i64) (.pair (.int .i64) (.pair (.int .i64) (.pair (.int .i64) (.pair (.int .i64) (.pair (.int .i64) (.int .i64)))))))))), .s (.one (.d (.int .i64))), .s (.one (.d (.int .i64))), .b (.cell [.d .str, .d (.int .i64), .d (.list (.pair (.int .i64) (.pair (.int .i64) (.pair (.int .i64) (.pair (.int .i64) (.pair (.int .i64) (.pair (.int .i64) (.int .i64))))))))] false), .b (.lst 63 (.pair (.int .i64) (.int .i64)) false)], [(.int .i64), (.int .i64), .bool, (.int .i64), (.int .i64), (.list (.pair (.int .i64) (.pair (.int .i64) (.pair (.int .i64) (.pair (.int .i64) (.pair (.int .i64) (.pair (.int .i64) (.int .i64)))))))), (.int .i64), (.int .i64), .str, (.int .i64), (.list (.pair (.int .i64) (.pair (.int .i64) (.pair (.int .i64) (.pair (.int .i64) (.pair (.int .i64) (.pair (.int .i64) (.int .i64)))))))), (.list (.pair (.int .i64) (.int .i64)))]⟩], fun h => Pw.law04_ZoneRules_l4_step h.1 h.2.1 h.2.2.1 h.2.2.2.1 h.2.2.2.2.1 h.2.2.2.2.2.1 h.2.2.2.2.2.2.1 h.2.2.2.2.2.2.2.1 h.2.2.2.2.2.2.2.2.1 h.2.2.2.2.2.2.2.2.2.1 h.2.2.2.2.2.2.2.2.2.2.1 h.2.2.2.2.2.2.2.2.2.2.2.1 h.2.2.2.2.2.2.2.2.2.2.2.2.1 h.2.2.2.2.2.2.2.2.2.2.2.2.2.1 h.2.2.2.2.2.2.2.2.2.2.2.2.2.2.1 h.2.2.2.2.2.2.2.2.2.2.2.2.2.2.2.1 h.2.2.2.2.2.2.2.2.2.2.2.2.2.2.2.2.1 h.2.2.2.2.2.2.2.2.2.2.2.2.2.2.2.2.2.1 h.2.2.2.2.2.2.2.2.2.2.2.2.2.2.2.2.2.2.1 h.2.2.2.2.2.2.2.2.2.2.2.2.2.2.2.2.2.2.2⟩]
  modes := [(18, [false]), (19, []), (20, [false]), (21, [false, false]), (34, [false]), (36, [false, false]), (37, [false, false, false, false])]
  keep := [(0, ⟨[6, 7, 35, 36], [384], [⟨1000000, 63, (.pair (.int .i64) (.int .i64)), [.slot 7], false⟩], []⟩),
    (2, ⟨[6, 7, 9, 12, 13, 35, 36, 60, 61, 62], [384], [⟨1002000, 63, (.pair (.int .i64) (.int .i64)), [.slot 7], false⟩], []⟩),
    (4, ⟨[6, 7, 9, 12, 13, 15, 16, 35, 36, 60, 61, 62], [384, 960], [⟨1004000, 63, (.pair (.int .i64) (.int .i64)), [.slot 7], false⟩], []⟩)]
  keepX := [(0, .ret, ⟨[4], [], [], []⟩),
    (0, .exit 0, ⟨[], [], [], []⟩),
    (2, .exit 2, ⟨[6, 7, 9, 13, 35, 36], [384], [⟨1502300, 63, (.pair (.int .i64) (.int .i64)), [.slot 7], false⟩], []⟩),
    (4, .exit 4, ⟨[6, 7, 9, 12, 13, 35, 36, 60, 61, 62], [384], [⟨1504500, 63, (.pair (.int .i64) (.int .i64)), [.slot 7], false⟩], []⟩)]
  ro := [false]
  dw := []

set_option maxRecDepth 100000 in
theorem law04_ZoneRules_ok : Con.OK Try.prog law04_ZoneRules_con :=
  con_of tabOk mixedOk law04_ZoneRules_d law04_ZoneRules_con Try.f7 (Try.f7.body.getD .skip) Try.func7 (by kernel_rfl) (by kernel_rfl) (Nat.le_of_ble_eq_true (by kernel_rfl)) (by kernel_rfl) (And.intro made_Light_ok (And.intro zone_Transitions_ok (And.intro law04_sane_ok (And.intro made_Roll_ok (And.intro made_Dice_Zone_ok (And.intro zone_OffsetAt_ok (And.intro r01_Nth_ok trivial))))))) (by kernel_rfl) (by kernel_rfl)
    (And.intro (fun h => by kernel_rfl) (And.intro (fun h => by kernel_rfl) (And.intro (fun h => by kernel_rfl) trivial)))
    (fun h => by kernel_rfl)

noncomputable def zone_Table_Last_con : Con := ⟨86, [.v (.pair (.int .i64) (.list (.pair (.int .i64) (.int .i64))))], [(.pair (.int .i64) (.list (.pair (.int .i64) (.int .i64))))], ⟨[.v (.int .i64)], []⟩, [(.int .i64)], fun h => Pw.zone_Table_Last h⟩

noncomputable def zone_Table_Last_d : FnD where
  N := 16
  np := 1
  cs := []
  ds := []
  modes := []
  keep := []
  keepX := []
  ro := [false]
  dw := []

set_option maxRecDepth 100000 in
theorem zone_Table_Last_ok : Con.OK Try.prog zone_Table_Last_con :=
  con_of tabOk mixedOk zone_Table_Last_d zone_Table_Last_con Try.f86 (Try.f86.body.getD .skip) Try.func86 (by kernel_rfl) (by kernel_rfl) (Nat.le_of_ble_eq_true (by kernel_rfl)) (by kernel_rfl) trivial (by kernel_rfl) (by kernel_rfl)
    trivial
    (fun h => by kernel_rfl)

noncomputable def zone_Horizon_con : Con := ⟨38, [.v (.pair .str (.pair (.int .i64) (.list (.pair (.int .i64) (.pair (.int .i64) (.pair (.int .i64) (.pair (.int .i64) (.pair (.int .i64) (.pair (.int .i64) (.int .i64))))))))))], [(.pair .str (.pair (.int .i64) (.list (.pair (.int .i64) (.pair (.int .i64) (.pair (.int .i64) (.pair (.int .i64) (.pair (.int .i64) (.pair (.int .i64) (.int .i64))))))))))], ⟨[.v (.int .i64)], []⟩, [(.int .i64)], fun h => Pw.zone_Horizon h⟩

noncomputable def zone_Horizon_d : FnD where
  N := 14
  np := 1
  cs := [zone_Of_con, zone_Table_Last_con]
  ds := []
  modes := [(85, [false]), (86, [false])]
  keep := []
  keepX := []
  ro := [false]
  dw := []

set_option maxRecDepth 100000 in
theorem zone_Horizon_ok : Con.OK Try.prog zone_Horizon_con :=
  con_of tabOk mixedOk zone_Horizon_d zone_Horizon_con Try.f38 (Try.f38.body.getD .skip) Try.func38 (by kernel_rfl) (by kernel_rfl) (Nat.le_of_ble_eq_true (by kernel_rfl)) (by kernel_rfl) (And.intro zone_Of_ok (And.intro zone_Table_Last_ok trivial)) (by kernel_rfl) (by kernel_rfl)
    trivial
    (fun h => by kernel_rfl)

noncomputable def law04_ZoneLeaps_con : Con := ⟨8, [.v (.list (.int .i64)), .v (.int .i64), .v (.int .i64)], [(.list (.int .i64)), (.int .i64), (.int .i64)], ⟨[.v .bool], []⟩, [.bool], fun h => Pw.law04_ZoneLeaps h.1 h.2.1 h.2.2⟩

noncomputable def law04_ZoneLeaps_d : FnD where
  N := 193
  np := 3
  cs := [made_Light_con, zone_Transitions_con, zone_FromLocal_con, zone_First_con, law04_sane_con, made_Roll_con, made_Dice_Zone_con, made_Mod_con, zone_OffsetAt_con, zone_Horizon_con]
  ds := []
  modes := [(18, [false]), (19, []), (20, [false]), (21, [false, false]), (22, [false, false]), (24, [false, false]), (25, [false, false]), (34, [false]), (36, [false, false]), (38, [false])]
  keep := []
  keepX := []
  ro := [false]
  dw := []

set_option maxRecDepth 100000 in
theorem law04_ZoneLeaps_ok : Con.OK Try.prog law04_ZoneLeaps_con :=
  con_of tabOk mixedOk law04_ZoneLeaps_d law04_ZoneLeaps_con Try.f8 (Try.f8.body.getD .skip) Try.func8 (by kernel_rfl) (by kernel_rfl) (Nat.le_of_ble_eq_true (by kernel_rfl)) (by kernel_rfl) (And.intro made_Light_ok (And.intro zone_Transitions_ok (And.intro zone_FromLocal_ok (And.intro zone_First_ok (And.intro law04_sane_ok (And.intro made_Roll_ok (And.intro made_Dice_Zone_ok (And.intro made_Mod_ok (And.intro zone_OffsetAt_ok (And.intro zone_Horizon_ok trivial)))))))))) (by kernel_rfl) (by kernel_rfl)
    trivial
    (fun h => by kernel_rfl)

noncomputable def recur_in_con : Con := ⟨96, [.v (.int .i64), .v (.int .i64), .v (.int .i64)], [(.int .i64), (.int .i64), (.int .i64)], ⟨[.v .bool], []⟩, [.bool], fun h => Pw.recur_in h.1 h.2.1 h.2.2⟩

noncomputable def recur_in_d : FnD where
  N := 15
  np := 3
  cs := []
  ds := []
  modes := []
  keep := []
  keepX := []
  ro := [false]
  dw := []

set_option maxRecDepth 100000 in
theorem recur_in_ok : Con.OK Try.prog recur_in_con :=
  con_of tabOk mixedOk recur_in_d recur_in_con Try.f96 (Try.f96.body.getD .skip) Try.func96 (by kernel_rfl) (by kernel_rfl) (Nat.le_of_ble_eq_true (by kernel_rfl)) (by kernel_rfl) trivial (by kernel_rfl) (by kernel_rfl)
    trivial
    (fun h => by kernel_rfl)

noncomputable def recur_right_con : Con := ⟨117, [.v (.pair .str (.pair (.int .i64) (.pair (.pair (.int .i64) (.int .i64)) (.pair (.int .i64) (.pair (.int .i64) (.pair (.list (.int .i64)) (.pair (.list (.pair (.int .i64) (.int .i64))) (.pair (.int .i64) (.int .i64)))))))))], [(.pair .str (.pair (.int .i64) (.pair (.pair (.int .i64) (.int .i64)) (.pair (.int .i64) (.pair (.int .i64) (.pair (.list (.int .i64)) (.pair (.list (.pair (.int .i64) (.int .i64))) (.pair (.int .i64) (.int .i64)))))))))], ⟨[.v .bool], []⟩, [.bool], fun h => Pw.recur_right h⟩

noncomputable def recur_right_d : FnD where
  N := 29
  np := 1
  cs := [recur_in_con]
  ds := []
  modes := [(96, [false, false, false])]
  keep := []
  keepX := []
  ro := [false]
  dw := []

set_option maxRecDepth 100000 in
theorem recur_right_ok : Con.OK Try.prog recur_right_con :=
  con_of tabOk mixedOk recur_right_d recur_right_con Try.f117 (Try.f117.body.getD .skip) Try.func117 (by kernel_rfl) (by kernel_rfl) (Nat.le_of_ble_eq_true (by kernel_rfl)) (by kernel_rfl) (And.intro recur_in_ok trivial) (by kernel_rfl) (by kernel_rfl)
    trivial
    (fun h => by kernel_rfl)

noncomputable def recur_open_con : Con := ⟨94, [.v (.pair .str (.pair (.int .i64) (.list (.pair (.int .i64) (.pair (.int .i64) (.pair (.int .i64) (.pair (.int .i64) (.pair (.int .i64) (.pair (.int .i64) (.int .i64)))))))))), .v (.pair .str (.pair (.int .i64) (.pair (.pair (.int .i64) (.int .i64)) (.pair (.int .i64) (.pair (.int .i64) (.pair (.list (.int .i64)) (.pair (.list (.pair (.int .i64) (.int .i64))) (.pair (.int .i64) (.int .i64)))))))))], [(.pair .str (.pair (.int .i64) (.list (.pair (.int .i64) (.pair (.int .i64) (.pair (.int .i64) (.pair (.int .i64) (.pair (.int .i64) (.pair (.int .i64) (.int .i64)))))))))), (.pair .str (.pair (.int .i64) (.pair (.pair (.int .i64) (.int .i64)) (.pair (.int .i64) (.pair (.int .i64) (.pair (.list (.int .i64)) (.pair (.list (.pair (.int .i64) (.int .i64))) (.pair (.int .i64) (.int .i64)))))))))], ⟨[.v (.pair (.int .i64) (.list (.pair (.int .i64) (.int .i64)))), .v .bool], []⟩, [(.pair (.int .i64) (.list (.pair (.int .i64) (.int .i64)))), .bool], fun h => Pw.recur_open h.1 h.2⟩

noncomputable def recur_open_d : FnD where
  N := 20
  np := 2
  cs := [zone_Of_con, recur_right_con]
  ds := []
  modes := [(85, [false]), (117, [false])]
  keep := []
  keepX := []
  ro := [false, false]
  dw := [(2, [[], [], [], [], [], [], [], [256], []])]

set_option maxRecDepth 100000 in
theorem recur_open_ok : Con.OK Try.prog recur_open_con :=
  con_of tabOk mixedOk recur_open_d recur_open_con Try.f94 (Try.f94.body.getD .skip) Try.func94 (by kernel_rfl) (by kernel_rfl) (Nat.le_of_ble_eq_true (by kernel_rfl)) (by kernel_rfl) (And.intro zone_Of_ok (And.intro recur_right_ok trivial)) (by kernel_rfl) (by kernel_rfl)
    trivial
    (fun h => by kernel_rfl)

noncomputable def recur_step_con : Con := ⟨118, [.v (.pair .str (.pair (.int .i64) (.pair (.pair (.int .i64) (.int .i64)) (.pair (.int .i64) (.pair (.int .i64) (.pair (.list (.int .i64)) (.pair (.list (.pair (.int .i64) (.int .i64))) (.pair (.int .i64) (.int .i64)))))))))], [(.pair .str (.pair (.int .i64) (.pair (.pair (.int .i64) (.int .i64)) (.pair (.int .i64) (.pair (.int .i64) (.pair (.list (.int .i64)) (.pair (.list (.pair (.int .i64) (.int .i64))) (.pair (.int .i64) (.int .i64)))))))))], ⟨[.v (.int .i64)], []⟩, [(.int .i64)], fun h => Pw.recur_step h⟩

noncomputable def recur_step_d : FnD where
  N := 11
  np := 1
  cs := []
  ds := []
  modes := []
  keep := []
  keepX := []
  ro := [false]
  dw := []

set_option maxRecDepth 100000 in
theorem recur_step_ok : Con.OK Try.prog recur_step_con :=
  con_of tabOk mixedOk recur_step_d recur_step_con Try.f118 (Try.f118.body.getD .skip) Try.func118 (by kernel_rfl) (by kernel_rfl) (Nat.le_of_ble_eq_true (by kernel_rfl)) (by kernel_rfl) trivial (by kernel_rfl) (by kernel_rfl)
    trivial
    (fun h => by kernel_rfl)

noncomputable def recur_HandoverOf_con : Con := ⟨95, [.v (.pair (.int .i64) (.list (.pair (.int .i64) (.int .i64)))), .v (.pair .str (.pair (.int .i64) (.pair (.pair (.int .i64) (.int .i64)) (.pair (.int .i64) (.pair (.int .i64) (.pair (.list (.int .i64)) (.pair (.list (.pair (.int .i64) (.int .i64))) (.pair (.int .i64) (.int .i64))))))))), .v (.int .i64)], [(.pair (.int .i64) (.list (.pair (.int .i64) (.int .i64)))), (.pair .str (.pair (.int .i64) (.pair (.pair (.int .i64) (.int .i64)) (.pair (.int .i64) (.pair (.int .i64) (.pair (.list (.int .i64)) (.pair (.list (.pair (.int .i64) (.int .i64))) (.pair (.int .i64) (.int .i64))))))))), (.int .i64)], ⟨[.v (.int .i64), .v .bool], []⟩, [(.int .i64), .bool], fun h => Pw.recur_HandoverOf h.1 h.2.1 h.2.2⟩

noncomputable def recur_HandoverOf_d : FnD where
  N := 50
  np := 3
  cs := [zone_Table_First_con, recur_step_con]
  ds := []
  modes := [(75, [false, false]), (118, [false])]
  keep := []
  keepX := []
  ro := [false, false]
  dw := [(5, [[], [], [], [], [], [], [], [], [512]])]

set_option maxRecDepth 100000 in
theorem recur_HandoverOf_ok : Con.OK Try.prog recur_HandoverOf_con :=
  con_of tabOk mixedOk recur_HandoverOf_d recur_HandoverOf_con Try.f95 (Try.f95.body.getD .skip) Try.func95 (by kernel_rfl) (by kernel_rfl) (Nat.le_of_ble_eq_true (by kernel_rfl)) (by kernel_rfl) (And.intro zone_Table_First_ok (And.intro recur_step_ok trivial)) (by kernel_rfl) (by kernel_rfl)
    trivial
    (fun h => by kernel_rfl)

noncomputable def recur_ShiftOf_con : Con := ⟨97, [.v (.pair (.int .i64) (.list (.pair (.int .i64) (.int .i64)))), .v (.pair .str (.pair (.int .i64) (.pair (.pair (.int .i64) (.int .i64)) (.pair (.int .i64) (.pair (.int .i64) (.pair (.list (.int .i64)) (.pair (.list (.pair (.int .i64) (.int .i64))) (.pair (.int .i64) (.int .i64))))))))), .v (.int .i64)], [(.pair (.int .i64) (.list (.pair (.int .i64) (.int .i64)))), (.pair .str (.pair (.int .i64) (.pair (.pair (.int .i64) (.int .i64)) (.pair (.int .i64) (.pair (.int .i64) (.pair (.list (.int .i64)) (.pair (.list (.pair (.int .i64) (.int .i64))) (.pair (.int .i64) (.int .i64))))))))), (.int .i64)], ⟨[.v (.int .i64)], []⟩, [(.int .i64)], fun h => Pw.recur_ShiftOf h.1 h.2.1 h.2.2⟩

noncomputable def recur_ShiftOf_d : FnD where
  N := 84
  np := 3
  cs := [zone_Table_Local_con, recur_step_con, recur_HandoverOf_con]
  ds := [⟨0, [.s (.one (.d (.int .i64))), .s (.one (.bp 192 0)), .s (.one (.bp 256 0)), .s (.one (.d (.int .i64))), .b (.cell [.d (.int .i64), .d (.list (.pair (.int .i64) (.int .i64)))] false), .b (.cell [.d .str, .d (.int .i64), .d (.int .i64), .d (.int .i64), .d (.int .i64), .d (.int .i64), .d (.list (.int .i64)), .d (.list (.pair (.int .i64) (.int .i64))), .d (.int .i64), .d (.int .i64)] false)], [(.int .i64), (.int .i64), (.int .i64), (.list (.pair (.int .i64) (.int .i64))), .str, (.int .i64), (.int .i64), (.int .i64), (.int .i64), (.int .i64), (.list (.int .i64)), (.list (.pair (.int .i64) (.int .i64))), (.int .i64), (.int .i64)], [⟨.exit 0, [.s (.one (.d (.int .i64))), .s (.one (.bp 192 0)), .s (.one (.bp 256 0)), .s (.one (.d (.int .i64))), .b (.cell [.d (.int .i64), .d (.list (.pair (.int .i64) (.int .i64)))] false), .b (.cell [.d .str, .d (.int .i64), .d (.int .i64), .d (.int .i64), .d (.int .i64), .d (.int .i64), .d (.list (.int .i64)), .d (.list (.pair (.int .i64) (.int .i64))), .d (.int .i64), .d (.int .i64)] false)], [(.int .i64), (.int .i64), (.int .i64), (.list (.pair (.int .i64) (.int .i64))), .str, (.int .i64), (.int .i64), (.int .i64), (.int .i64), (.int .i64), (.list (.int .i64)), (.list (.pair (.int .i64) (.int .i64))), (.int .i64), (.int .i64)]⟩], fun h => Pw.recur_ShiftOf_l0_step h.1 h.2.1 h.2.2.1 h.2.2.2.1 h.2.2.2.2.1 h.2.2.2.2.2.1 h.2.2.2.2.2.2.1 h.2.2.2.2.2.2.2.1 h.2.2.2.2.2.2.2.2.1 h.2.2.2.2.2.2.2.2.2.1 h.2.2.2.2.2.2.2.2.2.2.1 h.2.2.2.2.2.2.2.2.2.2.2.1 h.2.2.2.2.2.2.2.2.2.2.2.2.1 h.2.2.2.2.2.2.2.2.2.2.2.2.2⟩,
    ⟨2, [.s (.one (.d (.int .i64))), .s (.one (.bp 192 0)), .s (.one (.bp 256 0)), .s (.one (.d (.int .i64))), .b (.cell [.d (.int .i64), .d (.list (.pair (.int .i64) (.int .i64)))] false), .b (.cell [.d .str, .d (.int .i64), .d (.int .i64), .d (.int .i64), .d (.int .i64), .d (.int .i64), .d (.list (.int .i64)), .d (.list (.pair (.int .i64) (.int .i64))), .d (.int .i64), .d (.int .i64)] false)], [(.int .i64), (.int .i64), (.int .i64), (.list (.pair (.int .i64) (.int .i64))), .str, (.int .i64), (.int .i64), (.int .i64), (.int .i64), (.int .i64), (.list (.int .i64)), (.list (.pair (.int .i64) (.int .i64))), (.int .i64), (.int .i64)], [⟨.ret, [.s (.one (.d (.int .i64)))], [(.int .i64)]⟩], fun h => Pw.recur_ShiftOf_l2_step h.1 h.2.1 h.2.2.1 h.2.2.2.1 h.2.2.2.2.1 h.2.2.2.2.2.1 h.2.2.2.2.2.2.1 h.2.2.2.2.2.2.2.1 h.2.2.2.2.2.2.2.2.1 h.2.2.2.2.2.2.2.2.2.1 h.2.2.2.2.2.2.2.2.2.2.1 h.2.2.2.2.2.2.2.2.2.2.2.1 h.2.2.2.2.2.2.2.2.2.2.2.2.1 h.2.2.2.2.2.2.2.2.2.2.2.2.2⟩]
  modes := [(72, [false, false]), (95, [false, false, false]), (118, [false])]
  keep := [(0, ⟨[2, 3, 4, 9], [192, 256], [], []⟩),
    (2, ⟨[2, 3, 4, 9], [192, 256], [], []⟩)]
  keepX := [(0, .exit 0, ⟨[2, 3, 4, 9], [192, 256], [], []⟩),
    (2, .ret, ⟨[6], [], [], []⟩)]
  ro := [false]
  dw := []

set_option maxRecDepth 100000 in
theorem recur_ShiftOf_ok : Con.OK Try.prog recur_ShiftOf_con :=
  con_of tabOk mixedOk recur_ShiftOf_d recur_ShiftOf_con Try.f97 (Try.f97.body.getD .skip) Try.func97 (by kernel_rfl) (by kernel_rfl) (Nat.le_of_ble_eq_true (by kernel_rfl)) (by kernel_rfl) (And.intro zone_Table_Local_ok (And.intro recur_step_ok (And.intro recur_HandoverOf_ok trivial))) (by kernel_rfl) (by kernel_rfl)
    (And.intro (fun h => by kernel_rfl) (And.intro (fun h => by kernel_rfl) trivial))
    (fun h => by kernel_rfl)

noncomputable def recur_HandoversOf_con : Con := ⟨98, [.v (.pair (.int .i64) (.list (.pair (.int .i64) (.int .i64)))), .v (.pair .str (.pair (.int .i64) (.pair (.pair (.int .i64) (.int .i64)) (.pair (.int .i64) (.pair (.int .i64) (.pair (.list (.int .i64)) (.pair (.list (.pair (.int .i64) (.int .i64))) (.pair (.int .i64) (.int .i64))))))))), .v (.int .i64), .v (.int .i64)], [(.pair (.int .i64) (.list (.pair (.int .i64) (.int .i64)))), (.pair .str (.pair (.int .i64) (.pair (.pair (.int .i64) (.int .i64)) (.pair (.int .i64) (.pair (.int .i64) (.pair (.list (.int .i64)) (.pair (.list (.pair (.int .i64) (.int .i64))) (.pair (.int .i64) (.int .i64))))))))), (.int .i64), (.int .i64)], ⟨[.own 3 (.list (.int .i64))], []⟩, [(.list (.int .i64))], fun h => Pw.recur_HandoversOf h.1 h.2.1 h.2.2.1 h.2.2.2⟩

noncomputable def recur_HandoversOf_d : FnD where
  N := 42
  np := 4
  cs := [recur_HandoverOf_con, recur_ShiftOf_con]
  ds := [⟨0, [.s (.one (.d (.int .i64))), .s (.one (.d (.int .i64))), .s (.one (.bp 256 0)), .s (.one (.bp 320 0)), .s (.one (.ol 1000000)), .s (.one (.d (.int .i64))), .b (.cell [.d (.int .i64), .d (.list (.pair (.int .i64) (.int .i64)))] false), .b (.cell [.d .str, .d (.int .i64), .d (.int .i64), .d (.int .i64), .d (.int .i64), .d (.int .i64), .d (.list (.int .i64)), .d (.list (.pair (.int .i64) (.int .i64))), .d (.int .i64), .d (.int .i64)] false), .b (.lst 3 (.int .i64) false)], [(.int .i64), (.int .i64), (.int .i64), (.int .i64), (.list (.pair (.int .i64) (.int .i64))), .str, (.int .i64), (.int .i64), (.int .i64), (.int .i64), (.int .i64), (.list (.int .i64)), (.list (.pair (.int .i64) (.int .i64))), (.int .i64), (.int .i64), (.list (.int .i64))], [⟨.ret, [.s (.one (.ol 1500000)), .b (.lst 3 (.int .i64) false)], [(.list (.int .i64))]⟩], fun h => Pw.recur_HandoversOf_l0_step h.1 h.2.1 h.2.2.1 h.2.2.2.1 h.2.2.2.2.1 h.2.2.2.2.2.1 h.2.2.2.2.2.2.1 h.2.2.2.2.2.2.2.1 h.2.2.2.2.2.2.2.2.1 h.2.2.2.2.2.2.2.2.2.1 h.2.2.2.2.2.2.2.2.2.2.1 h.2.2.2.2.2.2.2.2.2.2.2.1 h.2.2.2.2.2.2.2.2.2.2.2.2.1 h.2.2.2.2.2.2.2.2.2.2.2.2.2.1 h.2.2.2.2.2.2.2.2.2.2.2.2.2.2.1 h.2.2.2.2.2.2.2.2.2.2.2.2.2.2.2⟩]
  modes := [(95, [false, false, false]), (97, [false, false, false])]
  keep := [(0, ⟨[2, 3, 4, 5, 9, 10], [256, 320], [⟨1000000, 3, (.int .i64), [.slot 9], false⟩], []⟩)]
  keepX := [(0, .ret, ⟨[8], [], [⟨1500000, 3, (.int .i64), [.slot 8], false⟩], []⟩)]
  ro := [true]
  dw := []

set_option maxRecDepth 100000 in
theorem recur_HandoversOf_ok : Con.OK Try.prog recur_HandoversOf_con :=
  con_of tabOk mixedOk recur_HandoversOf_d recur_HandoversOf_con Try.f98 (Try.f98.body.getD .skip) Try.func98 (by kernel_rfl) (by kernel_rfl) (Nat.le_of_ble_eq_true (by kernel_rfl)) (by kernel_rfl) (And.intro recur_HandoverOf_ok (And.intro recur_ShiftOf_ok trivial)) (by kernel_rfl) (by kernel_rfl)
    (And.intro (fun h => by kernel_rfl) trivial)
    (fun h => by kernel_rfl)
end Go.Proofs.Pk
