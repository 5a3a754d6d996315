/- Contracts: each given function is its plain function, printed by a program. -/
import Derived.Test.YtdmkadcjemkadaaTab
open Go Go.Lft
set_option linter.unusedVariables false
namespace Go.Proofs.Pw

noncomputable def made_Mod_con : Con := ⟨8, [.v (.int .i64), .v (.int .i64)], [(.int .i64), (.int .i64)], ⟨[.v (.int .i64)], []⟩, [(.int .i64)], fun h => Pw.made_Mod h.1 h.2⟩

noncomputable def made_Mod_d : FnD where
  N := 12
  np := 2
  cs := []
  ds := []
  modes := []
  keep := []
  keepX := []
  ro := [false]

set_option maxRecDepth 100000 in
theorem made_Mod_ok : Con.OK Try.prog made_Mod_con :=
  con_of tabOk mixedOk made_Mod_d made_Mod_con Try.f8 (Try.f8.body.getD .skip) Try.func8 (by kernel_rfl) (by kernel_rfl) (by decide) (by kernel_rfl) trivial (by kernel_rfl) (by kernel_rfl)
    trivial
    (fun h => by kernel_rfl)

noncomputable def civil_Leap_con : Con := ⟨21, [.v (.int .i64)], [(.int .i64)], ⟨[.v .bool], []⟩, [.bool], fun h => Pw.civil_Leap h⟩

noncomputable def civil_Leap_d : FnD where
  N := 16
  np := 1
  cs := []
  ds := []
  modes := []
  keep := []
  keepX := []
  ro := [false]

set_option maxRecDepth 100000 in
theorem civil_Leap_ok : Con.OK Try.prog civil_Leap_con :=
  con_of tabOk mixedOk civil_Leap_d civil_Leap_con Try.f21 (Try.f21.body.getD .skip) Try.func21 (by kernel_rfl) (by kernel_rfl) (by decide) (by kernel_rfl) trivial (by kernel_rfl) (by kernel_rfl)
    trivial
    (fun h => by kernel_rfl)

noncomputable def civil_Days_con : Con := ⟨9, [.v (.int .i64), .v (.int .i64)], [(.int .i64), (.int .i64)], ⟨[.v (.int .i64)], []⟩, [(.int .i64)], fun h => Pw.civil_Days h.1 h.2⟩

noncomputable def civil_Days_d : FnD where
  N := 24
  np := 2
  cs := [civil_Leap_con]
  ds := []
  modes := [(21, [false])]
  keep := []
  keepX := []
  ro := [false]

set_option maxRecDepth 100000 in
theorem civil_Days_ok : Con.OK Try.prog civil_Days_con :=
  con_of tabOk mixedOk civil_Days_d civil_Days_con Try.f9 (Try.f9.body.getD .skip) Try.func9 (by kernel_rfl) (by kernel_rfl) (by decide) (by kernel_rfl) (And.intro civil_Leap_ok trivial) (by kernel_rfl) (by kernel_rfl)
    trivial
    (fun h => by kernel_rfl)

noncomputable def civil_Valid_con : Con := ⟨19, [.v (.pair (.int .i64) (.pair (.int .i64) (.int .i64)))], [(.pair (.int .i64) (.pair (.int .i64) (.int .i64)))], ⟨[.v .bool], []⟩, [.bool], fun h => Pw.civil_Valid h⟩

noncomputable def civil_Valid_d : FnD where
  N := 26
  np := 1
  cs := [civil_Days_con]
  ds := []
  modes := [(9, [false, false])]
  keep := []
  keepX := []
  ro := [false]

set_option maxRecDepth 100000 in
theorem civil_Valid_ok : Con.OK Try.prog civil_Valid_con :=
  con_of tabOk mixedOk civil_Valid_d civil_Valid_con Try.f19 (Try.f19.body.getD .skip) Try.func19 (by kernel_rfl) (by kernel_rfl) (by decide) (by kernel_rfl) (And.intro civil_Days_ok trivial) (by kernel_rfl) (by kernel_rfl)
    trivial
    (fun h => by kernel_rfl)

noncomputable def civil_floor_con : Con := ⟨30, [.v (.int .i64), .v (.int .i64)], [(.int .i64), (.int .i64)], ⟨[.v (.int .i64)], []⟩, [(.int .i64)], fun h => Pw.civil_floor h.1 h.2⟩

noncomputable def civil_floor_d : FnD where
  N := 16
  np := 2
  cs := []
  ds := []
  modes := []
  keep := []
  keepX := []
  ro := [false]

set_option maxRecDepth 100000 in
theorem civil_floor_ok : Con.OK Try.prog civil_floor_con :=
  con_of tabOk mixedOk civil_floor_d civil_floor_con Try.f30 (Try.f30.body.getD .skip) Try.func30 (by kernel_rfl) (by kernel_rfl) (by decide) (by kernel_rfl) trivial (by kernel_rfl) (by kernel_rfl)
    trivial
    (fun h => by kernel_rfl)

noncomputable def civil_count_con : Con := ⟨32, [.v (.int .i64)], [(.int .i64)], ⟨[.v (.int .i64)], []⟩, [(.int .i64)], fun h => Pw.civil_count h⟩

noncomputable def civil_count_d : FnD where
  N := 19
  np := 1
  cs := [civil_floor_con]
  ds := []
  modes := [(30, [false, false])]
  keep := []
  keepX := []
  ro := [false]

set_option maxRecDepth 100000 in
theorem civil_count_ok : Con.OK Try.prog civil_count_con :=
  con_of tabOk mixedOk civil_count_d civil_count_con Try.f32 (Try.f32.body.getD .skip) Try.func32 (by kernel_rfl) (by kernel_rfl) (by decide) (by kernel_rfl) (And.intro civil_floor_ok trivial) (by kernel_rfl) (by kernel_rfl)
    trivial
    (fun h => by kernel_rfl)

noncomputable def civil_number_con : Con := ⟨28, [.v (.pair (.int .i64) (.pair (.int .i64) (.int .i64)))], [(.pair (.int .i64) (.pair (.int .i64) (.int .i64)))], ⟨[.v (.int .i64)], []⟩, [(.int .i64)], fun h => Pw.civil_number h⟩

noncomputable def civil_number_d : FnD where
  N := 25
  np := 1
  cs := [civil_Days_con, civil_count_con]
  ds := [⟨0, [.s (.one (.bp 64 0)), .s (.one (.d (.int .i64))), .s (.one (.d (.int .i64))), .b (.cell [.d (.int .i64), .d (.int .i64), .d (.int .i64)] false)], [(.int .i64), (.int .i64), (.int .i64), (.int .i64), (.int .i64)], [⟨.exit 0, [.s (.one (.d (.int .i64)))], [(.int .i64)]⟩], fun h => Pw.civil_number_l0_step h.1 h.2.1 h.2.2.1 h.2.2.2.1 h.2.2.2.2⟩]
  modes := [(9, [false, false]), (32, [false])]
  keep := [(0, ⟨[1, 3, 4], [64], [], []⟩)]
  keepX := [(0, .exit 0, ⟨[3], [], [], []⟩)]
  ro := [false]

set_option maxRecDepth 100000 in
theorem civil_number_ok : Con.OK Try.prog civil_number_con :=
  con_of tabOk mixedOk civil_number_d civil_number_con Try.f28 (Try.f28.body.getD .skip) Try.func28 (by kernel_rfl) (by kernel_rfl) (by decide) (by kernel_rfl) (And.intro civil_Days_ok (And.intro civil_count_ok trivial)) (by kernel_rfl) (by kernel_rfl)
    (And.intro (fun h => by kernel_rfl) trivial)
    (fun h => by kernel_rfl)

noncomputable def civil_Day_con : Con := ⟨10, [.v (.pair (.int .i64) (.pair (.int .i64) (.int .i64)))], [(.pair (.int .i64) (.pair (.int .i64) (.int .i64)))], ⟨[.v (.int .i64), .v (.int .i64)], []⟩, [(.int .i64), (.int .i64)], fun h => Pw.civil_Day h⟩

noncomputable def civil_Day_d : FnD where
  N := 9
  np := 1
  cs := [civil_Valid_con, civil_number_con]
  ds := []
  modes := [(19, [false]), (28, [false])]
  keep := []
  keepX := []
  ro := [false, false]

set_option maxRecDepth 100000 in
theorem civil_Day_ok : Con.OK Try.prog civil_Day_con :=
  con_of tabOk mixedOk civil_Day_d civil_Day_con Try.f10 (Try.f10.body.getD .skip) Try.func10 (by kernel_rfl) (by kernel_rfl) (by decide) (by kernel_rfl) (And.intro civil_Valid_ok (And.intro civil_number_ok trivial)) (by kernel_rfl) (by kernel_rfl)
    trivial
    (fun h => by kernel_rfl)

noncomputable def civil_Weekday_con : Con := ⟨11, [.v (.int .i64)], [(.int .i64)], ⟨[.v (.int .i64)], []⟩, [(.int .i64)], fun h => Pw.civil_Weekday h⟩

noncomputable def civil_Weekday_d : FnD where
  N := 7
  np := 1
  cs := []
  ds := []
  modes := []
  keep := []
  keepX := []
  ro := [false]

set_option maxRecDepth 100000 in
theorem civil_Weekday_ok : Con.OK Try.prog civil_Weekday_con :=
  con_of tabOk mixedOk civil_Weekday_d civil_Weekday_con Try.f11 (Try.f11.body.getD .skip) Try.func11 (by kernel_rfl) (by kernel_rfl) (by decide) (by kernel_rfl) trivial (by kernel_rfl) (by kernel_rfl)
    trivial
    (fun h => by kernel_rfl)

noncomputable def civil_Nth_con : Con := ⟨12, [.v (.int .i64), .v (.int .i64), .v (.int .i64), .v (.int .i64)], [(.int .i64), (.int .i64), (.int .i64), (.int .i64)], ⟨[.v (.int .i64), .v (.int .i64)], []⟩, [(.int .i64), (.int .i64)], fun h => Pw.civil_Nth h.1 h.2.1 h.2.2.1 h.2.2.2⟩

noncomputable def civil_Nth_d : FnD where
  N := 59
  np := 4
  cs := [civil_Days_con, civil_Valid_con, civil_number_con, civil_Weekday_con]
  ds := []
  modes := [(9, [false, false]), (11, [false]), (19, [false]), (28, [false])]
  keep := []
  keepX := []
  ro := [false, false]

set_option maxRecDepth 100000 in
theorem civil_Nth_ok : Con.OK Try.prog civil_Nth_con :=
  con_of tabOk mixedOk civil_Nth_d civil_Nth_con Try.f12 (Try.f12.body.getD .skip) Try.func12 (by kernel_rfl) (by kernel_rfl) (by decide) (by kernel_rfl) (And.intro civil_Days_ok (And.intro civil_Valid_ok (And.intro civil_number_ok (And.intro civil_Weekday_ok trivial)))) (by kernel_rfl) (by kernel_rfl)
    trivial
    (fun h => by kernel_rfl)

noncomputable def civil_AddMonths_con : Con := ⟨15, [.v (.pair (.int .i64) (.pair (.int .i64) (.int .i64))), .v (.int .i64)], [(.pair (.int .i64) (.pair (.int .i64) (.int .i64))), (.int .i64)], ⟨[.v (.pair (.int .i64) (.pair (.int .i64) (.int .i64))), .v (.int .i64)], []⟩, [(.pair (.int .i64) (.pair (.int .i64) (.int .i64))), (.int .i64)], fun h => Pw.civil_AddMonths h.1 h.2⟩

noncomputable def civil_AddMonths_d : FnD where
  N := 52
  np := 2
  cs := [civil_Days_con, civil_Valid_con, civil_floor_con]
  ds := []
  modes := [(9, [false, false]), (19, [false]), (30, [false, false])]
  keep := []
  keepX := []
  ro := [false, false]

set_option maxRecDepth 100000 in
theorem civil_AddMonths_ok : Con.OK Try.prog civil_AddMonths_con :=
  con_of tabOk mixedOk civil_AddMonths_d civil_AddMonths_con Try.f15 (Try.f15.body.getD .skip) Try.func15 (by kernel_rfl) (by kernel_rfl) (by decide) (by kernel_rfl) (And.intro civil_Days_ok (And.intro civil_Valid_ok (And.intro civil_floor_ok trivial))) (by kernel_rfl) (by kernel_rfl)
    trivial
    (fun h => by kernel_rfl)

noncomputable def civil_year_con : Con := ⟨31, [.v (.int .i64)], [(.int .i64)], ⟨[.v (.int .i64)], []⟩, [(.int .i64)], fun h => Pw.civil_year h⟩

noncomputable def civil_year_d : FnD where
  N := 15
  np := 1
  cs := [civil_floor_con, civil_count_con]
  ds := [⟨0, [.s (.one (.d (.int .i64))), .s (.one (.d (.int .i64)))], [(.int .i64), (.int .i64)], [⟨.exit 0, [.s (.one (.d (.int .i64)))], [(.int .i64)]⟩], fun h => Pw.civil_year_l0_step h.1 h.2⟩]
  modes := [(30, [false, false]), (32, [false])]
  keep := [(0, ⟨[0, 3], [], [], []⟩)]
  keepX := [(0, .exit 0, ⟨[3], [], [], []⟩)]
  ro := [false]

set_option maxRecDepth 100000 in
theorem civil_year_ok : Con.OK Try.prog civil_year_con :=
  con_of tabOk mixedOk civil_year_d civil_year_con Try.f31 (Try.f31.body.getD .skip) Try.func31 (by kernel_rfl) (by kernel_rfl) (by decide) (by kernel_rfl) (And.intro civil_floor_ok (And.intro civil_count_ok trivial)) (by kernel_rfl) (by kernel_rfl)
    (And.intro (fun h => by kernel_rfl) trivial)
    (fun h => by kernel_rfl)

noncomputable def civil_Week_con : Con := ⟨17, [.v (.pair (.int .i64) (.pair (.int .i64) (.int .i64)))], [(.pair (.int .i64) (.pair (.int .i64) (.int .i64)))], ⟨[.v (.int .i64), .v (.int .i64), .v (.int .i64)], []⟩, [(.int .i64), (.int .i64), (.int .i64)], fun h => Pw.civil_Week h⟩

noncomputable def civil_Week_d : FnD where
  N := 27
  np := 1
  cs := [civil_Valid_con, civil_count_con, civil_number_con, civil_Weekday_con, civil_year_con]
  ds := []
  modes := [(11, [false]), (19, [false]), (28, [false]), (31, [false]), (32, [false])]
  keep := []
  keepX := []
  ro := [false, false, false]

set_option maxRecDepth 100000 in
theorem civil_Week_ok : Con.OK Try.prog civil_Week_con :=
  con_of tabOk mixedOk civil_Week_d civil_Week_con Try.f17 (Try.f17.body.getD .skip) Try.func17 (by kernel_rfl) (by kernel_rfl) (by decide) (by kernel_rfl) (And.intro civil_Valid_ok (And.intro civil_count_ok (And.intro civil_number_ok (And.intro civil_Weekday_ok (And.intro civil_year_ok trivial))))) (by kernel_rfl) (by kernel_rfl)
    trivial
    (fun h => by kernel_rfl)

noncomputable def law01_sane_con : Con := ⟨13, [], [], ⟨[.v .bool], []⟩, [.bool], fun h => Pw.law01_sane⟩

noncomputable def law01_sane_d : FnD where
  N := 70
  np := 0
  cs := [civil_Day_con, civil_Weekday_con, civil_Nth_con, civil_AddMonths_con, civil_Week_con]
  ds := []
  modes := [(10, [false]), (11, [false]), (12, [false, false, false, false]), (15, [false, false]), (17, [false])]
  keep := []
  keepX := []
  ro := [false]

set_option maxRecDepth 100000 in
theorem law01_sane_ok : Con.OK Try.prog law01_sane_con :=
  con_of tabOk mixedOk law01_sane_d law01_sane_con Try.f13 (Try.f13.body.getD .skip) Try.func13 (by kernel_rfl) (by kernel_rfl) (by decide) (by kernel_rfl) (And.intro civil_Day_ok (And.intro civil_Weekday_ok (And.intro civil_Nth_ok (And.intro civil_AddMonths_ok (And.intro civil_Week_ok trivial))))) (by kernel_rfl) (by kernel_rfl)
    trivial
    (fun h => by kernel_rfl)

noncomputable def law01_CivilNth_con : Con := ⟨3, [.v (.int .i64), .v (.int .i64), .v (.int .i64)], [(.int .i64), (.int .i64), (.int .i64)], ⟨[.v .bool], []⟩, [.bool], fun h => Pw.law01_CivilNth h.1 h.2.1 h.2.2⟩

noncomputable def law01_CivilNth_d : FnD where
  N := 98
  np := 3
  cs := [made_Mod_con, civil_Days_con, civil_Day_con, civil_Weekday_con, civil_Nth_con, law01_sane_con]
  ds := [⟨0, [.s (.one (.d (.int .i64))), .s (.one (.d (.int .i64))), .s (.one (.d (.int .i64))), .s (.one (.ol 1000000)), .s (.one (.d (.int .i64))), .b (.lst 3 (.int .i64) false)], [(.int .i64), (.int .i64), (.int .i64), (.int .i64), (.list (.int .i64))], [⟨.ret, [.s (.one (.d .bool))], [.bool]⟩, ⟨.exit 0, [.s (.one (.d (.int .i64))), .s (.one (.d (.int .i64))), .s (.one (.d (.int .i64))), .s (.one (.ol 1500100)), .b (.lst 3 (.int .i64) false)], [(.int .i64), (.int .i64), (.int .i64), (.list (.int .i64))]⟩], fun h => Pw.law01_CivilNth_l0_step h.1 h.2.1 h.2.2.1 h.2.2.2.1 h.2.2.2.2⟩,
    ⟨2, [.s (.one (.d (.int .i64))), .s (.one (.d (.int .i64))), .s (.one (.d (.int .i64))), .s (.one (.ol 1002000)), .s (.one (.d (.int .i64))), .b (.lst 3 (.int .i64) false)], [(.int .i64), (.int .i64), (.int .i64), (.int .i64), (.list (.int .i64))], [⟨.ret, [.s (.one (.d .bool))], [.bool]⟩, ⟨.exit 2, [], []⟩], fun h => Pw.law01_CivilNth_l2_step h.1 h.2.1 h.2.2.1 h.2.2.2.1 h.2.2.2.2⟩]
  modes := [(8, [false, false]), (9, [false, false]), (10, [false]), (11, [false]), (12, [false, false, false, false]), (13, [])]
  keep := [(0, ⟨[7, 8, 9, 10, 11], [], [⟨1000000, 3, (.int .i64), [.slot 10], false⟩], []⟩),
    (2, ⟨[7, 8, 9, 10, 14], [], [⟨1002000, 3, (.int .i64), [.slot 10], false⟩], []⟩)]
  keepX := [(0, .ret, ⟨[6], [], [], []⟩),
    (0, .exit 0, ⟨[7, 8, 9, 10], [], [⟨1500100, 3, (.int .i64), [.slot 10], false⟩], []⟩),
    (2, .ret, ⟨[6], [], [], []⟩),
    (2, .exit 2, ⟨[], [], [], []⟩)]
  ro := [false]

set_option maxRecDepth 100000 in
theorem law01_CivilNth_ok : Con.OK Try.prog law01_CivilNth_con :=
  con_of tabOk mixedOk law01_CivilNth_d law01_CivilNth_con Try.f3 (Try.f3.body.getD .skip) Try.func3 (by kernel_rfl) (by kernel_rfl) (by decide) (by kernel_rfl) (And.intro made_Mod_ok (And.intro civil_Days_ok (And.intro civil_Day_ok (And.intro civil_Weekday_ok (And.intro civil_Nth_ok (And.intro law01_sane_ok trivial)))))) (by kernel_rfl) (by kernel_rfl)
    (And.intro (fun h => by kernel_rfl) (And.intro (fun h => by kernel_rfl) trivial))
    (fun h => by kernel_rfl)

noncomputable def r01_Leap_con : Con := ⟨22, [.v (.int .i64)], [(.int .i64)], ⟨[.v .bool], []⟩, [.bool], fun h => Pw.r01_Leap h⟩

noncomputable def r01_Leap_d : FnD where
  N := 16
  np := 1
  cs := []
  ds := []
  modes := []
  keep := []
  keepX := []
  ro := [false]

set_option maxRecDepth 100000 in
theorem r01_Leap_ok : Con.OK Try.prog r01_Leap_con :=
  con_of tabOk mixedOk r01_Leap_d r01_Leap_con Try.f22 (Try.f22.body.getD .skip) Try.func22 (by kernel_rfl) (by kernel_rfl) (by decide) (by kernel_rfl) trivial (by kernel_rfl) (by kernel_rfl)
    trivial
    (fun h => by kernel_rfl)

noncomputable def r01_Days_con : Con := ⟨23, [.v (.int .i64), .v (.int .i64)], [(.int .i64), (.int .i64)], ⟨[.v (.int .i64)], []⟩, [(.int .i64)], fun h => Pw.r01_Days h.1 h.2⟩

noncomputable def r01_Days_d : FnD where
  N := 23
  np := 2
  cs := [r01_Leap_con]
  ds := []
  modes := [(22, [false])]
  keep := []
  keepX := []
  ro := [false]

set_option maxRecDepth 100000 in
theorem r01_Days_ok : Con.OK Try.prog r01_Days_con :=
  con_of tabOk mixedOk r01_Days_d r01_Days_con Try.f23 (Try.f23.body.getD .skip) Try.func23 (by kernel_rfl) (by kernel_rfl) (by decide) (by kernel_rfl) (And.intro r01_Leap_ok trivial) (by kernel_rfl) (by kernel_rfl)
    trivial
    (fun h => by kernel_rfl)

noncomputable def r01_Valid_con : Con := ⟨20, [.v (.pair (.int .i64) (.pair (.int .i64) (.int .i64)))], [(.pair (.int .i64) (.pair (.int .i64) (.int .i64)))], ⟨[.v .bool], []⟩, [.bool], fun h => Pw.r01_Valid h⟩

noncomputable def r01_Valid_d : FnD where
  N := 36
  np := 1
  cs := [r01_Days_con]
  ds := []
  modes := [(23, [false, false])]
  keep := []
  keepX := []
  ro := [false]

set_option maxRecDepth 100000 in
theorem r01_Valid_ok : Con.OK Try.prog r01_Valid_con :=
  con_of tabOk mixedOk r01_Valid_d r01_Valid_con Try.f20 (Try.f20.body.getD .skip) Try.func20 (by kernel_rfl) (by kernel_rfl) (by decide) (by kernel_rfl) (And.intro r01_Days_ok trivial) (by kernel_rfl) (by kernel_rfl)
    trivial
    (fun h => by kernel_rfl)

noncomputable def r01_year_con : Con := ⟨29, [.v (.int .i64)], [(.int .i64)], ⟨[.v (.int .i64)], []⟩, [(.int .i64)], fun h => Pw.r01_year h⟩

noncomputable def r01_year_d : FnD where
  N := 18
  np := 1
  cs := []
  ds := []
  modes := []
  keep := []
  keepX := []
  ro := [false]

set_option maxRecDepth 100000 in
theorem r01_year_ok : Con.OK Try.prog r01_year_con :=
  con_of tabOk mixedOk r01_year_d r01_year_con Try.f29 (Try.f29.body.getD .skip) Try.func29 (by kernel_rfl) (by kernel_rfl) (by decide) (by kernel_rfl) trivial (by kernel_rfl) (by kernel_rfl)
    trivial
    (fun h => by kernel_rfl)

noncomputable def r01_Day_con : Con := ⟨14, [.v (.pair (.int .i64) (.pair (.int .i64) (.int .i64)))], [(.pair (.int .i64) (.pair (.int .i64) (.int .i64)))], ⟨[.v (.int .i64), .v (.int .i64)], []⟩, [(.int .i64), (.int .i64)], fun h => Pw.r01_Day h⟩

noncomputable def r01_Day_d : FnD where
  N := 29
  np := 1
  cs := [r01_Days_con, r01_Valid_con, r01_year_con]
  ds := [⟨0, [.s (.one (.bp 64 0)), .s (.one (.d (.int .i64))), .s (.one (.d (.int .i64))), .b (.cell [.d (.int .i64), .d (.int .i64), .d (.int .i64)] false)], [(.int .i64), (.int .i64), (.int .i64), (.int .i64), (.int .i64)], [⟨.exit 0, [.s (.one (.bp 64 0)), .s (.one (.d (.int .i64))), .b (.cell [.d (.int .i64), .d (.int .i64), .d (.int .i64)] false)], [(.int .i64), (.int .i64), (.int .i64), (.int .i64)]⟩], fun h => Pw.r01_Day_l0_step h.1 h.2.1 h.2.2.1 h.2.2.2.1 h.2.2.2.2⟩]
  modes := [(20, [false]), (23, [false, false]), (29, [false])]
  keep := [(0, ⟨[1, 4, 5], [64], [], []⟩)]
  keepX := [(0, .exit 0, ⟨[1, 4], [64], [], []⟩)]
  ro := [false, false]

set_option maxRecDepth 100000 in
theorem r01_Day_ok : Con.OK Try.prog r01_Day_con :=
  con_of tabOk mixedOk r01_Day_d r01_Day_con Try.f14 (Try.f14.body.getD .skip) Try.func14 (by kernel_rfl) (by kernel_rfl) (by decide) (by kernel_rfl) (And.intro r01_Days_ok (And.intro r01_Valid_ok (And.intro r01_year_ok trivial))) (by kernel_rfl) (by kernel_rfl)
    (And.intro (fun h => by kernel_rfl) trivial)
    (fun h => by kernel_rfl)

noncomputable def r01_AddMonths_con : Con := ⟨16, [.v (.pair (.int .i64) (.pair (.int .i64) (.int .i64))), .v (.int .i64)], [(.pair (.int .i64) (.pair (.int .i64) (.int .i64))), (.int .i64)], ⟨[.v (.pair (.int .i64) (.pair (.int .i64) (.int .i64))), .v (.int .i64)], []⟩, [(.pair (.int .i64) (.pair (.int .i64) (.int .i64))), (.int .i64)], fun h => Pw.r01_AddMonths h.1 h.2⟩

noncomputable def r01_AddMonths_d : FnD where
  N := 55
  np := 2
  cs := [r01_Days_con, r01_Valid_con]
  ds := []
  modes := [(20, [false]), (23, [false, false])]
  keep := []
  keepX := []
  ro := [false, false]

set_option maxRecDepth 100000 in
theorem r01_AddMonths_ok : Con.OK Try.prog r01_AddMonths_con :=
  con_of tabOk mixedOk r01_AddMonths_d r01_AddMonths_con Try.f16 (Try.f16.body.getD .skip) Try.func16 (by kernel_rfl) (by kernel_rfl) (by decide) (by kernel_rfl) (And.intro r01_Days_ok (And.intro r01_Valid_ok trivial)) (by kernel_rfl) (by kernel_rfl)
    trivial
    (fun h => by kernel_rfl)

noncomputable def r01_Weekday_con : Con := ⟨27, [.v (.int .i64)], [(.int .i64)], ⟨[.v (.int .i64)], []⟩, [(.int .i64)], fun h => Pw.r01_Weekday h⟩

noncomputable def r01_Weekday_d : FnD where
  N := 7
  np := 1
  cs := []
  ds := []
  modes := []
  keep := []
  keepX := []
  ro := [false]

set_option maxRecDepth 100000 in
theorem r01_Weekday_ok : Con.OK Try.prog r01_Weekday_con :=
  con_of tabOk mixedOk r01_Weekday_d r01_Weekday_con Try.f27 (Try.f27.body.getD .skip) Try.func27 (by kernel_rfl) (by kernel_rfl) (by decide) (by kernel_rfl) trivial (by kernel_rfl) (by kernel_rfl)
    trivial
    (fun h => by kernel_rfl)

noncomputable def r01_Week_con : Con := ⟨18, [.v (.pair (.int .i64) (.pair (.int .i64) (.int .i64)))], [(.pair (.int .i64) (.pair (.int .i64) (.int .i64)))], ⟨[.v (.int .i64), .v (.int .i64), .v (.int .i64)], []⟩, [(.int .i64), (.int .i64), (.int .i64)], fun h => Pw.r01_Week h⟩

noncomputable def r01_Week_d : FnD where
  N := 55
  np := 1
  cs := [r01_year_con, r01_Day_con, r01_Weekday_con]
  ds := []
  modes := [(14, [false]), (27, [false]), (29, [false])]
  keep := []
  keepX := []
  ro := [false, false, false]

set_option maxRecDepth 100000 in
theorem r01_Week_ok : Con.OK Try.prog r01_Week_con :=
  con_of tabOk mixedOk r01_Week_d r01_Week_con Try.f18 (Try.f18.body.getD .skip) Try.func18 (by kernel_rfl) (by kernel_rfl) (by decide) (by kernel_rfl) (And.intro r01_year_ok (And.intro r01_Day_ok (And.intro r01_Weekday_ok trivial))) (by kernel_rfl) (by kernel_rfl)
    trivial
    (fun h => by kernel_rfl)

noncomputable def r01_Nth_con : Con := ⟨24, [.v (.int .i64), .v (.int .i64), .v (.int .i64), .v (.int .i64)], [(.int .i64), (.int .i64), (.int .i64), (.int .i64)], ⟨[.v (.int .i64), .v (.int .i64)], []⟩, [(.int .i64), (.int .i64)], fun h => Pw.r01_Nth h.1 h.2.1 h.2.2.1 h.2.2.2⟩

noncomputable def r01_Nth_d : FnD where
  N := 63
  np := 4
  cs := [r01_Days_con, r01_Day_con, r01_Weekday_con]
  ds := [⟨0, [.s (.one (.d (.int .i64))), .s (.one (.d (.int .i64))), .s (.one (.d (.int .i64))), .s (.one (.d (.int .i64))), .s (.one (.d (.int .i64))), .s (.one (.d (.int .i64)))], [(.int .i64), (.int .i64), (.int .i64), (.int .i64), (.int .i64), (.int .i64)], [⟨.exit 0, [.s (.one (.d (.int .i64))), .s (.one (.d (.int .i64))), .s (.one (.d (.int .i64))), .s (.one (.d (.int .i64))), .s (.one (.d (.int .i64)))], [(.int .i64), (.int .i64), (.int .i64), (.int .i64), (.int .i64)]⟩], fun h => Pw.r01_Nth_l0_step h.1 h.2.1 h.2.2.1 h.2.2.2.1 h.2.2.2.2.1 h.2.2.2.2.2⟩,
    ⟨2, [.s (.one (.d (.int .i64))), .s (.one (.d (.int .i64))), .s (.one (.d (.int .i64))), .s (.one (.d (.int .i64)))], [(.int .i64), (.int .i64), (.int .i64), (.int .i64)], [⟨.exit 2, [.s (.one (.d (.int .i64)))], [(.int .i64)]⟩], fun h => Pw.r01_Nth_l2_step h.1 h.2.1 h.2.2.1 h.2.2.2⟩]
  modes := [(14, [false]), (23, [false, false]), (27, [false])]
  keep := [(0, ⟨[0, 1, 2, 3, 10, 12], [], [], []⟩),
    (2, ⟨[0, 1, 10, 12], [], [], []⟩)]
  keepX := [(0, .exit 0, ⟨[0, 1, 2, 10, 12], [], [], []⟩),
    (2, .exit 2, ⟨[12], [], [], []⟩)]
  ro := [false, false]

set_option maxRecDepth 100000 in
theorem r01_Nth_ok : Con.OK Try.prog r01_Nth_con :=
  con_of tabOk mixedOk r01_Nth_d r01_Nth_con Try.f24 (Try.f24.body.getD .skip) Try.func24 (by kernel_rfl) (by kernel_rfl) (by decide) (by kernel_rfl) (And.intro r01_Days_ok (And.intro r01_Day_ok (And.intro r01_Weekday_ok trivial))) (by kernel_rfl) (by kernel_rfl)
    (And.intro (fun h => by kernel_rfl) (And.intro (fun h => by kernel_rfl) trivial))
    (fun h => by kernel_rfl)

noncomputable def civil_DateOf_con : Con := ⟨25, [.v (.int .i64)], [(.int .i64)], ⟨[.v (.pair (.int .i64) (.pair (.int .i64) (.int .i64))), .v (.int .i64)], []⟩, [(.pair (.int .i64) (.pair (.int .i64) (.int .i64))), (.int .i64)], fun h => Pw.civil_DateOf h⟩

noncomputable def civil_DateOf_d : FnD where
  N := 45
  np := 1
  cs := [civil_Days_con, civil_count_con, civil_year_con]
  ds := [⟨0, [.s (.one (.bp 128 0)), .s (.one (.bp 256 0)), .s (.one (.d (.int .i64))), .b (.cell [.d (.int .i64), .d (.int .i64), .d (.int .i64)] false), .b (.cell [.d (.int .i64), .d (.int .i64), .d (.int .i64)] false)], [(.int .i64), (.int .i64), (.int .i64), (.int .i64), (.int .i64), (.int .i64), (.int .i64)], [⟨.exit 0, [.s (.one (.bp 128 0)), .s (.one (.bp 256 0)), .s (.one (.d (.int .i64))), .b (.cell [.d (.int .i64), .d (.int .i64), .d (.int .i64)] false), .b (.cell [.d (.int .i64), .d (.int .i64), .d (.int .i64)] false)], [(.int .i64), (.int .i64), (.int .i64), (.int .i64), (.int .i64), (.int .i64), (.int .i64)]⟩], fun h => Pw.civil_DateOf_l0_step h.1 h.2.1 h.2.2.1 h.2.2.2.1 h.2.2.2.2.1 h.2.2.2.2.2.1 h.2.2.2.2.2.2⟩]
  modes := [(9, [false, false]), (31, [false]), (32, [false])]
  keep := [(0, ⟨[2, 4, 5], [128, 256], [], []⟩)]
  keepX := [(0, .exit 0, ⟨[2, 4, 5], [128, 256], [], []⟩)]
  ro := [false, false]

set_option maxRecDepth 100000 in
theorem civil_DateOf_ok : Con.OK Try.prog civil_DateOf_con :=
  con_of tabOk mixedOk civil_DateOf_d civil_DateOf_con Try.f25 (Try.f25.body.getD .skip) Try.func25 (by kernel_rfl) (by kernel_rfl) (by decide) (by kernel_rfl) (And.intro civil_Days_ok (And.intro civil_count_ok (And.intro civil_year_ok trivial))) (by kernel_rfl) (by kernel_rfl)
    (And.intro (fun h => by kernel_rfl) trivial)
    (fun h => by kernel_rfl)

noncomputable def r01_MaxDay_con : Con := ⟨33, [], [], ⟨[.v (.int .i64)], []⟩, [(.int .i64)], fun h => Pw.r01_MaxDay⟩

noncomputable def r01_MaxDay_d : FnD where
  N := 3
  np := 0
  cs := [r01_year_con]
  ds := []
  modes := [(29, [false])]
  keep := []
  keepX := []
  ro := [false]

set_option maxRecDepth 100000 in
theorem r01_MaxDay_ok : Con.OK Try.prog r01_MaxDay_con :=
  con_of tabOk mixedOk r01_MaxDay_d r01_MaxDay_con Try.f33 (Try.f33.body.getD .skip) Try.func33 (by kernel_rfl) (by kernel_rfl) (by decide) (by kernel_rfl) (And.intro r01_year_ok trivial) (by kernel_rfl) (by kernel_rfl)
    trivial
    (fun h => by kernel_rfl)

noncomputable def r01_DateOf_con : Con := ⟨26, [.v (.int .i64)], [(.int .i64)], ⟨[.v (.pair (.int .i64) (.pair (.int .i64) (.int .i64))), .v (.int .i64)], []⟩, [(.pair (.int .i64) (.pair (.int .i64) (.int .i64))), (.int .i64)], fun h => Pw.r01_DateOf h⟩

noncomputable def r01_DateOf_d : FnD where
  N := 49
  np := 1
  cs := [r01_Days_con, r01_year_con, r01_MaxDay_con]
  ds := [⟨0, [.s (.one (.d (.int .i64))), .s (.one (.bp 128 0)), .s (.one (.d (.int .i64))), .b (.cell [.d (.int .i64), .d (.int .i64), .d (.int .i64)] false)], [(.int .i64), (.int .i64), (.int .i64), (.int .i64), (.int .i64)], [⟨.exit 0, [.s (.one (.d (.int .i64))), .s (.one (.bp 128 0)), .s (.one (.d (.int .i64))), .b (.cell [.d (.int .i64), .d (.int .i64), .d (.int .i64)] false)], [(.int .i64), (.int .i64), (.int .i64), (.int .i64), (.int .i64)]⟩], fun h => Pw.r01_DateOf_l0_step h.1 h.2.1 h.2.2.1 h.2.2.2.1 h.2.2.2.2⟩,
    ⟨2, [.s (.one (.d (.int .i64))), .s (.one (.bp 128 0)), .s (.one (.d (.int .i64))), .s (.one (.d (.int .i64))), .b (.cell [.d (.int .i64), .d (.int .i64), .d (.int .i64)] false)], [(.int .i64), (.int .i64), (.int .i64), (.int .i64), (.int .i64), (.int .i64)], [⟨.exit 2, [.s (.one (.d (.int .i64))), .s (.one (.bp 128 0)), .s (.one (.d (.int .i64))), .s (.one (.d (.int .i64))), .b (.cell [.d (.int .i64), .d (.int .i64), .d (.int .i64)] false)], [(.int .i64), (.int .i64), (.int .i64), (.int .i64), (.int .i64), (.int .i64)]⟩], fun h => Pw.r01_DateOf_l2_step h.1 h.2.1 h.2.2.1 h.2.2.2.1 h.2.2.2.2.1 h.2.2.2.2.2⟩]
  modes := [(23, [false, false]), (29, [false]), (33, [])]
  keep := [(0, ⟨[0, 2, 4], [128], [], []⟩),
    (2, ⟨[0, 2, 4, 5], [128], [], []⟩)]
  keepX := [(0, .exit 0, ⟨[0, 2, 4], [128], [], []⟩),
    (2, .exit 2, ⟨[0, 2, 4, 5], [128], [], []⟩)]
  ro := [false, false]

set_option maxRecDepth 100000 in
theorem r01_DateOf_ok : Con.OK Try.prog r01_DateOf_con :=
  con_of tabOk mixedOk r01_DateOf_d r01_DateOf_con Try.f26 (Try.f26.body.getD .skip) Try.func26 (by kernel_rfl) (by kernel_rfl) (by decide) (by kernel_rfl) (And.intro r01_Days_ok (And.intro r01_year_ok (And.intro r01_MaxDay_ok trivial))) (by kernel_rfl) (by kernel_rfl)
    (And.intro (fun h => by kernel_rfl) (And.intro (fun h => by kernel_rfl) trivial))
    (fun h => by kernel_rfl)

noncomputable def law01_CivilExact_con : Con := ⟨4, [.v (.int .i64), .v (.int .i64), .v (.int .i64), .v (.int .i64)], [(.int .i64), (.int .i64), (.int .i64), (.int .i64)], ⟨[.v .bool], []⟩, [.bool], fun h => Pw.law01_CivilExact h.1 h.2.1 h.2.2.1 h.2.2.2⟩

noncomputable def law01_CivilExact_d : FnD where
  N := 251
  np := 4
  cs := [made_Mod_con, civil_Leap_con, civil_Days_con, civil_Valid_con, civil_Day_con, civil_Weekday_con, civil_Nth_con, civil_AddMonths_con, civil_Week_con, law01_sane_con, r01_Leap_con, r01_Days_con, r01_Valid_con, r01_Day_con, r01_AddMonths_con, r01_Weekday_con, r01_Week_con, r01_Nth_con, civil_DateOf_con, r01_DateOf_con]
  ds := [⟨0, [.s (.one (.d (.int .i64))), .s (.one (.d (.int .i64))), .s (.one (.bp 640 0)), .s (.av 2 (.pair (.int .i64) (.pair (.int .i64) (.int .i64)))), .s (.one (.d (.int .i64))), .b (.cell [.d (.int .i64), .d (.int .i64), .d (.int .i64)] false)], [(.int .i64), (.int .i64), (.list (.pair (.int .i64) (.pair (.int .i64) (.int .i64)))), (.int .i64), (.int .i64), (.int .i64), (.int .i64)], [⟨.ret, [.s (.one (.d .bool))], [.bool]⟩, ⟨.exit 0, [.s (.one (.d (.int .i64))), .s (.one (.d (.int .i64))), .s (.one (.bp 640 0)), .b (.cell [.d (.int .i64), .d (.int .i64), .d (.int .i64)] false)], [(.int .i64), (.int .i64), (.int .i64), (.int .i64), (.int .i64)]⟩], fun h => Pw.law01_CivilExact_l0_step h.1 h.2.1 h.2.2.1 h.2.2.2.1 h.2.2.2.2.1 h.2.2.2.2.2.1 h.2.2.2.2.2.2⟩,
    ⟨2, [.s (.one (.d (.int .i64))), .s (.one (.bp 640 0)), .s (.av 3 (.int .i64)), .s (.one (.d (.int .i64))), .b (.cell [.d (.int .i64), .d (.int .i64), .d (.int .i64)] false)], [(.int .i64), (.list (.int .i64)), (.int .i64), (.int .i64), (.int .i64), (.int .i64)], [⟨.ret, [.s (.one (.d .bool))], [.bool]⟩, ⟨.exit 2, [.s (.one (.d (.int .i64))), .s (.one (.bp 640 0)), .b (.cell [.d (.int .i64), .d (.int .i64), .d (.int .i64)] false)], [(.int .i64), (.int .i64), (.int .i64), (.int .i64)]⟩], fun h => Pw.law01_CivilExact_l2_step h.1 h.2.1 h.2.2.1 h.2.2.2.1 h.2.2.2.2.1 h.2.2.2.2.2⟩]
  modes := [(8, [false, false]), (9, [false, false]), (10, [false]), (11, [false]), (12, [false, false, false, false]), (13, []), (14, [false]), (15, [false, false]), (16, [false, false]), (17, [false]), (18, [false]), (19, [false]), (20, [false]), (21, [false]), (22, [false]), (23, [false, false]), (24, [false, false, false, false]), (25, [false]), (26, [false]), (27, [false])]
  keep := [(0, ⟨[2, 3, 10, 55, 56], [640], [], []⟩),
    (2, ⟨[3, 10, 198, 199], [640], [], []⟩)]
  keepX := [(0, .ret, ⟨[8], [], [], []⟩),
    (0, .exit 0, ⟨[2, 3, 10], [640], [], []⟩),
    (2, .ret, ⟨[8], [], [], []⟩),
    (2, .exit 2, ⟨[3, 10], [640], [], []⟩)]
  ro := [false]

set_option maxRecDepth 100000 in
theorem law01_CivilExact_ok : Con.OK Try.prog law01_CivilExact_con :=
  con_of tabOk mixedOk law01_CivilExact_d law01_CivilExact_con Try.f4 (Try.f4.body.getD .skip) Try.func4 (by kernel_rfl) (by kernel_rfl) (by decide) (by kernel_rfl) (And.intro made_Mod_ok (And.intro civil_Leap_ok (And.intro civil_Days_ok (And.intro civil_Valid_ok (And.intro civil_Day_ok (And.intro civil_Weekday_ok (And.intro civil_Nth_ok (And.intro civil_AddMonths_ok (And.intro civil_Week_ok (And.intro law01_sane_ok (And.intro r01_Leap_ok (And.intro r01_Days_ok (And.intro r01_Valid_ok (And.intro r01_Day_ok (And.intro r01_AddMonths_ok (And.intro r01_Weekday_ok (And.intro r01_Week_ok (And.intro r01_Nth_ok (And.intro civil_DateOf_ok (And.intro r01_DateOf_ok trivial)))))))))))))))))))) (by kernel_rfl) (by kernel_rfl)
    (And.intro (fun h => by kernel_rfl) (And.intro (fun h => by kernel_rfl) trivial))
    (fun h => by kernel_rfl)

noncomputable def law01_CivilBack_con : Con := ⟨5, [.v (.int .i64)], [(.int .i64)], ⟨[.v .bool], []⟩, [.bool], fun h => Pw.law01_CivilBack h⟩

noncomputable def law01_CivilBack_d : FnD where
  N := 117
  np := 1
  cs := [made_Mod_con, civil_Days_con, civil_Valid_con, civil_Day_con, civil_Weekday_con, law01_sane_con, civil_DateOf_con]
  ds := []
  modes := [(8, [false, false]), (9, [false, false]), (10, [false]), (11, [false]), (13, []), (19, [false]), (25, [false])]
  keep := []
  keepX := []
  ro := [false]

set_option maxRecDepth 100000 in
theorem law01_CivilBack_ok : Con.OK Try.prog law01_CivilBack_con :=
  con_of tabOk mixedOk law01_CivilBack_d law01_CivilBack_con Try.f5 (Try.f5.body.getD .skip) Try.func5 (by kernel_rfl) (by kernel_rfl) (by decide) (by kernel_rfl) (And.intro made_Mod_ok (And.intro civil_Days_ok (And.intro civil_Valid_ok (And.intro civil_Day_ok (And.intro civil_Weekday_ok (And.intro law01_sane_ok (And.intro civil_DateOf_ok trivial))))))) (by kernel_rfl) (by kernel_rfl)
    trivial
    (fun h => by kernel_rfl)

noncomputable def law01_CivilMonths_con : Con := ⟨6, [.v (.int .i64), .v (.int .i64), .v (.int .i64)], [(.int .i64), (.int .i64), (.int .i64)], ⟨[.v .bool], []⟩, [.bool], fun h => Pw.law01_CivilMonths h.1 h.2.1 h.2.2⟩

noncomputable def law01_CivilMonths_d : FnD where
  N := 125
  np := 3
  cs := [made_Mod_con, civil_Days_con, civil_AddMonths_con, law01_sane_con, civil_DateOf_con]
  ds := []
  modes := [(8, [false, false]), (9, [false, false]), (13, []), (15, [false, false]), (25, [false])]
  keep := []
  keepX := []
  ro := [false]

set_option maxRecDepth 100000 in
theorem law01_CivilMonths_ok : Con.OK Try.prog law01_CivilMonths_con :=
  con_of tabOk mixedOk law01_CivilMonths_d law01_CivilMonths_con Try.f6 (Try.f6.body.getD .skip) Try.func6 (by kernel_rfl) (by kernel_rfl) (by decide) (by kernel_rfl) (And.intro made_Mod_ok (And.intro civil_Days_ok (And.intro civil_AddMonths_ok (And.intro law01_sane_ok (And.intro civil_DateOf_ok trivial))))) (by kernel_rfl) (by kernel_rfl)
    trivial
    (fun h => by kernel_rfl)

noncomputable def law01_CivilWeeks_con : Con := ⟨7, [.v (.int .i64)], [(.int .i64)], ⟨[.v .bool], []⟩, [.bool], fun h => Pw.law01_CivilWeeks h⟩

noncomputable def law01_CivilWeeks_d : FnD where
  N := 150
  np := 1
  cs := [made_Mod_con, civil_Day_con, civil_Weekday_con, civil_Week_con, law01_sane_con, civil_DateOf_con]
  ds := [⟨0, [.s (.one (.d (.int .i64))), .s (.one (.bp 256 0)), .s (.one (.bp 320 0)), .s (.one (.d (.int .i64))), .b (.arr 8 (.int .i64)), .b (.arr 8 (.int .i64))], [(.int .i64), (.int .i64), (.list (.int .i64)), (.list (.int .i64))], [⟨.ret, [.s (.one (.d .bool))], [.bool]⟩, ⟨.exit 0, [.s (.one (.d (.int .i64))), .s (.one (.bp 256 0)), .s (.one (.bp 320 0)), .b (.arr 8 (.int .i64)), .b (.arr 8 (.int .i64))], [(.int .i64), (.list (.int .i64)), (.list (.int .i64))]⟩], fun h => Pw.law01_CivilWeeks_l0_step h.1 h.2.1 h.2.2.1 h.2.2.2⟩]
  modes := [(8, [false, false]), (10, [false]), (11, [false]), (13, []), (17, [false]), (25, [false])]
  keep := [(0, ⟨[3, 4, 5, 6], [256, 320], [], []⟩)]
  keepX := [(0, .ret, ⟨[2], [], [], []⟩),
    (0, .exit 0, ⟨[3, 4, 5], [256, 320], [], []⟩)]
  ro := [false]

set_option maxRecDepth 100000 in
theorem law01_CivilWeeks_ok : Con.OK Try.prog law01_CivilWeeks_con :=
  con_of tabOk mixedOk law01_CivilWeeks_d law01_CivilWeeks_con Try.f7 (Try.f7.body.getD .skip) Try.func7 (by kernel_rfl) (by kernel_rfl) (by decide) (by kernel_rfl) (And.intro made_Mod_ok (And.intro civil_Day_ok (And.intro civil_Weekday_ok (And.intro civil_Week_ok (And.intro law01_sane_ok (And.intro civil_DateOf_ok trivial)))))) (by kernel_rfl) (by kernel_rfl)
    (And.intro (fun h => by kernel_rfl) trivial)
    (fun h => by kernel_rfl)
end Go.Proofs.Pw
