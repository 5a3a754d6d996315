/- Contracts: each given function is its plain function, printed by a program. -/
import Derived.Test.YtpkigeapefgmjaaCon3
open Go Go.Lft
set_option linter.unusedVariables false
namespace Go.Proofs.Pk

noncomputable def made_Dice_Windows_con : Con := ⟨51, [.ref [(.list (.int .i64)), (.int .i64)]], [(.list (.int .i64)), (.int .i64)], ⟨[.own 89 (.list (.pair (.int .i64) (.int .i64)))], [.ref [(.list (.int .i64)), (.int .i64)]]⟩, [(.list (.pair (.int .i64) (.int .i64))), (.list (.int .i64)), (.int .i64)], fun h => Pw.made_Dice_Windows h.1 h.2⟩

noncomputable def made_Dice_Windows_d : FnD where
  N := 38
  np := 1
  cs := [made_Dice_Next_con, made_Dice_Pick_con]
  ds := [⟨0, [.s (.one (.bp 0 0)), .s (.one (.ol 1000000)), .s (.one (.d (.int .i64))), .s (.one (.d (.int .i64))), .b (.cell [.d (.list (.int .i64)), .d (.int .i64)] false), .b (.lst 89 (.pair (.int .i64) (.int .i64)) false)], [(.int .i64), (.int .i64), (.list (.int .i64)), (.int .i64), (.list (.pair (.int .i64) (.int .i64)))], [⟨.exit 0, [.s (.one (.ol 1500100)), .b (.cell [.d (.list (.int .i64)), .d (.int .i64)] false), .b (.lst 89 (.pair (.int .i64) (.int .i64)) false)], [(.list (.int .i64)), (.int .i64), (.list (.pair (.int .i64) (.int .i64)))]⟩], fun h => Pw.made_Dice_Windows_l0_step h.1 h.2.1 h.2.2.1 h.2.2.2.1 h.2.2.2.2⟩]
  modes := [(37, [false, false]), (60, [false, false])]
  keep := [(0, ⟨[0, 3, 4, 5], [0], [⟨1000000, 89, (.pair (.int .i64) (.int .i64)), [.slot 3], false⟩], []⟩)]
  keepX := [(0, .exit 0, ⟨[3], [0], [⟨1500100, 89, (.pair (.int .i64) (.int .i64)), [.slot 3], false⟩], []⟩)]
  ro := [true]
  dw := []

set_option maxRecDepth 100000 in
theorem made_Dice_Windows_ok : Con.OK Try.prog made_Dice_Windows_con :=
  con_of tabOk mixedOk made_Dice_Windows_d made_Dice_Windows_con Try.f51 (Try.f51.body.getD .skip) Try.func51 (by kernel_rfl) (by kernel_rfl) (Nat.le_of_ble_eq_true (by kernel_rfl)) (by kernel_rfl) (And.intro made_Dice_Next_ok (And.intro made_Dice_Pick_ok trivial)) (by kernel_rfl) (by kernel_rfl)
    (And.intro (fun h => by kernel_rfl) trivial)
    (fun h => by kernel_rfl)

noncomputable def made_Dice_Instant_con : Con := ⟨42, [.ref [(.list (.int .i64)), (.int .i64)]], [(.list (.int .i64)), (.int .i64)], ⟨[.v (.int .i64)], [.ref [(.list (.int .i64)), (.int .i64)]]⟩, [(.int .i64), (.list (.int .i64)), (.int .i64)], fun h => Pw.made_Dice_Instant h.1 h.2⟩

noncomputable def made_Dice_Instant_d : FnD where
  N := 16
  np := 1
  cs := [made_Dice_Next_con, made_Dice_Pick_con, made_Dice_Bool_con]
  ds := []
  modes := [(37, [false, false]), (60, [false, false]), (61, [false, false])]
  keep := []
  keepX := []
  ro := [false]
  dw := []

set_option maxRecDepth 100000 in
theorem made_Dice_Instant_ok : Con.OK Try.prog made_Dice_Instant_con :=
  con_of tabOk mixedOk made_Dice_Instant_d made_Dice_Instant_con Try.f42 (Try.f42.body.getD .skip) Try.func42 (by kernel_rfl) (by kernel_rfl) (Nat.le_of_ble_eq_true (by kernel_rfl)) (by kernel_rfl) (And.intro made_Dice_Next_ok (And.intro made_Dice_Pick_ok (And.intro made_Dice_Bool_ok trivial))) (by kernel_rfl) (by kernel_rfl)
    trivial
    (fun h => by kernel_rfl)

noncomputable def slices_Clone_api_Span_api_Span_con : Con := ⟨116, [.v (.list (.pair (.int .i64) (.int .i64)))], [(.list (.pair (.int .i64) (.int .i64)))], ⟨[.own 86 (.list (.pair (.int .i64) (.int .i64)))], []⟩, [(.list (.pair (.int .i64) (.int .i64)))], fun h => Pw.slices_Clone_api_Span_api_Span h⟩

noncomputable def slices_Clone_api_Span_api_Span_d : FnD where
  N := 8
  np := 1
  cs := []
  ds := []
  modes := []
  keep := []
  keepX := []
  ro := [true]
  dw := []

set_option maxRecDepth 100000 in
theorem slices_Clone_api_Span_api_Span_ok : Con.OK Try.prog slices_Clone_api_Span_api_Span_con :=
  con_clone tabOk mixedOk slices_Clone_api_Span_api_Span_d 116 (.pair (.int .i64) (.int .i64)) 86 Try.f116 (Try.f116.body.getD .skip) Try.func116 (by kernel_rfl) (by kernel_rfl) (Nat.le_of_ble_eq_true (by kernel_rfl)) (by kernel_rfl) trivial (by kernel_rfl)
    (fun h R k => by kernel_rfl)

noncomputable def span_Merge_c1_con : Con := ⟨117, [.v (.pair (.int .i64) (.int .i64))], [(.pair (.int .i64) (.int .i64))], ⟨[.v .bool], []⟩, [.bool], fun h => Pw.span_Merge_c1 h⟩

noncomputable def span_Merge_c1_d : FnD where
  N := 8
  np := 1
  cs := []
  ds := []
  modes := []
  keep := []
  keepX := []
  ro := [false]
  dw := []

set_option maxRecDepth 100000 in
theorem span_Merge_c1_ok : Con.OK Try.prog span_Merge_c1_con :=
  con_of tabOk mixedOk span_Merge_c1_d span_Merge_c1_con Try.f117 (Try.f117.body.getD .skip) Try.func117 (by kernel_rfl) (by kernel_rfl) (Nat.le_of_ble_eq_true (by kernel_rfl)) (by kernel_rfl) trivial (by kernel_rfl) (by kernel_rfl)
    trivial
    (fun h => by kernel_rfl)

noncomputable def slices_IndexFunc_api_Span_api_Span_con : Con := ⟨127, [.rl 86 (.list (.pair (.int .i64) (.int .i64))), .clo 117 []], [(.list (.pair (.int .i64) (.int .i64)))], ⟨[.v (.int .i64)], [.rl (.list (.pair (.int .i64) (.int .i64)))]⟩, [(.int .i64), (.list (.pair (.int .i64) (.int .i64)))], fun h => Pw.slices_IndexFunc_api_Span_api_Span h⟩

noncomputable def slices_IndexFunc_api_Span_api_Span_d : FnD where
  N := 19
  np := 2
  cs := [span_Merge_c1_con]
  ds := [⟨0, [.s (.one (.ol 0)), .s (.one (.clo 117 [])), .s (.one (.d (.int .i64))), .s (.one (.d (.int .i64))), .b (.lst 86 (.pair (.int .i64) (.int .i64)) false)], [(.int .i64), (.int .i64), (.list (.pair (.int .i64) (.int .i64)))], [⟨.ret, [.s (.one (.d (.int .i64))), .b (.lst 86 (.pair (.int .i64) (.int .i64)) false)], [(.int .i64), (.list (.pair (.int .i64) (.int .i64)))]⟩, ⟨.exit 0, [.b (.lst 86 (.pair (.int .i64) (.int .i64)) false)], [(.list (.pair (.int .i64) (.int .i64)))]⟩], fun h => Pw.slices_IndexFunc_api_Span_api_Span_l0_step h.1 h.2.1 h.2.2⟩]
  modes := [(117, [false])]
  keep := [(0, ⟨[0, 1, 7, 8], [0], [], []⟩)]
  keepX := [(0, .ret, ⟨[4], [0], [], []⟩),
    (0, .exit 0, ⟨[], [0], [], []⟩)]
  ro := [false]
  dw := []

set_option maxRecDepth 100000 in
theorem slices_IndexFunc_api_Span_api_Span_ok : Con.OK Try.prog slices_IndexFunc_api_Span_api_Span_con :=
  con_of tabOk mixedOk slices_IndexFunc_api_Span_api_Span_d slices_IndexFunc_api_Span_api_Span_con Try.f127 (Try.f127.body.getD .skip) Try.func127 (by kernel_rfl) (by kernel_rfl) (Nat.le_of_ble_eq_true (by kernel_rfl)) (by kernel_rfl) (And.intro span_Merge_c1_ok trivial) (by kernel_rfl) (by kernel_rfl)
    (And.intro (fun h => by kernel_rfl) trivial)
    (fun h => by kernel_rfl)

noncomputable def slices_DeleteFunc_api_Span_api_Span_con : Con := ⟨115, [.rl 86 (.list (.pair (.int .i64) (.int .i64))), .clo 117 []], [(.list (.pair (.int .i64) (.int .i64)))], ⟨[.hd], [.rl (.list (.pair (.int .i64) (.int .i64)))]⟩, [(.int .i64), (.list (.pair (.int .i64) (.int .i64)))], fun h => Pw.slices_DeleteFunc_api_Span_api_Span h⟩

noncomputable def slices_DeleteFunc_api_Span_api_Span_d : FnD where
  N := 42
  np := 2
  cs := [span_Merge_c1_con, slices_IndexFunc_api_Span_api_Span_con]
  ds := [⟨0, [.s (.one (.ol 0)), .s (.one (.clo 117 [])), .s (.one (.d (.int .i64))), .s (.one (.d (.int .i64))), .b (.lst 86 (.pair (.int .i64) (.int .i64)) false)], [(.int .i64), (.int .i64), (.list (.pair (.int .i64) (.int .i64)))], [⟨.exit 0, [.s (.one (.ol 0)), .s (.one (.d (.int .i64))), .b (.lst 86 (.pair (.int .i64) (.int .i64)) false)], [(.int .i64), (.list (.pair (.int .i64) (.int .i64)))]⟩], fun h => Pw.slices_DeleteFunc_api_Span_api_Span_l0_step h.1 h.2.1 h.2.2⟩]
  modes := [(117, [false]), (127, [true, false])]
  keep := [(0, ⟨[0, 1, 5, 6], [0], [], []⟩)]
  keepX := [(0, .exit 0, ⟨[0, 5], [0], [], []⟩)]
  ro := [false]
  dw := []
  hd := true

set_option maxRecDepth 100000 in
theorem slices_DeleteFunc_api_Span_api_Span_ok : Con.OK Try.prog slices_DeleteFunc_api_Span_api_Span_con :=
  con_of tabOk mixedOk slices_DeleteFunc_api_Span_api_Span_d slices_DeleteFunc_api_Span_api_Span_con Try.f115 (Try.f115.body.getD .skip) Try.func115 (by kernel_rfl) (by kernel_rfl) (Nat.le_of_ble_eq_true (by kernel_rfl)) (by kernel_rfl) (And.intro span_Merge_c1_ok (And.intro slices_IndexFunc_api_Span_api_Span_ok trivial)) (by kernel_rfl) (by kernel_rfl)
    (And.intro (fun h => by kernel_rfl) trivial)
    (fun h => by kernel_rfl)

noncomputable def span_Merge_c2_con : Con := ⟨119, [.v (.pair (.int .i64) (.int .i64)), .v (.pair (.int .i64) (.int .i64))], [(.pair (.int .i64) (.int .i64)), (.pair (.int .i64) (.int .i64))], ⟨[.v (.int .i64)], []⟩, [(.int .i64)], fun h => Pw.span_Merge_c2 h.1 h.2⟩

noncomputable def span_Merge_c2_d : FnD where
  N := 10
  np := 2
  cs := []
  ds := []
  modes := []
  keep := []
  keepX := []
  ro := [false]
  dw := []

set_option maxRecDepth 100000 in
theorem span_Merge_c2_ok : Con.OK Try.prog span_Merge_c2_con :=
  con_of tabOk mixedOk span_Merge_c2_d span_Merge_c2_con Try.f119 (Try.f119.body.getD .skip) Try.func119 (by kernel_rfl) (by kernel_rfl) (Nat.le_of_ble_eq_true (by kernel_rfl)) (by kernel_rfl) trivial (by kernel_rfl) (by kernel_rfl)
    trivial
    (fun h => by kernel_rfl)

noncomputable def slices_SortFunc_api_Span_api_Span_119_con : Con := ⟨118, [.rl 86 (.list (.pair (.int .i64) (.int .i64))), .clo 119 []], [(.list (.pair (.int .i64) (.int .i64)))], ⟨[], [.rl (.list (.pair (.int .i64) (.int .i64)))]⟩, [(.list (.pair (.int .i64) (.int .i64)))], fun h => Pw.slices_SortFunc_api_Span_api_Span_119 h⟩

noncomputable def slices_SortFunc_api_Span_api_Span_119_d : FnD where
  N := 14
  np := 2
  cs := [span_Merge_c2_con]
  ds := []
  modes := [(119, [false, false])]
  keep := []
  keepX := []
  ro := []
  dw := []

theorem slices_SortFunc_api_Span_api_Span_119_ok : Con.OK Try.prog slices_SortFunc_api_Span_api_Span_119_con :=
  con_sort Try.sort118 ((.pair (.int .i64) (.int .i64))) rfl 86 Try.isAgg86 Try.sizeOf86 _ 119 (enters_of Try.func119 (by kernel_rfl) rfl) sort119_cmp sort119_swo 118 rfl

noncomputable def span_Merge_con : Con := ⟨104, [.v (.list (.pair (.int .i64) (.int .i64)))], [(.list (.pair (.int .i64) (.int .i64)))], ⟨[.own 86 (.list (.pair (.int .i64) (.int .i64)))], []⟩, [(.list (.pair (.int .i64) (.int .i64)))], fun h => Pw.span_Merge h⟩

noncomputable def span_Merge_d : FnD where
  N := 54
  np := 1
  cs := [slices_Clone_api_Span_api_Span_con, slices_DeleteFunc_api_Span_api_Span_con, slices_SortFunc_api_Span_api_Span_119_con]
  ds := [⟨0, [.s (.one (.ol 1000000)), .s (.one (.ol 1000001)), .s (.one (.d (.int .i64))), .s (.one (.d (.int .i64))), .b (.lst 86 (.pair (.int .i64) (.int .i64)) false), .b (.lst 86 (.pair (.int .i64) (.int .i64)) false)], [(.int .i64), (.int .i64), (.list (.pair (.int .i64) (.int .i64))), (.list (.pair (.int .i64) (.int .i64)))], [⟨.exit 0, [.s (.one (.ol 1500100)), .b (.lst 86 (.pair (.int .i64) (.int .i64)) false)], [(.list (.pair (.int .i64) (.int .i64)))]⟩], fun h => Pw.span_Merge_l0_step h.1 h.2.1 h.2.2.1 h.2.2.2⟩]
  modes := [(115, [true, false]), (116, [false]), (118, [true, false])]
  keep := [(0, ⟨[4, 13, 14, 15], [], [⟨1000000, 86, (.pair (.int .i64) (.int .i64)), [.slot 4], false⟩, ⟨1000001, 86, (.pair (.int .i64) (.int .i64)), [.slot 13], false⟩], []⟩)]
  keepX := [(0, .exit 0, ⟨[4], [], [⟨1500100, 86, (.pair (.int .i64) (.int .i64)), [.slot 4], false⟩], []⟩)]
  ro := [true]
  dw := [(9, [[], [], [], [], [], [], [], [], [], [], [], [], [], [], [1000000]])]

set_option maxRecDepth 100000 in
theorem span_Merge_ok : Con.OK Try.prog span_Merge_con :=
  con_of tabOk mixedOk span_Merge_d span_Merge_con Try.f104 (Try.f104.body.getD .skip) Try.func104 (by kernel_rfl) (by kernel_rfl) (Nat.le_of_ble_eq_true (by kernel_rfl)) (by kernel_rfl) (And.intro slices_Clone_api_Span_api_Span_ok (And.intro slices_DeleteFunc_api_Span_api_Span_ok (And.intro slices_SortFunc_api_Span_api_Span_119_ok trivial))) (by kernel_rfl) (by kernel_rfl)
    (And.intro (fun h => by kernel_rfl) trivial)
    (fun h => by kernel_rfl)

noncomputable def week_TimesOf_con : Con := ⟨88, [.v (.pair (.int .i64) (.list (.pair (.int .i64) (.int .i64)))), .v (.list (.pair (.int .i64) (.int .i64))), .v (.int .i64), .v (.int .i64)], [(.pair (.int .i64) (.list (.pair (.int .i64) (.int .i64)))), (.list (.pair (.int .i64) (.int .i64))), (.int .i64), (.int .i64)], ⟨[.own 86 (.list (.pair (.int .i64) (.int .i64)))], []⟩, [(.list (.pair (.int .i64) (.int .i64)))], fun h => Pw.week_TimesOf h.1 h.2.1 h.2.2.1 h.2.2.2⟩

noncomputable def week_TimesOf_d : FnD where
  N := 73
  np := 4
  cs := [zone_Table_Pieces_con, span_Merge_con]
  ds := [⟨0, [.s (.one (.d (.list (.pair (.int .i64) (.int .i64))))), .s (.one (.ol 1000000)), .s (.one (.ol 1000001)), .s (.one (.d (.int .i64))), .s (.one (.d (.int .i64))), .b (.lst 86 (.pair (.int .i64) (.int .i64)) false), .b (.lst 147 (.pair (.int .i64) (.pair (.int .i64) (.int .i64))) false)], [(.list (.pair (.int .i64) (.int .i64))), (.int .i64), (.int .i64), (.list (.pair (.int .i64) (.int .i64))), (.list (.pair (.int .i64) (.pair (.int .i64) (.int .i64))))], [⟨.exit 0, [.s (.one (.ol 1500100)), .b (.lst 86 (.pair (.int .i64) (.int .i64)) false)], [(.list (.pair (.int .i64) (.int .i64)))]⟩], fun h => Pw.week_TimesOf_l0_step h.1 h.2.1 h.2.2.1 h.2.2.2.1 h.2.2.2.2⟩,
    ⟨2, [.s (.one (.d (.list (.pair (.int .i64) (.int .i64))))), .s (.one (.ol 1002000)), .s (.one (.bp 704 0)), .s (.one (.d (.int .i64))), .s (.one (.ol 1002001)), .s (.one (.d (.int .i64))), .s (.one (.d (.int .i64))), .b (.cell [.d (.int .i64), .d (.int .i64), .d (.int .i64)] false), .b (.lst 86 (.pair (.int .i64) (.int .i64)) false), .b (.lst 147 (.pair (.int .i64) (.pair (.int .i64) (.int .i64))) false)], [(.list (.pair (.int .i64) (.int .i64))), (.int .i64), (.int .i64), (.int .i64), (.int .i64), (.int .i64), (.int .i64), (.list (.pair (.int .i64) (.int .i64))), (.list (.pair (.int .i64) (.pair (.int .i64) (.int .i64))))], [⟨.exit 2, [.s (.one (.d (.list (.pair (.int .i64) (.int .i64))))), .s (.one (.ol 1502300)), .s (.one (.ol 1502301)), .s (.one (.d (.int .i64))), .s (.one (.d (.int .i64))), .b (.lst 86 (.pair (.int .i64) (.int .i64)) false), .b (.lst 147 (.pair (.int .i64) (.pair (.int .i64) (.int .i64))) false)], [(.list (.pair (.int .i64) (.int .i64))), (.int .i64), (.int .i64), (.list (.pair (.int .i64) (.int .i64))), (.list (.pair (.int .i64) (.pair (.int .i64) (.int .i64))))]⟩], fun h => Pw.week_TimesOf_l2_step h.1 h.2.1 h.2.2.1 h.2.2.2.1 h.2.2.2.2.1 h.2.2.2.2.2.1 h.2.2.2.2.2.2.1 h.2.2.2.2.2.2.2.1 h.2.2.2.2.2.2.2.2⟩,
    ⟨4, [.s (.one (.d (.list (.pair (.int .i64) (.int .i64))))), .s (.one (.ol 1004000)), .s (.one (.bp 704 0)), .s (.one (.d (.int .i64))), .s (.one (.ol 1004001)), .s (.one (.d (.int .i64))), .s (.one (.d (.int .i64))), .s (.one (.d (.list (.pair (.int .i64) (.int .i64))))), .s (.one (.d (.int .i64))), .s (.one (.d (.int .i64))), .b (.cell [.d (.int .i64), .d (.int .i64), .d (.int .i64)] false), .b (.lst 86 (.pair (.int .i64) (.int .i64)) false), .b (.lst 147 (.pair (.int .i64) (.pair (.int .i64) (.int .i64))) false)], [(.list (.pair (.int .i64) (.int .i64))), (.int .i64), (.int .i64), (.int .i64), (.list (.pair (.int .i64) (.int .i64))), (.int .i64), (.int .i64), (.int .i64), (.int .i64), (.int .i64), (.list (.pair (.int .i64) (.int .i64))), (.list (.pair (.int .i64) (.pair (.int .i64) (.int .i64))))], [⟨.exit 4, [.s (.one (.d (.list (.pair (.int .i64) (.int .i64))))), .s (.one (.ol 1504500)), .s (.one (.bp 704 0)), .s (.one (.d (.int .i64))), .s (.one (.ol 1504501)), .s (.one (.d (.int .i64))), .s (.one (.d (.int .i64))), .b (.cell [.d (.int .i64), .d (.int .i64), .d (.int .i64)] false), .b (.lst 86 (.pair (.int .i64) (.int .i64)) false), .b (.lst 147 (.pair (.int .i64) (.pair (.int .i64) (.int .i64))) false)], [(.list (.pair (.int .i64) (.int .i64))), (.int .i64), (.int .i64), (.int .i64), (.int .i64), (.int .i64), (.int .i64), (.list (.pair (.int .i64) (.int .i64))), (.list (.pair (.int .i64) (.pair (.int .i64) (.int .i64))))]⟩], fun h => Pw.week_TimesOf_l4_step h.1 h.2.1 h.2.2.1 h.2.2.2.1 h.2.2.2.2.1 h.2.2.2.2.2.1 h.2.2.2.2.2.2.1 h.2.2.2.2.2.2.2.1 h.2.2.2.2.2.2.2.2.1 h.2.2.2.2.2.2.2.2.2.1 h.2.2.2.2.2.2.2.2.2.2.1 h.2.2.2.2.2.2.2.2.2.2.2⟩]
  modes := [(99, [false, false, false]), (104, [false])]
  keep := [(0, ⟨[1, 9, 19, 20, 21], [], [⟨1000000, 86, (.pair (.int .i64) (.int .i64)), [.slot 9], false⟩, ⟨1000001, 147, (.pair (.int .i64) (.pair (.int .i64) (.int .i64))), [.slot 19], false⟩], []⟩),
    (2, ⟨[1, 9, 11, 13, 19, 20, 21], [704], [⟨1002000, 86, (.pair (.int .i64) (.int .i64)), [.slot 9], false⟩, ⟨1002001, 147, (.pair (.int .i64) (.pair (.int .i64) (.int .i64))), [.slot 19], false⟩], []⟩),
    (4, ⟨[1, 9, 11, 13, 19, 20, 21, 45, 46, 47], [704], [⟨1004000, 86, (.pair (.int .i64) (.int .i64)), [.slot 9], false⟩, ⟨1004001, 147, (.pair (.int .i64) (.pair (.int .i64) (.int .i64))), [.slot 19], false⟩], []⟩)]
  keepX := [(0, .exit 0, ⟨[9], [], [⟨1500100, 86, (.pair (.int .i64) (.int .i64)), [.slot 9], false⟩], []⟩),
    (2, .exit 2, ⟨[1, 9, 19, 20, 21], [], [⟨1502300, 86, (.pair (.int .i64) (.int .i64)), [.slot 9], false⟩, ⟨1502301, 147, (.pair (.int .i64) (.pair (.int .i64) (.int .i64))), [.slot 19], false⟩], []⟩),
    (4, .exit 4, ⟨[1, 9, 11, 13, 19, 20, 21], [704], [⟨1504500, 86, (.pair (.int .i64) (.int .i64)), [.slot 9], false⟩, ⟨1504501, 147, (.pair (.int .i64) (.pair (.int .i64) (.int .i64))), [.slot 19], false⟩], []⟩)]
  ro := [true]
  dw := []

set_option maxRecDepth 100000 in
theorem week_TimesOf_ok : Con.OK Try.prog week_TimesOf_con :=
  con_of tabOk mixedOk week_TimesOf_d week_TimesOf_con Try.f88 (Try.f88.body.getD .skip) Try.func88 (by kernel_rfl) (by kernel_rfl) (Nat.le_of_ble_eq_true (by kernel_rfl)) (by kernel_rfl) (And.intro zone_Table_Pieces_ok (And.intro span_Merge_ok trivial)) (by kernel_rfl) (by kernel_rfl)
    (And.intro (fun h => by kernel_rfl) (And.intro (fun h => by kernel_rfl) (And.intro (fun h => by kernel_rfl) trivial)))
    (fun h => by kernel_rfl)

noncomputable def week_Times_con : Con := ⟨52, [.v (.pair .str (.pair (.int .i64) (.list (.pair (.int .i64) (.pair (.int .i64) (.pair (.int .i64) (.pair (.int .i64) (.pair (.int .i64) (.pair (.int .i64) (.int .i64)))))))))), .v (.list (.pair (.int .i64) (.int .i64))), .v (.int .i64), .v (.int .i64)], [(.pair .str (.pair (.int .i64) (.list (.pair (.int .i64) (.pair (.int .i64) (.pair (.int .i64) (.pair (.int .i64) (.pair (.int .i64) (.pair (.int .i64) (.int .i64)))))))))), (.list (.pair (.int .i64) (.int .i64))), (.int .i64), (.int .i64)], ⟨[.own 86 (.list (.pair (.int .i64) (.int .i64))), .v (.int .i64)], []⟩, [(.list (.pair (.int .i64) (.int .i64))), (.int .i64)], fun h => Pw.week_Times h.1 h.2.1 h.2.2.1 h.2.2.2⟩

noncomputable def week_Times_d : FnD where
  N := 57
  np := 4
  cs := [zone_Of_con, week_Check_con, week_TimesOf_con]
  ds := []
  modes := [(57, [false]), (67, [false]), (88, [false, false, false, false])]
  keep := []
  keepX := []
  ro := [true, false]
  dw := []

set_option maxRecDepth 100000 in
theorem week_Times_ok : Con.OK Try.prog week_Times_con :=
  con_of tabOk mixedOk week_Times_d week_Times_con Try.f52 (Try.f52.body.getD .skip) Try.func52 (by kernel_rfl) (by kernel_rfl) (Nat.le_of_ble_eq_true (by kernel_rfl)) (by kernel_rfl) (And.intro zone_Of_ok (And.intro week_Check_ok (And.intro week_TimesOf_ok trivial))) (by kernel_rfl) (by kernel_rfl)
    trivial
    (fun h => by kernel_rfl)

noncomputable def r03_Valid_con : Con := ⟨53, [.v (.list (.pair (.int .i64) (.int .i64)))], [(.list (.pair (.int .i64) (.int .i64)))], ⟨[.v .bool], []⟩, [.bool], fun h => Pw.r03_Valid h⟩

noncomputable def r03_Valid_d : FnD where
  N := 58
  np := 1
  cs := []
  ds := [⟨0, [.s (.one (.d (.list (.pair (.int .i64) (.int .i64))))), .s (.one (.d (.int .i64)))], [(.list (.pair (.int .i64) (.int .i64))), (.int .i64)], [⟨.ret, [.s (.one (.d .bool))], [.bool]⟩, ⟨.exit 0, [], []⟩], fun h => Pw.r03_Valid_l0_step h.1 h.2⟩]
  modes := []
  keep := [(0, ⟨[0, 3], [], [], []⟩)]
  keepX := [(0, .ret, ⟨[2], [], [], []⟩),
    (0, .exit 0, ⟨[], [], [], []⟩)]
  ro := [false]
  dw := []

set_option maxRecDepth 100000 in
theorem r03_Valid_ok : Con.OK Try.prog r03_Valid_con :=
  con_of tabOk mixedOk r03_Valid_d r03_Valid_con Try.f53 (Try.f53.body.getD .skip) Try.func53 (by kernel_rfl) (by kernel_rfl) (Nat.le_of_ble_eq_true (by kernel_rfl)) (by kernel_rfl) trivial (by kernel_rfl) (by kernel_rfl)
    (And.intro (fun h => by kernel_rfl) trivial)
    (fun h => by kernel_rfl)

noncomputable def r03_has_con : Con := ⟨90, [.v (.list (.pair (.int .i64) (.int .i64))), .v (.int .i64)], [(.list (.pair (.int .i64) (.int .i64))), (.int .i64)], ⟨[.v .bool], []⟩, [.bool], fun h => Pw.r03_has h.1 h.2⟩

noncomputable def r03_has_d : FnD where
  N := 40
  np := 2
  cs := []
  ds := [⟨0, [.s (.one (.d (.list (.pair (.int .i64) (.int .i64))))), .s (.one (.d (.int .i64))), .s (.one (.d (.int .i64))), .s (.one (.d (.int .i64)))], [(.list (.pair (.int .i64) (.int .i64))), (.int .i64), (.int .i64), (.int .i64)], [⟨.exit 0, [.s (.one (.d (.list (.pair (.int .i64) (.int .i64))))), .s (.one (.d (.int .i64))), .s (.one (.d (.int .i64)))], [(.list (.pair (.int .i64) (.int .i64))), (.int .i64), (.int .i64)]⟩], fun h => Pw.r03_has_l0_step h.1 h.2.1 h.2.2.1 h.2.2.2⟩]
  modes := []
  keep := [(0, ⟨[0, 1, 5, 6], [], [], []⟩)]
  keepX := [(0, .exit 0, ⟨[0, 1, 5], [], [], []⟩)]
  ro := [false]
  dw := []

set_option maxRecDepth 100000 in
theorem r03_has_ok : Con.OK Try.prog r03_has_con :=
  con_of tabOk mixedOk r03_has_d r03_has_con Try.f90 (Try.f90.body.getD .skip) Try.func90 (by kernel_rfl) (by kernel_rfl) (Nat.le_of_ble_eq_true (by kernel_rfl)) (by kernel_rfl) trivial (by kernel_rfl) (by kernel_rfl)
    (And.intro (fun h => by kernel_rfl) trivial)
    (fun h => by kernel_rfl)

noncomputable def r03_Has_con : Con := ⟨55, [.v (.list (.pair (.int .i64) (.int .i64))), .v (.int .i64)], [(.list (.pair (.int .i64) (.int .i64))), (.int .i64)], ⟨[.v .bool], []⟩, [.bool], fun h => Pw.r03_Has h.1 h.2⟩

noncomputable def r03_Has_d : FnD where
  N := 12
  np := 2
  cs := [r03_Valid_con, r03_has_con]
  ds := []
  modes := [(53, [false]), (90, [false, false])]
  keep := []
  keepX := []
  ro := [false]
  dw := []

set_option maxRecDepth 100000 in
theorem r03_Has_ok : Con.OK Try.prog r03_Has_con :=
  con_of tabOk mixedOk r03_Has_d r03_Has_con Try.f55 (Try.f55.body.getD .skip) Try.func55 (by kernel_rfl) (by kernel_rfl) (Nat.le_of_ble_eq_true (by kernel_rfl)) (by kernel_rfl) (And.intro r03_Valid_ok (And.intro r03_has_ok trivial)) (by kernel_rfl) (by kernel_rfl)
    trivial
    (fun h => by kernel_rfl)

noncomputable def law05_WeekTimes_con : Con := ⟨7, [.v (.list (.int .i64)), .v (.int .i64)], [(.list (.int .i64)), (.int .i64)], ⟨[.v .bool], []⟩, [.bool], fun h => Pw.law05_WeekTimes h.1 h.2⟩

noncomputable def law05_WeekTimes_d : FnD where
  N := 113
  np := 2
  cs := [made_Light_con, made_Roll_con, made_Dice_Zone_con, made_Mod_con, week_In_con, law05_sane_con, made_Dice_Windows_con, made_Dice_Instant_con, week_Times_con, r03_Valid_con, r03_Has_con]
  ds := [⟨0, [.s (.one (.bp 384 0)), .s (.one (.ol 1000000)), .s (.one (.d (.int .i64))), .s (.one (.d (.int .i64))), .s (.one (.ol 1000001)), .s (.one (.ol 1000002)), .s (.one (.d (.int .i64))), .s (.one (.d (.int .i64))), .b (.cell [.d .str, .d (.int .i64), .d (.list (.pair (.int .i64) (.pair (.int .i64) (.pair (.int .i64) (.pair (.int .i64) (.pair (.int .i64) (.pair (.int .i64) (.int .i64))))))))] false), .b (.lst 89 (.pair (.int .i64) (.int .i64)) true), .b (.lst 86 (.pair (.int .i64) (.int .i64)) false), .b (.lst 3 (.int .i64) false)], [(.int .i64), (.int .i64), (.int .i64), (.int .i64), .str, (.int .i64), (.list (.pair (.int .i64) (.pair (.int .i64) (.pair (.int .i64) (.pair (.int .i64) (.pair (.int .i64) (.pair (.int .i64) (.int .i64)))))))), (.list (.pair (.int .i64) (.int .i64))), (.list (.pair (.int .i64) (.int .i64))), (.list (.int .i64))], [⟨.exit 0, [.s (.one (.bp 384 0)), .s (.one (.ol 1500100)), .s (.one (.d (.int .i64))), .s (.one (.d (.int .i64))), .s (.one (.ol 1500101)), .s (.one (.ol 1500102)), .b (.cell [.d .str, .d (.int .i64), .d (.list (.pair (.int .i64) (.pair (.int .i64) (.pair (.int .i64) (.pair (.int .i64) (.pair (.int .i64) (.pair (.int .i64) (.int .i64))))))))] false), .b (.lst 89 (.pair (.int .i64) (.int .i64)) true), .b (.lst 86 (.pair (.int .i64) (.int .i64)) false), .b (.lst 3 (.int .i64) false)], [(.int .i64), (.int .i64), .str, (.int .i64), (.list (.pair (.int .i64) (.pair (.int .i64) (.pair (.int .i64) (.pair (.int .i64) (.pair (.int .i64) (.pair (.int .i64) (.int .i64)))))))), (.list (.pair (.int .i64) (.int .i64))), (.list (.pair (.int .i64) (.int .i64))), (.list (.int .i64))]⟩], fun h => Pw.law05_WeekTimes_l0_step h.1 h.2.1 h.2.2.1 h.2.2.2.1 h.2.2.2.2.1 h.2.2.2.2.2.1 h.2.2.2.2.2.2.1 h.2.2.2.2.2.2.2.1 h.2.2.2.2.2.2.2.2.1 h.2.2.2.2.2.2.2.2.2⟩,
    ⟨2, [.s (.one (.bp 384 0)), .s (.one (.ol 1002000)), .s (.one (.d (.int .i64))), .s (.one (.d (.int .i64))), .s (.one (.ol 1002001)), .s (.one (.ol 1002002)), .s (.one (.d (.int .i64))), .s (.one (.d (.int .i64))), .b (.cell [.d .str, .d (.int .i64), .d (.list (.pair (.int .i64) (.pair (.int .i64) (.pair (.int .i64) (.pair (.int .i64) (.pair (.int .i64) (.pair (.int .i64) (.int .i64))))))))] false), .b (.lst 89 (.pair (.int .i64) (.int .i64)) true), .b (.lst 86 (.pair (.int .i64) (.int .i64)) false), .b (.lst 3 (.int .i64) false)], [(.int .i64), (.int .i64), (.int .i64), (.int .i64), .str, (.int .i64), (.list (.pair (.int .i64) (.pair (.int .i64) (.pair (.int .i64) (.pair (.int .i64) (.pair (.int .i64) (.pair (.int .i64) (.int .i64)))))))), (.list (.pair (.int .i64) (.int .i64))), (.list (.pair (.int .i64) (.int .i64))), (.list (.int .i64))], [⟨.ret, [.s (.one (.d .bool))], [.bool]⟩, ⟨.exit 2, [], []⟩], fun h => Pw.law05_WeekTimes_l2_step h.1 h.2.1 h.2.2.1 h.2.2.2.1 h.2.2.2.2.1 h.2.2.2.2.2.1 h.2.2.2.2.2.2.1 h.2.2.2.2.2.2.2.1 h.2.2.2.2.2.2.2.2.1 h.2.2.2.2.2.2.2.2.2⟩]
  modes := [(10, [false]), (12, [false]), (13, [false, false]), (23, [false, false]), (42, [false]), (50, []), (51, [false]), (52, [false, false, false, false]), (53, [false]), (54, [false, false, false]), (55, [false, false])]
  keep := [(0, ⟨[6, 7, 8, 9, 10, 12, 57, 58], [384], [⟨1000000, 89, (.pair (.int .i64) (.int .i64)), [.slot 7], false⟩, ⟨1000001, 86, (.pair (.int .i64) (.int .i64)), [.slot 10], false⟩, ⟨1000002, 3, (.int .i64), [.slot 12], false⟩], []⟩),
    (2, ⟨[6, 7, 8, 9, 10, 87, 88, 89], [384], [⟨1002000, 89, (.pair (.int .i64) (.int .i64)), [.slot 7], false⟩, ⟨1002001, 86, (.pair (.int .i64) (.int .i64)), [.slot 10], false⟩, ⟨1002002, 3, (.int .i64), [.slot 87], false⟩], []⟩)]
  keepX := [(0, .exit 0, ⟨[6, 7, 8, 9, 10, 12], [384], [⟨1500100, 89, (.pair (.int .i64) (.int .i64)), [.slot 7], false⟩, ⟨1500101, 86, (.pair (.int .i64) (.int .i64)), [.slot 10], false⟩, ⟨1500102, 3, (.int .i64), [.slot 12], false⟩], []⟩),
    (2, .ret, ⟨[4], [], [], []⟩),
    (2, .exit 2, ⟨[], [], [], []⟩)]
  ro := [false]
  dw := [(14, [[], [], [], [], [], [], [], [], [], [], [], [], [], [], [], [], [], [], [], [], [], [], [], [5376], [5440, 1000002], []])]

set_option maxRecDepth 100000 in
theorem law05_WeekTimes_ok : Con.OK Try.prog law05_WeekTimes_con :=
  con_of tabOk mixedOk law05_WeekTimes_d law05_WeekTimes_con Try.f7 (Try.f7.body.getD .skip) Try.func7 (by kernel_rfl) (by kernel_rfl) (Nat.le_of_ble_eq_true (by kernel_rfl)) (by kernel_rfl) (And.intro made_Light_ok (And.intro made_Roll_ok (And.intro made_Dice_Zone_ok (And.intro made_Mod_ok (And.intro week_In_ok (And.intro law05_sane_ok (And.intro made_Dice_Windows_ok (And.intro made_Dice_Instant_ok (And.intro week_Times_ok (And.intro r03_Valid_ok (And.intro r03_Has_ok trivial))))))))))) (by kernel_rfl) (by kernel_rfl)
    (And.intro (fun h => by kernel_rfl) (And.intro (fun h => by kernel_rfl) trivial))
    (fun h => by kernel_rfl)

noncomputable def week_Length_con : Con := ⟨58, [.v (.list (.pair (.int .i64) (.int .i64)))], [(.list (.pair (.int .i64) (.int .i64)))], ⟨[.v (.int .i64)], []⟩, [(.int .i64)], fun h => Pw.week_Length h⟩

noncomputable def week_Length_d : FnD where
  N := 24
  np := 1
  cs := [week_Check_con]
  ds := [⟨0, [.s (.one (.d (.int .i64))), .s (.one (.d (.list (.pair (.int .i64) (.int .i64))))), .s (.one (.d (.int .i64))), .s (.one (.d (.int .i64)))], [(.int .i64), (.list (.pair (.int .i64) (.int .i64))), (.int .i64), (.int .i64)], [⟨.exit 0, [.s (.one (.d (.int .i64)))], [(.int .i64)]⟩], fun h => Pw.week_Length_l0_step h.1 h.2.1 h.2.2.1 h.2.2.2⟩]
  modes := [(57, [false])]
  keep := [(0, ⟨[3, 9, 10, 11], [], [], []⟩)]
  keepX := [(0, .exit 0, ⟨[3], [], [], []⟩)]
  ro := [false]
  dw := []

set_option maxRecDepth 100000 in
theorem week_Length_ok : Con.OK Try.prog week_Length_con :=
  con_of tabOk mixedOk week_Length_d week_Length_con Try.f58 (Try.f58.body.getD .skip) Try.func58 (by kernel_rfl) (by kernel_rfl) (Nat.le_of_ble_eq_true (by kernel_rfl)) (by kernel_rfl) (And.intro week_Check_ok trivial) (by kernel_rfl) (by kernel_rfl)
    (And.intro (fun h => by kernel_rfl) trivial)
    (fun h => by kernel_rfl)

noncomputable def law05_WeekLimits_con : Con := ⟨8, [.v (.int .i64)], [(.int .i64)], ⟨[.v .bool], []⟩, [.bool], fun h => Pw.law05_WeekLimits h⟩

noncomputable def law05_WeekLimits_d : FnD where
  N := 112
  np := 1
  cs := [made_Mod_con, week_Check_con, week_Invert_con, week_In_con, law05_sane_con, week_Times_con, week_Length_con]
  ds := [⟨0, [.s (.one (.d (.int .i64))), .s (.one (.ol 1000000)), .s (.one (.d (.int .i64))), .b (.lst 89 (.pair (.int .i64) (.int .i64)) false)], [(.int .i64), (.int .i64), (.list (.pair (.int .i64) (.int .i64)))], [⟨.exit 0, [.s (.one (.d (.int .i64))), .s (.one (.ol 1500100)), .b (.lst 89 (.pair (.int .i64) (.int .i64)) false)], [(.int .i64), (.list (.pair (.int .i64) (.int .i64)))]⟩], fun h => Pw.law05_WeekLimits_l0_step h.1 h.2.1 h.2.2⟩]
  modes := [(23, [false, false]), (50, []), (52, [false, false, false, false]), (54, [false, false, false]), (56, [false]), (57, [false]), (58, [false])]
  keep := [(0, ⟨[0, 3, 4], [], [⟨1000000, 89, (.pair (.int .i64) (.int .i64)), [.slot 3], false⟩], []⟩)]
  keepX := [(0, .exit 0, ⟨[0, 3], [], [⟨1500100, 89, (.pair (.int .i64) (.int .i64)), [.slot 3], false⟩], []⟩)]
  ro := [false]
  dw := []

set_option maxRecDepth 100000 in
theorem law05_WeekLimits_ok : Con.OK Try.prog law05_WeekLimits_con :=
  con_of tabOk mixedOk law05_WeekLimits_d law05_WeekLimits_con Try.f8 (Try.f8.body.getD .skip) Try.func8 (by kernel_rfl) (by kernel_rfl) (Nat.le_of_ble_eq_true (by kernel_rfl)) (by kernel_rfl) (And.intro made_Mod_ok (And.intro week_Check_ok (And.intro week_Invert_ok (And.intro week_In_ok (And.intro law05_sane_ok (And.intro week_Times_ok (And.intro week_Length_ok trivial))))))) (by kernel_rfl) (by kernel_rfl)
    (And.intro (fun h => by kernel_rfl) trivial)
    (fun h => by kernel_rfl)

noncomputable def r03_Length_con : Con := ⟨59, [.v (.list (.pair (.int .i64) (.int .i64)))], [(.list (.pair (.int .i64) (.int .i64)))], ⟨[.v (.int .i64)], []⟩, [(.int .i64)], fun h => Pw.r03_Length h⟩

noncomputable def r03_Length_d : FnD where
  N := 29
  np := 1
  cs := [r03_Valid_con]
  ds := [⟨0, [.s (.one (.d (.list (.pair (.int .i64) (.int .i64))))), .s (.one (.d (.int .i64))), .s (.one (.d (.int .i64)))], [(.list (.pair (.int .i64) (.int .i64))), (.int .i64), (.int .i64)], [⟨.exit 0, [.s (.one (.d (.int .i64)))], [(.int .i64)]⟩], fun h => Pw.r03_Length_l0_step h.1 h.2.1 h.2.2⟩]
  modes := [(53, [false])]
  keep := [(0, ⟨[0, 3, 4], [], [], []⟩)]
  keepX := [(0, .exit 0, ⟨[3], [], [], []⟩)]
  ro := [false]
  dw := []

set_option maxRecDepth 100000 in
theorem r03_Length_ok : Con.OK Try.prog r03_Length_con :=
  con_of tabOk mixedOk r03_Length_d r03_Length_con Try.f59 (Try.f59.body.getD .skip) Try.func59 (by kernel_rfl) (by kernel_rfl) (Nat.le_of_ble_eq_true (by kernel_rfl)) (by kernel_rfl) (And.intro r03_Valid_ok trivial) (by kernel_rfl) (by kernel_rfl)
    (And.intro (fun h => by kernel_rfl) trivial)
    (fun h => by kernel_rfl)

noncomputable def law05_WeekLengths_con : Con := ⟨9, [.v (.list (.int .i64))], [(.list (.int .i64))], ⟨[.v .bool], []⟩, [.bool], fun h => Pw.law05_WeekLengths h⟩

noncomputable def law05_WeekLengths_d : FnD where
  N := 84
  np := 1
  cs := [made_Light_con, made_Roll_con, made_Dice_Zone_con, r04_OffsetAt_con, law05_sane_con, made_Dice_Windows_con, made_Dice_Instant_con, week_Times_con, week_Length_con, r03_Length_con]
  ds := []
  modes := [(10, [false]), (12, [false]), (13, [false, false]), (25, [false, false]), (42, [false]), (50, []), (51, [false]), (52, [false, false, false, false]), (58, [false]), (59, [false])]
  keep := []
  keepX := []
  ro := [false]
  dw := []

set_option maxRecDepth 100000 in
theorem law05_WeekLengths_ok : Con.OK Try.prog law05_WeekLengths_con :=
  con_of tabOk mixedOk law05_WeekLengths_d law05_WeekLengths_con Try.f9 (Try.f9.body.getD .skip) Try.func9 (by kernel_rfl) (by kernel_rfl) (Nat.le_of_ble_eq_true (by kernel_rfl)) (by kernel_rfl) (And.intro made_Light_ok (And.intro made_Roll_ok (And.intro made_Dice_Zone_ok (And.intro r04_OffsetAt_ok (And.intro law05_sane_ok (And.intro made_Dice_Windows_ok (And.intro made_Dice_Instant_ok (And.intro week_Times_ok (And.intro week_Length_ok (And.intro r03_Length_ok trivial)))))))))) (by kernel_rfl) (by kernel_rfl)
    trivial
    (fun h => by kernel_rfl)
end Go.Proofs.Pk
