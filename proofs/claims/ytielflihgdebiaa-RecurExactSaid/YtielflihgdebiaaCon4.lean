/- Contracts: each given function is its plain function, printed by a program. -/
import Derived.Test.YtielflihgdebiaaCon3
open Go Go.Lft
set_option linter.unusedVariables false
namespace Go.Proofs.Pk

noncomputable def recur_Handovers_con : Con := ⟨42, [.v (.pair .str (.pair (.int .i64) (.list (.pair (.int .i64) (.pair (.int .i64) (.pair (.int .i64) (.pair (.int .i64) (.pair (.int .i64) (.pair (.int .i64) (.int .i64)))))))))), .v (.pair .str (.pair (.int .i64) (.pair (.pair (.int .i64) (.int .i64)) (.pair (.int .i64) (.pair (.int .i64) (.pair (.list (.int .i64)) (.pair (.list (.pair (.int .i64) (.int .i64))) (.pair (.int .i64) (.int .i64))))))))), .v (.int .i64), .v (.int .i64)], [(.pair .str (.pair (.int .i64) (.list (.pair (.int .i64) (.pair (.int .i64) (.pair (.int .i64) (.pair (.int .i64) (.pair (.int .i64) (.pair (.int .i64) (.int .i64)))))))))), (.pair .str (.pair (.int .i64) (.pair (.pair (.int .i64) (.int .i64)) (.pair (.int .i64) (.pair (.int .i64) (.pair (.list (.int .i64)) (.pair (.list (.pair (.int .i64) (.int .i64))) (.pair (.int .i64) (.int .i64))))))))), (.int .i64), (.int .i64)], ⟨[.own 3 (.list (.int .i64)), .v (.int .i64)], []⟩, [(.list (.int .i64)), (.int .i64)], fun h => Pw.recur_Handovers h.1 h.2.1 h.2.2.1 h.2.2.2⟩

noncomputable def recur_Handovers_d : FnD where
  N := 42
  np := 4
  cs := [recur_in_con, recur_open_con, recur_HandoversOf_con]
  ds := []
  modes := [(65, [false, false]), (68, [false, false, false]), (71, [false, false, false, false])]
  keep := []
  keepX := []
  ro := [true, false]
  dw := []

set_option maxRecDepth 100000 in
theorem recur_Handovers_ok : Con.OK Try.prog recur_Handovers_con :=
  con_of tabOk mixedOk recur_Handovers_d recur_Handovers_con Try.f42 (Try.f42.body.getD .skip) Try.func42 (by kernel_rfl) (by kernel_rfl) (Nat.le_of_ble_eq_true (by kernel_rfl)) (by kernel_rfl) (And.intro recur_in_ok (And.intro recur_open_ok (And.intro recur_HandoversOf_ok trivial))) (by kernel_rfl) (by kernel_rfl)
    trivial
    (fun h => by kernel_rfl)

noncomputable def recur_Shift_con : Con := ⟨38, [.v (.pair .str (.pair (.int .i64) (.list (.pair (.int .i64) (.pair (.int .i64) (.pair (.int .i64) (.pair (.int .i64) (.pair (.int .i64) (.pair (.int .i64) (.int .i64)))))))))), .v (.pair .str (.pair (.int .i64) (.pair (.pair (.int .i64) (.int .i64)) (.pair (.int .i64) (.pair (.int .i64) (.pair (.list (.int .i64)) (.pair (.list (.pair (.int .i64) (.int .i64))) (.pair (.int .i64) (.int .i64))))))))), .v (.int .i64)], [(.pair .str (.pair (.int .i64) (.list (.pair (.int .i64) (.pair (.int .i64) (.pair (.int .i64) (.pair (.int .i64) (.pair (.int .i64) (.pair (.int .i64) (.int .i64)))))))))), (.pair .str (.pair (.int .i64) (.pair (.pair (.int .i64) (.int .i64)) (.pair (.int .i64) (.pair (.int .i64) (.pair (.list (.int .i64)) (.pair (.list (.pair (.int .i64) (.int .i64))) (.pair (.int .i64) (.int .i64))))))))), (.int .i64)], ⟨[.v (.int .i64), .v (.int .i64)], []⟩, [(.int .i64), (.int .i64)], fun h => Pw.recur_Shift h.1 h.2.1 h.2.2⟩

noncomputable def recur_Shift_d : FnD where
  N := 27
  np := 3
  cs := [recur_in_con, recur_open_con, recur_ShiftOf_con]
  ds := []
  modes := [(65, [false, false]), (68, [false, false, false]), (69, [false, false, false])]
  keep := []
  keepX := []
  ro := [false, false]
  dw := []

set_option maxRecDepth 100000 in
theorem recur_Shift_ok : Con.OK Try.prog recur_Shift_con :=
  con_of tabOk mixedOk recur_Shift_d recur_Shift_con Try.f38 (Try.f38.body.getD .skip) Try.func38 (by kernel_rfl) (by kernel_rfl) (Nat.le_of_ble_eq_true (by kernel_rfl)) (by kernel_rfl) (And.intro recur_in_ok (And.intro recur_open_ok (And.intro recur_ShiftOf_ok trivial))) (by kernel_rfl) (by kernel_rfl)
    trivial
    (fun h => by kernel_rfl)

noncomputable def recur_Turn_con : Con := ⟨40, [.v (.pair .str (.pair (.int .i64) (.list (.pair (.int .i64) (.pair (.int .i64) (.pair (.int .i64) (.pair (.int .i64) (.pair (.int .i64) (.pair (.int .i64) (.int .i64)))))))))), .v (.pair .str (.pair (.int .i64) (.pair (.pair (.int .i64) (.int .i64)) (.pair (.int .i64) (.pair (.int .i64) (.pair (.list (.int .i64)) (.pair (.list (.pair (.int .i64) (.int .i64))) (.pair (.int .i64) (.int .i64))))))))), .v (.int .i64)], [(.pair .str (.pair (.int .i64) (.list (.pair (.int .i64) (.pair (.int .i64) (.pair (.int .i64) (.pair (.int .i64) (.pair (.int .i64) (.pair (.int .i64) (.int .i64)))))))))), (.pair .str (.pair (.int .i64) (.pair (.pair (.int .i64) (.int .i64)) (.pair (.int .i64) (.pair (.int .i64) (.pair (.list (.int .i64)) (.pair (.list (.pair (.int .i64) (.int .i64))) (.pair (.int .i64) (.int .i64))))))))), (.int .i64)], ⟨[.v (.int .i64), .v (.int .i64)], []⟩, [(.int .i64), (.int .i64)], fun h => Pw.recur_Turn h.1 h.2.1 h.2.2⟩

noncomputable def recur_Turn_d : FnD where
  N := 30
  np := 3
  cs := [recur_Shift_con]
  ds := []
  modes := [(38, [false, false, false])]
  keep := []
  keepX := []
  ro := [false, false]
  dw := []

set_option maxRecDepth 100000 in
theorem recur_Turn_ok : Con.OK Try.prog recur_Turn_con :=
  con_of tabOk mixedOk recur_Turn_d recur_Turn_con Try.f40 (Try.f40.body.getD .skip) Try.func40 (by kernel_rfl) (by kernel_rfl) (Nat.le_of_ble_eq_true (by kernel_rfl)) (by kernel_rfl) (And.intro recur_Shift_ok trivial) (by kernel_rfl) (by kernel_rfl)
    trivial
    (fun h => by kernel_rfl)

noncomputable def recur_Handover_con : Con := ⟨35, [.v (.pair .str (.pair (.int .i64) (.list (.pair (.int .i64) (.pair (.int .i64) (.pair (.int .i64) (.pair (.int .i64) (.pair (.int .i64) (.pair (.int .i64) (.int .i64)))))))))), .v (.pair .str (.pair (.int .i64) (.pair (.pair (.int .i64) (.int .i64)) (.pair (.int .i64) (.pair (.int .i64) (.pair (.list (.int .i64)) (.pair (.list (.pair (.int .i64) (.int .i64))) (.pair (.int .i64) (.int .i64))))))))), .v (.int .i64)], [(.pair .str (.pair (.int .i64) (.list (.pair (.int .i64) (.pair (.int .i64) (.pair (.int .i64) (.pair (.int .i64) (.pair (.int .i64) (.pair (.int .i64) (.int .i64)))))))))), (.pair .str (.pair (.int .i64) (.pair (.pair (.int .i64) (.int .i64)) (.pair (.int .i64) (.pair (.int .i64) (.pair (.list (.int .i64)) (.pair (.list (.pair (.int .i64) (.int .i64))) (.pair (.int .i64) (.int .i64))))))))), (.int .i64)], ⟨[.v (.int .i64), .v (.int .i64)], []⟩, [(.int .i64), (.int .i64)], fun h => Pw.recur_Handover h.1 h.2.1 h.2.2⟩

noncomputable def recur_Handover_d : FnD where
  N := 33
  np := 3
  cs := [recur_open_con, recur_HandoverOf_con]
  ds := []
  modes := [(65, [false, false]), (66, [false, false, false])]
  keep := []
  keepX := []
  ro := [false, false]
  dw := []

set_option maxRecDepth 100000 in
theorem recur_Handover_ok : Con.OK Try.prog recur_Handover_con :=
  con_of tabOk mixedOk recur_Handover_d recur_Handover_con Try.f35 (Try.f35.body.getD .skip) Try.func35 (by kernel_rfl) (by kernel_rfl) (Nat.le_of_ble_eq_true (by kernel_rfl)) (by kernel_rfl) (And.intro recur_open_ok (And.intro recur_HandoverOf_ok trivial)) (by kernel_rfl) (by kernel_rfl)
    trivial
    (fun h => by kernel_rfl)

noncomputable def law10_sane_con : Con := ⟨28, [], [], ⟨[.v .bool], []⟩, [.bool], fun h => Pw.law10_sane⟩

noncomputable def law10_sane_d : FnD where
  N := 87
  np := 0
  cs := [recur_Handovers_con, recur_Shift_con, recur_Turn_con, recur_Handover_con]
  ds := []
  modes := [(35, [false, false, false]), (38, [false, false, false]), (40, [false, false, false]), (42, [false, false, false, false])]
  keep := []
  keepX := []
  ro := [false]
  dw := []

set_option maxRecDepth 100000 in
theorem law10_sane_ok : Con.OK Try.prog law10_sane_con :=
  con_of tabOk mixedOk law10_sane_d law10_sane_con Try.f28 (Try.f28.body.getD .skip) Try.func28 (by kernel_rfl) (by kernel_rfl) (Nat.le_of_ble_eq_true (by kernel_rfl)) (by kernel_rfl) (And.intro recur_Handovers_ok (And.intro recur_Shift_ok (And.intro recur_Turn_ok (And.intro recur_Handover_ok trivial)))) (by kernel_rfl) (by kernel_rfl)
    trivial
    (fun h => by kernel_rfl)

noncomputable def made_names_con : Con := ⟨63, [], [], ⟨[.own 9 (.list .str)], []⟩, [(.list .str)], fun h => Pw.made_names⟩

noncomputable def made_names_d : FnD where
  N := 2
  np := 0
  cs := []
  ds := []
  modes := []
  keep := []
  keepX := []
  ro := [true]
  dw := []

set_option maxRecDepth 100000 in
theorem made_names_ok : Con.OK Try.prog made_names_con :=
  con_of tabOk mixedOk made_names_d made_names_con Try.f63 (Try.f63.body.getD .skip) Try.func63 (by kernel_rfl) (by kernel_rfl) (Nat.le_of_ble_eq_true (by kernel_rfl)) (by kernel_rfl) trivial (by kernel_rfl) (by kernel_rfl)
    trivial
    (fun h => by kernel_rfl)

noncomputable def made_Dice_Windows_con : Con := ⟨64, [.ref [(.list (.int .i64)), (.int .i64)]], [(.list (.int .i64)), (.int .i64)], ⟨[.own 133 (.list (.pair (.int .i64) (.int .i64)))], [.ref [(.list (.int .i64)), (.int .i64)]]⟩, [(.list (.pair (.int .i64) (.int .i64))), (.list (.int .i64)), (.int .i64)], fun h => Pw.made_Dice_Windows h.1 h.2⟩

noncomputable def made_Dice_Windows_d : FnD where
  N := 38
  np := 1
  cs := [made_Dice_Next_con, made_Dice_Pick_con]
  ds := [⟨0, [.s (.one (.bp 0 0)), .s (.one (.ol 1000000)), .s (.one (.d (.int .i64))), .s (.one (.d (.int .i64))), .b (.cell [.d (.list (.int .i64)), .d (.int .i64)] false), .b (.lst 133 (.pair (.int .i64) (.int .i64)) false)], [(.int .i64), (.int .i64), (.list (.int .i64)), (.int .i64), (.list (.pair (.int .i64) (.int .i64)))], [⟨.exit 0, [.s (.one (.ol 1500100)), .b (.cell [.d (.list (.int .i64)), .d (.int .i64)] false), .b (.lst 133 (.pair (.int .i64) (.int .i64)) false)], [(.list (.int .i64)), (.int .i64), (.list (.pair (.int .i64) (.int .i64)))]⟩], fun h => Pw.made_Dice_Windows_l0_step h.1 h.2.1 h.2.2.1 h.2.2.2.1 h.2.2.2.2⟩]
  modes := [(30, [false, false]), (45, [false, false])]
  keep := [(0, ⟨[0, 3, 4, 5], [0], [⟨1000000, 133, (.pair (.int .i64) (.int .i64)), [.slot 3], false⟩], []⟩)]
  keepX := [(0, .exit 0, ⟨[3], [0], [⟨1500100, 133, (.pair (.int .i64) (.int .i64)), [.slot 3], false⟩], []⟩)]
  ro := [true]
  dw := []

set_option maxRecDepth 100000 in
theorem made_Dice_Windows_ok : Con.OK Try.prog made_Dice_Windows_con :=
  con_of tabOk mixedOk made_Dice_Windows_d made_Dice_Windows_con Try.f64 (Try.f64.body.getD .skip) Try.func64 (by kernel_rfl) (by kernel_rfl) (Nat.le_of_ble_eq_true (by kernel_rfl)) (by kernel_rfl) (And.intro made_Dice_Next_ok (And.intro made_Dice_Pick_ok trivial)) (by kernel_rfl) (by kernel_rfl)
    (And.intro (fun h => by kernel_rfl) trivial)
    (fun h => by kernel_rfl)

noncomputable def made_Dice_Staff_con : Con := ⟨29, [.ref [(.list (.int .i64)), (.int .i64)]], [(.list (.int .i64)), (.int .i64)], ⟨[.vn (.pair (.list (.pair .str (.pair (.int .i64) (.list (.pair (.int .i64) (.pair (.int .i64) (.pair (.int .i64) (.pair (.int .i64) (.pair (.int .i64) (.pair (.int .i64) (.int .i64))))))))))) (.pair (.list (.pair .str (.pair (.int .i64) (.pair (.list (.pair (.int .i64) (.int .i64))) (.pair (.int .i64) (.pair (.int .i64) .bool)))))) (.pair (.list (.pair .str (.pair (.int .i64) (.list (.int .i64))))) (.list (.pair .str (.pair (.list (.pair .str (.pair (.int .i64) (.pair (.pair (.int .i64) (.int .i64)) (.pair (.int .i64) (.pair (.int .i64) (.pair (.list (.int .i64)) (.pair (.list (.pair (.int .i64) (.int .i64))) (.pair (.int .i64) (.int .i64)))))))))) (.list (.pair (.int .i64) (.pair (.int .i64) (.pair (.int .i64) (.pair (.int .i64) (.int .i64)))))))))))) [3]], [.ref [(.list (.int .i64)), (.int .i64)]]⟩, [(.pair (.list (.pair .str (.pair (.int .i64) (.list (.pair (.int .i64) (.pair (.int .i64) (.pair (.int .i64) (.pair (.int .i64) (.pair (.int .i64) (.pair (.int .i64) (.int .i64))))))))))) (.pair (.list (.pair .str (.pair (.int .i64) (.pair (.list (.pair (.int .i64) (.int .i64))) (.pair (.int .i64) (.pair (.int .i64) .bool)))))) (.pair (.list (.pair .str (.pair (.int .i64) (.list (.int .i64))))) (.list (.pair .str (.pair (.list (.pair .str (.pair (.int .i64) (.pair (.pair (.int .i64) (.int .i64)) (.pair (.int .i64) (.pair (.int .i64) (.pair (.list (.int .i64)) (.pair (.list (.pair (.int .i64) (.int .i64))) (.pair (.int .i64) (.int .i64)))))))))) (.list (.pair (.int .i64) (.pair (.int .i64) (.pair (.int .i64) (.pair (.int .i64) (.int .i64)))))))))))), (.list (.int .i64)), (.int .i64)], fun h => Pw.made_Dice_Staff h.1 h.2⟩

noncomputable def made_Dice_Staff_d : FnD where
  N := 109
  np := 1
  cs := [made_Dice_Next_con, made_Dice_Pick_con, made_Dice_Zone_con, made_Dice_Bool_con, made_names_con, made_Dice_Windows_con]
  ds := [⟨0, [.s (.one (.bp 0 0)), .s (.one (.bp 128 0)), .s (.one (.bp 192 0)), .s (.one (.d (.int .i64))), .b (.cell [.d (.list (.int .i64)), .d (.int .i64)] false), .b (.cell [.nil, .nil, .nil, .nil] false), .b (.cell [.ol 1000000, .nil, .nil, .nil] false), .b (.lst 24 (.pair .str (.pair (.int .i64) (.list (.pair (.int .i64) (.pair (.int .i64) (.pair (.int .i64) (.pair (.int .i64) (.pair (.int .i64) (.pair (.int .i64) (.int .i64)))))))))) false)], [(.int .i64), (.list (.int .i64)), (.int .i64), (.list (.pair .str (.pair (.int .i64) (.list (.pair (.int .i64) (.pair (.int .i64) (.pair (.int .i64) (.pair (.int .i64) (.pair (.int .i64) (.pair (.int .i64) (.int .i64)))))))))))], [⟨.exit 0, [.s (.one (.bp 0 0)), .s (.one (.bp 128 0)), .s (.one (.bp 192 0)), .b (.cell [.d (.list (.int .i64)), .d (.int .i64)] false), .b (.cell [.nil, .nil, .nil, .nil] false), .b (.cell [.ol 1500100, .nil, .nil, .nil] false), .b (.lst 24 (.pair .str (.pair (.int .i64) (.list (.pair (.int .i64) (.pair (.int .i64) (.pair (.int .i64) (.pair (.int .i64) (.pair (.int .i64) (.pair (.int .i64) (.int .i64)))))))))) false)], [(.list (.int .i64)), (.int .i64), (.list (.pair .str (.pair (.int .i64) (.list (.pair (.int .i64) (.pair (.int .i64) (.pair (.int .i64) (.pair (.int .i64) (.pair (.int .i64) (.pair (.int .i64) (.int .i64)))))))))))]⟩], fun h => Pw.made_Dice_Staff_l0_step h.1 h.2.1 h.2.2.1 h.2.2.2⟩,
    ⟨2, [.s (.one (.bp 0 0)), .s (.one (.bp 128 0)), .s (.one (.bp 192 0)), .s (.one (.d (.int .i64))), .b (.cell [.d (.list (.int .i64)), .d (.int .i64)] false), .b (.cell [.nil, .nil, .nil, .nil] false), .b (.cell [.ol 1002000, .ol 1002001, .nil, .nil] false), .b (.lst 24 (.pair .str (.pair (.int .i64) (.list (.pair (.int .i64) (.pair (.int .i64) (.pair (.int .i64) (.pair (.int .i64) (.pair (.int .i64) (.pair (.int .i64) (.int .i64)))))))))) false), .b (.lst 111 (.pair .str (.pair (.int .i64) (.pair (.list (.pair (.int .i64) (.int .i64))) (.pair (.int .i64) (.pair (.int .i64) .bool))))) false)], [(.int .i64), (.list (.int .i64)), (.int .i64), (.list (.pair .str (.pair (.int .i64) (.list (.pair (.int .i64) (.pair (.int .i64) (.pair (.int .i64) (.pair (.int .i64) (.pair (.int .i64) (.pair (.int .i64) (.int .i64))))))))))), (.list (.pair .str (.pair (.int .i64) (.pair (.list (.pair (.int .i64) (.int .i64))) (.pair (.int .i64) (.pair (.int .i64) .bool))))))], [⟨.exit 2, [.s (.one (.bp 0 0)), .s (.one (.bp 128 0)), .s (.one (.bp 192 0)), .b (.cell [.d (.list (.int .i64)), .d (.int .i64)] false), .b (.cell [.nil, .nil, .nil, .nil] false), .b (.cell [.ol 1502300, .ol 1502301, .nil, .nil] false), .b (.lst 24 (.pair .str (.pair (.int .i64) (.list (.pair (.int .i64) (.pair (.int .i64) (.pair (.int .i64) (.pair (.int .i64) (.pair (.int .i64) (.pair (.int .i64) (.int .i64)))))))))) false), .b (.lst 111 (.pair .str (.pair (.int .i64) (.pair (.list (.pair (.int .i64) (.int .i64))) (.pair (.int .i64) (.pair (.int .i64) .bool))))) false)], [(.list (.int .i64)), (.int .i64), (.list (.pair .str (.pair (.int .i64) (.list (.pair (.int .i64) (.pair (.int .i64) (.pair (.int .i64) (.pair (.int .i64) (.pair (.int .i64) (.pair (.int .i64) (.int .i64))))))))))), (.list (.pair .str (.pair (.int .i64) (.pair (.list (.pair (.int .i64) (.int .i64))) (.pair (.int .i64) (.pair (.int .i64) .bool))))))]⟩], fun h => Pw.made_Dice_Staff_l2_step h.1 h.2.1 h.2.2.1 h.2.2.2.1 h.2.2.2.2⟩,
    ⟨4, [.s (.one (.bp 0 0)), .s (.one (.bp 128 0)), .s (.one (.bp 192 0)), .s (.one (.d (.int .i64))), .b (.cell [.d (.list (.int .i64)), .d (.int .i64)] false), .b (.cell [.nil, .nil, .nil, .nil] false), .b (.cell [.ol 1004000, .ol 1004001, .ol 1004002, .nil] false), .b (.lst 24 (.pair .str (.pair (.int .i64) (.list (.pair (.int .i64) (.pair (.int .i64) (.pair (.int .i64) (.pair (.int .i64) (.pair (.int .i64) (.pair (.int .i64) (.int .i64)))))))))) false), .b (.lst 111 (.pair .str (.pair (.int .i64) (.pair (.list (.pair (.int .i64) (.int .i64))) (.pair (.int .i64) (.pair (.int .i64) .bool))))) false), .b (.lst 114 (.pair .str (.pair (.int .i64) (.list (.int .i64)))) false)], [(.int .i64), (.list (.int .i64)), (.int .i64), (.list (.pair .str (.pair (.int .i64) (.list (.pair (.int .i64) (.pair (.int .i64) (.pair (.int .i64) (.pair (.int .i64) (.pair (.int .i64) (.pair (.int .i64) (.int .i64))))))))))), (.list (.pair .str (.pair (.int .i64) (.pair (.list (.pair (.int .i64) (.int .i64))) (.pair (.int .i64) (.pair (.int .i64) .bool)))))), (.list (.pair .str (.pair (.int .i64) (.list (.int .i64)))))], [⟨.exit 4, [.s (.one (.bp 128 0)), .s (.one (.bp 192 0)), .b (.cell [.d (.list (.int .i64)), .d (.int .i64)] false), .b (.cell [.nil, .nil, .nil, .nil] false), .b (.cell [.ol 1504500, .ol 1504501, .ol 1504502, .nil] false), .b (.lst 24 (.pair .str (.pair (.int .i64) (.list (.pair (.int .i64) (.pair (.int .i64) (.pair (.int .i64) (.pair (.int .i64) (.pair (.int .i64) (.pair (.int .i64) (.int .i64)))))))))) false), .b (.lst 111 (.pair .str (.pair (.int .i64) (.pair (.list (.pair (.int .i64) (.int .i64))) (.pair (.int .i64) (.pair (.int .i64) .bool))))) false), .b (.lst 114 (.pair .str (.pair (.int .i64) (.list (.int .i64)))) false)], [(.list (.int .i64)), (.int .i64), (.list (.pair .str (.pair (.int .i64) (.list (.pair (.int .i64) (.pair (.int .i64) (.pair (.int .i64) (.pair (.int .i64) (.pair (.int .i64) (.pair (.int .i64) (.int .i64))))))))))), (.list (.pair .str (.pair (.int .i64) (.pair (.list (.pair (.int .i64) (.int .i64))) (.pair (.int .i64) (.pair (.int .i64) .bool)))))), (.list (.pair .str (.pair (.int .i64) (.list (.int .i64)))))]⟩], fun h => Pw.made_Dice_Staff_l4_step h.1 h.2.1 h.2.2.1 h.2.2.2.1 h.2.2.2.2.1 h.2.2.2.2.2⟩,
    ⟨6, [.s (.one (.bp 0 0)), .s (.one (.bp 128 0)), .s (.one (.bp 192 0)), .s (.one (.d (.int .i64))), .s (.one (.bp 512 0)), .s (.one (.d (.int .i64))), .s (.one (.d (.int .i64))), .b (.cell [.d (.list (.int .i64)), .d (.int .i64)] false), .b (.cell [.nil, .nil, .nil, .nil] false), .b (.cell [.ol 1006000, .ol 1006001, .ol 1006002, .nil] false), .b (.cell [.d .str, .d (.int .i64), .ol 1006003] false), .b (.lst 24 (.pair .str (.pair (.int .i64) (.list (.pair (.int .i64) (.pair (.int .i64) (.pair (.int .i64) (.pair (.int .i64) (.pair (.int .i64) (.pair (.int .i64) (.int .i64)))))))))) false), .b (.lst 111 (.pair .str (.pair (.int .i64) (.pair (.list (.pair (.int .i64) (.int .i64))) (.pair (.int .i64) (.pair (.int .i64) .bool))))) false), .b (.lst 114 (.pair .str (.pair (.int .i64) (.list (.int .i64)))) false), .b (.lst 3 (.int .i64) false)], [(.int .i64), (.int .i64), (.int .i64), (.list (.int .i64)), (.int .i64), .str, (.int .i64), (.list (.pair .str (.pair (.int .i64) (.list (.pair (.int .i64) (.pair (.int .i64) (.pair (.int .i64) (.pair (.int .i64) (.pair (.int .i64) (.pair (.int .i64) (.int .i64))))))))))), (.list (.pair .str (.pair (.int .i64) (.pair (.list (.pair (.int .i64) (.int .i64))) (.pair (.int .i64) (.pair (.int .i64) .bool)))))), (.list (.pair .str (.pair (.int .i64) (.list (.int .i64))))), (.list (.int .i64))], [⟨.exit 6, [.s (.one (.bp 0 0)), .s (.one (.bp 128 0)), .s (.one (.bp 192 0)), .s (.one (.d (.int .i64))), .s (.one (.bp 512 0)), .b (.cell [.d (.list (.int .i64)), .d (.int .i64)] false), .b (.cell [.nil, .nil, .nil, .nil] false), .b (.cell [.ol 1506700, .ol 1506701, .ol 1506702, .nil] false), .b (.cell [.d .str, .d (.int .i64), .ol 1506703] false), .b (.lst 24 (.pair .str (.pair (.int .i64) (.list (.pair (.int .i64) (.pair (.int .i64) (.pair (.int .i64) (.pair (.int .i64) (.pair (.int .i64) (.pair (.int .i64) (.int .i64)))))))))) false), .b (.lst 111 (.pair .str (.pair (.int .i64) (.pair (.list (.pair (.int .i64) (.int .i64))) (.pair (.int .i64) (.pair (.int .i64) .bool))))) false), .b (.lst 114 (.pair .str (.pair (.int .i64) (.list (.int .i64)))) false), .b (.lst 3 (.int .i64) false)], [(.int .i64), (.list (.int .i64)), (.int .i64), .str, (.int .i64), (.list (.pair .str (.pair (.int .i64) (.list (.pair (.int .i64) (.pair (.int .i64) (.pair (.int .i64) (.pair (.int .i64) (.pair (.int .i64) (.pair (.int .i64) (.int .i64))))))))))), (.list (.pair .str (.pair (.int .i64) (.pair (.list (.pair (.int .i64) (.int .i64))) (.pair (.int .i64) (.pair (.int .i64) .bool)))))), (.list (.pair .str (.pair (.int .i64) (.list (.int .i64))))), (.list (.int .i64))]⟩], fun h => Pw.made_Dice_Staff_l6_step h.1 h.2.1 h.2.2.1 h.2.2.2.1 h.2.2.2.2.1 h.2.2.2.2.2.1 h.2.2.2.2.2.2.1 h.2.2.2.2.2.2.2.1 h.2.2.2.2.2.2.2.2.1 h.2.2.2.2.2.2.2.2.2.1 h.2.2.2.2.2.2.2.2.2.2⟩]
  modes := [(8, [false, false]), (30, [false, false]), (45, [false, false]), (46, [false, false]), (63, []), (64, [false])]
  keep := [(0, ⟨[0, 2, 3, 4], [0, 128, 192], [⟨1000000, 24, (.pair .str (.pair (.int .i64) (.list (.pair (.int .i64) (.pair (.int .i64) (.pair (.int .i64) (.pair (.int .i64) (.pair (.int .i64) (.pair (.int .i64) (.int .i64)))))))))), [.cell 192 0], false⟩], []⟩),
    (2, ⟨[0, 2, 3, 5], [0, 128, 192], [⟨1002000, 24, (.pair .str (.pair (.int .i64) (.list (.pair (.int .i64) (.pair (.int .i64) (.pair (.int .i64) (.pair (.int .i64) (.pair (.int .i64) (.pair (.int .i64) (.int .i64)))))))))), [.cell 192 0], false⟩, ⟨1002001, 111, (.pair .str (.pair (.int .i64) (.pair (.list (.pair (.int .i64) (.int .i64))) (.pair (.int .i64) (.pair (.int .i64) .bool))))), [.cell 192 1], false⟩], []⟩),
    (4, ⟨[0, 2, 3, 7], [0, 128, 192], [⟨1004000, 24, (.pair .str (.pair (.int .i64) (.list (.pair (.int .i64) (.pair (.int .i64) (.pair (.int .i64) (.pair (.int .i64) (.pair (.int .i64) (.pair (.int .i64) (.int .i64)))))))))), [.cell 192 0], false⟩, ⟨1004001, 111, (.pair .str (.pair (.int .i64) (.pair (.list (.pair (.int .i64) (.int .i64))) (.pair (.int .i64) (.pair (.int .i64) .bool))))), [.cell 192 1], false⟩, ⟨1004002, 114, (.pair .str (.pair (.int .i64) (.list (.int .i64)))), [.cell 192 2], false⟩], []⟩),
    (6, ⟨[0, 2, 3, 7, 8, 9, 10], [0, 128, 192, 512], [⟨1006000, 24, (.pair .str (.pair (.int .i64) (.list (.pair (.int .i64) (.pair (.int .i64) (.pair (.int .i64) (.pair (.int .i64) (.pair (.int .i64) (.pair (.int .i64) (.int .i64)))))))))), [.cell 192 0], false⟩, ⟨1006001, 111, (.pair .str (.pair (.int .i64) (.pair (.list (.pair (.int .i64) (.int .i64))) (.pair (.int .i64) (.pair (.int .i64) .bool))))), [.cell 192 1], false⟩, ⟨1006002, 114, (.pair .str (.pair (.int .i64) (.list (.int .i64)))), [.cell 192 2], false⟩, ⟨1006003, 3, (.int .i64), [.cell 512 2], false⟩], []⟩)]
  keepX := [(0, .exit 0, ⟨[0, 2, 3], [0, 128, 192], [⟨1500100, 24, (.pair .str (.pair (.int .i64) (.list (.pair (.int .i64) (.pair (.int .i64) (.pair (.int .i64) (.pair (.int .i64) (.pair (.int .i64) (.pair (.int .i64) (.int .i64)))))))))), [.cell 192 0], false⟩], []⟩),
    (2, .exit 2, ⟨[0, 2, 3], [0, 128, 192], [⟨1502300, 24, (.pair .str (.pair (.int .i64) (.list (.pair (.int .i64) (.pair (.int .i64) (.pair (.int .i64) (.pair (.int .i64) (.pair (.int .i64) (.pair (.int .i64) (.int .i64)))))))))), [.cell 192 0], false⟩, ⟨1502301, 111, (.pair .str (.pair (.int .i64) (.pair (.list (.pair (.int .i64) (.int .i64))) (.pair (.int .i64) (.pair (.int .i64) .bool))))), [.cell 192 1], false⟩], []⟩),
    (4, .exit 4, ⟨[2, 3], [0, 128, 192], [⟨1504500, 24, (.pair .str (.pair (.int .i64) (.list (.pair (.int .i64) (.pair (.int .i64) (.pair (.int .i64) (.pair (.int .i64) (.pair (.int .i64) (.pair (.int .i64) (.int .i64)))))))))), [.cell 192 0], false⟩, ⟨1504501, 111, (.pair .str (.pair (.int .i64) (.pair (.list (.pair (.int .i64) (.int .i64))) (.pair (.int .i64) (.pair (.int .i64) .bool))))), [.cell 192 1], false⟩, ⟨1504502, 114, (.pair .str (.pair (.int .i64) (.list (.int .i64)))), [.cell 192 2], false⟩], []⟩),
    (6, .exit 6, ⟨[0, 2, 3, 7, 8], [0, 128, 192, 512], [⟨1506700, 24, (.pair .str (.pair (.int .i64) (.list (.pair (.int .i64) (.pair (.int .i64) (.pair (.int .i64) (.pair (.int .i64) (.pair (.int .i64) (.pair (.int .i64) (.int .i64)))))))))), [.cell 192 0], false⟩, ⟨1506701, 111, (.pair .str (.pair (.int .i64) (.pair (.list (.pair (.int .i64) (.int .i64))) (.pair (.int .i64) (.pair (.int .i64) .bool))))), [.cell 192 1], false⟩, ⟨1506702, 114, (.pair .str (.pair (.int .i64) (.list (.int .i64)))), [.cell 192 2], false⟩, ⟨1506703, 3, (.int .i64), [.cell 512 2], false⟩], []⟩)]
  ro := [false]
  dw := [(5, [[], [], [], [1344], [], [], [], [], [], [0], [1792], [1856, 1000000], [], [192]]), (9, [[2432], [], [], [], [], [], [], [], [], [], [0], [], [0], [], [384], [384]])]
  ns := [3]

set_option maxRecDepth 100000 in
theorem made_Dice_Staff_ok : Con.OK Try.prog made_Dice_Staff_con :=
  con_of tabOk mixedOk made_Dice_Staff_d made_Dice_Staff_con Try.f29 (Try.f29.body.getD .skip) Try.func29 (by kernel_rfl) (by kernel_rfl) (Nat.le_of_ble_eq_true (by kernel_rfl)) (by kernel_rfl) (And.intro made_Dice_Next_ok (And.intro made_Dice_Pick_ok (And.intro made_Dice_Zone_ok (And.intro made_Dice_Bool_ok (And.intro made_names_ok (And.intro made_Dice_Windows_ok trivial)))))) (by kernel_rfl) (by kernel_rfl)
    (And.intro (fun h => by kernel_rfl) (And.intro (fun h => by kernel_rfl) (And.intro (fun h => by kernel_rfl) (And.intro (fun h => by kernel_rfl) trivial))))
    (fun h => by kernel_rfl)

noncomputable def made_Dice_Layer_con : Con := ⟨31, [.ref [(.list (.int .i64)), (.int .i64)], .v (.pair (.list (.pair .str (.pair (.int .i64) (.list (.pair (.int .i64) (.pair (.int .i64) (.pair (.int .i64) (.pair (.int .i64) (.pair (.int .i64) (.pair (.int .i64) (.int .i64))))))))))) (.pair (.list (.pair .str (.pair (.int .i64) (.pair (.list (.pair (.int .i64) (.int .i64))) (.pair (.int .i64) (.pair (.int .i64) .bool)))))) (.pair (.list (.pair .str (.pair (.int .i64) (.list (.int .i64))))) (.list (.pair .str (.pair (.list (.pair .str (.pair (.int .i64) (.pair (.pair (.int .i64) (.int .i64)) (.pair (.int .i64) (.pair (.int .i64) (.pair (.list (.int .i64)) (.pair (.list (.pair (.int .i64) (.int .i64))) (.pair (.int .i64) (.int .i64)))))))))) (.list (.pair (.int .i64) (.pair (.int .i64) (.pair (.int .i64) (.pair (.int .i64) (.int .i64)))))))))))), .v .str], [(.list (.int .i64)), (.int .i64), (.pair (.list (.pair .str (.pair (.int .i64) (.list (.pair (.int .i64) (.pair (.int .i64) (.pair (.int .i64) (.pair (.int .i64) (.pair (.int .i64) (.pair (.int .i64) (.int .i64))))))))))) (.pair (.list (.pair .str (.pair (.int .i64) (.pair (.list (.pair (.int .i64) (.int .i64))) (.pair (.int .i64) (.pair (.int .i64) .bool)))))) (.pair (.list (.pair .str (.pair (.int .i64) (.list (.int .i64))))) (.list (.pair .str (.pair (.list (.pair .str (.pair (.int .i64) (.pair (.pair (.int .i64) (.int .i64)) (.pair (.int .i64) (.pair (.int .i64) (.pair (.list (.int .i64)) (.pair (.list (.pair (.int .i64) (.int .i64))) (.pair (.int .i64) (.int .i64)))))))))) (.list (.pair (.int .i64) (.pair (.int .i64) (.pair (.int .i64) (.pair (.int .i64) (.int .i64)))))))))))), .str], ⟨[.v (.pair .str (.pair (.int .i64) (.pair (.pair (.int .i64) (.int .i64)) (.pair (.int .i64) (.pair (.int .i64) (.pair (.list (.int .i64)) (.pair (.list (.pair (.int .i64) (.int .i64))) (.pair (.int .i64) (.int .i64)))))))))], [.ref [(.list (.int .i64)), (.int .i64)]]⟩, [(.pair .str (.pair (.int .i64) (.pair (.pair (.int .i64) (.int .i64)) (.pair (.int .i64) (.pair (.int .i64) (.pair (.list (.int .i64)) (.pair (.list (.pair (.int .i64) (.int .i64))) (.pair (.int .i64) (.int .i64))))))))), (.list (.int .i64)), (.int .i64)], fun h => Pw.made_Dice_Layer h.1 h.2.1 h.2.2.1 h.2.2.2⟩

noncomputable def made_Dice_Layer_d : FnD where
  N := 77
  np := 3
  cs := [made_Dice_Next_con, made_Dice_Pick_con, made_Dice_Bool_con, made_Dice_Windows_con]
  ds := [⟨0, [.s (.one (.bp 0 0)), .s (.one (.bp 256 0)), .s (.one (.bp 384 0)), .s (.one (.bp 448 0)), .s (.one (.d (.int .i64))), .b (.cell [.d (.list (.int .i64)), .d (.int .i64)] false), .b (.cell [.d (.list (.pair .str (.pair (.int .i64) (.list (.pair (.int .i64) (.pair (.int .i64) (.pair (.int .i64) (.pair (.int .i64) (.pair (.int .i64) (.pair (.int .i64) (.int .i64))))))))))), .d (.list (.pair .str (.pair (.int .i64) (.pair (.list (.pair (.int .i64) (.int .i64))) (.pair (.int .i64) (.pair (.int .i64) .bool)))))), .d (.list (.pair .str (.pair (.int .i64) (.list (.int .i64))))), .d (.list (.pair .str (.pair (.list (.pair .str (.pair (.int .i64) (.pair (.pair (.int .i64) (.int .i64)) (.pair (.int .i64) (.pair (.int .i64) (.pair (.list (.int .i64)) (.pair (.list (.pair (.int .i64) (.int .i64))) (.pair (.int .i64) (.int .i64)))))))))) (.list (.pair (.int .i64) (.pair (.int .i64) (.pair (.int .i64) (.pair (.int .i64) (.int .i64)))))))))] false), .b (.cell [.d .str, .d (.int .i64), .d (.int .i64), .d (.int .i64), .d (.int .i64), .d (.int .i64), .nil, .nil, .d (.int .i64), .d (.int .i64)] false), .b (.cell [.d .str, .d (.int .i64), .d (.int .i64), .d (.int .i64), .d (.int .i64), .d (.int .i64), .ol 1000000, .nil, .d (.int .i64), .d (.int .i64)] false), .b (.lst 3 (.int .i64) false)], [(.int .i64), (.list (.int .i64)), (.int .i64), (.list (.pair .str (.pair (.int .i64) (.list (.pair (.int .i64) (.pair (.int .i64) (.pair (.int .i64) (.pair (.int .i64) (.pair (.int .i64) (.pair (.int .i64) (.int .i64))))))))))), (.list (.pair .str (.pair (.int .i64) (.pair (.list (.pair (.int .i64) (.int .i64))) (.pair (.int .i64) (.pair (.int .i64) .bool)))))), (.list (.pair .str (.pair (.int .i64) (.list (.int .i64))))), (.list (.pair .str (.pair (.list (.pair .str (.pair (.int .i64) (.pair (.pair (.int .i64) (.int .i64)) (.pair (.int .i64) (.pair (.int .i64) (.pair (.list (.int .i64)) (.pair (.list (.pair (.int .i64) (.int .i64))) (.pair (.int .i64) (.int .i64)))))))))) (.list (.pair (.int .i64) (.pair (.int .i64) (.pair (.int .i64) (.pair (.int .i64) (.int .i64))))))))), .str, (.int .i64), (.int .i64), (.int .i64), (.int .i64), (.int .i64), (.int .i64), (.int .i64), .str, (.int .i64), (.int .i64), (.int .i64), (.int .i64), (.int .i64), (.int .i64), (.int .i64), (.list (.int .i64))], [⟨.exit 0, [.s (.one (.bp 0 0)), .s (.one (.bp 256 0)), .s (.one (.bp 384 0)), .s (.one (.bp 448 0)), .b (.cell [.d (.list (.int .i64)), .d (.int .i64)] false), .b (.cell [.d (.list (.pair .str (.pair (.int .i64) (.list (.pair (.int .i64) (.pair (.int .i64) (.pair (.int .i64) (.pair (.int .i64) (.pair (.int .i64) (.pair (.int .i64) (.int .i64))))))))))), .d (.list (.pair .str (.pair (.int .i64) (.pair (.list (.pair (.int .i64) (.int .i64))) (.pair (.int .i64) (.pair (.int .i64) .bool)))))), .d (.list (.pair .str (.pair (.int .i64) (.list (.int .i64))))), .d (.list (.pair .str (.pair (.list (.pair .str (.pair (.int .i64) (.pair (.pair (.int .i64) (.int .i64)) (.pair (.int .i64) (.pair (.int .i64) (.pair (.list (.int .i64)) (.pair (.list (.pair (.int .i64) (.int .i64))) (.pair (.int .i64) (.int .i64)))))))))) (.list (.pair (.int .i64) (.pair (.int .i64) (.pair (.int .i64) (.pair (.int .i64) (.int .i64)))))))))] false), .b (.cell [.d .str, .d (.int .i64), .d (.int .i64), .d (.int .i64), .d (.int .i64), .d (.int .i64), .nil, .nil, .d (.int .i64), .d (.int .i64)] false), .b (.cell [.d .str, .d (.int .i64), .d (.int .i64), .d (.int .i64), .d (.int .i64), .d (.int .i64), .ol 1500100, .nil, .d (.int .i64), .d (.int .i64)] false), .b (.lst 3 (.int .i64) false)], [(.list (.int .i64)), (.int .i64), (.list (.pair .str (.pair (.int .i64) (.list (.pair (.int .i64) (.pair (.int .i64) (.pair (.int .i64) (.pair (.int .i64) (.pair (.int .i64) (.pair (.int .i64) (.int .i64))))))))))), (.list (.pair .str (.pair (.int .i64) (.pair (.list (.pair (.int .i64) (.int .i64))) (.pair (.int .i64) (.pair (.int .i64) .bool)))))), (.list (.pair .str (.pair (.int .i64) (.list (.int .i64))))), (.list (.pair .str (.pair (.list (.pair .str (.pair (.int .i64) (.pair (.pair (.int .i64) (.int .i64)) (.pair (.int .i64) (.pair (.int .i64) (.pair (.list (.int .i64)) (.pair (.list (.pair (.int .i64) (.int .i64))) (.pair (.int .i64) (.int .i64)))))))))) (.list (.pair (.int .i64) (.pair (.int .i64) (.pair (.int .i64) (.pair (.int .i64) (.int .i64))))))))), .str, (.int .i64), (.int .i64), (.int .i64), (.int .i64), (.int .i64), (.int .i64), (.int .i64), .str, (.int .i64), (.int .i64), (.int .i64), (.int .i64), (.int .i64), (.int .i64), (.int .i64), (.list (.int .i64))]⟩], fun h => Pw.made_Dice_Layer_l0_step h.1 h.2.1 h.2.2.1 h.2.2.2.1 h.2.2.2.2.1 h.2.2.2.2.2.1 h.2.2.2.2.2.2.1 h.2.2.2.2.2.2.2.1 h.2.2.2.2.2.2.2.2.1 h.2.2.2.2.2.2.2.2.2.1 h.2.2.2.2.2.2.2.2.2.2.1 h.2.2.2.2.2.2.2.2.2.2.2.1 h.2.2.2.2.2.2.2.2.2.2.2.2.1 h.2.2.2.2.2.2.2.2.2.2.2.2.2.1 h.2.2.2.2.2.2.2.2.2.2.2.2.2.2.1 h.2.2.2.2.2.2.2.2.2.2.2.2.2.2.2.1 h.2.2.2.2.2.2.2.2.2.2.2.2.2.2.2.2.1 h.2.2.2.2.2.2.2.2.2.2.2.2.2.2.2.2.2.1 h.2.2.2.2.2.2.2.2.2.2.2.2.2.2.2.2.2.2.1 h.2.2.2.2.2.2.2.2.2.2.2.2.2.2.2.2.2.2.2.1 h.2.2.2.2.2.2.2.2.2.2.2.2.2.2.2.2.2.2.2.2.1 h.2.2.2.2.2.2.2.2.2.2.2.2.2.2.2.2.2.2.2.2.2.1 h.2.2.2.2.2.2.2.2.2.2.2.2.2.2.2.2.2.2.2.2.2.2.1 h.2.2.2.2.2.2.2.2.2.2.2.2.2.2.2.2.2.2.2.2.2.2.2⟩]
  modes := [(30, [false, false]), (45, [false, false]), (46, [false, false]), (64, [false])]
  keep := [(0, ⟨[0, 4, 6, 7, 8], [0, 256, 384, 448], [⟨1000000, 3, (.int .i64), [.cell 448 6], false⟩], []⟩)]
  keepX := [(0, .exit 0, ⟨[0, 4, 6, 7], [0, 256, 384, 448], [⟨1500100, 3, (.int .i64), [.cell 448 6], false⟩], []⟩)]
  ro := [false]
  dw := [(7, [[], [], [], [], [], [], [0], [3200], [3264, 1000000], [], [448]])]

set_option maxRecDepth 100000 in
theorem made_Dice_Layer_ok : Con.OK Try.prog made_Dice_Layer_con :=
  con_of tabOk mixedOk made_Dice_Layer_d made_Dice_Layer_con Try.f31 (Try.f31.body.getD .skip) Try.func31 (by kernel_rfl) (by kernel_rfl) (Nat.le_of_ble_eq_true (by kernel_rfl)) (by kernel_rfl) (And.intro made_Dice_Next_ok (And.intro made_Dice_Pick_ok (And.intro made_Dice_Bool_ok (And.intro made_Dice_Windows_ok trivial)))) (by kernel_rfl) (by kernel_rfl)
    (And.intro (fun h => by kernel_rfl) trivial)
    (fun h => by kernel_rfl)

noncomputable def law10_odd_con : Con := ⟨32, [.ref [(.list (.int .i64)), (.int .i64)], .v (.pair .str (.pair (.int .i64) (.pair (.pair (.int .i64) (.int .i64)) (.pair (.int .i64) (.pair (.int .i64) (.pair (.list (.int .i64)) (.pair (.list (.pair (.int .i64) (.int .i64))) (.pair (.int .i64) (.int .i64)))))))))], [(.list (.int .i64)), (.int .i64), (.pair .str (.pair (.int .i64) (.pair (.pair (.int .i64) (.int .i64)) (.pair (.int .i64) (.pair (.int .i64) (.pair (.list (.int .i64)) (.pair (.list (.pair (.int .i64) (.int .i64))) (.pair (.int .i64) (.int .i64)))))))))], ⟨[.v (.pair .str (.pair (.int .i64) (.pair (.pair (.int .i64) (.int .i64)) (.pair (.int .i64) (.pair (.int .i64) (.pair (.list (.int .i64)) (.pair (.list (.pair (.int .i64) (.int .i64))) (.pair (.int .i64) (.int .i64)))))))))], [.ref [(.list (.int .i64)), (.int .i64)]]⟩, [(.pair .str (.pair (.int .i64) (.pair (.pair (.int .i64) (.int .i64)) (.pair (.int .i64) (.pair (.int .i64) (.pair (.list (.int .i64)) (.pair (.list (.pair (.int .i64) (.int .i64))) (.pair (.int .i64) (.int .i64))))))))), (.list (.int .i64)), (.int .i64)], fun h => Pw.law10_odd h.1 h.2.1 h.2.2⟩

noncomputable def law10_odd_d : FnD where
  N := 37
  np := 2
  cs := [made_Dice_Next_con, made_Dice_Pick_con]
  ds := []
  modes := [(30, [false, false]), (45, [false, false])]
  keep := []
  keepX := []
  ro := [false]
  dw := []

set_option maxRecDepth 100000 in
theorem law10_odd_ok : Con.OK Try.prog law10_odd_con :=
  con_of tabOk mixedOk law10_odd_d law10_odd_con Try.f32 (Try.f32.body.getD .skip) Try.func32 (by kernel_rfl) (by kernel_rfl) (Nat.le_of_ble_eq_true (by kernel_rfl)) (by kernel_rfl) (And.intro made_Dice_Next_ok (And.intro made_Dice_Pick_ok trivial)) (by kernel_rfl) (by kernel_rfl)
    trivial
    (fun h => by kernel_rfl)

noncomputable def recur_Check_con : Con := ⟨33, [.v (.pair .str (.pair (.int .i64) (.list (.pair (.int .i64) (.pair (.int .i64) (.pair (.int .i64) (.pair (.int .i64) (.pair (.int .i64) (.pair (.int .i64) (.int .i64)))))))))), .v (.pair .str (.pair (.int .i64) (.pair (.pair (.int .i64) (.int .i64)) (.pair (.int .i64) (.pair (.int .i64) (.pair (.list (.int .i64)) (.pair (.list (.pair (.int .i64) (.int .i64))) (.pair (.int .i64) (.int .i64)))))))))], [(.pair .str (.pair (.int .i64) (.list (.pair (.int .i64) (.pair (.int .i64) (.pair (.int .i64) (.pair (.int .i64) (.pair (.int .i64) (.pair (.int .i64) (.int .i64)))))))))), (.pair .str (.pair (.int .i64) (.pair (.pair (.int .i64) (.int .i64)) (.pair (.int .i64) (.pair (.int .i64) (.pair (.list (.int .i64)) (.pair (.list (.pair (.int .i64) (.int .i64))) (.pair (.int .i64) (.int .i64)))))))))], ⟨[.v (.int .i64)], []⟩, [(.int .i64)], fun h => Pw.recur_Check h.1 h.2⟩

noncomputable def recur_Check_d : FnD where
  N := 15
  np := 2
  cs := [recur_open_con]
  ds := []
  modes := [(65, [false, false])]
  keep := []
  keepX := []
  ro := [false]
  dw := []

set_option maxRecDepth 100000 in
theorem recur_Check_ok : Con.OK Try.prog recur_Check_con :=
  con_of tabOk mixedOk recur_Check_d recur_Check_con Try.f33 (Try.f33.body.getD .skip) Try.func33 (by kernel_rfl) (by kernel_rfl) (Nat.le_of_ble_eq_true (by kernel_rfl)) (by kernel_rfl) (And.intro recur_open_ok trivial) (by kernel_rfl) (by kernel_rfl)
    trivial
    (fun h => by kernel_rfl)

noncomputable def r10_Check_con : Con := ⟨34, [.v (.pair .str (.pair (.int .i64) (.list (.pair (.int .i64) (.pair (.int .i64) (.pair (.int .i64) (.pair (.int .i64) (.pair (.int .i64) (.pair (.int .i64) (.int .i64)))))))))), .v (.pair .str (.pair (.int .i64) (.pair (.pair (.int .i64) (.int .i64)) (.pair (.int .i64) (.pair (.int .i64) (.pair (.list (.int .i64)) (.pair (.list (.pair (.int .i64) (.int .i64))) (.pair (.int .i64) (.int .i64)))))))))], [(.pair .str (.pair (.int .i64) (.list (.pair (.int .i64) (.pair (.int .i64) (.pair (.int .i64) (.pair (.int .i64) (.pair (.int .i64) (.pair (.int .i64) (.int .i64)))))))))), (.pair .str (.pair (.int .i64) (.pair (.pair (.int .i64) (.int .i64)) (.pair (.int .i64) (.pair (.int .i64) (.pair (.list (.int .i64)) (.pair (.list (.pair (.int .i64) (.int .i64))) (.pair (.int .i64) (.int .i64)))))))))], ⟨[.v (.int .i64)], []⟩, [(.int .i64)], fun h => Pw.r10_Check h.1 h.2⟩

noncomputable def r10_Check_d : FnD where
  N := 58
  np := 2
  cs := [r04_Check_con]
  ds := []
  modes := [(15, [false])]
  keep := []
  keepX := []
  ro := [false]
  dw := []

set_option maxRecDepth 100000 in
theorem r10_Check_ok : Con.OK Try.prog r10_Check_con :=
  con_of tabOk mixedOk r10_Check_d r10_Check_con Try.f34 (Try.f34.body.getD .skip) Try.func34 (by kernel_rfl) (by kernel_rfl) (Nat.le_of_ble_eq_true (by kernel_rfl)) (by kernel_rfl) (And.intro r04_Check_ok trivial) (by kernel_rfl) (by kernel_rfl)
    trivial
    (fun h => by kernel_rfl)

noncomputable def r10_handover_con : Con := ⟨67, [.v (.pair .str (.pair (.int .i64) (.list (.pair (.int .i64) (.pair (.int .i64) (.pair (.int .i64) (.pair (.int .i64) (.pair (.int .i64) (.pair (.int .i64) (.int .i64)))))))))), .v (.pair .str (.pair (.int .i64) (.pair (.pair (.int .i64) (.int .i64)) (.pair (.int .i64) (.pair (.int .i64) (.pair (.list (.int .i64)) (.pair (.list (.pair (.int .i64) (.int .i64))) (.pair (.int .i64) (.int .i64))))))))), .v (.int .i64)], [(.pair .str (.pair (.int .i64) (.list (.pair (.int .i64) (.pair (.int .i64) (.pair (.int .i64) (.pair (.int .i64) (.pair (.int .i64) (.pair (.int .i64) (.int .i64)))))))))), (.pair .str (.pair (.int .i64) (.pair (.pair (.int .i64) (.int .i64)) (.pair (.int .i64) (.pair (.int .i64) (.pair (.list (.int .i64)) (.pair (.list (.pair (.int .i64) (.int .i64))) (.pair (.int .i64) (.int .i64))))))))), (.int .i64)], ⟨[.v (.int .i64), .v .bool], []⟩, [(.int .i64), .bool], fun h => Pw.r10_handover h.1 h.2.1 h.2.2⟩

noncomputable def r10_handover_d : FnD where
  N := 66
  np := 3
  cs := [r04_First_con]
  ds := []
  modes := [(26, [false, false])]
  keep := []
  keepX := []
  ro := [false, false]
  dw := []

set_option maxRecDepth 100000 in
theorem r10_handover_ok : Con.OK Try.prog r10_handover_con :=
  con_of tabOk mixedOk r10_handover_d r10_handover_con Try.f67 (Try.f67.body.getD .skip) Try.func67 (by kernel_rfl) (by kernel_rfl) (Nat.le_of_ble_eq_true (by kernel_rfl)) (by kernel_rfl) (And.intro r04_First_ok trivial) (by kernel_rfl) (by kernel_rfl)
    trivial
    (fun h => by kernel_rfl)

noncomputable def r10_Handover_con : Con := ⟨36, [.v (.pair .str (.pair (.int .i64) (.list (.pair (.int .i64) (.pair (.int .i64) (.pair (.int .i64) (.pair (.int .i64) (.pair (.int .i64) (.pair (.int .i64) (.int .i64)))))))))), .v (.pair .str (.pair (.int .i64) (.pair (.pair (.int .i64) (.int .i64)) (.pair (.int .i64) (.pair (.int .i64) (.pair (.list (.int .i64)) (.pair (.list (.pair (.int .i64) (.int .i64))) (.pair (.int .i64) (.int .i64))))))))), .v (.int .i64)], [(.pair .str (.pair (.int .i64) (.list (.pair (.int .i64) (.pair (.int .i64) (.pair (.int .i64) (.pair (.int .i64) (.pair (.int .i64) (.pair (.int .i64) (.int .i64)))))))))), (.pair .str (.pair (.int .i64) (.pair (.pair (.int .i64) (.int .i64)) (.pair (.int .i64) (.pair (.int .i64) (.pair (.list (.int .i64)) (.pair (.list (.pair (.int .i64) (.int .i64))) (.pair (.int .i64) (.int .i64))))))))), (.int .i64)], ⟨[.v (.int .i64), .v (.int .i64)], []⟩, [(.int .i64), (.int .i64)], fun h => Pw.r10_Handover h.1 h.2.1 h.2.2⟩

noncomputable def r10_Handover_d : FnD where
  N := 31
  np := 3
  cs := [r10_Check_con, r10_handover_con]
  ds := []
  modes := [(34, [false, false]), (67, [false, false, false])]
  keep := []
  keepX := []
  ro := [false, false]
  dw := []

set_option maxRecDepth 100000 in
theorem r10_Handover_ok : Con.OK Try.prog r10_Handover_con :=
  con_of tabOk mixedOk r10_Handover_d r10_Handover_con Try.f36 (Try.f36.body.getD .skip) Try.func36 (by kernel_rfl) (by kernel_rfl) (Nat.le_of_ble_eq_true (by kernel_rfl)) (by kernel_rfl) (And.intro r10_Check_ok (And.intro r10_handover_ok trivial)) (by kernel_rfl) (by kernel_rfl)
    trivial
    (fun h => by kernel_rfl)

noncomputable def made_Dice_Instant_con : Con := ⟨37, [.ref [(.list (.int .i64)), (.int .i64)]], [(.list (.int .i64)), (.int .i64)], ⟨[.v (.int .i64)], [.ref [(.list (.int .i64)), (.int .i64)]]⟩, [(.int .i64), (.list (.int .i64)), (.int .i64)], fun h => Pw.made_Dice_Instant h.1 h.2⟩

noncomputable def made_Dice_Instant_d : FnD where
  N := 16
  np := 1
  cs := [made_Dice_Next_con, made_Dice_Pick_con, made_Dice_Bool_con]
  ds := []
  modes := [(30, [false, false]), (45, [false, false]), (46, [false, false])]
  keep := []
  keepX := []
  ro := [false]
  dw := []

set_option maxRecDepth 100000 in
theorem made_Dice_Instant_ok : Con.OK Try.prog made_Dice_Instant_con :=
  con_of tabOk mixedOk made_Dice_Instant_d made_Dice_Instant_con Try.f37 (Try.f37.body.getD .skip) Try.func37 (by kernel_rfl) (by kernel_rfl) (Nat.le_of_ble_eq_true (by kernel_rfl)) (by kernel_rfl) (And.intro made_Dice_Next_ok (And.intro made_Dice_Pick_ok (And.intro made_Dice_Bool_ok trivial))) (by kernel_rfl) (by kernel_rfl)
    trivial
    (fun h => by kernel_rfl)

noncomputable def r10_shift_con : Con := ⟨70, [.v (.pair .str (.pair (.int .i64) (.list (.pair (.int .i64) (.pair (.int .i64) (.pair (.int .i64) (.pair (.int .i64) (.pair (.int .i64) (.pair (.int .i64) (.int .i64)))))))))), .v (.pair .str (.pair (.int .i64) (.pair (.pair (.int .i64) (.int .i64)) (.pair (.int .i64) (.pair (.int .i64) (.pair (.list (.int .i64)) (.pair (.list (.pair (.int .i64) (.int .i64))) (.pair (.int .i64) (.int .i64))))))))), .v (.int .i64)], [(.pair .str (.pair (.int .i64) (.list (.pair (.int .i64) (.pair (.int .i64) (.pair (.int .i64) (.pair (.int .i64) (.pair (.int .i64) (.pair (.int .i64) (.int .i64)))))))))), (.pair .str (.pair (.int .i64) (.pair (.pair (.int .i64) (.int .i64)) (.pair (.int .i64) (.pair (.int .i64) (.pair (.list (.int .i64)) (.pair (.list (.pair (.int .i64) (.int .i64))) (.pair (.int .i64) (.int .i64))))))))), (.int .i64)], ⟨[.v (.int .i64)], []⟩, [(.int .i64)], fun h => Pw.r10_shift h.1 h.2.1 h.2.2⟩

noncomputable def r10_shift_d : FnD where
  N := 81
  np := 3
  cs := [r04_ToLocal_con, r04_First_con, r10_handover_con]
  ds := [⟨0, [.s (.one (.d (.int .i64))), .s (.one (.bp 192 0)), .s (.one (.bp 256 0)), .s (.one (.d (.int .i64))), .b (.cell [.d .str, .d (.int .i64), .d (.list (.pair (.int .i64) (.pair (.int .i64) (.pair (.int .i64) (.pair (.int .i64) (.pair (.int .i64) (.pair (.int .i64) (.int .i64))))))))] false), .b (.cell [.d .str, .d (.int .i64), .d (.int .i64), .d (.int .i64), .d (.int .i64), .d (.int .i64), .d (.list (.int .i64)), .d (.list (.pair (.int .i64) (.int .i64))), .d (.int .i64), .d (.int .i64)] false)], [(.int .i64), (.int .i64), .str, (.int .i64), (.list (.pair (.int .i64) (.pair (.int .i64) (.pair (.int .i64) (.pair (.int .i64) (.pair (.int .i64) (.pair (.int .i64) (.int .i64)))))))), .str, (.int .i64), (.int .i64), (.int .i64), (.int .i64), (.int .i64), (.list (.int .i64)), (.list (.pair (.int .i64) (.int .i64))), (.int .i64), (.int .i64)], [⟨.exit 0, [.s (.one (.d (.int .i64)))], [(.int .i64)]⟩], fun h => Pw.r10_shift_l0_step h.1 h.2.1 h.2.2.1 h.2.2.2.1 h.2.2.2.2.1 h.2.2.2.2.2.1 h.2.2.2.2.2.2.1 h.2.2.2.2.2.2.2.1 h.2.2.2.2.2.2.2.2.1 h.2.2.2.2.2.2.2.2.2.1 h.2.2.2.2.2.2.2.2.2.2.1 h.2.2.2.2.2.2.2.2.2.2.2.1 h.2.2.2.2.2.2.2.2.2.2.2.2.1 h.2.2.2.2.2.2.2.2.2.2.2.2.2.1 h.2.2.2.2.2.2.2.2.2.2.2.2.2.2⟩]
  modes := [(22, [false, false]), (26, [false, false]), (67, [false, false, false])]
  keep := [(0, ⟨[2, 3, 4, 7], [192, 256], [], []⟩)]
  keepX := [(0, .exit 0, ⟨[7], [], [], []⟩)]
  ro := [false]
  dw := []

set_option maxRecDepth 100000 in
theorem r10_shift_ok : Con.OK Try.prog r10_shift_con :=
  con_of tabOk mixedOk r10_shift_d r10_shift_con Try.f70 (Try.f70.body.getD .skip) Try.func70 (by kernel_rfl) (by kernel_rfl) (Nat.le_of_ble_eq_true (by kernel_rfl)) (by kernel_rfl) (And.intro r04_ToLocal_ok (And.intro r04_First_ok (And.intro r10_handover_ok trivial))) (by kernel_rfl) (by kernel_rfl)
    (And.intro (fun h => by kernel_rfl) trivial)
    (fun h => by kernel_rfl)

noncomputable def r10_Shift_con : Con := ⟨39, [.v (.pair .str (.pair (.int .i64) (.list (.pair (.int .i64) (.pair (.int .i64) (.pair (.int .i64) (.pair (.int .i64) (.pair (.int .i64) (.pair (.int .i64) (.int .i64)))))))))), .v (.pair .str (.pair (.int .i64) (.pair (.pair (.int .i64) (.int .i64)) (.pair (.int .i64) (.pair (.int .i64) (.pair (.list (.int .i64)) (.pair (.list (.pair (.int .i64) (.int .i64))) (.pair (.int .i64) (.int .i64))))))))), .v (.int .i64)], [(.pair .str (.pair (.int .i64) (.list (.pair (.int .i64) (.pair (.int .i64) (.pair (.int .i64) (.pair (.int .i64) (.pair (.int .i64) (.pair (.int .i64) (.int .i64)))))))))), (.pair .str (.pair (.int .i64) (.pair (.pair (.int .i64) (.int .i64)) (.pair (.int .i64) (.pair (.int .i64) (.pair (.list (.int .i64)) (.pair (.list (.pair (.int .i64) (.int .i64))) (.pair (.int .i64) (.int .i64))))))))), (.int .i64)], ⟨[.v (.int .i64), .v (.int .i64)], []⟩, [(.int .i64), (.int .i64)], fun h => Pw.r10_Shift h.1 h.2.1 h.2.2⟩

noncomputable def r10_Shift_d : FnD where
  N := 22
  np := 3
  cs := [r10_Check_con, r10_shift_con]
  ds := []
  modes := [(34, [false, false]), (70, [false, false, false])]
  keep := []
  keepX := []
  ro := [false, false]
  dw := []

set_option maxRecDepth 100000 in
theorem r10_Shift_ok : Con.OK Try.prog r10_Shift_con :=
  con_of tabOk mixedOk r10_Shift_d r10_Shift_con Try.f39 (Try.f39.body.getD .skip) Try.func39 (by kernel_rfl) (by kernel_rfl) (Nat.le_of_ble_eq_true (by kernel_rfl)) (by kernel_rfl) (And.intro r10_Check_ok (And.intro r10_shift_ok trivial)) (by kernel_rfl) (by kernel_rfl)
    trivial
    (fun h => by kernel_rfl)

noncomputable def r10_Turn_con : Con := ⟨41, [.v (.pair .str (.pair (.int .i64) (.list (.pair (.int .i64) (.pair (.int .i64) (.pair (.int .i64) (.pair (.int .i64) (.pair (.int .i64) (.pair (.int .i64) (.int .i64)))))))))), .v (.pair .str (.pair (.int .i64) (.pair (.pair (.int .i64) (.int .i64)) (.pair (.int .i64) (.pair (.int .i64) (.pair (.list (.int .i64)) (.pair (.list (.pair (.int .i64) (.int .i64))) (.pair (.int .i64) (.int .i64))))))))), .v (.int .i64)], [(.pair .str (.pair (.int .i64) (.list (.pair (.int .i64) (.pair (.int .i64) (.pair (.int .i64) (.pair (.int .i64) (.pair (.int .i64) (.pair (.int .i64) (.int .i64)))))))))), (.pair .str (.pair (.int .i64) (.pair (.pair (.int .i64) (.int .i64)) (.pair (.int .i64) (.pair (.int .i64) (.pair (.list (.int .i64)) (.pair (.list (.pair (.int .i64) (.int .i64))) (.pair (.int .i64) (.int .i64))))))))), (.int .i64)], ⟨[.v (.int .i64), .v (.int .i64)], []⟩, [(.int .i64), (.int .i64)], fun h => Pw.r10_Turn h.1 h.2.1 h.2.2⟩

noncomputable def r10_Turn_d : FnD where
  N := 31
  np := 3
  cs := [r10_Shift_con]
  ds := []
  modes := [(39, [false, false, false])]
  keep := []
  keepX := []
  ro := [false, false]
  dw := []

set_option maxRecDepth 100000 in
theorem r10_Turn_ok : Con.OK Try.prog r10_Turn_con :=
  con_of tabOk mixedOk r10_Turn_d r10_Turn_con Try.f41 (Try.f41.body.getD .skip) Try.func41 (by kernel_rfl) (by kernel_rfl) (Nat.le_of_ble_eq_true (by kernel_rfl)) (by kernel_rfl) (And.intro r10_Shift_ok trivial) (by kernel_rfl) (by kernel_rfl)
    trivial
    (fun h => by kernel_rfl)

noncomputable def r05_Range_con : Con := ⟨72, [.v (.int .i64), .v (.int .i64)], [(.int .i64), (.int .i64)], ⟨[.v .bool], []⟩, [.bool], fun h => Pw.r05_Range h.1 h.2⟩

noncomputable def r05_Range_d : FnD where
  N := 26
  np := 2
  cs := []
  ds := []
  modes := []
  keep := []
  keepX := []
  ro := [false]
  dw := []

set_option maxRecDepth 100000 in
theorem r05_Range_ok : Con.OK Try.prog r05_Range_con :=
  con_of tabOk mixedOk r05_Range_d r05_Range_con Try.f72 (Try.f72.body.getD .skip) Try.func72 (by kernel_rfl) (by kernel_rfl) (Nat.le_of_ble_eq_true (by kernel_rfl)) (by kernel_rfl) trivial (by kernel_rfl) (by kernel_rfl)
    trivial
    (fun h => by kernel_rfl)

noncomputable def r10_Handovers_con : Con := ⟨43, [.v (.pair .str (.pair (.int .i64) (.list (.pair (.int .i64) (.pair (.int .i64) (.pair (.int .i64) (.pair (.int .i64) (.pair (.int .i64) (.pair (.int .i64) (.int .i64)))))))))), .v (.pair .str (.pair (.int .i64) (.pair (.pair (.int .i64) (.int .i64)) (.pair (.int .i64) (.pair (.int .i64) (.pair (.list (.int .i64)) (.pair (.list (.pair (.int .i64) (.int .i64))) (.pair (.int .i64) (.int .i64))))))))), .v (.int .i64), .v (.int .i64)], [(.pair .str (.pair (.int .i64) (.list (.pair (.int .i64) (.pair (.int .i64) (.pair (.int .i64) (.pair (.int .i64) (.pair (.int .i64) (.pair (.int .i64) (.int .i64)))))))))), (.pair .str (.pair (.int .i64) (.pair (.pair (.int .i64) (.int .i64)) (.pair (.int .i64) (.pair (.int .i64) (.pair (.list (.int .i64)) (.pair (.list (.pair (.int .i64) (.int .i64))) (.pair (.int .i64) (.int .i64))))))))), (.int .i64), (.int .i64)], ⟨[.own 3 (.list (.int .i64)), .v (.int .i64)], []⟩, [(.list (.int .i64)), (.int .i64)], fun h => Pw.r10_Handovers h.1 h.2.1 h.2.2.1 h.2.2.2⟩

noncomputable def r10_Handovers_d : FnD where
  N := 51
  np := 4
  cs := [r10_Check_con, r10_handover_con, r10_shift_con, r05_Range_con]
  ds := [⟨0, [.s (.one (.d (.int .i64))), .s (.one (.d (.int .i64))), .s (.one (.bp 256 0)), .s (.one (.bp 320 0)), .s (.one (.ol 1000000)), .s (.one (.d (.int .i64))), .b (.cell [.d .str, .d (.int .i64), .d (.list (.pair (.int .i64) (.pair (.int .i64) (.pair (.int .i64) (.pair (.int .i64) (.pair (.int .i64) (.pair (.int .i64) (.int .i64))))))))] false), .b (.cell [.d .str, .d (.int .i64), .d (.int .i64), .d (.int .i64), .d (.int .i64), .d (.int .i64), .d (.list (.int .i64)), .d (.list (.pair (.int .i64) (.int .i64))), .d (.int .i64), .d (.int .i64)] false), .b (.lst 3 (.int .i64) false)], [(.int .i64), (.int .i64), (.int .i64), .str, (.int .i64), (.list (.pair (.int .i64) (.pair (.int .i64) (.pair (.int .i64) (.pair (.int .i64) (.pair (.int .i64) (.pair (.int .i64) (.int .i64)))))))), .str, (.int .i64), (.int .i64), (.int .i64), (.int .i64), (.int .i64), (.list (.int .i64)), (.list (.pair (.int .i64) (.int .i64))), (.int .i64), (.int .i64), (.list (.int .i64))], [⟨.ret, [.s (.one (.ol 1500000)), .s (.one (.d (.int .i64))), .b (.lst 3 (.int .i64) false)], [(.int .i64), (.list (.int .i64))]⟩], fun h => Pw.r10_Handovers_l0_step h.1 h.2.1 h.2.2.1 h.2.2.2.1 h.2.2.2.2.1 h.2.2.2.2.2.1 h.2.2.2.2.2.2.1 h.2.2.2.2.2.2.2.1 h.2.2.2.2.2.2.2.2.1 h.2.2.2.2.2.2.2.2.2.1 h.2.2.2.2.2.2.2.2.2.2.1 h.2.2.2.2.2.2.2.2.2.2.2.1 h.2.2.2.2.2.2.2.2.2.2.2.2.1 h.2.2.2.2.2.2.2.2.2.2.2.2.2.1 h.2.2.2.2.2.2.2.2.2.2.2.2.2.2.1 h.2.2.2.2.2.2.2.2.2.2.2.2.2.2.2.1 h.2.2.2.2.2.2.2.2.2.2.2.2.2.2.2.2⟩]
  modes := [(34, [false, false]), (67, [false, false, false]), (70, [false, false, false]), (72, [false, false])]
  keep := [(0, ⟨[2, 3, 4, 5, 10, 11], [256, 320], [⟨1000000, 3, (.int .i64), [.slot 10], false⟩], []⟩)]
  keepX := [(0, .ret, ⟨[8, 9], [], [⟨1500000, 3, (.int .i64), [.slot 8], false⟩], []⟩)]
  ro := [true, false]
  dw := []

set_option maxRecDepth 100000 in
theorem r10_Handovers_ok : Con.OK Try.prog r10_Handovers_con :=
  con_of tabOk mixedOk r10_Handovers_d r10_Handovers_con Try.f43 (Try.f43.body.getD .skip) Try.func43 (by kernel_rfl) (by kernel_rfl) (Nat.le_of_ble_eq_true (by kernel_rfl)) (by kernel_rfl) (And.intro r10_Check_ok (And.intro r10_handover_ok (And.intro r10_shift_ok (And.intro r05_Range_ok trivial)))) (by kernel_rfl) (by kernel_rfl)
    (And.intro (fun h => by kernel_rfl) trivial)
    (fun h => by kernel_rfl)
end Go.Proofs.Pk
