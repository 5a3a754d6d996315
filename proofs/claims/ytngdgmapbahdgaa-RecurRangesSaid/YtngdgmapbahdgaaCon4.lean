/- Contracts: each given function is its plain function, printed by a program. -/
import Derived.Test.YtngdgmapbahdgaaCon3
open Go Go.Lft
set_option linter.unusedVariables false
namespace Go.Proofs.Pk

noncomputable def recur_Handovers_con : Con := ⟨56, [.v (.pair .str (.pair (.int .i64) (.list (.pair (.int .i64) (.pair (.int .i64) (.pair (.int .i64) (.pair (.int .i64) (.pair (.int .i64) (.pair (.int .i64) (.int .i64)))))))))), .v (.pair .str (.pair (.int .i64) (.pair (.pair (.int .i64) (.int .i64)) (.pair (.int .i64) (.pair (.int .i64) (.pair (.list (.int .i64)) (.pair (.list (.pair (.int .i64) (.int .i64))) (.pair (.int .i64) (.int .i64))))))))), .v (.int .i64), .v (.int .i64)], [(.pair .str (.pair (.int .i64) (.list (.pair (.int .i64) (.pair (.int .i64) (.pair (.int .i64) (.pair (.int .i64) (.pair (.int .i64) (.pair (.int .i64) (.int .i64)))))))))), (.pair .str (.pair (.int .i64) (.pair (.pair (.int .i64) (.int .i64)) (.pair (.int .i64) (.pair (.int .i64) (.pair (.list (.int .i64)) (.pair (.list (.pair (.int .i64) (.int .i64))) (.pair (.int .i64) (.int .i64))))))))), (.int .i64), (.int .i64)], ⟨[.own 3 (.list (.int .i64)), .v (.int .i64)], []⟩, [(.list (.int .i64)), (.int .i64)], fun h => Pw.recur_Handovers h.1 h.2.1 h.2.2.1 h.2.2.2⟩

noncomputable def recur_Handovers_d : FnD where
  N := 42
  np := 4
  cs := [recur_in_con, recur_open_con, recur_HandoversOf_con]
  ds := []
  modes := [(94, [false, false]), (96, [false, false, false]), (98, [false, false, false, false])]
  keep := []
  keepX := []
  ro := [true, false]
  dw := []

set_option maxRecDepth 100000 in
theorem recur_Handovers_ok : Con.OK Try.prog recur_Handovers_con :=
  con_of tabOk mixedOk recur_Handovers_d recur_Handovers_con Try.f56 (Try.f56.body.getD .skip) Try.func56 (by kernel_rfl) (by kernel_rfl) (Nat.le_of_ble_eq_true (by kernel_rfl)) (by kernel_rfl) (And.intro recur_in_ok (And.intro recur_open_ok (And.intro recur_HandoversOf_ok trivial))) (by kernel_rfl) (by kernel_rfl)
    trivial
    (fun h => by kernel_rfl)

noncomputable def recur_Shift_con : Con := ⟨54, [.v (.pair .str (.pair (.int .i64) (.list (.pair (.int .i64) (.pair (.int .i64) (.pair (.int .i64) (.pair (.int .i64) (.pair (.int .i64) (.pair (.int .i64) (.int .i64)))))))))), .v (.pair .str (.pair (.int .i64) (.pair (.pair (.int .i64) (.int .i64)) (.pair (.int .i64) (.pair (.int .i64) (.pair (.list (.int .i64)) (.pair (.list (.pair (.int .i64) (.int .i64))) (.pair (.int .i64) (.int .i64))))))))), .v (.int .i64)], [(.pair .str (.pair (.int .i64) (.list (.pair (.int .i64) (.pair (.int .i64) (.pair (.int .i64) (.pair (.int .i64) (.pair (.int .i64) (.pair (.int .i64) (.int .i64)))))))))), (.pair .str (.pair (.int .i64) (.pair (.pair (.int .i64) (.int .i64)) (.pair (.int .i64) (.pair (.int .i64) (.pair (.list (.int .i64)) (.pair (.list (.pair (.int .i64) (.int .i64))) (.pair (.int .i64) (.int .i64))))))))), (.int .i64)], ⟨[.v (.int .i64), .v (.int .i64)], []⟩, [(.int .i64), (.int .i64)], fun h => Pw.recur_Shift h.1 h.2.1 h.2.2⟩

noncomputable def recur_Shift_d : FnD where
  N := 27
  np := 3
  cs := [recur_in_con, recur_open_con, recur_ShiftOf_con]
  ds := []
  modes := [(94, [false, false]), (96, [false, false, false]), (97, [false, false, false])]
  keep := []
  keepX := []
  ro := [false, false]
  dw := []

set_option maxRecDepth 100000 in
theorem recur_Shift_ok : Con.OK Try.prog recur_Shift_con :=
  con_of tabOk mixedOk recur_Shift_d recur_Shift_con Try.f54 (Try.f54.body.getD .skip) Try.func54 (by kernel_rfl) (by kernel_rfl) (Nat.le_of_ble_eq_true (by kernel_rfl)) (by kernel_rfl) (And.intro recur_in_ok (And.intro recur_open_ok (And.intro recur_ShiftOf_ok trivial))) (by kernel_rfl) (by kernel_rfl)
    trivial
    (fun h => by kernel_rfl)

noncomputable def recur_Turn_con : Con := ⟨55, [.v (.pair .str (.pair (.int .i64) (.list (.pair (.int .i64) (.pair (.int .i64) (.pair (.int .i64) (.pair (.int .i64) (.pair (.int .i64) (.pair (.int .i64) (.int .i64)))))))))), .v (.pair .str (.pair (.int .i64) (.pair (.pair (.int .i64) (.int .i64)) (.pair (.int .i64) (.pair (.int .i64) (.pair (.list (.int .i64)) (.pair (.list (.pair (.int .i64) (.int .i64))) (.pair (.int .i64) (.int .i64))))))))), .v (.int .i64)], [(.pair .str (.pair (.int .i64) (.list (.pair (.int .i64) (.pair (.int .i64) (.pair (.int .i64) (.pair (.int .i64) (.pair (.int .i64) (.pair (.int .i64) (.int .i64)))))))))), (.pair .str (.pair (.int .i64) (.pair (.pair (.int .i64) (.int .i64)) (.pair (.int .i64) (.pair (.int .i64) (.pair (.list (.int .i64)) (.pair (.list (.pair (.int .i64) (.int .i64))) (.pair (.int .i64) (.int .i64))))))))), (.int .i64)], ⟨[.v (.int .i64), .v (.int .i64)], []⟩, [(.int .i64), (.int .i64)], fun h => Pw.recur_Turn h.1 h.2.1 h.2.2⟩

noncomputable def recur_Turn_d : FnD where
  N := 30
  np := 3
  cs := [recur_Shift_con]
  ds := []
  modes := [(54, [false, false, false])]
  keep := []
  keepX := []
  ro := [false, false]
  dw := []

set_option maxRecDepth 100000 in
theorem recur_Turn_ok : Con.OK Try.prog recur_Turn_con :=
  con_of tabOk mixedOk recur_Turn_d recur_Turn_con Try.f55 (Try.f55.body.getD .skip) Try.func55 (by kernel_rfl) (by kernel_rfl) (Nat.le_of_ble_eq_true (by kernel_rfl)) (by kernel_rfl) (And.intro recur_Shift_ok trivial) (by kernel_rfl) (by kernel_rfl)
    trivial
    (fun h => by kernel_rfl)

noncomputable def recur_Handover_con : Con := ⟨53, [.v (.pair .str (.pair (.int .i64) (.list (.pair (.int .i64) (.pair (.int .i64) (.pair (.int .i64) (.pair (.int .i64) (.pair (.int .i64) (.pair (.int .i64) (.int .i64)))))))))), .v (.pair .str (.pair (.int .i64) (.pair (.pair (.int .i64) (.int .i64)) (.pair (.int .i64) (.pair (.int .i64) (.pair (.list (.int .i64)) (.pair (.list (.pair (.int .i64) (.int .i64))) (.pair (.int .i64) (.int .i64))))))))), .v (.int .i64)], [(.pair .str (.pair (.int .i64) (.list (.pair (.int .i64) (.pair (.int .i64) (.pair (.int .i64) (.pair (.int .i64) (.pair (.int .i64) (.pair (.int .i64) (.int .i64)))))))))), (.pair .str (.pair (.int .i64) (.pair (.pair (.int .i64) (.int .i64)) (.pair (.int .i64) (.pair (.int .i64) (.pair (.list (.int .i64)) (.pair (.list (.pair (.int .i64) (.int .i64))) (.pair (.int .i64) (.int .i64))))))))), (.int .i64)], ⟨[.v (.int .i64), .v (.int .i64)], []⟩, [(.int .i64), (.int .i64)], fun h => Pw.recur_Handover h.1 h.2.1 h.2.2⟩

noncomputable def recur_Handover_d : FnD where
  N := 33
  np := 3
  cs := [recur_open_con, recur_HandoverOf_con]
  ds := []
  modes := [(94, [false, false]), (95, [false, false, false])]
  keep := []
  keepX := []
  ro := [false, false]
  dw := []

set_option maxRecDepth 100000 in
theorem recur_Handover_ok : Con.OK Try.prog recur_Handover_con :=
  con_of tabOk mixedOk recur_Handover_d recur_Handover_con Try.f53 (Try.f53.body.getD .skip) Try.func53 (by kernel_rfl) (by kernel_rfl) (Nat.le_of_ble_eq_true (by kernel_rfl)) (by kernel_rfl) (And.intro recur_open_ok (And.intro recur_HandoverOf_ok trivial)) (by kernel_rfl) (by kernel_rfl)
    trivial
    (fun h => by kernel_rfl)

noncomputable def law10_sane_con : Con := ⟨50, [], [], ⟨[.v .bool], []⟩, [.bool], fun h => Pw.law10_sane⟩

noncomputable def law10_sane_d : FnD where
  N := 87
  np := 0
  cs := [recur_Handovers_con, recur_Shift_con, recur_Turn_con, recur_Handover_con]
  ds := []
  modes := [(53, [false, false, false]), (54, [false, false, false]), (55, [false, false, false]), (56, [false, false, false, false])]
  keep := []
  keepX := []
  ro := [false]
  dw := []

set_option maxRecDepth 100000 in
theorem law10_sane_ok : Con.OK Try.prog law10_sane_con :=
  con_of tabOk mixedOk law10_sane_d law10_sane_con Try.f50 (Try.f50.body.getD .skip) Try.func50 (by kernel_rfl) (by kernel_rfl) (Nat.le_of_ble_eq_true (by kernel_rfl)) (by kernel_rfl) (And.intro recur_Handovers_ok (And.intro recur_Shift_ok (And.intro recur_Turn_ok (And.intro recur_Handover_ok trivial)))) (by kernel_rfl) (by kernel_rfl)
    trivial
    (fun h => by kernel_rfl)

noncomputable def made_names_con : Con := ⟨93, [], [], ⟨[.own 9 (.list .str)], []⟩, [(.list .str)], fun h => Pw.made_names⟩

noncomputable def made_names_d : FnD where
  N := 2
  np := 0
  cs := []
  ds := []
  modes := []
  keep := []
  keepX := []
  ro := [true]
  dw := []

set_option maxRecDepth 100000 in
theorem made_names_ok : Con.OK Try.prog made_names_con :=
  con_of tabOk mixedOk made_names_d made_names_con Try.f93 (Try.f93.body.getD .skip) Try.func93 (by kernel_rfl) (by kernel_rfl) (Nat.le_of_ble_eq_true (by kernel_rfl)) (by kernel_rfl) trivial (by kernel_rfl) (by kernel_rfl)
    trivial
    (fun h => by kernel_rfl)

noncomputable def made_Dice_Staff_con : Con := ⟨51, [.ref [(.list (.int .i64)), (.int .i64)]], [(.list (.int .i64)), (.int .i64)], ⟨[.v (.pair (.list (.pair .str (.pair (.int .i64) (.list (.pair (.int .i64) (.pair (.int .i64) (.pair (.int .i64) (.pair (.int .i64) (.pair (.int .i64) (.pair (.int .i64) (.int .i64))))))))))) (.pair (.list (.pair .str (.pair (.int .i64) (.pair (.list (.pair (.int .i64) (.int .i64))) (.pair (.int .i64) (.pair (.int .i64) .bool)))))) (.pair (.list (.pair .str (.pair (.int .i64) (.list (.int .i64))))) (.list (.pair .str (.pair (.list (.pair .str (.pair (.int .i64) (.pair (.pair (.int .i64) (.int .i64)) (.pair (.int .i64) (.pair (.int .i64) (.pair (.list (.int .i64)) (.pair (.list (.pair (.int .i64) (.int .i64))) (.pair (.int .i64) (.int .i64)))))))))) (.list (.pair (.int .i64) (.pair (.int .i64) (.pair (.int .i64) (.pair (.int .i64) (.int .i64))))))))))))], [.ref [(.list (.int .i64)), (.int .i64)]]⟩, [(.pair (.list (.pair .str (.pair (.int .i64) (.list (.pair (.int .i64) (.pair (.int .i64) (.pair (.int .i64) (.pair (.int .i64) (.pair (.int .i64) (.pair (.int .i64) (.int .i64))))))))))) (.pair (.list (.pair .str (.pair (.int .i64) (.pair (.list (.pair (.int .i64) (.int .i64))) (.pair (.int .i64) (.pair (.int .i64) .bool)))))) (.pair (.list (.pair .str (.pair (.int .i64) (.list (.int .i64))))) (.list (.pair .str (.pair (.list (.pair .str (.pair (.int .i64) (.pair (.pair (.int .i64) (.int .i64)) (.pair (.int .i64) (.pair (.int .i64) (.pair (.list (.int .i64)) (.pair (.list (.pair (.int .i64) (.int .i64))) (.pair (.int .i64) (.int .i64)))))))))) (.list (.pair (.int .i64) (.pair (.int .i64) (.pair (.int .i64) (.pair (.int .i64) (.int .i64)))))))))))), (.list (.int .i64)), (.int .i64)], fun h => Pw.made_Dice_Staff h.1 h.2⟩

noncomputable def made_Dice_Staff_d : FnD where
  N := 109
  np := 1
  cs := [made_Dice_Next_con, made_Dice_Pick_con, made_Dice_Zone_con, made_Dice_Windows_con, made_Dice_Bool_con, made_names_con]
  ds := [⟨0, [.s (.one (.bp 0 0)), .s (.one (.bp 128 0)), .s (.one (.bp 192 0)), .s (.one (.d (.int .i64))), .b (.cell [.d (.list (.int .i64)), .d (.int .i64)] false), .b (.cell [.nil, .nil, .nil, .nil] false), .b (.cell [.ol 1000000, .nil, .nil, .nil] false), .b (.lst 29 (.pair .str (.pair (.int .i64) (.list (.pair (.int .i64) (.pair (.int .i64) (.pair (.int .i64) (.pair (.int .i64) (.pair (.int .i64) (.pair (.int .i64) (.int .i64)))))))))) false)], [(.int .i64), (.list (.int .i64)), (.int .i64), (.list (.pair .str (.pair (.int .i64) (.list (.pair (.int .i64) (.pair (.int .i64) (.pair (.int .i64) (.pair (.int .i64) (.pair (.int .i64) (.pair (.int .i64) (.int .i64)))))))))))], [⟨.exit 0, [.s (.one (.bp 0 0)), .s (.one (.bp 128 0)), .s (.one (.bp 192 0)), .b (.cell [.d (.list (.int .i64)), .d (.int .i64)] false), .b (.cell [.nil, .nil, .nil, .nil] false), .b (.cell [.ol 1500100, .nil, .nil, .nil] false), .b (.lst 29 (.pair .str (.pair (.int .i64) (.list (.pair (.int .i64) (.pair (.int .i64) (.pair (.int .i64) (.pair (.int .i64) (.pair (.int .i64) (.pair (.int .i64) (.int .i64)))))))))) false)], [(.list (.int .i64)), (.int .i64), (.list (.pair .str (.pair (.int .i64) (.list (.pair (.int .i64) (.pair (.int .i64) (.pair (.int .i64) (.pair (.int .i64) (.pair (.int .i64) (.pair (.int .i64) (.int .i64)))))))))))]⟩], fun h => Pw.made_Dice_Staff_l0_step h.1 h.2.1 h.2.2.1 h.2.2.2⟩,
    ⟨2, [.s (.one (.bp 0 0)), .s (.one (.bp 128 0)), .s (.one (.bp 192 0)), .s (.one (.d (.int .i64))), .b (.cell [.d (.list (.int .i64)), .d (.int .i64)] false), .b (.cell [.nil, .nil, .nil, .nil] false), .b (.cell [.ol 1002000, .ol 1002001, .nil, .nil] false), .b (.lst 29 (.pair .str (.pair (.int .i64) (.list (.pair (.int .i64) (.pair (.int .i64) (.pair (.int .i64) (.pair (.int .i64) (.pair (.int .i64) (.pair (.int .i64) (.int .i64)))))))))) false), .b (.lst 135 (.pair .str (.pair (.int .i64) (.pair (.list (.pair (.int .i64) (.int .i64))) (.pair (.int .i64) (.pair (.int .i64) .bool))))) false)], [(.int .i64), (.list (.int .i64)), (.int .i64), (.list (.pair .str (.pair (.int .i64) (.list (.pair (.int .i64) (.pair (.int .i64) (.pair (.int .i64) (.pair (.int .i64) (.pair (.int .i64) (.pair (.int .i64) (.int .i64))))))))))), (.list (.pair .str (.pair (.int .i64) (.pair (.list (.pair (.int .i64) (.int .i64))) (.pair (.int .i64) (.pair (.int .i64) .bool))))))], [⟨.exit 2, [.s (.one (.bp 0 0)), .s (.one (.bp 128 0)), .s (.one (.bp 192 0)), .b (.cell [.d (.list (.int .i64)), .d (.int .i64)] false), .b (.cell [.nil, .nil, .nil, .nil] false), .b (.cell [.ol 1502300, .ol 1502301, .nil, .nil] false), .b (.lst 29 (.pair .str (.pair (.int .i64) (.list (.pair (.int .i64) (.pair (.int .i64) (.pair (.int .i64) (.pair (.int .i64) (.pair (.int .i64) (.pair (.int .i64) (.int .i64)))))))))) false), .b (.lst 135 (.pair .str (.pair (.int .i64) (.pair (.list (.pair (.int .i64) (.int .i64))) (.pair (.int .i64) (.pair (.int .i64) .bool))))) false)], [(.list (.int .i64)), (.int .i64), (.list (.pair .str (.pair (.int .i64) (.list (.pair (.int .i64) (.pair (.int .i64) (.pair (.int .i64) (.pair (.int .i64) (.pair (.int .i64) (.pair (.int .i64) (.int .i64))))))))))), (.list (.pair .str (.pair (.int .i64) (.pair (.list (.pair (.int .i64) (.int .i64))) (.pair (.int .i64) (.pair (.int .i64) .bool))))))]⟩], fun h => Pw.made_Dice_Staff_l2_step h.1 h.2.1 h.2.2.1 h.2.2.2.1 h.2.2.2.2⟩,
    ⟨4, [.s (.one (.bp 0 0)), .s (.one (.bp 128 0)), .s (.one (.bp 192 0)), .s (.one (.d (.int .i64))), .b (.cell [.d (.list (.int .i64)), .d (.int .i64)] false), .b (.cell [.nil, .nil, .nil, .nil] false), .b (.cell [.ol 1004000, .ol 1004001, .ol 1004002, .nil] false), .b (.lst 29 (.pair .str (.pair (.int .i64) (.list (.pair (.int .i64) (.pair (.int .i64) (.pair (.int .i64) (.pair (.int .i64) (.pair (.int .i64) (.pair (.int .i64) (.int .i64)))))))))) false), .b (.lst 135 (.pair .str (.pair (.int .i64) (.pair (.list (.pair (.int .i64) (.int .i64))) (.pair (.int .i64) (.pair (.int .i64) .bool))))) false), .b (.lst 137 (.pair .str (.pair (.int .i64) (.list (.int .i64)))) false)], [(.int .i64), (.list (.int .i64)), (.int .i64), (.list (.pair .str (.pair (.int .i64) (.list (.pair (.int .i64) (.pair (.int .i64) (.pair (.int .i64) (.pair (.int .i64) (.pair (.int .i64) (.pair (.int .i64) (.int .i64))))))))))), (.list (.pair .str (.pair (.int .i64) (.pair (.list (.pair (.int .i64) (.int .i64))) (.pair (.int .i64) (.pair (.int .i64) .bool)))))), (.list (.pair .str (.pair (.int .i64) (.list (.int .i64)))))], [⟨.exit 4, [.s (.one (.bp 128 0)), .s (.one (.bp 192 0)), .b (.cell [.d (.list (.int .i64)), .d (.int .i64)] false), .b (.cell [.nil, .nil, .nil, .nil] false), .b (.cell [.ol 1504500, .ol 1504501, .ol 1504502, .nil] false), .b (.lst 29 (.pair .str (.pair (.int .i64) (.list (.pair (.int .i64) (.pair (.int .i64) (.pair (.int .i64) (.pair (.int .i64) (.pair (.int .i64) (.pair (.int .i64) (.int .i64)))))))))) false), .b (.lst 135 (.pair .str (.pair (.int .i64) (.pair (.list (.pair (.int .i64) (.int .i64))) (.pair (.int .i64) (.pair (.int .i64) .bool))))) false), .b (.lst 137 (.pair .str (.pair (.int .i64) (.list (.int .i64)))) false)], [(.list (.int .i64)), (.int .i64), (.list (.pair .str (.pair (.int .i64) (.list (.pair (.int .i64) (.pair (.int .i64) (.pair (.int .i64) (.pair (.int .i64) (.pair (.int .i64) (.pair (.int .i64) (.int .i64))))))))))), (.list (.pair .str (.pair (.int .i64) (.pair (.list (.pair (.int .i64) (.int .i64))) (.pair (.int .i64) (.pair (.int .i64) .bool)))))), (.list (.pair .str (.pair (.int .i64) (.list (.int .i64)))))]⟩], fun h => Pw.made_Dice_Staff_l4_step h.1 h.2.1 h.2.2.1 h.2.2.2.1 h.2.2.2.2.1 h.2.2.2.2.2⟩,
    ⟨6, [.s (.one (.bp 0 0)), .s (.one (.bp 128 0)), .s (.one (.bp 192 0)), .s (.one (.d (.int .i64))), .s (.one (.bp 512 0)), .s (.one (.d (.int .i64))), .s (.one (.d (.int .i64))), .b (.cell [.d (.list (.int .i64)), .d (.int .i64)] false), .b (.cell [.nil, .nil, .nil, .nil] false), .b (.cell [.ol 1006000, .ol 1006001, .ol 1006002, .nil] false), .b (.cell [.d .str, .d (.int .i64), .ol 1006003] false), .b (.lst 29 (.pair .str (.pair (.int .i64) (.list (.pair (.int .i64) (.pair (.int .i64) (.pair (.int .i64) (.pair (.int .i64) (.pair (.int .i64) (.pair (.int .i64) (.int .i64)))))))))) false), .b (.lst 135 (.pair .str (.pair (.int .i64) (.pair (.list (.pair (.int .i64) (.int .i64))) (.pair (.int .i64) (.pair (.int .i64) .bool))))) false), .b (.lst 137 (.pair .str (.pair (.int .i64) (.list (.int .i64)))) false), .b (.lst 3 (.int .i64) false)], [(.int .i64), (.int .i64), (.int .i64), (.list (.int .i64)), (.int .i64), .str, (.int .i64), (.list (.pair .str (.pair (.int .i64) (.list (.pair (.int .i64) (.pair (.int .i64) (.pair (.int .i64) (.pair (.int .i64) (.pair (.int .i64) (.pair (.int .i64) (.int .i64))))))))))), (.list (.pair .str (.pair (.int .i64) (.pair (.list (.pair (.int .i64) (.int .i64))) (.pair (.int .i64) (.pair (.int .i64) .bool)))))), (.list (.pair .str (.pair (.int .i64) (.list (.int .i64))))), (.list (.int .i64))], [⟨.exit 6, [.s (.one (.bp 0 0)), .s (.one (.bp 128 0)), .s (.one (.bp 192 0)), .s (.one (.d (.int .i64))), .s (.one (.bp 512 0)), .b (.cell [.d (.list (.int .i64)), .d (.int .i64)] false), .b (.cell [.nil, .nil, .nil, .nil] false), .b (.cell [.ol 1506700, .ol 1506701, .ol 1506702, .nil] false), .b (.cell [.d .str, .d (.int .i64), .ol 1506703] false), .b (.lst 29 (.pair .str (.pair (.int .i64) (.list (.pair (.int .i64) (.pair (.int .i64) (.pair (.int .i64) (.pair (.int .i64) (.pair (.int .i64) (.pair (.int .i64) (.int .i64)))))))))) false), .b (.lst 135 (.pair .str (.pair (.int .i64) (.pair (.list (.pair (.int .i64) (.int .i64))) (.pair (.int .i64) (.pair (.int .i64) .bool))))) false), .b (.lst 137 (.pair .str (.pair (.int .i64) (.list (.int .i64)))) false), .b (.lst 3 (.int .i64) false)], [(.int .i64), (.list (.int .i64)), (.int .i64), .str, (.int .i64), (.list (.pair .str (.pair (.int .i64) (.list (.pair (.int .i64) (.pair (.int .i64) (.pair (.int .i64) (.pair (.int .i64) (.pair (.int .i64) (.pair (.int .i64) (.int .i64))))))))))), (.list (.pair .str (.pair (.int .i64) (.pair (.list (.pair (.int .i64) (.int .i64))) (.pair (.int .i64) (.pair (.int .i64) .bool)))))), (.list (.pair .str (.pair (.int .i64) (.list (.int .i64))))), (.list (.int .i64))]⟩], fun h => Pw.made_Dice_Staff_l6_step h.1 h.2.1 h.2.2.1 h.2.2.2.1 h.2.2.2.2.1 h.2.2.2.2.2.1 h.2.2.2.2.2.2.1 h.2.2.2.2.2.2.2.1 h.2.2.2.2.2.2.2.2.1 h.2.2.2.2.2.2.2.2.2.1 h.2.2.2.2.2.2.2.2.2.2⟩]
  modes := [(21, [false, false]), (27, [false]), (58, [false, false]), (70, [false, false]), (77, [false, false]), (93, [])]
  keep := [(0, ⟨[0, 2, 3, 4], [0, 128, 192], [⟨1000000, 29, (.pair .str (.pair (.int .i64) (.list (.pair (.int .i64) (.pair (.int .i64) (.pair (.int .i64) (.pair (.int .i64) (.pair (.int .i64) (.pair (.int .i64) (.int .i64)))))))))), [.cell 192 0], false⟩], []⟩),
    (2, ⟨[0, 2, 3, 5], [0, 128, 192], [⟨1002000, 29, (.pair .str (.pair (.int .i64) (.list (.pair (.int .i64) (.pair (.int .i64) (.pair (.int .i64) (.pair (.int .i64) (.pair (.int .i64) (.pair (.int .i64) (.int .i64)))))))))), [.cell 192 0], false⟩, ⟨1002001, 135, (.pair .str (.pair (.int .i64) (.pair (.list (.pair (.int .i64) (.int .i64))) (.pair (.int .i64) (.pair (.int .i64) .bool))))), [.cell 192 1], false⟩], []⟩),
    (4, ⟨[0, 2, 3, 7], [0, 128, 192], [⟨1004000, 29, (.pair .str (.pair (.int .i64) (.list (.pair (.int .i64) (.pair (.int .i64) (.pair (.int .i64) (.pair (.int .i64) (.pair (.int .i64) (.pair (.int .i64) (.int .i64)))))))))), [.cell 192 0], false⟩, ⟨1004001, 135, (.pair .str (.pair (.int .i64) (.pair (.list (.pair (.int .i64) (.int .i64))) (.pair (.int .i64) (.pair (.int .i64) .bool))))), [.cell 192 1], false⟩, ⟨1004002, 137, (.pair .str (.pair (.int .i64) (.list (.int .i64)))), [.cell 192 2], false⟩], []⟩),
    (6, ⟨[0, 2, 3, 7, 8, 9, 10], [0, 128, 192, 512], [⟨1006000, 29, (.pair .str (.pair (.int .i64) (.list (.pair (.int .i64) (.pair (.int .i64) (.pair (.int .i64) (.pair (.int .i64) (.pair (.int .i64) (.pair (.int .i64) (.int .i64)))))))))), [.cell 192 0], false⟩, ⟨1006001, 135, (.pair .str (.pair (.int .i64) (.pair (.list (.pair (.int .i64) (.int .i64))) (.pair (.int .i64) (.pair (.int .i64) .bool))))), [.cell 192 1], false⟩, ⟨1006002, 137, (.pair .str (.pair (.int .i64) (.list (.int .i64)))), [.cell 192 2], false⟩, ⟨1006003, 3, (.int .i64), [.cell 512 2], false⟩], []⟩)]
  keepX := [(0, .exit 0, ⟨[0, 2, 3], [0, 128, 192], [⟨1500100, 29, (.pair .str (.pair (.int .i64) (.list (.pair (.int .i64) (.pair (.int .i64) (.pair (.int .i64) (.pair (.int .i64) (.pair (.int .i64) (.pair (.int .i64) (.int .i64)))))))))), [.cell 192 0], false⟩], []⟩),
    (2, .exit 2, ⟨[0, 2, 3], [0, 128, 192], [⟨1502300, 29, (.pair .str (.pair (.int .i64) (.list (.pair (.int .i64) (.pair (.int .i64) (.pair (.int .i64) (.pair (.int .i64) (.pair (.int .i64) (.pair (.int .i64) (.int .i64)))))))))), [.cell 192 0], false⟩, ⟨1502301, 135, (.pair .str (.pair (.int .i64) (.pair (.list (.pair (.int .i64) (.int .i64))) (.pair (.int .i64) (.pair (.int .i64) .bool))))), [.cell 192 1], false⟩], []⟩),
    (4, .exit 4, ⟨[2, 3], [0, 128, 192], [⟨1504500, 29, (.pair .str (.pair (.int .i64) (.list (.pair (.int .i64) (.pair (.int .i64) (.pair (.int .i64) (.pair (.int .i64) (.pair (.int .i64) (.pair (.int .i64) (.int .i64)))))))))), [.cell 192 0], false⟩, ⟨1504501, 135, (.pair .str (.pair (.int .i64) (.pair (.list (.pair (.int .i64) (.int .i64))) (.pair (.int .i64) (.pair (.int .i64) .bool))))), [.cell 192 1], false⟩, ⟨1504502, 137, (.pair .str (.pair (.int .i64) (.list (.int .i64)))), [.cell 192 2], false⟩], []⟩),
    (6, .exit 6, ⟨[0, 2, 3, 7, 8], [0, 128, 192, 512], [⟨1506700, 29, (.pair .str (.pair (.int .i64) (.list (.pair (.int .i64) (.pair (.int .i64) (.pair (.int .i64) (.pair (.int .i64) (.pair (.int .i64) (.pair (.int .i64) (.int .i64)))))))))), [.cell 192 0], false⟩, ⟨1506701, 135, (.pair .str (.pair (.int .i64) (.pair (.list (.pair (.int .i64) (.int .i64))) (.pair (.int .i64) (.pair (.int .i64) .bool))))), [.cell 192 1], false⟩, ⟨1506702, 137, (.pair .str (.pair (.int .i64) (.list (.int .i64)))), [.cell 192 2], false⟩, ⟨1506703, 3, (.int .i64), [.cell 512 2], false⟩], []⟩)]
  ro := [false]
  dw := [(5, [[], [], [], [1344], [], [], [], [], [], [0], [1792], [1856, 1000000], [], [192]]), (9, [[2432], [], [], [], [], [], [], [], [], [], [0], [], [0], [], [384], [384]])]

set_option maxRecDepth 100000 in
theorem made_Dice_Staff_ok : Con.OK Try.prog made_Dice_Staff_con :=
  con_of tabOk mixedOk made_Dice_Staff_d made_Dice_Staff_con Try.f51 (Try.f51.body.getD .skip) Try.func51 (by kernel_rfl) (by kernel_rfl) (Nat.le_of_ble_eq_true (by kernel_rfl)) (by kernel_rfl) (And.intro made_Dice_Next_ok (And.intro made_Dice_Pick_ok (And.intro made_Dice_Zone_ok (And.intro made_Dice_Windows_ok (And.intro made_Dice_Bool_ok (And.intro made_names_ok trivial)))))) (by kernel_rfl) (by kernel_rfl)
    (And.intro (fun h => by kernel_rfl) (And.intro (fun h => by kernel_rfl) (And.intro (fun h => by kernel_rfl) (And.intro (fun h => by kernel_rfl) trivial))))
    (fun h => by kernel_rfl)

noncomputable def made_Dice_Layer_con : Con := ⟨52, [.ref [(.list (.int .i64)), (.int .i64)], .v (.pair (.list (.pair .str (.pair (.int .i64) (.list (.pair (.int .i64) (.pair (.int .i64) (.pair (.int .i64) (.pair (.int .i64) (.pair (.int .i64) (.pair (.int .i64) (.int .i64))))))))))) (.pair (.list (.pair .str (.pair (.int .i64) (.pair (.list (.pair (.int .i64) (.int .i64))) (.pair (.int .i64) (.pair (.int .i64) .bool)))))) (.pair (.list (.pair .str (.pair (.int .i64) (.list (.int .i64))))) (.list (.pair .str (.pair (.list (.pair .str (.pair (.int .i64) (.pair (.pair (.int .i64) (.int .i64)) (.pair (.int .i64) (.pair (.int .i64) (.pair (.list (.int .i64)) (.pair (.list (.pair (.int .i64) (.int .i64))) (.pair (.int .i64) (.int .i64)))))))))) (.list (.pair (.int .i64) (.pair (.int .i64) (.pair (.int .i64) (.pair (.int .i64) (.int .i64)))))))))))), .v .str], [(.list (.int .i64)), (.int .i64), (.pair (.list (.pair .str (.pair (.int .i64) (.list (.pair (.int .i64) (.pair (.int .i64) (.pair (.int .i64) (.pair (.int .i64) (.pair (.int .i64) (.pair (.int .i64) (.int .i64))))))))))) (.pair (.list (.pair .str (.pair (.int .i64) (.pair (.list (.pair (.int .i64) (.int .i64))) (.pair (.int .i64) (.pair (.int .i64) .bool)))))) (.pair (.list (.pair .str (.pair (.int .i64) (.list (.int .i64))))) (.list (.pair .str (.pair (.list (.pair .str (.pair (.int .i64) (.pair (.pair (.int .i64) (.int .i64)) (.pair (.int .i64) (.pair (.int .i64) (.pair (.list (.int .i64)) (.pair (.list (.pair (.int .i64) (.int .i64))) (.pair (.int .i64) (.int .i64)))))))))) (.list (.pair (.int .i64) (.pair (.int .i64) (.pair (.int .i64) (.pair (.int .i64) (.int .i64)))))))))))), .str], ⟨[.v (.pair .str (.pair (.int .i64) (.pair (.pair (.int .i64) (.int .i64)) (.pair (.int .i64) (.pair (.int .i64) (.pair (.list (.int .i64)) (.pair (.list (.pair (.int .i64) (.int .i64))) (.pair (.int .i64) (.int .i64)))))))))], [.ref [(.list (.int .i64)), (.int .i64)]]⟩, [(.pair .str (.pair (.int .i64) (.pair (.pair (.int .i64) (.int .i64)) (.pair (.int .i64) (.pair (.int .i64) (.pair (.list (.int .i64)) (.pair (.list (.pair (.int .i64) (.int .i64))) (.pair (.int .i64) (.int .i64))))))))), (.list (.int .i64)), (.int .i64)], fun h => Pw.made_Dice_Layer h.1 h.2.1 h.2.2.1 h.2.2.2⟩

noncomputable def made_Dice_Layer_d : FnD where
  N := 77
  np := 3
  cs := [made_Dice_Next_con, made_Dice_Pick_con, made_Dice_Windows_con, made_Dice_Bool_con]
  ds := [⟨0, [.s (.one (.bp 0 0)), .s (.one (.bp 256 0)), .s (.one (.bp 384 0)), .s (.one (.bp 448 0)), .s (.one (.d (.int .i64))), .b (.cell [.d (.list (.int .i64)), .d (.int .i64)] false), .b (.cell [.d (.list (.pair .str (.pair (.int .i64) (.list (.pair (.int .i64) (.pair (.int .i64) (.pair (.int .i64) (.pair (.int .i64) (.pair (.int .i64) (.pair (.int .i64) (.int .i64))))))))))), .d (.list (.pair .str (.pair (.int .i64) (.pair (.list (.pair (.int .i64) (.int .i64))) (.pair (.int .i64) (.pair (.int .i64) .bool)))))), .d (.list (.pair .str (.pair (.int .i64) (.list (.int .i64))))), .d (.list (.pair .str (.pair (.list (.pair .str (.pair (.int .i64) (.pair (.pair (.int .i64) (.int .i64)) (.pair (.int .i64) (.pair (.int .i64) (.pair (.list (.int .i64)) (.pair (.list (.pair (.int .i64) (.int .i64))) (.pair (.int .i64) (.int .i64)))))))))) (.list (.pair (.int .i64) (.pair (.int .i64) (.pair (.int .i64) (.pair (.int .i64) (.int .i64)))))))))] false), .b (.cell [.d .str, .d (.int .i64), .d (.int .i64), .d (.int .i64), .d (.int .i64), .d (.int .i64), .nil, .nil, .d (.int .i64), .d (.int .i64)] false), .b (.cell [.d .str, .d (.int .i64), .d (.int .i64), .d (.int .i64), .d (.int .i64), .d (.int .i64), .ol 1000000, .nil, .d (.int .i64), .d (.int .i64)] false), .b (.lst 3 (.int .i64) false)], [(.int .i64), (.list (.int .i64)), (.int .i64), (.list (.pair .str (.pair (.int .i64) (.list (.pair (.int .i64) (.pair (.int .i64) (.pair (.int .i64) (.pair (.int .i64) (.pair (.int .i64) (.pair (.int .i64) (.int .i64))))))))))), (.list (.pair .str (.pair (.int .i64) (.pair (.list (.pair (.int .i64) (.int .i64))) (.pair (.int .i64) (.pair (.int .i64) .bool)))))), (.list (.pair .str (.pair (.int .i64) (.list (.int .i64))))), (.list (.pair .str (.pair (.list (.pair .str (.pair (.int .i64) (.pair (.pair (.int .i64) (.int .i64)) (.pair (.int .i64) (.pair (.int .i64) (.pair (.list (.int .i64)) (.pair (.list (.pair (.int .i64) (.int .i64))) (.pair (.int .i64) (.int .i64)))))))))) (.list (.pair (.int .i64) (.pair (.int .i64) (.pair (.int .i64) (.pair (.int .i64) (.int .i64))))))))), .str, (.int .i64), (.int .i64), (.int .i64), (.int .i64), (.int .i64), (.int .i64), (.int .i64), .str, (.int .i64), (.int .i64), (.int .i64), (.int .i64), (.int .i64), (.int .i64), (.int .i64), (.list (.int .i64))], [⟨.exit 0, [.s (.one (.bp 0 0)), .s (.one (.bp 256 0)), .s (.one (.bp 384 0)), .s (.one (.bp 448 0)), .b (.cell [.d (.list (.int .i64)), .d (.int .i64)] false), .b (.cell [.d (.list (.pair .str (.pair (.int .i64) (.list (.pair (.int .i64) (.pair (.int .i64) (.pair (.int .i64) (.pair (.int .i64) (.pair (.int .i64) (.pair (.int .i64) (.int .i64))))))))))), .d (.list (.pair .str (.pair (.int .i64) (.pair (.list (.pair (.int .i64) (.int .i64))) (.pair (.int .i64) (.pair (.int .i64) .bool)))))), .d (.list (.pair .str (.pair (.int .i64) (.list (.int .i64))))), .d (.list (.pair .str (.pair (.list (.pair .str (.pair (.int .i64) (.pair (.pair (.int .i64) (.int .i64)) (.pair (.int .i64) (.pair (.int .i64) (.pair (.list (.int .i64)) (.pair (.list (.pair (.int .i64) (.int .i64))) (.pair (.int .i64) (.int .i64)))))))))) (.list (.pair (.int .i64) (.pair (.int .i64) (.pair (.int .i64) (.pair (.int .i64) (.int .i64)))))))))] false), .b (.cell [.d .str, .d (.int .i64), .d (.int .i64), .d (.int .i64), .d (.int .i64), .d (.int .i64), .nil, .nil, .d (.int .i64), .d (.int .i64)] false), .b (.cell [.d .str, .d (.int .i64), .d (.int .i64), .d (.int .i64), .d (.int .i64), .d (.int .i64), .ol 1500100, .nil, .d (.int .i64), .d (.int .i64)] false), .b (.lst 3 (.int .i64) false)], [(.list (.int .i64)), (.int .i64), (.list (.pair .str (.pair (.int .i64) (.list (.pair (.int .i64) (.pair (.int .i64) (.pair (.int .i64) (.pair (.int .i64) (.pair (.int .i64) (.pair (.int .i64) (.int .i64))))))))))), (.list (.pair .str (.pair (.int .i64) (.pair (.list (.pair (.int .i64) (.int .i64))) (.pair (.int .i64) (.pair (.int .i64) .bool)))))), (.list (.pair .str (.pair (.int .i64) (.list (.int .i64))))), (.list (.pair .str (.pair (.list (.pair .str (.pair (.int .i64) (.pair (.pair (.int .i64) (.int .i64)) (.pair (.int .i64) (.pair (.int .i64) (.pair (.list (.int .i64)) (.pair (.list (.pair (.int .i64) (.int .i64))) (.pair (.int .i64) (.int .i64)))))))))) (.list (.pair (.int .i64) (.pair (.int .i64) (.pair (.int .i64) (.pair (.int .i64) (.int .i64))))))))), .str, (.int .i64), (.int .i64), (.int .i64), (.int .i64), (.int .i64), (.int .i64), (.int .i64), .str, (.int .i64), (.int .i64), (.int .i64), (.int .i64), (.int .i64), (.int .i64), (.int .i64), (.list (.int .i64))]⟩], fun h => Pw.made_Dice_Layer_l0_step h.1 h.2.1 h.2.2.1 h.2.2.2.1 h.2.2.2.2.1 h.2.2.2.2.2.1 h.2.2.2.2.2.2.1 h.2.2.2.2.2.2.2.1 h.2.2.2.2.2.2.2.2.1 h.2.2.2.2.2.2.2.2.2.1 h.2.2.2.2.2.2.2.2.2.2.1 h.2.2.2.2.2.2.2.2.2.2.2.1 h.2.2.2.2.2.2.2.2.2.2.2.2.1 h.2.2.2.2.2.2.2.2.2.2.2.2.2.1 h.2.2.2.2.2.2.2.2.2.2.2.2.2.2.1 h.2.2.2.2.2.2.2.2.2.2.2.2.2.2.2.1 h.2.2.2.2.2.2.2.2.2.2.2.2.2.2.2.2.1 h.2.2.2.2.2.2.2.2.2.2.2.2.2.2.2.2.2.1 h.2.2.2.2.2.2.2.2.2.2.2.2.2.2.2.2.2.2.1 h.2.2.2.2.2.2.2.2.2.2.2.2.2.2.2.2.2.2.2.1 h.2.2.2.2.2.2.2.2.2.2.2.2.2.2.2.2.2.2.2.2.1 h.2.2.2.2.2.2.2.2.2.2.2.2.2.2.2.2.2.2.2.2.2.1 h.2.2.2.2.2.2.2.2.2.2.2.2.2.2.2.2.2.2.2.2.2.2.1 h.2.2.2.2.2.2.2.2.2.2.2.2.2.2.2.2.2.2.2.2.2.2.2⟩]
  modes := [(27, [false]), (58, [false, false]), (70, [false, false]), (77, [false, false])]
  keep := [(0, ⟨[0, 4, 6, 7, 8], [0, 256, 384, 448], [⟨1000000, 3, (.int .i64), [.cell 448 6], false⟩], []⟩)]
  keepX := [(0, .exit 0, ⟨[0, 4, 6, 7], [0, 256, 384, 448], [⟨1500100, 3, (.int .i64), [.cell 448 6], false⟩], []⟩)]
  ro := [false]
  dw := [(7, [[], [], [], [], [], [], [0], [3200], [3264, 1000000], [], [448]])]

set_option maxRecDepth 100000 in
theorem made_Dice_Layer_ok : Con.OK Try.prog made_Dice_Layer_con :=
  con_of tabOk mixedOk made_Dice_Layer_d made_Dice_Layer_con Try.f52 (Try.f52.body.getD .skip) Try.func52 (by kernel_rfl) (by kernel_rfl) (Nat.le_of_ble_eq_true (by kernel_rfl)) (by kernel_rfl) (And.intro made_Dice_Next_ok (And.intro made_Dice_Pick_ok (And.intro made_Dice_Windows_ok (And.intro made_Dice_Bool_ok trivial)))) (by kernel_rfl) (by kernel_rfl)
    (And.intro (fun h => by kernel_rfl) trivial)
    (fun h => by kernel_rfl)

noncomputable def law10_RecurAscends_con : Con := ⟨11, [.v (.list (.int .i64)), .v (.int .i64)], [(.list (.int .i64)), (.int .i64)], ⟨[.v .bool], []⟩, [.bool], fun h => Pw.law10_RecurAscends h.1 h.2⟩

noncomputable def law10_RecurAscends_d : FnD where
  N := 127
  np := 2
  cs := [made_Light_con, made_Roll_con, made_Mod_con, recur_Shift_con, recur_Turn_con, recur_Handover_con, law10_sane_con, made_Dice_Staff_con, made_Dice_Layer_con]
  ds := [⟨0, [.s (.one (.d (.int .i64))), .s (.one (.bp 448 0)), .s (.one (.bp 512 0)), .s (.one (.d (.int .i64))), .b (.cell [.d .str, .d (.int .i64), .d (.int .i64), .d (.int .i64), .d (.int .i64), .d (.int .i64), .d (.list (.int .i64)), .d (.list (.pair (.int .i64) (.int .i64))), .d (.int .i64), .d (.int .i64)] false), .b (.cell [.d .str, .d (.int .i64), .d (.list (.pair (.int .i64) (.pair (.int .i64) (.pair (.int .i64) (.pair (.int .i64) (.pair (.int .i64) (.pair (.int .i64) (.int .i64))))))))] false)], [(.int .i64), (.int .i64), .str, (.int .i64), (.int .i64), (.int .i64), (.int .i64), (.int .i64), (.list (.int .i64)), (.list (.pair (.int .i64) (.int .i64))), (.int .i64), (.int .i64), .str, (.int .i64), (.list (.pair (.int .i64) (.pair (.int .i64) (.pair (.int .i64) (.pair (.int .i64) (.pair (.int .i64) (.pair (.int .i64) (.int .i64))))))))], [⟨.ret, [.s (.one (.d .bool))], [.bool]⟩, ⟨.exit 0, [], []⟩], fun h => Pw.law10_RecurAscends_l0_step h.1 h.2.1 h.2.2.1 h.2.2.2.1 h.2.2.2.2.1 h.2.2.2.2.2.1 h.2.2.2.2.2.2.1 h.2.2.2.2.2.2.2.1 h.2.2.2.2.2.2.2.2.1 h.2.2.2.2.2.2.2.2.2.1 h.2.2.2.2.2.2.2.2.2.2.1 h.2.2.2.2.2.2.2.2.2.2.2.1 h.2.2.2.2.2.2.2.2.2.2.2.2.1 h.2.2.2.2.2.2.2.2.2.2.2.2.2.1 h.2.2.2.2.2.2.2.2.2.2.2.2.2.2⟩]
  modes := [(18, [false]), (20, [false]), (22, [false, false]), (50, []), (51, [false]), (52, [false, false, false]), (53, [false, false, false]), (54, [false, false, false]), (55, [false, false, false])]
  keep := [(0, ⟨[1, 7, 8, 9], [448, 512], [], []⟩)]
  keepX := [(0, .ret, ⟨[4], [], [], []⟩),
    (0, .exit 0, ⟨[], [], [], []⟩)]
  ro := [false]
  dw := []

set_option maxRecDepth 100000 in
theorem law10_RecurAscends_ok : Con.OK Try.prog law10_RecurAscends_con :=
  con_of tabOk mixedOk law10_RecurAscends_d law10_RecurAscends_con Try.f11 (Try.f11.body.getD .skip) Try.func11 (by kernel_rfl) (by kernel_rfl) (Nat.le_of_ble_eq_true (by kernel_rfl)) (by kernel_rfl) (And.intro made_Light_ok (And.intro made_Roll_ok (And.intro made_Mod_ok (And.intro recur_Shift_ok (And.intro recur_Turn_ok (And.intro recur_Handover_ok (And.intro law10_sane_ok (And.intro made_Dice_Staff_ok (And.intro made_Dice_Layer_ok trivial))))))))) (by kernel_rfl) (by kernel_rfl)
    (And.intro (fun h => by kernel_rfl) trivial)
    (fun h => by kernel_rfl)

noncomputable def law10_same_con : Con := ⟨57, [.v (.list (.int .i64)), .v (.list (.int .i64))], [(.list (.int .i64)), (.list (.int .i64))], ⟨[.v .bool], []⟩, [.bool], fun h => Pw.law10_same h.1 h.2⟩

noncomputable def law10_same_d : FnD where
  N := 26
  np := 2
  cs := []
  ds := [⟨0, [.s (.one (.d (.list (.int .i64)))), .s (.one (.d (.list (.int .i64)))), .s (.one (.d (.int .i64))), .s (.one (.d (.int .i64)))], [(.list (.int .i64)), (.list (.int .i64)), (.int .i64), (.int .i64)], [⟨.ret, [.s (.one (.d .bool))], [.bool]⟩, ⟨.exit 0, [], []⟩], fun h => Pw.law10_same_l0_step h.1 h.2.1 h.2.2.1 h.2.2.2⟩]
  modes := []
  keep := [(0, ⟨[0, 1, 12, 13], [], [], []⟩)]
  keepX := [(0, .ret, ⟨[4], [], [], []⟩),
    (0, .exit 0, ⟨[], [], [], []⟩)]
  ro := [false]
  dw := []

set_option maxRecDepth 100000 in
theorem law10_same_ok : Con.OK Try.prog law10_same_con :=
  con_of tabOk mixedOk law10_same_d law10_same_con Try.f57 (Try.f57.body.getD .skip) Try.func57 (by kernel_rfl) (by kernel_rfl) (Nat.le_of_ble_eq_true (by kernel_rfl)) (by kernel_rfl) trivial (by kernel_rfl) (by kernel_rfl)
    (And.intro (fun h => by kernel_rfl) trivial)
    (fun h => by kernel_rfl)

noncomputable def law10_RecurRanges_con : Con := ⟨13, [.v (.list (.int .i64)), .v (.int .i64), .v (.int .i64)], [(.list (.int .i64)), (.int .i64), (.int .i64)], ⟨[.v .bool], []⟩, [.bool], fun h => Pw.law10_RecurRanges h.1 h.2.1 h.2.2⟩

noncomputable def law10_RecurRanges_d : FnD where
  N := 143
  np := 3
  cs := [made_Light_con, made_Roll_con, made_Mod_con, made_Dice_Instant_con, recur_Handovers_con, recur_Shift_con, recur_Handover_con, law10_sane_con, made_Dice_Staff_con, made_Dice_Layer_con, law10_same_con]
  ds := [⟨0, [.s (.one (.bp 576 0)), .s (.one (.bp 640 0)), .s (.one (.d (.int .i64))), .s (.one (.d (.int .i64))), .s (.one (.ol 1000000)), .s (.one (.d (.int .i64))), .s (.one (.d (.int .i64))), .b (.cell [.d .str, .d (.int .i64), .d (.int .i64), .d (.int .i64), .d (.int .i64), .d (.int .i64), .d (.list (.int .i64)), .d (.list (.pair (.int .i64) (.int .i64))), .d (.int .i64), .d (.int .i64)] false), .b (.cell [.d .str, .d (.int .i64), .d (.list (.pair (.int .i64) (.pair (.int .i64) (.pair (.int .i64) (.pair (.int .i64) (.pair (.int .i64) (.pair (.int .i64) (.int .i64))))))))] false), .b (.lst 3 (.int .i64) false)], [(.int .i64), (.int .i64), (.int .i64), (.int .i64), .str, (.int .i64), (.int .i64), (.int .i64), (.int .i64), (.int .i64), (.list (.int .i64)), (.list (.pair (.int .i64) (.int .i64))), (.int .i64), (.int .i64), .str, (.int .i64), (.list (.pair (.int .i64) (.pair (.int .i64) (.pair (.int .i64) (.pair (.int .i64) (.pair (.int .i64) (.pair (.int .i64) (.int .i64)))))))), (.list (.int .i64))], [⟨.ret, [.s (.one (.d .bool))], [.bool]⟩, ⟨.exit 0, [], []⟩], fun h => Pw.law10_RecurRanges_l0_step h.1 h.2.1 h.2.2.1 h.2.2.2.1 h.2.2.2.2.1 h.2.2.2.2.2.1 h.2.2.2.2.2.2.1 h.2.2.2.2.2.2.2.1 h.2.2.2.2.2.2.2.2.1 h.2.2.2.2.2.2.2.2.2.1 h.2.2.2.2.2.2.2.2.2.2.1 h.2.2.2.2.2.2.2.2.2.2.2.1 h.2.2.2.2.2.2.2.2.2.2.2.2.1 h.2.2.2.2.2.2.2.2.2.2.2.2.2.1 h.2.2.2.2.2.2.2.2.2.2.2.2.2.2.1 h.2.2.2.2.2.2.2.2.2.2.2.2.2.2.2.1 h.2.2.2.2.2.2.2.2.2.2.2.2.2.2.2.2.1 h.2.2.2.2.2.2.2.2.2.2.2.2.2.2.2.2.2⟩]
  modes := [(18, [false]), (20, [false]), (22, [false, false]), (29, [false]), (50, []), (51, [false]), (52, [false, false, false]), (53, [false, false, false]), (54, [false, false, false]), (56, [false, false, false, false]), (57, [false, false])]
  keep := [(0, ⟨[9, 10, 11, 13, 18, 96, 97], [576, 640], [⟨1000000, 3, (.int .i64), [.slot 18], false⟩], []⟩)]
  keepX := [(0, .ret, ⟨[6], [], [], []⟩),
    (0, .exit 0, ⟨[], [], [], []⟩)]
  ro := [false]
  dw := []

set_option maxRecDepth 100000 in
theorem law10_RecurRanges_ok : Con.OK Try.prog law10_RecurRanges_con :=
  con_of tabOk mixedOk law10_RecurRanges_d law10_RecurRanges_con Try.f13 (Try.f13.body.getD .skip) Try.func13 (by kernel_rfl) (by kernel_rfl) (Nat.le_of_ble_eq_true (by kernel_rfl)) (by kernel_rfl) (And.intro made_Light_ok (And.intro made_Roll_ok (And.intro made_Mod_ok (And.intro made_Dice_Instant_ok (And.intro recur_Handovers_ok (And.intro recur_Shift_ok (And.intro recur_Handover_ok (And.intro law10_sane_ok (And.intro made_Dice_Staff_ok (And.intro made_Dice_Layer_ok (And.intro law10_same_ok trivial))))))))))) (by kernel_rfl) (by kernel_rfl)
    (And.intro (fun h => by kernel_rfl) trivial)
    (fun h => by kernel_rfl)
end Go.Proofs.Pk
