/- Contracts: each given function is its plain function, printed by a program. -/
import Derived.Test.YtpkigeapefgmjaaCon3
open Go Go.Lft
set_option linter.unusedVariables false
namespace Go.Proofs.Pk

noncomputable def recur_Handovers_con : Con := ⟨47, [.v (.pair .str (.pair (.int .i64) (.list (.pair (.int .i64) (.pair (.int .i64) (.pair (.int .i64) (.pair (.int .i64) (.pair (.int .i64) (.pair (.int .i64) (.int .i64)))))))))), .v (.pair .str (.pair (.int .i64) (.pair (.pair (.int .i64) (.int .i64)) (.pair (.int .i64) (.pair (.int .i64) (.pair (.list (.int .i64)) (.pair (.list (.pair (.int .i64) (.int .i64))) (.pair (.int .i64) (.int .i64))))))))), .v (.int .i64), .v (.int .i64)], [(.pair .str (.pair (.int .i64) (.list (.pair (.int .i64) (.pair (.int .i64) (.pair (.int .i64) (.pair (.int .i64) (.pair (.int .i64) (.pair (.int .i64) (.int .i64)))))))))), (.pair .str (.pair (.int .i64) (.pair (.pair (.int .i64) (.int .i64)) (.pair (.int .i64) (.pair (.int .i64) (.pair (.list (.int .i64)) (.pair (.list (.pair (.int .i64) (.int .i64))) (.pair (.int .i64) (.int .i64))))))))), (.int .i64), (.int .i64)], ⟨[.own 3 (.list (.int .i64)), .v (.int .i64)], []⟩, [(.list (.int .i64)), (.int .i64)], fun h => Pw.recur_Handovers h.1 h.2.1 h.2.2.1 h.2.2.2⟩

noncomputable def recur_Handovers_d : FnD where
  N := 42
  np := 4
  cs := [recur_in_con, recur_open_con, recur_HandoversOf_con]
  ds := []
  modes := [(79, [false, false]), (82, [false, false, false]), (85, [false, false, false, false])]
  keep := []
  keepX := []
  ro := [true, false]
  dw := []

set_option maxRecDepth 100000 in
theorem recur_Handovers_ok : Con.OK Try.prog recur_Handovers_con :=
  con_of tabOk mixedOk recur_Handovers_d recur_Handovers_con Try.f47 (Try.f47.body.getD .skip) Try.func47 (by kernel_rfl) (by kernel_rfl) (Nat.le_of_ble_eq_true (by kernel_rfl)) (by kernel_rfl) (And.intro recur_in_ok (And.intro recur_open_ok (And.intro recur_HandoversOf_ok trivial))) (by kernel_rfl) (by kernel_rfl)
    trivial
    (fun h => by kernel_rfl)

noncomputable def recur_Shift_con : Con := ⟨43, [.v (.pair .str (.pair (.int .i64) (.list (.pair (.int .i64) (.pair (.int .i64) (.pair (.int .i64) (.pair (.int .i64) (.pair (.int .i64) (.pair (.int .i64) (.int .i64)))))))))), .v (.pair .str (.pair (.int .i64) (.pair (.pair (.int .i64) (.int .i64)) (.pair (.int .i64) (.pair (.int .i64) (.pair (.list (.int .i64)) (.pair (.list (.pair (.int .i64) (.int .i64))) (.pair (.int .i64) (.int .i64))))))))), .v (.int .i64)], [(.pair .str (.pair (.int .i64) (.list (.pair (.int .i64) (.pair (.int .i64) (.pair (.int .i64) (.pair (.int .i64) (.pair (.int .i64) (.pair (.int .i64) (.int .i64)))))))))), (.pair .str (.pair (.int .i64) (.pair (.pair (.int .i64) (.int .i64)) (.pair (.int .i64) (.pair (.int .i64) (.pair (.list (.int .i64)) (.pair (.list (.pair (.int .i64) (.int .i64))) (.pair (.int .i64) (.int .i64))))))))), (.int .i64)], ⟨[.v (.int .i64), .v (.int .i64)], []⟩, [(.int .i64), (.int .i64)], fun h => Pw.recur_Shift h.1 h.2.1 h.2.2⟩

noncomputable def recur_Shift_d : FnD where
  N := 27
  np := 3
  cs := [recur_in_con, recur_open_con, recur_ShiftOf_con]
  ds := []
  modes := [(79, [false, false]), (82, [false, false, false]), (83, [false, false, false])]
  keep := []
  keepX := []
  ro := [false, false]
  dw := []

set_option maxRecDepth 100000 in
theorem recur_Shift_ok : Con.OK Try.prog recur_Shift_con :=
  con_of tabOk mixedOk recur_Shift_d recur_Shift_con Try.f43 (Try.f43.body.getD .skip) Try.func43 (by kernel_rfl) (by kernel_rfl) (Nat.le_of_ble_eq_true (by kernel_rfl)) (by kernel_rfl) (And.intro recur_in_ok (And.intro recur_open_ok (And.intro recur_ShiftOf_ok trivial))) (by kernel_rfl) (by kernel_rfl)
    trivial
    (fun h => by kernel_rfl)

noncomputable def recur_Turn_con : Con := ⟨45, [.v (.pair .str (.pair (.int .i64) (.list (.pair (.int .i64) (.pair (.int .i64) (.pair (.int .i64) (.pair (.int .i64) (.pair (.int .i64) (.pair (.int .i64) (.int .i64)))))))))), .v (.pair .str (.pair (.int .i64) (.pair (.pair (.int .i64) (.int .i64)) (.pair (.int .i64) (.pair (.int .i64) (.pair (.list (.int .i64)) (.pair (.list (.pair (.int .i64) (.int .i64))) (.pair (.int .i64) (.int .i64))))))))), .v (.int .i64)], [(.pair .str (.pair (.int .i64) (.list (.pair (.int .i64) (.pair (.int .i64) (.pair (.int .i64) (.pair (.int .i64) (.pair (.int .i64) (.pair (.int .i64) (.int .i64)))))))))), (.pair .str (.pair (.int .i64) (.pair (.pair (.int .i64) (.int .i64)) (.pair (.int .i64) (.pair (.int .i64) (.pair (.list (.int .i64)) (.pair (.list (.pair (.int .i64) (.int .i64))) (.pair (.int .i64) (.int .i64))))))))), (.int .i64)], ⟨[.v (.int .i64), .v (.int .i64)], []⟩, [(.int .i64), (.int .i64)], fun h => Pw.recur_Turn h.1 h.2.1 h.2.2⟩

noncomputable def recur_Turn_d : FnD where
  N := 30
  np := 3
  cs := [recur_Shift_con]
  ds := []
  modes := [(43, [false, false, false])]
  keep := []
  keepX := []
  ro := [false, false]
  dw := []

set_option maxRecDepth 100000 in
theorem recur_Turn_ok : Con.OK Try.prog recur_Turn_con :=
  con_of tabOk mixedOk recur_Turn_d recur_Turn_con Try.f45 (Try.f45.body.getD .skip) Try.func45 (by kernel_rfl) (by kernel_rfl) (Nat.le_of_ble_eq_true (by kernel_rfl)) (by kernel_rfl) (And.intro recur_Shift_ok trivial) (by kernel_rfl) (by kernel_rfl)
    trivial
    (fun h => by kernel_rfl)

noncomputable def recur_Handover_con : Con := ⟨36, [.v (.pair .str (.pair (.int .i64) (.list (.pair (.int .i64) (.pair (.int .i64) (.pair (.int .i64) (.pair (.int .i64) (.pair (.int .i64) (.pair (.int .i64) (.int .i64)))))))))), .v (.pair .str (.pair (.int .i64) (.pair (.pair (.int .i64) (.int .i64)) (.pair (.int .i64) (.pair (.int .i64) (.pair (.list (.int .i64)) (.pair (.list (.pair (.int .i64) (.int .i64))) (.pair (.int .i64) (.int .i64))))))))), .v (.int .i64)], [(.pair .str (.pair (.int .i64) (.list (.pair (.int .i64) (.pair (.int .i64) (.pair (.int .i64) (.pair (.int .i64) (.pair (.int .i64) (.pair (.int .i64) (.int .i64)))))))))), (.pair .str (.pair (.int .i64) (.pair (.pair (.int .i64) (.int .i64)) (.pair (.int .i64) (.pair (.int .i64) (.pair (.list (.int .i64)) (.pair (.list (.pair (.int .i64) (.int .i64))) (.pair (.int .i64) (.int .i64))))))))), (.int .i64)], ⟨[.v (.int .i64), .v (.int .i64)], []⟩, [(.int .i64), (.int .i64)], fun h => Pw.recur_Handover h.1 h.2.1 h.2.2⟩

noncomputable def recur_Handover_d : FnD where
  N := 33
  np := 3
  cs := [recur_open_con, recur_HandoverOf_con]
  ds := []
  modes := [(79, [false, false]), (80, [false, false, false])]
  keep := []
  keepX := []
  ro := [false, false]
  dw := []

set_option maxRecDepth 100000 in
theorem recur_Handover_ok : Con.OK Try.prog recur_Handover_con :=
  con_of tabOk mixedOk recur_Handover_d recur_Handover_con Try.f36 (Try.f36.body.getD .skip) Try.func36 (by kernel_rfl) (by kernel_rfl) (Nat.le_of_ble_eq_true (by kernel_rfl)) (by kernel_rfl) (And.intro recur_open_ok (And.intro recur_HandoverOf_ok trivial)) (by kernel_rfl) (by kernel_rfl)
    trivial
    (fun h => by kernel_rfl)

noncomputable def law10_sane_con : Con := ⟨33, [], [], ⟨[.v .bool], []⟩, [.bool], fun h => Pw.law10_sane⟩

noncomputable def law10_sane_d : FnD where
  N := 87
  np := 0
  cs := [recur_Handovers_con, recur_Shift_con, recur_Turn_con, recur_Handover_con]
  ds := []
  modes := [(36, [false, false, false]), (43, [false, false, false]), (45, [false, false, false]), (47, [false, false, false, false])]
  keep := []
  keepX := []
  ro := [false]
  dw := []

set_option maxRecDepth 100000 in
theorem law10_sane_ok : Con.OK Try.prog law10_sane_con :=
  con_of tabOk mixedOk law10_sane_d law10_sane_con Try.f33 (Try.f33.body.getD .skip) Try.func33 (by kernel_rfl) (by kernel_rfl) (Nat.le_of_ble_eq_true (by kernel_rfl)) (by kernel_rfl) (And.intro recur_Handovers_ok (And.intro recur_Shift_ok (And.intro recur_Turn_ok (And.intro recur_Handover_ok trivial)))) (by kernel_rfl) (by kernel_rfl)
    trivial
    (fun h => by kernel_rfl)

noncomputable def made_names_con : Con := ⟨78, [], [], ⟨[.own 9 (.list .str)], []⟩, [(.list .str)], fun h => Pw.made_names⟩

noncomputable def made_names_d : FnD where
  N := 2
  np := 0
  cs := []
  ds := []
  modes := []
  keep := []
  keepX := []
  ro := [true]
  dw := []

set_option maxRecDepth 100000 in
theorem made_names_ok : Con.OK Try.prog made_names_con :=
  con_of tabOk mixedOk made_names_d made_names_con Try.f78 (Try.f78.body.getD .skip) Try.func78 (by kernel_rfl) (by kernel_rfl) (Nat.le_of_ble_eq_true (by kernel_rfl)) (by kernel_rfl) trivial (by kernel_rfl) (by kernel_rfl)
    trivial
    (fun h => by kernel_rfl)

noncomputable def made_Dice_Windows_con : Con := ⟨51, [.ref [(.list (.int .i64)), (.int .i64)]], [(.list (.int .i64)), (.int .i64)], ⟨[.own 89 (.list (.pair (.int .i64) (.int .i64)))], [.ref [(.list (.int .i64)), (.int .i64)]]⟩, [(.list (.pair (.int .i64) (.int .i64))), (.list (.int .i64)), (.int .i64)], fun h => Pw.made_Dice_Windows h.1 h.2⟩

noncomputable def made_Dice_Windows_d : FnD where
  N := 38
  np := 1
  cs := [made_Dice_Next_con, made_Dice_Pick_con]
  ds := [⟨0, [.s (.one (.bp 0 0)), .s (.one (.ol 1000000)), .s (.one (.d (.int .i64))), .s (.one (.d (.int .i64))), .b (.cell [.d (.list (.int .i64)), .d (.int .i64)] false), .b (.lst 89 (.pair (.int .i64) (.int .i64)) false)], [(.int .i64), (.int .i64), (.list (.int .i64)), (.int .i64), (.list (.pair (.int .i64) (.int .i64)))], [⟨.exit 0, [.s (.one (.ol 1500100)), .b (.cell [.d (.list (.int .i64)), .d (.int .i64)] false), .b (.lst 89 (.pair (.int .i64) (.int .i64)) false)], [(.list (.int .i64)), (.int .i64), (.list (.pair (.int .i64) (.int .i64)))]⟩], fun h => Pw.made_Dice_Windows_l0_step h.1 h.2.1 h.2.2.1 h.2.2.2.1 h.2.2.2.2⟩]
  modes := [(37, [false, false]), (60, [false, false])]
  keep := [(0, ⟨[0, 3, 4, 5], [0], [⟨1000000, 89, (.pair (.int .i64) (.int .i64)), [.slot 3], false⟩], []⟩)]
  keepX := [(0, .exit 0, ⟨[3], [0], [⟨1500100, 89, (.pair (.int .i64) (.int .i64)), [.slot 3], false⟩], []⟩)]
  ro := [true]
  dw := []

set_option maxRecDepth 100000 in
theorem made_Dice_Windows_ok : Con.OK Try.prog made_Dice_Windows_con :=
  con_of tabOk mixedOk made_Dice_Windows_d made_Dice_Windows_con Try.f51 (Try.f51.body.getD .skip) Try.func51 (by kernel_rfl) (by kernel_rfl) (Nat.le_of_ble_eq_true (by kernel_rfl)) (by kernel_rfl) (And.intro made_Dice_Next_ok (And.intro made_Dice_Pick_ok trivial)) (by kernel_rfl) (by kernel_rfl)
    (And.intro (fun h => by kernel_rfl) trivial)
    (fun h => by kernel_rfl)

noncomputable def made_Dice_Staff_con : Con := ⟨34, [.ref [(.list (.int .i64)), (.int .i64)]], [(.list (.int .i64)), (.int .i64)], ⟨[.v (.pair (.list (.pair .str (.pair (.int .i64) (.list (.pair (.int .i64) (.pair (.int .i64) (.pair (.int .i64) (.pair (.int .i64) (.pair (.int .i64) (.pair (.int .i64) (.int .i64))))))))))) (.pair (.list (.pair .str (.pair (.int .i64) (.pair (.list (.pair (.int .i64) (.int .i64))) (.pair (.int .i64) (.pair (.int .i64) .bool)))))) (.pair (.list (.pair .str (.pair (.int .i64) (.list (.int .i64))))) (.list (.pair .str (.pair (.list (.pair .str (.pair (.int .i64) (.pair (.pair (.int .i64) (.int .i64)) (.pair (.int .i64) (.pair (.int .i64) (.pair (.list (.int .i64)) (.pair (.list (.pair (.int .i64) (.int .i64))) (.pair (.int .i64) (.int .i64)))))))))) (.list (.pair (.int .i64) (.pair (.int .i64) (.pair (.int .i64) (.pair (.int .i64) (.int .i64))))))))))))], [.ref [(.list (.int .i64)), (.int .i64)]]⟩, [(.pair (.list (.pair .str (.pair (.int .i64) (.list (.pair (.int .i64) (.pair (.int .i64) (.pair (.int .i64) (.pair (.int .i64) (.pair (.int .i64) (.pair (.int .i64) (.int .i64))))))))))) (.pair (.list (.pair .str (.pair (.int .i64) (.pair (.list (.pair (.int .i64) (.int .i64))) (.pair (.int .i64) (.pair (.int .i64) .bool)))))) (.pair (.list (.pair .str (.pair (.int .i64) (.list (.int .i64))))) (.list (.pair .str (.pair (.list (.pair .str (.pair (.int .i64) (.pair (.pair (.int .i64) (.int .i64)) (.pair (.int .i64) (.pair (.int .i64) (.pair (.list (.int .i64)) (.pair (.list (.pair (.int .i64) (.int .i64))) (.pair (.int .i64) (.int .i64)))))))))) (.list (.pair (.int .i64) (.pair (.int .i64) (.pair (.int .i64) (.pair (.int .i64) (.int .i64)))))))))))), (.list (.int .i64)), (.int .i64)], fun h => Pw.made_Dice_Staff h.1 h.2⟩

noncomputable def made_Dice_Staff_d : FnD where
  N := 109
  np := 1
  cs := [made_Dice_Next_con, made_Dice_Pick_con, made_Dice_Zone_con, made_Dice_Bool_con, made_names_con, made_Dice_Windows_con]
  ds := [⟨0, [.s (.one (.bp 0 0)), .s (.one (.bp 128 0)), .s (.one (.bp 192 0)), .s (.one (.d (.int .i64))), .b (.cell [.d (.list (.int .i64)), .d (.int .i64)] false), .b (.cell [.nil, .nil, .nil, .nil] false), .b (.cell [.ol 1000000, .nil, .nil, .nil] false), .b (.lst 24 (.pair .str (.pair (.int .i64) (.list (.pair (.int .i64) (.pair (.int .i64) (.pair (.int .i64) (.pair (.int .i64) (.pair (.int .i64) (.pair (.int .i64) (.int .i64)))))))))) false)], [(.int .i64), (.list (.int .i64)), (.int .i64), (.list (.pair .str (.pair (.int .i64) (.list (.pair (.int .i64) (.pair (.int .i64) (.pair (.int .i64) (.pair (.int .i64) (.pair (.int .i64) (.pair (.int .i64) (.int .i64)))))))))))], [⟨.exit 0, [.s (.one (.bp 0 0)), .s (.one (.bp 128 0)), .s (.one (.bp 192 0)), .b (.cell [.d (.list (.int .i64)), .d (.int .i64)] false), .b (.cell [.nil, .nil, .nil, .nil] false), .b (.cell [.ol 1500100, .nil, .nil, .nil] false), .b (.lst 24 (.pair .str (.pair (.int .i64) (.list (.pair (.int .i64) (.pair (.int .i64) (.pair (.int .i64) (.pair (.int .i64) (.pair (.int .i64) (.pair (.int .i64) (.int .i64)))))))))) false)], [(.list (.int .i64)), (.int .i64), (.list (.pair .str (.pair (.int .i64) (.list (.pair (.int .i64) (.pair (.int .i64) (.pair (.int .i64) (.pair (.int .i64) (.pair (.int .i64) (.pair (.int .i64) (.int .i64)))))))))))]⟩], fun h => Pw.made_Dice_Staff_l0_step h.1 h.2.1 h.2.2.1 h.2.2.2⟩,
    ⟨2, [.s (.one (.bp 0 0)), .s (.one (.bp 128 0)), .s (.one (.bp 192 0)), .s (.one (.d (.int .i64))), .b (.cell [.d (.list (.int .i64)), .d (.int .i64)] false), .b (.cell [.nil, .nil, .nil, .nil] false), .b (.cell [.ol 1002000, .ol 1002001, .nil, .nil] false), .b (.lst 24 (.pair .str (.pair (.int .i64) (.list (.pair (.int .i64) (.pair (.int .i64) (.pair (.int .i64) (.pair (.int .i64) (.pair (.int .i64) (.pair (.int .i64) (.int .i64)))))))))) false), .b (.lst 127 (.pair .str (.pair (.int .i64) (.pair (.list (.pair (.int .i64) (.int .i64))) (.pair (.int .i64) (.pair (.int .i64) .bool))))) false)], [(.int .i64), (.list (.int .i64)), (.int .i64), (.list (.pair .str (.pair (.int .i64) (.list (.pair (.int .i64) (.pair (.int .i64) (.pair (.int .i64) (.pair (.int .i64) (.pair (.int .i64) (.pair (.int .i64) (.int .i64))))))))))), (.list (.pair .str (.pair (.int .i64) (.pair (.list (.pair (.int .i64) (.int .i64))) (.pair (.int .i64) (.pair (.int .i64) .bool))))))], [⟨.exit 2, [.s (.one (.bp 0 0)), .s (.one (.bp 128 0)), .s (.one (.bp 192 0)), .b (.cell [.d (.list (.int .i64)), .d (.int .i64)] false), .b (.cell [.nil, .nil, .nil, .nil] false), .b (.cell [.ol 1502300, .ol 1502301, .nil, .nil] false), .b (.lst 24 (.pair .str (.pair (.int .i64) (.list (.pair (.int .i64) (.pair (.int .i64) (.pair (.int .i64) (.pair (.int .i64) (.pair (.int .i64) (.pair (.int .i64) (.int .i64)))))))))) false), .b (.lst 127 (.pair .str (.pair (.int .i64) (.pair (.list (.pair (.int .i64) (.int .i64))) (.pair (.int .i64) (.pair (.int .i64) .bool))))) false)], [(.list (.int .i64)), (.int .i64), (.list (.pair .str (.pair (.int .i64) (.list (.pair (.int .i64) (.pair (.int .i64) (.pair (.int .i64) (.pair (.int .i64) (.pair (.int .i64) (.pair (.int .i64) (.int .i64))))))))))), (.list (.pair .str (.pair (.int .i64) (.pair (.list (.pair (.int .i64) (.int .i64))) (.pair (.int .i64) (.pair (.int .i64) .bool))))))]⟩], fun h => Pw.made_Dice_Staff_l2_step h.1 h.2.1 h.2.2.1 h.2.2.2.1 h.2.2.2.2⟩,
    ⟨4, [.s (.one (.bp 0 0)), .s (.one (.bp 128 0)), .s (.one (.bp 192 0)), .s (.one (.d (.int .i64))), .b (.cell [.d (.list (.int .i64)), .d (.int .i64)] false), .b (.cell [.nil, .nil, .nil, .nil] false), .b (.cell [.ol 1004000, .ol 1004001, .ol 1004002, .nil] false), .b (.lst 24 (.pair .str (.pair (.int .i64) (.list (.pair (.int .i64) (.pair (.int .i64) (.pair (.int .i64) (.pair (.int .i64) (.pair (.int .i64) (.pair (.int .i64) (.int .i64)))))))))) false), .b (.lst 127 (.pair .str (.pair (.int .i64) (.pair (.list (.pair (.int .i64) (.int .i64))) (.pair (.int .i64) (.pair (.int .i64) .bool))))) false), .b (.lst 129 (.pair .str (.pair (.int .i64) (.list (.int .i64)))) false)], [(.int .i64), (.list (.int .i64)), (.int .i64), (.list (.pair .str (.pair (.int .i64) (.list (.pair (.int .i64) (.pair (.int .i64) (.pair (.int .i64) (.pair (.int .i64) (.pair (.int .i64) (.pair (.int .i64) (.int .i64))))))))))), (.list (.pair .str (.pair (.int .i64) (.pair (.list (.pair (.int .i64) (.int .i64))) (.pair (.int .i64) (.pair (.int .i64) .bool)))))), (.list (.pair .str (.pair (.int .i64) (.list (.int .i64)))))], [⟨.exit 4, [.s (.one (.bp 128 0)), .s (.one (.bp 192 0)), .b (.cell [.d (.list (.int .i64)), .d (.int .i64)] false), .b (.cell [.nil, .nil, .nil, .nil] false), .b (.cell [.ol 1504500, .ol 1504501, .ol 1504502, .nil] false), .b (.lst 24 (.pair .str (.pair (.int .i64) (.list (.pair (.int .i64) (.pair (.int .i64) (.pair (.int .i64) (.pair (.int .i64) (.pair (.int .i64) (.pair (.int .i64) (.int .i64)))))))))) false), .b (.lst 127 (.pair .str (.pair (.int .i64) (.pair (.list (.pair (.int .i64) (.int .i64))) (.pair (.int .i64) (.pair (.int .i64) .bool))))) false), .b (.lst 129 (.pair .str (.pair (.int .i64) (.list (.int .i64)))) false)], [(.list (.int .i64)), (.int .i64), (.list (.pair .str (.pair (.int .i64) (.list (.pair (.int .i64) (.pair (.int .i64) (.pair (.int .i64) (.pair (.int .i64) (.pair (.int .i64) (.pair (.int .i64) (.int .i64))))))))))), (.list (.pair .str (.pair (.int .i64) (.pair (.list (.pair (.int .i64) (.int .i64))) (.pair (.int .i64) (.pair (.int .i64) .bool)))))), (.list (.pair .str (.pair (.int .i64) (.list (.int .i64)))))]⟩], fun h => Pw.made_Dice_Staff_l4_step h.1 h.2.1 h.2.2.1 h.2.2.2.1 h.2.2.2.2.1 h.2.2.2.2.2⟩,
    ⟨6, [.s (.one (.bp 0 0)), .s (.one (.bp 128 0)), .s (.one (.bp 192 0)), .s (.one (.d (.int .i64))), .s (.one (.bp 512 0)), .s (.one (.d (.int .i64))), .s (.one (.d (.int .i64))), .b (.cell [.d (.list (.int .i64)), .d (.int .i64)] false), .b (.cell [.nil, .nil, .nil, .nil] false), .b (.cell [.ol 1006000, .ol 1006001, .ol 1006002, .nil] false), .b (.cell [.d .str, .d (.int .i64), .ol 1006003] false), .b (.lst 24 (.pair .str (.pair (.int .i64) (.list (.pair (.int .i64) (.pair (.int .i64) (.pair (.int .i64) (.pair (.int .i64) (.pair (.int .i64) (.pair (.int .i64) (.int .i64)))))))))) false), .b (.lst 127 (.pair .str (.pair (.int .i64) (.pair (.list (.pair (.int .i64) (.int .i64))) (.pair (.int .i64) (.pair (.int .i64) .bool))))) false), .b (.lst 129 (.pair .str (.pair (.int .i64) (.list (.int .i64)))) false), .b (.lst 3 (.int .i64) false)], [(.int .i64), (.int .i64), (.int .i64), (.list (.int .i64)), (.int .i64), .str, (.int .i64), (.list (.pair .str (.pair (.int .i64) (.list (.pair (.int .i64) (.pair (.int .i64) (.pair (.int .i64) (.pair (.int .i64) (.pair (.int .i64) (.pair (.int .i64) (.int .i64))))))))))), (.list (.pair .str (.pair (.int .i64) (.pair (.list (.pair (.int .i64) (.int .i64))) (.pair (.int .i64) (.pair (.int .i64) .bool)))))), (.list (.pair .str (.pair (.int .i64) (.list (.int .i64))))), (.list (.int .i64))], [⟨.exit 6, [.s (.one (.bp 0 0)), .s (.one (.bp 128 0)), .s (.one (.bp 192 0)), .s (.one (.d (.int .i64))), .s (.one (.bp 512 0)), .b (.cell [.d (.list (.int .i64)), .d (.int .i64)] false), .b (.cell [.nil, .nil, .nil, .nil] false), .b (.cell [.ol 1506700, .ol 1506701, .ol 1506702, .nil] false), .b (.cell [.d .str, .d (.int .i64), .ol 1506703] false), .b (.lst 24 (.pair .str (.pair (.int .i64) (.list (.pair (.int .i64) (.pair (.int .i64) (.pair (.int .i64) (.pair (.int .i64) (.pair (.int .i64) (.pair (.int .i64) (.int .i64)))))))))) false), .b (.lst 127 (.pair .str (.pair (.int .i64) (.pair (.list (.pair (.int .i64) (.int .i64))) (.pair (.int .i64) (.pair (.int .i64) .bool))))) false), .b (.lst 129 (.pair .str (.pair (.int .i64) (.list (.int .i64)))) false), .b (.lst 3 (.int .i64) false)], [(.int .i64), (.list (.int .i64)), (.int .i64), .str, (.int .i64), (.list (.pair .str (.pair (.int .i64) (.list (.pair (.int .i64) (.pair (.int .i64) (.pair (.int .i64) (.pair (.int .i64) (.pair (.int .i64) (.pair (.int .i64) (.int .i64))))))))))), (.list (.pair .str (.pair (.int .i64) (.pair (.list (.pair (.int .i64) (.int .i64))) (.pair (.int .i64) (.pair (.int .i64) .bool)))))), (.list (.pair .str (.pair (.int .i64) (.list (.int .i64))))), (.list (.int .i64))]⟩], fun h => Pw.made_Dice_Staff_l6_step h.1 h.2.1 h.2.2.1 h.2.2.2.1 h.2.2.2.2.1 h.2.2.2.2.2.1 h.2.2.2.2.2.2.1 h.2.2.2.2.2.2.2.1 h.2.2.2.2.2.2.2.2.1 h.2.2.2.2.2.2.2.2.2.1 h.2.2.2.2.2.2.2.2.2.2⟩]
  modes := [(13, [false, false]), (37, [false, false]), (51, [false]), (60, [false, false]), (61, [false, false]), (78, [])]
  keep := [(0, ⟨[0, 2, 3, 4], [0, 128, 192], [⟨1000000, 24, (.pair .str (.pair (.int .i64) (.list (.pair (.int .i64) (.pair (.int .i64) (.pair (.int .i64) (.pair (.int .i64) (.pair (.int .i64) (.pair (.int .i64) (.int .i64)))))))))), [.cell 192 0], false⟩], []⟩),
    (2, ⟨[0, 2, 3, 5], [0, 128, 192], [⟨1002000, 24, (.pair .str (.pair (.int .i64) (.list (.pair (.int .i64) (.pair (.int .i64) (.pair (.int .i64) (.pair (.int .i64) (.pair (.int .i64) (.pair (.int .i64) (.int .i64)))))))))), [.cell 192 0], false⟩, ⟨1002001, 127, (.pair .str (.pair (.int .i64) (.pair (.list (.pair (.int .i64) (.int .i64))) (.pair (.int .i64) (.pair (.int .i64) .bool))))), [.cell 192 1], false⟩], []⟩),
    (4, ⟨[0, 2, 3, 7], [0, 128, 192], [⟨1004000, 24, (.pair .str (.pair (.int .i64) (.list (.pair (.int .i64) (.pair (.int .i64) (.pair (.int .i64) (.pair (.int .i64) (.pair (.int .i64) (.pair (.int .i64) (.int .i64)))))))))), [.cell 192 0], false⟩, ⟨1004001, 127, (.pair .str (.pair (.int .i64) (.pair (.list (.pair (.int .i64) (.int .i64))) (.pair (.int .i64) (.pair (.int .i64) .bool))))), [.cell 192 1], false⟩, ⟨1004002, 129, (.pair .str (.pair (.int .i64) (.list (.int .i64)))), [.cell 192 2], false⟩], []⟩),
    (6, ⟨[0, 2, 3, 7, 8, 9, 10], [0, 128, 192, 512], [⟨1006000, 24, (.pair .str (.pair (.int .i64) (.list (.pair (.int .i64) (.pair (.int .i64) (.pair (.int .i64) (.pair (.int .i64) (.pair (.int .i64) (.pair (.int .i64) (.int .i64)))))))))), [.cell 192 0], false⟩, ⟨1006001, 127, (.pair .str (.pair (.int .i64) (.pair (.list (.pair (.int .i64) (.int .i64))) (.pair (.int .i64) (.pair (.int .i64) .bool))))), [.cell 192 1], false⟩, ⟨1006002, 129, (.pair .str (.pair (.int .i64) (.list (.int .i64)))), [.cell 192 2], false⟩, ⟨1006003, 3, (.int .i64), [.cell 512 2], false⟩], []⟩)]
  keepX := [(0, .exit 0, ⟨[0, 2, 3], [0, 128, 192], [⟨1500100, 24, (.pair .str (.pair (.int .i64) (.list (.pair (.int .i64) (.pair (.int .i64) (.pair (.int .i64) (.pair (.int .i64) (.pair (.int .i64) (.pair (.int .i64) (.int .i64)))))))))), [.cell 192 0], false⟩], []⟩),
    (2, .exit 2, ⟨[0, 2, 3], [0, 128, 192], [⟨1502300, 24, (.pair .str (.pair (.int .i64) (.list (.pair (.int .i64) (.pair (.int .i64) (.pair (.int .i64) (.pair (.int .i64) (.pair (.int .i64) (.pair (.int .i64) (.int .i64)))))))))), [.cell 192 0], false⟩, ⟨1502301, 127, (.pair .str (.pair (.int .i64) (.pair (.list (.pair (.int .i64) (.int .i64))) (.pair (.int .i64) (.pair (.int .i64) .bool))))), [.cell 192 1], false⟩], []⟩),
    (4, .exit 4, ⟨[2, 3], [0, 128, 192], [⟨1504500, 24, (.pair .str (.pair (.int .i64) (.list (.pair (.int .i64) (.pair (.int .i64) (.pair (.int .i64) (.pair (.int .i64) (.pair (.int .i64) (.pair (.int .i64) (.int .i64)))))))))), [.cell 192 0], false⟩, ⟨1504501, 127, (.pair .str (.pair (.int .i64) (.pair (.list (.pair (.int .i64) (.int .i64))) (.pair (.int .i64) (.pair (.int .i64) .bool))))), [.cell 192 1], false⟩, ⟨1504502, 129, (.pair .str (.pair (.int .i64) (.list (.int .i64)))), [.cell 192 2], false⟩], []⟩),
    (6, .exit 6, ⟨[0, 2, 3, 7, 8], [0, 128, 192, 512], [⟨1506700, 24, (.pair .str (.pair (.int .i64) (.list (.pair (.int .i64) (.pair (.int .i64) (.pair (.int .i64) (.pair (.int .i64) (.pair (.int .i64) (.pair (.int .i64) (.int .i64)))))))))), [.cell 192 0], false⟩, ⟨1506701, 127, (.pair .str (.pair (.int .i64) (.pair (.list (.pair (.int .i64) (.int .i64))) (.pair (.int .i64) (.pair (.int .i64) .bool))))), [.cell 192 1], false⟩, ⟨1506702, 129, (.pair .str (.pair (.int .i64) (.list (.int .i64)))), [.cell 192 2], false⟩, ⟨1506703, 3, (.int .i64), [.cell 512 2], false⟩], []⟩)]
  ro := [false]
  dw := [(5, [[], [], [], [1344], [], [], [], [], [], [0], [1792], [1856, 1000000], [], [192]]), (9, [[2432], [], [], [], [], [], [], [], [], [], [0], [], [0], [], [384], [384]])]

set_option maxRecDepth 100000 in
theorem made_Dice_Staff_ok : Con.OK Try.prog made_Dice_Staff_con :=
  con_of tabOk mixedOk made_Dice_Staff_d made_Dice_Staff_con Try.f34 (Try.f34.body.getD .skip) Try.func34 (by kernel_rfl) (by kernel_rfl) (Nat.le_of_ble_eq_true (by kernel_rfl)) (by kernel_rfl) (And.intro made_Dice_Next_ok (And.intro made_Dice_Pick_ok (And.intro made_Dice_Zone_ok (And.intro made_Dice_Bool_ok (And.intro made_names_ok (And.intro made_Dice_Windows_ok trivial)))))) (by kernel_rfl) (by kernel_rfl)
    (And.intro (fun h => by kernel_rfl) (And.intro (fun h => by kernel_rfl) (And.intro (fun h => by kernel_rfl) (And.intro (fun h => by kernel_rfl) trivial))))
    (fun h => by kernel_rfl)

noncomputable def made_Dice_Layer_con : Con := ⟨35, [.ref [(.list (.int .i64)), (.int .i64)], .v (.pair (.list (.pair .str (.pair (.int .i64) (.list (.pair (.int .i64) (.pair (.int .i64) (.pair (.int .i64) (.pair (.int .i64) (.pair (.int .i64) (.pair (.int .i64) (.int .i64))))))))))) (.pair (.list (.pair .str (.pair (.int .i64) (.pair (.list (.pair (.int .i64) (.int .i64))) (.pair (.int .i64) (.pair (.int .i64) .bool)))))) (.pair (.list (.pair .str (.pair (.int .i64) (.list (.int .i64))))) (.list (.pair .str (.pair (.list (.pair .str (.pair (.int .i64) (.pair (.pair (.int .i64) (.int .i64)) (.pair (.int .i64) (.pair (.int .i64) (.pair (.list (.int .i64)) (.pair (.list (.pair (.int .i64) (.int .i64))) (.pair (.int .i64) (.int .i64)))))))))) (.list (.pair (.int .i64) (.pair (.int .i64) (.pair (.int .i64) (.pair (.int .i64) (.int .i64)))))))))))), .v .str], [(.list (.int .i64)), (.int .i64), (.pair (.list (.pair .str (.pair (.int .i64) (.list (.pair (.int .i64) (.pair (.int .i64) (.pair (.int .i64) (.pair (.int .i64) (.pair (.int .i64) (.pair (.int .i64) (.int .i64))))))))))) (.pair (.list (.pair .str (.pair (.int .i64) (.pair (.list (.pair (.int .i64) (.int .i64))) (.pair (.int .i64) (.pair (.int .i64) .bool)))))) (.pair (.list (.pair .str (.pair (.int .i64) (.list (.int .i64))))) (.list (.pair .str (.pair (.list (.pair .str (.pair (.int .i64) (.pair (.pair (.int .i64) (.int .i64)) (.pair (.int .i64) (.pair (.int .i64) (.pair (.list (.int .i64)) (.pair (.list (.pair (.int .i64) (.int .i64))) (.pair (.int .i64) (.int .i64)))))))))) (.list (.pair (.int .i64) (.pair (.int .i64) (.pair (.int .i64) (.pair (.int .i64) (.int .i64)))))))))))), .str], ⟨[.v (.pair .str (.pair (.int .i64) (.pair (.pair (.int .i64) (.int .i64)) (.pair (.int .i64) (.pair (.int .i64) (.pair (.list (.int .i64)) (.pair (.list (.pair (.int .i64) (.int .i64))) (.pair (.int .i64) (.int .i64)))))))))], [.ref [(.list (.int .i64)), (.int .i64)]]⟩, [(.pair .str (.pair (.int .i64) (.pair (.pair (.int .i64) (.int .i64)) (.pair (.int .i64) (.pair (.int .i64) (.pair (.list (.int .i64)) (.pair (.list (.pair (.int .i64) (.int .i64))) (.pair (.int .i64) (.int .i64))))))))), (.list (.int .i64)), (.int .i64)], fun h => Pw.made_Dice_Layer h.1 h.2.1 h.2.2.1 h.2.2.2⟩

noncomputable def made_Dice_Layer_d : FnD where
  N := 77
  np := 3
  cs := [made_Dice_Next_con, made_Dice_Pick_con, made_Dice_Bool_con, made_Dice_Windows_con]
  ds := [⟨0, [.s (.one (.bp 0 0)), .s (.one (.bp 256 0)), .s (.one (.bp 384 0)), .s (.one (.bp 448 0)), .s (.one (.d (.int .i64))), .b (.cell [.d (.list (.int .i64)), .d (.int .i64)] false), .b (.cell [.d (.list (.pair .str (.pair (.int .i64) (.list (.pair (.int .i64) (.pair (.int .i64) (.pair (.int .i64) (.pair (.int .i64) (.pair (.int .i64) (.pair (.int .i64) (.int .i64))))))))))), .d (.list (.pair .str (.pair (.int .i64) (.pair (.list (.pair (.int .i64) (.int .i64))) (.pair (.int .i64) (.pair (.int .i64) .bool)))))), .d (.list (.pair .str (.pair (.int .i64) (.list (.int .i64))))), .d (.list (.pair .str (.pair (.list (.pair .str (.pair (.int .i64) (.pair (.pair (.int .i64) (.int .i64)) (.pair (.int .i64) (.pair (.int .i64) (.pair (.list (.int .i64)) (.pair (.list (.pair (.int .i64) (.int .i64))) (.pair (.int .i64) (.int .i64)))))))))) (.list (.pair (.int .i64) (.pair (.int .i64) (.pair (.int .i64) (.pair (.int .i64) (.int .i64)))))))))] false), .b (.cell [.d .str, .d (.int .i64), .d (.int .i64), .d (.int .i64), .d (.int .i64), .d (.int .i64), .nil, .nil, .d (.int .i64), .d (.int .i64)] false), .b (.cell [.d .str, .d (.int .i64), .d (.int .i64), .d (.int .i64), .d (.int .i64), .d (.int .i64), .ol 1000000, .nil, .d (.int .i64), .d (.int .i64)] false), .b (.lst 3 (.int .i64) false)], [(.int .i64), (.list (.int .i64)), (.int .i64), (.list (.pair .str (.pair (.int .i64) (.list (.pair (.int .i64) (.pair (.int .i64) (.pair (.int .i64) (.pair (.int .i64) (.pair (.int .i64) (.pair (.int .i64) (.int .i64))))))))))), (.list (.pair .str (.pair (.int .i64) (.pair (.list (.pair (.int .i64) (.int .i64))) (.pair (.int .i64) (.pair (.int .i64) .bool)))))), (.list (.pair .str (.pair (.int .i64) (.list (.int .i64))))), (.list (.pair .str (.pair (.list (.pair .str (.pair (.int .i64) (.pair (.pair (.int .i64) (.int .i64)) (.pair (.int .i64) (.pair (.int .i64) (.pair (.list (.int .i64)) (.pair (.list (.pair (.int .i64) (.int .i64))) (.pair (.int .i64) (.int .i64)))))))))) (.list (.pair (.int .i64) (.pair (.int .i64) (.pair (.int .i64) (.pair (.int .i64) (.int .i64))))))))), .str, (.int .i64), (.int .i64), (.int .i64), (.int .i64), (.int .i64), (.int .i64), (.int .i64), .str, (.int .i64), (.int .i64), (.int .i64), (.int .i64), (.int .i64), (.int .i64), (.int .i64), (.list (.int .i64))], [⟨.exit 0, [.s (.one (.bp 0 0)), .s (.one (.bp 256 0)), .s (.one (.bp 384 0)), .s (.one (.bp 448 0)), .b (.cell [.d (.list (.int .i64)), .d (.int .i64)] false), .b (.cell [.d (.list (.pair .str (.pair (.int .i64) (.list (.pair (.int .i64) (.pair (.int .i64) (.pair (.int .i64) (.pair (.int .i64) (.pair (.int .i64) (.pair (.int .i64) (.int .i64))))))))))), .d (.list (.pair .str (.pair (.int .i64) (.pair (.list (.pair (.int .i64) (.int .i64))) (.pair (.int .i64) (.pair (.int .i64) .bool)))))), .d (.list (.pair .str (.pair (.int .i64) (.list (.int .i64))))), .d (.list (.pair .str (.pair (.list (.pair .str (.pair (.int .i64) (.pair (.pair (.int .i64) (.int .i64)) (.pair (.int .i64) (.pair (.int .i64) (.pair (.list (.int .i64)) (.pair (.list (.pair (.int .i64) (.int .i64))) (.pair (.int .i64) (.int .i64)))))))))) (.list (.pair (.int .i64) (.pair (.int .i64) (.pair (.int .i64) (.pair (.int .i64) (.int .i64)))))))))] false), .b (.cell [.d .str, .d (.int .i64), .d (.int .i64), .d (.int .i64), .d (.int .i64), .d (.int .i64), .nil, .nil, .d (.int .i64), .d (.int .i64)] false), .b (.cell [.d .str, .d (.int .i64), .d (.int .i64), .d (.int .i64), .d (.int .i64), .d (.int .i64), .ol 1500100, .nil, .d (.int .i64), .d (.int .i64)] false), .b (.lst 3 (.int .i64) false)], [(.list (.int .i64)), (.int .i64), (.list (.pair .str (.pair (.int .i64) (.list (.pair (.int .i64) (.pair (.int .i64) (.pair (.int .i64) (.pair (.int .i64) (.pair (.int .i64) (.pair (.int .i64) (.int .i64))))))))))), (.list (.pair .str (.pair (.int .i64) (.pair (.list (.pair (.int .i64) (.int .i64))) (.pair (.int .i64) (.pair (.int .i64) .bool)))))), (.list (.pair .str (.pair (.int .i64) (.list (.int .i64))))), (.list (.pair .str (.pair (.list (.pair .str (.pair (.int .i64) (.pair (.pair (.int .i64) (.int .i64)) (.pair (.int .i64) (.pair (.int .i64) (.pair (.list (.int .i64)) (.pair (.list (.pair (.int .i64) (.int .i64))) (.pair (.int .i64) (.int .i64)))))))))) (.list (.pair (.int .i64) (.pair (.int .i64) (.pair (.int .i64) (.pair (.int .i64) (.int .i64))))))))), .str, (.int .i64), (.int .i64), (.int .i64), (.int .i64), (.int .i64), (.int .i64), (.int .i64), .str, (.int .i64), (.int .i64), (.int .i64), (.int .i64), (.int .i64), (.int .i64), (.int .i64), (.list (.int .i64))]⟩], fun h => Pw.made_Dice_Layer_l0_step h.1 h.2.1 h.2.2.1 h.2.2.2.1 h.2.2.2.2.1 h.2.2.2.2.2.1 h.2.2.2.2.2.2.1 h.2.2.2.2.2.2.2.1 h.2.2.2.2.2.2.2.2.1 h.2.2.2.2.2.2.2.2.2.1 h.2.2.2.2.2.2.2.2.2.2.1 h.2.2.2.2.2.2.2.2.2.2.2.1 h.2.2.2.2.2.2.2.2.2.2.2.2.1 h.2.2.2.2.2.2.2.2.2.2.2.2.2.1 h.2.2.2.2.2.2.2.2.2.2.2.2.2.2.1 h.2.2.2.2.2.2.2.2.2.2.2.2.2.2.2.1 h.2.2.2.2.2.2.2.2.2.2.2.2.2.2.2.2.1 h.2.2.2.2.2.2.2.2.2.2.2.2.2.2.2.2.2.1 h.2.2.2.2.2.2.2.2.2.2.2.2.2.2.2.2.2.2.1 h.2.2.2.2.2.2.2.2.2.2.2.2.2.2.2.2.2.2.2.1 h.2.2.2.2.2.2.2.2.2.2.2.2.2.2.2.2.2.2.2.2.1 h.2.2.2.2.2.2.2.2.2.2.2.2.2.2.2.2.2.2.2.2.2.1 h.2.2.2.2.2.2.2.2.2.2.2.2.2.2.2.2.2.2.2.2.2.2.1 h.2.2.2.2.2.2.2.2.2.2.2.2.2.2.2.2.2.2.2.2.2.2.2⟩]
  modes := [(37, [false, false]), (51, [false]), (60, [false, false]), (61, [false, false])]
  keep := [(0, ⟨[0, 4, 6, 7, 8], [0, 256, 384, 448], [⟨1000000, 3, (.int .i64), [.cell 448 6], false⟩], []⟩)]
  keepX := [(0, .exit 0, ⟨[0, 4, 6, 7], [0, 256, 384, 448], [⟨1500100, 3, (.int .i64), [.cell 448 6], false⟩], []⟩)]
  ro := [false]
  dw := [(7, [[], [], [], [], [], [], [0], [3200], [3264, 1000000], [], [448]])]

set_option maxRecDepth 100000 in
theorem made_Dice_Layer_ok : Con.OK Try.prog made_Dice_Layer_con :=
  con_of tabOk mixedOk made_Dice_Layer_d made_Dice_Layer_con Try.f35 (Try.f35.body.getD .skip) Try.func35 (by kernel_rfl) (by kernel_rfl) (Nat.le_of_ble_eq_true (by kernel_rfl)) (by kernel_rfl) (And.intro made_Dice_Next_ok (And.intro made_Dice_Pick_ok (And.intro made_Dice_Bool_ok (And.intro made_Dice_Windows_ok trivial)))) (by kernel_rfl) (by kernel_rfl)
    (And.intro (fun h => by kernel_rfl) trivial)
    (fun h => by kernel_rfl)

noncomputable def law10_RecurSame_con : Con := ⟨4, [.v (.list (.int .i64)), .v (.int .i64)], [(.list (.int .i64)), (.int .i64)], ⟨[.v .bool], []⟩, [.bool], fun h => Pw.law10_RecurSame h.1 h.2⟩

noncomputable def law10_RecurSame_d : FnD where
  N := 121
  np := 2
  cs := [made_Light_con, made_Roll_con, made_Mod_con, r04_ToLocal_con, r04_First_con, recur_Handover_con, law10_sane_con, made_Dice_Staff_con, made_Dice_Layer_con]
  ds := [⟨0, [.s (.one (.d (.int .i64))), .s (.one (.bp 448 0)), .s (.one (.bp 512 0)), .s (.one (.bp 832 0)), .s (.one (.d (.int .i64))), .b (.cell [.d .str, .d (.int .i64), .d (.int .i64), .d (.int .i64), .d (.int .i64), .d (.int .i64), .d (.list (.int .i64)), .d (.list (.pair (.int .i64) (.int .i64))), .d (.int .i64), .d (.int .i64)] false), .b (.cell [.d .str, .d (.int .i64), .d (.list (.pair (.int .i64) (.pair (.int .i64) (.pair (.int .i64) (.pair (.int .i64) (.pair (.int .i64) (.pair (.int .i64) (.int .i64))))))))] false), .b (.cell [.d .str, .d (.int .i64), .d (.int .i64), .d (.int .i64), .d (.int .i64), .d (.int .i64), .d (.list (.int .i64)), .d (.list (.pair (.int .i64) (.int .i64))), .d (.int .i64), .d (.int .i64)] false)], [(.int .i64), (.int .i64), .str, (.int .i64), (.int .i64), (.int .i64), (.int .i64), (.int .i64), (.list (.int .i64)), (.list (.pair (.int .i64) (.int .i64))), (.int .i64), (.int .i64), .str, (.int .i64), (.list (.pair (.int .i64) (.pair (.int .i64) (.pair (.int .i64) (.pair (.int .i64) (.pair (.int .i64) (.pair (.int .i64) (.int .i64)))))))), .str, (.int .i64), (.int .i64), (.int .i64), (.int .i64), (.int .i64), (.list (.int .i64)), (.list (.pair (.int .i64) (.int .i64))), (.int .i64), (.int .i64)], [⟨.ret, [.s (.one (.d .bool))], [.bool]⟩, ⟨.exit 0, [], []⟩], fun h => Pw.law10_RecurSame_l0_step h.1 h.2.1 h.2.2.1 h.2.2.2.1 h.2.2.2.2.1 h.2.2.2.2.2.1 h.2.2.2.2.2.2.1 h.2.2.2.2.2.2.2.1 h.2.2.2.2.2.2.2.2.1 h.2.2.2.2.2.2.2.2.2.1 h.2.2.2.2.2.2.2.2.2.2.1 h.2.2.2.2.2.2.2.2.2.2.2.1 h.2.2.2.2.2.2.2.2.2.2.2.2.1 h.2.2.2.2.2.2.2.2.2.2.2.2.2.1 h.2.2.2.2.2.2.2.2.2.2.2.2.2.2.1 h.2.2.2.2.2.2.2.2.2.2.2.2.2.2.2.1 h.2.2.2.2.2.2.2.2.2.2.2.2.2.2.2.2.1 h.2.2.2.2.2.2.2.2.2.2.2.2.2.2.2.2.2.1 h.2.2.2.2.2.2.2.2.2.2.2.2.2.2.2.2.2.2.1 h.2.2.2.2.2.2.2.2.2.2.2.2.2.2.2.2.2.2.2.1 h.2.2.2.2.2.2.2.2.2.2.2.2.2.2.2.2.2.2.2.2.1 h.2.2.2.2.2.2.2.2.2.2.2.2.2.2.2.2.2.2.2.2.2.1 h.2.2.2.2.2.2.2.2.2.2.2.2.2.2.2.2.2.2.2.2.2.2.1 h.2.2.2.2.2.2.2.2.2.2.2.2.2.2.2.2.2.2.2.2.2.2.2.1 h.2.2.2.2.2.2.2.2.2.2.2.2.2.2.2.2.2.2.2.2.2.2.2.2⟩]
  modes := [(10, [false]), (12, [false]), (23, [false, false]), (27, [false, false]), (31, [false, false]), (33, []), (34, [false]), (35, [false, false, false]), (36, [false, false, false])]
  keep := [(0, ⟨[1, 7, 8, 13, 16], [448, 512, 832], [], []⟩)]
  keepX := [(0, .ret, ⟨[4], [], [], []⟩),
    (0, .exit 0, ⟨[], [], [], []⟩)]
  ro := [false]
  dw := []

set_option maxRecDepth 100000 in
theorem law10_RecurSame_ok : Con.OK Try.prog law10_RecurSame_con :=
  con_of tabOk mixedOk law10_RecurSame_d law10_RecurSame_con Try.f4 (Try.f4.body.getD .skip) Try.func4 (by kernel_rfl) (by kernel_rfl) (Nat.le_of_ble_eq_true (by kernel_rfl)) (by kernel_rfl) (And.intro made_Light_ok (And.intro made_Roll_ok (And.intro made_Mod_ok (And.intro r04_ToLocal_ok (And.intro r04_First_ok (And.intro recur_Handover_ok (And.intro law10_sane_ok (And.intro made_Dice_Staff_ok (And.intro made_Dice_Layer_ok trivial))))))))) (by kernel_rfl) (by kernel_rfl)
    (And.intro (fun h => by kernel_rfl) trivial)
    (fun h => by kernel_rfl)

noncomputable def law10_RecurCivil_con : Con := ⟨5, [.v (.list (.int .i64)), .v (.int .i64)], [(.list (.int .i64)), (.int .i64)], ⟨[.v .bool], []⟩, [.bool], fun h => Pw.law10_RecurCivil h.1 h.2⟩

noncomputable def law10_RecurCivil_d : FnD where
  N := 138
  np := 2
  cs := [made_Light_con, made_Roll_con, made_Mod_con, r04_OffsetAt_con, r04_FromLocal_con, recur_Handover_con, law10_sane_con, made_Dice_Staff_con, made_Dice_Layer_con]
  ds := []
  modes := [(10, [false]), (12, [false]), (23, [false, false]), (25, [false, false]), (29, [false, false]), (33, []), (34, [false]), (35, [false, false, false]), (36, [false, false, false])]
  keep := []
  keepX := []
  ro := [false]
  dw := []

set_option maxRecDepth 100000 in
theorem law10_RecurCivil_ok : Con.OK Try.prog law10_RecurCivil_con :=
  con_of tabOk mixedOk law10_RecurCivil_d law10_RecurCivil_con Try.f5 (Try.f5.body.getD .skip) Try.func5 (by kernel_rfl) (by kernel_rfl) (Nat.le_of_ble_eq_true (by kernel_rfl)) (by kernel_rfl) (And.intro made_Light_ok (And.intro made_Roll_ok (And.intro made_Mod_ok (And.intro r04_OffsetAt_ok (And.intro r04_FromLocal_ok (And.intro recur_Handover_ok (And.intro law10_sane_ok (And.intro made_Dice_Staff_ok (And.intro made_Dice_Layer_ok trivial))))))))) (by kernel_rfl) (by kernel_rfl)
    trivial
    (fun h => by kernel_rfl)

noncomputable def week_Check_con : Con := ⟨57, [.v (.list (.pair (.int .i64) (.int .i64)))], [(.list (.pair (.int .i64) (.int .i64)))], ⟨[.v (.int .i64)], []⟩, [(.int .i64)], fun h => Pw.week_Check h⟩

noncomputable def week_Check_d : FnD where
  N := 46
  np := 1
  cs := []
  ds := [⟨0, [.s (.one (.d (.list (.pair (.int .i64) (.int .i64))))), .s (.one (.d (.list (.pair (.int .i64) (.int .i64))))), .s (.one (.d (.int .i64))), .s (.one (.d (.int .i64)))], [(.list (.pair (.int .i64) (.int .i64))), (.list (.pair (.int .i64) (.int .i64))), (.int .i64), (.int .i64)], [⟨.ret, [.s (.one (.d (.int .i64)))], [(.int .i64)]⟩, ⟨.exit 0, [], []⟩], fun h => Pw.week_Check_l0_step h.1 h.2.1 h.2.2.1 h.2.2.2⟩]
  modes := []
  keep := [(0, ⟨[0, 8, 9, 10], [], [], []⟩)]
  keepX := [(0, .ret, ⟨[2], [], [], []⟩),
    (0, .exit 0, ⟨[], [], [], []⟩)]
  ro := [false]
  dw := []

set_option maxRecDepth 100000 in
theorem week_Check_ok : Con.OK Try.prog week_Check_con :=
  con_of tabOk mixedOk week_Check_d week_Check_con Try.f57 (Try.f57.body.getD .skip) Try.func57 (by kernel_rfl) (by kernel_rfl) (Nat.le_of_ble_eq_true (by kernel_rfl)) (by kernel_rfl) trivial (by kernel_rfl) (by kernel_rfl)
    (And.intro (fun h => by kernel_rfl) trivial)
    (fun h => by kernel_rfl)

noncomputable def week_Invert_con : Con := ⟨56, [.v (.list (.pair (.int .i64) (.int .i64)))], [(.list (.pair (.int .i64) (.int .i64)))], ⟨[.own 89 (.list (.pair (.int .i64) (.int .i64))), .v (.int .i64)], []⟩, [(.list (.pair (.int .i64) (.int .i64))), (.int .i64)], fun h => Pw.week_Invert h⟩

noncomputable def week_Invert_d : FnD where
  N := 42
  np := 1
  cs := [week_Check_con]
  ds := [⟨0, [.s (.one (.ol 1000000)), .s (.one (.d (.int .i64))), .s (.one (.d (.list (.pair (.int .i64) (.int .i64))))), .s (.one (.d (.int .i64))), .s (.one (.d (.int .i64))), .b (.lst 89 (.pair (.int .i64) (.int .i64)) false)], [(.int .i64), (.list (.pair (.int .i64) (.int .i64))), (.int .i64), (.int .i64), (.list (.pair (.int .i64) (.int .i64)))], [⟨.exit 0, [.s (.one (.ol 1500100)), .s (.one (.d (.int .i64))), .b (.lst 89 (.pair (.int .i64) (.int .i64)) false)], [(.int .i64), (.list (.pair (.int .i64) (.int .i64)))]⟩], fun h => Pw.week_Invert_l0_step h.1 h.2.1 h.2.2.1 h.2.2.2.1 h.2.2.2.2⟩]
  modes := [(57, [false])]
  keep := [(0, ⟨[4, 5, 11, 12, 13], [], [⟨1000000, 89, (.pair (.int .i64) (.int .i64)), [.slot 4], false⟩], []⟩)]
  keepX := [(0, .exit 0, ⟨[4, 5], [], [⟨1500100, 89, (.pair (.int .i64) (.int .i64)), [.slot 4], false⟩], []⟩)]
  ro := [true, false]
  dw := []

set_option maxRecDepth 100000 in
theorem week_Invert_ok : Con.OK Try.prog week_Invert_con :=
  con_of tabOk mixedOk week_Invert_d week_Invert_con Try.f56 (Try.f56.body.getD .skip) Try.func56 (by kernel_rfl) (by kernel_rfl) (Nat.le_of_ble_eq_true (by kernel_rfl)) (by kernel_rfl) (And.intro week_Check_ok trivial) (by kernel_rfl) (by kernel_rfl)
    (And.intro (fun h => by kernel_rfl) trivial)
    (fun h => by kernel_rfl)

noncomputable def week_SecondOf_con : Con := ⟨103, [.v (.pair (.int .i64) (.int .i64))], [(.pair (.int .i64) (.int .i64))], ⟨[.v (.int .i64)], []⟩, [(.int .i64)], fun h => Pw.week_SecondOf h⟩

noncomputable def week_SecondOf_d : FnD where
  N := 10
  np := 1
  cs := [civil_Weekday_con]
  ds := []
  modes := [(107, [false])]
  keep := []
  keepX := []
  ro := [false]
  dw := []

set_option maxRecDepth 100000 in
theorem week_SecondOf_ok : Con.OK Try.prog week_SecondOf_con :=
  con_of tabOk mixedOk week_SecondOf_d week_SecondOf_con Try.f103 (Try.f103.body.getD .skip) Try.func103 (by kernel_rfl) (by kernel_rfl) (Nat.le_of_ble_eq_true (by kernel_rfl)) (by kernel_rfl) (And.intro civil_Weekday_ok trivial) (by kernel_rfl) (by kernel_rfl)
    trivial
    (fun h => by kernel_rfl)

noncomputable def week_Second_con : Con := ⟨87, [.v (.pair .str (.pair (.int .i64) (.list (.pair (.int .i64) (.pair (.int .i64) (.pair (.int .i64) (.pair (.int .i64) (.pair (.int .i64) (.pair (.int .i64) (.int .i64)))))))))), .v (.int .i64)], [(.pair .str (.pair (.int .i64) (.list (.pair (.int .i64) (.pair (.int .i64) (.pair (.int .i64) (.pair (.int .i64) (.pair (.int .i64) (.pair (.int .i64) (.int .i64)))))))))), (.int .i64)], ⟨[.v (.int .i64), .v (.int .i64)], []⟩, [(.int .i64), (.int .i64)], fun h => Pw.week_Second h.1 h.2⟩

noncomputable def week_Second_d : FnD where
  N := 19
  np := 2
  cs := [zone_ToLocal_con, week_SecondOf_con]
  ds := []
  modes := [(26, [false, false]), (103, [false])]
  keep := []
  keepX := []
  ro := [false, false]
  dw := []

set_option maxRecDepth 100000 in
theorem week_Second_ok : Con.OK Try.prog week_Second_con :=
  con_of tabOk mixedOk week_Second_d week_Second_con Try.f87 (Try.f87.body.getD .skip) Try.func87 (by kernel_rfl) (by kernel_rfl) (Nat.le_of_ble_eq_true (by kernel_rfl)) (by kernel_rfl) (And.intro zone_ToLocal_ok (And.intro week_SecondOf_ok trivial)) (by kernel_rfl) (by kernel_rfl)
    trivial
    (fun h => by kernel_rfl)

noncomputable def week_Has_con : Con := ⟨89, [.v (.list (.pair (.int .i64) (.int .i64))), .v (.int .i64)], [(.list (.pair (.int .i64) (.int .i64))), (.int .i64)], ⟨[.v .bool], []⟩, [.bool], fun h => Pw.week_Has h.1 h.2⟩

noncomputable def week_Has_d : FnD where
  N := 24
  np := 2
  cs := []
  ds := [⟨0, [.s (.one (.d (.int .i64))), .s (.one (.d (.list (.pair (.int .i64) (.int .i64))))), .s (.one (.d (.int .i64))), .s (.one (.d (.int .i64)))], [(.int .i64), (.list (.pair (.int .i64) (.int .i64))), (.int .i64), (.int .i64)], [⟨.ret, [.s (.one (.d .bool))], [.bool]⟩, ⟨.exit 0, [], []⟩], fun h => Pw.week_Has_l0_step h.1 h.2.1 h.2.2.1 h.2.2.2⟩]
  modes := []
  keep := [(0, ⟨[1, 7, 8, 9], [], [], []⟩)]
  keepX := [(0, .ret, ⟨[4], [], [], []⟩),
    (0, .exit 0, ⟨[], [], [], []⟩)]
  ro := [false]
  dw := []

set_option maxRecDepth 100000 in
theorem week_Has_ok : Con.OK Try.prog week_Has_con :=
  con_of tabOk mixedOk week_Has_d week_Has_con Try.f89 (Try.f89.body.getD .skip) Try.func89 (by kernel_rfl) (by kernel_rfl) (Nat.le_of_ble_eq_true (by kernel_rfl)) (by kernel_rfl) trivial (by kernel_rfl) (by kernel_rfl)
    (And.intro (fun h => by kernel_rfl) trivial)
    (fun h => by kernel_rfl)

noncomputable def week_In_con : Con := ⟨54, [.v (.pair .str (.pair (.int .i64) (.list (.pair (.int .i64) (.pair (.int .i64) (.pair (.int .i64) (.pair (.int .i64) (.pair (.int .i64) (.pair (.int .i64) (.int .i64)))))))))), .v (.list (.pair (.int .i64) (.int .i64))), .v (.int .i64)], [(.pair .str (.pair (.int .i64) (.list (.pair (.int .i64) (.pair (.int .i64) (.pair (.int .i64) (.pair (.int .i64) (.pair (.int .i64) (.pair (.int .i64) (.int .i64)))))))))), (.list (.pair (.int .i64) (.int .i64))), (.int .i64)], ⟨[.v .bool], []⟩, [.bool], fun h => Pw.week_In h.1 h.2.1 h.2.2⟩

noncomputable def week_In_d : FnD where
  N := 27
  np := 3
  cs := [week_Check_con, week_Second_con, week_Has_con]
  ds := []
  modes := [(57, [false]), (87, [false, false]), (89, [false, false])]
  keep := []
  keepX := []
  ro := [false]
  dw := []

set_option maxRecDepth 100000 in
theorem week_In_ok : Con.OK Try.prog week_In_con :=
  con_of tabOk mixedOk week_In_d week_In_con Try.f54 (Try.f54.body.getD .skip) Try.func54 (by kernel_rfl) (by kernel_rfl) (Nat.le_of_ble_eq_true (by kernel_rfl)) (by kernel_rfl) (And.intro week_Check_ok (And.intro week_Second_ok (And.intro week_Has_ok trivial))) (by kernel_rfl) (by kernel_rfl)
    trivial
    (fun h => by kernel_rfl)

noncomputable def law05_sane_con : Con := ⟨50, [], [], ⟨[.v .bool], []⟩, [.bool], fun h => Pw.law05_sane⟩

noncomputable def law05_sane_d : FnD where
  N := 52
  np := 0
  cs := [week_Invert_con, week_Second_con, week_In_con]
  ds := []
  modes := [(54, [false, false, false]), (56, [false]), (87, [false, false])]
  keep := []
  keepX := []
  ro := [false]
  dw := []

set_option maxRecDepth 100000 in
theorem law05_sane_ok : Con.OK Try.prog law05_sane_con :=
  con_of tabOk mixedOk law05_sane_d law05_sane_con Try.f50 (Try.f50.body.getD .skip) Try.func50 (by kernel_rfl) (by kernel_rfl) (Nat.le_of_ble_eq_true (by kernel_rfl)) (by kernel_rfl) (And.intro week_Invert_ok (And.intro week_Second_ok (And.intro week_In_ok trivial))) (by kernel_rfl) (by kernel_rfl)
    trivial
    (fun h => by kernel_rfl)

noncomputable def made_Dice_Instant_con : Con := ⟨42, [.ref [(.list (.int .i64)), (.int .i64)]], [(.list (.int .i64)), (.int .i64)], ⟨[.v (.int .i64)], [.ref [(.list (.int .i64)), (.int .i64)]]⟩, [(.int .i64), (.list (.int .i64)), (.int .i64)], fun h => Pw.made_Dice_Instant h.1 h.2⟩

noncomputable def made_Dice_Instant_d : FnD where
  N := 16
  np := 1
  cs := [made_Dice_Next_con, made_Dice_Pick_con, made_Dice_Bool_con]
  ds := []
  modes := [(37, [false, false]), (60, [false, false]), (61, [false, false])]
  keep := []
  keepX := []
  ro := [false]
  dw := []

set_option maxRecDepth 100000 in
theorem made_Dice_Instant_ok : Con.OK Try.prog made_Dice_Instant_con :=
  con_of tabOk mixedOk made_Dice_Instant_d made_Dice_Instant_con Try.f42 (Try.f42.body.getD .skip) Try.func42 (by kernel_rfl) (by kernel_rfl) (Nat.le_of_ble_eq_true (by kernel_rfl)) (by kernel_rfl) (And.intro made_Dice_Next_ok (And.intro made_Dice_Pick_ok (And.intro made_Dice_Bool_ok trivial))) (by kernel_rfl) (by kernel_rfl)
    trivial
    (fun h => by kernel_rfl)

noncomputable def slices_Clone_api_Span_api_Span_con : Con := ⟨116, [.v (.list (.pair (.int .i64) (.int .i64)))], [(.list (.pair (.int .i64) (.int .i64)))], ⟨[.own 86 (.list (.pair (.int .i64) (.int .i64)))], []⟩, [(.list (.pair (.int .i64) (.int .i64)))], fun h => Pw.slices_Clone_api_Span_api_Span h⟩

noncomputable def slices_Clone_api_Span_api_Span_d : FnD where
  N := 8
  np := 1
  cs := []
  ds := []
  modes := []
  keep := []
  keepX := []
  ro := [true]
  dw := []

set_option maxRecDepth 100000 in
theorem slices_Clone_api_Span_api_Span_ok : Con.OK Try.prog slices_Clone_api_Span_api_Span_con :=
  con_clone tabOk mixedOk slices_Clone_api_Span_api_Span_d 116 (.pair (.int .i64) (.int .i64)) 86 Try.f116 (Try.f116.body.getD .skip) Try.func116 (by kernel_rfl) (by kernel_rfl) (Nat.le_of_ble_eq_true (by kernel_rfl)) (by kernel_rfl) trivial (by kernel_rfl)
    (fun h R k => by kernel_rfl)
end Go.Proofs.Pk
