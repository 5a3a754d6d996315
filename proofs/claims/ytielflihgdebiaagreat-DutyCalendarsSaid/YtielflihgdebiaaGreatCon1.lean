/- Contracts: each given function is its plain function, printed by a program. -/
import Derived.Test.YtielflihgdebiaaGreatCon0
open Go Go.Lft
set_option linter.unusedVariables false
set_option maxRecDepth 100000
namespace Go.Proofs.Pk

noncomputable def slices_rotateCmpFunc_zone_occurrence_con : Con := ⟨362, [.rl 263 ty16, .v (.int .i64), .v (.int .i64), .v (.int .i64), .clo 280 []], [ty16, (.int .i64), (.int .i64), (.int .i64)], ⟨[], [.rl ty16]⟩, [ty16], fun h => Pw.slices_rotateCmpFunc_zone_occurrence h.1 h.2.1 h.2.2.1 h.2.2.2⟩

noncomputable def slices_rotateCmpFunc_zone_occurrence_d : FnD where
  N := 58
  np := 5
  cs := [slices_swapRangeCmpFunc_zone_occurrence_con]
  ds := [⟨0, [.s (.one (.ol 0)), .s (.one (.d (.int .i64))), .s (.one (.clo 280 [])), .s (.one (.d (.int .i64))), .s (.one (.d (.int .i64))), .b (.lst 263 ty10 false)], [(.int .i64), (.int .i64), (.int .i64), ty16], [⟨.exit 0, [.s (.one (.ol 0)), .s (.one (.d (.int .i64))), .s (.one (.clo 280 [])), .s (.one (.d (.int .i64))), .b (.lst 263 ty10 false)], [(.int .i64), (.int .i64), ty16]⟩], fun h => Pw.slices_rotateCmpFunc_zone_occurrence_l0_step h.1 h.2.1 h.2.2.1 h.2.2.2⟩]
  modes := [(369, [true, false, false, false, false])]
  keep := [(0, ⟨[0, 2, 4, 10, 11], [0], [], []⟩)]
  keepX := [(0, .exit 0, ⟨[0, 2, 4, 10], [0], [], []⟩)]

theorem slices_rotateCmpFunc_zone_occurrence_ok : Con.OK Tryz.prog slices_rotateCmpFunc_zone_occurrence_con :=
  con_of tabOk mixedOk slices_rotateCmpFunc_zone_occurrence_d slices_rotateCmpFunc_zone_occurrence_con Tryz.f362 (Tryz.f362.body.getD .skip) Tryz.func362 (by kernel_rfl) (by kernel_rfl) (Nat.le_of_ble_eq_true (by kernel_rfl)) (by kernel_rfl) (And.intro slices_swapRangeCmpFunc_zone_occurrence_ok trivial) (by kernel_rfl) (by kernel_rfl)
    (And.intro (fun h => by kernel_rfl) trivial)
    (fun h => by kernel_rfl)

noncomputable def slices_symMergeCmpFunc_zone_occurrence_con : Con := ⟨345, [.rl 263 ty16, .v (.int .i64), .v (.int .i64), .v (.int .i64), .clo 280 []], [ty16, (.int .i64), (.int .i64), (.int .i64)], ⟨[], [.rl ty16]⟩, [ty16], fun h => Pw.slices_symMergeCmpFunc_zone_occurrence h.1 h.2.1 h.2.2.1 h.2.2.2⟩

noncomputable def slices_symMergeCmpFunc_zone_occurrence_conR (g : HL [ty16, (.int .i64), (.int .i64), (.int .i64)] → Option (HL [ty16])) : Con := ⟨345, [.rl 263 ty16, .v (.int .i64), .v (.int .i64), .v (.int .i64), .clo 280 []], [ty16, (.int .i64), (.int .i64), (.int .i64)], ⟨[], [.rl ty16]⟩, [ty16], g⟩

noncomputable def slices_symMergeCmpFunc_zone_occurrence_d (g : HL [ty16, (.int .i64), (.int .i64), (.int .i64)] → Option (HL [ty16])) : FnD where
  N := 220
  np := 5
  cs := [slices_symMergeCmpFunc_zone_occurrence_conR g, zone_occurrences_c1_con, slices_rotateCmpFunc_zone_occurrence_con]
  ds := [⟨0, [.s (.one (.ol 0)), .s (.one (.d (.int .i64))), .s (.one (.clo 280 [])), .s (.one (.d (.int .i64))), .s (.one (.d (.int .i64))), .b (.lst 263 ty10 false)], [(.int .i64), (.int .i64), (.int .i64), ty16], [⟨.exit 0, [.s (.one (.ol 0)), .s (.one (.d (.int .i64))), .s (.one (.d (.int .i64))), .b (.lst 263 ty10 false)], [(.int .i64), (.int .i64), ty16]⟩], fun h => Pw.slices_symMergeCmpFunc_zone_occurrence_l0_step (fun v0 v1 v2 v3 => g (v0, v1, v2, v3)) h.1 h.2.1 h.2.2.1 h.2.2.2⟩,
    ⟨2, [.s (.one (.ol 0)), .s (.one (.d (.int .i64))), .s (.one (.d (.int .i64))), .b (.lst 263 ty10 false)], [(.int .i64), (.int .i64), ty16], [⟨.exit 2, [.b (.lst 263 ty10 false)], [ty16]⟩], fun h => Pw.slices_symMergeCmpFunc_zone_occurrence_l2_step (fun v0 v1 v2 v3 => g (v0, v1, v2, v3)) h.1 h.2.1 h.2.2⟩,
    ⟨4, [.s (.one (.ol 0)), .s (.one (.d (.int .i64))), .s (.one (.clo 280 [])), .s (.one (.d (.int .i64))), .s (.one (.d (.int .i64))), .b (.lst 263 ty10 false)], [(.int .i64), (.int .i64), (.int .i64), ty16], [⟨.exit 4, [.s (.one (.ol 0)), .s (.one (.d (.int .i64))), .s (.one (.d (.int .i64))), .b (.lst 263 ty10 false)], [(.int .i64), (.int .i64), ty16]⟩], fun h => Pw.slices_symMergeCmpFunc_zone_occurrence_l4_step (fun v0 v1 v2 v3 => g (v0, v1, v2, v3)) h.1 h.2.1 h.2.2.1 h.2.2.2⟩,
    ⟨6, [.s (.one (.ol 0)), .s (.one (.d (.int .i64))), .s (.one (.d (.int .i64))), .b (.lst 263 ty10 false)], [(.int .i64), (.int .i64), ty16], [⟨.exit 6, [.b (.lst 263 ty10 false)], [ty16]⟩], fun h => Pw.slices_symMergeCmpFunc_zone_occurrence_l6_step (fun v0 v1 v2 v3 => g (v0, v1, v2, v3)) h.1 h.2.1 h.2.2⟩,
    ⟨8, [.s (.one (.ol 0)), .s (.one (.d (.int .i64))), .s (.one (.d (.int .i64))), .s (.one (.d (.int .i64))), .s (.one (.clo 280 [])), .s (.one (.d (.int .i64))), .s (.one (.d (.int .i64))), .s (.one (.d (.int .i64))), .s (.one (.d (.int .i64))), .s (.one (.d (.int .i64))), .b (.lst 263 ty10 false)], [(.int .i64), (.int .i64), (.int .i64), (.int .i64), (.int .i64), (.int .i64), (.int .i64), (.int .i64), ty16], [⟨.exit 8, [.s (.one (.ol 0)), .s (.one (.d (.int .i64))), .s (.one (.d (.int .i64))), .s (.one (.d (.int .i64))), .s (.one (.clo 280 [])), .s (.one (.d (.int .i64))), .s (.one (.d (.int .i64))), .s (.one (.d (.int .i64))), .b (.lst 263 ty10 false)], [(.int .i64), (.int .i64), (.int .i64), (.int .i64), (.int .i64), (.int .i64), ty16]⟩], fun h => Pw.slices_symMergeCmpFunc_zone_occurrence_l8_step (fun v0 v1 v2 v3 => g (v0, v1, v2, v3)) h.1 h.2.1 h.2.2.1 h.2.2.2.1 h.2.2.2.2.1 h.2.2.2.2.2.1 h.2.2.2.2.2.2.1 h.2.2.2.2.2.2.2.1 h.2.2.2.2.2.2.2.2⟩]
  modes := [(280, [false, false]), (345, [true, false, false, false, false]), (362, [true, false, false, false, false])]
  keep := [(0, ⟨[0, 1, 4, 10, 11], [0], [], []⟩),
    (2, ⟨[0, 10, 13], [0], [], []⟩),
    (4, ⟨[0, 2, 4, 14, 15], [0], [], []⟩),
    (6, ⟨[0, 14, 17], [0], [], []⟩),
    (8, ⟨[0, 1, 2, 3, 4, 18, 19, 20, 21, 22], [0], [], []⟩)]
  keepX := [(0, .exit 0, ⟨[0, 1, 10], [0], [], []⟩),
    (2, .exit 2, ⟨[], [0], [], []⟩),
    (4, .exit 4, ⟨[0, 2, 14], [0], [], []⟩),
    (6, .exit 6, ⟨[], [0], [], []⟩),
    (8, .exit 8, ⟨[0, 1, 2, 3, 4, 18, 19, 20], [0], [], []⟩)]
  dw := [(11, [[], [], [], [], [], [], [], [], [], [], [], [], [], [], [], [0], [], [0]]), (23, [[], [], [], [], [], [], [], [], [], [], [], [], [], [], [], [0], [], [0]])]

theorem slices_symMergeCmpFunc_zone_occurrence_step (g : HL [ty16, (.int .i64), (.int .i64), (.int .i64)] → Option (HL [ty16])) (hg : Con.OK Tryz.prog (slices_symMergeCmpFunc_zone_occurrence_conR g)) : Con.OK Tryz.prog (slices_symMergeCmpFunc_zone_occurrence_conR (Pw.slices_symMergeCmpFunc_zone_occurrence_rec g)) :=
  con_of tabOk mixedOk (slices_symMergeCmpFunc_zone_occurrence_d g) (slices_symMergeCmpFunc_zone_occurrence_conR (Pw.slices_symMergeCmpFunc_zone_occurrence_rec g)) Tryz.f345 (Tryz.f345.body.getD .skip) Tryz.func345 (by kernel_rfl) (by kernel_rfl) (Nat.le_of_ble_eq_true (by kernel_rfl)) (by kernel_rfl) (And.intro hg (And.intro zone_occurrences_c1_ok (And.intro slices_rotateCmpFunc_zone_occurrence_ok trivial))) (by kernel_rfl) (by kernel_rfl)
    (And.intro (fun h => by kernel_rfl) (And.intro (fun h => by kernel_rfl) (And.intro (fun h => by kernel_rfl) (And.intro (fun h => by kernel_rfl) (And.intro (fun h => by kernel_rfl) trivial)))))
    (fun h => by kernel_rfl)

theorem slices_symMergeCmpFunc_zone_occurrence_ok : Con.OK Tryz.prog slices_symMergeCmpFunc_zone_occurrence_con := rec_ok (f := 345) (ps := [.rl 263 ty16, .v (.int .i64), .v (.int .i64), .v (.int .i64), .clo 280 []]) (ts := [ty16, (.int .i64), (.int .i64), (.int .i64)]) (rp := ⟨[], [.rl ty16]⟩) (rs := [ty16]) (B := Pw.slices_symMergeCmpFunc_zone_occurrence_rec) slices_symMergeCmpFunc_zone_occurrence_step

noncomputable def slices_stableCmpFunc_zone_occurrence_con : Con := ⟨314, [.rl 263 ty16, .v (.int .i64), .clo 280 []], [ty16, (.int .i64)], ⟨[], [.rl ty16]⟩, [ty16], fun h => Pw.slices_stableCmpFunc_zone_occurrence h.1 h.2⟩

noncomputable def slices_stableCmpFunc_zone_occurrence_d : FnD where
  N := 63
  np := 3
  cs := [slices_insertionSortCmpFunc_zone_occurrence_con, slices_symMergeCmpFunc_zone_occurrence_con]
  ds := [⟨0, [.s (.one (.ol 0)), .s (.one (.d (.int .i64))), .s (.one (.clo 280 [])), .s (.one (.d (.int .i64))), .s (.one (.d (.int .i64))), .s (.one (.d (.int .i64))), .b (.lst 263 ty10 false)], [(.int .i64), (.int .i64), (.int .i64), (.int .i64), ty16], [⟨.exit 0, [.s (.one (.ol 0)), .s (.one (.d (.int .i64))), .s (.one (.clo 280 [])), .s (.one (.d (.int .i64))), .s (.one (.d (.int .i64))), .b (.lst 263 ty10 false)], [(.int .i64), (.int .i64), (.int .i64), ty16]⟩], fun h => Pw.slices_stableCmpFunc_zone_occurrence_l0_step h.1 h.2.1 h.2.2.1 h.2.2.2.1 h.2.2.2.2⟩,
    ⟨2, [.s (.one (.ol 0)), .s (.one (.d (.int .i64))), .s (.one (.clo 280 [])), .s (.one (.d (.int .i64))), .b (.lst 263 ty10 false)], [(.int .i64), (.int .i64), ty16], [⟨.exit 2, [.b (.lst 263 ty10 false)], [ty16]⟩], fun h => Pw.slices_stableCmpFunc_zone_occurrence_l2_step h.1 h.2.1 h.2.2⟩,
    ⟨4, [.s (.one (.ol 0)), .s (.one (.d (.int .i64))), .s (.one (.clo 280 [])), .s (.one (.d (.int .i64))), .s (.one (.d (.int .i64))), .s (.one (.d (.int .i64))), .b (.lst 263 ty10 false)], [(.int .i64), (.int .i64), (.int .i64), (.int .i64), ty16], [⟨.exit 4, [.s (.one (.ol 0)), .s (.one (.d (.int .i64))), .s (.one (.clo 280 [])), .s (.one (.d (.int .i64))), .s (.one (.d (.int .i64))), .b (.lst 263 ty10 false)], [(.int .i64), (.int .i64), (.int .i64), ty16]⟩], fun h => Pw.slices_stableCmpFunc_zone_occurrence_l4_step h.1 h.2.1 h.2.2.1 h.2.2.2.1 h.2.2.2.2⟩]
  modes := [(344, [true, false, false, false]), (345, [true, false, false, false, false])]
  keep := [(0, ⟨[0, 1, 2, 6, 7, 8], [0], [], []⟩),
    (2, ⟨[0, 1, 2, 6], [0], [], []⟩),
    (4, ⟨[0, 1, 2, 6, 7, 8], [0], [], []⟩)]
  keepX := [(0, .exit 0, ⟨[0, 1, 2, 6, 7], [0], [], []⟩),
    (2, .exit 2, ⟨[], [0], [], []⟩),
    (4, .exit 4, ⟨[0, 1, 2, 6, 7], [0], [], []⟩)]

theorem slices_stableCmpFunc_zone_occurrence_ok : Con.OK Tryz.prog slices_stableCmpFunc_zone_occurrence_con :=
  con_of tabOk mixedOk slices_stableCmpFunc_zone_occurrence_d slices_stableCmpFunc_zone_occurrence_con Tryz.f314 (Tryz.f314.body.getD .skip) Tryz.func314 (by kernel_rfl) (by kernel_rfl) (Nat.le_of_ble_eq_true (by kernel_rfl)) (by kernel_rfl) (And.intro slices_insertionSortCmpFunc_zone_occurrence_ok (And.intro slices_symMergeCmpFunc_zone_occurrence_ok trivial)) (by kernel_rfl) (by kernel_rfl)
    (And.intro (fun h => by kernel_rfl) (And.intro (fun h => by kernel_rfl) (And.intro (fun h => by kernel_rfl) trivial)))
    (fun h => by kernel_rfl)

noncomputable def slices_SortStableFunc_zone_occurrence_zone_occurrence_con : Con := ⟨279, [.rl 263 ty16, .clo 280 []], [ty16], ⟨[], [.rl ty16]⟩, [ty16], fun h => Pw.slices_SortStableFunc_zone_occurrence_zone_occurrence h⟩

noncomputable def slices_SortStableFunc_zone_occurrence_zone_occurrence_d : FnD where
  N := 9
  np := 2
  cs := [slices_stableCmpFunc_zone_occurrence_con]
  ds := []
  modes := [(314, [true, false, false])]

theorem slices_SortStableFunc_zone_occurrence_zone_occurrence_ok : Con.OK Tryz.prog slices_SortStableFunc_zone_occurrence_zone_occurrence_con :=
  con_of tabOk mixedOk slices_SortStableFunc_zone_occurrence_zone_occurrence_d slices_SortStableFunc_zone_occurrence_zone_occurrence_con Tryz.f279 (Tryz.f279.body.getD .skip) Tryz.func279 (by kernel_rfl) (by kernel_rfl) (Nat.le_of_ble_eq_true (by kernel_rfl)) (by kernel_rfl) (And.intro slices_stableCmpFunc_zone_occurrence_ok trivial) (by kernel_rfl) (by kernel_rfl)
    trivial
    (fun h => by kernel_rfl)

noncomputable def zone_occurrences_con : Con := ⟨230, [.v ty67], [ty67], ⟨[.own 263 ty16, .v (.int .i64)], []⟩, [ty16, (.int .i64)], fun h => Pw.zone_occurrences h⟩

noncomputable def zone_occurrences_d : FnD where
  N := 86
  np := 1
  cs := [zone_in_con, zone_rule_con, civil_Nth_con, slices_SortStableFunc_zone_occurrence_zone_occurrence_con]
  ds := [⟨0, [.s (.one (.bp 64 0)), .s (.one (.d (.int .i64))), .s (.one (.d ty60)), .s (.one (.d (.int .i64))), .s (.one (.d (.int .i64))), .b (.cell [.d .str, .d (.int .i64), .d ty60] false)], [(.int .i64), ty60, (.int .i64), (.int .i64), .str, (.int .i64), ty60], [⟨.ret, [.s (.one (.nil)), .s (.one (.d (.int .i64)))], [(.int .i64)]⟩, ⟨.exit 0, [.s (.one (.bp 64 0)), .s (.one (.d (.int .i64))), .b (.cell [.d .str, .d (.int .i64), .d ty60] false)], [(.int .i64), .str, (.int .i64), ty60]⟩], fun h => Pw.zone_occurrences_l0_step h.1 h.2.1 h.2.2.1 h.2.2.2.1 h.2.2.2.2.1 h.2.2.2.2.2.1 h.2.2.2.2.2.2⟩,
    ⟨2, [.s (.one (.ol 1002000)), .s (.one (.d ty60)), .s (.one (.d (.int .i64))), .s (.one (.d (.int .i64))), .b (.lst 263 ty10 false)], [ty60, (.int .i64), (.int .i64), ty16], [⟨.exit 2, [.s (.one (.ol 1502300)), .b (.lst 263 ty10 false)], [ty16]⟩], fun h => Pw.zone_occurrences_l2_step h.1 h.2.1 h.2.2.1 h.2.2.2⟩,
    ⟨4, [.s (.one (.ol 1004000)), .s (.one (.bp 640 0)), .s (.one (.d (.int .i64))), .s (.one (.d ty60)), .s (.one (.d (.int .i64))), .s (.one (.d (.int .i64))), .b (.cell [.d (.int .i64), .d (.int .i64), .d (.int .i64), .d (.int .i64), .d (.int .i64), .d (.int .i64), .d (.int .i64)] false), .b (.lst 263 ty10 false)], [(.int .i64), ty60, (.int .i64), (.int .i64), (.int .i64), (.int .i64), (.int .i64), (.int .i64), (.int .i64), (.int .i64), (.int .i64), ty16], [⟨.exit 4, [.s (.one (.ol 1504500)), .s (.one (.d ty60)), .s (.one (.d (.int .i64))), .s (.one (.d (.int .i64))), .b (.lst 263 ty10 false)], [ty60, (.int .i64), (.int .i64), ty16]⟩], fun h => Pw.zone_occurrences_l4_step h.1 h.2.1 h.2.2.1 h.2.2.2.1 h.2.2.2.2.1 h.2.2.2.2.2.1 h.2.2.2.2.2.2.1 h.2.2.2.2.2.2.2.1 h.2.2.2.2.2.2.2.2.1 h.2.2.2.2.2.2.2.2.2.1 h.2.2.2.2.2.2.2.2.2.2.1 h.2.2.2.2.2.2.2.2.2.2.2⟩]
  modes := [(229, [false, false, false]), (277, [false]), (278, [false, false, false, false]), (279, [true, false])]
  keep := [(0, ⟨[1, 4, 23, 24, 25], [64], [], []⟩),
    (2, ⟨[8, 46, 47, 48], [], [⟨1002000, 263, ty10, [.slot 8], false⟩], []⟩),
    (4, ⟨[8, 10, 11, 46, 47, 48], [640], [⟨1004000, 263, ty10, [.slot 8], false⟩], []⟩)]
  keepX := [(0, .ret, ⟨[2, 3], [], [], []⟩),
    (0, .exit 0, ⟨[1, 4], [64], [], []⟩),
    (2, .exit 2, ⟨[8], [], [⟨1502300, 263, ty10, [.slot 8], false⟩], []⟩),
    (4, .exit 4, ⟨[8, 46, 47, 48], [], [⟨1504500, 263, ty10, [.slot 8], false⟩], []⟩)]
  ro := [true, false]

theorem zone_occurrences_ok : Con.OK Tryz.prog zone_occurrences_con :=
  con_of tabOk mixedOk zone_occurrences_d zone_occurrences_con Tryz.f230 (Tryz.f230.body.getD .skip) Tryz.func230 (by kernel_rfl) (by kernel_rfl) (Nat.le_of_ble_eq_true (by kernel_rfl)) (by kernel_rfl) (And.intro zone_in_ok (And.intro zone_rule_ok (And.intro civil_Nth_ok (And.intro slices_SortStableFunc_zone_occurrence_zone_occurrence_ok trivial)))) (by kernel_rfl) (by kernel_rfl)
    (And.intro (fun h => by kernel_rfl) (And.intro (fun h => by kernel_rfl) (And.intro (fun h => by kernel_rfl) trivial)))
    (fun h => by kernel_rfl)

noncomputable def zone_Transitions_con : Con := ⟨165, [.v ty67], [ty67], ⟨[.own 150 ty16, .v (.int .i64)], []⟩, [ty16, (.int .i64)], fun h => Pw.zone_Transitions h⟩

noncomputable def zone_Transitions_d : FnD where
  N := 79
  np := 1
  cs := [zone_in_con, zone_occurrences_con]
  ds := [⟨0, [.s (.one (.ol 1000000)), .s (.one (.d (.int .i64))), .s (.one (.ol 1000001)), .s (.one (.d (.int .i64))), .s (.one (.d (.int .i64))), .b (.lst 150 ty10 false), .b (.lst 263 ty10 false)], [(.int .i64), (.int .i64), (.int .i64), ty16, ty16], [⟨.ret, [.s (.one (.nil)), .s (.one (.d (.int .i64)))], [(.int .i64)]⟩, ⟨.exit 0, [.s (.one (.ol 1500100)), .b (.lst 150 ty10 false)], [ty16]⟩], fun h => Pw.zone_Transitions_l0_step h.1 h.2.1 h.2.2.1 h.2.2.2.1 h.2.2.2.2⟩]
  modes := [(229, [false, false, false]), (230, [false])]
  keep := [(0, ⟨[6, 7, 22, 23, 24], [], [⟨1000000, 150, ty10, [.slot 6], false⟩, ⟨1000001, 263, ty10, [.slot 22], false⟩], []⟩)]
  keepX := [(0, .ret, ⟨[2, 3], [], [], []⟩),
    (0, .exit 0, ⟨[6], [], [⟨1500100, 150, ty10, [.slot 6], false⟩], []⟩)]
  ro := [true, false]

theorem zone_Transitions_ok : Con.OK Tryz.prog zone_Transitions_con :=
  con_of tabOk mixedOk zone_Transitions_d zone_Transitions_con Tryz.f165 (Tryz.f165.body.getD .skip) Tryz.func165 (by kernel_rfl) (by kernel_rfl) (Nat.le_of_ble_eq_true (by kernel_rfl)) (by kernel_rfl) (And.intro zone_in_ok (And.intro zone_occurrences_ok trivial)) (by kernel_rfl) (by kernel_rfl)
    (And.intro (fun h => by kernel_rfl) trivial)
    (fun h => by kernel_rfl)

noncomputable def zone_Check_con : Con := ⟨215, [.v ty67], [ty67], ⟨[.v (.int .i64)], []⟩, [(.int .i64)], fun h => Pw.zone_Check h⟩

noncomputable def zone_Check_d : FnD where
  N := 11
  np := 1
  cs := [zone_Transitions_con]
  ds := []
  modes := [(165, [false])]
  ro := [false]

theorem zone_Check_ok : Con.OK Tryz.prog zone_Check_con :=
  con_of tabOk mixedOk zone_Check_d zone_Check_con Tryz.f215 (Tryz.f215.body.getD .skip) Tryz.func215 (by kernel_rfl) (by kernel_rfl) (Nat.le_of_ble_eq_true (by kernel_rfl)) (by kernel_rfl) (And.intro zone_Transitions_ok trivial) (by kernel_rfl) (by kernel_rfl)
    trivial
    (fun h => by kernel_rfl)

noncomputable def resolve_checkZone_c1_con : Con := ⟨217, [.v ty57], [ty57], ⟨[.v .bool], []⟩, [.bool], fun h => Pw.resolve_checkZone_c1 h⟩

noncomputable def resolve_checkZone_c1_d : FnD where
  N := 7
  np := 1
  cs := []
  ds := []
  ro := [false]

theorem resolve_checkZone_c1_ok : Con.OK Tryz.prog resolve_checkZone_c1_con :=
  con_of tabOk mixedOk resolve_checkZone_c1_d resolve_checkZone_c1_con Tryz.f217 (Tryz.f217.body.getD .skip) Tryz.func217 (by kernel_rfl) (by kernel_rfl) (Nat.le_of_ble_eq_true (by kernel_rfl)) (by kernel_rfl) trivial (by kernel_rfl) (by kernel_rfl)
    trivial
    (fun h => by kernel_rfl)

noncomputable def slices_IndexFunc_api_YearRule_api_YearRule_con : Con := ⟨270, [.v ty60, .clo 217 []], [ty60], ⟨[.v (.int .i64)], []⟩, [(.int .i64)], fun h => Pw.slices_IndexFunc_api_YearRule_api_YearRule h⟩

noncomputable def slices_IndexFunc_api_YearRule_api_YearRule_d : FnD where
  N := 19
  np := 2
  cs := [resolve_checkZone_c1_con]
  ds := [⟨0, [.s (.one (.d ty60)), .s (.one (.clo 217 [])), .s (.one (.d (.int .i64))), .s (.one (.d (.int .i64)))], [ty60, (.int .i64), (.int .i64)], [⟨.ret, [.s (.one (.d (.int .i64)))], [(.int .i64)]⟩, ⟨.exit 0, [], []⟩], fun h => Pw.slices_IndexFunc_api_YearRule_api_YearRule_l0_step h.1 h.2.1 h.2.2⟩]
  modes := [(217, [false])]
  keep := [(0, ⟨[0, 1, 7, 8], [], [], []⟩)]
  keepX := [(0, .ret, ⟨[4], [], [], []⟩),
    (0, .exit 0, ⟨[], [], [], []⟩)]
  ro := [false]

theorem slices_IndexFunc_api_YearRule_api_YearRule_ok : Con.OK Tryz.prog slices_IndexFunc_api_YearRule_api_YearRule_con :=
  con_of tabOk mixedOk slices_IndexFunc_api_YearRule_api_YearRule_d slices_IndexFunc_api_YearRule_api_YearRule_con Tryz.f270 (Tryz.f270.body.getD .skip) Tryz.func270 (by kernel_rfl) (by kernel_rfl) (Nat.le_of_ble_eq_true (by kernel_rfl)) (by kernel_rfl) (And.intro resolve_checkZone_c1_ok trivial) (by kernel_rfl) (by kernel_rfl)
    (And.intro (fun h => by kernel_rfl) trivial)
    (fun h => by kernel_rfl)

noncomputable def slices_ContainsFunc_api_YearRule_api_YearRule_con : Con := ⟨216, [.v ty60, .clo 217 []], [ty60], ⟨[.v .bool], []⟩, [.bool], fun h => Pw.slices_ContainsFunc_api_YearRule_api_YearRule h⟩

noncomputable def slices_ContainsFunc_api_YearRule_api_YearRule_d : FnD where
  N := 9
  np := 2
  cs := [slices_IndexFunc_api_YearRule_api_YearRule_con]
  ds := []
  modes := [(270, [false, false])]
  ro := [false]

theorem slices_ContainsFunc_api_YearRule_api_YearRule_ok : Con.OK Tryz.prog slices_ContainsFunc_api_YearRule_api_YearRule_con :=
  con_of tabOk mixedOk slices_ContainsFunc_api_YearRule_api_YearRule_d slices_ContainsFunc_api_YearRule_api_YearRule_con Tryz.f216 (Tryz.f216.body.getD .skip) Tryz.func216 (by kernel_rfl) (by kernel_rfl) (Nat.le_of_ble_eq_true (by kernel_rfl)) (by kernel_rfl) (And.intro slices_IndexFunc_api_YearRule_api_YearRule_ok trivial) (by kernel_rfl) (by kernel_rfl)
    trivial
    (fun h => by kernel_rfl)

noncomputable def resolve_checkZone_con : Con := ⟨150, [.v ty67], [ty67], ⟨[.v (.int .i64)], []⟩, [(.int .i64)], fun h => Pw.resolve_checkZone h⟩

noncomputable def resolve_checkZone_d : FnD where
  N := 17
  np := 1
  cs := [zone_Check_con, slices_ContainsFunc_api_YearRule_api_YearRule_con]
  ds := []
  modes := [(215, [false]), (216, [false, false])]
  ro := [false]

theorem resolve_checkZone_ok : Con.OK Tryz.prog resolve_checkZone_con :=
  con_of tabOk mixedOk resolve_checkZone_d resolve_checkZone_con Tryz.f150 (Tryz.f150.body.getD .skip) Tryz.func150 (by kernel_rfl) (by kernel_rfl) (Nat.le_of_ble_eq_true (by kernel_rfl)) (by kernel_rfl) (And.intro zone_Check_ok (And.intro slices_ContainsFunc_api_YearRule_api_YearRule_ok trivial)) (by kernel_rfl) (by kernel_rfl)
    trivial
    (fun h => by kernel_rfl)

noncomputable def resolve_named_api_Zone_con : Con := ⟨148, [.v ty68, .clo 149 [], .clo 150 []], [ty68], ⟨[.v (.int .i64)], []⟩, [(.int .i64)], fun h => Pw.resolve_named_api_Zone h⟩

noncomputable def resolve_named_api_Zone_d : FnD where
  N := 34
  np := 3
  cs := [resolve_Check_c1_con, resolve_name_con, resolve_checkZone_con]
  ds := [⟨0, [.s (.one (.clo 149 [])), .s (.one (.clo 150 [])), .s (.one (.ol 1000000)), .s (.one (.d ty68)), .s (.one (.d (.int .i64))), .s (.one (.d (.int .i64))), .b (.lst 4294967490 (.pair .str .bool) false)], [ty68, (.int .i64), (.int .i64), (.list (.pair .str .bool))], [⟨.ret, [.s (.one (.d (.int .i64)))], [(.int .i64)]⟩, ⟨.exit 0, [], []⟩], fun h => Pw.resolve_named_api_Zone_l0_step h.1 h.2.1 h.2.2.1 h.2.2.2⟩]
  modes := [(149, [false]), (150, [false]), (151, [false, true])]
  keep := [(0, ⟨[1, 2, 7, 13, 14, 15], [], [⟨1000000, 4294967490, (.pair .str .bool), [.slot 7], false⟩], []⟩)]
  keepX := [(0, .ret, ⟨[6], [], [], []⟩),
    (0, .exit 0, ⟨[], [], [], []⟩)]
  ro := [false]

theorem resolve_named_api_Zone_ok : Con.OK Tryz.prog resolve_named_api_Zone_con :=
  con_of tabOk mixedOk resolve_named_api_Zone_d resolve_named_api_Zone_con Tryz.f148 (Tryz.f148.body.getD .skip) Tryz.func148 (by kernel_rfl) (by kernel_rfl) (Nat.le_of_ble_eq_true (by kernel_rfl)) (by kernel_rfl) (And.intro resolve_Check_c1_ok (And.intro resolve_name_ok (And.intro resolve_checkZone_ok trivial))) (by kernel_rfl) (by kernel_rfl)
    (And.intro (fun h => by kernel_rfl) trivial)
    (fun h => by kernel_rfl)

noncomputable def resolve_index_con : Con := ⟨219, [.v (.int .i64), .v (.int .i64)], [(.int .i64), (.int .i64)], ⟨[.v .bool], []⟩, [.bool], fun h => Pw.resolve_index h.1 h.2⟩

noncomputable def resolve_index_d : FnD where
  N := 12
  np := 2
  cs := []
  ds := []
  ro := [false]

theorem resolve_index_ok : Con.OK Tryz.prog resolve_index_con :=
  con_of tabOk mixedOk resolve_index_d resolve_index_con Tryz.f219 (Tryz.f219.body.getD .skip) Tryz.func219 (by kernel_rfl) (by kernel_rfl) (Nat.le_of_ble_eq_true (by kernel_rfl)) (by kernel_rfl) trivial (by kernel_rfl) (by kernel_rfl)
    trivial
    (fun h => by kernel_rfl)

noncomputable def week_Check_con : Con := ⟨41, [.v ty16], [ty16], ⟨[.v (.int .i64)], []⟩, [(.int .i64)], fun h => Pw.week_Check h⟩

noncomputable def week_Check_d : FnD where
  N := 46
  np := 1
  cs := []
  ds := [⟨0, [.s (.one (.d ty16)), .s (.one (.d ty16)), .s (.one (.d (.int .i64))), .s (.one (.d (.int .i64)))], [ty16, ty16, (.int .i64), (.int .i64)], [⟨.ret, [.s (.one (.d (.int .i64)))], [(.int .i64)]⟩, ⟨.exit 0, [], []⟩], fun h => Pw.week_Check_l0_step h.1 h.2.1 h.2.2.1 h.2.2.2⟩]
  keep := [(0, ⟨[0, 8, 9, 10], [], [], []⟩)]
  keepX := [(0, .ret, ⟨[2], [], [], []⟩),
    (0, .exit 0, ⟨[], [], [], []⟩)]
  ro := [false]

theorem week_Check_ok : Con.OK Tryz.prog week_Check_con :=
  con_of tabOk mixedOk week_Check_d week_Check_con Tryz.f41 (Tryz.f41.body.getD .skip) Tryz.func41 (by kernel_rfl) (by kernel_rfl) (Nat.le_of_ble_eq_true (by kernel_rfl)) (by kernel_rfl) trivial (by kernel_rfl) (by kernel_rfl)
    (And.intro (fun h => by kernel_rfl) trivial)
    (fun h => by kernel_rfl)

noncomputable def resolve_in_con : Con := ⟨273, [.v (.int .i64), .v (.int .i64), .v (.int .i64)], [(.int .i64), (.int .i64), (.int .i64)], ⟨[.v .bool], []⟩, [.bool], fun h => Pw.resolve_in h.1 h.2.1 h.2.2⟩

noncomputable def resolve_in_d : FnD where
  N := 15
  np := 3
  cs := []
  ds := []
  ro := [false]

theorem resolve_in_ok : Con.OK Tryz.prog resolve_in_con :=
  con_of tabOk mixedOk resolve_in_d resolve_in_con Tryz.f273 (Tryz.f273.body.getD .skip) Tryz.func273 (by kernel_rfl) (by kernel_rfl) (Nat.le_of_ble_eq_true (by kernel_rfl)) (by kernel_rfl) trivial (by kernel_rfl) (by kernel_rfl)
    trivial
    (fun h => by kernel_rfl)

noncomputable def resolve_hours_con : Con := ⟨220, [.v (.int .i64)], [(.int .i64)], ⟨[.v .bool], []⟩, [.bool], fun h => Pw.resolve_hours h⟩

noncomputable def resolve_hours_d : FnD where
  N := 10
  np := 1
  cs := [resolve_in_con]
  ds := []
  modes := [(273, [false, false, false])]
  ro := [false]

theorem resolve_hours_ok : Con.OK Tryz.prog resolve_hours_con :=
  con_of tabOk mixedOk resolve_hours_d resolve_hours_con Tryz.f220 (Tryz.f220.body.getD .skip) Tryz.func220 (by kernel_rfl) (by kernel_rfl) (Nat.le_of_ble_eq_true (by kernel_rfl)) (by kernel_rfl) (And.intro resolve_in_ok trivial) (by kernel_rfl) (by kernel_rfl)
    trivial
    (fun h => by kernel_rfl)

noncomputable def resolve_checkPerson_con : Con := ⟨152, [.v ty86, .v ty55], [ty86, ty55], ⟨[.v (.int .i64)], []⟩, [(.int .i64)], fun h => Pw.resolve_checkPerson h.1 h.2⟩

noncomputable def resolve_checkPerson_d : FnD where
  N := 29
  np := 2
  cs := [resolve_index_con, week_Check_con, resolve_hours_con]
  ds := []
  modes := [(41, [false]), (219, [false, false]), (220, [false])]
  ro := [false]

theorem resolve_checkPerson_ok : Con.OK Tryz.prog resolve_checkPerson_con :=
  con_of tabOk mixedOk resolve_checkPerson_d resolve_checkPerson_con Tryz.f152 (Tryz.f152.body.getD .skip) Tryz.func152 (by kernel_rfl) (by kernel_rfl) (Nat.le_of_ble_eq_true (by kernel_rfl)) (by kernel_rfl) (And.intro resolve_index_ok (And.intro week_Check_ok (And.intro resolve_hours_ok trivial))) (by kernel_rfl) (by kernel_rfl)
    trivial
    (fun h => by kernel_rfl)

noncomputable def resolve_Check_c2_con : Con := ⟨154, [.v ty27], [ty27], ⟨[.v .str], []⟩, [.str], fun h => Pw.resolve_Check_c2 h⟩

noncomputable def resolve_Check_c2_d : FnD where
  N := 5
  np := 1
  cs := []
  ds := []
  ro := [false]

theorem resolve_Check_c2_ok : Con.OK Tryz.prog resolve_Check_c2_con :=
  con_of tabOk mixedOk resolve_Check_c2_d resolve_Check_c2_con Tryz.f154 (Tryz.f154.body.getD .skip) Tryz.func154 (by kernel_rfl) (by kernel_rfl) (Nat.le_of_ble_eq_true (by kernel_rfl)) (by kernel_rfl) trivial (by kernel_rfl) (by kernel_rfl)
    trivial
    (fun h => by kernel_rfl)

noncomputable def civil_year_con : Con := ⟨310, [.v (.int .i64)], [(.int .i64)], ⟨[.v (.int .i64)], []⟩, [(.int .i64)], fun h => Pw.civil_year h⟩

noncomputable def civil_year_d : FnD where
  N := 15
  np := 1
  cs := [civil_floor_con, civil_count_con]
  ds := [⟨0, [.s (.one (.d (.int .i64))), .s (.one (.d (.int .i64)))], [(.int .i64), (.int .i64)], [⟨.exit 0, [.s (.one (.d (.int .i64)))], [(.int .i64)]⟩], fun h => Pw.civil_year_l0_step h.1 h.2⟩]
  modes := [(309, [false]), (342, [false, false])]
  keep := [(0, ⟨[0, 3], [], [], []⟩)]
  keepX := [(0, .exit 0, ⟨[3], [], [], []⟩)]
  ro := [false]

theorem civil_year_ok : Con.OK Tryz.prog civil_year_con :=
  con_of tabOk mixedOk civil_year_d civil_year_con Tryz.f310 (Tryz.f310.body.getD .skip) Tryz.func310 (by kernel_rfl) (by kernel_rfl) (Nat.le_of_ble_eq_true (by kernel_rfl)) (by kernel_rfl) (And.intro civil_floor_ok (And.intro civil_count_ok trivial)) (by kernel_rfl) (by kernel_rfl)
    (And.intro (fun h => by kernel_rfl) trivial)
    (fun h => by kernel_rfl)

noncomputable def civil_DateOf_con : Con := ⟨275, [.v (.int .i64)], [(.int .i64)], ⟨[.v ty25, .v (.int .i64)], []⟩, [ty25, (.int .i64)], fun h => Pw.civil_DateOf h⟩

noncomputable def civil_DateOf_d : FnD where
  N := 45
  np := 1
  cs := [civil_Days_con, civil_count_con, civil_year_con]
  ds := [⟨0, [.s (.one (.bp 128 0)), .s (.one (.bp 256 0)), .s (.one (.d (.int .i64))), .b (.cell [.d (.int .i64), .d (.int .i64), .d (.int .i64)] false), .b (.cell [.d (.int .i64), .d (.int .i64), .d (.int .i64)] false)], [(.int .i64), (.int .i64), (.int .i64), (.int .i64), (.int .i64), (.int .i64), (.int .i64)], [⟨.exit 0, [.s (.one (.bp 128 0)), .s (.one (.bp 256 0)), .s (.one (.d (.int .i64))), .b (.cell [.d (.int .i64), .d (.int .i64), .d (.int .i64)] false), .b (.cell [.d (.int .i64), .d (.int .i64), .d (.int .i64)] false)], [(.int .i64), (.int .i64), (.int .i64), (.int .i64), (.int .i64), (.int .i64), (.int .i64)]⟩], fun h => Pw.civil_DateOf_l0_step h.1 h.2.1 h.2.2.1 h.2.2.2.1 h.2.2.2.2.1 h.2.2.2.2.2.1 h.2.2.2.2.2.2⟩]
  modes := [(309, [false]), (310, [false]), (311, [false, false])]
  keep := [(0, ⟨[2, 4, 5], [128, 256], [], []⟩)]
  keepX := [(0, .exit 0, ⟨[2, 4, 5], [128, 256], [], []⟩)]
  ro := [false, false]

theorem civil_DateOf_ok : Con.OK Tryz.prog civil_DateOf_con :=
  con_of tabOk mixedOk civil_DateOf_d civil_DateOf_con Tryz.f275 (Tryz.f275.body.getD .skip) Tryz.func275 (by kernel_rfl) (by kernel_rfl) (Nat.le_of_ble_eq_true (by kernel_rfl)) (by kernel_rfl) (And.intro civil_Days_ok (And.intro civil_count_ok (And.intro civil_year_ok trivial))) (by kernel_rfl) (by kernel_rfl)
    (And.intro (fun h => by kernel_rfl) trivial)
    (fun h => by kernel_rfl)
end Go.Proofs.Pk
