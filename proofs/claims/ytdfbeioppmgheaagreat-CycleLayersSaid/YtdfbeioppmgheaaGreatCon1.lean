/- Contracts: each given function is its plain function, printed by a program. -/
import Derived.Test.YtdfbeioppmgheaaGreatCon0
open Go Go.Lft
set_option linter.unusedVariables false
set_option maxRecDepth 100000
namespace Go.Proofs.Pk
noncomputable def slices_rotateCmpFunc_zone_occurrence_con : Con := ⟨351, [.rl 310 ty13, .v iT, .v iT, .v iT, .clo 313 []], [ty13, iT, iT, iT], ⟨[], [.rl ty13]⟩, [ty13], fun h => Pw.slices_rotateCmpFunc_zone_occurrence h.1 h.2.1 h.2.2.1 h.2.2.2⟩
noncomputable def slices_rotateCmpFunc_zone_occurrence_d : FnD where
 N := 58
 np := 5
 cs := [slices_swapRangeCmpFunc_zone_occurrence_con]
 ds := [⟨0, [.s (.one (.ol 0)), sI, .s (.one (.clo 313 [])), sI, sI, .b (.lst 310 ty8 false)], [iT, iT, iT, ty13], [⟨.exit 0, [.s (.one (.ol 0)), sI, .s (.one (.clo 313 [])), sI, .b (.lst 310 ty8 false)], [iT, iT, ty13]⟩], fun h => Pw.slices_rotateCmpFunc_zone_occurrence_l0_step h.1 h.2.1 h.2.2.1 h.2.2.2⟩]
 modes := [(352, [true, false, false, false, false])]
 keep := [(0, ⟨[0, 2, 4, 10, 11], [0], [], []⟩)]
 keepX := [(0, .exit 0, ⟨[0, 2, 4, 10], [0], [], []⟩)]
theorem slices_rotateCmpFunc_zone_occurrence_ok : Con.OK Tryz.prog slices_rotateCmpFunc_zone_occurrence_con :=
 con_of tabOk mixedOk slices_rotateCmpFunc_zone_occurrence_d slices_rotateCmpFunc_zone_occurrence_con Tryz.f351 (Tryz.f351.body.getD .skip) Tryz.func351 (by kernel_rfl) (by kernel_rfl) (Nat.le_of_ble_eq_true (by kernel_rfl)) (by kernel_rfl) (And.intro slices_swapRangeCmpFunc_zone_occurrence_ok trivial) (by kernel_rfl) (by kernel_rfl)
   (And.intro (fun h => by kernel_rfl) trivial)
   (fun h => by kernel_rfl)
noncomputable def slices_symMergeCmpFunc_zone_occurrence_con : Con := ⟨348, [.rl 310 ty13, .v iT, .v iT, .v iT, .clo 313 []], [ty13, iT, iT, iT], ⟨[], [.rl ty13]⟩, [ty13], fun h => Pw.slices_symMergeCmpFunc_zone_occurrence h.1 h.2.1 h.2.2.1 h.2.2.2⟩
noncomputable def slices_symMergeCmpFunc_zone_occurrence_conR (g : HL [ty13, iT, iT, iT] → Option (HL [ty13])) : Con := ⟨348, [.rl 310 ty13, .v iT, .v iT, .v iT, .clo 313 []], [ty13, iT, iT, iT], ⟨[], [.rl ty13]⟩, [ty13], g⟩
noncomputable def slices_symMergeCmpFunc_zone_occurrence_d (g : HL [ty13, iT, iT, iT] → Option (HL [ty13])) : FnD where
 N := 220
 np := 5
 cs := [slices_symMergeCmpFunc_zone_occurrence_conR g, zone_occurrences_c1_con, slices_rotateCmpFunc_zone_occurrence_con]
 ds := [⟨0, [.s (.one (.ol 0)), sI, .s (.one (.clo 313 [])), sI, sI, .b (.lst 310 ty8 false)], [iT, iT, iT, ty13], [⟨.exit 0, [.s (.one (.ol 0)), sI, sI, .b (.lst 310 ty8 false)], [iT, iT, ty13]⟩], fun h => Pw.slices_symMergeCmpFunc_zone_occurrence_l0_step (fun v0 v1 v2 v3 => g (v0, v1, v2, v3)) h.1 h.2.1 h.2.2.1 h.2.2.2⟩,
   ⟨2, [.s (.one (.ol 0)), sI, sI, .b (.lst 310 ty8 false)], [iT, iT, ty13], [⟨.exit 2, [.b (.lst 310 ty8 false)], [ty13]⟩], fun h => Pw.slices_symMergeCmpFunc_zone_occurrence_l2_step (fun v0 v1 v2 v3 => g (v0, v1, v2, v3)) h.1 h.2.1 h.2.2⟩,
   ⟨4, [.s (.one (.ol 0)), sI, .s (.one (.clo 313 [])), sI, sI, .b (.lst 310 ty8 false)], [iT, iT, iT, ty13], [⟨.exit 4, [.s (.one (.ol 0)), sI, sI, .b (.lst 310 ty8 false)], [iT, iT, ty13]⟩], fun h => Pw.slices_symMergeCmpFunc_zone_occurrence_l4_step (fun v0 v1 v2 v3 => g (v0, v1, v2, v3)) h.1 h.2.1 h.2.2.1 h.2.2.2⟩,
   ⟨6, [.s (.one (.ol 0)), sI, sI, .b (.lst 310 ty8 false)], [iT, iT, ty13], [⟨.exit 6, [.b (.lst 310 ty8 false)], [ty13]⟩], fun h => Pw.slices_symMergeCmpFunc_zone_occurrence_l6_step (fun v0 v1 v2 v3 => g (v0, v1, v2, v3)) h.1 h.2.1 h.2.2⟩,
   ⟨8, [.s (.one (.ol 0)), sI, sI, sI, .s (.one (.clo 313 [])), sI, sI, sI, sI, sI, .b (.lst 310 ty8 false)], [iT, iT, iT, iT, iT, iT, iT, iT, ty13], [⟨.exit 8, [.s (.one (.ol 0)), sI, sI, sI, .s (.one (.clo 313 [])), sI, sI, sI, .b (.lst 310 ty8 false)], [iT, iT, iT, iT, iT, iT, ty13]⟩], fun h => Pw.slices_symMergeCmpFunc_zone_occurrence_l8_step (fun v0 v1 v2 v3 => g (v0, v1, v2, v3)) h.1 h.2.1 h.2.2.1 h.2.2.2.1 h.2.2.2.2.1 h.2.2.2.2.2.1 h.2.2.2.2.2.2.1 h.2.2.2.2.2.2.2.1 h.2.2.2.2.2.2.2.2⟩]
 modes := [(313, [false, false]), (348, [true, false, false, false, false]), (351, [true, false, false, false, false])]
 keep := [(0, ⟨[0, 1, 4, 10, 11], [0], [], []⟩),
   (2, ⟨[0, 10, 13], [0], [], []⟩),
   (4, ⟨[0, 2, 4, 14, 15], [0], [], []⟩),
   (6, ⟨[0, 14, 17], [0], [], []⟩),
   (8, ⟨[0, 1, 2, 3, 4, 18, 19, 20, 21, 22], [0], [], []⟩)]
 keepX := [(0, .exit 0, ⟨[0, 1, 10], [0], [], []⟩),
   (2, .exit 2, ⟨[], [0], [], []⟩),
   (4, .exit 4, ⟨[0, 2, 14], [0], [], []⟩),
   (6, .exit 6, ⟨[], [0], [], []⟩),
   (8, .exit 8, ⟨[0, 1, 2, 3, 4, 18, 19, 20], [0], [], []⟩)]
 dw := [(11, [[], [], [], [], [], [], [], [], [], [], [], [], [], [], [], [0], [], [0]]), (23, [[], [], [], [], [], [], [], [], [], [], [], [], [], [], [], [0], [], [0]])]
theorem slices_symMergeCmpFunc_zone_occurrence_step (g : HL [ty13, iT, iT, iT] → Option (HL [ty13])) (hg : Con.OK Tryz.prog (slices_symMergeCmpFunc_zone_occurrence_conR g)) : Con.OK Tryz.prog (slices_symMergeCmpFunc_zone_occurrence_conR (Pw.slices_symMergeCmpFunc_zone_occurrence_rec g)) :=
 con_of tabOk mixedOk (slices_symMergeCmpFunc_zone_occurrence_d g) (slices_symMergeCmpFunc_zone_occurrence_conR (Pw.slices_symMergeCmpFunc_zone_occurrence_rec g)) Tryz.f348 (Tryz.f348.body.getD .skip) Tryz.func348 (by kernel_rfl) (by kernel_rfl) (Nat.le_of_ble_eq_true (by kernel_rfl)) (by kernel_rfl) (And.intro hg (And.intro zone_occurrences_c1_ok (And.intro slices_rotateCmpFunc_zone_occurrence_ok trivial))) (by kernel_rfl) (by kernel_rfl)
   (And.intro (fun h => by kernel_rfl) (And.intro (fun h => by kernel_rfl) (And.intro (fun h => by kernel_rfl) (And.intro (fun h => by kernel_rfl) (And.intro (fun h => by kernel_rfl) trivial)))))
   (fun h => by kernel_rfl)
theorem slices_symMergeCmpFunc_zone_occurrence_ok : Con.OK Tryz.prog slices_symMergeCmpFunc_zone_occurrence_con := rec_ok (f := 348) (ps := [.rl 310 ty13, .v iT, .v iT, .v iT, .clo 313 []]) (ts := [ty13, iT, iT, iT]) (rp := ⟨[], [.rl ty13]⟩) (rs := [ty13]) (B := Pw.slices_symMergeCmpFunc_zone_occurrence_rec) slices_symMergeCmpFunc_zone_occurrence_step
noncomputable def slices_stableCmpFunc_zone_occurrence_con : Con := ⟨339, [.rl 310 ty13, .v iT, .clo 313 []], [ty13, iT], ⟨[], [.rl ty13]⟩, [ty13], fun h => Pw.slices_stableCmpFunc_zone_occurrence h.1 h.2⟩
noncomputable def slices_stableCmpFunc_zone_occurrence_d : FnD where
 N := 63
 np := 3
 cs := [slices_insertionSortCmpFunc_zone_occurrence_con, slices_symMergeCmpFunc_zone_occurrence_con]
 ds := [⟨0, [.s (.one (.ol 0)), sI, .s (.one (.clo 313 [])), sI, sI, sI, .b (.lst 310 ty8 false)], [iT, iT, iT, iT, ty13], [⟨.exit 0, [.s (.one (.ol 0)), sI, .s (.one (.clo 313 [])), sI, sI, .b (.lst 310 ty8 false)], [iT, iT, iT, ty13]⟩], fun h => Pw.slices_stableCmpFunc_zone_occurrence_l0_step h.1 h.2.1 h.2.2.1 h.2.2.2.1 h.2.2.2.2⟩,
   ⟨2, [.s (.one (.ol 0)), sI, .s (.one (.clo 313 [])), sI, .b (.lst 310 ty8 false)], [iT, iT, ty13], [⟨.exit 2, [.b (.lst 310 ty8 false)], [ty13]⟩], fun h => Pw.slices_stableCmpFunc_zone_occurrence_l2_step h.1 h.2.1 h.2.2⟩,
   ⟨4, [.s (.one (.ol 0)), sI, .s (.one (.clo 313 [])), sI, sI, sI, .b (.lst 310 ty8 false)], [iT, iT, iT, iT, ty13], [⟨.exit 4, [.s (.one (.ol 0)), sI, .s (.one (.clo 313 [])), sI, sI, .b (.lst 310 ty8 false)], [iT, iT, iT, ty13]⟩], fun h => Pw.slices_stableCmpFunc_zone_occurrence_l4_step h.1 h.2.1 h.2.2.1 h.2.2.2.1 h.2.2.2.2⟩]
 modes := [(347, [true, false, false, false]), (348, [true, false, false, false, false])]
 keep := [(0, ⟨[0, 1, 2, 6, 7, 8], [0], [], []⟩),
   (2, ⟨[0, 1, 2, 6], [0], [], []⟩),
   (4, ⟨[0, 1, 2, 6, 7, 8], [0], [], []⟩)]
 keepX := [(0, .exit 0, ⟨[0, 1, 2, 6, 7], [0], [], []⟩),
   (2, .exit 2, ⟨[], [0], [], []⟩),
   (4, .exit 4, ⟨[0, 1, 2, 6, 7], [0], [], []⟩)]
theorem slices_stableCmpFunc_zone_occurrence_ok : Con.OK Tryz.prog slices_stableCmpFunc_zone_occurrence_con :=
 con_of tabOk mixedOk slices_stableCmpFunc_zone_occurrence_d slices_stableCmpFunc_zone_occurrence_con Tryz.f339 (Tryz.f339.body.getD .skip) Tryz.func339 (by kernel_rfl) (by kernel_rfl) (Nat.le_of_ble_eq_true (by kernel_rfl)) (by kernel_rfl) (And.intro slices_insertionSortCmpFunc_zone_occurrence_ok (And.intro slices_symMergeCmpFunc_zone_occurrence_ok trivial)) (by kernel_rfl) (by kernel_rfl)
   (And.intro (fun h => by kernel_rfl) (And.intro (fun h => by kernel_rfl) (And.intro (fun h => by kernel_rfl) trivial)))
   (fun h => by kernel_rfl)
noncomputable def slices_SortStableFunc_zone_occurrence_zone_occurrence_con : Con := ⟨312, [.rl 310 ty13, .clo 313 []], [ty13], ⟨[], [.rl ty13]⟩, [ty13], fun h => Pw.slices_SortStableFunc_zone_occurrence_zone_occurrence h⟩
noncomputable def slices_SortStableFunc_zone_occurrence_zone_occurrence_d : FnD where
 N := 9
 np := 2
 cs := [slices_stableCmpFunc_zone_occurrence_con]
 ds := []
 modes := [(339, [true, false, false])]
theorem slices_SortStableFunc_zone_occurrence_zone_occurrence_ok : Con.OK Tryz.prog slices_SortStableFunc_zone_occurrence_zone_occurrence_con :=
 con_of tabOk mixedOk slices_SortStableFunc_zone_occurrence_zone_occurrence_d slices_SortStableFunc_zone_occurrence_zone_occurrence_con Tryz.f312 (Tryz.f312.body.getD .skip) Tryz.func312 (by kernel_rfl) (by kernel_rfl) (Nat.le_of_ble_eq_true (by kernel_rfl)) (by kernel_rfl) (And.intro slices_stableCmpFunc_zone_occurrence_ok trivial) (by kernel_rfl) (by kernel_rfl)
   trivial
   (fun h => by kernel_rfl)
noncomputable def zone_occurrences_con : Con := ⟨289, [.v ty62], [ty62], ⟨[.own 310 ty13, .v iT], []⟩, [ty13, iT], fun h => Pw.zone_occurrences h⟩
noncomputable def zone_occurrences_d : FnD where
 N := 86
 np := 1
 cs := [zone_in_con, zone_rule_con, civil_Nth_con, slices_SortStableFunc_zone_occurrence_zone_occurrence_con]
 ds := [⟨0, [.s (.one (.bp 64 0)), sI, .s (.one (.d ty55)), sI, sI, .b (.cell [.d .str, .d iT, .d ty55] false)], [iT, ty55, iT, iT, .str, iT, ty55], [⟨.ret, [.s (.one (.nil)), sI], [iT]⟩, ⟨.exit 0, [.s (.one (.bp 64 0)), sI, .b (.cell [.d .str, .d iT, .d ty55] false)], [iT, .str, iT, ty55]⟩], fun h => Pw.zone_occurrences_l0_step h.1 h.2.1 h.2.2.1 h.2.2.2.1 h.2.2.2.2.1 h.2.2.2.2.2.1 h.2.2.2.2.2.2⟩,
   ⟨2, [.s (.one (.ol 1002000)), .s (.one (.d ty55)), sI, sI, .b (.lst 310 ty8 false)], [ty55, iT, iT, ty13], [⟨.exit 2, [.s (.one (.ol 1502300)), .b (.lst 310 ty8 false)], [ty13]⟩], fun h => Pw.zone_occurrences_l2_step h.1 h.2.1 h.2.2.1 h.2.2.2⟩,
   ⟨4, [.s (.one (.ol 1004000)), .s (.one (.bp 640 0)), sI, .s (.one (.d ty55)), sI, sI, .b (.cell [.d iT, .d iT, .d iT, .d iT, .d iT, .d iT, .d iT] false), .b (.lst 310 ty8 false)], [iT, ty55, iT, iT, iT, iT, iT, iT, iT, iT, iT, ty13], [⟨.exit 4, [.s (.one (.ol 1504500)), .s (.one (.d ty55)), sI, sI, .b (.lst 310 ty8 false)], [ty55, iT, iT, ty13]⟩], fun h => Pw.zone_occurrences_l4_step h.1 h.2.1 h.2.2.1 h.2.2.2.1 h.2.2.2.2.1 h.2.2.2.2.2.1 h.2.2.2.2.2.2.1 h.2.2.2.2.2.2.2.1 h.2.2.2.2.2.2.2.2.1 h.2.2.2.2.2.2.2.2.2.1 h.2.2.2.2.2.2.2.2.2.2.1 h.2.2.2.2.2.2.2.2.2.2.2⟩]
 modes := [(290, [false, false, false]), (310, [false]), (311, [false, false, false, false]), (312, [true, false])]
 keep := [(0, ⟨[1, 4, 23, 24, 25], [64], [], []⟩),
   (2, ⟨[8, 46, 47, 48], [], [⟨1002000, 310, ty8, [.slot 8], false⟩], []⟩),
   (4, ⟨[8, 10, 11, 46, 47, 48], [640], [⟨1004000, 310, ty8, [.slot 8], false⟩], []⟩)]
 keepX := [(0, .ret, ⟨[2, 3], [], [], []⟩),
   (0, .exit 0, ⟨[1, 4], [64], [], []⟩),
   (2, .exit 2, ⟨[8], [], [⟨1502300, 310, ty8, [.slot 8], false⟩], []⟩),
   (4, .exit 4, ⟨[8, 46, 47, 48], [], [⟨1504500, 310, ty8, [.slot 8], false⟩], []⟩)]
 ro := [true, false]
theorem zone_occurrences_ok : Con.OK Tryz.prog zone_occurrences_con :=
 con_of tabOk mixedOk zone_occurrences_d zone_occurrences_con Tryz.f289 (Tryz.f289.body.getD .skip) Tryz.func289 (by kernel_rfl) (by kernel_rfl) (Nat.le_of_ble_eq_true (by kernel_rfl)) (by kernel_rfl) (And.intro zone_in_ok (And.intro zone_rule_ok (And.intro civil_Nth_ok (And.intro slices_SortStableFunc_zone_occurrence_zone_occurrence_ok trivial)))) (by kernel_rfl) (by kernel_rfl)
   (And.intro (fun h => by kernel_rfl) (And.intro (fun h => by kernel_rfl) (And.intro (fun h => by kernel_rfl) trivial)))
   (fun h => by kernel_rfl)
noncomputable def zone_Transitions_con : Con := ⟨244, [.v ty62], [ty62], ⟨[.own 206 ty13, .v iT], []⟩, [ty13, iT], fun h => Pw.zone_Transitions h⟩
noncomputable def zone_Transitions_d : FnD where
 N := 79
 np := 1
 cs := [zone_in_con, zone_occurrences_con]
 ds := [⟨0, [.s (.one (.ol 1000000)), sI, .s (.one (.ol 1000001)), sI, sI, .b (.lst 206 ty8 false), .b (.lst 310 ty8 false)], [iT, iT, iT, ty13, ty13], [⟨.ret, [.s (.one (.nil)), sI], [iT]⟩, ⟨.exit 0, [.s (.one (.ol 1500100)), .b (.lst 206 ty8 false)], [ty13]⟩], fun h => Pw.zone_Transitions_l0_step h.1 h.2.1 h.2.2.1 h.2.2.2.1 h.2.2.2.2⟩]
 modes := [(289, [false]), (290, [false, false, false])]
 keep := [(0, ⟨[6, 7, 22, 23, 24], [], [⟨1000000, 206, ty8, [.slot 6], false⟩, ⟨1000001, 310, ty8, [.slot 22], false⟩], []⟩)]
 keepX := [(0, .ret, ⟨[2, 3], [], [], []⟩),
   (0, .exit 0, ⟨[6], [], [⟨1500100, 206, ty8, [.slot 6], false⟩], []⟩)]
 ro := [true, false]
theorem zone_Transitions_ok : Con.OK Tryz.prog zone_Transitions_con :=
 con_of tabOk mixedOk zone_Transitions_d zone_Transitions_con Tryz.f244 (Tryz.f244.body.getD .skip) Tryz.func244 (by kernel_rfl) (by kernel_rfl) (Nat.le_of_ble_eq_true (by kernel_rfl)) (by kernel_rfl) (And.intro zone_in_ok (And.intro zone_occurrences_ok trivial)) (by kernel_rfl) (by kernel_rfl)
   (And.intro (fun h => by kernel_rfl) trivial)
   (fun h => by kernel_rfl)
noncomputable def zone_Check_con : Con := ⟨203, [.v ty62], [ty62], ⟨[.v iT], []⟩, [iT], fun h => Pw.zone_Check h⟩
noncomputable def zone_Check_d : FnD where
 N := 11
 np := 1
 cs := [zone_Transitions_con]
 ds := []
 modes := [(244, [false])]
 ro := [false]
theorem zone_Check_ok : Con.OK Tryz.prog zone_Check_con :=
 con_of tabOk mixedOk zone_Check_d zone_Check_con Tryz.f203 (Tryz.f203.body.getD .skip) Tryz.func203 (by kernel_rfl) (by kernel_rfl) (Nat.le_of_ble_eq_true (by kernel_rfl)) (by kernel_rfl) (And.intro zone_Transitions_ok trivial) (by kernel_rfl) (by kernel_rfl)
   trivial
   (fun h => by kernel_rfl)
noncomputable def resolve_checkZone_c1_con : Con := ⟨205, [.v ty52], [ty52], ⟨[.v .bool], []⟩, [.bool], fun h => Pw.resolve_checkZone_c1 h⟩
noncomputable def resolve_checkZone_c1_d : FnD where
 N := 7
 np := 1
 cs := []
 ds := []
 ro := [false]
theorem resolve_checkZone_c1_ok : Con.OK Tryz.prog resolve_checkZone_c1_con :=
 con_of tabOk mixedOk resolve_checkZone_c1_d resolve_checkZone_c1_con Tryz.f205 (Tryz.f205.body.getD .skip) Tryz.func205 (by kernel_rfl) (by kernel_rfl) (Nat.le_of_ble_eq_true (by kernel_rfl)) (by kernel_rfl) trivial (by kernel_rfl) (by kernel_rfl)
   trivial
   (fun h => by kernel_rfl)
noncomputable def slices_IndexFunc_api_YearRule_api_YearRule_con : Con := ⟨264, [.v ty55, .clo 205 []], [ty55], ⟨[.v iT], []⟩, [iT], fun h => Pw.slices_IndexFunc_api_YearRule_api_YearRule h⟩
noncomputable def slices_IndexFunc_api_YearRule_api_YearRule_d : FnD where
 N := 19
 np := 2
 cs := [resolve_checkZone_c1_con]
 ds := [⟨0, [.s (.one (.d ty55)), .s (.one (.clo 205 [])), sI, sI], [ty55, iT, iT], [⟨.ret, [sI], [iT]⟩, ⟨.exit 0, [], []⟩], fun h => Pw.slices_IndexFunc_api_YearRule_api_YearRule_l0_step h.1 h.2.1 h.2.2⟩]
 modes := [(205, [false])]
 keep := [(0, ⟨[0, 1, 7, 8], [], [], []⟩)]
 keepX := [(0, .ret, ⟨[4], [], [], []⟩),
   (0, .exit 0, ⟨[], [], [], []⟩)]
 ro := [false]
theorem slices_IndexFunc_api_YearRule_api_YearRule_ok : Con.OK Tryz.prog slices_IndexFunc_api_YearRule_api_YearRule_con :=
 con_of tabOk mixedOk slices_IndexFunc_api_YearRule_api_YearRule_d slices_IndexFunc_api_YearRule_api_YearRule_con Tryz.f264 (Tryz.f264.body.getD .skip) Tryz.func264 (by kernel_rfl) (by kernel_rfl) (Nat.le_of_ble_eq_true (by kernel_rfl)) (by kernel_rfl) (And.intro resolve_checkZone_c1_ok trivial) (by kernel_rfl) (by kernel_rfl)
   (And.intro (fun h => by kernel_rfl) trivial)
   (fun h => by kernel_rfl)
noncomputable def slices_ContainsFunc_api_YearRule_api_YearRule_con : Con := ⟨204, [.v ty55, .clo 205 []], [ty55], ⟨[.v .bool], []⟩, [.bool], fun h => Pw.slices_ContainsFunc_api_YearRule_api_YearRule h⟩
noncomputable def slices_ContainsFunc_api_YearRule_api_YearRule_d : FnD where
 N := 9
 np := 2
 cs := [slices_IndexFunc_api_YearRule_api_YearRule_con]
 ds := []
 modes := [(264, [false, false])]
 ro := [false]
theorem slices_ContainsFunc_api_YearRule_api_YearRule_ok : Con.OK Tryz.prog slices_ContainsFunc_api_YearRule_api_YearRule_con :=
 con_of tabOk mixedOk slices_ContainsFunc_api_YearRule_api_YearRule_d slices_ContainsFunc_api_YearRule_api_YearRule_con Tryz.f204 (Tryz.f204.body.getD .skip) Tryz.func204 (by kernel_rfl) (by kernel_rfl) (Nat.le_of_ble_eq_true (by kernel_rfl)) (by kernel_rfl) (And.intro slices_IndexFunc_api_YearRule_api_YearRule_ok trivial) (by kernel_rfl) (by kernel_rfl)
   trivial
   (fun h => by kernel_rfl)
noncomputable def resolve_checkZone_con : Con := ⟨143, [.v ty62], [ty62], ⟨[.v iT], []⟩, [iT], fun h => Pw.resolve_checkZone h⟩
noncomputable def resolve_checkZone_d : FnD where
 N := 17
 np := 1
 cs := [zone_Check_con, slices_ContainsFunc_api_YearRule_api_YearRule_con]
 ds := []
 modes := [(203, [false]), (204, [false, false])]
 ro := [false]
theorem resolve_checkZone_ok : Con.OK Tryz.prog resolve_checkZone_con :=
 con_of tabOk mixedOk resolve_checkZone_d resolve_checkZone_con Tryz.f143 (Tryz.f143.body.getD .skip) Tryz.func143 (by kernel_rfl) (by kernel_rfl) (Nat.le_of_ble_eq_true (by kernel_rfl)) (by kernel_rfl) (And.intro zone_Check_ok (And.intro slices_ContainsFunc_api_YearRule_api_YearRule_ok trivial)) (by kernel_rfl) (by kernel_rfl)
   trivial
   (fun h => by kernel_rfl)
noncomputable def resolve_named_api_Zone_con : Con := ⟨141, [.v ty63, .clo 142 [], .clo 143 []], [ty63], ⟨[.v iT], []⟩, [iT], fun h => Pw.resolve_named_api_Zone h⟩
noncomputable def resolve_named_api_Zone_d : FnD where
 N := 34
 np := 3
 cs := [resolve_Check_c1_con, resolve_name_con, resolve_checkZone_con]
 ds := [⟨0, [.s (.one (.clo 142 [])), .s (.one (.clo 143 [])), .s (.one (.ol 1000000)), .s (.one (.d ty63)), sI, sI, .b (.lst 4294967485 (.pair .str .bool) false)], [ty63, iT, iT, (.list (.pair .str .bool))], [⟨.ret, [sI], [iT]⟩, ⟨.exit 0, [], []⟩], fun h => Pw.resolve_named_api_Zone_l0_step h.1 h.2.1 h.2.2.1 h.2.2.2⟩]
 modes := [(142, [false]), (143, [false]), (144, [false, true])]
 keep := [(0, ⟨[1, 2, 7, 13, 14, 15], [], [⟨1000000, 4294967485, (.pair .str .bool), [.slot 7], false⟩], []⟩)]
 keepX := [(0, .ret, ⟨[6], [], [], []⟩),
   (0, .exit 0, ⟨[], [], [], []⟩)]
 ro := [false]
theorem resolve_named_api_Zone_ok : Con.OK Tryz.prog resolve_named_api_Zone_con :=
 con_of tabOk mixedOk resolve_named_api_Zone_d resolve_named_api_Zone_con Tryz.f141 (Tryz.f141.body.getD .skip) Tryz.func141 (by kernel_rfl) (by kernel_rfl) (Nat.le_of_ble_eq_true (by kernel_rfl)) (by kernel_rfl) (And.intro resolve_Check_c1_ok (And.intro resolve_name_ok (And.intro resolve_checkZone_ok trivial))) (by kernel_rfl) (by kernel_rfl)
   (And.intro (fun h => by kernel_rfl) trivial)
   (fun h => by kernel_rfl)
noncomputable def resolve_index_con : Con := ⟨207, [.v iT, .v iT], [iT, iT], ⟨[.v .bool], []⟩, [.bool], fun h => Pw.resolve_index h.1 h.2⟩
noncomputable def resolve_index_d : FnD where
 N := 12
 np := 2
 cs := []
 ds := []
 ro := [false]
theorem resolve_index_ok : Con.OK Tryz.prog resolve_index_con :=
 con_of tabOk mixedOk resolve_index_d resolve_index_con Tryz.f207 (Tryz.f207.body.getD .skip) Tryz.func207 (by kernel_rfl) (by kernel_rfl) (Nat.le_of_ble_eq_true (by kernel_rfl)) (by kernel_rfl) trivial (by kernel_rfl) (by kernel_rfl)
   trivial
   (fun h => by kernel_rfl)
noncomputable def week_Check_con : Con := ⟨208, [.v ty13], [ty13], ⟨[.v iT], []⟩, [iT], fun h => Pw.week_Check h⟩
noncomputable def week_Check_d : FnD where
 N := 46
 np := 1
 cs := []
 ds := [⟨0, [.s (.one (.d ty13)), .s (.one (.d ty13)), sI, sI], [ty13, ty13, iT, iT], [⟨.ret, [sI], [iT]⟩, ⟨.exit 0, [], []⟩], fun h => Pw.week_Check_l0_step h.1 h.2.1 h.2.2.1 h.2.2.2⟩]
 keep := [(0, ⟨[0, 8, 9, 10], [], [], []⟩)]
 keepX := [(0, .ret, ⟨[2], [], [], []⟩),
   (0, .exit 0, ⟨[], [], [], []⟩)]
 ro := [false]
theorem week_Check_ok : Con.OK Tryz.prog week_Check_con :=
 con_of tabOk mixedOk week_Check_d week_Check_con Tryz.f208 (Tryz.f208.body.getD .skip) Tryz.func208 (by kernel_rfl) (by kernel_rfl) (Nat.le_of_ble_eq_true (by kernel_rfl)) (by kernel_rfl) trivial (by kernel_rfl) (by kernel_rfl)
   (And.intro (fun h => by kernel_rfl) trivial)
   (fun h => by kernel_rfl)
noncomputable def resolve_in_con : Con := ⟨267, [.v iT, .v iT, .v iT], [iT, iT, iT], ⟨[.v .bool], []⟩, [.bool], fun h => Pw.resolve_in h.1 h.2.1 h.2.2⟩
noncomputable def resolve_in_d : FnD where
 N := 15
 np := 3
 cs := []
 ds := []
 ro := [false]
theorem resolve_in_ok : Con.OK Tryz.prog resolve_in_con :=
 con_of tabOk mixedOk resolve_in_d resolve_in_con Tryz.f267 (Tryz.f267.body.getD .skip) Tryz.func267 (by kernel_rfl) (by kernel_rfl) (Nat.le_of_ble_eq_true (by kernel_rfl)) (by kernel_rfl) trivial (by kernel_rfl) (by kernel_rfl)
   trivial
   (fun h => by kernel_rfl)
noncomputable def resolve_hours_con : Con := ⟨209, [.v iT], [iT], ⟨[.v .bool], []⟩, [.bool], fun h => Pw.resolve_hours h⟩
noncomputable def resolve_hours_d : FnD where
 N := 10
 np := 1
 cs := [resolve_in_con]
 ds := []
 modes := [(267, [false, false, false])]
 ro := [false]
theorem resolve_hours_ok : Con.OK Tryz.prog resolve_hours_con :=
 con_of tabOk mixedOk resolve_hours_d resolve_hours_con Tryz.f209 (Tryz.f209.body.getD .skip) Tryz.func209 (by kernel_rfl) (by kernel_rfl) (Nat.le_of_ble_eq_true (by kernel_rfl)) (by kernel_rfl) (And.intro resolve_in_ok trivial) (by kernel_rfl) (by kernel_rfl)
   trivial
   (fun h => by kernel_rfl)
noncomputable def resolve_checkPerson_con : Con := ⟨145, [.v ty81, .v ty50], [ty81, ty50], ⟨[.v iT], []⟩, [iT], fun h => Pw.resolve_checkPerson h.1 h.2⟩
noncomputable def resolve_checkPerson_d : FnD where
 N := 29
 np := 2
 cs := [resolve_index_con, week_Check_con, resolve_hours_con]
 ds := []
 modes := [(207, [false, false]), (208, [false]), (209, [false])]
 ro := [false]
theorem resolve_checkPerson_ok : Con.OK Tryz.prog resolve_checkPerson_con :=
 con_of tabOk mixedOk resolve_checkPerson_d resolve_checkPerson_con Tryz.f145 (Tryz.f145.body.getD .skip) Tryz.func145 (by kernel_rfl) (by kernel_rfl) (Nat.le_of_ble_eq_true (by kernel_rfl)) (by kernel_rfl) (And.intro resolve_index_ok (And.intro week_Check_ok (And.intro resolve_hours_ok trivial))) (by kernel_rfl) (by kernel_rfl)
   trivial
   (fun h => by kernel_rfl)
noncomputable def resolve_Check_c2_con : Con := ⟨147, [.v ty23], [ty23], ⟨[.v .str], []⟩, [.str], fun h => Pw.resolve_Check_c2 h⟩
noncomputable def resolve_Check_c2_d : FnD where
 N := 5
 np := 1
 cs := []
 ds := []
 ro := [false]
theorem resolve_Check_c2_ok : Con.OK Tryz.prog resolve_Check_c2_con :=
 con_of tabOk mixedOk resolve_Check_c2_d resolve_Check_c2_con Tryz.f147 (Tryz.f147.body.getD .skip) Tryz.func147 (by kernel_rfl) (by kernel_rfl) (Nat.le_of_ble_eq_true (by kernel_rfl)) (by kernel_rfl) trivial (by kernel_rfl) (by kernel_rfl)
   trivial
   (fun h => by kernel_rfl)
noncomputable def civil_year_con : Con := ⟨299, [.v iT], [iT], ⟨[.v iT], []⟩, [iT], fun h => Pw.civil_year h⟩
noncomputable def civil_year_d : FnD where
 N := 15
 np := 1
 cs := [civil_floor_con, civil_count_con]
 ds := [⟨0, [sI, sI], [iT, iT], [⟨.exit 0, [sI], [iT]⟩], fun h => Pw.civil_year_l0_step h.1 h.2⟩]
 modes := [(298, [false]), (323, [false, false])]
 keep := [(0, ⟨[0, 3], [], [], []⟩)]
 keepX := [(0, .exit 0, ⟨[3], [], [], []⟩)]
 ro := [false]
theorem civil_year_ok : Con.OK Tryz.prog civil_year_con :=
 con_of tabOk mixedOk civil_year_d civil_year_con Tryz.f299 (Tryz.f299.body.getD .skip) Tryz.func299 (by kernel_rfl) (by kernel_rfl) (Nat.le_of_ble_eq_true (by kernel_rfl)) (by kernel_rfl) (And.intro civil_floor_ok (And.intro civil_count_ok trivial)) (by kernel_rfl) (by kernel_rfl)
   (And.intro (fun h => by kernel_rfl) trivial)
   (fun h => by kernel_rfl)
noncomputable def civil_DateOf_con : Con := ⟨269, [.v iT], [iT], ⟨[.v ty21, .v iT], []⟩, [ty21, iT], fun h => Pw.civil_DateOf h⟩
noncomputable def civil_DateOf_d : FnD where
 N := 45
 np := 1
 cs := [civil_Days_con, civil_count_con, civil_year_con]
 ds := [⟨0, [.s (.one (.bp 128 0)), .s (.one (.bp 256 0)), sI, .b (.cell [.d iT, .d iT, .d iT] false), .b (.cell [.d iT, .d iT, .d iT] false)], [iT, iT, iT, iT, iT, iT, iT], [⟨.exit 0, [.s (.one (.bp 128 0)), .s (.one (.bp 256 0)), sI, .b (.cell [.d iT, .d iT, .d iT] false), .b (.cell [.d iT, .d iT, .d iT] false)], [iT, iT, iT, iT, iT, iT, iT]⟩], fun h => Pw.civil_DateOf_l0_step h.1 h.2.1 h.2.2.1 h.2.2.2.1 h.2.2.2.2.1 h.2.2.2.2.2.1 h.2.2.2.2.2.2⟩]
 modes := [(298, [false]), (299, [false]), (300, [false, false])]
 keep := [(0, ⟨[2, 4, 5], [128, 256], [], []⟩)]
 keepX := [(0, .exit 0, ⟨[2, 4, 5], [128, 256], [], []⟩)]
 ro := [false, false]
theorem civil_DateOf_ok : Con.OK Tryz.prog civil_DateOf_con :=
 con_of tabOk mixedOk civil_DateOf_d civil_DateOf_con Tryz.f269 (Tryz.f269.body.getD .skip) Tryz.func269 (by kernel_rfl) (by kernel_rfl) (Nat.le_of_ble_eq_true (by kernel_rfl)) (by kernel_rfl) (And.intro civil_Days_ok (And.intro civil_count_ok (And.intro civil_year_ok trivial))) (by kernel_rfl) (by kernel_rfl)
   (And.intro (fun h => by kernel_rfl) trivial)
   (fun h => by kernel_rfl)
end Go.Proofs.Pk
