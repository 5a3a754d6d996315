/- Contracts: each given function is its plain function, printed by a program. -/
import Derived.Test.YtdfbeioppmgheaaGreatCon5
open Go Go.Lft
set_option linter.unusedVariables false
set_option maxRecDepth 100000
namespace Go.Proofs.Pk
noncomputable def r03_has_con : Con := ⟨73, [.v ty13, .v iT], [ty13, iT], ⟨[.v .bool], []⟩, [.bool], fun h => Pw.r03_has h.1 h.2⟩
noncomputable def r03_has_d : FnD where
 N := 40
 np := 2
 cs := []
 ds := [⟨0, [.s (.one (.d ty13)), sI, sI, sI], [ty13, iT, iT, iT], [⟨.exit 0, [.s (.one (.d ty13)), sI, sI], [ty13, iT, iT]⟩], fun h => Pw.r03_has_l0_step h.1 h.2.1 h.2.2.1 h.2.2.2⟩]
 keep := [(0, ⟨[0, 1, 5, 6], [], [], []⟩)]
 keepX := [(0, .exit 0, ⟨[0, 1, 5], [], [], []⟩)]
 ro := [false]
theorem r03_has_ok : Con.OK Tryz.prog r03_has_con :=
 con_of tabOk mixedOk r03_has_d r03_has_con Tryz.f73 (Tryz.f73.body.getD .skip) Tryz.func73 (by kernel_rfl) (by kernel_rfl) (Nat.le_of_ble_eq_true (by kernel_rfl)) (by kernel_rfl) trivial (by kernel_rfl) (by kernel_rfl)
   (And.intro (fun h => by kernel_rfl) trivial)
   (fun h => by kernel_rfl)
noncomputable def r03_Has_con : Con := ⟨28, [.v ty13, .v iT], [ty13, iT], ⟨[.v .bool], []⟩, [.bool], fun h => Pw.r03_Has h.1 h.2⟩
noncomputable def r03_Has_d : FnD where
 N := 12
 np := 2
 cs := [r03_Valid_con, r03_has_con]
 ds := []
 modes := [(72, [false]), (73, [false, false])]
 ro := [false]
theorem r03_Has_ok : Con.OK Tryz.prog r03_Has_con :=
 con_of tabOk mixedOk r03_Has_d r03_Has_con Tryz.f28 (Tryz.f28.body.getD .skip) Tryz.func28 (by kernel_rfl) (by kernel_rfl) (Nat.le_of_ble_eq_true (by kernel_rfl)) (by kernel_rfl) (And.intro r03_Valid_ok (And.intro r03_has_ok trivial)) (by kernel_rfl) (by kernel_rfl)
   trivial
   (fun h => by kernel_rfl)
noncomputable def r03_Length_con : Con := ⟨29, [.v ty13], [ty13], ⟨[.v iT], []⟩, [iT], fun h => Pw.r03_Length h⟩
noncomputable def r03_Length_d : FnD where
 N := 29
 np := 1
 cs := [r03_Valid_con]
 ds := [⟨0, [.s (.one (.d ty13)), sI, sI], [ty13, iT, iT], [⟨.exit 0, [sI], [iT]⟩], fun h => Pw.r03_Length_l0_step h.1 h.2.1 h.2.2⟩]
 modes := [(72, [false])]
 keep := [(0, ⟨[0, 3, 4], [], [], []⟩)]
 keepX := [(0, .exit 0, ⟨[3], [], [], []⟩)]
 ro := [false]
theorem r03_Length_ok : Con.OK Tryz.prog r03_Length_con :=
 con_of tabOk mixedOk r03_Length_d r03_Length_con Tryz.f29 (Tryz.f29.body.getD .skip) Tryz.func29 (by kernel_rfl) (by kernel_rfl) (Nat.le_of_ble_eq_true (by kernel_rfl)) (by kernel_rfl) (And.intro r03_Valid_ok trivial) (by kernel_rfl) (by kernel_rfl)
   (And.intro (fun h => by kernel_rfl) trivial)
   (fun h => by kernel_rfl)
noncomputable def law11_DutyPieces_con : Con := ⟨3, [.v (.list iT), .v iT], [(.list iT), iT], ⟨[.v .bool], []⟩, [.bool], fun h => Pw.law11_DutyPieces h.1 h.2⟩
noncomputable def law11_DutyPieces_d : FnD where
 N := 186
 np := 2
 cs := [made_Light_con, duty_Segments_con, duty_Times_con, duty_Person_con, duty_On_con, law11_sane_con, made_Roll_con, made_Dice_Layer_con, made_Dice_Instant_con, made_Dice_Config_con, made_Mod_con, r03_Has_con, r03_Length_con]
 ds := [⟨0, [sI, .s (.one (.bp 384 0)), .s (.one (.bp 448 0)), .s (.one (.ol 1000000)), .s (.one (.ol 1000001)), sI, sI, sI, .b (.cell [.d ty63, .d ty53, .d ty27, .d ty75] false), .b (.cell [.d .str, .d iT, .d iT, .d iT, .d iT, .d iT, .d (.list iT), .d ty13, .d iT, .d iT] false), .b (.lst 49 ty21 false), .b (.lst 96 ty8 false)], [iT, iT, iT, iT, ty63, ty53, ty27, ty75, .str, iT, iT, iT, iT, iT, (.list iT), ty13, iT, iT, ty25, ty13], [⟨.ret, [.s (.one (.d .bool))], [.bool]⟩, ⟨.exit 0, [.s (.one (.ol 1500100)), sI, .b (.lst 96 ty8 false)], [iT, ty13]⟩], fun h => Pw.law11_DutyPieces_l0_step h.1 h.2.1 h.2.2.1 h.2.2.2.1 h.2.2.2.2.1 h.2.2.2.2.2.1 h.2.2.2.2.2.2.1 h.2.2.2.2.2.2.2.1 h.2.2.2.2.2.2.2.2.1 h.2.2.2.2.2.2.2.2.2.1 h.2.2.2.2.2.2.2.2.2.2.1 h.2.2.2.2.2.2.2.2.2.2.2.1 h.2.2.2.2.2.2.2.2.2.2.2.2.1 h.2.2.2.2.2.2.2.2.2.2.2.2.2.1 h.2.2.2.2.2.2.2.2.2.2.2.2.2.2.1 h.2.2.2.2.2.2.2.2.2.2.2.2.2.2.2.1 h.2.2.2.2.2.2.2.2.2.2.2.2.2.2.2.2.1 h.2.2.2.2.2.2.2.2.2.2.2.2.2.2.2.2.2.1 h.2.2.2.2.2.2.2.2.2.2.2.2.2.2.2.2.2.2.1 h.2.2.2.2.2.2.2.2.2.2.2.2.2.2.2.2.2.2.2⟩,
   ⟨2, [sI, .s (.one (.bp 384 0)), .s (.one (.bp 448 0)), .s (.one (.ol 1002000)), .s (.one (.ol 1002001)), sI, .s (.one (.bp 1024 0)), sI, sI, .s (.av 3 iT), sI, .b (.cell [.d ty63, .d ty53, .d ty27, .d ty75] false), .b (.cell [.d .str, .d iT, .d iT, .d iT, .d iT, .d iT, .d (.list iT), .d ty13, .d iT, .d iT] false), .b (.cell [.d iT, .d iT, .d iT] false), .b (.lst 49 ty21 false), .b (.lst 96 ty8 false)], [iT, iT, iT, iT, (.list iT), iT, ty63, ty53, ty27, ty75, .str, iT, iT, iT, iT, iT, (.list iT), ty13, iT, iT, iT, iT, iT, ty25, ty13], [⟨.ret, [.s (.one (.d .bool))], [.bool]⟩, ⟨.exit 2, [sI, .s (.one (.bp 384 0)), .s (.one (.bp 448 0)), .s (.one (.ol 1502300)), .s (.one (.ol 1502301)), sI, .s (.one (.bp 1024 0)), sI, sI, .b (.cell [.d ty63, .d ty53, .d ty27, .d ty75] false), .b (.cell [.d .str, .d iT, .d iT, .d iT, .d iT, .d iT, .d (.list iT), .d ty13, .d iT, .d iT] false), .b (.cell [.d iT, .d iT, .d iT] false), .b (.lst 49 ty21 false), .b (.lst 96 ty8 false)], [iT, iT, iT, iT, ty63, ty53, ty27, ty75, .str, iT, iT, iT, iT, iT, (.list iT), ty13, iT, iT, iT, iT, iT, ty25, ty13]⟩], fun h => Pw.law11_DutyPieces_l2_step h.1 h.2.1 h.2.2.1 h.2.2.2.1 h.2.2.2.2.1 h.2.2.2.2.2.1 h.2.2.2.2.2.2.1 h.2.2.2.2.2.2.2.1 h.2.2.2.2.2.2.2.2.1 h.2.2.2.2.2.2.2.2.2.1 h.2.2.2.2.2.2.2.2.2.2.1 h.2.2.2.2.2.2.2.2.2.2.2.1 h.2.2.2.2.2.2.2.2.2.2.2.2.1 h.2.2.2.2.2.2.2.2.2.2.2.2.2.1 h.2.2.2.2.2.2.2.2.2.2.2.2.2.2.1 h.2.2.2.2.2.2.2.2.2.2.2.2.2.2.2.1 h.2.2.2.2.2.2.2.2.2.2.2.2.2.2.2.2.1 h.2.2.2.2.2.2.2.2.2.2.2.2.2.2.2.2.2.1 h.2.2.2.2.2.2.2.2.2.2.2.2.2.2.2.2.2.2.1 h.2.2.2.2.2.2.2.2.2.2.2.2.2.2.2.2.2.2.2.1 h.2.2.2.2.2.2.2.2.2.2.2.2.2.2.2.2.2.2.2.2.1 h.2.2.2.2.2.2.2.2.2.2.2.2.2.2.2.2.2.2.2.2.2.1 h.2.2.2.2.2.2.2.2.2.2.2.2.2.2.2.2.2.2.2.2.2.2.1 h.2.2.2.2.2.2.2.2.2.2.2.2.2.2.2.2.2.2.2.2.2.2.2.1 h.2.2.2.2.2.2.2.2.2.2.2.2.2.2.2.2.2.2.2.2.2.2.2.2⟩]
 modes := [(17, [false]), (18, []), (19, [false]), (20, [false, false]), (21, [false, false, false]), (22, [false]), (23, [false, false, false, false]), (24, [false, false, false, false]), (25, [false, false]), (26, [false, false, false]), (27, [false, false, false]), (28, [false, false]), (29, [false])]
 keep := [(0, ⟨[1, 6, 7, 10, 12, 14, 82, 83], [384, 448], [⟨1000000, 49, ty21, [.slot 10], false⟩, ⟨1000001, 96, ty8, [.slot 12], false⟩], []⟩),
   (2, ⟨[1, 6, 7, 10, 12, 14, 16, 82, 83, 137, 138], [384, 448, 1024], [⟨1002000, 49, ty21, [.slot 10], false⟩, ⟨1002001, 96, ty8, [.slot 12], false⟩], []⟩)]
 keepX := [(0, .ret, ⟨[4], [], [], []⟩),
   (0, .exit 0, ⟨[12, 14], [], [⟨1500100, 96, ty8, [.slot 12], false⟩], []⟩),
   (2, .ret, ⟨[4], [], [], []⟩),
   (2, .exit 2, ⟨[1, 6, 7, 10, 12, 14, 16, 82, 83], [384, 448, 1024], [⟨1502300, 49, ty21, [.slot 10], false⟩, ⟨1502301, 96, ty8, [.slot 12], false⟩], []⟩)]
 ro := [false]
theorem law11_DutyPieces_ok : Con.OK Tryz.prog law11_DutyPieces_con :=
 con_of tabOk mixedOk law11_DutyPieces_d law11_DutyPieces_con Tryz.f3 (Tryz.f3.body.getD .skip) Tryz.func3 (by kernel_rfl) (by kernel_rfl) (Nat.le_of_ble_eq_true (by kernel_rfl)) (by kernel_rfl) (And.intro made_Light_ok (And.intro duty_Segments_ok (And.intro duty_Times_ok (And.intro duty_Person_ok (And.intro duty_On_ok (And.intro law11_sane_ok (And.intro made_Roll_ok (And.intro made_Dice_Layer_ok (And.intro made_Dice_Instant_ok (And.intro made_Dice_Config_ok (And.intro made_Mod_ok (And.intro r03_Has_ok (And.intro r03_Length_ok trivial))))))))))))) (by kernel_rfl) (by kernel_rfl)
   (And.intro (fun h => by kernel_rfl) (And.intro (fun h => by kernel_rfl) trivial))
   (fun h => by kernel_rfl)
end Go.Proofs.Pk
