/- Contracts: each given function is its plain function, printed by a program. -/
import Derived.Test.YtdfbeioppmgheaaGreatCon5
open Go Go.Lft
set_option linter.unusedVariables false
set_option maxRecDepth 100000
namespace Go.Proofs.Pk
noncomputable def made_Dice_Edit_con : Con := ⟨45, [.ref [(.list iT), iT], .v ty81], [(.list iT), iT, ty81], ⟨[.v ty39], [.ref [(.list iT), iT]]⟩, [ty39, (.list iT), iT], fun h => Pw.made_Dice_Edit h.1 h.2.1 h.2.2⟩
noncomputable def made_Dice_Edit_d : FnD where
 N := 52
 np := 2
 cs := [made_Dice_Next_con, made_Dice_Pick_con, made_Dice_Bool_con, made_Dice_Instant_con]
 ds := []
 modes := [(22, [false]), (33, [false, false]), (39, [false, false]), (63, [false, false])]
 ro := [false]
 dw := [(3, [[], [], [], [1344], [0, 1344], [], [], [384]]), (8, [[], [], [], [], [], [], [0], [], [], [], [], [384]])]
theorem made_Dice_Edit_ok : Con.OK Tryz.prog made_Dice_Edit_con :=
 con_of tabOk mixedOk made_Dice_Edit_d made_Dice_Edit_con Tryz.f45 (Tryz.f45.body.getD .skip) Tryz.func45 (by kernel_rfl) (by kernel_rfl) (Nat.le_of_ble_eq_true (by kernel_rfl)) (by kernel_rfl) (And.intro made_Dice_Next_ok (And.intro made_Dice_Pick_ok (And.intro made_Dice_Bool_ok (And.intro made_Dice_Instant_ok trivial)))) (by kernel_rfl) (by kernel_rfl)
   trivial
   (fun h => by kernel_rfl)
noncomputable def made_Dice_Config_con : Con := ⟨20, [.ref [(.list iT), iT], .v iT], [(.list iT), iT, iT], ⟨[.v ty81], [.ref [(.list iT), iT]]⟩, [ty81, (.list iT), iT], fun h => Pw.made_Dice_Config h.1 h.2.1 h.2.2⟩
noncomputable def made_Dice_Config_d : FnD where
 N := 69
 np := 2
 cs := [made_Dice_Next_con, made_names_con, made_Dice_Staff_con, made_Dice_Layer_con, made_Dice_Edit_con]
 ds := [⟨0, [.s (.one (.bp 0 0)), .s (.one (.bp 256 0)), .s (.one (.bp 320 0)), sI, .b (.cell [.d (.list iT), .d iT] false), .b (.cell [.nil, .nil, .nil, .nil] false), .b (.cell [.d ty63, .d ty53, .d ty27, .ol 1000000] false), .b (.lst 64 ty74 true)], [iT, (.list iT), iT, ty63, ty53, ty27, ty75], [⟨.exit 0, [.s (.one (.bp 256 0)), .s (.one (.bp 320 0)), .b (.cell [.d (.list iT), .d iT] false), .b (.cell [.nil, .nil, .nil, .nil] false), .b (.cell [.d ty63, .d ty53, .d ty27, .ol 1500100] false), .b (.lst 64 ty74 true)], [(.list iT), iT, ty63, ty53, ty27, ty75]⟩], fun h => Pw.made_Dice_Config_l0_step h.1 h.2.1 h.2.2.1 h.2.2.2.1 h.2.2.2.2.1 h.2.2.2.2.2.1 h.2.2.2.2.2.2⟩,
   ⟨2, [.s (.one (.bp 0 0)), .s (.one (.bp 256 0)), .s (.one (.bp 320 0)), sI, .s (.one (.bp 448 0)), sI, .b (.cell [.d (.list iT), .d iT] false), .b (.cell [.nil, .nil, .nil, .nil] false), .b (.cell [.d ty63, .d ty53, .d ty27, .ol 1002000] false), .b (.cell [.d .str, .ol 1002001, .nil] false), .b (.lst 64 ty74 true), .b (.lst 38 ty69 false)], [iT, iT, (.list iT), iT, ty63, ty53, ty27, .str, ty75, ty70], [⟨.exit 2, [.s (.one (.bp 0 0)), .s (.one (.bp 256 0)), .s (.one (.bp 320 0)), sI, .s (.one (.bp 448 0)), .b (.cell [.d (.list iT), .d iT] false), .b (.cell [.nil, .nil, .nil, .nil] false), .b (.cell [.d ty63, .d ty53, .d ty27, .ol 1502300] false), .b (.cell [.d .str, .ol 1502301, .nil] false), .b (.lst 64 ty74 true), .b (.lst 38 ty69 false)], [iT, (.list iT), iT, ty63, ty53, ty27, .str, ty75, ty70]⟩], fun h => Pw.made_Dice_Config_l2_step h.1 h.2.1 h.2.2.1 h.2.2.2.1 h.2.2.2.2.1 h.2.2.2.2.2.1 h.2.2.2.2.2.2.1 h.2.2.2.2.2.2.2.1 h.2.2.2.2.2.2.2.2.1 h.2.2.2.2.2.2.2.2.2⟩,
   ⟨4, [.s (.one (.bp 0 0)), .s (.one (.bp 256 0)), .s (.one (.bp 320 0)), sI, .s (.one (.bp 448 0)), sI, .b (.cell [.d (.list iT), .d iT] false), .b (.cell [.nil, .nil, .nil, .nil] false), .b (.cell [.d ty63, .d ty53, .d ty27, .ol 1004000] false), .b (.cell [.d .str, .ol 1004001, .ol 1004002] false), .b (.lst 64 ty74 true), .b (.lst 38 ty69 false), .b (.lst 70 ty39 false)], [iT, iT, (.list iT), iT, ty63, ty53, ty27, .str, ty75, ty70, ty41], [⟨.exit 4, [.s (.one (.bp 0 0)), .s (.one (.bp 256 0)), .s (.one (.bp 320 0)), sI, .s (.one (.bp 448 0)), .b (.cell [.d (.list iT), .d iT] false), .b (.cell [.nil, .nil, .nil, .nil] false), .b (.cell [.d ty63, .d ty53, .d ty27, .ol 1504500] false), .b (.cell [.d .str, .ol 1504501, .ol 1504502] false), .b (.lst 64 ty74 true), .b (.lst 38 ty69 false), .b (.lst 70 ty39 false)], [iT, (.list iT), iT, ty63, ty53, ty27, .str, ty75, ty70, ty41]⟩], fun h => Pw.made_Dice_Config_l4_step h.1 h.2.1 h.2.2.1 h.2.2.2.1 h.2.2.2.2.1 h.2.2.2.2.2.1 h.2.2.2.2.2.2.1 h.2.2.2.2.2.2.2.1 h.2.2.2.2.2.2.2.2.1 h.2.2.2.2.2.2.2.2.2.1 h.2.2.2.2.2.2.2.2.2.2⟩]
 modes := [(21, [false, false, false]), (33, [false, false]), (45, [false, false]), (61, [false]), (62, [])]
 keep := [(0, ⟨[0, 4, 5, 6], [0, 256, 320], [⟨1000000, 64, ty74, [.cell 320 3], true⟩], []⟩),
   (2, ⟨[0, 4, 5, 6, 7, 8], [0, 256, 320, 448], [⟨1002000, 64, ty74, [.cell 320 3], false⟩, ⟨1002001, 38, ty69, [.cell 448 1], false⟩], []⟩),
   (4, ⟨[0, 4, 5, 6, 7, 9], [0, 256, 320, 448], [⟨1004000, 64, ty74, [.cell 320 3], false⟩, ⟨1004001, 38, ty69, [.cell 448 1], false⟩, ⟨1004002, 70, ty39, [.cell 448 2], false⟩], []⟩)]
 keepX := [(0, .exit 0, ⟨[4, 5], [0, 256, 320], [⟨1500100, 64, ty74, [.cell 320 3], false⟩], []⟩),
   (2, .exit 2, ⟨[0, 4, 5, 6, 7], [0, 256, 320, 448], [⟨1502300, 64, ty74, [.cell 320 3], false⟩, ⟨1502301, 38, ty69, [.cell 448 1], false⟩], []⟩),
   (4, .exit 4, ⟨[0, 4, 5, 6, 7], [0, 256, 320, 448], [⟨1504500, 64, ty74, [.cell 320 3], false⟩, ⟨1504501, 38, ty69, [.cell 448 1], false⟩, ⟨1504502, 70, ty39, [.cell 448 2], false⟩], []⟩)]
 ro := [false]
 dw := [(9, [[], [], [], [], [2432], [], [], [], [], [], [0, 1002000], [2880], [2944, 1002000, 1002001], [], [448]]), (13, [[], [], [], [], [0, 1004000], [3776], [3840, 1004001, 1004002], [], [448]])]
theorem made_Dice_Config_ok : Con.OK Tryz.prog made_Dice_Config_con :=
 con_of tabOk mixedOk made_Dice_Config_d made_Dice_Config_con Tryz.f20 (Tryz.f20.body.getD .skip) Tryz.func20 (by kernel_rfl) (by kernel_rfl) (Nat.le_of_ble_eq_true (by kernel_rfl)) (by kernel_rfl) (And.intro made_Dice_Next_ok (And.intro made_names_ok (And.intro made_Dice_Staff_ok (And.intro made_Dice_Layer_ok (And.intro made_Dice_Edit_ok trivial))))) (by kernel_rfl) (by kernel_rfl)
   (And.intro (fun h => by kernel_rfl) (And.intro (fun h => by kernel_rfl) (And.intro (fun h => by kernel_rfl) trivial)))
   (fun h => by kernel_rfl)
noncomputable def law16_CycleLayers_con : Con := ⟨13, [.v (.list iT)], [(.list iT)], ⟨[.v .bool], []⟩, [.bool], fun h => Pw.law16_CycleLayers h⟩
noncomputable def law16_CycleLayers_d : FnD where
 N := 78
 np := 1
 cs := [made_Light_con, cycle_Layer_con, cycle_Period_con, law16_sane_con, made_Roll_con, made_Dice_Config_con]
 ds := [⟨0, [sI, .s (.one (.d ty70)), sI, sI, sI], [iT, ty70, iT, iT, iT], [⟨.ret, [.s (.one (.d .bool))], [.bool]⟩, ⟨.exit 0, [sI, sI], [iT, iT]⟩], fun h => Pw.law16_CycleLayers_l0_step h.1 h.2.1 h.2.2.1 h.2.2.2.1 h.2.2.2.2⟩,
   ⟨2, [sI, .s (.one (.d ty70)), sI, sI, sI, sI, sI], [iT, ty70, iT, iT, iT, iT, iT], [⟨.exit 2, [sI, .s (.one (.d ty70)), sI, sI, sI], [iT, ty70, iT, iT, iT]⟩], fun h => Pw.law16_CycleLayers_l2_step h.1 h.2.1 h.2.2.1 h.2.2.2.1 h.2.2.2.2.1 h.2.2.2.2.2.1 h.2.2.2.2.2.2⟩]
 modes := [(17, [false]), (19, [false]), (20, [false, false]), (50, []), (51, [false, false]), (52, [false])]
 keep := [(0, ⟨[5, 7, 8, 39, 40], [], [], []⟩),
   (2, ⟨[5, 7, 8, 10, 12, 39, 40], [], [], []⟩)]
 keepX := [(0, .ret, ⟨[2], [], [], []⟩),
   (0, .exit 0, ⟨[5, 8], [], [], []⟩),
   (2, .exit 2, ⟨[5, 7, 8, 39, 40], [], [], []⟩)]
 ro := [false]
theorem law16_CycleLayers_ok : Con.OK Tryz.prog law16_CycleLayers_con :=
 con_of tabOk mixedOk law16_CycleLayers_d law16_CycleLayers_con Tryz.f13 (Tryz.f13.body.getD .skip) Tryz.func13 (by kernel_rfl) (by kernel_rfl) (Nat.le_of_ble_eq_true (by kernel_rfl)) (by kernel_rfl) (And.intro made_Light_ok (And.intro cycle_Layer_ok (And.intro cycle_Period_ok (And.intro law16_sane_ok (And.intro made_Roll_ok (And.intro made_Dice_Config_ok trivial)))))) (by kernel_rfl) (by kernel_rfl)
   (And.intro (fun h => by kernel_rfl) (And.intro (fun h => by kernel_rfl) trivial))
   (fun h => by kernel_rfl)
end Go.Proofs.Pk
