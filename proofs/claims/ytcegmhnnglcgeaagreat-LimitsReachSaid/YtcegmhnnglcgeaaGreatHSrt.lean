/- Where slices.SortFunc lies, and what its comparing functions do; printed by a program. -/
import Derived.Test.YtcegmhnnglcgeaaGreatHFns
import Derived.Test.YtcegmhnnglcgeaaGreatProg
import Derived.Shelf.SlSortCmp.NoneTotal
open Go Go.Lft Go.Proofs Go.Sort
namespace Go.Proofs
def Tryz.sort143_ren:Go.Shelf.Ren:=⟨fun | 6=>143 | 15=>109 | 14=>207 | 28=>178 | 29=>179 | 20=>258 | 21=>259 | 22=>260 | 23=>261 | 24=>262 | 25=>263 | 26=>264 | 27=>265 | 46=>284 | 47=>230 | 48=>231 | 49=>285 | 50=>286 | 57=>296 | n=>n,fun | 22=>67 | 24=>118 | 25=>204 | 3=>3 | 39=>181 | 0=>0 | 53=>236 | 55=>238 | 4=>4 | 46=>230 | 45=>229 | 50=>159 | 5=>5 | 9=>9 | 66=>275 | 70=>279 | 76=>309 | 77=>166 | n=>n,fun n=>n⟩
theorem Tryz.sort143:SlLaysF0.n6 Tryz.prog Tryz.sort143_ren:={
 mixed:=by kernel_rfl,
 f6 := ⟨"slices.SortFunc[[]pagewatch/api.Span,pagewatch/api.Span]", by decide, Tryz.func143.trans (congrArg some (by kernel_rfl))⟩,
 f14 := ⟨"slices.pdqsortCmpFunc[pagewatch/api.Span]", by decide, Tryz.func207.trans (congrArg some (by kernel_rfl))⟩,
 f15:=Tryz.func109.trans (congrArg some (by kernel_rfl)),
 f20 := ⟨"slices.insertionSortCmpFunc[pagewatch/api.Span]", by decide, Tryz.func258.trans (congrArg some (by kernel_rfl))⟩,
 f21 := ⟨"slices.heapSortCmpFunc[pagewatch/api.Span]", by decide, Tryz.func259.trans (congrArg some (by kernel_rfl))⟩,
 f22 := ⟨"slices.breakPatternsCmpFunc[pagewatch/api.Span]", by decide, Tryz.func260.trans (congrArg some (by kernel_rfl))⟩,
 f23 := ⟨"slices.choosePivotCmpFunc[pagewatch/api.Span]", by decide, Tryz.func261.trans (congrArg some (by kernel_rfl))⟩,
 f24 := ⟨"slices.reverseRangeCmpFunc[pagewatch/api.Span]", by decide, Tryz.func262.trans (congrArg some (by kernel_rfl))⟩,
 f25 := ⟨"slices.partialInsertionSortCmpFunc[pagewatch/api.Span]", by decide, Tryz.func263.trans (congrArg some (by kernel_rfl))⟩,
 f26 := ⟨"slices.partitionEqualCmpFunc[pagewatch/api.Span]", by decide, Tryz.func264.trans (congrArg some (by kernel_rfl))⟩,
 f27 := ⟨"slices.partitionCmpFunc[pagewatch/api.Span]", by decide, Tryz.func265.trans (congrArg some (by kernel_rfl))⟩,
 f28:=Tryz.func178.trans (congrArg some (by kernel_rfl)),
 f29:=Tryz.func179.trans (congrArg some (by kernel_rfl)),
 f46 := ⟨"slices.siftDownCmpFunc[pagewatch/api.Span]", by decide, Tryz.func284.trans (congrArg some (by kernel_rfl))⟩,
 f47:=Tryz.func230.trans (congrArg some (by kernel_rfl)),
 f48:=Tryz.func231.trans (congrArg some (by kernel_rfl)),
 f49 := ⟨"slices.medianAdjacentCmpFunc[pagewatch/api.Span]", by decide, Tryz.func285.trans (congrArg some (by kernel_rfl))⟩,
 f50 := ⟨"slices.medianCmpFunc[pagewatch/api.Span]", by decide, Tryz.func286.trans (congrArg some (by kernel_rfl))⟩,
 f57 := ⟨"slices.order2CmpFunc[pagewatch/api.Span]", by decide, Tryz.func296.trans (congrArg some (by kernel_rfl))⟩,
 t0:=Tryz.underlying0,
 a0:=Tryz.isAgg0,
 z0:=Tryz.sizeOf0,
 v0:=Tryz.zeroValue0,
 t3:=Tryz.underlying3,
 a3:=Tryz.isAgg3,
 z3:=Tryz.sizeOf3,
 v3:=Tryz.zeroValue3,
 t4:=Tryz.underlying4,
 a4:=Tryz.isAgg4,
 z4:=Tryz.sizeOf4,
 v4:=Tryz.zeroValue4,
 t5:=Tryz.underlying5,
 a5:=Tryz.isAgg5,
 z5:=Tryz.sizeOf5,
 v5:=Tryz.zeroValue5,
 t9:=Tryz.underlying9,
 a9:=Tryz.isAgg9,
 z9:=Tryz.sizeOf9,
 v9:=Tryz.zeroValue9,
 t22:=Tryz.underlying67,
 a22:=Tryz.isAgg67,
 z22:=Tryz.sizeOf67,
 v22:=Tryz.zeroValue67,
 t25:=Tryz.underlying204,
 a25:=Tryz.isAgg204,
 z25:=Tryz.sizeOf204,
 v25:=Tryz.zeroValue204,
 t39:=Tryz.underlying181,
 a39:=Tryz.isAgg181,
 z39:=Tryz.sizeOf181,
 v39:=Tryz.zeroValue181,
 t45:=Tryz.underlying229,
 a45:=Tryz.isAgg229,
 z45:=Tryz.sizeOf229,
 v45:=Tryz.zeroValue229,
 t46:=Tryz.underlying230,
 a46:=Tryz.isAgg230,
 z46:=Tryz.sizeOf230,
 v46:=Tryz.zeroValue230,
 t50:=Tryz.underlying159,
 a50:=Tryz.isAgg159,
 z50:=Tryz.sizeOf159,
 v50:=Tryz.zeroValue159,
 t53:=Tryz.underlying236,
 a53:=Tryz.isAgg236,
 z53:=Tryz.sizeOf236,
 v53:=Tryz.zeroValue236,
 t55:=Tryz.underlying238,
 a55:=Tryz.isAgg238,
 z55:=Tryz.sizeOf238,
 v55:=Tryz.zeroValue238,
 t66:=Tryz.underlying275,
 a66:=Tryz.isAgg275,
 z66:=Tryz.sizeOf275,
 v66:=Tryz.zeroValue275,
 t70:=Tryz.underlying279,
 a70:=Tryz.isAgg279,
 z70:=Tryz.sizeOf279,
 v70:=Tryz.zeroValue279,
 t76:=Tryz.underlying309,
 a76:=Tryz.isAgg309,
 z76:=Tryz.sizeOf309,
 v76:=Tryz.zeroValue309,
 t77:=Tryz.underlying166,
 a77:=Tryz.isAgg166,
 z77:=Tryz.sizeOf166,
 v77:=Tryz.zeroValue166 }
def Tryz.sort131_ren:Go.Shelf.Ren:=⟨fun | 6=>131 | 15=>109 | 14=>198 | 28=>178 | 29=>179 | 20=>247 | 21=>248 | 22=>249 | 23=>250 | 24=>251 | 25=>252 | 26=>253 | 27=>254 | 46=>280 | 47=>230 | 48=>231 | 49=>281 | 50=>282 | 57=>295 | n=>n,fun | 22=>36 | 24=>41 | 25=>196 | 3=>3 | 39=>181 | 0=>0 | 53=>236 | 55=>238 | 4=>4 | 46=>230 | 45=>229 | 50=>159 | 5=>5 | 9=>9 | 66=>275 | 70=>279 | 76=>309 | 77=>166 | n=>n,fun n=>n⟩
theorem Tryz.sort131:SlLaysF0.n6 Tryz.prog Tryz.sort131_ren:={
 mixed:=by kernel_rfl,
 f6 := ⟨"slices.SortFunc[[]pagewatch/api.Segment,pagewatch/api.Segment]", by decide, Tryz.func131.trans (congrArg some (by kernel_rfl))⟩,
 f14 := ⟨"slices.pdqsortCmpFunc[pagewatch/api.Segment]", by decide, Tryz.func198.trans (congrArg some (by kernel_rfl))⟩,
 f15:=Tryz.func109.trans (congrArg some (by kernel_rfl)),
 f20 := ⟨"slices.insertionSortCmpFunc[pagewatch/api.Segment]", by decide, Tryz.func247.trans (congrArg some (by kernel_rfl))⟩,
 f21 := ⟨"slices.heapSortCmpFunc[pagewatch/api.Segment]", by decide, Tryz.func248.trans (congrArg some (by kernel_rfl))⟩,
 f22 := ⟨"slices.breakPatternsCmpFunc[pagewatch/api.Segment]", by decide, Tryz.func249.trans (congrArg some (by kernel_rfl))⟩,
 f23 := ⟨"slices.choosePivotCmpFunc[pagewatch/api.Segment]", by decide, Tryz.func250.trans (congrArg some (by kernel_rfl))⟩,
 f24 := ⟨"slices.reverseRangeCmpFunc[pagewatch/api.Segment]", by decide, Tryz.func251.trans (congrArg some (by kernel_rfl))⟩,
 f25 := ⟨"slices.partialInsertionSortCmpFunc[pagewatch/api.Segment]", by decide, Tryz.func252.trans (congrArg some (by kernel_rfl))⟩,
 f26 := ⟨"slices.partitionEqualCmpFunc[pagewatch/api.Segment]", by decide, Tryz.func253.trans (congrArg some (by kernel_rfl))⟩,
 f27 := ⟨"slices.partitionCmpFunc[pagewatch/api.Segment]", by decide, Tryz.func254.trans (congrArg some (by kernel_rfl))⟩,
 f28:=Tryz.func178.trans (congrArg some (by kernel_rfl)),
 f29:=Tryz.func179.trans (congrArg some (by kernel_rfl)),
 f46 := ⟨"slices.siftDownCmpFunc[pagewatch/api.Segment]", by decide, Tryz.func280.trans (congrArg some (by kernel_rfl))⟩,
 f47:=Tryz.func230.trans (congrArg some (by kernel_rfl)),
 f48:=Tryz.func231.trans (congrArg some (by kernel_rfl)),
 f49 := ⟨"slices.medianAdjacentCmpFunc[pagewatch/api.Segment]", by decide, Tryz.func281.trans (congrArg some (by kernel_rfl))⟩,
 f50 := ⟨"slices.medianCmpFunc[pagewatch/api.Segment]", by decide, Tryz.func282.trans (congrArg some (by kernel_rfl))⟩,
 f57 := ⟨"slices.order2CmpFunc[pagewatch/api.Segment]", by decide, Tryz.func295.trans (congrArg some (by kernel_rfl))⟩,
 t0:=Tryz.underlying0,
 a0:=Tryz.isAgg0,
 z0:=Tryz.sizeOf0,
 v0:=Tryz.zeroValue0,
 t3:=Tryz.underlying3,
 a3:=Tryz.isAgg3,
 z3:=Tryz.sizeOf3,
 v3:=Tryz.zeroValue3,
 t4:=Tryz.underlying4,
 a4:=Tryz.isAgg4,
 z4:=Tryz.sizeOf4,
 v4:=Tryz.zeroValue4,
 t5:=Tryz.underlying5,
 a5:=Tryz.isAgg5,
 z5:=Tryz.sizeOf5,
 v5:=Tryz.zeroValue5,
 t9:=Tryz.underlying9,
 a9:=Tryz.isAgg9,
 z9:=Tryz.sizeOf9,
 v9:=Tryz.zeroValue9,
 t22:=Tryz.underlying36,
 a22:=Tryz.isAgg36,
 z22:=Tryz.sizeOf36,
 v22:=Tryz.zeroValue36,
 t25:=Tryz.underlying196,
 a25:=Tryz.isAgg196,
 z25:=Tryz.sizeOf196,
 v25:=Tryz.zeroValue196,
 t39:=Tryz.underlying181,
 a39:=Tryz.isAgg181,
 z39:=Tryz.sizeOf181,
 v39:=Tryz.zeroValue181,
 t45:=Tryz.underlying229,
 a45:=Tryz.isAgg229,
 z45:=Tryz.sizeOf229,
 v45:=Tryz.zeroValue229,
 t46:=Tryz.underlying230,
 a46:=Tryz.isAgg230,
 z46:=Tryz.sizeOf230,
 v46:=Tryz.zeroValue230,
 t50:=Tryz.underlying159,
 a50:=Tryz.isAgg159,
 z50:=Tryz.sizeOf159,
 v50:=Tryz.zeroValue159,
 t53:=Tryz.underlying236,
 a53:=Tryz.isAgg236,
 z53:=Tryz.sizeOf236,
 v53:=Tryz.zeroValue236,
 t55:=Tryz.underlying238,
 a55:=Tryz.isAgg238,
 z55:=Tryz.sizeOf238,
 v55:=Tryz.zeroValue238,
 t66:=Tryz.underlying275,
 a66:=Tryz.isAgg275,
 z66:=Tryz.sizeOf275,
 v66:=Tryz.zeroValue275,
 t70:=Tryz.underlying279,
 a70:=Tryz.isAgg279,
 z70:=Tryz.sizeOf279,
 v70:=Tryz.zeroValue279,
 t76:=Tryz.underlying309,
 a76:=Tryz.isAgg309,
 z76:=Tryz.sizeOf309,
 v76:=Tryz.zeroValue309,
 t77:=Tryz.underlying166,
 a77:=Tryz.isAgg166,
 z77:=Tryz.sizeOf166,
 v77:=Tryz.zeroValue166 }
def Tryz.sort73_ren:Go.Shelf.Ren:=⟨fun | 6=>73 | 15=>109 | 14=>108 | 28=>178 | 29=>179 | 20=>170 | 21=>171 | 22=>172 | 23=>173 | 24=>174 | 25=>175 | 26=>176 | 27=>177 | 46=>229 | 47=>230 | 48=>231 | 49=>232 | 50=>233 | 57=>274 | n=>n,fun | 22=>81 | 24=>85 | 25=>144 | 3=>3 | 39=>181 | 0=>0 | 53=>236 | 55=>238 | 4=>4 | 46=>230 | 45=>229 | 50=>159 | 5=>5 | 9=>9 | 66=>275 | 70=>279 | 76=>309 | 77=>166 | n=>n,fun n=>n⟩
theorem Tryz.sort73:SlLaysF0.n6 Tryz.prog Tryz.sort73_ren:={
 mixed:=by kernel_rfl,
 f6 := ⟨"slices.SortFunc[[]pagewatch/api.Violation,pagewatch/api.Violation]", by decide, Tryz.func73.trans (congrArg some (by kernel_rfl))⟩,
 f14 := ⟨"slices.pdqsortCmpFunc[pagewatch/api.Violation]", by decide, Tryz.func108.trans (congrArg some (by kernel_rfl))⟩,
 f15:=Tryz.func109.trans (congrArg some (by kernel_rfl)),
 f20 := ⟨"slices.insertionSortCmpFunc[pagewatch/api.Violation]", by decide, Tryz.func170.trans (congrArg some (by kernel_rfl))⟩,
 f21 := ⟨"slices.heapSortCmpFunc[pagewatch/api.Violation]", by decide, Tryz.func171.trans (congrArg some (by kernel_rfl))⟩,
 f22 := ⟨"slices.breakPatternsCmpFunc[pagewatch/api.Violation]", by decide, Tryz.func172.trans (congrArg some (by kernel_rfl))⟩,
 f23 := ⟨"slices.choosePivotCmpFunc[pagewatch/api.Violation]", by decide, Tryz.func173.trans (congrArg some (by kernel_rfl))⟩,
 f24 := ⟨"slices.reverseRangeCmpFunc[pagewatch/api.Violation]", by decide, Tryz.func174.trans (congrArg some (by kernel_rfl))⟩,
 f25 := ⟨"slices.partialInsertionSortCmpFunc[pagewatch/api.Violation]", by decide, Tryz.func175.trans (congrArg some (by kernel_rfl))⟩,
 f26 := ⟨"slices.partitionEqualCmpFunc[pagewatch/api.Violation]", by decide, Tryz.func176.trans (congrArg some (by kernel_rfl))⟩,
 f27 := ⟨"slices.partitionCmpFunc[pagewatch/api.Violation]", by decide, Tryz.func177.trans (congrArg some (by kernel_rfl))⟩,
 f28:=Tryz.func178.trans (congrArg some (by kernel_rfl)),
 f29:=Tryz.func179.trans (congrArg some (by kernel_rfl)),
 f46 := ⟨"slices.siftDownCmpFunc[pagewatch/api.Violation]", by decide, Tryz.func229.trans (congrArg some (by kernel_rfl))⟩,
 f47:=Tryz.func230.trans (congrArg some (by kernel_rfl)),
 f48:=Tryz.func231.trans (congrArg some (by kernel_rfl)),
 f49 := ⟨"slices.medianAdjacentCmpFunc[pagewatch/api.Violation]", by decide, Tryz.func232.trans (congrArg some (by kernel_rfl))⟩,
 f50 := ⟨"slices.medianCmpFunc[pagewatch/api.Violation]", by decide, Tryz.func233.trans (congrArg some (by kernel_rfl))⟩,
 f57 := ⟨"slices.order2CmpFunc[pagewatch/api.Violation]", by decide, Tryz.func274.trans (congrArg some (by kernel_rfl))⟩,
 t0:=Tryz.underlying0,
 a0:=Tryz.isAgg0,
 z0:=Tryz.sizeOf0,
 v0:=Tryz.zeroValue0,
 t3:=Tryz.underlying3,
 a3:=Tryz.isAgg3,
 z3:=Tryz.sizeOf3,
 v3:=Tryz.zeroValue3,
 t4:=Tryz.underlying4,
 a4:=Tryz.isAgg4,
 z4:=Tryz.sizeOf4,
 v4:=Tryz.zeroValue4,
 t5:=Tryz.underlying5,
 a5:=Tryz.isAgg5,
 z5:=Tryz.sizeOf5,
 v5:=Tryz.zeroValue5,
 t9:=Tryz.underlying9,
 a9:=Tryz.isAgg9,
 z9:=Tryz.sizeOf9,
 v9:=Tryz.zeroValue9,
 t22:=Tryz.underlying81,
 a22:=Tryz.isAgg81,
 z22:=Tryz.sizeOf81,
 v22:=Tryz.zeroValue81,
 t25:=Tryz.underlying144,
 a25:=Tryz.isAgg144,
 z25:=Tryz.sizeOf144,
 v25:=Tryz.zeroValue144,
 t39:=Tryz.underlying181,
 a39:=Tryz.isAgg181,
 z39:=Tryz.sizeOf181,
 v39:=Tryz.zeroValue181,
 t45:=Tryz.underlying229,
 a45:=Tryz.isAgg229,
 z45:=Tryz.sizeOf229,
 v45:=Tryz.zeroValue229,
 t46:=Tryz.underlying230,
 a46:=Tryz.isAgg230,
 z46:=Tryz.sizeOf230,
 v46:=Tryz.zeroValue230,
 t50:=Tryz.underlying159,
 a50:=Tryz.isAgg159,
 z50:=Tryz.sizeOf159,
 v50:=Tryz.zeroValue159,
 t53:=Tryz.underlying236,
 a53:=Tryz.isAgg236,
 z53:=Tryz.sizeOf236,
 v53:=Tryz.zeroValue236,
 t55:=Tryz.underlying238,
 a55:=Tryz.isAgg238,
 z55:=Tryz.sizeOf238,
 v55:=Tryz.zeroValue238,
 t66:=Tryz.underlying275,
 a66:=Tryz.isAgg275,
 z66:=Tryz.sizeOf275,
 v66:=Tryz.zeroValue275,
 t70:=Tryz.underlying279,
 a70:=Tryz.isAgg279,
 z70:=Tryz.sizeOf279,
 v70:=Tryz.zeroValue279,
 t76:=Tryz.underlying309,
 a76:=Tryz.isAgg309,
 z76:=Tryz.sizeOf309,
 v76:=Tryz.zeroValue309,
 t77:=Tryz.underlying166,
 a77:=Tryz.isAgg166,
 z77:=Tryz.sizeOf166,
 v77:=Tryz.zeroValue166 }
namespace Pk
set_option maxHeartbeats 1000000 in
theorem jpG (x y:Ty.den ((.pair (.int .i64) (.int .i64)))) (w:World) (_:j6R ((.pair (.int .i64) (.int .i64))) x=true) (_:j6R ((.pair (.int .i64) (.int .i64))) y=true) :
  Calls Tryz.prog 144 #[.agg (encT ((.pair (.int .i64) (.int .i64))) x).toArray,.agg (encT ((.pair (.int .i64) (.int .i64))) y).toArray] w fun e w'=>e = .returned (.int .i64 ((Pw.jaW x y).getD 0))∧∃ q os',w'=grow (w.drewN q) os':=by
 change Calls Tryz.prog 144 #[.agg #[.int .i64 x.1,.int .i64 x.2],.agg #[.int .i64 y.1,.int .i64 y.2]] w fun e w'=>e = .returned (.int .i64 (w64 (x.1-y.1)))∧∃ q os',w'=grow (w.drewN q) os'
 go_enter Tryz.func144,Tryz.ntmps144
 go_wp2
 go_ret
 refine ⟨?_,0,_,by rw [alloc_eq_grow,alloc_eq_grow,grow_grow];rfl⟩
 rw [show w64 (x.1-y.1)=RowKit.wrap64 (x.1-y.1) from IntWalk.i64_left _];rfl
theorem jpH:SWO (ltOf fun (x y:Sml ((.pair (.int .i64) (.int .i64))))=>(Pw.jaW x.1 y.1).getD 0):=by
 refine jsS (fun x=>x.1.1) (fun x=> ?_) _ fun x y=>rfl
 have:=x.2
 simp only [j6R,Bool.and_eq_true,decide_eq_true_eq] at this
 first | exact this | exact this.1 | exact this.2 | exact this.1.1 | exact this.1.2 | exact this.2.1 | exact this.2.2 | exact this.2.1.1 | exact this.2.2.1
set_option maxHeartbeats 1000000 in
theorem jpI (x y:Ty.den ((.pair (.int .i64) (.pair (.int .i64) (.int .i64))))) (w:World) (_:j6R ((.pair (.int .i64) (.pair (.int .i64) (.int .i64)))) x=true) (_:j6R ((.pair (.int .i64) (.pair (.int .i64) (.int .i64)))) y=true) :
  Calls Tryz.prog 132 #[.agg (encT ((.pair (.int .i64) (.pair (.int .i64) (.int .i64)))) x).toArray,.agg (encT ((.pair (.int .i64) (.pair (.int .i64) (.int .i64)))) y).toArray] w fun e w'=>e = .returned (.int .i64 ((Pw.j5r x y).getD 0))∧∃ q os',w'=grow (w.drewN q) os':=by
 change Calls Tryz.prog 132 #[.agg #[.int .i64 x.1,.int .i64 x.2.1,.int .i64 x.2.2],.agg #[.int .i64 y.1,.int .i64 y.2.1,.int .i64 y.2.2]] w fun e w'=>e = .returned (.int .i64 (w64 (x.1-y.1)))∧∃ q os',w'=grow (w.drewN q) os'
 go_enter Tryz.func132,Tryz.ntmps132
 go_wp2
 go_ret
 refine ⟨?_,0,_,by rw [alloc_eq_grow,alloc_eq_grow,grow_grow];rfl⟩
 rw [show w64 (x.1-y.1)=RowKit.wrap64 (x.1-y.1) from IntWalk.i64_left _];rfl
theorem jpJ:SWO (ltOf fun (x y:Sml ((.pair (.int .i64) (.pair (.int .i64) (.int .i64)))))=>(Pw.j5r x.1 y.1).getD 0):=by
 refine jsS (fun x=>x.1.1) (fun x=> ?_) _ fun x y=>rfl
 have:=x.2
 simp only [j6R,Bool.and_eq_true,decide_eq_true_eq] at this
 first | exact this | exact this.1 | exact this.2 | exact this.1.1 | exact this.1.2 | exact this.2.1 | exact this.2.2 | exact this.2.1.1 | exact this.2.2.1
theorem jv3 {α:Type} (k1 k2 k3:α→Int) (h1:∀ x, -1152921504606846976≤k1 x∧k1 x≤1152921504606846976) (h2:∀ x, -1152921504606846976≤k2 x∧k2 x≤1152921504606846976) (h3:∀ x, -1152921504606846976≤k3 x∧k3 x≤1152921504606846976)
  (cf:α→α→Int) (h:∀ x y,cf x y=(cond (k1 x != k1 y) (some (w64 (k1 x-k1 y))) (cond (k2 x != k2 y) (some (w64 (k2 x-k2 y))) (some (w64 (k3 x-k3 y))))).getD 0):SWO (ltOf cf):=by
 have e:∀ x y,ltOf cf x y=decide (k1 x<k1 y∨k1 x=k1 y∧(k2 x<k2 y∨k2 x=k2 y∧k3 x<k3 y)):=by
  intro x y
  have a1:=h1 x;have a2:=h1 y;have b1:=h2 x;have b2:=h2 y;have c1:=h3 x;have c2:=h3 y
  simp only [ltOf,h]
  by_cases q1:k1 x=k1 y
  ·rw [show (k1 x != k1 y)=false by simp [q1],j6]
   by_cases q2:k2 x=k2 y
   ·rw [show (k2 x != k2 y)=false by simp [q2],j6,Option.getD_some,j06 (by omega) (by omega)]
    exact decide_eq_decide.2 (by omega)
   ·rw [show (k2 x != k2 y)=true by simp [q2],j5,Option.getD_some,j06 (by omega) (by omega)]
    exact decide_eq_decide.2 (by omega)
  ·rw [show (k1 x != k1 y)=true by simp [q1],j5,Option.getD_some,j06 (by omega) (by omega)]
   exact decide_eq_decide.2 (by omega)
 refine ⟨fun x=> ?_,fun x y z=> ?_,fun x y z=> ?_⟩
 ·rw [e];simp
 ·rw [e,e,e];simp only [decide_eq_true_eq];omega
 ·rw [e,e,e];simp only [decide_eq_false_iff_not];omega
set_option maxHeartbeats 1000000 in
theorem jrr (x y:Ty.den ((.pair (.int .i64) (.pair (.int .i64) (.int .i64))))) (w:World) (_:j6R ((.pair (.int .i64) (.pair (.int .i64) (.int .i64)))) x=true) (_:j6R ((.pair (.int .i64) (.pair (.int .i64) (.int .i64)))) y=true) :
  Calls Tryz.prog 74 #[.agg (encT ((.pair (.int .i64) (.pair (.int .i64) (.int .i64)))) x).toArray,.agg (encT ((.pair (.int .i64) (.pair (.int .i64) (.int .i64)))) y).toArray] w fun e w'=>e = .returned (.int .i64 ((Pw.jcx x y).getD 0))∧∃ q os',w'=grow (w.drewN q) os':=by
 change Calls Tryz.prog 74 #[.agg #[.int .i64 x.1,.int .i64 x.2.1,.int .i64 x.2.2],.agg #[.int .i64 y.1,.int .i64 y.2.1,.int .i64 y.2.2]] w fun e w'=>e = .returned (.int .i64 ((cond (x.2.2 != y.2.2) (some (w64 (x.2.2-y.2.2))) (cond (x.1 != y.1) (some (w64 (x.1-y.1))) (some (w64 (x.2.1-y.2.1))))).getD 0))∧∃ q os',w'=grow (w.drewN q) os'
 generalize x.2.2=x1 at *
 generalize x.1=x2 at *
 generalize x.2.1=x3 at *
 generalize y.2.2=y1 at *
 generalize y.1=y2 at *
 generalize y.2.1=y3 at *
 by_cases q1:x1=y1
 ·subst q1
  by_cases q2:x2=y2
  ·subst q2
   simp only [bne_self_eq_false,j6,Option.getD_some]
   go_enter Tryz.func74,Tryz.ntmps74
   go_wp2
   go_ret
   refine ⟨?_,0,_,by rw [alloc_eq_grow,alloc_eq_grow,grow_grow];rfl⟩
   rw [show w64 (x3-y3)=RowKit.wrap64 (x3-y3) from IntWalk.i64_left _];rfl
  ·have q3:(x2 != y2)=true:=by simp [q2]
   rw [q3]
   simp only [bne_self_eq_false,j6,j5,Option.getD_some]
   go_enter Tryz.func74,Tryz.ntmps74
   go_wp2
   all_goals first
    | exact absurd (q3.symm.trans ‹(x2 != y2)=false›) (by decide)
    | (go_ret
       refine ⟨?_,0,_,by rw [alloc_eq_grow,alloc_eq_grow,grow_grow];rfl⟩
       rw [show w64 (x2-y2)=RowKit.wrap64 (x2-y2) from IntWalk.i64_left _];rfl)
 ·have q3:(x1 != y1)=true:=by simp [q1]
  rw [q3]
  simp only [j5,Option.getD_some]
  go_enter Tryz.func74,Tryz.ntmps74
  go_wp2
  all_goals first
   | exact absurd (q3.symm.trans ‹(x1 != y1)=false›) (by decide)
   | (go_ret
      refine ⟨?_,0,_,by rw [alloc_eq_grow,alloc_eq_grow,grow_grow];rfl⟩
      rw [show w64 (x1-y1)=RowKit.wrap64 (x1-y1) from IntWalk.i64_left _];rfl)
theorem jrs:SWO (ltOf fun (x y:Sml ((.pair (.int .i64) (.pair (.int .i64) (.int .i64)))))=>(Pw.jcx x.1 y.1).getD 0):=by
 have key:∀ x:Sml ((.pair (.int .i64) (.pair (.int .i64) (.int .i64)))),(-1152921504606846976≤(x.1.1:Int)∧(x.1.1:Int)≤1152921504606846976)∧(-1152921504606846976≤(x.1.2.1:Int)∧(x.1.2.1:Int)≤1152921504606846976)∧(-1152921504606846976≤(x.1.2.2:Int)∧(x.1.2.2:Int)≤1152921504606846976):=fun x=>by
  have:=x.2
  simp only [j6R,Bool.and_eq_true,decide_eq_true_eq] at this
  exact this
 exact jv3 (fun x=>x.1.2.2) (fun x=>x.1.1) (fun x=>x.1.2.1) (fun x=>by first | exact (key x).1 | exact (key x).2.1 | exact (key x).2.2) (fun x=>by first | exact (key x).1 | exact (key x).2.1 | exact (key x).2.2)
  (fun x=>by first | exact (key x).1 | exact (key x).2.1 | exact (key x).2.2) _ fun x y=>rfl
end Pk
end Go.Proofs
