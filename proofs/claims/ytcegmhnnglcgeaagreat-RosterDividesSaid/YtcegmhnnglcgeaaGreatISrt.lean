/- Where slices.SortFunc lies, and what its comparing functions do; printed by a program. -/
import Derived.Test.YtcegmhnnglcgeaaGreatIFns
import Derived.Test.YtcegmhnnglcgeaaGreatProg
import Derived.Shelf.SlSortCmp.NoneTotal
open Go Go.Lft Go.Proofs Go.Sort
namespace Go.Proofs
def Tryz.sort143_ren:Go.Shelf.Ren:=⟨fun | 6=>143 | 15=>109 | 14=>207 | 28=>178 | 29=>179 | 20=>258 | 21=>259 | 22=>260 | 23=>261 | 24=>262 | 25=>263 | 26=>264 | 27=>265 | 46=>284 | 47=>230 | 48=>231 | 49=>285 | 50=>286 | 57=>296 | n=>n,fun | 22=>67 | 24=>118 | 25=>204 | 3=>3 | 39=>181 | 0=>0 | 53=>236 | 55=>238 | 4=>4 | 46=>230 | 45=>229 | 50=>159 | 5=>5 | 9=>9 | 66=>275 | 70=>279 | 76=>309 | 77=>166 | n=>n,fun n=>n⟩
theorem Tryz.sort143:SlLaysF0.n6 Tryz.prog Tryz.sort143_ren:={
 mixed:=by kernel_rfl,
 f6 := ⟨"slices.SortFunc[[]pagewatch/api.Span,pagewatch/api.Span]", by decide, Tryz.func143.trans (congrArg some (by kernel_rfl))⟩,
 f14 := ⟨"slices.pdqsortCmpFunc[pagewatch/api.Span]", by decide, Tryz.func207.trans (congrArg some (by kernel_rfl))⟩,
 f15:=Tryz.func109.trans (congrArg some (by kernel_rfl)),
 f20 := ⟨"slices.insertionSortCmpFunc[pagewatch/api.Span]", by decide, Tryz.func258.trans (congrArg some (by kernel_rfl))⟩,
 f21 := ⟨"slices.heapSortCmpFunc[pagewatch/api.Span]", by decide, Tryz.func259.trans (congrArg some (by kernel_rfl))⟩,
 f22 := ⟨"slices.breakPatternsCmpFunc[pagewatch/api.Span]", by decide, Tryz.func260.trans (congrArg some (by kernel_rfl))⟩,
 f23 := ⟨"slices.choosePivotCmpFunc[pagewatch/api.Span]", by decide, Tryz.func261.trans (congrArg some (by kernel_rfl))⟩,
 f24 := ⟨"slices.reverseRangeCmpFunc[pagewatch/api.Span]", by decide, Tryz.func262.trans (congrArg some (by kernel_rfl))⟩,
 f25 := ⟨"slices.partialInsertionSortCmpFunc[pagewatch/api.Span]", by decide, Tryz.func263.trans (congrArg some (by kernel_rfl))⟩,
 f26 := ⟨"slices.partitionEqualCmpFunc[pagewatch/api.Span]", by decide, Tryz.func264.trans (congrArg some (by kernel_rfl))⟩,
 f27 := ⟨"slices.partitionCmpFunc[pagewatch/api.Span]", by decide, Tryz.func265.trans (congrArg some (by kernel_rfl))⟩,
 f28:=Tryz.func178.trans (congrArg some (by kernel_rfl)),
 f29:=Tryz.func179.trans (congrArg some (by kernel_rfl)),
 f46 := ⟨"slices.siftDownCmpFunc[pagewatch/api.Span]", by decide, Tryz.func284.trans (congrArg some (by kernel_rfl))⟩,
 f47:=Tryz.func230.trans (congrArg some (by kernel_rfl)),
 f48:=Tryz.func231.trans (congrArg some (by kernel_rfl)),
 f49 := ⟨"slices.medianAdjacentCmpFunc[pagewatch/api.Span]", by decide, Tryz.func285.trans (congrArg some (by kernel_rfl))⟩,
 f50 := ⟨"slices.medianCmpFunc[pagewatch/api.Span]", by decide, Tryz.func286.trans (congrArg some (by kernel_rfl))⟩,
 f57 := ⟨"slices.order2CmpFunc[pagewatch/api.Span]", by decide, Tryz.func296.trans (congrArg some (by kernel_rfl))⟩,
 t0:=Tryz.underlying0,
 a0:=Tryz.isAgg0,
 z0:=Tryz.sizeOf0,
 v0:=Tryz.zeroValue0,
 t3:=Tryz.underlying3,
 a3:=Tryz.isAgg3,
 z3:=Tryz.sizeOf3,
 v3:=Tryz.zeroValue3,
 t4:=Tryz.underlying4,
 a4:=Tryz.isAgg4,
 z4:=Tryz.sizeOf4,
 v4:=Tryz.zeroValue4,
 t5:=Tryz.underlying5,
 a5:=Tryz.isAgg5,
 z5:=Tryz.sizeOf5,
 v5:=Tryz.zeroValue5,
 t9:=Tryz.underlying9,
 a9:=Tryz.isAgg9,
 z9:=Tryz.sizeOf9,
 v9:=Tryz.zeroValue9,
 t22:=Tryz.underlying67,
 a22:=Tryz.isAgg67,
 z22:=Tryz.sizeOf67,
 v22:=Tryz.zeroValue67,
 t25:=Tryz.underlying204,
 a25:=Tryz.isAgg204,
 z25:=Tryz.sizeOf204,
 v25:=Tryz.zeroValue204,
 t39:=Tryz.underlying181,
 a39:=Tryz.isAgg181,
 z39:=Tryz.sizeOf181,
 v39:=Tryz.zeroValue181,
 t45:=Tryz.underlying229,
 a45:=Tryz.isAgg229,
 z45:=Tryz.sizeOf229,
 v45:=Tryz.zeroValue229,
 t46:=Tryz.underlying230,
 a46:=Tryz.isAgg230,
 z46:=Tryz.sizeOf230,
 v46:=Tryz.zeroValue230,
 t50:=Tryz.underlying159,
 a50:=Tryz.isAgg159,
 z50:=Tryz.sizeOf159,
 v50:=Tryz.zeroValue159,
 t53:=Tryz.underlying236,
 a53:=Tryz.isAgg236,
 z53:=Tryz.sizeOf236,
 v53:=Tryz.zeroValue236,
 t55:=Tryz.underlying238,
 a55:=Tryz.isAgg238,
 z55:=Tryz.sizeOf238,
 v55:=Tryz.zeroValue238,
 t66:=Tryz.underlying275,
 a66:=Tryz.isAgg275,
 z66:=Tryz.sizeOf275,
 v66:=Tryz.zeroValue275,
 t70:=Tryz.underlying279,
 a70:=Tryz.isAgg279,
 z70:=Tryz.sizeOf279,
 v70:=Tryz.zeroValue279,
 t76:=Tryz.underlying309,
 a76:=Tryz.isAgg309,
 z76:=Tryz.sizeOf309,
 v76:=Tryz.zeroValue309,
 t77:=Tryz.underlying166,
 a77:=Tryz.isAgg166,
 z77:=Tryz.sizeOf166,
 v77:=Tryz.zeroValue166 }
def Tryz.sort131_ren:Go.Shelf.Ren:=⟨fun | 6=>131 | 15=>109 | 14=>198 | 28=>178 | 29=>179 | 20=>247 | 21=>248 | 22=>249 | 23=>250 | 24=>251 | 25=>252 | 26=>253 | 27=>254 | 46=>280 | 47=>230 | 48=>231 | 49=>281 | 50=>282 | 57=>295 | n=>n,fun | 22=>36 | 24=>41 | 25=>196 | 3=>3 | 39=>181 | 0=>0 | 53=>236 | 55=>238 | 4=>4 | 46=>230 | 45=>229 | 50=>159 | 5=>5 | 9=>9 | 66=>275 | 70=>279 | 76=>309 | 77=>166 | n=>n,fun n=>n⟩
theorem Tryz.sort131:SlLaysF0.n6 Tryz.prog Tryz.sort131_ren:={
 mixed:=by kernel_rfl,
 f6 := ⟨"slices.SortFunc[[]pagewatch/api.Segment,pagewatch/api.Segment]", by decide, Tryz.func131.trans (congrArg some (by kernel_rfl))⟩,
 f14 := ⟨"slices.pdqsortCmpFunc[pagewatch/api.Segment]", by decide, Tryz.func198.trans (congrArg some (by kernel_rfl))⟩,
 f15:=Tryz.func109.trans (congrArg some (by kernel_rfl)),
 f20 := ⟨"slices.insertionSortCmpFunc[pagewatch/api.Segment]", by decide, Tryz.func247.trans (congrArg some (by kernel_rfl))⟩,
 f21 := ⟨"slices.heapSortCmpFunc[pagewatch/api.Segment]", by decide, Tryz.func248.trans (congrArg some (by kernel_rfl))⟩,
 f22 := ⟨"slices.breakPatternsCmpFunc[pagewatch/api.Segment]", by decide, Tryz.func249.trans (congrArg some (by kernel_rfl))⟩,
 f23 := ⟨"slices.choosePivotCmpFunc[pagewatch/api.Segment]", by decide, Tryz.func250.trans (congrArg some (by kernel_rfl))⟩,
 f24 := ⟨"slices.reverseRangeCmpFunc[pagewatch/api.Segment]", by decide, Tryz.func251.trans (congrArg some (by kernel_rfl))⟩,
 f25 := ⟨"slices.partialInsertionSortCmpFunc[pagewatch/api.Segment]", by decide, Tryz.func252.trans (congrArg some (by kernel_rfl))⟩,
 f26 := ⟨"slices.partitionEqualCmpFunc[pagewatch/api.Segment]", by decide, Tryz.func253.trans (congrArg some (by kernel_rfl))⟩,
 f27 := ⟨"slices.partitionCmpFunc[pagewatch/api.Segment]", by decide, Tryz.func254.trans (congrArg some (by kernel_rfl))⟩,
 f28:=Tryz.func178.trans (congrArg some (by kernel_rfl)),
 f29:=Tryz.func179.trans (congrArg some (by kernel_rfl)),
 f46 := ⟨"slices.siftDownCmpFunc[pagewatch/api.Segment]", by decide, Tryz.func280.trans (congrArg some (by kernel_rfl))⟩,
 f47:=Tryz.func230.trans (congrArg some (by kernel_rfl)),
 f48:=Tryz.func231.trans (congrArg some (by kernel_rfl)),
 f49 := ⟨"slices.medianAdjacentCmpFunc[pagewatch/api.Segment]", by decide, Tryz.func281.trans (congrArg some (by kernel_rfl))⟩,
 f50 := ⟨"slices.medianCmpFunc[pagewatch/api.Segment]", by decide, Tryz.func282.trans (congrArg some (by kernel_rfl))⟩,
 f57 := ⟨"slices.order2CmpFunc[pagewatch/api.Segment]", by decide, Tryz.func295.trans (congrArg some (by kernel_rfl))⟩,
 t0:=Tryz.underlying0,
 a0:=Tryz.isAgg0,
 z0:=Tryz.sizeOf0,
 v0:=Tryz.zeroValue0,
 t3:=Tryz.underlying3,
 a3:=Tryz.isAgg3,
 z3:=Tryz.sizeOf3,
 v3:=Tryz.zeroValue3,
 t4:=Tryz.underlying4,
 a4:=Tryz.isAgg4,
 z4:=Tryz.sizeOf4,
 v4:=Tryz.zeroValue4,
 t5:=Tryz.underlying5,
 a5:=Tryz.isAgg5,
 z5:=Tryz.sizeOf5,
 v5:=Tryz.zeroValue5,
 t9:=Tryz.underlying9,
 a9:=Tryz.isAgg9,
 z9:=Tryz.sizeOf9,
 v9:=Tryz.zeroValue9,
 t22:=Tryz.underlying36,
 a22:=Tryz.isAgg36,
 z22:=Tryz.sizeOf36,
 v22:=Tryz.zeroValue36,
 t25:=Tryz.underlying196,
 a25:=Tryz.isAgg196,
 z25:=Tryz.sizeOf196,
 v25:=Tryz.zeroValue196,
 t39:=Tryz.underlying181,
 a39:=Tryz.isAgg181,
 z39:=Tryz.sizeOf181,
 v39:=Tryz.zeroValue181,
 t45:=Tryz.underlying229,
 a45:=Tryz.isAgg229,
 z45:=Tryz.sizeOf229,
 v45:=Tryz.zeroValue229,
 t46:=Tryz.underlying230,
 a46:=Tryz.isAgg230,
 z46:=Tryz.sizeOf230,
 v46:=Tryz.zeroValue230,
 t50:=Tryz.underlying159,
 a50:=Tryz.isAgg159,
 z50:=Tryz.sizeOf159,
 v50:=Tryz.zeroValue159,
 t53:=Tryz.underlying236,
 a53:=Tryz.isAgg236,
 z53:=Tryz.sizeOf236,
 v53:=Tryz.zeroValue236,
 t55:=Tryz.underlying238,
 a55:=Tryz.isAgg238,
 z55:=Tryz.sizeOf238,
 v55:=Tryz.zeroValue238,
 t66:=Tryz.underlying275,
 a66:=Tryz.isAgg275,
 z66:=Tryz.sizeOf275,
 v66:=Tryz.zeroValue275,
 t70:=Tryz.underlying279,
 a70:=Tryz.isAgg279,
 z70:=Tryz.sizeOf279,
 v70:=Tryz.zeroValue279,
 t76:=Tryz.underlying309,
 a76:=Tryz.isAgg309,
 z76:=Tryz.sizeOf309,
 v76:=Tryz.zeroValue309,
 t77:=Tryz.underlying166,
 a77:=Tryz.isAgg166,
 z77:=Tryz.sizeOf166,
 v77:=Tryz.zeroValue166 }
namespace Pk
set_option maxHeartbeats 1000000 in
theorem jpr (x y:Ty.den ((.pair (.int .i64) (.int .i64)))) (w:World) (_:j64 ((.pair (.int .i64) (.int .i64))) x=true) (_:j64 ((.pair (.int .i64) (.int .i64))) y=true) :
  Calls Tryz.prog 144 #[.agg (encT ((.pair (.int .i64) (.int .i64))) x).toArray,.agg (encT ((.pair (.int .i64) (.int .i64))) y).toArray] w fun e w'=>e = .returned (.int .i64 ((Pw.j72 x y).getD 0))∧∃ q os',w'=grow (w.drewN q) os':=by
 change Calls Tryz.prog 144 #[.agg #[.int .i64 x.1,.int .i64 x.2],.agg #[.int .i64 y.1,.int .i64 y.2]] w fun e w'=>e = .returned (.int .i64 (w64 (x.1-y.1)))∧∃ q os',w'=grow (w.drewN q) os'
 go_enter Tryz.func144,Tryz.ntmps144
 go_wp2
 go_ret
 refine ⟨?_,0,_,by rw [alloc_eq_grow,alloc_eq_grow,grow_grow];rfl⟩
 rw [show w64 (x.1-y.1)=RowKit.wrap64 (x.1-y.1) from IntWalk.i64_left _];rfl
theorem jps:SWO (ltOf fun (x y:Sml ((.pair (.int .i64) (.int .i64))))=>(Pw.j72 x.1 y.1).getD 0):=by
 refine jmB (fun x=>x.1.1) (fun x=> ?_) _ fun x y=>rfl
 have:=x.2
 simp only [j64,Bool.and_eq_true,decide_eq_true_eq] at this
 first | exact this | exact this.1 | exact this.2 | exact this.1.1 | exact this.1.2 | exact this.2.1 | exact this.2.2 | exact this.2.1.1 | exact this.2.2.1
set_option maxHeartbeats 1000000 in
theorem jpt (x y:Ty.den ((.pair (.int .i64) (.pair (.int .i64) (.int .i64))))) (w:World) (_:j64 ((.pair (.int .i64) (.pair (.int .i64) (.int .i64)))) x=true) (_:j64 ((.pair (.int .i64) (.pair (.int .i64) (.int .i64)))) y=true) :
  Calls Tryz.prog 132 #[.agg (encT ((.pair (.int .i64) (.pair (.int .i64) (.int .i64)))) x).toArray,.agg (encT ((.pair (.int .i64) (.pair (.int .i64) (.int .i64)))) y).toArray] w fun e w'=>e = .returned (.int .i64 ((Pw.j3y x y).getD 0))∧∃ q os',w'=grow (w.drewN q) os':=by
 change Calls Tryz.prog 132 #[.agg #[.int .i64 x.1,.int .i64 x.2.1,.int .i64 x.2.2],.agg #[.int .i64 y.1,.int .i64 y.2.1,.int .i64 y.2.2]] w fun e w'=>e = .returned (.int .i64 (w64 (x.1-y.1)))∧∃ q os',w'=grow (w.drewN q) os'
 go_enter Tryz.func132,Tryz.ntmps132
 go_wp2
 go_ret
 refine ⟨?_,0,_,by rw [alloc_eq_grow,alloc_eq_grow,grow_grow];rfl⟩
 rw [show w64 (x.1-y.1)=RowKit.wrap64 (x.1-y.1) from IntWalk.i64_left _];rfl
theorem jpu:SWO (ltOf fun (x y:Sml ((.pair (.int .i64) (.pair (.int .i64) (.int .i64)))))=>(Pw.j3y x.1 y.1).getD 0):=by
 refine jmB (fun x=>x.1.1) (fun x=> ?_) _ fun x y=>rfl
 have:=x.2
 simp only [j64,Bool.and_eq_true,decide_eq_true_eq] at this
 first | exact this | exact this.1 | exact this.2 | exact this.1.1 | exact this.1.2 | exact this.2.1 | exact this.2.2 | exact this.2.1.1 | exact this.2.2.1
end Pk
end Go.Proofs
