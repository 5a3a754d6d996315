/- Where slices.SortFunc lies, and what its comparing functions do; printed by a program. -/
import Derived.Test.YtdfbeioppmgheaaGreatFns
import Derived.Test.YtdfbeioppmgheaaGreatProg
import Derived.Shelf.SlSortCmp.NoneTotal
open Go Go.Lft Go.Proofs Go.Sort
namespace Go.Proofs
def Tryz.sort249_ren : Go.Shelf.Ren := ⟨fun | 6 => 249 | 15 => 193 | 14 => 292 | 28 => 262 | 29 => 263 | 20 => 314 | 21 => 315 | 22 => 316 | 23 => 317 | 24 => 318 | 25 => 319 | 26 => 320 | 27 => 321 | 46 => 340 | 47 => 294 | 48 => 295 | 49 => 341 | 50 => 342 | 57 => 349 | n => n, fun | 22 => 45 | 24 => 96 | 25 => 276 | 3 => 3 | 39 => 231 | 0 => 0 | 53 => 286 | 55 => 288 | 4 => 4 | 46 => 280 | 45 => 279 | 50 => 113 | 5 => 5 | 9 => 9 | 66 => 313 | 70 => 317 | 76 => 333 | 77 => 120 | n => n, fun n => n⟩
theorem Tryz.sort249 : SlLaysF0.n6 Tryz.prog Tryz.sort249_ren := {
 mixed := by kernel_rfl,
 f6 := ⟨"slices.SortFunc[[]pagewatch/api.Span,pagewatch/api.Span]", by decide, Tryz.func249.trans (congrArg some (by kernel_rfl))⟩,
 f14 := ⟨"slices.pdqsortCmpFunc[pagewatch/api.Span]", by decide, Tryz.func292.trans (congrArg some (by kernel_rfl))⟩,
 f15 := Tryz.func193.trans (congrArg some (by kernel_rfl)),
 f20 := ⟨"slices.insertionSortCmpFunc[pagewatch/api.Span]", by decide, Tryz.func314.trans (congrArg some (by kernel_rfl))⟩,
 f21 := ⟨"slices.heapSortCmpFunc[pagewatch/api.Span]", by decide, Tryz.func315.trans (congrArg some (by kernel_rfl))⟩,
 f22 := ⟨"slices.breakPatternsCmpFunc[pagewatch/api.Span]", by decide, Tryz.func316.trans (congrArg some (by kernel_rfl))⟩,
 f23 := ⟨"slices.choosePivotCmpFunc[pagewatch/api.Span]", by decide, Tryz.func317.trans (congrArg some (by kernel_rfl))⟩,
 f24 := ⟨"slices.reverseRangeCmpFunc[pagewatch/api.Span]", by decide, Tryz.func318.trans (congrArg some (by kernel_rfl))⟩,
 f25 := ⟨"slices.partialInsertionSortCmpFunc[pagewatch/api.Span]", by decide, Tryz.func319.trans (congrArg some (by kernel_rfl))⟩,
 f26 := ⟨"slices.partitionEqualCmpFunc[pagewatch/api.Span]", by decide, Tryz.func320.trans (congrArg some (by kernel_rfl))⟩,
 f27 := ⟨"slices.partitionCmpFunc[pagewatch/api.Span]", by decide, Tryz.func321.trans (congrArg some (by kernel_rfl))⟩,
 f28 := Tryz.func262.trans (congrArg some (by kernel_rfl)),
 f29 := Tryz.func263.trans (congrArg some (by kernel_rfl)),
 f46 := ⟨"slices.siftDownCmpFunc[pagewatch/api.Span]", by decide, Tryz.func340.trans (congrArg some (by kernel_rfl))⟩,
 f47 := Tryz.func294.trans (congrArg some (by kernel_rfl)),
 f48 := Tryz.func295.trans (congrArg some (by kernel_rfl)),
 f49 := ⟨"slices.medianAdjacentCmpFunc[pagewatch/api.Span]", by decide, Tryz.func341.trans (congrArg some (by kernel_rfl))⟩,
 f50 := ⟨"slices.medianCmpFunc[pagewatch/api.Span]", by decide, Tryz.func342.trans (congrArg some (by kernel_rfl))⟩,
 f57 := ⟨"slices.order2CmpFunc[pagewatch/api.Span]", by decide, Tryz.func349.trans (congrArg some (by kernel_rfl))⟩,
 t0 := Tryz.underlying0,
 a0 := Tryz.isAgg0,
 z0 := Tryz.sizeOf0,
 v0 := Tryz.zeroValue0,
 t3 := Tryz.underlying3,
 a3 := Tryz.isAgg3,
 z3 := Tryz.sizeOf3,
 v3 := Tryz.zeroValue3,
 t4 := Tryz.underlying4,
 a4 := Tryz.isAgg4,
 z4 := Tryz.sizeOf4,
 v4 := Tryz.zeroValue4,
 t5 := Tryz.underlying5,
 a5 := Tryz.isAgg5,
 z5 := Tryz.sizeOf5,
 v5 := Tryz.zeroValue5,
 t9 := Tryz.underlying9,
 a9 := Tryz.isAgg9,
 z9 := Tryz.sizeOf9,
 v9 := Tryz.zeroValue9,
 t22 := Tryz.underlying45,
 a22 := Tryz.isAgg45,
 z22 := Tryz.sizeOf45,
 v22 := Tryz.zeroValue45,
 t25 := Tryz.underlying276,
 a25 := Tryz.isAgg276,
 z25 := Tryz.sizeOf276,
 v25 := Tryz.zeroValue276,
 t39 := Tryz.underlying231,
 a39 := Tryz.isAgg231,
 z39 := Tryz.sizeOf231,
 v39 := Tryz.zeroValue231,
 t45 := Tryz.underlying279,
 a45 := Tryz.isAgg279,
 z45 := Tryz.sizeOf279,
 v45 := Tryz.zeroValue279,
 t46 := Tryz.underlying280,
 a46 := Tryz.isAgg280,
 z46 := Tryz.sizeOf280,
 v46 := Tryz.zeroValue280,
 t50 := Tryz.underlying113,
 a50 := Tryz.isAgg113,
 z50 := Tryz.sizeOf113,
 v50 := Tryz.zeroValue113,
 t53 := Tryz.underlying286,
 a53 := Tryz.isAgg286,
 z53 := Tryz.sizeOf286,
 v53 := Tryz.zeroValue286,
 t55 := Tryz.underlying288,
 a55 := Tryz.isAgg288,
 z55 := Tryz.sizeOf288,
 v55 := Tryz.zeroValue288,
 t66 := Tryz.underlying313,
 a66 := Tryz.isAgg313,
 z66 := Tryz.sizeOf313,
 v66 := Tryz.zeroValue313,
 t70 := Tryz.underlying317,
 a70 := Tryz.isAgg317,
 z70 := Tryz.sizeOf317,
 v70 := Tryz.zeroValue317,
 t76 := Tryz.underlying333,
 a76 := Tryz.isAgg333,
 z76 := Tryz.sizeOf333,
 v76 := Tryz.zeroValue333,
 t77 := Tryz.underlying120,
 a77 := Tryz.isAgg120,
 z77 := Tryz.sizeOf120,
 v77 := Tryz.zeroValue120 }
def Tryz.sort136_ren : Go.Shelf.Ren := ⟨fun | 6 => 136 | 15 => 193 | 14 => 192 | 28 => 262 | 29 => 263 | 20 => 254 | 21 => 255 | 22 => 256 | 23 => 257 | 24 => 258 | 25 => 259 | 26 => 260 | 27 => 261 | 46 => 293 | 47 => 294 | 48 => 295 | 49 => 296 | 50 => 297 | 57 => 322 | n => n, fun | 22 => 41 | 24 => 49 | 25 => 181 | 3 => 3 | 39 => 231 | 0 => 0 | 53 => 286 | 55 => 288 | 4 => 4 | 46 => 280 | 45 => 279 | 50 => 113 | 5 => 5 | 9 => 9 | 66 => 313 | 70 => 317 | 76 => 333 | 77 => 120 | n => n, fun n => n⟩
theorem Tryz.sort136 : SlLaysF0.n6 Tryz.prog Tryz.sort136_ren := {
 mixed := by kernel_rfl,
 f6 := ⟨"slices.SortFunc[[]pagewatch/api.Segment,pagewatch/api.Segment]", by decide, Tryz.func136.trans (congrArg some (by kernel_rfl))⟩,
 f14 := ⟨"slices.pdqsortCmpFunc[pagewatch/api.Segment]", by decide, Tryz.func192.trans (congrArg some (by kernel_rfl))⟩,
 f15 := Tryz.func193.trans (congrArg some (by kernel_rfl)),
 f20 := ⟨"slices.insertionSortCmpFunc[pagewatch/api.Segment]", by decide, Tryz.func254.trans (congrArg some (by kernel_rfl))⟩,
 f21 := ⟨"slices.heapSortCmpFunc[pagewatch/api.Segment]", by decide, Tryz.func255.trans (congrArg some (by kernel_rfl))⟩,
 f22 := ⟨"slices.breakPatternsCmpFunc[pagewatch/api.Segment]", by decide, Tryz.func256.trans (congrArg some (by kernel_rfl))⟩,
 f23 := ⟨"slices.choosePivotCmpFunc[pagewatch/api.Segment]", by decide, Tryz.func257.trans (congrArg some (by kernel_rfl))⟩,
 f24 := ⟨"slices.reverseRangeCmpFunc[pagewatch/api.Segment]", by decide, Tryz.func258.trans (congrArg some (by kernel_rfl))⟩,
 f25 := ⟨"slices.partialInsertionSortCmpFunc[pagewatch/api.Segment]", by decide, Tryz.func259.trans (congrArg some (by kernel_rfl))⟩,
 f26 := ⟨"slices.partitionEqualCmpFunc[pagewatch/api.Segment]", by decide, Tryz.func260.trans (congrArg some (by kernel_rfl))⟩,
 f27 := ⟨"slices.partitionCmpFunc[pagewatch/api.Segment]", by decide, Tryz.func261.trans (congrArg some (by kernel_rfl))⟩,
 f28 := Tryz.func262.trans (congrArg some (by kernel_rfl)),
 f29 := Tryz.func263.trans (congrArg some (by kernel_rfl)),
 f46 := ⟨"slices.siftDownCmpFunc[pagewatch/api.Segment]", by decide, Tryz.func293.trans (congrArg some (by kernel_rfl))⟩,
 f47 := Tryz.func294.trans (congrArg some (by kernel_rfl)),
 f48 := Tryz.func295.trans (congrArg some (by kernel_rfl)),
 f49 := ⟨"slices.medianAdjacentCmpFunc[pagewatch/api.Segment]", by decide, Tryz.func296.trans (congrArg some (by kernel_rfl))⟩,
 f50 := ⟨"slices.medianCmpFunc[pagewatch/api.Segment]", by decide, Tryz.func297.trans (congrArg some (by kernel_rfl))⟩,
 f57 := ⟨"slices.order2CmpFunc[pagewatch/api.Segment]", by decide, Tryz.func322.trans (congrArg some (by kernel_rfl))⟩,
 t0 := Tryz.underlying0,
 a0 := Tryz.isAgg0,
 z0 := Tryz.sizeOf0,
 v0 := Tryz.zeroValue0,
 t3 := Tryz.underlying3,
 a3 := Tryz.isAgg3,
 z3 := Tryz.sizeOf3,
 v3 := Tryz.zeroValue3,
 t4 := Tryz.underlying4,
 a4 := Tryz.isAgg4,
 z4 := Tryz.sizeOf4,
 v4 := Tryz.zeroValue4,
 t5 := Tryz.underlying5,
 a5 := Tryz.isAgg5,
 z5 := Tryz.sizeOf5,
 v5 := Tryz.zeroValue5,
 t9 := Tryz.underlying9,
 a9 := Tryz.isAgg9,
 z9 := Tryz.sizeOf9,
 v9 := Tryz.zeroValue9,
 t22 := Tryz.underlying41,
 a22 := Tryz.isAgg41,
 z22 := Tryz.sizeOf41,
 v22 := Tryz.zeroValue41,
 t25 := Tryz.underlying181,
 a25 := Tryz.isAgg181,
 z25 := Tryz.sizeOf181,
 v25 := Tryz.zeroValue181,
 t39 := Tryz.underlying231,
 a39 := Tryz.isAgg231,
 z39 := Tryz.sizeOf231,
 v39 := Tryz.zeroValue231,
 t45 := Tryz.underlying279,
 a45 := Tryz.isAgg279,
 z45 := Tryz.sizeOf279,
 v45 := Tryz.zeroValue279,
 t46 := Tryz.underlying280,
 a46 := Tryz.isAgg280,
 z46 := Tryz.sizeOf280,
 v46 := Tryz.zeroValue280,
 t50 := Tryz.underlying113,
 a50 := Tryz.isAgg113,
 z50 := Tryz.sizeOf113,
 v50 := Tryz.zeroValue113,
 t53 := Tryz.underlying286,
 a53 := Tryz.isAgg286,
 z53 := Tryz.sizeOf286,
 v53 := Tryz.zeroValue286,
 t55 := Tryz.underlying288,
 a55 := Tryz.isAgg288,
 z55 := Tryz.sizeOf288,
 v55 := Tryz.zeroValue288,
 t66 := Tryz.underlying313,
 a66 := Tryz.isAgg313,
 z66 := Tryz.sizeOf313,
 v66 := Tryz.zeroValue313,
 t70 := Tryz.underlying317,
 a70 := Tryz.isAgg317,
 z70 := Tryz.sizeOf317,
 v70 := Tryz.zeroValue317,
 t76 := Tryz.underlying333,
 a76 := Tryz.isAgg333,
 z76 := Tryz.sizeOf333,
 v76 := Tryz.zeroValue333,
 t77 := Tryz.underlying120,
 a77 := Tryz.isAgg120,
 z77 := Tryz.sizeOf120,
 v77 := Tryz.zeroValue120 }
namespace Pk
set_option maxHeartbeats 1000000 in
theorem sort250_cmp (x y : Ty.den ((.pair (.int .i64) (.int .i64)))) (w : World) (_ : smallT ((.pair (.int .i64) (.int .i64))) x = true) (_ : smallT ((.pair (.int .i64) (.int .i64))) y = true) :
   Calls Tryz.prog 250 #[.agg (encT ((.pair (.int .i64) (.int .i64))) x).toArray, .agg (encT ((.pair (.int .i64) (.int .i64))) y).toArray] w fun e w' => e = .returned (.int .i64 ((Pw.span_Merge_c2 x y).getD 0)) ∧ ∃ q os', w' = grow (w.drewN q) os' := by
 change Calls Tryz.prog 250 #[.agg #[.int .i64 x.1, .int .i64 x.2], .agg #[.int .i64 y.1, .int .i64 y.2]] w fun e w' => e = .returned (.int .i64 (w64 (x.1 - y.1))) ∧ ∃ q os', w' = grow (w.drewN q) os'
 go_enter Tryz.func250, Tryz.ntmps250
 go_wp2
 go_ret
 refine ⟨?_, 0, _, by rw [alloc_eq_grow, alloc_eq_grow, grow_grow]; rfl⟩
 rw [show w64 (x.1 - y.1) = RowKit.wrap64 (x.1 - y.1) from IntWalk.i64_left _]; rfl
theorem sort250_swo : SWO (ltOf fun (x y : Sml ((.pair (.int .i64) (.int .i64)))) => (Pw.span_Merge_c2 x.1 y.1).getD 0) := by
 refine swo_sub (fun x => x.1.1) (fun x => ?_) _ fun x y => rfl
 have := x.2
 simp only [smallT, Bool.and_eq_true, decide_eq_true_eq] at this
 first | exact this | exact this.1 | exact this.2 | exact this.1.1 | exact this.1.2 | exact this.2.1 | exact this.2.2 | exact this.2.1.1 | exact this.2.2.1
set_option maxHeartbeats 1000000 in
theorem sort137_cmp (x y : Ty.den ((.pair (.int .i64) (.pair (.int .i64) (.int .i64))))) (w : World) (_ : smallT ((.pair (.int .i64) (.pair (.int .i64) (.int .i64)))) x = true) (_ : smallT ((.pair (.int .i64) (.pair (.int .i64) (.int .i64)))) y = true) :
   Calls Tryz.prog 137 #[.agg (encT ((.pair (.int .i64) (.pair (.int .i64) (.int .i64)))) x).toArray, .agg (encT ((.pair (.int .i64) (.pair (.int .i64) (.int .i64)))) y).toArray] w fun e w' => e = .returned (.int .i64 ((Pw.stack_SegmentsOf_c1 x y).getD 0)) ∧ ∃ q os', w' = grow (w.drewN q) os' := by
 change Calls Tryz.prog 137 #[.agg #[.int .i64 x.1, .int .i64 x.2.1, .int .i64 x.2.2], .agg #[.int .i64 y.1, .int .i64 y.2.1, .int .i64 y.2.2]] w fun e w' => e = .returned (.int .i64 (w64 (x.1 - y.1))) ∧ ∃ q os', w' = grow (w.drewN q) os'
 go_enter Tryz.func137, Tryz.ntmps137
 go_wp2
 go_ret
 refine ⟨?_, 0, _, by rw [alloc_eq_grow, alloc_eq_grow, grow_grow]; rfl⟩
 rw [show w64 (x.1 - y.1) = RowKit.wrap64 (x.1 - y.1) from IntWalk.i64_left _]; rfl
theorem sort137_swo : SWO (ltOf fun (x y : Sml ((.pair (.int .i64) (.pair (.int .i64) (.int .i64))))) => (Pw.stack_SegmentsOf_c1 x.1 y.1).getD 0) := by
 refine swo_sub (fun x => x.1.1) (fun x => ?_) _ fun x y => rfl
 have := x.2
 simp only [smallT, Bool.and_eq_true, decide_eq_true_eq] at this
 first | exact this | exact this.1 | exact this.2 | exact this.1.1 | exact this.1.2 | exact this.2.1 | exact this.2.2 | exact this.2.1.1 | exact this.2.2.1
end Pk
end Go.Proofs
