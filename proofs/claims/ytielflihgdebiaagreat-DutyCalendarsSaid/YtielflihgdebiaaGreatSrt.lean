/- Where slices.SortFunc lies, and what its comparing functions do; printed by a program. -/
import Derived.Test.YtielflihgdebiaaGreatFns
import Derived.Test.YtielflihgdebiaaGreatProg
import Derived.Shelf.SlSortCmp.NoneTotal
open Go Go.Lft Go.Proofs Go.Sort
namespace Go.Proofs

def Tryz.sort236_ren : Go.Shelf.Ren := ⟨fun | 6 => 236 | 15 => 269 | 14 => 284 | 28 => 307 | 29 => 308 | 20 => 315 | 21 => 316 | 22 => 317 | 23 => 318 | 24 => 319 | 25 => 320 | 26 => 321 | 27 => 322 | 46 => 346 | 47 => 338 | 48 => 339 | 49 => 347 | 50 => 348 | 57 => 363 | n => n, fun | 22 => 76 | 24 => 153 | 25 => 267 | 3 => 3 | 39 => 274 | 0 => 0 | 53 => 320 | 55 => 322 | 4 => 4 | 46 => 314 | 45 => 313 | 50 => 166 | 5 => 5 | 9 => 9 | 66 => 339 | 70 => 343 | 76 => 356 | 77 => 134 | n => n, fun n => n⟩
theorem Tryz.sort236 : SlLaysF0.n6 Tryz.prog Tryz.sort236_ren := {
  mixed := by kernel_rfl,
  f6 := ⟨"slices.SortFunc[[]pagewatch/api.Span,pagewatch/api.Span]", by decide, Tryz.func236.trans (congrArg some (by kernel_rfl))⟩,
  f14 := ⟨"slices.pdqsortCmpFunc[pagewatch/api.Span]", by decide, Tryz.func284.trans (congrArg some (by kernel_rfl))⟩,
  f15 := Tryz.func269.trans (congrArg some (by kernel_rfl)),
  f20 := ⟨"slices.insertionSortCmpFunc[pagewatch/api.Span]", by decide, Tryz.func315.trans (congrArg some (by kernel_rfl))⟩,
  f21 := ⟨"slices.heapSortCmpFunc[pagewatch/api.Span]", by decide, Tryz.func316.trans (congrArg some (by kernel_rfl))⟩,
  f22 := ⟨"slices.breakPatternsCmpFunc[pagewatch/api.Span]", by decide, Tryz.func317.trans (congrArg some (by kernel_rfl))⟩,
  f23 := ⟨"slices.choosePivotCmpFunc[pagewatch/api.Span]", by decide, Tryz.func318.trans (congrArg some (by kernel_rfl))⟩,
  f24 := ⟨"slices.reverseRangeCmpFunc[pagewatch/api.Span]", by decide, Tryz.func319.trans (congrArg some (by kernel_rfl))⟩,
  f25 := ⟨"slices.partialInsertionSortCmpFunc[pagewatch/api.Span]", by decide, Tryz.func320.trans (congrArg some (by kernel_rfl))⟩,
  f26 := ⟨"slices.partitionEqualCmpFunc[pagewatch/api.Span]", by decide, Tryz.func321.trans (congrArg some (by kernel_rfl))⟩,
  f27 := ⟨"slices.partitionCmpFunc[pagewatch/api.Span]", by decide, Tryz.func322.trans (congrArg some (by kernel_rfl))⟩,
  f28 := Tryz.func307.trans (congrArg some (by kernel_rfl)),
  f29 := Tryz.func308.trans (congrArg some (by kernel_rfl)),
  f46 := ⟨"slices.siftDownCmpFunc[pagewatch/api.Span]", by decide, Tryz.func346.trans (congrArg some (by kernel_rfl))⟩,
  f47 := Tryz.func338.trans (congrArg some (by kernel_rfl)),
  f48 := Tryz.func339.trans (congrArg some (by kernel_rfl)),
  f49 := ⟨"slices.medianAdjacentCmpFunc[pagewatch/api.Span]", by decide, Tryz.func347.trans (congrArg some (by kernel_rfl))⟩,
  f50 := ⟨"slices.medianCmpFunc[pagewatch/api.Span]", by decide, Tryz.func348.trans (congrArg some (by kernel_rfl))⟩,
  f57 := ⟨"slices.order2CmpFunc[pagewatch/api.Span]", by decide, Tryz.func363.trans (congrArg some (by kernel_rfl))⟩,
  t0 := Tryz.underlying0,
  a0 := Tryz.isAgg0,
  z0 := Tryz.sizeOf0,
  v0 := Tryz.zeroValue0,
  t3 := Tryz.underlying3,
  a3 := Tryz.isAgg3,
  z3 := Tryz.sizeOf3,
  v3 := Tryz.zeroValue3,
  t4 := Tryz.underlying4,
  a4 := Tryz.isAgg4,
  z4 := Tryz.sizeOf4,
  v4 := Tryz.zeroValue4,
  t5 := Tryz.underlying5,
  a5 := Tryz.isAgg5,
  z5 := Tryz.sizeOf5,
  v5 := Tryz.zeroValue5,
  t9 := Tryz.underlying9,
  a9 := Tryz.isAgg9,
  z9 := Tryz.sizeOf9,
  v9 := Tryz.zeroValue9,
  t22 := Tryz.underlying76,
  a22 := Tryz.isAgg76,
  z22 := Tryz.sizeOf76,
  v22 := Tryz.zeroValue76,
  t25 := Tryz.underlying267,
  a25 := Tryz.isAgg267,
  z25 := Tryz.sizeOf267,
  v25 := Tryz.zeroValue267,
  t39 := Tryz.underlying274,
  a39 := Tryz.isAgg274,
  z39 := Tryz.sizeOf274,
  v39 := Tryz.zeroValue274,
  t45 := Tryz.underlying313,
  a45 := Tryz.isAgg313,
  z45 := Tryz.sizeOf313,
  v45 := Tryz.zeroValue313,
  t46 := Tryz.underlying314,
  a46 := Tryz.isAgg314,
  z46 := Tryz.sizeOf314,
  v46 := Tryz.zeroValue314,
  t50 := Tryz.underlying166,
  a50 := Tryz.isAgg166,
  z50 := Tryz.sizeOf166,
  v50 := Tryz.zeroValue166,
  t53 := Tryz.underlying320,
  a53 := Tryz.isAgg320,
  z53 := Tryz.sizeOf320,
  v53 := Tryz.zeroValue320,
  t55 := Tryz.underlying322,
  a55 := Tryz.isAgg322,
  z55 := Tryz.sizeOf322,
  v55 := Tryz.zeroValue322,
  t66 := Tryz.underlying339,
  a66 := Tryz.isAgg339,
  z66 := Tryz.sizeOf339,
  v66 := Tryz.zeroValue339,
  t70 := Tryz.underlying343,
  a70 := Tryz.isAgg343,
  z70 := Tryz.sizeOf343,
  v70 := Tryz.zeroValue343,
  t76 := Tryz.underlying356,
  a76 := Tryz.isAgg356,
  z76 := Tryz.sizeOf356,
  v76 := Tryz.zeroValue356,
  t77 := Tryz.underlying134,
  a77 := Tryz.isAgg134,
  z77 := Tryz.sizeOf134,
  v77 := Tryz.zeroValue134 }

namespace Pk

set_option maxHeartbeats 1000000 in
theorem sort237_cmp (x y : Ty.den ((.pair (.int .i64) (.int .i64)))) (w : World) (_ : smallT ((.pair (.int .i64) (.int .i64))) x = true) (_ : smallT ((.pair (.int .i64) (.int .i64))) y = true) :
    Calls Tryz.prog 237 #[.agg (encT ((.pair (.int .i64) (.int .i64))) x).toArray, .agg (encT ((.pair (.int .i64) (.int .i64))) y).toArray] w fun e w' => e = .returned (.int .i64 ((Pw.span_Merge_c2 x y).getD 0)) ∧ ∃ q os', w' = grow (w.drewN q) os' := by
  change Calls Tryz.prog 237 #[.agg #[.int .i64 x.1, .int .i64 x.2], .agg #[.int .i64 y.1, .int .i64 y.2]] w fun e w' => e = .returned (.int .i64 (w64 (x.1 - y.1))) ∧ ∃ q os', w' = grow (w.drewN q) os'
  go_enter Tryz.func237, Tryz.ntmps237
  go_wp2
  go_ret
  refine ⟨?_, 0, _, by rw [alloc_eq_grow, alloc_eq_grow, grow_grow]; rfl⟩
  rw [show w64 (x.1 - y.1) = RowKit.wrap64 (x.1 - y.1) from IntWalk.i64_left _]; rfl

theorem sort237_swo : SWO (ltOf fun (x y : Sml ((.pair (.int .i64) (.int .i64)))) => (Pw.span_Merge_c2 x.1 y.1).getD 0) := by
  refine swo_sub (fun x => x.1.1) (fun x => ?_) _ fun x y => rfl
  have := x.2
  simp only [smallT, Bool.and_eq_true, decide_eq_true_eq] at this
  first | exact this | exact this.1 | exact this.2 | exact this.1.1 | exact this.1.2 | exact this.2.1 | exact this.2.2 | exact this.2.1.1 | exact this.2.2.1

end Pk
end Go.Proofs
