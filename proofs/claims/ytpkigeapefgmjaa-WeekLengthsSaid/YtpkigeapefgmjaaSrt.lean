/- Where slices.SortFunc lies, and what its comparing functions do; printed by a program. -/
import Derived.Test.YtpkigeapefgmjaaFns
import Derived.Test.YtpkigeapefgmjaaLS
import Derived.Test.YtpkigeapefgmjaaProg
import Derived.Shelf.SlSortCmp.NoneTotal
open Go Go.Lft Go.Proofs Go.Sort
namespace Go.Proofs

def Try.sort118_ren : Go.Shelf.Ren := ⟨fun | 6 => 118 | 15 => 129 | 14 => 128 | 28 => 140 | 29 => 141 | 20 => 132 | 21 => 133 | 22 => 134 | 23 => 135 | 24 => 136 | 25 => 137 | 26 => 138 | 27 => 139 | 46 => 143 | 47 => 144 | 48 => 145 | 49 => 146 | 50 => 147 | 57 => 148 | n => n, fun | 22 => 81 | 24 => 86 | 25 => 162 | 3 => 3 | 39 => 166 | 0 => 0 | 53 => 178 | 55 => 180 | 4 => 4 | 46 => 172 | 45 => 171 | 50 => 122 | 5 => 5 | 9 => 9 | 66 => 181 | 70 => 185 | 76 => 187 | 77 => 188 | n => n, fun n => n⟩
theorem Try.sort118 : SlLaysF0.n6 Try.prog Try.sort118_ren := {
  mixed := by kernel_rfl,
  f6 := ⟨"slices.SortFunc[[]pagewatch/api.Span,pagewatch/api.Span]", by decide, Try.func118.trans (congrArg some (by kernel_rfl))⟩,
  f14 := ⟨"slices.pdqsortCmpFunc[pagewatch/api.Span]", by decide, Try.func128.trans (congrArg some (by kernel_rfl))⟩,
  f15 := Try.func129.trans (congrArg some (by kernel_rfl)),
  f20 := ⟨"slices.insertionSortCmpFunc[pagewatch/api.Span]", by decide, Try.func132.trans (congrArg some (by kernel_rfl))⟩,
  f21 := ⟨"slices.heapSortCmpFunc[pagewatch/api.Span]", by decide, Try.func133.trans (congrArg some (by kernel_rfl))⟩,
  f22 := ⟨"slices.breakPatternsCmpFunc[pagewatch/api.Span]", by decide, Try.func134.trans (congrArg some (by kernel_rfl))⟩,
  f23 := ⟨"slices.choosePivotCmpFunc[pagewatch/api.Span]", by decide, Try.func135.trans (congrArg some (by kernel_rfl))⟩,
  f24 := ⟨"slices.reverseRangeCmpFunc[pagewatch/api.Span]", by decide, Try.func136.trans (congrArg some (by kernel_rfl))⟩,
  f25 := ⟨"slices.partialInsertionSortCmpFunc[pagewatch/api.Span]", by decide, Try.func137.trans (congrArg some (by kernel_rfl))⟩,
  f26 := ⟨"slices.partitionEqualCmpFunc[pagewatch/api.Span]", by decide, Try.func138.trans (congrArg some (by kernel_rfl))⟩,
  f27 := ⟨"slices.partitionCmpFunc[pagewatch/api.Span]", by decide, Try.func139.trans (congrArg some (by kernel_rfl))⟩,
  f28 := Try.func140.trans (congrArg some (by kernel_rfl)),
  f29 := Try.func141.trans (congrArg some (by kernel_rfl)),
  f46 := ⟨"slices.siftDownCmpFunc[pagewatch/api.Span]", by decide, Try.func143.trans (congrArg some (by kernel_rfl))⟩,
  f47 := Try.func144.trans (congrArg some (by kernel_rfl)),
  f48 := Try.func145.trans (congrArg some (by kernel_rfl)),
  f49 := ⟨"slices.medianAdjacentCmpFunc[pagewatch/api.Span]", by decide, Try.func146.trans (congrArg some (by kernel_rfl))⟩,
  f50 := ⟨"slices.medianCmpFunc[pagewatch/api.Span]", by decide, Try.func147.trans (congrArg some (by kernel_rfl))⟩,
  f57 := ⟨"slices.order2CmpFunc[pagewatch/api.Span]", by decide, Try.func148.trans (congrArg some (by kernel_rfl))⟩,
  t0 := Try.underlying0,
  a0 := Try.isAgg0,
  z0 := Try.sizeOf0,
  v0 := Try.zeroValue0,
  t3 := Try.underlying3,
  a3 := Try.isAgg3,
  z3 := Try.sizeOf3,
  v3 := Try.zeroValue3,
  t4 := Try.underlying4,
  a4 := Try.isAgg4,
  z4 := Try.sizeOf4,
  v4 := Try.zeroValue4,
  t5 := Try.underlying5,
  a5 := Try.isAgg5,
  z5 := Try.sizeOf5,
  v5 := Try.zeroValue5,
  t9 := Try.underlying9,
  a9 := Try.isAgg9,
  z9 := Try.sizeOf9,
  v9 := Try.zeroValue9,
  t22 := Try.underlying81,
  a22 := Try.isAgg81,
  z22 := Try.sizeOf81,
  v22 := Try.zeroValue81,
  t25 := Try.underlying162,
  a25 := Try.isAgg162,
  z25 := Try.sizeOf162,
  v25 := Try.zeroValue162,
  t39 := Try.underlying166,
  a39 := Try.isAgg166,
  z39 := Try.sizeOf166,
  v39 := Try.zeroValue166,
  t45 := Try.underlying171,
  a45 := Try.isAgg171,
  z45 := Try.sizeOf171,
  v45 := Try.zeroValue171,
  t46 := Try.underlying172,
  a46 := Try.isAgg172,
  z46 := Try.sizeOf172,
  v46 := Try.zeroValue172,
  t50 := Try.underlying122,
  a50 := Try.isAgg122,
  z50 := Try.sizeOf122,
  v50 := Try.zeroValue122,
  t53 := Try.underlying178,
  a53 := Try.isAgg178,
  z53 := Try.sizeOf178,
  v53 := Try.zeroValue178,
  t55 := Try.underlying180,
  a55 := Try.isAgg180,
  z55 := Try.sizeOf180,
  v55 := Try.zeroValue180,
  t66 := Try.underlying181,
  a66 := Try.isAgg181,
  z66 := Try.sizeOf181,
  v66 := Try.zeroValue181,
  t70 := Try.underlying185,
  a70 := Try.isAgg185,
  z70 := Try.sizeOf185,
  v70 := Try.zeroValue185,
  t76 := Try.underlying187,
  a76 := Try.isAgg187,
  z76 := Try.sizeOf187,
  v76 := Try.zeroValue187,
  t77 := Try.underlying188,
  a77 := Try.isAgg188,
  z77 := Try.sizeOf188,
  v77 := Try.zeroValue188 }

namespace Pk

set_option maxHeartbeats 1000000 in
theorem sort119_cmp (x y : Ty.den ((.pair (.int .i64) (.int .i64)))) (w : World) (_ : smallT ((.pair (.int .i64) (.int .i64))) x = true) (_ : smallT ((.pair (.int .i64) (.int .i64))) y = true) :
    Calls Try.prog 119 #[.agg (encT ((.pair (.int .i64) (.int .i64))) x).toArray, .agg (encT ((.pair (.int .i64) (.int .i64))) y).toArray] w fun e w' => e = .returned (.int .i64 ((Pw.span_Merge_c2 x y).getD 0)) ∧ ∃ q os', w' = grow (w.drewN q) os' := by
  change Calls Try.prog 119 #[.agg #[.int .i64 x.1, .int .i64 x.2], .agg #[.int .i64 y.1, .int .i64 y.2]] w fun e w' => e = .returned (.int .i64 (w64 (x.1 - y.1))) ∧ ∃ q os', w' = grow (w.drewN q) os'
  go_enter Try.func119, Try.ntmps119
  go_wp2
  go_ret
  refine ⟨?_, 0, _, by rw [alloc_eq_grow, alloc_eq_grow, grow_grow]; rfl⟩
  rw [show w64 (x.1 - y.1) = RowKit.wrap64 (x.1 - y.1) from IntWalk.i64_left _]; rfl

theorem sort119_swo : SWO (ltOf fun (x y : Sml ((.pair (.int .i64) (.int .i64)))) => (Pw.span_Merge_c2 x.1 y.1).getD 0) := by
  refine swo_sub (fun x => x.1.1) (fun x => ?_) _ fun x y => rfl
  have := x.2
  simp only [smallT, Bool.and_eq_true, decide_eq_true_eq] at this
  first | exact this | exact this.1 | exact this.2 | exact this.1.1 | exact this.1.2 | exact this.2.1 | exact this.2.2 | exact this.2.1.1 | exact this.2.2.1

end Pk
end Go.Proofs
