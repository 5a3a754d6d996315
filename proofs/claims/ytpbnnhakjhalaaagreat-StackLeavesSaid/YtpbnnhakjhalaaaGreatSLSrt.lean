/- Where slices.SortFunc lies, and what its comparing functions do; printed by a program. -/
import Derived.Test.YtpbnnhakjhalaaaGreatSLFns
import Derived.Test.YtpbnnhakjhalaaaGreatProg
import Derived.Shelf.SlSortCmp.NoneTotal
open Go Go.Lft Go.Proofs Go.Sort
namespace Go.Proofs
def Tryz.sort257_ren:Go.Shelf.Ren:=⟨fun | 6=>257 | 15=>183 | 14=>323 | 28=>274 | 29=>275 | 20=>368 | 21=>369 | 22=>370 | 23=>371 | 24=>372 | 25=>373 | 26=>374 | 27=>375 | 46=>404 | 47=>330 | 48=>331 | 49=>405 | 50=>406 | 57=>415 | n=>n,fun | 22=>59 | 24=>77 | 25=>306 | 3=>3 | 39=>251 | 0=>0 | 53=>318 | 55=>320 | 4=>4 | 46=>312 | 45=>311 | 50=>290 | 5=>5 | 9=>9 | 66=>362 | 70=>366 | 76=>397 | 77=>134 | n=>n,fun n=>n⟩
theorem Tryz.sort257:SlLaysF0.n6 Tryz.prog Tryz.sort257_ren:={
 mixed:=by kernel_rfl,
 f6 := ⟨"slices.SortFunc[[]pagewatch/api.Span,pagewatch/api.Span]", by decide, Tryz.func257.trans (jo some (by kernel_rfl))⟩,
 f14 := ⟨"slices.pdqsortCmpFunc[pagewatch/api.Span]", by decide, Tryz.func323.trans (jo some (by kernel_rfl))⟩,
 f15:=Tryz.func183.trans (jo some (by kernel_rfl)),
 f20 := ⟨"slices.insertionSortCmpFunc[pagewatch/api.Span]", by decide, Tryz.func368.trans (jo some (by kernel_rfl))⟩,
 f21 := ⟨"slices.heapSortCmpFunc[pagewatch/api.Span]", by decide, Tryz.func369.trans (jo some (by kernel_rfl))⟩,
 f22 := ⟨"slices.breakPatternsCmpFunc[pagewatch/api.Span]", by decide, Tryz.func370.trans (jo some (by kernel_rfl))⟩,
 f23 := ⟨"slices.choosePivotCmpFunc[pagewatch/api.Span]", by decide, Tryz.func371.trans (jo some (by kernel_rfl))⟩,
 f24 := ⟨"slices.reverseRangeCmpFunc[pagewatch/api.Span]", by decide, Tryz.func372.trans (jo some (by kernel_rfl))⟩,
 f25 := ⟨"slices.partialInsertionSortCmpFunc[pagewatch/api.Span]", by decide, Tryz.func373.trans (jo some (by kernel_rfl))⟩,
 f26 := ⟨"slices.partitionEqualCmpFunc[pagewatch/api.Span]", by decide, Tryz.func374.trans (jo some (by kernel_rfl))⟩,
 f27 := ⟨"slices.partitionCmpFunc[pagewatch/api.Span]", by decide, Tryz.func375.trans (jo some (by kernel_rfl))⟩,
 f28:=Tryz.func274.trans (jo some (by kernel_rfl)),
 f29:=Tryz.func275.trans (jo some (by kernel_rfl)),
 f46 := ⟨"slices.siftDownCmpFunc[pagewatch/api.Span]", by decide, Tryz.func404.trans (jo some (by kernel_rfl))⟩,
 f47:=Tryz.func330.trans (jo some (by kernel_rfl)),
 f48:=Tryz.func331.trans (jo some (by kernel_rfl)),
 f49 := ⟨"slices.medianAdjacentCmpFunc[pagewatch/api.Span]", by decide, Tryz.func405.trans (jo some (by kernel_rfl))⟩,
 f50 := ⟨"slices.medianCmpFunc[pagewatch/api.Span]", by decide, Tryz.func406.trans (jo some (by kernel_rfl))⟩,
 f57 := ⟨"slices.order2CmpFunc[pagewatch/api.Span]", by decide, Tryz.func415.trans (jo some (by kernel_rfl))⟩,
 t0:=Tryz.underlying0,
 a0:=Tryz.isAgg0,
 z0:=Tryz.sizeOf0,
 v0:=Tryz.zeroValue0,
 t3:=Tryz.underlying3,
 a3:=Tryz.isAgg3,
 z3:=Tryz.sizeOf3,
 v3:=Tryz.zeroValue3,
 t4:=Tryz.underlying4,
 a4:=Tryz.isAgg4,
 z4:=Tryz.sizeOf4,
 v4:=Tryz.zeroValue4,
 t5:=Tryz.underlying5,
 a5:=Tryz.isAgg5,
 z5:=Tryz.sizeOf5,
 v5:=Tryz.zeroValue5,
 t9:=Tryz.underlying9,
 a9:=Tryz.isAgg9,
 z9:=Tryz.sizeOf9,
 v9:=Tryz.zeroValue9,
 t22:=Tryz.underlying59,
 a22:=Tryz.isAgg59,
 z22:=Tryz.sizeOf59,
 v22:=Tryz.zeroValue59,
 t25:=Tryz.underlying306,
 a25:=Tryz.isAgg306,
 z25:=Tryz.sizeOf306,
 v25:=Tryz.zeroValue306,
 t39:=Tryz.underlying251,
 a39:=Tryz.isAgg251,
 z39:=Tryz.sizeOf251,
 v39:=Tryz.zeroValue251,
 t45:=Tryz.underlying311,
 a45:=Tryz.isAgg311,
 z45:=Tryz.sizeOf311,
 v45:=Tryz.zeroValue311,
 t46:=Tryz.underlying312,
 a46:=Tryz.isAgg312,
 z46:=Tryz.sizeOf312,
 v46:=Tryz.zeroValue312,
 t50:=Tryz.underlying290,
 a50:=Tryz.isAgg290,
 z50:=Tryz.sizeOf290,
 v50:=Tryz.zeroValue290,
 t53:=Tryz.underlying318,
 a53:=Tryz.isAgg318,
 z53:=Tryz.sizeOf318,
 v53:=Tryz.zeroValue318,
 t55:=Tryz.underlying320,
 a55:=Tryz.isAgg320,
 z55:=Tryz.sizeOf320,
 v55:=Tryz.zeroValue320,
 t66:=Tryz.underlying362,
 a66:=Tryz.isAgg362,
 z66:=Tryz.sizeOf362,
 v66:=Tryz.zeroValue362,
 t70:=Tryz.underlying366,
 a70:=Tryz.isAgg366,
 z70:=Tryz.sizeOf366,
 v70:=Tryz.zeroValue366,
 t76:=Tryz.underlying397,
 a76:=Tryz.isAgg397,
 z76:=Tryz.sizeOf397,
 v76:=Tryz.zeroValue397,
 t77:=Tryz.underlying134,
 a77:=Tryz.isAgg134,
 z77:=Tryz.sizeOf134,
 v77:=Tryz.zeroValue134 }
def Tryz.sort244_ren:Go.Shelf.Ren:=⟨fun | 6=>244 | 15=>183 | 14=>319 | 28=>274 | 29=>275 | 20=>359 | 21=>360 | 22=>361 | 23=>362 | 24=>363 | 25=>364 | 26=>365 | 27=>366 | 46=>401 | 47=>330 | 48=>331 | 49=>402 | 50=>403 | 57=>414 | n=>n,fun | 22=>136 | 24=>181 | 25=>297 | 3=>3 | 39=>251 | 0=>0 | 53=>318 | 55=>320 | 4=>4 | 46=>312 | 45=>311 | 50=>290 | 5=>5 | 9=>9 | 66=>362 | 70=>366 | 76=>397 | 77=>134 | n=>n,fun n=>n⟩
theorem Tryz.sort244:SlLaysF0.n6 Tryz.prog Tryz.sort244_ren:={
 mixed:=by kernel_rfl,
 f6 := ⟨"slices.SortFunc[[]pagewatch/api.Segment,pagewatch/api.Segment]", by decide, Tryz.func244.trans (jo some (by kernel_rfl))⟩,
 f14 := ⟨"slices.pdqsortCmpFunc[pagewatch/api.Segment]", by decide, Tryz.func319.trans (jo some (by kernel_rfl))⟩,
 f15:=Tryz.func183.trans (jo some (by kernel_rfl)),
 f20 := ⟨"slices.insertionSortCmpFunc[pagewatch/api.Segment]", by decide, Tryz.func359.trans (jo some (by kernel_rfl))⟩,
 f21 := ⟨"slices.heapSortCmpFunc[pagewatch/api.Segment]", by decide, Tryz.func360.trans (jo some (by kernel_rfl))⟩,
 f22 := ⟨"slices.breakPatternsCmpFunc[pagewatch/api.Segment]", by decide, Tryz.func361.trans (jo some (by kernel_rfl))⟩,
 f23 := ⟨"slices.choosePivotCmpFunc[pagewatch/api.Segment]", by decide, Tryz.func362.trans (jo some (by kernel_rfl))⟩,
 f24 := ⟨"slices.reverseRangeCmpFunc[pagewatch/api.Segment]", by decide, Tryz.func363.trans (jo some (by kernel_rfl))⟩,
 f25 := ⟨"slices.partialInsertionSortCmpFunc[pagewatch/api.Segment]", by decide, Tryz.func364.trans (jo some (by kernel_rfl))⟩,
 f26 := ⟨"slices.partitionEqualCmpFunc[pagewatch/api.Segment]", by decide, Tryz.func365.trans (jo some (by kernel_rfl))⟩,
 f27 := ⟨"slices.partitionCmpFunc[pagewatch/api.Segment]", by decide, Tryz.func366.trans (jo some (by kernel_rfl))⟩,
 f28:=Tryz.func274.trans (jo some (by kernel_rfl)),
 f29:=Tryz.func275.trans (jo some (by kernel_rfl)),
 f46 := ⟨"slices.siftDownCmpFunc[pagewatch/api.Segment]", by decide, Tryz.func401.trans (jo some (by kernel_rfl))⟩,
 f47:=Tryz.func330.trans (jo some (by kernel_rfl)),
 f48:=Tryz.func331.trans (jo some (by kernel_rfl)),
 f49 := ⟨"slices.medianAdjacentCmpFunc[pagewatch/api.Segment]", by decide, Tryz.func402.trans (jo some (by kernel_rfl))⟩,
 f50 := ⟨"slices.medianCmpFunc[pagewatch/api.Segment]", by decide, Tryz.func403.trans (jo some (by kernel_rfl))⟩,
 f57 := ⟨"slices.order2CmpFunc[pagewatch/api.Segment]", by decide, Tryz.func414.trans (jo some (by kernel_rfl))⟩,
 t0:=Tryz.underlying0,
 a0:=Tryz.isAgg0,
 z0:=Tryz.sizeOf0,
 v0:=Tryz.zeroValue0,
 t3:=Tryz.underlying3,
 a3:=Tryz.isAgg3,
 z3:=Tryz.sizeOf3,
 v3:=Tryz.zeroValue3,
 t4:=Tryz.underlying4,
 a4:=Tryz.isAgg4,
 z4:=Tryz.sizeOf4,
 v4:=Tryz.zeroValue4,
 t5:=Tryz.underlying5,
 a5:=Tryz.isAgg5,
 z5:=Tryz.sizeOf5,
 v5:=Tryz.zeroValue5,
 t9:=Tryz.underlying9,
 a9:=Tryz.isAgg9,
 z9:=Tryz.sizeOf9,
 v9:=Tryz.zeroValue9,
 t22:=Tryz.underlying136,
 a22:=Tryz.isAgg136,
 z22:=Tryz.sizeOf136,
 v22:=Tryz.zeroValue136,
 t25:=Tryz.underlying297,
 a25:=Tryz.isAgg297,
 z25:=Tryz.sizeOf297,
 v25:=Tryz.zeroValue297,
 t39:=Tryz.underlying251,
 a39:=Tryz.isAgg251,
 z39:=Tryz.sizeOf251,
 v39:=Tryz.zeroValue251,
 t45:=Tryz.underlying311,
 a45:=Tryz.isAgg311,
 z45:=Tryz.sizeOf311,
 v45:=Tryz.zeroValue311,
 t46:=Tryz.underlying312,
 a46:=Tryz.isAgg312,
 z46:=Tryz.sizeOf312,
 v46:=Tryz.zeroValue312,
 t50:=Tryz.underlying290,
 a50:=Tryz.isAgg290,
 z50:=Tryz.sizeOf290,
 v50:=Tryz.zeroValue290,
 t53:=Tryz.underlying318,
 a53:=Tryz.isAgg318,
 z53:=Tryz.sizeOf318,
 v53:=Tryz.zeroValue318,
 t55:=Tryz.underlying320,
 a55:=Tryz.isAgg320,
 z55:=Tryz.sizeOf320,
 v55:=Tryz.zeroValue320,
 t66:=Tryz.underlying362,
 a66:=Tryz.isAgg362,
 z66:=Tryz.sizeOf362,
 v66:=Tryz.zeroValue362,
 t70:=Tryz.underlying366,
 a70:=Tryz.isAgg366,
 z70:=Tryz.sizeOf366,
 v70:=Tryz.zeroValue366,
 t76:=Tryz.underlying397,
 a76:=Tryz.isAgg397,
 z76:=Tryz.sizeOf397,
 v76:=Tryz.zeroValue397,
 t77:=Tryz.underlying134,
 a77:=Tryz.isAgg134,
 z77:=Tryz.sizeOf134,
 v77:=Tryz.zeroValue134 }
namespace Pk
set_option maxHeartbeats 1000000 in
theorem jn8 (x y:Ty.den ((.pair (.int .i64) (.int .i64)))) (w:World) (_:j6N ((.pair (.int .i64) (.int .i64))) x=true) (_:j6N ((.pair (.int .i64) (.int .i64))) y=true) :
  Calls Tryz.prog 258 #[.agg (encT ((.pair (.int .i64) (.int .i64))) x).toArray,.agg (encT ((.pair (.int .i64) (.int .i64))) y).toArray] w fun e w'=>e = .returned (.int .i64 ((Pw.j92 x y).getD 0))∧∃ q os',w'=grow (w.drewN q) os':=by
 change Calls Tryz.prog 258 #[.agg #[.int .i64 x.1,.int .i64 x.2],.agg #[.int .i64 y.1,.int .i64 y.2]] w fun e w'=>e = .returned (.int .i64 (w64 (x.1-y.1)))∧∃ q os',w'=grow (w.drewN q) os'
 go_enter Tryz.func258,Tryz.ntmps258
 go_wp2
 go_ret
 refine ⟨?_,0,_,by rw [alloc_eq_grow,alloc_eq_grow,grow_grow];rfl⟩
 rw [show w64 (x.1-y.1)=RowKit.wrap64 (x.1-y.1) from IntWalk.i64_left _];rfl
theorem jn9:SWO (ltOf fun (x y:Sml ((.pair (.int .i64) (.int .i64))))=>(Pw.j92 x.1 y.1).getD 0):=by
 refine jqB (fun x=>x.1.1) (fun x=> ?_) _ fun x y=>rfl
 have:=x.2
 simp only [j6N,ja,jd] at this
 first | exact this | exact this.1 | exact this.2 | exact this.1.1 | exact this.1.2 | exact this.2.1 | exact this.2.2 | exact this.2.1.1 | exact this.2.2.1
set_option maxHeartbeats 1000000 in
theorem jna (x y:Ty.den ((.pair (.int .i64) (.pair (.int .i64) (.int .i64))))) (w:World) (_:j6N ((.pair (.int .i64) (.pair (.int .i64) (.int .i64)))) x=true) (_:j6N ((.pair (.int .i64) (.pair (.int .i64) (.int .i64)))) y=true) :
  Calls Tryz.prog 245 #[.agg (encT ((.pair (.int .i64) (.pair (.int .i64) (.int .i64)))) x).toArray,.agg (encT ((.pair (.int .i64) (.pair (.int .i64) (.int .i64)))) y).toArray] w fun e w'=>e = .returned (.int .i64 ((Pw.j4x x y).getD 0))∧∃ q os',w'=grow (w.drewN q) os':=by
 change Calls Tryz.prog 245 #[.agg #[.int .i64 x.1,.int .i64 x.2.1,.int .i64 x.2.2],.agg #[.int .i64 y.1,.int .i64 y.2.1,.int .i64 y.2.2]] w fun e w'=>e = .returned (.int .i64 (w64 (x.1-y.1)))∧∃ q os',w'=grow (w.drewN q) os'
 go_enter Tryz.func245,Tryz.ntmps245
 go_wp2
 go_ret
 refine ⟨?_,0,_,by rw [alloc_eq_grow,alloc_eq_grow,grow_grow];rfl⟩
 rw [show w64 (x.1-y.1)=RowKit.wrap64 (x.1-y.1) from IntWalk.i64_left _];rfl
theorem jnb:SWO (ltOf fun (x y:Sml ((.pair (.int .i64) (.pair (.int .i64) (.int .i64)))))=>(Pw.j4x x.1 y.1).getD 0):=by
 refine jqB (fun x=>x.1.1) (fun x=> ?_) _ fun x y=>rfl
 have:=x.2
 simp only [j6N,ja,jd] at this
 first | exact this | exact this.1 | exact this.2 | exact this.1.1 | exact this.1.2 | exact this.2.1 | exact this.2.2 | exact this.2.1.1 | exact this.2.2.1
end Pk
end Go.Proofs
