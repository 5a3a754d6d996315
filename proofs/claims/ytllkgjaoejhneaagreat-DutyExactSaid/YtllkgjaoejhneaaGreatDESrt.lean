/- Where slices.SortFunc lies, and what its comparing functions do; printed by a program. -/
import Derived.Test.YtllkgjaoejhneaaGreatDEFns
import Derived.Test.YtllkgjaoejhneaaGreatProg
import Derived.Shelf.SlSortCmp.NoneTotal
open Option renaming some->b
open Go Go.Lft Go.Proofs Go.Sort
namespace Go.Proofs
def Tryz.sort249_ren:Go.Shelf.Ren:=⟨fun | 6=>249 | 15=>227 | 14=>273 | 28=>261 | 29=>262 | 20=>288 | 21=>289 | 22=>290 | 23=>291 | 24=>292 | 25=>293 | 26=>294 | 27=>295 | 46=>302 | 47=>278 | 48=>279 | 49=>303 | 50=>304 | 57=>307 | n=>n,fun | 22=>78 | 24=>131 | 25=>272 | 3=>3 | 39=>240 | 0=>0 | 53=>282 | 55=>284 | 4=>4 | 46=>276 | 45=>275 | 50=>134 | 5=>5 | 9=>9 | 66=>295 | 70=>299 | 76=>311 | 77=>148 | n=>n,fun n=>n⟩
theorem Tryz.sort249:SlLaysF0.n6 Tryz.prog Tryz.sort249_ren:={
 mixed:=by kernel_rfl,
 f6 := ⟨"slices.SortFunc[[]pagewatch/api.Span,pagewatch/api.Span]", by decide, Tryz.func249.trans (qb b (by kernel_rfl))⟩,
 f14 := ⟨"slices.pdqsortCmpFunc[pagewatch/api.Span]", by decide, Tryz.func273.trans (qb b (by kernel_rfl))⟩,
 f15:=Tryz.func227.trans (qb b (by kernel_rfl)),
 f20 := ⟨"slices.insertionSortCmpFunc[pagewatch/api.Span]", by decide, Tryz.func288.trans (qb b (by kernel_rfl))⟩,
 f21 := ⟨"slices.heapSortCmpFunc[pagewatch/api.Span]", by decide, Tryz.func289.trans (qb b (by kernel_rfl))⟩,
 f22 := ⟨"slices.breakPatternsCmpFunc[pagewatch/api.Span]", by decide, Tryz.func290.trans (qb b (by kernel_rfl))⟩,
 f23 := ⟨"slices.choosePivotCmpFunc[pagewatch/api.Span]", by decide, Tryz.func291.trans (qb b (by kernel_rfl))⟩,
 f24 := ⟨"slices.reverseRangeCmpFunc[pagewatch/api.Span]", by decide, Tryz.func292.trans (qb b (by kernel_rfl))⟩,
 f25 := ⟨"slices.partialInsertionSortCmpFunc[pagewatch/api.Span]", by decide, Tryz.func293.trans (qb b (by kernel_rfl))⟩,
 f26 := ⟨"slices.partitionEqualCmpFunc[pagewatch/api.Span]", by decide, Tryz.func294.trans (qb b (by kernel_rfl))⟩,
 f27 := ⟨"slices.partitionCmpFunc[pagewatch/api.Span]", by decide, Tryz.func295.trans (qb b (by kernel_rfl))⟩,
 f28:=Tryz.func261.trans (qb b (by kernel_rfl)),
 f29:=Tryz.func262.trans (qb b (by kernel_rfl)),
 f46 := ⟨"slices.siftDownCmpFunc[pagewatch/api.Span]", by decide, Tryz.func302.trans (qb b (by kernel_rfl))⟩,
 f47:=Tryz.func278.trans (qb b (by kernel_rfl)),
 f48:=Tryz.func279.trans (qb b (by kernel_rfl)),
 f49 := ⟨"slices.medianAdjacentCmpFunc[pagewatch/api.Span]", by decide, Tryz.func303.trans (qb b (by kernel_rfl))⟩,
 f50 := ⟨"slices.medianCmpFunc[pagewatch/api.Span]", by decide, Tryz.func304.trans (qb b (by kernel_rfl))⟩,
 f57 := ⟨"slices.order2CmpFunc[pagewatch/api.Span]", by decide, Tryz.func307.trans (qb b (by kernel_rfl))⟩,
 t0:=Tryz.underlying0,
 a0:=Tryz.isAgg0,
 z0:=Tryz.sizeOf0,
 v0:=Tryz.zeroValue0,
 t3:=Tryz.underlying3,
 a3:=Tryz.isAgg3,
 z3:=Tryz.sizeOf3,
 v3:=Tryz.zeroValue3,
 t4:=Tryz.underlying4,
 a4:=Tryz.isAgg4,
 z4:=Tryz.sizeOf4,
 v4:=Tryz.zeroValue4,
 t5:=Tryz.underlying5,
 a5:=Tryz.isAgg5,
 z5:=Tryz.sizeOf5,
 v5:=Tryz.zeroValue5,
 t9:=Tryz.underlying9,
 a9:=Tryz.isAgg9,
 z9:=Tryz.sizeOf9,
 v9:=Tryz.zeroValue9,
 t22:=Tryz.underlying78,
 a22:=Tryz.isAgg78,
 z22:=Tryz.sizeOf78,
 v22:=Tryz.zeroValue78,
 t25:=Tryz.underlying272,
 a25:=Tryz.isAgg272,
 z25:=Tryz.sizeOf272,
 v25:=Tryz.zeroValue272,
 t39:=Tryz.underlying240,
 a39:=Tryz.isAgg240,
 z39:=Tryz.sizeOf240,
 v39:=Tryz.zeroValue240,
 t45:=Tryz.underlying275,
 a45:=Tryz.isAgg275,
 z45:=Tryz.sizeOf275,
 v45:=Tryz.zeroValue275,
 t46:=Tryz.underlying276,
 a46:=Tryz.isAgg276,
 z46:=Tryz.sizeOf276,
 v46:=Tryz.zeroValue276,
 t50:=Tryz.underlying134,
 a50:=Tryz.isAgg134,
 z50:=Tryz.sizeOf134,
 v50:=Tryz.zeroValue134,
 t53:=Tryz.underlying282,
 a53:=Tryz.isAgg282,
 z53:=Tryz.sizeOf282,
 v53:=Tryz.zeroValue282,
 t55:=Tryz.underlying284,
 a55:=Tryz.isAgg284,
 z55:=Tryz.sizeOf284,
 v55:=Tryz.zeroValue284,
 t66:=Tryz.underlying295,
 a66:=Tryz.isAgg295,
 z66:=Tryz.sizeOf295,
 v66:=Tryz.zeroValue295,
 t70:=Tryz.underlying299,
 a70:=Tryz.isAgg299,
 z70:=Tryz.sizeOf299,
 v70:=Tryz.zeroValue299,
 t76:=Tryz.underlying311,
 a76:=Tryz.isAgg311,
 z76:=Tryz.sizeOf311,
 v76:=Tryz.zeroValue311,
 t77:=Tryz.underlying148,
 a77:=Tryz.isAgg148,
 z77:=Tryz.sizeOf148,
 v77:=Tryz.zeroValue148 }
namespace Pk
set_option maxHeartbeats 1000000 in
theorem jq2 (x y:Ty.den ((.pair (.int .i64) (.int .i64)))) (w:World) (_:j7p ((.pair (.int .i64) (.int .i64))) x=true) (_:j7p ((.pair (.int .i64) (.int .i64))) y=true) :
  Calls Tryz.prog 250 #[.agg (encT ((.pair (.int .i64) (.int .i64))) x).toArray,.agg (encT ((.pair (.int .i64) (.int .i64))) y).toArray] w fun e w'=>e = .returned (.int .i64 ((Pw.j6d x y).getD 0))∧∃ q os',w'=grow (w.drewN q) os':=by
 change Calls Tryz.prog 250 #[.agg #[.int .i64 x.1,.int .i64 x.2],.agg #[.int .i64 y.1,.int .i64 y.2]] w fun e w'=>e = .returned (.int .i64 (w64 (x.1-y.1)))∧∃ q os',w'=grow (w.drewN q) os'
 go_enter Tryz.func250,Tryz.ntmps250
 go_wp2
 go_ret
 refine ⟨?_,0,_,by rw [alloc_eq_grow,alloc_eq_grow,grow_grow];rfl⟩
 rw [show w64 (x.1-y.1)=RowKit.wrap64 (x.1-y.1) from IntWalk.i64_left _];rfl
theorem jq3:SWO (ltOf fun (x y:Sml ((.pair (.int .i64) (.int .i64))))=>(Pw.j6d x.1 y.1).getD 0):=by
 refine juv (fun x=>x.1.1) (fun x=> ?_) _ fun x y=>rfl
 have:=x.2
 simp only [j7p,ji,jq] at this
 first | exact this | exact this.1 | exact this.2 | exact this.1.1 | exact this.1.2 | exact this.2.1 | exact this.2.2 | exact this.2.1.1 | exact this.2.2.1
end Pk
end Go.Proofs
