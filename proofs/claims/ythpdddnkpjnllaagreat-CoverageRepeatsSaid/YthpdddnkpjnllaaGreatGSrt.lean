/- Where slices.SortFunc lies, and what its comparing functions do; printed by a program. -/
import Derived.Test.YthpdddnkpjnllaaGreatGFns
import Derived.Test.YthpdddnkpjnllaaGreatProg
import Derived.Shelf.SlSortCmp.NoneTotal
open Go Go.Lft Go.Proofs Go.Sort
namespace Go.Proofs
def Tryz.sort196_ren:Go.Shelf.Ren:=⟨fun | 6=>196 | 15=>162 | 14=>234 | 28=>206 | 29=>207 | 20=>252 | 21=>253 | 22=>254 | 23=>255 | 24=>256 | 25=>257 | 26=>258 | 27=>259 | 46=>272 | 47=>236 | 48=>237 | 49=>273 | 50=>274 | 57=>280 | n=>n,fun | 22=>65 | 24=>113 | 25=>234 | 3=>3 | 39=>206 | 0=>0 | 53=>243 | 55=>245 | 4=>4 | 46=>237 | 45=>236 | 50=>117 | 5=>5 | 9=>9 | 66=>261 | 70=>265 | 76=>279 | 77=>106 | n=>n,fun n=>n⟩
theorem Tryz.sort196:SlLaysF0.n6 Tryz.prog Tryz.sort196_ren:={
 mixed:=by kernel_rfl,
 f6 := ⟨"slices.SortFunc[[]pagewatch/api.Span,pagewatch/api.Span]", by decide, Tryz.func196.trans (congrArg some (by kernel_rfl))⟩,
 f14 := ⟨"slices.pdqsortCmpFunc[pagewatch/api.Span]", by decide, Tryz.func234.trans (congrArg some (by kernel_rfl))⟩,
 f15:=Tryz.func162.trans (congrArg some (by kernel_rfl)),
 f20 := ⟨"slices.insertionSortCmpFunc[pagewatch/api.Span]", by decide, Tryz.func252.trans (congrArg some (by kernel_rfl))⟩,
 f21 := ⟨"slices.heapSortCmpFunc[pagewatch/api.Span]", by decide, Tryz.func253.trans (congrArg some (by kernel_rfl))⟩,
 f22 := ⟨"slices.breakPatternsCmpFunc[pagewatch/api.Span]", by decide, Tryz.func254.trans (congrArg some (by kernel_rfl))⟩,
 f23 := ⟨"slices.choosePivotCmpFunc[pagewatch/api.Span]", by decide, Tryz.func255.trans (congrArg some (by kernel_rfl))⟩,
 f24 := ⟨"slices.reverseRangeCmpFunc[pagewatch/api.Span]", by decide, Tryz.func256.trans (congrArg some (by kernel_rfl))⟩,
 f25 := ⟨"slices.partialInsertionSortCmpFunc[pagewatch/api.Span]", by decide, Tryz.func257.trans (congrArg some (by kernel_rfl))⟩,
 f26 := ⟨"slices.partitionEqualCmpFunc[pagewatch/api.Span]", by decide, Tryz.func258.trans (congrArg some (by kernel_rfl))⟩,
 f27 := ⟨"slices.partitionCmpFunc[pagewatch/api.Span]", by decide, Tryz.func259.trans (congrArg some (by kernel_rfl))⟩,
 f28:=Tryz.func206.trans (congrArg some (by kernel_rfl)),
 f29:=Tryz.func207.trans (congrArg some (by kernel_rfl)),
 f46 := ⟨"slices.siftDownCmpFunc[pagewatch/api.Span]", by decide, Tryz.func272.trans (congrArg some (by kernel_rfl))⟩,
 f47:=Tryz.func236.trans (congrArg some (by kernel_rfl)),
 f48:=Tryz.func237.trans (congrArg some (by kernel_rfl)),
 f49 := ⟨"slices.medianAdjacentCmpFunc[pagewatch/api.Span]", by decide, Tryz.func273.trans (congrArg some (by kernel_rfl))⟩,
 f50 := ⟨"slices.medianCmpFunc[pagewatch/api.Span]", by decide, Tryz.func274.trans (congrArg some (by kernel_rfl))⟩,
 f57 := ⟨"slices.order2CmpFunc[pagewatch/api.Span]", by decide, Tryz.func280.trans (congrArg some (by kernel_rfl))⟩,
 t0:=Tryz.underlying0,
 a0:=Tryz.isAgg0,
 z0:=Tryz.sizeOf0,
 v0:=Tryz.zeroValue0,
 t3:=Tryz.underlying3,
 a3:=Tryz.isAgg3,
 z3:=Tryz.sizeOf3,
 v3:=Tryz.zeroValue3,
 t4:=Tryz.underlying4,
 a4:=Tryz.isAgg4,
 z4:=Tryz.sizeOf4,
 v4:=Tryz.zeroValue4,
 t5:=Tryz.underlying5,
 a5:=Tryz.isAgg5,
 z5:=Tryz.sizeOf5,
 v5:=Tryz.zeroValue5,
 t9:=Tryz.underlying9,
 a9:=Tryz.isAgg9,
 z9:=Tryz.sizeOf9,
 v9:=Tryz.zeroValue9,
 t22:=Tryz.underlying65,
 a22:=Tryz.isAgg65,
 z22:=Tryz.sizeOf65,
 v22:=Tryz.zeroValue65,
 t25:=Tryz.underlying234,
 a25:=Tryz.isAgg234,
 z25:=Tryz.sizeOf234,
 v25:=Tryz.zeroValue234,
 t39:=Tryz.underlying206,
 a39:=Tryz.isAgg206,
 z39:=Tryz.sizeOf206,
 v39:=Tryz.zeroValue206,
 t45:=Tryz.underlying236,
 a45:=Tryz.isAgg236,
 z45:=Tryz.sizeOf236,
 v45:=Tryz.zeroValue236,
 t46:=Tryz.underlying237,
 a46:=Tryz.isAgg237,
 z46:=Tryz.sizeOf237,
 v46:=Tryz.zeroValue237,
 t50:=Tryz.underlying117,
 a50:=Tryz.isAgg117,
 z50:=Tryz.sizeOf117,
 v50:=Tryz.zeroValue117,
 t53:=Tryz.underlying243,
 a53:=Tryz.isAgg243,
 z53:=Tryz.sizeOf243,
 v53:=Tryz.zeroValue243,
 t55:=Tryz.underlying245,
 a55:=Tryz.isAgg245,
 z55:=Tryz.sizeOf245,
 v55:=Tryz.zeroValue245,
 t66:=Tryz.underlying261,
 a66:=Tryz.isAgg261,
 z66:=Tryz.sizeOf261,
 v66:=Tryz.zeroValue261,
 t70:=Tryz.underlying265,
 a70:=Tryz.isAgg265,
 z70:=Tryz.sizeOf265,
 v70:=Tryz.zeroValue265,
 t76:=Tryz.underlying279,
 a76:=Tryz.isAgg279,
 z76:=Tryz.sizeOf279,
 v76:=Tryz.zeroValue279,
 t77:=Tryz.underlying106,
 a77:=Tryz.isAgg106,
 z77:=Tryz.sizeOf106,
 v77:=Tryz.zeroValue106 }
def Tryz.sort110_ren:Go.Shelf.Ren:=⟨fun | 6=>110 | 15=>162 | 14=>161 | 28=>206 | 29=>207 | 20=>198 | 21=>199 | 22=>200 | 23=>201 | 24=>202 | 25=>203 | 26=>204 | 27=>205 | 46=>235 | 47=>236 | 48=>237 | 49=>238 | 50=>239 | 57=>260 | n=>n,fun | 22=>56 | 24=>60 | 25=>163 | 3=>3 | 39=>206 | 0=>0 | 53=>243 | 55=>245 | 4=>4 | 46=>237 | 45=>236 | 50=>117 | 5=>5 | 9=>9 | 66=>261 | 70=>265 | 76=>279 | 77=>106 | n=>n,fun n=>n⟩
theorem Tryz.sort110:SlLaysF0.n6 Tryz.prog Tryz.sort110_ren:={
 mixed:=by kernel_rfl,
 f6 := ⟨"slices.SortFunc[[]pagewatch/api.Segment,pagewatch/api.Segment]", by decide, Tryz.func110.trans (congrArg some (by kernel_rfl))⟩,
 f14 := ⟨"slices.pdqsortCmpFunc[pagewatch/api.Segment]", by decide, Tryz.func161.trans (congrArg some (by kernel_rfl))⟩,
 f15:=Tryz.func162.trans (congrArg some (by kernel_rfl)),
 f20 := ⟨"slices.insertionSortCmpFunc[pagewatch/api.Segment]", by decide, Tryz.func198.trans (congrArg some (by kernel_rfl))⟩,
 f21 := ⟨"slices.heapSortCmpFunc[pagewatch/api.Segment]", by decide, Tryz.func199.trans (congrArg some (by kernel_rfl))⟩,
 f22 := ⟨"slices.breakPatternsCmpFunc[pagewatch/api.Segment]", by decide, Tryz.func200.trans (congrArg some (by kernel_rfl))⟩,
 f23 := ⟨"slices.choosePivotCmpFunc[pagewatch/api.Segment]", by decide, Tryz.func201.trans (congrArg some (by kernel_rfl))⟩,
 f24 := ⟨"slices.reverseRangeCmpFunc[pagewatch/api.Segment]", by decide, Tryz.func202.trans (congrArg some (by kernel_rfl))⟩,
 f25 := ⟨"slices.partialInsertionSortCmpFunc[pagewatch/api.Segment]", by decide, Tryz.func203.trans (congrArg some (by kernel_rfl))⟩,
 f26 := ⟨"slices.partitionEqualCmpFunc[pagewatch/api.Segment]", by decide, Tryz.func204.trans (congrArg some (by kernel_rfl))⟩,
 f27 := ⟨"slices.partitionCmpFunc[pagewatch/api.Segment]", by decide, Tryz.func205.trans (congrArg some (by kernel_rfl))⟩,
 f28:=Tryz.func206.trans (congrArg some (by kernel_rfl)),
 f29:=Tryz.func207.trans (congrArg some (by kernel_rfl)),
 f46 := ⟨"slices.siftDownCmpFunc[pagewatch/api.Segment]", by decide, Tryz.func235.trans (congrArg some (by kernel_rfl))⟩,
 f47:=Tryz.func236.trans (congrArg some (by kernel_rfl)),
 f48:=Tryz.func237.trans (congrArg some (by kernel_rfl)),
 f49 := ⟨"slices.medianAdjacentCmpFunc[pagewatch/api.Segment]", by decide, Tryz.func238.trans (congrArg some (by kernel_rfl))⟩,
 f50 := ⟨"slices.medianCmpFunc[pagewatch/api.Segment]", by decide, Tryz.func239.trans (congrArg some (by kernel_rfl))⟩,
 f57 := ⟨"slices.order2CmpFunc[pagewatch/api.Segment]", by decide, Tryz.func260.trans (congrArg some (by kernel_rfl))⟩,
 t0:=Tryz.underlying0,
 a0:=Tryz.isAgg0,
 z0:=Tryz.sizeOf0,
 v0:=Tryz.zeroValue0,
 t3:=Tryz.underlying3,
 a3:=Tryz.isAgg3,
 z3:=Tryz.sizeOf3,
 v3:=Tryz.zeroValue3,
 t4:=Tryz.underlying4,
 a4:=Tryz.isAgg4,
 z4:=Tryz.sizeOf4,
 v4:=Tryz.zeroValue4,
 t5:=Tryz.underlying5,
 a5:=Tryz.isAgg5,
 z5:=Tryz.sizeOf5,
 v5:=Tryz.zeroValue5,
 t9:=Tryz.underlying9,
 a9:=Tryz.isAgg9,
 z9:=Tryz.sizeOf9,
 v9:=Tryz.zeroValue9,
 t22:=Tryz.underlying56,
 a22:=Tryz.isAgg56,
 z22:=Tryz.sizeOf56,
 v22:=Tryz.zeroValue56,
 t25:=Tryz.underlying163,
 a25:=Tryz.isAgg163,
 z25:=Tryz.sizeOf163,
 v25:=Tryz.zeroValue163,
 t39:=Tryz.underlying206,
 a39:=Tryz.isAgg206,
 z39:=Tryz.sizeOf206,
 v39:=Tryz.zeroValue206,
 t45:=Tryz.underlying236,
 a45:=Tryz.isAgg236,
 z45:=Tryz.sizeOf236,
 v45:=Tryz.zeroValue236,
 t46:=Tryz.underlying237,
 a46:=Tryz.isAgg237,
 z46:=Tryz.sizeOf237,
 v46:=Tryz.zeroValue237,
 t50:=Tryz.underlying117,
 a50:=Tryz.isAgg117,
 z50:=Tryz.sizeOf117,
 v50:=Tryz.zeroValue117,
 t53:=Tryz.underlying243,
 a53:=Tryz.isAgg243,
 z53:=Tryz.sizeOf243,
 v53:=Tryz.zeroValue243,
 t55:=Tryz.underlying245,
 a55:=Tryz.isAgg245,
 z55:=Tryz.sizeOf245,
 v55:=Tryz.zeroValue245,
 t66:=Tryz.underlying261,
 a66:=Tryz.isAgg261,
 z66:=Tryz.sizeOf261,
 v66:=Tryz.zeroValue261,
 t70:=Tryz.underlying265,
 a70:=Tryz.isAgg265,
 z70:=Tryz.sizeOf265,
 v70:=Tryz.zeroValue265,
 t76:=Tryz.underlying279,
 a76:=Tryz.isAgg279,
 z76:=Tryz.sizeOf279,
 v76:=Tryz.zeroValue279,
 t77:=Tryz.underlying106,
 a77:=Tryz.isAgg106,
 z77:=Tryz.sizeOf106,
 v77:=Tryz.zeroValue106 }
namespace Pk
set_option maxHeartbeats 1000000 in
theorem js4 (x y:Ty.den ((.pair (.int .i64) (.int .i64)))) (w:World) (_:j8o ((.pair (.int .i64) (.int .i64))) x=true) (_:j8o ((.pair (.int .i64) (.int .i64))) y=true) :
  Calls Tryz.prog 197 #[.agg (encT ((.pair (.int .i64) (.int .i64))) x).toArray,.agg (encT ((.pair (.int .i64) (.int .i64))) y).toArray] w fun e w'=>e = .returned (.int .i64 ((Pw.jbb x y).getD 0))∧∃ q os',w'=grow (w.drewN q) os':=by
 change Calls Tryz.prog 197 #[.agg #[.int .i64 x.1,.int .i64 x.2],.agg #[.int .i64 y.1,.int .i64 y.2]] w fun e w'=>e = .returned (.int .i64 (w64 (x.1-y.1)))∧∃ q os',w'=grow (w.drewN q) os'
 go_enter Tryz.func197,Tryz.ntmps197
 go_wp2
 go_ret
 refine ⟨?_,0,_,by rw [alloc_eq_grow,alloc_eq_grow,grow_grow];rfl⟩
 rw [show w64 (x.1-y.1)=RowKit.wrap64 (x.1-y.1) from IntWalk.i64_left _];rfl
theorem js5:SWO (ltOf fun (x y:Sml ((.pair (.int .i64) (.int .i64))))=>(Pw.jbb x.1 y.1).getD 0):=by
 refine jw2 (fun x=>x.1.1) (fun x=> ?_) _ fun x y=>rfl
 have:=x.2
 simp only [j8o,Bool.and_eq_true,decide_eq_true_eq] at this
 first | exact this | exact this.1 | exact this.2 | exact this.1.1 | exact this.1.2 | exact this.2.1 | exact this.2.2 | exact this.2.1.1 | exact this.2.2.1
set_option maxHeartbeats 1000000 in
theorem js6 (x y:Ty.den ((.pair (.int .i64) (.pair (.int .i64) (.int .i64))))) (w:World) (_:j8o ((.pair (.int .i64) (.pair (.int .i64) (.int .i64)))) x=true) (_:j8o ((.pair (.int .i64) (.pair (.int .i64) (.int .i64)))) y=true) :
  Calls Tryz.prog 111 #[.agg (encT ((.pair (.int .i64) (.pair (.int .i64) (.int .i64)))) x).toArray,.agg (encT ((.pair (.int .i64) (.pair (.int .i64) (.int .i64)))) y).toArray] w fun e w'=>e = .returned (.int .i64 ((Pw.j5t x y).getD 0))∧∃ q os',w'=grow (w.drewN q) os':=by
 change Calls Tryz.prog 111 #[.agg #[.int .i64 x.1,.int .i64 x.2.1,.int .i64 x.2.2],.agg #[.int .i64 y.1,.int .i64 y.2.1,.int .i64 y.2.2]] w fun e w'=>e = .returned (.int .i64 (w64 (x.1-y.1)))∧∃ q os',w'=grow (w.drewN q) os'
 go_enter Tryz.func111,Tryz.ntmps111
 go_wp2
 go_ret
 refine ⟨?_,0,_,by rw [alloc_eq_grow,alloc_eq_grow,grow_grow];rfl⟩
 rw [show w64 (x.1-y.1)=RowKit.wrap64 (x.1-y.1) from IntWalk.i64_left _];rfl
theorem js7:SWO (ltOf fun (x y:Sml ((.pair (.int .i64) (.pair (.int .i64) (.int .i64)))))=>(Pw.j5t x.1 y.1).getD 0):=by
 refine jw2 (fun x=>x.1.1) (fun x=> ?_) _ fun x y=>rfl
 have:=x.2
 simp only [j8o,Bool.and_eq_true,decide_eq_true_eq] at this
 first | exact this | exact this.1 | exact this.2 | exact this.1.1 | exact this.1.2 | exact this.2.1 | exact this.2.2 | exact this.2.1.1 | exact this.2.2.1
end Pk
end Go.Proofs
