/- JT sy.SortFunc QM, and what its uu gf do; printed by a program. -/
import Derived.Test.YtbpjdcbbmibehaaGreatWEFns
import Derived.Test.YtbpjdcbbmibehaaGreatProg
import Derived.Shelf.SlSortCmp.NoneTotal
open Go Go.Lft Go.Proofs Go.Sort
namespace Go.Proofs
def Tryz.sort207_ren:Go.Shelf.Ren:=⟨λ| 6=>207|15=>155|14=>284|28=>229|29=>230|20=>330|21=>331|22=>332|23=>333|24=>334|25=>335|26=>336|27=>337|46=>376|47=>293|48=>294|49=>377|50=>378|57=>395|n=>n,λ| 22=>46|24=>72|25=>271|3=>3|39=>232|0=>0|53=>286|55=>288|4=>4|46=>280|45=>279|50=>258|5=>5|9=>9|66=>341|70=>345|76=>381|77=>297|n=>n,λn=>n⟩
theorem Tryz.sort207:SlLaysF0.n6 Tryz.prog Tryz.sort207_ren:={
 mixed:=by kernel_rfl,
 f6 := ⟨"slices.SortFunc[[]pagewatch/api.Span,pagewatch/api.Span]", by decide, Tryz.func207.trans (kc some (by kernel_rfl))⟩,
 f14 := ⟨"slices.pdqsortCmpFunc[pagewatch/api.Span]", by decide, Tryz.func284.trans (kc some (by kernel_rfl))⟩,
 f15:=Tryz.func155.trans (kc some (by kernel_rfl)),
 f20 := ⟨"slices.insertionSortCmpFunc[pagewatch/api.Span]", by decide, Tryz.func330.trans (kc some (by kernel_rfl))⟩,
 f21 := ⟨"slices.heapSortCmpFunc[pagewatch/api.Span]", by decide, Tryz.func331.trans (kc some (by kernel_rfl))⟩,
 f22 := ⟨"slices.breakPatternsCmpFunc[pagewatch/api.Span]", by decide, Tryz.func332.trans (kc some (by kernel_rfl))⟩,
 f23 := ⟨"slices.choosePivotCmpFunc[pagewatch/api.Span]", by decide, Tryz.func333.trans (kc some (by kernel_rfl))⟩,
 f24 := ⟨"slices.reverseRangeCmpFunc[pagewatch/api.Span]", by decide, Tryz.func334.trans (kc some (by kernel_rfl))⟩,
 f25 := ⟨"slices.partialInsertionSortCmpFunc[pagewatch/api.Span]", by decide, Tryz.func335.trans (kc some (by kernel_rfl))⟩,
 f26 := ⟨"slices.partitionEqualCmpFunc[pagewatch/api.Span]", by decide, Tryz.func336.trans (kc some (by kernel_rfl))⟩,
 f27 := ⟨"slices.partitionCmpFunc[pagewatch/api.Span]", by decide, Tryz.func337.trans (kc some (by kernel_rfl))⟩,
 f28:=Tryz.func229.trans (kc some (by kernel_rfl)),
 f29:=Tryz.func230.trans (kc some (by kernel_rfl)),
 f46 := ⟨"slices.siftDownCmpFunc[pagewatch/api.Span]", by decide, Tryz.func376.trans (kc some (by kernel_rfl))⟩,
 f47:=Tryz.func293.trans (kc some (by kernel_rfl)),
 f48:=Tryz.func294.trans (kc some (by kernel_rfl)),
 f49 := ⟨"slices.medianAdjacentCmpFunc[pagewatch/api.Span]", by decide, Tryz.func377.trans (kc some (by kernel_rfl))⟩,
 f50 := ⟨"slices.medianCmpFunc[pagewatch/api.Span]", by decide, Tryz.func378.trans (kc some (by kernel_rfl))⟩,
 f57 := ⟨"slices.order2CmpFunc[pagewatch/api.Span]", by decide, Tryz.func395.trans (kc some (by kernel_rfl))⟩,
 t0:=Tryz.underlying0,
 a0:=Tryz.isAgg0,
 z0:=Tryz.sizeOf0,
 v0:=Tryz.zeroValue0,
 t3:=Tryz.underlying3,
 a3:=Tryz.isAgg3,
 z3:=Tryz.sizeOf3,
 v3:=Tryz.zeroValue3,
 t4:=Tryz.underlying4,
 a4:=Tryz.isAgg4,
 z4:=Tryz.sizeOf4,
 v4:=Tryz.zeroValue4,
 t5:=Tryz.underlying5,
 a5:=Tryz.isAgg5,
 z5:=Tryz.sizeOf5,
 v5:=Tryz.zeroValue5,
 t9:=Tryz.underlying9,
 a9:=Tryz.isAgg9,
 z9:=Tryz.sizeOf9,
 v9:=Tryz.zeroValue9,
 t22:=Tryz.underlying46,
 a22:=Tryz.isAgg46,
 z22:=Tryz.sizeOf46,
 v22:=Tryz.zeroValue46,
 t25:=Tryz.underlying271,
 a25:=Tryz.isAgg271,
 z25:=Tryz.sizeOf271,
 v25:=Tryz.zeroValue271,
 t39:=Tryz.underlying232,
 a39:=Tryz.isAgg232,
 z39:=Tryz.sizeOf232,
 v39:=Tryz.zeroValue232,
 t45:=Tryz.underlying279,
 a45:=Tryz.isAgg279,
 z45:=Tryz.sizeOf279,
 v45:=Tryz.zeroValue279,
 t46:=Tryz.underlying280,
 a46:=Tryz.isAgg280,
 z46:=Tryz.sizeOf280,
 v46:=Tryz.zeroValue280,
 t50:=Tryz.underlying258,
 a50:=Tryz.isAgg258,
 z50:=Tryz.sizeOf258,
 v50:=Tryz.zeroValue258,
 t53:=Tryz.underlying286,
 a53:=Tryz.isAgg286,
 z53:=Tryz.sizeOf286,
 v53:=Tryz.zeroValue286,
 t55:=Tryz.underlying288,
 a55:=Tryz.isAgg288,
 z55:=Tryz.sizeOf288,
 v55:=Tryz.zeroValue288,
 t66:=Tryz.underlying341,
 a66:=Tryz.isAgg341,
 z66:=Tryz.sizeOf341,
 v66:=Tryz.zeroValue341,
 t70:=Tryz.underlying345,
 a70:=Tryz.isAgg345,
 z70:=Tryz.sizeOf345,
 v70:=Tryz.zeroValue345,
 t76:=Tryz.underlying381,
 a76:=Tryz.isAgg381,
 z76:=Tryz.sizeOf381,
 v76:=Tryz.zeroValue381,
 t77:=Tryz.underlying297,
 a77:=Tryz.isAgg297,
 z77:=Tryz.sizeOf297,
 v77:=Tryz.zeroValue297 }
namespace Pk
set_option maxHeartbeats 1000000 in
theorem QN(x y:Ty.den ((.pair (.int .i64) (.int .i64))))(w:World)(_:gd ((.pair (.int .i64) (.int .i64))) x=true)(_:gd ((.pair (.int .i64) (.int .i64))) y=true) :
  Calls Tryz.prog 208 #[.agg (encT ((.pair (.int .i64) (.int .i64))) x).toArray,.agg (encT ((.pair (.int .i64) (.int .i64))) y).toArray] w λe w'=>e = .returned (.int .i64 ((Pw.j3c x y).getD 0))/\∃q pO,w'=grow (w.drewN q) pO:=by
 change Calls Tryz.prog 208 #[.agg #[.int .i64 x.1,.int .i64 x.2],.agg #[.int .i64 y.1,.int .i64 y.2]] w λe w'=>e = .returned (.int .i64 (w64 (x.1-y.1)))/\∃q pO,w'=grow (w.drewN q) pO
 go_enter Tryz.func208,Tryz.ntmps208
 go_wp2
 go_ret
 refine⟨?_,0,_,by rw[alloc_eq_grow,alloc_eq_grow,grow_grow];rfl⟩;rw[show w64 (x.1-y.1)=RowKit.wrap64 (x.1-y.1) from IntWalk.i64_left _];rfl
theorem QO:SWO (ltOf λ(x y:Sml ((.pair (.int .i64) (.int .i64))))=>(Pw.j3c x.1 y.1).getD 0):=by
 refine Jh (λx=>x.1.1) (λx=>?_) _ λx y=>rfl;have:=x.2;simp only[gd,jb,jg]at this;first|exact this|exact this.1|exact this.2|exact this.1.1|exact this.1.2|exact this.2.1|exact this.2.2|exact this.2.1.1|exact this.2.2.1
end Pk
end Go.Proofs
