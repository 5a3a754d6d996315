/- Tv xG.SortFunc lies, and what its AY nY do; printed by a program. -/
import Derived.Test.YtaieocafhcjelaaGreatEFns
import Derived.Test.YtaieocafhcjelaaGreatProg
import Derived.Shelf.SlSortCmp.NoneTotal
import Derived.Shelf.SortM.Plain
open Go Go.Lft Go.Proofs Go.Sort
namespace Go.Proofs
def Tryz.sort269_ren:Go.Shelf.Ren:=⟨λ| 6=>269|15=>188|14=>326|28=>281|29=>282|20=>369|21=>370|22=>371|23=>372|24=>373|25=>374|26=>375|27=>376|46=>395|47=>330|48=>331|49=>396|50=>397|57=>402|n=>n,λ| 22=>85|24=>99|25=>316|3=>3|39=>254|0=>0|53=>325|55=>327|4=>4|46=>319|45=>318|50=>211|5=>5|9=>9|66=>361|70=>365|76=>391|77=>159|n=>n,λn=>n⟩
theorem Tryz.sort269:SlLaysF0.n6 Tryz.prog Tryz.sort269_ren:={
 mixed:=by kernel_rfl,
 f6 := ⟨"slices.SortFunc[[]pagewatch/api.Span,pagewatch/api.Span]", by decide, Tryz.func269.trans (ji some (by kernel_rfl))⟩,
 f14 := ⟨"slices.pdqsortCmpFunc[pagewatch/api.Span]", by decide, Tryz.func326.trans (ji some (by kernel_rfl))⟩,
 f15:=Tryz.func188.trans (ji some (by kernel_rfl)),
 f20 := ⟨"slices.insertionSortCmpFunc[pagewatch/api.Span]", by decide, Tryz.func369.trans (ji some (by kernel_rfl))⟩,
 f21 := ⟨"slices.heapSortCmpFunc[pagewatch/api.Span]", by decide, Tryz.func370.trans (ji some (by kernel_rfl))⟩,
 f22 := ⟨"slices.breakPatternsCmpFunc[pagewatch/api.Span]", by decide, Tryz.func371.trans (ji some (by kernel_rfl))⟩,
 f23 := ⟨"slices.choosePivotCmpFunc[pagewatch/api.Span]", by decide, Tryz.func372.trans (ji some (by kernel_rfl))⟩,
 f24 := ⟨"slices.reverseRangeCmpFunc[pagewatch/api.Span]", by decide, Tryz.func373.trans (ji some (by kernel_rfl))⟩,
 f25 := ⟨"slices.partialInsertionSortCmpFunc[pagewatch/api.Span]", by decide, Tryz.func374.trans (ji some (by kernel_rfl))⟩,
 f26 := ⟨"slices.partitionEqualCmpFunc[pagewatch/api.Span]", by decide, Tryz.func375.trans (ji some (by kernel_rfl))⟩,
 f27 := ⟨"slices.partitionCmpFunc[pagewatch/api.Span]", by decide, Tryz.func376.trans (ji some (by kernel_rfl))⟩,
 f28:=Tryz.func281.trans (ji some (by kernel_rfl)),
 f29:=Tryz.func282.trans (ji some (by kernel_rfl)),
 f46 := ⟨"slices.siftDownCmpFunc[pagewatch/api.Span]", by decide, Tryz.func395.trans (ji some (by kernel_rfl))⟩,
 f47:=Tryz.func330.trans (ji some (by kernel_rfl)),
 f48:=Tryz.func331.trans (ji some (by kernel_rfl)),
 f49 := ⟨"slices.medianAdjacentCmpFunc[pagewatch/api.Span]", by decide, Tryz.func396.trans (ji some (by kernel_rfl))⟩,
 f50 := ⟨"slices.medianCmpFunc[pagewatch/api.Span]", by decide, Tryz.func397.trans (ji some (by kernel_rfl))⟩,
 f57 := ⟨"slices.order2CmpFunc[pagewatch/api.Span]", by decide, Tryz.func402.trans (ji some (by kernel_rfl))⟩,
 t0:=Tryz.underlying0,
 a0:=Tryz.isAgg0,
 z0:=Tryz.sizeOf0,
 v0:=Tryz.zeroValue0,
 t3:=Tryz.underlying3,
 a3:=Tryz.isAgg3,
 z3:=Tryz.sizeOf3,
 v3:=Tryz.zeroValue3,
 t4:=Tryz.underlying4,
 a4:=Tryz.isAgg4,
 z4:=Tryz.sizeOf4,
 v4:=Tryz.zeroValue4,
 t5:=Tryz.underlying5,
 a5:=Tryz.isAgg5,
 z5:=Tryz.sizeOf5,
 v5:=Tryz.zeroValue5,
 t9:=Tryz.underlying9,
 a9:=Tryz.isAgg9,
 z9:=Tryz.sizeOf9,
 v9:=Tryz.zeroValue9,
 t22:=Tryz.underlying85,
 a22:=Tryz.isAgg85,
 z22:=Tryz.sizeOf85,
 v22:=Tryz.zeroValue85,
 t25:=Tryz.underlying316,
 a25:=Tryz.isAgg316,
 z25:=Tryz.sizeOf316,
 v25:=Tryz.zeroValue316,
 t39:=Tryz.underlying254,
 a39:=Tryz.isAgg254,
 z39:=Tryz.sizeOf254,
 v39:=Tryz.zeroValue254,
 t45:=Tryz.underlying318,
 a45:=Tryz.isAgg318,
 z45:=Tryz.sizeOf318,
 v45:=Tryz.zeroValue318,
 t46:=Tryz.underlying319,
 a46:=Tryz.isAgg319,
 z46:=Tryz.sizeOf319,
 v46:=Tryz.zeroValue319,
 t50:=Tryz.underlying211,
 a50:=Tryz.isAgg211,
 z50:=Tryz.sizeOf211,
 v50:=Tryz.zeroValue211,
 t53:=Tryz.underlying325,
 a53:=Tryz.isAgg325,
 z53:=Tryz.sizeOf325,
 v53:=Tryz.zeroValue325,
 t55:=Tryz.underlying327,
 a55:=Tryz.isAgg327,
 z55:=Tryz.sizeOf327,
 v55:=Tryz.zeroValue327,
 t66:=Tryz.underlying361,
 a66:=Tryz.isAgg361,
 z66:=Tryz.sizeOf361,
 v66:=Tryz.zeroValue361,
 t70:=Tryz.underlying365,
 a70:=Tryz.isAgg365,
 z70:=Tryz.sizeOf365,
 v70:=Tryz.zeroValue365,
 t76:=Tryz.underlying391,
 a76:=Tryz.isAgg391,
 z76:=Tryz.sizeOf391,
 v76:=Tryz.zeroValue391,
 t77:=Tryz.underlying159,
 a77:=Tryz.isAgg159,
 z77:=Tryz.sizeOf159,
 v77:=Tryz.zeroValue159 }
def Tryz.sort222_ren:Go.Shelf.Ren:=⟨λ| 6=>222|15=>188|14=>308|28=>281|29=>282|20=>354|21=>355|22=>356|23=>357|24=>358|25=>359|26=>360|27=>361|46=>389|47=>330|48=>331|49=>390|50=>391|57=>401|n=>n,λ| 22=>36|24=>41|25=>282|3=>3|39=>254|0=>0|53=>325|55=>327|4=>4|46=>319|45=>318|50=>211|5=>5|9=>9|66=>361|70=>365|76=>391|77=>159|n=>n,λn=>n⟩
theorem Tryz.sort222:SlLaysF0.n6 Tryz.prog Tryz.sort222_ren:={
 mixed:=by kernel_rfl,
 f6 := ⟨"slices.SortFunc[[]pagewatch/api.Segment,pagewatch/api.Segment]", by decide, Tryz.func222.trans (ji some (by kernel_rfl))⟩,
 f14 := ⟨"slices.pdqsortCmpFunc[pagewatch/api.Segment]", by decide, Tryz.func308.trans (ji some (by kernel_rfl))⟩,
 f15:=Tryz.func188.trans (ji some (by kernel_rfl)),
 f20 := ⟨"slices.insertionSortCmpFunc[pagewatch/api.Segment]", by decide, Tryz.func354.trans (ji some (by kernel_rfl))⟩,
 f21 := ⟨"slices.heapSortCmpFunc[pagewatch/api.Segment]", by decide, Tryz.func355.trans (ji some (by kernel_rfl))⟩,
 f22 := ⟨"slices.breakPatternsCmpFunc[pagewatch/api.Segment]", by decide, Tryz.func356.trans (ji some (by kernel_rfl))⟩,
 f23 := ⟨"slices.choosePivotCmpFunc[pagewatch/api.Segment]", by decide, Tryz.func357.trans (ji some (by kernel_rfl))⟩,
 f24 := ⟨"slices.reverseRangeCmpFunc[pagewatch/api.Segment]", by decide, Tryz.func358.trans (ji some (by kernel_rfl))⟩,
 f25 := ⟨"slices.partialInsertionSortCmpFunc[pagewatch/api.Segment]", by decide, Tryz.func359.trans (ji some (by kernel_rfl))⟩,
 f26 := ⟨"slices.partitionEqualCmpFunc[pagewatch/api.Segment]", by decide, Tryz.func360.trans (ji some (by kernel_rfl))⟩,
 f27 := ⟨"slices.partitionCmpFunc[pagewatch/api.Segment]", by decide, Tryz.func361.trans (ji some (by kernel_rfl))⟩,
 f28:=Tryz.func281.trans (ji some (by kernel_rfl)),
 f29:=Tryz.func282.trans (ji some (by kernel_rfl)),
 f46 := ⟨"slices.siftDownCmpFunc[pagewatch/api.Segment]", by decide, Tryz.func389.trans (ji some (by kernel_rfl))⟩,
 f47:=Tryz.func330.trans (ji some (by kernel_rfl)),
 f48:=Tryz.func331.trans (ji some (by kernel_rfl)),
 f49 := ⟨"slices.medianAdjacentCmpFunc[pagewatch/api.Segment]", by decide, Tryz.func390.trans (ji some (by kernel_rfl))⟩,
 f50 := ⟨"slices.medianCmpFunc[pagewatch/api.Segment]", by decide, Tryz.func391.trans (ji some (by kernel_rfl))⟩,
 f57 := ⟨"slices.order2CmpFunc[pagewatch/api.Segment]", by decide, Tryz.func401.trans (ji some (by kernel_rfl))⟩,
 t0:=Tryz.underlying0,
 a0:=Tryz.isAgg0,
 z0:=Tryz.sizeOf0,
 v0:=Tryz.zeroValue0,
 t3:=Tryz.underlying3,
 a3:=Tryz.isAgg3,
 z3:=Tryz.sizeOf3,
 v3:=Tryz.zeroValue3,
 t4:=Tryz.underlying4,
 a4:=Tryz.isAgg4,
 z4:=Tryz.sizeOf4,
 v4:=Tryz.zeroValue4,
 t5:=Tryz.underlying5,
 a5:=Tryz.isAgg5,
 z5:=Tryz.sizeOf5,
 v5:=Tryz.zeroValue5,
 t9:=Tryz.underlying9,
 a9:=Tryz.isAgg9,
 z9:=Tryz.sizeOf9,
 v9:=Tryz.zeroValue9,
 t22:=Tryz.underlying36,
 a22:=Tryz.isAgg36,
 z22:=Tryz.sizeOf36,
 v22:=Tryz.zeroValue36,
 t25:=Tryz.underlying282,
 a25:=Tryz.isAgg282,
 z25:=Tryz.sizeOf282,
 v25:=Tryz.zeroValue282,
 t39:=Tryz.underlying254,
 a39:=Tryz.isAgg254,
 z39:=Tryz.sizeOf254,
 v39:=Tryz.zeroValue254,
 t45:=Tryz.underlying318,
 a45:=Tryz.isAgg318,
 z45:=Tryz.sizeOf318,
 v45:=Tryz.zeroValue318,
 t46:=Tryz.underlying319,
 a46:=Tryz.isAgg319,
 z46:=Tryz.sizeOf319,
 v46:=Tryz.zeroValue319,
 t50:=Tryz.underlying211,
 a50:=Tryz.isAgg211,
 z50:=Tryz.sizeOf211,
 v50:=Tryz.zeroValue211,
 t53:=Tryz.underlying325,
 a53:=Tryz.isAgg325,
 z53:=Tryz.sizeOf325,
 v53:=Tryz.zeroValue325,
 t55:=Tryz.underlying327,
 a55:=Tryz.isAgg327,
 z55:=Tryz.sizeOf327,
 v55:=Tryz.zeroValue327,
 t66:=Tryz.underlying361,
 a66:=Tryz.isAgg361,
 z66:=Tryz.sizeOf361,
 v66:=Tryz.zeroValue361,
 t70:=Tryz.underlying365,
 a70:=Tryz.isAgg365,
 z70:=Tryz.sizeOf365,
 v70:=Tryz.zeroValue365,
 t76:=Tryz.underlying391,
 a76:=Tryz.isAgg391,
 z76:=Tryz.sizeOf391,
 v76:=Tryz.zeroValue391,
 t77:=Tryz.underlying159,
 a77:=Tryz.isAgg159,
 z77:=Tryz.sizeOf159,
 v77:=Tryz.zeroValue159 }
def Tryz.sort215_ren:Go.Shelf.Ren:=⟨λ| 5=>215|8=>188|7=>304|19=>281|20=>282|10=>345|11=>346|12=>347|13=>348|14=>349|15=>350|16=>224|17=>351|18=>352|30=>386|31=>330|32=>331|33=>387|34=>388|35=>309|40=>400|n=>n,λ| 23=>22|25=>3|3=>3|32=>254|22=>22|0=>0|44=>325|46=>327|4=>4|36=>319|35=>318|41=>211|5=>5|9=>9|53=>361|57=>365|63=>391|64=>159|n=>n,λn=>n⟩
theorem Tryz.sort215:SlLaysM.n5 Tryz.prog Tryz.sort215_ren:={
 mixed:=by kernel_rfl,
 f5 := ⟨"slices.Sort[[]int,int]", by decide, Tryz.func215.trans (ji some (by kernel_rfl))⟩,
 f7 := ⟨"slices.pdqsortOrdered[int]", by decide, Tryz.func304.trans (ji some (by kernel_rfl))⟩,
 f8:=Tryz.func188.trans (ji some (by kernel_rfl)),
 f10 := ⟨"slices.insertionSortOrdered[int]", by decide, Tryz.func345.trans (ji some (by kernel_rfl))⟩,
 f11 := ⟨"slices.heapSortOrdered[int]", by decide, Tryz.func346.trans (ji some (by kernel_rfl))⟩,
 f12 := ⟨"slices.breakPatternsOrdered[int]", by decide, Tryz.func347.trans (ji some (by kernel_rfl))⟩,
 f13 := ⟨"slices.choosePivotOrdered[int]", by decide, Tryz.func348.trans (ji some (by kernel_rfl))⟩,
 f14 := ⟨"slices.reverseRangeOrdered[int]", by decide, Tryz.func349.trans (ji some (by kernel_rfl))⟩,
 f15 := ⟨"slices.partialInsertionSortOrdered[int]", by decide, Tryz.func350.trans (ji some (by kernel_rfl))⟩,
 f16 := ⟨"cmp.Less[int]", by decide, Tryz.func224.trans (ji some (by kernel_rfl))⟩,
 f17 := ⟨"slices.partitionEqualOrdered[int]", by decide, Tryz.func351.trans (ji some (by kernel_rfl))⟩,
 f18 := ⟨"slices.partitionOrdered[int]", by decide, Tryz.func352.trans (ji some (by kernel_rfl))⟩,
 f19:=Tryz.func281.trans (ji some (by kernel_rfl)),
 f20:=Tryz.func282.trans (ji some (by kernel_rfl)),
 f30 := ⟨"slices.siftDownOrdered[int]", by decide, Tryz.func386.trans (ji some (by kernel_rfl))⟩,
 f31:=Tryz.func330.trans (ji some (by kernel_rfl)),
 f32:=Tryz.func331.trans (ji some (by kernel_rfl)),
 f33 := ⟨"slices.medianAdjacentOrdered[int]", by decide, Tryz.func387.trans (ji some (by kernel_rfl))⟩,
 f34 := ⟨"slices.medianOrdered[int]", by decide, Tryz.func388.trans (ji some (by kernel_rfl))⟩,
 f35 := ⟨"cmp.isNaN[int]", by decide, Tryz.func309.trans (ji some (by kernel_rfl))⟩,
 f40 := ⟨"slices.order2Ordered[int]", by decide, Tryz.func400.trans (ji some (by kernel_rfl))⟩,
 t0:=Tryz.underlying0,
 a0:=Tryz.isAgg0,
 z0:=Tryz.sizeOf0,
 v0:=Tryz.zeroValue0,
 t3:=Tryz.underlying3,
 a3:=Tryz.isAgg3,
 z3:=Tryz.sizeOf3,
 v3:=Tryz.zeroValue3,
 t4:=Tryz.underlying4,
 a4:=Tryz.isAgg4,
 z4:=Tryz.sizeOf4,
 v4:=Tryz.zeroValue4,
 t5:=Tryz.underlying5,
 a5:=Tryz.isAgg5,
 z5:=Tryz.sizeOf5,
 v5:=Tryz.zeroValue5,
 t9:=Tryz.underlying9,
 a9:=Tryz.isAgg9,
 z9:=Tryz.sizeOf9,
 v9:=Tryz.zeroValue9,
 t22:=Tryz.underlying22,
 a22:=Tryz.isAgg22,
 z22:=Tryz.sizeOf22,
 v22:=Tryz.zeroValue22,
 t23:=Tryz.underlying22,
 a23:=Tryz.isAgg22,
 z23:=Tryz.sizeOf22,
 v23:=Tryz.zeroValue22,
 t25:=Tryz.underlying3,
 a25:=Tryz.isAgg3,
 z25:=Tryz.sizeOf3,
 v25:=Tryz.zeroValue3,
 t32:=Tryz.underlying254,
 a32:=Tryz.isAgg254,
 z32:=Tryz.sizeOf254,
 v32:=Tryz.zeroValue254,
 t35:=Tryz.underlying318,
 a35:=Tryz.isAgg318,
 z35:=Tryz.sizeOf318,
 v35:=Tryz.zeroValue318,
 t36:=Tryz.underlying319,
 a36:=Tryz.isAgg319,
 z36:=Tryz.sizeOf319,
 v36:=Tryz.zeroValue319,
 t41:=Tryz.underlying211,
 a41:=Tryz.isAgg211,
 z41:=Tryz.sizeOf211,
 v41:=Tryz.zeroValue211,
 t44:=Tryz.underlying325,
 a44:=Tryz.isAgg325,
 z44:=Tryz.sizeOf325,
 v44:=Tryz.zeroValue325,
 t46:=Tryz.underlying327,
 a46:=Tryz.isAgg327,
 z46:=Tryz.sizeOf327,
 v46:=Tryz.zeroValue327,
 t53:=Tryz.underlying361,
 a53:=Tryz.isAgg361,
 z53:=Tryz.sizeOf361,
 v53:=Tryz.zeroValue361,
 t57:=Tryz.underlying365,
 a57:=Tryz.isAgg365,
 z57:=Tryz.sizeOf365,
 v57:=Tryz.zeroValue365,
 t63:=Tryz.underlying391,
 a63:=Tryz.isAgg391,
 z63:=Tryz.sizeOf391,
 v63:=Tryz.zeroValue391,
 t64:=Tryz.underlying159,
 a64:=Tryz.isAgg159,
 z64:=Tryz.sizeOf159,
 v64:=Tryz.zeroValue159 }
def Tryz.sort120_ren:Go.Shelf.Ren:=⟨λ| 6=>120|15=>188|14=>187|28=>281|29=>282|20=>273|21=>274|22=>275|23=>276|24=>277|25=>278|26=>279|27=>280|46=>329|47=>330|48=>331|49=>332|50=>333|57=>377|n=>n,λ| 22=>82|24=>96|25=>178|3=>3|39=>254|0=>0|53=>325|55=>327|4=>4|46=>319|45=>318|50=>211|5=>5|9=>9|66=>361|70=>365|76=>391|77=>159|n=>n,λn=>n⟩
theorem Tryz.sort120:SlLaysF0.n6 Tryz.prog Tryz.sort120_ren:={
 mixed:=by kernel_rfl,
 f6 := ⟨"slices.SortFunc[[]pagewatch/api.Violation,pagewatch/api.Violation]", by decide, Tryz.func120.trans (ji some (by kernel_rfl))⟩,
 f14 := ⟨"slices.pdqsortCmpFunc[pagewatch/api.Violation]", by decide, Tryz.func187.trans (ji some (by kernel_rfl))⟩,
 f15:=Tryz.func188.trans (ji some (by kernel_rfl)),
 f20 := ⟨"slices.insertionSortCmpFunc[pagewatch/api.Violation]", by decide, Tryz.func273.trans (ji some (by kernel_rfl))⟩,
 f21 := ⟨"slices.heapSortCmpFunc[pagewatch/api.Violation]", by decide, Tryz.func274.trans (ji some (by kernel_rfl))⟩,
 f22 := ⟨"slices.breakPatternsCmpFunc[pagewatch/api.Violation]", by decide, Tryz.func275.trans (ji some (by kernel_rfl))⟩,
 f23 := ⟨"slices.choosePivotCmpFunc[pagewatch/api.Violation]", by decide, Tryz.func276.trans (ji some (by kernel_rfl))⟩,
 f24 := ⟨"slices.reverseRangeCmpFunc[pagewatch/api.Violation]", by decide, Tryz.func277.trans (ji some (by kernel_rfl))⟩,
 f25 := ⟨"slices.partialInsertionSortCmpFunc[pagewatch/api.Violation]", by decide, Tryz.func278.trans (ji some (by kernel_rfl))⟩,
 f26 := ⟨"slices.partitionEqualCmpFunc[pagewatch/api.Violation]", by decide, Tryz.func279.trans (ji some (by kernel_rfl))⟩,
 f27 := ⟨"slices.partitionCmpFunc[pagewatch/api.Violation]", by decide, Tryz.func280.trans (ji some (by kernel_rfl))⟩,
 f28:=Tryz.func281.trans (ji some (by kernel_rfl)),
 f29:=Tryz.func282.trans (ji some (by kernel_rfl)),
 f46 := ⟨"slices.siftDownCmpFunc[pagewatch/api.Violation]", by decide, Tryz.func329.trans (ji some (by kernel_rfl))⟩,
 f47:=Tryz.func330.trans (ji some (by kernel_rfl)),
 f48:=Tryz.func331.trans (ji some (by kernel_rfl)),
 f49 := ⟨"slices.medianAdjacentCmpFunc[pagewatch/api.Violation]", by decide, Tryz.func332.trans (ji some (by kernel_rfl))⟩,
 f50 := ⟨"slices.medianCmpFunc[pagewatch/api.Violation]", by decide, Tryz.func333.trans (ji some (by kernel_rfl))⟩,
 f57 := ⟨"slices.order2CmpFunc[pagewatch/api.Violation]", by decide, Tryz.func377.trans (ji some (by kernel_rfl))⟩,
 t0:=Tryz.underlying0,
 a0:=Tryz.isAgg0,
 z0:=Tryz.sizeOf0,
 v0:=Tryz.zeroValue0,
 t3:=Tryz.underlying3,
 a3:=Tryz.isAgg3,
 z3:=Tryz.sizeOf3,
 v3:=Tryz.zeroValue3,
 t4:=Tryz.underlying4,
 a4:=Tryz.isAgg4,
 z4:=Tryz.sizeOf4,
 v4:=Tryz.zeroValue4,
 t5:=Tryz.underlying5,
 a5:=Tryz.isAgg5,
 z5:=Tryz.sizeOf5,
 v5:=Tryz.zeroValue5,
 t9:=Tryz.underlying9,
 a9:=Tryz.isAgg9,
 z9:=Tryz.sizeOf9,
 v9:=Tryz.zeroValue9,
 t22:=Tryz.underlying82,
 a22:=Tryz.isAgg82,
 z22:=Tryz.sizeOf82,
 v22:=Tryz.zeroValue82,
 t25:=Tryz.underlying178,
 a25:=Tryz.isAgg178,
 z25:=Tryz.sizeOf178,
 v25:=Tryz.zeroValue178,
 t39:=Tryz.underlying254,
 a39:=Tryz.isAgg254,
 z39:=Tryz.sizeOf254,
 v39:=Tryz.zeroValue254,
 t45:=Tryz.underlying318,
 a45:=Tryz.isAgg318,
 z45:=Tryz.sizeOf318,
 v45:=Tryz.zeroValue318,
 t46:=Tryz.underlying319,
 a46:=Tryz.isAgg319,
 z46:=Tryz.sizeOf319,
 v46:=Tryz.zeroValue319,
 t50:=Tryz.underlying211,
 a50:=Tryz.isAgg211,
 z50:=Tryz.sizeOf211,
 v50:=Tryz.zeroValue211,
 t53:=Tryz.underlying325,
 a53:=Tryz.isAgg325,
 z53:=Tryz.sizeOf325,
 v53:=Tryz.zeroValue325,
 t55:=Tryz.underlying327,
 a55:=Tryz.isAgg327,
 z55:=Tryz.sizeOf327,
 v55:=Tryz.zeroValue327,
 t66:=Tryz.underlying361,
 a66:=Tryz.isAgg361,
 z66:=Tryz.sizeOf361,
 v66:=Tryz.zeroValue361,
 t70:=Tryz.underlying365,
 a70:=Tryz.isAgg365,
 z70:=Tryz.sizeOf365,
 v70:=Tryz.zeroValue365,
 t76:=Tryz.underlying391,
 a76:=Tryz.isAgg391,
 z76:=Tryz.sizeOf391,
 v76:=Tryz.zeroValue391,
 t77:=Tryz.underlying159,
 a77:=Tryz.isAgg159,
 z77:=Tryz.sizeOf159,
 v77:=Tryz.zeroValue159 }
namespace Pk
set_option maxHeartbeats 1000000 in
theorem jrs(x y:Ty.den ((.pair (.int .i64) (.int .i64))))(w:World)(_:fK ((.pair (.int .i64) (.int .i64))) x=true)(_:fK ((.pair (.int .i64) (.int .i64))) y=true) :
  Calls Tryz.prog 270 #[.agg (encT ((.pair (.int .i64) (.int .i64))) x).toArray,.agg (encT ((.pair (.int .i64) (.int .i64))) y).toArray] w λe w'=>e = .returned (.int .i64 ((Pw.j8x x y).getD 0))/\∃q lK,w'=grow (w.drewN q) lK:=by
 change Calls Tryz.prog 270 #[.agg #[.int .i64 x.1,.int .i64 x.2],.agg #[.int .i64 y.1,.int .i64 y.2]] w λe w'=>e = .returned (.int .i64 (w64 (x.1-y.1)))/\∃q lK,w'=grow (w.drewN q) lK
 go_enter Tryz.func270,Tryz.ntmps270
 go_wp2
 go_ret
 refine⟨?_,0,_,by rw[alloc_eq_grow,alloc_eq_grow,grow_grow];rfl⟩;rw[show w64 (x.1-y.1)=RowKit.wrap64 (x.1-y.1) from IntWalk.i64_left _];rfl
theorem jrt:SWO (ltOf λ(x y:Sml ((.pair (.int .i64) (.int .i64))))=>(Pw.j8x x.1 y.1).getD 0):=by
 refine Gd (λx=>x.1.1) (λx=>?_) _ λx y=>rfl;have:=x.2;simp only[fK,jb,jo]at this;first|exact this|exact this.1|exact this.2|exact this.1.1|exact this.1.2|exact this.2.1|exact this.2.2|exact this.2.1.1|exact this.2.2.1
set_option maxHeartbeats 1000000 in
theorem jru(x y:Ty.den ((.pair (.int .i64) (.pair (.int .i64) (.int .i64)))))(w:World)(_:fK ((.pair (.int .i64) (.pair (.int .i64) (.int .i64)))) x=true)(_:fK ((.pair (.int .i64) (.pair (.int .i64) (.int .i64)))) y=true) :
  Calls Tryz.prog 223 #[.agg (encT ((.pair (.int .i64) (.pair (.int .i64) (.int .i64)))) x).toArray,.agg (encT ((.pair (.int .i64) (.pair (.int .i64) (.int .i64)))) y).toArray] w λe w'=>e = .returned (.int .i64 ((Pw.j4r x y).getD 0))/\∃q lK,w'=grow (w.drewN q) lK:=by
 change Calls Tryz.prog 223 #[.agg #[.int .i64 x.1,.int .i64 x.2.1,.int .i64 x.2.2],.agg #[.int .i64 y.1,.int .i64 y.2.1,.int .i64 y.2.2]] w λe w'=>e = .returned (.int .i64 (w64 (x.1-y.1)))/\∃q lK,w'=grow (w.drewN q) lK
 go_enter Tryz.func223,Tryz.ntmps223
 go_wp2
 go_ret
 refine⟨?_,0,_,by rw[alloc_eq_grow,alloc_eq_grow,grow_grow];rfl⟩;rw[show w64 (x.1-y.1)=RowKit.wrap64 (x.1-y.1) from IntWalk.i64_left _];rfl
theorem jrv:SWO (ltOf λ(x y:Sml ((.pair (.int .i64) (.pair (.int .i64) (.int .i64)))))=>(Pw.j4r x.1 y.1).getD 0):=by
 refine Gd (λx=>x.1.1) (λx=>?_) _ λx y=>rfl;have:=x.2;simp only[fK,jb,jo]at this;first|exact this|exact this.1|exact this.2|exact this.1.1|exact this.1.2|exact this.2.1|exact this.2.2|exact this.2.1.1|exact this.2.2.1
theorem jyQ{α:Type}(k1 k2 k3:α->Int)(h1:∀x, -1152921504606846976<=k1 x/\k1 x<=1152921504606846976)(h2:∀x, -1152921504606846976<=k2 x/\k2 x<=1152921504606846976)(h3:∀x, -1152921504606846976<=k3 x/\k3 x<=1152921504606846976)
  (cf:α->α->Int)(h:∀x y,cf x y=(cond (k1 x != k1 y) (some (w64 (k1 x-k1 y))) (cond (k2 x != k2 y) (some (w64 (k2 x-k2 y))) (some (w64 (k3 x-k3 y))))).getD 0):SWO (ltOf cf):=by
 have e:∀x y,ltOf cf x y=decide (k1 x<k1 y\/k1 x=k1 y/\(k2 x<k2 y\/k2 x=k2 y/\k3 x<k3 y)):=by
  intro x y;have a1:=h1 x;have a2:=h1 y;have b1:=h2 x;have b2:=h2 y;have c1:=h3 x;have c2:=h3 y;simp only[ltOf,h];by_cases q1:k1 x=k1 y
  .rw[show (k1 x != k1 y)=false by simp[q1],j6];by_cases q2:k2 x=k2 y
   .rw[show (k2 x != k2 y)=false by simp[q2],j6,kz,ai (by omega) (by omega)];exact decide_eq_decide.2 (by omega)
   .rw[show (k2 x != k2 y)=true by simp[q2],j5,kz,ai (by omega) (by omega)];exact decide_eq_decide.2 (by omega)
  .rw[show (k1 x != k1 y)=true by simp[q1],j5,kz,ai (by omega) (by omega)];exact decide_eq_decide.2 (by omega)
 refine⟨λx=>?_,λx y z=>?_,λx y z=>?_⟩
 .rw[e];simp
 .rw[e,e,e];simp only[jo];omega
 .rw[e,e,e];simp only[kp];omega
set_option maxHeartbeats 1000000 in
theorem jrw(x y:Ty.den ((.pair (.int .i64) (.pair (.int .i64) (.int .i64)))))(w:World)(_:fK ((.pair (.int .i64) (.pair (.int .i64) (.int .i64)))) x=true)(_:fK ((.pair (.int .i64) (.pair (.int .i64) (.int .i64)))) y=true) :
  Calls Tryz.prog 121 #[.agg (encT ((.pair (.int .i64) (.pair (.int .i64) (.int .i64)))) x).toArray,.agg (encT ((.pair (.int .i64) (.pair (.int .i64) (.int .i64)))) y).toArray] w λe w'=>e = .returned (.int .i64 ((Pw.j5x x y).getD 0))/\∃q lK,w'=grow (w.drewN q) lK:=by
 change Calls Tryz.prog 121 #[.agg #[.int .i64 x.1,.int .i64 x.2.1,.int .i64 x.2.2],.agg #[.int .i64 y.1,.int .i64 y.2.1,.int .i64 y.2.2]] w λe w'=>e = .returned (.int .i64 ((cond (x.2.2 != y.2.2) (some (w64 (x.2.2-y.2.2))) (cond (x.1 != y.1) (some (w64 (x.1-y.1))) (some (w64 (x.2.1-y.2.1))))).getD 0))/\∃q lK,w'=grow (w.drewN q) lK
 generalize x.2.2=x1 at *
 generalize x.1=x2 at *
 generalize x.2.1=x3 at *
 generalize y.2.2=y1 at *
 generalize y.1=y2 at *
 generalize y.2.1=y3 at *
 by_cases q1:x1=y1
 .subst q1;by_cases q2:x2=y2
  .subst q2;simp only[jp,j6,kz]
   go_enter Tryz.func121,Tryz.ntmps121
   go_wp2
   go_ret
   refine⟨?_,0,_,by rw[alloc_eq_grow,alloc_eq_grow,grow_grow];rfl⟩;rw[show w64 (x3-y3)=RowKit.wrap64 (x3-y3) from IntWalk.i64_left _];rfl
  .have q3:(x2 != y2)=true:=by simp[q2]
   rw[q3];simp only[jp,j6,j5,kz]
   go_enter Tryz.func121,Tryz.ntmps121
   go_wp2
   all_goals first
    |exact absurd (q3.symm.trans ‹(x2 != y2)=false›) (by decide)
    |(
     go_ret
     refine⟨?_,0,_,by rw[alloc_eq_grow,alloc_eq_grow,grow_grow];rfl⟩;rw[show w64 (x2-y2)=RowKit.wrap64 (x2-y2) from IntWalk.i64_left _];rfl)
 .have q3:(x1 != y1)=true:=by simp[q1]
  rw[q3];simp only[j5,kz]
  go_enter Tryz.func121,Tryz.ntmps121
  go_wp2
  all_goals first
   |exact absurd (q3.symm.trans ‹(x1 != y1)=false›) (by decide)
   |(
    go_ret
    refine⟨?_,0,_,by rw[alloc_eq_grow,alloc_eq_grow,grow_grow];rfl⟩;rw[show w64 (x1-y1)=RowKit.wrap64 (x1-y1) from IntWalk.i64_left _];rfl)
theorem jrx:SWO (ltOf λ(x y:Sml ((.pair (.int .i64) (.pair (.int .i64) (.int .i64)))))=>(Pw.j5x x.1 y.1).getD 0):=by
 have key:∀x:Sml ((.pair (.int .i64) (.pair (.int .i64) (.int .i64)))),(-1152921504606846976<=(x.1.1:Int)/\(x.1.1:Int)<=1152921504606846976)/\(-1152921504606846976<=(x.1.2.1:Int)/\(x.1.2.1:Int)<=1152921504606846976)/\(-1152921504606846976<=(x.1.2.2:Int)/\(x.1.2.2:Int)<=1152921504606846976):=λx=>by
  have:=x.2;simp only[fK,jb,jo]at this;exact this
 exact jyQ (λx=>x.1.2.2) (λx=>x.1.1) (λx=>x.1.2.1) (λx=>by first|exact(key x).1|exact(key x).2.1|exact(key x).2.2) (λx=>by first|exact(key x).1|exact(key x).2.1|exact(key x).2.2)
  (λx=>by first|exact(key x).1|exact(key x).2.1|exact(key x).2.2) _ λx y=>rfl
end Pk
end Go.Proofs
