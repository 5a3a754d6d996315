/- ZH AS.SortFunc lies, and what its CM re do; printed by a program. -/
import Derived.Test.YtkoifkkadkmecaaGreatLRFns
import Derived.Test.YtkoifkkadkmecaaGreatProg
import Derived.Shelf.SlSortCmp.NoneTotal
import Derived.Shelf.SortM.Plain
open Option renaming some->b
open Go.IntWalk renaming i64_left->d
open Go.RowKit renaming wrap64->i
open Go Go.Lft Go.Proofs Go.Sort
namespace Go.Proofs
def Tryz.sort90_ren:Go.Shelf.Ren:=⟨λ| 6=>90|15=>63|14=>149|28=>108|29=>109|20=>192|21=>193|22=>194|23=>195|24=>196|25=>197|26=>198|27=>199|46=>235|47=>157|48=>158|49=>236|50=>237|57=>256|n=>n,λ| 22=>40|24=>58|25=>163|3=>3|39=>139|0=>0|53=>175|55=>177|4=>4|46=>169|45=>168|50=>156|5=>5|9=>9|66=>219|70=>223|76=>258|77=>227|n=>n,λn=>n⟩
theorem Tryz.sort90:SlLaysF0.n6 Tryz.prog Tryz.sort90_ren:={
 mixed:=by kernel_rfl,
 f6 := ⟨"slices.SortFunc[[]pagewatch/api.Span,pagewatch/api.Span]", by decide, Tryz.func90.trans (jo b (by kernel_rfl))⟩,
 f14 := ⟨"slices.pdqsortCmpFunc[pagewatch/api.Span]", by decide, Tryz.func149.trans (jo b (by kernel_rfl))⟩,
 f15:=Tryz.func63.trans (jo b (by kernel_rfl)),
 f20 := ⟨"slices.insertionSortCmpFunc[pagewatch/api.Span]", by decide, Tryz.func192.trans (jo b (by kernel_rfl))⟩,
 f21 := ⟨"slices.heapSortCmpFunc[pagewatch/api.Span]", by decide, Tryz.func193.trans (jo b (by kernel_rfl))⟩,
 f22 := ⟨"slices.breakPatternsCmpFunc[pagewatch/api.Span]", by decide, Tryz.func194.trans (jo b (by kernel_rfl))⟩,
 f23 := ⟨"slices.choosePivotCmpFunc[pagewatch/api.Span]", by decide, Tryz.func195.trans (jo b (by kernel_rfl))⟩,
 f24 := ⟨"slices.reverseRangeCmpFunc[pagewatch/api.Span]", by decide, Tryz.func196.trans (jo b (by kernel_rfl))⟩,
 f25 := ⟨"slices.partialInsertionSortCmpFunc[pagewatch/api.Span]", by decide, Tryz.func197.trans (jo b (by kernel_rfl))⟩,
 f26 := ⟨"slices.partitionEqualCmpFunc[pagewatch/api.Span]", by decide, Tryz.func198.trans (jo b (by kernel_rfl))⟩,
 f27 := ⟨"slices.partitionCmpFunc[pagewatch/api.Span]", by decide, Tryz.func199.trans (jo b (by kernel_rfl))⟩,
 f28:=Tryz.func108.trans (jo b (by kernel_rfl)),
 f29:=Tryz.func109.trans (jo b (by kernel_rfl)),
 f46 := ⟨"slices.siftDownCmpFunc[pagewatch/api.Span]", by decide, Tryz.func235.trans (jo b (by kernel_rfl))⟩,
 f47:=Tryz.func157.trans (jo b (by kernel_rfl)),
 f48:=Tryz.func158.trans (jo b (by kernel_rfl)),
 f49 := ⟨"slices.medianAdjacentCmpFunc[pagewatch/api.Span]", by decide, Tryz.func236.trans (jo b (by kernel_rfl))⟩,
 f50 := ⟨"slices.medianCmpFunc[pagewatch/api.Span]", by decide, Tryz.func237.trans (jo b (by kernel_rfl))⟩,
 f57 := ⟨"slices.order2CmpFunc[pagewatch/api.Span]", by decide, Tryz.func256.trans (jo b (by kernel_rfl))⟩,
 t0:=Tryz.underlying0,
 a0:=Tryz.isAgg0,
 z0:=Tryz.sizeOf0,
 v0:=Tryz.zeroValue0,
 t3:=Tryz.underlying3,
 a3:=Tryz.isAgg3,
 z3:=Tryz.sizeOf3,
 v3:=Tryz.zeroValue3,
 t4:=Tryz.underlying4,
 a4:=Tryz.isAgg4,
 z4:=Tryz.sizeOf4,
 v4:=Tryz.zeroValue4,
 t5:=Tryz.underlying5,
 a5:=Tryz.isAgg5,
 z5:=Tryz.sizeOf5,
 v5:=Tryz.zeroValue5,
 t9:=Tryz.underlying9,
 a9:=Tryz.isAgg9,
 z9:=Tryz.sizeOf9,
 v9:=Tryz.zeroValue9,
 t22:=Tryz.underlying40,
 a22:=Tryz.isAgg40,
 z22:=Tryz.sizeOf40,
 v22:=Tryz.zeroValue40,
 t25:=Tryz.underlying163,
 a25:=Tryz.isAgg163,
 z25:=Tryz.sizeOf163,
 v25:=Tryz.zeroValue163,
 t39:=Tryz.underlying139,
 a39:=Tryz.isAgg139,
 z39:=Tryz.sizeOf139,
 v39:=Tryz.zeroValue139,
 t45:=Tryz.underlying168,
 a45:=Tryz.isAgg168,
 z45:=Tryz.sizeOf168,
 v45:=Tryz.zeroValue168,
 t46:=Tryz.underlying169,
 a46:=Tryz.isAgg169,
 z46:=Tryz.sizeOf169,
 v46:=Tryz.zeroValue169,
 t50:=Tryz.underlying156,
 a50:=Tryz.isAgg156,
 z50:=Tryz.sizeOf156,
 v50:=Tryz.zeroValue156,
 t53:=Tryz.underlying175,
 a53:=Tryz.isAgg175,
 z53:=Tryz.sizeOf175,
 v53:=Tryz.zeroValue175,
 t55:=Tryz.underlying177,
 a55:=Tryz.isAgg177,
 z55:=Tryz.sizeOf177,
 v55:=Tryz.zeroValue177,
 t66:=Tryz.underlying219,
 a66:=Tryz.isAgg219,
 z66:=Tryz.sizeOf219,
 v66:=Tryz.zeroValue219,
 t70:=Tryz.underlying223,
 a70:=Tryz.isAgg223,
 z70:=Tryz.sizeOf223,
 v70:=Tryz.zeroValue223,
 t76:=Tryz.underlying258,
 a76:=Tryz.isAgg258,
 z76:=Tryz.sizeOf258,
 v76:=Tryz.zeroValue258,
 t77:=Tryz.underlying227,
 a77:=Tryz.isAgg227,
 z77:=Tryz.sizeOf227,
 v77:=Tryz.zeroValue227 }
def Tryz.sort143_ren:Go.Shelf.Ren:=⟨λ| 6=>143|15=>63|14=>190|28=>108|29=>109|20=>227|21=>228|22=>229|23=>230|24=>231|25=>232|26=>233|27=>234|46=>253|47=>157|48=>158|49=>254|50=>255|57=>268|n=>n,λ| 22=>103|24=>143|25=>210|3=>3|39=>139|0=>0|53=>175|55=>177|4=>4|46=>169|45=>168|50=>156|5=>5|9=>9|66=>219|70=>223|76=>258|77=>227|n=>n,λn=>n⟩
theorem Tryz.sort143:SlLaysF0.n6 Tryz.prog Tryz.sort143_ren:={
 mixed:=by kernel_rfl,
 f6 := ⟨"slices.SortFunc[[]pagewatch/api.Segment,pagewatch/api.Segment]", by decide, Tryz.func143.trans (jo b (by kernel_rfl))⟩,
 f14 := ⟨"slices.pdqsortCmpFunc[pagewatch/api.Segment]", by decide, Tryz.func190.trans (jo b (by kernel_rfl))⟩,
 f15:=Tryz.func63.trans (jo b (by kernel_rfl)),
 f20 := ⟨"slices.insertionSortCmpFunc[pagewatch/api.Segment]", by decide, Tryz.func227.trans (jo b (by kernel_rfl))⟩,
 f21 := ⟨"slices.heapSortCmpFunc[pagewatch/api.Segment]", by decide, Tryz.func228.trans (jo b (by kernel_rfl))⟩,
 f22 := ⟨"slices.breakPatternsCmpFunc[pagewatch/api.Segment]", by decide, Tryz.func229.trans (jo b (by kernel_rfl))⟩,
 f23 := ⟨"slices.choosePivotCmpFunc[pagewatch/api.Segment]", by decide, Tryz.func230.trans (jo b (by kernel_rfl))⟩,
 f24 := ⟨"slices.reverseRangeCmpFunc[pagewatch/api.Segment]", by decide, Tryz.func231.trans (jo b (by kernel_rfl))⟩,
 f25 := ⟨"slices.partialInsertionSortCmpFunc[pagewatch/api.Segment]", by decide, Tryz.func232.trans (jo b (by kernel_rfl))⟩,
 f26 := ⟨"slices.partitionEqualCmpFunc[pagewatch/api.Segment]", by decide, Tryz.func233.trans (jo b (by kernel_rfl))⟩,
 f27 := ⟨"slices.partitionCmpFunc[pagewatch/api.Segment]", by decide, Tryz.func234.trans (jo b (by kernel_rfl))⟩,
 f28:=Tryz.func108.trans (jo b (by kernel_rfl)),
 f29:=Tryz.func109.trans (jo b (by kernel_rfl)),
 f46 := ⟨"slices.siftDownCmpFunc[pagewatch/api.Segment]", by decide, Tryz.func253.trans (jo b (by kernel_rfl))⟩,
 f47:=Tryz.func157.trans (jo b (by kernel_rfl)),
 f48:=Tryz.func158.trans (jo b (by kernel_rfl)),
 f49 := ⟨"slices.medianAdjacentCmpFunc[pagewatch/api.Segment]", by decide, Tryz.func254.trans (jo b (by kernel_rfl))⟩,
 f50 := ⟨"slices.medianCmpFunc[pagewatch/api.Segment]", by decide, Tryz.func255.trans (jo b (by kernel_rfl))⟩,
 f57 := ⟨"slices.order2CmpFunc[pagewatch/api.Segment]", by decide, Tryz.func268.trans (jo b (by kernel_rfl))⟩,
 t0:=Tryz.underlying0,
 a0:=Tryz.isAgg0,
 z0:=Tryz.sizeOf0,
 v0:=Tryz.zeroValue0,
 t3:=Tryz.underlying3,
 a3:=Tryz.isAgg3,
 z3:=Tryz.sizeOf3,
 v3:=Tryz.zeroValue3,
 t4:=Tryz.underlying4,
 a4:=Tryz.isAgg4,
 z4:=Tryz.sizeOf4,
 v4:=Tryz.zeroValue4,
 t5:=Tryz.underlying5,
 a5:=Tryz.isAgg5,
 z5:=Tryz.sizeOf5,
 v5:=Tryz.zeroValue5,
 t9:=Tryz.underlying9,
 a9:=Tryz.isAgg9,
 z9:=Tryz.sizeOf9,
 v9:=Tryz.zeroValue9,
 t22:=Tryz.underlying103,
 a22:=Tryz.isAgg103,
 z22:=Tryz.sizeOf103,
 v22:=Tryz.zeroValue103,
 t25:=Tryz.underlying210,
 a25:=Tryz.isAgg210,
 z25:=Tryz.sizeOf210,
 v25:=Tryz.zeroValue210,
 t39:=Tryz.underlying139,
 a39:=Tryz.isAgg139,
 z39:=Tryz.sizeOf139,
 v39:=Tryz.zeroValue139,
 t45:=Tryz.underlying168,
 a45:=Tryz.isAgg168,
 z45:=Tryz.sizeOf168,
 v45:=Tryz.zeroValue168,
 t46:=Tryz.underlying169,
 a46:=Tryz.isAgg169,
 z46:=Tryz.sizeOf169,
 v46:=Tryz.zeroValue169,
 t50:=Tryz.underlying156,
 a50:=Tryz.isAgg156,
 z50:=Tryz.sizeOf156,
 v50:=Tryz.zeroValue156,
 t53:=Tryz.underlying175,
 a53:=Tryz.isAgg175,
 z53:=Tryz.sizeOf175,
 v53:=Tryz.zeroValue175,
 t55:=Tryz.underlying177,
 a55:=Tryz.isAgg177,
 z55:=Tryz.sizeOf177,
 v55:=Tryz.zeroValue177,
 t66:=Tryz.underlying219,
 a66:=Tryz.isAgg219,
 z66:=Tryz.sizeOf219,
 v66:=Tryz.zeroValue219,
 t70:=Tryz.underlying223,
 a70:=Tryz.isAgg223,
 z70:=Tryz.sizeOf223,
 v70:=Tryz.zeroValue223,
 t76:=Tryz.underlying258,
 a76:=Tryz.isAgg258,
 z76:=Tryz.sizeOf258,
 v76:=Tryz.zeroValue258,
 t77:=Tryz.underlying227,
 a77:=Tryz.isAgg227,
 z77:=Tryz.sizeOf227,
 v77:=Tryz.zeroValue227 }
def Tryz.sort96_ren:Go.Shelf.Ren:=⟨λ| 5=>96|8=>63|7=>153|19=>108|20=>109|10=>201|11=>202|12=>203|13=>204|14=>205|15=>206|16=>145|17=>207|18=>208|30=>239|31=>157|32=>158|33=>240|34=>241|35=>191|40=>257|n=>n,λ| 23=>22|25=>3|3=>3|32=>139|22=>22|0=>0|44=>175|46=>177|4=>4|36=>169|35=>168|41=>156|5=>5|9=>9|53=>219|57=>223|63=>258|64=>227|n=>n,λn=>n⟩
theorem Tryz.sort96:SlLaysM.n5 Tryz.prog Tryz.sort96_ren:={
 mixed:=by kernel_rfl,
 f5 := ⟨"slices.Sort[[]int,int]", by decide, Tryz.func96.trans (jo b (by kernel_rfl))⟩,
 f7 := ⟨"slices.pdqsortOrdered[int]", by decide, Tryz.func153.trans (jo b (by kernel_rfl))⟩,
 f8:=Tryz.func63.trans (jo b (by kernel_rfl)),
 f10 := ⟨"slices.insertionSortOrdered[int]", by decide, Tryz.func201.trans (jo b (by kernel_rfl))⟩,
 f11 := ⟨"slices.heapSortOrdered[int]", by decide, Tryz.func202.trans (jo b (by kernel_rfl))⟩,
 f12 := ⟨"slices.breakPatternsOrdered[int]", by decide, Tryz.func203.trans (jo b (by kernel_rfl))⟩,
 f13 := ⟨"slices.choosePivotOrdered[int]", by decide, Tryz.func204.trans (jo b (by kernel_rfl))⟩,
 f14 := ⟨"slices.reverseRangeOrdered[int]", by decide, Tryz.func205.trans (jo b (by kernel_rfl))⟩,
 f15 := ⟨"slices.partialInsertionSortOrdered[int]", by decide, Tryz.func206.trans (jo b (by kernel_rfl))⟩,
 f16 := ⟨"cmp.Less[int]", by decide, Tryz.func145.trans (jo b (by kernel_rfl))⟩,
 f17 := ⟨"slices.partitionEqualOrdered[int]", by decide, Tryz.func207.trans (jo b (by kernel_rfl))⟩,
 f18 := ⟨"slices.partitionOrdered[int]", by decide, Tryz.func208.trans (jo b (by kernel_rfl))⟩,
 f19:=Tryz.func108.trans (jo b (by kernel_rfl)),
 f20:=Tryz.func109.trans (jo b (by kernel_rfl)),
 f30 := ⟨"slices.siftDownOrdered[int]", by decide, Tryz.func239.trans (jo b (by kernel_rfl))⟩,
 f31:=Tryz.func157.trans (jo b (by kernel_rfl)),
 f32:=Tryz.func158.trans (jo b (by kernel_rfl)),
 f33 := ⟨"slices.medianAdjacentOrdered[int]", by decide, Tryz.func240.trans (jo b (by kernel_rfl))⟩,
 f34 := ⟨"slices.medianOrdered[int]", by decide, Tryz.func241.trans (jo b (by kernel_rfl))⟩,
 f35 := ⟨"cmp.isNaN[int]", by decide, Tryz.func191.trans (jo b (by kernel_rfl))⟩,
 f40 := ⟨"slices.order2Ordered[int]", by decide, Tryz.func257.trans (jo b (by kernel_rfl))⟩,
 t0:=Tryz.underlying0,
 a0:=Tryz.isAgg0,
 z0:=Tryz.sizeOf0,
 v0:=Tryz.zeroValue0,
 t3:=Tryz.underlying3,
 a3:=Tryz.isAgg3,
 z3:=Tryz.sizeOf3,
 v3:=Tryz.zeroValue3,
 t4:=Tryz.underlying4,
 a4:=Tryz.isAgg4,
 z4:=Tryz.sizeOf4,
 v4:=Tryz.zeroValue4,
 t5:=Tryz.underlying5,
 a5:=Tryz.isAgg5,
 z5:=Tryz.sizeOf5,
 v5:=Tryz.zeroValue5,
 t9:=Tryz.underlying9,
 a9:=Tryz.isAgg9,
 z9:=Tryz.sizeOf9,
 v9:=Tryz.zeroValue9,
 t22:=Tryz.underlying22,
 a22:=Tryz.isAgg22,
 z22:=Tryz.sizeOf22,
 v22:=Tryz.zeroValue22,
 t23:=Tryz.underlying22,
 a23:=Tryz.isAgg22,
 z23:=Tryz.sizeOf22,
 v23:=Tryz.zeroValue22,
 t25:=Tryz.underlying3,
 a25:=Tryz.isAgg3,
 z25:=Tryz.sizeOf3,
 v25:=Tryz.zeroValue3,
 t32:=Tryz.underlying139,
 a32:=Tryz.isAgg139,
 z32:=Tryz.sizeOf139,
 v32:=Tryz.zeroValue139,
 t35:=Tryz.underlying168,
 a35:=Tryz.isAgg168,
 z35:=Tryz.sizeOf168,
 v35:=Tryz.zeroValue168,
 t36:=Tryz.underlying169,
 a36:=Tryz.isAgg169,
 z36:=Tryz.sizeOf169,
 v36:=Tryz.zeroValue169,
 t41:=Tryz.underlying156,
 a41:=Tryz.isAgg156,
 z41:=Tryz.sizeOf156,
 v41:=Tryz.zeroValue156,
 t44:=Tryz.underlying175,
 a44:=Tryz.isAgg175,
 z44:=Tryz.sizeOf175,
 v44:=Tryz.zeroValue175,
 t46:=Tryz.underlying177,
 a46:=Tryz.isAgg177,
 z46:=Tryz.sizeOf177,
 v46:=Tryz.zeroValue177,
 t53:=Tryz.underlying219,
 a53:=Tryz.isAgg219,
 z53:=Tryz.sizeOf219,
 v53:=Tryz.zeroValue219,
 t57:=Tryz.underlying223,
 a57:=Tryz.isAgg223,
 z57:=Tryz.sizeOf223,
 v57:=Tryz.zeroValue223,
 t63:=Tryz.underlying258,
 a63:=Tryz.isAgg258,
 z63:=Tryz.sizeOf258,
 v63:=Tryz.zeroValue258,
 t64:=Tryz.underlying227,
 a64:=Tryz.isAgg227,
 z64:=Tryz.sizeOf227,
 v64:=Tryz.zeroValue227 }
def Tryz.sort33_ren:Go.Shelf.Ren:=⟨λ| 6=>33|15=>63|14=>62|28=>108|29=>109|20=>100|21=>101|22=>102|23=>103|24=>104|25=>105|26=>106|27=>107|46=>156|47=>157|48=>158|49=>159|50=>160|57=>209|n=>n,λ| 22=>36|24=>55|25=>99|3=>3|39=>139|0=>0|53=>175|55=>177|4=>4|46=>169|45=>168|50=>156|5=>5|9=>9|66=>219|70=>223|76=>258|77=>227|n=>n,λn=>n⟩
theorem Tryz.sort33:SlLaysF0.n6 Tryz.prog Tryz.sort33_ren:={
 mixed:=by kernel_rfl,
 f6 := ⟨"slices.SortFunc[[]pagewatch/api.Violation,pagewatch/api.Violation]", by decide, Tryz.func33.trans (jo b (by kernel_rfl))⟩,
 f14 := ⟨"slices.pdqsortCmpFunc[pagewatch/api.Violation]", by decide, Tryz.func62.trans (jo b (by kernel_rfl))⟩,
 f15:=Tryz.func63.trans (jo b (by kernel_rfl)),
 f20 := ⟨"slices.insertionSortCmpFunc[pagewatch/api.Violation]", by decide, Tryz.func100.trans (jo b (by kernel_rfl))⟩,
 f21 := ⟨"slices.heapSortCmpFunc[pagewatch/api.Violation]", by decide, Tryz.func101.trans (jo b (by kernel_rfl))⟩,
 f22 := ⟨"slices.breakPatternsCmpFunc[pagewatch/api.Violation]", by decide, Tryz.func102.trans (jo b (by kernel_rfl))⟩,
 f23 := ⟨"slices.choosePivotCmpFunc[pagewatch/api.Violation]", by decide, Tryz.func103.trans (jo b (by kernel_rfl))⟩,
 f24 := ⟨"slices.reverseRangeCmpFunc[pagewatch/api.Violation]", by decide, Tryz.func104.trans (jo b (by kernel_rfl))⟩,
 f25 := ⟨"slices.partialInsertionSortCmpFunc[pagewatch/api.Violation]", by decide, Tryz.func105.trans (jo b (by kernel_rfl))⟩,
 f26 := ⟨"slices.partitionEqualCmpFunc[pagewatch/api.Violation]", by decide, Tryz.func106.trans (jo b (by kernel_rfl))⟩,
 f27 := ⟨"slices.partitionCmpFunc[pagewatch/api.Violation]", by decide, Tryz.func107.trans (jo b (by kernel_rfl))⟩,
 f28:=Tryz.func108.trans (jo b (by kernel_rfl)),
 f29:=Tryz.func109.trans (jo b (by kernel_rfl)),
 f46 := ⟨"slices.siftDownCmpFunc[pagewatch/api.Violation]", by decide, Tryz.func156.trans (jo b (by kernel_rfl))⟩,
 f47:=Tryz.func157.trans (jo b (by kernel_rfl)),
 f48:=Tryz.func158.trans (jo b (by kernel_rfl)),
 f49 := ⟨"slices.medianAdjacentCmpFunc[pagewatch/api.Violation]", by decide, Tryz.func159.trans (jo b (by kernel_rfl))⟩,
 f50 := ⟨"slices.medianCmpFunc[pagewatch/api.Violation]", by decide, Tryz.func160.trans (jo b (by kernel_rfl))⟩,
 f57 := ⟨"slices.order2CmpFunc[pagewatch/api.Violation]", by decide, Tryz.func209.trans (jo b (by kernel_rfl))⟩,
 t0:=Tryz.underlying0,
 a0:=Tryz.isAgg0,
 z0:=Tryz.sizeOf0,
 v0:=Tryz.zeroValue0,
 t3:=Tryz.underlying3,
 a3:=Tryz.isAgg3,
 z3:=Tryz.sizeOf3,
 v3:=Tryz.zeroValue3,
 t4:=Tryz.underlying4,
 a4:=Tryz.isAgg4,
 z4:=Tryz.sizeOf4,
 v4:=Tryz.zeroValue4,
 t5:=Tryz.underlying5,
 a5:=Tryz.isAgg5,
 z5:=Tryz.sizeOf5,
 v5:=Tryz.zeroValue5,
 t9:=Tryz.underlying9,
 a9:=Tryz.isAgg9,
 z9:=Tryz.sizeOf9,
 v9:=Tryz.zeroValue9,
 t22:=Tryz.underlying36,
 a22:=Tryz.isAgg36,
 z22:=Tryz.sizeOf36,
 v22:=Tryz.zeroValue36,
 t25:=Tryz.underlying99,
 a25:=Tryz.isAgg99,
 z25:=Tryz.sizeOf99,
 v25:=Tryz.zeroValue99,
 t39:=Tryz.underlying139,
 a39:=Tryz.isAgg139,
 z39:=Tryz.sizeOf139,
 v39:=Tryz.zeroValue139,
 t45:=Tryz.underlying168,
 a45:=Tryz.isAgg168,
 z45:=Tryz.sizeOf168,
 v45:=Tryz.zeroValue168,
 t46:=Tryz.underlying169,
 a46:=Tryz.isAgg169,
 z46:=Tryz.sizeOf169,
 v46:=Tryz.zeroValue169,
 t50:=Tryz.underlying156,
 a50:=Tryz.isAgg156,
 z50:=Tryz.sizeOf156,
 v50:=Tryz.zeroValue156,
 t53:=Tryz.underlying175,
 a53:=Tryz.isAgg175,
 z53:=Tryz.sizeOf175,
 v53:=Tryz.zeroValue175,
 t55:=Tryz.underlying177,
 a55:=Tryz.isAgg177,
 z55:=Tryz.sizeOf177,
 v55:=Tryz.zeroValue177,
 t66:=Tryz.underlying219,
 a66:=Tryz.isAgg219,
 z66:=Tryz.sizeOf219,
 v66:=Tryz.zeroValue219,
 t70:=Tryz.underlying223,
 a70:=Tryz.isAgg223,
 z70:=Tryz.sizeOf223,
 v70:=Tryz.zeroValue223,
 t76:=Tryz.underlying258,
 a76:=Tryz.isAgg258,
 z76:=Tryz.sizeOf258,
 v76:=Tryz.zeroValue258,
 t77:=Tryz.underlying227,
 a77:=Tryz.isAgg227,
 z77:=Tryz.sizeOf227,
 v77:=Tryz.zeroValue227 }
namespace Pk
set_option maxHeartbeats 1000000 in
theorem jxO(x y:Ty.den ((.pair (.int .i64) (.int .i64))))(w:World)(_:gZ ((.pair (.int .i64) (.int .i64))) x=true)(_:gZ ((.pair (.int .i64) (.int .i64))) y=true) :
  Calls Tryz.prog 91 #[.agg (encT ((.pair (.int .i64) (.int .i64))) x).toArray,.agg (encT ((.pair (.int .i64) (.int .i64))) y).toArray] w λe w'=>e = .returned (.int .i64 ((Pw.j8U x y).getD 0))/\∃q oq,w'=grow (w.drewN q) oq:=by
 change Calls Tryz.prog 91 #[.agg #[.int .i64 x.1,.int .i64 x.2],.agg #[.int .i64 y.1,.int .i64 y.2]] w λe w'=>e = .returned (.int .i64 (w64 (x.1-y.1)))/\∃q oq,w'=grow (w.drewN q) oq
 go_enter Tryz.func91,Tryz.ntmps91
 go_wp2
 go_ret
 refine⟨?_,0,_,by rw[alloc_eq_grow,alloc_eq_grow,grow_grow];rfl⟩;rw[show w64 (x.1-y.1)=i (x.1-y.1) from d _];rfl
theorem jxP:SWO (ltOf λ(x y:Sml ((.pair (.int .i64) (.int .i64))))=>(Pw.j8U x.1 y.1).getD 0):=by
 refine I3 (λx=>x.1.1) (λx=>?_) _ λx y=>rfl;have:=x.2;simp only[gZ,jg,js]at this;first|exact this|exact this.1|exact this.2|exact this.1.1|exact this.1.2|exact this.2.1|exact this.2.2|exact this.2.1.1|exact this.2.2.1
set_option maxHeartbeats 1000000 in
theorem juN(x y:Ty.den ((.pair (.int .i64) (.pair (.int .i64) (.int .i64)))))(w:World)(_:gZ ((.pair (.int .i64) (.pair (.int .i64) (.int .i64)))) x=true)(_:gZ ((.pair (.int .i64) (.pair (.int .i64) (.int .i64)))) y=true) :
  Calls Tryz.prog 144 #[.agg (encT ((.pair (.int .i64) (.pair (.int .i64) (.int .i64)))) x).toArray,.agg (encT ((.pair (.int .i64) (.pair (.int .i64) (.int .i64)))) y).toArray] w λe w'=>e = .returned (.int .i64 ((Pw.j3L x y).getD 0))/\∃q oq,w'=grow (w.drewN q) oq:=by
 change Calls Tryz.prog 144 #[.agg #[.int .i64 x.1,.int .i64 x.2.1,.int .i64 x.2.2],.agg #[.int .i64 y.1,.int .i64 y.2.1,.int .i64 y.2.2]] w λe w'=>e = .returned (.int .i64 (w64 (x.1-y.1)))/\∃q oq,w'=grow (w.drewN q) oq
 go_enter Tryz.func144,Tryz.ntmps144
 go_wp2
 go_ret
 refine⟨?_,0,_,by rw[alloc_eq_grow,alloc_eq_grow,grow_grow];rfl⟩;rw[show w64 (x.1-y.1)=i (x.1-y.1) from d _];rfl
theorem juO:SWO (ltOf λ(x y:Sml ((.pair (.int .i64) (.pair (.int .i64) (.int .i64)))))=>(Pw.j3L x.1 y.1).getD 0):=by
 refine I3 (λx=>x.1.1) (λx=>?_) _ λx y=>rfl;have:=x.2;simp only[gZ,jg,js]at this;first|exact this|exact this.1|exact this.2|exact this.1.1|exact this.1.2|exact this.2.1|exact this.2.2|exact this.2.1.1|exact this.2.2.1
theorem jEC{α:Type}(k1 k2 k3:α->Int)(h1:∀x, -1152921504606846976<=k1 x/\k1 x<=1152921504606846976)(h2:∀x, -1152921504606846976<=k2 x/\k2 x<=1152921504606846976)(h3:∀x, -1152921504606846976<=k3 x/\k3 x<=1152921504606846976)
  (cf:α->α->Int)(h:∀x y,cf x y=(cond (k1 x != k1 y) (b (w64 (k1 x-k1 y))) (cond (k2 x != k2 y) (b (w64 (k2 x-k2 y))) (b (w64 (k3 x-k3 y))))).getD 0):SWO (ltOf cf):=by
 have e:∀x y,ltOf cf x y=decide (k1 x<k1 y\/k1 x=k1 y/\(k2 x<k2 y\/k2 x=k2 y/\k3 x<k3 y)):=by
  intro x y;have a1:=h1 x;have a2:=h1 y;have b1:=h2 x;have b2:=h2 y;have c1:=h3 x;have c2:=h3 y;simp only[ltOf,h];by_cases q1:k1 x=k1 y
  .rw[show (k1 x != k1 y)=false by simp[q1],j7];by_cases q2:k2 x=k2 y
   .rw[show (k2 x != k2 y)=false by simp[q2],j7,qd,gY (by omega) (by omega)];exact yg.2 (by omega)
   .rw[show (k2 x != k2 y)=true by simp[q2],j6,qd,gY (by omega) (by omega)];exact yg.2 (by omega)
  .rw[show (k1 x != k1 y)=true by simp[q1],j6,qd,gY (by omega) (by omega)];exact yg.2 (by omega)
 refine⟨λx=>?_,λx y z=>?_,λx y z=>?_⟩
 .rw[e];simp
 .rw[e,e,e];simp only[js];omega
 .rw[e,e,e];simp only[q7];omega
set_option maxHeartbeats 1000000 in
theorem jxQ(x y:Ty.den ((.pair (.int .i64) (.pair (.int .i64) (.int .i64)))))(w:World)(_:gZ ((.pair (.int .i64) (.pair (.int .i64) (.int .i64)))) x=true)(_:gZ ((.pair (.int .i64) (.pair (.int .i64) (.int .i64)))) y=true) :
  Calls Tryz.prog 34 #[.agg (encT ((.pair (.int .i64) (.pair (.int .i64) (.int .i64)))) x).toArray,.agg (encT ((.pair (.int .i64) (.pair (.int .i64) (.int .i64)))) y).toArray] w λe w'=>e = .returned (.int .i64 ((Pw.j57 x y).getD 0))/\∃q oq,w'=grow (w.drewN q) oq:=by
 change Calls Tryz.prog 34 #[.agg #[.int .i64 x.1,.int .i64 x.2.1,.int .i64 x.2.2],.agg #[.int .i64 y.1,.int .i64 y.2.1,.int .i64 y.2.2]] w λe w'=>e = .returned (.int .i64 ((cond (x.2.2 != y.2.2) (b (w64 (x.2.2-y.2.2))) (cond (x.1 != y.1) (b (w64 (x.1-y.1))) (b (w64 (x.2.1-y.2.1))))).getD 0))/\∃q oq,w'=grow (w.drewN q) oq
 generalize x.2.2=x1 at *
 generalize x.1=x2 at *
 generalize x.2.1=x3 at *
 generalize y.2.2=y1 at *
 generalize y.1=y2 at *
 generalize y.2.1=y3 at *
 by_cases q1:x1=y1
 .subst q1;by_cases q2:x2=y2
  .subst q2;simp only[jk,j7,qd]
   go_enter Tryz.func34,Tryz.ntmps34
   go_wp2
   go_ret
   refine⟨?_,0,_,by rw[alloc_eq_grow,alloc_eq_grow,grow_grow];rfl⟩;rw[show w64 (x3-y3)=i (x3-y3) from d _];rfl
  .have q3:(x2 != y2)=true:=by simp[q2]
   rw[q3];simp only[jk,j7,j6,qd]
   go_enter Tryz.func34,Tryz.ntmps34
   go_wp2
   all_goals first
    |exact absurd (q3.symm.trans ‹(x2 != y2)=false›) (by decide)
    |(
     go_ret
     refine⟨?_,0,_,by rw[alloc_eq_grow,alloc_eq_grow,grow_grow];rfl⟩;rw[show w64 (x2-y2)=i (x2-y2) from d _];rfl)
 .have q3:(x1 != y1)=true:=by simp[q1]
  rw[q3];simp only[j6,qd]
  go_enter Tryz.func34,Tryz.ntmps34
  go_wp2
  all_goals first
   |exact absurd (q3.symm.trans ‹(x1 != y1)=false›) (by decide)
   |(
    go_ret
    refine⟨?_,0,_,by rw[alloc_eq_grow,alloc_eq_grow,grow_grow];rfl⟩;rw[show w64 (x1-y1)=i (x1-y1) from d _];rfl)
theorem jxR:SWO (ltOf λ(x y:Sml ((.pair (.int .i64) (.pair (.int .i64) (.int .i64)))))=>(Pw.j57 x.1 y.1).getD 0):=by
 have key:∀x:Sml ((.pair (.int .i64) (.pair (.int .i64) (.int .i64)))),(-1152921504606846976<=(x.1.1:Int)/\(x.1.1:Int)<=1152921504606846976)/\(-1152921504606846976<=(x.1.2.1:Int)/\(x.1.2.1:Int)<=1152921504606846976)/\(-1152921504606846976<=(x.1.2.2:Int)/\(x.1.2.2:Int)<=1152921504606846976):=λx=>by
  have:=x.2;simp only[gZ,jg,js]at this;exact this
 exact jEC (λx=>x.1.2.2) (λx=>x.1.1) (λx=>x.1.2.1) (λx=>by first|exact(key x).1|exact(key x).2.1|exact(key x).2.2) (λx=>by first|exact(key x).1|exact(key x).2.1|exact(key x).2.2)
  (λx=>by first|exact(key x).1|exact(key x).2.1|exact(key x).2.2) _ λx y=>rfl
end Pk
end Go.Proofs
