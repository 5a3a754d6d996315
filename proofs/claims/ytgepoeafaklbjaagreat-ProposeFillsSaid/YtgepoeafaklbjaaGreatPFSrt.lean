/- Where slices.SortFunc lies, and what its comparing functions do; printed by a program. -/
import Derived.Test.YtgepoeafaklbjaaGreatPFFns
import Derived.Test.YtgepoeafaklbjaaGreatProg
import Derived.Shelf.SlSortCmp.NoneTotal
import Derived.Shelf.SortM.Plain
import Derived.Shelf.SlIterI.Sorted
open Option renaming getD_some->b,some->k
open Go.IntWalk renaming i64_left->d
open Go.RowKit renaming wrap64->i
open Bool renaming and_eq_true->j,true->m,false->p
open Go renaming Calls->l,World->r
open Go Go.Lft Go.Proofs Go.Sort
namespace Go.Proofs
open Tryz
theorem tfK{α:Type}{a:Option α}{x y:α}(h:a=k x)(e:x=y:=by kernel_rfl):a=k y:=h.trans (congrArg k e)
def Tryz.sort80_ren:Go.Shelf.Ren:=⟨λ| 6=>80|15=>70|14=>133|28=>123|29=>124|20=>184|21=>185|22=>186|23=>187|24=>188|25=>189|26=>190|27=>191|46=>236|47=>175|48=>176|49=>237|50=>238|57=>280|n=>n,λ| 22=>100|24=>105|25=>169|3=>3|39=>149|0=>0|53=>217|55=>219|4=>4|46=>210|45=>209|50=>214|5=>5|9=>9|66=>260|70=>264|76=>305|77=>174|n=>n,λn=>n⟩
theorem Tryz.sort80:SlLaysF0.n6 Tryz.prog Tryz.sort80_ren:=⟨by kernel_rfl,
 ⟨"slices.SortFunc[[]pagewatch/api.Violation,pagewatch/api.Violation]", by decide, tfK func80⟩,
 ⟨"slices.pdqsortCmpFunc[pagewatch/api.Violation]", by decide, tfK func133⟩,
 tfK func70,
 ⟨"slices.insertionSortCmpFunc[pagewatch/api.Violation]", by decide, tfK func184⟩,
 ⟨"slices.heapSortCmpFunc[pagewatch/api.Violation]", by decide, tfK func185⟩,
 ⟨"slices.breakPatternsCmpFunc[pagewatch/api.Violation]", by decide, tfK func186⟩,
 ⟨"slices.choosePivotCmpFunc[pagewatch/api.Violation]", by decide, tfK func187⟩,
 ⟨"slices.reverseRangeCmpFunc[pagewatch/api.Violation]", by decide, tfK func188⟩,
 ⟨"slices.partialInsertionSortCmpFunc[pagewatch/api.Violation]", by decide, tfK func189⟩,
 ⟨"slices.partitionEqualCmpFunc[pagewatch/api.Violation]", by decide, tfK func190⟩,
 ⟨"slices.partitionCmpFunc[pagewatch/api.Violation]", by decide, tfK func191⟩,
 tfK func123,
 tfK func124,
 ⟨"slices.siftDownCmpFunc[pagewatch/api.Violation]", by decide, tfK func236⟩,
 tfK func175,
 tfK func176,
 ⟨"slices.medianAdjacentCmpFunc[pagewatch/api.Violation]", by decide, tfK func237⟩,
 ⟨"slices.medianCmpFunc[pagewatch/api.Violation]", by decide, tfK func238⟩,
 ⟨"slices.order2CmpFunc[pagewatch/api.Violation]", by decide, tfK func280⟩,
 underlying0,
 isAgg0,
 sizeOf0,
 zeroValue0,
 underlying3,
 isAgg3,
 sizeOf3,
 zeroValue3,
 underlying4,
 isAgg4,
 sizeOf4,
 zeroValue4,
 underlying5,
 isAgg5,
 sizeOf5,
 zeroValue5,
 underlying9,
 isAgg9,
 sizeOf9,
 zeroValue9,
 underlying100,
 isAgg100,
 sizeOf100,
 zeroValue100,
 underlying169,
 isAgg169,
 sizeOf169,
 zeroValue169,
 underlying149,
 isAgg149,
 sizeOf149,
 zeroValue149,
 underlying209,
 isAgg209,
 sizeOf209,
 zeroValue209,
 underlying210,
 isAgg210,
 sizeOf210,
 zeroValue210,
 underlying214,
 isAgg214,
 sizeOf214,
 zeroValue214,
 underlying217,
 isAgg217,
 sizeOf217,
 zeroValue217,
 underlying219,
 isAgg219,
 sizeOf219,
 zeroValue219,
 underlying260,
 isAgg260,
 sizeOf260,
 zeroValue260,
 underlying264,
 isAgg264,
 sizeOf264,
 zeroValue264,
 underlying305,
 isAgg305,
 sizeOf305,
 zeroValue305,
 underlying174,
 isAgg174,
 sizeOf174,
 zeroValue174⟩
def Tryz.sort36_ren:Go.Shelf.Ren:=⟨λ| 6=>36|15=>70|14=>69|28=>123|29=>124|20=>115|21=>116|22=>117|23=>118|24=>119|25=>120|26=>121|27=>122|46=>174|47=>175|48=>176|49=>177|50=>178|57=>232|n=>n,λ| 22=>90|24=>92|25=>98|3=>3|39=>149|0=>0|53=>217|55=>219|4=>4|46=>210|45=>209|50=>214|5=>5|9=>9|66=>260|70=>264|76=>305|77=>174|n=>n,λn=>n⟩
theorem Tryz.sort36:SlLaysF0.n6 Tryz.prog Tryz.sort36_ren:=⟨by kernel_rfl,
 ⟨"slices.SortFunc[[]pagewatch/propose.candidate,pagewatch/propose.candidate]", by decide, tfK func36⟩,
 ⟨"slices.pdqsortCmpFunc[pagewatch/propose.candidate]", by decide, tfK func69⟩,
 tfK func70,
 ⟨"slices.insertionSortCmpFunc[pagewatch/propose.candidate]", by decide, tfK func115⟩,
 ⟨"slices.heapSortCmpFunc[pagewatch/propose.candidate]", by decide, tfK func116⟩,
 ⟨"slices.breakPatternsCmpFunc[pagewatch/propose.candidate]", by decide, tfK func117⟩,
 ⟨"slices.choosePivotCmpFunc[pagewatch/propose.candidate]", by decide, tfK func118⟩,
 ⟨"slices.reverseRangeCmpFunc[pagewatch/propose.candidate]", by decide, tfK func119⟩,
 ⟨"slices.partialInsertionSortCmpFunc[pagewatch/propose.candidate]", by decide, tfK func120⟩,
 ⟨"slices.partitionEqualCmpFunc[pagewatch/propose.candidate]", by decide, tfK func121⟩,
 ⟨"slices.partitionCmpFunc[pagewatch/propose.candidate]", by decide, tfK func122⟩,
 tfK func123,
 tfK func124,
 ⟨"slices.siftDownCmpFunc[pagewatch/propose.candidate]", by decide, tfK func174⟩,
 tfK func175,
 tfK func176,
 ⟨"slices.medianAdjacentCmpFunc[pagewatch/propose.candidate]", by decide, tfK func177⟩,
 ⟨"slices.medianCmpFunc[pagewatch/propose.candidate]", by decide, tfK func178⟩,
 ⟨"slices.order2CmpFunc[pagewatch/propose.candidate]", by decide, tfK func232⟩,
 underlying0,
 isAgg0,
 sizeOf0,
 zeroValue0,
 underlying3,
 isAgg3,
 sizeOf3,
 zeroValue3,
 underlying4,
 isAgg4,
 sizeOf4,
 zeroValue4,
 underlying5,
 isAgg5,
 sizeOf5,
 zeroValue5,
 underlying9,
 isAgg9,
 sizeOf9,
 zeroValue9,
 underlying90,
 isAgg90,
 sizeOf90,
 zeroValue90,
 underlying98,
 isAgg98,
 sizeOf98,
 zeroValue98,
 underlying149,
 isAgg149,
 sizeOf149,
 zeroValue149,
 underlying209,
 isAgg209,
 sizeOf209,
 zeroValue209,
 underlying210,
 isAgg210,
 sizeOf210,
 zeroValue210,
 underlying214,
 isAgg214,
 sizeOf214,
 zeroValue214,
 underlying217,
 isAgg217,
 sizeOf217,
 zeroValue217,
 underlying219,
 isAgg219,
 sizeOf219,
 zeroValue219,
 underlying260,
 isAgg260,
 sizeOf260,
 zeroValue260,
 underlying264,
 isAgg264,
 sizeOf264,
 zeroValue264,
 underlying305,
 isAgg305,
 sizeOf305,
 zeroValue305,
 underlying174,
 isAgg174,
 sizeOf174,
 zeroValue174⟩
def Tryz.sort169_ren:Go.Shelf.Ren:=⟨λ| 6=>169|15=>70|14=>229|28=>123|29=>124|20=>263|21=>264|22=>265|23=>266|24=>267|25=>268|26=>269|27=>270|46=>311|47=>175|48=>176|49=>312|50=>313|57=>329|n=>n,λ| 22=>35|24=>42|25=>258|3=>3|39=>149|0=>0|53=>217|55=>219|4=>4|46=>210|45=>209|50=>214|5=>5|9=>9|66=>260|70=>264|76=>305|77=>174|n=>n,λn=>n⟩
theorem Tryz.sort169:SlLaysF0.n6 Tryz.prog Tryz.sort169_ren:=⟨by kernel_rfl,
 ⟨"slices.SortFunc[[]pagewatch/api.Span,pagewatch/api.Span]", by decide, tfK func169⟩,
 ⟨"slices.pdqsortCmpFunc[pagewatch/api.Span]", by decide, tfK func229⟩,
 tfK func70,
 ⟨"slices.insertionSortCmpFunc[pagewatch/api.Span]", by decide, tfK func263⟩,
 ⟨"slices.heapSortCmpFunc[pagewatch/api.Span]", by decide, tfK func264⟩,
 ⟨"slices.breakPatternsCmpFunc[pagewatch/api.Span]", by decide, tfK func265⟩,
 ⟨"slices.choosePivotCmpFunc[pagewatch/api.Span]", by decide, tfK func266⟩,
 ⟨"slices.reverseRangeCmpFunc[pagewatch/api.Span]", by decide, tfK func267⟩,
 ⟨"slices.partialInsertionSortCmpFunc[pagewatch/api.Span]", by decide, tfK func268⟩,
 ⟨"slices.partitionEqualCmpFunc[pagewatch/api.Span]", by decide, tfK func269⟩,
 ⟨"slices.partitionCmpFunc[pagewatch/api.Span]", by decide, tfK func270⟩,
 tfK func123,
 tfK func124,
 ⟨"slices.siftDownCmpFunc[pagewatch/api.Span]", by decide, tfK func311⟩,
 tfK func175,
 tfK func176,
 ⟨"slices.medianAdjacentCmpFunc[pagewatch/api.Span]", by decide, tfK func312⟩,
 ⟨"slices.medianCmpFunc[pagewatch/api.Span]", by decide, tfK func313⟩,
 ⟨"slices.order2CmpFunc[pagewatch/api.Span]", by decide, tfK func329⟩,
 underlying0,
 isAgg0,
 sizeOf0,
 zeroValue0,
 underlying3,
 isAgg3,
 sizeOf3,
 zeroValue3,
 underlying4,
 isAgg4,
 sizeOf4,
 zeroValue4,
 underlying5,
 isAgg5,
 sizeOf5,
 zeroValue5,
 underlying9,
 isAgg9,
 sizeOf9,
 zeroValue9,
 underlying35,
 isAgg35,
 sizeOf35,
 zeroValue35,
 underlying258,
 isAgg258,
 sizeOf258,
 zeroValue258,
 underlying149,
 isAgg149,
 sizeOf149,
 zeroValue149,
 underlying209,
 isAgg209,
 sizeOf209,
 zeroValue209,
 underlying210,
 isAgg210,
 sizeOf210,
 zeroValue210,
 underlying214,
 isAgg214,
 sizeOf214,
 zeroValue214,
 underlying217,
 isAgg217,
 sizeOf217,
 zeroValue217,
 underlying219,
 isAgg219,
 sizeOf219,
 zeroValue219,
 underlying260,
 isAgg260,
 sizeOf260,
 zeroValue260,
 underlying264,
 isAgg264,
 sizeOf264,
 zeroValue264,
 underlying305,
 isAgg305,
 sizeOf305,
 zeroValue305,
 underlying174,
 isAgg174,
 sizeOf174,
 zeroValue174⟩
def Tryz.sort217_ren:Go.Shelf.Ren:=⟨λ| 6=>217|15=>70|14=>257|28=>123|29=>124|20=>301|21=>302|22=>303|23=>304|24=>305|25=>306|26=>307|27=>308|46=>325|47=>175|48=>176|49=>326|50=>327|57=>334|n=>n,λ| 22=>124|24=>128|25=>293|3=>3|39=>149|0=>0|53=>217|55=>219|4=>4|46=>210|45=>209|50=>214|5=>5|9=>9|66=>260|70=>264|76=>305|77=>174|n=>n,λn=>n⟩
theorem Tryz.sort217:SlLaysF0.n6 Tryz.prog Tryz.sort217_ren:=⟨by kernel_rfl,
 ⟨"slices.SortFunc[[]pagewatch/api.Segment,pagewatch/api.Segment]", by decide, tfK func217⟩,
 ⟨"slices.pdqsortCmpFunc[pagewatch/api.Segment]", by decide, tfK func257⟩,
 tfK func70,
 ⟨"slices.insertionSortCmpFunc[pagewatch/api.Segment]", by decide, tfK func301⟩,
 ⟨"slices.heapSortCmpFunc[pagewatch/api.Segment]", by decide, tfK func302⟩,
 ⟨"slices.breakPatternsCmpFunc[pagewatch/api.Segment]", by decide, tfK func303⟩,
 ⟨"slices.choosePivotCmpFunc[pagewatch/api.Segment]", by decide, tfK func304⟩,
 ⟨"slices.reverseRangeCmpFunc[pagewatch/api.Segment]", by decide, tfK func305⟩,
 ⟨"slices.partialInsertionSortCmpFunc[pagewatch/api.Segment]", by decide, tfK func306⟩,
 ⟨"slices.partitionEqualCmpFunc[pagewatch/api.Segment]", by decide, tfK func307⟩,
 ⟨"slices.partitionCmpFunc[pagewatch/api.Segment]", by decide, tfK func308⟩,
 tfK func123,
 tfK func124,
 ⟨"slices.siftDownCmpFunc[pagewatch/api.Segment]", by decide, tfK func325⟩,
 tfK func175,
 tfK func176,
 ⟨"slices.medianAdjacentCmpFunc[pagewatch/api.Segment]", by decide, tfK func326⟩,
 ⟨"slices.medianCmpFunc[pagewatch/api.Segment]", by decide, tfK func327⟩,
 ⟨"slices.order2CmpFunc[pagewatch/api.Segment]", by decide, tfK func334⟩,
 underlying0,
 isAgg0,
 sizeOf0,
 zeroValue0,
 underlying3,
 isAgg3,
 sizeOf3,
 zeroValue3,
 underlying4,
 isAgg4,
 sizeOf4,
 zeroValue4,
 underlying5,
 isAgg5,
 sizeOf5,
 zeroValue5,
 underlying9,
 isAgg9,
 sizeOf9,
 zeroValue9,
 underlying124,
 isAgg124,
 sizeOf124,
 zeroValue124,
 underlying293,
 isAgg293,
 sizeOf293,
 zeroValue293,
 underlying149,
 isAgg149,
 sizeOf149,
 zeroValue149,
 underlying209,
 isAgg209,
 sizeOf209,
 zeroValue209,
 underlying210,
 isAgg210,
 sizeOf210,
 zeroValue210,
 underlying214,
 isAgg214,
 sizeOf214,
 zeroValue214,
 underlying217,
 isAgg217,
 sizeOf217,
 zeroValue217,
 underlying219,
 isAgg219,
 sizeOf219,
 zeroValue219,
 underlying260,
 isAgg260,
 sizeOf260,
 zeroValue260,
 underlying264,
 isAgg264,
 sizeOf264,
 zeroValue264,
 underlying305,
 isAgg305,
 sizeOf305,
 zeroValue305,
 underlying174,
 isAgg174,
 sizeOf174,
 zeroValue174⟩
def Tryz.sort172_ren:Go.Shelf.Ren:=⟨λ| 5=>172|8=>70|7=>231|19=>123|20=>124|10=>271|11=>272|12=>273|13=>274|14=>275|15=>276|16=>219|17=>277|18=>278|30=>314|31=>175|32=>176|33=>315|34=>316|35=>258|40=>330|n=>n,λ| 23=>22|25=>3|3=>3|32=>149|22=>22|0=>0|44=>217|46=>219|4=>4|36=>210|35=>209|41=>214|5=>5|9=>9|53=>260|57=>264|63=>305|64=>174|n=>n,λn=>n⟩
theorem Tryz.sort172:SlLaysM.n5 Tryz.prog Tryz.sort172_ren:=⟨by kernel_rfl,
 ⟨"slices.Sort[[]int,int]", by decide, tfK func172⟩,
 ⟨"slices.pdqsortOrdered[int]", by decide, tfK func231⟩,
 tfK func70,
 ⟨"slices.insertionSortOrdered[int]", by decide, tfK func271⟩,
 ⟨"slices.heapSortOrdered[int]", by decide, tfK func272⟩,
 ⟨"slices.breakPatternsOrdered[int]", by decide, tfK func273⟩,
 ⟨"slices.choosePivotOrdered[int]", by decide, tfK func274⟩,
 ⟨"slices.reverseRangeOrdered[int]", by decide, tfK func275⟩,
 ⟨"slices.partialInsertionSortOrdered[int]", by decide, tfK func276⟩,
 ⟨"cmp.Less[int]", by decide, tfK func219⟩,
 ⟨"slices.partitionEqualOrdered[int]", by decide, tfK func277⟩,
 ⟨"slices.partitionOrdered[int]", by decide, tfK func278⟩,
 tfK func123,
 tfK func124,
 ⟨"slices.siftDownOrdered[int]", by decide, tfK func314⟩,
 tfK func175,
 tfK func176,
 ⟨"slices.medianAdjacentOrdered[int]", by decide, tfK func315⟩,
 ⟨"slices.medianOrdered[int]", by decide, tfK func316⟩,
 ⟨"cmp.isNaN[int]", by decide, tfK func258⟩,
 ⟨"slices.order2Ordered[int]", by decide, tfK func330⟩,
 underlying0,
 isAgg0,
 sizeOf0,
 zeroValue0,
 underlying3,
 isAgg3,
 sizeOf3,
 zeroValue3,
 underlying4,
 isAgg4,
 sizeOf4,
 zeroValue4,
 underlying5,
 isAgg5,
 sizeOf5,
 zeroValue5,
 underlying9,
 isAgg9,
 sizeOf9,
 zeroValue9,
 underlying22,
 isAgg22,
 sizeOf22,
 zeroValue22,
 underlying22,
 isAgg22,
 sizeOf22,
 zeroValue22,
 underlying3,
 isAgg3,
 sizeOf3,
 zeroValue3,
 underlying149,
 isAgg149,
 sizeOf149,
 zeroValue149,
 underlying209,
 isAgg209,
 sizeOf209,
 zeroValue209,
 underlying210,
 isAgg210,
 sizeOf210,
 zeroValue210,
 underlying214,
 isAgg214,
 sizeOf214,
 zeroValue214,
 underlying217,
 isAgg217,
 sizeOf217,
 zeroValue217,
 underlying219,
 isAgg219,
 sizeOf219,
 zeroValue219,
 underlying260,
 isAgg260,
 sizeOf260,
 zeroValue260,
 underlying264,
 isAgg264,
 sizeOf264,
 zeroValue264,
 underlying305,
 isAgg305,
 sizeOf305,
 zeroValue305,
 underlying174,
 isAgg174,
 sizeOf174,
 zeroValue174⟩
def Tryz.keys114_ren:Go.Shelf.Ren:=⟨λ| 7=>114|10=>173|n=>n,λ| 23=>139|26=>3|3=>95|28=>206|0=>0|27=>205|33=>72|4=>4|n=>n,λn=>n⟩
theorem Tryz.keys114:SlLaysZI.n7 Tryz.prog Tryz.keys114_ren:=⟨by kernel_rfl,
 ⟨"maps.Keys[map[int]pagewatch/api.Load,int,pagewatch/api.Load]", by decide, tfK func114⟩,
 ⟨"maps.Keys[map[int]pagewatch/api.Load,int,pagewatch/api.Load]$1", by decide, tfK func173⟩,
 underlying0,
 isAgg0,
 sizeOf0,
 zeroValue0,
 underlying4,
 isAgg4,
 sizeOf4,
 zeroValue4,
 underlying139,
 isAgg139,
 sizeOf139,
 zeroValue139,
 underlying3,
 isAgg3,
 sizeOf3,
 zeroValue3,
 underlying205,
 isAgg205,
 sizeOf205,
 zeroValue205,
 underlying206,
 isAgg206,
 sizeOf206,
 zeroValue206,
 underlying72,
 isAgg72,
 sizeOf72,
 zeroValue72⟩
def Tryz.sorted113_ren:Go.Shelf.Ren:=⟨λ| 6=>113|8=>171|9=>172|11=>230|13=>70|12=>231|23=>123|24=>124|14=>271|15=>272|16=>273|17=>274|18=>275|19=>276|20=>219|21=>277|22=>278|25=>314|26=>175|27=>176|28=>315|29=>316|30=>258|31=>330|n=>n,λ| 26=>3|28=>206|24=>22|0=>0|3=>3|37=>149|48=>217|50=>219|4=>4|40=>210|39=>209|45=>214|5=>5|9=>9|51=>260|55=>264|57=>305|58=>174|33=>72|n=>n,λn=>n⟩
theorem Tryz.sorted113:SlLaysZI.n6 Tryz.prog Tryz.sorted113_ren:=⟨by kernel_rfl,
 ⟨"slices.Sorted[int]", by decide, tfK func113⟩,
 ⟨"slices.Collect[int]", by decide, tfK func171⟩,
 ⟨"slices.AppendSeq[[]int,int]", by decide, tfK func230⟩,
 underlying0,
 isAgg0,
 sizeOf0,
 zeroValue0,
 underlying22,
 isAgg22,
 sizeOf22,
 zeroValue22,
 underlying3,
 isAgg3,
 sizeOf3,
 zeroValue3,
 underlying206,
 isAgg206,
 sizeOf206,
 zeroValue206,
 by kernel_rfl⟩
namespace Pk
theorem jvE{α:Type}(k1 k2 k3:α->Int)(h1:∀x, -1152921504606846976<=k1 x/\k1 x<=1152921504606846976)(h2:∀x, -1152921504606846976<=k2 x/\k2 x<=1152921504606846976)(h3:∀x, -1152921504606846976<=k3 x/\k3 x<=1152921504606846976)
  (cf:α->α->Int)(h:∀x y,cf x y=(cond (k1 x != k1 y) (k (w64 (k1 x-k1 y))) (cond (k2 x != k2 y) (k (w64 (k2 x-k2 y))) (k (w64 (k3 x-k3 y))))).getD 0):SWO (ltOf cf):=by
 have e:∀x y,ltOf cf x y=decide (k1 x<k1 y\/k1 x=k1 y/\(k2 x<k2 y\/k2 x=k2 y/\k3 x<k3 y)):=by
  intro x y;have a1:=h1 x;have a2:=h1 y;have b1:=h2 x;have b2:=h2 y;have c1:=h3 x;have c2:=h3 y;simp only[ltOf,h];by_cases q1:k1 x=k1 y
  .rw[show (k1 x != k1 y)=p by simp[q1],j7];by_cases q2:k2 x=k2 y
   .rw[show (k2 x != k2 y)=p by simp[q2],j7,b,j4N (by omega) (by omega)];exact decide_eq_decide.2 (by omega)
   .rw[show (k2 x != k2 y)=m by simp[q2],j6,b,j4N (by omega) (by omega)];exact decide_eq_decide.2 (by omega)
  .rw[show (k1 x != k1 y)=m by simp[q1],j6,b,j4N (by omega) (by omega)];exact decide_eq_decide.2 (by omega)
 refine⟨λx=>?_,λx y z=>?_,λx y z=>?_⟩
 .rw[e];simp
 .rw[e,e,e];simp only[decide_eq_true_eq];omega
 .rw[e,e,e];simp only[decide_eq_false_iff_not];omega
set_option maxHeartbeats 1000000 in
theorem jtm(x y:Ty.den ((.pair (.int .i64) (.pair (.int .i64) (.int .i64)))))(w:r)(_:j3s ((.pair (.int .i64) (.pair (.int .i64) (.int .i64)))) x=m)(_:j3s ((.pair (.int .i64) (.pair (.int .i64) (.int .i64)))) y=m) :
  l Tryz.prog 81 #[.agg (encT ((.pair (.int .i64) (.pair (.int .i64) (.int .i64)))) x).toArray,.agg (encT ((.pair (.int .i64) (.pair (.int .i64) (.int .i64)))) y).toArray] w λe w'=>e = .returned (.int .i64 ((Pw.j4r x y).getD 0))/\∃q os',w'=grow (w.drewN q) os':=by
 change l Tryz.prog 81 #[.agg #[.int .i64 x.1,.int .i64 x.2.1,.int .i64 x.2.2],.agg #[.int .i64 y.1,.int .i64 y.2.1,.int .i64 y.2.2]] w λe w'=>e = .returned (.int .i64 ((cond (x.2.2 != y.2.2) (k (w64 (x.2.2-y.2.2))) (cond (x.1 != y.1) (k (w64 (x.1-y.1))) (k (w64 (x.2.1-y.2.1))))).getD 0))/\∃q os',w'=grow (w.drewN q) os'
 generalize x.2.2=x1 at *
 generalize x.1=x2 at *
 generalize x.2.1=x3 at *
 generalize y.2.2=y1 at *
 generalize y.1=y2 at *
 generalize y.2.1=y3 at *
 by_cases q1:x1=y1
 .subst q1;by_cases q2:x2=y2
  .subst q2;simp only[bne_self_eq_false,j7,b]
   go_enter func81,ntmps81
   go_wp2
   go_ret
   refine⟨?_,0,_,by rw[alloc_eq_grow,alloc_eq_grow,grow_grow];rfl⟩;rw[show w64 (x3-y3)=i (x3-y3) from d _];rfl
  .have q3:(x2 != y2)=true:=by simp[q2]
   rw[q3];simp only[bne_self_eq_false,j7,j6,b]
   go_enter func81,ntmps81
   go_wp2
   all_goals first
    |exact absurd (q3.symm.trans ‹(x2 != y2)=p›) (by decide)
    |(
     go_ret
     refine⟨?_,0,_,by rw[alloc_eq_grow,alloc_eq_grow,grow_grow];rfl⟩;rw[show w64 (x2-y2)=i (x2-y2) from d _];rfl)
 .have q3:(x1 != y1)=true:=by simp[q1]
  rw[q3];simp only[j6,b]
  go_enter func81,ntmps81
  go_wp2
  all_goals first
   |exact absurd (q3.symm.trans ‹(x1 != y1)=p›) (by decide)
   |(
    go_ret
    refine⟨?_,0,_,by rw[alloc_eq_grow,alloc_eq_grow,grow_grow];rfl⟩;rw[show w64 (x1-y1)=i (x1-y1) from d _];rfl)
theorem jtn:SWO (ltOf λ(x y:Sml ((.pair (.int .i64) (.pair (.int .i64) (.int .i64)))))=>(Pw.j4r x.1 y.1).getD 0):=by
 have key:∀x:Sml ((.pair (.int .i64) (.pair (.int .i64) (.int .i64)))),(-1152921504606846976<=(x.1.1:Int)/\(x.1.1:Int)<=1152921504606846976)/\(-1152921504606846976<=(x.1.2.1:Int)/\(x.1.2.1:Int)<=1152921504606846976)/\(-1152921504606846976<=(x.1.2.2:Int)/\(x.1.2.2:Int)<=1152921504606846976):=λx=>by
  have:=x.2;simp only[j3s,j,decide_eq_true_eq]at this;exact this
 exact jvE (λx=>x.1.2.2) (λx=>x.1.1) (λx=>x.1.2.1) (λx=>by first|exact(key x).1|exact(key x).2.1|exact(key x).2.2) (λx=>by first|exact(key x).1|exact(key x).2.1|exact(key x).2.2)
  (λx=>by first|exact(key x).1|exact(key x).2.1|exact(key x).2.2) _ λx y=>rfl
set_option maxHeartbeats 1000000 in
theorem jto(x y:Ty.den ((.pair (.int .i64) (.int .i64))))(w:r)(_:j3s ((.pair (.int .i64) (.int .i64))) x=m)(_:j3s ((.pair (.int .i64) (.int .i64))) y=m) :
  l Tryz.prog 37 #[.agg (encT ((.pair (.int .i64) (.int .i64))) x).toArray,.agg (encT ((.pair (.int .i64) (.int .i64))) y).toArray] w λe w'=>e = .returned (.int .i64 ((Pw.j15 x y).getD 0))/\∃q os',w'=grow (w.drewN q) os':=by
 change l Tryz.prog 37 #[.agg #[.int .i64 x.1,.int .i64 x.2],.agg #[.int .i64 y.1,.int .i64 y.2]] w λe w'=>e = .returned (.int .i64 ((cond (x.2 != y.2) (k (w64 (x.2-y.2))) (k (w64 (x.1-y.1)))).getD 0))/\∃q os',w'=grow (w.drewN q) os'
 generalize x.2=x1 at *
 generalize x.1=x2 at *
 generalize y.2=y1 at *
 generalize y.1=y2 at *
 by_cases q1:x1=y1
 .subst q1;simp only[bne_self_eq_false,j7,b]
  go_enter func37,ntmps37
  go_wp2
  go_ret
  refine⟨?_,0,_,by rw[alloc_eq_grow,alloc_eq_grow,grow_grow];rfl⟩;rw[show w64 (x2-y2)=i (x2-y2) from d _];rfl
 .have q3:(x1 != y1)=true:=by simp[q1]
  rw[q3];simp only[j6,b]
  go_enter func37,ntmps37
  go_wp2
  all_goals first
   |exact absurd (q3.symm.trans ‹(x1 != y1)=p›) (by decide)
   |(
    go_ret
    refine⟨?_,0,_,by rw[alloc_eq_grow,alloc_eq_grow,grow_grow];rfl⟩;rw[show w64 (x1-y1)=i (x1-y1) from d _];rfl)
theorem jtp:SWO (ltOf λ(x y:Sml ((.pair (.int .i64) (.int .i64))))=>(Pw.j15 x.1 y.1).getD 0):=by
 have key:∀x:Sml ((.pair (.int .i64) (.int .i64))),(-1152921504606846976<=(x.1.1:Int)/\(x.1.1:Int)<=1152921504606846976)/\(-1152921504606846976<=(x.1.2:Int)/\(x.1.2:Int)<=1152921504606846976):=λx=>by
  have:=x.2;simp only[j3s,j,decide_eq_true_eq]at this;exact this
 refine jvE (λx=>x.1.2) (λx=>x.1.1) (λx=>x.1.1) (λx=>by first|exact(key x).1|exact(key x).2) (λx=>by first|exact(key x).1|exact(key x).2)
  (λx=>by first|exact(key x).1|exact(key x).2) _ λx y=>?_
 show (cond (x.1.2 != y.1.2) (k (w64 (x.1.2-y.1.2))) (k (w64 (x.1.1-y.1.1)))).getD 0=_;cases (x.1.1 != y.1.1)<;>rfl
set_option maxHeartbeats 1000000 in
theorem jqv(x y:Ty.den ((.pair (.int .i64) (.int .i64))))(w:r)(_:j3s ((.pair (.int .i64) (.int .i64))) x=m)(_:j3s ((.pair (.int .i64) (.int .i64))) y=m) :
  l Tryz.prog 170 #[.agg (encT ((.pair (.int .i64) (.int .i64))) x).toArray,.agg (encT ((.pair (.int .i64) (.int .i64))) y).toArray] w λe w'=>e = .returned (.int .i64 ((Pw.j7G x y).getD 0))/\∃q os',w'=grow (w.drewN q) os':=by
 change l Tryz.prog 170 #[.agg #[.int .i64 x.1,.int .i64 x.2],.agg #[.int .i64 y.1,.int .i64 y.2]] w λe w'=>e = .returned (.int .i64 (w64 (x.1-y.1)))/\∃q os',w'=grow (w.drewN q) os'
 go_enter func170,ntmps170
 go_wp2
 go_ret
 refine⟨?_,0,_,by rw[alloc_eq_grow,alloc_eq_grow,grow_grow];rfl⟩;rw[show w64 (x.1-y.1)=i (x.1-y.1) from d _];rfl
theorem jqw:SWO (ltOf λ(x y:Sml ((.pair (.int .i64) (.int .i64))))=>(Pw.j7G x.1 y.1).getD 0):=by
 refine jnB (λx=>x.1.1) (λx=>?_) _ λx y=>rfl;have:=x.2;simp only[j3s,j,decide_eq_true_eq]at this;first|exact this|exact this.1|exact this.2|exact this.1.1|exact this.1.2|exact this.2.1|exact this.2.2|exact this.2.1.1|exact this.2.2.1
set_option maxHeartbeats 1000000 in
theorem jqx(x y:Ty.den ((.pair (.int .i64) (.pair (.int .i64) (.int .i64)))))(w:r)(_:j3s ((.pair (.int .i64) (.pair (.int .i64) (.int .i64)))) x=m)(_:j3s ((.pair (.int .i64) (.pair (.int .i64) (.int .i64)))) y=m) :
  l Tryz.prog 218 #[.agg (encT ((.pair (.int .i64) (.pair (.int .i64) (.int .i64)))) x).toArray,.agg (encT ((.pair (.int .i64) (.pair (.int .i64) (.int .i64)))) y).toArray] w λe w'=>e = .returned (.int .i64 ((Pw.j3h x y).getD 0))/\∃q os',w'=grow (w.drewN q) os':=by
 change l Tryz.prog 218 #[.agg #[.int .i64 x.1,.int .i64 x.2.1,.int .i64 x.2.2],.agg #[.int .i64 y.1,.int .i64 y.2.1,.int .i64 y.2.2]] w λe w'=>e = .returned (.int .i64 (w64 (x.1-y.1)))/\∃q os',w'=grow (w.drewN q) os'
 go_enter func218,ntmps218
 go_wp2
 go_ret
 refine⟨?_,0,_,by rw[alloc_eq_grow,alloc_eq_grow,grow_grow];rfl⟩;rw[show w64 (x.1-y.1)=i (x.1-y.1) from d _];rfl
theorem jqy:SWO (ltOf λ(x y:Sml ((.pair (.int .i64) (.pair (.int .i64) (.int .i64)))))=>(Pw.j3h x.1 y.1).getD 0):=by
 refine jnB (λx=>x.1.1) (λx=>?_) _ λx y=>rfl;have:=x.2;simp only[j3s,j,decide_eq_true_eq]at this;first|exact this|exact this.1|exact this.2|exact this.1.1|exact this.1.2|exact this.2.1|exact this.2.2|exact this.2.1.1|exact this.2.2.1
end Pk
end Go.Proofs
