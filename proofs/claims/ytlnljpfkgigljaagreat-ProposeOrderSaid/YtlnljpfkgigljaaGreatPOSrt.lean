/- Where slices.SortFunc lies, and what its comparing functions do; printed by a program. -/
import Derived.Test.YtlnljpfkgigljaaGreatPOFns
import Derived.Test.YtlnljpfkgigljaaGreatProg
import Derived.Shelf.SlSortCmp.NoneTotal
import Derived.Shelf.SortM.Plain
import Derived.Shelf.SlIterI.Sorted
open Option renaming getD_some->b,some->k
open Go.IntWalk renaming i64_left->d
open Go.RowKit renaming wrap64->i
open Bool renaming and_eq_true->j,true->m,false->p
open Go renaming Calls->l,World->r
open Go Go.Lft Go.Proofs Go.Sort
namespace Go.Proofs
open Tryz
theorem tfK{α:Type}{a:Option α}{x y:α}(h:a=k x)(e:x=y:=by kernel_rfl):a=k y:=h.trans (congrArg k e)
def Tryz.sort75_ren:Go.Shelf.Ren:=⟨λ| 6=>75|15=>57|14=>142|28=>124|29=>125|20=>194|21=>195|22=>196|23=>197|24=>198|25=>199|26=>200|27=>201|46=>249|47=>177|48=>178|49=>250|50=>251|57=>292|n=>n,λ| 22=>103|24=>108|25=>162|3=>3|39=>133|0=>0|53=>216|55=>218|4=>4|46=>209|45=>208|50=>213|5=>5|9=>9|66=>262|70=>266|76=>306|77=>238|n=>n,λn=>n⟩
theorem Tryz.sort75:SlLaysF0.n6 Tryz.prog Tryz.sort75_ren:=⟨by kernel_rfl,
 ⟨"slices.SortFunc[[]pagewatch/api.Violation,pagewatch/api.Violation]", by decide, tfK func75⟩,
 ⟨"slices.pdqsortCmpFunc[pagewatch/api.Violation]", by decide, tfK func142⟩,
 tfK func57,
 ⟨"slices.insertionSortCmpFunc[pagewatch/api.Violation]", by decide, tfK func194⟩,
 ⟨"slices.heapSortCmpFunc[pagewatch/api.Violation]", by decide, tfK func195⟩,
 ⟨"slices.breakPatternsCmpFunc[pagewatch/api.Violation]", by decide, tfK func196⟩,
 ⟨"slices.choosePivotCmpFunc[pagewatch/api.Violation]", by decide, tfK func197⟩,
 ⟨"slices.reverseRangeCmpFunc[pagewatch/api.Violation]", by decide, tfK func198⟩,
 ⟨"slices.partialInsertionSortCmpFunc[pagewatch/api.Violation]", by decide, tfK func199⟩,
 ⟨"slices.partitionEqualCmpFunc[pagewatch/api.Violation]", by decide, tfK func200⟩,
 ⟨"slices.partitionCmpFunc[pagewatch/api.Violation]", by decide, tfK func201⟩,
 tfK func124,
 tfK func125,
 ⟨"slices.siftDownCmpFunc[pagewatch/api.Violation]", by decide, tfK func249⟩,
 tfK func177,
 tfK func178,
 ⟨"slices.medianAdjacentCmpFunc[pagewatch/api.Violation]", by decide, tfK func250⟩,
 ⟨"slices.medianCmpFunc[pagewatch/api.Violation]", by decide, tfK func251⟩,
 ⟨"slices.order2CmpFunc[pagewatch/api.Violation]", by decide, tfK func292⟩,
 underlying0,
 isAgg0,
 sizeOf0,
 zeroValue0,
 underlying3,
 isAgg3,
 sizeOf3,
 zeroValue3,
 underlying4,
 isAgg4,
 sizeOf4,
 zeroValue4,
 underlying5,
 isAgg5,
 sizeOf5,
 zeroValue5,
 underlying9,
 isAgg9,
 sizeOf9,
 zeroValue9,
 underlying103,
 isAgg103,
 sizeOf103,
 zeroValue103,
 underlying162,
 isAgg162,
 sizeOf162,
 zeroValue162,
 underlying133,
 isAgg133,
 sizeOf133,
 zeroValue133,
 underlying208,
 isAgg208,
 sizeOf208,
 zeroValue208,
 underlying209,
 isAgg209,
 sizeOf209,
 zeroValue209,
 underlying213,
 isAgg213,
 sizeOf213,
 zeroValue213,
 underlying216,
 isAgg216,
 sizeOf216,
 zeroValue216,
 underlying218,
 isAgg218,
 sizeOf218,
 zeroValue218,
 underlying262,
 isAgg262,
 sizeOf262,
 zeroValue262,
 underlying266,
 isAgg266,
 sizeOf266,
 zeroValue266,
 underlying306,
 isAgg306,
 sizeOf306,
 zeroValue306,
 underlying238,
 isAgg238,
 sizeOf238,
 zeroValue238⟩
def Tryz.sort30_ren:Go.Shelf.Ren:=⟨λ| 6=>30|15=>57|14=>56|28=>124|29=>125|20=>116|21=>117|22=>118|23=>119|24=>120|25=>121|26=>122|27=>123|46=>176|47=>177|48=>178|49=>179|50=>180|57=>232|n=>n,λ| 22=>78|24=>80|25=>86|3=>3|39=>133|0=>0|53=>216|55=>218|4=>4|46=>209|45=>208|50=>213|5=>5|9=>9|66=>262|70=>266|76=>306|77=>238|n=>n,λn=>n⟩
theorem Tryz.sort30:SlLaysF0.n6 Tryz.prog Tryz.sort30_ren:=⟨by kernel_rfl,
 ⟨"slices.SortFunc[[]pagewatch/propose.candidate,pagewatch/propose.candidate]", by decide, tfK func30⟩,
 ⟨"slices.pdqsortCmpFunc[pagewatch/propose.candidate]", by decide, tfK func56⟩,
 tfK func57,
 ⟨"slices.insertionSortCmpFunc[pagewatch/propose.candidate]", by decide, tfK func116⟩,
 ⟨"slices.heapSortCmpFunc[pagewatch/propose.candidate]", by decide, tfK func117⟩,
 ⟨"slices.breakPatternsCmpFunc[pagewatch/propose.candidate]", by decide, tfK func118⟩,
 ⟨"slices.choosePivotCmpFunc[pagewatch/propose.candidate]", by decide, tfK func119⟩,
 ⟨"slices.reverseRangeCmpFunc[pagewatch/propose.candidate]", by decide, tfK func120⟩,
 ⟨"slices.partialInsertionSortCmpFunc[pagewatch/propose.candidate]", by decide, tfK func121⟩,
 ⟨"slices.partitionEqualCmpFunc[pagewatch/propose.candidate]", by decide, tfK func122⟩,
 ⟨"slices.partitionCmpFunc[pagewatch/propose.candidate]", by decide, tfK func123⟩,
 tfK func124,
 tfK func125,
 ⟨"slices.siftDownCmpFunc[pagewatch/propose.candidate]", by decide, tfK func176⟩,
 tfK func177,
 tfK func178,
 ⟨"slices.medianAdjacentCmpFunc[pagewatch/propose.candidate]", by decide, tfK func179⟩,
 ⟨"slices.medianCmpFunc[pagewatch/propose.candidate]", by decide, tfK func180⟩,
 ⟨"slices.order2CmpFunc[pagewatch/propose.candidate]", by decide, tfK func232⟩,
 underlying0,
 isAgg0,
 sizeOf0,
 zeroValue0,
 underlying3,
 isAgg3,
 sizeOf3,
 zeroValue3,
 underlying4,
 isAgg4,
 sizeOf4,
 zeroValue4,
 underlying5,
 isAgg5,
 sizeOf5,
 zeroValue5,
 underlying9,
 isAgg9,
 sizeOf9,
 zeroValue9,
 underlying78,
 isAgg78,
 sizeOf78,
 zeroValue78,
 underlying86,
 isAgg86,
 sizeOf86,
 zeroValue86,
 underlying133,
 isAgg133,
 sizeOf133,
 zeroValue133,
 underlying208,
 isAgg208,
 sizeOf208,
 zeroValue208,
 underlying209,
 isAgg209,
 sizeOf209,
 zeroValue209,
 underlying213,
 isAgg213,
 sizeOf213,
 zeroValue213,
 underlying216,
 isAgg216,
 sizeOf216,
 zeroValue216,
 underlying218,
 isAgg218,
 sizeOf218,
 zeroValue218,
 underlying262,
 isAgg262,
 sizeOf262,
 zeroValue262,
 underlying266,
 isAgg266,
 sizeOf266,
 zeroValue266,
 underlying306,
 isAgg306,
 sizeOf306,
 zeroValue306,
 underlying238,
 isAgg238,
 sizeOf238,
 zeroValue238⟩
def Tryz.sort171_ren:Go.Shelf.Ren:=⟨λ| 6=>171|15=>57|14=>229|28=>124|29=>125|20=>267|21=>268|22=>269|23=>270|24=>271|25=>272|26=>273|27=>274|46=>312|47=>177|48=>178|49=>313|50=>314|57=>332|n=>n,λ| 22=>50|24=>99|25=>260|3=>3|39=>133|0=>0|53=>216|55=>218|4=>4|46=>209|45=>208|50=>213|5=>5|9=>9|66=>262|70=>266|76=>306|77=>238|n=>n,λn=>n⟩
theorem Tryz.sort171:SlLaysF0.n6 Tryz.prog Tryz.sort171_ren:=⟨by kernel_rfl,
 ⟨"slices.SortFunc[[]pagewatch/api.Span,pagewatch/api.Span]", by decide, tfK func171⟩,
 ⟨"slices.pdqsortCmpFunc[pagewatch/api.Span]", by decide, tfK func229⟩,
 tfK func57,
 ⟨"slices.insertionSortCmpFunc[pagewatch/api.Span]", by decide, tfK func267⟩,
 ⟨"slices.heapSortCmpFunc[pagewatch/api.Span]", by decide, tfK func268⟩,
 ⟨"slices.breakPatternsCmpFunc[pagewatch/api.Span]", by decide, tfK func269⟩,
 ⟨"slices.choosePivotCmpFunc[pagewatch/api.Span]", by decide, tfK func270⟩,
 ⟨"slices.reverseRangeCmpFunc[pagewatch/api.Span]", by decide, tfK func271⟩,
 ⟨"slices.partialInsertionSortCmpFunc[pagewatch/api.Span]", by decide, tfK func272⟩,
 ⟨"slices.partitionEqualCmpFunc[pagewatch/api.Span]", by decide, tfK func273⟩,
 ⟨"slices.partitionCmpFunc[pagewatch/api.Span]", by decide, tfK func274⟩,
 tfK func124,
 tfK func125,
 ⟨"slices.siftDownCmpFunc[pagewatch/api.Span]", by decide, tfK func312⟩,
 tfK func177,
 tfK func178,
 ⟨"slices.medianAdjacentCmpFunc[pagewatch/api.Span]", by decide, tfK func313⟩,
 ⟨"slices.medianCmpFunc[pagewatch/api.Span]", by decide, tfK func314⟩,
 ⟨"slices.order2CmpFunc[pagewatch/api.Span]", by decide, tfK func332⟩,
 underlying0,
 isAgg0,
 sizeOf0,
 zeroValue0,
 underlying3,
 isAgg3,
 sizeOf3,
 zeroValue3,
 underlying4,
 isAgg4,
 sizeOf4,
 zeroValue4,
 underlying5,
 isAgg5,
 sizeOf5,
 zeroValue5,
 underlying9,
 isAgg9,
 sizeOf9,
 zeroValue9,
 underlying50,
 isAgg50,
 sizeOf50,
 zeroValue50,
 underlying260,
 isAgg260,
 sizeOf260,
 zeroValue260,
 underlying133,
 isAgg133,
 sizeOf133,
 zeroValue133,
 underlying208,
 isAgg208,
 sizeOf208,
 zeroValue208,
 underlying209,
 isAgg209,
 sizeOf209,
 zeroValue209,
 underlying213,
 isAgg213,
 sizeOf213,
 zeroValue213,
 underlying216,
 isAgg216,
 sizeOf216,
 zeroValue216,
 underlying218,
 isAgg218,
 sizeOf218,
 zeroValue218,
 underlying262,
 isAgg262,
 sizeOf262,
 zeroValue262,
 underlying266,
 isAgg266,
 sizeOf266,
 zeroValue266,
 underlying306,
 isAgg306,
 sizeOf306,
 zeroValue306,
 underlying238,
 isAgg238,
 sizeOf238,
 zeroValue238⟩
def Tryz.sort217_ren:Go.Shelf.Ren:=⟨λ| 6=>217|15=>57|14=>261|28=>124|29=>125|20=>302|21=>303|22=>304|23=>305|24=>306|25=>307|26=>308|27=>309|46=>328|47=>177|48=>178|49=>329|50=>330|57=>335|n=>n,λ| 22=>87|24=>92|25=>296|3=>3|39=>133|0=>0|53=>216|55=>218|4=>4|46=>209|45=>208|50=>213|5=>5|9=>9|66=>262|70=>266|76=>306|77=>238|n=>n,λn=>n⟩
theorem Tryz.sort217:SlLaysF0.n6 Tryz.prog Tryz.sort217_ren:=⟨by kernel_rfl,
 ⟨"slices.SortFunc[[]pagewatch/api.Segment,pagewatch/api.Segment]", by decide, tfK func217⟩,
 ⟨"slices.pdqsortCmpFunc[pagewatch/api.Segment]", by decide, tfK func261⟩,
 tfK func57,
 ⟨"slices.insertionSortCmpFunc[pagewatch/api.Segment]", by decide, tfK func302⟩,
 ⟨"slices.heapSortCmpFunc[pagewatch/api.Segment]", by decide, tfK func303⟩,
 ⟨"slices.breakPatternsCmpFunc[pagewatch/api.Segment]", by decide, tfK func304⟩,
 ⟨"slices.choosePivotCmpFunc[pagewatch/api.Segment]", by decide, tfK func305⟩,
 ⟨"slices.reverseRangeCmpFunc[pagewatch/api.Segment]", by decide, tfK func306⟩,
 ⟨"slices.partialInsertionSortCmpFunc[pagewatch/api.Segment]", by decide, tfK func307⟩,
 ⟨"slices.partitionEqualCmpFunc[pagewatch/api.Segment]", by decide, tfK func308⟩,
 ⟨"slices.partitionCmpFunc[pagewatch/api.Segment]", by decide, tfK func309⟩,
 tfK func124,
 tfK func125,
 ⟨"slices.siftDownCmpFunc[pagewatch/api.Segment]", by decide, tfK func328⟩,
 tfK func177,
 tfK func178,
 ⟨"slices.medianAdjacentCmpFunc[pagewatch/api.Segment]", by decide, tfK func329⟩,
 ⟨"slices.medianCmpFunc[pagewatch/api.Segment]", by decide, tfK func330⟩,
 ⟨"slices.order2CmpFunc[pagewatch/api.Segment]", by decide, tfK func335⟩,
 underlying0,
 isAgg0,
 sizeOf0,
 zeroValue0,
 underlying3,
 isAgg3,
 sizeOf3,
 zeroValue3,
 underlying4,
 isAgg4,
 sizeOf4,
 zeroValue4,
 underlying5,
 isAgg5,
 sizeOf5,
 zeroValue5,
 underlying9,
 isAgg9,
 sizeOf9,
 zeroValue9,
 underlying87,
 isAgg87,
 sizeOf87,
 zeroValue87,
 underlying296,
 isAgg296,
 sizeOf296,
 zeroValue296,
 underlying133,
 isAgg133,
 sizeOf133,
 zeroValue133,
 underlying208,
 isAgg208,
 sizeOf208,
 zeroValue208,
 underlying209,
 isAgg209,
 sizeOf209,
 zeroValue209,
 underlying213,
 isAgg213,
 sizeOf213,
 zeroValue213,
 underlying216,
 isAgg216,
 sizeOf216,
 zeroValue216,
 underlying218,
 isAgg218,
 sizeOf218,
 zeroValue218,
 underlying262,
 isAgg262,
 sizeOf262,
 zeroValue262,
 underlying266,
 isAgg266,
 sizeOf266,
 zeroValue266,
 underlying306,
 isAgg306,
 sizeOf306,
 zeroValue306,
 underlying238,
 isAgg238,
 sizeOf238,
 zeroValue238⟩
def Tryz.sort174_ren:Go.Shelf.Ren:=⟨λ| 5=>174|8=>57|7=>231|19=>124|20=>125|10=>275|11=>276|12=>277|13=>278|14=>279|15=>280|16=>219|17=>281|18=>282|30=>315|31=>177|32=>178|33=>316|34=>317|35=>262|40=>333|n=>n,λ| 23=>22|25=>3|3=>3|32=>133|22=>22|0=>0|44=>216|46=>218|4=>4|36=>209|35=>208|41=>213|5=>5|9=>9|53=>262|57=>266|63=>306|64=>238|n=>n,λn=>n⟩
theorem Tryz.sort174:SlLaysM.n5 Tryz.prog Tryz.sort174_ren:=⟨by kernel_rfl,
 ⟨"slices.Sort[[]int,int]", by decide, tfK func174⟩,
 ⟨"slices.pdqsortOrdered[int]", by decide, tfK func231⟩,
 tfK func57,
 ⟨"slices.insertionSortOrdered[int]", by decide, tfK func275⟩,
 ⟨"slices.heapSortOrdered[int]", by decide, tfK func276⟩,
 ⟨"slices.breakPatternsOrdered[int]", by decide, tfK func277⟩,
 ⟨"slices.choosePivotOrdered[int]", by decide, tfK func278⟩,
 ⟨"slices.reverseRangeOrdered[int]", by decide, tfK func279⟩,
 ⟨"slices.partialInsertionSortOrdered[int]", by decide, tfK func280⟩,
 ⟨"cmp.Less[int]", by decide, tfK func219⟩,
 ⟨"slices.partitionEqualOrdered[int]", by decide, tfK func281⟩,
 ⟨"slices.partitionOrdered[int]", by decide, tfK func282⟩,
 tfK func124,
 tfK func125,
 ⟨"slices.siftDownOrdered[int]", by decide, tfK func315⟩,
 tfK func177,
 tfK func178,
 ⟨"slices.medianAdjacentOrdered[int]", by decide, tfK func316⟩,
 ⟨"slices.medianOrdered[int]", by decide, tfK func317⟩,
 ⟨"cmp.isNaN[int]", by decide, tfK func262⟩,
 ⟨"slices.order2Ordered[int]", by decide, tfK func333⟩,
 underlying0,
 isAgg0,
 sizeOf0,
 zeroValue0,
 underlying3,
 isAgg3,
 sizeOf3,
 zeroValue3,
 underlying4,
 isAgg4,
 sizeOf4,
 zeroValue4,
 underlying5,
 isAgg5,
 sizeOf5,
 zeroValue5,
 underlying9,
 isAgg9,
 sizeOf9,
 zeroValue9,
 underlying22,
 isAgg22,
 sizeOf22,
 zeroValue22,
 underlying22,
 isAgg22,
 sizeOf22,
 zeroValue22,
 underlying3,
 isAgg3,
 sizeOf3,
 zeroValue3,
 underlying133,
 isAgg133,
 sizeOf133,
 zeroValue133,
 underlying208,
 isAgg208,
 sizeOf208,
 zeroValue208,
 underlying209,
 isAgg209,
 sizeOf209,
 zeroValue209,
 underlying213,
 isAgg213,
 sizeOf213,
 zeroValue213,
 underlying216,
 isAgg216,
 sizeOf216,
 zeroValue216,
 underlying218,
 isAgg218,
 sizeOf218,
 zeroValue218,
 underlying262,
 isAgg262,
 sizeOf262,
 zeroValue262,
 underlying266,
 isAgg266,
 sizeOf266,
 zeroValue266,
 underlying306,
 isAgg306,
 sizeOf306,
 zeroValue306,
 underlying238,
 isAgg238,
 sizeOf238,
 zeroValue238⟩
def Tryz.keys115_ren:Go.Shelf.Ren:=⟨λ| 7=>115|10=>175|n=>n,λ| 23=>125|26=>3|3=>83|28=>205|0=>0|27=>204|33=>76|4=>4|n=>n,λn=>n⟩
theorem Tryz.keys115:SlLaysZI.n7 Tryz.prog Tryz.keys115_ren:=⟨by kernel_rfl,
 ⟨"maps.Keys[map[int]pagewatch/api.Load,int,pagewatch/api.Load]", by decide, tfK func115⟩,
 ⟨"maps.Keys[map[int]pagewatch/api.Load,int,pagewatch/api.Load]$1", by decide, tfK func175⟩,
 underlying0,
 isAgg0,
 sizeOf0,
 zeroValue0,
 underlying4,
 isAgg4,
 sizeOf4,
 zeroValue4,
 underlying125,
 isAgg125,
 sizeOf125,
 zeroValue125,
 underlying3,
 isAgg3,
 sizeOf3,
 zeroValue3,
 underlying204,
 isAgg204,
 sizeOf204,
 zeroValue204,
 underlying205,
 isAgg205,
 sizeOf205,
 zeroValue205,
 underlying76,
 isAgg76,
 sizeOf76,
 zeroValue76⟩
def Tryz.sorted114_ren:Go.Shelf.Ren:=⟨λ| 6=>114|8=>173|9=>174|11=>230|13=>57|12=>231|23=>124|24=>125|14=>275|15=>276|16=>277|17=>278|18=>279|19=>280|20=>219|21=>281|22=>282|25=>315|26=>177|27=>178|28=>316|29=>317|30=>262|31=>333|n=>n,λ| 26=>3|28=>205|24=>22|0=>0|3=>3|37=>133|48=>216|50=>218|4=>4|40=>209|39=>208|45=>213|5=>5|9=>9|51=>262|55=>266|57=>306|58=>238|33=>76|n=>n,λn=>n⟩
theorem Tryz.sorted114:SlLaysZI.n6 Tryz.prog Tryz.sorted114_ren:=⟨by kernel_rfl,
 ⟨"slices.Sorted[int]", by decide, tfK func114⟩,
 ⟨"slices.Collect[int]", by decide, tfK func173⟩,
 ⟨"slices.AppendSeq[[]int,int]", by decide, tfK func230⟩,
 underlying0,
 isAgg0,
 sizeOf0,
 zeroValue0,
 underlying22,
 isAgg22,
 sizeOf22,
 zeroValue22,
 underlying3,
 isAgg3,
 sizeOf3,
 zeroValue3,
 underlying205,
 isAgg205,
 sizeOf205,
 zeroValue205,
 by kernel_rfl⟩
namespace Pk
theorem jwp{α:Type}(k1 k2 k3:α->Int)(h1:∀x, -1152921504606846976<=k1 x/\k1 x<=1152921504606846976)(h2:∀x, -1152921504606846976<=k2 x/\k2 x<=1152921504606846976)(h3:∀x, -1152921504606846976<=k3 x/\k3 x<=1152921504606846976)
  (cf:α->α->Int)(h:∀x y,cf x y=(cond (k1 x != k1 y) (k (w64 (k1 x-k1 y))) (cond (k2 x != k2 y) (k (w64 (k2 x-k2 y))) (k (w64 (k3 x-k3 y))))).getD 0):SWO (ltOf cf):=by
 have e:∀x y,ltOf cf x y=decide (k1 x<k1 y\/k1 x=k1 y/\(k2 x<k2 y\/k2 x=k2 y/\k3 x<k3 y)):=by
  intro x y;have a1:=h1 x;have a2:=h1 y;have b1:=h2 x;have b2:=h2 y;have c1:=h3 x;have c2:=h3 y;simp only[ltOf,h];by_cases q1:k1 x=k1 y
  .rw[show (k1 x != k1 y)=p by simp[q1],j7];by_cases q2:k2 x=k2 y
   .rw[show (k2 x != k2 y)=p by simp[q2],j7,b,j4S (by omega) (by omega)];exact decide_eq_decide.2 (by omega)
   .rw[show (k2 x != k2 y)=m by simp[q2],j6,b,j4S (by omega) (by omega)];exact decide_eq_decide.2 (by omega)
  .rw[show (k1 x != k1 y)=m by simp[q1],j6,b,j4S (by omega) (by omega)];exact decide_eq_decide.2 (by omega)
 refine⟨λx=>?_,λx y z=>?_,λx y z=>?_⟩
 .rw[e];simp
 .rw[e,e,e];simp only[decide_eq_true_eq];omega
 .rw[e,e,e];simp only[decide_eq_false_iff_not];omega
set_option maxHeartbeats 1000000 in
theorem jua(x y:Ty.den ((.pair (.int .i64) (.pair (.int .i64) (.int .i64)))))(w:r)(_:j3y ((.pair (.int .i64) (.pair (.int .i64) (.int .i64)))) x=m)(_:j3y ((.pair (.int .i64) (.pair (.int .i64) (.int .i64)))) y=m) :
  l Tryz.prog 76 #[.agg (encT ((.pair (.int .i64) (.pair (.int .i64) (.int .i64)))) x).toArray,.agg (encT ((.pair (.int .i64) (.pair (.int .i64) (.int .i64)))) y).toArray] w λe w'=>e = .returned (.int .i64 ((Pw.j4x x y).getD 0))/\∃q os',w'=grow (w.drewN q) os':=by
 change l Tryz.prog 76 #[.agg #[.int .i64 x.1,.int .i64 x.2.1,.int .i64 x.2.2],.agg #[.int .i64 y.1,.int .i64 y.2.1,.int .i64 y.2.2]] w λe w'=>e = .returned (.int .i64 ((cond (x.2.2 != y.2.2) (k (w64 (x.2.2-y.2.2))) (cond (x.1 != y.1) (k (w64 (x.1-y.1))) (k (w64 (x.2.1-y.2.1))))).getD 0))/\∃q os',w'=grow (w.drewN q) os'
 generalize x.2.2=x1 at *
 generalize x.1=x2 at *
 generalize x.2.1=x3 at *
 generalize y.2.2=y1 at *
 generalize y.1=y2 at *
 generalize y.2.1=y3 at *
 by_cases q1:x1=y1
 .subst q1;by_cases q2:x2=y2
  .subst q2;simp only[bne_self_eq_false,j7,b]
   go_enter func76,ntmps76
   go_wp2
   go_ret
   refine⟨?_,0,_,by rw[alloc_eq_grow,alloc_eq_grow,grow_grow];rfl⟩;rw[show w64 (x3-y3)=i (x3-y3) from d _];rfl
  .have q3:(x2 != y2)=true:=by simp[q2]
   rw[q3];simp only[bne_self_eq_false,j7,j6,b]
   go_enter func76,ntmps76
   go_wp2
   all_goals first
    |exact absurd (q3.symm.trans ‹(x2 != y2)=p›) (by decide)
    |(
     go_ret
     refine⟨?_,0,_,by rw[alloc_eq_grow,alloc_eq_grow,grow_grow];rfl⟩;rw[show w64 (x2-y2)=i (x2-y2) from d _];rfl)
 .have q3:(x1 != y1)=true:=by simp[q1]
  rw[q3];simp only[j6,b]
  go_enter func76,ntmps76
  go_wp2
  all_goals first
   |exact absurd (q3.symm.trans ‹(x1 != y1)=p›) (by decide)
   |(
    go_ret
    refine⟨?_,0,_,by rw[alloc_eq_grow,alloc_eq_grow,grow_grow];rfl⟩;rw[show w64 (x1-y1)=i (x1-y1) from d _];rfl)
theorem jub:SWO (ltOf λ(x y:Sml ((.pair (.int .i64) (.pair (.int .i64) (.int .i64)))))=>(Pw.j4x x.1 y.1).getD 0):=by
 have key:∀x:Sml ((.pair (.int .i64) (.pair (.int .i64) (.int .i64)))),(-1152921504606846976<=(x.1.1:Int)/\(x.1.1:Int)<=1152921504606846976)/\(-1152921504606846976<=(x.1.2.1:Int)/\(x.1.2.1:Int)<=1152921504606846976)/\(-1152921504606846976<=(x.1.2.2:Int)/\(x.1.2.2:Int)<=1152921504606846976):=λx=>by
  have:=x.2;simp only[j3y,j,decide_eq_true_eq]at this;exact this
 exact jwp (λx=>x.1.2.2) (λx=>x.1.1) (λx=>x.1.2.1) (λx=>by first|exact(key x).1|exact(key x).2.1|exact(key x).2.2) (λx=>by first|exact(key x).1|exact(key x).2.1|exact(key x).2.2)
  (λx=>by first|exact(key x).1|exact(key x).2.1|exact(key x).2.2) _ λx y=>rfl
set_option maxHeartbeats 1000000 in
theorem juc(x y:Ty.den ((.pair (.int .i64) (.int .i64))))(w:r)(_:j3y ((.pair (.int .i64) (.int .i64))) x=m)(_:j3y ((.pair (.int .i64) (.int .i64))) y=m) :
  l Tryz.prog 31 #[.agg (encT ((.pair (.int .i64) (.int .i64))) x).toArray,.agg (encT ((.pair (.int .i64) (.int .i64))) y).toArray] w λe w'=>e = .returned (.int .i64 ((Pw.j17 x y).getD 0))/\∃q os',w'=grow (w.drewN q) os':=by
 change l Tryz.prog 31 #[.agg #[.int .i64 x.1,.int .i64 x.2],.agg #[.int .i64 y.1,.int .i64 y.2]] w λe w'=>e = .returned (.int .i64 ((cond (x.2 != y.2) (k (w64 (x.2-y.2))) (k (w64 (x.1-y.1)))).getD 0))/\∃q os',w'=grow (w.drewN q) os'
 generalize x.2=x1 at *
 generalize x.1=x2 at *
 generalize y.2=y1 at *
 generalize y.1=y2 at *
 by_cases q1:x1=y1
 .subst q1;simp only[bne_self_eq_false,j7,b]
  go_enter func31,ntmps31
  go_wp2
  go_ret
  refine⟨?_,0,_,by rw[alloc_eq_grow,alloc_eq_grow,grow_grow];rfl⟩;rw[show w64 (x2-y2)=i (x2-y2) from d _];rfl
 .have q3:(x1 != y1)=true:=by simp[q1]
  rw[q3];simp only[j6,b]
  go_enter func31,ntmps31
  go_wp2
  all_goals first
   |exact absurd (q3.symm.trans ‹(x1 != y1)=p›) (by decide)
   |(
    go_ret
    refine⟨?_,0,_,by rw[alloc_eq_grow,alloc_eq_grow,grow_grow];rfl⟩;rw[show w64 (x1-y1)=i (x1-y1) from d _];rfl)
theorem jud:SWO (ltOf λ(x y:Sml ((.pair (.int .i64) (.int .i64))))=>(Pw.j17 x.1 y.1).getD 0):=by
 have key:∀x:Sml ((.pair (.int .i64) (.int .i64))),(-1152921504606846976<=(x.1.1:Int)/\(x.1.1:Int)<=1152921504606846976)/\(-1152921504606846976<=(x.1.2:Int)/\(x.1.2:Int)<=1152921504606846976):=λx=>by
  have:=x.2;simp only[j3y,j,decide_eq_true_eq]at this;exact this
 refine jwp (λx=>x.1.2) (λx=>x.1.1) (λx=>x.1.1) (λx=>by first|exact(key x).1|exact(key x).2) (λx=>by first|exact(key x).1|exact(key x).2)
  (λx=>by first|exact(key x).1|exact(key x).2) _ λx y=>?_
 show (cond (x.1.2 != y.1.2) (k (w64 (x.1.2-y.1.2))) (k (w64 (x.1.1-y.1.1)))).getD 0=_;cases (x.1.1 != y.1.1)<;>rfl
set_option maxHeartbeats 1000000 in
theorem jr3(x y:Ty.den ((.pair (.int .i64) (.int .i64))))(w:r)(_:j3y ((.pair (.int .i64) (.int .i64))) x=m)(_:j3y ((.pair (.int .i64) (.int .i64))) y=m) :
  l Tryz.prog 172 #[.agg (encT ((.pair (.int .i64) (.int .i64))) x).toArray,.agg (encT ((.pair (.int .i64) (.int .i64))) y).toArray] w λe w'=>e = .returned (.int .i64 ((Pw.j7Q x y).getD 0))/\∃q os',w'=grow (w.drewN q) os':=by
 change l Tryz.prog 172 #[.agg #[.int .i64 x.1,.int .i64 x.2],.agg #[.int .i64 y.1,.int .i64 y.2]] w λe w'=>e = .returned (.int .i64 (w64 (x.1-y.1)))/\∃q os',w'=grow (w.drewN q) os'
 go_enter func172,ntmps172
 go_wp2
 go_ret
 refine⟨?_,0,_,by rw[alloc_eq_grow,alloc_eq_grow,grow_grow];rfl⟩;rw[show w64 (x.1-y.1)=i (x.1-y.1) from d _];rfl
theorem jr4:SWO (ltOf λ(x y:Sml ((.pair (.int .i64) (.int .i64))))=>(Pw.j7Q x.1 y.1).getD 0):=by
 refine job (λx=>x.1.1) (λx=>?_) _ λx y=>rfl;have:=x.2;simp only[j3y,j,decide_eq_true_eq]at this;first|exact this|exact this.1|exact this.2|exact this.1.1|exact this.1.2|exact this.2.1|exact this.2.2|exact this.2.1.1|exact this.2.2.1
set_option maxHeartbeats 1000000 in
theorem jr5(x y:Ty.den ((.pair (.int .i64) (.pair (.int .i64) (.int .i64)))))(w:r)(_:j3y ((.pair (.int .i64) (.pair (.int .i64) (.int .i64)))) x=m)(_:j3y ((.pair (.int .i64) (.pair (.int .i64) (.int .i64)))) y=m) :
  l Tryz.prog 218 #[.agg (encT ((.pair (.int .i64) (.pair (.int .i64) (.int .i64)))) x).toArray,.agg (encT ((.pair (.int .i64) (.pair (.int .i64) (.int .i64)))) y).toArray] w λe w'=>e = .returned (.int .i64 ((Pw.j3h x y).getD 0))/\∃q os',w'=grow (w.drewN q) os':=by
 change l Tryz.prog 218 #[.agg #[.int .i64 x.1,.int .i64 x.2.1,.int .i64 x.2.2],.agg #[.int .i64 y.1,.int .i64 y.2.1,.int .i64 y.2.2]] w λe w'=>e = .returned (.int .i64 (w64 (x.1-y.1)))/\∃q os',w'=grow (w.drewN q) os'
 go_enter func218,ntmps218
 go_wp2
 go_ret
 refine⟨?_,0,_,by rw[alloc_eq_grow,alloc_eq_grow,grow_grow];rfl⟩;rw[show w64 (x.1-y.1)=i (x.1-y.1) from d _];rfl
theorem jr6:SWO (ltOf λ(x y:Sml ((.pair (.int .i64) (.pair (.int .i64) (.int .i64)))))=>(Pw.j3h x.1 y.1).getD 0):=by
 refine job (λx=>x.1.1) (λx=>?_) _ λx y=>rfl;have:=x.2;simp only[j3y,j,decide_eq_true_eq]at this;first|exact this|exact this.1|exact this.2|exact this.1.1|exact this.1.2|exact this.2.1|exact this.2.2|exact this.2.1.1|exact this.2.2.1
end Pk
end Go.Proofs
