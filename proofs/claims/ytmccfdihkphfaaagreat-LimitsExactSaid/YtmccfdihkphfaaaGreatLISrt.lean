/- Where slices.SortFunc lies, and what its comparing functions do; printed by a program. -/
import Derived.Test.YtmccfdihkphfaaaGreatLIFns
import Derived.Test.YtmccfdihkphfaaaGreatProg
import Derived.Shelf.SlSortCmp.NoneTotal
import Derived.Shelf.SortM.Plain
open Option renaming getD_some->b,some->k
open Go.IntWalk renaming i64_left->d
open Go.RowKit renaming wrap64->i
open Bool renaming and_eq_true->j,true->l,false->p
open Go Go.Lft Go.Proofs Go.Sort
namespace Go.Proofs
open Tryz
theorem tfK{α:Type}{a:Option α}{x y:α}(h:a=k x)(e:x=y:=by kernel_rfl):a=k y:=h.trans (congrArg k e)
def Tryz.sort186_ren:Go.Shelf.Ren:=⟨λ| 6=>186|15=>150|14=>246|28=>226|29=>227|20=>297|21=>298|22=>299|23=>300|24=>301|25=>302|26=>303|27=>304|46=>324|47=>270|48=>271|49=>325|50=>326|57=>336|n=>n,λ| 22=>54|24=>59|25=>235|3=>3|39=>208|0=>0|53=>270|55=>272|4=>4|46=>264|45=>263|50=>144|5=>5|9=>9|66=>304|70=>308|76=>336|77=>182|n=>n,λn=>n⟩
theorem Tryz.sort186:SlLaysF0.n6 Tryz.prog Tryz.sort186_ren:=⟨by kernel_rfl,
 ⟨"slices.SortFunc[[]pagewatch/api.Span,pagewatch/api.Span]", by decide, tfK func186⟩,
 ⟨"slices.pdqsortCmpFunc[pagewatch/api.Span]", by decide, tfK func246⟩,
 tfK func150,
 ⟨"slices.insertionSortCmpFunc[pagewatch/api.Span]", by decide, tfK func297⟩,
 ⟨"slices.heapSortCmpFunc[pagewatch/api.Span]", by decide, tfK func298⟩,
 ⟨"slices.breakPatternsCmpFunc[pagewatch/api.Span]", by decide, tfK func299⟩,
 ⟨"slices.choosePivotCmpFunc[pagewatch/api.Span]", by decide, tfK func300⟩,
 ⟨"slices.reverseRangeCmpFunc[pagewatch/api.Span]", by decide, tfK func301⟩,
 ⟨"slices.partialInsertionSortCmpFunc[pagewatch/api.Span]", by decide, tfK func302⟩,
 ⟨"slices.partitionEqualCmpFunc[pagewatch/api.Span]", by decide, tfK func303⟩,
 ⟨"slices.partitionCmpFunc[pagewatch/api.Span]", by decide, tfK func304⟩,
 tfK func226,
 tfK func227,
 ⟨"slices.siftDownCmpFunc[pagewatch/api.Span]", by decide, tfK func324⟩,
 tfK func270,
 tfK func271,
 ⟨"slices.medianAdjacentCmpFunc[pagewatch/api.Span]", by decide, tfK func325⟩,
 ⟨"slices.medianCmpFunc[pagewatch/api.Span]", by decide, tfK func326⟩,
 ⟨"slices.order2CmpFunc[pagewatch/api.Span]", by decide, tfK func336⟩,
 underlying0,
 isAgg0,
 sizeOf0,
 zeroValue0,
 underlying3,
 isAgg3,
 sizeOf3,
 zeroValue3,
 underlying4,
 isAgg4,
 sizeOf4,
 zeroValue4,
 underlying5,
 isAgg5,
 sizeOf5,
 zeroValue5,
 underlying9,
 isAgg9,
 sizeOf9,
 zeroValue9,
 underlying54,
 isAgg54,
 sizeOf54,
 zeroValue54,
 underlying235,
 isAgg235,
 sizeOf235,
 zeroValue235,
 underlying208,
 isAgg208,
 sizeOf208,
 zeroValue208,
 underlying263,
 isAgg263,
 sizeOf263,
 zeroValue263,
 underlying264,
 isAgg264,
 sizeOf264,
 zeroValue264,
 underlying144,
 isAgg144,
 sizeOf144,
 zeroValue144,
 underlying270,
 isAgg270,
 sizeOf270,
 zeroValue270,
 underlying272,
 isAgg272,
 sizeOf272,
 zeroValue272,
 underlying304,
 isAgg304,
 sizeOf304,
 zeroValue304,
 underlying308,
 isAgg308,
 sizeOf308,
 zeroValue308,
 underlying336,
 isAgg336,
 sizeOf336,
 zeroValue336,
 underlying182,
 isAgg182,
 sizeOf182,
 zeroValue182⟩
def Tryz.sort173_ren:Go.Shelf.Ren:=⟨λ| 6=>173|15=>150|14=>237|28=>226|29=>227|20=>286|21=>287|22=>288|23=>289|24=>290|25=>291|26=>292|27=>293|46=>321|47=>270|48=>271|49=>322|50=>323|57=>335|n=>n,λ| 22=>48|24=>123|25=>226|3=>3|39=>208|0=>0|53=>270|55=>272|4=>4|46=>264|45=>263|50=>144|5=>5|9=>9|66=>304|70=>308|76=>336|77=>182|n=>n,λn=>n⟩
theorem Tryz.sort173:SlLaysF0.n6 Tryz.prog Tryz.sort173_ren:=⟨by kernel_rfl,
 ⟨"slices.SortFunc[[]pagewatch/api.Segment,pagewatch/api.Segment]", by decide, tfK func173⟩,
 ⟨"slices.pdqsortCmpFunc[pagewatch/api.Segment]", by decide, tfK func237⟩,
 tfK func150,
 ⟨"slices.insertionSortCmpFunc[pagewatch/api.Segment]", by decide, tfK func286⟩,
 ⟨"slices.heapSortCmpFunc[pagewatch/api.Segment]", by decide, tfK func287⟩,
 ⟨"slices.breakPatternsCmpFunc[pagewatch/api.Segment]", by decide, tfK func288⟩,
 ⟨"slices.choosePivotCmpFunc[pagewatch/api.Segment]", by decide, tfK func289⟩,
 ⟨"slices.reverseRangeCmpFunc[pagewatch/api.Segment]", by decide, tfK func290⟩,
 ⟨"slices.partialInsertionSortCmpFunc[pagewatch/api.Segment]", by decide, tfK func291⟩,
 ⟨"slices.partitionEqualCmpFunc[pagewatch/api.Segment]", by decide, tfK func292⟩,
 ⟨"slices.partitionCmpFunc[pagewatch/api.Segment]", by decide, tfK func293⟩,
 tfK func226,
 tfK func227,
 ⟨"slices.siftDownCmpFunc[pagewatch/api.Segment]", by decide, tfK func321⟩,
 tfK func270,
 tfK func271,
 ⟨"slices.medianAdjacentCmpFunc[pagewatch/api.Segment]", by decide, tfK func322⟩,
 ⟨"slices.medianCmpFunc[pagewatch/api.Segment]", by decide, tfK func323⟩,
 ⟨"slices.order2CmpFunc[pagewatch/api.Segment]", by decide, tfK func335⟩,
 underlying0,
 isAgg0,
 sizeOf0,
 zeroValue0,
 underlying3,
 isAgg3,
 sizeOf3,
 zeroValue3,
 underlying4,
 isAgg4,
 sizeOf4,
 zeroValue4,
 underlying5,
 isAgg5,
 sizeOf5,
 zeroValue5,
 underlying9,
 isAgg9,
 sizeOf9,
 zeroValue9,
 underlying48,
 isAgg48,
 sizeOf48,
 zeroValue48,
 underlying226,
 isAgg226,
 sizeOf226,
 zeroValue226,
 underlying208,
 isAgg208,
 sizeOf208,
 zeroValue208,
 underlying263,
 isAgg263,
 sizeOf263,
 zeroValue263,
 underlying264,
 isAgg264,
 sizeOf264,
 zeroValue264,
 underlying144,
 isAgg144,
 sizeOf144,
 zeroValue144,
 underlying270,
 isAgg270,
 sizeOf270,
 zeroValue270,
 underlying272,
 isAgg272,
 sizeOf272,
 zeroValue272,
 underlying304,
 isAgg304,
 sizeOf304,
 zeroValue304,
 underlying308,
 isAgg308,
 sizeOf308,
 zeroValue308,
 underlying336,
 isAgg336,
 sizeOf336,
 zeroValue336,
 underlying182,
 isAgg182,
 sizeOf182,
 zeroValue182⟩
def Tryz.sort94_ren:Go.Shelf.Ren:=⟨λ| 6=>94|15=>150|14=>149|28=>226|29=>227|20=>218|21=>219|22=>220|23=>221|24=>222|25=>223|26=>224|27=>225|46=>269|47=>270|48=>271|49=>272|50=>273|57=>316|n=>n,λ| 22=>73|24=>148|25=>161|3=>3|39=>208|0=>0|53=>270|55=>272|4=>4|46=>264|45=>263|50=>144|5=>5|9=>9|66=>304|70=>308|76=>336|77=>182|n=>n,λn=>n⟩
theorem Tryz.sort94:SlLaysF0.n6 Tryz.prog Tryz.sort94_ren:=⟨by kernel_rfl,
 ⟨"slices.SortFunc[[]pagewatch/api.Violation,pagewatch/api.Violation]", by decide, tfK func94⟩,
 ⟨"slices.pdqsortCmpFunc[pagewatch/api.Violation]", by decide, tfK func149⟩,
 tfK func150,
 ⟨"slices.insertionSortCmpFunc[pagewatch/api.Violation]", by decide, tfK func218⟩,
 ⟨"slices.heapSortCmpFunc[pagewatch/api.Violation]", by decide, tfK func219⟩,
 ⟨"slices.breakPatternsCmpFunc[pagewatch/api.Violation]", by decide, tfK func220⟩,
 ⟨"slices.choosePivotCmpFunc[pagewatch/api.Violation]", by decide, tfK func221⟩,
 ⟨"slices.reverseRangeCmpFunc[pagewatch/api.Violation]", by decide, tfK func222⟩,
 ⟨"slices.partialInsertionSortCmpFunc[pagewatch/api.Violation]", by decide, tfK func223⟩,
 ⟨"slices.partitionEqualCmpFunc[pagewatch/api.Violation]", by decide, tfK func224⟩,
 ⟨"slices.partitionCmpFunc[pagewatch/api.Violation]", by decide, tfK func225⟩,
 tfK func226,
 tfK func227,
 ⟨"slices.siftDownCmpFunc[pagewatch/api.Violation]", by decide, tfK func269⟩,
 tfK func270,
 tfK func271,
 ⟨"slices.medianAdjacentCmpFunc[pagewatch/api.Violation]", by decide, tfK func272⟩,
 ⟨"slices.medianCmpFunc[pagewatch/api.Violation]", by decide, tfK func273⟩,
 ⟨"slices.order2CmpFunc[pagewatch/api.Violation]", by decide, tfK func316⟩,
 underlying0,
 isAgg0,
 sizeOf0,
 zeroValue0,
 underlying3,
 isAgg3,
 sizeOf3,
 zeroValue3,
 underlying4,
 isAgg4,
 sizeOf4,
 zeroValue4,
 underlying5,
 isAgg5,
 sizeOf5,
 zeroValue5,
 underlying9,
 isAgg9,
 sizeOf9,
 zeroValue9,
 underlying73,
 isAgg73,
 sizeOf73,
 zeroValue73,
 underlying161,
 isAgg161,
 sizeOf161,
 zeroValue161,
 underlying208,
 isAgg208,
 sizeOf208,
 zeroValue208,
 underlying263,
 isAgg263,
 sizeOf263,
 zeroValue263,
 underlying264,
 isAgg264,
 sizeOf264,
 zeroValue264,
 underlying144,
 isAgg144,
 sizeOf144,
 zeroValue144,
 underlying270,
 isAgg270,
 sizeOf270,
 zeroValue270,
 underlying272,
 isAgg272,
 sizeOf272,
 zeroValue272,
 underlying304,
 isAgg304,
 sizeOf304,
 zeroValue304,
 underlying308,
 isAgg308,
 sizeOf308,
 zeroValue308,
 underlying336,
 isAgg336,
 sizeOf336,
 zeroValue336,
 underlying182,
 isAgg182,
 sizeOf182,
 zeroValue182⟩
def Tryz.sort165_ren:Go.Shelf.Ren:=⟨λ| 5=>165|8=>150|7=>232|19=>226|20=>227|10=>277|11=>278|12=>279|13=>280|14=>281|15=>282|16=>175|17=>283|18=>284|30=>318|31=>270|32=>271|33=>319|34=>320|35=>238|40=>334|n=>n,λ| 23=>22|25=>3|3=>3|32=>208|22=>22|0=>0|44=>270|46=>272|4=>4|36=>264|35=>263|41=>144|5=>5|9=>9|53=>304|57=>308|63=>336|64=>182|n=>n,λn=>n⟩
theorem Tryz.sort165:SlLaysM.n5 Tryz.prog Tryz.sort165_ren:=⟨by kernel_rfl,
 ⟨"slices.Sort[[]int,int]", by decide, tfK func165⟩,
 ⟨"slices.pdqsortOrdered[int]", by decide, tfK func232⟩,
 tfK func150,
 ⟨"slices.insertionSortOrdered[int]", by decide, tfK func277⟩,
 ⟨"slices.heapSortOrdered[int]", by decide, tfK func278⟩,
 ⟨"slices.breakPatternsOrdered[int]", by decide, tfK func279⟩,
 ⟨"slices.choosePivotOrdered[int]", by decide, tfK func280⟩,
 ⟨"slices.reverseRangeOrdered[int]", by decide, tfK func281⟩,
 ⟨"slices.partialInsertionSortOrdered[int]", by decide, tfK func282⟩,
 ⟨"cmp.Less[int]", by decide, tfK func175⟩,
 ⟨"slices.partitionEqualOrdered[int]", by decide, tfK func283⟩,
 ⟨"slices.partitionOrdered[int]", by decide, tfK func284⟩,
 tfK func226,
 tfK func227,
 ⟨"slices.siftDownOrdered[int]", by decide, tfK func318⟩,
 tfK func270,
 tfK func271,
 ⟨"slices.medianAdjacentOrdered[int]", by decide, tfK func319⟩,
 ⟨"slices.medianOrdered[int]", by decide, tfK func320⟩,
 ⟨"cmp.isNaN[int]", by decide, tfK func238⟩,
 ⟨"slices.order2Ordered[int]", by decide, tfK func334⟩,
 underlying0,
 isAgg0,
 sizeOf0,
 zeroValue0,
 underlying3,
 isAgg3,
 sizeOf3,
 zeroValue3,
 underlying4,
 isAgg4,
 sizeOf4,
 zeroValue4,
 underlying5,
 isAgg5,
 sizeOf5,
 zeroValue5,
 underlying9,
 isAgg9,
 sizeOf9,
 zeroValue9,
 underlying22,
 isAgg22,
 sizeOf22,
 zeroValue22,
 underlying22,
 isAgg22,
 sizeOf22,
 zeroValue22,
 underlying3,
 isAgg3,
 sizeOf3,
 zeroValue3,
 underlying208,
 isAgg208,
 sizeOf208,
 zeroValue208,
 underlying263,
 isAgg263,
 sizeOf263,
 zeroValue263,
 underlying264,
 isAgg264,
 sizeOf264,
 zeroValue264,
 underlying144,
 isAgg144,
 sizeOf144,
 zeroValue144,
 underlying270,
 isAgg270,
 sizeOf270,
 zeroValue270,
 underlying272,
 isAgg272,
 sizeOf272,
 zeroValue272,
 underlying304,
 isAgg304,
 sizeOf304,
 zeroValue304,
 underlying308,
 isAgg308,
 sizeOf308,
 zeroValue308,
 underlying336,
 isAgg336,
 sizeOf336,
 zeroValue336,
 underlying182,
 isAgg182,
 sizeOf182,
 zeroValue182⟩
namespace Pk
set_option maxHeartbeats 1000000 in
theorem js5(x y:Ty.den ((.pair (.int .i64) (.int .i64))))(w:World)(_:j5O ((.pair (.int .i64) (.int .i64))) x=l)(_:j5O ((.pair (.int .i64) (.int .i64))) y=l) :
  Calls Tryz.prog 187 #[.agg (encT ((.pair (.int .i64) (.int .i64))) x).toArray,.agg (encT ((.pair (.int .i64) (.int .i64))) y).toArray] w λe w'=>e = .returned (.int .i64 ((Pw.j8F x y).getD 0))/\∃q os',w'=grow (w.drewN q) os':=by
 change Calls Tryz.prog 187 #[.agg #[.int .i64 x.1,.int .i64 x.2],.agg #[.int .i64 y.1,.int .i64 y.2]] w λe w'=>e = .returned (.int .i64 (w64 (x.1-y.1)))/\∃q os',w'=grow (w.drewN q) os'
 go_enter func187,ntmps187
 go_wp2
 go_ret
 refine⟨?_,0,_,by rw[alloc_eq_grow,alloc_eq_grow,grow_grow];rfl⟩;rw[show w64 (x.1-y.1)=i (x.1-y.1) from d _];rfl
theorem js6:SWO (ltOf λ(x y:Sml ((.pair (.int .i64) (.int .i64))))=>(Pw.j8F x.1 y.1).getD 0):=by
 refine joT (λx=>x.1.1) (λx=>?_) _ λx y=>rfl;have:=x.2;simp only[j5O,j,decide_eq_true_eq]at this;first|exact this|exact this.1|exact this.2|exact this.1.1|exact this.1.2|exact this.2.1|exact this.2.2|exact this.2.1.1|exact this.2.2.1
set_option maxHeartbeats 1000000 in
theorem js7(x y:Ty.den ((.pair (.int .i64) (.pair (.int .i64) (.int .i64)))))(w:World)(_:j5O ((.pair (.int .i64) (.pair (.int .i64) (.int .i64)))) x=l)(_:j5O ((.pair (.int .i64) (.pair (.int .i64) (.int .i64)))) y=l) :
  Calls Tryz.prog 174 #[.agg (encT ((.pair (.int .i64) (.pair (.int .i64) (.int .i64)))) x).toArray,.agg (encT ((.pair (.int .i64) (.pair (.int .i64) (.int .i64)))) y).toArray] w λe w'=>e = .returned (.int .i64 ((Pw.j42 x y).getD 0))/\∃q os',w'=grow (w.drewN q) os':=by
 change Calls Tryz.prog 174 #[.agg #[.int .i64 x.1,.int .i64 x.2.1,.int .i64 x.2.2],.agg #[.int .i64 y.1,.int .i64 y.2.1,.int .i64 y.2.2]] w λe w'=>e = .returned (.int .i64 (w64 (x.1-y.1)))/\∃q os',w'=grow (w.drewN q) os'
 go_enter func174,ntmps174
 go_wp2
 go_ret
 refine⟨?_,0,_,by rw[alloc_eq_grow,alloc_eq_grow,grow_grow];rfl⟩;rw[show w64 (x.1-y.1)=i (x.1-y.1) from d _];rfl
theorem js8:SWO (ltOf λ(x y:Sml ((.pair (.int .i64) (.pair (.int .i64) (.int .i64)))))=>(Pw.j42 x.1 y.1).getD 0):=by
 refine joT (λx=>x.1.1) (λx=>?_) _ λx y=>rfl;have:=x.2;simp only[j5O,j,decide_eq_true_eq]at this;first|exact this|exact this.1|exact this.2|exact this.1.1|exact this.1.2|exact this.2.1|exact this.2.2|exact this.2.1.1|exact this.2.2.1
theorem jC0{α:Type}(k1 k2 k3:α->Int)(h1:∀x, -1152921504606846976<=k1 x/\k1 x<=1152921504606846976)(h2:∀x, -1152921504606846976<=k2 x/\k2 x<=1152921504606846976)(h3:∀x, -1152921504606846976<=k3 x/\k3 x<=1152921504606846976)
  (cf:α->α->Int)(h:∀x y,cf x y=(cond (k1 x != k1 y) (k (w64 (k1 x-k1 y))) (cond (k2 x != k2 y) (k (w64 (k2 x-k2 y))) (k (w64 (k3 x-k3 y))))).getD 0):SWO (ltOf cf):=by
 have e:∀x y,ltOf cf x y=decide (k1 x<k1 y\/k1 x=k1 y/\(k2 x<k2 y\/k2 x=k2 y/\k3 x<k3 y)):=by
  intro x y;have a1:=h1 x;have a2:=h1 y;have b1:=h2 x;have b2:=h2 y;have c1:=h3 x;have c2:=h3 y;simp only[ltOf,h];by_cases q1:k1 x=k1 y
  .rw[show (k1 x != k1 y)=p by simp[q1],j7];by_cases q2:k2 x=k2 y
   .rw[show (k2 x != k2 y)=p by simp[q2],j7,b,j24 (by omega) (by omega)];exact decide_eq_decide.2 (by omega)
   .rw[show (k2 x != k2 y)=l by simp[q2],j6,b,j24 (by omega) (by omega)];exact decide_eq_decide.2 (by omega)
  .rw[show (k1 x != k1 y)=l by simp[q1],j6,b,j24 (by omega) (by omega)];exact decide_eq_decide.2 (by omega)
 refine⟨λx=>?_,λx y z=>?_,λx y z=>?_⟩
 .rw[e];simp
 .rw[e,e,e];simp only[decide_eq_true_eq];omega
 .rw[e,e,e];simp only[decide_eq_false_iff_not];omega
set_option maxHeartbeats 1000000 in
theorem juT(x y:Ty.den ((.pair (.int .i64) (.pair (.int .i64) (.int .i64)))))(w:World)(_:j5O ((.pair (.int .i64) (.pair (.int .i64) (.int .i64)))) x=l)(_:j5O ((.pair (.int .i64) (.pair (.int .i64) (.int .i64)))) y=l) :
  Calls Tryz.prog 95 #[.agg (encT ((.pair (.int .i64) (.pair (.int .i64) (.int .i64)))) x).toArray,.agg (encT ((.pair (.int .i64) (.pair (.int .i64) (.int .i64)))) y).toArray] w λe w'=>e = .returned (.int .i64 ((Pw.j5n x y).getD 0))/\∃q os',w'=grow (w.drewN q) os':=by
 change Calls Tryz.prog 95 #[.agg #[.int .i64 x.1,.int .i64 x.2.1,.int .i64 x.2.2],.agg #[.int .i64 y.1,.int .i64 y.2.1,.int .i64 y.2.2]] w λe w'=>e = .returned (.int .i64 ((cond (x.2.2 != y.2.2) (k (w64 (x.2.2-y.2.2))) (cond (x.1 != y.1) (k (w64 (x.1-y.1))) (k (w64 (x.2.1-y.2.1))))).getD 0))/\∃q os',w'=grow (w.drewN q) os'
 generalize x.2.2=x1 at *
 generalize x.1=x2 at *
 generalize x.2.1=x3 at *
 generalize y.2.2=y1 at *
 generalize y.1=y2 at *
 generalize y.2.1=y3 at *
 by_cases q1:x1=y1
 .subst q1;by_cases q2:x2=y2
  .subst q2;simp only[bne_self_eq_false,j7,b]
   go_enter func95,ntmps95
   go_wp2
   go_ret
   refine⟨?_,0,_,by rw[alloc_eq_grow,alloc_eq_grow,grow_grow];rfl⟩;rw[show w64 (x3-y3)=i (x3-y3) from d _];rfl
  .have q3:(x2 != y2)=true:=by simp[q2]
   rw[q3];simp only[bne_self_eq_false,j7,j6,b]
   go_enter func95,ntmps95
   go_wp2
   all_goals first
    |exact absurd (q3.symm.trans ‹(x2 != y2)=p›) (by decide)
    |(
     go_ret
     refine⟨?_,0,_,by rw[alloc_eq_grow,alloc_eq_grow,grow_grow];rfl⟩;rw[show w64 (x2-y2)=i (x2-y2) from d _];rfl)
 .have q3:(x1 != y1)=true:=by simp[q1]
  rw[q3];simp only[j6,b]
  go_enter func95,ntmps95
  go_wp2
  all_goals first
   |exact absurd (q3.symm.trans ‹(x1 != y1)=p›) (by decide)
   |(
    go_ret
    refine⟨?_,0,_,by rw[alloc_eq_grow,alloc_eq_grow,grow_grow];rfl⟩;rw[show w64 (x1-y1)=i (x1-y1) from d _];rfl)
theorem juU:SWO (ltOf λ(x y:Sml ((.pair (.int .i64) (.pair (.int .i64) (.int .i64)))))=>(Pw.j5n x.1 y.1).getD 0):=by
 have key:∀x:Sml ((.pair (.int .i64) (.pair (.int .i64) (.int .i64)))),(-1152921504606846976<=(x.1.1:Int)/\(x.1.1:Int)<=1152921504606846976)/\(-1152921504606846976<=(x.1.2.1:Int)/\(x.1.2.1:Int)<=1152921504606846976)/\(-1152921504606846976<=(x.1.2.2:Int)/\(x.1.2.2:Int)<=1152921504606846976):=λx=>by
  have:=x.2;simp only[j5O,j,decide_eq_true_eq]at this;exact this
 exact jC0 (λx=>x.1.2.2) (λx=>x.1.1) (λx=>x.1.2.1) (λx=>by first|exact(key x).1|exact(key x).2.1|exact(key x).2.2) (λx=>by first|exact(key x).1|exact(key x).2.1|exact(key x).2.2)
  (λx=>by first|exact(key x).1|exact(key x).2.1|exact(key x).2.2) _ λx y=>rfl
end Pk
end Go.Proofs
