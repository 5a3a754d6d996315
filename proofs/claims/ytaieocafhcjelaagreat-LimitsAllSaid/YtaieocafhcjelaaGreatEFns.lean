/- Plain nY, printed by a program out of the given code. -/
import Derived.Test.YtaieocafhcjelaaGreatELS
open Go Go.Lft
set_option linter.unusedVariables false
namespace Go.Proofs.Pw
noncomputable section
abbrev ag:Type:=(List (Int×Int))
abbrev nZ:Type:=(Int×(List Int))
abbrev xK:Type:=(Int×(Int×Int))
abbrev aa:Type:=(List xK)
abbrev ea:Type:=(Int×ag)
abbrev qJ:Type:=(ByteArray×nZ)
abbrev fH:Type:=(List aa)
abbrev bS:Type:=(List ea)
abbrev n4:Type:=(Int×(Int×xK))
abbrev aA:Type:=(List qJ)
abbrev af:Type:=(List n4)
abbrev xL:Type:=(Int×(Int×n4))
abbrev ct:Type:=(List xL)
abbrev Ds:Type:=(ByteArray×(Int×(ag×(Int×(Int×Bool)))))
abbrev ax:Type:=(List Ds)
abbrev kO:Type:=(ByteArray×(Int×ct))
abbrev au:Type:=(List kO)
abbrev ir:Type:=(ByteArray×(Int×((Int×Int)×(Int×(Int×((List Int)×(ag×(Int×Int))))))))
abbrev bc:Type:=(List ir)
abbrev kP:Type:=(ByteArray×(bc×af))
abbrev aB:Type:=(List kP)
abbrev dS:Type:=(au×(ax×(aA×aB)))
abbrev iu:Type:=(dS×bS)
abbrev unc2{A0 A1 R:Type}(f:A0->A1->R)(h:A0×A1):R:=f h.1 h.2
abbrev unc3{A0 A1 A2 R:Type}(f:A0->A1->A2->R)(h:A0×A1×A2):R:=f h.1 h.2.1 h.2.2
abbrev unc4{A0 A1 A2 A3 R:Type}(f:A0->A1->A2->A3->R)(h:A0×A1×A2×A3):R:=f h.1 h.2.1 h.2.2.1 h.2.2.2
abbrev unc5{A0 A1 A2 A3 A4 R:Type}(f:A0->A1->A2->A3->A4->R)(h:A0×A1×A2×A3×A4):R:=f h.1 h.2.1 h.2.2.1 h.2.2.2.1 h.2.2.2.2
abbrev unc6{A0 A1 A2 A3 A4 A5 R:Type}(f:A0->A1->A2->A3->A4->A5->R)(h:A0×A1×A2×A3×A4×A5):R:=f h.1 h.2.1 h.2.2.1 h.2.2.2.1 h.2.2.2.2.1 h.2.2.2.2.2
abbrev unc7{A0 A1 A2 A3 A4 A5 A6 R:Type}(f:A0->A1->A2->A3->A4->A5->A6->R)(h:A0×A1×A2×A3×A4×A5×A6):R:=f h.1 h.2.1 h.2.2.1 h.2.2.2.1 h.2.2.2.2.1 h.2.2.2.2.2.1 h.2.2.2.2.2.2
abbrev unc8{A0 A1 A2 A3 A4 A5 A6 A7 R:Type}(f:A0->A1->A2->A3->A4->A5->A6->A7->R)(h:A0×A1×A2×A3×A4×A5×A6×A7):R:=f h.1 h.2.1 h.2.2.1 h.2.2.2.1 h.2.2.2.2.1 h.2.2.2.2.2.1 h.2.2.2.2.2.2.1 h.2.2.2.2.2.2.2
abbrev unc9{A0 A1 A2 A3 A4 A5 A6 A7 A8 R:Type}(f:A0->A1->A2->A3->A4->A5->A6->A7->A8->R)(h:A0×A1×A2×A3×A4×A5×A6×A7×A8):R:=f h.1 h.2.1 h.2.2.1 h.2.2.2.1 h.2.2.2.2.1 h.2.2.2.2.2.1 h.2.2.2.2.2.2.1 h.2.2.2.2.2.2.2.1 h.2.2.2.2.2.2.2.2
abbrev jtG{A0 A1 A2 A3 A4 A5 A6 A7 A8 A9 R:Type}(f:A0->A1->A2->A3->A4->A5->A6->A7->A8->A9->R)(h:A0×A1×A2×A3×A4×A5×A6×A7×A8×A9):R:=f h.1 h.2.1 h.2.2.1 h.2.2.2.1 h.2.2.2.2.1 h.2.2.2.2.2.1 h.2.2.2.2.2.2.1 h.2.2.2.2.2.2.2.1 h.2.2.2.2.2.2.2.2.1 h.2.2.2.2.2.2.2.2.2
abbrev jtH{A0 A1 A2 A3 A4 A5 A6 A7 A8 A9 gV R:Type}(f:A0->A1->A2->A3->A4->A5->A6->A7->A8->A9->gV->R)(h:A0×A1×A2×A3×A4×A5×A6×A7×A8×A9×gV):R:=f h.1 h.2.1 h.2.2.1 h.2.2.2.1 h.2.2.2.2.1 h.2.2.2.2.2.1 h.2.2.2.2.2.2.1 h.2.2.2.2.2.2.2.1 h.2.2.2.2.2.2.2.2.1 h.2.2.2.2.2.2.2.2.2.1 h.2.2.2.2.2.2.2.2.2.2
abbrev jtI{A0 A1 A2 A3 A4 A5 A6 A7 A8 A9 gV iO R:Type}(f:A0->A1->A2->A3->A4->A5->A6->A7->A8->A9->gV->iO->R)(h:A0×A1×A2×A3×A4×A5×A6×A7×A8×A9×gV×iO):R:=f h.1 h.2.1 h.2.2.1 h.2.2.2.1 h.2.2.2.2.1 h.2.2.2.2.2.1 h.2.2.2.2.2.2.1 h.2.2.2.2.2.2.2.1 h.2.2.2.2.2.2.2.2.1 h.2.2.2.2.2.2.2.2.2.1 h.2.2.2.2.2.2.2.2.2.2.1 h.2.2.2.2.2.2.2.2.2.2.2
abbrev jx4{A0 A1 A2 A3 A4 A5 A6 A7 A8 A9 gV iO kQ R:Type}(f:A0->A1->A2->A3->A4->A5->A6->A7->A8->A9->gV->iO->kQ->R)(h:A0×A1×A2×A3×A4×A5×A6×A7×A8×A9×gV×iO×kQ):R:=f h.1 h.2.1 h.2.2.1 h.2.2.2.1 h.2.2.2.2.1 h.2.2.2.2.2.1 h.2.2.2.2.2.2.1 h.2.2.2.2.2.2.2.1 h.2.2.2.2.2.2.2.2.1 h.2.2.2.2.2.2.2.2.2.1 h.2.2.2.2.2.2.2.2.2.2.1 h.2.2.2.2.2.2.2.2.2.2.2.1 h.2.2.2.2.2.2.2.2.2.2.2.2
abbrev jmL{A0 A1 A2 A3 A4 A5 A6 A7 A8 A9 gV iO kQ ni R:Type}(f:A0->A1->A2->A3->A4->A5->A6->A7->A8->A9->gV->iO->kQ->ni->R)(h:A0×A1×A2×A3×A4×A5×A6×A7×A8×A9×gV×iO×kQ×ni):R:=f h.1 h.2.1 h.2.2.1 h.2.2.2.1 h.2.2.2.2.1 h.2.2.2.2.2.1 h.2.2.2.2.2.2.1 h.2.2.2.2.2.2.2.1 h.2.2.2.2.2.2.2.2.1 h.2.2.2.2.2.2.2.2.2.1 h.2.2.2.2.2.2.2.2.2.2.1 h.2.2.2.2.2.2.2.2.2.2.2.1 h.2.2.2.2.2.2.2.2.2.2.2.2.1 h.2.2.2.2.2.2.2.2.2.2.2.2.2
abbrev jAa{A0 A1 A2 A3 A4 A5 A6 A7 A8 A9 gV iO kQ ni qK qL R:Type}(f:A0->A1->A2->A3->A4->A5->A6->A7->A8->A9->gV->iO->kQ->ni->qK->qL->R)(h:A0×A1×A2×A3×A4×A5×A6×A7×A8×A9×gV×iO×kQ×ni×qK×qL):R:=f h.1 h.2.1 h.2.2.1 h.2.2.2.1 h.2.2.2.2.1 h.2.2.2.2.2.1 h.2.2.2.2.2.2.1 h.2.2.2.2.2.2.2.1 h.2.2.2.2.2.2.2.2.1 h.2.2.2.2.2.2.2.2.2.1 h.2.2.2.2.2.2.2.2.2.2.1 h.2.2.2.2.2.2.2.2.2.2.2.1 h.2.2.2.2.2.2.2.2.2.2.2.2.1 h.2.2.2.2.2.2.2.2.2.2.2.2.2.1 h.2.2.2.2.2.2.2.2.2.2.2.2.2.2.1 h.2.2.2.2.2.2.2.2.2.2.2.2.2.2.2
abbrev jAb{A0 A1 A2 A3 A4 A5 A6 A7 A8 A9 gV iO kQ ni qK qL vF vG vH vI R:Type}(f:A0->A1->A2->A3->A4->A5->A6->A7->A8->A9->gV->iO->kQ->ni->qK->qL->vF->vG->vH->vI->R)(h:A0×A1×A2×A3×A4×A5×A6×A7×A8×A9×gV×iO×kQ×ni×qK×qL×vF×vG×vH×vI):R:=f h.1 h.2.1 h.2.2.1 h.2.2.2.1 h.2.2.2.2.1 h.2.2.2.2.2.1 h.2.2.2.2.2.2.1 h.2.2.2.2.2.2.2.1 h.2.2.2.2.2.2.2.2.1 h.2.2.2.2.2.2.2.2.2.1 h.2.2.2.2.2.2.2.2.2.2.1 h.2.2.2.2.2.2.2.2.2.2.2.1 h.2.2.2.2.2.2.2.2.2.2.2.2.1 h.2.2.2.2.2.2.2.2.2.2.2.2.2.1 h.2.2.2.2.2.2.2.2.2.2.2.2.2.2.1 h.2.2.2.2.2.2.2.2.2.2.2.2.2.2.2.1 h.2.2.2.2.2.2.2.2.2.2.2.2.2.2.2.2.1 h.2.2.2.2.2.2.2.2.2.2.2.2.2.2.2.2.2.1 h.2.2.2.2.2.2.2.2.2.2.2.2.2.2.2.2.2.2.1 h.2.2.2.2.2.2.2.2.2.2.2.2.2.2.2.2.2.2.2
abbrev jAc{A0 A1 A2 A3 A4 A5 A6 A7 A8 A9 gV iO kQ ni qK qL vF vG vH vI Dt Du R:Type}(f:A0->A1->A2->A3->A4->A5->A6->A7->A8->A9->gV->iO->kQ->ni->qK->qL->vF->vG->vH->vI->Dt->Du->R)(h:A0×A1×A2×A3×A4×A5×A6×A7×A8×A9×gV×iO×kQ×ni×qK×qL×vF×vG×vH×vI×Dt×Du):R:=f h.1 h.2.1 h.2.2.1 h.2.2.2.1 h.2.2.2.2.1 h.2.2.2.2.2.1 h.2.2.2.2.2.2.1 h.2.2.2.2.2.2.2.1 h.2.2.2.2.2.2.2.2.1 h.2.2.2.2.2.2.2.2.2.1 h.2.2.2.2.2.2.2.2.2.2.1 h.2.2.2.2.2.2.2.2.2.2.2.1 h.2.2.2.2.2.2.2.2.2.2.2.2.1 h.2.2.2.2.2.2.2.2.2.2.2.2.2.1 h.2.2.2.2.2.2.2.2.2.2.2.2.2.2.1 h.2.2.2.2.2.2.2.2.2.2.2.2.2.2.2.1 h.2.2.2.2.2.2.2.2.2.2.2.2.2.2.2.2.1 h.2.2.2.2.2.2.2.2.2.2.2.2.2.2.2.2.2.1 h.2.2.2.2.2.2.2.2.2.2.2.2.2.2.2.2.2.2.1 h.2.2.2.2.2.2.2.2.2.2.2.2.2.2.2.2.2.2.2.1 h.2.2.2.2.2.2.2.2.2.2.2.2.2.2.2.2.2.2.2.2.1 h.2.2.2.2.2.2.2.2.2.2.2.2.2.2.2.2.2.2.2.2.2
abbrev jAd{A0 A1 A2 A3 A4 A5 A6 A7 A8 A9 gV iO kQ ni qK qL vF vG vH vI Dt Du RS RT R:Type}(f:A0->A1->A2->A3->A4->A5->A6->A7->A8->A9->gV->iO->kQ->ni->qK->qL->vF->vG->vH->vI->Dt->Du->RS->RT->R)(h:A0×A1×A2×A3×A4×A5×A6×A7×A8×A9×gV×iO×kQ×ni×qK×qL×vF×vG×vH×vI×Dt×Du×RS×RT):R:=f h.1 h.2.1 h.2.2.1 h.2.2.2.1 h.2.2.2.2.1 h.2.2.2.2.2.1 h.2.2.2.2.2.2.1 h.2.2.2.2.2.2.2.1 h.2.2.2.2.2.2.2.2.1 h.2.2.2.2.2.2.2.2.2.1 h.2.2.2.2.2.2.2.2.2.2.1 h.2.2.2.2.2.2.2.2.2.2.2.1 h.2.2.2.2.2.2.2.2.2.2.2.2.1 h.2.2.2.2.2.2.2.2.2.2.2.2.2.1 h.2.2.2.2.2.2.2.2.2.2.2.2.2.2.1 h.2.2.2.2.2.2.2.2.2.2.2.2.2.2.2.1 h.2.2.2.2.2.2.2.2.2.2.2.2.2.2.2.2.1 h.2.2.2.2.2.2.2.2.2.2.2.2.2.2.2.2.2.1 h.2.2.2.2.2.2.2.2.2.2.2.2.2.2.2.2.2.2.1 h.2.2.2.2.2.2.2.2.2.2.2.2.2.2.2.2.2.2.2.1 h.2.2.2.2.2.2.2.2.2.2.2.2.2.2.2.2.2.2.2.2.1 h.2.2.2.2.2.2.2.2.2.2.2.2.2.2.2.2.2.2.2.2.2.1 h.2.2.2.2.2.2.2.2.2.2.2.2.2.2.2.2.2.2.2.2.2.2.1 h.2.2.2.2.2.2.2.2.2.2.2.2.2.2.2.2.2.2.2.2.2.2.2
def jjQ(a:(List Int)):Option (Bool):=
 let b:=(Int.ofNat (List.length a))
 some (decide (b<=500))
def jlW(c b:Int)(a:Bool):Option (au×ax×aA×aB):=
 let j:au:=[((ByteArray.mk #[122]),(0,([]:ct)))]
 let i:ag:=[(432000,435600)]
 let d:ax:=[((ByteArray.mk #[97]),(0,(i,(c,(b,a)))))]
 let g:(List Int):=[0]
 let e:bc:=[((ByteArray.mk #[108]),(0,((1,0),(1,(1,(g,(([]:ag),(0,0))))))))]
 let f:aB:=[((ByteArray.mk #[115]),(e,([]:af)))]
 some (j,d,([]:aA),f)
def jbV(a:kO):Option (ByteArray):=
 some a.1
def jhR(a:Int):Option (Bool):=
 some (cond (decide (a>=97)) (decide (a<=122)) false)
def jlX(a:Int):Option (Bool):=
 some (cond (decide (a>=48)) (decide (a<=57)) false)
def jdO(d:ByteArray)(c b:Int):Option ((ByteArray×Int×Int) ⊕ (Bool ⊕ Unit)):=
 cond (decide (b<c)) (
 cond (inR b (ByteArray.size d)) (
 let a:=(BB d b)
 (jhR a).bind λg=>
 cond (!g) (
 (jlX a).bind λf=>
 cond (cond (cond (!f) (a != 95) false) (a != 45) false) (
 some (.inr (.inl false))) (
 let i:=(w64 (b+1))
 some (.inl (d,c,i)))) (
 let e:=(w64 (b+1))
 some (.inl (d,c,e)))) none) (
 some (.inr (.inr ())))
def Kl[LP](c:ByteArray)(a b:Int):Option (Bool ⊕ Unit):=
 LP.lp (unc3 (jdO)) (c,a,b)
def j9Q[LP](a:ByteArray):Option (Bool):=
 let f:=(Int.ofNat (ByteArray.size a))
 let b:Bool:=(cond (ByteArray.toList a==ByteArray.toList ByteArray.empty) true (decide (f>24)))
 cond ((inR 0 (ByteArray.size a)) || !(!b)) (
 let e:=(BB a 0)
 cond b (
 some false) (
 (jhR e).bind λc=>
 cond (!c) (
 some false) (
 let d:=(Int.ofNat (ByteArray.size a))
 (Kl a d 0).bind λg=>
 sumC g (λi=>
 some i) (λj=>
 some true)))) none
def j4D[LP](b:ByteArray)(a:(List (ByteArray×Bool))):Option (Int×(List (ByteArray×Bool))):=
 (j9Q b).bind λd=>
 cond (!d) (
 some (2,a)) (
 cond (gw false a b) (
 some (4,a)) (
 let c:(List (ByteArray×Bool)):=(gY a b true)
 some (0,c)))
def jbW(a c b:Int):Option (Bool):=
 some (cond (decide (a>=c)) (decide (a<=b)) false)
def jgx(a:xL):Option (Int):=
 (jbW a.1 1970 2240).bind λi=>
 cond (!i) (
 some 1) (
 (jbW a.2.1 a.1 2240).bind λe=>
 cond (!e) (
 some 1) (
 (jbW a.2.2.1 1 12).bind λd=>
 cond (!d) (
 some 1) (
 (jbW a.2.2.2.1 1 5).bind λg=>
 cond (!g) (
 some 1) (
 (jbW a.2.2.2.2.1 0 6).bind λb=>
 cond (!b) (
 some 1) (
 (jbW a.2.2.2.2.2.1 0 86399).bind λf=>
 cond (!f) (
 some 1) (
 (jbW a.2.2.2.2.2.2 (-64800) 64800).bind λc=>
 cond (!c) (
 some 1) (
 some 0)))))))
def jjR(a:Int):Option (Bool):=
 let c:=(Int.tmod a 4)
 let d:=(Int.tmod a 100)
 let b:=(Int.tmod a 400)
 some (cond (c==0) (cond (d != 0) true (b==0)) false)
def j8u(c a:Int):Option (Int):=
 cond (cond (decide (a<1)) true (decide (a>12))) (
 some 0) (
 let e:(List Int):=[31,28,31,30,31,30,31,31,30,31,30,31]
 let j:(List Int):=(List.replicate 12 0)
 cond (a==2) (
 (jjR c).bind λg=>
 cond g (
 some 29) (
 let f:=(w64 (a-1))
 cond (inR f 12) (
 let i:=(List.getD e (Int.toNat f) 0)
 some i) none)) (
 let b:=(w64 (a-1))
 cond (inR b 12) (
 let d:=(List.getD e (Int.toNat b) 0)
 some d) none))
def jcN(a:xK):Option (Bool):=
 cond (decide (a.1>=1970)) (
 cond (decide (a.1<=2240)) (
 cond (decide (a.2.2>=1)) (
 (j8u a.1 a.2.1).bind λb=>
 some (decide (a.2.2<=b))) (
 some false)) (
 some false)) (
 some false)
def j9C(b a:Int):Option (Int):=
 cond (!(a==0)) (
 let d:=(w64 (Int.tdiv b a))
 cond (!(a==0)) (
 let c:=(Int.tmod b a)
 cond (decide (c<0)) (
 let e:=(w64 (d-1))
 some e) (
 some d)) none) none
def j6t(a:Int):Option (Int):=
 let b:=(w64 (a-1))
 let k:=(w64 (a-1970))
 let l:=(w64 (365*k))
 (j9C b 4).bind λi=>
 let e:=(w64 (l+i))
 (j9C b 100).bind λj=>
 let f:=(w64 (e-j))
 (j9C b 400).bind λc=>
 let d:=(w64 (f+c))
 let g:=(w64 (d-477))
 some g
def j58(g e i a f:Int):Option ((Int×Int×Int×Int×Int) ⊕ (Int)):=
 cond (decide (e<a)) (
 (j8u i e).bind λc=>
 let b:=(w64 (g+c))
 let d:=(w64 (e+1))
 some (.inl (b,d,i,a,f))) (
 some (.inr g))
def Ar[LP](c d e a b:Int):Option (Int):=
 LP.lp (unc5 (j58)) (c,d,e,a,b)
theorem RU(c d e a b):Ar c d e a b=lpK (j58 c d e a b) (λh=>Ar h.1 h.2.1 h.2.2.1 h.2.2.2.1 h.2.2.2.2):=bk _ _
def j84[LP](a:xK):Option (Int):=
 (j6t a.1).bind λd=>
 let b:=(w64 (d+a.2.2))
 let c:=(w64 (b-1))
 (Ar c 1 a.1 a.2.1 a.2.2).bind λe=>
 some e
def j8v(a:Int):Option (Int):=
 let d:=(Int.tmod a 7)
 let c:=(w64 (d+10))
 let b:=(Int.tmod c 7)
 some b
def jcO[LP](d b c a:Int):Option (Int×Int):=
 (jcN (d,(b,1))).bind λq=>
 let p:Bool:=(cond (cond (!q) true (decide (c<1))) true (decide (c>5)))
 let i:Bool:=(cond (cond p true (decide (a<0))) true (decide (a>6)))
 cond i (
 some (0,1)) (
 (j84 (d,(b,1))).bind λf=>
 (j8v f).bind λm=>
 let s:=(w64 (a-m))
 let t:=(w64 (s+7))
 let r:=(Int.tmod t 7)
 let n:=(w64 (f+r))
 let j:=(w64 (c-1))
 let k:=(w64 (7*j))
 let e:=(w64 (n+k))
 (j8u d b).bind λl=>
 let g:=(w64 (f+l))
 cond (decide (e>=g)) (
 let o:=(w64 (e-7))
 some (o,0)) (
 some (e,0)))
def j9D(a b:(Int×Int)):Option (Int):=
 let c:=(w64 (a.1-b.1))
 some c
def j0E(o q p b:Int)(a:ag):Option ((Int×Int×Int×Int×ag) ⊕ ((Int×Int×Int×ag))):=
 cond (decide (b>o)) (
 cond (inR b (List.length a)) (
 let c:=(List.getD a (Int.toNat b) (0,0))
 let i:=(w64 (b-1))
 cond (inR i (List.length a)) (
 let e:=(List.getD a (Int.toNat i) (0,0))
 (j9D (c.1,c.2) (e.1,e.2)).bind λm=>
 cond (decide (m<0)) (
 let d:=(w64 (b-1))
 let k:=(w64 (b-1))
 cond (inR k (List.length a)) (
 let g:=(List.getD a (Int.toNat k) (0,0))
 cond (inR b (List.length a)) (
 let f:=(List.getD a (Int.toNat b) (0,0))
 cond (inR b (List.length a)) (
 let j:ag:=(List.set a (Int.toNat b) (g.1,g.2))
 cond (inR d (List.length j)) (
 let n:ag:=(List.set j (Int.toNat d) (f.1,f.2))
 let l:=(w64 (b-1))
 some (.inl (o,q,p,l,n))) none) none) none) none) (
 some (.inr (o,q,p,a)))) none) none) (
 some (.inr (o,q,p,a)))
def As[LP](c b a e:Int)(d:ag):Option ((Int×Int×Int×ag)):=
 LP.lp (unc5 (j0E)) (c,b,a,e,d)
theorem RW(c b a e d):As c b a e d=lpK (j0E c b a e d) (λh=>As h.1 h.2.1 h.2.2.1 h.2.2.2.1 h.2.2.2.2):=bk _ _
def j0c[LP](f d c:Int)(e:ag):Option ((Int×Int×Int×ag) ⊕ (ag)):=
 cond (decide (c<d)) (
 (As f d c c e).bind λa=>
 let b:=(w64 (a.2.2.1+1))
 some (.inl (a.1,a.2.1,b,a.2.2.2))) (
 some (.inr e))
def Au[LP](b a d:Int)(c:ag):Option (ag):=
 LP.lp (unc4 (j0c)) (b,a,d,c)
theorem Km(c b a d):Au c b a d=lpK (j0c c b a d) (λh=>Au h.1 h.2.1 h.2.2.1 h.2.2.2):=bk _ _
def j0k[LP](a:ag)(b c:Int):Option (ag):=
 let d:=(w64 (b+1))
 (Au b c d a).bind λe=>
 some e
def j0s[LP](e d f a:Int)(g:ag):Option ((Int×Int×Int×Int×ag) ⊕ ((Int×Int×Int×ag))):=
 cond (decide (a<=e)) (
 (j0k g f a).bind λc=>
 let b:=(w64 (a+d))
 some (.inl (e,d,a,b,c))) (
 some (.inr (e,d,f,g)))
def Av[LP](d b a c:Int)(e:ag):Option ((Int×Int×Int×ag)):=
 LP.lp (unc5 (j0s)) (d,b,a,c,e)
theorem j7r(d b a c e):Av d b a c e=lpK (j0s d b a c e) (λh=>Av h.1 h.2.1 h.2.2.1 h.2.2.2.1 h.2.2.2.2):=bk _ _
def j3X(c b a e:Int)(f:ag):Option ((Int×Int×Int×Int×ag) ⊕ ((Int×Int×Int×ag))):=
 cond (decide (e<=c)) (
 let d:=(w64 (a+b))
 none) (
 some (.inr (c,b,a,f)))
def Kn[LP](d b a c:Int)(e:ag):Option ((Int×Int×Int×ag)):=
 LP.lp (unc5 (j3X)) (d,b,a,c,e)
def j0t[LP](f e:Int)(g:ag):Option ((Int×Int×ag) ⊕ (ag)):=
 cond (decide (e<f)) (
 let c:=(w64 (2*e))
 (Kn f e 0 c g).bind λa=>
 let b:=(w64 (a.2.2.1+a.2.1))
 cond (decide (b<a.1)) (
 none) (
 let d:=(w64 (a.2.1*2))
 some (.inl (a.1,d,a.2.2.2)))) (
 some (.inr g))
def Aw[LP](a b:Int)(c:ag):Option (ag):=
 LP.lp (unc3 (j0t)) (a,b,c)
theorem j7s(a b c):Aw a b c=lpK (j0t a b c) (λh=>Aw h.1 h.2.1 h.2.2):=bk _ _
def j1j[LP](a:ag)(c:Int):Option (ag):=
 (Av c 20 0 20 a).bind λb=>
 (j0k b.2.2.2 b.2.2.1 b.1).bind λd=>
 (Aw b.1 b.2.1 d).bind λe=>
 some e
def j0h[LP](a:ag):Option (ag):=
 let c:=(Int.ofNat (List.length a))
 (j1j a c).bind λb=>
 some b
def j3L(m:Int)(d:ct)(l c:Int)(n:ByteArray)(e:Int)(f:ct):Option ((Int×ct×Int×Int×ByteArray×Int×ct) ⊕ (Int ⊕ (Int×ByteArray×Int×ct))):=
 cond (decide (c<l)) (
 cond (inR c (List.length d)) (
 let a:=(List.getD d (Int.toNat c) (0,(0,(0,(0,(0,(0,0)))))))
 (jgx (a.1,(a.2.1,(a.2.2.1,(a.2.2.2.1,(a.2.2.2.2.1,(a.2.2.2.2.2.1,a.2.2.2.2.2.2))))))).bind λb=>
 cond (b != 0) (
 some (.inr (.inl b))) (
 let k:=(w64 (a.2.1-a.1))
 let j:=(w64 (k+1))
 let g:=(w64 (m+j))
 let i:=(w64 (c+1))
 some (.inl (g,d,l,i,n,e,f)))) none) (
 some (.inr (.inr (m,n,e,f))))
def xM[LP](f:Int)(d:ct)(c e:Int)(g:ByteArray)(a:Int)(b:ct):Option (Int ⊕ (Int×ByteArray×Int×ct)):=
 LP.lp (unc7 (j3L)) (f,d,c,e,g,a,b)
theorem RX(f d c e g a b):xM f d c e g a b=lpK (j3L f d c e g a b) (λh=>xM h.1 h.2.1 h.2.2.1 h.2.2.2.1 h.2.2.2.2.1 h.2.2.2.2.2.1 h.2.2.2.2.2.2):=bk _ _
def j1G[LP](i:Int)(q:ct)(o p s f b c a e d:Int)(r:ag):Option ((Int×ct×Int×Int×Int×Int×Int×Int×Int×Int×Int×ag) ⊕ ((ct×Int×Int×ag))):=
 cond (decide (i<=f)) (
 (jcO i b c a).bind λm=>
 let k:=(w64 (m.1*86400))
 let l:=(w64 (k+e))
 let g:ag:=[(l,d)]
 cond (decide (List.length r+List.length g<=aR)) (
 let n:ag:=(r++g)
 let j:=(w64 (i+1))
 some (.inl (j,q,o,p,s,f,b,c,a,e,d,n))) none) (
 some (.inr (q,o,p,r)))
def Ax[LP](j:Int)(l:ct)(g k i f b c a e d:Int)(m:ag):Option ((ct×Int×Int×ag)):=
 LP.lp (jtI (j1G)) (j,l,g,k,i,f,b,c,a,e,d,m)
theorem RY(j l g k i f b c a e d m):Ax j l g k i f b c a e d m=lpK (j1G j l g k i f b c a e d m) (λh=>Ax h.1 h.2.1 h.2.2.1 h.2.2.2.1 h.2.2.2.2.1 h.2.2.2.2.2.1 h.2.2.2.2.2.2.1 h.2.2.2.2.2.2.2.1 h.2.2.2.2.2.2.2.2.1 h.2.2.2.2.2.2.2.2.2.1 h.2.2.2.2.2.2.2.2.2.2.1 h.2.2.2.2.2.2.2.2.2.2.2):=bk _ _
def j1H[LP](d:ct)(f c:Int)(g:ag):Option ((ct×Int×Int×ag) ⊕ (ag)):=
 cond (decide (c<f)) (
 cond (inR c (List.length d)) (
 let a:=(List.getD d (Int.toNat c) (0,(0,(0,(0,(0,(0,0)))))))
 (Ax a.1 d f c a.1 a.2.1 a.2.2.1 a.2.2.2.1 a.2.2.2.2.1 a.2.2.2.2.2.1 a.2.2.2.2.2.2 g).bind λb=>
 let e:=(w64 (b.2.2.1+1))
 some (.inl (b.1,b.2.1,e,b.2.2.2))) none) (
 some (.inr g))
def xN[LP](b:ct)(a c:Int)(d:ag):Option (ag):=
 LP.lp (unc4 (j1H)) (b,a,c,d)
theorem RZ(c a b d):xN c a b d=lpK (j1H c a b d) (λh=>xN h.1 h.2.1 h.2.2.1 h.2.2.2):=bk _ _
def j51[LP](a:kO):Option (ag×Int):=
 (jbW a.2.1 (-64800) 64800).bind λb=>
 cond (!b) (
 some (([]:ag),1)) (
 let e:=(Int.ofNat (List.length a.2.2))
 cond (decide (e>16)) (
 some (([]:ag),5)) (
 let f:=(Int.ofNat (List.length a.2.2))
 (xM 0 a.2.2 f 0 a.1 a.2.1 a.2.2).bind λj=>
 sumC j (λk=>
 some (([]:ag),k)) (λg=>
 cond (decide (g.1>640)) (
 some (([]:ag),5)) (
 let d:=(Int.ofNat (List.length g.2.2.2))
 (xN g.2.2.2 d 0 ([]:ag)).bind λi=>
 (j0h i).bind λc=>
 some (c,0)))))
def j3M(r m d:Int)(b g:ag):Option ((Int×Int×Int×ag×ag) ⊕ (Int ⊕ ag)):=
 cond (decide (d<m)) (
 cond (inR d (List.length g)) (
 let a:=(List.getD g (Int.toNat d) (0,0))
 cond (a.2==r) (
 let q:=(w64 (d+1))
 some (.inl (r,m,q,b,g))) (
 let c:=(w64 (a.1-r))
 let k:=(w64 (a.2-r))
 cond (cond (decide (k>=86400)) true (decide (k<=(-86400)))) (
 let s:=(Int.ofNat (List.length b))
 let p:=(Int.ofNat (List.length b))
 let i:=(w64 (p-1))
 cond ((inR i (List.length b)) || !((!true)&&(decide (s>0)))) (
 let t:=(List.getD b (Int.toNat i) (0,0)).1
 let x:=(w64 (t+604800))
 some (.inr (.inl 6))) none) (
 (jbW c 0 8589934592).bind λj=>
 let l:=(Int.ofNat (List.length b))
 let u:=(Int.ofNat (List.length b))
 let e:=(w64 (u-1))
 cond ((inR e (List.length b)) || !((!(!j))&&(decide (l>0)))) (
 let n:=(List.getD b (Int.toNat e) (0,0)).1
 let o:=(w64 (n+604800))
 cond (cond (!j) true (cond (decide (l>0)) (decide (c<o)) false)) (
 some (.inr (.inl 6))) (
 let f:ag:=[(c,a.2)]
 cond (decide (List.length b+List.length f<=aR)) (
 let w:ag:=(b++f)
 let v:=(w64 (d+1))
 some (.inl (a.2,m,v,w,g))) none)) none))) none) (
 some (.inr (.inr b)))
def xO[LP](d c b:Int)(e a:ag):Option (Int ⊕ ag):=
 LP.lp (unc5 (j3M)) (d,c,b,e,a)
theorem R0(d c b e a):xO d c b e a=lpK (j3M d c b e a) (λh=>xO h.1 h.2.1 h.2.2.1 h.2.2.2.1 h.2.2.2.2):=bk _ _
def j38[LP](a:kO):Option (ag×Int):=
 (j51 (a.1,(a.2.1,a.2.2))).bind λb=>
 cond (b.2 != 0) (
 some (([]:ag),b.2)) (
 let c:=(Int.ofNat (List.length b.1))
 (xO a.2.1 c 0 ([]:ag) b.1).bind λd=>
 sumC d (λe=>
 some (([]:ag),e)) (λf=>
 some (f,0)))
def j9R[LP](a:kO):Option (Int):=
 (j38 (a.1,(a.2.1,a.2.2))).bind λb=>
 some b.2
def j8R(a:xL):Option (Bool):=
 let b:=(Int.tmod a.2.2.2.2.2.2 60)
 some (b != 0)
def j0I(e:ct)(f b:Int):Option ((ct×Int×Int) ⊕ (Int ⊕ Unit)):=
 cond (decide (b<f)) (
 cond (inR b (List.length e)) (
 let a:=(List.getD e (Int.toNat b) (0,(0,(0,(0,(0,(0,0)))))))
 (j8R (a.1,(a.2.1,(a.2.2.1,(a.2.2.2.1,(a.2.2.2.2.1,(a.2.2.2.2.2.1,a.2.2.2.2.2.2))))))).bind λd=>
 cond d (
 some (.inr (.inl b))) (
 let c:=(w64 (b+1))
 some (.inl (e,f,c)))) none) (
 some (.inr (.inr ())))
def Ay[LP](a:ct)(b c:Int):Option (Int ⊕ Unit):=
 LP.lp (unc3 (j0I)) (a,b,c)
theorem R1(a b c):Ay a b c=lpK (j0I a b c) (λh=>Ay h.1 h.2.1 h.2.2):=bk _ _
def j0O[LP](a:ct):Option (Int):=
 let b:=(Int.ofNat (List.length a))
 (Ay a b 0).bind λc=>
 sumC c (λd=>
 some d) (λe=>
 some (-1))
def j0D[LP](a:ct):Option (Bool):=
 (j0O a).bind λb=>
 some (decide (b>=0))
def j3N[LP](a:kO):Option (Int):=
 (j9R (a.1,(a.2.1,a.2.2))).bind λd=>
 let c:=(Int.tmod a.2.1 60)
 cond (cond (d != 0) true (c != 0)) (
 some 8) (
 (j0D a.2.2).bind λb=>
 cond b (
 some 8) (
 some 0))
def j17[LP](e:au)(i d:Int)(j:(List (ByteArray×Bool))):Option ((au×Int×Int×(List (ByteArray×Bool))) ⊕ (Int ⊕ Unit)):=
 cond (decide (d<i)) (
 cond (inR d (List.length e)) (
 let a:=(List.getD e (Int.toNat d) (ByteArray.empty,(0,([]:ct))))
 (jbV (a.1,(a.2.1,a.2.2))).bind λf=>
 (j4D f j).bind λb=>
 cond (b.1 != 0) (
 some (.inr (.inl b.1))) (
 (j3N (a.1,(a.2.1,a.2.2))).bind λc=>
 cond (c != 0) (
 some (.inr (.inl c))) (
 let g:=(w64 (d+1))
 some (.inl (e,i,g,b.2))))) none) (
 some (.inr (.inr ())))
def xP[LP](b:au)(c a:Int)(d:(List (ByteArray×Bool))):Option (Int ⊕ Unit):=
 LP.lp (unc4 (j17)) (b,c,a,d)
theorem R2(b:au)(c a:Int)(d:(List (ByteArray×Bool))):xP b c a d=lpK (j17 b c a d) (λh=>xP h.1 h.2.1 h.2.2.1 h.2.2.2):=bk _ _
def j2P[LP](a:au):Option (Int):=
 let b:(List (ByteArray×Bool)):=([]:(List (ByteArray×Bool)))
 let c:=(Int.ofNat (List.length a))
 (xP a c 0 b).bind λd=>
 sumC d (λe=>
 some e) (λf=>
 some 0)
def j3a(a b:Int):Option (Bool):=
 some (cond (decide (a>=0)) (decide (a<b)) false)
def j66(d e:ag)(k b:Int):Option ((ag×ag×Int×Int) ⊕ (Int ⊕ Unit)):=
 cond (decide (b<k)) (
 cond (inR b (List.length e)) (
 let a:=(List.getD e (Int.toNat b) (0,0))
 let f:Bool:=(cond (cond (decide (a.1<0)) true (decide (a.1>=a.2))) true (decide (a.2>604800)))
 cond f (
 some (.inr (.inl 1))) (
 cond (decide (b>0)) (
 let c:=(w64 (b-1))
 cond (inR c (List.length d)) (
 let i:=(List.getD d (Int.toNat c) (0,0))
 cond (decide (a.1<i.2)) (
 some (.inr (.inl 6))) (
 let j:=(w64 (b+1))
 some (.inl (d,e,k,j)))) none) (
 let g:=(w64 (b+1))
 some (.inl (d,e,k,g))))) none) (
 some (.inr (.inr ())))
def Az[LP](b d:ag)(c a:Int):Option (Int ⊕ Unit):=
 LP.lp (unc4 (j66)) (b,d,c,a)
theorem R3(b c d a):Az b c d a=lpK (j66 b c d a) (λh=>Az h.1 h.2.1 h.2.2.1 h.2.2.2):=bk _ _
def j9S[LP](a:ag):Option (Int):=
 let d:=(Int.ofNat (List.length a))
 cond (decide (d>14)) (
 some 5) (
 let b:=(Int.ofNat (List.length a))
 (Az a a b 0).bind λc=>
 sumC c (λe=>
 some e) (λf=>
 some 0))
def j7A(a c b:Int):Option (Bool):=
 some (cond (decide (a>=c)) (decide (a<=b)) false)
def j5j(a:Int):Option (Bool):=
 (j7A a 0 604800).bind λc=>
 let b:=(Int.tmod a 3600)
 some (cond c (b==0) false)
def j2C[LP](b:dS)(a:Ds):Option (Int):=
 let d:=(Int.ofNat (List.length b.1))
 (j3a a.2.1 d).bind λf=>
 cond (!f) (
 some 3) (
 (j9S a.2.2.1).bind λc=>
 cond (c != 0) (
 some 8) (
 (j5j a.2.2.2.1).bind λe=>
 cond (!e) (
 some 1) (
 (j5j a.2.2.2.2.1).bind λg=>
 cond (!g) (
 some 1) (
 some 0))))
def jbX(a:qJ):Option (ByteArray):=
 some a.1
def jdQ(e b:Int):Option ((Int×Int) ⊕ (Int)):=
 let c:=(w64 (b+1))
 (j6t c).bind λd=>
 cond (decide (d<=e)) (
 let a:=(w64 (b+1))
 some (.inl (e,a))) (
 some (.inr b))
def Ko[LP](a b:Int):Option (Int):=
 LP.lp (unc2 (jdQ)) (a,b)
def jeK[LP](a:Int):Option (Int):=
 (j9C a 366).bind λb=>
 let c:=(w64 (1970+b))
 (Ko a c).bind λd=>
 some d
def jcm(k l b d g a c:Int):Option ((Int×Int×Int×Int×Int×Int×Int) ⊕ ((Int×Int×Int×Int×Int×Int×Int))):=
 (j8u g a).bind λi=>
 cond (decide (k>=i)) (
 (j8u g a).bind λf=>
 let e:=(w64 (k-f))
 let j:=(w64 (a+1))
 some (.inl (e,l,b,d,g,j,c))) (
 some (.inr (k,l,b,d,g,a,c)))
def Kp[LP](f e a d g b c:Int):Option ((Int×Int×Int×Int×Int×Int×Int)):=
 LP.lp (unc7 (jcm)) (f,e,a,d,g,b,c)
def j85[LP](a:Int):Option (xK×Int):=
 (j6t 1970).bind λi=>
 cond (decide (a<i)) (
 some ((0,(0,0)),1)) (
 (j6t 2241).bind λe=>
 cond (decide (a>=e)) (
 some ((0,(0,0)),1)) (
 (jeK a).bind λb=>
 (j6t b).bind λd=>
 let f:=(w64 (a-d))
 (Kp f 0 0 0 b 1 0).bind λc=>
 let g:=(w64 (c.1+1))
 some ((c.2.2.2.2.1,(c.2.2.2.2.2.1,g)),0)))
def j2k[LP](a:Int):Option (Bool):=
 (j85 a).bind λb=>
 some (b.2==0)
def j2V[LP](a:Int):Option (Bool):=
 (j2k a).bind λb=>
 some (!b)
def j0U[LP](e:(List Int))(f a:Int):Option (((List Int)×Int×Int) ⊕ (Int ⊕ Unit)):=
 cond (decide (a<f)) (
 cond (inR a (List.length e)) (
 let d:=(List.getD e (Int.toNat a) 0)
 (j2V d).bind λc=>
 cond c (
 some (.inr (.inl a))) (
 let b:=(w64 (a+1))
 some (.inl (e,f,b)))) none) (
 some (.inr (.inr ())))
def AA[LP](a:(List Int))(b c:Int):Option (Int ⊕ Unit):=
 LP.lp (unc3 (j0U)) (a,b,c)
theorem R4(a b c):AA a b c=lpK (j0U a b c) (λh=>AA h.1 h.2.1 h.2.2):=bk _ _
def j2W[LP](a:(List Int)):Option (Int):=
 let b:=(Int.ofNat (List.length a))
 (AA a b 0).bind λc=>
 sumC c (λd=>
 some d) (λe=>
 some (-1))
def j2m[LP](a:(List Int)):Option (Bool):=
 (j2W a).bind λb=>
 some (decide (b>=0))
def j2G(e b:Int)(k:ByteArray)(d:Int)(a:(List Int)):Option ((Int×Int×ByteArray×Int×(List Int)) ⊕ (Int ⊕ Unit)):=
 cond (decide (b<e)) (
 cond (decide (b>0)) (
 cond (inR b (List.length a)) (
 let g:=(List.getD a (Int.toNat b) 0)
 let c:=(w64 (b-1))
 cond (inR c (List.length a)) (
 let f:=(List.getD a (Int.toNat c) 0)
 cond (decide (g<=f)) (
 some (.inr (.inl 6))) (
 let i:=(w64 (b+1))
 some (.inl (e,i,k,d,a)))) none) none) (
 let j:=(w64 (b+1))
 some (.inl (e,j,k,d,a)))) (
 some (.inr (.inr ())))
def AB[LP](c d:Int)(e:ByteArray)(a:Int)(b:(List Int)):Option (Int ⊕ Unit):=
 LP.lp (unc5 (j2G)) (c,d,e,a,b)
theorem R5(c d e a b):AB c d e a b=lpK (j2G c d e a b) (λh=>AB h.1 h.2.1 h.2.2.1 h.2.2.2.1 h.2.2.2.2):=bk _ _
def j2t[LP](b:dS)(a:qJ):Option (Int):=
 let d:=(Int.ofNat (List.length b.1))
 (j3a a.2.1 d).bind λe=>
 cond (!e) (
 some 3) (
 let c:=(Int.ofNat (List.length a.2.2))
 cond (decide (c>64)) (
 some 5) (
 (j2m a.2.2).bind λg=>
 cond g (
 some 1) (
 let f:=(Int.ofNat (List.length a.2.2))
 (AB f 0 a.1 a.2.1 a.2.2).bind λi=>
 sumC i (λj=>
 some j) (λk=>
 some 0))))
def j5Z[LP](a:qJ)(e:au)(d:ax)(c:aA)(b:aB):Option (Int):=
 (j2t (e,(d,(c,b))) (a.1,(a.2.1,a.2.2))).bind λf=>
 some f
def j0L[LP](m:au)(f:ax)(g:aA)(e:aB)(i:aA)(l d:Int)(n:(List (ByteArray×Bool))):Option ((au×ax×aA×aB×aA×Int×Int×(List (ByteArray×Bool))) ⊕ (Int ⊕ Unit)):=
 cond (decide (d<l)) (
 cond (inR d (List.length i)) (
 let a:=(List.getD i (Int.toNat d) (ByteArray.empty,(0,([]:(List Int)))))
 (jbX (a.1,(a.2.1,a.2.2))).bind λj=>
 (j4D j n).bind λb=>
 cond (b.1 != 0) (
 some (.inr (.inl b.1))) (
 (j5Z (a.1,(a.2.1,a.2.2)) m f g e).bind λc=>
 cond (c != 0) (
 some (.inr (.inl c))) (
 let k:=(w64 (d+1))
 some (.inl (m,f,g,e,i,l,k,b.2))))) none) (
 some (.inr (.inr ())))
def xQ[LP](g:au)(b:ax)(c:aA)(a:aB)(e:aA)(f d:Int)(i:(List (ByteArray×Bool))):Option (Int ⊕ Unit):=
 LP.lp (unc8 (j0L)) (g,b,c,a,e,f,d,i)
theorem R6(g:au)(b:ax)(c:aA)(a:aB)(e:aA)(f d:Int)(i:(List (ByteArray×Bool))):xQ g b c a e f d i=lpK (j0L g b c a e f d i) (λh=>xQ h.1 h.2.1 h.2.2.1 h.2.2.2.1 h.2.2.2.2.1 h.2.2.2.2.2.1 h.2.2.2.2.2.2.1 h.2.2.2.2.2.2.2):=bk _ _
def j1V[LP](e:aA)(d:au)(c:ax)(b:aA)(a:aB):Option (Int):=
 let f:(List (ByteArray×Bool)):=([]:(List (ByteArray×Bool)))
 let g:=(Int.ofNat (List.length e))
 (xQ d c b a e g 0 f).bind λi=>
 sumC i (λj=>
 some j) (λk=>
 some 0)
def jbY(a:kP):Option (ByteArray):=
 some a.1
def j6Q(a:ir):Option (ByteArray):=
 some a.1
def j87(a:Int)(g:au)(b:ax)(f:aA)(e:aB):Option (Bool):=
 let c:=(Int.ofNat (List.length b))
 (j3a a c).bind λd=>
 some (!d)
def j1D(i:(List Int))(k:au)(b:ax)(c:aA)(d:aB)(j a:Int):Option (((List Int)×au×ax×aA×aB×Int×Int) ⊕ (Int ⊕ Unit)):=
 cond (decide (a<j)) (
 cond (inR a (List.length i)) (
 let g:=(List.getD i (Int.toNat a) 0)
 (j87 g k b c d).bind λf=>
 cond f (
 some (.inr (.inl a))) (
 let e:=(w64 (a+1))
 some (.inl (i,k,b,c,d,j,e)))) none) (
 some (.inr (.inr ())))
def AD[LP](d:(List Int))(g:au)(a:ax)(b:aA)(c:aB)(e f:Int):Option (Int ⊕ Unit):=
 LP.lp (unc7 (j1D)) (d,g,a,b,c,e,f)
theorem R7(d g a b c e f):AD d g a b c e f=lpK (j1D d g a b c e f) (λh=>AD h.1 h.2.1 h.2.2.1 h.2.2.2.1 h.2.2.2.2.1 h.2.2.2.2.2.1 h.2.2.2.2.2.2):=bk _ _
def j2n[LP](c:(List Int))(e:au)(a:ax)(d:aA)(b:aB):Option (Int):=
 let f:=(Int.ofNat (List.length c))
 (AD c e a d b f 0).bind λg=>
 sumC g (λi=>
 some i) (λj=>
 some (-1))
def j1J[LP](d:(List Int))(e:au)(a:ax)(c:aA)(b:aB):Option (Bool):=
 (j2n d e a c b).bind λf=>
 some (decide (f>=0))
def j3l[LP](b:dS)(a:ir):Option (Int):=
 let d:=(Int.ofNat (List.length b.1))
 (j3a a.2.1 d).bind λj=>
 cond (!j) (
 some 3) (
 cond (decide (a.2.2.1.1<1)) (
 some 1) (
 (j2k a.2.2.1.1).bind λp=>
 cond (!p) (
 some 1) (
 (j7A a.2.2.1.2 0 86399).bind λk=>
 cond (!k) (
 some 1) (
 (j7A a.2.2.2.1 0 2).bind λn=>
 cond (!n) (
 some 1) (
 (j7A a.2.2.2.2.1 1 400).bind λo=>
 cond (!o) (
 some 1) (
 let g:=(Int.ofNat (List.length a.2.2.2.2.2.1))
 cond (g==0) (
 some 7) (
 let f:=(Int.ofNat (List.length a.2.2.2.2.2.1))
 cond (decide (f>12)) (
 some 5) (
 (j1J a.2.2.2.2.2.1 b.1 b.2.1 b.2.2.1 b.2.2.2).bind λc=>
 cond c (
 some 3) (
 (j9S a.2.2.2.2.2.2.1).bind λl=>
 cond (l != 0) (
 some 8) (
 (j7A a.2.2.2.2.2.2.2.2 0 2).bind λi=>
 cond (!i) (
 some 1) (
 let e:=(Int.ofNat (List.length b.2.2.1))
 cond (a.2.2.2.2.2.2.2.2 != 0) (
 (j3a a.2.2.2.2.2.2.2.1 e).bind λm=>
 cond (!m) (
 some 3) (
 cond (cond (a.2.2.2.2.2.2.2.2==0) (a.2.2.2.2.2.2.2.1 != 0) false) (
 some 1) (
 some 0))) (
 cond (cond (a.2.2.2.2.2.2.2.2==0) (a.2.2.2.2.2.2.2.1 != 0) false) (
 some 1) (
 some 0)))))))))))))
def j2Y[LP](a:ir)(e:au)(d:ax)(c:aA)(b:aB):Option (Int):=
 (j3l (e,(d,(c,b))) (a.1,(a.2.1,((a.2.2.1.1,a.2.2.1.2),(a.2.2.2.1,(a.2.2.2.2.1,(a.2.2.2.2.2.1,(a.2.2.2.2.2.2.1,(a.2.2.2.2.2.2.2.1,a.2.2.2.2.2.2.2.2))))))))).bind λf=>
 some f
def j12[LP](m:au)(f:ax)(g:aA)(e:aB)(i:bc)(l d:Int)(n:(List (ByteArray×Bool))):Option ((au×ax×aA×aB×bc×Int×Int×(List (ByteArray×Bool))) ⊕ (Int ⊕ Unit)):=
 cond (decide (d<l)) (
 cond (inR d (List.length i)) (
 let a:=(List.getD i (Int.toNat d) (ByteArray.empty,(0,((0,0),(0,(0,(([]:(List Int)),(([]:ag),(0,0)))))))))
 (j6Q (a.1,(a.2.1,((a.2.2.1.1,a.2.2.1.2),(a.2.2.2.1,(a.2.2.2.2.1,(a.2.2.2.2.2.1,(a.2.2.2.2.2.2.1,(a.2.2.2.2.2.2.2.1,a.2.2.2.2.2.2.2.2))))))))).bind λj=>
 (j4D j n).bind λb=>
 cond (b.1 != 0) (
 some (.inr (.inl b.1))) (
 (j2Y (a.1,(a.2.1,((a.2.2.1.1,a.2.2.1.2),(a.2.2.2.1,(a.2.2.2.2.1,(a.2.2.2.2.2.1,(a.2.2.2.2.2.2.1,(a.2.2.2.2.2.2.2.1,a.2.2.2.2.2.2.2.2)))))))) m f g e).bind λc=>
 cond (c != 0) (
 some (.inr (.inl c))) (
 let k:=(w64 (d+1))
 some (.inl (m,f,g,e,i,l,k,b.2))))) none) (
 some (.inr (.inr ())))
def xR[LP](g:au)(b:ax)(c:aA)(a:aB)(e:bc)(f d:Int)(i:(List (ByteArray×Bool))):Option (Int ⊕ Unit):=
 LP.lp (unc8 (j12)) (g,b,c,a,e,f,d,i)
theorem R8(g:au)(b:ax)(c:aA)(a:aB)(e:bc)(f d:Int)(i:(List (ByteArray×Bool))):xR g b c a e f d i=lpK (j12 g b c a e f d i) (λh=>xR h.1 h.2.1 h.2.2.1 h.2.2.2.1 h.2.2.2.2.1 h.2.2.2.2.2.1 h.2.2.2.2.2.2.1 h.2.2.2.2.2.2.2):=bk _ _
def j2D[LP](e:bc)(d:au)(c:ax)(b:aA)(a:aB):Option (Int):=
 let f:(List (ByteArray×Bool)):=([]:(List (ByteArray×Bool)))
 let g:=(Int.ofNat (List.length e))
 (xR d c b a e g 0 f).bind λi=>
 sumC i (λj=>
 some j) (λk=>
 some 0)
def j3O[LP](g:dS)(a:n4):Option (Int):=
 let m:=(Int.ofNat (List.length g.2.1))
 (j7A a.1 0 2).bind λi=>
 cond (!i) (
 some 1) (
 (j3a a.2.1 m).bind λf=>
 cond (cond (!f) (!(cond (a.1==1) (a.2.1==(-1)) false)) false) (
 cond (cond (!f) (!(cond (a.1==1) (a.2.1==(-1)) false)) false) (
 some 3) (
 cond (cond (a.1 != 2) (a.2.2.1 != 0) false) (
 some 1) (
 cond (cond (a.1==2) (a.2.1==a.2.2.1) false) (
 some 4) (
 let k:=(w64 (Int.tdiv a.2.2.2.2 86400))
 cond (cond (decide (a.2.2.2.1<0)) true (decide (a.2.2.2.2<0))) (
 some 1) (
 (j2k k).bind λl=>
 cond (!l) (
 some 1) (
 cond (decide (a.2.2.2.1>=a.2.2.2.2)) (
 some 6) (
 some 0))))))) (
 cond (a.1==2) (
 (j3a a.2.2.1 m).bind λj=>
 cond (!j) (
 some 3) (
 cond (cond (a.1 != 2) (a.2.2.1 != 0) false) (
 some 1) (
 cond (cond (a.1==2) (a.2.1==a.2.2.1) false) (
 some 4) (
 let c:=(w64 (Int.tdiv a.2.2.2.2 86400))
 cond (cond (decide (a.2.2.2.1<0)) true (decide (a.2.2.2.2<0))) (
 some 1) (
 (j2k c).bind λd=>
 cond (!d) (
 some 1) (
 cond (decide (a.2.2.2.1>=a.2.2.2.2)) (
 some 6) (
 some 0))))))) (
 cond (cond (a.1 != 2) (a.2.2.1 != 0) false) (
 some 1) (
 cond (cond (a.1==2) (a.2.1==a.2.2.1) false) (
 some 4) (
 let b:=(w64 (Int.tdiv a.2.2.2.2 86400))
 cond (cond (decide (a.2.2.2.1<0)) true (decide (a.2.2.2.2<0))) (
 some 1) (
 (j2k b).bind λe=>
 cond (!e) (
 some 1) (
 cond (decide (a.2.2.2.1>=a.2.2.2.2)) (
 some 6) (
 some 0))))))))
def j1f[LP](e:af)(j b:Int)(k:au)(d:ax)(g:aA)(f:aB):Option ((af×Int×Int×au×ax×aA×aB) ⊕ (Int ⊕ Unit)):=
 cond (decide (b<j)) (
 cond (inR b (List.length e)) (
 let a:=(List.getD e (Int.toNat b) (0,(0,(0,(0,0)))))
 (j3O (k,(d,(g,f))) (a.1,(a.2.1,(a.2.2.1,(a.2.2.2.1,a.2.2.2.2))))).bind λc=>
 cond (c != 0) (
 some (.inr (.inl c))) (
 let i:=(w64 (b+1))
 some (.inl (e,j,i,k,d,g,f)))) none) (
 some (.inr (.inr ())))
def AE[LP](e:af)(f d:Int)(g:au)(a:ax)(c:aA)(b:aB):Option (Int ⊕ Unit):=
 LP.lp (unc7 (j1f)) (e,f,d,g,a,c,b)
theorem R9(e f d g a c b):AE e f d g a c b=lpK (j1f e f d g a c b) (λh=>AE h.1 h.2.1 h.2.2.1 h.2.2.2.1 h.2.2.2.2.1 h.2.2.2.2.2.1 h.2.2.2.2.2.2):=bk _ _
def j2u[LP](a:dS)(b:kP):Option (Int):=
 let e:=(Int.ofNat (List.length b.2.1))
 let d:=(Int.ofNat (List.length b.2.2))
 cond (cond (decide (e>6)) true (decide (d>48))) (
 some 5) (
 (j2D b.2.1 a.1 a.2.1 a.2.2.1 a.2.2.2).bind λc=>
 cond (c != 0) (
 some c) (
 let f:=(Int.ofNat (List.length b.2.2))
 (AE b.2.2 f 0 a.1 a.2.1 a.2.2.1 a.2.2.2).bind λg=>
 sumC g (λi=>
 some i) (λj=>
 some 0)))
def j60[LP](a:kP)(e:au)(d:ax)(c:aA)(b:aB):Option (Int):=
 (j2u (e,(d,(c,b))) (a.1,(a.2.1,a.2.2))).bind λf=>
 some f
def j0M[LP](m:au)(f:ax)(g:aA)(e i:aB)(l d:Int)(n:(List (ByteArray×Bool))):Option ((au×ax×aA×aB×aB×Int×Int×(List (ByteArray×Bool))) ⊕ (Int ⊕ Unit)):=
 cond (decide (d<l)) (
 cond (inR d (List.length i)) (
 let a:=(List.getD i (Int.toNat d) (ByteArray.empty,(([]:bc),([]:af))))
 (jbY (a.1,(a.2.1,a.2.2))).bind λj=>
 (j4D j n).bind λb=>
 cond (b.1 != 0) (
 some (.inr (.inl b.1))) (
 (j60 (a.1,(a.2.1,a.2.2)) m f g e).bind λc=>
 cond (c != 0) (
 some (.inr (.inl c))) (
 let k:=(w64 (d+1))
 some (.inl (m,f,g,e,i,l,k,b.2))))) none) (
 some (.inr (.inr ())))
def xS[LP](g:au)(b:ax)(c:aA)(a e:aB)(f d:Int)(i:(List (ByteArray×Bool))):Option (Int ⊕ Unit):=
 LP.lp (unc8 (j0M)) (g,b,c,a,e,f,d,i)
theorem Sa(g:au)(b:ax)(c:aA)(a e:aB)(f d:Int)(i:(List (ByteArray×Bool))):xS g b c a e f d i=lpK (j0M g b c a e f d i) (λh=>xS h.1 h.2.1 h.2.2.1 h.2.2.2.1 h.2.2.2.2.1 h.2.2.2.2.2.1 h.2.2.2.2.2.2.1 h.2.2.2.2.2.2.2):=bk _ _
def j2B[LP](e:aB)(d:au)(c:ax)(b:aA)(a:aB):Option (Int):=
 let f:(List (ByteArray×Bool)):=([]:(List (ByteArray×Bool)))
 let g:=(Int.ofNat (List.length e))
 (xS d c b a e g 0 f).bind λi=>
 sumC i (λj=>
 some j) (λk=>
 some 0)
def j2v[LP](g:ax)(i f:Int)(j:au)(d:ax)(e:aA)(c:aB)(r:(List (ByteArray×Bool))):Option ((ax×Int×Int×au×ax×aA×aB×(List (ByteArray×Bool))) ⊕ (Int ⊕ (au×ax×aA×aB))):=
 cond (decide (f<i)) (
 cond (inR f (List.length g)) (
 let a:=(List.getD g (Int.toNat f) (ByteArray.empty,(0,(([]:ag),(0,(0,false))))))
 (j4D a.1 r).bind λb=>
 let q:Bool:=(ByteArray.toList a.1==ByteArray.toList (ByteArray.mk #[110,111,98,111,100,121]))
 cond q (
 cond (2==0) (
 (j2C (j,(d,(e,c))) (a.1,(a.2.1,(a.2.2.1,(a.2.2.2.1,(a.2.2.2.2.1,a.2.2.2.2.2)))))).bind λl=>
 cond (l != 0) (
 some (.inr (.inl l))) (
 let p:=(w64 (f+1))
 some (.inl (g,i,p,j,d,e,c,b.2)))) (
 cond (2 != 0) (
 some (.inr (.inl 2))) (
 let n:=(w64 (f+1))
 some (.inl (g,i,n,j,d,e,c,b.2))))) (
 cond (b.1==0) (
 (j2C (j,(d,(e,c))) (a.1,(a.2.1,(a.2.2.1,(a.2.2.2.1,(a.2.2.2.2.1,a.2.2.2.2.2)))))).bind λk=>
 cond (k != 0) (
 some (.inr (.inl k))) (
 let m:=(w64 (f+1))
 some (.inl (g,i,m,j,d,e,c,b.2)))) (
 cond (b.1 != 0) (
 some (.inr (.inl b.1))) (
 let o:=(w64 (f+1))
 some (.inl (g,i,o,j,d,e,c,b.2)))))) none) (
 some (.inr (.inr (j,d,e,c))))
def xT[LP](f:ax)(e d:Int)(g:au)(b:ax)(c:aA)(a:aB)(i:(List (ByteArray×Bool))):Option (Int ⊕ (au×ax×aA×aB)):=
 LP.lp (unc8 (j2v)) (f,e,d,g,b,c,a,i)
theorem Sb(f:ax)(e d:Int)(g:au)(b:ax)(c:aA)(a:aB)(i:(List (ByteArray×Bool))):xT f e d g b c a i=lpK (j2v f e d g b c a i) (λh=>xT h.1 h.2.1 h.2.2.1 h.2.2.2.1 h.2.2.2.2.1 h.2.2.2.2.2.1 h.2.2.2.2.2.2.1 h.2.2.2.2.2.2.2):=bk _ _
def j68[LP](a:dS):Option (Int):=
 let f:=(Int.ofNat (List.length a.1))
 let e:=(Int.ofNat (List.length a.2.1))
 let j:=(Int.ofNat (List.length a.2.2.1))
 let i:Bool:=(cond (cond (decide (f>16)) true (decide (e>32))) true (decide (j>8)))
 let g:=(Int.ofNat (List.length a.2.2.2))
 cond (cond i true (decide (g>12))) (
 some 5) (
 (j2P a.1).bind λd=>
 cond (d != 0) (
 some d) (
 let m:(List (ByteArray×Bool)):=([]:(List (ByteArray×Bool)))
 let l:=(Int.ofNat (List.length a.2.1))
 (xT a.2.1 l 0 a.1 a.2.1 a.2.2.1 a.2.2.2 m).bind λn=>
 sumC n (λo=>
 some o) (λb=>
 (j1V b.2.2.1 b.1 b.2.1 b.2.2.1 b.2.2.2).bind λc=>
 cond (c != 0) (
 some c) (
 (j2B b.2.2.2 b.1 b.2.1 b.2.2.1 b.2.2.2).bind λk=>
 some k))))
def jgy[LP](a:kO):Option (ea×Int):=
 (j38 (a.1,(a.2.1,a.2.2))).bind λb=>
 some ((a.2.1,b.1),b.2)
def j31[LP](i:au)(j b:Int)(g:bS):Option ((au×Int×Int×bS) ⊕ (bS)):=
 cond (decide (b<j)) (
 cond (inR b (List.length i)) (
 let a:=(List.getD i (Int.toNat b) (ByteArray.empty,(0,([]:ct))))
 (jgy (a.1,(a.2.1,a.2.2))).bind λd=>
 let c:bS:=[(d.1.1,d.1.2)]
 cond (decide (List.length g+List.length c<=aR)) (
 let f:bS:=(g++c)
 let e:=(w64 (b+1))
 some (.inl (i,j,e,f))) none) none) (
 some (.inr g))
def xU[LP](d:au)(b a:Int)(c:bS):Option (bS):=
 LP.lp (unc4 (j31)) (d,b,a,c)
theorem Sc(c d a b):xU c d a b=lpK (j31 c d a b) (λh=>xU h.1 h.2.1 h.2.2.1 h.2.2.2):=bk _ _
def jb3[LP](a:au):Option (bS):=
 let c:=(Int.ofNat (List.length a))
 (xU a c 0 ([]:bS)).bind λb=>
 some b
def jcR[LP](a:dS):Option (iu):=
 (jb3 a.1).bind λb=>
 some ((a.1,(a.2.1,(a.2.2.1,a.2.2.2))),b)
def jfi[LP](a:dS):Option (iu×Bool):=
 (j68 (a.1,(a.2.1,(a.2.2.1,a.2.2.2)))).bind λc=>
 cond (c != 0) (
 some (((([]:au),(([]:ax),(([]:aA),([]:aB)))),([]:bS)),false)) (
 (jcR (a.1,(a.2.1,(a.2.2.1,a.2.2.2)))).bind λb=>
 some (((b.1.1,(b.1.2.1,(b.1.2.2.1,b.1.2.2.2))),b.2),true))
def jb4(a b:Int):Option (Bool):=
 let d:Bool:=(cond (cond (decide (a>=0)) (decide (a<=8589934592)) false) (decide (b>=a)) false)
 let e:=(w64 (b-a))
 let c:Bool:=(cond (cond d (decide (b<=8589934592)) false) (decide (e<=34560000)) false)
 some c
def j6v[LP](c:dS)(b d e:Int):Option (iu×Int):=
 (jfi (c.1,(c.2.1,(c.2.2.1,c.2.2.2)))).bind λa=>
 cond (!a.2) (
 some (((a.1.1.1,(a.1.1.2.1,(a.1.1.2.2.1,a.1.1.2.2.2))),a.1.2),8)) (
 let f:=(Int.ofNat (List.length c.2.1))
 cond (cond (decide (b<0)) true (decide (b>=f))) (
 some (((a.1.1.1,(a.1.1.2.1,(a.1.1.2.2.1,a.1.1.2.2.2))),a.1.2),3)) (
 (jb4 d e).bind λg=>
 cond (!g) (
 some (((a.1.1.1,(a.1.1.2.1,(a.1.1.2.2.1,a.1.1.2.2.2))),a.1.2),1)) (
 some (((a.1.1.1,(a.1.1.2.1,(a.1.1.2.2.1,a.1.1.2.2.2))),a.1.2),0))))
def j8S(a:(List Int)):Option ((List Int)):=
 cond (decide (List.length ([]:List (Int))+List.length a<=aR)) (
 some (([]:List (Int))++a)) none
def jbx(a c b:Int):Option (Bool):=
 some (cond (decide (a<=c)) true (decide (a>=b)))
def j1E(i b g a:Int)(c:(List Int)):Option ((Int×Int×Int×Int×(List Int)) ⊕ (nZ ⊕ (List Int))):=
 cond (decide (a<g)) (
 cond (inR a (List.length c)) (
 let f:=(List.getD c (Int.toNat a) 0)
 (jbx f i b).bind λe=>
 cond e (
 some (.inr (.inl (a,c)))) (
 let d:=(w64 (a+1))
 some (.inl (i,b,g,d,c)))) none) (
 some (.inr (.inr c)))
def xV[LP](d a b c:Int)(e:(List Int)):Option (nZ ⊕ (List Int)):=
 LP.lp (unc5 (j1E)) (d,a,b,c,e)
theorem Sd(d a b c e):xV d a b c e=lpK (j1E d a b c e) (λh=>xV h.1 h.2.1 h.2.2.1 h.2.2.2.1 h.2.2.2.2):=bk _ _
def j2o[LP](b:(List Int))(c a:Int):Option nZ:=
 let d:=(Int.ofNat (List.length b))
 (xV c a d 0 b).bind λe=>
 sumC e (λf=>
 some (f.1,f.2)) (λg=>
 some ((-1),g))
def j20(l a e d:Int)(b:(List Int)):Option ((Int×Int×Int×Int×(List Int)) ⊕ (nZ)):=
 let f:=(Int.ofNat (List.length b))
 cond (decide (d<f)) (
 cond (inR d (List.length b)) (
 let c:=(List.getD b (Int.toNat d) 0)
 (jbx c l a).bind λi=>
 cond (!i) (
 cond (inR e (List.length b)) (
 let m:(List Int):=(List.set b (Int.toNat e) c)
 let j:=(w64 (e+1))
 let k:=(w64 (d+1))
 some (.inl (l,a,j,k,m))) none) (
 let g:=(w64 (d+1))
 some (.inl (l,a,e,g,b)))) none) (
 some (.inr (e,b)))
def AF[LP](d a c b:Int)(e:(List Int)):Option (nZ):=
 LP.lp (unc5 (j20)) (d,a,c,b,e)
theorem Se(d a c b e):AF d a c b e=lpK (j20 d a c b e) (λh=>AF h.1 h.2.1 h.2.2.1 h.2.2.2.1 h.2.2.2.2):=bk _ _
def j29[LP](e:(List Int))(d a:Int):Option nZ:=
 (j2o e d a).bind λc=>
 cond (c.1==(-1)) (
 some ((Int.ofNat (List.length c.2)),c.2)) (
 let g:=(w64 (c.1+1))
 (AF d a c.1 g c.2).bind λb=>
 cond (decide (0<=b.1)&&decide (b.1<=(Int.ofNat (List.length b.2)))) (
 let f:(List Int):=(List.take (Int.toNat b.1) b.2++List.replicate (List.length b.2-(Int.toNat b.1)) 0)
 cond (decide (0<=b.1)&&decide (b.1<=(Int.ofNat (List.length f)))) (
 some ((Int.ofNat (Int.toNat b.1)),f)) none) none)
def j7b(a:(List Int)):Option ((List Int)):=
 xJ a
def j2w(e b c:Int)(a:(List Int)):Option ((Int×Int×Int×(List Int)) ⊕ (nZ)):=
 let i:=(Int.ofNat (List.length a-(Int.toNat b)))
 cond (decide (c<i)) (
 cond (inR c (List.length a-(Int.toNat b))) (
 let g:=(List.getD a ((Int.toNat b)+(Int.toNat c)) 0)
 let d:=(w64 (c-1))
 cond (inR d (List.length a-(Int.toNat b))) (
 let f:=(List.getD a ((Int.toNat b)+(Int.toNat d)) 0)
 cond (g != f) (
 cond (inR c (List.length a-(Int.toNat b))) (
 let m:=(List.getD a ((Int.toNat b)+(Int.toNat c)) 0)
 cond (inR e (List.length a)) (
 let n:(List Int):=(List.set a (Int.toNat e) m)
 let l:=(w64 (e+1))
 let j:=(w64 (c+1))
 some (.inl (l,(Int.ofNat (Int.toNat b)),j,n))) none) none) (
 let k:=(w64 (c+1))
 some (.inl (e,(Int.ofNat (Int.toNat b)),k,a)))) none) none) (
 some (.inr (e,a)))
def xW[LP](a d b:Int)(c:(List Int)):Option (nZ):=
 LP.lp (unc4 (j2w)) (a,d,b,c)
theorem Sf(a b c d):xW a b c d=lpK (j2w a b c d) (λh=>xW h.1 h.2.1 h.2.2.1 h.2.2.2):=bk _ _
def j18[LP](b:Int)(c:(List Int)):Option (nZ ⊕ (nZ ⊕ (List Int))):=
 let f:=(Int.ofNat (List.length c))
 cond (decide (b<f)) (
 cond (inR b (List.length c)) (
 let i:=(List.getD c (Int.toNat b) 0)
 let d:=(w64 (b-1))
 cond (inR d (List.length c)) (
 let j:=(List.getD c (Int.toNat d) 0)
 cond (i==j) (
 cond (decide (0<=b)&&decide (b<=(Int.ofNat (List.length c)))) (
 (xW b (Int.ofNat (Int.toNat b)) 1 c).bind λa=>
 cond (decide (0<=a.1)&&decide (a.1<=(Int.ofNat (List.length a.2)))) (
 let e:(List Int):=(List.take (Int.toNat a.1) a.2++List.replicate (List.length a.2-(Int.toNat a.1)) 0)
 cond (decide (0<=a.1)&&decide (a.1<=(Int.ofNat (List.length e)))) (
 some (.inr (.inl ((Int.ofNat (Int.toNat a.1)),e)))) none) none) none) (
 let g:=(w64 (b+1))
 some (.inl (g,c)))) none) none) (
 some (.inr (.inr c)))
def tB[LP](a:Int)(b:(List Int)):Option (nZ ⊕ (List Int)):=
 LP.lp (unc2 (j18)) (a,b)
theorem Sh(a b):tB a b=lpK (j18 a b) (λh=>tB h.1 h.2):=bk _ _
def j2Q[LP](a:(List Int)):Option nZ:=
 let b:=(Int.ofNat (List.length a))
 cond (decide (b<2)) (
 some ((Int.ofNat (List.length a)),a)) (
 (tB 1 a).bind λc=>
 sumC c (λd=>
 some ((Int.ofNat (Int.toNat d.1)),d.2)) (λe=>
 some ((Int.ofNat (List.length e)),e)))
def jby[LP](f:(List Int))(b a:Int):Option ((List Int)):=
 (j8S f).bind λk=>
 (j29 k b a).bind λc=>
 let g:(List Int):=(List.take (Int.toNat c.1) c.2)
 (j7b g).bind λi=>
 (j2Q i).bind λd=>
 let e:(List Int):=(List.take (Int.toNat d.1) d.2)
 cond (decide (List.length e+List.length [a]<=aR)) (
 let j:(List Int):=(e++[a])
 some j) none
def j3C(a:bc):Option (bc):=
 some a
def jb5(a:ir):Option (Int):=
 cond (a.2.2.2.1==2) (
 let b:=(w64 (7*a.2.2.2.2.1))
 some b) (
 some a.2.2.2.2.1)
def j9E(a e:Int)(b:ag)(c:Int):Option (Bool):=
 cond (inR a (List.length b)) (
 let d:=(List.getD b (Int.toNat a) (0,0))
 some (decide (d.1>c))) none
def j4m(l:Int)(a:ag)(b e k:Int):Option ((Int×ag×Int×Int×Int) ⊕ (Int)):=
 cond (decide (e<k)) (
 let j:=(w64 (e+k))
 let f:Int:=(IntKind.wrap .u64 j)
 let i:Int:=(Int.fdiv f 2)
 let c:=(w64 i)
 (j9E c l a b).bind λg=>
 cond (!g) (
 let d:=(w64 (c+1))
 some (.inl (l,a,b,d,k))) (
 some (.inl (l,a,b,e,c)))) (
 some (.inr e))
def AG[LP](e:Int)(a:ag)(b d c:Int):Option (Int):=
 LP.lp (unc5 (j4m)) (e,a,b,d,c)
theorem Si(e a b d c):AG e a b d c=lpK (j4m e a b d c) (λh=>AG h.1 h.2.1 h.2.2.1 h.2.2.2.1 h.2.2.2.2):=bk _ _
def jb6[LP](c d:Int)(a:ag)(b:Int):Option (Int):=
 (AG d a b 0 c).bind λe=>
 some e
def j4f[LP](a:ea)(b:Int):Option (Int):=
 let c:=(Int.ofNat (List.length a.2))
 (jb6 c a.1 a.2 b).bind λd=>
 some d
def j5D(a:ea)(b:Int):Option (Int):=
 cond (b==0) (
 some a.1) (
 let c:=(w64 (b-1))
 cond (inR c (List.length a.2)) (
 let d:=(List.getD a.2 (Int.toNat c) (0,0))
 some d.2) none)
def j0H[LP](m c j:Int)(a:ag)(i:aa):Option ((Int×Int×Int×ag×aa) ⊕ (aa)):=
 cond (decide (m<c)) (
 (j4f (j,a) m).bind λb=>
 let p:=(Int.ofNat (List.length a))
 cond (decide (b<p)) (
 cond (inR b (List.length a)) (
 let d:=(List.getD a (Int.toNat b) (0,0))
 let e:Int:=(if d.1<c then d.1 else c:Int)
 (j5D (j,a) b).bind λn=>
 let g:aa:=[(m,(e,n))]
 cond (decide (List.length i+List.length g<=aR)) (
 let k:aa:=(i++g)
 some (.inl (e,c,j,a,k))) none) none) (
 (j5D (j,a) b).bind λo=>
 let f:aa:=[(m,(c,o))]
 cond (decide (List.length i+List.length f<=aR)) (
 let l:aa:=(i++f)
 some (.inl (c,c,j,a,l))) none)) (
 some (.inr i))
def vJ[LP](c b e:Int)(a:ag)(d:aa):Option (aa):=
 LP.lp (unc5 (j0H)) (c,b,e,a,d)
theorem AH(c b e a d):vJ c b e a d=lpK (j0H c b e a d) (λh=>vJ h.1 h.2.1 h.2.2.1 h.2.2.2.1 h.2.2.2.2):=bk _ _
def j1Z[LP](b:ea)(a c:Int):Option (aa):=
 (vJ a c b.1 b.2 ([]:aa)).bind λd=>
 some d
def j5u(a:(Int×Int)):Option (Int):=
 let c:Int:=(if (-1048576)>a.1 then (-1048576) else a.1:Int)
 let e:Int:=(if 1048576<c then 1048576 else c:Int)
 let d:=(w64 (e*86400))
 let b:=(w64 (d+a.2))
 some b
def j2p(j c k f:Int)(e:aa):Option ((Int×Int×Int×Int×aa) ⊕ ((Int×Bool) ⊕ Unit)):=
 cond (decide (c<j)) (
 cond (inR c (List.length e)) (
 let a:=(List.getD e (Int.toNat c) (0,(0,0)))
 (j5u (k,f)).bind λg=>
 let d:=(w64 (g-a.2.2))
 let b:Int:=(if d>a.1 then d else a.1:Int)
 cond (decide (b<a.2.1)) (
 some (.inr (.inl (b,true)))) (
 let i:=(w64 (c+1))
 some (.inl (j,i,k,f,e)))) none) (
 some (.inr (.inr ())))
def xX[LP](c d e a:Int)(b:aa):Option ((Int×Bool) ⊕ Unit):=
 LP.lp (unc5 (j2p)) (c,d,e,a,b)
theorem Gf(c d e a b):xX c d e a b=lpK (j2p c d e a b) (λh=>xX h.1 h.2.1 h.2.2.1 h.2.2.2.1 h.2.2.2.2):=bk _ _
def j2H[LP](b:ea)(a:(Int×Int)):Option (Int×Bool):=
 (j1Z (b.1,b.2) 0 8589934593).bind λc=>
 let d:=(Int.ofNat (List.length c))
 (xX d 0 a.1 a.2 c).bind λe=>
 sumC e (λf=>
 some (f.1,f.2)) (λg=>
 some (0,false))
def j1g[LP](b:ea)(a:ir)(c:Int):Option (Int×Bool):=
 cond (decide (c>8589934592)) (
 some (0,false)) (
 cond (a.2.2.2.1 != 0) (
 (jb5 (a.1,(a.2.1,((a.2.2.1.1,a.2.2.1.2),(a.2.2.2.1,(a.2.2.2.2.1,(a.2.2.2.2.2.1,(a.2.2.2.2.2.2.1,(a.2.2.2.2.2.2.2.1,a.2.2.2.2.2.2.2.2))))))))).bind λl=>
 let k:=(w64 (c*l))
 let g:=(w64 (a.2.2.1.1+k))
 (j2H (b.1,b.2) (g,a.2.2.1.2)).bind λe=>
 some (e.1,e.2)) (
 (j2H (b.1,b.2) (a.2.2.1.1,a.2.2.1.2)).bind λd=>
 let j:=(w64 (3600*a.2.2.2.2.1))
 let i:=(w64 (j*c))
 let f:=(w64 (d.1+i))
 some (f,(cond d.2 (decide (f<=8589934592)) false))))
def j4E(a:ag):Option (ag):=
 cond (decide (List.length ([]:List ((Int×Int)))+List.length a<=aR)) (
 some (([]:List ((Int×Int)))++a)) none
def ja4(a:(Int×Int)):Option (Bool):=
 some (decide (a.2<=a.1))
def j1h(f b:Int)(c:ag):Option ((Int×Int×ag) ⊕ (ea ⊕ ag)):=
 cond (decide (b<f)) (
 cond (inR b (List.length c)) (
 let a:=(List.getD c (Int.toNat b) (0,0))
 (ja4 (a.1,a.2)).bind λe=>
 cond e (
 some (.inr (.inl (b,c)))) (
 let d:=(w64 (b+1))
 some (.inl (f,d,c)))) none) (
 some (.inr (.inr c)))
def xY[LP](a c:Int)(b:ag):Option (ea ⊕ ag):=
 LP.lp (unc3 (j1h)) (a,c,b)
theorem Sj(a c b):xY a c b=lpK (j1h a c b) (λh=>xY h.1 h.2.1 h.2.2):=bk _ _
def j1s[LP](a:ag):Option ea:=
 let b:=(Int.ofNat (List.length a))
 (xY b 0 a).bind λc=>
 sumC c (λd=>
 some (d.1,d.2)) (λe=>
 some ((-1),e))
def j19(d c:Int)(b:ag):Option ((Int×Int×ag) ⊕ (ea)):=
 let e:=(Int.ofNat (List.length b))
 cond (decide (c<e)) (
 cond (inR c (List.length b)) (
 let a:=(List.getD b (Int.toNat c) (0,0))
 (ja4 (a.1,a.2)).bind λg=>
 cond (!g) (
 cond (inR d (List.length b)) (
 let k:ag:=(List.set b (Int.toNat d) (a.1,a.2))
 let i:=(w64 (d+1))
 let j:=(w64 (c+1))
 some (.inl (i,j,k))) none) (
 let f:=(w64 (c+1))
 some (.inl (d,f,b)))) none) (
 some (.inr (d,b)))
def AJ[LP](a b:Int)(c:ag):Option (ea):=
 LP.lp (unc3 (j19)) (a,b,c)
theorem Sk(a b c):AJ a b c=lpK (j19 a b c) (λh=>AJ h.1 h.2.1 h.2.2):=bk _ _
def j0X[LP](c:ag):Option ea:=
 (j1s c).bind λb=>
 cond (b.1==(-1)) (
 some ((Int.ofNat (List.length b.2)),b.2)) (
 let e:=(w64 (b.1+1))
 (AJ b.1 e b.2).bind λa=>
 cond (decide (0<=a.1)&&decide (a.1<=(Int.ofNat (List.length a.2)))) (
 let d:ag:=(List.take (Int.toNat a.1) a.2++List.replicate (List.length a.2-(Int.toNat a.1)) (0,0))
 cond (decide (0<=a.1)&&decide (a.1<=(Int.ofNat (List.length d)))) (
 some ((Int.ofNat (Int.toNat a.1)),d)) none) none)
def j8x(a b:(Int×Int)):Option (Int):=
 let c:=(w64 (a.1-b.1))
 some c
def j1R(a:ag):Option (ag):=
 tz ((.pair (.int .i64) (.int .i64))) (λb c=>(j8x b c).getD 0) a
def j4S(j d:Int)(b f:ag):Option ((Int×Int×ag×ag) ⊕ (ag)):=
 cond (decide (d<j)) (
 cond (inR d (List.length f)) (
 let a:=(List.getD f (Int.toNat d) (0,0))
 let c:=(Int.ofNat (List.length b))
 cond (decide (c>0)) (
 let m:=(w64 (c-1))
 cond (inR m (List.length b)) (
 let u:=(List.getD b (Int.toNat m) (0,0)).2
 cond (decide (a.1<=u)) (
 let e:=(w64 (c-1))
 let k:=(w64 (c-1))
 cond (inR k (List.length b)) (
 let l:=(List.getD b (Int.toNat k) (0,0)).2
 let t:Int:=(if a.2>l then a.2 else l:Int)
 cond (inR e (List.length b)) (
 let q:ag:=(List.set b (Int.toNat e) ((List.getD b (Int.toNat e) (0,0)).1,t))
 let r:=(w64 (d+1))
 some (.inl (j,r,q,f))) none) none) (
 let i:ag:=[(a.1,a.2)]
 cond (decide (List.length b+List.length i<=aR)) (
 let p:ag:=(b++i)
 let n:=(w64 (d+1))
 some (.inl (j,n,p,f))) none)) none) (
 let g:ag:=[(a.1,a.2)]
 cond (decide (List.length b+List.length g<=aR)) (
 let s:ag:=(b++g)
 let o:=(w64 (d+1))
 some (.inl (j,o,s,f))) none)) none) (
 some (.inr b))
def xZ[LP](c a:Int)(d b:ag):Option (ag):=
 LP.lp (unc4 (j4S)) (c,a,d,b)
theorem Kq(c a d b):xZ c a d b=lpK (j4S c a d b) (λh=>xZ h.1 h.2.1 h.2.2.1 h.2.2.2):=bk _ _
def j61[LP](c:ag):Option (ag):=
 (j4E c).bind λg=>
 (j0X g).bind λb=>
 let d:ag:=(List.take (Int.toNat b.1) b.2)
 (j1R d).bind λa=>
 let e:=(Int.ofNat (List.length a))
 (xZ e 0 ([]:ag) a).bind λf=>
 some f
def j59(u:ag)(d s p:Int)(k:ag)(q e g a c:Int)(t:ag)(r:aa):Option ((ag×Int×Int×Int×ag×Int×Int×Int×Int×Int×ag×aa) ⊕ ((ag×Int×Int×Int×Int×Int×Int×ag×aa))):=
 cond (decide (e<q)) (
 cond (inR e (List.length k)) (
 let i:=(List.getD k (Int.toNat e) (0,0))
 let b:=(w64 (d+i.1))
 let n:Int:=(if b>g then b else g:Int)
 let j:=(w64 (d+i.2))
 let m:Int:=(if j<a then j else a:Int)
 let f:ag:=[(n,m)]
 cond (decide (List.length t+List.length f<=aR)) (
 let o:ag:=(t++f)
 let l:=(w64 (e+1))
 some (.inl (u,d,s,p,k,q,l,g,a,c,o,r))) none) none) (
 some (.inr (u,d,s,p,g,a,c,t,r)))
def AK[LP](m:ag)(j f c:Int)(i:ag)(k d g a b:Int)(l:ag)(e:aa):Option ((ag×Int×Int×Int×Int×Int×Int×ag×aa)):=
 LP.lp (jtI (j59)) (m,j,f,c,i,k,d,g,a,b,l,e)
theorem Sl(m j f c i k d g a b l e):AK m j f c i k d g a b l e=lpK (j59 m j f c i k d g a b l e) (λh=>AK h.1 h.2.1 h.2.2.1 h.2.2.2.1 h.2.2.2.2.1 h.2.2.2.2.2.1 h.2.2.2.2.2.2.1 h.2.2.2.2.2.2.2.1 h.2.2.2.2.2.2.2.2.1 h.2.2.2.2.2.2.2.2.2.1 h.2.2.2.2.2.2.2.2.2.2.1 h.2.2.2.2.2.2.2.2.2.2.2):=bk _ _
def j2K[LP](d:ag)(k j g m b e:Int)(l:ag)(i:aa):Option ((ag×Int×Int×Int×Int×Int×Int×ag×aa) ⊕ ((ag×Int×Int×ag×aa))):=
 cond (decide (k<b)) (
 let f:=(Int.ofNat (List.length d))
 (AK d k j g d f 0 m b e l i).bind λa=>
 let c:=(w64 (a.2.1+604800))
 some (.inl (a.1,c,a.2.2.1,a.2.2.2.1,a.2.2.2.2.1,a.2.2.2.2.2.1,a.2.2.2.2.2.2.1,a.2.2.2.2.2.2.2.1,a.2.2.2.2.2.2.2.2))) (
 some (.inr (d,j,g,l,i)))
def AL[LP](j:ag)(g e c f a b:Int)(i:ag)(d:aa):Option ((ag×Int×Int×ag×aa)):=
 LP.lp (unc9 (j2K)) (j,g,e,c,f,a,b,i,d)
theorem Sn(j g e c f a b i d):AL j g e c f a b i d=lpK (j2K j g e c f a b i d) (λh=>AL h.1 h.2.1 h.2.2.1 h.2.2.2.1 h.2.2.2.2.1 h.2.2.2.2.2.1 h.2.2.2.2.2.2.1 h.2.2.2.2.2.2.2.1 h.2.2.2.2.2.2.2.2):=bk _ _
def j2L[LP](o:ag)(m c:Int)(n:ag)(e:aa):Option ((ag×Int×Int×ag×aa) ⊕ (ag)):=
 cond (decide (c<m)) (
 cond (inR c (List.length e)) (
 let a:=(List.getD e (Int.toNat c) (0,(0,0)))
 let i:=(w64 (a.1+a.2.2))
 let d:=(w64 (i-(-259200)))
 let l:=(Int.tmod d 604800)
 let g:=(w64 (d-l))
 let k:=(w64 (g+(-259200)))
 let f:=(w64 (k-a.2.2))
 (AL o f m c a.1 a.2.1 a.2.2 n e).bind λb=>
 let j:=(w64 (b.2.2.1+1))
 some (.inl (b.1,b.2.1,j,b.2.2.2.1,b.2.2.2.2))) none) (
 some (.inr n))
def AM[LP](e:ag)(c a:Int)(d:ag)(b:aa):Option (ag):=
 LP.lp (unc5 (j2L)) (e,c,a,d,b)
theorem Sp(e c a d b):AM e c a d b=lpK (j2L e c a d b) (λh=>AM h.1 h.2.1 h.2.2.1 h.2.2.2.1 h.2.2.2.2):=bk _ _
def j2x[LP](b:ea)(e:ag)(a c:Int):Option (ag):=
 (j1Z (b.1,b.2) a c).bind λd=>
 let g:=(Int.ofNat (List.length d))
 (AM e g 0 ([]:ag) d).bind λi=>
 (j61 i).bind λf=>
 some f
def j4j(t s:Int)(i:(List Int))(u d:Int)(w:ByteArray)(g:Int)(j:(List Int))(k b c:Int)(v:ag)(r:aa):Option ((Int×Int×(List Int)×Int×Int×ByteArray×Int×(List Int)×Int×Int×Int×ag×aa) ⊕ ((Int×Int×ByteArray×Int×(List Int)×ag×aa))):=
 cond (decide (d<u)) (
 cond (inR d (List.length i)) (
 let n:=(List.getD i (Int.toNat d) 0)
 let p:=(w64 (n*86400))
 let a:=(w64 (p-c))
 let q:Int:=(if a>k then a else k:Int)
 let f:=(w64 (a+86400))
 let l:Int:=(if f<b then f else b:Int)
 let e:ag:=[(q,l)]
 cond (decide (List.length v+List.length e<=aR)) (
 let o:ag:=(v++e)
 let m:=(w64 (d+1))
 some (.inl (t,s,i,u,m,w,g,j,k,b,c,o,r))) none) none) (
 some (.inr (t,s,w,g,j,v,r)))
def x8[LP](e j:Int)(g:(List Int))(i l:Int)(m:ByteArray)(c:Int)(d:(List Int))(k a b:Int)(n:ag)(f:aa):Option ((Int×Int×ByteArray×Int×(List Int)×ag×aa)):=
 LP.lp (jx4 (j4j)) (e,j,g,i,l,m,c,d,k,a,b,n,f)
theorem Sq(e j g i l m c d k a b n f):x8 e j g i l m c d k a b n f=lpK (j4j e j g i l m c d k a b n f) (λh=>x8 h.1 h.2.1 h.2.2.1 h.2.2.2.1 h.2.2.2.2.1 h.2.2.2.2.2.1 h.2.2.2.2.2.2.1 h.2.2.2.2.2.2.2.1 h.2.2.2.2.2.2.2.2.1 h.2.2.2.2.2.2.2.2.2.1 h.2.2.2.2.2.2.2.2.2.2.1 h.2.2.2.2.2.2.2.2.2.2.2.1 h.2.2.2.2.2.2.2.2.2.2.2.2):=bk _ _
def j2h[LP](i d:Int)(l:ByteArray)(j:Int)(c:(List Int))(k:ag)(e:aa):Option ((Int×Int×ByteArray×Int×(List Int)×ag×aa) ⊕ (ag)):=
 cond (decide (d<i)) (
 cond (inR d (List.length e)) (
 let b:=(List.getD e (Int.toNat d) (0,(0,0)))
 let f:=(Int.ofNat (List.length c))
 (x8 i d c f 0 l j c b.1 b.2.1 b.2.2 k e).bind λa=>
 let g:=(w64 (a.2.1+1))
 some (.inl (a.1,g,a.2.2.1,a.2.2.2.1,a.2.2.2.2.1,a.2.2.2.2.2.1,a.2.2.2.2.2.2))) none) (
 some (.inr k))
def x9[LP](c e:Int)(f:ByteArray)(a:Int)(b:(List Int))(g:ag)(d:aa):Option (ag):=
 LP.lp (unc7 (j2h)) (c,e,f,a,b,g,d)
theorem Sr(c e f a b g d):x9 c e f a b g d=lpK (j2h c e f a b g d) (λh=>x9 h.1 h.2.1 h.2.2.1 h.2.2.2.1 h.2.2.2.2.1 h.2.2.2.2.2.1 h.2.2.2.2.2.2):=bk _ _
def j2s[LP](c:iu)(a:qJ)(b d:Int):Option (ag):=
 cond (inR a.2.1 (List.length c.2)) (
 let f:=(List.getD c.2 (Int.toNat a.2.1) (0,([]:ag)))
 (j1Z (f.1,f.2) b d).bind λe=>
 let i:=(Int.ofNat (List.length e))
 (x9 i 0 a.1 a.2.1 a.2.2 ([]:ag) e).bind λj=>
 (j61 j).bind λg=>
 some g) none
def j5a(c:ag)(b:Int)(d:ag)(e f k a:Int)(l:ag):Option ((ag×Int×ag×Int×Int×Int×Int×ag) ⊕ ((ag×Int×ag×Int×Int×Int×Int×ag))):=
 let g:=(Int.ofNat (List.length c))
 cond (decide (b<g)) (
 cond (inR b (List.length c)) (
 let i:=(List.getD c (Int.toNat b) (0,0))
 cond (decide (i.2<=k)) (
 let j:=(w64 (b+1))
 some (.inl (c,j,d,e,f,k,a,l))) (
 some (.inr (c,b,d,e,f,k,a,l)))) none) (
 some (.inr (c,b,d,e,f,k,a,l)))
def AN[LP](g:ag)(e:Int)(b:ag)(c d i a:Int)(f:ag):Option ((ag×Int×ag×Int×Int×Int×Int×ag)):=
 LP.lp (unc8 (j5a)) (g,e,b,c,d,i,a,f)
theorem Su(g e b c d i a f):AN g e b c d i a f=lpK (j5a g e b c d i a f) (λh=>AN h.1 h.2.1 h.2.2.1 h.2.2.2.1 h.2.2.2.2.1 h.2.2.2.2.2.1 h.2.2.2.2.2.2.1 h.2.2.2.2.2.2.2):=bk _ _
def j5b(b:ag)(n d a:Int)(e:ag)(g i p c:Int)(l:ag):Option ((ag×Int×Int×Int×ag×Int×Int×Int×Int×ag) ⊕ ((ag×Int×Int×ag×Int×Int×Int×Int×ag))):=
 let t:=(Int.ofNat (List.length b))
 cond (decide (a<t)) (
 cond (inR a (List.length b)) (
 let r:=(List.getD b (Int.toNat a) (0,0))
 cond (decide (r.1<c)) (
 cond (inR a (List.length b)) (
 let s:=(List.getD b (Int.toNat a) (0,0))
 cond (decide (d<s.1)) (
 cond (inR a (List.length b)) (
 let q:=(List.getD b (Int.toNat a) (0,0))
 let k:ag:=[(d,q.1)]
 cond (decide (List.length l+List.length k<=aR)) (
 let m:ag:=(l++k)
 cond (inR a (List.length b)) (
 let f:=(List.getD b (Int.toNat a) (0,0))
 let v:Int:=(if f.2>d then f.2 else d:Int)
 let w:=(w64 (a+1))
 some (.inl (b,n,v,w,e,g,i,p,c,m))) none) none) none) (
 cond (inR a (List.length b)) (
 let j:=(List.getD b (Int.toNat a) (0,0))
 let u:Int:=(if j.2>d then j.2 else d:Int)
 let o:=(w64 (a+1))
 some (.inl (b,n,u,o,e,g,i,p,c,l))) none)) none) (
 some (.inr (b,n,d,e,g,i,p,c,l)))) none) (
 some (.inr (b,n,d,e,g,i,p,c,l)))
def ya[LP](i:ag)(f k c:Int)(b:ag)(d e j a:Int)(g:ag):Option ((ag×Int×Int×ag×Int×Int×Int×Int×ag)):=
 LP.lp (jtG (j5b)) (i,f,k,c,b,d,e,j,a,g)
theorem Sv(i f k c b d e j a g):ya i f k c b d e j a g=lpK (j5b i f k c b d e j a g) (λh=>ya h.1 h.2.1 h.2.2.1 h.2.2.2.1 h.2.2.2.2.1 h.2.2.2.2.2.1 h.2.2.2.2.2.2.1 h.2.2.2.2.2.2.2.1 h.2.2.2.2.2.2.2.2.1 h.2.2.2.2.2.2.2.2.2):=bk _ _
def j2M[LP](n:ag)(m:Int)(f:ag)(k e:Int)(l:ag):Option ((ag×Int×ag×Int×Int×ag) ⊕ (ag)):=
 cond (decide (e<k)) (
 cond (inR e (List.length f)) (
 let d:=(List.getD f (Int.toNat e) (0,0))
 (AN n m f k e d.1 d.2 l).bind λb=>
 (ya b.1 b.2.1 b.2.2.2.2.2.1 b.2.1 b.2.2.1 b.2.2.2.1 b.2.2.2.2.1 b.2.2.2.2.2.1 b.2.2.2.2.2.2.1 b.2.2.2.2.2.2.2).bind λa=>
 cond (decide (a.2.2.1<a.2.2.2.2.2.2.2.1)) (
 let c:ag:=[(a.2.2.1,a.2.2.2.2.2.2.2.1)]
 cond (decide (List.length a.2.2.2.2.2.2.2.2+List.length c<=aR)) (
 let g:ag:=(a.2.2.2.2.2.2.2.2++c)
 let i:=(w64 (a.2.2.2.2.2.1+1))
 some (.inl (a.1,a.2.1,a.2.2.2.1,a.2.2.2.2.1,i,g))) none) (
 let j:=(w64 (a.2.2.2.2.2.1+1))
 some (.inl (a.1,a.2.1,a.2.2.2.1,a.2.2.2.2.1,j,a.2.2.2.2.2.2.2.2)))) none) (
 some (.inr l))
def vL[LP](f:ag)(d:Int)(a:ag)(b c:Int)(e:ag):Option (ag):=
 LP.lp (unc6 (j2M)) (f,d,a,b,c,e)
theorem Sw(f d a b c e):vL f d a b c e=lpK (j2M f d a b c e) (λh=>vL h.1 h.2.1 h.2.2.1 h.2.2.2.1 h.2.2.2.2.1 h.2.2.2.2.2):=bk _ _
def j32[LP](a b:ag):Option (ag):=
 let c:=(Int.ofNat (List.length a))
 (vL b 0 a c 0 ([]:ag)).bind λd=>
 some d
def j7d(b d:ag)(a c:Int)(n:ag):Option ((ag×ag×Int×Int×ag) ⊕ (ag)):=
 let o:=(Int.ofNat (List.length b))
 let u:=(Int.ofNat (List.length d))
 cond (cond (decide (a<o)) (decide (c<u)) false) (
 cond (inR a (List.length b)) (
 let j:=(List.getD b (Int.toNat a) (0,0))
 cond (inR c (List.length d)) (
 let g:=(List.getD d (Int.toNat c) (0,0))
 let i:Int:=(if g.1>j.1 then g.1 else j.1:Int)
 cond (inR a (List.length b)) (
 let m:=(List.getD b (Int.toNat a) (0,0))
 cond (inR c (List.length d)) (
 let e:=(List.getD d (Int.toNat c) (0,0))
 let l:Int:=(if e.2<m.2 then e.2 else m.2:Int)
 cond (decide (i<l)) (
 let k:ag:=[(i,l)]
 cond (decide (List.length n+List.length k<=aR)) (
 let f:ag:=(n++k)
 cond (inR a (List.length b)) (
 let v:=(List.getD b (Int.toNat a) (0,0))
 cond (inR c (List.length d)) (
 let p:=(List.getD d (Int.toNat c) (0,0))
 cond (decide (v.2<p.2)) (
 let t:=(w64 (a+1))
 some (.inl (b,d,t,c,f))) (
 let q:=(w64 (c+1))
 some (.inl (b,d,a,q,f)))) none) none) none) (
 cond (inR a (List.length b)) (
 let w:=(List.getD b (Int.toNat a) (0,0))
 cond (inR c (List.length d)) (
 let x:=(List.getD d (Int.toNat c) (0,0))
 cond (decide (w.2<x.2)) (
 let r:=(w64 (a+1))
 some (.inl (b,d,r,c,n))) (
 let s:=(w64 (c+1))
 some (.inl (b,d,a,s,n)))) none) none)) none) none) none) none) (
 some (.inr n))
def tC[LP](a e:ag)(c b:Int)(d:ag):Option (ag):=
 LP.lp (unc5 (j7d)) (a,e,c,b,d)
theorem jjS(a e c b d):tC a e c b d=lpK (j7d a e c b d) (λh=>tC h.1 h.2.1 h.2.2.1 h.2.2.2.1 h.2.2.2.2):=bk _ _
def j4p[LP](a b:ag):Option (ag):=
 (tC a b 0 0 ([]:ag)).bind λc=>
 some c
def j4G[LP](a:iu)(b:ir)(d c:Int):Option (ag):=
 cond (inR b.2.1 (List.length a.2)) (
 let s:=(List.getD a.2 (Int.toNat b.2.1) (0,([]:ag)))
 (j1g (s.1,s.2) (b.1,(b.2.1,((b.2.2.1.1,b.2.2.1.2),(b.2.2.2.1,(b.2.2.2.2.1,(b.2.2.2.2.2.1,(b.2.2.2.2.2.2.1,(b.2.2.2.2.2.2.2.1,b.2.2.2.2.2.2.2.2)))))))) 0).bind λi=>
 cond (cond (cond (!i.2) true (decide (i.1>=c))) true (decide (d>=c))) (
 some ([]:ag)) (
 let e:Int:=(if i.1>d then i.1 else d:Int)
 let k:ag:=[(e,c)]
 let w:=(Int.ofNat (List.length b.2.2.2.2.2.2.1))
 cond (decide (w>0)) (
 cond (inR b.2.1 (List.length a.2)) (
 let r:=(List.getD a.2 (Int.toNat b.2.1) (0,([]:ag)))
 (j2x (r.1,r.2) b.2.2.2.2.2.2.1 e c).bind λm=>
 cond (b.2.2.2.2.2.2.2.2==1) (
 cond (inR b.2.2.2.2.2.2.2.1 (List.length a.1.2.2.1)) (
 let j:=(List.getD a.1.2.2.1 (Int.toNat b.2.2.2.2.2.2.2.1) (ByteArray.empty,(0,([]:(List Int)))))
 (j2s ((a.1.1,(a.1.2.1,(a.1.2.2.1,a.1.2.2.2))),a.2) (j.1,(j.2.1,j.2.2)) e c).bind λx=>
 (j32 m x).bind λu=>
 some u) none) (
 cond (b.2.2.2.2.2.2.2.2==2) (
 cond (inR b.2.2.2.2.2.2.2.1 (List.length a.1.2.2.1)) (
 let l:=(List.getD a.1.2.2.1 (Int.toNat b.2.2.2.2.2.2.2.1) (ByteArray.empty,(0,([]:(List Int)))))
 (j2s ((a.1.1,(a.1.2.1,(a.1.2.2.1,a.1.2.2.2))),a.2) (l.1,(l.2.1,l.2.2)) e c).bind λv=>
 (j4p m v).bind λt=>
 some t) none) (
 some m))) none) (
 cond (b.2.2.2.2.2.2.2.2==1) (
 cond (inR b.2.2.2.2.2.2.2.1 (List.length a.1.2.2.1)) (
 let g:=(List.getD a.1.2.2.1 (Int.toNat b.2.2.2.2.2.2.2.1) (ByteArray.empty,(0,([]:(List Int)))))
 (j2s ((a.1.1,(a.1.2.1,(a.1.2.2.1,a.1.2.2.2))),a.2) (g.1,(g.2.1,g.2.2)) e c).bind λo=>
 (j32 k o).bind λp=>
 some p) none) (
 cond (b.2.2.2.2.2.2.2.2==2) (
 cond (inR b.2.2.2.2.2.2.2.1 (List.length a.1.2.2.1)) (
 let f:=(List.getD a.1.2.2.1 (Int.toNat b.2.2.2.2.2.2.2.1) (ByteArray.empty,(0,([]:(List Int)))))
 (j2s ((a.1.1,(a.1.2.1,(a.1.2.2.1,a.1.2.2.2))),a.2) (f.1,(f.2.1,f.2.2)) e c).bind λq=>
 (j4p k q).bind λn=>
 some n) none) (
 some k))))) none
def j4q[LP](a:ea)(b:Int):Option (Int):=
 (j4f (a.1,a.2) b).bind λc=>
 (j5D (a.1,a.2) c).bind λd=>
 some d
def jh8(a:Int):Option ((Int×Int)):=
 let e:=(w64 (Int.tdiv a 86400))
 let i:=(Int.tmod a 86400)
 cond (decide (i<0)) (
 let d:=(w64 (e-1))
 let g:=(w64 (d*86400))
 let f:=(w64 (a-g))
 some (d,f)) (
 let c:=(w64 (e*86400))
 let b:=(w64 (a-c))
 some (e,b))
def j1B[LP](a:ea)(b:Int):Option ((Int×Int)):=
 (j4q (a.1,a.2) b).bind λe=>
 let d:=(w64 (b+e))
 (jh8 d).bind λc=>
 some (c.1,c.2)
def j2y[LP](n m q:Int)(d:ag)(o:ByteArray)(i j e k g:Int)(a:(List Int))(c:ag)(f b:Int):Option ((Int×Int×Int×ag×ByteArray×Int×Int×Int×Int×Int×(List Int)×ag×Int×Int) ⊕ ((Int×Int×Int×ag×ByteArray×Int×Int×Int×Int×Int×(List Int)×ag×Int×Int))):=
 cond (decide (m>0)) (
 (j1g (q,d) (o,(i,((j,e),(k,(g,(a,(c,(f,b)))))))) m).bind λl=>
 cond (cond l.2 (decide (l.1<=n)) false) (
 some (.inr (n,m,q,d,o,i,j,e,k,g,a,c,f,b))) (
 let p:=(w64 (m-1))
 some (.inl (n,p,q,d,o,i,j,e,k,g,a,c,f,b)))) (
 some (.inr (n,m,q,d,o,i,j,e,k,g,a,c,f,b)))
def AO[LP](l o n:Int)(d:ag)(m:ByteArray)(i j e k g:Int)(a:(List Int))(c:ag)(f b:Int):Option ((Int×Int×Int×ag×ByteArray×Int×Int×Int×Int×Int×(List Int)×ag×Int×Int)):=
 LP.lp (jmL (j2y)) (l,o,n,d,m,i,j,e,k,g,a,c,f,b)
theorem Sz(l o n d m i j e k g a c f b):AO l o n d m i j e k g a c f b=lpK (j2y l o n d m i j e k g a c f b) (λh=>AO h.1 h.2.1 h.2.2.1 h.2.2.2.1 h.2.2.2.2.1 h.2.2.2.2.2.1 h.2.2.2.2.2.2.1 h.2.2.2.2.2.2.2.1 h.2.2.2.2.2.2.2.2.1 h.2.2.2.2.2.2.2.2.2.1 h.2.2.2.2.2.2.2.2.2.2.1 h.2.2.2.2.2.2.2.2.2.2.2.1 h.2.2.2.2.2.2.2.2.2.2.2.2.1 h.2.2.2.2.2.2.2.2.2.2.2.2.2):=bk _ _
def j33[LP](p o r:Int)(e:ag)(q:ByteArray)(j k f l i:Int)(b:(List Int))(d:ag)(g c:Int):Option ((Int×Int×Int×ag×ByteArray×Int×Int×Int×Int×Int×(List Int)×ag×Int×Int) ⊕ (Int)):=
 let m:=(w64 (o+1))
 (j1g (r,e) (q,(j,((k,f),(l,(i,(b,(d,(g,c)))))))) m).bind λa=>
 cond (cond (!a.2) true (decide (a.1>p))) (
 some (.inr o)) (
 let n:=(w64 (o+1))
 some (.inl (p,n,r,e,q,j,k,f,l,i,b,d,g,c)))
def AP[LP](l o n:Int)(d:ag)(m:ByteArray)(i j e k g:Int)(a:(List Int))(c:ag)(f b:Int):Option (Int):=
 LP.lp (jmL (j33)) (l,o,n,d,m,i,j,e,k,g,a,c,f,b)
theorem jhS(l o n d m i j e k g a c f b):AP l o n d m i j e k g a c f b=lpK (j33 l o n d m i j e k g a c f b) (λh=>AP h.1 h.2.1 h.2.2.1 h.2.2.2.1 h.2.2.2.2.1 h.2.2.2.2.2.1 h.2.2.2.2.2.2.1 h.2.2.2.2.2.2.2.1 h.2.2.2.2.2.2.2.2.1 h.2.2.2.2.2.2.2.2.2.1 h.2.2.2.2.2.2.2.2.2.2.1 h.2.2.2.2.2.2.2.2.2.2.2.1 h.2.2.2.2.2.2.2.2.2.2.2.2.1 h.2.2.2.2.2.2.2.2.2.2.2.2.2):=bk _ _
def j3v[LP](c:ea)(a:ir)(d:Int):Option (Int):=
 (j1g (c.1,c.2) (a.1,(a.2.1,((a.2.2.1.1,a.2.2.1.2),(a.2.2.2.1,(a.2.2.2.2.1,(a.2.2.2.2.2.1,(a.2.2.2.2.2.2.1,(a.2.2.2.2.2.2.2.1,a.2.2.2.2.2.2.2.2)))))))) 0).bind λe=>
 cond (cond (!e.2) true (decide (e.1>d))) (
 some (-1)) (
 cond (a.2.2.2.1==0) (
 let k:=(w64 (d-e.1))
 let i:=(w64 (3600*a.2.2.2.2.1))
 cond (!(i==0)) (
 let m:=(w64 (Int.tdiv k i))
 some m) none) (
 (j1B (c.1,c.2) d).bind λn=>
 let l:=(w64 (n.1-a.2.2.1.1))
 (jb5 (a.1,(a.2.1,((a.2.2.1.1,a.2.2.1.2),(a.2.2.2.1,(a.2.2.2.2.1,(a.2.2.2.2.2.1,(a.2.2.2.2.2.2.1,(a.2.2.2.2.2.2.2.1,a.2.2.2.2.2.2.2.2))))))))).bind λf=>
 cond (!(f==0)) (
 let g:=(w64 (Int.tdiv l f))
 let j:Int:=(if g>0 then g else 0:Int)
 (AO d j c.1 c.2 a.1 a.2.1 a.2.2.1.1 a.2.2.1.2 a.2.2.2.1 a.2.2.2.2.1 a.2.2.2.2.2.1 a.2.2.2.2.2.2.1 a.2.2.2.2.2.2.2.1 a.2.2.2.2.2.2.2.2).bind λb=>
 (AP b.1 b.2.1 b.2.2.1 b.2.2.2.1 b.2.2.2.2.1 b.2.2.2.2.2.1 b.2.2.2.2.2.2.1 b.2.2.2.2.2.2.2.1 b.2.2.2.2.2.2.2.2.1 b.2.2.2.2.2.2.2.2.2.1 b.2.2.2.2.2.2.2.2.2.2.1 b.2.2.2.2.2.2.2.2.2.2.2.1 b.2.2.2.2.2.2.2.2.2.2.2.2.1 b.2.2.2.2.2.2.2.2.2.2.2.2.2).bind λo=>
 some o) none))
def j6a(f:aa)(m e:Int)(b:aa):Option ((aa×Int×Int×aa) ⊕ (aa)):=
 cond (decide (e<m)) (
 cond (inR e (List.length f)) (
 let a:=(List.getD f (Int.toNat e) (0,(0,0)))
 cond (decide (a.2.1<=a.1)) (
 let q:=(w64 (e+1))
 some (.inl (f,m,q,b))) (
 let c:=(Int.ofNat (List.length b))
 cond (decide (c>0)) (
 let l:=(w64 (c-1))
 cond (inR l (List.length b)) (
 let v:=(List.getD b (Int.toNat l) (0,(0,0))).2.1
 cond (v==a.1) (
 let i:=(w64 (c-1))
 cond (inR i (List.length b)) (
 let w:=(List.getD b (Int.toNat i) (0,(0,0))).2.2
 cond (w==a.2.2) (
 let d:=(w64 (c-1))
 cond (inR d (List.length b)) (
 let x:aa:=(List.set b (Int.toNat d) ((List.getD b (Int.toNat d) (0,(0,0))).1,(a.2.1,(List.getD b (Int.toNat d) (0,(0,0))).2.2)))
 let s:=(w64 (e+1))
 some (.inl (f,m,s,x))) none) (
 let k:aa:=[(a.1,(a.2.1,a.2.2))]
 cond (decide (List.length b+List.length k<=aR)) (
 let u:aa:=(b++k)
 let r:=(w64 (e+1))
 some (.inl (f,m,r,u))) none)) none) (
 let j:aa:=[(a.1,(a.2.1,a.2.2))]
 cond (decide (List.length b+List.length j<=aR)) (
 let t:aa:=(b++j)
 let n:=(w64 (e+1))
 some (.inl (f,m,n,t))) none)) none) (
 let g:aa:=[(a.1,(a.2.1,a.2.2))]
 cond (decide (List.length b+List.length g<=aR)) (
 let p:aa:=(b++g)
 let o:=(w64 (e+1))
 some (.inl (f,m,o,p))) none))) none) (
 some (.inr b))
def vM[LP](b:aa)(d a:Int)(c:aa):Option (aa):=
 LP.lp (unc4 (j6a)) (b,d,a,c)
theorem SA(a c d b):vM a c d b=lpK (j6a a c d b) (λh=>vM h.1 h.2.1 h.2.2.1 h.2.2.2):=bk _ _
def j7C[LP](a:aa):Option (aa):=
 let c:=(Int.ofNat (List.length a))
 (vM a c 0 ([]:aa)).bind λb=>
 some b
def j1X[LP](b4 o b0 w a6 a2:Int)(a7:ByteArray)(f j k g e:Int)(a:(List Int))(i:ag)(l m p:Int)(c:ag)(a9 b:Int)(z:aa)(a3:ag):Option ((Int×Int×Int×Int×Int×Int×ByteArray×Int×Int×Int×Int×Int×(List Int)×ag×Int×Int×Int×ag×Int×Int×aa×ag) ⊕ ((Int×Int×Int×Int×Int×Int×ByteArray×Int×Int×Int×Int×Int×(List Int)×ag×Int×Int×Int×ag×aa×ag))):=
 cond (decide (o<b)) (
 cond (decide (o>=w)) (
 (j3v (p,c) (a7,(f,((j,k),(g,(e,(a,(i,(l,m)))))))) o).bind λd=>
 let b6:=(w64 (d+1))
 (j1g (p,c) (a7,(f,((j,k),(g,(e,(a,(i,(l,m)))))))) b6).bind λn=>
 cond (!n.2) (
 let a0:Int:=(if 8589934593<b then 8589934593 else b:Int)
 let a4:=(Int.ofNat (List.length a))
 cond (!(a4==0)) (
 let a1:=(Int.tmod d a4)
 cond (inR a1 (List.length a)) (
 let b5:=(List.getD a (Int.toNat a1) 0)
 let a5:aa:=[(o,(a0,b5))]
 cond (decide (List.length z+List.length a5<=aR)) (
 let b7:aa:=(z++a5)
 some (.inl (b4,a0,d,8589934593,a6,a2,a7,f,j,k,g,e,a,i,l,m,p,c,a9,b,b7,a3))) none) none) none) (
 let v:Int:=(if n.1<b then n.1 else b:Int)
 let x:=(Int.ofNat (List.length a))
 cond (!(x==0)) (
 let y:=(Int.tmod d x)
 cond (inR y (List.length a)) (
 let b2:=(List.getD a (Int.toNat y) 0)
 let u:aa:=[(o,(v,b2))]
 cond (decide (List.length z+List.length u<=aR)) (
 let a8:aa:=(z++u)
 some (.inl (b4,v,d,n.1,a6,a2,a7,f,j,k,g,e,a,i,l,m,p,c,a9,b,a8,a3))) none) none) none)) (
 let s:Int:=(if w<b then w else b:Int)
 let t:=(Int.ofNat (List.length a))
 cond (!(t==0)) (
 let r:=(Int.tmod b0 t)
 cond (inR r (List.length a)) (
 let b3:=(List.getD a (Int.toNat r) 0)
 let q:aa:=[(o,(s,b3))]
 cond (decide (List.length z+List.length q<=aR)) (
 let b1:aa:=(z++q)
 some (.inl (b4,s,b0,w,a6,a2,a7,f,j,k,g,e,a,i,l,m,p,c,a9,b,b1,a3))) none) none) none)) (
 some (.inr (b4,o,b0,w,a6,a2,a7,f,j,k,g,e,a,i,l,m,p,c,z,a3)))
def yb[LP](u n p q t r:Int)(w:ByteArray)(d g i e c:Int)(j:(List Int))(f:ag)(k l m:Int)(a:ag)(o b:Int)(v:aa)(s:ag):Option ((Int×Int×Int×Int×Int×Int×ByteArray×Int×Int×Int×Int×Int×(List Int)×ag×Int×Int×Int×ag×aa×ag)):=
 LP.lp (jAc (j1X)) (u,n,p,q,t,r,w,d,g,i,e,c,j,f,k,l,m,a,o,b,v,s)
theorem jeN(u n p q t r w d g i e c j f k l m a o b v s):yb u n p q t r w d g i e c j f k l m a o b v s=lpK (j1X u n p q t r w d g i e c j f k l m a o b v s) (λh=>yb h.1 h.2.1 h.2.2.1 h.2.2.2.1 h.2.2.2.2.1 h.2.2.2.2.2.1 h.2.2.2.2.2.2.1 h.2.2.2.2.2.2.2.1 h.2.2.2.2.2.2.2.2.1 h.2.2.2.2.2.2.2.2.2.1 h.2.2.2.2.2.2.2.2.2.2.1 h.2.2.2.2.2.2.2.2.2.2.2.1 h.2.2.2.2.2.2.2.2.2.2.2.2.1 h.2.2.2.2.2.2.2.2.2.2.2.2.2.1 h.2.2.2.2.2.2.2.2.2.2.2.2.2.2.1 h.2.2.2.2.2.2.2.2.2.2.2.2.2.2.2.1 h.2.2.2.2.2.2.2.2.2.2.2.2.2.2.2.2.1 h.2.2.2.2.2.2.2.2.2.2.2.2.2.2.2.2.2.1 h.2.2.2.2.2.2.2.2.2.2.2.2.2.2.2.2.2.2.1 h.2.2.2.2.2.2.2.2.2.2.2.2.2.2.2.2.2.2.2.1 h.2.2.2.2.2.2.2.2.2.2.2.2.2.2.2.2.2.2.2.2.1 h.2.2.2.2.2.2.2.2.2.2.2.2.2.2.2.2.2.2.2.2.2):=bk _ _
def j1y[LP](v j x y k c:Int)(z:ByteArray)(n q r o m:Int)(s:(List Int))(p:ag)(t u w:Int)(g:ag)(l:aa)(e:ag):Option ((Int×Int×Int×Int×Int×Int×ByteArray×Int×Int×Int×Int×Int×(List Int)×ag×Int×Int×Int×ag×aa×ag) ⊕ ((Int×Int×aa))):=
 cond (decide (c<k)) (
 cond (inR c (List.length e)) (
 let b:=(List.getD e (Int.toNat c) (0,0))
 let d:aa:=[(j,(b.1,(-1)))]
 cond (decide (List.length l+List.length d<=aR)) (
 let i:aa:=(l++d)
 (yb v b.1 x y k c z n q r o m s p t u w g b.1 b.2 i e).bind λa=>
 let f:=(w64 (a.2.2.2.2.2.1+1))
 some (.inl (a.1,a.2.1,a.2.2.1,a.2.2.2.1,a.2.2.2.2.1,f,a.2.2.2.2.2.2.1,a.2.2.2.2.2.2.2.1,a.2.2.2.2.2.2.2.2.1,a.2.2.2.2.2.2.2.2.2.1,a.2.2.2.2.2.2.2.2.2.2.1,a.2.2.2.2.2.2.2.2.2.2.2.1,a.2.2.2.2.2.2.2.2.2.2.2.2.1,a.2.2.2.2.2.2.2.2.2.2.2.2.2.1,a.2.2.2.2.2.2.2.2.2.2.2.2.2.2.1,a.2.2.2.2.2.2.2.2.2.2.2.2.2.2.2.1,a.2.2.2.2.2.2.2.2.2.2.2.2.2.2.2.2.1,a.2.2.2.2.2.2.2.2.2.2.2.2.2.2.2.2.2.1,a.2.2.2.2.2.2.2.2.2.2.2.2.2.2.2.2.2.2.1,a.2.2.2.2.2.2.2.2.2.2.2.2.2.2.2.2.2.2.2))) none) none) (
 some (.inr (v,j,l)))
def yc[LP](s m n o r p:Int)(u:ByteArray)(c f g d b:Int)(i:(List Int))(e:ag)(j k l:Int)(a:ag)(t:aa)(q:ag):Option ((Int×Int×aa)):=
 LP.lp (jAb (j1y)) (s,m,n,o,r,p,u,c,f,g,d,b,i,e,j,k,l,a,t,q)
theorem SB(s m n o r p u c f g d b i e j k l a t q):yc s m n o r p u c f g d b i e j k l a t q=lpK (j1y s m n o r p u c f g d b i e j k l a t q) (λh=>yc h.1 h.2.1 h.2.2.1 h.2.2.2.1 h.2.2.2.2.1 h.2.2.2.2.2.1 h.2.2.2.2.2.2.1 h.2.2.2.2.2.2.2.1 h.2.2.2.2.2.2.2.2.1 h.2.2.2.2.2.2.2.2.2.1 h.2.2.2.2.2.2.2.2.2.2.1 h.2.2.2.2.2.2.2.2.2.2.2.1 h.2.2.2.2.2.2.2.2.2.2.2.2.1 h.2.2.2.2.2.2.2.2.2.2.2.2.2.1 h.2.2.2.2.2.2.2.2.2.2.2.2.2.2.1 h.2.2.2.2.2.2.2.2.2.2.2.2.2.2.2.1 h.2.2.2.2.2.2.2.2.2.2.2.2.2.2.2.2.1 h.2.2.2.2.2.2.2.2.2.2.2.2.2.2.2.2.2.1 h.2.2.2.2.2.2.2.2.2.2.2.2.2.2.2.2.2.2.1 h.2.2.2.2.2.2.2.2.2.2.2.2.2.2.2.2.2.2.2):=bk _ _
def j21[LP](b:iu)(a:ir)(c d:Int):Option (aa):=
 cond (inR a.2.1 (List.length b.2)) (
 let i:=(List.getD b.2 (Int.toNat a.2.1) (0,([]:ag)))
 (j4G ((b.1.1,(b.1.2.1,(b.1.2.2.1,b.1.2.2.2))),b.2) (a.1,(a.2.1,((a.2.2.1.1,a.2.2.1.2),(a.2.2.2.1,(a.2.2.2.2.1,(a.2.2.2.2.2.1,(a.2.2.2.2.2.2.1,(a.2.2.2.2.2.2.2.1,a.2.2.2.2.2.2.2.2)))))))) c d).bind λf=>
 let k:=(Int.ofNat (List.length f))
 (yc d c (-1) (-1) k 0 a.1 a.2.1 a.2.2.1.1 a.2.2.1.2 a.2.2.2.1 a.2.2.2.2.1 a.2.2.2.2.2.1 a.2.2.2.2.2.2.1 a.2.2.2.2.2.2.2.1 a.2.2.2.2.2.2.2.2 i.1 i.2 ([]:aa) f).bind λe=>
 let g:aa:=[(e.2.1,(e.1,(-1)))]
 cond (decide (List.length e.2.2+List.length g<=aR)) (
 let l:aa:=(e.2.2++g)
 (j7C l).bind λj=>
 some j) none) none
def j5c(k:Int)(j:af)(d b:Int)(g:ag):Option ((Int×af×Int×Int×ag) ⊕ (ag)):=
 cond (decide (b<d)) (
 cond (inR b (List.length j)) (
 let a:=(List.getD j (Int.toNat b) (0,(0,(0,(0,0)))))
 cond (cond (a.1==0) (a.2.1==k) false) (
 let c:ag:=[(a.2.2.2.1,a.2.2.2.2)]
 cond (decide (List.length g+List.length c<=aR)) (
 let f:ag:=(g++c)
 let e:=(w64 (b+1))
 some (.inl (k,j,d,e,f))) none) (
 let i:=(w64 (b+1))
 some (.inl (k,j,d,i,g)))) none) (
 some (.inr g))
def yd[LP](d:Int)(e:af)(b a:Int)(c:ag):Option (ag):=
 LP.lp (unc5 (j5c)) (d,e,b,a,c)
theorem SC(d e b a c):yd d e b a c=lpK (j5c d e b a c) (λh=>yd h.1 h.2.1 h.2.2.1 h.2.2.2.1 h.2.2.2.2):=bk _ _
def j5v[LP](b:kP)(a:Int):Option (ag):=
 let c:=(Int.ofNat (List.length b.2.2))
 (yd a b.2.2 c 0 ([]:ag)).bind λe=>
 (j61 e).bind λd=>
 some d
def j4H(n:aa)(l k m b:Int)(q:ByteArray)(d:bc)(f:af)(s o e:Int)(r:bS)(p:aa)(g:ag):Option ((aa×Int×Int×Int×Int×ByteArray×bc×af×Int×Int×Int×bS×aa×ag) ⊕ ((aa×Int×Int×ByteArray×bc×af×bS×aa))):=
 cond (decide (b<m)) (
 cond (inR b (List.length g)) (
 let c:=(List.getD g (Int.toNat b) (0,0))
 let a:aa:=[(c.1,(c.2,e))]
 cond (decide (List.length p+List.length a<=aR)) (
 let j:aa:=(p++a)
 let i:=(w64 (b+1))
 some (.inl (n,l,k,m,i,q,d,f,s,o,e,r,j,g))) none) none) (
 some (.inr (n,l,k,q,d,f,r,p)))
def tD[LP](j:aa)(g f i e:Int)(l:ByteArray)(a:bc)(d:af)(o c b:Int)(m:bS)(n:aa)(k:ag):Option ((aa×Int×Int×ByteArray×bc×af×bS×aa)):=
 LP.lp (jmL (j4H)) (j,g,f,i,e,l,a,d,o,c,b,m,n,k)
theorem SD(j g f i e l a d o c b m n k):tD j g f i e l a d o c b m n k=lpK (j4H j g f i e l a d o c b m n k) (λh=>tD h.1 h.2.1 h.2.2.1 h.2.2.2.1 h.2.2.2.2.1 h.2.2.2.2.2.1 h.2.2.2.2.2.2.1 h.2.2.2.2.2.2.2.1 h.2.2.2.2.2.2.2.2.1 h.2.2.2.2.2.2.2.2.2.1 h.2.2.2.2.2.2.2.2.2.2.1 h.2.2.2.2.2.2.2.2.2.2.2.1 h.2.2.2.2.2.2.2.2.2.2.2.2.1 h.2.2.2.2.2.2.2.2.2.2.2.2.2):=bk _ _
def j2z[LP](g:aa)(j d:Int)(o:ByteArray)(e:bc)(f:af)(l:bS)(v:aa):Option ((aa×Int×Int×ByteArray×bc×af×bS×aa) ⊕ (aa)):=
 cond (decide (d<j)) (
 cond (inR d (List.length g)) (
 let a:=(List.getD g (Int.toNat d) (0,(0,0)))
 cond (decide (a.2.2<0)) (
 let w:=(w64 (d+1))
 some (.inl (g,j,w,o,e,f,l,v))) (
 let z:ag:=(gw ([]:ag) l a.2.2)
 cond (!(ic l a.2.2)) (
 (j5v (o,(e,f)) a.2.2).bind λq=>
 let m:bS:=(gY l a.2.2 q)
 let t:ag:=[(a.1,a.2.1)]
 let y:ag:=(gw ([]:ag) m a.2.2)
 (j32 t y).bind λi=>
 let p:=(Int.ofNat (List.length i))
 (tD g j d p 0 o e f a.1 a.2.1 a.2.2 m v i).bind λc=>
 let x:=(w64 (c.2.2.1+1))
 some (.inl (c.1,c.2.1,x,c.2.2.2.1,c.2.2.2.2.1,c.2.2.2.2.2.1,c.2.2.2.2.2.2.1,c.2.2.2.2.2.2.2))) (
 let s:ag:=[(a.1,a.2.1)]
 let u:ag:=(gw ([]:ag) l a.2.2)
 (j32 s u).bind λk=>
 let n:=(Int.ofNat (List.length k))
 (tD g j d n 0 o e f a.1 a.2.1 a.2.2 l v k).bind λb=>
 let r:=(w64 (b.2.2.1+1))
 some (.inl (b.1,b.2.1,r,b.2.2.2.1,b.2.2.2.2.1,b.2.2.2.2.2.1,b.2.2.2.2.2.2.1,b.2.2.2.2.2.2.2))))) none) (
 some (.inr v))
def vN[LP](e:aa)(d c:Int)(f:ByteArray)(a:bc)(b:af)(g:bS)(i:aa):Option (aa):=
 LP.lp (unc8 (j2z)) (e,d,c,f,a,b,g,i)
theorem SE(e d c f a b g i):vN e d c f a b g i=lpK (j2z e d c f a b g i) (λh=>vN h.1 h.2.1 h.2.2.1 h.2.2.2.1 h.2.2.2.2.1 h.2.2.2.2.2.1 h.2.2.2.2.2.2.1 h.2.2.2.2.2.2.2):=bk _ _
def j6c[LP](a:kP)(b:aa):Option (aa):=
 let d:bS:=([]:bS)
 let c:=(Int.ofNat (List.length b))
 (vN b c 0 a.1 a.2.1 a.2.2 d ([]:aa)).bind λe=>
 some e
def j6I(b:aa)(d:ag)(a c:Int)(n:aa):Option ((aa×ag×Int×Int×aa) ⊕ (aa)):=
 let q:=(Int.ofNat (List.length b))
 let w:=(Int.ofNat (List.length d))
 cond (cond (decide (a<q)) (decide (c<w)) false) (
 cond (inR a (List.length b)) (
 let j:=(List.getD b (Int.toNat a) (0,(0,0)))
 cond (inR c (List.length d)) (
 let g:=(List.getD d (Int.toNat c) (0,0))
 let i:Int:=(if g.1>j.1 then g.1 else j.1:Int)
 cond (inR a (List.length b)) (
 let m:=(List.getD b (Int.toNat a) (0,(0,0)))
 cond (inR c (List.length d)) (
 let f:=(List.getD d (Int.toNat c) (0,0))
 let l:Int:=(if f.2<m.2.1 then f.2 else m.2.1:Int)
 cond (inR a (List.length b)) (
 let s:=(List.getD b (Int.toNat a) (0,(0,0)))
 cond (decide (i<l)) (
 let k:aa:=[(i,(l,s.2.2))]
 cond (decide (List.length n+List.length k<=aR)) (
 let e:aa:=(n++k)
 cond (inR a (List.length b)) (
 let r:=(List.getD b (Int.toNat a) (0,(0,0)))
 cond (inR c (List.length d)) (
 let u:=(List.getD d (Int.toNat c) (0,0))
 cond (decide (r.2.1<u.2)) (
 let p:=(w64 (a+1))
 some (.inl (b,d,p,c,e))) (
 let x:=(w64 (c+1))
 some (.inl (b,d,a,x,e)))) none) none) none) (
 cond (inR a (List.length b)) (
 let y:=(List.getD b (Int.toNat a) (0,(0,0)))
 cond (inR c (List.length d)) (
 let t:=(List.getD d (Int.toNat c) (0,0))
 cond (decide (y.2.1<t.2)) (
 let v:=(w64 (a+1))
 some (.inl (b,d,v,c,n))) (
 let o:=(w64 (c+1))
 some (.inl (b,d,a,o,n)))) none) none)) none) none) none) none) none) (
 some (.inr n))
def tE[LP](a:aa)(e:ag)(c b:Int)(d:aa):Option (aa):=
 LP.lp (unc5 (j6I)) (a,e,c,b,d)
theorem jiS(a e c b d):tE a e c b d=lpK (j6I a e c b d) (λh=>tE h.1 h.2.1 h.2.2.1 h.2.2.2.1 h.2.2.2.2):=bk _ _
def j89[LP](b:aa)(a:ag):Option (aa):=
 (tE b a 0 0 ([]:aa)).bind λc=>
 some c
def j5J(f:aa)(i c:Int)(g:ag):Option ((aa×Int×Int×ag) ⊕ (ag)):=
 cond (decide (c<i)) (
 cond (inR c (List.length f)) (
 let b:=(List.getD f (Int.toNat c) (0,(0,0)))
 let a:ag:=[(b.1,b.2.1)]
 cond (decide (List.length g+List.length a<=aR)) (
 let d:ag:=(g++a)
 let e:=(w64 (c+1))
 some (.inl (f,i,e,d))) none) none) (
 some (.inr g))
def ye[LP](b:aa)(a d:Int)(c:ag):Option (ag):=
 LP.lp (unc4 (j5J)) (b,a,d,c)
theorem SF(b a d c):ye b a d c=lpK (j5J b a d c) (λh=>ye h.1 h.2.1 h.2.2.1 h.2.2.2):=bk _ _
def j8a[LP](a:aa):Option (ag):=
 let d:=(Int.ofNat (List.length a))
 (ye a d 0 ([]:ag)).bind λc=>
 (j61 c).bind λb=>
 some b
def j4r(a b:xK):Option (Int):=
 let c:=(w64 (a.1-b.1))
 some c
def j1e(a:aa):Option (aa):=
 tz ((.pair (.int .i64) (.pair (.int .i64) (.int .i64)))) (λb c=>(j4r b c).getD 0) a
def j1K[LP](m:Int)(g:bc)(v:au)(j:ax)(k:aA)(i:aB)(l:bS)(u:ByteArray)(e:bc)(f:af)(w t:Int)(d:ag)(c:aa):Option ((Int×bc×au×ax×aA×aB×bS×ByteArray×bc×af×Int×Int×ag×aa) ⊕ ((ag×aa))):=
 cond (decide (m<=0)) (
 some (.inr (d,c))) (
 cond (decide (m<=Int.ofNat (List.length g))) (
 let n:Int:=(m-1)
 let a:=(List.getD g (Int.toNat n) (ByteArray.empty,(0,((0,0),(0,(0,(([]:(List Int)),(([]:ag),(0,0)))))))))
 (j21 ((v,(j,(k,i))),l) (a.1,(a.2.1,((a.2.2.1.1,a.2.2.1.2),(a.2.2.2.1,(a.2.2.2.2.1,(a.2.2.2.2.2.1,(a.2.2.2.2.2.2.1,(a.2.2.2.2.2.2.2.1,a.2.2.2.2.2.2.2.2)))))))) w t).bind λq=>
 (j6c (u,(e,f)) q).bind λo=>
 (j89 o d).bind λb=>
 cond (decide (List.length c+List.length b<=aR)) (
 let s:aa:=(c++b)
 (j8a b).bind λp=>
 (j32 d p).bind λr=>
 some (.inl ((m-1),g,v,j,k,i,l,u,e,f,w,t,r,s))) none) none)
def yf[LP](l:Int)(j:bc)(n:au)(f:ax)(g:aA)(e:aB)(i:bS)(k:ByteArray)(b:bc)(c:af)(m o:Int)(d:ag)(a:aa):Option ((ag×aa)):=
 LP.lp (jmL (j1K)) (l,j,n,f,g,e,i,k,b,c,m,o,d,a)
theorem SH(l j n f g e i k b c m o d a):yf l j n f g e i k b c m o d a=lpK (j1K l j n f g e i k b c m o d a) (λh=>yf h.1 h.2.1 h.2.2.1 h.2.2.2.1 h.2.2.2.2.1 h.2.2.2.2.2.1 h.2.2.2.2.2.2.1 h.2.2.2.2.2.2.2.1 h.2.2.2.2.2.2.2.2.1 h.2.2.2.2.2.2.2.2.2.1 h.2.2.2.2.2.2.2.2.2.2.1 h.2.2.2.2.2.2.2.2.2.2.2.1 h.2.2.2.2.2.2.2.2.2.2.2.2.1 h.2.2.2.2.2.2.2.2.2.2.2.2.2):=bk _ _
def j3P(i d:Int)(e:ag)(a:aa):Option ((Int×Int×ag×aa) ⊕ (aa)):=
 cond (decide (d<i)) (
 cond (inR d (List.length e)) (
 let c:=(List.getD e (Int.toNat d) (0,0))
 let b:aa:=[(c.1,(c.2,(-1)))]
 cond (decide (List.length a+List.length b<=aR)) (
 let f:aa:=(a++b)
 let g:=(w64 (d+1))
 some (.inl (i,g,e,f))) none) none) (
 some (.inr a))
def yg[LP](b c:Int)(d:ag)(a:aa):Option (aa):=
 LP.lp (unc4 (j3P)) (b,c,d,a)
theorem SI(c d b a):yg c d b a=lpK (j3P c d b a) (λh=>yg h.1 h.2.1 h.2.2.1 h.2.2.2):=bk _ _
def j3x[LP](b:iu)(d:kP)(a c:Int):Option (aa):=
 cond (decide (a>=c)) (
 some ([]:aa)) (
 let i:ag:=[(a,c)]
 (j3C d.2.1).bind λe=>
 (yf (Int.ofNat (List.length e)) e b.1.1 b.1.2.1 b.1.2.2.1 b.1.2.2.2 b.2 d.1 d.2.1 d.2.2 a c i ([]:aa)).bind λf=>
 let g:=(Int.ofNat (List.length f.1))
 (yg g 0 f.1 f.2).bind λl=>
 (j1e l).bind λj=>
 (j7C j).bind λk=>
 some k)
def jcv(a:Int):Option (Bool):=
 some (a != a)
def jdY(b a:Int):Option (Bool):=
 (jcv b).bind λd=>
 cond d (
 (jcv a).bind λc=>
 some (cond (!c) true (decide (b<a)))) (
 some (decide (b<a)))
def j9w(a:Int):Option (Bool):=
 some (a != a)
def j2E(b:(List Int))(i l d m:Int):Option (((List Int)×Int×Int×Int×Int) ⊕ (((List Int)×Int×Int×Int))):=
 cond (decide (d<m)) (
 let c:=(w64 (d+m))
 let j:Int:=(IntKind.wrap .u64 c)
 let e:Int:=(Int.fdiv j 2)
 let a:=(w64 e)
 cond (inR a (List.length b)) (
 let k:=(List.getD b (Int.toNat a) 0)
 (jdY k i).bind λg=>
 cond g (
 let f:=(w64 (a+1))
 some (.inl (b,i,l,f,m))) (
 some (.inl (b,i,l,d,a)))) none) (
 some (.inr (b,i,l,d)))
def AQ[LP](a:(List Int))(e c b d:Int):Option (((List Int)×Int×Int×Int)):=
 LP.lp (unc5 (j2E)) (a,e,c,b,d)
theorem ja5(a e c b d):AQ a e c b d=lpK (j2E a e c b d) (λh=>AQ h.1 h.2.1 h.2.2.1 h.2.2.2.1 h.2.2.2.2):=bk _ _
def j1F[LP](c:(List Int))(b:Int):Option (Int×Bool):=
 let e:=(Int.ofNat (List.length c))
 (AQ c b e 0 e).bind λa=>
 cond ((inR a.2.2.2 (List.length a.1)) || !(decide (a.2.2.2<a.2.2.1))) (
 let d:=(List.getD a.1 (Int.toNat a.2.2.2) 0)
 cond ((inR a.2.2.2 (List.length a.1)) || !((decide (a.2.2.2<a.2.2.1))&&(!(d==a.2.1)))) (
 let f:=(List.getD a.1 (Int.toNat a.2.2.2) 0)
 cond (decide (a.2.2.2<a.2.2.1)) (
 cond (d==a.2.1) (
 some (a.2.2.2,true)) (
 (j9w f).bind λi=>
 cond i (
 (j9w a.2.1).bind λg=>
 some (a.2.2.2,g)) (
 some (a.2.2.2,false)))) (
 cond ((d==a.2.1) || !false) (
 some (a.2.2.2,false)) none)) none) none
def jhT(a:n4)(b:Int):Option (Bool):=
 some (cond (decide (a.2.2.2.1<=b)) (decide (b<a.2.2.2.2)) false)
def j6W(f e:Int)(d:af)(c b:Int):Option ((Int×Int×af×Int×Int) ⊕ (Int)):=
 cond (decide (b<c)) (
 cond (inR b (List.length d)) (
 let a:=(List.getD d (Int.toNat b) (0,(0,(0,(0,0)))))
 (jhT (a.1,(a.2.1,(a.2.2.1,(a.2.2.2.1,a.2.2.2.2)))) e).bind λj=>
 cond (cond (!j) true (a.1==0)) (
 let l:=(w64 (b+1))
 some (.inl (f,e,d,c,l))) (
 cond (a.1==1) (
 let k:=(w64 (b+1))
 some (.inl (a.2.1,e,d,c,k))) (
 cond (a.1 != 2) (
 let n:=(w64 (b+1))
 some (.inl (f,e,d,c,n))) (
 cond (f==a.2.1) (
 let m:=(w64 (b+1))
 some (.inl (a.2.2.1,e,d,c,m))) (
 cond (f==a.2.2.1) (
 let i:=(w64 (b+1))
 some (.inl (a.2.1,e,d,c,i))) (
 let g:=(w64 (b+1))
 some (.inl (f,e,d,c,g)))))))) none) (
 some (.inr f))
def yh[LP](d c:Int)(e:af)(b a:Int):Option (Int):=
 LP.lp (unc5 (j6W)) (d,c,e,b,a)
theorem SJ(d c e b a):yh d c e b a=lpK (j6W d c e b a) (λh=>yh h.1 h.2.1 h.2.2.1 h.2.2.2.1 h.2.2.2.2):=bk _ _
def jcV[LP](b:af)(a c:Int):Option (Int):=
 let d:=(Int.ofNat (List.length b))
 (yh a c b d 0).bind λe=>
 some e
def j41(r p:Int)(d:af)(n b:Int)(s:au)(k:ax)(i:aA)(g:aB)(j:bS)(q:ByteArray)(e:bc)(f:af)(o:(List Int)):Option ((Int×Int×af×Int×Int×au×ax×aA×aB×bS×ByteArray×bc×af×(List Int)) ⊕ ((Int×Int×au×ax×aA×aB×bS×ByteArray×bc×af×(List Int)))):=
 cond (decide (b<n)) (
 cond (inR b (List.length d)) (
 let a:=(List.getD d (Int.toNat b) (0,(0,(0,(0,0)))))
 let c:(List Int):=[a.2.2.2.1,a.2.2.2.2]
 cond (decide (List.length o+List.length c<=aR)) (
 let l:(List Int):=(o++c)
 let m:=(w64 (b+1))
 some (.inl (r,p,d,n,m,s,k,i,g,j,q,e,f,l))) none) none) (
 some (.inr (r,p,s,k,i,g,j,q,e,f,o)))
def yi[LP](m k:Int)(g:af)(j i:Int)(o:au)(f:ax)(d:aA)(c:aB)(e:bS)(l:ByteArray)(a:bc)(b:af)(n:(List Int)):Option ((Int×Int×au×ax×aA×aB×bS×ByteArray×bc×af×(List Int))):=
 LP.lp (jmL (j41)) (m,k,g,j,i,o,f,d,c,e,l,a,b,n)
theorem SK(m k g j i o f d c e l a b n):yi m k g j i o f d c e l a b n=lpK (j41 m k g j i o f d c e l a b n) (λh=>yi h.1 h.2.1 h.2.2.1 h.2.2.2.1 h.2.2.2.2.1 h.2.2.2.2.2.1 h.2.2.2.2.2.2.1 h.2.2.2.2.2.2.2.1 h.2.2.2.2.2.2.2.2.1 h.2.2.2.2.2.2.2.2.2.1 h.2.2.2.2.2.2.2.2.2.2.1 h.2.2.2.2.2.2.2.2.2.2.2.1 h.2.2.2.2.2.2.2.2.2.2.2.2.1 h.2.2.2.2.2.2.2.2.2.2.2.2.2):=bk _ _
def j22[LP](k l r q:Int)(t:ByteArray)(j:bc)(b:af)(s a e:Int)(c:(List Int))(i p:aa):Option ((Int×Int×Int×Int×ByteArray×bc×af×Int×Int×Int×(List Int)×aa×aa) ⊕ ((Int×Int×ByteArray×bc×af×(List Int)×aa×aa))):=
 cond (decide (l<a)) (
 cond (inR k (List.length c)) (
 let f:=(List.getD c (Int.toNat k) 0)
 let d:Int:=(if f<a then f else a:Int)
 (jcV b e l).bind λn=>
 let g:aa:=[(l,(d,n))]
 cond (decide (List.length i+List.length g<=aR)) (
 let m:aa:=(i++g)
 let o:=(w64 (k+1))
 some (.inl (o,d,r,q,t,j,b,s,a,e,c,m,p))) none) none) (
 some (.inr (r,q,t,j,b,c,i,p)))
def AR[LP](g j m l:Int)(n:ByteArray)(c:bc)(d:af)(k b a:Int)(f:(List Int))(i e:aa):Option ((Int×Int×ByteArray×bc×af×(List Int)×aa×aa)):=
 LP.lp (jx4 (j22)) (g,j,m,l,n,c,d,k,b,a,f,i,e)
theorem SM(g j m l n c d k b a f i e):AR g j m l n c d k b a f i e=lpK (j22 g j m l n c d k b a f i e) (λh=>AR h.1 h.2.1 h.2.2.1 h.2.2.2.1 h.2.2.2.2.1 h.2.2.2.2.2.1 h.2.2.2.2.2.2.1 h.2.2.2.2.2.2.2.1 h.2.2.2.2.2.2.2.2.1 h.2.2.2.2.2.2.2.2.2.1 h.2.2.2.2.2.2.2.2.2.2.1 h.2.2.2.2.2.2.2.2.2.2.2.1 h.2.2.2.2.2.2.2.2.2.2.2.2):=bk _ _
def j23[LP](k c:Int)(n:ByteArray)(l:bc)(m:af)(i:(List Int))(j d:aa):Option ((Int×Int×ByteArray×bc×af×(List Int)×aa×aa) ⊕ (aa)):=
 cond (decide (c<k)) (
 cond (inR c (List.length d)) (
 let b:=(List.getD d (Int.toNat c) (0,(0,0)))
 let g:=(w64 (b.1+1))
 (j1F i g).bind λf=>
 (AR f.1 b.1 k c n l m b.1 b.2.1 b.2.2 i j d).bind λa=>
 let e:=(w64 (a.2.1+1))
 some (.inl (a.1,e,a.2.2.1,a.2.2.2.1,a.2.2.2.2.1,a.2.2.2.2.2.1,a.2.2.2.2.2.2.1,a.2.2.2.2.2.2.2))) none) (
 some (.inr j))
def yj[LP](g f:Int)(i:ByteArray)(a:bc)(b:af)(d:(List Int))(e c:aa):Option (aa):=
 LP.lp (unc8 (j23)) (g,f,i,a,b,d,e,c)
theorem SN(g f i a b d e c):yj g f i a b d e c=lpK (j23 g f i a b d e c) (λh=>yj h.1 h.2.1 h.2.2.1 h.2.2.2.1 h.2.2.2.2.1 h.2.2.2.2.2.1 h.2.2.2.2.2.2.1 h.2.2.2.2.2.2.2):=bk _ _
def j0N[LP](b:iu)(c:kP)(d e:Int):Option (aa):=
 let g:=(Int.ofNat (List.length c.2.2))
 (yi d e c.2.2 g 0 b.1.1 b.1.2.1 b.1.2.2.1 b.1.2.2.2 b.2 c.1 c.2.1 c.2.2 ([]:(List Int))).bind λa=>
 (jby a.2.2.2.2.2.2.2.2.2.2 a.1 a.2.1).bind λk=>
 (j3x ((a.2.2.1,(a.2.2.2.1,(a.2.2.2.2.1,a.2.2.2.2.2.1))),a.2.2.2.2.2.2.1) (a.2.2.2.2.2.2.2.1,(a.2.2.2.2.2.2.2.2.1,a.2.2.2.2.2.2.2.2.2.1)) a.1 a.2.1).bind λf=>
 let j:=(Int.ofNat (List.length f))
 (yj j 0 a.2.2.2.2.2.2.2.1 a.2.2.2.2.2.2.2.2.1 a.2.2.2.2.2.2.2.2.2.1 k ([]:aa) f).bind λl=>
 (j7C l).bind λi=>
 some i
def j4k(j:Int)(f:aa)(k b:Int)(e:ag):Option ((Int×aa×Int×Int×ag) ⊕ (ag)):=
 cond (decide (b<k)) (
 cond (inR b (List.length f)) (
 let a:=(List.getD f (Int.toNat b) (0,(0,0)))
 cond (a.2.2==j) (
 let c:ag:=[(a.1,a.2.1)]
 cond (decide (List.length e+List.length c<=aR)) (
 let d:ag:=(e++c)
 let i:=(w64 (b+1))
 some (.inl (j,f,k,i,d))) none) (
 let g:=(w64 (b+1))
 some (.inl (j,f,k,g,e)))) none) (
 some (.inr e))
def yk[LP](d:Int)(c:aa)(e a:Int)(b:ag):Option (ag):=
 LP.lp (unc5 (j4k)) (d,c,e,a,b)
theorem SO(d c e a b):yk d c e a b=lpK (j4k d c e a b) (λh=>yk h.1 h.2.1 h.2.2.1 h.2.2.2.1 h.2.2.2.2):=bk _ _
def j6x[LP](b:aa)(a:Int):Option (ag):=
 let d:=(Int.ofNat (List.length b))
 (yk a b d 0 ([]:ag)).bind λe=>
 (j61 e).bind λc=>
 some c
def j2A[LP](r q p:Int)(i:aB)(o c:Int)(s:au)(g:ax)(k:aA)(f:aB)(j:bS)(e:ag):Option ((Int×Int×Int×aB×Int×Int×au×ax×aA×aB×bS×ag) ⊕ (Int ⊕ ag)):=
 cond (decide (c<o)) (
 cond (inR c (List.length i)) (
 let a:=(List.getD i (Int.toNat c) (ByteArray.empty,(([]:bc),([]:af))))
 (j0N ((s,(g,(k,f))),j) (a.1,(a.2.1,a.2.2)) q p).bind λb=>
 let m:=(Int.ofNat (List.length b))
 cond (decide (m>16384)) (
 some (.inr (.inl 5))) (
 (j6x b r).bind λd=>
 cond (decide (List.length e+List.length d<=aR)) (
 let n:ag:=(e++d)
 let l:=(w64 (c+1))
 some (.inl (r,q,p,i,o,l,s,g,k,f,j,n))) none)) none) (
 some (.inr (.inr e)))
def yl[LP](l k j:Int)(i:aB)(f g:Int)(m:au)(b:ax)(d:aA)(a:aB)(c:bS)(e:ag):Option (Int ⊕ ag):=
 LP.lp (jtI (j2A)) (l,k,j,i,f,g,m,b,d,a,c,e)
theorem SP(l k j i f g m b d a c e):yl l k j i f g m b d a c e=lpK (j2A l k j i f g m b d a c e) (λh=>yl h.1 h.2.1 h.2.2.1 h.2.2.2.1 h.2.2.2.2.1 h.2.2.2.2.2.1 h.2.2.2.2.2.2.1 h.2.2.2.2.2.2.2.1 h.2.2.2.2.2.2.2.2.1 h.2.2.2.2.2.2.2.2.2.1 h.2.2.2.2.2.2.2.2.2.2.1 h.2.2.2.2.2.2.2.2.2.2.2):=bk _ _
def j5k[LP](a:iu)(b c d:Int):Option (ag×Int):=
 let g:=(Int.ofNat (List.length a.1.2.2.2))
 (yl b c d a.1.2.2.2 g 0 a.1.1 a.1.2.1 a.1.2.2.1 a.1.2.2.2 a.2 ([]:ag)).bind λi=>
 sumC i (λj=>
 some (([]:ag),j)) (λk=>
 (j61 k).bind λe=>
 let f:=(Int.ofNat (List.length e))
 cond (decide (f>4096)) (
 some (([]:ag),5)) (
 some (e,0)))
def j44(c d:aa)(q o b a:Int)(p:af):Option ((aa×aa×Int×Int×Int×Int×af) ⊕ (af)):=
 let x:=(Int.ofNat (List.length c))
 let s:=(Int.ofNat (List.length d))
 cond (cond (decide (b<x)) (decide (a<s)) false) (
 cond (inR b (List.length c)) (
 let m:=(List.getD c (Int.toNat b) (0,(0,0)))
 cond (inR a (List.length d)) (
 let n:=(List.getD d (Int.toNat a) (0,(0,0)))
 let g:Int:=(if n.1>m.1 then n.1 else m.1:Int)
 cond (inR b (List.length c)) (
 let l:=(List.getD c (Int.toNat b) (0,(0,0)))
 cond (inR a (List.length d)) (
 let i:=(List.getD d (Int.toNat a) (0,(0,0)))
 let k:Int:=(if i.2.1<l.2.1 then i.2.1 else l.2.1:Int)
 cond (inR b (List.length c)) (
 let e:=(List.getD c (Int.toNat b) (0,(0,0)))
 cond ((inR a (List.length d)) || !(decide (e.2.2>=0))) (
 let w:=(List.getD d (Int.toNat a) (0,(0,0)))
 let t:Bool:=(cond (cond (decide (e.2.2>=0)) (e.2.2==w.2.2) false) (decide (g<k)) false)
 cond t (
 let f:af:=[(e.2.2,(q,(o,(g,k))))]
 cond (decide (List.length p+List.length f<=aR)) (
 let j:af:=(p++f)
 cond (inR b (List.length c)) (
 let a2:=(List.getD c (Int.toNat b) (0,(0,0)))
 cond (inR a (List.length d)) (
 let z:=(List.getD d (Int.toNat a) (0,(0,0)))
 cond (decide (a2.2.1<z.2.1)) (
 let u:=(w64 (b+1))
 some (.inl (c,d,q,o,u,a,j))) (
 let a0:=(w64 (a+1))
 some (.inl (c,d,q,o,b,a0,j)))) none) none) none) (
 cond (inR b (List.length c)) (
 let r:=(List.getD c (Int.toNat b) (0,(0,0)))
 cond (inR a (List.length d)) (
 let v:=(List.getD d (Int.toNat a) (0,(0,0)))
 cond (decide (r.2.1<v.2.1)) (
 let y:=(w64 (b+1))
 some (.inl (c,d,q,o,y,a,p))) (
 let a1:=(w64 (a+1))
 some (.inl (c,d,q,o,b,a1,p)))) none) none)) none) none) none) none) none) none) (
 some (.inr p))
def tF[LP](c g:aa)(e d b a:Int)(f:af):Option (af):=
 LP.lp (unc7 (j44)) (c,g,e,d,b,a,f)
theorem SQ(c g e d b a f):tF c g e d b a f=lpK (j44 c g e d b a f) (λh=>tF h.1 h.2.1 h.2.2.1 h.2.2.2.1 h.2.2.2.2.1 h.2.2.2.2.2.1 h.2.2.2.2.2.2):=bk _ _
def j5K[LP](c d:aa)(b a:Int):Option (af):=
 (tF c d b a 0 0 ([]:af)).bind λe=>
 some e
def j3G(a b:n4):Option (Int):=
 let c:=(w64 (a.2.2.2.1-b.2.2.2.1))
 some c
def j13(o q p f:Int)(e:af):Option ((Int×Int×Int×Int×af) ⊕ ((Int×Int×Int×af))):=
 cond (decide (f>o)) (
 cond (inR f (List.length e)) (
 let a:=(List.getD e (Int.toNat f) (0,(0,(0,(0,0)))))
 let i:=(w64 (f-1))
 cond (inR i (List.length e)) (
 let b:=(List.getD e (Int.toNat i) (0,(0,(0,(0,0)))))
 (j3G (a.1,(a.2.1,(a.2.2.1,(a.2.2.2.1,a.2.2.2.2)))) (b.1,(b.2.1,(b.2.2.1,(b.2.2.2.1,b.2.2.2.2))))).bind λm=>
 cond (decide (m<0)) (
 let g:=(w64 (f-1))
 let k:=(w64 (f-1))
 cond (inR k (List.length e)) (
 let d:=(List.getD e (Int.toNat k) (0,(0,(0,(0,0)))))
 cond (inR f (List.length e)) (
 let c:=(List.getD e (Int.toNat f) (0,(0,(0,(0,0)))))
 cond (inR f (List.length e)) (
 let j:af:=(List.set e (Int.toNat f) (d.1,(d.2.1,(d.2.2.1,(d.2.2.2.1,d.2.2.2.2)))))
 cond (inR g (List.length j)) (
 let n:af:=(List.set j (Int.toNat g) (c.1,(c.2.1,(c.2.2.1,(c.2.2.2.1,c.2.2.2.2)))))
 let l:=(w64 (f-1))
 some (.inl (o,q,p,l,n))) none) none) none) none) (
 some (.inr (o,q,p,e)))) none) none) (
 some (.inr (o,q,p,e)))
def AS[LP](c b a e:Int)(d:af):Option ((Int×Int×Int×af)):=
 LP.lp (unc5 (j13)) (c,b,a,e,d)
theorem SR(c b a e d):AS c b a e d=lpK (j13 c b a e d) (λh=>AS h.1 h.2.1 h.2.2.1 h.2.2.2.1 h.2.2.2.2):=bk _ _
def j0e[LP](f d c:Int)(e:af):Option ((Int×Int×Int×af) ⊕ (af)):=
 cond (decide (c<d)) (
 (AS f d c c e).bind λa=>
 let b:=(w64 (a.2.2.1+1))
 some (.inl (a.1,a.2.1,b,a.2.2.2))) (
 some (.inr e))
def AU[LP](b a d:Int)(c:af):Option (af):=
 LP.lp (unc4 (j0e)) (b,a,d,c)
theorem Kr(c b a d):AU c b a d=lpK (j0e c b a d) (λh=>AU h.1 h.2.1 h.2.2.1 h.2.2.2):=bk _ _
def j0p[LP](a:af)(b c:Int):Option (af):=
 let d:=(w64 (b+1))
 (AU b c d a).bind λe=>
 some e
def j1k(n m o c:Int)(d:af):Option ((Int×Int×Int×Int×af) ⊕ (af)):=
 cond (decide (c<o)) (
 let g:=(w64 (n+c))
 let e:=(w64 (m+c))
 let i:=(w64 (m+c))
 cond (inR i (List.length d)) (
 let b:=(List.getD d (Int.toNat i) (0,(0,(0,(0,0)))))
 let j:=(w64 (n+c))
 cond (inR j (List.length d)) (
 let a:=(List.getD d (Int.toNat j) (0,(0,(0,(0,0)))))
 cond (inR g (List.length d)) (
 let f:af:=(List.set d (Int.toNat g) (b.1,(b.2.1,(b.2.2.1,(b.2.2.2.1,b.2.2.2.2)))))
 cond (inR e (List.length f)) (
 let l:af:=(List.set f (Int.toNat e) (a.1,(a.2.1,(a.2.2.1,(a.2.2.2.1,a.2.2.2.2)))))
 let k:=(w64 (c+1))
 some (.inl (n,m,o,k,l))) none) none) none) none) (
 some (.inr d))
def ym[LP](d c b a:Int)(e:af):Option (af):=
 LP.lp (unc5 (j1k)) (d,c,b,a,e)
theorem SS(d c b a e):ym d c b a e=lpK (j1k d c b a e) (λh=>ym h.1 h.2.1 h.2.2.1 h.2.2.2.1 h.2.2.2.2):=bk _ _
def j0r[LP](a:af)(b d c:Int):Option (af):=
 (ym b d c 0 a).bind λe=>
 some e
def j0K[LP](c a b:Int)(m:af):Option ((Int×Int×Int×af) ⊕ ((Int×Int×af))):=
 cond (a != b) (
 cond (decide (a>b)) (
 let k:=(w64 (c-a))
 (j0r m k c b).bind λg=>
 let j:=(w64 (a-b))
 some (.inl (c,j,b,g))) (
 let e:=(w64 (c-a))
 let f:=(w64 (c+b))
 let d:=(w64 (f-a))
 (j0r m e d a).bind λi=>
 let l:=(w64 (b-a))
 some (.inl (c,a,l,i)))) (
 some (.inr (c,a,m)))
def AV[LP](c b a:Int)(d:af):Option ((Int×Int×af)):=
 LP.lp (unc4 (j0K)) (c,b,a,d)
theorem j9i(c b a d):AV c b a d=lpK (j0K c b a d) (λh=>AV h.1 h.2.1 h.2.2.1 h.2.2.2):=bk _ _
def j0R[LP](b:af)(e a d:Int):Option (af):=
 let j:=(w64 (a-e))
 let g:=(w64 (d-a))
 (AV a j g b).bind λc=>
 let f:=(w64 (c.1-c.2.1))
 (j0r c.2.2 f c.1 c.2.1).bind λi=>
 some i
def j1m(n:af->Int->Int->Int->Option (af))(g d f:Int)(c:af):Option ((Int×Int×Int×af) ⊕ ((Int×Int×af))):=
 cond (decide (d<f)) (
 let j:=(w64 (d+f))
 let i:Int:=(IntKind.wrap .u64 j)
 let k:Int:=(Int.fdiv i 2)
 let e:=(w64 k)
 cond (inR e (List.length c)) (
 let b:=(List.getD c (Int.toNat e) (0,(0,(0,(0,0)))))
 cond (inR g (List.length c)) (
 let a:=(List.getD c (Int.toNat g) (0,(0,(0,(0,0)))))
 (j3G (b.1,(b.2.1,(b.2.2.1,(b.2.2.2.1,b.2.2.2.2)))) (a.1,(a.2.1,(a.2.2.1,(a.2.2.2.1,a.2.2.2.2))))).bind λm=>
 cond (decide (m<0)) (
 let l:=(w64 (e+1))
 some (.inl (g,l,f,c))) (
 some (.inl (g,d,e,c)))) none) none) (
 some (.inr (g,d,c)))
def tG[LP](b:af->Int->Int->Int->Option (af))(d c a:Int)(e:af):Option ((Int×Int×af)):=
 LP.lp (unc4 (j1m b)) (d,c,a,e)
theorem SU(a d c b e):tG a d c b e=lpK (j1m a d c b e) (λh=>tG a h.1 h.2.1 h.2.2.1 h.2.2.2):=bk _ _
def j1n(m:af->Int->Int->Int->Option (af))(l c:Int)(d:af):Option ((Int×Int×af) ⊕ (af)):=
 let i:=(w64 (l-1))
 cond (decide (c<i)) (
 let g:=(w64 (c+1))
 let e:=(w64 (c+1))
 cond (inR e (List.length d)) (
 let a:=(List.getD d (Int.toNat e) (0,(0,(0,(0,0)))))
 cond (inR c (List.length d)) (
 let b:=(List.getD d (Int.toNat c) (0,(0,(0,(0,0)))))
 cond (inR c (List.length d)) (
 let f:af:=(List.set d (Int.toNat c) (a.1,(a.2.1,(a.2.2.1,(a.2.2.2.1,a.2.2.2.2)))))
 cond (inR g (List.length f)) (
 let j:af:=(List.set f (Int.toNat g) (b.1,(b.2.1,(b.2.2.1,(b.2.2.2.1,b.2.2.2.2)))))
 let k:=(w64 (c+1))
 some (.inl (l,k,j))) none) none) none) none) (
 some (.inr d))
def vO[LP](c:af->Int->Int->Int->Option (af))(a b:Int)(d:af):Option (af):=
 LP.lp (unc3 (j1n c)) (a,b,d)
theorem SV(a b c d):vO a b c d=lpK (j1n a b c d) (λh=>vO a h.1 h.2.1 h.2.2):=bk _ _
def j1o(n:af->Int->Int->Int->Option (af))(g e i:Int)(c:af):Option ((Int×Int×Int×af) ⊕ ((Int×Int×af))):=
 cond (decide (e<i)) (
 let m:=(w64 (e+i))
 let k:Int:=(IntKind.wrap .u64 m)
 let l:Int:=(Int.fdiv k 2)
 let d:=(w64 l)
 cond (inR g (List.length c)) (
 let b:=(List.getD c (Int.toNat g) (0,(0,(0,(0,0)))))
 cond (inR d (List.length c)) (
 let a:=(List.getD c (Int.toNat d) (0,(0,(0,(0,0)))))
 (j3G (b.1,(b.2.1,(b.2.2.1,(b.2.2.2.1,b.2.2.2.2)))) (a.1,(a.2.1,(a.2.2.1,(a.2.2.2.1,a.2.2.2.2))))).bind λj=>
 cond (!(decide (j<0))) (
 let f:=(w64 (d+1))
 some (.inl (g,f,i,c))) (
 some (.inl (g,e,d,c)))) none) none) (
 some (.inr (g,e,c)))
def tH[LP](a:af->Int->Int->Int->Option (af))(d c b:Int)(e:af):Option ((Int×Int×af)):=
 LP.lp (unc4 (j1o a)) (d,c,b,e)
theorem SX(a d c b e):tH a d c b e=lpK (j1o a d c b e) (λh=>tH a h.1 h.2.1 h.2.2.1 h.2.2.2):=bk _ _
def j1p(l:af->Int->Int->Int->Option (af))(k c:Int)(f:af):Option ((Int×Int×af) ⊕ (af)):=
 cond (decide (c>k)) (
 let e:=(w64 (c-1))
 let d:=(w64 (c-1))
 cond (inR d (List.length f)) (
 let a:=(List.getD f (Int.toNat d) (0,(0,(0,(0,0)))))
 cond (inR c (List.length f)) (
 let b:=(List.getD f (Int.toNat c) (0,(0,(0,(0,0)))))
 cond (inR c (List.length f)) (
 let g:af:=(List.set f (Int.toNat c) (a.1,(a.2.1,(a.2.2.1,(a.2.2.2.1,a.2.2.2.2)))))
 cond (inR e (List.length g)) (
 let j:af:=(List.set g (Int.toNat e) (b.1,(b.2.1,(b.2.2.1,(b.2.2.2.1,b.2.2.2.2)))))
 let i:=(w64 (c-1))
 some (.inl (k,i,j))) none) none) none) none) (
 some (.inr f))
def vP[LP](c:af->Int->Int->Int->Option (af))(b a:Int)(d:af):Option (af):=
 LP.lp (unc3 (j1p c)) (b,a,d)
theorem SY(a c b d):vP a c b d=lpK (j1p a c b d) (λh=>vP a h.1 h.2.1 h.2.2):=bk _ _
def j1q(t:af->Int->Int->Int->Option (af))(s r q n k f i p:Int)(e:af):Option ((Int×Int×Int×Int×Int×Int×Int×Int×af) ⊕ ((Int×Int×Int×Int×Int×Int×af))):=
 cond (decide (f<i)) (
 let l:=(w64 (f+i))
 let o:Int:=(IntKind.wrap .u64 l)
 let j:Int:=(Int.fdiv o 2)
 let c:=(w64 j)
 let d:=(w64 (p-c))
 cond (inR d (List.length e)) (
 let b:=(List.getD e (Int.toNat d) (0,(0,(0,(0,0)))))
 cond (inR c (List.length e)) (
 let a:=(List.getD e (Int.toNat c) (0,(0,(0,(0,0)))))
 (j3G (b.1,(b.2.1,(b.2.2.1,(b.2.2.2.1,b.2.2.2.2)))) (a.1,(a.2.1,(a.2.2.1,(a.2.2.2.1,a.2.2.2.2))))).bind λg=>
 cond (!(decide (g<0))) (
 let m:=(w64 (c+1))
 some (.inl (s,r,q,n,k,m,i,p,e))) (
 some (.inl (s,r,q,n,k,f,c,p,e)))) none) none) (
 some (.inr (s,r,q,n,k,f,e)))
def rT[LP](b:af->Int->Int->Int->Option (af))(j i g c d e a f:Int)(k:af):Option ((Int×Int×Int×Int×Int×Int×af)):=
 LP.lp (unc9 (j1q b)) (j,i,g,c,d,e,a,f,k)
theorem SZ(a j i g c d e b f k):rT a j i g c d e b f k=lpK (j1q a j i g c d e b f k) (λh=>rT a h.1 h.2.1 h.2.2.1 h.2.2.2.1 h.2.2.2.2.1 h.2.2.2.2.2.1 h.2.2.2.2.2.2.1 h.2.2.2.2.2.2.2.1 h.2.2.2.2.2.2.2.2):=bk _ _
def rU[LP](e:af->Int->Int->Int->Option (af))(g:af)(i f j:Int):Option (af):=
 let b0:=(w64 (f-i))
 cond (b0==1) (
 (tG e i f j g).bind λa3=>
 (vO e a3.2.1 a3.1 a3.2.2).bind λb1=>
 some b1) (
 let a9:=(w64 (j-f))
 cond (a9==1) (
 (tH e f i f g).bind λa7=>
 (vP e a7.2.1 a7.1 a7.2.2).bind λb2=>
 some b2) (
 let a6:=(w64 (i+j))
 let a4:Int:=(IntKind.wrap .u64 a6)
 let m:Int:=(Int.fdiv a4 2)
 let l:=(w64 ((w64 m)+f))
 cond (decide (f>(w64 m))) (
 let a2:=(w64 (l-j))
 let a8:=(w64 (l-1))
 (rT e i f j (w64 m) l a2 (w64 m) a8 g).bind λc=>
 let d:=(w64 (c.2.2.2.2.1-c.2.2.2.2.2.1))
 cond (cond (decide (c.2.2.2.2.2.1<c.2.1)) (decide (c.2.1<d)) false) (
 (j0R c.2.2.2.2.2.2 c.2.2.2.2.2.1 c.2.1 d).bind λq=>
 cond (cond (decide (c.1<c.2.2.2.2.2.1)) (decide (c.2.2.2.2.2.1<c.2.2.2.1)) false) (
 (e q c.1 c.2.2.2.2.2.1 c.2.2.2.1).bind λu=>
 cond (cond (decide (c.2.2.2.1<d)) (decide (d<c.2.2.1)) false) (
 (e u c.2.2.2.1 d c.2.2.1).bind λa5=>
 some a5) (
 some u)) (
 cond (cond (decide (c.2.2.2.1<d)) (decide (d<c.2.2.1)) false) (
 (e q c.2.2.2.1 d c.2.2.1).bind λv=>
 some v) (
 some q))) (
 cond (cond (decide (c.1<c.2.2.2.2.2.1)) (decide (c.2.2.2.2.2.1<c.2.2.2.1)) false) (
 (e c.2.2.2.2.2.2 c.1 c.2.2.2.2.2.1 c.2.2.2.1).bind λp=>
 cond (cond (decide (c.2.2.2.1<d)) (decide (d<c.2.2.1)) false) (
 (e p c.2.2.2.1 d c.2.2.1).bind λx=>
 some x) (
 some p)) (
 cond (cond (decide (c.2.2.2.1<d)) (decide (d<c.2.2.1)) false) (
 (e c.2.2.2.2.2.2 c.2.2.2.1 d c.2.2.1).bind λt=>
 some t) (
 some c.2.2.2.2.2.2)))) (
 let y:=(w64 (l-1))
 (rT e i f j (w64 m) l i f y g).bind λa=>
 let b:=(w64 (a.2.2.2.2.1-a.2.2.2.2.2.1))
 cond (cond (decide (a.2.2.2.2.2.1<a.2.1)) (decide (a.2.1<b)) false) (
 (j0R a.2.2.2.2.2.2 a.2.2.2.2.2.1 a.2.1 b).bind λk=>
 let a1:Bool:=(cond (decide (a.1<a.2.2.2.2.2.1)) (decide (a.2.2.2.2.2.1<a.2.2.2.1)) false)
 cond a1 (
 (e k a.1 a.2.2.2.2.2.1 a.2.2.2.1).bind λo=>
 cond (cond (decide (a.2.2.2.1<b)) (decide (b<a.2.2.1)) false) (
 (e o a.2.2.2.1 b a.2.2.1).bind λr=>
 some r) (
 some o)) (
 cond (cond (decide (a.2.2.2.1<b)) (decide (b<a.2.2.1)) false) (
 (e k a.2.2.2.1 b a.2.2.1).bind λs=>
 some s) (
 some k))) (
 let z:Bool:=(cond (decide (a.1<a.2.2.2.2.2.1)) (decide (a.2.2.2.2.2.1<a.2.2.2.1)) false)
 cond z (
 (e a.2.2.2.2.2.2 a.1 a.2.2.2.2.2.1 a.2.2.2.1).bind λn=>
 cond (cond (decide (a.2.2.2.1<b)) (decide (b<a.2.2.1)) false) (
 (e n a.2.2.2.1 b a.2.2.1).bind λa0=>
 some a0) (
 some n)) (
 cond (cond (decide (a.2.2.2.1<b)) (decide (b<a.2.2.1)) false) (
 (e a.2.2.2.2.2.2 a.2.2.2.1 b a.2.2.1).bind λw=>
 some w) (
 some a.2.2.2.2.2.2))))))
def j0i[LP](e:(af×Int×Int×Int)->Option (af))(h:af×Int×Int×Int):Option (af):=rU (λc b d a=>e (c,b,d,a)) h.1 h.2.1 h.2.2.1 h.2.2.2
def j1i[LP](a:af)(c b d:Int):Option (af):=LP.rp j0i (a,c,b,d)
def j0m[LP](e d f a:Int)(g:af):Option ((Int×Int×Int×Int×af) ⊕ ((Int×Int×Int×af))):=
 cond (decide (a<=e)) (
 (j0p g f a).bind λc=>
 let b:=(w64 (a+d))
 some (.inl (e,d,a,b,c))) (
 some (.inr (e,d,f,g)))
def yn[LP](d b a c:Int)(e:af):Option ((Int×Int×Int×af)):=
 LP.lp (unc5 (j0m)) (d,b,a,c,e)
theorem Ks(d b a c e):yn d b a c e=lpK (j0m d b a c e) (λh=>yn h.1 h.2.1 h.2.2.1 h.2.2.2.1 h.2.2.2.2):=bk _ _
def j0n[LP](i a g b:Int)(j:af):Option ((Int×Int×Int×Int×af) ⊕ ((Int×Int×Int×af))):=
 cond (decide (b<=i)) (
 let e:=(w64 (g+a))
 (j1i j g e b).bind λf=>
 let c:=(w64 (2*a))
 let d:=(w64 (b+c))
 some (.inl (i,a,b,d,f))) (
 some (.inr (i,a,g,j)))
def yo[LP](d b a c:Int)(e:af):Option ((Int×Int×Int×af)):=
 LP.lp (unc5 (j0n)) (d,b,a,c,e)
theorem Kt(d b a c e):yo d b a c e=lpK (j0n d b a c e) (λh=>yo h.1 h.2.1 h.2.2.1 h.2.2.2.1 h.2.2.2.2):=bk _ _
def j0x[LP](i g:Int)(j:af):Option ((Int×Int×af) ⊕ (af)):=
 cond (decide (g<i)) (
 let e:=(w64 (2*g))
 (yo i g 0 e j).bind λa=>
 let b:=(w64 (a.2.2.1+a.2.1))
 cond (decide (b<a.1)) (
 (j1i a.2.2.2 a.2.2.1 b a.1).bind λf=>
 let c:=(w64 (a.2.1*2))
 some (.inl (a.1,c,f))) (
 let d:=(w64 (a.2.1*2))
 some (.inl (a.1,d,a.2.2.2)))) (
 some (.inr j))
def yp[LP](a b:Int)(c:af):Option (af):=
 LP.lp (unc3 (j0x)) (a,b,c)
theorem S7(a b c):yp a b c=lpK (j0x a b c) (λh=>yp h.1 h.2.1 h.2.2):=bk _ _
def j1M[LP](a:af)(c:Int):Option (af):=
 (yn c 20 0 20 a).bind λb=>
 (j0p b.2.2.2 b.2.2.1 b.1).bind λd=>
 (yp b.1 b.2.1 d).bind λe=>
 some e
def j0o[LP](a:af):Option (af):=
 let c:=(Int.ofNat (List.length a))
 (j1M a c).bind λb=>
 some b
def j1N[LP](q p:Int)(i:aB)(n c:Int)(o:au)(f:ax)(e:aA)(g:aB)(j:bS)(d:fH):Option ((Int×Int×aB×Int×Int×au×ax×aA×aB×bS×fH) ⊕ (Int ⊕ fH)):=
 cond (decide (c<n)) (
 cond (inR c (List.length i)) (
 let b:=(List.getD i (Int.toNat c) (ByteArray.empty,(([]:bc),([]:af))))
 (j0N ((o,(f,(e,g))),j) (b.1,(b.2.1,b.2.2)) q p).bind λa=>
 let k:=(Int.ofNat (List.length a))
 cond (decide (k>16384)) (
 some (.inr (.inl 5))) (
 cond (decide (List.length d+List.length [a]<=aR)) (
 let m:fH:=(d++[a])
 let l:=(w64 (c+1))
 some (.inl (q,p,i,n,l,o,f,e,g,j,m))) none)) none) (
 some (.inr (.inr d)))
def yq[LP](l k:Int)(f:aB)(i g:Int)(j:au)(b:ax)(a:aA)(c:aB)(d:bS)(e:fH):Option (Int ⊕ fH):=
 LP.lp (jtH (j1N)) (l,k,f,i,g,j,b,a,c,d,e)
theorem S8(l k f i g j b a c d e):yq l k f i g j b a c d e=lpK (j1N l k f i g j b a c d e) (λh=>yq h.1 h.2.1 h.2.2.1 h.2.2.2.1 h.2.2.2.2.1 h.2.2.2.2.2.1 h.2.2.2.2.2.2.1 h.2.2.2.2.2.2.2.1 h.2.2.2.2.2.2.2.2.1 h.2.2.2.2.2.2.2.2.2.1 h.2.2.2.2.2.2.2.2.2.2):=bk _ _
def j1O[LP](c b l m:Int)(a:fH)(e:af):Option ((Int×Int×Int×Int×fH×af) ⊕ ((Int×Int×fH×af))):=
 let f:=(Int.ofNat (List.length a))
 cond (decide (b<f)) (
 cond (inR c (List.length a)) (
 let j:=(List.getD a (Int.toNat c) ([]:aa))
 cond (inR b (List.length a)) (
 let g:=(List.getD a (Int.toNat b) ([]:aa))
 (j5K j g c b).bind λd=>
 cond (decide (List.length e+List.length d<=aR)) (
 let k:af:=(e++d)
 let i:=(w64 (b+1))
 some (.inl (c,i,l,m,a,k))) none) none) none) (
 some (.inr (l,m,a,e)))
def yr[LP](d c b e:Int)(a:fH)(f:af):Option ((Int×Int×fH×af)):=
 LP.lp (unc6 (j1O)) (d,c,b,e,a,f)
theorem S9(d c b e a f):yr d c b e a f=lpK (j1O d c b e a f) (λh=>yr h.1 h.2.1 h.2.2.1 h.2.2.2.1 h.2.2.2.2.1 h.2.2.2.2.2):=bk _ _
def j1P[LP](e b:Int)(g:fH)(f:af):Option ((Int×Int×fH×af) ⊕ (af)):=
 cond (decide (b<e)) (
 let d:=(w64 (b+1))
 (yr b d e b g f).bind λa=>
 let c:=(w64 (a.2.1+1))
 some (.inl (a.1,c,a.2.2.1,a.2.2.2))) (
 some (.inr f))
def yt[LP](b a:Int)(c:fH)(d:af):Option (af):=
 LP.lp (unc4 (j1P)) (b,a,c,d)
theorem Ta(b c a d):yt b c a d=lpK (j1P b c a d) (λh=>yt h.1 h.2.1 h.2.2.1 h.2.2.2):=bk _ _
def j39[LP](a:dS)(b d:Int):Option (af×Int):=
 (jfi (a.1,(a.2.1,(a.2.2.1,a.2.2.2)))).bind λc=>
 cond (!c.2) (
 some (([]:af),8)) (
 (jb4 b d).bind λk=>
 cond (!k) (
 some (([]:af),1)) (
 let i:=(Int.ofNat (List.length a.2.2.2))
 (yq b d a.2.2.2 i 0 c.1.1.1 c.1.1.2.1 c.1.1.2.2.1 c.1.1.2.2.2 c.1.2 ([]:fH)).bind λl=>
 sumC l (λn=>
 some (([]:af),n)) (λm=>
 let j:=(Int.ofNat (List.length m))
 (yt j 0 m ([]:af)).bind λg=>
 let f:=(Int.ofNat (List.length g))
 cond (decide (f>16384)) (
 some (([]:af),5)) (
 (j0o g).bind λe=>
 some (e,0)))))
def j4J(j m:Int)(l:ag)(n b:Int):Option ((Int×Int×ag×Int×Int) ⊕ (Int)):=
 cond (decide (b<n)) (
 cond (inR b (List.length l)) (
 let a:=(List.getD l (Int.toNat b) (0,0))
 let e:Int:=(if j<a.2 then j else a.2:Int)
 let c:=(w64 (j-604800))
 let f:Int:=(if c>a.1 then c else a.1:Int)
 let d:=(w64 (e-f))
 let k:Int:=(if d>0 then d else 0:Int)
 let g:=(w64 (m+k))
 let i:=(w64 (b+1))
 some (.inl (j,g,l,n,i))) none) (
 some (.inr m))
def AW[LP](d c:Int)(b:ag)(e a:Int):Option (Int):=
 LP.lp (unc5 (j4J)) (d,c,b,e,a)
theorem Tb(d c b e a):AW d c b e a=lpK (j4J d c b e a) (λh=>AW h.1 h.2.1 h.2.2.1 h.2.2.2.1 h.2.2.2.2):=bk _ _
def j6d[LP](a:ag)(b:Int):Option (Int):=
 let d:=(Int.ofNat (List.length a))
 (AW b 0 a d 0).bind λc=>
 some c
def j5d(l:ag)(o n m:Int)(d:ag)(j b:Int)(k:(List Int)):Option ((ag×Int×Int×Int×ag×Int×Int×(List Int)) ⊕ ((ag×Int×Int×Int×(List Int)))):=
 cond (decide (b<j)) (
 cond (inR b (List.length d)) (
 let a:=(List.getD d (Int.toNat b) (0,0))
 let e:=(w64 (a.1+604800))
 let f:=(w64 (a.2+604800))
 let c:(List Int):=[a.1,a.2,e,f]
 cond (decide (List.length k+List.length c<=aR)) (
 let i:(List Int):=(k++c)
 let g:=(w64 (b+1))
 some (.inl (l,o,n,m,d,j,g,i))) none) none) (
 some (.inr (l,o,n,m,k)))
def yu[LP](d:ag)(i f e:Int)(a:ag)(b c:Int)(g:(List Int)):Option ((ag×Int×Int×Int×(List Int))):=
 LP.lp (unc8 (j5d)) (d,i,f,e,a,b,c,g)
theorem Tc(d i f e a b c g):yu d i f e a b c g=lpK (j5d d i f e a b c g) (λh=>yu h.1 h.2.1 h.2.2.1 h.2.2.2.1 h.2.2.2.2.1 h.2.2.2.2.2.1 h.2.2.2.2.2.2.1 h.2.2.2.2.2.2.2):=bk _ _
def j2N[LP](j:ag)(i q g b:Int)(d f:(List Int)):Option ((ag×Int×Int×Int×Int×(List Int)×(List Int)) ⊕ ((List Int))):=
 cond (decide (b<g)) (
 cond (inR b (List.length f)) (
 let a:=(List.getD f (Int.toNat b) 0)
 (j6d j q).bind λe=>
 (j6d j a).bind λk=>
 cond (cond (decide (e<=i)) (decide (k>i)) false) (
 let n:=(w64 (q+i))
 let p:=(w64 (n-e))
 let c:=(w64 (p+1))
 cond (decide (List.length d+List.length [c]<=aR)) (
 let o:(List Int):=(d++[c])
 let l:=(w64 (b+1))
 some (.inl (j,i,a,g,l,o,f))) none) (
 let m:=(w64 (b+1))
 some (.inl (j,i,a,g,m,d,f)))) none) (
 some (.inr d))
def yw[LP](f:ag)(g d b e:Int)(a c:(List Int)):Option ((List Int)):=
 LP.lp (unc7 (j2N)) (f,g,d,b,e,a,c)
theorem Td(f g d b e a c):yw f g d b e a c=lpK (j2N f g d b e a c) (λh=>yw h.1 h.2.1 h.2.2.1 h.2.2.2.1 h.2.2.2.2.1 h.2.2.2.2.2.1 h.2.2.2.2.2.2):=bk _ _
def j8c[LP](a:ag)(b d e:Int):Option ((List Int)):=
 let g:=(Int.ofNat (List.length a))
 (yu a b d e a g 0 ([]:(List Int))).bind λc=>
 (jby c.2.2.2.2 c.2.2.1 c.2.2.2.1).bind λf=>
 let i:=(Int.ofNat (List.length f))
 (yw c.1 c.2.1 c.2.2.1 i 0 ([]:(List Int)) f).bind λj=>
 some j
def j4d(a:ag)(n b:Int)(e:(List Int)):Option ((ag×Int×Int×(List Int)) ⊕ ((List Int))):=
 let m:=(Int.ofNat (List.length a))
 cond (decide (b<m)) (
 cond (inR b (List.length a)) (
 let g:=(List.getD a (Int.toNat b) (0,0))
 let d:=(w64 (b-1))
 cond (inR d (List.length a)) (
 let l:=(List.getD a (Int.toNat d) (0,0))
 let f:=(w64 (g.1-l.2))
 cond (decide (f<n)) (
 cond (inR b (List.length a)) (
 let c:=(List.getD a (Int.toNat b) (0,0))
 cond (decide (List.length e+List.length [c.1]<=aR)) (
 let i:(List Int):=(e++[c.1])
 let k:=(w64 (b+1))
 some (.inl (a,n,k,i))) none) none) (
 let j:=(w64 (b+1))
 some (.inl (a,n,j,e)))) none) none) (
 some (.inr e))
def AX[LP](a:ag)(b c:Int)(d:(List Int)):Option ((List Int)):=
 LP.lp (unc4 (j4d)) (a,b,c,d)
theorem Ku(a d b c):AX a d b c=lpK (j4d a d b c) (λh=>AX h.1 h.2.1 h.2.2.1 h.2.2.2):=bk _ _
def j7a[LP](b:ag)(a:Int):Option ((List Int)):=
 (AX b a 1 ([]:(List Int))).bind λc=>
 some c
def j3r(a:iu)(b:Int):Option (ea):=
 cond (inR b (List.length a.2)) (
 let c:=(List.getD a.2 (Int.toNat b) (0,([]:ag)))
 some (c.1,c.2)) none
def j4K(e:ag)(g b:Int)(f:(List Int)):Option ((ag×Int×Int×(List Int)) ⊕ ((List Int))):=
 cond (decide (b<g)) (
 cond (inR b (List.length e)) (
 let a:=(List.getD e (Int.toNat b) (0,0))
 cond (decide (List.length f+List.length [a.1]<=aR)) (
 let c:(List Int):=(f++[a.1])
 let d:=(w64 (b+1))
 some (.inl (e,g,d,c))) none) none) (
 some (.inr f))
def yx[LP](b:ag)(a d:Int)(c:(List Int)):Option ((List Int)):=
 LP.lp (unc4 (j4K)) (b,a,d,c)
theorem Te(b a d c):yx b a d c=lpK (j4K b a d c) (λh=>yx h.1 h.2.1 h.2.2.1 h.2.2.2):=bk _ _
def j4B[LP](a:ag):Option ((List Int)):=
 let c:=(Int.ofNat (List.length a))
 (yx a c 0 ([]:(List Int))).bind λb=>
 some b
def j5x(a b:xK):Option (Int):=
 cond (a.2.2 != b.2.2) (
 let d:=(w64 (a.2.2-b.2.2))
 some d) (
 cond (a.1 != b.1) (
 let e:=(w64 (a.1-b.1))
 some e) (
 let c:=(w64 (a.2.1-b.2.1))
 some c))
def j03(a:aa):Option (aa):=
 tz ((.pair (.int .i64) (.pair (.int .i64) (.int .i64)))) (λb c=>(j5x b c).getD 0) a
def j0J(i b f:Int)(a:aa):Option ((Int×Int×Int×aa) ⊕ ((Int×aa))):=
 let j:=(Int.ofNat (List.length a-(Int.toNat b)))
 cond (decide (f<j)) (
 cond (inR f (List.length a-(Int.toNat b))) (
 let d:=(List.getD a ((Int.toNat b)+(Int.toNat f)) (0,(0,0)))
 let g:=(w64 (f-1))
 cond (inR g (List.length a-(Int.toNat b))) (
 let c:=(List.getD a ((Int.toNat b)+(Int.toNat g)) (0,(0,0)))
 cond (!((d.1==c.1)&&((d.2.1==c.2.1)&&(d.2.2==c.2.2)))) (
 cond (inR f (List.length a-(Int.toNat b))) (
 let e:=(List.getD a ((Int.toNat b)+(Int.toNat f)) (0,(0,0)))
 cond (inR i (List.length a)) (
 let n:aa:=(List.set a (Int.toNat i) (e.1,(e.2.1,e.2.2)))
 let m:=(w64 (i+1))
 let k:=(w64 (f+1))
 some (.inl (m,(Int.ofNat (Int.toNat b)),k,n))) none) none) (
 let l:=(w64 (f+1))
 some (.inl (i,(Int.ofNat (Int.toNat b)),l,a)))) none) none) (
 some (.inr (i,a)))
def yy[LP](a d b:Int)(c:aa):Option ((Int×aa)):=
 LP.lp (unc4 (j0J)) (a,d,b,c)
theorem Tf(a b c d):yy a b c d=lpK (j0J a b c d) (λh=>yy h.1 h.2.1 h.2.2.1 h.2.2.2):=bk _ _
def j0d[LP](b:Int)(d:aa):Option ((Int×aa) ⊕ ((Int×aa) ⊕ aa)):=
 let i:=(Int.ofNat (List.length d))
 cond (decide (b<i)) (
 cond (inR b (List.length d)) (
 let c:=(List.getD d (Int.toNat b) (0,(0,0)))
 let f:=(w64 (b-1))
 cond (inR f (List.length d)) (
 let e:=(List.getD d (Int.toNat f) (0,(0,0)))
 cond ((c.1==e.1)&&((c.2.1==e.2.1)&&(c.2.2==e.2.2))) (
 cond (decide (0<=b)&&decide (b<=(Int.ofNat (List.length d)))) (
 (yy b (Int.ofNat (Int.toNat b)) 1 d).bind λa=>
 cond (decide (0<=a.1)&&decide (a.1<=(Int.ofNat (List.length a.2)))) (
 let g:aa:=(List.take (Int.toNat a.1) a.2++List.replicate (List.length a.2-(Int.toNat a.1)) (0,(0,0)))
 cond (decide (0<=a.1)&&decide (a.1<=(Int.ofNat (List.length g)))) (
 some (.inr (.inl ((Int.ofNat (Int.toNat a.1)),g)))) none) none) none) (
 let j:=(w64 (b+1))
 some (.inl (j,d)))) none) none) (
 some (.inr (.inr d)))
def tI[LP](a:Int)(b:aa):Option ((Int×aa) ⊕ aa):=
 LP.lp (unc2 (j0d)) (a,b)
theorem Tg(a b):tI a b=lpK (j0d a b) (λh=>tI h.1 h.2):=bk _ _
def j05[LP](a:aa):Option (Int×aa):=
 let b:=(Int.ofNat (List.length a))
 cond (decide (b<2)) (
 some ((Int.ofNat (List.length a)),a)) (
 (tI 1 a).bind λc=>
 sumC c (λd=>
 some ((Int.ofNat (Int.toNat d.1)),d.2)) (λe=>
 some ((Int.ofNat (List.length e)),e)))
def j3s(n j b:Int)(c:af)(d e f a:(List Int)):Option ((Int×Int×Int×af×(List Int)×(List Int)×(List Int)×(List Int)) ⊕ ((Int×(List Int)×(List Int)×(List Int)×(List Int)))):=
 cond (decide (b<j)) (
 cond (inR b (List.length c)) (
 let i:=(List.getD c (Int.toNat b) (0,(0,(0,(0,0)))))
 cond (i.1==n) (
 let g:(List Int):=[i.2.2.2.1]
 cond (decide (List.length a+List.length g<=aR)) (
 let m:(List Int):=(a++g)
 let k:=(w64 (b+1))
 some (.inl (n,j,k,c,d,e,f,m))) none) (
 let l:=(w64 (b+1))
 some (.inl (n,j,l,c,d,e,f,a)))) none) (
 some (.inr (n,d,e,f,a)))
def mE[LP](i e g:Int)(f:af)(b c d a:(List Int)):Option ((Int×(List Int)×(List Int)×(List Int)×(List Int))):=
 LP.lp (unc8 (j3s)) (i,e,g,f,b,c,d,a)
theorem Th(i e g f b c d a):mE i e g f b c d a=lpK (j3s i e g f b c d a) (λh=>mE h.1 h.2.1 h.2.2.1 h.2.2.2.1 h.2.2.2.2.1 h.2.2.2.2.2.1 h.2.2.2.2.2.2.1 h.2.2.2.2.2.2.2):=bk _ _
def j3t(m l:Int)(k:(List (List Int)))(j:Int)(c:(List Int))(e a:Int)(f:aa):Option ((Int×Int×(List (List Int))×Int×(List Int)×Int×Int×aa) ⊕ ((Int×(List (List Int))×Int×aa))):=
 cond (decide (a<e)) (
 cond (inR a (List.length c)) (
 let g:=(List.getD c (Int.toNat a) 0)
 let b:aa:=[(l,(m,g))]
 cond (decide (List.length f+List.length b<=aR)) (
 let d:aa:=(f++b)
 let i:=(w64 (a+1))
 some (.inl (m,l,k,j,c,e,i,d))) none) none) (
 some (.inr (m,k,j,f)))
def rV[LP](i g:Int)(d:(List (List Int)))(c:Int)(b:(List Int))(a e:Int)(f:aa):Option ((Int×(List (List Int))×Int×aa)):=
 LP.lp (unc8 (j3t)) (i,g,d,c,b,a,e,f)
theorem Ti(i g:Int)(d:(List (List Int)))(c:Int)(b:(List Int))(a e:Int)(f:aa):rV i g d c b a e f=lpK (j3t i g d c b a e f) (λh=>rV h.1 h.2.1 h.2.2.1 h.2.2.2.1 h.2.2.2.2.1 h.2.2.2.2.2.1 h.2.2.2.2.2.2.1 h.2.2.2.2.2.2.2):=bk _ _
def j0T[LP](i:Int)(f:(List (List Int)))(a:Int)(g:aa):Option ((Int×(List (List Int))×Int×aa) ⊕ (aa)):=
 cond (decide (a<4)) (
 cond (inR a 4) (
 let c:=(List.getD f (Int.toNat a) ([]:(List Int)))
 let d:=(Int.ofNat (List.length c))
 (rV i a f a c d 0 g).bind λb=>
 let e:=(w64 (b.2.2.1+1))
 some (.inl (b.1,b.2.1,e,b.2.2.2))) none) (
 some (.inr g))
def nj[LP](d:Int)(b:(List (List Int)))(a:Int)(c:aa):Option (aa):=
 LP.lp (unc4 (j0T)) (d,b,a,c)
theorem Dv(d:Int)(b:(List (List Int)))(a:Int)(c:aa):nj d b a c=lpK (j0T d b a c) (λh=>nj h.1 h.2.1 h.2.2.1 h.2.2.2):=bk _ _
def j14[LP](g:dS)(a c f:Int):Option (aa×Int):=
 (j6v (g.1,(g.2.1,(g.2.2.1,g.2.2.2))) a c f).bind λb=>
 cond (b.2 != 0) (
 some (([]:aa),b.2)) (
 (j5k ((b.1.1.1,(b.1.1.2.1,(b.1.1.2.2.1,b.1.1.2.2.2))),b.1.2) a c f).bind λi=>
 cond (i.2 != 0) (
 some (([]:aa),i.2)) (
 (j39 (g.1,(g.2.1,(g.2.2.1,g.2.2.2))) c f).bind λe=>
 cond (e.2 != 0) (
 some (([]:aa),e.2)) (
 cond (inR a (List.length g.2.1)) (
 let d:=(List.getD g.2.1 (Int.toNat a) (ByteArray.empty,(0,(([]:ag),(0,(0,false))))))
 cond (d.2.2.2.1 != 0) (
 (j8c i.1 d.2.2.2.1 c f).bind λa8=>
 cond (d.2.2.2.2.1 != 0) (
 (j7a i.1 d.2.2.2.2.1).bind λf3=>
 cond (!d.2.2.2.2.2) (
 (j3r ((b.1.1.1,(b.1.1.2.1,(b.1.1.2.2.1,b.1.1.2.2.2))),b.1.2) d.2.1).bind λf2=>
 (j2x (f2.1,f2.2) d.2.2.1 c f).bind λg7=>
 (j4p i.1 g7).bind λf4=>
 let g6:=(Int.ofNat (List.length f4))
 cond (decide (g6>4096)) (
 some (([]:aa),5)) (
 (j4B f4).bind λg8=>
 let g2:=(Int.ofNat (List.length e.1))
 (mE a g2 0 e.1 a8 f3 g8 ([]:(List Int))).bind λc8=>
 let f8:(List (List Int)):=[c8.2.1,c8.2.2.1,c8.2.2.2.1,c8.2.2.2.2]
 (nj c8.1 f8 0 ([]:aa)).bind λg9=>
 (j03 g9).bind λf6=>
 (j05 f6).bind λd9=>
 let d4:aa:=(List.take (Int.toNat d9.1) d9.2)
 let g4:=(Int.ofNat (List.length d4))
 cond (decide (g4>16384)) (
 some (([]:aa),5)) (
 some (d4,0)))) (
 let e1:=(Int.ofNat (List.length e.1))
 (mE a e1 0 e.1 a8 f3 ([]:(List Int)) ([]:(List Int))).bind λn=>
 let d0:(List (List Int)):=[n.2.1,n.2.2.1,n.2.2.2.1,n.2.2.2.2]
 (nj n.1 d0 0 ([]:aa)).bind λg1=>
 (j03 g1).bind λb7=>
 (j05 b7).bind λz=>
 let x:aa:=(List.take (Int.toNat z.1) z.2)
 let c1:=(Int.ofNat (List.length x))
 cond (decide (c1>16384)) (
 some (([]:aa),5)) (
 some (x,0)))) (
 cond (!d.2.2.2.2.2) (
 (j3r ((b.1.1.1,(b.1.1.2.1,(b.1.1.2.2.1,b.1.1.2.2.2))),b.1.2) d.2.1).bind λa7=>
 (j2x (a7.1,a7.2) d.2.2.1 c f).bind λf0=>
 (j4p i.1 f0).bind λb0=>
 let e9:=(Int.ofNat (List.length b0))
 cond (decide (e9>4096)) (
 some (([]:aa),5)) (
 (j4B b0).bind λe8=>
 let d1:=(Int.ofNat (List.length e.1))
 (mE a d1 0 e.1 a8 ([]:(List Int)) e8 ([]:(List Int))).bind λl=>
 let c7:(List (List Int)):=[l.2.1,l.2.2.1,l.2.2.2.1,l.2.2.2.2]
 (nj l.1 c7 0 ([]:aa)).bind λf9=>
 (j03 f9).bind λc6=>
 (j05 c6).bind λa2=>
 let a1:aa:=(List.take (Int.toNat a2.1) a2.2)
 let b5:=(Int.ofNat (List.length a1))
 cond (decide (b5>16384)) (
 some (([]:aa),5)) (
 some (a1,0)))) (
 let c3:=(Int.ofNat (List.length e.1))
 (mE a c3 0 e.1 a8 ([]:(List Int)) ([]:(List Int)) ([]:(List Int))).bind λm=>
 let d7:(List (List Int)):=[m.2.1,m.2.2.1,m.2.2.2.1,m.2.2.2.2]
 (nj m.1 d7 0 ([]:aa)).bind λg5=>
 (j03 g5).bind λd2=>
 (j05 d2).bind λa3=>
 let s:aa:=(List.take (Int.toNat a3.1) a3.2)
 let d8:=(Int.ofNat (List.length s))
 cond (decide (d8>16384)) (
 some (([]:aa),5)) (
 some (s,0))))) (
 cond (d.2.2.2.2.1 != 0) (
 (j7a i.1 d.2.2.2.2.1).bind λb1=>
 cond (!d.2.2.2.2.2) (
 (j3r ((b.1.1.1,(b.1.1.2.1,(b.1.1.2.2.1,b.1.1.2.2.2))),b.1.2) d.2.1).bind λa9=>
 (j2x (a9.1,a9.2) d.2.2.1 c f).bind λe4=>
 (j4p i.1 e4).bind λa5=>
 let e6:=(Int.ofNat (List.length a5))
 cond (decide (e6>4096)) (
 some (([]:aa),5)) (
 (j4B a5).bind λe5=>
 let b6:=(Int.ofNat (List.length e.1))
 (mE a b6 0 e.1 ([]:(List Int)) b1 e5 ([]:(List Int))).bind λp=>
 let d3:(List (List Int)):=[p.2.1,p.2.2.1,p.2.2.2.1,p.2.2.2.2]
 (nj p.1 d3 0 ([]:aa)).bind λf7=>
 (j03 f7).bind λb8=>
 (j05 b8).bind λr=>
 let y:aa:=(List.take (Int.toNat r.1) r.2)
 let c5:=(Int.ofNat (List.length y))
 cond (decide (c5>16384)) (
 some (([]:aa),5)) (
 some (y,0)))) (
 let b2:=(Int.ofNat (List.length e.1))
 (mE a b2 0 e.1 ([]:(List Int)) b1 ([]:(List Int)) ([]:(List Int))).bind λo=>
 let d6:(List (List Int)):=[o.2.1,o.2.2.1,o.2.2.2.1,o.2.2.2.2]
 (nj o.1 d6 0 ([]:aa)).bind λf5=>
 (j03 f5).bind λb9=>
 (j05 b9).bind λu=>
 let v:aa:=(List.take (Int.toNat u.1) u.2)
 let c4:=(Int.ofNat (List.length v))
 cond (decide (c4>16384)) (
 some (([]:aa),5)) (
 some (v,0)))) (
 cond (!d.2.2.2.2.2) (
 (j3r ((b.1.1.1,(b.1.1.2.1,(b.1.1.2.2.1,b.1.1.2.2.2))),b.1.2) d.2.1).bind λa6=>
 (j2x (a6.1,a6.2) d.2.2.1 c f).bind λf1=>
 (j4p i.1 f1).bind λa4=>
 let e3:=(Int.ofNat (List.length a4))
 cond (decide (e3>4096)) (
 some (([]:aa),5)) (
 (j4B a4).bind λe7=>
 let c2:=(Int.ofNat (List.length e.1))
 (mE a c2 0 e.1 ([]:(List Int)) ([]:(List Int)) e7 ([]:(List Int))).bind λk=>
 let e2:(List (List Int)):=[k.2.1,k.2.2.1,k.2.2.2.1,k.2.2.2.2]
 (nj k.1 e2 0 ([]:aa)).bind λg0=>
 (j03 g0).bind λe0=>
 (j05 e0).bind λa0=>
 let w:aa:=(List.take (Int.toNat a0.1) a0.2)
 let b4:=(Int.ofNat (List.length w))
 cond (decide (b4>16384)) (
 some (([]:aa),5)) (
 some (w,0)))) (
 let b3:=(Int.ofNat (List.length e.1))
 (mE a b3 0 e.1 ([]:(List Int)) ([]:(List Int)) ([]:(List Int)) ([]:(List Int))).bind λj=>
 let c9:(List (List Int)):=[j.2.1,j.2.2.1,j.2.2.2.1,j.2.2.2.2]
 (nj j.1 c9 0 ([]:aa)).bind λg3=>
 (j03 g3).bind λd5=>
 (j05 d5).bind λt=>
 let q:aa:=(List.take (Int.toNat t.1) t.2)
 let c0:=(Int.ofNat (List.length q))
 cond (decide (c0>16384)) (
 some (([]:aa),5)) (
 some (q,0)))))) none)))
def ja9[LP](d:dS)(a c e:Int):Option (ag×Int):=
 (j6v (d.1,(d.2.1,(d.2.2.1,d.2.2.2))) a c e).bind λb=>
 cond (b.2 != 0) (
 some (([]:ag),b.2)) (
 (j5k ((b.1.1.1,(b.1.1.2.1,(b.1.1.2.2.1,b.1.1.2.2.2))),b.1.2) a c e).bind λf=>
 some (f.1,f.2))
def j5l(a:(Int×Int)):Option (Int):=
 (j8v a.1).bind λb=>
 let d:=(w64 (b*86400))
 let c:=(w64 (d+a.2))
 some c
def jfQ(e:Int)(d:ag)(f c:Int):Option ((Int×ag×Int×Int) ⊕ (Bool ⊕ Unit)):=
 cond (decide (c<f)) (
 cond (inR c (List.length d)) (
 let a:=(List.getD d (Int.toNat c) (0,0))
 cond (cond (decide (a.1<=e)) (decide (e<a.2)) false) (
 some (.inr (.inl true))) (
 let b:=(w64 (c+1))
 some (.inl (e,d,f,b)))) none) (
 some (.inr (.inr ())))
def Kv[LP](b:Int)(c:ag)(d a:Int):Option (Bool ⊕ Unit):=
 LP.lp (unc4 (jfQ)) (b,c,d,a)
def jh9[LP](a:ag)(b:Int):Option (Bool):=
 let d:=(Int.ofNat (List.length a))
 (Kv b a d 0).bind λc=>
 sumC c (λe=>
 some e) (λf=>
 some false)
def j65[LP](c:dS)(a d:Int)(f:Bool):Option (Bool):=
 (j6v (c.1,(c.2.1,(c.2.2.1,c.2.2.2))) a d d).bind λb=>
 cond (b.2 != 0) (
 some false) (
 cond (inR a (List.length c.2.1)) (
 let e:=(List.getD c.2.1 (Int.toNat a) (ByteArray.empty,(0,(([]:ag),(0,(0,false))))))
 cond f (
 cond e.2.2.2.2.2 (
 some true) (
 (j3r ((b.1.1.1,(b.1.1.2.1,(b.1.1.2.2.1,b.1.1.2.2.2))),b.1.2) e.2.1).bind λm=>
 (j1B (m.1,m.2) d).bind λl=>
 (j5l (l.1,l.2)).bind λo=>
 (jh9 e.2.2.1 o).bind λn=>
 some (!n))) (
 (j3r ((b.1.1.1,(b.1.1.2.1,(b.1.1.2.2.1,b.1.1.2.2.2))),b.1.2) e.2.1).bind λi=>
 (j1B (i.1,i.2) d).bind λg=>
 (j5l (g.1,g.2)).bind λj=>
 (jh9 e.2.2.1 j).bind λk=>
 some (!k))) none)
def jb7[LP]  : Option (Bool):=
 (jlW 144000 39600 false).bind λa=>
 (j14 (a.1,(a.2.1,(a.2.2.1,a.2.2.2))) 0 86400 286400).bind λb=>
 let o:af:=[(0,(0,(0,(90000,126000))))]
 cond (inR 0 (List.length a.2.2.2)) (
 let g:aB:=(List.set a.2.2.2 0 ((List.getD a.2.2.2 0 (ByteArray.empty,(([]:bc),([]:af)))).1,((List.getD a.2.2.2 0 (ByteArray.empty,(([]:bc),([]:af)))).2.1,o)))
 (j14 (a.1,(a.2.1,(a.2.2.1,g))) 0 86400 172800).bind λc=>
 (ja9 (a.1,(a.2.1,(a.2.2.1,g))) 0 86400 172800).bind λl=>
 let q:=(Int.ofNat (List.length b.1))
 let i:Bool:=(cond (cond (cond (b.2==0) (c.2==0) false) (l.2==0) false) (q==2) false)
 cond ((inR 0 (List.length b.1)) || !i) (
 let d:=(List.getD b.1 0 (0,(0,0)))
 let k:Bool:=(cond i ((d.1==2)&&((d.2.1==0)&&(d.2.2==172800))) false)
 cond ((inR 1 (List.length b.1)) || !k) (
 let e:=(List.getD b.1 1 (0,(0,0)))
 let j:Bool:=(cond k ((e.1==0)&&((e.2.1==0)&&(e.2.2==230401))) false)
 let m:=(Int.ofNat (List.length c.1))
 cond ((inR 0 (List.length c.1)) || !(cond j (m==1) false)) (
 let f:=(List.getD c.1 0 (0,(0,0)))
 let n:Bool:=(cond (cond j (m==1) false) ((f.1==1)&&((f.2.1==0)&&(f.2.2==126000))) false)
 let s:=(Int.ofNat (List.length l.1))
 cond (cond n (s==2) false) (
 (j65 (a.1,(a.2.1,(a.2.2.1,g))) 0 86400 false).bind λr=>
 cond r (
 (j65 (a.1,(a.2.1,(a.2.2.1,g))) 0 172800 true).bind λp=>
 some (!p)) (
 some false)) (
 some false)) none) none) none) none
def jlY(a:(List Int)):Option ((List Int)×Int):=
 some (a,0)
def j07(b:(List Int))(a c:Int):Option (Int×(List Int)×Int):=
 let g:=(Int.ofNat (List.length b))
 cond (decide (a>=g)) (
 some (0,b,a)) (
 cond (decide (c<1)) (
 some (0,b,a)) (
 cond (inR a (List.length b)) (
 let f:=(List.getD b (Int.toNat a) 0)
 cond (!(c==0)) (
 let d:=(Int.tmod f c)
 let e:=(w64 (a+1))
 cond (decide (d<0)) (
 let i:=(w64 (d+c))
 some (i,b,e)) (
 some (d,b,e))) none) none))
def j2b(d:(List Int))(b:Int)(a:(List Int)):Option (Int×(List Int)×Int):=
 let f:=(Int.ofNat (List.length a))
 (j07 d b f).bind λc=>
 cond (inR c.1 (List.length a)) (
 let e:=(List.getD a (Int.toNat c.1) 0)
 some (e,c.2.1,c.2.2)) none
def j5y(a0:(List Int))(m:Int)(a:ByteArray):Option (kO×(List Int)×Int):=
 let a6:(List Int):=[0,4,(-20),22,48,(-47)]
 (j2b a0 m a6).bind λq=>
 (j07 q.2.1 q.2.2 2).bind λu=>
 (j07 u.2.1 u.2.2 3).bind λk=>
 let b4:=(w64 (u.1*k.1))
 let a7:=(w64 (q.1+b4))
 let c:=(w64 (900*a7))
 (j07 k.2.1 k.2.2 2).bind λo=>
 let g:=(w64 (2025+o.1))
 (j07 o.2.1 o.2.2 4).bind λb=>
 cond (b.1==1) (
 let b6:=(w64 (c+3600))
 let b1:ct:=[(2025,(g,(3,(5,(6,(7200,b6)))))),(2025,(g,(10,(5,(6,(10800,c))))))]
 some ((a,(c,b1)),b.2.1,b.2.2)) (
 cond (b.1==2) (
 (j07 b.2.1 b.2.2 4).bind λv=>
 let b3:=(w64 (1+v.1))
 (j07 v.2.1 v.2.2 7).bind λn=>
 (j07 n.2.1 n.2.2 24).bind λx=>
 let a8:=(w64 (3600*x.1))
 (j07 x.2.1 x.2.2 8).bind λj=>
 let a1:=(w64 (1+j.1))
 let a2:=(w64 (1800*a1))
 let a4:=(w64 (c+a2))
 (j07 j.2.1 j.2.2 2).bind λl=>
 let a3:=(w64 (2+l.1))
 let b2:(List Int):=[2,3,5]
 (j2b l.2.1 l.2.2 b2).bind λi=>
 (j07 i.2.1 i.2.2 7).bind λr=>
 (j07 r.2.1 r.2.2 24).bind λp=>
 let b5:=(w64 (3600*p.1))
 let b7:ct:=[(2025,(g,(1,(b3,(n.1,(a8,a4)))))),(2025,(g,(a3,(i.1,(r.1,(b5,c))))))]
 some ((a,(c,b7)),p.2.1,p.2.2)) (
 cond (b.1==3) (
 let a9:(List Int):=[3600,(-3600),82800,(-82800),43200]
 (j2b b.2.1 b.2.2 a9).bind λf=>
 let t:=(w64 (c+f.1))
 cond (cond (decide (t>64800)) true (decide (t<(-64800)))) (
 (j07 f.2.1 f.2.2 7).bind λs=>
 (j07 s.2.1 s.2.2 48).bind λw=>
 let a5:=(w64 (1800*w.1))
 let b0:ct:=[(2026,(2026,(1,(2,(s.1,(a5,0))))))]
 some ((a,(c,b0)),w.2.1,w.2.2)) (
 (j07 f.2.1 f.2.2 7).bind λd=>
 (j07 d.2.1 d.2.2 48).bind λe=>
 let y:=(w64 (1800*e.1))
 let z:ct:=[(2026,(2026,(1,(2,(d.1,(y,t))))))]
 some ((a,(c,z)),e.2.1,e.2.2))) (
 some ((a,(c,([]:ct))),b.2.1,b.2.2))))
def jha  : Option ((List ByteArray)):=
 let a:(List ByteArray):=[(ByteArray.mk #[97,100,97]),(ByteArray.mk #[98,111,98]),(ByteArray.mk #[99,108,101,111]),(ByteArray.mk #[100,97,110]),(ByteArray.mk #[101,118,101]),(ByteArray.mk #[102,97,121]),(ByteArray.mk #[103,117,115]),(ByteArray.mk #[104,97,108])]
 some a
def j1T(d:(List Int))(b a:Int):Option (Bool×(List Int)×Int):=
 (j07 d b a).bind λc=>
 let e:=(w64 (a-1))
 some ((c.1==e),c.2.1,c.2.2)
def j3u(r p:Int)(q:(List Int))(g:Int)(j:ag):Option ((Int×Int×(List Int)×Int×ag) ⊕ (((List Int)×Int×ag))):=
 cond (decide (p>0)) (
 (j07 q g 30).bind λd=>
 let m:=(w64 (3600*d.1))
 let k:=(w64 (r+m))
 (j07 d.2.1 d.2.2 2).bind λc=>
 let l:=(w64 (60*c.1))
 let e:=(w64 (k+l))
 let i:(List Int):=[3600,28800,43200,86400,61,1]
 (j2b c.2.1 c.2.2 i).bind λa=>
 let b:=(w64 (e+a.1))
 cond (decide (b>604800)) (
 some (.inr (a.2.1,a.2.2,j))) (
 let f:ag:=[(e,b)]
 cond (decide (List.length j+List.length f<=aR)) (
 let n:ag:=(j++f)
 let o:=(w64 (p-1))
 some (.inl (b,o,a.2.1,a.2.2,n))) none)) (
 some (.inr (q,g,j)))
def Gg[LP](b d:Int)(e:(List Int))(a:Int)(c:ag):Option (((List Int)×Int×ag)):=
 LP.lp (unc5 (j3u)) (b,d,e,a,c)
theorem Tj(b d e a c):Gg b d e a c=lpK (j3u b d e a c) (λh=>Gg h.1 h.2.1 h.2.2.1 h.2.2.2.1 h.2.2.2.2):=bk _ _
def j5E[LP](d:(List Int))(a:Int):Option (ag×(List Int)×Int):=
 (j07 d a 4).bind λc=>
 (Gg 0 c.1 c.2.1 c.2.2 ([]:ag)).bind λb=>
 some (b.2.2,b.1,b.2.1)
def j47(k:Int)(l:(List Int))(f:Int)(b:au):Option ((Int×(List Int)×Int×au) ⊕ (((List Int)×Int×au))):=
 cond (decide (k>0)) (
 let c:(List ByteArray):=[(ByteArray.mk #[104,101,114,101]),(ByteArray.mk #[116,104,101,114,101])]
 let e:=(Int.ofNat (List.length b))
 cond (inR e (List.length c)) (
 let g:=(List.getD c (Int.toNat e) ByteArray.empty)
 (j5y l f g).bind λa=>
 let d:au:=[(a.1.1,(a.1.2.1,a.1.2.2))]
 cond (decide (List.length b+List.length d<=aR)) (
 let i:au:=(b++d)
 let j:=(w64 (k-1))
 some (.inl (j,a.2.1,a.2.2,i))) none) none) (
 some (.inr (l,f,b)))
def Gh[LP](c:Int)(d:(List Int))(a:Int)(b:au):Option (((List Int)×Int×au)):=
 LP.lp (unc4 (j47)) (c,d,a,b)
theorem Tk(c d b a):Gh c d b a=lpK (j47 c d b a) (λh=>Gh h.1 h.2.1 h.2.2.1 h.2.2.2):=bk _ _
def j48[LP](a4:Int)(a5:(List Int))(q:Int)(e:au)(b:ax):Option ((Int×(List Int)×Int×au×ax) ⊕ (((List Int)×Int×au×ax))):=
 cond (decide (a4>0)) (
 (jha).bind λm=>
 let o:=(Int.ofNat (List.length b))
 cond (inR o (List.length m)) (
 let n:=(List.getD m (Int.toNat o) ByteArray.empty)
 let v:=(Int.ofNat (List.length e))
 (j07 a5 q v).bind λd=>
 (j1T d.2.1 d.2.2 3).bind λc=>
 (j1T c.2.1 c.2.2 2).bind λa=>
 cond a.1 (
 (j5E a.2.1 a.2.2).bind λg=>
 let s:(List Int):=[0,40,100,12]
 (j2b g.2.1 g.2.2 s).bind λk=>
 let a0:=(w64 (3600*k.1))
 let z:(List Int):=[0,11,24,1]
 (j2b k.2.1 k.2.2 z).bind λi=>
 let w:=(w64 (3600*i.1))
 let p:ax:=[(n,(d.1,(g.1,(a0,(w,c.1)))))]
 cond (decide (List.length b+List.length p<=aR)) (
 let r:ax:=(b++p)
 let a2:=(w64 (a4-1))
 some (.inl (a2,i.2.1,i.2.2,e,r))) none) (
 let a3:(List Int):=[0,40,100,12]
 (j2b a.2.1 a.2.2 a3).bind λj=>
 let t:=(w64 (3600*j.1))
 let y:(List Int):=[0,11,24,1]
 (j2b j.2.1 j.2.2 y).bind λf=>
 let u:=(w64 (3600*f.1))
 let l:ax:=[(n,(d.1,(([]:ag),(t,(u,c.1)))))]
 cond (decide (List.length b+List.length l<=aR)) (
 let x:ax:=(b++l)
 let a1:=(w64 (a4-1))
 some (.inl (a1,f.2.1,f.2.2,e,x))) none)) none) (
 some (.inr (a5,q,e,b)))
def Gj[LP](d:Int)(e:(List Int))(c:Int)(a:au)(b:ax):Option (((List Int)×Int×au×ax)):=
 LP.lp (unc5 (j48)) (d,e,c,a,b)
theorem Tl(d e c a b):Gj d e c a b=lpK (j48 d e c a b) (λh=>Gj h.1 h.2.1 h.2.2.1 h.2.2.2.1 h.2.2.2.2):=bk _ _
def j49(m q n:Int)(o:(List Int))(i:Int)(p:ByteArray)(e:Int)(d:au)(g:ax)(j:aA)(c:(List Int)):Option ((Int×Int×Int×(List Int)×Int×ByteArray×Int×au×ax×aA×(List Int)) ⊕ ((Int×(List Int)×Int×ByteArray×Int×au×ax×aA×(List Int)))):=
 cond (decide (q>0)) (
 (j07 o i 6).bind λb=>
 let l:=(w64 (1+b.1))
 let a:=(w64 (n+l))
 cond (decide (List.length c+List.length [a]<=aR)) (
 let f:(List Int):=(c++[a])
 let k:=(w64 (q-1))
 some (.inl (m,k,a,b.2.1,b.2.2,p,e,d,g,j,f))) none) (
 some (.inr (m,o,i,p,e,d,g,j,c)))
def Gk[LP](i l g:Int)(j:(List Int))(e:Int)(k:ByteArray)(c:Int)(a:au)(d:ax)(f:aA)(b:(List Int)):Option ((Int×(List Int)×Int×ByteArray×Int×au×ax×aA×(List Int))):=
 LP.lp (jtH (j49)) (i,l,g,j,e,k,c,a,d,f,b)
theorem Tm(i l g j e k c a d f b):Gk i l g j e k c a d f b=lpK (j49 i l g j e k c a d f b) (λh=>Gk h.1 h.2.1 h.2.2.1 h.2.2.2.1 h.2.2.2.2.1 h.2.2.2.2.2.1 h.2.2.2.2.2.2.1 h.2.2.2.2.2.2.2.1 h.2.2.2.2.2.2.2.2.1 h.2.2.2.2.2.2.2.2.2.1 h.2.2.2.2.2.2.2.2.2.2):=bk _ _
def j3c[LP](m:Int)(n:(List Int))(i:Int)(e:au)(g:ax)(j:aA):Option ((Int×(List Int)×Int×au×ax×aA) ⊕ (((List Int)×Int×au×ax×aA))):=
 cond (decide (m>0)) (
 let l:=(Int.ofNat (List.length e))
 (j07 n i l).bind λb=>
 (j07 b.2.1 b.2.2 4).bind λc=>
 (Gk m c.1 20454 c.2.1 c.2.2 (ByteArray.mk #[100,97,121,115]) b.1 e g j ([]:(List Int))).bind λa=>
 let d:aA:=[(a.2.2.2.1,(a.2.2.2.2.1,a.2.2.2.2.2.2.2.2))]
 cond (decide (List.length a.2.2.2.2.2.2.2.1+List.length d<=aR)) (
 let f:aA:=(a.2.2.2.2.2.2.2.1++d)
 let k:=(w64 (a.1-1))
 some (.inl (k,a.2.1,a.2.2.1,a.2.2.2.2.2.1,a.2.2.2.2.2.2.1,f))) none) (
 some (.inr (n,i,e,g,j)))
def Gl[LP](e:Int)(f:(List Int))(c:Int)(a:au)(b:ax)(d:aA):Option (((List Int)×Int×au×ax×aA)):=
 LP.lp (unc6 (j3c)) (e,f,c,a,b,d)
theorem Kw(e f c a b d):Gl e f c a b d=lpK (j3c e f c a b d) (λh=>Gl h.1 h.2.1 h.2.2.1 h.2.2.2.1 h.2.2.2.2.1 h.2.2.2.2.2):=bk _ _
def jab[LP](g:(List Int))(c:Int):Option (dS×(List Int)×Int):=
 (j07 g c 2).bind λb=>
 let k:=(w64 (1+b.1))
 (Gh k b.2.1 b.2.2 ([]:au)).bind λi=>
 (j07 i.1 i.2.1 4).bind λd=>
 let j:=(w64 (1+d.1))
 (Gj j d.2.1 d.2.2 i.2.2 ([]:ax)).bind λf=>
 (j07 f.1 f.2.1 2).bind λe=>
 (Gl e.1 e.2.1 e.2.2 f.2.2.1 f.2.2.2 ([]:aA)).bind λa=>
 some ((a.2.2.1,(a.2.2.2.1,(a.2.2.2.2,([]:aB)))),a.1,a.2.1)
def j4a(z:Int)(a1:(List Int))(i:Int)(a0:au)(b:ax)(o:aA)(g:aB)(a2:ByteArray)(p l d k n s j:Int)(y:ByteArray)(r e q t u f m:Int)(c:(List Int)):Option ((Int×(List Int)×Int×au×ax×aA×aB×ByteArray×Int×Int×Int×Int×Int×Int×Int×ByteArray×Int×Int×Int×Int×Int×Int×Int×(List Int)) ⊕ (((List Int)×Int×au×ax×aA×aB×ByteArray×Int×Int×Int×Int×Int×Int×Int×ByteArray×Int×Int×Int×Int×Int×Int×Int×(List Int)))):=
 cond (decide (z>0)) (
 let v:=(Int.ofNat (List.length b))
 (j07 a1 i v).bind λa=>
 cond (decide (List.length c+List.length [a.1]<=aR)) (
 let w:(List Int):=(c++[a.1])
 let x:=(w64 (z-1))
 some (.inl (x,a.2.1,a.2.2,a0,b,o,g,a2,p,l,d,k,n,s,j,y,r,e,q,t,u,f,m,w))) none) (
 some (.inr (a1,i,a0,b,o,g,a2,p,l,d,k,n,s,j,y,r,e,q,t,u,f,m,c)))
def Dw[LP](v:Int)(x:(List Int))(e:Int)(w:au)(g:ax)(n:aA)(d:aB)(y:ByteArray)(o k a j m r f:Int)(u:ByteArray)(q b p s t c l:Int)(i:(List Int)):Option (((List Int)×Int×au×ax×aA×aB×ByteArray×Int×Int×Int×Int×Int×Int×Int×ByteArray×Int×Int×Int×Int×Int×Int×Int×(List Int))):=
 LP.lp (jAd (j4a)) (v,x,e,w,g,n,d,y,o,k,a,j,m,r,f,u,q,b,p,s,t,c,l,i)
theorem Tn(v x e w g n d y o k a j m r f u q b p s t c l i):Dw v x e w g n d y o k a j m r f u q b p s t c l i=lpK (j4a v x e w g n d y o k a j m r f u q b p s t c l i) (λh=>Dw h.1 h.2.1 h.2.2.1 h.2.2.2.1 h.2.2.2.2.1 h.2.2.2.2.2.1 h.2.2.2.2.2.2.1 h.2.2.2.2.2.2.2.1 h.2.2.2.2.2.2.2.2.1 h.2.2.2.2.2.2.2.2.2.1 h.2.2.2.2.2.2.2.2.2.2.1 h.2.2.2.2.2.2.2.2.2.2.2.1 h.2.2.2.2.2.2.2.2.2.2.2.2.1 h.2.2.2.2.2.2.2.2.2.2.2.2.2.1 h.2.2.2.2.2.2.2.2.2.2.2.2.2.2.1 h.2.2.2.2.2.2.2.2.2.2.2.2.2.2.2.1 h.2.2.2.2.2.2.2.2.2.2.2.2.2.2.2.2.1 h.2.2.2.2.2.2.2.2.2.2.2.2.2.2.2.2.2.1 h.2.2.2.2.2.2.2.2.2.2.2.2.2.2.2.2.2.2.1 h.2.2.2.2.2.2.2.2.2.2.2.2.2.2.2.2.2.2.2.1 h.2.2.2.2.2.2.2.2.2.2.2.2.2.2.2.2.2.2.2.2.1 h.2.2.2.2.2.2.2.2.2.2.2.2.2.2.2.2.2.2.2.2.2.1 h.2.2.2.2.2.2.2.2.2.2.2.2.2.2.2.2.2.2.2.2.2.2.1 h.2.2.2.2.2.2.2.2.2.2.2.2.2.2.2.2.2.2.2.2.2.2.2):=bk _ _
def jac[LP](b5:(List Int))(z:Int)(c:dS)(j:ByteArray):Option (ir×(List Int)×Int):=
 let c4:=(Int.ofNat (List.length c.1))
 (j07 b5 z c4).bind λw=>
 (j07 w.2.1 w.2.2 6).bind λa2=>
 let b8:=(w64 (20454+a2.1))
 let b4:=(w64 (b8-2))
 let b9:(List Int):=[0,32400,7200,9000,79200,1]
 (j2b a2.2.1 a2.2.2 b9).bind λv=>
 (j07 v.2.1 v.2.2 3).bind λu=>
 (j07 u.2.1 u.2.2 2).bind λr=>
 let c1:=(w64 (1+r.1))
 cond (u.1==0) (
 let c3:(List Int):=[6,8,12,24,23,49]
 (j2b r.2.1 r.2.2 c3).bind λa1=>
 (j07 a1.2.1 a1.2.2 3).bind λa0=>
 let b7:=(w64 (1+a0.1))
 (Dw b7 a0.2.1 a0.2.2 c.1 c.2.1 c.2.2.1 c.2.2.2 ByteArray.empty 0 0 0 0 0 0 0 j w.1 b4 v.1 u.1 a1.1 0 0 ([]:(List Int))).bind λb=>
 (j1T b.1 b.2.1 2).bind λs=>
 cond s.1 (
 (j5E s.2.1 s.2.2).bind λx=>
 (j1T x.2.1 x.2.2 4).bind λt=>
 let b6:=(Int.ofNat (List.length b.2.2.2.2.1))
 cond (cond t.1 (decide (b6>0)) false) (
 let c0:=(Int.ofNat (List.length b.2.2.2.2.1))
 (j07 t.2.1 t.2.2 c0).bind λy=>
 (j07 y.2.1 y.2.2 2).bind λa3=>
 let c2:=(w64 (1+a3.1))
 some ((b.2.2.2.2.2.2.2.2.2.2.2.2.2.2.1,(b.2.2.2.2.2.2.2.2.2.2.2.2.2.2.2.1,((b.2.2.2.2.2.2.2.2.2.2.2.2.2.2.2.2.1,b.2.2.2.2.2.2.2.2.2.2.2.2.2.2.2.2.2.1),(b.2.2.2.2.2.2.2.2.2.2.2.2.2.2.2.2.2.2.1,(b.2.2.2.2.2.2.2.2.2.2.2.2.2.2.2.2.2.2.2.1,(b.2.2.2.2.2.2.2.2.2.2.2.2.2.2.2.2.2.2.2.2.2.2,(x.1,(y.1,c2)))))))),a3.2.1,a3.2.2)) (
 some ((b.2.2.2.2.2.2.2.2.2.2.2.2.2.2.1,(b.2.2.2.2.2.2.2.2.2.2.2.2.2.2.2.1,((b.2.2.2.2.2.2.2.2.2.2.2.2.2.2.2.2.1,b.2.2.2.2.2.2.2.2.2.2.2.2.2.2.2.2.2.1),(b.2.2.2.2.2.2.2.2.2.2.2.2.2.2.2.2.2.2.1,(b.2.2.2.2.2.2.2.2.2.2.2.2.2.2.2.2.2.2.2.1,(b.2.2.2.2.2.2.2.2.2.2.2.2.2.2.2.2.2.2.2.2.2.2,(x.1,(b.2.2.2.2.2.2.2.2.2.2.2.2.2.2.2.2.2.2.2.2.1,b.2.2.2.2.2.2.2.2.2.2.2.2.2.2.2.2.2.2.2.2.2.1)))))))),t.2.1,t.2.2))) (
 (j1T s.2.1 s.2.2 4).bind λf=>
 let b1:=(Int.ofNat (List.length b.2.2.2.2.1))
 cond (cond f.1 (decide (b1>0)) false) (
 let a9:=(Int.ofNat (List.length b.2.2.2.2.1))
 (j07 f.2.1 f.2.2 a9).bind λk=>
 (j07 k.2.1 k.2.2 2).bind λo=>
 let a8:=(w64 (1+o.1))
 some ((b.2.2.2.2.2.2.2.2.2.2.2.2.2.2.1,(b.2.2.2.2.2.2.2.2.2.2.2.2.2.2.2.1,((b.2.2.2.2.2.2.2.2.2.2.2.2.2.2.2.2.1,b.2.2.2.2.2.2.2.2.2.2.2.2.2.2.2.2.2.1),(b.2.2.2.2.2.2.2.2.2.2.2.2.2.2.2.2.2.2.1,(b.2.2.2.2.2.2.2.2.2.2.2.2.2.2.2.2.2.2.2.1,(b.2.2.2.2.2.2.2.2.2.2.2.2.2.2.2.2.2.2.2.2.2.2,(([]:ag),(k.1,a8)))))))),o.2.1,o.2.2)) (
 some ((b.2.2.2.2.2.2.2.2.2.2.2.2.2.2.1,(b.2.2.2.2.2.2.2.2.2.2.2.2.2.2.2.1,((b.2.2.2.2.2.2.2.2.2.2.2.2.2.2.2.2.1,b.2.2.2.2.2.2.2.2.2.2.2.2.2.2.2.2.2.1),(b.2.2.2.2.2.2.2.2.2.2.2.2.2.2.2.2.2.2.1,(b.2.2.2.2.2.2.2.2.2.2.2.2.2.2.2.2.2.2.2.1,(b.2.2.2.2.2.2.2.2.2.2.2.2.2.2.2.2.2.2.2.2.2.2,(([]:ag),(b.2.2.2.2.2.2.2.2.2.2.2.2.2.2.2.2.2.2.2.2.1,b.2.2.2.2.2.2.2.2.2.2.2.2.2.2.2.2.2.2.2.2.2.1)))))))),f.2.1,f.2.2)))) (
 (j07 r.2.1 r.2.2 3).bind λl=>
 let a5:=(w64 (1+l.1))
 (Dw a5 l.2.1 l.2.2 c.1 c.2.1 c.2.2.1 c.2.2.2 ByteArray.empty 0 0 0 0 0 0 0 j w.1 b4 v.1 u.1 c1 0 0 ([]:(List Int))).bind λa=>
 (j1T a.1 a.2.1 2).bind λd=>
 cond d.1 (
 (j5E d.2.1 d.2.2).bind λi=>
 (j1T i.2.1 i.2.2 4).bind λg=>
 let b2:=(Int.ofNat (List.length a.2.2.2.2.1))
 cond (cond g.1 (decide (b2>0)) false) (
 let a6:=(Int.ofNat (List.length a.2.2.2.2.1))
 (j07 g.2.1 g.2.2 a6).bind λm=>
 (j07 m.2.1 m.2.2 2).bind λq=>
 let a7:=(w64 (1+q.1))
 some ((a.2.2.2.2.2.2.2.2.2.2.2.2.2.2.1,(a.2.2.2.2.2.2.2.2.2.2.2.2.2.2.2.1,((a.2.2.2.2.2.2.2.2.2.2.2.2.2.2.2.2.1,a.2.2.2.2.2.2.2.2.2.2.2.2.2.2.2.2.2.1),(a.2.2.2.2.2.2.2.2.2.2.2.2.2.2.2.2.2.2.1,(a.2.2.2.2.2.2.2.2.2.2.2.2.2.2.2.2.2.2.2.1,(a.2.2.2.2.2.2.2.2.2.2.2.2.2.2.2.2.2.2.2.2.2.2,(i.1,(m.1,a7)))))))),q.2.1,q.2.2)) (
 some ((a.2.2.2.2.2.2.2.2.2.2.2.2.2.2.1,(a.2.2.2.2.2.2.2.2.2.2.2.2.2.2.2.1,((a.2.2.2.2.2.2.2.2.2.2.2.2.2.2.2.2.1,a.2.2.2.2.2.2.2.2.2.2.2.2.2.2.2.2.2.1),(a.2.2.2.2.2.2.2.2.2.2.2.2.2.2.2.2.2.2.1,(a.2.2.2.2.2.2.2.2.2.2.2.2.2.2.2.2.2.2.2.1,(a.2.2.2.2.2.2.2.2.2.2.2.2.2.2.2.2.2.2.2.2.2.2,(i.1,(a.2.2.2.2.2.2.2.2.2.2.2.2.2.2.2.2.2.2.2.2.1,a.2.2.2.2.2.2.2.2.2.2.2.2.2.2.2.2.2.2.2.2.2.1)))))))),g.2.1,g.2.2))) (
 (j1T d.2.1 d.2.2 4).bind λe=>
 let a4:=(Int.ofNat (List.length a.2.2.2.2.1))
 cond (cond e.1 (decide (a4>0)) false) (
 let b0:=(Int.ofNat (List.length a.2.2.2.2.1))
 (j07 e.2.1 e.2.2 b0).bind λn=>
 (j07 n.2.1 n.2.2 2).bind λp=>
 let b3:=(w64 (1+p.1))
 some ((a.2.2.2.2.2.2.2.2.2.2.2.2.2.2.1,(a.2.2.2.2.2.2.2.2.2.2.2.2.2.2.2.1,((a.2.2.2.2.2.2.2.2.2.2.2.2.2.2.2.2.1,a.2.2.2.2.2.2.2.2.2.2.2.2.2.2.2.2.2.1),(a.2.2.2.2.2.2.2.2.2.2.2.2.2.2.2.2.2.2.1,(a.2.2.2.2.2.2.2.2.2.2.2.2.2.2.2.2.2.2.2.1,(a.2.2.2.2.2.2.2.2.2.2.2.2.2.2.2.2.2.2.2.2.2.2,(([]:ag),(n.1,b3)))))))),p.2.1,p.2.2)) (
 some ((a.2.2.2.2.2.2.2.2.2.2.2.2.2.2.1,(a.2.2.2.2.2.2.2.2.2.2.2.2.2.2.2.1,((a.2.2.2.2.2.2.2.2.2.2.2.2.2.2.2.2.1,a.2.2.2.2.2.2.2.2.2.2.2.2.2.2.2.2.2.1),(a.2.2.2.2.2.2.2.2.2.2.2.2.2.2.2.2.2.2.1,(a.2.2.2.2.2.2.2.2.2.2.2.2.2.2.2.2.2.2.2.1,(a.2.2.2.2.2.2.2.2.2.2.2.2.2.2.2.2.2.2.2.2.2.2,(([]:ag),(a.2.2.2.2.2.2.2.2.2.2.2.2.2.2.2.2.2.2.2.2.1,a.2.2.2.2.2.2.2.2.2.2.2.2.2.2.2.2.2.2.2.2.2.1)))))))),e.2.1,e.2.2))))
def j6Y(e:(List Int))(a:Int):Option (Int×(List Int)×Int):=
 (j07 e a 576).bind λd=>
 let j:=(w64 (3600*d.1))
 let f:=(w64 (1767139200+j))
 (j1T d.2.1 d.2.2 3).bind λc=>
 cond c.1 (
 let g:(List Int):=[(-1),1,1800,3599]
 (j2b c.2.1 c.2.2 g).bind λb=>
 let i:=(w64 (f+b.1))
 some (i,b.2.1,b.2.2)) (
 some (f,c.2.1,c.2.2))
def jbl(n:(List Int))(l:Int)(m:dS):Option (n4×(List Int)×Int):=
 let j:=(Int.ofNat (List.length m.2.1))
 (j07 n l 3).bind λa=>
 (j07 a.2.1 a.2.2 j).bind λe=>
 (j6Y e.2.1 e.2.2).bind λb=>
 let o:(List Int):=[3600,86400,7,259200,40000]
 (j2b b.2.1 b.2.2 o).bind λd=>
 let f:=(w64 (b.1+d.1))
 cond (a.1==2) (
 cond (decide (j<2)) (
 some ((0,(e.1,(0,(b.1,f)))),d.2.1,d.2.2)) (
 let p:=(w64 (e.1+1))
 let q:=(w64 (j-1))
 (j07 d.2.1 d.2.2 q).bind λi=>
 let r:=(w64 (p+i.1))
 cond (!(j==0)) (
 let k:=(Int.tmod r j)
 cond (a.1==1) (
 (j1T i.2.1 i.2.2 4).bind λg=>
 cond g.1 (
 some ((a.1,((-1),(k,(b.1,f)))),g.2.1,g.2.2)) (
 some ((a.1,(e.1,(k,(b.1,f)))),g.2.1,g.2.2))) (
 some ((a.1,(e.1,(k,(b.1,f)))),i.2.1,i.2.2))) none)) (
 cond (a.1==1) (
 (j1T d.2.1 d.2.2 4).bind λc=>
 cond c.1 (
 some ((a.1,((-1),(0,(b.1,f)))),c.2.1,c.2.2)) (
 some ((a.1,(e.1,(0,(b.1,f)))),c.2.1,c.2.2))) (
 some ((a.1,(e.1,(0,(b.1,f)))),d.2.1,d.2.2)))
def j3Q[LP](o p:Int)(q:(List Int))(j:Int)(n:au)(d:ax)(e:aA)(r:ByteArray)(c:aB)(b:bc):Option ((Int×Int×(List Int)×Int×au×ax×aA×ByteArray×aB×bc) ⊕ ((Int×(List Int)×Int×au×ax×aA×ByteArray×aB×bc))):=
 cond (decide (p>0)) (
 (jha).bind λf=>
 let g:=(Int.ofNat (List.length b))
 cond (inR g (List.length f)) (
 let k:=(List.getD f (Int.toNat g) ByteArray.empty)
 (jac q j (n,(d,(e,c))) k).bind λa=>
 let i:bc:=[(a.1.1,(a.1.2.1,((a.1.2.2.1.1,a.1.2.2.1.2),(a.1.2.2.2.1,(a.1.2.2.2.2.1,(a.1.2.2.2.2.2.1,(a.1.2.2.2.2.2.2.1,(a.1.2.2.2.2.2.2.2.1,a.1.2.2.2.2.2.2.2.2))))))))]
 cond (decide (List.length b+List.length i<=aR)) (
 let l:bc:=(b++i)
 let m:=(w64 (p-1))
 some (.inl (o,m,a.2.1,a.2.2,n,d,e,r,c,l))) none) none) (
 some (.inr (o,q,j,n,d,e,r,c,b)))
def Dx[LP](g i:Int)(j:(List Int))(e:Int)(f:au)(b:ax)(c:aA)(k:ByteArray)(a:aB)(d:bc):Option ((Int×(List Int)×Int×au×ax×aA×ByteArray×aB×bc)):=
 LP.lp (jtG (j3Q)) (g,i,j,e,f,b,c,k,a,d)
theorem To(g i j e f b c k a d):Dx g i j e f b c k a d=lpK (j3Q g i j e f b c k a d) (λh=>Dx h.1 h.2.1 h.2.2.1 h.2.2.2.1 h.2.2.2.2.1 h.2.2.2.2.2.1 h.2.2.2.2.2.2.1 h.2.2.2.2.2.2.2.1 h.2.2.2.2.2.2.2.2.1 h.2.2.2.2.2.2.2.2.2):=bk _ _
def j3R(m p:Int)(n:(List Int))(i:Int)(l:au)(c:ax)(d:aA)(o:ByteArray)(b:aB)(g:bc)(e:af):Option ((Int×Int×(List Int)×Int×au×ax×aA×ByteArray×aB×bc×af) ⊕ ((Int×(List Int)×Int×au×ax×aA×ByteArray×aB×bc×af))):=
 cond (decide (p>0)) (
 (jbl n i (l,(c,(d,b)))).bind λa=>
 let f:af:=[(a.1.1,(a.1.2.1,(a.1.2.2.1,(a.1.2.2.2.1,a.1.2.2.2.2))))]
 cond (decide (List.length e+List.length f<=aR)) (
 let k:af:=(e++f)
 let j:=(w64 (p-1))
 some (.inl (m,j,a.2.1,a.2.2,l,c,d,o,b,g,k))) none) (
 some (.inr (m,n,i,l,c,d,o,b,g,e)))
def Gm[LP](i l:Int)(j:(List Int))(f:Int)(g:au)(b:ax)(c:aA)(k:ByteArray)(a:aB)(d:bc)(e:af):Option ((Int×(List Int)×Int×au×ax×aA×ByteArray×aB×bc×af)):=
 LP.lp (jtH (j3R)) (i,l,j,f,g,b,c,k,a,d,e)
theorem Tp(i l j f g b c k a d e):Gm i l j f g b c k a d e=lpK (j3R i l j f g b c k a d e) (λh=>Gm h.1 h.2.1 h.2.2.1 h.2.2.2.1 h.2.2.2.2.1 h.2.2.2.2.2.1 h.2.2.2.2.2.2.1 h.2.2.2.2.2.2.2.1 h.2.2.2.2.2.2.2.2.1 h.2.2.2.2.2.2.2.2.2.1 h.2.2.2.2.2.2.2.2.2.2):=bk _ _
def j3S[LP](r:Int)(s:(List Int))(l:Int)(q:au)(j:ax)(k:aA)(e:aB):Option ((Int×(List Int)×Int×au×ax×aA×aB) ⊕ (((List Int)×Int×au×ax×aA×aB))):=
 cond (decide (r>0)) (
 let i:(List ByteArray):=[(ByteArray.mk #[102,105,114,115,116]),(ByteArray.mk #[115,101,99,111,110,100]),(ByteArray.mk #[116,104,105,114,100])]
 let o:=(Int.ofNat (List.length e))
 let f:=(Int.tmod o 3)
 cond (inR f (List.length i)) (
 let p:=(List.getD i (Int.toNat f) ByteArray.empty)
 (j07 s l 4).bind λd=>
 (Dx r d.1 d.2.1 d.2.2 q j k p e ([]:bc)).bind λb=>
 (j07 b.2.1 b.2.2.1 4).bind λc=>
 (Gm b.1 c.1 c.2.1 c.2.2 b.2.2.2.1 b.2.2.2.2.1 b.2.2.2.2.2.1 b.2.2.2.2.2.2.1 b.2.2.2.2.2.2.2.1 b.2.2.2.2.2.2.2.2 ([]:af)).bind λa=>
 let g:aB:=[(a.2.2.2.2.2.2.1,(a.2.2.2.2.2.2.2.2.1,a.2.2.2.2.2.2.2.2.2))]
 cond (decide (List.length a.2.2.2.2.2.2.2.1+List.length g<=aR)) (
 let m:aB:=(a.2.2.2.2.2.2.2.1++g)
 let n:=(w64 (a.1-1))
 some (.inl (n,a.2.1,a.2.2.1,a.2.2.2.1,a.2.2.2.2.1,a.2.2.2.2.2.1,m))) none) none) (
 some (.inr (s,l,q,j,k,e)))
def Gn[LP](f:Int)(g:(List Int))(d:Int)(e:au)(b:ax)(c:aA)(a:aB):Option (((List Int)×Int×au×ax×aA×aB)):=
 LP.lp (unc7 (j3S)) (f,g,d,e,b,c,a)
theorem Tq(f g d e b c a):Gn f g d e b c a=lpK (j3S f g d e b c a) (λh=>Gn h.1 h.2.1 h.2.2.1 h.2.2.2.1 h.2.2.2.2.1 h.2.2.2.2.2.1 h.2.2.2.2.2.2):=bk _ _
def j9x[LP](f:(List Int))(d e:Int):Option (dS×(List Int)×Int):=
 (jab f d).bind λa=>
 (j07 a.2.1 a.2.2 e).bind λc=>
 let g:=(w64 (1+c.1))
 (Gn g c.2.1 c.2.2 a.1.1 a.1.2.1 a.1.2.2.1 ([]:aB)).bind λb=>
 some ((b.2.2.1,(b.2.2.2.1,(b.2.2.2.2.1,b.2.2.2.2.2))),b.1,b.2.1)
def j6f[LP](l k j c:Int)(m:au)(e:ax)(f:aA)(d:aB)(b:aa):Option ((Int×Int×Int×Int×au×ax×aA×aB×aa) ⊕ (Int ⊕ aa)):=
 cond (decide (c<j)) (
 (j14 (m,(e,(f,d))) c l k).bind λa=>
 cond (a.2 != 0) (
 some (.inr (.inl a.2))) (
 cond (decide (List.length b+List.length a.1<=aR)) (
 let g:aa:=(b++a.1)
 let i:=(w64 (c+1))
 some (.inl (l,k,j,i,m,e,f,d,g))) none)) (
 some (.inr (.inr b)))
def Dy[LP](i g e f:Int)(j:au)(b:ax)(c:aA)(a:aB)(d:aa):Option (Int ⊕ aa):=
 LP.lp (unc9 (j6f)) (i,g,e,f,j,b,c,a,d)
theorem Tr(i g e f j b c a d):Dy i g e f j b c a d=lpK (j6f i g e f j b c a d) (λh=>Dy h.1 h.2.1 h.2.2.1 h.2.2.2.1 h.2.2.2.2.1 h.2.2.2.2.2.1 h.2.2.2.2.2.2.1 h.2.2.2.2.2.2.2.1 h.2.2.2.2.2.2.2.2):=bk _ _
def jeP[LP](a:dS)(b c:Int):Option (aa×Int):=
 (jfi (a.1,(a.2.1,(a.2.2.1,a.2.2.2)))).bind λd=>
 cond (!d.2) (
 some (([]:aa),8)) (
 (jb4 b c).bind λe=>
 cond (!e) (
 some (([]:aa),1)) (
 let g:=(Int.ofNat (List.length d.1.1.2.1))
 (Dy b c g 0 a.1 a.2.1 a.2.2.1 a.2.2.2 ([]:aa)).bind λj=>
 sumC j (λl=>
 some (([]:aa),l)) (λk=>
 let i:=(Int.ofNat (List.length k))
 cond (decide (i>16384)) (
 some (([]:aa),5)) (
 (j03 k).bind λf=>
 some (f,0)))))
def j6g(f g:aa)(e a:Int):Option ((aa×aa×Int×Int) ⊕ (Bool ⊕ Unit)):=
 cond (decide (a<e)) (
 cond (inR a (List.length f)) (
 let b:=(List.getD f (Int.toNat a) (0,(0,0)))
 cond (inR a (List.length g)) (
 let c:=(List.getD g (Int.toNat a) (0,(0,0)))
 cond (!((b.1==c.1)&&((b.2.1==c.2.1)&&(b.2.2==c.2.2)))) (
 some (.inr (.inl false))) (
 let d:=(w64 (a+1))
 some (.inl (f,g,e,d)))) none) none) (
 some (.inr (.inr ())))
def Dz[LP](c d:aa)(b a:Int):Option (Bool ⊕ Unit):=
 LP.lp (unc4 (j6g)) (c,d,b,a)
theorem Ts(c d a b):Dz c d a b=lpK (j6g c d a b) (λh=>Dz h.1 h.2.1 h.2.2.1 h.2.2.2):=bk _ _
def jhb[LP](a b:aa):Option (Bool):=
 let d:=(Int.ofNat (List.length a))
 let e:=(Int.ofNat (List.length b))
 cond (d != e) (
 some false) (
 let c:=(Int.ofNat (List.length a))
 (Dz a b c 0).bind λf=>
 sumC f (λg=>
 some g) (λi=>
 some true))
def j4b(u t w j l m n k a:Int)(v:au)(e:ax)(f:aA)(c:aB)(d o g:aa):Option ((Int×Int×Int×Int×Int×Int×Int×Int×Int×au×ax×aA×aB×aa×aa×aa) ⊕ ((Int×Int×Int×Int×Int×Int×au×ax×aA×aB×aa×aa×aa))):=
 cond (decide (a<k)) (
 cond (inR a (List.length d)) (
 let s:=(List.getD d (Int.toNat a) (0,(0,0))).2.1
 cond (s==j) (
 cond (inR a (List.length d)) (
 let b:=(List.getD d (Int.toNat a) (0,(0,0)))
 let i:aa:=[(b.1,(b.2.1,b.2.2))]
 cond (decide (List.length g+List.length i<=aR)) (
 let r:aa:=(g++i)
 let p:=(w64 (a+1))
 some (.inl (u,t,w,j,l,m,n,k,p,v,e,f,c,d,o,r))) none) none) (
 let q:=(w64 (a+1))
 some (.inl (u,t,w,j,l,m,n,k,q,v,e,f,c,d,o,g)))) none) (
 some (.inr (u,t,w,l,m,n,v,e,f,c,d,o,g)))
def DA[LP](n m q i k d f l e:Int)(o:au)(b:ax)(c:aA)(a:aB)(p g j:aa):Option ((Int×Int×Int×Int×Int×Int×au×ax×aA×aB×aa×aa×aa)):=
 LP.lp (jAa (j4b)) (n,m,q,i,k,d,f,l,e,o,b,c,a,p,g,j)
theorem Tt(n m q i k d f l e o b c a p g j):DA n m q i k d f l e o b c a p g j=lpK (j4b n m q i k d f l e o b c a p g j) (λh=>DA h.1 h.2.1 h.2.2.1 h.2.2.2.1 h.2.2.2.2.1 h.2.2.2.2.2.1 h.2.2.2.2.2.2.1 h.2.2.2.2.2.2.2.1 h.2.2.2.2.2.2.2.2.1 h.2.2.2.2.2.2.2.2.2.1 h.2.2.2.2.2.2.2.2.2.2.1 h.2.2.2.2.2.2.2.2.2.2.2.1 h.2.2.2.2.2.2.2.2.2.2.2.2.1 h.2.2.2.2.2.2.2.2.2.2.2.2.2.1 h.2.2.2.2.2.2.2.2.2.2.2.2.2.2.1 h.2.2.2.2.2.2.2.2.2.2.2.2.2.2.2):=bk _ _
def j4c[LP](p o r m b:Int)(q:au)(e:ax)(f:aA)(d:aB)(n:aa):Option ((Int×Int×Int×Int×Int×au×ax×aA×aB×aa) ⊕ (Bool ⊕ (Int×aa))):=
 cond (decide (b<m)) (
 (j14 (q,(e,(f,d))) b p o).bind λc=>
 let l:=(Int.ofNat (List.length n))
 (DA p o r b c.2 m b l 0 q e f d n c.1 ([]:aa)).bind λa=>
 cond (a.2.2.2.1 != 0) (
 some (.inr (.inl false))) (
 (jhb a.2.2.2.2.2.2.2.2.2.2.2.1 a.2.2.2.2.2.2.2.2.2.2.2.2).bind λg=>
 cond (!g) (
 some (.inr (.inl false))) (
 let j:=(Int.ofNat (List.length a.2.2.2.2.2.2.2.2.2.2.2.1))
 let k:=(w64 (a.2.2.1+j))
 let i:=(w64 (a.2.2.2.2.2.1+1))
 some (.inl (a.1,a.2.1,k,a.2.2.2.2.1,i,a.2.2.2.2.2.2.1,a.2.2.2.2.2.2.2.1,a.2.2.2.2.2.2.2.2.1,a.2.2.2.2.2.2.2.2.2.1,a.2.2.2.2.2.2.2.2.2.2.1))))) (
 some (.inr (.inr (r,n))))
def DB[LP](g f k d e:Int)(i:au)(b:ax)(c:aA)(a:aB)(j:aa):Option (Bool ⊕ (Int×aa)):=
 LP.lp (jtG (j4c)) (g,f,k,d,e,i,b,c,a,j)
theorem Tu(g f k d e i b c a j):DB g f k d e i b c a j=lpK (j4c g f k d e i b c a j) (λh=>DB h.1 h.2.1 h.2.2.1 h.2.2.2.1 h.2.2.2.2.1 h.2.2.2.2.2.1 h.2.2.2.2.2.2.1 h.2.2.2.2.2.2.2.1 h.2.2.2.2.2.2.2.2.1 h.2.2.2.2.2.2.2.2.2):=bk _ _
def j3d(k c:Int)(d:aa):Option ((Int×Int×aa) ⊕ (Bool ⊕ (Int×aa))):=
 let i:=(Int.ofNat (List.length d))
 cond (decide (c<i)) (
 let e:=(w64 (c-1))
 cond (inR e (List.length d)) (
 let b:=(List.getD d (Int.toNat e) (0,(0,0)))
 cond (inR c (List.length d)) (
 let a:=(List.getD d (Int.toNat c) (0,(0,0)))
 let f:Bool:=(cond (decide (b.1>a.1)) true (cond (b.1==a.1) (decide (b.2.1>=a.2.1)) false))
 let j:Bool:=(cond (decide (b.2.2>a.2.2)) true (cond (b.2.2==a.2.2) f false))
 cond j (
 some (.inr (.inl false))) (
 let g:=(w64 (c+1))
 some (.inl (k,g,d)))) none) none) (
 some (.inr (.inr (k,d))))
def DC[LP](c a:Int)(b:aa):Option (Bool ⊕ (Int×aa)):=
 LP.lp (unc3 (j3d)) (c,a,b)
theorem Kx(c a b):DC c a b=lpK (j3d c a b) (λh=>DC h.1 h.2.1 h.2.2):=bk _ _
def jcZ[LP](b:(List Int)):Option (Bool):=
 (jjQ b).bind λm=>
 cond (!m) (
 (jb7).bind λk=>
 some k) (
 (jlY b).bind λd=>
 (j9x d.1 d.2 2).bind λa=>
 (j6Y a.2.1 a.2.2).bind λc=>
 let e:=(w64 (c.1+604800))
 (jeP (a.1.1,(a.1.2.1,(a.1.2.2.1,a.1.2.2.2))) c.1 e).bind λf=>
 cond (f.2 != 0) (
 some false) (
 let l:=(Int.ofNat (List.length a.1.2.1))
 (DB c.1 e 0 l 0 a.1.1 a.1.2.1 a.1.2.2.1 a.1.2.2.2 f.1).bind λp=>
 sumC p (λr=>
 some r) (λq=>
 (DC q.1 1 q.2).bind λo=>
 sumC o (λn=>
 some n) (λg=>
 let j:=(Int.ofNat (List.length g.2))
 cond (g.1==j) (
 (jb7).bind λi=>
 some i) (
 some false)))))
end
end Go.Proofs.Pw
