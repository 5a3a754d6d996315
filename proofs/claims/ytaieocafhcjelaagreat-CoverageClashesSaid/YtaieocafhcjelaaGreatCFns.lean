/- Plain nN, printed by a program out of the given code. -/
import Derived.Test.YtaieocafhcjelaaGreatCLS
open Go Go.Lft
set_option linter.unusedVariables false
namespace Go.Proofs.Pw
noncomputable section
abbrev af:Type:=(List (Int×Int))
abbrev nO:Type:=(Int×(List Int))
abbrev uK:Type:=(Int×(Int×Int))
abbrev al:Type:=(List uK)
abbrev dV:Type:=(Int×af)
abbrev qA:Type:=(ByteArray×nO)
abbrev fF:Type:=(List al)
abbrev bu:Type:=(List dV)
abbrev kZ:Type:=(Int×(Int×uK))
abbrev an:Type:=(List qA)
abbrev ae:Type:=(List kZ)
abbrev sP:Type:=(Int×(Int×kZ))
abbrev bf:Type:=(List sP)
abbrev CO:Type:=(ByteArray×(Int×(af×(Int×(Int×Bool)))))
abbrev ak:Type:=(List CO)
abbrev dG:Type:=(ByteArray×(Int×bf))
abbrev ai:Type:=(List dG)
abbrev eP:Type:=(ByteArray×(Int×((Int×Int)×(Int×(Int×((List Int)×(af×(Int×Int))))))))
abbrev aH:Type:=(List eP)
abbrev gT:Type:=(ByteArray×(aH×ae))
abbrev ao:Type:=(List gT)
abbrev ca:Type:=(ai×(ak×(an×ao)))
abbrev gU:Type:=(ca×bu)
abbrev unc2{A0 A1 R:Type}(f:A0->A1->R)(h:A0×A1):R:=f h.1 h.2
abbrev unc3{A0 A1 A2 R:Type}(f:A0->A1->A2->R)(h:A0×A1×A2):R:=f h.1 h.2.1 h.2.2
abbrev unc4{A0 A1 A2 A3 R:Type}(f:A0->A1->A2->A3->R)(h:A0×A1×A2×A3):R:=f h.1 h.2.1 h.2.2.1 h.2.2.2
abbrev unc5{A0 A1 A2 A3 A4 R:Type}(f:A0->A1->A2->A3->A4->R)(h:A0×A1×A2×A3×A4):R:=f h.1 h.2.1 h.2.2.1 h.2.2.2.1 h.2.2.2.2
abbrev unc6{A0 A1 A2 A3 A4 A5 R:Type}(f:A0->A1->A2->A3->A4->A5->R)(h:A0×A1×A2×A3×A4×A5):R:=f h.1 h.2.1 h.2.2.1 h.2.2.2.1 h.2.2.2.2.1 h.2.2.2.2.2
abbrev unc7{A0 A1 A2 A3 A4 A5 A6 R:Type}(f:A0->A1->A2->A3->A4->A5->A6->R)(h:A0×A1×A2×A3×A4×A5×A6):R:=f h.1 h.2.1 h.2.2.1 h.2.2.2.1 h.2.2.2.2.1 h.2.2.2.2.2.1 h.2.2.2.2.2.2
abbrev unc8{A0 A1 A2 A3 A4 A5 A6 A7 R:Type}(f:A0->A1->A2->A3->A4->A5->A6->A7->R)(h:A0×A1×A2×A3×A4×A5×A6×A7):R:=f h.1 h.2.1 h.2.2.1 h.2.2.2.1 h.2.2.2.2.1 h.2.2.2.2.2.1 h.2.2.2.2.2.2.1 h.2.2.2.2.2.2.2
abbrev unc9{A0 A1 A2 A3 A4 A5 A6 A7 A8 R:Type}(f:A0->A1->A2->A3->A4->A5->A6->A7->A8->R)(h:A0×A1×A2×A3×A4×A5×A6×A7×A8):R:=f h.1 h.2.1 h.2.2.1 h.2.2.2.1 h.2.2.2.2.1 h.2.2.2.2.2.1 h.2.2.2.2.2.2.1 h.2.2.2.2.2.2.2.1 h.2.2.2.2.2.2.2.2
abbrev jkB{A0 A1 A2 A3 A4 A5 A6 A7 A8 A9 R:Type}(f:A0->A1->A2->A3->A4->A5->A6->A7->A8->A9->R)(h:A0×A1×A2×A3×A4×A5×A6×A7×A8×A9):R:=f h.1 h.2.1 h.2.2.1 h.2.2.2.1 h.2.2.2.2.1 h.2.2.2.2.2.1 h.2.2.2.2.2.2.1 h.2.2.2.2.2.2.2.1 h.2.2.2.2.2.2.2.2.1 h.2.2.2.2.2.2.2.2.2
abbrev jsw{A0 A1 A2 A3 A4 A5 A6 A7 A8 A9 gx R:Type}(f:A0->A1->A2->A3->A4->A5->A6->A7->A8->A9->gx->R)(h:A0×A1×A2×A3×A4×A5×A6×A7×A8×A9×gx):R:=f h.1 h.2.1 h.2.2.1 h.2.2.2.1 h.2.2.2.2.1 h.2.2.2.2.2.1 h.2.2.2.2.2.2.1 h.2.2.2.2.2.2.2.1 h.2.2.2.2.2.2.2.2.1 h.2.2.2.2.2.2.2.2.2.1 h.2.2.2.2.2.2.2.2.2.2
abbrev jwC{A0 A1 A2 A3 A4 A5 A6 A7 A8 A9 gx gV R:Type}(f:A0->A1->A2->A3->A4->A5->A6->A7->A8->A9->gx->gV->R)(h:A0×A1×A2×A3×A4×A5×A6×A7×A8×A9×gx×gV):R:=f h.1 h.2.1 h.2.2.1 h.2.2.2.1 h.2.2.2.2.1 h.2.2.2.2.2.1 h.2.2.2.2.2.2.1 h.2.2.2.2.2.2.2.1 h.2.2.2.2.2.2.2.2.1 h.2.2.2.2.2.2.2.2.2.1 h.2.2.2.2.2.2.2.2.2.2.1 h.2.2.2.2.2.2.2.2.2.2.2
abbrev jsx{A0 A1 A2 A3 A4 A5 A6 A7 A8 A9 gx gV iO R:Type}(f:A0->A1->A2->A3->A4->A5->A6->A7->A8->A9->gx->gV->iO->R)(h:A0×A1×A2×A3×A4×A5×A6×A7×A8×A9×gx×gV×iO):R:=f h.1 h.2.1 h.2.2.1 h.2.2.2.1 h.2.2.2.2.1 h.2.2.2.2.2.1 h.2.2.2.2.2.2.1 h.2.2.2.2.2.2.2.1 h.2.2.2.2.2.2.2.2.1 h.2.2.2.2.2.2.2.2.2.1 h.2.2.2.2.2.2.2.2.2.2.1 h.2.2.2.2.2.2.2.2.2.2.2.1 h.2.2.2.2.2.2.2.2.2.2.2.2
abbrev jmH{A0 A1 A2 A3 A4 A5 A6 A7 A8 A9 gx gV iO la R:Type}(f:A0->A1->A2->A3->A4->A5->A6->A7->A8->A9->gx->gV->iO->la->R)(h:A0×A1×A2×A3×A4×A5×A6×A7×A8×A9×gx×gV×iO×la):R:=f h.1 h.2.1 h.2.2.1 h.2.2.2.1 h.2.2.2.2.1 h.2.2.2.2.2.1 h.2.2.2.2.2.2.1 h.2.2.2.2.2.2.2.1 h.2.2.2.2.2.2.2.2.1 h.2.2.2.2.2.2.2.2.2.1 h.2.2.2.2.2.2.2.2.2.2.1 h.2.2.2.2.2.2.2.2.2.2.2.1 h.2.2.2.2.2.2.2.2.2.2.2.2.1 h.2.2.2.2.2.2.2.2.2.2.2.2.2
abbrev jAp{A0 A1 A2 A3 A4 A5 A6 A7 A8 A9 gx gV iO la mT R:Type}(f:A0->A1->A2->A3->A4->A5->A6->A7->A8->A9->gx->gV->iO->la->mT->R)(h:A0×A1×A2×A3×A4×A5×A6×A7×A8×A9×gx×gV×iO×la×mT):R:=f h.1 h.2.1 h.2.2.1 h.2.2.2.1 h.2.2.2.2.1 h.2.2.2.2.2.1 h.2.2.2.2.2.2.1 h.2.2.2.2.2.2.2.1 h.2.2.2.2.2.2.2.2.1 h.2.2.2.2.2.2.2.2.2.1 h.2.2.2.2.2.2.2.2.2.2.1 h.2.2.2.2.2.2.2.2.2.2.2.1 h.2.2.2.2.2.2.2.2.2.2.2.2.1 h.2.2.2.2.2.2.2.2.2.2.2.2.2.1 h.2.2.2.2.2.2.2.2.2.2.2.2.2.2
abbrev jDm{A0 A1 A2 A3 A4 A5 A6 A7 A8 A9 gx gV iO la mT qB qC qD R:Type}(f:A0->A1->A2->A3->A4->A5->A6->A7->A8->A9->gx->gV->iO->la->mT->qB->qC->qD->R)(h:A0×A1×A2×A3×A4×A5×A6×A7×A8×A9×gx×gV×iO×la×mT×qB×qC×qD):R:=f h.1 h.2.1 h.2.2.1 h.2.2.2.1 h.2.2.2.2.1 h.2.2.2.2.2.1 h.2.2.2.2.2.2.1 h.2.2.2.2.2.2.2.1 h.2.2.2.2.2.2.2.2.1 h.2.2.2.2.2.2.2.2.2.1 h.2.2.2.2.2.2.2.2.2.2.1 h.2.2.2.2.2.2.2.2.2.2.2.1 h.2.2.2.2.2.2.2.2.2.2.2.2.1 h.2.2.2.2.2.2.2.2.2.2.2.2.2.1 h.2.2.2.2.2.2.2.2.2.2.2.2.2.2.1 h.2.2.2.2.2.2.2.2.2.2.2.2.2.2.2.1 h.2.2.2.2.2.2.2.2.2.2.2.2.2.2.2.2.1 h.2.2.2.2.2.2.2.2.2.2.2.2.2.2.2.2.2
abbrev jDn{A0 A1 A2 A3 A4 A5 A6 A7 A8 A9 gx gV iO la mT qB qC qD uL uM R:Type}(f:A0->A1->A2->A3->A4->A5->A6->A7->A8->A9->gx->gV->iO->la->mT->qB->qC->qD->uL->uM->R)(h:A0×A1×A2×A3×A4×A5×A6×A7×A8×A9×gx×gV×iO×la×mT×qB×qC×qD×uL×uM):R:=f h.1 h.2.1 h.2.2.1 h.2.2.2.1 h.2.2.2.2.1 h.2.2.2.2.2.1 h.2.2.2.2.2.2.1 h.2.2.2.2.2.2.2.1 h.2.2.2.2.2.2.2.2.1 h.2.2.2.2.2.2.2.2.2.1 h.2.2.2.2.2.2.2.2.2.2.1 h.2.2.2.2.2.2.2.2.2.2.2.1 h.2.2.2.2.2.2.2.2.2.2.2.2.1 h.2.2.2.2.2.2.2.2.2.2.2.2.2.1 h.2.2.2.2.2.2.2.2.2.2.2.2.2.2.1 h.2.2.2.2.2.2.2.2.2.2.2.2.2.2.2.1 h.2.2.2.2.2.2.2.2.2.2.2.2.2.2.2.2.1 h.2.2.2.2.2.2.2.2.2.2.2.2.2.2.2.2.2.1 h.2.2.2.2.2.2.2.2.2.2.2.2.2.2.2.2.2.2.1 h.2.2.2.2.2.2.2.2.2.2.2.2.2.2.2.2.2.2.2
abbrev jDo{A0 A1 A2 A3 A4 A5 A6 A7 A8 A9 gx gV iO la mT qB qC qD uL uM CP CQ R:Type}(f:A0->A1->A2->A3->A4->A5->A6->A7->A8->A9->gx->gV->iO->la->mT->qB->qC->qD->uL->uM->CP->CQ->R)(h:A0×A1×A2×A3×A4×A5×A6×A7×A8×A9×gx×gV×iO×la×mT×qB×qC×qD×uL×uM×CP×CQ):R:=f h.1 h.2.1 h.2.2.1 h.2.2.2.1 h.2.2.2.2.1 h.2.2.2.2.2.1 h.2.2.2.2.2.2.1 h.2.2.2.2.2.2.2.1 h.2.2.2.2.2.2.2.2.1 h.2.2.2.2.2.2.2.2.2.1 h.2.2.2.2.2.2.2.2.2.2.1 h.2.2.2.2.2.2.2.2.2.2.2.1 h.2.2.2.2.2.2.2.2.2.2.2.2.1 h.2.2.2.2.2.2.2.2.2.2.2.2.2.1 h.2.2.2.2.2.2.2.2.2.2.2.2.2.2.1 h.2.2.2.2.2.2.2.2.2.2.2.2.2.2.2.1 h.2.2.2.2.2.2.2.2.2.2.2.2.2.2.2.2.1 h.2.2.2.2.2.2.2.2.2.2.2.2.2.2.2.2.2.1 h.2.2.2.2.2.2.2.2.2.2.2.2.2.2.2.2.2.2.1 h.2.2.2.2.2.2.2.2.2.2.2.2.2.2.2.2.2.2.2.1 h.2.2.2.2.2.2.2.2.2.2.2.2.2.2.2.2.2.2.2.2.1 h.2.2.2.2.2.2.2.2.2.2.2.2.2.2.2.2.2.2.2.2.2
abbrev jDp{A0 A1 A2 A3 A4 A5 A6 A7 A8 A9 gx gV iO la mT qB qC qD uL uM CP CQ Sh Si R:Type}(f:A0->A1->A2->A3->A4->A5->A6->A7->A8->A9->gx->gV->iO->la->mT->qB->qC->qD->uL->uM->CP->CQ->Sh->Si->R)(h:A0×A1×A2×A3×A4×A5×A6×A7×A8×A9×gx×gV×iO×la×mT×qB×qC×qD×uL×uM×CP×CQ×Sh×Si):R:=f h.1 h.2.1 h.2.2.1 h.2.2.2.1 h.2.2.2.2.1 h.2.2.2.2.2.1 h.2.2.2.2.2.2.1 h.2.2.2.2.2.2.2.1 h.2.2.2.2.2.2.2.2.1 h.2.2.2.2.2.2.2.2.2.1 h.2.2.2.2.2.2.2.2.2.2.1 h.2.2.2.2.2.2.2.2.2.2.2.1 h.2.2.2.2.2.2.2.2.2.2.2.2.1 h.2.2.2.2.2.2.2.2.2.2.2.2.2.1 h.2.2.2.2.2.2.2.2.2.2.2.2.2.2.1 h.2.2.2.2.2.2.2.2.2.2.2.2.2.2.2.1 h.2.2.2.2.2.2.2.2.2.2.2.2.2.2.2.2.1 h.2.2.2.2.2.2.2.2.2.2.2.2.2.2.2.2.2.1 h.2.2.2.2.2.2.2.2.2.2.2.2.2.2.2.2.2.2.1 h.2.2.2.2.2.2.2.2.2.2.2.2.2.2.2.2.2.2.2.1 h.2.2.2.2.2.2.2.2.2.2.2.2.2.2.2.2.2.2.2.2.1 h.2.2.2.2.2.2.2.2.2.2.2.2.2.2.2.2.2.2.2.2.2.1 h.2.2.2.2.2.2.2.2.2.2.2.2.2.2.2.2.2.2.2.2.2.2.1 h.2.2.2.2.2.2.2.2.2.2.2.2.2.2.2.2.2.2.2.2.2.2.2
def jlR(a:(List Int)):Option (Bool):=
 let b:=(Int.ofNat (List.length a))
 some (decide (b<=500))
def jlS(a:Bool):Option (ca):=
 let l:ai:=[((ByteArray.mk #[122]),(0,([]:bf)))]
 let e:ak:=[((ByteArray.mk #[97]),(0,(([]:af),(0,(0,false))))),((ByteArray.mk #[98]),(0,(([]:af),(0,(0,false)))))]
 let f:(List Int):=[0,1]
 let g:af:=[(0,432000)]
 let b:aH:=[((ByteArray.mk #[108,111,119]),(0,((4,0),(2,(1,(f,(g,(0,0))))))))]
 cond a (
 let k:af:=[(432000,604800)]
 let d:aH:=[((ByteArray.mk #[101,110,100]),(0,((4,0),(2,(1,(f,(k,(0,0))))))))]
 cond (decide (List.length b+List.length d<=aY)) (
 let j:aH:=(b++d)
 let i:ao:=[((ByteArray.mk #[115]),(j,([]:ae)))]
 some (l,(e,(([]:an),i)))) none) (
 let c:ao:=[((ByteArray.mk #[115]),(b,([]:ae)))]
 some (l,(e,(([]:an),c))))
def jcg(a:dG):Option (ByteArray):=
 some a.1
def jde(a:Int):Option (Bool):=
 some (cond (decide (a>=97)) (decide (a<=122)) false)
def jjq(a:Int):Option (Bool):=
 some (cond (decide (a>=48)) (decide (a<=57)) false)
def j7N(e:ByteArray)(c b:Int):Option ((ByteArray×Int×Int) ⊕ (Bool ⊕ Unit)):=
 cond (decide (b<c)) (
 cond (inR b (ByteArray.size e)) (
 let a:=(cN e b)
 (jde a).bind λi=>
 cond (!i) (
 (jjq a).bind λd=>
 cond (cond (cond (!d) (a != 95) false) (a != 45) false) (
 some (.inr (.inl false))) (
 let f:=(w64 (b+1))
 some (.inl (e,c,f)))) (
 let g:=(w64 (b+1))
 some (.inl (e,c,g)))) none) (
 some (.inr (.inr ())))
def xf[LP](c:ByteArray)(a b:Int):Option (Bool ⊕ Unit):=
 LP.lp (unc3 (j7N)) (c,a,b)
theorem jmI(c a b):xf c a b=lpK (j7N c a b) (λh=>xf h.1 h.2.1 h.2.2):=bh _ _
def j7F[LP](a:ByteArray):Option (Bool):=
 let f:=(Int.ofNat (ByteArray.size a))
 let b:Bool:=(cond (ByteArray.toList a==ByteArray.toList ByteArray.empty) true (decide (f>24)))
 cond ((inR 0 (ByteArray.size a)) || !(!b)) (
 let d:=(cN a 0)
 cond b (
 some false) (
 (jde d).bind λc=>
 cond (!c) (
 some false) (
 let e:=(Int.ofNat (ByteArray.size a))
 (xf a e 0).bind λg=>
 sumC g (λi=>
 some i) (λj=>
 some true)))) none
def j4o[LP](b:ByteArray)(a:(List (ByteArray×Bool))):Option (Int×(List (ByteArray×Bool))):=
 (j7F b).bind λd=>
 cond (!d) (
 some (2,a)) (
 cond (gy false a b) (
 some (4,a)) (
 let c:(List (ByteArray×Bool)):=(gX a b true)
 some (0,c)))
def jch(a c b:Int):Option (Bool):=
 some (cond (decide (a>=c)) (decide (a<=b)) false)
def jhy(a:sP):Option (Int):=
 (jch a.1 1970 2240).bind λi=>
 cond (!i) (
 some 1) (
 (jch a.2.1 a.1 2240).bind λc=>
 cond (!c) (
 some 1) (
 (jch a.2.2.1 1 12).bind λe=>
 cond (!e) (
 some 1) (
 (jch a.2.2.2.1 1 5).bind λf=>
 cond (!f) (
 some 1) (
 (jch a.2.2.2.2.1 0 6).bind λb=>
 cond (!b) (
 some 1) (
 (jch a.2.2.2.2.2.1 0 86399).bind λg=>
 cond (!g) (
 some 1) (
 (jch a.2.2.2.2.2.2 (-64800) 64800).bind λd=>
 cond (!d) (
 some 1) (
 some 0)))))))
def jlT(a:Int):Option (Bool):=
 let d:=(Int.tmod a 4)
 let c:=(Int.tmod a 100)
 let b:=(Int.tmod a 400)
 some (cond (d==0) (cond (c != 0) true (b==0)) false)
def j8y(c a:Int):Option (Int):=
 cond (cond (decide (a<1)) true (decide (a>12))) (
 some 0) (
 let e:(List Int):=[31,28,31,30,31,30,31,31,30,31,30,31]
 let j:(List Int):=(List.replicate 12 0)
 cond (a==2) (
 (jlT c).bind λg=>
 cond g (
 some 29) (
 let f:=(w64 (a-1))
 cond (inR f 12) (
 let i:=(List.getD e (Int.toNat f) 0)
 some i) none)) (
 let b:=(w64 (a-1))
 cond (inR b 12) (
 let d:=(List.getD e (Int.toNat b) 0)
 some d) none))
def jdf(a:uK):Option (Bool):=
 cond (decide (a.1>=1970)) (
 cond (decide (a.1<=2240)) (
 cond (decide (a.2.2>=1)) (
 (j8y a.1 a.2.1).bind λb=>
 some (decide (a.2.2<=b))) (
 some false)) (
 some false)) (
 some false)
def j9A(b a:Int):Option (Int):=
 cond (!(a==0)) (
 let c:=(w64 (Int.tdiv b a))
 cond (!(a==0)) (
 let e:=(Int.tmod b a)
 cond (decide (e<0)) (
 let d:=(w64 (c-1))
 some d) (
 some c)) none) none
def j6g(a:Int):Option (Int):=
 let b:=(w64 (a-1))
 let l:=(w64 (a-1970))
 let k:=(w64 (365*l))
 (j9A b 4).bind λf=>
 let d:=(w64 (k+f))
 (j9A b 100).bind λg=>
 let c:=(w64 (d-g))
 (j9A b 400).bind λj=>
 let i:=(w64 (c+j))
 let e:=(w64 (i-477))
 some e
def j4X(g f i a e:Int):Option ((Int×Int×Int×Int×Int) ⊕ (Int)):=
 cond (decide (f<a)) (
 (j8y i f).bind λd=>
 let c:=(w64 (g+d))
 let b:=(w64 (f+1))
 some (.inl (c,b,i,a,e))) (
 some (.inr g))
def zG[LP](c e d b a:Int):Option (Int):=
 LP.lp (unc5 (j4X)) (c,e,d,b,a)
theorem Sj(c e d b a):zG c e d b a=lpK (j4X c e d b a) (λh=>zG h.1 h.2.1 h.2.2.1 h.2.2.2.1 h.2.2.2.2):=bh _ _
def j80[LP](a:uK):Option (Int):=
 (j6g a.1).bind λd=>
 let c:=(w64 (d+a.2.2))
 let b:=(w64 (c-1))
 (zG b 1 a.1 a.2.1 a.2.2).bind λe=>
 some e
def j6Z(a:Int):Option (Int):=
 let c:=(Int.tmod a 7)
 let b:=(w64 (c+10))
 let d:=(Int.tmod b 7)
 some d
def jdg[LP](c b d a:Int):Option (Int×Int):=
 (jdf (c,(b,1))).bind λk=>
 let g:Bool:=(cond (cond (!k) true (decide (d<1))) true (decide (d>5)))
 let i:Bool:=(cond (cond g true (decide (a<0))) true (decide (a>6)))
 cond i (
 some (0,1)) (
 (j80 (c,(b,1))).bind λf=>
 (j6Z f).bind λs=>
 let m:=(w64 (a-s))
 let p:=(w64 (m+7))
 let o:=(Int.tmod p 7)
 let q:=(w64 (f+o))
 let r:=(w64 (d-1))
 let t:=(w64 (7*r))
 let e:=(w64 (q+t))
 (j8y c b).bind λn=>
 let l:=(w64 (f+n))
 cond (decide (e>=l)) (
 let j:=(w64 (e-7))
 some (j,0)) (
 some (e,0)))
def j9B(b a:(Int×Int)):Option (Int):=
 let c:=(w64 (b.1-a.1))
 some c
def j0q(n q p b:Int)(a:af):Option ((Int×Int×Int×Int×af) ⊕ ((Int×Int×Int×af))):=
 cond (decide (b>n)) (
 cond (inR b (List.length a)) (
 let c:=(List.getD a (Int.toNat b) (0,0))
 let d:=(w64 (b-1))
 cond (inR d (List.length a)) (
 let e:=(List.getD a (Int.toNat d) (0,0))
 (j9B (c.1,c.2) (e.1,e.2)).bind λo=>
 cond (decide (o<0)) (
 let i:=(w64 (b-1))
 let g:=(w64 (b-1))
 cond (inR g (List.length a)) (
 let k:=(List.getD a (Int.toNat g) (0,0))
 cond (inR b (List.length a)) (
 let j:=(List.getD a (Int.toNat b) (0,0))
 cond (inR b (List.length a)) (
 let f:af:=(List.set a (Int.toNat b) (k.1,k.2))
 cond (inR i (List.length f)) (
 let l:af:=(List.set f (Int.toNat i) (j.1,j.2))
 let m:=(w64 (b-1))
 some (.inl (n,q,p,m,l))) none) none) none) none) (
 some (.inr (n,q,p,a)))) none) none) (
 some (.inr (n,q,p,a)))
def zH[LP](d e a c:Int)(b:af):Option ((Int×Int×Int×af)):=
 LP.lp (unc5 (j0q)) (d,e,a,c,b)
theorem Sk(d e a c b):zH d e a c b=lpK (j0q d e a c b) (λh=>zH h.1 h.2.1 h.2.2.1 h.2.2.2.1 h.2.2.2.2):=bh _ _
def j09[LP](f e c:Int)(d:af):Option ((Int×Int×Int×af) ⊕ (af)):=
 cond (decide (c<e)) (
 (zH f e c c d).bind λa=>
 let b:=(w64 (a.2.2.1+1))
 some (.inl (a.1,a.2.1,b,a.2.2.2))) (
 some (.inr d))
def zI[LP](c d a:Int)(b:af):Option (af):=
 LP.lp (unc4 (j09)) (c,d,a,b)
theorem Kf(c d a b):zI c d a b=lpK (j09 c d a b) (λh=>zI h.1 h.2.1 h.2.2.1 h.2.2.2):=bh _ _
def j0d[LP](a:af)(b c:Int):Option (af):=
 let d:=(w64 (b+1))
 (zI b c d a).bind λe=>
 some e
def j0g[LP](d e g a:Int)(f:af):Option ((Int×Int×Int×Int×af) ⊕ ((Int×Int×Int×af))):=
 cond (decide (a<=d)) (
 (j0d f g a).bind λc=>
 let b:=(w64 (a+e))
 some (.inl (d,e,a,b,c))) (
 some (.inr (d,e,g,f)))
def zJ[LP](d e c a:Int)(b:af):Option ((Int×Int×Int×af)):=
 LP.lp (unc5 (j0g)) (d,e,c,a,b)
theorem j7j(d e c a b):zJ d e c a b=lpK (j0g d e c a b) (λh=>zJ h.1 h.2.1 h.2.2.1 h.2.2.2.1 h.2.2.2.2):=bh _ _
def j3H(b c a e:Int)(f:af):Option ((Int×Int×Int×Int×af) ⊕ ((Int×Int×Int×af))):=
 cond (decide (e<=b)) (
 let d:=(w64 (a+c))
 none) (
 some (.inr (b,c,a,f)))
def Kg[LP](d e c a:Int)(b:af):Option ((Int×Int×Int×af)):=
 LP.lp (unc5 (j3H)) (d,e,c,a,b)
def j0h[LP](g e:Int)(f:af):Option ((Int×Int×af) ⊕ (af)):=
 cond (decide (e<g)) (
 let d:=(w64 (2*e))
 (Kg g e 0 d f).bind λa=>
 let c:=(w64 (a.2.2.1+a.2.1))
 cond (decide (c<a.1)) (
 none) (
 let b:=(w64 (a.2.1*2))
 some (.inl (a.1,b,a.2.2.2)))) (
 some (.inr f))
def zK[LP](c b:Int)(a:af):Option (af):=
 LP.lp (unc3 (j0h)) (c,b,a)
theorem j7k(c b a):zK c b a=lpK (j0h c b a) (λh=>zK h.1 h.2.1 h.2.2):=bh _ _
def j0S[LP](a:af)(c:Int):Option (af):=
 (zJ c 20 0 20 a).bind λb=>
 (j0d b.2.2.2 b.2.2.1 b.1).bind λd=>
 (zK b.1 b.2.1 d).bind λe=>
 some e
def j0c[LP](a:af):Option (af):=
 let c:=(Int.ofNat (List.length a))
 (j0S a c).bind λb=>
 some b
def j3n(n:Int)(f:bf)(l b:Int)(m:ByteArray)(e:Int)(d:bf):Option ((Int×bf×Int×Int×ByteArray×Int×bf) ⊕ (Int ⊕ (Int×ByteArray×Int×bf))):=
 cond (decide (b<l)) (
 cond (inR b (List.length f)) (
 let a:=(List.getD f (Int.toNat b) (0,(0,(0,(0,(0,(0,0)))))))
 (jhy (a.1,(a.2.1,(a.2.2.1,(a.2.2.2.1,(a.2.2.2.2.1,(a.2.2.2.2.2.1,a.2.2.2.2.2.2))))))).bind λc=>
 cond (c != 0) (
 some (.inr (.inl c))) (
 let g:=(w64 (a.2.1-a.1))
 let k:=(w64 (g+1))
 let j:=(w64 (n+k))
 let i:=(w64 (b+1))
 some (.inl (j,f,l,i,m,e,d)))) none) (
 some (.inr (.inr (n,m,e,d))))
def xg[LP](g:Int)(e:bf)(c d:Int)(f:ByteArray)(b:Int)(a:bf):Option (Int ⊕ (Int×ByteArray×Int×bf)):=
 LP.lp (unc7 (j3n)) (g,e,c,d,f,b,a)
theorem Sl(g e c d f b a):xg g e c d f b a=lpK (j3n g e c d f b a) (λh=>xg h.1 h.2.1 h.2.2.1 h.2.2.2.1 h.2.2.2.2.1 h.2.2.2.2.2.1 h.2.2.2.2.2.2):=bh _ _
def j1j[LP](i:Int)(o:bf)(p q s g a e f c d:Int)(r:af):Option ((Int×bf×Int×Int×Int×Int×Int×Int×Int×Int×Int×af) ⊕ ((bf×Int×Int×af))):=
 cond (decide (i<=g)) (
 (jdg i a e f).bind λk=>
 let m:=(w64 (k.1*86400))
 let n:=(w64 (m+c))
 let b:af:=[(n,d)]
 cond (decide (List.length r+List.length b<=aY)) (
 let j:af:=(r++b)
 let l:=(w64 (i+1))
 some (.inl (l,o,p,q,s,g,a,e,f,c,d,j))) none) (
 some (.inr (o,p,q,r)))
def zL[LP](i:Int)(g:bf)(k l j f a d e b c:Int)(m:af):Option ((bf×Int×Int×af)):=
 LP.lp (jwC (j1j)) (i,g,k,l,j,f,a,d,e,b,c,m)
theorem Sn(i g k l j f a d e b c m):zL i g k l j f a d e b c m=lpK (j1j i g k l j f a d e b c m) (λh=>zL h.1 h.2.1 h.2.2.1 h.2.2.2.1 h.2.2.2.2.1 h.2.2.2.2.2.1 h.2.2.2.2.2.2.1 h.2.2.2.2.2.2.2.1 h.2.2.2.2.2.2.2.2.1 h.2.2.2.2.2.2.2.2.2.1 h.2.2.2.2.2.2.2.2.2.2.1 h.2.2.2.2.2.2.2.2.2.2.2):=bh _ _
def j1k[LP](d:bf)(f c:Int)(g:af):Option ((bf×Int×Int×af) ⊕ (af)):=
 cond (decide (c<f)) (
 cond (inR c (List.length d)) (
 let a:=(List.getD d (Int.toNat c) (0,(0,(0,(0,(0,(0,0)))))))
 (zL a.1 d f c a.1 a.2.1 a.2.2.1 a.2.2.2.1 a.2.2.2.2.1 a.2.2.2.2.2.1 a.2.2.2.2.2.2 g).bind λb=>
 let e:=(w64 (b.2.2.1+1))
 some (.inl (b.1,b.2.1,e,b.2.2.2))) none) (
 some (.inr g))
def xh[LP](a:bf)(b c:Int)(d:af):Option (af):=
 LP.lp (unc4 (j1k)) (a,b,c,d)
theorem Sp(a b c d):xh a b c d=lpK (j1k a b c d) (λh=>xh h.1 h.2.1 h.2.2.1 h.2.2.2):=bh _ _
def j4Q[LP](a:dG):Option (af×Int):=
 (jch a.2.1 (-64800) 64800).bind λd=>
 cond (!d) (
 some (([]:af),1)) (
 let f:=(Int.ofNat (List.length a.2.2))
 cond (decide (f>16)) (
 some (([]:af),5)) (
 let c:=(Int.ofNat (List.length a.2.2))
 (xg 0 a.2.2 c 0 a.1 a.2.1 a.2.2).bind λj=>
 sumC j (λk=>
 some (([]:af),k)) (λi=>
 cond (decide (i.1>640)) (
 some (([]:af),5)) (
 let e:=(Int.ofNat (List.length i.2.2.2))
 (xh i.2.2.2 e 0 ([]:af)).bind λg=>
 (j0c g).bind λb=>
 some (b,0)))))
def j3o(o m d:Int)(b j:af):Option ((Int×Int×Int×af×af) ⊕ (Int ⊕ af)):=
 cond (decide (d<m)) (
 cond (inR d (List.length j)) (
 let a:=(List.getD j (Int.toNat d) (0,0))
 cond (a.2==o) (
 let r:=(w64 (d+1))
 some (.inl (o,m,r,b,j))) (
 let c:=(w64 (a.1-o))
 let f:=(w64 (a.2-o))
 cond (cond (decide (f>=86400)) true (decide (f<=(-86400)))) (
 let v:=(Int.ofNat (List.length b))
 let p:=(Int.ofNat (List.length b))
 let i:=(w64 (p-1))
 cond ((inR i (List.length b)) || !((!true)&&(decide (v>0)))) (
 let s:=(List.getD b (Int.toNat i) (0,0)).1
 let x:=(w64 (s+604800))
 some (.inr (.inl 6))) none) (
 (jch c 0 8589934592).bind λe=>
 let l:=(Int.ofNat (List.length b))
 let q:=(Int.ofNat (List.length b))
 let g:=(w64 (q-1))
 cond ((inR g (List.length b)) || !((!(!e))&&(decide (l>0)))) (
 let u:=(List.getD b (Int.toNat g) (0,0)).1
 let n:=(w64 (u+604800))
 cond (cond (!e) true (cond (decide (l>0)) (decide (c<n)) false)) (
 some (.inr (.inl 6))) (
 let k:af:=[(c,a.2)]
 cond (decide (List.length b+List.length k<=aY)) (
 let t:af:=(b++k)
 let w:=(w64 (d+1))
 some (.inl (a.2,m,w,t,j))) none)) none))) none) (
 some (.inr (.inr b)))
def xi[LP](e c a:Int)(d b:af):Option (Int ⊕ af):=
 LP.lp (unc5 (j3o)) (e,c,a,d,b)
theorem Sq(e c a d b):xi e c a d b=lpK (j3o e c a d b) (λh=>xi h.1 h.2.1 h.2.2.1 h.2.2.2.1 h.2.2.2.2):=bh _ _
def j2V[LP](a:dG):Option (af×Int):=
 (j4Q (a.1,(a.2.1,a.2.2))).bind λb=>
 cond (b.2 != 0) (
 some (([]:af),b.2)) (
 let c:=(Int.ofNat (List.length b.1))
 (xi a.2.1 c 0 ([]:af) b.1).bind λd=>
 sumC d (λe=>
 some (([]:af),e)) (λf=>
 some (f,0)))
def j9U[LP](a:dG):Option (Int):=
 (j2V (a.1,(a.2.1,a.2.2))).bind λb=>
 some b.2
def j8P(a:sP):Option (Bool):=
 let b:=(Int.tmod a.2.2.2.2.2.2 60)
 some (b != 0)
def j0s(e:bf)(f b:Int):Option ((bf×Int×Int) ⊕ (Int ⊕ Unit)):=
 cond (decide (b<f)) (
 cond (inR b (List.length e)) (
 let a:=(List.getD e (Int.toNat b) (0,(0,(0,(0,(0,(0,0)))))))
 (j8P (a.1,(a.2.1,(a.2.2.1,(a.2.2.2.1,(a.2.2.2.2.1,(a.2.2.2.2.2.1,a.2.2.2.2.2.2))))))).bind λd=>
 cond d (
 some (.inr (.inl b))) (
 let c:=(w64 (b+1))
 some (.inl (e,f,c)))) none) (
 some (.inr (.inr ())))
def zM[LP](c:bf)(a b:Int):Option (Int ⊕ Unit):=
 LP.lp (unc3 (j0s)) (c,a,b)
theorem Sr(c a b):zM c a b=lpK (j0s c a b) (λh=>zM h.1 h.2.1 h.2.2):=bh _ _
def j0v[LP](a:bf):Option (Int):=
 let b:=(Int.ofNat (List.length a))
 (zM a b 0).bind λc=>
 sumC c (λd=>
 some d) (λe=>
 some (-1))
def j0o[LP](a:bf):Option (Bool):=
 (j0v a).bind λb=>
 some (decide (b>=0))
def j3p[LP](a:dG):Option (Int):=
 (j9U (a.1,(a.2.1,a.2.2))).bind λd=>
 let c:=(Int.tmod a.2.1 60)
 cond (cond (d != 0) true (c != 0)) (
 some 8) (
 (j0o a.2.2).bind λb=>
 cond b (
 some 8) (
 some 0))
def j0K[LP](e:ai)(i d:Int)(j:(List (ByteArray×Bool))):Option ((ai×Int×Int×(List (ByteArray×Bool))) ⊕ (Int ⊕ Unit)):=
 cond (decide (d<i)) (
 cond (inR d (List.length e)) (
 let a:=(List.getD e (Int.toNat d) (ByteArray.empty,(0,([]:bf))))
 (jcg (a.1,(a.2.1,a.2.2))).bind λg=>
 (j4o g j).bind λb=>
 cond (b.1 != 0) (
 some (.inr (.inl b.1))) (
 (j3p (a.1,(a.2.1,a.2.2))).bind λc=>
 cond (c != 0) (
 some (.inr (.inl c))) (
 let f:=(w64 (d+1))
 some (.inl (e,i,f,b.2))))) none) (
 some (.inr (.inr ())))
def xj[LP](b:ai)(c a:Int)(d:(List (ByteArray×Bool))):Option (Int ⊕ Unit):=
 LP.lp (unc4 (j0K)) (b,c,a,d)
theorem Su(a:ai)(b c:Int)(d:(List (ByteArray×Bool))):xj a b c d=lpK (j0K a b c d) (λh=>xj h.1 h.2.1 h.2.2.1 h.2.2.2):=bh _ _
def j2B[LP](a:ai):Option (Int):=
 let c:(List (ByteArray×Bool)):=([]:(List (ByteArray×Bool)))
 let b:=(Int.ofNat (List.length a))
 (xj a b 0 c).bind λd=>
 sumC d (λe=>
 some e) (λf=>
 some 0)
def j2W(a b:Int):Option (Bool):=
 some (cond (decide (a>=0)) (decide (a<b)) false)
def j5P(f d:af)(k b:Int):Option ((af×af×Int×Int) ⊕ (Int ⊕ Unit)):=
 cond (decide (b<k)) (
 cond (inR b (List.length d)) (
 let a:=(List.getD d (Int.toNat b) (0,0))
 let i:Bool:=(cond (cond (decide (a.1<0)) true (decide (a.1>=a.2))) true (decide (a.2>604800)))
 cond i (
 some (.inr (.inl 1))) (
 cond (decide (b>0)) (
 let c:=(w64 (b-1))
 cond (inR c (List.length f)) (
 let g:=(List.getD f (Int.toNat c) (0,0))
 cond (decide (a.1<g.2)) (
 some (.inr (.inl 6))) (
 let e:=(w64 (b+1))
 some (.inl (f,d,k,e)))) none) (
 let j:=(w64 (b+1))
 some (.inl (f,d,k,j))))) none) (
 some (.inr (.inr ())))
def zN[LP](c b:af)(d a:Int):Option (Int ⊕ Unit):=
 LP.lp (unc4 (j5P)) (c,b,d,a)
theorem Sv(d b c a):zN d b c a=lpK (j5P d b c a) (λh=>zN h.1 h.2.1 h.2.2.1 h.2.2.2):=bh _ _
def j9V[LP](a:af):Option (Int):=
 let c:=(Int.ofNat (List.length a))
 cond (decide (c>14)) (
 some 5) (
 let b:=(Int.ofNat (List.length a))
 (zN a a b 0).bind λd=>
 sumC d (λe=>
 some e) (λf=>
 some 0))
def j8A(a c b:Int):Option (Bool):=
 some (cond (decide (a>=c)) (decide (a<=b)) false)
def j5Q(a:Int):Option (Bool):=
 (j8A a 0 604800).bind λb=>
 let c:=(Int.tmod a 3600)
 some (cond b (c==0) false)
def j2h[LP](b:ca)(a:CO):Option (Int):=
 let d:=(Int.ofNat (List.length b.1))
 (j2W a.2.1 d).bind λg=>
 cond (!g) (
 some 3) (
 (j9V a.2.2.1).bind λf=>
 cond (f != 0) (
 some 8) (
 (j5Q a.2.2.2.1).bind λc=>
 cond (!c) (
 some 1) (
 (j5Q a.2.2.2.2.1).bind λe=>
 cond (!e) (
 some 1) (
 some 0))))
def jci(a:qA):Option (ByteArray):=
 some a.1
def jeu(e d:Int):Option ((Int×Int) ⊕ (Int)):=
 let b:=(w64 (d+1))
 (j6g b).bind λc=>
 cond (decide (c<=e)) (
 let a:=(w64 (d+1))
 some (.inl (e,a))) (
 some (.inr d))
def Kh[LP](b a:Int):Option (Int):=
 LP.lp (unc2 (jeu)) (b,a)
def jfp[LP](a:Int):Option (Int):=
 (j9A a 366).bind λd=>
 let b:=(w64 (1970+d))
 (Kh a b).bind λc=>
 some c
def jcJ(k l b c g a d:Int):Option ((Int×Int×Int×Int×Int×Int×Int) ⊕ ((Int×Int×Int×Int×Int×Int×Int))):=
 (j8y g a).bind λe=>
 cond (decide (k>=e)) (
 (j8y g a).bind λj=>
 let i:=(w64 (k-j))
 let f:=(w64 (a+1))
 some (.inl (i,l,b,c,g,f,d))) (
 some (.inr (k,l,b,c,g,a,d)))
def Ki[LP](e g a b f d c:Int):Option ((Int×Int×Int×Int×Int×Int×Int)):=
 LP.lp (unc7 (jcJ)) (e,g,a,b,f,d,c)
def j5R[LP](a:Int):Option (uK×Int):=
 (j6g 1970).bind λi=>
 cond (decide (a<i)) (
 some ((0,(0,0)),1)) (
 (j6g 2241).bind λg=>
 cond (decide (a>=g)) (
 some ((0,(0,0)),1)) (
 (jfp a).bind λb=>
 (j6g b).bind λd=>
 let f:=(w64 (a-d))
 (Ki f 0 0 0 b 1 0).bind λc=>
 let e:=(w64 (c.1+1))
 some ((c.2.2.2.2.1,(c.2.2.2.2.2.1,e)),0)))
def j17[LP](a:Int):Option (Bool):=
 (j5R a).bind λb=>
 some (b.2==0)
def j2H[LP](a:Int):Option (Bool):=
 (j17 a).bind λb=>
 some (!b)
def j0y[LP](e:(List Int))(f a:Int):Option (((List Int)×Int×Int) ⊕ (Int ⊕ Unit)):=
 cond (decide (a<f)) (
 cond (inR a (List.length e)) (
 let b:=(List.getD e (Int.toNat a) 0)
 (j2H b).bind λd=>
 cond d (
 some (.inr (.inl a))) (
 let c:=(w64 (a+1))
 some (.inl (e,f,c)))) none) (
 some (.inr (.inr ())))
def zO[LP](c:(List Int))(a b:Int):Option (Int ⊕ Unit):=
 LP.lp (unc3 (j0y)) (c,a,b)
theorem Sw(c a b):zO c a b=lpK (j0y c a b) (λh=>zO h.1 h.2.1 h.2.2):=bh _ _
def j2I[LP](a:(List Int)):Option (Int):=
 let b:=(Int.ofNat (List.length a))
 (zO a b 0).bind λc=>
 sumC c (λd=>
 some d) (λe=>
 some (-1))
def j21[LP](a:(List Int)):Option (Bool):=
 (j2I a).bind λb=>
 some (decide (b>=0))
def j2p(d b:Int)(k:ByteArray)(e:Int)(a:(List Int)):Option ((Int×Int×ByteArray×Int×(List Int)) ⊕ (Int ⊕ Unit)):=
 cond (decide (b<d)) (
 cond (decide (b>0)) (
 cond (inR b (List.length a)) (
 let g:=(List.getD a (Int.toNat b) 0)
 let c:=(w64 (b-1))
 cond (inR c (List.length a)) (
 let i:=(List.getD a (Int.toNat c) 0)
 cond (decide (g<=i)) (
 some (.inr (.inl 6))) (
 let f:=(w64 (b+1))
 some (.inl (d,f,k,e,a)))) none) none) (
 let j:=(w64 (b+1))
 some (.inl (d,j,k,e,a)))) (
 some (.inr (.inr ())))
def zP[LP](c d:Int)(e:ByteArray)(a:Int)(b:(List Int)):Option (Int ⊕ Unit):=
 LP.lp (unc5 (j2p)) (c,d,e,a,b)
theorem Sz(c d e a b):zP c d e a b=lpK (j2p c d e a b) (λh=>zP h.1 h.2.1 h.2.2.1 h.2.2.2.1 h.2.2.2.2):=bh _ _
def j29[LP](b:ca)(a:qA):Option (Int):=
 let c:=(Int.ofNat (List.length b.1))
 (j2W a.2.1 c).bind λd=>
 cond (!d) (
 some 3) (
 let g:=(Int.ofNat (List.length a.2.2))
 cond (decide (g>64)) (
 some 5) (
 (j21 a.2.2).bind λe=>
 cond e (
 some 1) (
 let f:=(Int.ofNat (List.length a.2.2))
 (zP f 0 a.1 a.2.1 a.2.2).bind λi=>
 sumC i (λj=>
 some j) (λk=>
 some 0))))
def j5J[LP](a:qA)(e:ai)(d:ak)(c:an)(b:ao):Option (Int):=
 (j29 (e,(d,(c,b))) (a.1,(a.2.1,a.2.2))).bind λf=>
 some f
def j0t[LP](m:ai)(g:ak)(e:an)(i:ao)(f:an)(l d:Int)(n:(List (ByteArray×Bool))):Option ((ai×ak×an×ao×an×Int×Int×(List (ByteArray×Bool))) ⊕ (Int ⊕ Unit)):=
 cond (decide (d<l)) (
 cond (inR d (List.length f)) (
 let a:=(List.getD f (Int.toNat d) (ByteArray.empty,(0,([]:(List Int)))))
 (jci (a.1,(a.2.1,a.2.2))).bind λk=>
 (j4o k n).bind λb=>
 cond (b.1 != 0) (
 some (.inr (.inl b.1))) (
 (j5J (a.1,(a.2.1,a.2.2)) m g e i).bind λc=>
 cond (c != 0) (
 some (.inr (.inl c))) (
 let j:=(w64 (d+1))
 some (.inl (m,g,e,i,f,l,j,b.2))))) none) (
 some (.inr (.inr ())))
def xk[LP](i:ai)(b:ak)(a:an)(c:ao)(d:an)(e f:Int)(g:(List (ByteArray×Bool))):Option (Int ⊕ Unit):=
 LP.lp (unc8 (j0t)) (i,b,a,c,d,e,f,g)
theorem SA(i:ai)(b:ak)(a:an)(c:ao)(d:an)(e f:Int)(g:(List (ByteArray×Bool))):xk i b a c d e f g=lpK (j0t i b a c d e f g) (λh=>xk h.1 h.2.1 h.2.2.1 h.2.2.2.1 h.2.2.2.2.1 h.2.2.2.2.2.1 h.2.2.2.2.2.2.1 h.2.2.2.2.2.2.2):=bh _ _
def j1w[LP](e:an)(d:ai)(c:ak)(b:an)(a:ao):Option (Int):=
 let g:(List (ByteArray×Bool)):=([]:(List (ByteArray×Bool)))
 let f:=(Int.ofNat (List.length e))
 (xk d c b a e f 0 g).bind λi=>
 sumC i (λj=>
 some j) (λk=>
 some 0)
def jcj(a:gT):Option (ByteArray):=
 some a.1
def j6D(a:eP):Option (ByteArray):=
 some a.1
def j82(a:Int)(g:ai)(b:ak)(d:an)(c:ao):Option (Bool):=
 let e:=(Int.ofNat (List.length b))
 (j2W a e).bind λf=>
 some (!f)
def j1e(i:(List Int))(k:ai)(d:ak)(c:an)(b:ao)(j a:Int):Option (((List Int)×ai×ak×an×ao×Int×Int) ⊕ (Int ⊕ Unit)):=
 cond (decide (a<j)) (
 cond (inR a (List.length i)) (
 let e:=(List.getD i (Int.toNat a) 0)
 (j82 e k d c b).bind λg=>
 cond g (
 some (.inr (.inl a))) (
 let f:=(w64 (a+1))
 some (.inl (i,k,d,c,b,j,f)))) none) (
 some (.inr (.inr ())))
def zQ[LP](e:(List Int))(g:ai)(c:ak)(b:an)(a:ao)(f d:Int):Option (Int ⊕ Unit):=
 LP.lp (unc7 (j1e)) (e,g,c,b,a,f,d)
theorem SB(e g c b a f d):zQ e g c b a f d=lpK (j1e e g c b a f d) (λh=>zQ h.1 h.2.1 h.2.2.1 h.2.2.2.1 h.2.2.2.2.1 h.2.2.2.2.2.1 h.2.2.2.2.2.2):=bh _ _
def j22[LP](b:(List Int))(e:ai)(a:ak)(c:an)(d:ao):Option (Int):=
 let f:=(Int.ofNat (List.length b))
 (zQ b e a c d f 0).bind λg=>
 sumC g (λi=>
 some i) (λj=>
 some (-1))
def j1m[LP](d:(List Int))(e:ai)(a:ak)(b:an)(c:ao):Option (Bool):=
 (j22 d e a b c).bind λf=>
 some (decide (f>=0))
def j35[LP](b:ca)(a:eP):Option (Int):=
 let e:=(Int.ofNat (List.length b.1))
 (j2W a.2.1 e).bind λo=>
 cond (!o) (
 some 3) (
 cond (decide (a.2.2.1.1<1)) (
 some 1) (
 (j17 a.2.2.1.1).bind λf=>
 cond (!f) (
 some 1) (
 (j8A a.2.2.1.2 0 86399).bind λk=>
 cond (!k) (
 some 1) (
 (j8A a.2.2.2.1 0 2).bind λd=>
 cond (!d) (
 some 1) (
 (j8A a.2.2.2.2.1 1 400).bind λi=>
 cond (!i) (
 some 1) (
 let n:=(Int.ofNat (List.length a.2.2.2.2.2.1))
 cond (n==0) (
 some 7) (
 let j:=(Int.ofNat (List.length a.2.2.2.2.2.1))
 cond (decide (j>12)) (
 some 5) (
 (j1m a.2.2.2.2.2.1 b.1 b.2.1 b.2.2.1 b.2.2.2).bind λm=>
 cond m (
 some 3) (
 (j9V a.2.2.2.2.2.2.1).bind λl=>
 cond (l != 0) (
 some 8) (
 (j8A a.2.2.2.2.2.2.2.2 0 2).bind λp=>
 cond (!p) (
 some 1) (
 let g:=(Int.ofNat (List.length b.2.2.1))
 cond (a.2.2.2.2.2.2.2.2 != 0) (
 (j2W a.2.2.2.2.2.2.2.1 g).bind λc=>
 cond (!c) (
 some 3) (
 cond (cond (a.2.2.2.2.2.2.2.2==0) (a.2.2.2.2.2.2.2.1 != 0) false) (
 some 1) (
 some 0))) (
 cond (cond (a.2.2.2.2.2.2.2.2==0) (a.2.2.2.2.2.2.2.1 != 0) false) (
 some 1) (
 some 0)))))))))))))
def j2K[LP](a:eP)(e:ai)(d:ak)(c:an)(b:ao):Option (Int):=
 (j35 (e,(d,(c,b))) (a.1,(a.2.1,((a.2.2.1.1,a.2.2.1.2),(a.2.2.2.1,(a.2.2.2.2.1,(a.2.2.2.2.2.1,(a.2.2.2.2.2.2.1,(a.2.2.2.2.2.2.2.1,a.2.2.2.2.2.2.2.2))))))))).bind λf=>
 some f
def j0C[LP](m:ai)(g:ak)(e:an)(i:ao)(f:aH)(l d:Int)(n:(List (ByteArray×Bool))):Option ((ai×ak×an×ao×aH×Int×Int×(List (ByteArray×Bool))) ⊕ (Int ⊕ Unit)):=
 cond (decide (d<l)) (
 cond (inR d (List.length f)) (
 let a:=(List.getD f (Int.toNat d) (ByteArray.empty,(0,((0,0),(0,(0,(([]:(List Int)),(([]:af),(0,0)))))))))
 (j6D (a.1,(a.2.1,((a.2.2.1.1,a.2.2.1.2),(a.2.2.2.1,(a.2.2.2.2.1,(a.2.2.2.2.2.1,(a.2.2.2.2.2.2.1,(a.2.2.2.2.2.2.2.1,a.2.2.2.2.2.2.2.2))))))))).bind λk=>
 (j4o k n).bind λb=>
 cond (b.1 != 0) (
 some (.inr (.inl b.1))) (
 (j2K (a.1,(a.2.1,((a.2.2.1.1,a.2.2.1.2),(a.2.2.2.1,(a.2.2.2.2.1,(a.2.2.2.2.2.1,(a.2.2.2.2.2.2.1,(a.2.2.2.2.2.2.2.1,a.2.2.2.2.2.2.2.2)))))))) m g e i).bind λc=>
 cond (c != 0) (
 some (.inr (.inl c))) (
 let j:=(w64 (d+1))
 some (.inl (m,g,e,i,f,l,j,b.2))))) none) (
 some (.inr (.inr ())))
def xl[LP](i:ai)(b:ak)(a:an)(c:ao)(d:aH)(e f:Int)(g:(List (ByteArray×Bool))):Option (Int ⊕ Unit):=
 LP.lp (unc8 (j0C)) (i,b,a,c,d,e,f,g)
theorem SC(i:ai)(b:ak)(a:an)(c:ao)(d:aH)(e f:Int)(g:(List (ByteArray×Bool))):xl i b a c d e f g=lpK (j0C i b a c d e f g) (λh=>xl h.1 h.2.1 h.2.2.1 h.2.2.2.1 h.2.2.2.2.1 h.2.2.2.2.2.1 h.2.2.2.2.2.2.1 h.2.2.2.2.2.2.2):=bh _ _
def j2i[LP](e:aH)(d:ai)(c:ak)(b:an)(a:ao):Option (Int):=
 let g:(List (ByteArray×Bool)):=([]:(List (ByteArray×Bool)))
 let f:=(Int.ofNat (List.length e))
 (xl d c b a e f 0 g).bind λi=>
 sumC i (λj=>
 some j) (λk=>
 some 0)
def j3q[LP](g:ca)(a:kZ):Option (Int):=
 let i:=(Int.ofNat (List.length g.2.1))
 (j8A a.1 0 2).bind λj=>
 cond (!j) (
 some 1) (
 (j2W a.2.1 i).bind λf=>
 cond (cond (!f) (!(cond (a.1==1) (a.2.1==(-1)) false)) false) (
 cond (cond (!f) (!(cond (a.1==1) (a.2.1==(-1)) false)) false) (
 some 3) (
 cond (cond (a.1 != 2) (a.2.2.1 != 0) false) (
 some 1) (
 cond (cond (a.1==2) (a.2.1==a.2.2.1) false) (
 some 4) (
 let m:=(w64 (Int.tdiv a.2.2.2.2 86400))
 cond (cond (decide (a.2.2.2.1<0)) true (decide (a.2.2.2.2<0))) (
 some 1) (
 (j17 m).bind λk=>
 cond (!k) (
 some 1) (
 cond (decide (a.2.2.2.1>=a.2.2.2.2)) (
 some 6) (
 some 0))))))) (
 cond (a.1==2) (
 (j2W a.2.2.1 i).bind λl=>
 cond (!l) (
 some 3) (
 cond (cond (a.1 != 2) (a.2.2.1 != 0) false) (
 some 1) (
 cond (cond (a.1==2) (a.2.1==a.2.2.1) false) (
 some 4) (
 let c:=(w64 (Int.tdiv a.2.2.2.2 86400))
 cond (cond (decide (a.2.2.2.1<0)) true (decide (a.2.2.2.2<0))) (
 some 1) (
 (j17 c).bind λd=>
 cond (!d) (
 some 1) (
 cond (decide (a.2.2.2.1>=a.2.2.2.2)) (
 some 6) (
 some 0))))))) (
 cond (cond (a.1 != 2) (a.2.2.1 != 0) false) (
 some 1) (
 cond (cond (a.1==2) (a.2.1==a.2.2.1) false) (
 some 4) (
 let e:=(w64 (Int.tdiv a.2.2.2.2 86400))
 cond (cond (decide (a.2.2.2.1<0)) true (decide (a.2.2.2.2<0))) (
 some 1) (
 (j17 e).bind λb=>
 cond (!b) (
 some 1) (
 cond (decide (a.2.2.2.1>=a.2.2.2.2)) (
 some 6) (
 some 0))))))))
def j0Q[LP](f:ae)(j b:Int)(k:ai)(d:ak)(e:an)(g:ao):Option ((ae×Int×Int×ai×ak×an×ao) ⊕ (Int ⊕ Unit)):=
 cond (decide (b<j)) (
 cond (inR b (List.length f)) (
 let a:=(List.getD f (Int.toNat b) (0,(0,(0,(0,0)))))
 (j3q (k,(d,(e,g))) (a.1,(a.2.1,(a.2.2.1,(a.2.2.2.1,a.2.2.2.2))))).bind λc=>
 cond (c != 0) (
 some (.inr (.inl c))) (
 let i:=(w64 (b+1))
 some (.inl (f,j,i,k,d,e,g)))) none) (
 some (.inr (.inr ())))
def zR[LP](f:ae)(e d:Int)(g:ai)(a:ak)(b:an)(c:ao):Option (Int ⊕ Unit):=
 LP.lp (unc7 (j0Q)) (f,e,d,g,a,b,c)
theorem SD(f e d g a b c):zR f e d g a b c=lpK (j0Q f e d g a b c) (λh=>zR h.1 h.2.1 h.2.2.1 h.2.2.2.1 h.2.2.2.2.1 h.2.2.2.2.2.1 h.2.2.2.2.2.2):=bh _ _
def j2a[LP](a:ca)(b:gT):Option (Int):=
 let d:=(Int.ofNat (List.length b.2.1))
 let f:=(Int.ofNat (List.length b.2.2))
 cond (cond (decide (d>6)) true (decide (f>48))) (
 some 5) (
 (j2i b.2.1 a.1 a.2.1 a.2.2.1 a.2.2.2).bind λc=>
 cond (c != 0) (
 some c) (
 let e:=(Int.ofNat (List.length b.2.2))
 (zR b.2.2 e 0 a.1 a.2.1 a.2.2.1 a.2.2.2).bind λg=>
 sumC g (λi=>
 some i) (λj=>
 some 0)))
def j5K[LP](a:gT)(e:ai)(d:ak)(c:an)(b:ao):Option (Int):=
 (j2a (e,(d,(c,b))) (a.1,(a.2.1,a.2.2))).bind λf=>
 some f
def j0u[LP](m:ai)(g:ak)(e:an)(i f:ao)(l d:Int)(n:(List (ByteArray×Bool))):Option ((ai×ak×an×ao×ao×Int×Int×(List (ByteArray×Bool))) ⊕ (Int ⊕ Unit)):=
 cond (decide (d<l)) (
 cond (inR d (List.length f)) (
 let a:=(List.getD f (Int.toNat d) (ByteArray.empty,(([]:aH),([]:ae))))
 (jcj (a.1,(a.2.1,a.2.2))).bind λk=>
 (j4o k n).bind λb=>
 cond (b.1 != 0) (
 some (.inr (.inl b.1))) (
 (j5K (a.1,(a.2.1,a.2.2)) m g e i).bind λc=>
 cond (c != 0) (
 some (.inr (.inl c))) (
 let j:=(w64 (d+1))
 some (.inl (m,g,e,i,f,l,j,b.2))))) none) (
 some (.inr (.inr ())))
def xm[LP](i:ai)(b:ak)(a:an)(c d:ao)(e f:Int)(g:(List (ByteArray×Bool))):Option (Int ⊕ Unit):=
 LP.lp (unc8 (j0u)) (i,b,a,c,d,e,f,g)
theorem SE(i:ai)(b:ak)(a:an)(c d:ao)(e f:Int)(g:(List (ByteArray×Bool))):xm i b a c d e f g=lpK (j0u i b a c d e f g) (λh=>xm h.1 h.2.1 h.2.2.1 h.2.2.2.1 h.2.2.2.2.1 h.2.2.2.2.2.1 h.2.2.2.2.2.2.1 h.2.2.2.2.2.2.2):=bh _ _
def j2g[LP](e:ao)(d:ai)(c:ak)(b:an)(a:ao):Option (Int):=
 let g:(List (ByteArray×Bool)):=([]:(List (ByteArray×Bool)))
 let f:=(Int.ofNat (List.length e))
 (xm d c b a e f 0 g).bind λi=>
 sumC i (λj=>
 some j) (λk=>
 some 0)
def j2b[LP](g:ak)(i f:Int)(j:ai)(e:ak)(d:an)(c:ao)(r:(List (ByteArray×Bool))):Option ((ak×Int×Int×ai×ak×an×ao×(List (ByteArray×Bool))) ⊕ (Int ⊕ (ai×ak×an×ao))):=
 cond (decide (f<i)) (
 cond (inR f (List.length g)) (
 let a:=(List.getD g (Int.toNat f) (ByteArray.empty,(0,(([]:af),(0,(0,false))))))
 (j4o a.1 r).bind λb=>
 let q:Bool:=(ByteArray.toList a.1==ByteArray.toList (ByteArray.mk #[110,111,98,111,100,121]))
 cond q (
 cond (2==0) (
 (j2h (j,(e,(d,c))) (a.1,(a.2.1,(a.2.2.1,(a.2.2.2.1,(a.2.2.2.2.1,a.2.2.2.2.2)))))).bind λk=>
 cond (k != 0) (
 some (.inr (.inl k))) (
 let n:=(w64 (f+1))
 some (.inl (g,i,n,j,e,d,c,b.2)))) (
 cond (2 != 0) (
 some (.inr (.inl 2))) (
 let o:=(w64 (f+1))
 some (.inl (g,i,o,j,e,d,c,b.2))))) (
 cond (b.1==0) (
 (j2h (j,(e,(d,c))) (a.1,(a.2.1,(a.2.2.1,(a.2.2.2.1,(a.2.2.2.2.1,a.2.2.2.2.2)))))).bind λl=>
 cond (l != 0) (
 some (.inr (.inl l))) (
 let m:=(w64 (f+1))
 some (.inl (g,i,m,j,e,d,c,b.2)))) (
 cond (b.1 != 0) (
 some (.inr (.inl b.1))) (
 let p:=(w64 (f+1))
 some (.inl (g,i,p,j,e,d,c,b.2)))))) none) (
 some (.inr (.inr (j,e,d,c))))
def xn[LP](f:ak)(d e:Int)(i:ai)(c:ak)(b:an)(a:ao)(g:(List (ByteArray×Bool))):Option (Int ⊕ (ai×ak×an×ao)):=
 LP.lp (unc8 (j2b)) (f,d,e,i,c,b,a,g)
theorem SF(f:ak)(d e:Int)(i:ai)(c:ak)(b:an)(a:ao)(g:(List (ByteArray×Bool))):xn f d e i c b a g=lpK (j2b f d e i c b a g) (λh=>xn h.1 h.2.1 h.2.2.1 h.2.2.2.1 h.2.2.2.2.1 h.2.2.2.2.2.1 h.2.2.2.2.2.2.1 h.2.2.2.2.2.2.2):=bh _ _
def j5T[LP](a:ca):Option (Int):=
 let f:=(Int.ofNat (List.length a.1))
 let m:=(Int.ofNat (List.length a.2.1))
 let l:=(Int.ofNat (List.length a.2.2.1))
 let k:Bool:=(cond (cond (decide (f>16)) true (decide (m>32))) true (decide (l>8)))
 let g:=(Int.ofNat (List.length a.2.2.2))
 cond (cond k true (decide (g>12))) (
 some 5) (
 (j2B a.1).bind λc=>
 cond (c != 0) (
 some c) (
 let i:(List (ByteArray×Bool)):=([]:(List (ByteArray×Bool)))
 let e:=(Int.ofNat (List.length a.2.1))
 (xn a.2.1 e 0 a.1 a.2.1 a.2.2.1 a.2.2.2 i).bind λn=>
 sumC n (λo=>
 some o) (λb=>
 (j1w b.2.2.1 b.1 b.2.1 b.2.2.1 b.2.2.2).bind λd=>
 cond (d != 0) (
 some d) (
 (j2g b.2.2.2 b.1 b.2.1 b.2.2.1 b.2.2.2).bind λj=>
 some j))))
def jhz[LP](a:dG):Option (dV×Int):=
 (j2V (a.1,(a.2.1,a.2.2))).bind λb=>
 some ((a.2.1,b.1),b.2)
def j2N[LP](g:ai)(j b:Int)(i:bu):Option ((ai×Int×Int×bu) ⊕ (bu)):=
 cond (decide (b<j)) (
 cond (inR b (List.length g)) (
 let a:=(List.getD g (Int.toNat b) (ByteArray.empty,(0,([]:bf))))
 (jhz (a.1,(a.2.1,a.2.2))).bind λd=>
 let c:bu:=[(d.1.1,d.1.2)]
 cond (decide (List.length i+List.length c<=aY)) (
 let e:bu:=(i++c)
 let f:=(w64 (b+1))
 some (.inl (g,j,f,e))) none) none) (
 some (.inr i))
def xo[LP](c:ai)(d a:Int)(b:bu):Option (bu):=
 LP.lp (unc4 (j2N)) (c,d,a,b)
theorem SH(b c a d):xo b c a d=lpK (j2N b c a d) (λh=>xo h.1 h.2.1 h.2.2.1 h.2.2.2):=bh _ _
def jba[LP](a:ai):Option (bu):=
 let b:=(Int.ofNat (List.length a))
 (xo a b 0 ([]:bu)).bind λc=>
 some c
def jdj[LP](a:ca):Option (gU):=
 (jba a.1).bind λb=>
 some ((a.1,(a.2.1,(a.2.2.1,a.2.2.2))),b)
def jg0[LP](a:ca):Option (gU×Bool):=
 (j5T (a.1,(a.2.1,(a.2.2.1,a.2.2.2)))).bind λc=>
 cond (c != 0) (
 some (((([]:ai),(([]:ak),(([]:an),([]:ao)))),([]:bu)),false)) (
 (jdj (a.1,(a.2.1,(a.2.2.1,a.2.2.2)))).bind λb=>
 some (((b.1.1,(b.1.2.1,(b.1.2.2.1,b.1.2.2.2))),b.2),true))
def jjr(b:ca)(a:Int):Option (Bool):=
 let c:=(Int.ofNat (List.length b.2.2.2))
 some (cond (decide (a>=0)) (decide (a<c)) false)
def jit(a b:Int):Option (Bool):=
 let c:Bool:=(cond (cond (decide (a>=0)) (decide (a<=8589934592)) false) (decide (b>=a)) false)
 let d:=(w64 (b-a))
 let e:Bool:=(cond (cond c (decide (b<=8589934592)) false) (decide (d<=34560000)) false)
 some e
def jbb[LP](b:ca)(c d e:Int):Option (gU×Int):=
 (jg0 (b.1,(b.2.1,(b.2.2.1,b.2.2.2)))).bind λa=>
 cond (!a.2) (
 some (((a.1.1.1,(a.1.1.2.1,(a.1.1.2.2.1,a.1.1.2.2.2))),a.1.2),8)) (
 (jjr (b.1,(b.2.1,(b.2.2.1,b.2.2.2))) c).bind λg=>
 cond (!g) (
 some (((a.1.1.1,(a.1.1.2.1,(a.1.1.2.2.1,a.1.1.2.2.2))),a.1.2),3)) (
 (jit d e).bind λf=>
 cond (!f) (
 some (((a.1.1.1,(a.1.1.2.1,(a.1.1.2.2.1,a.1.1.2.2.2))),a.1.2),1)) (
 some (((a.1.1.1,(a.1.1.2.1,(a.1.1.2.2.1,a.1.1.2.2.2))),a.1.2),0))))
def j84(a:gU)(b:Int):Option (dV):=
 cond (inR b (List.length a.2)) (
 let c:=(List.getD a.2 (Int.toNat b) (0,([]:af)))
 some (c.1,c.2)) none
def jev(a:dV):Option (Bool):=
 let b:=(Int.ofNat (List.length a.2))
 some (decide (b>0))
def jhA(a:dV):Option (Int):=
 let e:=(Int.ofNat (List.length a.2))
 cond (e==0) (
 some 0) (
 let c:=(Int.ofNat (List.length a.2))
 let b:=(w64 (c-1))
 cond (inR b (List.length a.2)) (
 let d:=(List.getD a.2 (Int.toNat b) (0,0))
 some d.1) none)
def j70(j:Int)(g:ai)(d:ak)(b:an)(a:ao)(c:bu)(i:Int):Option (ai×ak×an×ao×bu×Int):=
 (j84 ((g,(d,(b,a))),c) j).bind λe=>
 (jev (e.1,e.2)).bind λm=>
 cond m (
 (jhA (e.1,e.2)).bind λl=>
 let f:=(w64 (l+86400))
 let k:Int:=(if f>i then f else i:Int)
 some (g,d,b,a,c,k)) (
 some (g,d,b,a,c,i))
def jbc(a:eP):Option (Int):=
 cond (a.2.2.2.1==2) (
 let b:=(w64 (7*a.2.2.2.2.1))
 some b) (
 some a.2.2.2.2.1)
def j9C(a e:Int)(b:af)(d:Int):Option (Bool):=
 cond (inR a (List.length b)) (
 let c:=(List.getD b (Int.toNat a) (0,0))
 some (decide (c.1>d))) none
def j49(k:Int)(b:af)(a e l:Int):Option ((Int×af×Int×Int×Int) ⊕ (Int)):=
 cond (decide (e<l)) (
 let d:=(w64 (e+l))
 let j:Int:=(IntKind.wrap .u64 d)
 let f:Int:=(Int.fdiv j 2)
 let c:=(w64 f)
 (j9C c k b a).bind λi=>
 cond (!i) (
 let g:=(w64 (c+1))
 some (.inl (k,b,a,g,l))) (
 some (.inl (k,b,a,e,c)))) (
 some (.inr e))
def zS[LP](d:Int)(b:af)(a c e:Int):Option (Int):=
 LP.lp (unc5 (j49)) (d,b,a,c,e)
theorem SI(d b a c e):zS d b a c e=lpK (j49 d b a c e) (λh=>zS h.1 h.2.1 h.2.2.1 h.2.2.2.1 h.2.2.2.2):=bh _ _
def jbd[LP](c d:Int)(a:af)(b:Int):Option (Int):=
 (zS d a b 0 c).bind λe=>
 some e
def j42[LP](a:dV)(b:Int):Option (Int):=
 let c:=(Int.ofNat (List.length a.2))
 (jbd c a.1 a.2 b).bind λd=>
 some d
def j5m(a:dV)(b:Int):Option (Int):=
 cond (b==0) (
 some a.1) (
 let c:=(w64 (b-1))
 cond (inR c (List.length a.2)) (
 let d:=(List.getD a.2 (Int.toNat c) (0,0))
 some d.2) none)
def j0r[LP](n c j:Int)(a:af)(i:al):Option ((Int×Int×Int×af×al) ⊕ (al)):=
 cond (decide (n<c)) (
 (j42 (j,a) n).bind λb=>
 let p:=(Int.ofNat (List.length a))
 cond (decide (b<p)) (
 cond (inR b (List.length a)) (
 let e:=(List.getD a (Int.toNat b) (0,0))
 let d:Int:=(if e.1<c then e.1 else c:Int)
 (j5m (j,a) b).bind λo=>
 let g:al:=[(n,(d,o))]
 cond (decide (List.length i+List.length g<=aY)) (
 let m:al:=(i++g)
 some (.inl (d,c,j,a,m))) none) none) (
 (j5m (j,a) b).bind λl=>
 let f:al:=[(n,(c,l))]
 cond (decide (List.length i+List.length f<=aY)) (
 let k:al:=(i++f)
 some (.inl (c,c,j,a,k))) none)) (
 some (.inr i))
def uN[LP](d e c:Int)(a:af)(b:al):Option (al):=
 LP.lp (unc5 (j0r)) (d,e,c,a,b)
theorem zT(d e c a b):uN d e c a b=lpK (j0r d e c a b) (λh=>uN h.1 h.2.1 h.2.2.1 h.2.2.2.1 h.2.2.2.2):=bh _ _
def j1A[LP](b:dV)(a c:Int):Option (al):=
 (uN a c b.1 b.2 ([]:al)).bind λd=>
 some d
def j5g(a:(Int×Int)):Option (Int):=
 let b:Int:=(if (-1048576)>a.1 then (-1048576) else a.1:Int)
 let e:Int:=(if 1048576<b then 1048576 else b:Int)
 let d:=(w64 (e*86400))
 let c:=(w64 (d+a.2))
 some c
def j23(j d k e:Int)(f:al):Option ((Int×Int×Int×Int×al) ⊕ ((Int×Bool) ⊕ Unit)):=
 cond (decide (d<j)) (
 cond (inR d (List.length f)) (
 let a:=(List.getD f (Int.toNat d) (0,(0,0)))
 (j5g (k,e)).bind λg=>
 let b:=(w64 (g-a.2.2))
 let c:Int:=(if b>a.1 then b else a.1:Int)
 cond (decide (c<a.2.1)) (
 some (.inr (.inl (c,true)))) (
 let i:=(w64 (d+1))
 some (.inl (j,i,k,e,f)))) none) (
 some (.inr (.inr ())))
def xp[LP](b c e a:Int)(d:al):Option ((Int×Bool) ⊕ Unit):=
 LP.lp (unc5 (j23)) (b,c,e,a,d)
theorem FV(b c e a d):xp b c e a d=lpK (j23 b c e a d) (λh=>xp h.1 h.2.1 h.2.2.1 h.2.2.2.1 h.2.2.2.2):=bh _ _
def j1B[LP](a:dV)(b:(Int×Int)):Option (Int×Bool):=
 (j1A (a.1,a.2) 0 8589934593).bind λc=>
 let d:=(Int.ofNat (List.length c))
 (xp d 0 b.1 b.2 c).bind λe=>
 sumC e (λf=>
 some (f.1,f.2)) (λg=>
 some (0,false))
def j0F[LP](b:dV)(a:eP)(c:Int):Option (Int×Bool):=
 cond (decide (c>8589934592)) (
 some (0,false)) (
 cond (a.2.2.2.1 != 0) (
 (jbc (a.1,(a.2.1,((a.2.2.1.1,a.2.2.1.2),(a.2.2.2.1,(a.2.2.2.2.1,(a.2.2.2.2.2.1,(a.2.2.2.2.2.2.1,(a.2.2.2.2.2.2.2.1,a.2.2.2.2.2.2.2.2))))))))).bind λi=>
 let l:=(w64 (c*i))
 let j:=(w64 (a.2.2.1.1+l))
 (j1B (b.1,b.2) (j,a.2.2.1.2)).bind λe=>
 some (e.1,e.2)) (
 (j1B (b.1,b.2) (a.2.2.1.1,a.2.2.1.2)).bind λf=>
 let g:=(w64 (3600*a.2.2.2.2.1))
 let k:=(w64 (g*c))
 let d:=(w64 (f.1+k))
 some (d,(cond f.2 (decide (d<=8589934592)) false))))
def j9W(g:ae)(m b:Int)(p:ai)(c:ak)(d:an)(i:ao)(e:bu)(o:ByteArray)(f:aH)(j:ae)(n:Int):Option ((ae×Int×Int×ai×ak×an×ao×bu×ByteArray×aH×ae×Int) ⊕ ((ai×ak×an×ao×bu×ByteArray×aH×ae×Int))):=
 cond (decide (b<m)) (
 cond (inR b (List.length g)) (
 let a:=(List.getD g (Int.toNat b) (0,(0,(0,(0,0)))))
 let k:Int:=(if a.2.2.2.2>n then a.2.2.2.2 else n:Int)
 let l:=(w64 (b+1))
 some (.inl (g,m,l,p,c,d,i,e,o,f,j,k))) none) (
 some (.inr (p,c,d,i,e,o,f,j,n)))
def Kj[LP](i:ae)(g j:Int)(l:ai)(a:ak)(b:an)(e:ao)(c:bu)(k:ByteArray)(d:aH)(f:ae)(m:Int):Option ((ai×ak×an×ao×bu×ByteArray×aH×ae×Int)):=
 LP.lp (jwC (j9W)) (i,g,j,l,a,b,e,c,k,d,f,m)
def j3r[LP](f:aH)(g e:Int)(b4:ai)(a9:ak)(b1:an)(b0:ao)(b2:bu)(b3:Int):Option ((aH×Int×Int×ai×ak×an×ao×bu×Int) ⊕ (Int)):=
 cond (decide (e<g)) (
 cond (inR e (List.length f)) (
 let d:=(List.getD f (Int.toNat e) (ByteArray.empty,(0,((0,0),(0,(0,(([]:(List Int)),(([]:af),(0,0)))))))))
 (j70 d.2.1 b4 a9 b1 b0 b2 b3).bind λa=>
 (j84 ((a.1,(a.2.1,(a.2.2.1,a.2.2.2.1))),a.2.2.2.2.1) d.2.1).bind λp=>
 (j0F (p.1,p.2) (d.1,(d.2.1,((d.2.2.1.1,d.2.2.1.2),(d.2.2.2.1,(d.2.2.2.2.1,(d.2.2.2.2.2.1,(d.2.2.2.2.2.2.1,(d.2.2.2.2.2.2.2.1,d.2.2.2.2.2.2.2.2)))))))) 0).bind λk=>
 cond k.2 (
 let q:Int:=(if k.1>a.2.2.2.2.2 then k.1 else a.2.2.2.2.2:Int)
 cond (d.2.2.2.2.2.2.2.2==0) (
 let a6:=(w64 (e+1))
 some (.inl (f,g,a6,a.1,a.2.1,a.2.2.1,a.2.2.2.1,a.2.2.2.2.1,q))) (
 cond (inR d.2.2.2.2.2.2.2.1 (List.length a.2.2.1)) (
 let i:=(List.getD a.2.2.1 (Int.toNat d.2.2.2.2.2.2.2.1) (ByteArray.empty,(0,([]:(List Int)))))
 (j70 i.2.1 a.1 a.2.1 a.2.2.1 a.2.2.2.1 a.2.2.2.2.1 q).bind λc=>
 let o:=(Int.ofNat (List.length i.2.2))
 cond (decide (o>0)) (
 (j84 ((c.1,(c.2.1,(c.2.2.1,c.2.2.2.1))),c.2.2.2.2.1) i.2.1).bind λu=>
 let s:=(w64 (o-1))
 cond (inR s (List.length i.2.2)) (
 let a3:=(List.getD i.2.2 (Int.toNat s) 0)
 let a7:=(w64 (a3+1))
 (j1B (u.1,u.2) (a7,0)).bind λl=>
 cond l.2 (
 let a1:Int:=(if l.1>c.2.2.2.2.2 then l.1 else c.2.2.2.2.2:Int)
 let a4:=(w64 (e+1))
 some (.inl (f,g,a4,c.1,c.2.1,c.2.2.1,c.2.2.2.1,c.2.2.2.2.1,a1))) (
 let x:=(w64 (e+1))
 some (.inl (f,g,x,c.1,c.2.1,c.2.2.1,c.2.2.2.1,c.2.2.2.2.1,c.2.2.2.2.2)))) none) (
 let y:=(w64 (e+1))
 some (.inl (f,g,y,c.1,c.2.1,c.2.2.1,c.2.2.2.1,c.2.2.2.2.1,c.2.2.2.2.2)))) none)) (
 cond (d.2.2.2.2.2.2.2.2==0) (
 let w:=(w64 (e+1))
 some (.inl (f,g,w,a.1,a.2.1,a.2.2.1,a.2.2.2.1,a.2.2.2.2.1,a.2.2.2.2.2))) (
 cond (inR d.2.2.2.2.2.2.2.1 (List.length a.2.2.1)) (
 let j:=(List.getD a.2.2.1 (Int.toNat d.2.2.2.2.2.2.2.1) (ByteArray.empty,(0,([]:(List Int)))))
 (j70 j.2.1 a.1 a.2.1 a.2.2.1 a.2.2.2.1 a.2.2.2.2.1 a.2.2.2.2.2).bind λb=>
 let t:=(Int.ofNat (List.length j.2.2))
 cond (decide (t>0)) (
 (j84 ((b.1,(b.2.1,(b.2.2.1,b.2.2.2.1))),b.2.2.2.2.1) j.2.1).bind λn=>
 let r:=(w64 (t-1))
 cond (inR r (List.length j.2.2)) (
 let a2:=(List.getD j.2.2 (Int.toNat r) 0)
 let a8:=(w64 (a2+1))
 (j1B (n.1,n.2) (a8,0)).bind λm=>
 cond m.2 (
 let a5:Int:=(if m.1>b.2.2.2.2.2 then m.1 else b.2.2.2.2.2:Int)
 let v:=(w64 (e+1))
 some (.inl (f,g,v,b.1,b.2.1,b.2.2.1,b.2.2.2.1,b.2.2.2.2.1,a5))) (
 let a0:=(w64 (e+1))
 some (.inl (f,g,a0,b.1,b.2.1,b.2.2.1,b.2.2.2.1,b.2.2.2.2.1,b.2.2.2.2.2)))) none) (
 let z:=(w64 (e+1))
 some (.inl (f,g,z,b.1,b.2.1,b.2.2.1,b.2.2.2.1,b.2.2.2.2.1,b.2.2.2.2.2)))) none))) none) (
 some (.inr b3))
def Kk[LP](g:aH)(e f:Int)(i:ai)(a:ak)(b:an)(d:ao)(c:bu)(j:Int):Option (Int):=
 LP.lp (unc9 (j3r)) (g,e,f,i,a,b,d,c,j)
def j5L[LP](b:gU)(a:gT):Option (Int):=
 let e:=(Int.ofNat (List.length a.2.2))
 (Kj a.2.2 e 0 b.1.1 b.1.2.1 b.1.2.2.1 b.1.2.2.2 b.2 a.1 a.2.1 a.2.2 0).bind λc=>
 let d:=(Int.ofNat (List.length c.2.2.2.2.2.2.1))
 (Kk c.2.2.2.2.2.2.1 d 0 c.1 c.2.1 c.2.2.1 c.2.2.2.1 c.2.2.2.2.1 c.2.2.2.2.2.2.2.2).bind λf=>
 some f
def j8Q(a:(List Int)):Option ((List Int)):=
 cond (decide (List.length ([]:List (Int))+List.length a<=aY)) (
 some (([]:List (Int))++a)) none
def jbH(a c b:Int):Option (Bool):=
 some (cond (decide (a<=c)) true (decide (a>=b)))
def j1f(i c g a:Int)(b:(List Int)):Option ((Int×Int×Int×Int×(List Int)) ⊕ (nO ⊕ (List Int))):=
 cond (decide (a<g)) (
 cond (inR a (List.length b)) (
 let f:=(List.getD b (Int.toNat a) 0)
 (jbH f i c).bind λe=>
 cond e (
 some (.inr (.inl (a,b)))) (
 let d:=(w64 (a+1))
 some (.inl (i,c,g,d,b)))) none) (
 some (.inr (.inr b)))
def xq[LP](e a d b:Int)(c:(List Int)):Option (nO ⊕ (List Int)):=
 LP.lp (unc5 (j1f)) (e,a,d,b,c)
theorem SJ(e a d b c):xq e a d b c=lpK (j1f e a d b c) (λh=>xq h.1 h.2.1 h.2.2.1 h.2.2.2.1 h.2.2.2.2):=bh _ _
def j24[LP](b:(List Int))(c a:Int):Option nO:=
 let d:=(Int.ofNat (List.length b))
 (xq c a d 0 b).bind λe=>
 sumC e (λf=>
 some (f.1,f.2)) (λg=>
 some ((-1),g))
def j1D(l b d e:Int)(a:(List Int)):Option ((Int×Int×Int×Int×(List Int)) ⊕ (nO)):=
 let g:=(Int.ofNat (List.length a))
 cond (decide (e<g)) (
 cond (inR e (List.length a)) (
 let c:=(List.getD a (Int.toNat e) 0)
 (jbH c l b).bind λf=>
 cond (!f) (
 cond (inR d (List.length a)) (
 let m:(List Int):=(List.set a (Int.toNat d) c)
 let j:=(w64 (d+1))
 let k:=(w64 (e+1))
 some (.inl (l,b,j,k,m))) none) (
 let i:=(w64 (e+1))
 some (.inl (l,b,d,i,a)))) none) (
 some (.inr (d,a)))
def zU[LP](d a c e:Int)(b:(List Int)):Option (nO):=
 LP.lp (unc5 (j1D)) (d,a,c,e,b)
theorem SK(d a c e b):zU d a c e b=lpK (j1D d a c e b) (λh=>zU h.1 h.2.1 h.2.2.1 h.2.2.2.1 h.2.2.2.2):=bh _ _
def j1N[LP](e:(List Int))(d a:Int):Option nO:=
 (j24 e d a).bind λc=>
 cond (c.1==(-1)) (
 some ((Int.ofNat (List.length c.2)),c.2)) (
 let f:=(w64 (c.1+1))
 (zU d a c.1 f c.2).bind λb=>
 cond (decide (0<=b.1)&&decide (b.1<=(Int.ofNat (List.length b.2)))) (
 let g:(List Int):=(List.take (Int.toNat b.1) b.2++List.replicate (List.length b.2-(Int.toNat b.1)) 0)
 cond (decide (0<=b.1)&&decide (b.1<=(Int.ofNat (List.length g)))) (
 some ((Int.ofNat (Int.toNat b.1)),g)) none) none)
def j71(a:(List Int)):Option ((List Int)):=
 xe a
def j2c(e b c:Int)(a:(List Int)):Option ((Int×Int×Int×(List Int)) ⊕ (nO)):=
 let i:=(Int.ofNat (List.length a-(Int.toNat b)))
 cond (decide (c<i)) (
 cond (inR c (List.length a-(Int.toNat b))) (
 let m:=(List.getD a ((Int.toNat b)+(Int.toNat c)) 0)
 let d:=(w64 (c-1))
 cond (inR d (List.length a-(Int.toNat b))) (
 let g:=(List.getD a ((Int.toNat b)+(Int.toNat d)) 0)
 cond (m != g) (
 cond (inR c (List.length a-(Int.toNat b))) (
 let l:=(List.getD a ((Int.toNat b)+(Int.toNat c)) 0)
 cond (inR e (List.length a)) (
 let n:(List Int):=(List.set a (Int.toNat e) l)
 let j:=(w64 (e+1))
 let k:=(w64 (c+1))
 some (.inl (j,(Int.ofNat (Int.toNat b)),k,n))) none) none) (
 let f:=(w64 (c+1))
 some (.inl (e,(Int.ofNat (Int.toNat b)),f,a)))) none) none) (
 some (.inr (e,a)))
def xr[LP](b d c:Int)(a:(List Int)):Option (nO):=
 LP.lp (unc4 (j2c)) (b,d,c,a)
theorem SM(c d b a):xr c d b a=lpK (j2c c d b a) (λh=>xr h.1 h.2.1 h.2.2.1 h.2.2.2):=bh _ _
def j0L[LP](c:Int)(b:(List Int)):Option (nO ⊕ (nO ⊕ (List Int))):=
 let j:=(Int.ofNat (List.length b))
 cond (decide (c<j)) (
 cond (inR c (List.length b)) (
 let f:=(List.getD b (Int.toNat c) 0)
 let d:=(w64 (c-1))
 cond (inR d (List.length b)) (
 let g:=(List.getD b (Int.toNat d) 0)
 cond (f==g) (
 cond (decide (0<=c)&&decide (c<=(Int.ofNat (List.length b)))) (
 (xr c (Int.ofNat (Int.toNat c)) 1 b).bind λa=>
 cond (decide (0<=a.1)&&decide (a.1<=(Int.ofNat (List.length a.2)))) (
 let e:(List Int):=(List.take (Int.toNat a.1) a.2++List.replicate (List.length a.2-(Int.toNat a.1)) 0)
 cond (decide (0<=a.1)&&decide (a.1<=(Int.ofNat (List.length e)))) (
 some (.inr (.inl ((Int.ofNat (Int.toNat a.1)),e)))) none) none) none) (
 let i:=(w64 (c+1))
 some (.inl (i,b)))) none) none) (
 some (.inr (.inr b)))
def sQ[LP](a:Int)(b:(List Int)):Option (nO ⊕ (List Int)):=
 LP.lp (unc2 (j0L)) (a,b)
theorem SN(a b):sQ a b=lpK (j0L a b) (λh=>sQ h.1 h.2):=bh _ _
def j2C[LP](a:(List Int)):Option nO:=
 let b:=(Int.ofNat (List.length a))
 cond (decide (b<2)) (
 some ((Int.ofNat (List.length a)),a)) (
 (sQ 1 a).bind λc=>
 sumC c (λd=>
 some ((Int.ofNat (Int.toNat d.1)),d.2)) (λe=>
 some ((Int.ofNat (List.length e)),e)))
def jdk[LP](f:(List Int))(b a:Int):Option ((List Int)):=
 (j8Q f).bind λk=>
 (j1N k b a).bind λe=>
 let g:(List Int):=(List.take (Int.toNat e.1) e.2)
 (j71 g).bind λj=>
 (j2C j).bind λc=>
 let d:(List Int):=(List.take (Int.toNat c.1) c.2)
 cond (decide (List.length d+List.length [a]<=aY)) (
 let i:(List Int):=(d++[a])
 some i) none
def j3i(a:aH):Option (aH):=
 some a
def j4p(a:af):Option (af):=
 cond (decide (List.length ([]:List ((Int×Int)))+List.length a<=aY)) (
 some (([]:List ((Int×Int)))++a)) none
def ja7(a:(Int×Int)):Option (Bool):=
 some (decide (a.2<=a.1))
def j0R(f b:Int)(c:af):Option ((Int×Int×af) ⊕ (dV ⊕ af)):=
 cond (decide (b<f)) (
 cond (inR b (List.length c)) (
 let a:=(List.getD c (Int.toNat b) (0,0))
 (ja7 (a.1,a.2)).bind λe=>
 cond e (
 some (.inr (.inl (b,c)))) (
 let d:=(w64 (b+1))
 some (.inl (f,d,c)))) none) (
 some (.inr (.inr c)))
def xt[LP](a b:Int)(c:af):Option (dV ⊕ af):=
 LP.lp (unc3 (j0R)) (a,b,c)
theorem SO(a b c):xt a b c=lpK (j0R a b c) (λh=>xt h.1 h.2.1 h.2.2):=bh _ _
def j13[LP](a:af):Option dV:=
 let b:=(Int.ofNat (List.length a))
 (xt b 0 a).bind λc=>
 sumC c (λd=>
 some (d.1,d.2)) (λe=>
 some ((-1),e))
def j0M(c d:Int)(b:af):Option ((Int×Int×af) ⊕ (dV)):=
 let f:=(Int.ofNat (List.length b))
 cond (decide (d<f)) (
 cond (inR d (List.length b)) (
 let a:=(List.getD b (Int.toNat d) (0,0))
 (ja7 (a.1,a.2)).bind λe=>
 cond (!e) (
 cond (inR c (List.length b)) (
 let k:af:=(List.set b (Int.toNat c) (a.1,a.2))
 let i:=(w64 (c+1))
 let j:=(w64 (d+1))
 some (.inl (i,j,k))) none) (
 let g:=(w64 (d+1))
 some (.inl (c,g,b)))) none) (
 some (.inr (c,b)))
def zV[LP](b c:Int)(a:af):Option (dV):=
 LP.lp (unc3 (j0M)) (b,c,a)
theorem SP(b c a):zV b c a=lpK (j0M b c a) (λh=>zV h.1 h.2.1 h.2.2):=bh _ _
def j0z[LP](c:af):Option dV:=
 (j13 c).bind λb=>
 cond (b.1==(-1)) (
 some ((Int.ofNat (List.length b.2)),b.2)) (
 let d:=(w64 (b.1+1))
 (zV b.1 d b.2).bind λa=>
 cond (decide (0<=a.1)&&decide (a.1<=(Int.ofNat (List.length a.2)))) (
 let e:af:=(List.take (Int.toNat a.1) a.2++List.replicate (List.length a.2-(Int.toNat a.1)) (0,0))
 cond (decide (0<=a.1)&&decide (a.1<=(Int.ofNat (List.length e)))) (
 some ((Int.ofNat (Int.toNat a.1)),e)) none) none)
def j8B(b a:(Int×Int)):Option (Int):=
 let c:=(w64 (b.1-a.1))
 some c
def j1r(a:af):Option (af):=
 uJ ((.pair (.int .i64) (.int .i64))) (λc b=>(j8B c b).getD 0) a
def j4G(l d:Int)(b f:af):Option ((Int×Int×af×af) ⊕ (af)):=
 cond (decide (d<l)) (
 cond (inR d (List.length f)) (
 let a:=(List.getD f (Int.toNat d) (0,0))
 let c:=(Int.ofNat (List.length b))
 cond (decide (c>0)) (
 let m:=(w64 (c-1))
 cond (inR m (List.length b)) (
 let o:=(List.getD b (Int.toNat m) (0,0)).2
 cond (decide (a.1<=o)) (
 let e:=(w64 (c-1))
 let i:=(w64 (c-1))
 cond (inR i (List.length b)) (
 let j:=(List.getD b (Int.toNat i) (0,0)).2
 let r:Int:=(if a.2>j then a.2 else j:Int)
 cond (inR e (List.length b)) (
 let s:af:=(List.set b (Int.toNat e) ((List.getD b (Int.toNat e) (0,0)).1,r))
 let t:=(w64 (d+1))
 some (.inl (l,t,s,f))) none) none) (
 let g:af:=[(a.1,a.2)]
 cond (decide (List.length b+List.length g<=aY)) (
 let u:af:=(b++g)
 let p:=(w64 (d+1))
 some (.inl (l,p,u,f))) none)) none) (
 let k:af:=[(a.1,a.2)]
 cond (decide (List.length b+List.length k<=aY)) (
 let n:af:=(b++k)
 let q:=(w64 (d+1))
 some (.inl (l,q,n,f))) none)) none) (
 some (.inr b))
def xu[LP](b a:Int)(d c:af):Option (af):=
 LP.lp (unc4 (j4G)) (b,a,d,c)
theorem Kl(a c d b):xu a c d b=lpK (j4G a c d b) (λh=>xu h.1 h.2.1 h.2.2.1 h.2.2.2):=bh _ _
def j6F[LP](c:af):Option (af):=
 (j4p c).bind λg=>
 (j0z g).bind λa=>
 let e:af:=(List.take (Int.toNat a.1) a.2)
 (j1r e).bind λb=>
 let d:=(Int.ofNat (List.length b))
 (xu d 0 ([]:af) b).bind λf=>
 some f
def j4Y(u:af)(f s q:Int)(k:af)(p j c a i:Int)(t:af)(r:al):Option ((af×Int×Int×Int×af×Int×Int×Int×Int×Int×af×al) ⊕ ((af×Int×Int×Int×Int×Int×Int×af×al))):=
 cond (decide (j<p)) (
 cond (inR j (List.length k)) (
 let g:=(List.getD k (Int.toNat j) (0,0))
 let b:=(w64 (f+g.1))
 let l:Int:=(if b>c then b else c:Int)
 let e:=(w64 (f+g.2))
 let m:Int:=(if e<a then e else a:Int)
 let d:af:=[(l,m)]
 cond (decide (List.length t+List.length d<=aY)) (
 let o:af:=(t++d)
 let n:=(w64 (j+1))
 some (.inl (u,f,s,q,k,p,n,c,a,i,o,r))) none) none) (
 some (.inr (u,f,s,q,c,a,i,t,r)))
def zW[LP](l:af)(e k f:Int)(g:af)(d j c a b:Int)(m:af)(i:al):Option ((af×Int×Int×Int×Int×Int×Int×af×al)):=
 LP.lp (jwC (j4Y)) (l,e,k,f,g,d,j,c,a,b,m,i)
theorem SQ(l e k f g d j c a b m i):zW l e k f g d j c a b m i=lpK (j4Y l e k f g d j c a b m i) (λh=>zW h.1 h.2.1 h.2.2.1 h.2.2.2.1 h.2.2.2.2.1 h.2.2.2.2.2.1 h.2.2.2.2.2.2.1 h.2.2.2.2.2.2.2.1 h.2.2.2.2.2.2.2.2.1 h.2.2.2.2.2.2.2.2.2.1 h.2.2.2.2.2.2.2.2.2.2.1 h.2.2.2.2.2.2.2.2.2.2.2):=bh _ _
def j2x[LP](d:af)(g k i l b f:Int)(m:af)(j:al):Option ((af×Int×Int×Int×Int×Int×Int×af×al) ⊕ ((af×Int×Int×af×al))):=
 cond (decide (g<b)) (
 let e:=(Int.ofNat (List.length d))
 (zW d g k i d e 0 l b f m j).bind λa=>
 let c:=(w64 (a.2.1+604800))
 some (.inl (a.1,c,a.2.2.1,a.2.2.2.1,a.2.2.2.2.1,a.2.2.2.2.2.1,a.2.2.2.2.2.2.1,a.2.2.2.2.2.2.2.1,a.2.2.2.2.2.2.2.2))) (
 some (.inr (d,k,i,m,j)))
def zX[LP](i:af)(d g e c a b:Int)(j:af)(f:al):Option ((af×Int×Int×af×al)):=
 LP.lp (unc9 (j2x)) (i,d,g,e,c,a,b,j,f)
theorem SR(i d g e c a b j f):zX i d g e c a b j f=lpK (j2x i d g e c a b j f) (λh=>zX h.1 h.2.1 h.2.2.1 h.2.2.2.1 h.2.2.2.2.1 h.2.2.2.2.2.1 h.2.2.2.2.2.2.1 h.2.2.2.2.2.2.2.1 h.2.2.2.2.2.2.2.2):=bh _ _
def j2y[LP](o:af)(m d:Int)(n:af)(e:al):Option ((af×Int×Int×af×al) ⊕ (af)):=
 cond (decide (d<m)) (
 cond (inR d (List.length e)) (
 let a:=(List.getD e (Int.toNat d) (0,(0,0)))
 let j:=(w64 (a.1+a.2.2))
 let c:=(w64 (j-(-259200)))
 let f:=(Int.tmod c 604800)
 let k:=(w64 (c-f))
 let l:=(w64 (k+(-259200)))
 let i:=(w64 (l-a.2.2))
 (zX o i m d a.1 a.2.1 a.2.2 n e).bind λb=>
 let g:=(w64 (b.2.2.1+1))
 some (.inl (b.1,b.2.1,g,b.2.2.2.1,b.2.2.2.2))) none) (
 some (.inr n))
def zY[LP](e:af)(c a:Int)(d:af)(b:al):Option (af):=
 LP.lp (unc5 (j2y)) (e,c,a,d,b)
theorem SS(e c a d b):zY e c a d b=lpK (j2y e c a d b) (λh=>zY h.1 h.2.1 h.2.2.1 h.2.2.2.1 h.2.2.2.2):=bh _ _
def j4q[LP](b:dV)(e:af)(a c:Int):Option (af):=
 (j1A (b.1,b.2) a c).bind λd=>
 let g:=(Int.ofNat (List.length d))
 (zY e g 0 ([]:af) d).bind λi=>
 (j6F i).bind λf=>
 some f
def j47(r s:Int)(g:(List Int))(u c:Int)(w:ByteArray)(j:Int)(k:(List Int))(i b e:Int)(v:af)(t:al):Option ((Int×Int×(List Int)×Int×Int×ByteArray×Int×(List Int)×Int×Int×Int×af×al) ⊕ ((Int×Int×ByteArray×Int×(List Int)×af×al))):=
 cond (decide (c<u)) (
 cond (inR c (List.length g)) (
 let q:=(List.getD g (Int.toNat c) 0)
 let o:=(w64 (q*86400))
 let a:=(w64 (o-e))
 let m:Int:=(if a>i then a else i:Int)
 let d:=(w64 (a+86400))
 let n:Int:=(if d<b then d else b:Int)
 let f:af:=[(m,n)]
 cond (decide (List.length v+List.length f<=aY)) (
 let p:af:=(v++f)
 let l:=(w64 (c+1))
 some (.inl (r,s,g,u,l,w,j,k,i,b,e,p,t))) none) none) (
 some (.inr (r,s,w,j,k,v,t)))
def xv[LP](g i:Int)(e:(List Int))(k j:Int)(n:ByteArray)(c:Int)(d:(List Int))(f a b:Int)(m:af)(l:al):Option ((Int×Int×ByteArray×Int×(List Int)×af×al)):=
 LP.lp (jsx (j47)) (g,i,e,k,j,n,c,d,f,a,b,m,l)
theorem SU(g i e k j n c d f a b m l):xv g i e k j n c d f a b m l=lpK (j47 g i e k j n c d f a b m l) (λh=>xv h.1 h.2.1 h.2.2.1 h.2.2.2.1 h.2.2.2.2.1 h.2.2.2.2.2.1 h.2.2.2.2.2.2.1 h.2.2.2.2.2.2.2.1 h.2.2.2.2.2.2.2.2.1 h.2.2.2.2.2.2.2.2.2.1 h.2.2.2.2.2.2.2.2.2.2.1 h.2.2.2.2.2.2.2.2.2.2.2.1 h.2.2.2.2.2.2.2.2.2.2.2.2):=bh _ _
def j1W[LP](i d:Int)(l:ByteArray)(j:Int)(c:(List Int))(k:af)(e:al):Option ((Int×Int×ByteArray×Int×(List Int)×af×al) ⊕ (af)):=
 cond (decide (d<i)) (
 cond (inR d (List.length e)) (
 let b:=(List.getD e (Int.toNat d) (0,(0,0)))
 let g:=(Int.ofNat (List.length c))
 (xv i d c g 0 l j c b.1 b.2.1 b.2.2 k e).bind λa=>
 let f:=(w64 (a.2.1+1))
 some (.inl (a.1,f,a.2.2.1,a.2.2.2.1,a.2.2.2.2.1,a.2.2.2.2.2.1,a.2.2.2.2.2.2))) none) (
 some (.inr k))
def xw[LP](c d:Int)(g:ByteArray)(a:Int)(b:(List Int))(f:af)(e:al):Option (af):=
 LP.lp (unc7 (j1W)) (c,d,g,a,b,f,e)
theorem SV(c d g a b f e):xw c d g a b f e=lpK (j1W c d g a b f e) (λh=>xw h.1 h.2.1 h.2.2.1 h.2.2.2.1 h.2.2.2.2.1 h.2.2.2.2.2.1 h.2.2.2.2.2.2):=bh _ _
def j28[LP](c:gU)(a:qA)(b d:Int):Option (af):=
 cond (inR a.2.1 (List.length c.2)) (
 let f:=(List.getD c.2 (Int.toNat a.2.1) (0,([]:af)))
 (j1A (f.1,f.2) b d).bind λe=>
 let i:=(Int.ofNat (List.length e))
 (xw i 0 a.1 a.2.1 a.2.2 ([]:af) e).bind λj=>
 (j6F j).bind λg=>
 some g) none
def j4Z(b:af)(c:Int)(d:af)(f e i a:Int)(l:af):Option ((af×Int×af×Int×Int×Int×Int×af) ⊕ ((af×Int×af×Int×Int×Int×Int×af))):=
 let j:=(Int.ofNat (List.length b))
 cond (decide (c<j)) (
 cond (inR c (List.length b)) (
 let g:=(List.getD b (Int.toNat c) (0,0))
 cond (decide (g.2<=i)) (
 let k:=(w64 (c+1))
 some (.inl (b,k,d,f,e,i,a,l))) (
 some (.inr (b,c,d,f,e,i,a,l)))) none) (
 some (.inr (b,c,d,f,e,i,a,l)))
def zZ[LP](g:af)(i:Int)(b:af)(d c f a:Int)(e:af):Option ((af×Int×af×Int×Int×Int×Int×af)):=
 LP.lp (unc8 (j4Z)) (g,i,b,d,c,f,a,e)
theorem SX(g i b d c f a e):zZ g i b d c f a e=lpK (j4Z g i b d c f a e) (λh=>zZ h.1 h.2.1 h.2.2.1 h.2.2.2.1 h.2.2.2.2.1 h.2.2.2.2.2.1 h.2.2.2.2.2.2.1 h.2.2.2.2.2.2.2):=bh _ _
def j50(b:af)(r d a:Int)(i:af)(j g t c:Int)(l:af):Option ((af×Int×Int×Int×af×Int×Int×Int×Int×af) ⊕ ((af×Int×Int×af×Int×Int×Int×Int×af))):=
 let u:=(Int.ofNat (List.length b))
 cond (decide (a<u)) (
 cond (inR a (List.length b)) (
 let s:=(List.getD b (Int.toNat a) (0,0))
 cond (decide (s.1<c)) (
 cond (inR a (List.length b)) (
 let w:=(List.getD b (Int.toNat a) (0,0))
 cond (decide (d<w.1)) (
 cond (inR a (List.length b)) (
 let o:=(List.getD b (Int.toNat a) (0,0))
 let k:af:=[(d,o.1)]
 cond (decide (List.length l+List.length k<=aY)) (
 let q:af:=(l++k)
 cond (inR a (List.length b)) (
 let e:=(List.getD b (Int.toNat a) (0,0))
 let m:Int:=(if e.2>d then e.2 else d:Int)
 let v:=(w64 (a+1))
 some (.inl (b,r,m,v,i,j,g,t,c,q))) none) none) none) (
 cond (inR a (List.length b)) (
 let f:=(List.getD b (Int.toNat a) (0,0))
 let p:Int:=(if f.2>d then f.2 else d:Int)
 let n:=(w64 (a+1))
 some (.inl (b,r,p,n,i,j,g,t,c,l))) none)) none) (
 some (.inr (b,r,d,i,j,g,t,c,l)))) none) (
 some (.inr (b,r,d,i,j,g,t,c,l)))
def xx[LP](j:af)(k g d:Int)(b:af)(e c i a:Int)(f:af):Option ((af×Int×Int×af×Int×Int×Int×Int×af)):=
 LP.lp (jkB (j50)) (j,k,g,d,b,e,c,i,a,f)
theorem SY(j k g d b e c i a f):xx j k g d b e c i a f=lpK (j50 j k g d b e c i a f) (λh=>xx h.1 h.2.1 h.2.2.1 h.2.2.2.1 h.2.2.2.2.1 h.2.2.2.2.2.1 h.2.2.2.2.2.2.1 h.2.2.2.2.2.2.2.1 h.2.2.2.2.2.2.2.2.1 h.2.2.2.2.2.2.2.2.2):=bh _ _
def j2z[LP](m:af)(n:Int)(f:af)(k c:Int)(l:af):Option ((af×Int×af×Int×Int×af) ⊕ (af)):=
 cond (decide (c<k)) (
 cond (inR c (List.length f)) (
 let d:=(List.getD f (Int.toNat c) (0,0))
 (zZ m n f k c d.1 d.2 l).bind λb=>
 (xx b.1 b.2.1 b.2.2.2.2.2.1 b.2.1 b.2.2.1 b.2.2.2.1 b.2.2.2.2.1 b.2.2.2.2.2.1 b.2.2.2.2.2.2.1 b.2.2.2.2.2.2.2).bind λa=>
 cond (decide (a.2.2.1<a.2.2.2.2.2.2.2.1)) (
 let e:af:=[(a.2.2.1,a.2.2.2.2.2.2.2.1)]
 cond (decide (List.length a.2.2.2.2.2.2.2.2+List.length e<=aY)) (
 let g:af:=(a.2.2.2.2.2.2.2.2++e)
 let i:=(w64 (a.2.2.2.2.2.1+1))
 some (.inl (a.1,a.2.1,a.2.2.2.1,a.2.2.2.2.1,i,g))) none) (
 let j:=(w64 (a.2.2.2.2.2.1+1))
 some (.inl (a.1,a.2.1,a.2.2.2.1,a.2.2.2.2.1,j,a.2.2.2.2.2.2.2.2)))) none) (
 some (.inr l))
def uO[LP](e:af)(f:Int)(a:af)(c b:Int)(d:af):Option (af):=
 LP.lp (unc6 (j2z)) (e,f,a,c,b,d)
theorem SZ(e f a c b d):uO e f a c b d=lpK (j2z e f a c b d) (λh=>uO h.1 h.2.1 h.2.2.1 h.2.2.2.1 h.2.2.2.2.1 h.2.2.2.2.2):=bh _ _
def j2O[LP](a b:af):Option (af):=
 let c:=(Int.ofNat (List.length a))
 (uO b 0 a c 0 ([]:af)).bind λd=>
 some d
def j73(c d:af)(b a:Int)(n:af):Option ((af×af×Int×Int×af) ⊕ (af)):=
 let q:=(Int.ofNat (List.length c))
 let x:=(Int.ofNat (List.length d))
 cond (cond (decide (b<q)) (decide (a<x)) false) (
 cond (inR b (List.length c)) (
 let g:=(List.getD c (Int.toNat b) (0,0))
 cond (inR a (List.length d)) (
 let l:=(List.getD d (Int.toNat a) (0,0))
 let i:Int:=(if l.1>g.1 then l.1 else g.1:Int)
 cond (inR b (List.length c)) (
 let m:=(List.getD c (Int.toNat b) (0,0))
 cond (inR a (List.length d)) (
 let e:=(List.getD d (Int.toNat a) (0,0))
 let j:Int:=(if e.2<m.2 then e.2 else m.2:Int)
 cond (decide (i<j)) (
 let f:af:=[(i,j)]
 cond (decide (List.length n+List.length f<=aY)) (
 let k:af:=(n++f)
 cond (inR b (List.length c)) (
 let w:=(List.getD c (Int.toNat b) (0,0))
 cond (inR a (List.length d)) (
 let p:=(List.getD d (Int.toNat a) (0,0))
 cond (decide (w.2<p.2)) (
 let r:=(w64 (b+1))
 some (.inl (c,d,r,a,k))) (
 let s:=(w64 (a+1))
 some (.inl (c,d,b,s,k)))) none) none) none) (
 cond (inR b (List.length c)) (
 let v:=(List.getD c (Int.toNat b) (0,0))
 cond (inR a (List.length d)) (
 let t:=(List.getD d (Int.toNat a) (0,0))
 cond (decide (v.2<t.2)) (
 let u:=(w64 (b+1))
 some (.inl (c,d,u,a,n))) (
 let o:=(w64 (a+1))
 some (.inl (c,d,b,o,n)))) none) none)) none) none) none) none) (
 some (.inr n))
def sR[LP](b d:af)(e c:Int)(a:af):Option (af):=
 LP.lp (unc5 (j73)) (b,d,e,c,a)
theorem jlU(b d e c a):sR b d e c a=lpK (j73 b d e c a) (λh=>sR h.1 h.2.1 h.2.2.1 h.2.2.2.1 h.2.2.2.2):=bh _ _
def j85[LP](b a:af):Option (af):=
 (sR b a 0 0 ([]:af)).bind λc=>
 some c
def j4s[LP](a:gU)(b:eP)(d c:Int):Option (af):=
 cond (inR b.2.1 (List.length a.2)) (
 let s:=(List.getD a.2 (Int.toNat b.2.1) (0,([]:af)))
 (j0F (s.1,s.2) (b.1,(b.2.1,((b.2.2.1.1,b.2.2.1.2),(b.2.2.2.1,(b.2.2.2.2.1,(b.2.2.2.2.2.1,(b.2.2.2.2.2.2.1,(b.2.2.2.2.2.2.2.1,b.2.2.2.2.2.2.2.2)))))))) 0).bind λi=>
 cond (cond (cond (!i.2) true (decide (i.1>=c))) true (decide (d>=c))) (
 some ([]:af)) (
 let e:Int:=(if i.1>d then i.1 else d:Int)
 let k:af:=[(e,c)]
 let x:=(Int.ofNat (List.length b.2.2.2.2.2.2.1))
 cond (decide (x>0)) (
 cond (inR b.2.1 (List.length a.2)) (
 let r:=(List.getD a.2 (Int.toNat b.2.1) (0,([]:af)))
 (j4q (r.1,r.2) b.2.2.2.2.2.2.1 e c).bind λj=>
 cond (b.2.2.2.2.2.2.2.2==1) (
 cond (inR b.2.2.2.2.2.2.2.1 (List.length a.1.2.2.1)) (
 let l:=(List.getD a.1.2.2.1 (Int.toNat b.2.2.2.2.2.2.2.1) (ByteArray.empty,(0,([]:(List Int)))))
 (j28 ((a.1.1,(a.1.2.1,(a.1.2.2.1,a.1.2.2.2))),a.2) (l.1,(l.2.1,l.2.2)) e c).bind λu=>
 (j2O j u).bind λt=>
 some t) none) (
 cond (b.2.2.2.2.2.2.2.2==2) (
 cond (inR b.2.2.2.2.2.2.2.1 (List.length a.1.2.2.1)) (
 let m:=(List.getD a.1.2.2.1 (Int.toNat b.2.2.2.2.2.2.2.1) (ByteArray.empty,(0,([]:(List Int)))))
 (j28 ((a.1.1,(a.1.2.1,(a.1.2.2.1,a.1.2.2.2))),a.2) (m.1,(m.2.1,m.2.2)) e c).bind λw=>
 (j85 j w).bind λv=>
 some v) none) (
 some j))) none) (
 cond (b.2.2.2.2.2.2.2.2==1) (
 cond (inR b.2.2.2.2.2.2.2.1 (List.length a.1.2.2.1)) (
 let g:=(List.getD a.1.2.2.1 (Int.toNat b.2.2.2.2.2.2.2.1) (ByteArray.empty,(0,([]:(List Int)))))
 (j28 ((a.1.1,(a.1.2.1,(a.1.2.2.1,a.1.2.2.2))),a.2) (g.1,(g.2.1,g.2.2)) e c).bind λo=>
 (j2O k o).bind λq=>
 some q) none) (
 cond (b.2.2.2.2.2.2.2.2==2) (
 cond (inR b.2.2.2.2.2.2.2.1 (List.length a.1.2.2.1)) (
 let f:=(List.getD a.1.2.2.1 (Int.toNat b.2.2.2.2.2.2.2.1) (ByteArray.empty,(0,([]:(List Int)))))
 (j28 ((a.1.1,(a.1.2.1,(a.1.2.2.1,a.1.2.2.2))),a.2) (f.1,(f.2.1,f.2.2)) e c).bind λp=>
 (j85 k p).bind λn=>
 some n) none) (
 some k))))) none
def j4c[LP](a:dV)(b:Int):Option (Int):=
 (j42 (a.1,a.2) b).bind λc=>
 (j5m (a.1,a.2) c).bind λd=>
 some d
def jiu(a:Int):Option ((Int×Int)):=
 let e:=(w64 (Int.tdiv a 86400))
 let i:=(Int.tmod a 86400)
 cond (decide (i<0)) (
 let d:=(w64 (e-1))
 let f:=(w64 (d*86400))
 let g:=(w64 (a-f))
 some (d,g)) (
 let b:=(w64 (e*86400))
 let c:=(w64 (a-b))
 some (e,c))
def j1C[LP](a:dV)(b:Int):Option ((Int×Int)):=
 (j4c (a.1,a.2) b).bind λe=>
 let d:=(w64 (b+e))
 (jiu d).bind λc=>
 some (c.1,c.2)
def j2d[LP](p m o:Int)(f:af)(n:ByteArray)(k a c j i:Int)(e:(List Int))(b:af)(g d:Int):Option ((Int×Int×Int×af×ByteArray×Int×Int×Int×Int×Int×(List Int)×af×Int×Int) ⊕ ((Int×Int×Int×af×ByteArray×Int×Int×Int×Int×Int×(List Int)×af×Int×Int))):=
 cond (decide (m>0)) (
 (j0F (o,f) (n,(k,((a,c),(j,(i,(e,(b,(g,d)))))))) m).bind λl=>
 cond (cond l.2 (decide (l.1<=p)) false) (
 some (.inr (p,m,o,f,n,k,a,c,j,i,e,b,g,d))) (
 let q:=(w64 (m-1))
 some (.inl (p,q,o,f,n,k,a,c,j,i,e,b,g,d)))) (
 some (.inr (p,m,o,f,n,k,a,c,j,i,e,b,g,d)))
def Aa[LP](o l n:Int)(f:af)(m:ByteArray)(k a c j i:Int)(e:(List Int))(b:af)(g d:Int):Option ((Int×Int×Int×af×ByteArray×Int×Int×Int×Int×Int×(List Int)×af×Int×Int)):=
 LP.lp (jmH (j2d)) (o,l,n,f,m,k,a,c,j,i,e,b,g,d)
theorem S7(o l n f m k a c j i e b g d):Aa o l n f m k a c j i e b g d=lpK (j2d o l n f m k a c j i e b g d) (λh=>Aa h.1 h.2.1 h.2.2.1 h.2.2.2.1 h.2.2.2.2.1 h.2.2.2.2.2.1 h.2.2.2.2.2.2.1 h.2.2.2.2.2.2.2.1 h.2.2.2.2.2.2.2.2.1 h.2.2.2.2.2.2.2.2.2.1 h.2.2.2.2.2.2.2.2.2.2.1 h.2.2.2.2.2.2.2.2.2.2.2.1 h.2.2.2.2.2.2.2.2.2.2.2.2.1 h.2.2.2.2.2.2.2.2.2.2.2.2.2):=bh _ _
def j2P[LP](r o q:Int)(g:af)(p:ByteArray)(l b d k j:Int)(f:(List Int))(c:af)(i e:Int):Option ((Int×Int×Int×af×ByteArray×Int×Int×Int×Int×Int×(List Int)×af×Int×Int) ⊕ (Int)):=
 let m:=(w64 (o+1))
 (j0F (q,g) (p,(l,((b,d),(k,(j,(f,(c,(i,e)))))))) m).bind λa=>
 cond (cond (!a.2) true (decide (a.1>r))) (
 some (.inr o)) (
 let n:=(w64 (o+1))
 some (.inl (r,n,q,g,p,l,b,d,k,j,f,c,i,e)))
def Ab[LP](o l n:Int)(f:af)(m:ByteArray)(k a c j i:Int)(e:(List Int))(b:af)(g d:Int):Option (Int):=
 LP.lp (jmH (j2P)) (o,l,n,f,m,k,a,c,j,i,e,b,g,d)
theorem jjs(o l n f m k a c j i e b g d):Ab o l n f m k a c j i e b g d=lpK (j2P o l n f m k a c j i e b g d) (λh=>Ab h.1 h.2.1 h.2.2.1 h.2.2.2.1 h.2.2.2.2.1 h.2.2.2.2.2.1 h.2.2.2.2.2.2.1 h.2.2.2.2.2.2.2.1 h.2.2.2.2.2.2.2.2.1 h.2.2.2.2.2.2.2.2.2.1 h.2.2.2.2.2.2.2.2.2.2.1 h.2.2.2.2.2.2.2.2.2.2.2.1 h.2.2.2.2.2.2.2.2.2.2.2.2.1 h.2.2.2.2.2.2.2.2.2.2.2.2.2):=bh _ _
def j3a[LP](c:dV)(a:eP)(d:Int):Option (Int):=
 (j0F (c.1,c.2) (a.1,(a.2.1,((a.2.2.1.1,a.2.2.1.2),(a.2.2.2.1,(a.2.2.2.2.1,(a.2.2.2.2.2.1,(a.2.2.2.2.2.2.1,(a.2.2.2.2.2.2.2.1,a.2.2.2.2.2.2.2.2)))))))) 0).bind λe=>
 cond (cond (!e.2) true (decide (e.1>d))) (
 some (-1)) (
 cond (a.2.2.2.1==0) (
 let l:=(w64 (d-e.1))
 let i:=(w64 (3600*a.2.2.2.2.1))
 cond (!(i==0)) (
 let m:=(w64 (Int.tdiv l i))
 some m) none) (
 (j1C (c.1,c.2) d).bind λk=>
 let n:=(w64 (k.1-a.2.2.1.1))
 (jbc (a.1,(a.2.1,((a.2.2.1.1,a.2.2.1.2),(a.2.2.2.1,(a.2.2.2.2.1,(a.2.2.2.2.2.1,(a.2.2.2.2.2.2.1,(a.2.2.2.2.2.2.2.1,a.2.2.2.2.2.2.2.2))))))))).bind λf=>
 cond (!(f==0)) (
 let g:=(w64 (Int.tdiv n f))
 let j:Int:=(if g>0 then g else 0:Int)
 (Aa d j c.1 c.2 a.1 a.2.1 a.2.2.1.1 a.2.2.1.2 a.2.2.2.1 a.2.2.2.2.1 a.2.2.2.2.2.1 a.2.2.2.2.2.2.1 a.2.2.2.2.2.2.2.1 a.2.2.2.2.2.2.2.2).bind λb=>
 (Ab b.1 b.2.1 b.2.2.1 b.2.2.2.1 b.2.2.2.2.1 b.2.2.2.2.2.1 b.2.2.2.2.2.2.1 b.2.2.2.2.2.2.2.1 b.2.2.2.2.2.2.2.2.1 b.2.2.2.2.2.2.2.2.2.1 b.2.2.2.2.2.2.2.2.2.2.1 b.2.2.2.2.2.2.2.2.2.2.2.1 b.2.2.2.2.2.2.2.2.2.2.2.2.1 b.2.2.2.2.2.2.2.2.2.2.2.2.2).bind λo=>
 some o) none))
def j5V(f:al)(m e:Int)(b:al):Option ((al×Int×Int×al) ⊕ (al)):=
 cond (decide (e<m)) (
 cond (inR e (List.length f)) (
 let a:=(List.getD f (Int.toNat e) (0,(0,0)))
 cond (decide (a.2.1<=a.1)) (
 let u:=(w64 (e+1))
 some (.inl (f,m,u,b))) (
 let d:=(Int.ofNat (List.length b))
 cond (decide (d>0)) (
 let j:=(w64 (d-1))
 cond (inR j (List.length b)) (
 let t:=(List.getD b (Int.toNat j) (0,(0,0))).2.1
 cond (t==a.1) (
 let l:=(w64 (d-1))
 cond (inR l (List.length b)) (
 let r:=(List.getD b (Int.toNat l) (0,(0,0))).2.2
 cond (r==a.2.2) (
 let c:=(w64 (d-1))
 cond (inR c (List.length b)) (
 let x:al:=(List.set b (Int.toNat c) ((List.getD b (Int.toNat c) (0,(0,0))).1,(a.2.1,(List.getD b (Int.toNat c) (0,(0,0))).2.2)))
 let s:=(w64 (e+1))
 some (.inl (f,m,s,x))) none) (
 let k:al:=[(a.1,(a.2.1,a.2.2))]
 cond (decide (List.length b+List.length k<=aY)) (
 let p:al:=(b++k)
 let v:=(w64 (e+1))
 some (.inl (f,m,v,p))) none)) none) (
 let i:al:=[(a.1,(a.2.1,a.2.2))]
 cond (decide (List.length b+List.length i<=aY)) (
 let q:al:=(b++i)
 let o:=(w64 (e+1))
 some (.inl (f,m,o,q))) none)) none) (
 let g:al:=[(a.1,(a.2.1,a.2.2))]
 cond (decide (List.length b+List.length g<=aY)) (
 let w:al:=(b++g)
 let n:=(w64 (e+1))
 some (.inl (f,m,n,w))) none))) none) (
 some (.inr b))
def uP[LP](a:al)(c d:Int)(b:al):Option (al):=
 LP.lp (unc4 (j5V)) (a,c,d,b)
theorem S8(c a b d):uP c a b d=lpK (j5V c a b d) (λh=>uP h.1 h.2.1 h.2.2.1 h.2.2.2):=bh _ _
def j7H[LP](a:al):Option (al):=
 let b:=(Int.ofNat (List.length a))
 (uP a b 0 ([]:al)).bind λc=>
 some c
def j1y[LP](b5 o b2 v a5 a1:Int)(a7:ByteArray)(i j m k g:Int)(a:(List Int))(f:af)(l e p:Int)(c:af)(a8 b:Int)(z:al)(a3:af):Option ((Int×Int×Int×Int×Int×Int×ByteArray×Int×Int×Int×Int×Int×(List Int)×af×Int×Int×Int×af×Int×Int×al×af) ⊕ ((Int×Int×Int×Int×Int×Int×ByteArray×Int×Int×Int×Int×Int×(List Int)×af×Int×Int×Int×af×al×af))):=
 cond (decide (o<b)) (
 cond (decide (o>=v)) (
 (j3a (p,c) (a7,(i,((j,m),(k,(g,(a,(f,(l,e)))))))) o).bind λd=>
 let b6:=(w64 (d+1))
 (j0F (p,c) (a7,(i,((j,m),(k,(g,(a,(f,(l,e)))))))) b6).bind λn=>
 cond (!n.2) (
 let a4:Int:=(if 8589934593<b then 8589934593 else b:Int)
 let a2:=(Int.ofNat (List.length a))
 cond (!(a2==0)) (
 let a6:=(Int.tmod d a2)
 cond (inR a6 (List.length a)) (
 let b4:=(List.getD a (Int.toNat a6) 0)
 let a0:al:=[(o,(a4,b4))]
 cond (decide (List.length z+List.length a0<=aY)) (
 let b7:al:=(z++a0)
 some (.inl (b5,a4,d,8589934593,a5,a1,a7,i,j,m,k,g,a,f,l,e,p,c,a8,b,b7,a3))) none) none) none) (
 let u:Int:=(if n.1<b then n.1 else b:Int)
 let x:=(Int.ofNat (List.length a))
 cond (!(x==0)) (
 let y:=(Int.tmod d x)
 cond (inR y (List.length a)) (
 let a9:=(List.getD a (Int.toNat y) 0)
 let t:al:=[(o,(u,a9))]
 cond (decide (List.length z+List.length t<=aY)) (
 let b3:al:=(z++t)
 some (.inl (b5,u,d,n.1,a5,a1,a7,i,j,m,k,g,a,f,l,e,p,c,a8,b,b3,a3))) none) none) none)) (
 let s:Int:=(if v<b then v else b:Int)
 let w:=(Int.ofNat (List.length a))
 cond (!(w==0)) (
 let r:=(Int.tmod b2 w)
 cond (inR r (List.length a)) (
 let b1:=(List.getD a (Int.toNat r) 0)
 let q:al:=[(o,(s,b1))]
 cond (decide (List.length z+List.length q<=aY)) (
 let b0:al:=(z++q)
 some (.inl (b5,s,b2,v,a5,a1,a7,i,j,m,k,g,a,f,l,e,p,c,a8,b,b0,a3))) none) none) none)) (
 some (.inr (b5,o,b2,v,a5,a1,a7,i,j,m,k,g,a,f,l,e,p,c,z,a3)))
def xy[LP](w r s q t m:Int)(u:ByteArray)(f g l i e:Int)(j:(List Int))(d:af)(k c o:Int)(b:af)(n a:Int)(v:al)(p:af):Option ((Int×Int×Int×Int×Int×Int×ByteArray×Int×Int×Int×Int×Int×(List Int)×af×Int×Int×Int×af×al×af)):=
 LP.lp (jDo (j1y)) (w,r,s,q,t,m,u,f,g,l,i,e,j,d,k,c,o,b,n,a,v,p)
theorem jfs(w r s q t m u f g l i e j d k c o b n a v p):xy w r s q t m u f g l i e j d k c o b n a v p=lpK (j1y w r s q t m u f g l i e j d k c o b n a v p) (λh=>xy h.1 h.2.1 h.2.2.1 h.2.2.2.1 h.2.2.2.2.1 h.2.2.2.2.2.1 h.2.2.2.2.2.2.1 h.2.2.2.2.2.2.2.1 h.2.2.2.2.2.2.2.2.1 h.2.2.2.2.2.2.2.2.2.1 h.2.2.2.2.2.2.2.2.2.2.1 h.2.2.2.2.2.2.2.2.2.2.2.1 h.2.2.2.2.2.2.2.2.2.2.2.2.1 h.2.2.2.2.2.2.2.2.2.2.2.2.2.1 h.2.2.2.2.2.2.2.2.2.2.2.2.2.2.1 h.2.2.2.2.2.2.2.2.2.2.2.2.2.2.2.1 h.2.2.2.2.2.2.2.2.2.2.2.2.2.2.2.2.1 h.2.2.2.2.2.2.2.2.2.2.2.2.2.2.2.2.2.1 h.2.2.2.2.2.2.2.2.2.2.2.2.2.2.2.2.2.2.1 h.2.2.2.2.2.2.2.2.2.2.2.2.2.2.2.2.2.2.2.1 h.2.2.2.2.2.2.2.2.2.2.2.2.2.2.2.2.2.2.2.2.1 h.2.2.2.2.2.2.2.2.2.2.2.2.2.2.2.2.2.2.2.2.2):=bh _ _
def j1a[LP](x j y w k d:Int)(z:ByteArray)(o p u q n:Int)(s:(List Int))(m:af)(t l v:Int)(i:af)(r:al)(e:af):Option ((Int×Int×Int×Int×Int×Int×ByteArray×Int×Int×Int×Int×Int×(List Int)×af×Int×Int×Int×af×al×af) ⊕ ((Int×Int×al))):=
 cond (decide (d<k)) (
 cond (inR d (List.length e)) (
 let b:=(List.getD e (Int.toNat d) (0,0))
 let c:al:=[(j,(b.1,(-1)))]
 cond (decide (List.length r+List.length c<=aY)) (
 let f:al:=(r++c)
 (xy x b.1 y w k d z o p u q n s m t l v i b.1 b.2 f e).bind λa=>
 let g:=(w64 (a.2.2.2.2.2.1+1))
 some (.inl (a.1,a.2.1,a.2.2.1,a.2.2.2.1,a.2.2.2.2.1,g,a.2.2.2.2.2.2.1,a.2.2.2.2.2.2.2.1,a.2.2.2.2.2.2.2.2.1,a.2.2.2.2.2.2.2.2.2.1,a.2.2.2.2.2.2.2.2.2.2.1,a.2.2.2.2.2.2.2.2.2.2.2.1,a.2.2.2.2.2.2.2.2.2.2.2.2.1,a.2.2.2.2.2.2.2.2.2.2.2.2.2.1,a.2.2.2.2.2.2.2.2.2.2.2.2.2.2.1,a.2.2.2.2.2.2.2.2.2.2.2.2.2.2.2.1,a.2.2.2.2.2.2.2.2.2.2.2.2.2.2.2.2.1,a.2.2.2.2.2.2.2.2.2.2.2.2.2.2.2.2.2.1,a.2.2.2.2.2.2.2.2.2.2.2.2.2.2.2.2.2.2.1,a.2.2.2.2.2.2.2.2.2.2.2.2.2.2.2.2.2.2.2))) none) none) (
 some (.inr (x,j,r)))
def xz[LP](u p q o r l:Int)(s:ByteArray)(e f k g d:Int)(i:(List Int))(c:af)(j b m:Int)(a:af)(t:al)(n:af):Option ((Int×Int×al)):=
 LP.lp (jDn (j1a)) (u,p,q,o,r,l,s,e,f,k,g,d,i,c,j,b,m,a,t,n)
theorem S9(u p q o r l s e f k g d i c j b m a t n):xz u p q o r l s e f k g d i c j b m a t n=lpK (j1a u p q o r l s e f k g d i c j b m a t n) (λh=>xz h.1 h.2.1 h.2.2.1 h.2.2.2.1 h.2.2.2.2.1 h.2.2.2.2.2.1 h.2.2.2.2.2.2.1 h.2.2.2.2.2.2.2.1 h.2.2.2.2.2.2.2.2.1 h.2.2.2.2.2.2.2.2.2.1 h.2.2.2.2.2.2.2.2.2.2.1 h.2.2.2.2.2.2.2.2.2.2.2.1 h.2.2.2.2.2.2.2.2.2.2.2.2.1 h.2.2.2.2.2.2.2.2.2.2.2.2.2.1 h.2.2.2.2.2.2.2.2.2.2.2.2.2.2.1 h.2.2.2.2.2.2.2.2.2.2.2.2.2.2.2.1 h.2.2.2.2.2.2.2.2.2.2.2.2.2.2.2.2.1 h.2.2.2.2.2.2.2.2.2.2.2.2.2.2.2.2.2.1 h.2.2.2.2.2.2.2.2.2.2.2.2.2.2.2.2.2.2.1 h.2.2.2.2.2.2.2.2.2.2.2.2.2.2.2.2.2.2.2):=bh _ _
def j1E[LP](b:gU)(a:eP)(c d:Int):Option (al):=
 cond (inR a.2.1 (List.length b.2)) (
 let i:=(List.getD b.2 (Int.toNat a.2.1) (0,([]:af)))
 (j4s ((b.1.1,(b.1.2.1,(b.1.2.2.1,b.1.2.2.2))),b.2) (a.1,(a.2.1,((a.2.2.1.1,a.2.2.1.2),(a.2.2.2.1,(a.2.2.2.2.1,(a.2.2.2.2.2.1,(a.2.2.2.2.2.2.1,(a.2.2.2.2.2.2.2.1,a.2.2.2.2.2.2.2.2)))))))) c d).bind λg=>
 let l:=(Int.ofNat (List.length g))
 (xz d c (-1) (-1) l 0 a.1 a.2.1 a.2.2.1.1 a.2.2.1.2 a.2.2.2.1 a.2.2.2.2.1 a.2.2.2.2.2.1 a.2.2.2.2.2.2.1 a.2.2.2.2.2.2.2.1 a.2.2.2.2.2.2.2.2 i.1 i.2 ([]:al) g).bind λe=>
 let f:al:=[(e.2.1,(e.1,(-1)))]
 cond (decide (List.length e.2.2+List.length f<=aY)) (
 let j:al:=(e.2.2++f)
 (j7H j).bind λk=>
 some k) none) none
def j51(k:Int)(f:ae)(d b:Int)(e:af):Option ((Int×ae×Int×Int×af) ⊕ (af)):=
 cond (decide (b<d)) (
 cond (inR b (List.length f)) (
 let a:=(List.getD f (Int.toNat b) (0,(0,(0,(0,0)))))
 cond (cond (a.1==0) (a.2.1==k) false) (
 let c:af:=[(a.2.2.2.1,a.2.2.2.2)]
 cond (decide (List.length e+List.length c<=aY)) (
 let g:af:=(e++c)
 let i:=(w64 (b+1))
 some (.inl (k,f,d,i,g))) none) (
 let j:=(w64 (b+1))
 some (.inl (k,f,d,j,e)))) none) (
 some (.inr e))
def xA[LP](e:Int)(d:ae)(b a:Int)(c:af):Option (af):=
 LP.lp (unc5 (j51)) (e,d,b,a,c)
theorem Ta(e d b a c):xA e d b a c=lpK (j51 e d b a c) (λh=>xA h.1 h.2.1 h.2.2.1 h.2.2.2.1 h.2.2.2.2):=bh _ _
def j5h[LP](b:gT)(a:Int):Option (af):=
 let c:=(Int.ofNat (List.length b.2.2))
 (xA a b.2.2 c 0 ([]:af)).bind λe=>
 (j6F e).bind λd=>
 some d
def j4t(k:al)(n m l c:Int)(r:ByteArray)(d:aH)(e:ae)(s p f:Int)(q:bu)(o:al)(g:af):Option ((al×Int×Int×Int×Int×ByteArray×aH×ae×Int×Int×Int×bu×al×af) ⊕ ((al×Int×Int×ByteArray×aH×ae×bu×al))):=
 cond (decide (c<l)) (
 cond (inR c (List.length g)) (
 let a:=(List.getD g (Int.toNat c) (0,0))
 let b:al:=[(a.1,(a.2,f))]
 cond (decide (List.length o+List.length b<=aY)) (
 let j:al:=(o++b)
 let i:=(w64 (c+1))
 some (.inl (k,n,m,l,i,r,d,e,s,p,f,q,j,g))) none) none) (
 some (.inr (k,n,m,r,d,e,q,o)))
def sS[LP](e:al)(j i g k:Int)(o:ByteArray)(a:aH)(b:ae)(n d c:Int)(l:bu)(m:al)(f:af):Option ((al×Int×Int×ByteArray×aH×ae×bu×al)):=
 LP.lp (jmH (j4t)) (e,j,i,g,k,o,a,b,n,d,c,l,m,f)
theorem Tb(e j i g k o a b n d c l m f):sS e j i g k o a b n d c l m f=lpK (j4t e j i g k o a b n d c l m f) (λh=>sS h.1 h.2.1 h.2.2.1 h.2.2.2.1 h.2.2.2.2.1 h.2.2.2.2.2.1 h.2.2.2.2.2.2.1 h.2.2.2.2.2.2.2.1 h.2.2.2.2.2.2.2.2.1 h.2.2.2.2.2.2.2.2.2.1 h.2.2.2.2.2.2.2.2.2.2.1 h.2.2.2.2.2.2.2.2.2.2.2.1 h.2.2.2.2.2.2.2.2.2.2.2.2.1 h.2.2.2.2.2.2.2.2.2.2.2.2.2):=bh _ _
def j2e[LP](g:al)(j d:Int)(q:ByteArray)(e:aH)(f:ae)(l:bu)(x:al):Option ((al×Int×Int×ByteArray×aH×ae×bu×al) ⊕ (al)):=
 cond (decide (d<j)) (
 cond (inR d (List.length g)) (
 let a:=(List.getD g (Int.toNat d) (0,(0,0)))
 cond (decide (a.2.2<0)) (
 let n:=(w64 (d+1))
 some (.inl (g,j,n,q,e,f,l,x))) (
 let z:af:=(gy ([]:af) l a.2.2)
 cond (!(ia l a.2.2)) (
 (j5h (q,(e,f)) a.2.2).bind λt=>
 let m:bu:=(gX l a.2.2 t)
 let v:af:=[(a.1,a.2.1)]
 let r:af:=(gy ([]:af) m a.2.2)
 (j2O v r).bind λi=>
 let u:=(Int.ofNat (List.length i))
 (sS g j d u 0 q e f a.1 a.2.1 a.2.2 m x i).bind λc=>
 let p:=(w64 (c.2.2.1+1))
 some (.inl (c.1,c.2.1,p,c.2.2.2.1,c.2.2.2.2.1,c.2.2.2.2.2.1,c.2.2.2.2.2.2.1,c.2.2.2.2.2.2.2))) (
 let s:af:=[(a.1,a.2.1)]
 let o:af:=(gy ([]:af) l a.2.2)
 (j2O s o).bind λk=>
 let y:=(Int.ofNat (List.length k))
 (sS g j d y 0 q e f a.1 a.2.1 a.2.2 l x k).bind λb=>
 let w:=(w64 (b.2.2.1+1))
 some (.inl (b.1,b.2.1,w,b.2.2.2.1,b.2.2.2.2.1,b.2.2.2.2.2.1,b.2.2.2.2.2.2.1,b.2.2.2.2.2.2.2))))) none) (
 some (.inr x))
def uQ[LP](c:al)(e d:Int)(i:ByteArray)(a:aH)(b:ae)(f:bu)(g:al):Option (al):=
 LP.lp (unc8 (j2e)) (c,e,d,i,a,b,f,g)
theorem Tc(c e d i a b f g):uQ c e d i a b f g=lpK (j2e c e d i a b f g) (λh=>uQ h.1 h.2.1 h.2.2.1 h.2.2.2.1 h.2.2.2.2.1 h.2.2.2.2.2.1 h.2.2.2.2.2.2.1 h.2.2.2.2.2.2.2):=bh _ _
def j5X[LP](a:gT)(b:al):Option (al):=
 let d:bu:=([]:bu)
 let c:=(Int.ofNat (List.length b))
 (uQ b c 0 a.1 a.2.1 a.2.2 d ([]:al)).bind λe=>
 some e
def j6u(b:al)(d:af)(a c:Int)(n:al):Option ((al×af×Int×Int×al) ⊕ (al)):=
 let p:=(Int.ofNat (List.length b))
 let x:=(Int.ofNat (List.length d))
 cond (cond (decide (a<p)) (decide (c<x)) false) (
 cond (inR a (List.length b)) (
 let f:=(List.getD b (Int.toNat a) (0,(0,0)))
 cond (inR c (List.length d)) (
 let l:=(List.getD d (Int.toNat c) (0,0))
 let g:Int:=(if l.1>f.1 then l.1 else f.1:Int)
 cond (inR a (List.length b)) (
 let m:=(List.getD b (Int.toNat a) (0,(0,0)))
 cond (inR c (List.length d)) (
 let e:=(List.getD d (Int.toNat c) (0,0))
 let k:Int:=(if e.2<m.2.1 then e.2 else m.2.1:Int)
 cond (inR a (List.length b)) (
 let s:=(List.getD b (Int.toNat a) (0,(0,0)))
 cond (decide (g<k)) (
 let j:al:=[(g,(k,s.2.2))]
 cond (decide (List.length n+List.length j<=aY)) (
 let i:al:=(n++j)
 cond (inR a (List.length b)) (
 let o:=(List.getD b (Int.toNat a) (0,(0,0)))
 cond (inR c (List.length d)) (
 let q:=(List.getD d (Int.toNat c) (0,0))
 cond (decide (o.2.1<q.2)) (
 let u:=(w64 (a+1))
 some (.inl (b,d,u,c,i))) (
 let r:=(w64 (c+1))
 some (.inl (b,d,a,r,i)))) none) none) none) (
 cond (inR a (List.length b)) (
 let v:=(List.getD b (Int.toNat a) (0,(0,0)))
 cond (inR c (List.length d)) (
 let w:=(List.getD d (Int.toNat c) (0,0))
 cond (decide (v.2.1<w.2)) (
 let t:=(w64 (a+1))
 some (.inl (b,d,t,c,n))) (
 let y:=(w64 (c+1))
 some (.inl (b,d,a,y,n)))) none) none)) none) none) none) none) none) (
 some (.inr n))
def sT[LP](b:al)(d:af)(e c:Int)(a:al):Option (al):=
 LP.lp (unc5 (j6u)) (b,d,e,c,a)
theorem jkC(b d e c a):sT b d e c a=lpK (j6u b d e c a) (λh=>sT h.1 h.2.1 h.2.2.1 h.2.2.2.1 h.2.2.2.2):=bh _ _
def j86[LP](b:al)(a:af):Option (al):=
 (sT b a 0 0 ([]:al)).bind λc=>
 some c
def j5t(g:al)(i c:Int)(f:af):Option ((al×Int×Int×af) ⊕ (af)):=
 cond (decide (c<i)) (
 cond (inR c (List.length g)) (
 let a:=(List.getD g (Int.toNat c) (0,(0,0)))
 let b:af:=[(a.1,a.2.1)]
 cond (decide (List.length f+List.length b<=aY)) (
 let d:af:=(f++b)
 let e:=(w64 (c+1))
 some (.inl (g,i,e,d))) none) none) (
 some (.inr f))
def xB[LP](d:al)(a c:Int)(b:af):Option (af):=
 LP.lp (unc4 (j5t)) (d,a,c,b)
theorem Td(d b a c):xB d b a c=lpK (j5t d b a c) (λh=>xB h.1 h.2.1 h.2.2.1 h.2.2.2):=bh _ _
def j87[LP](a:al):Option (af):=
 let d:=(Int.ofNat (List.length a))
 (xB a d 0 ([]:af)).bind λc=>
 (j6F c).bind λb=>
 some b
def j4d(b a:uK):Option (Int):=
 let c:=(w64 (b.1-a.1))
 some c
def j0P(a:al):Option (al):=
 uJ ((.pair (.int .i64) (.pair (.int .i64) (.int .i64)))) (λc b=>(j4d c b).getD 0) a
def j1n[LP](q:Int)(f:aH)(t:ai)(i:ak)(j:an)(k:ao)(l:bu)(v:ByteArray)(e:aH)(g:ae)(w u:Int)(d:af)(c:al):Option ((Int×aH×ai×ak×an×ao×bu×ByteArray×aH×ae×Int×Int×af×al) ⊕ ((af×al))):=
 cond (decide (q<=0)) (
 some (.inr (d,c))) (
 cond (decide (q<=Int.ofNat (List.length f))) (
 let s:Int:=(q-1)
 let a:=(List.getD f (Int.toNat s) (ByteArray.empty,(0,((0,0),(0,(0,(([]:(List Int)),(([]:af),(0,0)))))))))
 (j1E ((t,(i,(j,k))),l) (a.1,(a.2.1,((a.2.2.1.1,a.2.2.1.2),(a.2.2.2.1,(a.2.2.2.2.1,(a.2.2.2.2.2.1,(a.2.2.2.2.2.2.1,(a.2.2.2.2.2.2.2.1,a.2.2.2.2.2.2.2.2)))))))) w u).bind λr=>
 (j5X (v,(e,g)) r).bind λn=>
 (j86 n d).bind λb=>
 cond (decide (List.length c+List.length b<=aY)) (
 let o:al:=(c++b)
 (j87 b).bind λm=>
 (j2O d m).bind λp=>
 some (.inl ((q-1),f,t,i,j,k,l,v,e,g,w,u,p,o))) none) none)
def xC[LP](n:Int)(j:aH)(k:ai)(g:ak)(b:an)(d:ao)(i:bu)(m:ByteArray)(c:aH)(e:ae)(o l:Int)(f:af)(a:al):Option ((af×al)):=
 LP.lp (jmH (j1n)) (n,j,k,g,b,d,i,m,c,e,o,l,f,a)
theorem Te(n j k g b d i m c e o l f a):xC n j k g b d i m c e o l f a=lpK (j1n n j k g b d i m c e o l f a) (λh=>xC h.1 h.2.1 h.2.2.1 h.2.2.2.1 h.2.2.2.2.1 h.2.2.2.2.2.1 h.2.2.2.2.2.2.1 h.2.2.2.2.2.2.2.1 h.2.2.2.2.2.2.2.2.1 h.2.2.2.2.2.2.2.2.2.1 h.2.2.2.2.2.2.2.2.2.2.1 h.2.2.2.2.2.2.2.2.2.2.2.1 h.2.2.2.2.2.2.2.2.2.2.2.2.1 h.2.2.2.2.2.2.2.2.2.2.2.2.2):=bh _ _
def j3s(i b:Int)(e:af)(a:al):Option ((Int×Int×af×al) ⊕ (al)):=
 cond (decide (b<i)) (
 cond (inR b (List.length e)) (
 let c:=(List.getD e (Int.toNat b) (0,0))
 let d:al:=[(c.1,(c.2,(-1)))]
 cond (decide (List.length a+List.length d<=aY)) (
 let f:al:=(a++d)
 let g:=(w64 (b+1))
 some (.inl (i,g,e,f))) none) none) (
 some (.inr a))
def xD[LP](d b:Int)(c:af)(a:al):Option (al):=
 LP.lp (unc4 (j3s)) (d,b,c,a)
theorem Tf(d b c a):xD d b c a=lpK (j3s d b c a) (λh=>xD h.1 h.2.1 h.2.2.1 h.2.2.2):=bh _ _
def j3c[LP](b:gU)(d:gT)(a c:Int):Option (al):=
 cond (decide (a>=c)) (
 some ([]:al)) (
 let j:af:=[(a,c)]
 (j3i d.2.1).bind λe=>
 (xC (Int.ofNat (List.length e)) e b.1.1 b.1.2.1 b.1.2.2.1 b.1.2.2.2 b.2 d.1 d.2.1 d.2.2 a c j ([]:al)).bind λf=>
 let g:=(Int.ofNat (List.length f.1))
 (xD g 0 f.1 f.2).bind λl=>
 (j0P l).bind λk=>
 (j7H k).bind λi=>
 some i)
def jcS(a:Int):Option (Bool):=
 some (a != a)
def jeD(b a:Int):Option (Bool):=
 (jcS b).bind λc=>
 cond c (
 (jcS a).bind λd=>
 some (cond (!d) true (decide (b<a)))) (
 some (decide (b<a)))
def j9v(a:Int):Option (Bool):=
 some (a != a)
def j2j(b:(List Int))(j m i l:Int):Option (((List Int)×Int×Int×Int×Int) ⊕ (((List Int)×Int×Int×Int))):=
 cond (decide (i<l)) (
 let f:=(w64 (i+l))
 let c:Int:=(IntKind.wrap .u64 f)
 let g:Int:=(Int.fdiv c 2)
 let a:=(w64 g)
 cond (inR a (List.length b)) (
 let d:=(List.getD b (Int.toNat a) 0)
 (jeD d j).bind λk=>
 cond k (
 let e:=(w64 (a+1))
 some (.inl (b,j,m,e,l))) (
 some (.inl (b,j,m,i,a)))) none) (
 some (.inr (b,j,m,i)))
def Ac[LP](b:(List Int))(d e c a:Int):Option (((List Int)×Int×Int×Int)):=
 LP.lp (unc5 (j2j)) (b,d,e,c,a)
theorem ja8(b d e c a):Ac b d e c a=lpK (j2j b d e c a) (λh=>Ac h.1 h.2.1 h.2.2.1 h.2.2.2.1 h.2.2.2.2):=bh _ _
def j1g[LP](c:(List Int))(b:Int):Option (Int×Bool):=
 let e:=(Int.ofNat (List.length c))
 (Ac c b e 0 e).bind λa=>
 cond ((inR a.2.2.2 (List.length a.1)) || !(decide (a.2.2.2<a.2.2.1))) (
 let d:=(List.getD a.1 (Int.toNat a.2.2.2) 0)
 cond ((inR a.2.2.2 (List.length a.1)) || !((decide (a.2.2.2<a.2.2.1))&&(!(d==a.2.1)))) (
 let f:=(List.getD a.1 (Int.toNat a.2.2.2) 0)
 cond (decide (a.2.2.2<a.2.2.1)) (
 cond (d==a.2.1) (
 some (a.2.2.2,true)) (
 (j9v f).bind λi=>
 cond i (
 (j9v a.2.1).bind λg=>
 some (a.2.2.2,g)) (
 some (a.2.2.2,false)))) (
 cond ((d==a.2.1) || !false) (
 some (a.2.2.2,false)) none)) none) none
def jjt(a:kZ)(b:Int):Option (Bool):=
 some (cond (decide (a.2.2.2.1<=b)) (decide (b<a.2.2.2.2)) false)
def j6K(f e:Int)(d:ae)(c b:Int):Option ((Int×Int×ae×Int×Int) ⊕ (Int)):=
 cond (decide (b<c)) (
 cond (inR b (List.length d)) (
 let a:=(List.getD d (Int.toNat b) (0,(0,(0,(0,0)))))
 (jjt (a.1,(a.2.1,(a.2.2.1,(a.2.2.2.1,a.2.2.2.2)))) e).bind λn=>
 cond (cond (!n) true (a.1==0)) (
 let l:=(w64 (b+1))
 some (.inl (f,e,d,c,l))) (
 cond (a.1==1) (
 let k:=(w64 (b+1))
 some (.inl (a.2.1,e,d,c,k))) (
 cond (a.1 != 2) (
 let m:=(w64 (b+1))
 some (.inl (f,e,d,c,m))) (
 cond (f==a.2.1) (
 let j:=(w64 (b+1))
 some (.inl (a.2.2.1,e,d,c,j))) (
 cond (f==a.2.2.1) (
 let i:=(w64 (b+1))
 some (.inl (a.2.1,e,d,c,i))) (
 let g:=(w64 (b+1))
 some (.inl (f,e,d,c,g)))))))) none) (
 some (.inr f))
def xE[LP](d e:Int)(c:ae)(b a:Int):Option (Int):=
 LP.lp (unc5 (j6K)) (d,e,c,b,a)
theorem Tg(d e c b a):xE d e c b a=lpK (j6K d e c b a) (λh=>xE h.1 h.2.1 h.2.2.1 h.2.2.2.1 h.2.2.2.2):=bh _ _
def jdo[LP](b:ae)(a c:Int):Option (Int):=
 let d:=(Int.ofNat (List.length b))
 (xE a c b d 0).bind λe=>
 some e
def j3L(r s:Int)(g:ae)(n c:Int)(q:ai)(j:ak)(d:an)(f:ao)(k:bu)(p:ByteArray)(e:aH)(i:ae)(o:(List Int)):Option ((Int×Int×ae×Int×Int×ai×ak×an×ao×bu×ByteArray×aH×ae×(List Int)) ⊕ ((Int×Int×ai×ak×an×ao×bu×ByteArray×aH×ae×(List Int)))):=
 cond (decide (c<n)) (
 cond (inR c (List.length g)) (
 let a:=(List.getD g (Int.toNat c) (0,(0,(0,(0,0)))))
 let b:(List Int):=[a.2.2.2.1,a.2.2.2.2]
 cond (decide (List.length o+List.length b<=aY)) (
 let l:(List Int):=(o++b)
 let m:=(w64 (c+1))
 some (.inl (r,s,g,n,m,q,j,d,f,k,p,e,i,l))) none) none) (
 some (.inr (r,s,q,j,d,f,k,p,e,i,o)))
def xF[LP](n o:Int)(g:ae)(i j:Int)(l:ai)(e:ak)(a:an)(c:ao)(f:bu)(k:ByteArray)(b:aH)(d:ae)(m:(List Int)):Option ((Int×Int×ai×ak×an×ao×bu×ByteArray×aH×ae×(List Int))):=
 LP.lp (jmH (j3L)) (n,o,g,i,j,l,e,a,c,f,k,b,d,m)
theorem Th(n o g i j l e a c f k b d m):xF n o g i j l e a c f k b d m=lpK (j3L n o g i j l e a c f k b d m) (λh=>xF h.1 h.2.1 h.2.2.1 h.2.2.2.1 h.2.2.2.2.1 h.2.2.2.2.2.1 h.2.2.2.2.2.2.1 h.2.2.2.2.2.2.2.1 h.2.2.2.2.2.2.2.2.1 h.2.2.2.2.2.2.2.2.2.1 h.2.2.2.2.2.2.2.2.2.2.1 h.2.2.2.2.2.2.2.2.2.2.2.1 h.2.2.2.2.2.2.2.2.2.2.2.2.1 h.2.2.2.2.2.2.2.2.2.2.2.2.2):=bh _ _
def j1F[LP](l k p r:Int)(t:ByteArray)(i:aH)(b:ae)(s a c:Int)(g:(List Int))(j q:al):Option ((Int×Int×Int×Int×ByteArray×aH×ae×Int×Int×Int×(List Int)×al×al) ⊕ ((Int×Int×ByteArray×aH×ae×(List Int)×al×al))):=
 cond (decide (k<a)) (
 cond (inR l (List.length g)) (
 let d:=(List.getD g (Int.toNat l) 0)
 let e:Int:=(if d<a then d else a:Int)
 (jdo b c k).bind λn=>
 let f:al:=[(k,(e,n))]
 cond (decide (List.length j+List.length f<=aY)) (
 let o:al:=(j++f)
 let m:=(w64 (l+1))
 some (.inl (m,e,p,r,t,i,b,s,a,c,g,o,q))) none) none) (
 some (.inr (p,r,t,i,b,g,j,q)))
def Ad[LP](i j k g:Int)(n:ByteArray)(c:aH)(d:ae)(f b a:Int)(m:(List Int))(e l:al):Option ((Int×Int×ByteArray×aH×ae×(List Int)×al×al)):=
 LP.lp (jsx (j1F)) (i,j,k,g,n,c,d,f,b,a,m,e,l)
theorem Ti(i j k g n c d f b a m e l):Ad i j k g n c d f b a m e l=lpK (j1F i j k g n c d f b a m e l) (λh=>Ad h.1 h.2.1 h.2.2.1 h.2.2.2.1 h.2.2.2.2.1 h.2.2.2.2.2.1 h.2.2.2.2.2.2.1 h.2.2.2.2.2.2.2.1 h.2.2.2.2.2.2.2.2.1 h.2.2.2.2.2.2.2.2.2.1 h.2.2.2.2.2.2.2.2.2.2.1 h.2.2.2.2.2.2.2.2.2.2.2.1 h.2.2.2.2.2.2.2.2.2.2.2.2):=bh _ _
def j1G[LP](j c:Int)(n:ByteArray)(l:aH)(m:ae)(k:(List Int))(i d:al):Option ((Int×Int×ByteArray×aH×ae×(List Int)×al×al) ⊕ (al)):=
 cond (decide (c<j)) (
 cond (inR c (List.length d)) (
 let b:=(List.getD d (Int.toNat c) (0,(0,0)))
 let f:=(w64 (b.1+1))
 (j1g k f).bind λe=>
 (Ad e.1 b.1 j c n l m b.1 b.2.1 b.2.2 k i d).bind λa=>
 let g:=(w64 (a.2.1+1))
 some (.inl (a.1,g,a.2.2.1,a.2.2.2.1,a.2.2.2.2.1,a.2.2.2.2.2.1,a.2.2.2.2.2.2.1,a.2.2.2.2.2.2.2))) none) (
 some (.inr i))
def xG[LP](e d:Int)(i:ByteArray)(a:aH)(b:ae)(g:(List Int))(c f:al):Option (al):=
 LP.lp (unc8 (j1G)) (e,d,i,a,b,g,c,f)
theorem Tj(e d i a b g c f):xG e d i a b g c f=lpK (j1G e d i a b g c f) (λh=>xG h.1 h.2.1 h.2.2.1 h.2.2.2.1 h.2.2.2.2.1 h.2.2.2.2.2.1 h.2.2.2.2.2.2.1 h.2.2.2.2.2.2.2):=bh _ _
def j2S[LP](c:gU)(b:gT)(d e:Int):Option (al):=
 let i:=(Int.ofNat (List.length b.2.2))
 (xF d e b.2.2 i 0 c.1.1 c.1.2.1 c.1.2.2.1 c.1.2.2.2 c.2 b.1 b.2.1 b.2.2 ([]:(List Int))).bind λa=>
 (jdk a.2.2.2.2.2.2.2.2.2.2 a.1 a.2.1).bind λg=>
 (j3c ((a.2.2.1,(a.2.2.2.1,(a.2.2.2.2.1,a.2.2.2.2.2.1))),a.2.2.2.2.2.2.1) (a.2.2.2.2.2.2.2.1,(a.2.2.2.2.2.2.2.2.1,a.2.2.2.2.2.2.2.2.2.1)) a.1 a.2.1).bind λf=>
 let k:=(Int.ofNat (List.length f))
 (xG k 0 a.2.2.2.2.2.2.2.1 a.2.2.2.2.2.2.2.2.1 a.2.2.2.2.2.2.2.2.2.1 g ([]:al) f).bind λl=>
 (j7H l).bind λj=>
 some j
def jcM(p m l b:Int)(o:ai)(g:ak)(c:an)(e:ao)(i:bu)(n:ByteArray)(d:aH)(f:ae)(j:al):Option ((Int×Int×Int×Int×ai×ak×an×ao×bu×ByteArray×aH×ae×al) ⊕ ((Int×Bool) ⊕ (Int×Int×ai×ak×an×ao×bu×ByteArray×aH×ae))):=
 cond (decide (b<l)) (
 cond (inR b (List.length j)) (
 let a:=(List.getD j (Int.toNat b) (0,(0,0)))
 cond (decide (a.2.2<0)) (
 some (.inr (.inl (a.1,true)))) (
 let k:=(w64 (b+1))
 some (.inl (p,m,l,k,o,g,c,e,i,n,d,f,j)))) none) (
 some (.inr (.inr (p,m,o,g,c,e,i,n,d,f))))
def Km[LP](n i g j:Int)(m:ai)(e:ak)(a:an)(c:ao)(f:bu)(l:ByteArray)(b:aH)(d:ae)(k:al):Option ((Int×Bool) ⊕ (Int×Int×ai×ak×an×ao×bu×ByteArray×aH×ae)):=
 LP.lp (jsx (jcM)) (n,i,g,j,m,e,a,c,f,l,b,d,k)
def j52[LP](p l:Int)(r:ai)(k:ak)(e:an)(g:ao)(j:bu)(q:ByteArray)(f:aH)(i:ae):Option ((Int×Int×ai×ak×an×ao×bu×ByteArray×aH×ae) ⊕ ((Int×Bool) ⊕ Unit)):=
 cond (decide (p<l)) (
 let d:=(w64 (p+4320000))
 let b:Int:=(if d<l then d else l:Int)
 (j2S ((r,(k,(e,g))),j) (q,(f,i)) p b).bind λc=>
 let m:=(Int.ofNat (List.length c))
 (Km l b m 0 r k e g j q f i c).bind λo=>
 sumC o (λn=>
 some (.inr (.inl (n.1,n.2)))) (λa=>
 some (.inl (a.2.1,a.1,a.2.2.1,a.2.2.2.1,a.2.2.2.2.1,a.2.2.2.2.2.1,a.2.2.2.2.2.2.1,a.2.2.2.2.2.2.2.1,a.2.2.2.2.2.2.2.2.1,a.2.2.2.2.2.2.2.2.2)))) (
 some (.inr (.inr ())))
def Kn[LP](k j:Int)(i:ai)(f:ak)(a:an)(c:ao)(e:bu)(g:ByteArray)(b:aH)(d:ae):Option ((Int×Bool) ⊕ Unit):=
 LP.lp (jkB (j52)) (k,j,i,f,a,c,e,g,b,d)
def jbL[LP](a:gU)(b:gT)(c d:Int):Option (Int×Bool):=
 (Kn c d a.1.1 a.1.2.1 a.1.2.2.1 a.1.2.2.2 a.2 b.1 b.2.1 b.2.2).bind λe=>
 sumC e (λf=>
 some (f.1,f.2)) (λg=>
 some (0,false))
def j5O[LP](d:ca)(a b:Int):Option (Int×Bool×Int):=
 (jbb (d.1,(d.2.1,(d.2.2.1,d.2.2.2))) a b b).bind λc=>
 cond (c.2 != 0) (
 some (0,false,c.2)) (
 cond (inR a (List.length d.2.2.2)) (
 let e:=(List.getD d.2.2.2 (Int.toNat a) (ByteArray.empty,(([]:aH),([]:ae))))
 (j5L ((c.1.1.1,(c.1.1.2.1,(c.1.1.2.2.1,c.1.1.2.2.2))),c.1.2) (e.1,(e.2.1,e.2.2))).bind λf=>
 let k:Int:=(if f>b then f else b:Int)
 let g:=(w64 (k+604800))
 let j:Int:=(if 8589934592<g then 8589934592 else g:Int)
 (jbL ((c.1.1.1,(c.1.1.2.1,(c.1.1.2.2.1,c.1.1.2.2.2))),c.1.2) (e.1,(e.2.1,e.2.2)) b j).bind λi=>
 some (i.1,(!i.2),0)) none)
def j89[LP](b:ca)(a d e:Int):Option (al×Int):=
 (jbb (b.1,(b.2.1,(b.2.2.1,b.2.2.2))) a d e).bind λc=>
 cond (c.2 != 0) (
 some (([]:al),c.2)) (
 cond (inR a (List.length b.2.2.2)) (
 let f:=(List.getD b.2.2.2 (Int.toNat a) (ByteArray.empty,(([]:aH),([]:ae))))
 (j2S ((c.1.1.1,(c.1.1.2.1,(c.1.1.2.2.1,c.1.1.2.2.2))),c.1.2) (f.1,(f.2.1,f.2.2)) d e).bind λg=>
 let i:=(Int.ofNat (List.length g))
 cond (decide (i>16384)) (
 some (([]:al),5)) (
 some (g,0))) none)
def jaV(k:Int)(e:al)(j b:Int)(d:af):Option ((Int×al×Int×Int×af) ⊕ (af)):=
 cond (decide (b<j)) (
 cond (inR b (List.length e)) (
 let a:=(List.getD e (Int.toNat b) (0,(0,0)))
 cond (a.2.2==k) (
 let c:af:=[(a.1,a.2.1)]
 cond (decide (List.length d+List.length c<=aY)) (
 let f:af:=(d++c)
 let g:=(w64 (b+1))
 some (.inl (k,e,j,g,f))) none) (
 let i:=(w64 (b+1))
 some (.inl (k,e,j,i,d)))) none) (
 some (.inr d))
def Ko[LP](e:Int)(c:al)(d a:Int)(b:af):Option (af):=
 LP.lp (unc5 (jaV)) (e,c,d,a,b)
def j9h[LP](b:al)(a:Int):Option (af):=
 let d:=(Int.ofNat (List.length b))
 (Ko a b d 0 ([]:af)).bind λe=>
 (j6F e).bind λc=>
 some c
def jbM[LP](b:ca)(a c d f:Int):Option (af×Int):=
 (j89 (b.1,(b.2.1,(b.2.2.1,b.2.2.2))) a d f).bind λe=>
 cond (e.2 != 0) (
 some (([]:af),e.2)) (
 (j9h e.1 c).bind λg=>
 let i:=(Int.ofNat (List.length g))
 cond (decide (i>4096)) (
 some (([]:af),5)) (
 some (g,0)))
def j8C[LP](b:ca)(a c d:Int):Option (af×Int):=
 (jbM (b.1,(b.2.1,(b.2.2.1,b.2.2.2))) a (-1) c d).bind λe=>
 some (e.1,e.2)
def j7m[LP](b:ca)(a c d:Int):Option (Bool):=
 (j8C (b.1,(b.2.1,(b.2.2.1,b.2.2.2))) a c d).bind λe=>
 let f:=(Int.ofNat (List.length e.1))
 some (cond (e.2==0) (f==0) false)
def j7n[LP](a:ca)(b:Int):Option (Int):=
 (jg0 (a.1,(a.2.1,(a.2.2.1,a.2.2.2)))).bind λc=>
 cond (!c.2) (
 some 0) (
 (jjr (a.1,(a.2.1,(a.2.2.1,a.2.2.2))) b).bind λf=>
 cond (!f) (
 some 0) (
 cond (inR b (List.length a.2.2.2)) (
 let d:=(List.getD a.2.2.2 (Int.toNat b) (ByteArray.empty,(([]:aH),([]:ae))))
 (j5L ((c.1.1.1,(c.1.1.2.1,(c.1.1.2.2.1,c.1.1.2.2.2))),c.1.2) (d.1,(d.2.1,d.2.2))).bind λe=>
 some e) none))
def jbf[LP]  : Option (Bool):=
 (jlS false).bind λa=>
 (jlS true).bind λb=>
 (j5O (a.1,(a.2.1,(a.2.2.1,a.2.2.2))) 0 950400).bind λd=>
 (j5O (b.1,(b.2.1,(b.2.2.1,b.2.2.2))) 0 950400).bind λf=>
 (j8C (a.1,(a.2.1,(a.2.2.1,a.2.2.2))) 0 345600 950400).bind λc=>
 let i:Bool:=(cond (cond (d.2.2==0) (f.2.2==0) false) (c.2==0) false)
 let j:=(Int.ofNat (List.length c.1))
 let g:Bool:=(cond (cond (cond (cond i (!d.2.1) false) f.2.1 false) (d.1==1382400) false) (j==1) false)
 cond ((inR 0 (List.length c.1)) || !g) (
 let e:=(List.getD c.1 0 (0,0))
 cond (cond g ((e.1==777600)&&(e.2==950400)) false) (
 (j7m (b.1,(b.2.1,(b.2.2.1,b.2.2.2))) 0 345600 2592000).bind λl=>
 cond l (
 (j7n (a.1,(a.2.1,(a.2.2.1,a.2.2.2))) 0).bind λk=>
 some (k==345600)) (
 some false)) (
 some false)) none
def jo5(a:(List Int)):Option ((List Int)×Int):=
 some (a,0)
def j06(b:(List Int))(a c:Int):Option (Int×(List Int)×Int):=
 let f:=(Int.ofNat (List.length b))
 cond (decide (a>=f)) (
 some (0,b,a)) (
 cond (decide (c<1)) (
 some (0,b,a)) (
 cond (inR a (List.length b)) (
 let g:=(List.getD b (Int.toNat a) 0)
 cond (!(c==0)) (
 let d:=(Int.tmod g c)
 let e:=(w64 (a+1))
 cond (decide (d<0)) (
 let i:=(w64 (d+c))
 some (i,b,e)) (
 some (d,b,e))) none) none))
def j1P(d:(List Int))(b:Int)(a:(List Int)):Option (Int×(List Int)×Int):=
 let f:=(Int.ofNat (List.length a))
 (j06 d b f).bind λc=>
 cond (inR c.1 (List.length a)) (
 let e:=(List.getD a (Int.toNat c.1) 0)
 some (e,c.2.1,c.2.2)) none
def j5i(a0:(List Int))(i:Int)(a:ByteArray):Option (dG×(List Int)×Int):=
 let b6:(List Int):=[0,4,(-20),22,48,(-47)]
 (j1P a0 i b6).bind λx=>
 (j06 x.2.1 x.2.2 2).bind λu=>
 (j06 u.2.1 u.2.2 3).bind λp=>
 let b4:=(w64 (u.1*p.1))
 let a9:=(w64 (x.1+b4))
 let c:=(w64 (900*a9))
 (j06 p.2.1 p.2.2 2).bind λj=>
 let g:=(w64 (2025+j.1))
 (j06 j.2.1 j.2.2 4).bind λb=>
 cond (b.1==1) (
 let a4:=(w64 (c+3600))
 let a3:bf:=[(2025,(g,(3,(5,(6,(7200,a4)))))),(2025,(g,(10,(5,(6,(10800,c))))))]
 some ((a,(c,a3)),b.2.1,b.2.2)) (
 cond (b.1==2) (
 (j06 b.2.1 b.2.2 4).bind λs=>
 let b2:=(w64 (1+s.1))
 (j06 s.2.1 s.2.2 7).bind λl=>
 (j06 l.2.1 l.2.2 24).bind λt=>
 let b5:=(w64 (3600*t.1))
 (j06 t.2.1 t.2.2 8).bind λq=>
 let a1:=(w64 (1+q.1))
 let a7:=(w64 (1800*a1))
 let b7:=(w64 (c+a7))
 (j06 q.2.1 q.2.2 2).bind λm=>
 let a5:=(w64 (2+m.1))
 let b3:(List Int):=[2,3,5]
 (j1P m.2.1 m.2.2 b3).bind λv=>
 (j06 v.2.1 v.2.2 7).bind λw=>
 (j06 w.2.1 w.2.2 24).bind λk=>
 let a8:=(w64 (3600*k.1))
 let b0:bf:=[(2025,(g,(1,(b2,(l.1,(b5,b7)))))),(2025,(g,(a5,(v.1,(w.1,(a8,c))))))]
 some ((a,(c,b0)),k.2.1,k.2.2)) (
 cond (b.1==3) (
 let a2:(List Int):=[3600,(-3600),82800,(-82800),43200]
 (j1P b.2.1 b.2.2 a2).bind λf=>
 let n:=(w64 (c+f.1))
 cond (cond (decide (n>64800)) true (decide (n<(-64800)))) (
 (j06 f.2.1 f.2.2 7).bind λo=>
 (j06 o.2.1 o.2.2 48).bind λr=>
 let b1:=(w64 (1800*r.1))
 let a6:bf:=[(2026,(2026,(1,(2,(o.1,(b1,0))))))]
 some ((a,(c,a6)),r.2.1,r.2.2)) (
 (j06 f.2.1 f.2.2 7).bind λd=>
 (j06 d.2.1 d.2.2 48).bind λe=>
 let y:=(w64 (1800*e.1))
 let z:bf:=[(2026,(2026,(1,(2,(d.1,(y,n))))))]
 some ((a,(c,z)),e.2.1,e.2.2))) (
 some ((a,(c,([]:bf))),b.2.1,b.2.2))))
def jiv  : Option ((List ByteArray)):=
 let a:(List ByteArray):=[(ByteArray.mk #[97,100,97]),(ByteArray.mk #[98,111,98]),(ByteArray.mk #[99,108,101,111]),(ByteArray.mk #[100,97,110]),(ByteArray.mk #[101,118,101]),(ByteArray.mk #[102,97,121]),(ByteArray.mk #[103,117,115]),(ByteArray.mk #[104,97,108])]
 some a
def j1s(d:(List Int))(a b:Int):Option (Bool×(List Int)×Int):=
 (j06 d a b).bind λc=>
 let e:=(w64 (b-1))
 some ((c.1==e),c.2.1,c.2.2)
def j37(r q:Int)(p:(List Int))(g:Int)(n:af):Option ((Int×Int×(List Int)×Int×af) ⊕ (((List Int)×Int×af))):=
 cond (decide (q>0)) (
 (j06 p g 30).bind λc=>
 let j:=(w64 (3600*c.1))
 let l:=(w64 (r+j))
 (j06 c.2.1 c.2.2 2).bind λd=>
 let m:=(w64 (60*d.1))
 let e:=(w64 (l+m))
 let i:(List Int):=[3600,28800,43200,86400,61,1]
 (j1P d.2.1 d.2.2 i).bind λa=>
 let b:=(w64 (e+a.1))
 cond (decide (b>604800)) (
 some (.inr (a.2.1,a.2.2,n))) (
 let f:af:=[(e,b)]
 cond (decide (List.length n+List.length f<=aY)) (
 let o:af:=(n++f)
 let k:=(w64 (q-1))
 some (.inl (b,k,a.2.1,a.2.2,o))) none)) (
 some (.inr (p,g,n)))
def FW[LP](e c:Int)(b:(List Int))(a:Int)(d:af):Option (((List Int)×Int×af)):=
 LP.lp (unc5 (j37)) (e,c,b,a,d)
theorem Tk(e c b a d):FW e c b a d=lpK (j37 e c b a d) (λh=>FW h.1 h.2.1 h.2.2.1 h.2.2.2.1 h.2.2.2.2):=bh _ _
def j5n[LP](b:(List Int))(a:Int):Option (af×(List Int)×Int):=
 (j06 b a 4).bind λd=>
 (FW 0 d.1 d.2.1 d.2.2 ([]:af)).bind λc=>
 some (c.2.2,c.1,c.2.1)
def j3O(l:Int)(k:(List Int))(f:Int)(b:ai):Option ((Int×(List Int)×Int×ai) ⊕ (((List Int)×Int×ai))):=
 cond (decide (l>0)) (
 let e:(List ByteArray):=[(ByteArray.mk #[104,101,114,101]),(ByteArray.mk #[116,104,101,114,101])]
 let c:=(Int.ofNat (List.length b))
 cond (inR c (List.length e)) (
 let j:=(List.getD e (Int.toNat c) ByteArray.empty)
 (j5i k f j).bind λa=>
 let d:ai:=[(a.1.1,(a.1.2.1,a.1.2.2))]
 cond (decide (List.length b+List.length d<=aY)) (
 let g:ai:=(b++d)
 let i:=(w64 (l-1))
 some (.inl (i,a.2.1,a.2.2,g))) none) none) (
 some (.inr (k,f,b)))
def FX[LP](d:Int)(c:(List Int))(a:Int)(b:ai):Option (((List Int)×Int×ai)):=
 LP.lp (unc4 (j3O)) (d,c,a,b)
theorem Tl(d c b a):FX d c b a=lpK (j3O d c b a) (λh=>FX h.1 h.2.1 h.2.2.1 h.2.2.2):=bh _ _
def j3P[LP](a4:Int)(a5:(List Int))(q:Int)(g:ai)(b:ak):Option ((Int×(List Int)×Int×ai×ak) ⊕ (((List Int)×Int×ai×ak))):=
 cond (decide (a4>0)) (
 (jiv).bind λo=>
 let n:=(Int.ofNat (List.length b))
 cond (inR n (List.length o)) (
 let m:=(List.getD o (Int.toNat n) ByteArray.empty)
 let r:=(Int.ofNat (List.length g))
 (j06 a5 q r).bind λc=>
 (j1s c.2.1 c.2.2 3).bind λd=>
 (j1s d.2.1 d.2.2 2).bind λa=>
 cond a.1 (
 (j5n a.2.1 a.2.2).bind λi=>
 let s:(List Int):=[0,40,100,12]
 (j1P i.2.1 i.2.2 s).bind λf=>
 let a0:=(w64 (3600*f.1))
 let w:(List Int):=[0,11,24,1]
 (j1P f.2.1 f.2.2 w).bind λj=>
 let u:=(w64 (3600*j.1))
 let l:ak:=[(m,(c.1,(i.1,(a0,(u,d.1)))))]
 cond (decide (List.length b+List.length l<=aY)) (
 let t:ak:=(b++l)
 let z:=(w64 (a4-1))
 some (.inl (z,j.2.1,j.2.2,g,t))) none) (
 let v:(List Int):=[0,40,100,12]
 (j1P a.2.1 a.2.2 v).bind λk=>
 let y:=(w64 (3600*k.1))
 let a2:(List Int):=[0,11,24,1]
 (j1P k.2.1 k.2.2 a2).bind λe=>
 let x:=(w64 (3600*e.1))
 let p:ak:=[(m,(c.1,(([]:af),(y,(x,d.1)))))]
 cond (decide (List.length b+List.length p<=aY)) (
 let a1:ak:=(b++p)
 let a3:=(w64 (a4-1))
 some (.inl (a3,e.2.1,e.2.2,g,a1))) none)) none) (
 some (.inr (a5,q,g,b)))
def FY[LP](e:Int)(d:(List Int))(b:Int)(a:ai)(c:ak):Option (((List Int)×Int×ai×ak)):=
 LP.lp (unc5 (j3P)) (e,d,b,a,c)
theorem Tm(e d b a c):FY e d b a c=lpK (j3P e d b a c) (λh=>FY h.1 h.2.1 h.2.2.1 h.2.2.2.1 h.2.2.2.2):=bh _ _
def j3Q(q n p:Int)(m:(List Int))(e:Int)(o:ByteArray)(g:Int)(d:ai)(j:ak)(i:an)(c:(List Int)):Option ((Int×Int×Int×(List Int)×Int×ByteArray×Int×ai×ak×an×(List Int)) ⊕ ((Int×(List Int)×Int×ByteArray×Int×ai×ak×an×(List Int)))):=
 cond (decide (n>0)) (
 (j06 m e 6).bind λb=>
 let k:=(w64 (1+b.1))
 let a:=(w64 (p+k))
 cond (decide (List.length c+List.length [a]<=aY)) (
 let f:(List Int):=(c++[a])
 let l:=(w64 (n-1))
 some (.inl (q,l,a,b.2.1,b.2.2,o,g,d,j,i,f))) none) (
 some (.inr (q,m,e,o,g,d,j,i,c)))
def FZ[LP](l j g:Int)(i:(List Int))(b:Int)(k:ByteArray)(d:Int)(a:ai)(f:ak)(e:an)(c:(List Int)):Option ((Int×(List Int)×Int×ByteArray×Int×ai×ak×an×(List Int))):=
 LP.lp (jsw (j3Q)) (l,j,g,i,b,k,d,a,f,e,c)
theorem Tn(l j g i b k d a f e c):FZ l j g i b k d a f e c=lpK (j3Q l j g i b k d a f e c) (λh=>FZ h.1 h.2.1 h.2.2.1 h.2.2.2.1 h.2.2.2.2.1 h.2.2.2.2.2.1 h.2.2.2.2.2.2.1 h.2.2.2.2.2.2.2.1 h.2.2.2.2.2.2.2.2.1 h.2.2.2.2.2.2.2.2.2.1 h.2.2.2.2.2.2.2.2.2.2):=bh _ _
def j2Y[LP](n:Int)(m:(List Int))(f:Int)(e:ai)(i:ak)(g:an):Option ((Int×(List Int)×Int×ai×ak×an) ⊕ (((List Int)×Int×ai×ak×an))):=
 cond (decide (n>0)) (
 let l:=(Int.ofNat (List.length e))
 (j06 m f l).bind λc=>
 (j06 c.2.1 c.2.2 4).bind λb=>
 (FZ n b.1 20454 b.2.1 b.2.2 (ByteArray.mk #[100,97,121,115]) c.1 e i g ([]:(List Int))).bind λa=>
 let d:an:=[(a.2.2.2.1,(a.2.2.2.2.1,a.2.2.2.2.2.2.2.2))]
 cond (decide (List.length a.2.2.2.2.2.2.2.1+List.length d<=aY)) (
 let j:an:=(a.2.2.2.2.2.2.2.1++d)
 let k:=(w64 (a.1-1))
 some (.inl (k,a.2.1,a.2.2.1,a.2.2.2.2.2.1,a.2.2.2.2.2.2.1,j))) none) (
 some (.inr (m,f,e,i,g)))
def F0[LP](f:Int)(e:(List Int))(b:Int)(a:ai)(d:ak)(c:an):Option (((List Int)×Int×ai×ak×an)):=
 LP.lp (unc6 (j2Y)) (f,e,b,a,d,c)
theorem Kp(f e b a d c):F0 f e b a d c=lpK (j2Y f e b a d c) (λh=>F0 h.1 h.2.1 h.2.2.1 h.2.2.2.1 h.2.2.2.2.1 h.2.2.2.2.2):=bh _ _
def jaa[LP](g:(List Int))(a:Int):Option (ca×(List Int)×Int):=
 (j06 g a 2).bind λd=>
 let k:=(w64 (1+d.1))
 (FX k d.2.1 d.2.2 ([]:ai)).bind λi=>
 (j06 i.1 i.2.1 4).bind λc=>
 let j:=(w64 (1+c.1))
 (FY j c.2.1 c.2.2 i.2.2 ([]:ak)).bind λf=>
 (j06 f.1 f.2.1 2).bind λe=>
 (F0 e.1 e.2.1 e.2.2 f.2.2.1 f.2.2.2 ([]:an)).bind λb=>
 some ((b.2.2.1,(b.2.2.2.1,(b.2.2.2.2,([]:ao)))),b.1,b.2.1)
def j3R(y:Int)(a1:(List Int))(n:Int)(z:ai)(c:ak)(s:an)(t:ao)(a2:ByteArray)(e l p f g d m:Int)(a0:ByteArray)(j u o k r q i:Int)(b:(List Int)):Option ((Int×(List Int)×Int×ai×ak×an×ao×ByteArray×Int×Int×Int×Int×Int×Int×Int×ByteArray×Int×Int×Int×Int×Int×Int×Int×(List Int)) ⊕ (((List Int)×Int×ai×ak×an×ao×ByteArray×Int×Int×Int×Int×Int×Int×Int×ByteArray×Int×Int×Int×Int×Int×Int×Int×(List Int)))):=
 cond (decide (y>0)) (
 let x:=(Int.ofNat (List.length c))
 (j06 a1 n x).bind λa=>
 cond (decide (List.length b+List.length [a.1]<=aY)) (
 let w:(List Int):=(b++[a.1])
 let v:=(w64 (y-1))
 some (.inl (v,a.2.1,a.2.2,z,c,s,t,a2,e,l,p,f,g,d,m,a0,j,u,o,k,r,q,i,w))) none) (
 some (.inr (a1,n,z,c,s,t,a2,e,l,p,f,g,d,m,a0,j,u,o,k,r,q,i,b)))
def CR[LP](u:Int)(x:(List Int))(m:Int)(v:ai)(j:ak)(r:an)(s:ao)(y:ByteArray)(b k o c d a l:Int)(w:ByteArray)(g t n i q p f:Int)(e:(List Int)):Option (((List Int)×Int×ai×ak×an×ao×ByteArray×Int×Int×Int×Int×Int×Int×Int×ByteArray×Int×Int×Int×Int×Int×Int×Int×(List Int))):=
 LP.lp (jDp (j3R)) (u,x,m,v,j,r,s,y,b,k,o,c,d,a,l,w,g,t,n,i,q,p,f,e)
theorem To(u x m v j r s y b k o c d a l w g t n i q p f e):CR u x m v j r s y b k o c d a l w g t n i q p f e=lpK (j3R u x m v j r s y b k o c d a l w g t n i q p f e) (λh=>CR h.1 h.2.1 h.2.2.1 h.2.2.2.1 h.2.2.2.2.1 h.2.2.2.2.2.1 h.2.2.2.2.2.2.1 h.2.2.2.2.2.2.2.1 h.2.2.2.2.2.2.2.2.1 h.2.2.2.2.2.2.2.2.2.1 h.2.2.2.2.2.2.2.2.2.2.1 h.2.2.2.2.2.2.2.2.2.2.2.1 h.2.2.2.2.2.2.2.2.2.2.2.2.1 h.2.2.2.2.2.2.2.2.2.2.2.2.2.1 h.2.2.2.2.2.2.2.2.2.2.2.2.2.2.1 h.2.2.2.2.2.2.2.2.2.2.2.2.2.2.2.1 h.2.2.2.2.2.2.2.2.2.2.2.2.2.2.2.2.1 h.2.2.2.2.2.2.2.2.2.2.2.2.2.2.2.2.2.1 h.2.2.2.2.2.2.2.2.2.2.2.2.2.2.2.2.2.2.1 h.2.2.2.2.2.2.2.2.2.2.2.2.2.2.2.2.2.2.2.1 h.2.2.2.2.2.2.2.2.2.2.2.2.2.2.2.2.2.2.2.2.1 h.2.2.2.2.2.2.2.2.2.2.2.2.2.2.2.2.2.2.2.2.2.1 h.2.2.2.2.2.2.2.2.2.2.2.2.2.2.2.2.2.2.2.2.2.2.1 h.2.2.2.2.2.2.2.2.2.2.2.2.2.2.2.2.2.2.2.2.2.2.2):=bh _ _
def jab[LP](b5:(List Int))(y:Int)(c:ca)(j:ByteArray):Option (eP×(List Int)×Int):=
 let b7:=(Int.ofNat (List.length c.1))
 (j06 b5 y b7).bind λx=>
 (j06 x.2.1 x.2.2 6).bind λa3=>
 let c0:=(w64 (20454+a3.1))
 let b4:=(w64 (c0-2))
 let c4:(List Int):=[0,32400,7200,9000,79200,1]
 (j1P a3.2.1 a3.2.2 c4).bind λv=>
 (j06 v.2.1 v.2.2 3).bind λr=>
 (j06 r.2.1 r.2.2 2).bind λu=>
 let c2:=(w64 (1+u.1))
 cond (r.1==0) (
 let b6:(List Int):=[6,8,12,24,23,49]
 (j1P u.2.1 u.2.2 b6).bind λa2=>
 (j06 a2.2.1 a2.2.2 3).bind λz=>
 let b8:=(w64 (1+z.1))
 (CR b8 z.2.1 z.2.2 c.1 c.2.1 c.2.2.1 c.2.2.2 ByteArray.empty 0 0 0 0 0 0 0 j x.1 b4 v.1 r.1 a2.1 0 0 ([]:(List Int))).bind λb=>
 (j1s b.1 b.2.1 2).bind λt=>
 cond t.1 (
 (j5n t.2.1 t.2.2).bind λw=>
 (j1s w.2.1 w.2.2 4).bind λs=>
 let b9:=(Int.ofNat (List.length b.2.2.2.2.1))
 cond (cond s.1 (decide (b9>0)) false) (
 let c1:=(Int.ofNat (List.length b.2.2.2.2.1))
 (j06 s.2.1 s.2.2 c1).bind λa1=>
 (j06 a1.2.1 a1.2.2 2).bind λa0=>
 let c3:=(w64 (1+a0.1))
 some ((b.2.2.2.2.2.2.2.2.2.2.2.2.2.2.1,(b.2.2.2.2.2.2.2.2.2.2.2.2.2.2.2.1,((b.2.2.2.2.2.2.2.2.2.2.2.2.2.2.2.2.1,b.2.2.2.2.2.2.2.2.2.2.2.2.2.2.2.2.2.1),(b.2.2.2.2.2.2.2.2.2.2.2.2.2.2.2.2.2.2.1,(b.2.2.2.2.2.2.2.2.2.2.2.2.2.2.2.2.2.2.2.1,(b.2.2.2.2.2.2.2.2.2.2.2.2.2.2.2.2.2.2.2.2.2.2,(w.1,(a1.1,c3)))))))),a0.2.1,a0.2.2)) (
 some ((b.2.2.2.2.2.2.2.2.2.2.2.2.2.2.1,(b.2.2.2.2.2.2.2.2.2.2.2.2.2.2.2.1,((b.2.2.2.2.2.2.2.2.2.2.2.2.2.2.2.2.1,b.2.2.2.2.2.2.2.2.2.2.2.2.2.2.2.2.2.1),(b.2.2.2.2.2.2.2.2.2.2.2.2.2.2.2.2.2.2.1,(b.2.2.2.2.2.2.2.2.2.2.2.2.2.2.2.2.2.2.2.1,(b.2.2.2.2.2.2.2.2.2.2.2.2.2.2.2.2.2.2.2.2.2.2,(w.1,(b.2.2.2.2.2.2.2.2.2.2.2.2.2.2.2.2.2.2.2.2.1,b.2.2.2.2.2.2.2.2.2.2.2.2.2.2.2.2.2.2.2.2.2.1)))))))),s.2.1,s.2.2))) (
 (j1s t.2.1 t.2.2 4).bind λg=>
 let b1:=(Int.ofNat (List.length b.2.2.2.2.1))
 cond (cond g.1 (decide (b1>0)) false) (
 let a7:=(Int.ofNat (List.length b.2.2.2.2.1))
 (j06 g.2.1 g.2.2 a7).bind λk=>
 (j06 k.2.1 k.2.2 2).bind λn=>
 let a5:=(w64 (1+n.1))
 some ((b.2.2.2.2.2.2.2.2.2.2.2.2.2.2.1,(b.2.2.2.2.2.2.2.2.2.2.2.2.2.2.2.1,((b.2.2.2.2.2.2.2.2.2.2.2.2.2.2.2.2.1,b.2.2.2.2.2.2.2.2.2.2.2.2.2.2.2.2.2.1),(b.2.2.2.2.2.2.2.2.2.2.2.2.2.2.2.2.2.2.1,(b.2.2.2.2.2.2.2.2.2.2.2.2.2.2.2.2.2.2.2.1,(b.2.2.2.2.2.2.2.2.2.2.2.2.2.2.2.2.2.2.2.2.2.2,(([]:af),(k.1,a5)))))))),n.2.1,n.2.2)) (
 some ((b.2.2.2.2.2.2.2.2.2.2.2.2.2.2.1,(b.2.2.2.2.2.2.2.2.2.2.2.2.2.2.2.1,((b.2.2.2.2.2.2.2.2.2.2.2.2.2.2.2.2.1,b.2.2.2.2.2.2.2.2.2.2.2.2.2.2.2.2.2.1),(b.2.2.2.2.2.2.2.2.2.2.2.2.2.2.2.2.2.2.1,(b.2.2.2.2.2.2.2.2.2.2.2.2.2.2.2.2.2.2.2.1,(b.2.2.2.2.2.2.2.2.2.2.2.2.2.2.2.2.2.2.2.2.2.2,(([]:af),(b.2.2.2.2.2.2.2.2.2.2.2.2.2.2.2.2.2.2.2.2.1,b.2.2.2.2.2.2.2.2.2.2.2.2.2.2.2.2.2.2.2.2.2.1)))))))),g.2.1,g.2.2)))) (
 (j06 u.2.1 u.2.2 3).bind λq=>
 let b2:=(w64 (1+q.1))
 (CR b2 q.2.1 q.2.2 c.1 c.2.1 c.2.2.1 c.2.2.2 ByteArray.empty 0 0 0 0 0 0 0 j x.1 b4 v.1 r.1 c2 0 0 ([]:(List Int))).bind λa=>
 (j1s a.1 a.2.1 2).bind λd=>
 cond d.1 (
 (j5n d.2.1 d.2.2).bind λi=>
 (j1s i.2.1 i.2.2 4).bind λf=>
 let a6:=(Int.ofNat (List.length a.2.2.2.2.1))
 cond (cond f.1 (decide (a6>0)) false) (
 let b0:=(Int.ofNat (List.length a.2.2.2.2.1))
 (j06 f.2.1 f.2.2 b0).bind λm=>
 (j06 m.2.1 m.2.2 2).bind λo=>
 let b3:=(w64 (1+o.1))
 some ((a.2.2.2.2.2.2.2.2.2.2.2.2.2.2.1,(a.2.2.2.2.2.2.2.2.2.2.2.2.2.2.2.1,((a.2.2.2.2.2.2.2.2.2.2.2.2.2.2.2.2.1,a.2.2.2.2.2.2.2.2.2.2.2.2.2.2.2.2.2.1),(a.2.2.2.2.2.2.2.2.2.2.2.2.2.2.2.2.2.2.1,(a.2.2.2.2.2.2.2.2.2.2.2.2.2.2.2.2.2.2.2.1,(a.2.2.2.2.2.2.2.2.2.2.2.2.2.2.2.2.2.2.2.2.2.2,(i.1,(m.1,b3)))))))),o.2.1,o.2.2)) (
 some ((a.2.2.2.2.2.2.2.2.2.2.2.2.2.2.1,(a.2.2.2.2.2.2.2.2.2.2.2.2.2.2.2.1,((a.2.2.2.2.2.2.2.2.2.2.2.2.2.2.2.2.1,a.2.2.2.2.2.2.2.2.2.2.2.2.2.2.2.2.2.1),(a.2.2.2.2.2.2.2.2.2.2.2.2.2.2.2.2.2.2.1,(a.2.2.2.2.2.2.2.2.2.2.2.2.2.2.2.2.2.2.2.1,(a.2.2.2.2.2.2.2.2.2.2.2.2.2.2.2.2.2.2.2.2.2.2,(i.1,(a.2.2.2.2.2.2.2.2.2.2.2.2.2.2.2.2.2.2.2.2.1,a.2.2.2.2.2.2.2.2.2.2.2.2.2.2.2.2.2.2.2.2.2.1)))))))),f.2.1,f.2.2))) (
 (j1s d.2.1 d.2.2 4).bind λe=>
 let a9:=(Int.ofNat (List.length a.2.2.2.2.1))
 cond (cond e.1 (decide (a9>0)) false) (
 let a8:=(Int.ofNat (List.length a.2.2.2.2.1))
 (j06 e.2.1 e.2.2 a8).bind λp=>
 (j06 p.2.1 p.2.2 2).bind λl=>
 let a4:=(w64 (1+l.1))
 some ((a.2.2.2.2.2.2.2.2.2.2.2.2.2.2.1,(a.2.2.2.2.2.2.2.2.2.2.2.2.2.2.2.1,((a.2.2.2.2.2.2.2.2.2.2.2.2.2.2.2.2.1,a.2.2.2.2.2.2.2.2.2.2.2.2.2.2.2.2.2.1),(a.2.2.2.2.2.2.2.2.2.2.2.2.2.2.2.2.2.2.1,(a.2.2.2.2.2.2.2.2.2.2.2.2.2.2.2.2.2.2.2.1,(a.2.2.2.2.2.2.2.2.2.2.2.2.2.2.2.2.2.2.2.2.2.2,(([]:af),(p.1,a4)))))))),l.2.1,l.2.2)) (
 some ((a.2.2.2.2.2.2.2.2.2.2.2.2.2.2.1,(a.2.2.2.2.2.2.2.2.2.2.2.2.2.2.2.1,((a.2.2.2.2.2.2.2.2.2.2.2.2.2.2.2.2.1,a.2.2.2.2.2.2.2.2.2.2.2.2.2.2.2.2.2.1),(a.2.2.2.2.2.2.2.2.2.2.2.2.2.2.2.2.2.2.1,(a.2.2.2.2.2.2.2.2.2.2.2.2.2.2.2.2.2.2.2.1,(a.2.2.2.2.2.2.2.2.2.2.2.2.2.2.2.2.2.2.2.2.2.2,(([]:af),(a.2.2.2.2.2.2.2.2.2.2.2.2.2.2.2.2.2.2.2.2.1,a.2.2.2.2.2.2.2.2.2.2.2.2.2.2.2.2.2.2.2.2.2.1)))))))),e.2.1,e.2.2))))
def j6L(d:(List Int))(a:Int):Option (Int×(List Int)×Int):=
 (j06 d a 576).bind λe=>
 let j:=(w64 (3600*e.1))
 let i:=(w64 (1767139200+j))
 (j1s e.2.1 e.2.2 3).bind λb=>
 cond b.1 (
 let g:(List Int):=[(-1),1,1800,3599]
 (j1P b.2.1 b.2.2 g).bind λc=>
 let f:=(w64 (i+c.1))
 some (f,c.2.1,c.2.2)) (
 some (i,b.2.1,b.2.2))
def jbv(n:(List Int))(j:Int)(m:ca):Option (kZ×(List Int)×Int):=
 let k:=(Int.ofNat (List.length m.2.1))
 (j06 n j 3).bind λa=>
 (j06 a.2.1 a.2.2 k).bind λe=>
 (j6L e.2.1 e.2.2).bind λb=>
 let r:(List Int):=[3600,86400,7,259200,40000]
 (j1P b.2.1 b.2.2 r).bind λc=>
 let f:=(w64 (b.1+c.1))
 cond (a.1==2) (
 cond (decide (k<2)) (
 some ((0,(e.1,(0,(b.1,f)))),c.2.1,c.2.2)) (
 let q:=(w64 (e.1+1))
 let p:=(w64 (k-1))
 (j06 c.2.1 c.2.2 p).bind λg=>
 let o:=(w64 (q+g.1))
 cond (!(k==0)) (
 let l:=(Int.tmod o k)
 cond (a.1==1) (
 (j1s g.2.1 g.2.2 4).bind λi=>
 cond i.1 (
 some ((a.1,((-1),(l,(b.1,f)))),i.2.1,i.2.2)) (
 some ((a.1,(e.1,(l,(b.1,f)))),i.2.1,i.2.2))) (
 some ((a.1,(e.1,(l,(b.1,f)))),g.2.1,g.2.2))) none)) (
 cond (a.1==1) (
 (j1s c.2.1 c.2.2 4).bind λd=>
 cond d.1 (
 some ((a.1,((-1),(0,(b.1,f)))),d.2.1,d.2.2)) (
 some ((a.1,(e.1,(0,(b.1,f)))),d.2.1,d.2.2))) (
 some ((a.1,(e.1,(0,(b.1,f)))),c.2.1,c.2.2)))
def j3t[LP](r o:Int)(p:(List Int))(j:Int)(n:ai)(c:ak)(e:an)(q:ByteArray)(d:ao)(b:aH):Option ((Int×Int×(List Int)×Int×ai×ak×an×ByteArray×ao×aH) ⊕ ((Int×(List Int)×Int×ai×ak×an×ByteArray×ao×aH))):=
 cond (decide (o>0)) (
 (jiv).bind λg=>
 let i:=(Int.ofNat (List.length b))
 cond (inR i (List.length g)) (
 let k:=(List.getD g (Int.toNat i) ByteArray.empty)
 (jab p j (n,(c,(e,d))) k).bind λa=>
 let f:aH:=[(a.1.1,(a.1.2.1,((a.1.2.2.1.1,a.1.2.2.1.2),(a.1.2.2.2.1,(a.1.2.2.2.2.1,(a.1.2.2.2.2.2.1,(a.1.2.2.2.2.2.2.1,(a.1.2.2.2.2.2.2.2.1,a.1.2.2.2.2.2.2.2.2))))))))]
 cond (decide (List.length b+List.length f<=aY)) (
 let m:aH:=(b++f)
 let l:=(w64 (o-1))
 some (.inl (r,l,a.2.1,a.2.2,n,c,e,q,d,m))) none) none) (
 some (.inr (r,p,j,n,c,e,q,d,b)))
def CS[LP](k f:Int)(g:(List Int))(b:Int)(j:ai)(a:ak)(d:an)(i:ByteArray)(c:ao)(e:aH):Option ((Int×(List Int)×Int×ai×ak×an×ByteArray×ao×aH)):=
 LP.lp (jkB (j3t)) (k,f,g,b,j,a,d,i,c,e)
theorem Tp(k f g b j a d i c e):CS k f g b j a d i c e=lpK (j3t k f g b j a d i c e) (λh=>CS h.1 h.2.1 h.2.2.1 h.2.2.2.1 h.2.2.2.2.1 h.2.2.2.2.2.1 h.2.2.2.2.2.2.1 h.2.2.2.2.2.2.2.1 h.2.2.2.2.2.2.2.2.1 h.2.2.2.2.2.2.2.2.2):=bh _ _
def j3u(p n:Int)(m:(List Int))(g:Int)(l:ai)(b:ak)(d:an)(o:ByteArray)(c:ao)(i:aH)(e:ae):Option ((Int×Int×(List Int)×Int×ai×ak×an×ByteArray×ao×aH×ae) ⊕ ((Int×(List Int)×Int×ai×ak×an×ByteArray×ao×aH×ae))):=
 cond (decide (n>0)) (
 (jbv m g (l,(b,(d,c)))).bind λa=>
 let f:ae:=[(a.1.1,(a.1.2.1,(a.1.2.2.1,(a.1.2.2.2.1,a.1.2.2.2.2))))]
 cond (decide (List.length e+List.length f<=aY)) (
 let k:ae:=(e++f)
 let j:=(w64 (n-1))
 some (.inl (p,j,a.2.1,a.2.2,l,b,d,o,c,i,k))) none) (
 some (.inr (p,m,g,l,b,d,o,c,i,e)))
def F1[LP](l i:Int)(g:(List Int))(b:Int)(k:ai)(a:ak)(d:an)(j:ByteArray)(c:ao)(f:aH)(e:ae):Option ((Int×(List Int)×Int×ai×ak×an×ByteArray×ao×aH×ae)):=
 LP.lp (jsw (j3u)) (l,i,g,b,k,a,d,j,c,f,e)
theorem Tq(l i g b k a d j c f e):F1 l i g b k a d j c f e=lpK (j3u l i g b k a d j c f e) (λh=>F1 h.1 h.2.1 h.2.2.1 h.2.2.2.1 h.2.2.2.2.1 h.2.2.2.2.2.1 h.2.2.2.2.2.2.1 h.2.2.2.2.2.2.2.1 h.2.2.2.2.2.2.2.2.1 h.2.2.2.2.2.2.2.2.2.1 h.2.2.2.2.2.2.2.2.2.2):=bh _ _
def j3v[LP](s:Int)(q:(List Int))(k:Int)(r:ai)(j:ak)(l:an)(e:ao):Option ((Int×(List Int)×Int×ai×ak×an×ao) ⊕ (((List Int)×Int×ai×ak×an×ao))):=
 cond (decide (s>0)) (
 let g:(List ByteArray):=[(ByteArray.mk #[102,105,114,115,116]),(ByteArray.mk #[115,101,99,111,110,100]),(ByteArray.mk #[116,104,105,114,100])]
 let p:=(Int.ofNat (List.length e))
 let f:=(Int.tmod p 3)
 cond (inR f (List.length g)) (
 let n:=(List.getD g (Int.toNat f) ByteArray.empty)
 (j06 q k 4).bind λc=>
 (CS s c.1 c.2.1 c.2.2 r j l n e ([]:aH)).bind λb=>
 (j06 b.2.1 b.2.2.1 4).bind λd=>
 (F1 b.1 d.1 d.2.1 d.2.2 b.2.2.2.1 b.2.2.2.2.1 b.2.2.2.2.2.1 b.2.2.2.2.2.2.1 b.2.2.2.2.2.2.2.1 b.2.2.2.2.2.2.2.2 ([]:ae)).bind λa=>
 let i:ao:=[(a.2.2.2.2.2.2.1,(a.2.2.2.2.2.2.2.2.1,a.2.2.2.2.2.2.2.2.2))]
 cond (decide (List.length a.2.2.2.2.2.2.2.1+List.length i<=aY)) (
 let m:ao:=(a.2.2.2.2.2.2.2.1++i)
 let o:=(w64 (a.1-1))
 some (.inl (o,a.2.1,a.2.2.1,a.2.2.2.1,a.2.2.2.2.1,a.2.2.2.2.2.1,m))) none) none) (
 some (.inr (q,k,r,j,l,e)))
def F2[LP](g:Int)(e:(List Int))(b:Int)(f:ai)(a:ak)(d:an)(c:ao):Option (((List Int)×Int×ai×ak×an×ao)):=
 LP.lp (unc7 (j3v)) (g,e,b,f,a,d,c)
theorem Tr(g e b f a d c):F2 g e b f a d c=lpK (j3v g e b f a d c) (λh=>F2 h.1 h.2.1 h.2.2.1 h.2.2.2.1 h.2.2.2.2.1 h.2.2.2.2.2.1 h.2.2.2.2.2.2):=bh _ _
def j9w[LP](f:(List Int))(c e:Int):Option (ca×(List Int)×Int):=
 (jaa f c).bind λa=>
 (j06 a.2.1 a.2.2 e).bind λd=>
 let g:=(w64 (1+d.1))
 (F2 g d.2.1 d.2.2 a.1.1 a.1.2.1 a.1.2.2.1 ([]:ao)).bind λb=>
 some ((b.2.2.1,(b.2.2.2.1,(b.2.2.2.2.1,b.2.2.2.2.2))),b.1,b.2.1)
def j3S(c d:al)(o q a b:Int)(p:ae):Option ((al×al×Int×Int×Int×Int×ae) ⊕ (ae)):=
 let a1:=(Int.ofNat (List.length c))
 let a0:=(Int.ofNat (List.length d))
 cond (cond (decide (a<a1)) (decide (b<a0)) false) (
 cond (inR a (List.length c)) (
 let j:=(List.getD c (Int.toNat a) (0,(0,0)))
 cond (inR b (List.length d)) (
 let n:=(List.getD d (Int.toNat b) (0,(0,0)))
 let m:Int:=(if n.1>j.1 then n.1 else j.1:Int)
 cond (inR a (List.length c)) (
 let k:=(List.getD c (Int.toNat a) (0,(0,0)))
 cond (inR b (List.length d)) (
 let g:=(List.getD d (Int.toNat b) (0,(0,0)))
 let l:Int:=(if g.2.1<k.2.1 then g.2.1 else k.2.1:Int)
 cond (inR a (List.length c)) (
 let e:=(List.getD c (Int.toNat a) (0,(0,0)))
 cond ((inR b (List.length d)) || !(decide (e.2.2>=0))) (
 let x:=(List.getD d (Int.toNat b) (0,(0,0)))
 let w:Bool:=(cond (cond (decide (e.2.2>=0)) (e.2.2==x.2.2) false) (decide (m<l)) false)
 cond w (
 let f:ae:=[(e.2.2,(o,(q,(m,l))))]
 cond (decide (List.length p+List.length f<=aY)) (
 let i:ae:=(p++f)
 cond (inR a (List.length c)) (
 let z:=(List.getD c (Int.toNat a) (0,(0,0)))
 cond (inR b (List.length d)) (
 let t:=(List.getD d (Int.toNat b) (0,(0,0)))
 cond (decide (z.2.1<t.2.1)) (
 let a2:=(w64 (a+1))
 some (.inl (c,d,o,q,a2,b,i))) (
 let u:=(w64 (b+1))
 some (.inl (c,d,o,q,a,u,i)))) none) none) none) (
 cond (inR a (List.length c)) (
 let s:=(List.getD c (Int.toNat a) (0,(0,0)))
 cond (inR b (List.length d)) (
 let v:=(List.getD d (Int.toNat b) (0,(0,0)))
 cond (decide (s.2.1<v.2.1)) (
 let y:=(w64 (a+1))
 some (.inl (c,d,o,q,y,b,p))) (
 let r:=(w64 (b+1))
 some (.inl (c,d,o,q,a,r,p)))) none) none)) none) none) none) none) none) none) (
 some (.inr p))
def xH[LP](c d:al)(f g b a:Int)(e:ae):Option (ae):=
 LP.lp (unc7 (j3S)) (c,d,f,g,b,a,e)
theorem Ts(c d f g b a e):xH c d f g b a e=lpK (j3S c d f g b a e) (λh=>xH h.1 h.2.1 h.2.2.1 h.2.2.2.1 h.2.2.2.2.1 h.2.2.2.2.2.1 h.2.2.2.2.2.2):=bh _ _
def jac[LP](b c:al)(d a:Int):Option (ae):=
 (xH b c d a 0 0 ([]:ae)).bind λe=>
 some e
def j3l(b a:kZ):Option (Int):=
 let c:=(w64 (b.2.2.2.1-a.2.2.2.1))
 some c
def j0D(n q p f:Int)(e:ae):Option ((Int×Int×Int×Int×ae) ⊕ ((Int×Int×Int×ae))):=
 cond (decide (f>n)) (
 cond (inR f (List.length e)) (
 let a:=(List.getD e (Int.toNat f) (0,(0,(0,(0,0)))))
 let g:=(w64 (f-1))
 cond (inR g (List.length e)) (
 let b:=(List.getD e (Int.toNat g) (0,(0,(0,(0,0)))))
 (j3l (a.1,(a.2.1,(a.2.2.1,(a.2.2.2.1,a.2.2.2.2)))) (b.1,(b.2.1,(b.2.2.1,(b.2.2.2.1,b.2.2.2.2))))).bind λo=>
 cond (decide (o<0)) (
 let k:=(w64 (f-1))
 let j:=(w64 (f-1))
 cond (inR j (List.length e)) (
 let d:=(List.getD e (Int.toNat j) (0,(0,(0,(0,0)))))
 cond (inR f (List.length e)) (
 let c:=(List.getD e (Int.toNat f) (0,(0,(0,(0,0)))))
 cond (inR f (List.length e)) (
 let i:ae:=(List.set e (Int.toNat f) (d.1,(d.2.1,(d.2.2.1,(d.2.2.2.1,d.2.2.2.2)))))
 cond (inR k (List.length i)) (
 let l:ae:=(List.set i (Int.toNat k) (c.1,(c.2.1,(c.2.2.1,(c.2.2.2.1,c.2.2.2.2)))))
 let m:=(w64 (f-1))
 some (.inl (n,q,p,m,l))) none) none) none) none) (
 some (.inr (n,q,p,e)))) none) none) (
 some (.inr (n,q,p,e)))
def F3[LP](d e a c:Int)(b:ae):Option ((Int×Int×Int×ae)):=
 LP.lp (unc5 (j0D)) (d,e,a,c,b)
theorem Tt(d e a c b):F3 d e a c b=lpK (j0D d e a c b) (λh=>F3 h.1 h.2.1 h.2.2.1 h.2.2.2.1 h.2.2.2.2):=bh _ _
def j0p[LP](f e c:Int)(d:ae):Option ((Int×Int×Int×ae) ⊕ (ae)):=
 cond (decide (c<e)) (
 (F3 f e c c d).bind λa=>
 let b:=(w64 (a.2.2.1+1))
 some (.inl (a.1,a.2.1,b,a.2.2.2))) (
 some (.inr d))
def F4[LP](c d a:Int)(b:ae):Option (ae):=
 LP.lp (unc4 (j0p)) (c,d,a,b)
theorem Kq(c d a b):F4 c d a b=lpK (j0p c d a b) (λh=>F4 h.1 h.2.1 h.2.2.1 h.2.2.2):=bh _ _
def j0O[LP](a:ae)(b c:Int):Option (ae):=
 let d:=(w64 (b+1))
 (F4 b c d a).bind λe=>
 some e
def j0T(m n o c:Int)(d:ae):Option ((Int×Int×Int×Int×ae) ⊕ (ae)):=
 cond (decide (c<o)) (
 let e:=(w64 (m+c))
 let i:=(w64 (n+c))
 let f:=(w64 (n+c))
 cond (inR f (List.length d)) (
 let a:=(List.getD d (Int.toNat f) (0,(0,(0,(0,0)))))
 let g:=(w64 (m+c))
 cond (inR g (List.length d)) (
 let b:=(List.getD d (Int.toNat g) (0,(0,(0,(0,0)))))
 cond (inR e (List.length d)) (
 let j:ae:=(List.set d (Int.toNat e) (a.1,(a.2.1,(a.2.2.1,(a.2.2.2.1,a.2.2.2.2)))))
 cond (inR i (List.length j)) (
 let k:ae:=(List.set j (Int.toNat i) (b.1,(b.2.1,(b.2.2.1,(b.2.2.2.1,b.2.2.2.2)))))
 let l:=(w64 (c+1))
 some (.inl (m,n,o,l,k))) none) none) none) none) (
 some (.inr d))
def CT[LP](c d e a:Int)(b:ae):Option (ae):=
 LP.lp (unc5 (j0T)) (c,d,e,a,b)
theorem Tu(c d e a b):CT c d e a b=lpK (j0T c d e a b) (λh=>CT h.1 h.2.1 h.2.2.1 h.2.2.2.1 h.2.2.2.2):=bh _ _
def j0N[LP](a:ae)(c d b:Int):Option (ae):=
 (CT c d b 0 a).bind λe=>
 some e
def j1T[LP](c a b:Int)(m:ae):Option ((Int×Int×Int×ae) ⊕ ((Int×Int×ae))):=
 cond (a != b) (
 cond (decide (a>b)) (
 let d:=(w64 (c-a))
 (j0N m d c b).bind λi=>
 let f:=(w64 (a-b))
 some (.inl (c,f,b,i))) (
 let l:=(w64 (c-a))
 let j:=(w64 (c+b))
 let g:=(w64 (j-a))
 (j0N m l g a).bind λk=>
 let e:=(w64 (b-a))
 some (.inl (c,a,e,k)))) (
 some (.inr (c,a,m)))
def F5[LP](d b a:Int)(c:ae):Option ((Int×Int×ae)):=
 LP.lp (unc4 (j1T)) (d,b,a,c)
theorem j9i(d b a c):F5 d b a c=lpK (j1T d b a c) (λh=>F5 h.1 h.2.1 h.2.2.1 h.2.2.2):=bh _ _
def j1p[LP](b:ae)(d a e:Int):Option (ae):=
 let f:=(w64 (a-d))
 let j:=(w64 (e-a))
 (F5 a f j b).bind λc=>
 let g:=(w64 (c.1-c.2.1))
 (j0N c.2.2 g c.1 c.2.1).bind λi=>
 some i
def j0X(n:ae->Int->Int->Int->Option (ae))(g e f:Int)(c:ae):Option ((Int×Int×Int×ae) ⊕ ((Int×Int×ae))):=
 cond (decide (e<f)) (
 let j:=(w64 (e+f))
 let k:Int:=(IntKind.wrap .u64 j)
 let l:Int:=(Int.fdiv k 2)
 let d:=(w64 l)
 cond (inR d (List.length c)) (
 let b:=(List.getD c (Int.toNat d) (0,(0,(0,(0,0)))))
 cond (inR g (List.length c)) (
 let a:=(List.getD c (Int.toNat g) (0,(0,(0,(0,0)))))
 (j3l (b.1,(b.2.1,(b.2.2.1,(b.2.2.2.1,b.2.2.2.2)))) (a.1,(a.2.1,(a.2.2.1,(a.2.2.2.1,a.2.2.2.2))))).bind λi=>
 cond (decide (i<0)) (
 let m:=(w64 (d+1))
 some (.inl (g,m,f,c))) (
 some (.inl (g,e,d,c)))) none) none) (
 some (.inr (g,e,c)))
def CU[LP](c:ae->Int->Int->Int->Option (ae))(e b a:Int)(d:ae):Option ((Int×Int×ae)):=
 LP.lp (unc4 (j0X c)) (e,b,a,d)
theorem Tv(a e c b d):CU a e c b d=lpK (j0X a e c b d) (λh=>CU a h.1 h.2.1 h.2.2.1 h.2.2.2):=bh _ _
def j0Y(m:ae->Int->Int->Int->Option (ae))(l c:Int)(d:ae):Option ((Int×Int×ae) ⊕ (ae)):=
 let k:=(w64 (l-1))
 cond (decide (c<k)) (
 let g:=(w64 (c+1))
 let f:=(w64 (c+1))
 cond (inR f (List.length d)) (
 let a:=(List.getD d (Int.toNat f) (0,(0,(0,(0,0)))))
 cond (inR c (List.length d)) (
 let b:=(List.getD d (Int.toNat c) (0,(0,(0,(0,0)))))
 cond (inR c (List.length d)) (
 let e:ae:=(List.set d (Int.toNat c) (a.1,(a.2.1,(a.2.2.1,(a.2.2.2.1,a.2.2.2.2)))))
 cond (inR g (List.length e)) (
 let j:ae:=(List.set e (Int.toNat g) (b.1,(b.2.1,(b.2.2.1,(b.2.2.2.1,b.2.2.2.2)))))
 let i:=(w64 (c+1))
 some (.inl (l,i,j))) none) none) none) none) (
 some (.inr d))
def F6[LP](c:ae->Int->Int->Int->Option (ae))(b a:Int)(d:ae):Option (ae):=
 LP.lp (unc3 (j0Y c)) (b,a,d)
theorem Tw(a c b d):F6 a c b d=lpK (j0Y a c b d) (λh=>F6 a h.1 h.2.1 h.2.2):=bh _ _
def j0Z(n:ae->Int->Int->Int->Option (ae))(g e i:Int)(c:ae):Option ((Int×Int×Int×ae) ⊕ ((Int×Int×ae))):=
 cond (decide (e<i)) (
 let l:=(w64 (e+i))
 let m:Int:=(IntKind.wrap .u64 l)
 let k:Int:=(Int.fdiv m 2)
 let d:=(w64 k)
 cond (inR g (List.length c)) (
 let b:=(List.getD c (Int.toNat g) (0,(0,(0,(0,0)))))
 cond (inR d (List.length c)) (
 let a:=(List.getD c (Int.toNat d) (0,(0,(0,(0,0)))))
 (j3l (b.1,(b.2.1,(b.2.2.1,(b.2.2.2.1,b.2.2.2.2)))) (a.1,(a.2.1,(a.2.2.1,(a.2.2.2.1,a.2.2.2.2))))).bind λj=>
 cond (!(decide (j<0))) (
 let f:=(w64 (d+1))
 some (.inl (g,f,i,c))) (
 some (.inl (g,e,d,c)))) none) none) (
 some (.inr (g,e,c)))
def CV[LP](b:ae->Int->Int->Int->Option (ae))(e a c:Int)(d:ae):Option ((Int×Int×ae)):=
 LP.lp (unc4 (j0Z b)) (e,a,c,d)
theorem Tx(a e b c d):CV a e b c d=lpK (j0Z a e b c d) (λh=>CV a h.1 h.2.1 h.2.2.1 h.2.2.2):=bh _ _
def j10(l:ae->Int->Int->Int->Option (ae))(k c:Int)(f:ae):Option ((Int×Int×ae) ⊕ (ae)):=
 cond (decide (c>k)) (
 let d:=(w64 (c-1))
 let e:=(w64 (c-1))
 cond (inR e (List.length f)) (
 let a:=(List.getD f (Int.toNat e) (0,(0,(0,(0,0)))))
 cond (inR c (List.length f)) (
 let b:=(List.getD f (Int.toNat c) (0,(0,(0,(0,0)))))
 cond (inR c (List.length f)) (
 let g:ae:=(List.set f (Int.toNat c) (a.1,(a.2.1,(a.2.2.1,(a.2.2.2.1,a.2.2.2.2)))))
 cond (inR d (List.length g)) (
 let j:ae:=(List.set g (Int.toNat d) (b.1,(b.2.1,(b.2.2.1,(b.2.2.2.1,b.2.2.2.2)))))
 let i:=(w64 (c-1))
 some (.inl (k,i,j))) none) none) none) none) (
 some (.inr f))
def F7[LP](c:ae->Int->Int->Int->Option (ae))(b a:Int)(d:ae):Option (ae):=
 LP.lp (unc3 (j10 c)) (b,a,d)
theorem Tz(a b c d):F7 a b c d=lpK (j10 a b c d) (λh=>F7 a h.1 h.2.1 h.2.2):=bh _ _
def j11(t:ae->Int->Int->Int->Option (ae))(r q s j i f m n:Int)(e:ae):Option ((Int×Int×Int×Int×Int×Int×Int×Int×ae) ⊕ ((Int×Int×Int×Int×Int×Int×ae))):=
 cond (decide (f<m)) (
 let o:=(w64 (f+m))
 let l:Int:=(IntKind.wrap .u64 o)
 let p:Int:=(Int.fdiv l 2)
 let c:=(w64 p)
 let d:=(w64 (n-c))
 cond (inR d (List.length e)) (
 let b:=(List.getD e (Int.toNat d) (0,(0,(0,(0,0)))))
 cond (inR c (List.length e)) (
 let a:=(List.getD e (Int.toNat c) (0,(0,(0,(0,0)))))
 (j3l (b.1,(b.2.1,(b.2.2.1,(b.2.2.2.1,b.2.2.2.2)))) (a.1,(a.2.1,(a.2.2.1,(a.2.2.2.1,a.2.2.2.2))))).bind λg=>
 cond (!(decide (g<0))) (
 let k:=(w64 (c+1))
 some (.inl (r,q,s,j,i,k,m,n,e))) (
 some (.inl (r,q,s,j,i,f,c,n,e)))) none) none) (
 some (.inr (r,q,s,j,i,f,e)))
def Ae[LP](b:ae->Int->Int->Int->Option (ae))(i j k d c f a e:Int)(g:ae):Option ((Int×Int×Int×Int×Int×Int×ae)):=
 LP.lp (unc9 (j11 b)) (i,j,k,d,c,f,a,e,g)
theorem TA(a i j k d c f b e g):Ae a i j k d c f b e g=lpK (j11 a i j k d c f b e g) (λh=>Ae a h.1 h.2.1 h.2.2.1 h.2.2.2.1 h.2.2.2.2.1 h.2.2.2.2.2.1 h.2.2.2.2.2.2.1 h.2.2.2.2.2.2.2.1 h.2.2.2.2.2.2.2.2):=bh _ _
def F8[LP](e:ae->Int->Int->Int->Option (ae))(g:ae)(i f j:Int):Option (ae):=
 let b0:=(w64 (f-i))
 cond (b0==1) (
 (CU e i f j g).bind λa8=>
 (F6 e a8.2.1 a8.1 a8.2.2).bind λb2=>
 some b2) (
 let a9:=(w64 (j-f))
 cond (a9==1) (
 (CV e f i f g).bind λa6=>
 (F7 e a6.2.1 a6.1 a6.2.2).bind λb1=>
 some b1) (
 let a4:=(w64 (i+j))
 let a1:Int:=(IntKind.wrap .u64 a4)
 let k:Int:=(Int.fdiv a1 2)
 let l:=(w64 ((w64 k)+f))
 cond (decide (f>(w64 k))) (
 let a7:=(w64 (l-j))
 let a3:=(w64 (l-1))
 (Ae e i f j (w64 k) l a7 (w64 k) a3 g).bind λc=>
 let d:=(w64 (c.2.2.2.2.1-c.2.2.2.2.2.1))
 cond (cond (decide (c.2.2.2.2.2.1<c.2.1)) (decide (c.2.1<d)) false) (
 (j1p c.2.2.2.2.2.2 c.2.2.2.2.2.1 c.2.1 d).bind λq=>
 cond (cond (decide (c.1<c.2.2.2.2.2.1)) (decide (c.2.2.2.2.2.1<c.2.2.2.1)) false) (
 (e q c.1 c.2.2.2.2.2.1 c.2.2.2.1).bind λw=>
 cond (cond (decide (c.2.2.2.1<d)) (decide (d<c.2.2.1)) false) (
 (e w c.2.2.2.1 d c.2.2.1).bind λa2=>
 some a2) (
 some w)) (
 cond (cond (decide (c.2.2.2.1<d)) (decide (d<c.2.2.1)) false) (
 (e q c.2.2.2.1 d c.2.2.1).bind λx=>
 some x) (
 some q))) (
 cond (cond (decide (c.1<c.2.2.2.2.2.1)) (decide (c.2.2.2.2.2.1<c.2.2.2.1)) false) (
 (e c.2.2.2.2.2.2 c.1 c.2.2.2.2.2.1 c.2.2.2.1).bind λp=>
 cond (cond (decide (c.2.2.2.1<d)) (decide (d<c.2.2.1)) false) (
 (e p c.2.2.2.1 d c.2.2.1).bind λv=>
 some v) (
 some p)) (
 cond (cond (decide (c.2.2.2.1<d)) (decide (d<c.2.2.1)) false) (
 (e c.2.2.2.2.2.2 c.2.2.2.1 d c.2.2.1).bind λa0=>
 some a0) (
 some c.2.2.2.2.2.2)))) (
 let s:=(w64 (l-1))
 (Ae e i f j (w64 k) l i f s g).bind λa=>
 let b:=(w64 (a.2.2.2.2.1-a.2.2.2.2.2.1))
 cond (cond (decide (a.2.2.2.2.2.1<a.2.1)) (decide (a.2.1<b)) false) (
 (j1p a.2.2.2.2.2.2 a.2.2.2.2.2.1 a.2.1 b).bind λm=>
 let a5:Bool:=(cond (decide (a.1<a.2.2.2.2.2.1)) (decide (a.2.2.2.2.2.1<a.2.2.2.1)) false)
 cond a5 (
 (e m a.1 a.2.2.2.2.2.1 a.2.2.2.1).bind λo=>
 cond (cond (decide (a.2.2.2.1<b)) (decide (b<a.2.2.1)) false) (
 (e o a.2.2.2.1 b a.2.2.1).bind λz=>
 some z) (
 some o)) (
 cond (cond (decide (a.2.2.2.1<b)) (decide (b<a.2.2.1)) false) (
 (e m a.2.2.2.1 b a.2.2.1).bind λr=>
 some r) (
 some m))) (
 let y:Bool:=(cond (decide (a.1<a.2.2.2.2.2.1)) (decide (a.2.2.2.2.2.1<a.2.2.2.1)) false)
 cond y (
 (e a.2.2.2.2.2.2 a.1 a.2.2.2.2.2.1 a.2.2.2.1).bind λn=>
 cond (cond (decide (a.2.2.2.1<b)) (decide (b<a.2.2.1)) false) (
 (e n a.2.2.2.1 b a.2.2.1).bind λt=>
 some t) (
 some n)) (
 cond (cond (decide (a.2.2.2.1<b)) (decide (b<a.2.2.1)) false) (
 (e a.2.2.2.2.2.2 a.2.2.2.1 b a.2.2.1).bind λu=>
 some u) (
 some a.2.2.2.2.2.2))))))
def j0x[LP](e:(ae×Int×Int×Int)->Option (ae))(h:ae×Int×Int×Int):Option (ae):=F8 (λb c d a=>e (b,c,d,a)) h.1 h.2.1 h.2.2.1 h.2.2.2
def j1U[LP](a:ae)(b d c:Int):Option (ae):=LP.rp j0x (a,b,d,c)
def j0I[LP](d e g a:Int)(f:ae):Option ((Int×Int×Int×Int×ae) ⊕ ((Int×Int×Int×ae))):=
 cond (decide (a<=d)) (
 (j0O f g a).bind λc=>
 let b:=(w64 (a+e))
 some (.inl (d,e,a,b,c))) (
 some (.inr (d,e,g,f)))
def CW[LP](d e c a:Int)(b:ae):Option ((Int×Int×Int×ae)):=
 LP.lp (unc5 (j0I)) (d,e,c,a,b)
theorem Kr(d e c a b):CW d e c a b=lpK (j0I d e c a b) (λh=>CW h.1 h.2.1 h.2.2.1 h.2.2.2.1 h.2.2.2.2):=bh _ _
def j0J[LP](i e g a:Int)(j:ae):Option ((Int×Int×Int×Int×ae) ⊕ ((Int×Int×Int×ae))):=
 cond (decide (a<=i)) (
 let d:=(w64 (g+e))
 (j1U j g d a).bind λf=>
 let c:=(w64 (2*e))
 let b:=(w64 (a+c))
 some (.inl (i,e,a,b,f))) (
 some (.inr (i,e,g,j)))
def CX[LP](d e c a:Int)(b:ae):Option ((Int×Int×Int×ae)):=
 LP.lp (unc5 (j0J)) (d,e,c,a,b)
theorem Ks(d e c a b):CX d e c a b=lpK (j0J d e c a b) (λh=>CX h.1 h.2.1 h.2.2.1 h.2.2.2.1 h.2.2.2.2):=bh _ _
def j16[LP](j g:Int)(i:ae):Option ((Int×Int×ae) ⊕ (ae)):=
 cond (decide (g<j)) (
 let e:=(w64 (2*g))
 (CX j g 0 e i).bind λa=>
 let b:=(w64 (a.2.2.1+a.2.1))
 cond (decide (b<a.1)) (
 (j1U a.2.2.2 a.2.2.1 b a.1).bind λd=>
 let f:=(w64 (a.2.1*2))
 some (.inl (a.1,f,d))) (
 let c:=(w64 (a.2.1*2))
 some (.inl (a.1,c,a.2.2.2)))) (
 some (.inr i))
def CY[LP](c b:Int)(a:ae):Option (ae):=
 LP.lp (unc3 (j16)) (c,b,a)
theorem TB(c b a):CY c b a=lpK (j16 c b a) (λh=>CY h.1 h.2.1 h.2.2):=bh _ _
def j4v[LP](a:ae)(c:Int):Option (ae):=
 (CW c 20 0 20 a).bind λb=>
 (j0O b.2.2.2 b.2.2.1 b.1).bind λd=>
 (CY b.1 b.2.1 d).bind λe=>
 some e
def j0U[LP](a:ae):Option (ae):=
 let c:=(Int.ofNat (List.length a))
 (j4v a c).bind λb=>
 some b
def j3w[LP](p q:Int)(i:ao)(n c:Int)(o:ai)(g:ak)(f:an)(e:ao)(d:bu)(j:fF):Option ((Int×Int×ao×Int×Int×ai×ak×an×ao×bu×fF) ⊕ (Int ⊕ fF)):=
 cond (decide (c<n)) (
 cond (inR c (List.length i)) (
 let b:=(List.getD i (Int.toNat c) (ByteArray.empty,(([]:aH),([]:ae))))
 (j2S ((o,(g,(f,e))),d) (b.1,(b.2.1,b.2.2)) p q).bind λa=>
 let l:=(Int.ofNat (List.length a))
 cond (decide (l>16384)) (
 some (.inr (.inl 5))) (
 cond (decide (List.length j+List.length [a]<=aY)) (
 let m:fF:=(j++[a])
 let k:=(w64 (c+1))
 some (.inl (p,q,i,n,k,o,g,f,e,d,m))) none)) none) (
 some (.inr (.inr j)))
def CZ[LP](k l:Int)(g:ao)(e f:Int)(j:ai)(d:ak)(c:an)(b:ao)(a:bu)(i:fF):Option (Int ⊕ fF):=
 LP.lp (jsw (j3w)) (k,l,g,e,f,j,d,c,b,a,i)
theorem TC(k l g e f j d c b a i):CZ k l g e f j d c b a i=lpK (j3w k l g e f j d c b a i) (λh=>CZ h.1 h.2.1 h.2.2.1 h.2.2.2.1 h.2.2.2.2.1 h.2.2.2.2.2.1 h.2.2.2.2.2.2.1 h.2.2.2.2.2.2.2.1 h.2.2.2.2.2.2.2.2.1 h.2.2.2.2.2.2.2.2.2.1 h.2.2.2.2.2.2.2.2.2.2):=bh _ _
def j3x[LP](d b m l:Int)(a:fF)(e:ae):Option ((Int×Int×Int×Int×fF×ae) ⊕ ((Int×Int×fF×ae))):=
 let i:=(Int.ofNat (List.length a))
 cond (decide (b<i)) (
 cond (inR d (List.length a)) (
 let f:=(List.getD a (Int.toNat d) ([]:al))
 cond (inR b (List.length a)) (
 let g:=(List.getD a (Int.toNat b) ([]:al))
 (jac f g d b).bind λc=>
 cond (decide (List.length e+List.length c<=aY)) (
 let j:ae:=(e++c)
 let k:=(w64 (b+1))
 some (.inl (d,k,m,l,a,j))) none) none) none) (
 some (.inr (m,l,a,e)))
def C0[LP](e b f a:Int)(d:fF)(c:ae):Option ((Int×Int×fF×ae)):=
 LP.lp (unc6 (j3x)) (e,b,f,a,d,c)
theorem TD(e b f a d c):C0 e b f a d c=lpK (j3x e b f a d c) (λh=>C0 h.1 h.2.1 h.2.2.1 h.2.2.2.1 h.2.2.2.2.1 h.2.2.2.2.2):=bh _ _
def j3y[LP](f b:Int)(g:fF)(e:ae):Option ((Int×Int×fF×ae) ⊕ (ae)):=
 cond (decide (b<f)) (
 let d:=(w64 (b+1))
 (C0 b d f b g e).bind λa=>
 let c:=(w64 (a.2.1+1))
 some (.inl (a.1,c,a.2.2.1,a.2.2.2))) (
 some (.inr e))
def C1[LP](d c:Int)(a:fF)(b:ae):Option (ae):=
 LP.lp (unc4 (j3y)) (d,c,a,b)
theorem TE(d a c b):C1 d a c b=lpK (j3y d a c b) (λh=>C1 h.1 h.2.1 h.2.2.1 h.2.2.2):=bh _ _
def j7o[LP](a:ca)(c d:Int):Option (ae×Int):=
 (jg0 (a.1,(a.2.1,(a.2.2.1,a.2.2.2)))).bind λb=>
 cond (!b.2) (
 some (([]:ae),8)) (
 (jit c d).bind λk=>
 cond (!k) (
 some (([]:ae),1)) (
 let i:=(Int.ofNat (List.length a.2.2.2))
 (CZ c d a.2.2.2 i 0 b.1.1.1 b.1.1.2.1 b.1.1.2.2.1 b.1.1.2.2.2 b.1.2 ([]:fF)).bind λl=>
 sumC l (λn=>
 some (([]:ae),n)) (λm=>
 let e:=(Int.ofNat (List.length m))
 (C1 e 0 m ([]:ae)).bind λf=>
 let j:=(Int.ofNat (List.length f))
 cond (decide (j>16384)) (
 some (([]:ae),5)) (
 (j0U f).bind λg=>
 some (g,0)))))
def jo6(a:Int):Option (Bool):=
 some (cond (decide (a>=48)) (decide (a<=57)) false)
def j7p(a:ByteArray)(b:Int):Option ((ByteArray×Int) ⊕ (Bool ⊕ Unit)):=
 let g:=(Int.ofNat (ByteArray.size a))
 cond (decide (b<g)) (
 cond (inR b (ByteArray.size a)) (
 let c:=(cN a b)
 cond ((inR b (ByteArray.size a)) || !(!(decide (c<97)))) (
 let e:=(cN a b)
 cond ((inR b (ByteArray.size a)) || !(cond (decide (c<97)) true (decide (e>122)))) (
 let j:=(cN a b)
 cond (cond (decide (c<97)) true (decide (e>122))) (
 (jo6 j).bind λd=>
 cond ((inR b (ByteArray.size a)) || !(!d)) (
 let f:=(cN a b)
 cond ((inR b (ByteArray.size a)) || !(cond (!d) (f != 95) false)) (
 let l:=(cN a b)
 cond (cond (cond (!d) (f != 95) false) (l != 45) false) (
 some (.inr (.inl false))) (
 let i:=(w64 (b+1))
 some (.inl (a,i)))) none) none) (
 cond ((inR b (ByteArray.size a)) || !false) (
 let n:=(cN a b)
 cond ((inR b (ByteArray.size a)) || !false) (
 let m:=(cN a b)
 let k:=(w64 (b+1))
 some (.inl (a,k))) none) none)) none) none) none) (
 some (.inr (.inr ())))
def Af[LP](b:ByteArray)(a:Int):Option (Bool ⊕ Unit):=
 LP.lp (unc2 (j7p)) (b,a)
theorem TF(b a):Af b a=lpK (j7p b a) (λh=>Af h.1 h.2):=bh _ _
def jng[LP](a:ByteArray):Option (Bool):=
 let c:=(Int.ofNat (ByteArray.size a))
 let e:=(Int.ofNat (ByteArray.size a))
 cond ((inR 0 (ByteArray.size a)) || !(!(cond (decide (c<1)) true (decide (e>24))))) (
 let d:=(cN a 0)
 let b:Bool:=(cond (cond (decide (c<1)) true (decide (e>24))) true (decide (d<97)))
 cond ((inR 0 (ByteArray.size a)) || !(!b)) (
 let f:=(cN a 0)
 cond (cond b true (decide (f>122))) (
 some false) (
 (Af a 0).bind λg=>
 sumC g (λi=>
 some i) (λj=>
 some true))) none) none
def j7q(a:(List ByteArray))(e c:Int):Option (((List ByteArray)×Int×Int) ⊕ (Int ⊕ Unit)):=
 cond (decide (c<e)) (
 cond (inR c (List.length a)) (
 let b:=(List.getD a (Int.toNat c) ByteArray.empty)
 cond (inR e (List.length a)) (
 let d:=(List.getD a (Int.toNat e) ByteArray.empty)
 cond (ByteArray.toList b==ByteArray.toList d) (
 some (.inr (.inl 4))) (
 let f:=(w64 (c+1))
 some (.inl (a,e,f)))) none) none) (
 some (.inr (.inr ())))
def C2[LP](b:(List ByteArray))(c a:Int):Option (Int ⊕ Unit):=
 LP.lp (unc3 (j7q)) (b,c,a)
theorem TG(b c a):C2 b c a=lpK (j7q b c a) (λh=>C2 h.1 h.2.1 h.2.2):=bh _ _
def jcT[LP](b:(List ByteArray))(a:Int):Option (Int):=
 cond (inR a (List.length b)) (
 let d:=(List.getD b (Int.toNat a) ByteArray.empty)
 (jng d).bind λc=>
 cond (!c) (
 some 2) (
 (C2 b a 0).bind λe=>
 sumC e (λf=>
 some f) (λg=>
 some 0))) none
def jb2(a c b:Int):Option (Bool):=
 some (cond (decide (a>=c)) (decide (a<=b)) false)
def jhC(a:sP):Option (Bool):=
 (jb2 a.1 1970 2240).bind λi=>
 cond i (
 (jb2 a.2.1 a.1 2240).bind λg=>
 cond g (
 (jb2 a.2.2.1 1 12).bind λf=>
 cond f (
 (jb2 a.2.2.2.1 1 5).bind λb=>
 cond b (
 (jb2 a.2.2.2.2.1 0 6).bind λd=>
 cond d (
 (jb2 a.2.2.2.2.2.1 0 86399).bind λc=>
 cond c (
 (jb2 a.2.2.2.2.2.2 (-64800) 64800).bind λe=>
 some e) (
 some false)) (
 some false)) (
 some false)) (
 some false)) (
 some false)) (
 some false)
def j2n(a:Int):Option (Bool):=
 let d:=(Int.tmod a 4)
 let c:=(Int.tmod a 100)
 let b:=(Int.tmod a 400)
 some (cond (d==0) (cond (c != 0) true (b==0)) false)
def jg1(b a:Int):Option (Int):=
 cond (a==1) (
 cond (a==1) (
 some 31) (
 cond (a==4) (
 cond (a==4) (
 some 30) (
 cond (a==2) (
 (j2n b).bind λa4=>
 cond a4 (
 some 29) (
 some 28)) (
 some 0))) (
 cond (a==6) (
 cond (a==6) (
 some 30) (
 cond (a==2) (
 (j2n b).bind λa3=>
 cond a3 (
 some 29) (
 some 28)) (
 some 0))) (
 cond (a==9) (
 cond (a==9) (
 some 30) (
 cond (a==2) (
 (j2n b).bind λw=>
 cond w (
 some 29) (
 some 28)) (
 some 0))) (
 cond (a==11) (
 some 30) (
 cond (a==2) (
 (j2n b).bind λv=>
 cond v (
 some 29) (
 some 28)) (
 some 0))))))) (
 cond (a==3) (
 cond (a==3) (
 some 31) (
 cond (a==4) (
 cond (a==4) (
 some 30) (
 cond (a==2) (
 (j2n b).bind λy=>
 cond y (
 some 29) (
 some 28)) (
 some 0))) (
 cond (a==6) (
 cond (a==6) (
 some 30) (
 cond (a==2) (
 (j2n b).bind λa2=>
 cond a2 (
 some 29) (
 some 28)) (
 some 0))) (
 cond (a==9) (
 cond (a==9) (
 some 30) (
 cond (a==2) (
 (j2n b).bind λx=>
 cond x (
 some 29) (
 some 28)) (
 some 0))) (
 cond (a==11) (
 some 30) (
 cond (a==2) (
 (j2n b).bind λa0=>
 cond a0 (
 some 29) (
 some 28)) (
 some 0))))))) (
 cond (a==5) (
 cond (a==5) (
 some 31) (
 cond (a==4) (
 cond (a==4) (
 some 30) (
 cond (a==2) (
 (j2n b).bind λa1=>
 cond a1 (
 some 29) (
 some 28)) (
 some 0))) (
 cond (a==6) (
 cond (a==6) (
 some 30) (
 cond (a==2) (
 (j2n b).bind λz=>
 cond z (
 some 29) (
 some 28)) (
 some 0))) (
 cond (a==9) (
 cond (a==9) (
 some 30) (
 cond (a==2) (
 (j2n b).bind λo=>
 cond o (
 some 29) (
 some 28)) (
 some 0))) (
 cond (a==11) (
 some 30) (
 cond (a==2) (
 (j2n b).bind λl=>
 cond l (
 some 29) (
 some 28)) (
 some 0))))))) (
 cond (a==7) (
 cond (a==7) (
 some 31) (
 cond (a==4) (
 cond (a==4) (
 some 30) (
 cond (a==2) (
 (j2n b).bind λt=>
 cond t (
 some 29) (
 some 28)) (
 some 0))) (
 cond (a==6) (
 cond (a==6) (
 some 30) (
 cond (a==2) (
 (j2n b).bind λu=>
 cond u (
 some 29) (
 some 28)) (
 some 0))) (
 cond (a==9) (
 cond (a==9) (
 some 30) (
 cond (a==2) (
 (j2n b).bind λi=>
 cond i (
 some 29) (
 some 28)) (
 some 0))) (
 cond (a==11) (
 some 30) (
 cond (a==2) (
 (j2n b).bind λc=>
 cond c (
 some 29) (
 some 28)) (
 some 0))))))) (
 cond (a==8) (
 cond (a==8) (
 some 31) (
 cond (a==4) (
 cond (a==4) (
 some 30) (
 cond (a==2) (
 (j2n b).bind λd=>
 cond d (
 some 29) (
 some 28)) (
 some 0))) (
 cond (a==6) (
 cond (a==6) (
 some 30) (
 cond (a==2) (
 (j2n b).bind λm=>
 cond m (
 some 29) (
 some 28)) (
 some 0))) (
 cond (a==9) (
 cond (a==9) (
 some 30) (
 cond (a==2) (
 (j2n b).bind λf=>
 cond f (
 some 29) (
 some 28)) (
 some 0))) (
 cond (a==11) (
 some 30) (
 cond (a==2) (
 (j2n b).bind λj=>
 cond j (
 some 29) (
 some 28)) (
 some 0))))))) (
 cond (a==10) (
 cond (a==10) (
 some 31) (
 cond (a==4) (
 cond (a==4) (
 some 30) (
 cond (a==2) (
 (j2n b).bind λq=>
 cond q (
 some 29) (
 some 28)) (
 some 0))) (
 cond (a==6) (
 cond (a==6) (
 some 30) (
 cond (a==2) (
 (j2n b).bind λg=>
 cond g (
 some 29) (
 some 28)) (
 some 0))) (
 cond (a==9) (
 cond (a==9) (
 some 30) (
 cond (a==2) (
 (j2n b).bind λs=>
 cond s (
 some 29) (
 some 28)) (
 some 0))) (
 cond (a==11) (
 some 30) (
 cond (a==2) (
 (j2n b).bind λp=>
 cond p (
 some 29) (
 some 28)) (
 some 0))))))) (
 cond (a==12) (
 some 31) (
 cond (a==4) (
 cond (a==4) (
 some 30) (
 cond (a==2) (
 (j2n b).bind λr=>
 cond r (
 some 29) (
 some 28)) (
 some 0))) (
 cond (a==6) (
 cond (a==6) (
 some 30) (
 cond (a==2) (
 (j2n b).bind λk=>
 cond k (
 some 29) (
 some 28)) (
 some 0))) (
 cond (a==9) (
 cond (a==9) (
 some 30) (
 cond (a==2) (
 (j2n b).bind λe=>
 cond e (
 some 29) (
 some 28)) (
 some 0))) (
 cond (a==11) (
 some 30) (
 cond (a==2) (
 (j2n b).bind λn=>
 cond n (
 some 29) (
 some 28)) (
 some 0))))))))))))
def jkD(a:uK):Option (Bool):=
 cond (decide (a.1>=1970)) (
 cond (decide (a.1<=2240)) (
 cond (decide (a.2.1>=1)) (
 cond (decide (a.2.1<=12)) (
 cond (decide (a.2.2>=1)) (
 (jg1 a.1 a.2.1).bind λb=>
 some (decide (a.2.2<=b))) (
 some false)) (
 some false)) (
 some false)) (
 some false)) (
 some false)
def jkE(a:Int):Option (Int):=
 let l:=(w64 (a-1970))
 let j:=(w64 (l*365))
 let m:=(w64 (a-1969))
 let i:=(w64 (Int.tdiv m 4))
 let k:=(w64 (j+i))
 let c:=(w64 (a-1901))
 let b:=(w64 (Int.tdiv c 100))
 let e:=(w64 (k-b))
 let d:=(w64 (a-1601))
 let g:=(w64 (Int.tdiv d 400))
 let f:=(w64 (e+g))
 some f
def j8b(i f g a b:Int):Option ((Int×Int×Int×Int×Int) ⊕ ((Int×Int×Int×Int))):=
 cond (decide (f<a)) (
 (jg1 g f).bind λe=>
 let d:=(w64 (i+e))
 let c:=(w64 (f+1))
 some (.inl (d,c,g,a,b))) (
 some (.inr (i,g,a,b)))
def F9[LP](e c d b a:Int):Option ((Int×Int×Int×Int)):=
 LP.lp (unc5 (j8b)) (e,c,d,b,a)
theorem TH(e c d b a):F9 e c d b a=lpK (j8b e c d b a) (λh=>F9 h.1 h.2.1 h.2.2.1 h.2.2.2.1 h.2.2.2.2):=bh _ _
def jqK[LP](a:uK):Option (Int×Int):=
 (jkD (a.1,(a.2.1,a.2.2))).bind λf=>
 cond (!f) (
 some (0,1)) (
 (jkE a.1).bind λd=>
 (F9 d 1 a.1 a.2.1 a.2.2).bind λe=>
 let c:=(w64 (e.1+e.2.2.2))
 let b:=(w64 (c-1))
 some (b,0))
def jg2(a:Int):Option (Int):=
 let c:=(Int.tmod a 7)
 let b:=(w64 (c+10))
 let d:=(Int.tmod b 7)
 some d
def j8c(e f g i d a:Int):Option ((Int×Int×Int×Int×Int×Int) ⊕ ((Int×Int×Int×Int×Int))):=
 (jg2 a).bind λb=>
 cond (b != i) (
 let c:=(w64 (a+1))
 some (.inl (e,f,g,i,d,c))) (
 some (.inr (e,f,g,d,a)))
def Ga[LP](c d e f a b:Int):Option ((Int×Int×Int×Int×Int)):=
 LP.lp (unc6 (j8c)) (c,d,e,f,a,b)
theorem TI(c d e f a b):Ga c d e f a b=lpK (j8c c d e f a b) (λh=>Ga h.1 h.2.1 h.2.2.1 h.2.2.2.1 h.2.2.2.2.1 h.2.2.2.2.2):=bh _ _
def j8d(g i f a:Int):Option ((Int×Int×Int×Int) ⊕ (Int)):=
 let c:=(w64 (a+7))
 (jg1 g i).bind λb=>
 let e:=(w64 (f+b))
 cond (decide (c<e)) (
 let d:=(w64 (a+7))
 some (.inl (g,i,f,d))) (
 some (.inr a))
def Gb[LP](c d a b:Int):Option (Int):=
 LP.lp (unc4 (j8d)) (c,d,a,b)
theorem TJ(c d a b):Gb c d a b=lpK (j8d c d a b) (λh=>Gb h.1 h.2.1 h.2.2.1 h.2.2.2):=bh _ _
def jqL[LP](e c b a:Int):Option (Int×Int):=
 (jqK (e,(c,1))).bind λf=>
 let k:Bool:=(cond (cond (f.2 != 0) true (decide (b<1))) true (decide (b>5)))
 let j:Bool:=(cond (cond k true (decide (a<0))) true (decide (a>6)))
 cond j (
 some (0,1)) (
 (Ga e c b a f.1 f.1).bind λd=>
 cond (decide (d.2.2.1<5)) (
 let l:=(w64 (d.2.2.1-1))
 let i:=(w64 (7*l))
 let g:=(w64 (d.2.2.2.2+i))
 some (g,0)) (
 (Gb d.1 d.2.1 d.2.2.2.1 d.2.2.2.2).bind λm=>
 some (m,0)))
def j3V(j:bf)(k i c f a:Int)(d:af):Option ((bf×Int×Int×Int×Int×Int×af) ⊕ ((bf×Int×Int×Int×Int×Int×af))):=
 cond (decide (c>0)) (
 let b:=(w64 (c-1))
 cond (inR b (List.length d)) (
 let g:=(List.getD d (Int.toNat b) (0,0)).1
 cond (decide (g>f)) (
 let e:=(w64 (c-1))
 some (.inl (j,k,i,e,f,a,d))) (
 some (.inr (j,k,i,c,f,a,d)))) none) (
 some (.inr (j,k,i,c,f,a,d)))
def C3[LP](d:bf)(g c b e a:Int)(f:af):Option ((bf×Int×Int×Int×Int×Int×af)):=
 LP.lp (unc7 (j3V)) (d,g,c,b,e,a,f)
theorem TK(d g c b e a f):C3 d g c b e a f=lpK (j3V d g c b e a f) (λh=>C3 h.1 h.2.1 h.2.2.1 h.2.2.2.1 h.2.2.2.2.1 h.2.2.2.2.2.1 h.2.2.2.2.2.2):=bh _ _
def j3W[LP](d:bf)(c u:Int)(v:af):Option ((bf×Int×Int×af) ⊕ ((bf×Int×af))):=
 cond (inR c (List.length d)) (
 let o:=(List.getD d (Int.toNat c) (0,(0,(0,(0,(0,(0,0)))))))
 cond (decide (u<=o.2.1)) (
 cond (inR c (List.length d)) (
 let q:=(List.getD d (Int.toNat c) (0,(0,(0,(0,(0,(0,0)))))))
 cond (inR c (List.length d)) (
 let m:=(List.getD d (Int.toNat c) (0,(0,(0,(0,(0,(0,0)))))))
 cond (inR c (List.length d)) (
 let n:=(List.getD d (Int.toNat c) (0,(0,(0,(0,(0,(0,0)))))))
 (jqL u q.2.2.1 m.2.2.2.1 n.2.2.2.2.1).bind λs=>
 let k:=(w64 (s.1*86400))
 cond (inR c (List.length d)) (
 let i:=(List.getD d (Int.toNat c) (0,(0,(0,(0,(0,(0,0)))))))
 let p:=(w64 (k+i.2.2.2.2.2.1))
 cond (inR c (List.length d)) (
 let r:=(List.getD d (Int.toNat c) (0,(0,(0,(0,(0,(0,0)))))))
 let j:=(Int.ofNat (List.length v))
 (C3 d c u j p r.2.2.2.2.2.2 v).bind λa=>
 let g:af:=[(a.2.2.2.2.1,a.2.2.2.2.2.1)]
 cond (decide (List.length a.2.2.2.2.2.2+List.length g<=aY)) (
 let b:af:=(a.2.2.2.2.2.2++g)
 let e:=(w64 (a.2.2.2.1+1))
 cond (decide (0<=e)&&decide (e<=(Int.ofNat (List.length b)))) (
 cond (decide (0<=a.2.2.2.1)&&decide (a.2.2.2.1<=(Int.ofNat (List.length b)))) (
 let f:af:=(over b (Int.toNat e) (List.drop (Int.toNat a.2.2.2.1) b))
 let w:=(Int.ofNat (min (List.length (List.drop (Int.toNat a.2.2.2.1) b)) (List.length b-(Int.toNat e))))
 cond (inR a.2.2.2.1 (List.length f)) (
 let t:af:=(List.set f (Int.toNat a.2.2.2.1) (a.2.2.2.2.1,a.2.2.2.2.2.1))
 let l:=(w64 (a.2.2.1+1))
 some (.inl (a.1,a.2.1,l,t))) none) none) none) none) none) none) none) none) none) (
 some (.inr (d,c,v)))) none
def Gc[LP](d:bf)(c b:Int)(a:af):Option ((bf×Int×af)):=
 LP.lp (unc4 (j3W)) (d,c,b,a)
theorem TL(b d a c):Gc b d a c=lpK (j3W b d a c) (λh=>Gc h.1 h.2.1 h.2.2.1 h.2.2.2):=bh _ _
def j3X[LP](c:bf)(f:Int)(g:af):Option ((bf×Int×af) ⊕ (af)):=
 let b:=(Int.ofNat (List.length c))
 cond (decide (f<b)) (
 cond (inR f (List.length c)) (
 let d:=(List.getD c (Int.toNat f) (0,(0,(0,(0,(0,(0,0)))))))
 (Gc c f d.1 g).bind λa=>
 let e:=(w64 (a.2.1+1))
 some (.inl (a.1,e,a.2.2))) none) (
 some (.inr g))
def C4[LP](c:bf)(b:Int)(a:af):Option (af):=
 LP.lp (unc3 (j3X)) (c,b,a)
theorem TM(c b a):C4 c b a=lpK (j3X c b a) (λh=>C4 h.1 h.2.1 h.2.2):=bh _ _
def jad[LP](a:bf):Option (af):=
 (C4 a 0 ([]:af)).bind λb=>
 some b
def j3Y(o c:Int)(n:ByteArray)(d:Int)(a:bf):Option ((Int×Int×ByteArray×Int×bf) ⊕ (Int ⊕ (Int×ByteArray×Int×bf))):=
 let e:=(Int.ofNat (List.length a))
 cond (decide (c<e)) (
 cond (inR c (List.length a)) (
 let b:=(List.getD a (Int.toNat c) (0,(0,(0,(0,(0,(0,0)))))))
 (jhC (b.1,(b.2.1,(b.2.2.1,(b.2.2.2.1,(b.2.2.2.2.1,(b.2.2.2.2.2.1,b.2.2.2.2.2.2))))))).bind λg=>
 cond (!g) (
 some (.inr (.inl 1))) (
 cond (inR c (List.length a)) (
 let l:=(List.getD a (Int.toNat c) (0,(0,(0,(0,(0,(0,0)))))))
 cond (inR c (List.length a)) (
 let f:=(List.getD a (Int.toNat c) (0,(0,(0,(0,(0,(0,0)))))))
 let m:=(w64 (l.2.1-f.1))
 let j:=(w64 (m+1))
 let i:=(w64 (o+j))
 let k:=(w64 (c+1))
 some (.inl (i,k,n,d,a))) none) none)) none) (
 some (.inr (.inr (o,n,d,a))))
def C5[LP](e c:Int)(d:ByteArray)(b:Int)(a:bf):Option (Int ⊕ (Int×ByteArray×Int×bf)):=
 LP.lp (unc5 (j3Y)) (e,c,d,b,a)
theorem TN(e c d b a):C5 e c d b a=lpK (j3Y e c d b a) (λh=>C5 h.1 h.2.1 h.2.2.1 h.2.2.2.1 h.2.2.2.2):=bh _ _
def j3Z(o c:Int)(e d:af):Option ((Int×Int×af×af) ⊕ (Int ⊕ af)):=
 let u:=(Int.ofNat (List.length d))
 cond (decide (c<u)) (
 cond (inR c (List.length d)) (
 let v:=(List.getD d (Int.toNat c) (0,0)).2
 cond (v==o) (
 let s:=(w64 (c+1))
 some (.inl (o,s,e,d))) (
 cond (inR c (List.length d)) (
 let w:=(List.getD d (Int.toNat c) (0,0)).1
 let b:=(w64 (w-o))
 cond (inR c (List.length d)) (
 let a:=(List.getD d (Int.toNat c) (0,0)).2
 let x:=(w64 (a-o))
 (jb2 x (-86399) 86399).bind λr=>
 cond (!r) (
 some (.inr (.inl 6))) (
 (jb2 b 0 8589934592).bind λt=>
 cond (!t) (
 some (.inr (.inl 6))) (
 let y:=(Int.ofNat (List.length e))
 cond (decide (y>0)) (
 let m:=(Int.ofNat (List.length e))
 let g:=(w64 (m-1))
 cond (inR g (List.length e)) (
 let j:=(List.getD e (Int.toNat g) (0,0)).1
 let l:=(w64 (b-j))
 cond (decide (l<604800)) (
 some (.inr (.inl 6))) (
 let i:af:=[(b,a)]
 cond (decide (List.length e+List.length i<=aY)) (
 let k:af:=(e++i)
 let q:=(w64 (c+1))
 some (.inl (a,q,k,d))) none)) none) (
 let f:af:=[(b,a)]
 cond (decide (List.length e+List.length f<=aY)) (
 let n:af:=(e++f)
 let p:=(w64 (c+1))
 some (.inl (a,p,n,d))) none)))) none) none)) none) (
 some (.inr (.inr e)))
def C6[LP](a d:Int)(c b:af):Option (Int ⊕ af):=
 LP.lp (unc4 (j3Z)) (a,d,c,b)
theorem TO(a c d b):C6 a c d b=lpK (j3Z a c d b) (λh=>C6 h.1 h.2.1 h.2.2.1 h.2.2.2):=bh _ _
def j25[LP](a:dG):Option (af×Int):=
 (jb2 a.2.1 (-64800) 64800).bind λc=>
 cond (!c) (
 some (([]:af),1)) (
 let f:=(Int.ofNat (List.length a.2.2))
 cond (decide (f>16)) (
 some (([]:af),5)) (
 (C5 0 0 a.1 a.2.1 a.2.2).bind λj=>
 sumC j (λk=>
 some (([]:af),k)) (λi=>
 cond (decide (i.1>640)) (
 some (([]:af),5)) (
 (jad i.2.2.2).bind λb=>
 (C6 i.2.2.1 0 ([]:af) b).bind λg=>
 sumC g (λd=>
 some (([]:af),d)) (λe=>
 some (e,0))))))
def j8e[LP](a:dG):Option (Int):=
 (j25 (a.1,(a.2.1,a.2.2))).bind λb=>
 some b.2
def j5y(i:Bool)(e:Int)(j:ByteArray)(g:Int)(a:bf):Option ((Bool×Int×ByteArray×Int×bf) ⊕ (Bool)):=
 let f:=(Int.ofNat (List.length a))
 cond (decide (e<f)) (
 cond ((inR e (List.length a)) || !i) (
 let d:=(List.getD a (Int.toNat e) (0,(0,(0,(0,(0,(0,0)))))))
 let b:=(Int.tmod d.2.2.2.2.2.2 60)
 let c:=(w64 (e+1))
 some (.inl ((cond i (b==0) false),c,j,g,a))) none) (
 some (.inr i))
def C7[LP](c:Bool)(e:Int)(d:ByteArray)(b:Int)(a:bf):Option (Bool):=
 LP.lp (unc5 (j5y)) (c,e,d,b,a)
theorem TP(c e d b a):C7 c e d b a=lpK (j5y c e d b a) (λh=>C7 h.1 h.2.1 h.2.2.1 h.2.2.2.1 h.2.2.2.2):=bh _ _
def jds[LP](a:dG):Option (Bool):=
 let c:=(Int.tmod a.2.1 60)
 (C7 (c==0) 0 a.1 a.2.1 a.2.2).bind λb=>
 some b
def j6M[LP](c:Int)(d:ai)(n:ak)(m:an)(l:ao)(p:(List ByteArray)):Option ((Int×ai×ak×an×ao×(List ByteArray)) ⊕ (Int ⊕ Unit)):=
 let o:=(Int.ofNat (List.length d))
 cond (decide (c<o)) (
 cond (inR c (List.length d)) (
 let f:=(List.getD d (Int.toNat c) (ByteArray.empty,(0,([]:bf))))
 cond (decide (List.length p+List.length [f.1]<=aY)) (
 let g:(List ByteArray):=(p++[f.1])
 (jcT g c).bind λe=>
 cond (e != 0) (
 some (.inr (.inl e))) (
 cond (inR c (List.length d)) (
 let a:=(List.getD d (Int.toNat c) (ByteArray.empty,(0,([]:bf))))
 (j8e (a.1,(a.2.1,a.2.2))).bind λi=>
 cond ((inR c (List.length d)) || !(!(i != 0))) (
 let b:=(List.getD d (Int.toNat c) (ByteArray.empty,(0,([]:bf))))
 cond (i != 0) (
 some (.inr (.inl 8))) (
 (jds (b.1,(b.2.1,b.2.2))).bind λk=>
 cond (!k) (
 some (.inr (.inl 8))) (
 let j:=(w64 (c+1))
 some (.inl (j,d,n,m,l,g))))) none) none)) none) none) (
 some (.inr (.inr ())))
def C8[LP](f:Int)(e:ai)(c:ak)(b:an)(a:ao)(d:(List ByteArray)):Option (Int ⊕ Unit):=
 LP.lp (unc6 (j6M)) (f,e,c,b,a,d)
theorem TQ(f e c b a d):C8 f e c b a d=lpK (j6M f e c b a d) (λh=>C8 h.1 h.2.1 h.2.2.1 h.2.2.2.1 h.2.2.2.2.1 h.2.2.2.2.2):=bh _ _
def jo7[LP](a:ca):Option (Int):=
 (C8 0 a.1 a.2.1 a.2.2.1 a.2.2.2 ([]:(List ByteArray))).bind λb=>
 sumC b (λc=>
 some c) (λd=>
 some 0)
def j9k(a c b:Int):Option (Bool):=
 some (cond (decide (a>=c)) (decide (a<=b)) false)
def j6N(a:af)(b:Int):Option ((af×Int) ⊕ (Int ⊕ Unit)):=
 let m:=(Int.ofNat (List.length a))
 cond (decide (b<m)) (
 cond (inR b (List.length a)) (
 let k:=(List.getD a (Int.toNat b) (0,0))
 cond (decide (k.1<0)) (
 some (.inr (.inl 1))) (
 cond (inR b (List.length a)) (
 let d:=(List.getD a (Int.toNat b) (0,0))
 cond (inR b (List.length a)) (
 let e:=(List.getD a (Int.toNat b) (0,0))
 cond (decide (d.1>=e.2)) (
 some (.inr (.inl 1))) (
 cond (inR b (List.length a)) (
 let i:=(List.getD a (Int.toNat b) (0,0))
 cond (decide (i.2>604800)) (
 some (.inr (.inl 1))) (
 cond (decide (b>0)) (
 cond (inR b (List.length a)) (
 let l:=(List.getD a (Int.toNat b) (0,0))
 let c:=(w64 (b-1))
 cond (inR c (List.length a)) (
 let j:=(List.getD a (Int.toNat c) (0,0))
 cond (decide (l.1<j.2)) (
 some (.inr (.inl 6))) (
 let f:=(w64 (b+1))
 some (.inl (a,f)))) none) none) (
 let g:=(w64 (b+1))
 some (.inl (a,g))))) none)) none) none)) none) (
 some (.inr (.inr ())))
def C9[LP](b:af)(a:Int):Option (Int ⊕ Unit):=
 LP.lp (unc2 (j6N)) (b,a)
theorem TR(b a):C9 b a=lpK (j6N b a) (λh=>C9 h.1 h.2):=bh _ _
def jfv[LP](a:af):Option (Int):=
 let b:=(Int.ofNat (List.length a))
 cond (decide (b>14)) (
 some 5) (
 (C9 a 0).bind λc=>
 sumC c (λd=>
 some d) (λe=>
 some 0))
def jkI(a:Int):Option (Bool):=
 (j9k a 0 604800).bind λb=>
 let c:=(Int.tmod a 3600)
 some (cond b (c==0) false)
def j63[LP](e:Int)(s:ai)(b:ak)(q:an)(p:ao)(r:(List ByteArray)):Option ((Int×ai×ak×an×ao×(List ByteArray)) ⊕ (Int ⊕ Unit)):=
 let i:=(Int.ofNat (List.length b))
 cond (decide (e<i)) (
 cond (inR e (List.length b)) (
 let a:=(List.getD b (Int.toNat e) (ByteArray.empty,(0,(([]:af),(0,(0,false))))))
 cond (decide (List.length r+List.length [a.1]<=aY)) (
 let d:(List ByteArray):=(r++[a.1])
 let j:Bool:=(ByteArray.toList a.1==ByteArray.toList (ByteArray.mk #[110,111,98,111,100,121]))
 cond j (
 some (.inr (.inl 2))) (
 (jcT d e).bind λc=>
 cond (c != 0) (
 some (.inr (.inl c))) (
 let k:=(Int.ofNat (List.length s))
 let l:=(w64 (k-1))
 (j9k a.2.1 0 l).bind λf=>
 cond (!f) (
 some (.inr (.inl 3))) (
 (jfv a.2.2.1).bind λn=>
 cond (n != 0) (
 some (.inr (.inl 8))) (
 (jkI a.2.2.2.1).bind λo=>
 cond (!o) (
 some (.inr (.inl 1))) (
 (jkI a.2.2.2.2.1).bind λg=>
 cond (!g) (
 some (.inr (.inl 1))) (
 let m:=(w64 (e+1))
 some (.inl (m,s,b,q,p,d))))))))) none) none) (
 some (.inr (.inr ())))
def Da[LP](f:Int)(e:ai)(c:ak)(b:an)(a:ao)(d:(List ByteArray)):Option (Int ⊕ Unit):=
 LP.lp (unc6 (j63)) (f,e,c,b,a,d)
theorem TS(f e c b a d):Da f e c b a d=lpK (j63 f e c b a d) (λh=>Da h.1 h.2.1 h.2.2.1 h.2.2.2.1 h.2.2.2.2.1 h.2.2.2.2.2):=bh _ _
def jlV[LP](a:ca):Option (Int):=
 (Da 0 a.1 a.2.1 a.2.2.1 a.2.2.2 ([]:(List ByteArray))).bind λb=>
 sumC b (λc=>
 some c) (λd=>
 some 0)
def jd9  : Option (Int):=
 (jkE 2241).bind λb=>
 let a:=(w64 (b-1))
 some a
def j4w(p i:Int)(o:ai)(e:ak)(c:an)(b:ao)(m:ByteArray)(d:Int)(a:(List Int))(n:(List ByteArray)):Option ((Int×Int×ai×ak×an×ao×ByteArray×Int×(List Int)×(List ByteArray)) ⊕ (Int ⊕ (Int×ai×ak×an×ao×ByteArray×Int×(List Int)×(List ByteArray)))):=
 let j:=(Int.ofNat (List.length a))
 cond (decide (i<j)) (
 cond (inR i (List.length a)) (
 let f:=(List.getD a (Int.toNat i) 0)
 (jd9).bind λl=>
 (j9k f 0 l).bind λk=>
 cond (!k) (
 some (.inr (.inl 1))) (
 let g:=(w64 (i+1))
 some (.inl (p,g,o,e,c,b,m,d,a,n)))) none) (
 some (.inr (.inr (p,o,e,c,b,m,d,a,n))))
def Db[LP](k f:Int)(j:ai)(e:ak)(b:an)(a:ao)(g:ByteArray)(c:Int)(d:(List Int))(i:(List ByteArray)):Option (Int ⊕ (Int×ai×ak×an×ao×ByteArray×Int×(List Int)×(List ByteArray))):=
 LP.lp (jkB (j4w)) (k,f,j,e,b,a,g,c,d,i)
theorem TT(k f j e b a g c d i):Db k f j e b a g c d i=lpK (j4w k f j e b a g c d i) (λh=>Db h.1 h.2.1 h.2.2.1 h.2.2.2.1 h.2.2.2.2.1 h.2.2.2.2.2.1 h.2.2.2.2.2.2.1 h.2.2.2.2.2.2.2.1 h.2.2.2.2.2.2.2.2.1 h.2.2.2.2.2.2.2.2.2):=bh _ _
def j64(o c:Int)(n:ai)(f:ak)(e:an)(d:ao)(p:ByteArray)(l:Int)(a:(List Int))(m:(List ByteArray)):Option ((Int×Int×ai×ak×an×ao×ByteArray×Int×(List Int)×(List ByteArray)) ⊕ (Int ⊕ (Int×ai×ak×an×ao×(List ByteArray)))):=
 let i:=(Int.ofNat (List.length a))
 cond (decide (c<i)) (
 cond (inR c (List.length a)) (
 let g:=(List.getD a (Int.toNat c) 0)
 let b:=(w64 (c-1))
 cond (inR b (List.length a)) (
 let k:=(List.getD a (Int.toNat b) 0)
 cond (decide (g<=k)) (
 some (.inr (.inl 6))) (
 let j:=(w64 (c+1))
 some (.inl (o,j,n,f,e,d,p,l,a,m)))) none) none) (
 some (.inr (.inr (o,n,f,e,d,m))))
def Dc[LP](k f:Int)(j:ai)(e:ak)(b:an)(a:ao)(g:ByteArray)(c:Int)(d:(List Int))(i:(List ByteArray)):Option (Int ⊕ (Int×ai×ak×an×ao×(List ByteArray))):=
 LP.lp (jkB (j64)) (k,f,j,e,b,a,g,c,d,i)
theorem jju(k f j e b a g c d i):Dc k f j e b a g c d i=lpK (j64 k f j e b a g c d i) (λh=>Dc h.1 h.2.1 h.2.2.1 h.2.2.2.1 h.2.2.2.2.1 h.2.2.2.2.2.1 h.2.2.2.2.2.2.1 h.2.2.2.2.2.2.2.1 h.2.2.2.2.2.2.2.2.1 h.2.2.2.2.2.2.2.2.2):=bh _ _
def j4x[LP](g:Int)(u:ai)(r:ak)(d:an)(p:ao)(t:(List ByteArray)):Option ((Int×ai×ak×an×ao×(List ByteArray)) ⊕ (Int ⊕ Unit)):=
 let i:=(Int.ofNat (List.length d))
 cond (decide (g<i)) (
 cond (inR g (List.length d)) (
 let a:=(List.getD d (Int.toNat g) (ByteArray.empty,(0,([]:(List Int)))))
 cond (decide (List.length t+List.length [a.1]<=aY)) (
 let f:(List ByteArray):=(t++[a.1])
 (jcT f g).bind λe=>
 cond (e != 0) (
 some (.inr (.inl e))) (
 let n:=(Int.ofNat (List.length u))
 let j:=(w64 (n-1))
 (j9k a.2.1 0 j).bind λm=>
 cond (!m) (
 some (.inr (.inl 3))) (
 let k:=(Int.ofNat (List.length a.2.2))
 cond (decide (k>64)) (
 some (.inr (.inl 5))) (
 (Db g 0 u r d p a.1 a.2.1 a.2.2 f).bind λq=>
 sumC q (λs=>
 some (.inr (.inl s))) (λb=>
 (Dc b.1 1 b.2.1 b.2.2.1 b.2.2.2.1 b.2.2.2.2.1 b.2.2.2.2.2.1 b.2.2.2.2.2.2.1 b.2.2.2.2.2.2.2.1 b.2.2.2.2.2.2.2.2).bind λo=>
 sumC o (λv=>
 some (.inr (.inl v))) (λc=>
 let l:=(w64 (c.1+1))
 some (.inl (l,c.2.1,c.2.2.1,c.2.2.2.1,c.2.2.2.2.1,c.2.2.2.2.2)))))))) none) none) (
 some (.inr (.inr ())))
def Dd[LP](f:Int)(e:ai)(c:ak)(b:an)(a:ao)(d:(List ByteArray)):Option (Int ⊕ Unit):=
 LP.lp (unc6 (j4x)) (f,e,c,b,a,d)
theorem TU(f e c b a d):Dd f e c b a d=lpK (j4x f e c b a d) (λh=>Dd h.1 h.2.1 h.2.2.1 h.2.2.2.1 h.2.2.2.2.1 h.2.2.2.2.2):=bh _ _
def jg3[LP](a:ca):Option (Int):=
 (Dd 0 a.1 a.2.1 a.2.2.1 a.2.2.2 ([]:(List ByteArray))).bind λb=>
 sumC b (λc=>
 some c) (λd=>
 some 0)
def j6O(o:Int)(u:ai)(b:ak)(k:an)(e:ao)(v:ByteArray)(i j m c l:Int)(a:(List Int))(g:af)(d f:Int):Option ((Int×ai×ak×an×ao×ByteArray×Int×Int×Int×Int×Int×(List Int)×af×Int×Int) ⊕ (Int ⊕ (ai×ak×an×ao×ByteArray×Int×Int×Int×Int×Int×(List Int)×af×Int×Int))):=
 let q:=(Int.ofNat (List.length a))
 cond (decide (o<q)) (
 cond (inR o (List.length a)) (
 let n:=(List.getD a (Int.toNat o) 0)
 let s:=(Int.ofNat (List.length b))
 let t:=(w64 (s-1))
 (j9k n 0 t).bind λp=>
 cond (!p) (
 some (.inr (.inl 3))) (
 let r:=(w64 (o+1))
 some (.inl (r,u,b,k,e,v,i,j,m,c,l,a,g,d,f)))) none) (
 some (.inr (.inr (u,b,k,e,v,i,j,m,c,l,a,g,d,f))))
def De[LP](n:Int)(p:ai)(b:ak)(c:an)(l:ao)(o:ByteArray)(i m a d k:Int)(e:(List Int))(g:af)(j f:Int):Option (Int ⊕ (ai×ak×an×ao×ByteArray×Int×Int×Int×Int×Int×(List Int)×af×Int×Int)):=
 LP.lp (jAp (j6O)) (n,p,b,c,l,o,i,m,a,d,k,e,g,j,f)
theorem TW(n p b c l o i m a d k e g j f):De n p b c l o i m a d k e g j f=lpK (j6O n p b c l o i m a d k e g j f) (λh=>De h.1 h.2.1 h.2.2.1 h.2.2.2.1 h.2.2.2.2.1 h.2.2.2.2.2.1 h.2.2.2.2.2.2.1 h.2.2.2.2.2.2.2.1 h.2.2.2.2.2.2.2.2.1 h.2.2.2.2.2.2.2.2.2.1 h.2.2.2.2.2.2.2.2.2.2.1 h.2.2.2.2.2.2.2.2.2.2.2.1 h.2.2.2.2.2.2.2.2.2.2.2.2.1 h.2.2.2.2.2.2.2.2.2.2.2.2.2.1 h.2.2.2.2.2.2.2.2.2.2.2.2.2.2):=bh _ _
def jhG[LP](b:ca)(a:eP):Option (Int):=
 let g:=(Int.ofNat (List.length b.1))
 let f:=(w64 (g-1))
 (j9k a.2.1 0 f).bind λp=>
 cond (!p) (
 some 3) (
 (jd9).bind λn=>
 (j9k a.2.2.1.1 1 n).bind λm=>
 cond (!m) (
 some 1) (
 (j9k a.2.2.1.2 0 86399).bind λu=>
 cond (!u) (
 some 1) (
 (j9k a.2.2.2.1 0 2).bind λi=>
 cond (!i) (
 some 1) (
 (j9k a.2.2.2.2.1 1 400).bind λo=>
 cond (!o) (
 some 1) (
 let r:=(Int.ofNat (List.length a.2.2.2.2.2.1))
 cond (r==0) (
 some 7) (
 let l:=(Int.ofNat (List.length a.2.2.2.2.2.1))
 cond (decide (l>12)) (
 some 5) (
 (De 0 b.1 b.2.1 b.2.2.1 b.2.2.2 a.1 a.2.1 a.2.2.1.1 a.2.2.1.2 a.2.2.2.1 a.2.2.2.2.1 a.2.2.2.2.2.1 a.2.2.2.2.2.2.1 a.2.2.2.2.2.2.2.1 a.2.2.2.2.2.2.2.2).bind λv=>
 sumC v (λw=>
 some w) (λd=>
 (jfv d.2.2.2.2.2.2.2.2.2.2.2.1).bind λj=>
 cond (j != 0) (
 some 8) (
 (j9k d.2.2.2.2.2.2.2.2.2.2.2.2.2 0 2).bind λs=>
 cond (!s) (
 some 1) (
 let k:=(Int.ofNat (List.length d.2.2.1))
 let q:=(w64 (k-1))
 cond (d.2.2.2.2.2.2.2.2.2.2.2.2.2 != 0) (
 (j9k d.2.2.2.2.2.2.2.2.2.2.2.2.1 0 q).bind λt=>
 cond (!t) (
 some 3) (
 let e:Bool:=(cond (d.2.2.2.2.2.2.2.2.2.2.2.2.2==0) (d.2.2.2.2.2.2.2.2.2.2.2.2.1 != 0) false)
 cond e (
 some 1) (
 some 0))) (
 let c:Bool:=(cond (d.2.2.2.2.2.2.2.2.2.2.2.2.2==0) (d.2.2.2.2.2.2.2.2.2.2.2.2.1 != 0) false)
 cond c (
 some 1) (
 some 0))))))))))))
def jkJ(d:ca)(a:kZ):Option (Int):=
 let e:=(Int.ofNat (List.length d.2.1))
 (j9k a.1 0 2).bind λk=>
 cond (!k) (
 some 1) (
 let i:=(w64 (e-1))
 (j9k a.2.1 0 i).bind λl=>
 let f:=(w64 (e-1))
 cond (cond (!l) (cond (a.1 != 1) true (a.2.1 != (-1))) false) (
 cond ((!(a.1==2)) || !(!true)) (
 some 3) none) (
 cond (a.1==2) (
 (j9k a.2.2.1 0 f).bind λg=>
 cond (!g) (
 some 3) (
 cond (cond (a.1 != 2) (a.2.2.1 != 0) false) (
 some 1) (
 cond (cond (a.1==2) (a.2.1==a.2.2.1) false) (
 some 4) (
 cond (decide (a.2.2.2.1<0)) (
 some 1) (
 cond (decide (a.2.2.2.2<0)) (
 some 1) (
 let j:=(w64 (Int.tdiv a.2.2.2.2 86400))
 (jd9).bind λm=>
 cond (decide (j>m)) (
 some 1) (
 cond (decide (a.2.2.2.1>=a.2.2.2.2)) (
 some 6) (
 some 0)))))))) (
 cond (cond (a.1 != 2) (a.2.2.1 != 0) false) (
 some 1) (
 cond (cond (a.1==2) (a.2.1==a.2.2.1) false) (
 some 4) (
 cond (decide (a.2.2.2.1<0)) (
 some 1) (
 cond (decide (a.2.2.2.2<0)) (
 some 1) (
 let b:=(w64 (Int.tdiv a.2.2.2.2 86400))
 (jd9).bind λc=>
 cond (decide (b>c)) (
 some 1) (
 cond (decide (a.2.2.2.1>=a.2.2.2.2)) (
 some 6) (
 some 0)))))))))
def j4y[LP](s c:Int)(o:ai)(f:ak)(e:an)(d:ao)(q:ByteArray)(b:aH)(l:ae)(r p:(List ByteArray)):Option ((Int×Int×ai×ak×an×ao×ByteArray×aH×ae×(List ByteArray)×(List ByteArray)) ⊕ (Int ⊕ (Int×ai×ak×an×ao×ByteArray×aH×ae×(List ByteArray)))):=
 let m:=(Int.ofNat (List.length b))
 cond (decide (c<m)) (
 cond (inR c (List.length b)) (
 let j:=(List.getD b (Int.toNat c) (ByteArray.empty,(0,((0,0),(0,(0,(([]:(List Int)),(([]:af),(0,0)))))))))
 cond (decide (List.length p+List.length [j.1]<=aY)) (
 let i:(List ByteArray):=(p++[j.1])
 (jcT i c).bind λg=>
 cond (g != 0) (
 some (.inr (.inl g))) (
 cond (inR c (List.length b)) (
 let a:=(List.getD b (Int.toNat c) (ByteArray.empty,(0,((0,0),(0,(0,(([]:(List Int)),(([]:af),(0,0)))))))))
 (jhG (o,(f,(e,d))) (a.1,(a.2.1,((a.2.2.1.1,a.2.2.1.2),(a.2.2.2.1,(a.2.2.2.2.1,(a.2.2.2.2.2.1,(a.2.2.2.2.2.2.1,(a.2.2.2.2.2.2.2.1,a.2.2.2.2.2.2.2.2))))))))).bind λk=>
 cond (k != 0) (
 some (.inr (.inl k))) (
 let n:=(w64 (c+1))
 some (.inl (s,n,o,f,e,d,q,b,l,r,i)))) none)) none) none) (
 some (.inr (.inr (s,o,f,e,d,q,b,l,r))))
def Df[LP](l f:Int)(k:ai)(e:ak)(b:an)(a:ao)(i:ByteArray)(c:aH)(d:ae)(j g:(List ByteArray)):Option (Int ⊕ (Int×ai×ak×an×ao×ByteArray×aH×ae×(List ByteArray))):=
 LP.lp (jsw (j4y)) (l,f,k,e,b,a,i,c,d,j,g)
theorem TX(l f k e b a i c d j g):Df l f k e b a i c d j g=lpK (j4y l f k e b a i c d j g) (λh=>Df h.1 h.2.1 h.2.2.1 h.2.2.2.1 h.2.2.2.2.1 h.2.2.2.2.2.1 h.2.2.2.2.2.2.1 h.2.2.2.2.2.2.2.1 h.2.2.2.2.2.2.2.2.1 h.2.2.2.2.2.2.2.2.2.1 h.2.2.2.2.2.2.2.2.2.2):=bh _ _
def j4z(n g:Int)(l:ai)(e:ak)(d:an)(c:ao)(o:ByteArray)(k:aH)(b:ae)(m:(List ByteArray)):Option ((Int×Int×ai×ak×an×ao×ByteArray×aH×ae×(List ByteArray)) ⊕ (Int ⊕ (Int×ai×ak×an×ao×(List ByteArray)))):=
 let j:=(Int.ofNat (List.length b))
 cond (decide (g<j)) (
 cond (inR g (List.length b)) (
 let a:=(List.getD b (Int.toNat g) (0,(0,(0,(0,0)))))
 (jkJ (l,(e,(d,c))) (a.1,(a.2.1,(a.2.2.1,(a.2.2.2.1,a.2.2.2.2))))).bind λf=>
 cond (f != 0) (
 some (.inr (.inl f))) (
 let i:=(w64 (g+1))
 some (.inl (n,i,l,e,d,c,o,k,b,m)))) none) (
 some (.inr (.inr (n,l,e,d,c,m))))
def Dg[LP](k f:Int)(j:ai)(e:ak)(b:an)(a:ao)(g:ByteArray)(c:aH)(d:ae)(i:(List ByteArray)):Option (Int ⊕ (Int×ai×ak×an×ao×(List ByteArray))):=
 LP.lp (jkB (j4z)) (k,f,j,e,b,a,g,c,d,i)
theorem TY(k f j e b a g c d i):Dg k f j e b a g c d i=lpK (j4z k f j e b a g c d i) (λh=>Dg h.1 h.2.1 h.2.2.1 h.2.2.2.1 h.2.2.2.2.1 h.2.2.2.2.2.1 h.2.2.2.2.2.2.1 h.2.2.2.2.2.2.2.1 h.2.2.2.2.2.2.2.2.1 h.2.2.2.2.2.2.2.2.2):=bh _ _
def j4A[LP](g:Int)(t:ai)(p:ak)(o:an)(d:ao)(r:(List ByteArray)):Option ((Int×ai×ak×an×ao×(List ByteArray)) ⊕ (Int ⊕ Unit)):=
 let k:=(Int.ofNat (List.length d))
 cond (decide (g<k)) (
 cond (inR g (List.length d)) (
 let a:=(List.getD d (Int.toNat g) (ByteArray.empty,(([]:aH),([]:ae))))
 cond (decide (List.length r+List.length [a.1]<=aY)) (
 let e:(List ByteArray):=(r++[a.1])
 (jcT e g).bind λf=>
 cond (f != 0) (
 some (.inr (.inl f))) (
 let j:=(Int.ofNat (List.length a.2.1))
 let i:=(Int.ofNat (List.length a.2.2))
 cond (cond (decide (j>6)) true (decide (i>48))) (
 some (.inr (.inl 5))) (
 (Df g 0 t p o d a.1 a.2.1 a.2.2 e ([]:(List ByteArray))).bind λn=>
 sumC n (λq=>
 some (.inr (.inl q))) (λb=>
 (Dg b.1 0 b.2.1 b.2.2.1 b.2.2.2.1 b.2.2.2.2.1 b.2.2.2.2.2.1 b.2.2.2.2.2.2.1 b.2.2.2.2.2.2.2.1 b.2.2.2.2.2.2.2.2).bind λm=>
 sumC m (λs=>
 some (.inr (.inl s))) (λc=>
 let l:=(w64 (c.1+1))
 some (.inl (l,c.2.1,c.2.2.1,c.2.2.2.1,c.2.2.2.2.1,c.2.2.2.2.2))))))) none) none) (
 some (.inr (.inr ())))
def Dh[LP](f:Int)(e:ai)(c:ak)(b:an)(a:ao)(d:(List ByteArray)):Option (Int ⊕ Unit):=
 LP.lp (unc6 (j4A)) (f,e,c,b,a,d)
theorem TZ(f e c b a d):Dh f e c b a d=lpK (j4A f e c b a d) (λh=>Dh h.1 h.2.1 h.2.2.1 h.2.2.2.1 h.2.2.2.2.1 h.2.2.2.2.2):=bh _ _
def jg4[LP](a:ca):Option (Int):=
 (Dh 0 a.1 a.2.1 a.2.2.1 a.2.2.2 ([]:(List ByteArray))).bind λb=>
 sumC b (λc=>
 some c) (λd=>
 some 0)
def jkK[LP](a:ca):Option (Int):=
 let k:=(Int.ofNat (List.length a.1))
 let i:=(Int.ofNat (List.length a.2.1))
 let j:=(Int.ofNat (List.length a.2.2.1))
 let g:Bool:=(cond (cond (decide (k>16)) true (decide (i>32))) true (decide (j>8)))
 let f:=(Int.ofNat (List.length a.2.2.2))
 cond (cond g true (decide (f>12))) (
 some 5) (
 (jo7 (a.1,(a.2.1,(a.2.2.1,a.2.2.2)))).bind λc=>
 cond (c != 0) (
 some c) (
 (jlV (a.1,(a.2.1,(a.2.2.1,a.2.2.2)))).bind λd=>
 cond (d != 0) (
 some d) (
 (jg3 (a.1,(a.2.1,(a.2.2.1,a.2.2.2)))).bind λb=>
 cond (b != 0) (
 some b) (
 (jg4 (a.1,(a.2.1,(a.2.2.1,a.2.2.2)))).bind λe=>
 some e))))
def jyu[LP](b:ca)(a c:Int):Option (Bool):=
 let e:=(Int.ofNat (List.length b.2.2.2))
 let f:Bool:=(cond (cond (decide (a>=0)) (decide (a<e)) false) (decide (c>=0)) false)
 cond (cond f (decide (c<=8589934592)) false) (
 (jkK (b.1,(b.2.1,(b.2.2.1,b.2.2.2)))).bind λd=>
 some (d==0)) (
 some false)
def jhH[LP](b:dG)(a:eP):Option (Int):=
 (j8e (b.1,(b.2.1,b.2.2))).bind λi=>
 let g:Bool:=(cond (cond (i != 0) true (decide (a.2.2.1.1<1))) true (decide (a.2.2.1.1>100000)))
 let d:Bool:=(cond (cond g true (decide (a.2.2.1.2<0))) true (decide (a.2.2.1.2>=86400)))
 let e:Bool:=(cond (cond d true (decide (a.2.2.2.1<0))) true (decide (a.2.2.2.1>2)))
 let c:Bool:=(cond (cond e true (decide (a.2.2.2.2.1<1))) true (decide (a.2.2.2.2.1>400)))
 let f:=(Int.ofNat (List.length a.2.2.2.2.2.1))
 cond (cond c true (f==0)) (
 some 8) (
 some 0)
def jhI(a:Int):Option (Bool):=
 (jb2 a (-2) 99422).bind λb=>
 some b
def j5o(c:Int)(a4:ByteArray)(d:Int)(f:bf)(g a:Int)(b:af):Option ((Int×ByteArray×Int×bf×Int×Int×af) ⊕ ((Int×Int) ⊕ Unit)):=
 let a1:=(Int.ofNat (List.length b))
 cond (decide (c<a1)) (
 cond (decide (c>=0)) (
 cond (inR c (List.length b)) (
 let m:=(List.getD b (Int.toNat c) (0,0)).2
 cond (inR c (List.length b)) (
 let e:=(List.getD b (Int.toNat c) (0,0)).1
 let y:=(w64 (c+1))
 let a8:=(Int.ofNat (List.length b))
 cond (decide (y<a8)) (
 let n:=(w64 (c+1))
 cond (inR n (List.length b)) (
 let u:=(List.getD b (Int.toNat n) (0,0)).1
 let a5:=(w64 (g*86400))
 let a2:=(w64 (a5+a))
 let i:=(w64 (a2-m))
 let j:Int:=(if i>e then i else e:Int)
 cond (decide (j<u)) (
 some (.inr (.inl (j,0)))) (
 let b0:=(w64 (c+1))
 some (.inl (b0,a4,d,f,g,a,b)))) none) (
 let t:=(w64 (g*86400))
 let x:=(w64 (t+a))
 let r:=(w64 (x-m))
 let q:Int:=(if r>e then r else e:Int)
 cond (decide (q<8589934593)) (
 some (.inr (.inl (q,0)))) (
 let a0:=(w64 (c+1))
 some (.inl (a0,a4,d,f,g,a,b))))) none) none) (
 let z:=(w64 (c+1))
 let a7:=(Int.ofNat (List.length b))
 cond (decide (z<a7)) (
 let l:=(w64 (c+1))
 cond (inR l (List.length b)) (
 let a3:=(List.getD b (Int.toNat l) (0,0)).1
 let v:=(w64 (g*86400))
 let a6:=(w64 (v+a))
 let s:=(w64 (a6-d))
 let p:Int:=(if s>0 then s else 0:Int)
 cond (decide (p<a3)) (
 some (.inr (.inl (p,0)))) (
 let w:=(w64 (c+1))
 some (.inl (w,a4,d,f,g,a,b)))) none) (
 let a9:=(w64 (g*86400))
 let b2:=(w64 (a9+a))
 let k:=(w64 (b2-d))
 let o:Int:=(if k>0 then k else 0:Int)
 cond (decide (o<8589934593)) (
 some (.inr (.inl (o,0)))) (
 let b1:=(w64 (c+1))
 some (.inl (b1,a4,d,f,g,a,b)))))) (
 some (.inr (.inr ())))
def sU[LP](d:Int)(g:ByteArray)(a:Int)(b:bf)(f c:Int)(e:af):Option ((Int×Int) ⊕ Unit):=
 LP.lp (unc7 (j5o)) (d,g,a,b,f,c,e)
theorem Kt(d g a b f c e):sU d g a b f c e=lpK (j5o d g a b f c e) (λh=>sU h.1 h.2.1 h.2.2.1 h.2.2.2.1 h.2.2.2.2.1 h.2.2.2.2.2.1 h.2.2.2.2.2.2):=bh _ _
def j66[LP](a:dG)(b:(Int×Int)):Option (Int×Int):=
 (j25 (a.1,(a.2.1,a.2.2))).bind λc=>
 cond (c.2 != 0) (
 some (0,8)) (
 (jb2 b.2 0 86399).bind λd=>
 cond (!d) (
 some (0,1)) (
 cond (decide (b.1<(-2))) (
 some (0,0)) (
 (jhI b.1).bind λe=>
 cond (!e) (
 some (0,10)) (
 (sU (-1) a.1 a.2.1 a.2.2 b.1 b.2 c.1).bind λf=>
 sumC f (λg=>
 some (g.1,g.2)) (λi=>
 some (0,10))))))
def j67(c:af)(g i a:Int):Option ((af×Int×Int×Int) ⊕ (Int)):=
 let b:=(Int.ofNat (List.length c))
 cond ((inR a (List.length c)) || !(decide (a<b))) (
 let e:=(List.getD c (Int.toNat a) (0,0))
 cond (cond (decide (a<b)) (decide (e.1<=g)) false) (
 cond (inR a (List.length c)) (
 let d:=(List.getD c (Int.toNat a) (0,0))
 let f:=(w64 (a+1))
 some (.inl (c,g,d.2,f))) none) (
 some (.inr i))) none
def Di[LP](c:af)(d a b:Int):Option (Int):=
 LP.lp (unc4 (j67)) (c,d,a,b)
theorem T0(c d b a):Di c d b a=lpK (j67 c d b a) (λh=>Di h.1 h.2.1 h.2.2.1 h.2.2.2):=bh _ _
def jiz[LP](b:dG)(c:af)(a:Int):Option (Int):=
 (Di c a b.2.1 0).bind λd=>
 some d
def jc0[LP](a:dG)(b:Int):Option (Int×Int):=
 (j25 (a.1,(a.2.1,a.2.2))).bind λc=>
 cond (c.2 != 0) (
 some (0,8)) (
 (jb2 b 0 8589934592).bind λe=>
 cond (!e) (
 some (0,1)) (
 (jiz (a.1,(a.2.1,a.2.2)) c.1 b).bind λd=>
 some (d,0)))
def jkL(b a:Int):Option ((Int×Int)):=
 let g:=(w64 (b+a))
 let f:=(w64 (g+864000))
 let d:=(w64 (Int.tdiv f 86400))
 let e:=(w64 (d-10))
 let c:=(Int.tmod f 86400)
 some (e,c)
def j4S[LP](a:dG)(c:Int):Option ((Int×Int)×Int):=
 (jc0 (a.1,(a.2.1,a.2.2)) c).bind λb=>
 cond (b.2 != 0) (
 some ((0,0),b.2)) (
 (jkL c b.1).bind λd=>
 some ((d.1,d.2),0))
def jc1[LP](b:dG)(a:eP)(e:Int):Option (Int×Bool):=
 cond (a.2.2.2.1==0) (
 (j66 (b.1,(b.2.1,b.2.2)) (a.2.2.1.1,a.2.2.1.2)).bind λd=>
 let m:=(w64 (e*a.2.2.2.2.1))
 let g:=(w64 (m*3600))
 let n:=(w64 (d.1+g))
 let l:=(w64 (d.1+g))
 some (n,(cond (d.2==0) (decide (l<=8589934592)) false))) (
 let i:=(w64 (e*a.2.2.2.2.1))
 cond (a.2.2.2.1==2) (
 let k:=(w64 (i*7))
 let o:=(w64 (a.2.2.1.1+k))
 (j66 (b.1,(b.2.1,b.2.2)) (o,a.2.2.1.2)).bind λj=>
 some (j.1,(j.2==0))) (
 let f:=(w64 (a.2.2.1.1+i))
 (j66 (b.1,(b.2.1,b.2.2)) (f,a.2.2.1.2)).bind λc=>
 some (c.1,(c.2==0))))
def j6P[LP](r i:Int)(q:ByteArray)(g:Int)(n:bf)(p:ByteArray)(m b d l k:Int)(f:(List Int))(c:af)(j e:Int):Option ((Int×Int×ByteArray×Int×bf×ByteArray×Int×Int×Int×Int×Int×(List Int)×af×Int×Int) ⊕ (Int)):=
 cond (decide (i>=0)) (
 (jc1 (q,(g,n)) (p,(m,((b,d),(l,(k,(f,(c,(j,e)))))))) i).bind λa=>
 cond (cond a.2 (decide (a.1<=r)) false) (
 some (.inr i)) (
 let o:=(w64 (i-1))
 some (.inl (r,o,q,g,n,p,m,b,d,l,k,f,c,j,e)))) (
 some (.inr i))
def xI[LP](p n:Int)(o:ByteArray)(f:Int)(l:bf)(m:ByteArray)(k a c j i:Int)(e:(List Int))(b:af)(g d:Int):Option (Int):=
 LP.lp (jAp (j6P)) (p,n,o,f,l,m,k,a,c,j,i,e,b,g,d)
theorem T1(p n o f l m k a c j i e b g d):xI p n o f l m k a c j i e b g d=lpK (j6P p n o f l m k a c j i e b g d) (λh=>xI h.1 h.2.1 h.2.2.1 h.2.2.2.1 h.2.2.2.2.1 h.2.2.2.2.2.1 h.2.2.2.2.2.2.1 h.2.2.2.2.2.2.2.1 h.2.2.2.2.2.2.2.2.1 h.2.2.2.2.2.2.2.2.2.1 h.2.2.2.2.2.2.2.2.2.2.1 h.2.2.2.2.2.2.2.2.2.2.2.1 h.2.2.2.2.2.2.2.2.2.2.2.2.1 h.2.2.2.2.2.2.2.2.2.2.2.2.2.1 h.2.2.2.2.2.2.2.2.2.2.2.2.2.2):=bh _ _
def jhK[LP](b:dG)(a:eP)(c:Int):Option (Int):=
 cond (a.2.2.2.1==0) (
 (j66 (b.1,(b.2.1,b.2.2)) (a.2.2.1.1,a.2.2.1.2)).bind λe=>
 cond (cond (e.2==0) (decide (e.1<=c)) false) (
 let o:=(w64 (c-e.1))
 let l:=(w64 (3600*a.2.2.2.2.1))
 cond (!(l==0)) (
 let r:=(w64 (Int.tdiv o l))
 some r) none) (
 some (-1))) (
 (j4S (b.1,(b.2.1,b.2.2)) c).bind λk=>
 cond (a.2.2.2.1==2) (
 let j:=(w64 (a.2.2.2.2.1*7))
 let q:=(w64 (k.1.1+2))
 let m:=(w64 (q-a.2.2.1.1))
 let p:Int:=(if 0>m then 0 else m:Int)
 cond (!(j==0)) (
 let s:=(w64 (Int.tdiv p j))
 (xI c s b.1 b.2.1 b.2.2 a.1 a.2.1 a.2.2.1.1 a.2.2.1.2 a.2.2.2.1 a.2.2.2.2.1 a.2.2.2.2.2.1 a.2.2.2.2.2.2.1 a.2.2.2.2.2.2.2.1 a.2.2.2.2.2.2.2.2).bind λt=>
 some t) none) (
 let f:=(w64 (k.1.1+2))
 let d:=(w64 (f-a.2.2.1.1))
 let g:Int:=(if 0>d then 0 else d:Int)
 cond (!(a.2.2.2.2.1==0)) (
 let i:=(w64 (Int.tdiv g a.2.2.2.2.1))
 (xI c i b.1 b.2.1 b.2.2 a.1 a.2.1 a.2.2.1.1 a.2.2.1.2 a.2.2.2.1 a.2.2.2.2.1 a.2.2.2.2.2.1 a.2.2.2.2.2.2.1 a.2.2.2.2.2.2.2.1 a.2.2.2.2.2.2.2.2).bind λn=>
 some n) none))
def jhL[LP](b:dG)(a:eP)(c:Int):Option (Int×Int):=
 (jhH (b.1,(b.2.1,b.2.2)) (a.1,(a.2.1,((a.2.2.1.1,a.2.2.1.2),(a.2.2.2.1,(a.2.2.2.2.1,(a.2.2.2.2.2.1,(a.2.2.2.2.2.2.1,(a.2.2.2.2.2.2.2.1,a.2.2.2.2.2.2.2.2))))))))).bind λe=>
 cond (e != 0) (
 some (0,8)) (
 cond (cond (decide (c<0)) true (decide (c>8589934592))) (
 some (0,1)) (
 (jhK (b.1,(b.2.1,b.2.2)) (a.1,(a.2.1,((a.2.2.1.1,a.2.2.1.2),(a.2.2.2.1,(a.2.2.2.2.1,(a.2.2.2.2.2.1,(a.2.2.2.2.2.2.1,(a.2.2.2.2.2.2.2.1,a.2.2.2.2.2.2.2.2)))))))) c).bind λd=>
 some (d,0)))
def jiA(a:(Int×Int)):Option (Int):=
 (jg2 a.1).bind λd=>
 let c:=(w64 (d*86400))
 let b:=(w64 (c+a.2))
 some b
def jda[LP](a:dG)(c:Int):Option (Int×Int):=
 (j4S (a.1,(a.2.1,a.2.2)) c).bind λb=>
 cond (b.2 != 0) (
 some (0,b.2)) (
 (jiA (b.1.1,b.1.2)).bind λd=>
 some (d,0))
def j68(c:af)(f b:Int):Option ((af×Int×Int) ⊕ (Bool ⊕ Unit)):=
 let g:=(Int.ofNat (List.length c))
 cond (decide (b<g)) (
 cond (inR b (List.length c)) (
 let a:=(List.getD c (Int.toNat b) (0,0))
 cond ((inR b (List.length c)) || !(decide (f>=a.1))) (
 let e:=(List.getD c (Int.toNat b) (0,0))
 cond (cond (decide (f>=a.1)) (decide (f<e.2)) false) (
 some (.inr (.inl true))) (
 let d:=(w64 (b+1))
 some (.inl (c,f,d)))) none) none) (
 some (.inr (.inr ())))
def Dj[LP](b:af)(c a:Int):Option (Bool ⊕ Unit):=
 LP.lp (unc3 (j68)) (b,c,a)
theorem T2(b c a):Dj b c a=lpK (j68 b c a) (λh=>Dj h.1 h.2.1 h.2.2):=bh _ _
def jiB[LP](b:af)(a:Int):Option (Bool):=
 (Dj b a 0).bind λc=>
 sumC c (λd=>
 some d) (λe=>
 some false)
def jsy[LP](a:dG)(b:af)(d:Int):Option (Bool):=
 (jda (a.1,(a.2.1,a.2.2)) d).bind λc=>
 cond (c.2==0) (
 (jfv b).bind λf=>
 cond (f==0) (
 (jiB b c.1).bind λe=>
 some e) (
 some false)) (
 some false)
def j7x(w:Int)(u:Bool)(b:Int)(v:ByteArray)(f i j l e:Int)(k:(List Int))(c:af)(d g:Int)(t:ByteArray)(n:Int)(a:(List Int))(o m:Int):Option ((Int×Bool×Int×ByteArray×Int×Int×Int×Int×Int×(List Int)×af×Int×Int×ByteArray×Int×(List Int)×Int×Int) ⊕ ((Int×Bool×ByteArray×Int×Int×Int×Int×Int×(List Int)×af×Int×Int))):=
 let p:=(Int.ofNat (List.length a))
 cond (decide (b<p)) (
 cond u (
 let q:=(w64 (b+1))
 some (.inl (w,true,q,v,f,i,j,l,e,k,c,d,g,t,n,a,o,m))) (
 cond (inR b (List.length a)) (
 let r:=(List.getD a (Int.toNat b) 0)
 let s:=(w64 (b+1))
 some (.inl (w,(r==o),s,v,f,i,j,l,e,k,c,d,g,t,n,a,o,m))) none)) (
 some (.inr (w,u,v,f,i,j,l,e,k,c,d,g)))
def xJ[LP](r:Int)(q:Bool)(p:Int)(s:ByteArray)(m d f l k:Int)(g:(List Int))(e:af)(j i:Int)(n:ByteArray)(b:Int)(c:(List Int))(o a:Int):Option ((Int×Bool×ByteArray×Int×Int×Int×Int×Int×(List Int)×af×Int×Int)):=
 LP.lp (jDm (j7x)) (r,q,p,s,m,d,f,l,k,g,e,j,i,n,b,c,o,a)
theorem T3(s q o r g j k m f l d e i n b c p a):xJ s q o r g j k m f l d e i n b c p a=lpK (j7x s q o r g j k m f l d e i n b c p a) (λh=>xJ h.1 h.2.1 h.2.2.1 h.2.2.2.1 h.2.2.2.2.1 h.2.2.2.2.2.1 h.2.2.2.2.2.2.1 h.2.2.2.2.2.2.2.1 h.2.2.2.2.2.2.2.2.1 h.2.2.2.2.2.2.2.2.2.1 h.2.2.2.2.2.2.2.2.2.2.1 h.2.2.2.2.2.2.2.2.2.2.2.1 h.2.2.2.2.2.2.2.2.2.2.2.2.1 h.2.2.2.2.2.2.2.2.2.2.2.2.2.1 h.2.2.2.2.2.2.2.2.2.2.2.2.2.2.1 h.2.2.2.2.2.2.2.2.2.2.2.2.2.2.2.1 h.2.2.2.2.2.2.2.2.2.2.2.2.2.2.2.2.1 h.2.2.2.2.2.2.2.2.2.2.2.2.2.2.2.2.2):=bh _ _
def jkM[LP](b:ca)(a:eP)(g:Int):Option (Int×Bool):=
 cond (inR a.2.1 (List.length b.1)) (
 let e:=(List.getD b.1 (Int.toNat a.2.1) (ByteArray.empty,(0,([]:bf))))
 (jhL (e.1,(e.2.1,e.2.2)) (a.1,(a.2.1,((a.2.2.1.1,a.2.2.1.2),(a.2.2.2.1,(a.2.2.2.2.1,(a.2.2.2.2.2.1,(a.2.2.2.2.2.2.1,(a.2.2.2.2.2.2.2.1,a.2.2.2.2.2.2.2.2)))))))) g).bind λd=>
 let m:=(Int.ofNat (List.length a.2.2.2.2.2.2.1))
 cond (cond (d.2 != 0) true (decide (d.1<0))) (
 cond ((!(decide (m>0))) || !(!true)) (
 some (0,false)) none) (
 cond (decide (m>0)) (
 (jsy (e.1,(e.2.1,e.2.2)) a.2.2.2.2.2.2.1 g).bind λp=>
 cond (!p) (
 some (0,false)) (
 cond (a.2.2.2.2.2.2.2.2==0) (
 some (d.1,true)) (
 cond (inR a.2.2.2.2.2.2.2.1 (List.length b.2.2.1)) (
 let i:=(List.getD b.2.2.1 (Int.toNat a.2.2.2.2.2.2.2.1) (ByteArray.empty,(0,([]:(List Int)))))
 cond (inR i.2.1 (List.length b.1)) (
 let l:=(List.getD b.1 (Int.toNat i.2.1) (ByteArray.empty,(0,([]:bf))))
 (j4S (l.1,(l.2.1,l.2.2)) g).bind λn=>
 (xJ d.1 false 0 a.1 a.2.1 a.2.2.1.1 a.2.2.1.2 a.2.2.2.1 a.2.2.2.2.1 a.2.2.2.2.2.1 a.2.2.2.2.2.2.1 a.2.2.2.2.2.2.2.1 a.2.2.2.2.2.2.2.2 i.1 i.2.1 i.2.2 n.1.1 n.1.2).bind λo=>
 some (o.1,(o.2.1==(o.2.2.2.2.2.2.2.2.2.2.2==2)))) none) none))) (
 cond (a.2.2.2.2.2.2.2.2==0) (
 some (d.1,true)) (
 cond (inR a.2.2.2.2.2.2.2.1 (List.length b.2.2.1)) (
 let c:=(List.getD b.2.2.1 (Int.toNat a.2.2.2.2.2.2.2.1) (ByteArray.empty,(0,([]:(List Int)))))
 cond (inR c.2.1 (List.length b.1)) (
 let f:=(List.getD b.1 (Int.toNat c.2.1) (ByteArray.empty,(0,([]:bf))))
 (j4S (f.1,(f.2.1,f.2.2)) g).bind λk=>
 (xJ d.1 false 0 a.1 a.2.1 a.2.2.1.1 a.2.2.1.2 a.2.2.2.1 a.2.2.2.2.1 a.2.2.2.2.2.1 a.2.2.2.2.2.2.1 a.2.2.2.2.2.2.2.1 a.2.2.2.2.2.2.2.2 c.1 c.2.1 c.2.2 k.1.1 k.1.2).bind λj=>
 some (j.1,(j.2.1==(j.2.2.2.2.2.2.2.2.2.2.2==2)))) none) none)))) none
def jo8[LP](b:ca)(a:eP)(f:Int):Option (Int):=
 (jkM (b.1,(b.2.1,(b.2.2.1,b.2.2.2))) (a.1,(a.2.1,((a.2.2.1.1,a.2.2.1.2),(a.2.2.2.1,(a.2.2.2.2.1,(a.2.2.2.2.2.1,(a.2.2.2.2.2.2.1,(a.2.2.2.2.2.2.2.1,a.2.2.2.2.2.2.2.2)))))))) f).bind λe=>
 cond (!e.2) (
 some (-1)) (
 let d:=(Int.ofNat (List.length a.2.2.2.2.2.1))
 cond (!(d==0)) (
 let c:=(Int.tmod e.1 d)
 cond (inR c (List.length a.2.2.2.2.2.1)) (
 let g:=(List.getD a.2.2.2.2.2.1 (Int.toNat c) 0)
 some g) none) none)
def j7y(j g c:Int)(k:ByteArray)(f:aH)(b:ae):Option ((Int×Int×Int×ByteArray×aH×ae) ⊕ (Bool ⊕ Unit)):=
 let e:=(Int.ofNat (List.length b))
 cond (decide (c<e)) (
 cond (inR c (List.length b)) (
 let a:=(List.getD b (Int.toNat c) (0,(0,(0,(0,0)))))
 let i:Bool:=(cond (cond (a.1==0) (a.2.1==j) false) (decide (a.2.2.2.1<=g)) false)
 cond (cond i (decide (g<a.2.2.2.2)) false) (
 some (.inr (.inl true))) (
 let d:=(w64 (c+1))
 some (.inl (j,g,d,k,f,b)))) none) (
 some (.inr (.inr ())))
def Dk[LP](e f c:Int)(d:ByteArray)(a:aH)(b:ae):Option (Bool ⊕ Unit):=
 LP.lp (unc6 (j7y)) (e,f,c,d,a,b)
theorem T4(e f c d a b):Dk e f c d a b=lpK (j7y e f c d a b) (λh=>Dk h.1 h.2.1 h.2.2.1 h.2.2.2.1 h.2.2.2.2.1 h.2.2.2.2.2):=bh _ _
def jnh[LP](b:gT)(a c:Int):Option (Bool):=
 (Dk a c 0 b.1 b.2.1 b.2.2).bind λd=>
 sumC d (λe=>
 some e) (λf=>
 some false)
def j8g[LP](m i:Int)(o:ai)(e:ak)(g:an)(f:ao)(n:ByteArray)(b:aH)(d:ae):Option ((Int×Int×ai×ak×an×ao×ByteArray×aH×ae) ⊕ ((Int×Int) ⊕ Unit)):=
 cond (decide (i>=0)) (
 cond (inR i (List.length b)) (
 let a:=(List.getD b (Int.toNat i) (ByteArray.empty,(0,((0,0),(0,(0,(([]:(List Int)),(([]:af),(0,0)))))))))
 (jo8 (o,(e,(g,f))) (a.1,(a.2.1,((a.2.2.1.1,a.2.2.1.2),(a.2.2.2.1,(a.2.2.2.2.1,(a.2.2.2.2.2.1,(a.2.2.2.2.2.2.1,(a.2.2.2.2.2.2.2.1,a.2.2.2.2.2.2.2.2)))))))) m).bind λc=>
 cond (decide (c>=0)) (
 (jnh (n,(b,d)) c m).bind λl=>
 cond (!l) (
 some (.inr (.inl (i,c)))) (
 let j:=(w64 (i-1))
 some (.inl (m,j,o,e,g,f,n,b,d)))) (
 let k:=(w64 (i-1))
 some (.inl (m,k,o,e,g,f,n,b,d)))) none) (
 some (.inr (.inr ())))
def Dl[LP](j f:Int)(i:ai)(b:ak)(e:an)(d:ao)(g:ByteArray)(c:aH)(a:ae):Option ((Int×Int) ⊕ Unit):=
 LP.lp (unc9 (j8g)) (j,f,i,b,e,d,g,c,a)
theorem T5(j f i b e d g c a):Dl j f i b e d g c a=lpK (j8g j f i b e d g c a) (λh=>Dl h.1 h.2.1 h.2.2.1 h.2.2.2.1 h.2.2.2.2.1 h.2.2.2.2.2.1 h.2.2.2.2.2.2.1 h.2.2.2.2.2.2.2.1 h.2.2.2.2.2.2.2.2):=bh _ _
def jqM[LP](b:ca)(a d:Int):Option (Int×Int):=
 cond (inR a (List.length b.2.2.2)) (
 let c:=(List.getD b.2.2.2 (Int.toNat a) (ByteArray.empty,(([]:aH),([]:ae))))
 let e:=(Int.ofNat (List.length c.2.1))
 let f:=(w64 (e-1))
 (Dl d f b.1 b.2.1 b.2.2.1 b.2.2.2 c.1 c.2.1 c.2.2).bind λg=>
 sumC g (λi=>
 some (i.1,i.2)) (λj=>
 some ((-1),(-1)))) none
def j7z(b:ae)(e d c:Int):Option ((ae×Int×Int×Int) ⊕ (Int)):=
 let l:=(Int.ofNat (List.length b))
 cond (decide (c<l)) (
 cond (inR c (List.length b)) (
 let a:=(List.getD b (Int.toNat c) (0,(0,(0,(0,0)))))
 cond (cond (decide (d<a.2.2.2.1)) true (decide (d>=a.2.2.2.2))) (
 let i:=(w64 (c+1))
 some (.inl (b,e,d,i))) (
 cond (a.1==1) (
 let j:=(w64 (c+1))
 some (.inl (b,a.2.1,d,j))) (
 cond (cond (a.1==2) (e==a.2.1) false) (
 let g:=(w64 (c+1))
 some (.inl (b,a.2.2.1,d,g))) (
 cond (cond (a.1==2) (e==a.2.2.1) false) (
 let f:=(w64 (c+1))
 some (.inl (b,a.2.1,d,f))) (
 let k:=(w64 (c+1))
 some (.inl (b,e,d,k))))))) none) (
 some (.inr e))
def Dm[LP](b:ae)(d c a:Int):Option (Int):=
 LP.lp (unc4 (j7z)) (b,d,c,a)
theorem T6(a c d b):Dm a c d b=lpK (j7z a c d b) (λh=>Dm h.1 h.2.1 h.2.2.1 h.2.2.2):=bh _ _
def jqN[LP](c:ae)(a b:Int):Option (Int):=
 (Dm c a b 0).bind λd=>
 some d
def ju8[LP](b:ca)(a c:Int):Option (Int):=
 (jqM (b.1,(b.2.1,(b.2.2.1,b.2.2.2))) a c).bind λe=>
 cond (inR a (List.length b.2.2.2)) (
 let f:=(List.getD b.2.2.2 (Int.toNat a) (ByteArray.empty,(([]:aH),([]:ae))))
 (jqN f.2.2 e.2 c).bind λd=>
 some d) none
def ju9[LP](a:ca)(b c:Int):Option (Int):=
 (jyu (a.1,(a.2.1,(a.2.2.1,a.2.2.2))) b c).bind λe=>
 cond (!e) (
 some (-1)) (
 (ju8 (a.1,(a.2.1,(a.2.2.1,a.2.2.2))) b c).bind λd=>
 some d)
def jdB[LP](b:ca)(a c:Int):Option (Int):=
 (ju9 (b.1,(b.2.1,(b.2.2.1,b.2.2.2))) a c).bind λd=>
 some d
def j0f[LP](a:kZ)(b:Int)(g:ai)(c:ak)(d:an)(e:ao):Option (Bool):=
 (jdB (g,(c,(d,e))) a.2.1 b).bind λf=>
 cond (f==a.1) (
 (jdB (g,(c,(d,e))) a.2.2.1 b).bind λi=>
 some (i==a.1)) (
 some false)
def jiC(b a:Int):Option (Int):=
 cond (!(a==0)) (
 let e:=(Int.tmod b a)
 let d:=(w64 (e+a))
 cond (!(a==0)) (
 let c:=(Int.tmod d a)
 some c) none) none
def j2q[LP](o n m:Int)(k:ai)(e:ak)(d:an)(f:ao)(l b:Int)(p:ai)(i:ak)(j:an)(g:ao)(c:ae):Option ((Int×Int×Int×ai×ak×an×ao×Int×Int×ai×ak×an×ao×ae) ⊕ (Bool ⊕ (Int×Int×Int×ai×ak×an×ao×ae))):=
 cond (decide (b<l)) (
 cond (inR b (List.length c)) (
 let a:=(List.getD c (Int.toNat b) (0,(0,(0,(0,0)))))
 cond (decide (a.2.1>=a.2.2.1)) (
 some (.inr (.inl false))) (
 cond (decide (a.2.1<0)) (
 some (.inr (.inl false))) (
 let f7:=(Int.ofNat (List.length g))
 cond (decide (a.2.2.1>=f7)) (
 some (.inr (.inl false))) (
 cond (decide (a.1<0)) (
 some (.inr (.inl false))) (
 cond (decide (a.2.2.2.1>=a.2.2.2.2)) (
 some (.inr (.inl false))) (
 cond (decide (a.2.2.2.1<n)) (
 some (.inr (.inl false))) (
 cond (decide (a.2.2.2.2>m)) (
 some (.inr (.inl false))) (
 (j0f (a.1,(a.2.1,(a.2.2.1,(a.2.2.2.1,a.2.2.2.2)))) a.2.2.2.1 k e d f).bind λf6=>
 cond (!f6) (
 some (.inr (.inl false))) (
 let d9:=(w64 (a.2.2.2.2-1))
 (j0f (a.1,(a.2.1,(a.2.2.1,(a.2.2.2.1,a.2.2.2.2)))) d9 k e d f).bind λe5=>
 cond (!e5) (
 some (.inr (.inl false))) (
 let d7:=(w64 (a.2.2.2.2-a.2.2.2.1))
 (jiC o d7).bind λd8=>
 let e1:=(w64 (a.2.2.2.1+d8))
 (j0f (a.1,(a.2.1,(a.2.2.1,(a.2.2.2.1,a.2.2.2.2)))) e1 k e d f).bind λe6=>
 cond (!e6) (
 some (.inr (.inl false))) (
 cond (decide (a.2.2.2.1>n)) (
 let e9:=(w64 (a.2.2.2.1-1))
 (j0f (a.1,(a.2.1,(a.2.2.1,(a.2.2.2.1,a.2.2.2.2)))) e9 k e d f).bind λd1=>
 cond d1 (
 some (.inr (.inl false))) (
 cond (decide (a.2.2.2.2<m)) (
 (j0f (a.1,(a.2.1,(a.2.2.1,(a.2.2.2.1,a.2.2.2.2)))) a.2.2.2.2 k e d f).bind λf2=>
 cond f2 (
 some (.inr (.inl false))) (
 cond (decide (b>0)) (
 let a6:=(w64 (b-1))
 cond (inR a6 (List.length c)) (
 let d5:=(List.getD c (Int.toNat a6) (0,(0,(0,(0,0))))).2.2.2.1
 cond (decide (a.2.2.2.1<d5)) (
 some (.inr (.inl false))) (
 let a8:=(w64 (b-1))
 cond (inR a8 (List.length c)) (
 let d4:=(List.getD c (Int.toNat a8) (0,(0,(0,(0,0))))).2.2.2.1
 cond (a.2.2.2.1==d4) (
 let y:=(w64 (b-1))
 cond (inR y (List.length c)) (
 let c6:=(List.getD c (Int.toNat y) (0,(0,(0,(0,0))))).2.1
 cond (decide (a.2.1<c6)) (
 some (.inr (.inl false))) (
 let s:=(w64 (b-1))
 cond (inR s (List.length c)) (
 let f5:=(List.getD c (Int.toNat s) (0,(0,(0,(0,0))))).2.1
 cond (a.2.1==f5) (
 let a4:=(w64 (b-1))
 cond (inR a4 (List.length c)) (
 let d6:=(List.getD c (Int.toNat a4) (0,(0,(0,(0,0))))).2.2.1
 cond (decide (a.2.2.1<=d6)) (
 some (.inr (.inl false))) (
 let c3:=(w64 (b+1))
 some (.inl (o,n,m,k,e,d,f,l,c3,p,i,j,g,c)))) none) (
 let c5:=(w64 (b+1))
 some (.inl (o,n,m,k,e,d,f,l,c5,p,i,j,g,c)))) none)) none) (
 let c4:=(w64 (b+1))
 some (.inl (o,n,m,k,e,d,f,l,c4,p,i,j,g,c)))) none)) none) (
 let b2:=(w64 (b+1))
 some (.inl (o,n,m,k,e,d,f,l,b2,p,i,j,g,c))))) (
 cond (decide (b>0)) (
 let t:=(w64 (b-1))
 cond (inR t (List.length c)) (
 let e7:=(List.getD c (Int.toNat t) (0,(0,(0,(0,0))))).2.2.2.1
 cond (decide (a.2.2.2.1<e7)) (
 some (.inr (.inl false))) (
 let z:=(w64 (b-1))
 cond (inR z (List.length c)) (
 let d2:=(List.getD c (Int.toNat z) (0,(0,(0,(0,0))))).2.2.2.1
 cond (a.2.2.2.1==d2) (
 let a5:=(w64 (b-1))
 cond (inR a5 (List.length c)) (
 let e2:=(List.getD c (Int.toNat a5) (0,(0,(0,(0,0))))).2.1
 cond (decide (a.2.1<e2)) (
 some (.inr (.inl false))) (
 let a7:=(w64 (b-1))
 cond (inR a7 (List.length c)) (
 let e4:=(List.getD c (Int.toNat a7) (0,(0,(0,(0,0))))).2.1
 cond (a.2.1==e4) (
 let a2:=(w64 (b-1))
 cond (inR a2 (List.length c)) (
 let f1:=(List.getD c (Int.toNat a2) (0,(0,(0,(0,0))))).2.2.1
 cond (decide (a.2.2.1<=f1)) (
 some (.inr (.inl false))) (
 let b8:=(w64 (b+1))
 some (.inl (o,n,m,k,e,d,f,l,b8,p,i,j,g,c)))) none) (
 let b7:=(w64 (b+1))
 some (.inl (o,n,m,k,e,d,f,l,b7,p,i,j,g,c)))) none)) none) (
 let b1:=(w64 (b+1))
 some (.inl (o,n,m,k,e,d,f,l,b1,p,i,j,g,c)))) none)) none) (
 let b0:=(w64 (b+1))
 some (.inl (o,n,m,k,e,d,f,l,b0,p,i,j,g,c)))))) (
 cond (decide (a.2.2.2.2<m)) (
 (j0f (a.1,(a.2.1,(a.2.2.1,(a.2.2.2.1,a.2.2.2.2)))) a.2.2.2.2 k e d f).bind λc7=>
 cond c7 (
 some (.inr (.inl false))) (
 cond (decide (b>0)) (
 let r:=(w64 (b-1))
 cond (inR r (List.length c)) (
 let f4:=(List.getD c (Int.toNat r) (0,(0,(0,(0,0))))).2.2.2.1
 cond (decide (a.2.2.2.1<f4)) (
 some (.inr (.inl false))) (
 let x:=(w64 (b-1))
 cond (inR x (List.length c)) (
 let e0:=(List.getD c (Int.toNat x) (0,(0,(0,(0,0))))).2.2.2.1
 cond (a.2.2.2.1==e0) (
 let a1:=(w64 (b-1))
 cond (inR a1 (List.length c)) (
 let d3:=(List.getD c (Int.toNat a1) (0,(0,(0,(0,0))))).2.1
 cond (decide (a.2.1<d3)) (
 some (.inr (.inl false))) (
 let a9:=(w64 (b-1))
 cond (inR a9 (List.length c)) (
 let c9:=(List.getD c (Int.toNat a9) (0,(0,(0,(0,0))))).2.1
 cond (a.2.1==c9) (
 let v:=(w64 (b-1))
 cond (inR v (List.length c)) (
 let e3:=(List.getD c (Int.toNat v) (0,(0,(0,(0,0))))).2.2.1
 cond (decide (a.2.2.1<=e3)) (
 some (.inr (.inl false))) (
 let b4:=(w64 (b+1))
 some (.inl (o,n,m,k,e,d,f,l,b4,p,i,j,g,c)))) none) (
 let b6:=(w64 (b+1))
 some (.inl (o,n,m,k,e,d,f,l,b6,p,i,j,g,c)))) none)) none) (
 let b9:=(w64 (b+1))
 some (.inl (o,n,m,k,e,d,f,l,b9,p,i,j,g,c)))) none)) none) (
 let c1:=(w64 (b+1))
 some (.inl (o,n,m,k,e,d,f,l,c1,p,i,j,g,c))))) (
 cond (decide (b>0)) (
 let w:=(w64 (b-1))
 cond (inR w (List.length c)) (
 let f3:=(List.getD c (Int.toNat w) (0,(0,(0,(0,0))))).2.2.2.1
 cond (decide (a.2.2.2.1<f3)) (
 some (.inr (.inl false))) (
 let a0:=(w64 (b-1))
 cond (inR a0 (List.length c)) (
 let e8:=(List.getD c (Int.toNat a0) (0,(0,(0,(0,0))))).2.2.2.1
 cond (a.2.2.2.1==e8) (
 let a3:=(w64 (b-1))
 cond (inR a3 (List.length c)) (
 let f0:=(List.getD c (Int.toNat a3) (0,(0,(0,(0,0))))).2.1
 cond (decide (a.2.1<f0)) (
 some (.inr (.inl false))) (
 let u:=(w64 (b-1))
 cond (inR u (List.length c)) (
 let c8:=(List.getD c (Int.toNat u) (0,(0,(0,(0,0))))).2.1
 cond (a.2.1==c8) (
 let q:=(w64 (b-1))
 cond (inR q (List.length c)) (
 let d0:=(List.getD c (Int.toNat q) (0,(0,(0,(0,0))))).2.2.1
 cond (decide (a.2.2.1<=d0)) (
 some (.inr (.inl false))) (
 let c2:=(w64 (b+1))
 some (.inl (o,n,m,k,e,d,f,l,c2,p,i,j,g,c)))) none) (
 let b3:=(w64 (b+1))
 some (.inl (o,n,m,k,e,d,f,l,b3,p,i,j,g,c)))) none)) none) (
 let c0:=(w64 (b+1))
 some (.inl (o,n,m,k,e,d,f,l,c0,p,i,j,g,c)))) none)) none) (
 let b5:=(w64 (b+1))
 some (.inl (o,n,m,k,e,d,f,l,b5,p,i,j,g,c)))))))))))))))) none) (
 some (.inr (.inr (o,n,m,p,i,j,g,c))))
def Dn[LP](m l k:Int)(g:ai)(a:ak)(b:an)(c:ao)(j i:Int)(o:ai)(f:ak)(d:an)(e:ao)(n:ae):Option (Bool ⊕ (Int×Int×Int×ai×ak×an×ao×ae)):=
 LP.lp (jmH (j2q)) (m,l,k,g,a,b,c,j,i,o,f,d,e,n)
theorem T7(m l k g a b c j i o f d e n):Dn m l k g a b c j i o f d e n=lpK (j2q m l k g a b c j i o f d e n) (λh=>Dn h.1 h.2.1 h.2.2.1 h.2.2.2.1 h.2.2.2.2.1 h.2.2.2.2.2.1 h.2.2.2.2.2.2.1 h.2.2.2.2.2.2.2.1 h.2.2.2.2.2.2.2.2.1 h.2.2.2.2.2.2.2.2.2.1 h.2.2.2.2.2.2.2.2.2.2.1 h.2.2.2.2.2.2.2.2.2.2.2.1 h.2.2.2.2.2.2.2.2.2.2.2.2.1 h.2.2.2.2.2.2.2.2.2.2.2.2.2):=bh _ _
def j2r(c m j:Int)(p:Bool)(d e f b:Int)(q:ai)(i:ak)(n:an)(g:ao)(o:ae):Option ((Int×Int×Int×Bool×Int×Int×Int×Int×ai×ak×an×ao×ae) ⊕ ((Int×Int×Int×Bool×Int×Int×ai×ak×an×ao×ae))):=
 cond (decide (b<f)) (
 cond (inR b (List.length o)) (
 let a:=(List.getD o (Int.toNat b) (0,(0,(0,(0,0)))))
 let k:Bool:=(cond (cond (a.2.1==m) (a.2.2.1==j) false) (decide (a.2.2.2.1<=c)) false)
 let l:=(w64 (b+1))
 some (.inl (c,m,j,(cond p true (cond k (decide (c<a.2.2.2.2)) false)),d,e,f,l,q,i,n,g,o))) none) (
 some (.inr (c,m,j,p,d,e,q,i,n,g,o)))
def Dp[LP](i l k:Int)(j:Bool)(a c d b:Int)(n:ai)(f:ak)(g:an)(e:ao)(m:ae):Option ((Int×Int×Int×Bool×Int×Int×ai×ak×an×ao×ae)):=
 LP.lp (jsx (j2r)) (i,l,k,j,a,c,d,b,n,f,g,e,m)
theorem T8(i l k j a c d b n f g e m):Dp i l k j a c d b n f g e m=lpK (j2r i l k j a c d b n f g e m) (λh=>Dp h.1 h.2.1 h.2.2.1 h.2.2.2.1 h.2.2.2.2.1 h.2.2.2.2.2.1 h.2.2.2.2.2.2.1 h.2.2.2.2.2.2.2.1 h.2.2.2.2.2.2.2.2.1 h.2.2.2.2.2.2.2.2.2.1 h.2.2.2.2.2.2.2.2.2.2.1 h.2.2.2.2.2.2.2.2.2.2.2.1 h.2.2.2.2.2.2.2.2.2.2.2.2):=bh _ _
def j2s[LP](n q o d f:Int)(r:ai)(j:ak)(l:an)(c:ao)(p:ae):Option ((Int×Int×Int×Int×Int×ai×ak×an×ao×ae) ⊕ (Bool ⊕ (Int×Int×Int×ai×ak×an×ao×ae))):=
 let e:=(Int.ofNat (List.length c))
 cond (decide (o<e)) (
 let m:=(Int.ofNat (List.length p))
 (Dp n q o false d f m 0 r j l c p).bind λa=>
 (jdB (a.2.2.2.2.2.2.1,(a.2.2.2.2.2.2.2.1,(a.2.2.2.2.2.2.2.2.1,a.2.2.2.2.2.2.2.2.2.1))) a.2.1 a.1).bind λb=>
 cond (decide (b>=0)) (
 (jdB (a.2.2.2.2.2.2.1,(a.2.2.2.2.2.2.2.1,(a.2.2.2.2.2.2.2.2.1,a.2.2.2.2.2.2.2.2.2.1))) a.2.2.1 a.1).bind λi=>
 cond (!(a.2.2.2.1==(b==i))) (
 some (.inr (.inl false))) (
 let k:=(w64 (a.2.2.1+1))
 some (.inl (a.1,a.2.1,k,a.2.2.2.2.1,a.2.2.2.2.2.1,a.2.2.2.2.2.2.1,a.2.2.2.2.2.2.2.1,a.2.2.2.2.2.2.2.2.1,a.2.2.2.2.2.2.2.2.2.1,a.2.2.2.2.2.2.2.2.2.2)))) (
 cond (!(a.2.2.2.1==false)) (
 some (.inr (.inl false))) (
 let g:=(w64 (a.2.2.1+1))
 some (.inl (a.1,a.2.1,g,a.2.2.2.2.1,a.2.2.2.2.2.1,a.2.2.2.2.2.2.1,a.2.2.2.2.2.2.2.1,a.2.2.2.2.2.2.2.2.1,a.2.2.2.2.2.2.2.2.2.1,a.2.2.2.2.2.2.2.2.2.2))))) (
 some (.inr (.inr (n,d,f,r,j,l,c,p))))
def Dq[LP](f i g a b:Int)(k:ai)(d:ak)(e:an)(c:ao)(j:ae):Option (Bool ⊕ (Int×Int×Int×ai×ak×an×ao×ae)):=
 LP.lp (jkB (j2s)) (f,i,g,a,b,k,d,e,c,j)
theorem T9(f i g a b k d e c j):Dq f i g a b k d e c j=lpK (j2s f i g a b k d e c j) (λh=>Dq h.1 h.2.1 h.2.2.1 h.2.2.2.1 h.2.2.2.2.1 h.2.2.2.2.2.1 h.2.2.2.2.2.2.1 h.2.2.2.2.2.2.2.1 h.2.2.2.2.2.2.2.2.1 h.2.2.2.2.2.2.2.2.2):=bh _ _
def j2t[LP](k d b:Int)(n:ai)(g:ak)(j:an)(f:ao)(m:ae):Option ((Int×Int×Int×ai×ak×an×ao×ae) ⊕ (Bool ⊕ Unit)):=
 cond (decide (b<d)) (
 let c:=(w64 (b+1))
 (Dq k b c d b n g j f m).bind λi=>
 sumC i (λl=>
 some (.inr (.inl l))) (λa=>
 let e:=(w64 (a.2.2.1+1))
 some (.inl (a.1,a.2.1,e,a.2.2.2.1,a.2.2.2.2.1,a.2.2.2.2.2.1,a.2.2.2.2.2.2.1,a.2.2.2.2.2.2.2)))) (
 some (.inr (.inr ())))
def Dr[LP](f a b:Int)(i:ai)(d:ak)(e:an)(c:ao)(g:ae):Option (Bool ⊕ Unit):=
 LP.lp (unc8 (j2t)) (f,a,b,i,d,e,c,g)
theorem Ua(f a b i d e c g):Dr f a b i d e c g=lpK (j2t f a b i d e c g) (λh=>Dr h.1 h.2.1 h.2.2.1 h.2.2.2.1 h.2.2.2.2.1 h.2.2.2.2.2.1 h.2.2.2.2.2.2.1 h.2.2.2.2.2.2.2):=bh _ _
def j8l[LP](c:(List Int))(n:Int):Option (Bool):=
 (jlR c).bind λr=>
 cond (!r) (
 (jbf).bind λp=>
 some p) (
 (jo5 c).bind λg=>
 (j9w g.1 g.2 3).bind λa=>
 (j6L a.2.1 a.2.2).bind λd=>
 let f:=(w64 (d.1+518400))
 (j7o (a.1.1,(a.1.2.1,(a.1.2.2.1,a.1.2.2.2))) d.1 f).bind λb=>
 cond (b.2 != 0) (
 some false) (
 let q:=(Int.ofNat (List.length b.1))
 (Dn n d.1 f a.1.1 a.1.2.1 a.1.2.2.1 a.1.2.2.2 q 0 a.1.1 a.1.2.1 a.1.2.2.1 a.1.2.2.2 b.1).bind λt=>
 sumC t (λv=>
 some v) (λe=>
 let k:=(w64 (e.2.2.1-e.2.1))
 (jiC e.1 k).bind λl=>
 let i:=(w64 (e.2.1+l))
 let m:=(Int.ofNat (List.length e.2.2.2.2.2.2.1))
 (Dr i m 0 e.2.2.2.1 e.2.2.2.2.1 e.2.2.2.2.2.1 e.2.2.2.2.2.2.1 e.2.2.2.2.2.2.2).bind λs=>
 sumC s (λo=>
 some o) (λu=>
 (jbf).bind λj=>
 some j))))
def j76(a:(Int×Int)):Option (Int):=
 (j6Z a.1).bind λd=>
 let c:=(w64 (d*86400))
 let b:=(w64 (c+a.2))
 some b
end
end Go.Proofs.Pw
