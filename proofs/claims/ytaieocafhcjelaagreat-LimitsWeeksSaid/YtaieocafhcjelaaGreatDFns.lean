/- Plain nR, printed by a program out of the given code. -/
import Derived.Test.YtaieocafhcjelaaGreatDLS
open Go Go.Lft
set_option linter.unusedVariables false
namespace Go.Proofs.Pw
noncomputable section
abbrev ag:Type:=(List (Int×Int))
abbrev nS:Type:=(Int×(List Int))
abbrev xC:Type:=(Int×(Int×Int))
abbrev af:Type:=(List xC)
abbrev dX:Type:=(Int×ag)
abbrev qI:Type:=(ByteArray×nS)
abbrev fy:Type:=(List af)
abbrev bQ:Type:=(List dX)
abbrev nT:Type:=(Int×(Int×xC))
abbrev aA:Type:=(List qI)
abbrev ae:Type:=(List nT)
abbrev xD:Type:=(Int×(Int×nT))
abbrev cq:Type:=(List xD)
abbrev Dk:Type:=(ByteArray×(Int×(ag×(Int×(Int×Bool)))))
abbrev az:Type:=(List Dk)
abbrev kJ:Type:=(ByteArray×(Int×cq))
abbrev ax:Type:=(List kJ)
abbrev ij:Type:=(ByteArray×(Int×((Int×Int)×(Int×(Int×((List Int)×(ag×(Int×Int))))))))
abbrev bc:Type:=(List ij)
abbrev kK:Type:=(ByteArray×(bc×ae))
abbrev aC:Type:=(List kK)
abbrev dY:Type:=(ax×(az×(aA×aC)))
abbrev ik:Type:=(dY×bQ)
abbrev unc2{A0 A1 R:Type}(f:A0->A1->R)(h:A0×A1):R:=f h.1 h.2
abbrev unc3{A0 A1 A2 R:Type}(f:A0->A1->A2->R)(h:A0×A1×A2):R:=f h.1 h.2.1 h.2.2
abbrev unc4{A0 A1 A2 A3 R:Type}(f:A0->A1->A2->A3->R)(h:A0×A1×A2×A3):R:=f h.1 h.2.1 h.2.2.1 h.2.2.2
abbrev unc5{A0 A1 A2 A3 A4 R:Type}(f:A0->A1->A2->A3->A4->R)(h:A0×A1×A2×A3×A4):R:=f h.1 h.2.1 h.2.2.1 h.2.2.2.1 h.2.2.2.2
abbrev unc6{A0 A1 A2 A3 A4 A5 R:Type}(f:A0->A1->A2->A3->A4->A5->R)(h:A0×A1×A2×A3×A4×A5):R:=f h.1 h.2.1 h.2.2.1 h.2.2.2.1 h.2.2.2.2.1 h.2.2.2.2.2
abbrev unc7{A0 A1 A2 A3 A4 A5 A6 R:Type}(f:A0->A1->A2->A3->A4->A5->A6->R)(h:A0×A1×A2×A3×A4×A5×A6):R:=f h.1 h.2.1 h.2.2.1 h.2.2.2.1 h.2.2.2.2.1 h.2.2.2.2.2.1 h.2.2.2.2.2.2
abbrev unc8{A0 A1 A2 A3 A4 A5 A6 A7 R:Type}(f:A0->A1->A2->A3->A4->A5->A6->A7->R)(h:A0×A1×A2×A3×A4×A5×A6×A7):R:=f h.1 h.2.1 h.2.2.1 h.2.2.2.1 h.2.2.2.2.1 h.2.2.2.2.2.1 h.2.2.2.2.2.2.1 h.2.2.2.2.2.2.2
abbrev unc9{A0 A1 A2 A3 A4 A5 A6 A7 A8 R:Type}(f:A0->A1->A2->A3->A4->A5->A6->A7->A8->R)(h:A0×A1×A2×A3×A4×A5×A6×A7×A8):R:=f h.1 h.2.1 h.2.2.1 h.2.2.2.1 h.2.2.2.2.1 h.2.2.2.2.2.1 h.2.2.2.2.2.2.1 h.2.2.2.2.2.2.2.1 h.2.2.2.2.2.2.2.2
abbrev jtv{A0 A1 A2 A3 A4 A5 A6 A7 A8 A9 R:Type}(f:A0->A1->A2->A3->A4->A5->A6->A7->A8->A9->R)(h:A0×A1×A2×A3×A4×A5×A6×A7×A8×A9):R:=f h.1 h.2.1 h.2.2.1 h.2.2.2.1 h.2.2.2.2.1 h.2.2.2.2.2.1 h.2.2.2.2.2.2.1 h.2.2.2.2.2.2.2.1 h.2.2.2.2.2.2.2.2.1 h.2.2.2.2.2.2.2.2.2
abbrev jtw{A0 A1 A2 A3 A4 A5 A6 A7 A8 A9 iI R:Type}(f:A0->A1->A2->A3->A4->A5->A6->A7->A8->A9->iI->R)(h:A0×A1×A2×A3×A4×A5×A6×A7×A8×A9×iI):R:=f h.1 h.2.1 h.2.2.1 h.2.2.2.1 h.2.2.2.2.1 h.2.2.2.2.2.1 h.2.2.2.2.2.2.1 h.2.2.2.2.2.2.2.1 h.2.2.2.2.2.2.2.2.1 h.2.2.2.2.2.2.2.2.2.1 h.2.2.2.2.2.2.2.2.2.2
abbrev jtx{A0 A1 A2 A3 A4 A5 A6 A7 A8 A9 iI kL R:Type}(f:A0->A1->A2->A3->A4->A5->A6->A7->A8->A9->iI->kL->R)(h:A0×A1×A2×A3×A4×A5×A6×A7×A8×A9×iI×kL):R:=f h.1 h.2.1 h.2.2.1 h.2.2.2.1 h.2.2.2.2.1 h.2.2.2.2.2.1 h.2.2.2.2.2.2.1 h.2.2.2.2.2.2.2.1 h.2.2.2.2.2.2.2.2.1 h.2.2.2.2.2.2.2.2.2.1 h.2.2.2.2.2.2.2.2.2.2.1 h.2.2.2.2.2.2.2.2.2.2.2
abbrev jwT{A0 A1 A2 A3 A4 A5 A6 A7 A8 A9 iI kL nd R:Type}(f:A0->A1->A2->A3->A4->A5->A6->A7->A8->A9->iI->kL->nd->R)(h:A0×A1×A2×A3×A4×A5×A6×A7×A8×A9×iI×kL×nd):R:=f h.1 h.2.1 h.2.2.1 h.2.2.2.1 h.2.2.2.2.1 h.2.2.2.2.2.1 h.2.2.2.2.2.2.1 h.2.2.2.2.2.2.2.1 h.2.2.2.2.2.2.2.2.1 h.2.2.2.2.2.2.2.2.2.1 h.2.2.2.2.2.2.2.2.2.2.1 h.2.2.2.2.2.2.2.2.2.2.2.1 h.2.2.2.2.2.2.2.2.2.2.2.2
abbrev jmG{A0 A1 A2 A3 A4 A5 A6 A7 A8 A9 iI kL nd qJ R:Type}(f:A0->A1->A2->A3->A4->A5->A6->A7->A8->A9->iI->kL->nd->qJ->R)(h:A0×A1×A2×A3×A4×A5×A6×A7×A8×A9×iI×kL×nd×qJ):R:=f h.1 h.2.1 h.2.2.1 h.2.2.2.1 h.2.2.2.2.1 h.2.2.2.2.2.1 h.2.2.2.2.2.2.1 h.2.2.2.2.2.2.2.1 h.2.2.2.2.2.2.2.2.1 h.2.2.2.2.2.2.2.2.2.1 h.2.2.2.2.2.2.2.2.2.2.1 h.2.2.2.2.2.2.2.2.2.2.2.1 h.2.2.2.2.2.2.2.2.2.2.2.2.1 h.2.2.2.2.2.2.2.2.2.2.2.2.2
abbrev jzU{A0 A1 A2 A3 A4 A5 A6 A7 A8 A9 iI kL nd qJ vv vw vz vA vB vC R:Type}(f:A0->A1->A2->A3->A4->A5->A6->A7->A8->A9->iI->kL->nd->qJ->vv->vw->vz->vA->vB->vC->R)(h:A0×A1×A2×A3×A4×A5×A6×A7×A8×A9×iI×kL×nd×qJ×vv×vw×vz×vA×vB×vC):R:=f h.1 h.2.1 h.2.2.1 h.2.2.2.1 h.2.2.2.2.1 h.2.2.2.2.2.1 h.2.2.2.2.2.2.1 h.2.2.2.2.2.2.2.1 h.2.2.2.2.2.2.2.2.1 h.2.2.2.2.2.2.2.2.2.1 h.2.2.2.2.2.2.2.2.2.2.1 h.2.2.2.2.2.2.2.2.2.2.2.1 h.2.2.2.2.2.2.2.2.2.2.2.2.1 h.2.2.2.2.2.2.2.2.2.2.2.2.2.1 h.2.2.2.2.2.2.2.2.2.2.2.2.2.2.1 h.2.2.2.2.2.2.2.2.2.2.2.2.2.2.2.1 h.2.2.2.2.2.2.2.2.2.2.2.2.2.2.2.2.1 h.2.2.2.2.2.2.2.2.2.2.2.2.2.2.2.2.2.1 h.2.2.2.2.2.2.2.2.2.2.2.2.2.2.2.2.2.2.1 h.2.2.2.2.2.2.2.2.2.2.2.2.2.2.2.2.2.2.2
abbrev jzV{A0 A1 A2 A3 A4 A5 A6 A7 A8 A9 iI kL nd qJ vv vw vz vA vB vC Dl Dm R:Type}(f:A0->A1->A2->A3->A4->A5->A6->A7->A8->A9->iI->kL->nd->qJ->vv->vw->vz->vA->vB->vC->Dl->Dm->R)(h:A0×A1×A2×A3×A4×A5×A6×A7×A8×A9×iI×kL×nd×qJ×vv×vw×vz×vA×vB×vC×Dl×Dm):R:=f h.1 h.2.1 h.2.2.1 h.2.2.2.1 h.2.2.2.2.1 h.2.2.2.2.2.1 h.2.2.2.2.2.2.1 h.2.2.2.2.2.2.2.1 h.2.2.2.2.2.2.2.2.1 h.2.2.2.2.2.2.2.2.2.1 h.2.2.2.2.2.2.2.2.2.2.1 h.2.2.2.2.2.2.2.2.2.2.2.1 h.2.2.2.2.2.2.2.2.2.2.2.2.1 h.2.2.2.2.2.2.2.2.2.2.2.2.2.1 h.2.2.2.2.2.2.2.2.2.2.2.2.2.2.1 h.2.2.2.2.2.2.2.2.2.2.2.2.2.2.2.1 h.2.2.2.2.2.2.2.2.2.2.2.2.2.2.2.2.1 h.2.2.2.2.2.2.2.2.2.2.2.2.2.2.2.2.2.1 h.2.2.2.2.2.2.2.2.2.2.2.2.2.2.2.2.2.2.1 h.2.2.2.2.2.2.2.2.2.2.2.2.2.2.2.2.2.2.2.1 h.2.2.2.2.2.2.2.2.2.2.2.2.2.2.2.2.2.2.2.2.1 h.2.2.2.2.2.2.2.2.2.2.2.2.2.2.2.2.2.2.2.2.2
abbrev jzW{A0 A1 A2 A3 A4 A5 A6 A7 A8 A9 iI kL nd qJ vv vw vz vA vB vC Dl Dm RC RD R:Type}(f:A0->A1->A2->A3->A4->A5->A6->A7->A8->A9->iI->kL->nd->qJ->vv->vw->vz->vA->vB->vC->Dl->Dm->RC->RD->R)(h:A0×A1×A2×A3×A4×A5×A6×A7×A8×A9×iI×kL×nd×qJ×vv×vw×vz×vA×vB×vC×Dl×Dm×RC×RD):R:=f h.1 h.2.1 h.2.2.1 h.2.2.2.1 h.2.2.2.2.1 h.2.2.2.2.2.1 h.2.2.2.2.2.2.1 h.2.2.2.2.2.2.2.1 h.2.2.2.2.2.2.2.2.1 h.2.2.2.2.2.2.2.2.2.1 h.2.2.2.2.2.2.2.2.2.2.1 h.2.2.2.2.2.2.2.2.2.2.2.1 h.2.2.2.2.2.2.2.2.2.2.2.2.1 h.2.2.2.2.2.2.2.2.2.2.2.2.2.1 h.2.2.2.2.2.2.2.2.2.2.2.2.2.2.1 h.2.2.2.2.2.2.2.2.2.2.2.2.2.2.2.1 h.2.2.2.2.2.2.2.2.2.2.2.2.2.2.2.2.1 h.2.2.2.2.2.2.2.2.2.2.2.2.2.2.2.2.2.1 h.2.2.2.2.2.2.2.2.2.2.2.2.2.2.2.2.2.2.1 h.2.2.2.2.2.2.2.2.2.2.2.2.2.2.2.2.2.2.2.1 h.2.2.2.2.2.2.2.2.2.2.2.2.2.2.2.2.2.2.2.2.1 h.2.2.2.2.2.2.2.2.2.2.2.2.2.2.2.2.2.2.2.2.2.1 h.2.2.2.2.2.2.2.2.2.2.2.2.2.2.2.2.2.2.2.2.2.2.1 h.2.2.2.2.2.2.2.2.2.2.2.2.2.2.2.2.2.2.2.2.2.2.2
def jjK(a:(List Int)):Option (Bool):=
 let b:=(Int.ofNat (List.length a))
 some (decide (b<=500))
def jlP(c b:Int)(a:Bool):Option (ax×az×aA×aC):=
 let j:ax:=[((ByteArray.mk #[122]),(0,([]:cq)))]
 let e:ag:=[(432000,435600)]
 let f:az:=[((ByteArray.mk #[97]),(0,(e,(c,(b,a)))))]
 let d:(List Int):=[0]
 let g:bc:=[((ByteArray.mk #[108]),(0,((1,0),(1,(1,(d,(([]:ag),(0,0))))))))]
 let i:aC:=[((ByteArray.mk #[115]),(g,([]:ae)))]
 some (j,f,([]:aA),i)
def jbP(a:kJ):Option (ByteArray):=
 some a.1
def jhK(a:Int):Option (Bool):=
 some (cond (decide (a>=97)) (decide (a<=122)) false)
def jlQ(a:Int):Option (Bool):=
 some (cond (decide (a>=48)) (decide (a<=57)) false)
def jdG(d:ByteArray)(c b:Int):Option ((ByteArray×Int×Int) ⊕ (Bool ⊕ Unit)):=
 cond (decide (b<c)) (
 cond (inR b (ByteArray.size d)) (
 let a:=(Bs d b)
 (jhK a).bind λi=>
 cond (!i) (
 (jlQ a).bind λg=>
 cond (cond (cond (!g) (a != 95) false) (a != 45) false) (
 some (.inr (.inl false))) (
 let f:=(w64 (b+1))
 some (.inl (d,c,f)))) (
 let e:=(w64 (b+1))
 some (.inl (d,c,e)))) none) (
 some (.inr (.inr ())))
def Ke[LP](c:ByteArray)(a b:Int):Option (Bool ⊕ Unit):=
 LP.lp (unc3 (jdG)) (c,a,b)
def j9L[LP](a:ByteArray):Option (Bool):=
 let g:=(Int.ofNat (ByteArray.size a))
 let b:Bool:=(cond (ByteArray.toList a==ByteArray.toList ByteArray.empty) true (decide (g>24)))
 cond ((inR 0 (ByteArray.size a)) || !(!b)) (
 let e:=(Bs a 0)
 cond b (
 some false) (
 (jhK e).bind λc=>
 cond (!c) (
 some false) (
 let d:=(Int.ofNat (ByteArray.size a))
 (Ke a d 0).bind λf=>
 sumC f (λi=>
 some i) (λj=>
 some true)))) none
def j4F[LP](b:ByteArray)(a:(List (ByteArray×Bool))):Option (Int×(List (ByteArray×Bool))):=
 (j9L b).bind λd=>
 cond (!d) (
 some (2,a)) (
 cond (gq false a b) (
 some (4,a)) (
 let c:(List (ByteArray×Bool)):=(gU a b true)
 some (0,c)))
def jbQ(a c b:Int):Option (Bool):=
 some (cond (decide (a>=c)) (decide (a<=b)) false)
def jgo(a:xD):Option (Int):=
 (jbQ a.1 1970 2240).bind λi=>
 cond (!i) (
 some 1) (
 (jbQ a.2.1 a.1 2240).bind λg=>
 cond (!g) (
 some 1) (
 (jbQ a.2.2.1 1 12).bind λd=>
 cond (!d) (
 some 1) (
 (jbQ a.2.2.2.1 1 5).bind λb=>
 cond (!b) (
 some 1) (
 (jbQ a.2.2.2.2.1 0 6).bind λf=>
 cond (!f) (
 some 1) (
 (jbQ a.2.2.2.2.2.1 0 86399).bind λc=>
 cond (!c) (
 some 1) (
 (jbQ a.2.2.2.2.2.2 (-64800) 64800).bind λe=>
 cond (!e) (
 some 1) (
 some 0)))))))
def jjL(a:Int):Option (Bool):=
 let c:=(Int.tmod a 4)
 let d:=(Int.tmod a 100)
 let b:=(Int.tmod a 400)
 some (cond (c==0) (cond (d != 0) true (b==0)) false)
def j8p(c a:Int):Option (Int):=
 cond (cond (decide (a<1)) true (decide (a>12))) (
 some 0) (
 let e:(List Int):=[31,28,31,30,31,30,31,31,30,31,30,31]
 let j:(List Int):=(List.replicate 12 0)
 cond (a==2) (
 (jjL c).bind λg=>
 cond g (
 some 29) (
 let f:=(w64 (a-1))
 cond (inR f 12) (
 let i:=(List.getD e (Int.toNat f) 0)
 some i) none)) (
 let b:=(w64 (a-1))
 cond (inR b 12) (
 let d:=(List.getD e (Int.toNat b) 0)
 some d) none))
def jcI(a:xC):Option (Bool):=
 cond (decide (a.1>=1970)) (
 cond (decide (a.1<=2240)) (
 cond (decide (a.2.2>=1)) (
 (j8p a.1 a.2.1).bind λb=>
 some (decide (a.2.2<=b))) (
 some false)) (
 some false)) (
 some false)
def j9x(b a:Int):Option (Int):=
 cond (!(a==0)) (
 let c:=(w64 (Int.tdiv b a))
 cond (!(a==0)) (
 let e:=(Int.tmod b a)
 cond (decide (e<0)) (
 let d:=(w64 (c-1))
 some d) (
 some c)) none) none
def j6r(a:Int):Option (Int):=
 let b:=(w64 (a-1))
 let l:=(w64 (a-1970))
 let k:=(w64 (365*l))
 (j9x b 4).bind λf=>
 let g:=(w64 (k+f))
 (j9x b 100).bind λc=>
 let d:=(w64 (g-c))
 (j9x b 400).bind λj=>
 let i:=(w64 (d+j))
 let e:=(w64 (i-477))
 some e
def j58(g f i a e:Int):Option ((Int×Int×Int×Int×Int) ⊕ (Int)):=
 cond (decide (f<a)) (
 (j8p i f).bind λc=>
 let b:=(w64 (g+c))
 let d:=(w64 (f+1))
 some (.inl (b,d,i,a,e))) (
 some (.inr g))
def Aj[LP](c d e a b:Int):Option (Int):=
 LP.lp (unc5 (j58)) (c,d,e,a,b)
theorem RE(c d e a b):Aj c d e a b=lpK (j58 c d e a b) (λh=>Aj h.1 h.2.1 h.2.2.1 h.2.2.2.1 h.2.2.2.2):=bm _ _
def j81[LP](a:xC):Option (Int):=
 (j6r a.1).bind λd=>
 let c:=(w64 (d+a.2.2))
 let b:=(w64 (c-1))
 (Aj b 1 a.1 a.2.1 a.2.2).bind λe=>
 some e
def j8q(a:Int):Option (Int):=
 let c:=(Int.tmod a 7)
 let d:=(w64 (c+10))
 let b:=(Int.tmod d 7)
 some b
def jcJ[LP](c b d a:Int):Option (Int×Int):=
 (jcI (c,(b,1))).bind λn=>
 let r:Bool:=(cond (cond (!n) true (decide (d<1))) true (decide (d>5)))
 let t:Bool:=(cond (cond r true (decide (a<0))) true (decide (a>6)))
 cond t (
 some (0,1)) (
 (j81 (c,(b,1))).bind λf=>
 (j8q f).bind λo=>
 let q:=(w64 (a-o))
 let g:=(w64 (q+7))
 let s:=(Int.tmod g 7)
 let j:=(w64 (f+s))
 let i:=(w64 (d-1))
 let l:=(w64 (7*i))
 let e:=(w64 (j+l))
 (j8p c b).bind λm=>
 let p:=(w64 (f+m))
 cond (decide (e>=p)) (
 let k:=(w64 (e-7))
 some (k,0)) (
 some (e,0)))
def j9y(a b:(Int×Int)):Option (Int):=
 let c:=(w64 (a.1-b.1))
 some c
def j0E(o q p b:Int)(a:ag):Option ((Int×Int×Int×Int×ag) ⊕ ((Int×Int×Int×ag))):=
 cond (decide (b>o)) (
 cond (inR b (List.length a)) (
 let k:=(List.getD a (Int.toNat b) (0,0))
 let d:=(w64 (b-1))
 cond (inR d (List.length a)) (
 let e:=(List.getD a (Int.toNat d) (0,0))
 (j9y (k.1,k.2) (e.1,e.2)).bind λl=>
 cond (decide (l<0)) (
 let c:=(w64 (b-1))
 let i:=(w64 (b-1))
 cond (inR i (List.length a)) (
 let j:=(List.getD a (Int.toNat i) (0,0))
 cond (inR b (List.length a)) (
 let f:=(List.getD a (Int.toNat b) (0,0))
 cond (inR b (List.length a)) (
 let g:ag:=(List.set a (Int.toNat b) (j.1,j.2))
 cond (inR c (List.length g)) (
 let m:ag:=(List.set g (Int.toNat c) (f.1,f.2))
 let n:=(w64 (b-1))
 some (.inl (o,q,p,n,m))) none) none) none) none) (
 some (.inr (o,q,p,a)))) none) none) (
 some (.inr (o,q,p,a)))
def Ak[LP](c e d b:Int)(a:ag):Option ((Int×Int×Int×ag)):=
 LP.lp (unc5 (j0E)) (c,e,d,b,a)
theorem RF(c e d b a):Ak c e d b a=lpK (j0E c e d b a) (λh=>Ak h.1 h.2.1 h.2.2.1 h.2.2.2.1 h.2.2.2.2):=bm _ _
def j0c[LP](f e c:Int)(d:ag):Option ((Int×Int×Int×ag) ⊕ (ag)):=
 cond (decide (c<e)) (
 (Ak f e c c d).bind λa=>
 let b:=(w64 (a.2.2.1+1))
 some (.inl (a.1,a.2.1,b,a.2.2.2))) (
 some (.inr d))
def Al[LP](a c b:Int)(d:ag):Option (ag):=
 LP.lp (unc4 (j0c)) (a,c,b,d)
theorem Kf(b d c a):Al b d c a=lpK (j0c b d c a) (λh=>Al h.1 h.2.1 h.2.2.1 h.2.2.2):=bm _ _
def j0k[LP](a:ag)(b c:Int):Option (ag):=
 let d:=(w64 (b+1))
 (Al b c d a).bind λe=>
 some e
def j0s[LP](e d g c:Int)(f:ag):Option ((Int×Int×Int×Int×ag) ⊕ ((Int×Int×Int×ag))):=
 cond (decide (c<=e)) (
 (j0k f g c).bind λa=>
 let b:=(w64 (c+d))
 some (.inl (e,d,c,b,a))) (
 some (.inr (e,d,g,f)))
def Am[LP](d b c e:Int)(a:ag):Option ((Int×Int×Int×ag)):=
 LP.lp (unc5 (j0s)) (d,b,c,e,a)
theorem j7o(d b c e a):Am d b c e a=lpK (j0s d b c e a) (λh=>Am h.1 h.2.1 h.2.2.1 h.2.2.2.1 h.2.2.2.2):=bm _ _
def j3X(c a b f:Int)(e:ag):Option ((Int×Int×Int×Int×ag) ⊕ ((Int×Int×Int×ag))):=
 cond (decide (f<=c)) (
 let d:=(w64 (b+a))
 none) (
 some (.inr (c,a,b,e)))
def Kg[LP](d b c e:Int)(a:ag):Option ((Int×Int×Int×ag)):=
 LP.lp (unc5 (j3X)) (d,b,c,e,a)
def j0t[LP](g e:Int)(f:ag):Option ((Int×Int×ag) ⊕ (ag)):=
 cond (decide (e<g)) (
 let b:=(w64 (2*e))
 (Kg g e 0 b f).bind λa=>
 let c:=(w64 (a.2.2.1+a.2.1))
 cond (decide (c<a.1)) (
 none) (
 let d:=(w64 (a.2.1*2))
 some (.inl (a.1,d,a.2.2.2)))) (
 some (.inr f))
def An[LP](a b:Int)(c:ag):Option (ag):=
 LP.lp (unc3 (j0t)) (a,b,c)
theorem j7p(a b c):An a b c=lpK (j0t a b c) (λh=>An h.1 h.2.1 h.2.2):=bm _ _
def j1g[LP](a:ag)(c:Int):Option (ag):=
 (Am c 20 0 20 a).bind λb=>
 (j0k b.2.2.2 b.2.2.1 b.1).bind λd=>
 (An b.1 b.2.1 d).bind λe=>
 some e
def j0h[LP](a:ag):Option (ag):=
 let b:=(Int.ofNat (List.length a))
 (j1g a b).bind λc=>
 some c
def j3L(m:Int)(d:cq)(l c:Int)(n:ByteArray)(e:Int)(f:cq):Option ((Int×cq×Int×Int×ByteArray×Int×cq) ⊕ (Int ⊕ (Int×ByteArray×Int×cq))):=
 cond (decide (c<l)) (
 cond (inR c (List.length d)) (
 let a:=(List.getD d (Int.toNat c) (0,(0,(0,(0,(0,(0,0)))))))
 (jgo (a.1,(a.2.1,(a.2.2.1,(a.2.2.2.1,(a.2.2.2.2.1,(a.2.2.2.2.2.1,a.2.2.2.2.2.2))))))).bind λb=>
 cond (b != 0) (
 some (.inr (.inl b))) (
 let i:=(w64 (a.2.1-a.1))
 let k:=(w64 (i+1))
 let g:=(w64 (m+k))
 let j:=(w64 (c+1))
 some (.inl (g,d,l,j,n,e,f)))) none) (
 some (.inr (.inr (m,n,e,f))))
def xE[LP](f:Int)(d:cq)(c e:Int)(g:ByteArray)(a:Int)(b:cq):Option (Int ⊕ (Int×ByteArray×Int×cq)):=
 LP.lp (unc7 (j3L)) (f,d,c,e,g,a,b)
theorem RG(f d c e g a b):xE f d c e g a b=lpK (j3L f d c e g a b) (λh=>xE h.1 h.2.1 h.2.2.1 h.2.2.2.1 h.2.2.2.2.1 h.2.2.2.2.2.1 h.2.2.2.2.2.2):=bm _ _
def j1E[LP](i:Int)(p:cq)(o q s g b a c d f:Int)(r:ag):Option ((Int×cq×Int×Int×Int×Int×Int×Int×Int×Int×Int×ag) ⊕ ((cq×Int×Int×ag))):=
 cond (decide (i<=g)) (
 (jcJ i b a c).bind λn=>
 let l:=(w64 (n.1*86400))
 let m:=(w64 (l+d))
 let e:ag:=[(m,f)]
 cond (decide (List.length r+List.length e<=aS)) (
 let j:ag:=(r++e)
 let k:=(w64 (i+1))
 some (.inl (k,p,o,q,s,g,b,a,c,d,f,j))) none) (
 some (.inr (p,o,q,r)))
def Ao[LP](j:Int)(i:cq)(g l k f b a c d e:Int)(m:ag):Option ((cq×Int×Int×ag)):=
 LP.lp (jtx (j1E)) (j,i,g,l,k,f,b,a,c,d,e,m)
theorem RH(j i g l k f b a c d e m):Ao j i g l k f b a c d e m=lpK (j1E j i g l k f b a c d e m) (λh=>Ao h.1 h.2.1 h.2.2.1 h.2.2.2.1 h.2.2.2.2.1 h.2.2.2.2.2.1 h.2.2.2.2.2.2.1 h.2.2.2.2.2.2.2.1 h.2.2.2.2.2.2.2.2.1 h.2.2.2.2.2.2.2.2.2.1 h.2.2.2.2.2.2.2.2.2.2.1 h.2.2.2.2.2.2.2.2.2.2.2):=bm _ _
def j1F[LP](d:cq)(f c:Int)(g:ag):Option ((cq×Int×Int×ag) ⊕ (ag)):=
 cond (decide (c<f)) (
 cond (inR c (List.length d)) (
 let a:=(List.getD d (Int.toNat c) (0,(0,(0,(0,(0,(0,0)))))))
 (Ao a.1 d f c a.1 a.2.1 a.2.2.1 a.2.2.2.1 a.2.2.2.2.1 a.2.2.2.2.2.1 a.2.2.2.2.2.2 g).bind λb=>
 let e:=(w64 (b.2.2.1+1))
 some (.inl (b.1,b.2.1,e,b.2.2.2))) none) (
 some (.inr g))
def xF[LP](b:cq)(a c:Int)(d:ag):Option (ag):=
 LP.lp (unc4 (j1F)) (b,a,c,d)
theorem RI(b a c d):xF b a c d=lpK (j1F b a c d) (λh=>xF h.1 h.2.1 h.2.2.1 h.2.2.2):=bm _ _
def j51[LP](a:kJ):Option (ag×Int):=
 (jbQ a.2.1 (-64800) 64800).bind λf=>
 cond (!f) (
 some (([]:ag),1)) (
 let c:=(Int.ofNat (List.length a.2.2))
 cond (decide (c>16)) (
 some (([]:ag),5)) (
 let b:=(Int.ofNat (List.length a.2.2))
 (xE 0 a.2.2 b 0 a.1 a.2.1 a.2.2).bind λg=>
 sumC g (λk=>
 some (([]:ag),k)) (λj=>
 cond (decide (j.1>640)) (
 some (([]:ag),5)) (
 let e:=(Int.ofNat (List.length j.2.2.2))
 (xF j.2.2.2 e 0 ([]:ag)).bind λi=>
 (j0h i).bind λd=>
 some (d,0)))))
def j3M(r m d:Int)(b l:ag):Option ((Int×Int×Int×ag×ag) ⊕ (Int ⊕ ag)):=
 cond (decide (d<m)) (
 cond (inR d (List.length l)) (
 let a:=(List.getD l (Int.toNat d) (0,0))
 cond (a.2==r) (
 let u:=(w64 (d+1))
 some (.inl (r,m,u,b,l))) (
 let c:=(w64 (a.1-r))
 let f:=(w64 (a.2-r))
 cond (cond (decide (f>=86400)) true (decide (f<=(-86400)))) (
 let n:=(Int.ofNat (List.length b))
 let q:=(Int.ofNat (List.length b))
 let i:=(w64 (q-1))
 cond ((inR i (List.length b)) || !((!true)&&(decide (n>0)))) (
 let s:=(List.getD b (Int.toNat i) (0,0)).1
 let x:=(w64 (s+604800))
 some (.inr (.inl 6))) none) (
 (jbQ c 0 8589934592).bind λe=>
 let k:=(Int.ofNat (List.length b))
 let p:=(Int.ofNat (List.length b))
 let g:=(w64 (p-1))
 cond ((inR g (List.length b)) || !((!(!e))&&(decide (k>0)))) (
 let w:=(List.getD b (Int.toNat g) (0,0)).1
 let t:=(w64 (w+604800))
 cond (cond (!e) true (cond (decide (k>0)) (decide (c<t)) false)) (
 some (.inr (.inl 6))) (
 let j:ag:=[(c,a.2)]
 cond (decide (List.length b+List.length j<=aS)) (
 let o:ag:=(b++j)
 let v:=(w64 (d+1))
 some (.inl (a.2,m,v,o,l))) none)) none))) none) (
 some (.inr (.inr b)))
def xG[LP](e b a:Int)(d c:ag):Option (Int ⊕ ag):=
 LP.lp (unc5 (j3M)) (e,b,a,d,c)
theorem RJ(e b a d c):xG e b a d c=lpK (j3M e b a d c) (λh=>xG h.1 h.2.1 h.2.2.1 h.2.2.2.1 h.2.2.2.2):=bm _ _
def j38[LP](a:kJ):Option (ag×Int):=
 (j51 (a.1,(a.2.1,a.2.2))).bind λb=>
 cond (b.2 != 0) (
 some (([]:ag),b.2)) (
 let c:=(Int.ofNat (List.length b.1))
 (xG a.2.1 c 0 ([]:ag) b.1).bind λd=>
 sumC d (λe=>
 some (([]:ag),e)) (λf=>
 some (f,0)))
def j9M[LP](a:kJ):Option (Int):=
 (j38 (a.1,(a.2.1,a.2.2))).bind λb=>
 some b.2
def j8O(a:xD):Option (Bool):=
 let b:=(Int.tmod a.2.2.2.2.2.2 60)
 some (b != 0)
def j0I(e:cq)(f b:Int):Option ((cq×Int×Int) ⊕ (Int ⊕ Unit)):=
 cond (decide (b<f)) (
 cond (inR b (List.length e)) (
 let a:=(List.getD e (Int.toNat b) (0,(0,(0,(0,(0,(0,0)))))))
 (j8O (a.1,(a.2.1,(a.2.2.1,(a.2.2.2.1,(a.2.2.2.2.1,(a.2.2.2.2.2.1,a.2.2.2.2.2.2))))))).bind λc=>
 cond c (
 some (.inr (.inl b))) (
 let d:=(w64 (b+1))
 some (.inl (e,f,d)))) none) (
 some (.inr (.inr ())))
def Ap[LP](a:cq)(c b:Int):Option (Int ⊕ Unit):=
 LP.lp (unc3 (j0I)) (a,c,b)
theorem RK(a c b):Ap a c b=lpK (j0I a c b) (λh=>Ap h.1 h.2.1 h.2.2):=bm _ _
def j0N[LP](a:cq):Option (Int):=
 let c:=(Int.ofNat (List.length a))
 (Ap a c 0).bind λb=>
 sumC b (λd=>
 some d) (λe=>
 some (-1))
def j0D[LP](a:cq):Option (Bool):=
 (j0N a).bind λb=>
 some (decide (b>=0))
def j3N[LP](a:kJ):Option (Int):=
 (j9M (a.1,(a.2.1,a.2.2))).bind λd=>
 let c:=(Int.tmod a.2.1 60)
 cond (cond (d != 0) true (c != 0)) (
 some 8) (
 (j0D a.2.2).bind λb=>
 cond b (
 some 8) (
 some 0))
def j15[LP](e:ax)(i d:Int)(j:(List (ByteArray×Bool))):Option ((ax×Int×Int×(List (ByteArray×Bool))) ⊕ (Int ⊕ Unit)):=
 cond (decide (d<i)) (
 cond (inR d (List.length e)) (
 let a:=(List.getD e (Int.toNat d) (ByteArray.empty,(0,([]:cq))))
 (jbP (a.1,(a.2.1,a.2.2))).bind λf=>
 (j4F f j).bind λb=>
 cond (b.1 != 0) (
 some (.inr (.inl b.1))) (
 (j3N (a.1,(a.2.1,a.2.2))).bind λc=>
 cond (c != 0) (
 some (.inr (.inl c))) (
 let g:=(w64 (d+1))
 some (.inl (e,i,g,b.2))))) none) (
 some (.inr (.inr ())))
def xH[LP](c:ax)(b a:Int)(d:(List (ByteArray×Bool))):Option (Int ⊕ Unit):=
 LP.lp (unc4 (j15)) (c,b,a,d)
theorem RM(c:ax)(b a:Int)(d:(List (ByteArray×Bool))):xH c b a d=lpK (j15 c b a d) (λh=>xH h.1 h.2.1 h.2.2.1 h.2.2.2):=bm _ _
def j2O[LP](a:ax):Option (Int):=
 let b:(List (ByteArray×Bool)):=([]:(List (ByteArray×Bool)))
 let c:=(Int.ofNat (List.length a))
 (xH a c 0 b).bind λd=>
 sumC d (λe=>
 some e) (λf=>
 some 0)
def j3a(a b:Int):Option (Bool):=
 some (cond (decide (a>=0)) (decide (a<b)) false)
def j68(d j:ag)(k b:Int):Option ((ag×ag×Int×Int) ⊕ (Int ⊕ Unit)):=
 cond (decide (b<k)) (
 cond (inR b (List.length j)) (
 let a:=(List.getD j (Int.toNat b) (0,0))
 let e:Bool:=(cond (cond (decide (a.1<0)) true (decide (a.1>=a.2))) true (decide (a.2>604800)))
 cond e (
 some (.inr (.inl 1))) (
 cond (decide (b>0)) (
 let c:=(w64 (b-1))
 cond (inR c (List.length d)) (
 let i:=(List.getD d (Int.toNat c) (0,0))
 cond (decide (a.1<i.2)) (
 some (.inr (.inl 6))) (
 let g:=(w64 (b+1))
 some (.inl (d,j,k,g)))) none) (
 let f:=(w64 (b+1))
 some (.inl (d,j,k,f))))) none) (
 some (.inr (.inr ())))
def Aq[LP](b c:ag)(d a:Int):Option (Int ⊕ Unit):=
 LP.lp (unc4 (j68)) (b,c,d,a)
theorem RN(b d c a):Aq b d c a=lpK (j68 b d c a) (λh=>Aq h.1 h.2.1 h.2.2.1 h.2.2.2):=bm _ _
def j9N[LP](a:ag):Option (Int):=
 let b:=(Int.ofNat (List.length a))
 cond (decide (b>14)) (
 some 5) (
 let d:=(Int.ofNat (List.length a))
 (Aq a a d 0).bind λc=>
 sumC c (λe=>
 some e) (λf=>
 some 0))
def j7y(a c b:Int):Option (Bool):=
 some (cond (decide (a>=c)) (decide (a<=b)) false)
def j5k(a:Int):Option (Bool):=
 (j7y a 0 604800).bind λb=>
 let c:=(Int.tmod a 3600)
 some (cond b (c==0) false)
def j2A[LP](b:dY)(a:Dk):Option (Int):=
 let c:=(Int.ofNat (List.length b.1))
 (j3a a.2.1 c).bind λf=>
 cond (!f) (
 some 3) (
 (j9N a.2.2.1).bind λg=>
 cond (g != 0) (
 some 8) (
 (j5k a.2.2.2.1).bind λe=>
 cond (!e) (
 some 1) (
 (j5k a.2.2.2.2.1).bind λd=>
 cond (!d) (
 some 1) (
 some 0))))
def jbR(a:qI):Option (ByteArray):=
 some a.1
def jdI(e c:Int):Option ((Int×Int) ⊕ (Int)):=
 let b:=(w64 (c+1))
 (j6r b).bind λd=>
 cond (decide (d<=e)) (
 let a:=(w64 (c+1))
 some (.inl (e,a))) (
 some (.inr c))
def Kh[LP](a b:Int):Option (Int):=
 LP.lp (unc2 (jdI)) (a,b)
def jeB[LP](a:Int):Option (Int):=
 (j9x a 366).bind λc=>
 let b:=(w64 (1970+c))
 (Kh a b).bind λd=>
 some d
def jcg(k l c b e a d:Int):Option ((Int×Int×Int×Int×Int×Int×Int) ⊕ ((Int×Int×Int×Int×Int×Int×Int))):=
 (j8p e a).bind λj=>
 cond (decide (k>=j)) (
 (j8p e a).bind λg=>
 let i:=(w64 (k-g))
 let f:=(w64 (a+1))
 some (.inl (i,l,c,b,e,f,d))) (
 some (.inr (k,l,c,b,e,a,d)))
def Ki[LP](g f b a e d c:Int):Option ((Int×Int×Int×Int×Int×Int×Int)):=
 LP.lp (unc7 (jcg)) (g,f,b,a,e,d,c)
def j82[LP](a:Int):Option (xC×Int):=
 (j6r 1970).bind λi=>
 cond (decide (a<i)) (
 some ((0,(0,0)),1)) (
 (j6r 2241).bind λf=>
 cond (decide (a>=f)) (
 some ((0,(0,0)),1)) (
 (jeB a).bind λb=>
 (j6r b).bind λd=>
 let g:=(w64 (a-d))
 (Ki g 0 0 0 b 1 0).bind λc=>
 let e:=(w64 (c.1+1))
 some ((c.2.2.2.2.1,(c.2.2.2.2.2.1,e)),0)))
def j2f[LP](a:Int):Option (Bool):=
 (j82 a).bind λb=>
 some (b.2==0)
def j2U[LP](a:Int):Option (Bool):=
 (j2f a).bind λb=>
 some (!b)
def j0T[LP](e:(List Int))(f a:Int):Option (((List Int)×Int×Int) ⊕ (Int ⊕ Unit)):=
 cond (decide (a<f)) (
 cond (inR a (List.length e)) (
 let d:=(List.getD e (Int.toNat a) 0)
 (j2U d).bind λb=>
 cond b (
 some (.inr (.inl a))) (
 let c:=(w64 (a+1))
 some (.inl (e,f,c)))) none) (
 some (.inr (.inr ())))
def Ar[LP](a:(List Int))(c b:Int):Option (Int ⊕ Unit):=
 LP.lp (unc3 (j0T)) (a,c,b)
theorem RO(a c b):Ar a c b=lpK (j0T a c b) (λh=>Ar h.1 h.2.1 h.2.2):=bm _ _
def j2V[LP](a:(List Int)):Option (Int):=
 let c:=(Int.ofNat (List.length a))
 (Ar a c 0).bind λb=>
 sumC b (λd=>
 some d) (λe=>
 some (-1))
def j2h[LP](a:(List Int)):Option (Bool):=
 (j2V a).bind λb=>
 some (decide (b>=0))
def j2E(e b:Int)(k:ByteArray)(d:Int)(a:(List Int)):Option ((Int×Int×ByteArray×Int×(List Int)) ⊕ (Int ⊕ Unit)):=
 cond (decide (b<e)) (
 cond (decide (b>0)) (
 cond (inR b (List.length a)) (
 let j:=(List.getD a (Int.toNat b) 0)
 let c:=(w64 (b-1))
 cond (inR c (List.length a)) (
 let f:=(List.getD a (Int.toNat c) 0)
 cond (decide (j<=f)) (
 some (.inr (.inl 6))) (
 let i:=(w64 (b+1))
 some (.inl (e,i,k,d,a)))) none) none) (
 let g:=(w64 (b+1))
 some (.inl (e,g,k,d,a)))) (
 some (.inr (.inr ())))
def As[LP](d c:Int)(e:ByteArray)(a:Int)(b:(List Int)):Option (Int ⊕ Unit):=
 LP.lp (unc5 (j2E)) (d,c,e,a,b)
theorem RP(d c e a b):As d c e a b=lpK (j2E d c e a b) (λh=>As h.1 h.2.1 h.2.2.1 h.2.2.2.1 h.2.2.2.2):=bm _ _
def j2q[LP](b:dY)(a:qI):Option (Int):=
 let c:=(Int.ofNat (List.length b.1))
 (j3a a.2.1 c).bind λf=>
 cond (!f) (
 some 3) (
 let g:=(Int.ofNat (List.length a.2.2))
 cond (decide (g>64)) (
 some 5) (
 (j2h a.2.2).bind λd=>
 cond d (
 some 1) (
 let e:=(Int.ofNat (List.length a.2.2))
 (As e 0 a.1 a.2.1 a.2.2).bind λi=>
 sumC i (λj=>
 some j) (λk=>
 some 0))))
def j61[LP](a:qI)(f:ax)(d:az)(c:aA)(b:aC):Option (Int):=
 (j2q (f,(d,(c,b))) (a.1,(a.2.1,a.2.2))).bind λe=>
 some e
def j0L[LP](m:ax)(e:az)(f:aA)(g:aC)(i:aA)(l d:Int)(n:(List (ByteArray×Bool))):Option ((ax×az×aA×aC×aA×Int×Int×(List (ByteArray×Bool))) ⊕ (Int ⊕ Unit)):=
 cond (decide (d<l)) (
 cond (inR d (List.length i)) (
 let a:=(List.getD i (Int.toNat d) (ByteArray.empty,(0,([]:(List Int)))))
 (jbR (a.1,(a.2.1,a.2.2))).bind λj=>
 (j4F j n).bind λb=>
 cond (b.1 != 0) (
 some (.inr (.inl b.1))) (
 (j61 (a.1,(a.2.1,a.2.2)) m e f g).bind λc=>
 cond (c != 0) (
 some (.inr (.inl c))) (
 let k:=(w64 (d+1))
 some (.inl (m,e,f,g,i,l,k,b.2))))) none) (
 some (.inr (.inr ())))
def xI[LP](i:ax)(a:az)(b:aA)(c:aC)(f:aA)(d e:Int)(g:(List (ByteArray×Bool))):Option (Int ⊕ Unit):=
 LP.lp (unc8 (j0L)) (i,a,b,c,f,d,e,g)
theorem RQ(i:ax)(a:az)(b:aA)(c:aC)(f:aA)(d e:Int)(g:(List (ByteArray×Bool))):xI i a b c f d e g=lpK (j0L i a b c f d e g) (λh=>xI h.1 h.2.1 h.2.2.1 h.2.2.2.1 h.2.2.2.2.1 h.2.2.2.2.2.1 h.2.2.2.2.2.2.1 h.2.2.2.2.2.2.2):=bm _ _
def j1T[LP](e:aA)(d:ax)(a:az)(b:aA)(c:aC):Option (Int):=
 let f:(List (ByteArray×Bool)):=([]:(List (ByteArray×Bool)))
 let g:=(Int.ofNat (List.length e))
 (xI d a b c e g 0 f).bind λi=>
 sumC i (λj=>
 some j) (λk=>
 some 0)
def jbS(a:kK):Option (ByteArray):=
 some a.1
def j6N(a:ij):Option (ByteArray):=
 some a.1
def j84(a:Int)(g:ax)(b:az)(f:aA)(d:aC):Option (Bool):=
 let e:=(Int.ofNat (List.length b))
 (j3a a e).bind λc=>
 some (!c)
def j1B(i:(List Int))(k:ax)(c:az)(b:aA)(a:aC)(j d:Int):Option (((List Int)×ax×az×aA×aC×Int×Int) ⊕ (Int ⊕ Unit)):=
 cond (decide (d<j)) (
 cond (inR d (List.length i)) (
 let g:=(List.getD i (Int.toNat d) 0)
 (j84 g k c b a).bind λe=>
 cond e (
 some (.inr (.inl d))) (
 let f:=(w64 (d+1))
 some (.inl (i,k,c,b,a,j,f)))) none) (
 some (.inr (.inr ())))
def Au[LP](d:(List Int))(f:ax)(c:az)(b:aA)(a:aC)(e g:Int):Option (Int ⊕ Unit):=
 LP.lp (unc7 (j1B)) (d,f,c,b,a,e,g)
theorem RR(d f c b a e g):Au d f c b a e g=lpK (j1B d f c b a e g) (λh=>Au h.1 h.2.1 h.2.2.1 h.2.2.2.1 h.2.2.2.2.1 h.2.2.2.2.2.1 h.2.2.2.2.2.2):=bm _ _
def j2i[LP](c:(List Int))(e:ax)(b:az)(a:aA)(d:aC):Option (Int):=
 let g:=(Int.ofNat (List.length c))
 (Au c e b a d g 0).bind λf=>
 sumC f (λi=>
 some i) (λj=>
 some (-1))
def j1H[LP](e:(List Int))(d:ax)(b:az)(a:aA)(c:aC):Option (Bool):=
 (j2i e d b a c).bind λf=>
 some (decide (f>=0))
def j3i[LP](b:dY)(a:ij):Option (Int):=
 let n:=(Int.ofNat (List.length b.1))
 (j3a a.2.1 n).bind λl=>
 cond (!l) (
 some 3) (
 cond (decide (a.2.2.1.1<1)) (
 some 1) (
 (j2f a.2.2.1.1).bind λe=>
 cond (!e) (
 some 1) (
 (j7y a.2.2.1.2 0 86399).bind λf=>
 cond (!f) (
 some 1) (
 (j7y a.2.2.2.1 0 2).bind λj=>
 cond (!j) (
 some 1) (
 (j7y a.2.2.2.2.1 1 400).bind λc=>
 cond (!c) (
 some 1) (
 let m:=(Int.ofNat (List.length a.2.2.2.2.2.1))
 cond (m==0) (
 some 7) (
 let g:=(Int.ofNat (List.length a.2.2.2.2.2.1))
 cond (decide (g>12)) (
 some 5) (
 (j1H a.2.2.2.2.2.1 b.1 b.2.1 b.2.2.1 b.2.2.2).bind λi=>
 cond i (
 some 3) (
 (j9N a.2.2.2.2.2.2.1).bind λo=>
 cond (o != 0) (
 some 8) (
 (j7y a.2.2.2.2.2.2.2.2 0 2).bind λk=>
 cond (!k) (
 some 1) (
 let p:=(Int.ofNat (List.length b.2.2.1))
 cond (a.2.2.2.2.2.2.2.2 != 0) (
 (j3a a.2.2.2.2.2.2.2.1 p).bind λd=>
 cond (!d) (
 some 3) (
 cond (cond (a.2.2.2.2.2.2.2.2==0) (a.2.2.2.2.2.2.2.1 != 0) false) (
 some 1) (
 some 0))) (
 cond (cond (a.2.2.2.2.2.2.2.2==0) (a.2.2.2.2.2.2.2.1 != 0) false) (
 some 1) (
 some 0)))))))))))))
def j2X[LP](a:ij)(f:ax)(d:az)(c:aA)(b:aC):Option (Int):=
 (j3i (f,(d,(c,b))) (a.1,(a.2.1,((a.2.2.1.1,a.2.2.1.2),(a.2.2.2.1,(a.2.2.2.2.1,(a.2.2.2.2.2.1,(a.2.2.2.2.2.2.1,(a.2.2.2.2.2.2.2.1,a.2.2.2.2.2.2.2.2))))))))).bind λe=>
 some e
def j11[LP](m:ax)(e:az)(f:aA)(g:aC)(i:bc)(l d:Int)(n:(List (ByteArray×Bool))):Option ((ax×az×aA×aC×bc×Int×Int×(List (ByteArray×Bool))) ⊕ (Int ⊕ Unit)):=
 cond (decide (d<l)) (
 cond (inR d (List.length i)) (
 let a:=(List.getD i (Int.toNat d) (ByteArray.empty,(0,((0,0),(0,(0,(([]:(List Int)),(([]:ag),(0,0)))))))))
 (j6N (a.1,(a.2.1,((a.2.2.1.1,a.2.2.1.2),(a.2.2.2.1,(a.2.2.2.2.1,(a.2.2.2.2.2.1,(a.2.2.2.2.2.2.1,(a.2.2.2.2.2.2.2.1,a.2.2.2.2.2.2.2.2))))))))).bind λj=>
 (j4F j n).bind λb=>
 cond (b.1 != 0) (
 some (.inr (.inl b.1))) (
 (j2X (a.1,(a.2.1,((a.2.2.1.1,a.2.2.1.2),(a.2.2.2.1,(a.2.2.2.2.1,(a.2.2.2.2.2.1,(a.2.2.2.2.2.2.1,(a.2.2.2.2.2.2.2.1,a.2.2.2.2.2.2.2.2)))))))) m e f g).bind λc=>
 cond (c != 0) (
 some (.inr (.inl c))) (
 let k:=(w64 (d+1))
 some (.inl (m,e,f,g,i,l,k,b.2))))) none) (
 some (.inr (.inr ())))
def xJ[LP](i:ax)(a:az)(b:aA)(c:aC)(f:bc)(d e:Int)(g:(List (ByteArray×Bool))):Option (Int ⊕ Unit):=
 LP.lp (unc8 (j11)) (i,a,b,c,f,d,e,g)
theorem RS(i:ax)(a:az)(b:aA)(c:aC)(f:bc)(d e:Int)(g:(List (ByteArray×Bool))):xJ i a b c f d e g=lpK (j11 i a b c f d e g) (λh=>xJ h.1 h.2.1 h.2.2.1 h.2.2.2.1 h.2.2.2.2.1 h.2.2.2.2.2.1 h.2.2.2.2.2.2.1 h.2.2.2.2.2.2.2):=bm _ _
def j2B[LP](e:bc)(d:ax)(a:az)(b:aA)(c:aC):Option (Int):=
 let f:(List (ByteArray×Bool)):=([]:(List (ByteArray×Bool)))
 let g:=(Int.ofNat (List.length e))
 (xJ d a b c e g 0 f).bind λi=>
 sumC i (λj=>
 some j) (λk=>
 some 0)
def j3O[LP](g:dY)(a:nT):Option (Int):=
 let j:=(Int.ofNat (List.length g.2.1))
 (j7y a.1 0 2).bind λm=>
 cond (!m) (
 some 1) (
 (j3a a.2.1 j).bind λf=>
 cond (cond (!f) (!(cond (a.1==1) (a.2.1==(-1)) false)) false) (
 cond (cond (!f) (!(cond (a.1==1) (a.2.1==(-1)) false)) false) (
 some 3) (
 cond (cond (a.1 != 2) (a.2.2.1 != 0) false) (
 some 1) (
 cond (cond (a.1==2) (a.2.1==a.2.2.1) false) (
 some 4) (
 let i:=(w64 (Int.tdiv a.2.2.2.2 86400))
 cond (cond (decide (a.2.2.2.1<0)) true (decide (a.2.2.2.2<0))) (
 some 1) (
 (j2f i).bind λl=>
 cond (!l) (
 some 1) (
 cond (decide (a.2.2.2.1>=a.2.2.2.2)) (
 some 6) (
 some 0))))))) (
 cond (a.1==2) (
 (j3a a.2.2.1 j).bind λk=>
 cond (!k) (
 some 3) (
 cond (cond (a.1 != 2) (a.2.2.1 != 0) false) (
 some 1) (
 cond (cond (a.1==2) (a.2.1==a.2.2.1) false) (
 some 4) (
 let d:=(w64 (Int.tdiv a.2.2.2.2 86400))
 cond (cond (decide (a.2.2.2.1<0)) true (decide (a.2.2.2.2<0))) (
 some 1) (
 (j2f d).bind λe=>
 cond (!e) (
 some 1) (
 cond (decide (a.2.2.2.1>=a.2.2.2.2)) (
 some 6) (
 some 0))))))) (
 cond (cond (a.1 != 2) (a.2.2.1 != 0) false) (
 some 1) (
 cond (cond (a.1==2) (a.2.1==a.2.2.1) false) (
 some 4) (
 let c:=(w64 (Int.tdiv a.2.2.2.2 86400))
 cond (cond (decide (a.2.2.2.1<0)) true (decide (a.2.2.2.2<0))) (
 some 1) (
 (j2f c).bind λb=>
 cond (!b) (
 some 1) (
 cond (decide (a.2.2.2.1>=a.2.2.2.2)) (
 some 6) (
 some 0))))))))
def j1c[LP](g:ae)(j c:Int)(k:ax)(e:az)(d:aA)(f:aC):Option ((ae×Int×Int×ax×az×aA×aC) ⊕ (Int ⊕ Unit)):=
 cond (decide (c<j)) (
 cond (inR c (List.length g)) (
 let a:=(List.getD g (Int.toNat c) (0,(0,(0,(0,0)))))
 (j3O (k,(e,(d,f))) (a.1,(a.2.1,(a.2.2.1,(a.2.2.2.1,a.2.2.2.2))))).bind λb=>
 cond (b != 0) (
 some (.inr (.inl b))) (
 let i:=(w64 (c+1))
 some (.inl (g,j,i,k,e,d,f)))) none) (
 some (.inr (.inr ())))
def Av[LP](d:ae)(e f:Int)(g:ax)(b:az)(a:aA)(c:aC):Option (Int ⊕ Unit):=
 LP.lp (unc7 (j1c)) (d,e,f,g,b,a,c)
theorem RT(d e f g b a c):Av d e f g b a c=lpK (j1c d e f g b a c) (λh=>Av h.1 h.2.1 h.2.2.1 h.2.2.2.1 h.2.2.2.2.1 h.2.2.2.2.2.1 h.2.2.2.2.2.2):=bm _ _
def j2r[LP](a:dY)(b:kK):Option (Int):=
 let f:=(Int.ofNat (List.length b.2.1))
 let e:=(Int.ofNat (List.length b.2.2))
 cond (cond (decide (f>6)) true (decide (e>48))) (
 some 5) (
 (j2B b.2.1 a.1 a.2.1 a.2.2.1 a.2.2.2).bind λc=>
 cond (c != 0) (
 some c) (
 let d:=(Int.ofNat (List.length b.2.2))
 (Av b.2.2 d 0 a.1 a.2.1 a.2.2.1 a.2.2.2).bind λg=>
 sumC g (λi=>
 some i) (λj=>
 some 0)))
def j62[LP](a:kK)(f:ax)(d:az)(c:aA)(b:aC):Option (Int):=
 (j2r (f,(d,(c,b))) (a.1,(a.2.1,a.2.2))).bind λe=>
 some e
def j0M[LP](m:ax)(e:az)(f:aA)(g i:aC)(l d:Int)(n:(List (ByteArray×Bool))):Option ((ax×az×aA×aC×aC×Int×Int×(List (ByteArray×Bool))) ⊕ (Int ⊕ Unit)):=
 cond (decide (d<l)) (
 cond (inR d (List.length i)) (
 let a:=(List.getD i (Int.toNat d) (ByteArray.empty,(([]:bc),([]:ae))))
 (jbS (a.1,(a.2.1,a.2.2))).bind λj=>
 (j4F j n).bind λb=>
 cond (b.1 != 0) (
 some (.inr (.inl b.1))) (
 (j62 (a.1,(a.2.1,a.2.2)) m e f g).bind λc=>
 cond (c != 0) (
 some (.inr (.inl c))) (
 let k:=(w64 (d+1))
 some (.inl (m,e,f,g,i,l,k,b.2))))) none) (
 some (.inr (.inr ())))
def xK[LP](i:ax)(a:az)(b:aA)(c f:aC)(d e:Int)(g:(List (ByteArray×Bool))):Option (Int ⊕ Unit):=
 LP.lp (unc8 (j0M)) (i,a,b,c,f,d,e,g)
theorem RU(i:ax)(a:az)(b:aA)(c f:aC)(d e:Int)(g:(List (ByteArray×Bool))):xK i a b c f d e g=lpK (j0M i a b c f d e g) (λh=>xK h.1 h.2.1 h.2.2.1 h.2.2.2.1 h.2.2.2.2.1 h.2.2.2.2.2.1 h.2.2.2.2.2.2.1 h.2.2.2.2.2.2.2):=bm _ _
def j2z[LP](e:aC)(d:ax)(a:az)(b:aA)(c:aC):Option (Int):=
 let f:(List (ByteArray×Bool)):=([]:(List (ByteArray×Bool)))
 let g:=(Int.ofNat (List.length e))
 (xK d a b c e g 0 f).bind λi=>
 sumC i (λj=>
 some j) (λk=>
 some 0)
def j2s[LP](g:az)(i f:Int)(j:ax)(c:az)(d:aA)(e:aC)(r:(List (ByteArray×Bool))):Option ((az×Int×Int×ax×az×aA×aC×(List (ByteArray×Bool))) ⊕ (Int ⊕ (ax×az×aA×aC))):=
 cond (decide (f<i)) (
 cond (inR f (List.length g)) (
 let a:=(List.getD g (Int.toNat f) (ByteArray.empty,(0,(([]:ag),(0,(0,false))))))
 (j4F a.1 r).bind λb=>
 let q:Bool:=(ByteArray.toList a.1==ByteArray.toList (ByteArray.mk #[110,111,98,111,100,121]))
 cond q (
 cond (2==0) (
 (j2A (j,(c,(d,e))) (a.1,(a.2.1,(a.2.2.1,(a.2.2.2.1,(a.2.2.2.2.1,a.2.2.2.2.2)))))).bind λl=>
 cond (l != 0) (
 some (.inr (.inl l))) (
 let m:=(w64 (f+1))
 some (.inl (g,i,m,j,c,d,e,b.2)))) (
 cond (2 != 0) (
 some (.inr (.inl 2))) (
 let n:=(w64 (f+1))
 some (.inl (g,i,n,j,c,d,e,b.2))))) (
 cond (b.1==0) (
 (j2A (j,(c,(d,e))) (a.1,(a.2.1,(a.2.2.1,(a.2.2.2.1,(a.2.2.2.2.1,a.2.2.2.2.2)))))).bind λk=>
 cond (k != 0) (
 some (.inr (.inl k))) (
 let o:=(w64 (f+1))
 some (.inl (g,i,o,j,c,d,e,b.2)))) (
 cond (b.1 != 0) (
 some (.inr (.inl b.1))) (
 let p:=(w64 (f+1))
 some (.inl (g,i,p,j,c,d,e,b.2)))))) none) (
 some (.inr (.inr (j,c,d,e))))
def xL[LP](d:az)(f e:Int)(i:ax)(a:az)(b:aA)(c:aC)(g:(List (ByteArray×Bool))):Option (Int ⊕ (ax×az×aA×aC)):=
 LP.lp (unc8 (j2s)) (d,f,e,i,a,b,c,g)
theorem RW(d:az)(f e:Int)(i:ax)(a:az)(b:aA)(c:aC)(g:(List (ByteArray×Bool))):xL d f e i a b c g=lpK (j2s d f e i a b c g) (λh=>xL h.1 h.2.1 h.2.2.1 h.2.2.2.1 h.2.2.2.2.1 h.2.2.2.2.2.1 h.2.2.2.2.2.2.1 h.2.2.2.2.2.2.2):=bm _ _
def j6a[LP](a:dY):Option (Int):=
 let l:=(Int.ofNat (List.length a.1))
 let k:=(Int.ofNat (List.length a.2.1))
 let m:=(Int.ofNat (List.length a.2.2.1))
 let g:Bool:=(cond (cond (decide (l>16)) true (decide (k>32))) true (decide (m>8)))
 let i:=(Int.ofNat (List.length a.2.2.2))
 cond (cond g true (decide (i>12))) (
 some 5) (
 (j2O a.1).bind λd=>
 cond (d != 0) (
 some d) (
 let f:(List (ByteArray×Bool)):=([]:(List (ByteArray×Bool)))
 let e:=(Int.ofNat (List.length a.2.1))
 (xL a.2.1 e 0 a.1 a.2.1 a.2.2.1 a.2.2.2 f).bind λn=>
 sumC n (λo=>
 some o) (λb=>
 (j1T b.2.2.1 b.1 b.2.1 b.2.2.1 b.2.2.2).bind λc=>
 cond (c != 0) (
 some c) (
 (j2z b.2.2.2 b.1 b.2.1 b.2.2.1 b.2.2.2).bind λj=>
 some j))))
def jgp[LP](a:kJ):Option (dX×Int):=
 (j38 (a.1,(a.2.1,a.2.2))).bind λb=>
 some ((a.2.1,b.1),b.2)
def j30[LP](i:ax)(j d:Int)(g:bQ):Option ((ax×Int×Int×bQ) ⊕ (bQ)):=
 cond (decide (d<j)) (
 cond (inR d (List.length i)) (
 let a:=(List.getD i (Int.toNat d) (ByteArray.empty,(0,([]:cq))))
 (jgp (a.1,(a.2.1,a.2.2))).bind λb=>
 let c:bQ:=[(b.1.1,b.1.2)]
 cond (decide (List.length g+List.length c<=aS)) (
 let f:bQ:=(g++c)
 let e:=(w64 (d+1))
 some (.inl (i,j,e,f))) none) none) (
 some (.inr g))
def xM[LP](b:ax)(d a:Int)(c:bQ):Option (bQ):=
 LP.lp (unc4 (j30)) (b,d,a,c)
theorem RX(d c a b):xM d c a b=lpK (j30 d c a b) (λh=>xM h.1 h.2.1 h.2.2.1 h.2.2.2):=bm _ _
def jaZ[LP](a:ax):Option (bQ):=
 let c:=(Int.ofNat (List.length a))
 (xM a c 0 ([]:bQ)).bind λb=>
 some b
def jcM[LP](a:dY):Option (ik):=
 (jaZ a.1).bind λb=>
 some ((a.1,(a.2.1,(a.2.2.1,a.2.2.2))),b)
def jgq[LP](a:dY):Option (ik×Bool):=
 (j6a (a.1,(a.2.1,(a.2.2.1,a.2.2.2)))).bind λc=>
 cond (c != 0) (
 some (((([]:ax),(([]:az),(([]:aA),([]:aC)))),([]:bQ)),false)) (
 (jcM (a.1,(a.2.1,(a.2.2.1,a.2.2.2)))).bind λb=>
 some (((b.1.1,(b.1.2.1,(b.1.2.2.1,b.1.2.2.2))),b.2),true))
def jeD(a b:Int):Option (Bool):=
 let d:Bool:=(cond (cond (decide (a>=0)) (decide (a<=8589934592)) false) (decide (b>=a)) false)
 let e:=(w64 (b-a))
 let c:Bool:=(cond (cond d (decide (b<=8589934592)) false) (decide (e<=34560000)) false)
 some c
def j5I[LP](c:dY)(b d e:Int):Option (ik×Int):=
 (jgq (c.1,(c.2.1,(c.2.2.1,c.2.2.2)))).bind λa=>
 cond (!a.2) (
 some (((a.1.1.1,(a.1.1.2.1,(a.1.1.2.2.1,a.1.1.2.2.2))),a.1.2),8)) (
 let f:=(Int.ofNat (List.length c.2.1))
 cond (cond (decide (b<0)) true (decide (b>=f))) (
 some (((a.1.1.1,(a.1.1.2.1,(a.1.1.2.2.1,a.1.1.2.2.2))),a.1.2),3)) (
 (jeD d e).bind λg=>
 cond (!g) (
 some (((a.1.1.1,(a.1.1.2.1,(a.1.1.2.2.1,a.1.1.2.2.2))),a.1.2),1)) (
 some (((a.1.1.1,(a.1.1.2.1,(a.1.1.2.2.1,a.1.1.2.2.2))),a.1.2),0))))
def j8P(a:(List Int)):Option ((List Int)):=
 cond (decide (List.length ([]:List (Int))+List.length a<=aS)) (
 some (([]:List (Int))++a)) none
def jbs(a c b:Int):Option (Bool):=
 some (cond (decide (a<=c)) true (decide (a>=b)))
def j1C(i a g c:Int)(b:(List Int)):Option ((Int×Int×Int×Int×(List Int)) ⊕ (nS ⊕ (List Int))):=
 cond (decide (c<g)) (
 cond (inR c (List.length b)) (
 let f:=(List.getD b (Int.toNat c) 0)
 (jbs f i a).bind λd=>
 cond d (
 some (.inr (.inl (c,b)))) (
 let e:=(w64 (c+1))
 some (.inl (i,a,g,e,b)))) none) (
 some (.inr (.inr b)))
def xN[LP](d a c e:Int)(b:(List Int)):Option (nS ⊕ (List Int)):=
 LP.lp (unc5 (j1C)) (d,a,c,e,b)
theorem RY(d a c e b):xN d a c e b=lpK (j1C d a c e b) (λh=>xN h.1 h.2.1 h.2.2.1 h.2.2.2.1 h.2.2.2.2):=bm _ _
def j2j[LP](b:(List Int))(c a:Int):Option nS:=
 let e:=(Int.ofNat (List.length b))
 (xN c a e 0 b).bind λd=>
 sumC d (λf=>
 some (f.1,f.2)) (λg=>
 some ((-1),g))
def j1Y(m a e d:Int)(b:(List Int)):Option ((Int×Int×Int×Int×(List Int)) ⊕ (nS)):=
 let f:=(Int.ofNat (List.length b))
 cond (decide (d<f)) (
 cond (inR d (List.length b)) (
 let c:=(List.getD b (Int.toNat d) 0)
 (jbs c m a).bind λj=>
 cond (!j) (
 cond (inR e (List.length b)) (
 let l:(List Int):=(List.set b (Int.toNat e) c)
 let g:=(w64 (e+1))
 let k:=(w64 (d+1))
 some (.inl (m,a,g,k,l))) none) (
 let i:=(w64 (d+1))
 some (.inl (m,a,e,i,b)))) none) (
 some (.inr (e,b)))
def Aw[LP](e a d c:Int)(b:(List Int)):Option (nS):=
 LP.lp (unc5 (j1Y)) (e,a,d,c,b)
theorem RZ(e a d c b):Aw e a d c b=lpK (j1Y e a d c b) (λh=>Aw h.1 h.2.1 h.2.2.1 h.2.2.2.1 h.2.2.2.2):=bm _ _
def j25[LP](e:(List Int))(d a:Int):Option nS:=
 (j2j e d a).bind λc=>
 cond (c.1==(-1)) (
 some ((Int.ofNat (List.length c.2)),c.2)) (
 let g:=(w64 (c.1+1))
 (Aw d a c.1 g c.2).bind λb=>
 cond (decide (0<=b.1)&&decide (b.1<=(Int.ofNat (List.length b.2)))) (
 let f:(List Int):=(List.take (Int.toNat b.1) b.2++List.replicate (List.length b.2-(Int.toNat b.1)) 0)
 cond (decide (0<=b.1)&&decide (b.1<=(Int.ofNat (List.length f)))) (
 some ((Int.ofNat (Int.toNat b.1)),f)) none) none)
def j78(a:(List Int)):Option ((List Int)):=
 xB a
def j2t(e b c:Int)(a:(List Int)):Option ((Int×Int×Int×(List Int)) ⊕ (nS)):=
 let i:=(Int.ofNat (List.length a-(Int.toNat b)))
 cond (decide (c<i)) (
 cond (inR c (List.length a-(Int.toNat b))) (
 let j:=(List.getD a ((Int.toNat b)+(Int.toNat c)) 0)
 let d:=(w64 (c-1))
 cond (inR d (List.length a-(Int.toNat b))) (
 let l:=(List.getD a ((Int.toNat b)+(Int.toNat d)) 0)
 cond (j != l) (
 cond (inR c (List.length a-(Int.toNat b))) (
 let k:=(List.getD a ((Int.toNat b)+(Int.toNat c)) 0)
 cond (inR e (List.length a)) (
 let n:(List Int):=(List.set a (Int.toNat e) k)
 let g:=(w64 (e+1))
 let f:=(w64 (c+1))
 some (.inl (g,(Int.ofNat (Int.toNat b)),f,n))) none) none) (
 let m:=(w64 (c+1))
 some (.inl (e,(Int.ofNat (Int.toNat b)),m,a)))) none) none) (
 some (.inr (e,a)))
def xO[LP](c a d:Int)(b:(List Int)):Option (nS):=
 LP.lp (unc4 (j2t)) (c,a,d,b)
theorem R0(b d c a):xO b d c a=lpK (j2t b d c a) (λh=>xO h.1 h.2.1 h.2.2.1 h.2.2.2):=bm _ _
def j16[LP](c:Int)(b:(List Int)):Option (nS ⊕ (nS ⊕ (List Int))):=
 let i:=(Int.ofNat (List.length b))
 cond (decide (c<i)) (
 cond (inR c (List.length b)) (
 let f:=(List.getD b (Int.toNat c) 0)
 let d:=(w64 (c-1))
 cond (inR d (List.length b)) (
 let g:=(List.getD b (Int.toNat d) 0)
 cond (f==g) (
 cond (decide (0<=c)&&decide (c<=(Int.ofNat (List.length b)))) (
 (xO c (Int.ofNat (Int.toNat c)) 1 b).bind λa=>
 cond (decide (0<=a.1)&&decide (a.1<=(Int.ofNat (List.length a.2)))) (
 let e:(List Int):=(List.take (Int.toNat a.1) a.2++List.replicate (List.length a.2-(Int.toNat a.1)) 0)
 cond (decide (0<=a.1)&&decide (a.1<=(Int.ofNat (List.length e)))) (
 some (.inr (.inl ((Int.ofNat (Int.toNat a.1)),e)))) none) none) none) (
 let j:=(w64 (c+1))
 some (.inl (j,b)))) none) none) (
 some (.inr (.inr b)))
def tw[LP](b:Int)(a:(List Int)):Option (nS ⊕ (List Int)):=
 LP.lp (unc2 (j16)) (b,a)
theorem R1(b a):tw b a=lpK (j16 b a) (λh=>tw h.1 h.2):=bm _ _
def j2P[LP](a:(List Int)):Option nS:=
 let c:=(Int.ofNat (List.length a))
 cond (decide (c<2)) (
 some ((Int.ofNat (List.length a)),a)) (
 (tw 1 a).bind λb=>
 sumC b (λd=>
 some ((Int.ofNat (Int.toNat d.1)),d.2)) (λe=>
 some ((Int.ofNat (List.length e)),e)))
def jbt[LP](f:(List Int))(b a:Int):Option ((List Int)):=
 (j8P f).bind λk=>
 (j25 k b a).bind λd=>
 let j:(List Int):=(List.take (Int.toNat d.1) d.2)
 (j78 j).bind λg=>
 (j2P g).bind λc=>
 let e:(List Int):=(List.take (Int.toNat c.1) c.2)
 cond (decide (List.length e+List.length [a]<=aS)) (
 let i:(List Int):=(e++[a])
 some i) none
def j3C(a:bc):Option (bc):=
 some a
def jb0(a:ij):Option (Int):=
 cond (a.2.2.2.1==2) (
 let b:=(w64 (7*a.2.2.2.2.1))
 some b) (
 some a.2.2.2.2.1)
def j9z(b e:Int)(a:ag)(c:Int):Option (Bool):=
 cond (inR b (List.length a)) (
 let d:=(List.getD a (Int.toNat b) (0,0))
 some (decide (d.1>c))) none
def j4l(l:Int)(b:ag)(a i k:Int):Option ((Int×ag×Int×Int×Int) ⊕ (Int)):=
 cond (decide (i<k)) (
 let g:=(w64 (i+k))
 let j:Int:=(IntKind.wrap .u64 g)
 let f:Int:=(Int.fdiv j 2)
 let c:=(w64 f)
 (j9z c l b a).bind λe=>
 cond (!e) (
 let d:=(w64 (c+1))
 some (.inl (l,b,a,d,k))) (
 some (.inl (l,b,a,i,c)))) (
 some (.inr i))
def Ax[LP](e:Int)(b:ag)(a d c:Int):Option (Int):=
 LP.lp (unc5 (j4l)) (e,b,a,d,c)
theorem R2(e b a d c):Ax e b a d c=lpK (j4l e b a d c) (λh=>Ax h.1 h.2.1 h.2.2.1 h.2.2.2.1 h.2.2.2.2):=bm _ _
def jb1[LP](d c:Int)(b:ag)(a:Int):Option (Int):=
 (Ax c b a 0 d).bind λe=>
 some e
def j4e[LP](a:dX)(b:Int):Option (Int):=
 let d:=(Int.ofNat (List.length a.2))
 (jb1 d a.1 a.2 b).bind λc=>
 some c
def j5E(a:dX)(b:Int):Option (Int):=
 cond (b==0) (
 some a.1) (
 let c:=(w64 (b-1))
 cond (inR c (List.length a.2)) (
 let d:=(List.getD a.2 (Int.toNat c) (0,0))
 some d.2) none)
def j0H[LP](o c j:Int)(a:ag)(i:af):Option ((Int×Int×Int×ag×af) ⊕ (af)):=
 cond (decide (o<c)) (
 (j4e (j,a) o).bind λb=>
 let p:=(Int.ofNat (List.length a))
 cond (decide (b<p)) (
 cond (inR b (List.length a)) (
 let g:=(List.getD a (Int.toNat b) (0,0))
 let e:Int:=(if g.1<c then g.1 else c:Int)
 (j5E (j,a) b).bind λm=>
 let d:af:=[(o,(e,m))]
 cond (decide (List.length i+List.length d<=aS)) (
 let k:af:=(i++d)
 some (.inl (e,c,j,a,k))) none) none) (
 (j5E (j,a) b).bind λn=>
 let f:af:=[(o,(c,n))]
 cond (decide (List.length i+List.length f<=aS)) (
 let l:af:=(i++f)
 some (.inl (c,c,j,a,l))) none)) (
 some (.inr i))
def vD[LP](c e d:Int)(a:ag)(b:af):Option (af):=
 LP.lp (unc5 (j0H)) (c,e,d,a,b)
theorem Ay(c e d a b):vD c e d a b=lpK (j0H c e d a b) (λh=>vD h.1 h.2.1 h.2.2.1 h.2.2.2.1 h.2.2.2.2):=bm _ _
def j1X[LP](b:dX)(a c:Int):Option (af):=
 (vD a c b.1 b.2 ([]:af)).bind λd=>
 some d
def j5v(a:(Int×Int)):Option (Int):=
 let b:Int:=(if (-1048576)>a.1 then (-1048576) else a.1:Int)
 let d:Int:=(if 1048576<b then 1048576 else b:Int)
 let e:=(w64 (d*86400))
 let c:=(w64 (e+a.2))
 some c
def j2k(j c k e:Int)(f:af):Option ((Int×Int×Int×Int×af) ⊕ ((Int×Bool) ⊕ Unit)):=
 cond (decide (c<j)) (
 cond (inR c (List.length f)) (
 let a:=(List.getD f (Int.toNat c) (0,(0,0)))
 (j5v (k,e)).bind λi=>
 let d:=(w64 (i-a.2.2))
 let b:Int:=(if d>a.1 then d else a.1:Int)
 cond (decide (b<a.2.1)) (
 some (.inr (.inl (b,true)))) (
 let g:=(w64 (c+1))
 some (.inl (j,g,k,e,f)))) none) (
 some (.inr (.inr ())))
def xP[LP](c b e a:Int)(d:af):Option ((Int×Bool) ⊕ Unit):=
 LP.lp (unc5 (j2k)) (c,b,e,a,d)
theorem F3(c b e a d):xP c b e a d=lpK (j2k c b e a d) (λh=>xP h.1 h.2.1 h.2.2.1 h.2.2.2.1 h.2.2.2.2):=bm _ _
def j2F[LP](a:dX)(b:(Int×Int)):Option (Int×Bool):=
 (j1X (a.1,a.2) 0 8589934593).bind λc=>
 let d:=(Int.ofNat (List.length c))
 (xP d 0 b.1 b.2 c).bind λe=>
 sumC e (λf=>
 some (f.1,f.2)) (λg=>
 some (0,false))
def j1d[LP](b:dX)(a:ij)(c:Int):Option (Int×Bool):=
 cond (decide (c>8589934592)) (
 some (0,false)) (
 cond (a.2.2.2.1 != 0) (
 (jb0 (a.1,(a.2.1,((a.2.2.1.1,a.2.2.1.2),(a.2.2.2.1,(a.2.2.2.2.1,(a.2.2.2.2.2.1,(a.2.2.2.2.2.2.1,(a.2.2.2.2.2.2.2.1,a.2.2.2.2.2.2.2.2))))))))).bind λk=>
 let l:=(w64 (c*k))
 let i:=(w64 (a.2.2.1.1+l))
 (j2F (b.1,b.2) (i,a.2.2.1.2)).bind λf=>
 some (f.1,f.2)) (
 (j2F (b.1,b.2) (a.2.2.1.1,a.2.2.1.2)).bind λe=>
 let g:=(w64 (3600*a.2.2.2.2.1))
 let j:=(w64 (g*c))
 let d:=(w64 (e.1+j))
 some (d,(cond e.2 (decide (d<=8589934592)) false))))
def j4G(a:ag):Option (ag):=
 cond (decide (List.length ([]:List ((Int×Int)))+List.length a<=aS)) (
 some (([]:List ((Int×Int)))++a)) none
def ja1(a:(Int×Int)):Option (Bool):=
 some (decide (a.2<=a.1))
def j1e(f c:Int)(b:ag):Option ((Int×Int×ag) ⊕ (dX ⊕ ag)):=
 cond (decide (c<f)) (
 cond (inR c (List.length b)) (
 let a:=(List.getD b (Int.toNat c) (0,0))
 (ja1 (a.1,a.2)).bind λd=>
 cond d (
 some (.inr (.inl (c,b)))) (
 let e:=(w64 (c+1))
 some (.inl (f,e,b)))) none) (
 some (.inr (.inr b)))
def xQ[LP](c b:Int)(a:ag):Option (dX ⊕ ag):=
 LP.lp (unc3 (j1e)) (c,b,a)
theorem R3(c b a):xQ c b a=lpK (j1e c b a) (λh=>xQ h.1 h.2.1 h.2.2):=bm _ _
def j1p[LP](a:ag):Option dX:=
 let c:=(Int.ofNat (List.length a))
 (xQ c 0 a).bind λb=>
 sumC b (λd=>
 some (d.1,d.2)) (λe=>
 some ((-1),e))
def j17(d c:Int)(b:ag):Option ((Int×Int×ag) ⊕ (dX)):=
 let e:=(Int.ofNat (List.length b))
 cond (decide (c<e)) (
 cond (inR c (List.length b)) (
 let a:=(List.getD b (Int.toNat c) (0,0))
 (ja1 (a.1,a.2)).bind λi=>
 cond (!i) (
 cond (inR d (List.length b)) (
 let k:ag:=(List.set b (Int.toNat d) (a.1,a.2))
 let f:=(w64 (d+1))
 let j:=(w64 (c+1))
 some (.inl (f,j,k))) none) (
 let g:=(w64 (c+1))
 some (.inl (d,g,b)))) none) (
 some (.inr (d,b)))
def Az[LP](c b:Int)(a:ag):Option (dX):=
 LP.lp (unc3 (j17)) (c,b,a)
theorem R4(c b a):Az c b a=lpK (j17 c b a) (λh=>Az h.1 h.2.1 h.2.2):=bm _ _
def j0X[LP](c:ag):Option dX:=
 (j1p c).bind λb=>
 cond (b.1==(-1)) (
 some ((Int.ofNat (List.length b.2)),b.2)) (
 let e:=(w64 (b.1+1))
 (Az b.1 e b.2).bind λa=>
 cond (decide (0<=a.1)&&decide (a.1<=(Int.ofNat (List.length a.2)))) (
 let d:ag:=(List.take (Int.toNat a.1) a.2++List.replicate (List.length a.2-(Int.toNat a.1)) (0,0))
 cond (decide (0<=a.1)&&decide (a.1<=(Int.ofNat (List.length d)))) (
 some ((Int.ofNat (Int.toNat a.1)),d)) none) none)
def j8s(a b:(Int×Int)):Option (Int):=
 let c:=(w64 (a.1-b.1))
 some c
def j1P(a:ag):Option (ag):=
 tt ((.pair (.int .i64) (.int .i64))) (λc b=>(j8s c b).getD 0) a
def j4S(m d:Int)(b f:ag):Option ((Int×Int×ag×ag) ⊕ (ag)):=
 cond (decide (d<m)) (
 cond (inR d (List.length f)) (
 let a:=(List.getD f (Int.toNat d) (0,0))
 let c:=(Int.ofNat (List.length b))
 cond (decide (c>0)) (
 let l:=(w64 (c-1))
 cond (inR l (List.length b)) (
 let o:=(List.getD b (Int.toNat l) (0,0)).2
 cond (decide (a.1<=o)) (
 let e:=(w64 (c-1))
 let g:=(w64 (c-1))
 cond (inR g (List.length b)) (
 let k:=(List.getD b (Int.toNat g) (0,0)).2
 let q:Int:=(if a.2>k then a.2 else k:Int)
 cond (inR e (List.length b)) (
 let s:ag:=(List.set b (Int.toNat e) ((List.getD b (Int.toNat e) (0,0)).1,q))
 let p:=(w64 (d+1))
 some (.inl (m,p,s,f))) none) none) (
 let i:ag:=[(a.1,a.2)]
 cond (decide (List.length b+List.length i<=aS)) (
 let n:ag:=(b++i)
 let r:=(w64 (d+1))
 some (.inl (m,r,n,f))) none)) none) (
 let j:ag:=[(a.1,a.2)]
 cond (decide (List.length b+List.length j<=aS)) (
 let t:ag:=(b++j)
 let u:=(w64 (d+1))
 some (.inl (m,u,t,f))) none)) none) (
 some (.inr b))
def xR[LP](c a:Int)(d b:ag):Option (ag):=
 LP.lp (unc4 (j4S)) (c,a,d,b)
theorem Kj(c b d a):xR c b d a=lpK (j4S c b d a) (λh=>xR h.1 h.2.1 h.2.2.1 h.2.2.2):=bm _ _
def j63[LP](c:ag):Option (ag):=
 (j4G c).bind λf=>
 (j0X f).bind λa=>
 let e:ag:=(List.take (Int.toNat a.1) a.2)
 (j1P e).bind λb=>
 let d:=(Int.ofNat (List.length b))
 (xR d 0 ([]:ag) b).bind λg=>
 some g
def j59(u:ag)(j r p:Int)(k:ag)(s d b a f:Int)(t:ag)(q:af):Option ((ag×Int×Int×Int×ag×Int×Int×Int×Int×Int×ag×af) ⊕ ((ag×Int×Int×Int×Int×Int×Int×ag×af))):=
 cond (decide (d<s)) (
 cond (inR d (List.length k)) (
 let e:=(List.getD k (Int.toNat d) (0,0))
 let g:=(w64 (j+e.1))
 let m:Int:=(if g>b then g else b:Int)
 let c:=(w64 (j+e.2))
 let l:Int:=(if c<a then c else a:Int)
 let i:ag:=[(m,l)]
 cond (decide (List.length t+List.length i<=aS)) (
 let o:ag:=(t++i)
 let n:=(w64 (d+1))
 some (.inl (u,j,r,p,k,s,n,b,a,f,o,q))) none) none) (
 some (.inr (u,j,r,p,b,a,f,t,q)))
def AA[LP](m:ag)(j k e:Int)(i:ag)(f d g b a:Int)(l:ag)(c:af):Option ((ag×Int×Int×Int×Int×Int×Int×ag×af)):=
 LP.lp (jtx (j59)) (m,j,k,e,i,f,d,g,b,a,l,c)
theorem R5(m j k e i f d g b a l c):AA m j k e i f d g b a l c=lpK (j59 m j k e i f d g b a l c) (λh=>AA h.1 h.2.1 h.2.2.1 h.2.2.2.1 h.2.2.2.2.1 h.2.2.2.2.2.1 h.2.2.2.2.2.2.1 h.2.2.2.2.2.2.2.1 h.2.2.2.2.2.2.2.2.1 h.2.2.2.2.2.2.2.2.2.1 h.2.2.2.2.2.2.2.2.2.2.1 h.2.2.2.2.2.2.2.2.2.2.2):=bm _ _
def j2J[LP](f:ag)(j k i l b d:Int)(m:ag)(g:af):Option ((ag×Int×Int×Int×Int×Int×Int×ag×af) ⊕ ((ag×Int×Int×ag×af))):=
 cond (decide (j<b)) (
 let c:=(Int.ofNat (List.length f))
 (AA f j k i f c 0 l b d m g).bind λa=>
 let e:=(w64 (a.2.1+604800))
 some (.inl (a.1,e,a.2.2.1,a.2.2.2.1,a.2.2.2.2.1,a.2.2.2.2.2.1,a.2.2.2.2.2.2.1,a.2.2.2.2.2.2.2.1,a.2.2.2.2.2.2.2.2))) (
 some (.inr (f,k,i,m,g)))
def AB[LP](j:ag)(f g d e b a:Int)(i:ag)(c:af):Option ((ag×Int×Int×ag×af)):=
 LP.lp (unc9 (j2J)) (j,f,g,d,e,b,a,i,c)
theorem R6(j f g d e b a i c):AB j f g d e b a i c=lpK (j2J j f g d e b a i c) (λh=>AB h.1 h.2.1 h.2.2.1 h.2.2.2.1 h.2.2.2.2.1 h.2.2.2.2.2.1 h.2.2.2.2.2.2.1 h.2.2.2.2.2.2.2.1 h.2.2.2.2.2.2.2.2):=bm _ _
def j2K[LP](o:ag)(m d:Int)(n:ag)(e:af):Option ((ag×Int×Int×ag×af) ⊕ (ag)):=
 cond (decide (d<m)) (
 cond (inR d (List.length e)) (
 let a:=(List.getD e (Int.toNat d) (0,(0,0)))
 let j:=(w64 (a.1+a.2.2))
 let c:=(w64 (j-(-259200)))
 let k:=(Int.tmod c 604800)
 let f:=(w64 (c-k))
 let i:=(w64 (f+(-259200)))
 let l:=(w64 (i-a.2.2))
 (AB o l m d a.1 a.2.1 a.2.2 n e).bind λb=>
 let g:=(w64 (b.2.2.1+1))
 some (.inl (b.1,b.2.1,g,b.2.2.2.1,b.2.2.2.2))) none) (
 some (.inr n))
def AD[LP](e:ag)(c b:Int)(d:ag)(a:af):Option (ag):=
 LP.lp (unc5 (j2K)) (e,c,b,d,a)
theorem R7(e c b d a):AD e c b d a=lpK (j2K e c b d a) (λh=>AD h.1 h.2.1 h.2.2.1 h.2.2.2.1 h.2.2.2.2):=bm _ _
def j2u[LP](b:dX)(e:ag)(a c:Int):Option (ag):=
 (j1X (b.1,b.2) a c).bind λd=>
 let g:=(Int.ofNat (List.length d))
 (AD e g 0 ([]:ag) d).bind λi=>
 (j63 i).bind λf=>
 some f
def j4i(s u:Int)(i:(List Int))(r d:Int)(w:ByteArray)(j:Int)(k:(List Int))(g b f:Int)(v:ag)(t:af):Option ((Int×Int×(List Int)×Int×Int×ByteArray×Int×(List Int)×Int×Int×Int×ag×af) ⊕ ((Int×Int×ByteArray×Int×(List Int)×ag×af))):=
 cond (decide (d<r)) (
 cond (inR d (List.length i)) (
 let q:=(List.getD i (Int.toNat d) 0)
 let m:=(w64 (q*86400))
 let a:=(w64 (m-f))
 let n:Int:=(if a>g then a else g:Int)
 let c:=(w64 (a+86400))
 let p:Int:=(if c<b then c else b:Int)
 let e:ag:=[(n,p)]
 cond (decide (List.length v+List.length e<=aS)) (
 let l:ag:=(v++e)
 let o:=(w64 (d+1))
 some (.inl (s,u,i,r,o,w,j,k,g,b,f,l,t))) none) none) (
 some (.inr (s,u,w,j,k,v,t)))
def xS[LP](e l:Int)(j:(List Int))(i k:Int)(m:ByteArray)(c:Int)(d:(List Int))(g b a:Int)(n:ag)(f:af):Option ((Int×Int×ByteArray×Int×(List Int)×ag×af)):=
 LP.lp (jwT (j4i)) (e,l,j,i,k,m,c,d,g,b,a,n,f)
theorem R8(e l j i k m c d g b a n f):xS e l j i k m c d g b a n f=lpK (j4i e l j i k m c d g b a n f) (λh=>xS h.1 h.2.1 h.2.2.1 h.2.2.2.1 h.2.2.2.2.1 h.2.2.2.2.2.1 h.2.2.2.2.2.2.1 h.2.2.2.2.2.2.2.1 h.2.2.2.2.2.2.2.2.1 h.2.2.2.2.2.2.2.2.2.1 h.2.2.2.2.2.2.2.2.2.2.1 h.2.2.2.2.2.2.2.2.2.2.2.1 h.2.2.2.2.2.2.2.2.2.2.2.2):=bm _ _
def j2c[LP](i d:Int)(l:ByteArray)(j:Int)(c:(List Int))(k:ag)(e:af):Option ((Int×Int×ByteArray×Int×(List Int)×ag×af) ⊕ (ag)):=
 cond (decide (d<i)) (
 cond (inR d (List.length e)) (
 let b:=(List.getD e (Int.toNat d) (0,(0,0)))
 let g:=(Int.ofNat (List.length c))
 (xS i d c g 0 l j c b.1 b.2.1 b.2.2 k e).bind λa=>
 let f:=(w64 (a.2.1+1))
 some (.inl (a.1,f,a.2.2.1,a.2.2.2.1,a.2.2.2.2.1,a.2.2.2.2.2.1,a.2.2.2.2.2.2))) none) (
 some (.inr k))
def xT[LP](c e:Int)(f:ByteArray)(a:Int)(b:(List Int))(g:ag)(d:af):Option (ag):=
 LP.lp (unc7 (j2c)) (c,e,f,a,b,g,d)
theorem R9(c e f a b g d):xT c e f a b g d=lpK (j2c c e f a b g d) (λh=>xT h.1 h.2.1 h.2.2.1 h.2.2.2.1 h.2.2.2.2.1 h.2.2.2.2.2.1 h.2.2.2.2.2.2):=bm _ _
def j2o[LP](c:ik)(a:qI)(b d:Int):Option (ag):=
 cond (inR a.2.1 (List.length c.2)) (
 let e:=(List.getD c.2 (Int.toNat a.2.1) (0,([]:ag)))
 (j1X (e.1,e.2) b d).bind λf=>
 let g:=(Int.ofNat (List.length f))
 (xT g 0 a.1 a.2.1 a.2.2 ([]:ag) f).bind λj=>
 (j63 j).bind λi=>
 some i) none
def j5a(c:ag)(b:Int)(e:ag)(d f i a:Int)(l:ag):Option ((ag×Int×ag×Int×Int×Int×Int×ag) ⊕ ((ag×Int×ag×Int×Int×Int×Int×ag))):=
 let j:=(Int.ofNat (List.length c))
 cond (decide (b<j)) (
 cond (inR b (List.length c)) (
 let g:=(List.getD c (Int.toNat b) (0,0))
 cond (decide (g.2<=i)) (
 let k:=(w64 (b+1))
 some (.inl (c,k,e,d,f,i,a,l))) (
 some (.inr (c,b,e,d,f,i,a,l)))) none) (
 some (.inr (c,b,e,d,f,i,a,l)))
def AE[LP](i:ag)(g:Int)(c:ag)(b d e a:Int)(f:ag):Option ((ag×Int×ag×Int×Int×Int×Int×ag)):=
 LP.lp (unc8 (j5a)) (i,g,c,b,d,e,a,f)
theorem Sa(i g c b d e a f):AE i g c b d e a f=lpK (j5a i g c b d e a f) (λh=>AE h.1 h.2.1 h.2.2.1 h.2.2.2.1 h.2.2.2.2.1 h.2.2.2.2.2.1 h.2.2.2.2.2.2.1 h.2.2.2.2.2.2.2):=bm _ _
def j5b(b:ag)(w d a:Int)(f:ag)(j k p c:Int)(l:ag):Option ((ag×Int×Int×Int×ag×Int×Int×Int×Int×ag) ⊕ ((ag×Int×Int×ag×Int×Int×Int×Int×ag))):=
 let r:=(Int.ofNat (List.length b))
 cond (decide (a<r)) (
 cond (inR a (List.length b)) (
 let t:=(List.getD b (Int.toNat a) (0,0))
 cond (decide (t.1<c)) (
 cond (inR a (List.length b)) (
 let u:=(List.getD b (Int.toNat a) (0,0))
 cond (decide (d<u.1)) (
 cond (inR a (List.length b)) (
 let s:=(List.getD b (Int.toNat a) (0,0))
 let e:ag:=[(d,s.1)]
 cond (decide (List.length l+List.length e<=aS)) (
 let n:ag:=(l++e)
 cond (inR a (List.length b)) (
 let g:=(List.getD b (Int.toNat a) (0,0))
 let v:Int:=(if g.2>d then g.2 else d:Int)
 let q:=(w64 (a+1))
 some (.inl (b,w,v,q,f,j,k,p,c,n))) none) none) none) (
 cond (inR a (List.length b)) (
 let i:=(List.getD b (Int.toNat a) (0,0))
 let o:Int:=(if i.2>d then i.2 else d:Int)
 let m:=(w64 (a+1))
 some (.inl (b,w,o,m,f,j,k,p,c,l))) none)) none) (
 some (.inr (b,w,d,f,j,k,p,c,l)))) none) (
 some (.inr (b,w,d,f,j,k,p,c,l)))
def xU[LP](k:ag)(i j e:Int)(c:ag)(b d f a:Int)(g:ag):Option ((ag×Int×Int×ag×Int×Int×Int×Int×ag)):=
 LP.lp (jtv (j5b)) (k,i,j,e,c,b,d,f,a,g)
theorem Sb(k i j e c b d f a g):xU k i j e c b d f a g=lpK (j5b k i j e c b d f a g) (λh=>xU h.1 h.2.1 h.2.2.1 h.2.2.2.1 h.2.2.2.2.1 h.2.2.2.2.2.1 h.2.2.2.2.2.2.1 h.2.2.2.2.2.2.2.1 h.2.2.2.2.2.2.2.2.1 h.2.2.2.2.2.2.2.2.2):=bm _ _
def j2L[LP](n:ag)(m:Int)(f:ag)(k e:Int)(l:ag):Option ((ag×Int×ag×Int×Int×ag) ⊕ (ag)):=
 cond (decide (e<k)) (
 cond (inR e (List.length f)) (
 let c:=(List.getD f (Int.toNat e) (0,0))
 (AE n m f k e c.1 c.2 l).bind λb=>
 (xU b.1 b.2.1 b.2.2.2.2.2.1 b.2.1 b.2.2.1 b.2.2.2.1 b.2.2.2.2.1 b.2.2.2.2.2.1 b.2.2.2.2.2.2.1 b.2.2.2.2.2.2.2).bind λa=>
 cond (decide (a.2.2.1<a.2.2.2.2.2.2.2.1)) (
 let d:ag:=[(a.2.2.1,a.2.2.2.2.2.2.2.1)]
 cond (decide (List.length a.2.2.2.2.2.2.2.2+List.length d<=aS)) (
 let j:ag:=(a.2.2.2.2.2.2.2.2++d)
 let g:=(w64 (a.2.2.2.2.2.1+1))
 some (.inl (a.1,a.2.1,a.2.2.2.1,a.2.2.2.2.1,g,j))) none) (
 let i:=(w64 (a.2.2.2.2.2.1+1))
 some (.inl (a.1,a.2.1,a.2.2.2.1,a.2.2.2.2.1,i,a.2.2.2.2.2.2.2.2)))) none) (
 some (.inr l))
def vE[LP](f:ag)(e:Int)(b:ag)(a c:Int)(d:ag):Option (ag):=
 LP.lp (unc6 (j2L)) (f,e,b,a,c,d)
theorem Sc(f e b a c d):vE f e b a c d=lpK (j2L f e b a c d) (λh=>vE h.1 h.2.1 h.2.2.1 h.2.2.2.1 h.2.2.2.2.1 h.2.2.2.2.2):=bm _ _
def j31[LP](a b:ag):Option (ag):=
 let c:=(Int.ofNat (List.length a))
 (vE b 0 a c 0 ([]:ag)).bind λd=>
 some d
def j7a(c a:ag)(d b:Int)(n:ag):Option ((ag×ag×Int×Int×ag) ⊕ (ag)):=
 let w:=(Int.ofNat (List.length c))
 let v:=(Int.ofNat (List.length a))
 cond (cond (decide (d<w)) (decide (b<v)) false) (
 cond (inR d (List.length c)) (
 let g:=(List.getD c (Int.toNat d) (0,0))
 cond (inR b (List.length a)) (
 let e:=(List.getD a (Int.toNat b) (0,0))
 let k:Int:=(if e.1>g.1 then e.1 else g.1:Int)
 cond (inR d (List.length c)) (
 let f:=(List.getD c (Int.toNat d) (0,0))
 cond (inR b (List.length a)) (
 let i:=(List.getD a (Int.toNat b) (0,0))
 let l:Int:=(if i.2<f.2 then i.2 else f.2:Int)
 cond (decide (k<l)) (
 let j:ag:=[(k,l)]
 cond (decide (List.length n+List.length j<=aS)) (
 let m:ag:=(n++j)
 cond (inR d (List.length c)) (
 let o:=(List.getD c (Int.toNat d) (0,0))
 cond (inR b (List.length a)) (
 let p:=(List.getD a (Int.toNat b) (0,0))
 cond (decide (o.2<p.2)) (
 let s:=(w64 (d+1))
 some (.inl (c,a,s,b,m))) (
 let q:=(w64 (b+1))
 some (.inl (c,a,d,q,m)))) none) none) none) (
 cond (inR d (List.length c)) (
 let r:=(List.getD c (Int.toNat d) (0,0))
 cond (inR b (List.length a)) (
 let u:=(List.getD a (Int.toNat b) (0,0))
 cond (decide (r.2<u.2)) (
 let x:=(w64 (d+1))
 some (.inl (c,a,x,b,n))) (
 let t:=(w64 (b+1))
 some (.inl (c,a,d,t,n)))) none) none)) none) none) none) none) (
 some (.inr n))
def tx[LP](a e:ag)(c d:Int)(b:ag):Option (ag):=
 LP.lp (unc5 (j7a)) (a,e,c,d,b)
theorem jjM(a e c d b):tx a e c d b=lpK (j7a a e c d b) (λh=>tx h.1 h.2.1 h.2.2.1 h.2.2.2.1 h.2.2.2.2):=bm _ _
def j4o[LP](a b:ag):Option (ag):=
 (tx a b 0 0 ([]:ag)).bind λc=>
 some c
def j4I[LP](a:ik)(b:ij)(d c:Int):Option (ag):=
 cond (inR b.2.1 (List.length a.2)) (
 let s:=(List.getD a.2 (Int.toNat b.2.1) (0,([]:ag)))
 (j1d (s.1,s.2) (b.1,(b.2.1,((b.2.2.1.1,b.2.2.1.2),(b.2.2.2.1,(b.2.2.2.2.1,(b.2.2.2.2.2.1,(b.2.2.2.2.2.2.1,(b.2.2.2.2.2.2.2.1,b.2.2.2.2.2.2.2.2)))))))) 0).bind λi=>
 cond (cond (cond (!i.2) true (decide (i.1>=c))) true (decide (d>=c))) (
 some ([]:ag)) (
 let e:Int:=(if i.1>d then i.1 else d:Int)
 let k:ag:=[(e,c)]
 let u:=(Int.ofNat (List.length b.2.2.2.2.2.2.1))
 cond (decide (u>0)) (
 cond (inR b.2.1 (List.length a.2)) (
 let r:=(List.getD a.2 (Int.toNat b.2.1) (0,([]:ag)))
 (j2u (r.1,r.2) b.2.2.2.2.2.2.1 e c).bind λj=>
 cond (b.2.2.2.2.2.2.2.2==1) (
 cond (inR b.2.2.2.2.2.2.2.1 (List.length a.1.2.2.1)) (
 let m:=(List.getD a.1.2.2.1 (Int.toNat b.2.2.2.2.2.2.2.1) (ByteArray.empty,(0,([]:(List Int)))))
 (j2o ((a.1.1,(a.1.2.1,(a.1.2.2.1,a.1.2.2.2))),a.2) (m.1,(m.2.1,m.2.2)) e c).bind λw=>
 (j31 j w).bind λt=>
 some t) none) (
 cond (b.2.2.2.2.2.2.2.2==2) (
 cond (inR b.2.2.2.2.2.2.2.1 (List.length a.1.2.2.1)) (
 let l:=(List.getD a.1.2.2.1 (Int.toNat b.2.2.2.2.2.2.2.1) (ByteArray.empty,(0,([]:(List Int)))))
 (j2o ((a.1.1,(a.1.2.1,(a.1.2.2.1,a.1.2.2.2))),a.2) (l.1,(l.2.1,l.2.2)) e c).bind λx=>
 (j4o j x).bind λv=>
 some v) none) (
 some j))) none) (
 cond (b.2.2.2.2.2.2.2.2==1) (
 cond (inR b.2.2.2.2.2.2.2.1 (List.length a.1.2.2.1)) (
 let f:=(List.getD a.1.2.2.1 (Int.toNat b.2.2.2.2.2.2.2.1) (ByteArray.empty,(0,([]:(List Int)))))
 (j2o ((a.1.1,(a.1.2.1,(a.1.2.2.1,a.1.2.2.2))),a.2) (f.1,(f.2.1,f.2.2)) e c).bind λo=>
 (j31 k o).bind λq=>
 some q) none) (
 cond (b.2.2.2.2.2.2.2.2==2) (
 cond (inR b.2.2.2.2.2.2.2.1 (List.length a.1.2.2.1)) (
 let g:=(List.getD a.1.2.2.1 (Int.toNat b.2.2.2.2.2.2.2.1) (ByteArray.empty,(0,([]:(List Int)))))
 (j2o ((a.1.1,(a.1.2.1,(a.1.2.2.1,a.1.2.2.2))),a.2) (g.1,(g.2.1,g.2.2)) e c).bind λn=>
 (j4o k n).bind λp=>
 some p) none) (
 some k))))) none
def j4p[LP](a:dX)(b:Int):Option (Int):=
 (j4e (a.1,a.2) b).bind λd=>
 (j5E (a.1,a.2) d).bind λc=>
 some c
def jh1(a:Int):Option ((Int×Int)):=
 let e:=(w64 (Int.tdiv a 86400))
 let i:=(Int.tmod a 86400)
 cond (decide (i<0)) (
 let d:=(w64 (e-1))
 let f:=(w64 (d*86400))
 let g:=(w64 (a-f))
 some (d,g)) (
 let c:=(w64 (e*86400))
 let b:=(w64 (a-c))
 some (e,b))
def j1y[LP](b:dX)(a:Int):Option ((Int×Int)):=
 (j4p (b.1,b.2) a).bind λd=>
 let e:=(w64 (a+d))
 (jh1 e).bind λc=>
 some (c.1,c.2)
def j2v[LP](q m p:Int)(f:ag)(n:ByteArray)(g i c k a:Int)(j:(List Int))(d:ag)(b e:Int):Option ((Int×Int×Int×ag×ByteArray×Int×Int×Int×Int×Int×(List Int)×ag×Int×Int) ⊕ ((Int×Int×Int×ag×ByteArray×Int×Int×Int×Int×Int×(List Int)×ag×Int×Int))):=
 cond (decide (m>0)) (
 (j1d (p,f) (n,(g,((i,c),(k,(a,(j,(d,(b,e)))))))) m).bind λl=>
 cond (cond l.2 (decide (l.1<=q)) false) (
 some (.inr (q,m,p,f,n,g,i,c,k,a,j,d,b,e))) (
 let o:=(w64 (m-1))
 some (.inl (q,o,p,f,n,g,i,c,k,a,j,d,b,e)))) (
 some (.inr (q,m,p,f,n,g,i,c,k,a,j,d,b,e)))
def AF[LP](o m n:Int)(f:ag)(l:ByteArray)(g i c k a:Int)(j:(List Int))(d:ag)(b e:Int):Option ((Int×Int×Int×ag×ByteArray×Int×Int×Int×Int×Int×(List Int)×ag×Int×Int)):=
 LP.lp (jmG (j2v)) (o,m,n,f,l,g,i,c,k,a,j,d,b,e)
theorem Sd(o m n f l g i c k a j d b e):AF o m n f l g i c k a j d b e=lpK (j2v o m n f l g i c k a j d b e) (λh=>AF h.1 h.2.1 h.2.2.1 h.2.2.2.1 h.2.2.2.2.1 h.2.2.2.2.2.1 h.2.2.2.2.2.2.1 h.2.2.2.2.2.2.2.1 h.2.2.2.2.2.2.2.2.1 h.2.2.2.2.2.2.2.2.2.1 h.2.2.2.2.2.2.2.2.2.2.1 h.2.2.2.2.2.2.2.2.2.2.2.1 h.2.2.2.2.2.2.2.2.2.2.2.2.1 h.2.2.2.2.2.2.2.2.2.2.2.2.2):=bm _ _
def j32[LP](r o q:Int)(g:ag)(p:ByteArray)(i j d l b:Int)(k:(List Int))(e:ag)(c f:Int):Option ((Int×Int×Int×ag×ByteArray×Int×Int×Int×Int×Int×(List Int)×ag×Int×Int) ⊕ (Int)):=
 let n:=(w64 (o+1))
 (j1d (q,g) (p,(i,((j,d),(l,(b,(k,(e,(c,f)))))))) n).bind λa=>
 cond (cond (!a.2) true (decide (a.1>r))) (
 some (.inr o)) (
 let m:=(w64 (o+1))
 some (.inl (r,m,q,g,p,i,j,d,l,b,k,e,c,f)))
def AG[LP](o m n:Int)(f:ag)(l:ByteArray)(g i c k a:Int)(j:(List Int))(d:ag)(b e:Int):Option (Int):=
 LP.lp (jmG (j32)) (o,m,n,f,l,g,i,c,k,a,j,d,b,e)
theorem jhL(o m n f l g i c k a j d b e):AG o m n f l g i c k a j d b e=lpK (j32 o m n f l g i c k a j d b e) (λh=>AG h.1 h.2.1 h.2.2.1 h.2.2.2.1 h.2.2.2.2.1 h.2.2.2.2.2.1 h.2.2.2.2.2.2.1 h.2.2.2.2.2.2.2.1 h.2.2.2.2.2.2.2.2.1 h.2.2.2.2.2.2.2.2.2.1 h.2.2.2.2.2.2.2.2.2.2.1 h.2.2.2.2.2.2.2.2.2.2.2.1 h.2.2.2.2.2.2.2.2.2.2.2.2.1 h.2.2.2.2.2.2.2.2.2.2.2.2.2):=bm _ _
def j3u[LP](c:dX)(a:ij)(d:Int):Option (Int):=
 (j1d (c.1,c.2) (a.1,(a.2.1,((a.2.2.1.1,a.2.2.1.2),(a.2.2.2.1,(a.2.2.2.2.1,(a.2.2.2.2.2.1,(a.2.2.2.2.2.2.1,(a.2.2.2.2.2.2.2.1,a.2.2.2.2.2.2.2.2)))))))) 0).bind λe=>
 cond (cond (!e.2) true (decide (e.1>d))) (
 some (-1)) (
 cond (a.2.2.2.1==0) (
 let l:=(w64 (d-e.1))
 let g:=(w64 (3600*a.2.2.2.2.1))
 cond (!(g==0)) (
 let n:=(w64 (Int.tdiv l g))
 some n) none) (
 (j1y (c.1,c.2) d).bind λj=>
 let k:=(w64 (j.1-a.2.2.1.1))
 (jb0 (a.1,(a.2.1,((a.2.2.1.1,a.2.2.1.2),(a.2.2.2.1,(a.2.2.2.2.1,(a.2.2.2.2.2.1,(a.2.2.2.2.2.2.1,(a.2.2.2.2.2.2.2.1,a.2.2.2.2.2.2.2.2))))))))).bind λi=>
 cond (!(i==0)) (
 let f:=(w64 (Int.tdiv k i))
 let m:Int:=(if f>0 then f else 0:Int)
 (AF d m c.1 c.2 a.1 a.2.1 a.2.2.1.1 a.2.2.1.2 a.2.2.2.1 a.2.2.2.2.1 a.2.2.2.2.2.1 a.2.2.2.2.2.2.1 a.2.2.2.2.2.2.2.1 a.2.2.2.2.2.2.2.2).bind λb=>
 (AG b.1 b.2.1 b.2.2.1 b.2.2.2.1 b.2.2.2.2.1 b.2.2.2.2.2.1 b.2.2.2.2.2.2.1 b.2.2.2.2.2.2.2.1 b.2.2.2.2.2.2.2.2.1 b.2.2.2.2.2.2.2.2.2.1 b.2.2.2.2.2.2.2.2.2.2.1 b.2.2.2.2.2.2.2.2.2.2.2.1 b.2.2.2.2.2.2.2.2.2.2.2.2.1 b.2.2.2.2.2.2.2.2.2.2.2.2.2).bind λo=>
 some o) none))
def j6c(f:af)(m e:Int)(b:af):Option ((af×Int×Int×af) ⊕ (af)):=
 cond (decide (e<m)) (
 cond (inR e (List.length f)) (
 let a:=(List.getD f (Int.toNat e) (0,(0,0)))
 cond (decide (a.2.1<=a.1)) (
 let r:=(w64 (e+1))
 some (.inl (f,m,r,b))) (
 let d:=(Int.ofNat (List.length b))
 cond (decide (d>0)) (
 let j:=(w64 (d-1))
 cond (inR j (List.length b)) (
 let w:=(List.getD b (Int.toNat j) (0,(0,0))).2.1
 cond (w==a.1) (
 let l:=(w64 (d-1))
 cond (inR l (List.length b)) (
 let s:=(List.getD b (Int.toNat l) (0,(0,0))).2.2
 cond (s==a.2.2) (
 let c:=(w64 (d-1))
 cond (inR c (List.length b)) (
 let x:af:=(List.set b (Int.toNat c) ((List.getD b (Int.toNat c) (0,(0,0))).1,(a.2.1,(List.getD b (Int.toNat c) (0,(0,0))).2.2)))
 let t:=(w64 (e+1))
 some (.inl (f,m,t,x))) none) (
 let g:af:=[(a.1,(a.2.1,a.2.2))]
 cond (decide (List.length b+List.length g<=aS)) (
 let v:af:=(b++g)
 let u:=(w64 (e+1))
 some (.inl (f,m,u,v))) none)) none) (
 let k:af:=[(a.1,(a.2.1,a.2.2))]
 cond (decide (List.length b+List.length k<=aS)) (
 let p:af:=(b++k)
 let n:=(w64 (e+1))
 some (.inl (f,m,n,p))) none)) none) (
 let i:af:=[(a.1,(a.2.1,a.2.2))]
 cond (decide (List.length b+List.length i<=aS)) (
 let q:af:=(b++i)
 let o:=(w64 (e+1))
 some (.inl (f,m,o,q))) none))) none) (
 some (.inr b))
def vF[LP](b:af)(a d:Int)(c:af):Option (af):=
 LP.lp (unc4 (j6c)) (b,a,d,c)
theorem Se(b d c a):vF b d c a=lpK (j6c b d c a) (λh=>vF h.1 h.2.1 h.2.2.1 h.2.2.2):=bm _ _
def j7A[LP](a:af):Option (af):=
 let c:=(Int.ofNat (List.length a))
 (vF a c 0 ([]:af)).bind λb=>
 some b
def j1V[LP](b6 o b2 y a0 a3:Int)(a7:ByteArray)(l m k e g:Int)(a:(List Int))(j:ag)(i f p:Int)(c:ag)(b0 b:Int)(z:af)(a1:ag):Option ((Int×Int×Int×Int×Int×Int×ByteArray×Int×Int×Int×Int×Int×(List Int)×ag×Int×Int×Int×ag×Int×Int×af×ag) ⊕ ((Int×Int×Int×Int×Int×Int×ByteArray×Int×Int×Int×Int×Int×(List Int)×ag×Int×Int×Int×ag×af×ag))):=
 cond (decide (o<b)) (
 cond (decide (o>=y)) (
 (j3u (p,c) (a7,(l,((m,k),(e,(g,(a,(j,(i,f)))))))) o).bind λd=>
 let b5:=(w64 (d+1))
 (j1d (p,c) (a7,(l,((m,k),(e,(g,(a,(j,(i,f)))))))) b5).bind λn=>
 cond (!n.2) (
 let a2:Int:=(if 8589934593<b then 8589934593 else b:Int)
 let a4:=(Int.ofNat (List.length a))
 cond (!(a4==0)) (
 let a6:=(Int.tmod d a4)
 cond (inR a6 (List.length a)) (
 let b4:=(List.getD a (Int.toNat a6) 0)
 let a5:af:=[(o,(a2,b4))]
 cond (decide (List.length z+List.length a5<=aS)) (
 let b7:af:=(z++a5)
 some (.inl (b6,a2,d,8589934593,a0,a3,a7,l,m,k,e,g,a,j,i,f,p,c,b0,b,b7,a1))) none) none) none) (
 let t:Int:=(if n.1<b then n.1 else b:Int)
 let w:=(Int.ofNat (List.length a))
 cond (!(w==0)) (
 let x:=(Int.tmod d w)
 cond (inR x (List.length a)) (
 let b1:=(List.getD a (Int.toNat x) 0)
 let v:af:=[(o,(t,b1))]
 cond (decide (List.length z+List.length v<=aS)) (
 let a8:af:=(z++v)
 some (.inl (b6,t,d,n.1,a0,a3,a7,l,m,k,e,g,a,j,i,f,p,c,b0,b,a8,a1))) none) none) none)) (
 let q:Int:=(if y<b then y else b:Int)
 let r:=(Int.ofNat (List.length a))
 cond (!(r==0)) (
 let s:=(Int.tmod b2 r)
 cond (inR s (List.length a)) (
 let a9:=(List.getD a (Int.toNat s) 0)
 let u:af:=[(o,(q,a9))]
 cond (decide (List.length z+List.length u<=aS)) (
 let b3:af:=(z++u)
 some (.inl (b6,q,b2,y,a0,a3,a7,l,m,k,e,g,a,j,i,f,p,c,b0,b,b3,a1))) none) none) none)) (
 some (.inr (b6,o,b2,y,a0,a3,a7,l,m,k,e,g,a,j,i,f,p,c,z,a1)))
def xV[LP](w p s t m q:Int)(u:ByteArray)(j k i c e:Int)(l:(List Int))(g:ag)(f d n:Int)(a:ag)(r b:Int)(v:af)(o:ag):Option ((Int×Int×Int×Int×Int×Int×ByteArray×Int×Int×Int×Int×Int×(List Int)×ag×Int×Int×Int×ag×af×ag)):=
 LP.lp (jzV (j1V)) (w,p,s,t,m,q,u,j,k,i,c,e,l,g,f,d,n,a,r,b,v,o)
theorem jeF(w p s t m q u j k i c e l g f d n a r b v o):xV w p s t m q u j k i c e l g f d n a r b v o=lpK (j1V w p s t m q u j k i c e l g f d n a r b v o) (λh=>xV h.1 h.2.1 h.2.2.1 h.2.2.2.1 h.2.2.2.2.1 h.2.2.2.2.2.1 h.2.2.2.2.2.2.1 h.2.2.2.2.2.2.2.1 h.2.2.2.2.2.2.2.2.1 h.2.2.2.2.2.2.2.2.2.1 h.2.2.2.2.2.2.2.2.2.2.1 h.2.2.2.2.2.2.2.2.2.2.2.1 h.2.2.2.2.2.2.2.2.2.2.2.2.1 h.2.2.2.2.2.2.2.2.2.2.2.2.2.1 h.2.2.2.2.2.2.2.2.2.2.2.2.2.2.1 h.2.2.2.2.2.2.2.2.2.2.2.2.2.2.2.1 h.2.2.2.2.2.2.2.2.2.2.2.2.2.2.2.2.1 h.2.2.2.2.2.2.2.2.2.2.2.2.2.2.2.2.2.1 h.2.2.2.2.2.2.2.2.2.2.2.2.2.2.2.2.2.2.1 h.2.2.2.2.2.2.2.2.2.2.2.2.2.2.2.2.2.2.2.1 h.2.2.2.2.2.2.2.2.2.2.2.2.2.2.2.2.2.2.2.2.1 h.2.2.2.2.2.2.2.2.2.2.2.2.2.2.2.2.2.2.2.2.2):=bm _ _
def j1v[LP](w k x y j c:Int)(z:ByteArray)(s t r l o:Int)(u:(List Int))(q:ag)(p m v:Int)(f:ag)(n:af)(e:ag):Option ((Int×Int×Int×Int×Int×Int×ByteArray×Int×Int×Int×Int×Int×(List Int)×ag×Int×Int×Int×ag×af×ag) ⊕ ((Int×Int×af))):=
 cond (decide (c<j)) (
 cond (inR c (List.length e)) (
 let b:=(List.getD e (Int.toNat c) (0,0))
 let d:af:=[(k,(b.1,(-1)))]
 cond (decide (List.length n+List.length d<=aS)) (
 let g:af:=(n++d)
 (xV w b.1 x y j c z s t r l o u q p m v f b.1 b.2 g e).bind λa=>
 let i:=(w64 (a.2.2.2.2.2.1+1))
 some (.inl (a.1,a.2.1,a.2.2.1,a.2.2.2.1,a.2.2.2.2.1,i,a.2.2.2.2.2.2.1,a.2.2.2.2.2.2.2.1,a.2.2.2.2.2.2.2.2.1,a.2.2.2.2.2.2.2.2.2.1,a.2.2.2.2.2.2.2.2.2.2.1,a.2.2.2.2.2.2.2.2.2.2.2.1,a.2.2.2.2.2.2.2.2.2.2.2.2.1,a.2.2.2.2.2.2.2.2.2.2.2.2.2.1,a.2.2.2.2.2.2.2.2.2.2.2.2.2.2.1,a.2.2.2.2.2.2.2.2.2.2.2.2.2.2.2.1,a.2.2.2.2.2.2.2.2.2.2.2.2.2.2.2.2.1,a.2.2.2.2.2.2.2.2.2.2.2.2.2.2.2.2.2.1,a.2.2.2.2.2.2.2.2.2.2.2.2.2.2.2.2.2.2.1,a.2.2.2.2.2.2.2.2.2.2.2.2.2.2.2.2.2.2.2))) none) none) (
 some (.inr (w,k,n)))
def xW[LP](u o q r l p:Int)(s:ByteArray)(i j g b d:Int)(k:(List Int))(f:ag)(e c m:Int)(a:ag)(t:af)(n:ag):Option ((Int×Int×af)):=
 LP.lp (jzU (j1v)) (u,o,q,r,l,p,s,i,j,g,b,d,k,f,e,c,m,a,t,n)
theorem Sf(u o q r l p s i j g b d k f e c m a t n):xW u o q r l p s i j g b d k f e c m a t n=lpK (j1v u o q r l p s i j g b d k f e c m a t n) (λh=>xW h.1 h.2.1 h.2.2.1 h.2.2.2.1 h.2.2.2.2.1 h.2.2.2.2.2.1 h.2.2.2.2.2.2.1 h.2.2.2.2.2.2.2.1 h.2.2.2.2.2.2.2.2.1 h.2.2.2.2.2.2.2.2.2.1 h.2.2.2.2.2.2.2.2.2.2.1 h.2.2.2.2.2.2.2.2.2.2.2.1 h.2.2.2.2.2.2.2.2.2.2.2.2.1 h.2.2.2.2.2.2.2.2.2.2.2.2.2.1 h.2.2.2.2.2.2.2.2.2.2.2.2.2.2.1 h.2.2.2.2.2.2.2.2.2.2.2.2.2.2.2.1 h.2.2.2.2.2.2.2.2.2.2.2.2.2.2.2.2.1 h.2.2.2.2.2.2.2.2.2.2.2.2.2.2.2.2.2.1 h.2.2.2.2.2.2.2.2.2.2.2.2.2.2.2.2.2.2.1 h.2.2.2.2.2.2.2.2.2.2.2.2.2.2.2.2.2.2.2):=bm _ _
def j1Z[LP](b:ik)(a:ij)(c d:Int):Option (af):=
 cond (inR a.2.1 (List.length b.2)) (
 let i:=(List.getD b.2 (Int.toNat a.2.1) (0,([]:ag)))
 (j4I ((b.1.1,(b.1.2.1,(b.1.2.2.1,b.1.2.2.2))),b.2) (a.1,(a.2.1,((a.2.2.1.1,a.2.2.1.2),(a.2.2.2.1,(a.2.2.2.2.1,(a.2.2.2.2.2.1,(a.2.2.2.2.2.2.1,(a.2.2.2.2.2.2.2.1,a.2.2.2.2.2.2.2.2)))))))) c d).bind λg=>
 let j:=(Int.ofNat (List.length g))
 (xW d c (-1) (-1) j 0 a.1 a.2.1 a.2.2.1.1 a.2.2.1.2 a.2.2.2.1 a.2.2.2.2.1 a.2.2.2.2.2.1 a.2.2.2.2.2.2.1 a.2.2.2.2.2.2.2.1 a.2.2.2.2.2.2.2.2 i.1 i.2 ([]:af) g).bind λe=>
 let f:af:=[(e.2.1,(e.1,(-1)))]
 cond (decide (List.length e.2.2+List.length f<=aS)) (
 let l:af:=(e.2.2++f)
 (j7A l).bind λk=>
 some k) none) none
def j5c(k:Int)(i:ae)(d b:Int)(f:ag):Option ((Int×ae×Int×Int×ag) ⊕ (ag)):=
 cond (decide (b<d)) (
 cond (inR b (List.length i)) (
 let a:=(List.getD i (Int.toNat b) (0,(0,(0,(0,0)))))
 cond (cond (a.1==0) (a.2.1==k) false) (
 let c:ag:=[(a.2.2.2.1,a.2.2.2.2)]
 cond (decide (List.length f+List.length c<=aS)) (
 let g:ag:=(f++c)
 let j:=(w64 (b+1))
 some (.inl (k,i,d,j,g))) none) (
 let e:=(w64 (b+1))
 some (.inl (k,i,d,e,f)))) none) (
 some (.inr f))
def xX[LP](e:Int)(d:ae)(b a:Int)(c:ag):Option (ag):=
 LP.lp (unc5 (j5c)) (e,d,b,a,c)
theorem Sh(e d b a c):xX e d b a c=lpK (j5c e d b a c) (λh=>xX h.1 h.2.1 h.2.2.1 h.2.2.2.1 h.2.2.2.2):=bm _ _
def j5w[LP](b:kK)(a:Int):Option (ag):=
 let d:=(Int.ofNat (List.length b.2.2))
 (xX a b.2.2 d 0 ([]:ag)).bind λe=>
 (j63 e).bind λc=>
 some c
def j4J(n:af)(m l k c:Int)(r:ByteArray)(e:bc)(d:ae)(s p f:Int)(q:bQ)(o:af)(g:ag):Option ((af×Int×Int×Int×Int×ByteArray×bc×ae×Int×Int×Int×bQ×af×ag) ⊕ ((af×Int×Int×ByteArray×bc×ae×bQ×af))):=
 cond (decide (c<k)) (
 cond (inR c (List.length g)) (
 let b:=(List.getD g (Int.toNat c) (0,0))
 let a:af:=[(b.1,(b.2,f))]
 cond (decide (List.length o+List.length a<=aS)) (
 let i:af:=(o++a)
 let j:=(w64 (c+1))
 some (.inl (n,m,l,k,j,r,e,d,s,p,f,q,i,g))) none) none) (
 some (.inr (n,m,l,r,e,d,q,o)))
def tz[LP](k:af)(j g e i:Int)(o:ByteArray)(b:bc)(a:ae)(m d c:Int)(n:bQ)(l:af)(f:ag):Option ((af×Int×Int×ByteArray×bc×ae×bQ×af)):=
 LP.lp (jmG (j4J)) (k,j,g,e,i,o,b,a,m,d,c,n,l,f)
theorem Si(k j g e i o b a m d c n l f):tz k j g e i o b a m d c n l f=lpK (j4J k j g e i o b a m d c n l f) (λh=>tz h.1 h.2.1 h.2.2.1 h.2.2.2.1 h.2.2.2.2.1 h.2.2.2.2.2.1 h.2.2.2.2.2.2.1 h.2.2.2.2.2.2.2.1 h.2.2.2.2.2.2.2.2.1 h.2.2.2.2.2.2.2.2.2.1 h.2.2.2.2.2.2.2.2.2.2.1 h.2.2.2.2.2.2.2.2.2.2.2.1 h.2.2.2.2.2.2.2.2.2.2.2.2.1 h.2.2.2.2.2.2.2.2.2.2.2.2.2):=bm _ _
def j2w[LP](g:af)(j d:Int)(t:ByteArray)(e:bc)(f:ae)(l:bQ)(q:af):Option ((af×Int×Int×ByteArray×bc×ae×bQ×af) ⊕ (af)):=
 cond (decide (d<j)) (
 cond (inR d (List.length g)) (
 let a:=(List.getD g (Int.toNat d) (0,(0,0)))
 cond (decide (a.2.2<0)) (
 let r:=(w64 (d+1))
 some (.inl (g,j,r,t,e,f,l,q))) (
 let z:ag:=(gq ([]:ag) l a.2.2)
 cond (!(hG l a.2.2)) (
 (j5w (t,(e,f)) a.2.2).bind λp=>
 let m:bQ:=(gU l a.2.2 p)
 let s:ag:=[(a.1,a.2.1)]
 let n:ag:=(gq ([]:ag) m a.2.2)
 (j31 s n).bind λi=>
 let v:=(Int.ofNat (List.length i))
 (tz g j d v 0 t e f a.1 a.2.1 a.2.2 m q i).bind λb=>
 let y:=(w64 (b.2.2.1+1))
 some (.inl (b.1,b.2.1,y,b.2.2.2.1,b.2.2.2.2.1,b.2.2.2.2.2.1,b.2.2.2.2.2.2.1,b.2.2.2.2.2.2.2))) (
 let u:ag:=[(a.1,a.2.1)]
 let w:ag:=(gq ([]:ag) l a.2.2)
 (j31 u w).bind λk=>
 let o:=(Int.ofNat (List.length k))
 (tz g j d o 0 t e f a.1 a.2.1 a.2.2 l q k).bind λc=>
 let x:=(w64 (c.2.2.1+1))
 some (.inl (c.1,c.2.1,x,c.2.2.2.1,c.2.2.2.2.1,c.2.2.2.2.2.1,c.2.2.2.2.2.2.1,c.2.2.2.2.2.2.2))))) none) (
 some (.inr q))
def vG[LP](e:af)(d c:Int)(i:ByteArray)(b:bc)(a:ae)(g:bQ)(f:af):Option (af):=
 LP.lp (unc8 (j2w)) (e,d,c,i,b,a,g,f)
theorem Sj(e d c i b a g f):vG e d c i b a g f=lpK (j2w e d c i b a g f) (λh=>vG h.1 h.2.1 h.2.2.1 h.2.2.2.1 h.2.2.2.2.1 h.2.2.2.2.2.1 h.2.2.2.2.2.2.1 h.2.2.2.2.2.2.2):=bm _ _
def j6e[LP](a:kK)(b:af):Option (af):=
 let c:bQ:=([]:bQ)
 let d:=(Int.ofNat (List.length b))
 (vG b d 0 a.1 a.2.1 a.2.2 c ([]:af)).bind λe=>
 some e
def j6F(a:af)(c:ag)(b d:Int)(n:af):Option ((af×ag×Int×Int×af) ⊕ (af)):=
 let x:=(Int.ofNat (List.length a))
 let w:=(Int.ofNat (List.length c))
 cond (cond (decide (b<x)) (decide (d<w)) false) (
 cond (inR b (List.length a)) (
 let g:=(List.getD a (Int.toNat b) (0,(0,0)))
 cond (inR d (List.length c)) (
 let e:=(List.getD c (Int.toNat d) (0,0))
 let k:Int:=(if e.1>g.1 then e.1 else g.1:Int)
 cond (inR b (List.length a)) (
 let f:=(List.getD a (Int.toNat b) (0,(0,0)))
 cond (inR d (List.length c)) (
 let i:=(List.getD c (Int.toNat d) (0,0))
 let m:Int:=(if i.2<f.2.1 then i.2 else f.2.1:Int)
 cond (inR b (List.length a)) (
 let s:=(List.getD a (Int.toNat b) (0,(0,0)))
 cond (decide (k<m)) (
 let l:af:=[(k,(m,s.2.2))]
 cond (decide (List.length n+List.length l<=aS)) (
 let j:af:=(n++l)
 cond (inR b (List.length a)) (
 let o:=(List.getD a (Int.toNat b) (0,(0,0)))
 cond (inR d (List.length c)) (
 let u:=(List.getD c (Int.toNat d) (0,0))
 cond (decide (o.2.1<u.2)) (
 let p:=(w64 (b+1))
 some (.inl (a,c,p,d,j))) (
 let t:=(w64 (d+1))
 some (.inl (a,c,b,t,j)))) none) none) none) (
 cond (inR b (List.length a)) (
 let v:=(List.getD a (Int.toNat b) (0,(0,0)))
 cond (inR d (List.length c)) (
 let y:=(List.getD c (Int.toNat d) (0,0))
 cond (decide (v.2.1<y.2)) (
 let q:=(w64 (b+1))
 some (.inl (a,c,q,d,n))) (
 let r:=(w64 (d+1))
 some (.inl (a,c,b,r,n)))) none) none)) none) none) none) none) none) (
 some (.inr n))
def tA[LP](a:af)(e:ag)(c d:Int)(b:af):Option (af):=
 LP.lp (unc5 (j6F)) (a,e,c,d,b)
theorem jiM(a e c d b):tA a e c d b=lpK (j6F a e c d b) (λh=>tA h.1 h.2.1 h.2.2.1 h.2.2.2.1 h.2.2.2.2):=bm _ _
def j86[LP](b:af)(a:ag):Option (af):=
 (tA b a 0 0 ([]:af)).bind λc=>
 some c
def j5L(g:af)(i d:Int)(f:ag):Option ((af×Int×Int×ag) ⊕ (ag)):=
 cond (decide (d<i)) (
 cond (inR d (List.length g)) (
 let a:=(List.getD g (Int.toNat d) (0,(0,0)))
 let b:ag:=[(a.1,a.2.1)]
 cond (decide (List.length f+List.length b<=aS)) (
 let c:ag:=(f++b)
 let e:=(w64 (d+1))
 some (.inl (g,i,e,c))) none) none) (
 some (.inr f))
def xY[LP](b:af)(d a:Int)(c:ag):Option (ag):=
 LP.lp (unc4 (j5L)) (b,d,a,c)
theorem Sk(b c d a):xY b c d a=lpK (j5L b c d a) (λh=>xY h.1 h.2.1 h.2.2.1 h.2.2.2):=bm _ _
def j87[LP](a:af):Option (ag):=
 let d:=(Int.ofNat (List.length a))
 (xY a d 0 ([]:ag)).bind λc=>
 (j63 c).bind λb=>
 some b
def j4q(a b:xC):Option (Int):=
 let c:=(w64 (a.1-b.1))
 some c
def j1b(a:af):Option (af):=
 tt ((.pair (.int .i64) (.pair (.int .i64) (.int .i64)))) (λc b=>(j4q c b).getD 0) a
def j1I[LP](r:Int)(g:bc)(w:ax)(f:az)(k:aA)(e:aC)(l:bQ)(t:ByteArray)(i:bc)(j:ae)(u v:Int)(d:ag)(b:af):Option ((Int×bc×ax×az×aA×aC×bQ×ByteArray×bc×ae×Int×Int×ag×af) ⊕ ((ag×af))):=
 cond (decide (r<=0)) (
 some (.inr (d,b))) (
 cond (decide (r<=Int.ofNat (List.length g))) (
 let o:Int:=(r-1)
 let a:=(List.getD g (Int.toNat o) (ByteArray.empty,(0,((0,0),(0,(0,(([]:(List Int)),(([]:ag),(0,0)))))))))
 (j1Z ((w,(f,(k,e))),l) (a.1,(a.2.1,((a.2.2.1.1,a.2.2.1.2),(a.2.2.2.1,(a.2.2.2.2.1,(a.2.2.2.2.2.1,(a.2.2.2.2.2.2.1,(a.2.2.2.2.2.2.2.1,a.2.2.2.2.2.2.2.2)))))))) u v).bind λs=>
 (j6e (t,(i,j)) s).bind λp=>
 (j86 p d).bind λc=>
 cond (decide (List.length b+List.length c<=aS)) (
 let n:af:=(b++c)
 (j87 c).bind λm=>
 (j31 d m).bind λq=>
 some (.inl ((r-1),g,w,f,k,e,l,t,i,j,u,v,q,n))) none) none)
def xZ[LP](n:Int)(j:bc)(k:ax)(g:az)(f:aA)(b:aC)(i:bQ)(l:ByteArray)(c:bc)(d:ae)(m o:Int)(e:ag)(a:af):Option ((ag×af)):=
 LP.lp (jmG (j1I)) (n,j,k,g,f,b,i,l,c,d,m,o,e,a)
theorem Sl(n j k g f b i l c d m o e a):xZ n j k g f b i l c d m o e a=lpK (j1I n j k g f b i l c d m o e a) (λh=>xZ h.1 h.2.1 h.2.2.1 h.2.2.2.1 h.2.2.2.2.1 h.2.2.2.2.2.1 h.2.2.2.2.2.2.1 h.2.2.2.2.2.2.2.1 h.2.2.2.2.2.2.2.2.1 h.2.2.2.2.2.2.2.2.2.1 h.2.2.2.2.2.2.2.2.2.2.1 h.2.2.2.2.2.2.2.2.2.2.2.1 h.2.2.2.2.2.2.2.2.2.2.2.2.1 h.2.2.2.2.2.2.2.2.2.2.2.2.2):=bm _ _
def j3P(i c:Int)(e:ag)(a:af):Option ((Int×Int×ag×af) ⊕ (af)):=
 cond (decide (c<i)) (
 cond (inR c (List.length e)) (
 let b:=(List.getD e (Int.toNat c) (0,0))
 let d:af:=[(b.1,(b.2,(-1)))]
 cond (decide (List.length a+List.length d<=aS)) (
 let g:af:=(a++d)
 let f:=(w64 (c+1))
 some (.inl (i,f,e,g))) none) none) (
 some (.inr a))
def x8[LP](d b:Int)(c:ag)(a:af):Option (af):=
 LP.lp (unc4 (j3P)) (d,b,c,a)
theorem Sn(d b c a):x8 d b c a=lpK (j3P d b c a) (λh=>x8 h.1 h.2.1 h.2.2.1 h.2.2.2):=bm _ _
def j3w[LP](b:ik)(c:kK)(a d:Int):Option (af):=
 cond (decide (a>=d)) (
 some ([]:af)) (
 let j:ag:=[(a,d)]
 (j3C c.2.1).bind λe=>
 (xZ (Int.ofNat (List.length e)) e b.1.1 b.1.2.1 b.1.2.2.1 b.1.2.2.2 b.2 c.1 c.2.1 c.2.2 a d j ([]:af)).bind λf=>
 let i:=(Int.ofNat (List.length f.1))
 (x8 i 0 f.1 f.2).bind λl=>
 (j1b l).bind λg=>
 (j7A g).bind λk=>
 some k)
def jcq(a:Int):Option (Bool):=
 some (a != a)
def jdQ(b a:Int):Option (Bool):=
 (jcq b).bind λd=>
 cond d (
 (jcq a).bind λc=>
 some (cond (!c) true (decide (b<a)))) (
 some (decide (b<a)))
def j9r(a:Int):Option (Bool):=
 some (a != a)
def j2C(b:(List Int))(j l g m:Int):Option (((List Int)×Int×Int×Int×Int) ⊕ (((List Int)×Int×Int×Int))):=
 cond (decide (g<m)) (
 let e:=(w64 (g+m))
 let c:Int:=(IntKind.wrap .u64 e)
 let i:Int:=(Int.fdiv c 2)
 let a:=(w64 i)
 cond (inR a (List.length b)) (
 let f:=(List.getD b (Int.toNat a) 0)
 (jdQ f j).bind λk=>
 cond k (
 let d:=(w64 (a+1))
 some (.inl (b,j,l,d,m))) (
 some (.inl (b,j,l,g,a)))) none) (
 some (.inr (b,j,l,g)))
def AH[LP](a:(List Int))(d b c e:Int):Option (((List Int)×Int×Int×Int)):=
 LP.lp (unc5 (j2C)) (a,d,b,c,e)
theorem ja2(a d b c e):AH a d b c e=lpK (j2C a d b c e) (λh=>AH h.1 h.2.1 h.2.2.1 h.2.2.2.1 h.2.2.2.2):=bm _ _
def j1D[LP](d:(List Int))(b:Int):Option (Int×Bool):=
 let e:=(Int.ofNat (List.length d))
 (AH d b e 0 e).bind λa=>
 cond ((inR a.2.2.2 (List.length a.1)) || !(decide (a.2.2.2<a.2.2.1))) (
 let c:=(List.getD a.1 (Int.toNat a.2.2.2) 0)
 cond ((inR a.2.2.2 (List.length a.1)) || !((decide (a.2.2.2<a.2.2.1))&&(!(c==a.2.1)))) (
 let f:=(List.getD a.1 (Int.toNat a.2.2.2) 0)
 cond (decide (a.2.2.2<a.2.2.1)) (
 cond (c==a.2.1) (
 some (a.2.2.2,true)) (
 (j9r f).bind λg=>
 cond g (
 (j9r a.2.1).bind λi=>
 some (a.2.2.2,i)) (
 some (a.2.2.2,false)))) (
 cond ((c==a.2.1) || !false) (
 some (a.2.2.2,false)) none)) none) none
def jhM(b:nT)(a:Int):Option (Bool):=
 some (cond (decide (b.2.2.2.1<=a)) (decide (a<b.2.2.2.2)) false)
def j6T(f e:Int)(d:ae)(c b:Int):Option ((Int×Int×ae×Int×Int) ⊕ (Int)):=
 cond (decide (b<c)) (
 cond (inR b (List.length d)) (
 let a:=(List.getD d (Int.toNat b) (0,(0,(0,(0,0)))))
 (jhM (a.1,(a.2.1,(a.2.2.1,(a.2.2.2.1,a.2.2.2.2)))) e).bind λk=>
 cond (cond (!k) true (a.1==0)) (
 let j:=(w64 (b+1))
 some (.inl (f,e,d,c,j))) (
 cond (a.1==1) (
 let l:=(w64 (b+1))
 some (.inl (a.2.1,e,d,c,l))) (
 cond (a.1 != 2) (
 let n:=(w64 (b+1))
 some (.inl (f,e,d,c,n))) (
 cond (f==a.2.1) (
 let m:=(w64 (b+1))
 some (.inl (a.2.2.1,e,d,c,m))) (
 cond (f==a.2.2.1) (
 let g:=(w64 (b+1))
 some (.inl (a.2.1,e,d,c,g))) (
 let i:=(w64 (b+1))
 some (.inl (f,e,d,c,i)))))))) none) (
 some (.inr f))
def x9[LP](d e:Int)(c:ae)(b a:Int):Option (Int):=
 LP.lp (unc5 (j6T)) (d,e,c,b,a)
theorem Sp(d e c b a):x9 d e c b a=lpK (j6T d e c b a) (λh=>x9 h.1 h.2.1 h.2.2.1 h.2.2.2.1 h.2.2.2.2):=bm _ _
def jcQ[LP](b:ae)(a c:Int):Option (Int):=
 let d:=(Int.ofNat (List.length b))
 (x9 a c b d 0).bind λe=>
 some e
def j41(s r:Int)(g:ae)(n a:Int)(p:ax)(i:az)(j:aA)(d:aC)(k:bQ)(q:ByteArray)(e:bc)(f:ae)(o:(List Int)):Option ((Int×Int×ae×Int×Int×ax×az×aA×aC×bQ×ByteArray×bc×ae×(List Int)) ⊕ ((Int×Int×ax×az×aA×aC×bQ×ByteArray×bc×ae×(List Int)))):=
 cond (decide (a<n)) (
 cond (inR a (List.length g)) (
 let b:=(List.getD g (Int.toNat a) (0,(0,(0,(0,0)))))
 let c:(List Int):=[b.2.2.2.1,b.2.2.2.2]
 cond (decide (List.length o+List.length c<=aS)) (
 let m:(List Int):=(o++c)
 let l:=(w64 (a+1))
 some (.inl (s,r,g,n,l,p,i,j,d,k,q,e,f,m))) none) none) (
 some (.inr (s,r,p,i,j,d,k,q,e,f,o)))
def ya[LP](o n:Int)(i:ae)(j g:Int)(k:ax)(d:az)(e:aA)(a:aC)(f:bQ)(l:ByteArray)(b:bc)(c:ae)(m:(List Int)):Option ((Int×Int×ax×az×aA×aC×bQ×ByteArray×bc×ae×(List Int))):=
 LP.lp (jmG (j41)) (o,n,i,j,g,k,d,e,a,f,l,b,c,m)
theorem Sq(o n i j g k d e a f l b c m):ya o n i j g k d e a f l b c m=lpK (j41 o n i j g k d e a f l b c m) (λh=>ya h.1 h.2.1 h.2.2.1 h.2.2.2.1 h.2.2.2.2.1 h.2.2.2.2.2.1 h.2.2.2.2.2.2.1 h.2.2.2.2.2.2.2.1 h.2.2.2.2.2.2.2.2.1 h.2.2.2.2.2.2.2.2.2.1 h.2.2.2.2.2.2.2.2.2.2.1 h.2.2.2.2.2.2.2.2.2.2.2.1 h.2.2.2.2.2.2.2.2.2.2.2.2.1 h.2.2.2.2.2.2.2.2.2.2.2.2.2):=bm _ _
def j20[LP](i k r q:Int)(s:ByteArray)(l:bc)(b:ae)(t a f:Int)(c:(List Int))(j p:af):Option ((Int×Int×Int×Int×ByteArray×bc×ae×Int×Int×Int×(List Int)×af×af) ⊕ ((Int×Int×ByteArray×bc×ae×(List Int)×af×af))):=
 cond (decide (k<a)) (
 cond (inR i (List.length c)) (
 let e:=(List.getD c (Int.toNat i) 0)
 let d:Int:=(if e<a then e else a:Int)
 (jcQ b f k).bind λm=>
 let g:af:=[(k,(d,m))]
 cond (decide (List.length j+List.length g<=aS)) (
 let n:af:=(j++g)
 let o:=(w64 (i+1))
 some (.inl (o,d,r,q,s,l,b,t,a,f,c,n,p))) none) none) (
 some (.inr (r,q,s,l,b,c,j,p)))
def AJ[LP](f m k l:Int)(n:ByteArray)(c:bc)(d:ae)(e b a:Int)(g:(List Int))(j i:af):Option ((Int×Int×ByteArray×bc×ae×(List Int)×af×af)):=
 LP.lp (jwT (j20)) (f,m,k,l,n,c,d,e,b,a,g,j,i)
theorem Sr(f m k l n c d e b a g j i):AJ f m k l n c d e b a g j i=lpK (j20 f m k l n c d e b a g j i) (λh=>AJ h.1 h.2.1 h.2.2.1 h.2.2.2.1 h.2.2.2.2.1 h.2.2.2.2.2.1 h.2.2.2.2.2.2.1 h.2.2.2.2.2.2.2.1 h.2.2.2.2.2.2.2.2.1 h.2.2.2.2.2.2.2.2.2.1 h.2.2.2.2.2.2.2.2.2.2.1 h.2.2.2.2.2.2.2.2.2.2.2.1 h.2.2.2.2.2.2.2.2.2.2.2.2):=bm _ _
def j21[LP](j c:Int)(n:ByteArray)(l:bc)(m:ae)(k:(List Int))(i d:af):Option ((Int×Int×ByteArray×bc×ae×(List Int)×af×af) ⊕ (af)):=
 cond (decide (c<j)) (
 cond (inR c (List.length d)) (
 let b:=(List.getD d (Int.toNat c) (0,(0,0)))
 let e:=(w64 (b.1+1))
 (j1D k e).bind λg=>
 (AJ g.1 b.1 j c n l m b.1 b.2.1 b.2.2 k i d).bind λa=>
 let f:=(w64 (a.2.1+1))
 some (.inl (a.1,f,a.2.2.1,a.2.2.2.1,a.2.2.2.2.1,a.2.2.2.2.2.1,a.2.2.2.2.2.2.1,a.2.2.2.2.2.2.2))) none) (
 some (.inr i))
def yb[LP](e f:Int)(i:ByteArray)(a:bc)(b:ae)(g:(List Int))(d c:af):Option (af):=
 LP.lp (unc8 (j21)) (e,f,i,a,b,g,d,c)
theorem Su(e f i a b g d c):yb e f i a b g d c=lpK (j21 e f i a b g d c) (λh=>yb h.1 h.2.1 h.2.2.1 h.2.2.2.1 h.2.2.2.2.1 h.2.2.2.2.2.1 h.2.2.2.2.2.2.1 h.2.2.2.2.2.2.2):=bm _ _
def j35[LP](c:ik)(b:kK)(d e:Int):Option (af):=
 let k:=(Int.ofNat (List.length b.2.2))
 (ya d e b.2.2 k 0 c.1.1 c.1.2.1 c.1.2.2.1 c.1.2.2.2 c.2 b.1 b.2.1 b.2.2 ([]:(List Int))).bind λa=>
 (jbt a.2.2.2.2.2.2.2.2.2.2 a.1 a.2.1).bind λi=>
 (j3w ((a.2.2.1,(a.2.2.2.1,(a.2.2.2.2.1,a.2.2.2.2.2.1))),a.2.2.2.2.2.2.1) (a.2.2.2.2.2.2.2.1,(a.2.2.2.2.2.2.2.2.1,a.2.2.2.2.2.2.2.2.2.1)) a.1 a.2.1).bind λf=>
 let g:=(Int.ofNat (List.length f))
 (yb g 0 a.2.2.2.2.2.2.2.1 a.2.2.2.2.2.2.2.2.1 a.2.2.2.2.2.2.2.2.2.1 i ([]:af) f).bind λl=>
 (j7A l).bind λj=>
 some j
def j4j(k:Int)(i:af)(j b:Int)(d:ag):Option ((Int×af×Int×Int×ag) ⊕ (ag)):=
 cond (decide (b<j)) (
 cond (inR b (List.length i)) (
 let a:=(List.getD i (Int.toNat b) (0,(0,0)))
 cond (a.2.2==k) (
 let c:ag:=[(a.1,a.2.1)]
 cond (decide (List.length d+List.length c<=aS)) (
 let g:ag:=(d++c)
 let e:=(w64 (b+1))
 some (.inl (k,i,j,e,g))) none) (
 let f:=(w64 (b+1))
 some (.inl (k,i,j,f,d)))) none) (
 some (.inr d))
def yc[LP](d:Int)(e:af)(c a:Int)(b:ag):Option (ag):=
 LP.lp (unc5 (j4j)) (d,e,c,a,b)
theorem Sv(d e c a b):yc d e c a b=lpK (j4j d e c a b) (λh=>yc h.1 h.2.1 h.2.2.1 h.2.2.2.1 h.2.2.2.2):=bm _ _
def j6u[LP](b:af)(a:Int):Option (ag):=
 let e:=(Int.ofNat (List.length b))
 (yc a b e 0 ([]:ag)).bind λd=>
 (j63 d).bind λc=>
 some c
def j2x[LP](r s q:Int)(i:aC)(o d:Int)(p:ax)(g:az)(k:aA)(f:aC)(e:bQ)(j:ag):Option ((Int×Int×Int×aC×Int×Int×ax×az×aA×aC×bQ×ag) ⊕ (Int ⊕ ag)):=
 cond (decide (d<o)) (
 cond (inR d (List.length i)) (
 let a:=(List.getD i (Int.toNat d) (ByteArray.empty,(([]:bc),([]:ae))))
 (j35 ((p,(g,(k,f))),e) (a.1,(a.2.1,a.2.2)) s q).bind λb=>
 let m:=(Int.ofNat (List.length b))
 cond (decide (m>16384)) (
 some (.inr (.inl 5))) (
 (j6u b r).bind λc=>
 cond (decide (List.length j+List.length c<=aS)) (
 let l:ag:=(j++c)
 let n:=(w64 (d+1))
 some (.inl (r,s,q,i,o,n,p,g,k,f,e,l))) none)) none) (
 some (.inr (.inr j)))
def yd[LP](l m k:Int)(f:aC)(i e:Int)(j:ax)(c:az)(d:aA)(b:aC)(a:bQ)(g:ag):Option (Int ⊕ ag):=
 LP.lp (jtx (j2x)) (l,m,k,f,i,e,j,c,d,b,a,g)
theorem Sw(l m k f i e j c d b a g):yd l m k f i e j c d b a g=lpK (j2x l m k f i e j c d b a g) (λh=>yd h.1 h.2.1 h.2.2.1 h.2.2.2.1 h.2.2.2.2.1 h.2.2.2.2.2.1 h.2.2.2.2.2.2.1 h.2.2.2.2.2.2.2.1 h.2.2.2.2.2.2.2.2.1 h.2.2.2.2.2.2.2.2.2.1 h.2.2.2.2.2.2.2.2.2.2.1 h.2.2.2.2.2.2.2.2.2.2.2):=bm _ _
def j4B[LP](a:ik)(b c d:Int):Option (ag×Int):=
 let g:=(Int.ofNat (List.length a.1.2.2.2))
 (yd b c d a.1.2.2.2 g 0 a.1.1 a.1.2.1 a.1.2.2.1 a.1.2.2.2 a.2 ([]:ag)).bind λi=>
 sumC i (λj=>
 some (([]:ag),j)) (λk=>
 (j63 k).bind λe=>
 let f:=(Int.ofNat (List.length e))
 cond (decide (f>4096)) (
 some (([]:ag),5)) (
 some (e,0)))
def j44(d c:af)(q p a b:Int)(o:ae):Option ((af×af×Int×Int×Int×Int×ae) ⊕ (ae)):=
 let a1:=(Int.ofNat (List.length d))
 let y:=(Int.ofNat (List.length c))
 cond (cond (decide (a<a1)) (decide (b<y)) false) (
 cond (inR a (List.length d)) (
 let m:=(List.getD d (Int.toNat a) (0,(0,0)))
 cond (inR b (List.length c)) (
 let j:=(List.getD c (Int.toNat b) (0,(0,0)))
 let f:Int:=(if j.1>m.1 then j.1 else m.1:Int)
 cond (inR a (List.length d)) (
 let n:=(List.getD d (Int.toNat a) (0,(0,0)))
 cond (inR b (List.length c)) (
 let k:=(List.getD c (Int.toNat b) (0,(0,0)))
 let g:Int:=(if k.2.1<n.2.1 then k.2.1 else n.2.1:Int)
 cond (inR a (List.length d)) (
 let e:=(List.getD d (Int.toNat a) (0,(0,0)))
 cond ((inR b (List.length c)) || !(decide (e.2.2>=0))) (
 let t:=(List.getD c (Int.toNat b) (0,(0,0)))
 let x:Bool:=(cond (cond (decide (e.2.2>=0)) (e.2.2==t.2.2) false) (decide (f<g)) false)
 cond x (
 let i:ae:=[(e.2.2,(q,(p,(f,g))))]
 cond (decide (List.length o+List.length i<=aS)) (
 let l:ae:=(o++i)
 cond (inR a (List.length d)) (
 let a2:=(List.getD d (Int.toNat a) (0,(0,0)))
 cond (inR b (List.length c)) (
 let u:=(List.getD c (Int.toNat b) (0,(0,0)))
 cond (decide (a2.2.1<u.2.1)) (
 let w:=(w64 (a+1))
 some (.inl (d,c,q,p,w,b,l))) (
 let a0:=(w64 (b+1))
 some (.inl (d,c,q,p,a,a0,l)))) none) none) none) (
 cond (inR a (List.length d)) (
 let s:=(List.getD d (Int.toNat a) (0,(0,0)))
 cond (inR b (List.length c)) (
 let z:=(List.getD c (Int.toNat b) (0,(0,0)))
 cond (decide (s.2.1<z.2.1)) (
 let r:=(w64 (a+1))
 some (.inl (d,c,q,p,r,b,o))) (
 let v:=(w64 (b+1))
 some (.inl (d,c,q,p,a,v,o)))) none) none)) none) none) none) none) none) none) (
 some (.inr o))
def tB[LP](c f:af)(g e b a:Int)(d:ae):Option (ae):=
 LP.lp (unc7 (j44)) (c,f,g,e,b,a,d)
theorem Sz(c f g e b a d):tB c f g e b a d=lpK (j44 c f g e b a d) (λh=>tB h.1 h.2.1 h.2.2.1 h.2.2.2.1 h.2.2.2.2.1 h.2.2.2.2.2.1 h.2.2.2.2.2.2):=bm _ _
def j5M[LP](b c:af)(d a:Int):Option (ae):=
 (tB b c d a 0 0 ([]:ae)).bind λe=>
 some e
def j3G(a b:nT):Option (Int):=
 let c:=(w64 (a.2.2.2.1-b.2.2.2.1))
 some c
def j12(o q p f:Int)(e:ae):Option ((Int×Int×Int×Int×ae) ⊕ ((Int×Int×Int×ae))):=
 cond (decide (f>o)) (
 cond (inR f (List.length e)) (
 let d:=(List.getD e (Int.toNat f) (0,(0,(0,(0,0)))))
 let i:=(w64 (f-1))
 cond (inR i (List.length e)) (
 let a:=(List.getD e (Int.toNat i) (0,(0,(0,(0,0)))))
 (j3G (d.1,(d.2.1,(d.2.2.1,(d.2.2.2.1,d.2.2.2.2)))) (a.1,(a.2.1,(a.2.2.1,(a.2.2.2.1,a.2.2.2.2))))).bind λl=>
 cond (decide (l<0)) (
 let g:=(w64 (f-1))
 let k:=(w64 (f-1))
 cond (inR k (List.length e)) (
 let c:=(List.getD e (Int.toNat k) (0,(0,(0,(0,0)))))
 cond (inR f (List.length e)) (
 let b:=(List.getD e (Int.toNat f) (0,(0,(0,(0,0)))))
 cond (inR f (List.length e)) (
 let j:ae:=(List.set e (Int.toNat f) (c.1,(c.2.1,(c.2.2.1,(c.2.2.2.1,c.2.2.2.2)))))
 cond (inR g (List.length j)) (
 let m:ae:=(List.set j (Int.toNat g) (b.1,(b.2.1,(b.2.2.1,(b.2.2.2.1,b.2.2.2.2)))))
 let n:=(w64 (f-1))
 some (.inl (o,q,p,n,m))) none) none) none) none) (
 some (.inr (o,q,p,e)))) none) none) (
 some (.inr (o,q,p,e)))
def AK[LP](c e d b:Int)(a:ae):Option ((Int×Int×Int×ae)):=
 LP.lp (unc5 (j12)) (c,e,d,b,a)
theorem SA(c e d b a):AK c e d b a=lpK (j12 c e d b a) (λh=>AK h.1 h.2.1 h.2.2.1 h.2.2.2.1 h.2.2.2.2):=bm _ _
def j0e[LP](f e c:Int)(d:ae):Option ((Int×Int×Int×ae) ⊕ (ae)):=
 cond (decide (c<e)) (
 (AK f e c c d).bind λa=>
 let b:=(w64 (a.2.2.1+1))
 some (.inl (a.1,a.2.1,b,a.2.2.2))) (
 some (.inr d))
def AL[LP](a c b:Int)(d:ae):Option (ae):=
 LP.lp (unc4 (j0e)) (a,c,b,d)
theorem Kk(b d c a):AL b d c a=lpK (j0e b d c a) (λh=>AL h.1 h.2.1 h.2.2.1 h.2.2.2):=bm _ _
def j0p[LP](a:ae)(b c:Int):Option (ae):=
 let d:=(w64 (b+1))
 (AL b c d a).bind λe=>
 some e
def j1h(m n o c:Int)(d:ae):Option ((Int×Int×Int×Int×ae) ⊕ (ae)):=
 cond (decide (c<o)) (
 let e:=(w64 (m+c))
 let g:=(w64 (n+c))
 let i:=(w64 (n+c))
 cond (inR i (List.length d)) (
 let a:=(List.getD d (Int.toNat i) (0,(0,(0,(0,0)))))
 let j:=(w64 (m+c))
 cond (inR j (List.length d)) (
 let b:=(List.getD d (Int.toNat j) (0,(0,(0,(0,0)))))
 cond (inR e (List.length d)) (
 let f:ae:=(List.set d (Int.toNat e) (a.1,(a.2.1,(a.2.2.1,(a.2.2.2.1,a.2.2.2.2)))))
 cond (inR g (List.length f)) (
 let k:ae:=(List.set f (Int.toNat g) (b.1,(b.2.1,(b.2.2.1,(b.2.2.2.1,b.2.2.2.2)))))
 let l:=(w64 (c+1))
 some (.inl (m,n,o,l,k))) none) none) none) none) (
 some (.inr d))
def ye[LP](d e c a:Int)(b:ae):Option (ae):=
 LP.lp (unc5 (j1h)) (d,e,c,a,b)
theorem SB(d e c a b):ye d e c a b=lpK (j1h d e c a b) (λh=>ye h.1 h.2.1 h.2.2.1 h.2.2.2.1 h.2.2.2.2):=bm _ _
def j0r[LP](a:ae)(c b d:Int):Option (ae):=
 (ye c b d 0 a).bind λe=>
 some e
def j0K[LP](c a b:Int)(m:ae):Option ((Int×Int×Int×ae) ⊕ ((Int×Int×ae))):=
 cond (a != b) (
 cond (decide (a>b)) (
 let g:=(w64 (c-a))
 (j0r m g c b).bind λl=>
 let f:=(w64 (a-b))
 some (.inl (c,f,b,l))) (
 let j:=(w64 (c-a))
 let d:=(w64 (c+b))
 let i:=(w64 (d-a))
 (j0r m j i a).bind λk=>
 let e:=(w64 (b-a))
 some (.inl (c,a,e,k)))) (
 some (.inr (c,a,m)))
def AM[LP](d b a:Int)(c:ae):Option ((Int×Int×ae)):=
 LP.lp (unc4 (j0K)) (d,b,a,c)
theorem j9e(d b a c):AM d b a c=lpK (j0K d b a c) (λh=>AM h.1 h.2.1 h.2.2.1 h.2.2.2):=bm _ _
def j0Q[LP](b:ae)(e a d:Int):Option (ae):=
 let g:=(w64 (a-e))
 let i:=(w64 (d-a))
 (AM a g i b).bind λc=>
 let j:=(w64 (c.1-c.2.1))
 (j0r c.2.2 j c.1 c.2.1).bind λf=>
 some f
def j1j(n:ae->Int->Int->Int->Option (ae))(g e f:Int)(c:ae):Option ((Int×Int×Int×ae) ⊕ ((Int×Int×ae))):=
 cond (decide (e<f)) (
 let i:=(w64 (e+f))
 let m:Int:=(IntKind.wrap .u64 i)
 let l:Int:=(Int.fdiv m 2)
 let d:=(w64 l)
 cond (inR d (List.length c)) (
 let b:=(List.getD c (Int.toNat d) (0,(0,(0,(0,0)))))
 cond (inR g (List.length c)) (
 let a:=(List.getD c (Int.toNat g) (0,(0,(0,(0,0)))))
 (j3G (b.1,(b.2.1,(b.2.2.1,(b.2.2.2.1,b.2.2.2.2)))) (a.1,(a.2.1,(a.2.2.1,(a.2.2.2.1,a.2.2.2.2))))).bind λj=>
 cond (decide (j<0)) (
 let k:=(w64 (d+1))
 some (.inl (g,k,f,c))) (
 some (.inl (g,e,d,c)))) none) none) (
 some (.inr (g,e,c)))
def tC[LP](b:ae->Int->Int->Int->Option (ae))(e c a:Int)(d:ae):Option ((Int×Int×ae)):=
 LP.lp (unc4 (j1j b)) (e,c,a,d)
theorem SC(a e c b d):tC a e c b d=lpK (j1j a e c b d) (λh=>tC a h.1 h.2.1 h.2.2.1 h.2.2.2):=bm _ _
def j1k(m:ae->Int->Int->Int->Option (ae))(l c:Int)(d:ae):Option ((Int×Int×ae) ⊕ (ae)):=
 let i:=(w64 (l-1))
 cond (decide (c<i)) (
 let f:=(w64 (c+1))
 let e:=(w64 (c+1))
 cond (inR e (List.length d)) (
 let a:=(List.getD d (Int.toNat e) (0,(0,(0,(0,0)))))
 cond (inR c (List.length d)) (
 let b:=(List.getD d (Int.toNat c) (0,(0,(0,(0,0)))))
 cond (inR c (List.length d)) (
 let g:ae:=(List.set d (Int.toNat c) (a.1,(a.2.1,(a.2.2.1,(a.2.2.2.1,a.2.2.2.2)))))
 cond (inR f (List.length g)) (
 let k:ae:=(List.set g (Int.toNat f) (b.1,(b.2.1,(b.2.2.1,(b.2.2.2.1,b.2.2.2.2)))))
 let j:=(w64 (c+1))
 some (.inl (l,j,k))) none) none) none) none) (
 some (.inr d))
def vH[LP](a:ae->Int->Int->Int->Option (ae))(c b:Int)(d:ae):Option (ae):=
 LP.lp (unc3 (j1k a)) (c,b,d)
theorem SD(a c b d):vH a c b d=lpK (j1k a c b d) (λh=>vH a h.1 h.2.1 h.2.2):=bm _ _
def j1l(n:ae->Int->Int->Int->Option (ae))(j e i:Int)(c:ae):Option ((Int×Int×Int×ae) ⊕ ((Int×Int×ae))):=
 cond (decide (e<i)) (
 let m:=(w64 (e+i))
 let k:Int:=(IntKind.wrap .u64 m)
 let l:Int:=(Int.fdiv k 2)
 let d:=(w64 l)
 cond (inR j (List.length c)) (
 let b:=(List.getD c (Int.toNat j) (0,(0,(0,(0,0)))))
 cond (inR d (List.length c)) (
 let a:=(List.getD c (Int.toNat d) (0,(0,(0,(0,0)))))
 (j3G (b.1,(b.2.1,(b.2.2.1,(b.2.2.2.1,b.2.2.2.2)))) (a.1,(a.2.1,(a.2.2.1,(a.2.2.2.1,a.2.2.2.2))))).bind λg=>
 cond (!(decide (g<0))) (
 let f:=(w64 (d+1))
 some (.inl (j,f,i,c))) (
 some (.inl (j,e,d,c)))) none) none) (
 some (.inr (j,e,c)))
def tD[LP](c:ae->Int->Int->Int->Option (ae))(e a b:Int)(d:ae):Option ((Int×Int×ae)):=
 LP.lp (unc4 (j1l c)) (e,a,b,d)
theorem SE(a e b c d):tD a e b c d=lpK (j1l a e b c d) (λh=>tD a h.1 h.2.1 h.2.2.1 h.2.2.2):=bm _ _
def j1m(l:ae->Int->Int->Int->Option (ae))(k c:Int)(f:ae):Option ((Int×Int×ae) ⊕ (ae)):=
 cond (decide (c>k)) (
 let d:=(w64 (c-1))
 let e:=(w64 (c-1))
 cond (inR e (List.length f)) (
 let a:=(List.getD f (Int.toNat e) (0,(0,(0,(0,0)))))
 cond (inR c (List.length f)) (
 let b:=(List.getD f (Int.toNat c) (0,(0,(0,(0,0)))))
 cond (inR c (List.length f)) (
 let g:ae:=(List.set f (Int.toNat c) (a.1,(a.2.1,(a.2.2.1,(a.2.2.2.1,a.2.2.2.2)))))
 cond (inR d (List.length g)) (
 let j:ae:=(List.set g (Int.toNat d) (b.1,(b.2.1,(b.2.2.1,(b.2.2.2.1,b.2.2.2.2)))))
 let i:=(w64 (c-1))
 some (.inl (k,i,j))) none) none) none) none) (
 some (.inr f))
def vI[LP](a:ae->Int->Int->Int->Option (ae))(b c:Int)(d:ae):Option (ae):=
 LP.lp (unc3 (j1m a)) (b,c,d)
theorem SF(a c b d):vI a c b d=lpK (j1m a c b d) (λh=>vI a h.1 h.2.1 h.2.2):=bm _ _
def j1n(t:ae->Int->Int->Int->Option (ae))(q s r k g f i l:Int)(e:ae):Option ((Int×Int×Int×Int×Int×Int×Int×Int×ae) ⊕ ((Int×Int×Int×Int×Int×Int×ae))):=
 cond (decide (f<i)) (
 let j:=(w64 (f+i))
 let n:Int:=(IntKind.wrap .u64 j)
 let m:Int:=(Int.fdiv n 2)
 let c:=(w64 m)
 let d:=(w64 (l-c))
 cond (inR d (List.length e)) (
 let b:=(List.getD e (Int.toNat d) (0,(0,(0,(0,0)))))
 cond (inR c (List.length e)) (
 let a:=(List.getD e (Int.toNat c) (0,(0,(0,(0,0)))))
 (j3G (b.1,(b.2.1,(b.2.2.1,(b.2.2.2.1,b.2.2.2.2)))) (a.1,(a.2.1,(a.2.2.1,(a.2.2.2.1,a.2.2.2.2))))).bind λp=>
 cond (!(decide (p<0))) (
 let o:=(w64 (c+1))
 some (.inl (q,s,r,k,g,o,i,l,e))) (
 some (.inl (q,s,r,k,g,f,c,l,e)))) none) none) (
 some (.inr (q,s,r,k,g,f,e)))
def rP[LP](e:ae->Int->Int->Int->Option (ae))(j k i f a b c d:Int)(g:ae):Option ((Int×Int×Int×Int×Int×Int×ae)):=
 LP.lp (unc9 (j1n e)) (j,k,i,f,a,b,c,d,g)
theorem SH(a j k i f b c d e g):rP a j k i f b c d e g=lpK (j1n a j k i f b c d e g) (λh=>rP a h.1 h.2.1 h.2.2.1 h.2.2.2.1 h.2.2.2.2.1 h.2.2.2.2.2.1 h.2.2.2.2.2.2.1 h.2.2.2.2.2.2.2.1 h.2.2.2.2.2.2.2.2):=bm _ _
def rQ[LP](e:ae->Int->Int->Int->Option (ae))(g:ae)(i f j:Int):Option (ae):=
 let b0:=(w64 (f-i))
 cond (b0==1) (
 (tC e i f j g).bind λa8=>
 (vH e a8.2.1 a8.1 a8.2.2).bind λb1=>
 some b1) (
 let a9:=(w64 (j-f))
 cond (a9==1) (
 (tD e f i f g).bind λa7=>
 (vI e a7.2.1 a7.1 a7.2.2).bind λb2=>
 some b2) (
 let a2:=(w64 (i+j))
 let a3:Int:=(IntKind.wrap .u64 a2)
 let k:Int:=(Int.fdiv a3 2)
 let l:=(w64 ((w64 k)+f))
 cond (decide (f>(w64 k))) (
 let a4:=(w64 (l-j))
 let a6:=(w64 (l-1))
 (rP e i f j (w64 k) l a4 (w64 k) a6 g).bind λc=>
 let d:=(w64 (c.2.2.2.2.1-c.2.2.2.2.2.1))
 cond (cond (decide (c.2.2.2.2.2.1<c.2.1)) (decide (c.2.1<d)) false) (
 (j0Q c.2.2.2.2.2.2 c.2.2.2.2.2.1 c.2.1 d).bind λq=>
 cond (cond (decide (c.1<c.2.2.2.2.2.1)) (decide (c.2.2.2.2.2.1<c.2.2.2.1)) false) (
 (e q c.1 c.2.2.2.2.2.1 c.2.2.2.1).bind λu=>
 cond (cond (decide (c.2.2.2.1<d)) (decide (d<c.2.2.1)) false) (
 (e u c.2.2.2.1 d c.2.2.1).bind λa5=>
 some a5) (
 some u)) (
 cond (cond (decide (c.2.2.2.1<d)) (decide (d<c.2.2.1)) false) (
 (e q c.2.2.2.1 d c.2.2.1).bind λz=>
 some z) (
 some q))) (
 cond (cond (decide (c.1<c.2.2.2.2.2.1)) (decide (c.2.2.2.2.2.1<c.2.2.2.1)) false) (
 (e c.2.2.2.2.2.2 c.1 c.2.2.2.2.2.1 c.2.2.2.1).bind λo=>
 cond (cond (decide (c.2.2.2.1<d)) (decide (d<c.2.2.1)) false) (
 (e o c.2.2.2.1 d c.2.2.1).bind λx=>
 some x) (
 some o)) (
 cond (cond (decide (c.2.2.2.1<d)) (decide (d<c.2.2.1)) false) (
 (e c.2.2.2.2.2.2 c.2.2.2.1 d c.2.2.1).bind λv=>
 some v) (
 some c.2.2.2.2.2.2)))) (
 let r:=(w64 (l-1))
 (rP e i f j (w64 k) l i f r g).bind λa=>
 let b:=(w64 (a.2.2.2.2.1-a.2.2.2.2.2.1))
 cond (cond (decide (a.2.2.2.2.2.1<a.2.1)) (decide (a.2.1<b)) false) (
 (j0Q a.2.2.2.2.2.2 a.2.2.2.2.2.1 a.2.1 b).bind λm=>
 let a1:Bool:=(cond (decide (a.1<a.2.2.2.2.2.1)) (decide (a.2.2.2.2.2.1<a.2.2.2.1)) false)
 cond a1 (
 (e m a.1 a.2.2.2.2.2.1 a.2.2.2.1).bind λn=>
 cond (cond (decide (a.2.2.2.1<b)) (decide (b<a.2.2.1)) false) (
 (e n a.2.2.2.1 b a.2.2.1).bind λy=>
 some y) (
 some n)) (
 cond (cond (decide (a.2.2.2.1<b)) (decide (b<a.2.2.1)) false) (
 (e m a.2.2.2.1 b a.2.2.1).bind λs=>
 some s) (
 some m))) (
 let a0:Bool:=(cond (decide (a.1<a.2.2.2.2.2.1)) (decide (a.2.2.2.2.2.1<a.2.2.2.1)) false)
 cond a0 (
 (e a.2.2.2.2.2.2 a.1 a.2.2.2.2.2.1 a.2.2.2.1).bind λp=>
 cond (cond (decide (a.2.2.2.1<b)) (decide (b<a.2.2.1)) false) (
 (e p a.2.2.2.1 b a.2.2.1).bind λw=>
 some w) (
 some p)) (
 cond (cond (decide (a.2.2.2.1<b)) (decide (b<a.2.2.1)) false) (
 (e a.2.2.2.2.2.2 a.2.2.2.1 b a.2.2.1).bind λt=>
 some t) (
 some a.2.2.2.2.2.2))))))
def j0i[LP](e:(ae×Int×Int×Int)->Option (ae))(h:ae×Int×Int×Int):Option (ae):=rQ (λb d c a=>e (b,d,c,a)) h.1 h.2.1 h.2.2.1 h.2.2.2
def j1f[LP](a:ae)(c b d:Int):Option (ae):=LP.rp j0i (a,c,b,d)
def j0m[LP](e d g c:Int)(f:ae):Option ((Int×Int×Int×Int×ae) ⊕ ((Int×Int×Int×ae))):=
 cond (decide (c<=e)) (
 (j0p f g c).bind λa=>
 let b:=(w64 (c+d))
 some (.inl (e,d,c,b,a))) (
 some (.inr (e,d,g,f)))
def yf[LP](d b c e:Int)(a:ae):Option ((Int×Int×Int×ae)):=
 LP.lp (unc5 (j0m)) (d,b,c,e,a)
theorem Kl(d b c e a):yf d b c e a=lpK (j0m d b c e a) (λh=>yf h.1 h.2.1 h.2.2.1 h.2.2.2.1 h.2.2.2.2):=bm _ _
def j0n[LP](i e g f:Int)(j:ae):Option ((Int×Int×Int×Int×ae) ⊕ ((Int×Int×Int×ae))):=
 cond (decide (f<=i)) (
 let d:=(w64 (g+e))
 (j1f j g d f).bind λa=>
 let c:=(w64 (2*e))
 let b:=(w64 (f+c))
 some (.inl (i,e,f,b,a))) (
 some (.inr (i,e,g,j)))
def yg[LP](d b c e:Int)(a:ae):Option ((Int×Int×Int×ae)):=
 LP.lp (unc5 (j0n)) (d,b,c,e,a)
theorem Km(d b c e a):yg d b c e a=lpK (j0n d b c e a) (λh=>yg h.1 h.2.1 h.2.2.1 h.2.2.2.1 h.2.2.2.2):=bm _ _
def j0x[LP](j g:Int)(i:ae):Option ((Int×Int×ae) ⊕ (ae)):=
 cond (decide (g<j)) (
 let d:=(w64 (2*g))
 (yg j g 0 d i).bind λa=>
 let b:=(w64 (a.2.2.1+a.2.1))
 cond (decide (b<a.1)) (
 (j1f a.2.2.2 a.2.2.1 b a.1).bind λc=>
 let f:=(w64 (a.2.1*2))
 some (.inl (a.1,f,c))) (
 let e:=(w64 (a.2.1*2))
 some (.inl (a.1,e,a.2.2.2)))) (
 some (.inr i))
def yh[LP](a b:Int)(c:ae):Option (ae):=
 LP.lp (unc3 (j0x)) (a,b,c)
theorem SI(a b c):yh a b c=lpK (j0x a b c) (λh=>yh h.1 h.2.1 h.2.2):=bm _ _
def j1K[LP](a:ae)(c:Int):Option (ae):=
 (yf c 20 0 20 a).bind λb=>
 (j0p b.2.2.2 b.2.2.1 b.1).bind λd=>
 (yh b.1 b.2.1 d).bind λe=>
 some e
def j0o[LP](a:ae):Option (ae):=
 let b:=(Int.ofNat (List.length a))
 (j1K a b).bind λc=>
 some c
def j1L[LP](p q:Int)(i:aC)(n c:Int)(o:ax)(g:az)(d:aA)(e:aC)(f:bQ)(j:fy):Option ((Int×Int×aC×Int×Int×ax×az×aA×aC×bQ×fy) ⊕ (Int ⊕ fy)):=
 cond (decide (c<n)) (
 cond (inR c (List.length i)) (
 let a:=(List.getD i (Int.toNat c) (ByteArray.empty,(([]:bc),([]:ae))))
 (j35 ((o,(g,(d,e))),f) (a.1,(a.2.1,a.2.2)) p q).bind λb=>
 let k:=(Int.ofNat (List.length b))
 cond (decide (k>16384)) (
 some (.inr (.inl 5))) (
 cond (decide (List.length j+List.length [b]<=aS)) (
 let m:fy:=(j++[b])
 let l:=(w64 (c+1))
 some (.inl (p,q,i,n,l,o,g,d,e,f,m))) none)) none) (
 some (.inr (.inr j)))
def yi[LP](k l:Int)(e:aC)(f i:Int)(j:ax)(d:az)(a:aA)(b:aC)(c:bQ)(g:fy):Option (Int ⊕ fy):=
 LP.lp (jtw (j1L)) (k,l,e,f,i,j,d,a,b,c,g)
theorem SJ(k l e f i j d a b c g):yi k l e f i j d a b c g=lpK (j1L k l e f i j d a b c g) (λh=>yi h.1 h.2.1 h.2.2.1 h.2.2.2.1 h.2.2.2.2.1 h.2.2.2.2.2.1 h.2.2.2.2.2.2.1 h.2.2.2.2.2.2.2.1 h.2.2.2.2.2.2.2.2.1 h.2.2.2.2.2.2.2.2.2.1 h.2.2.2.2.2.2.2.2.2.2):=bm _ _
def j1M[LP](c b m l:Int)(a:fy)(e:ae):Option ((Int×Int×Int×Int×fy×ae) ⊕ ((Int×Int×fy×ae))):=
 let f:=(Int.ofNat (List.length a))
 cond (decide (b<f)) (
 cond (inR c (List.length a)) (
 let g:=(List.getD a (Int.toNat c) ([]:af))
 cond (inR b (List.length a)) (
 let i:=(List.getD a (Int.toNat b) ([]:af))
 (j5M g i c b).bind λd=>
 cond (decide (List.length e+List.length d<=aS)) (
 let k:ae:=(e++d)
 let j:=(w64 (b+1))
 some (.inl (c,j,m,l,a,k))) none) none) none) (
 some (.inr (m,l,a,e)))
def yj[LP](f b e a:Int)(d:fy)(c:ae):Option ((Int×Int×fy×ae)):=
 LP.lp (unc6 (j1M)) (f,b,e,a,d,c)
theorem SK(f b e a d c):yj f b e a d c=lpK (j1M f b e a d c) (λh=>yj h.1 h.2.1 h.2.2.1 h.2.2.2.1 h.2.2.2.2.1 h.2.2.2.2.2):=bm _ _
def j1N[LP](f b:Int)(g:fy)(e:ae):Option ((Int×Int×fy×ae) ⊕ (ae)):=
 cond (decide (b<f)) (
 let c:=(w64 (b+1))
 (yj b c f b g e).bind λa=>
 let d:=(w64 (a.2.1+1))
 some (.inl (a.1,d,a.2.2.1,a.2.2.2))) (
 some (.inr e))
def yk[LP](d a:Int)(c:fy)(b:ae):Option (ae):=
 LP.lp (unc4 (j1N)) (d,a,c,b)
theorem SM(d a c b):yk d a c b=lpK (j1N d a c b) (λh=>yk h.1 h.2.1 h.2.2.1 h.2.2.2):=bm _ _
def j39[LP](a:dY)(c d:Int):Option (ae×Int):=
 (jgq (a.1,(a.2.1,(a.2.2.1,a.2.2.2)))).bind λb=>
 cond (!b.2) (
 some (([]:ae),8)) (
 (jeD c d).bind λg=>
 cond (!g) (
 some (([]:ae),1)) (
 let i:=(Int.ofNat (List.length a.2.2.2))
 (yi c d a.2.2.2 i 0 b.1.1.1 b.1.1.2.1 b.1.1.2.2.1 b.1.1.2.2.2 b.1.2 ([]:fy)).bind λl=>
 sumC l (λn=>
 some (([]:ae),n)) (λm=>
 let e:=(Int.ofNat (List.length m))
 (yk e 0 m ([]:ae)).bind λj=>
 let k:=(Int.ofNat (List.length j))
 cond (decide (k>16384)) (
 some (([]:ae),5)) (
 (j0o j).bind λf=>
 some (f,0)))))
def j4L(k n:Int)(l:ag)(m d:Int):Option ((Int×Int×ag×Int×Int) ⊕ (Int)):=
 cond (decide (d<m)) (
 cond (inR d (List.length l)) (
 let a:=(List.getD l (Int.toNat d) (0,0))
 let f:Int:=(if k<a.2 then k else a.2:Int)
 let c:=(w64 (k-604800))
 let e:Int:=(if c>a.1 then c else a.1:Int)
 let b:=(w64 (f-e))
 let i:Int:=(if b>0 then b else 0:Int)
 let j:=(w64 (n+i))
 let g:=(w64 (d+1))
 some (.inl (k,j,l,m,g))) none) (
 some (.inr n))
def AN[LP](d c:Int)(e:ag)(b a:Int):Option (Int):=
 LP.lp (unc5 (j4L)) (d,c,e,b,a)
theorem SN(d c e b a):AN d c e b a=lpK (j4L d c e b a) (λh=>AN h.1 h.2.1 h.2.2.1 h.2.2.2.1 h.2.2.2.2):=bm _ _
def j5l[LP](a:ag)(b:Int):Option (Int):=
 let c:=(Int.ofNat (List.length a))
 (AN b 0 a c 0).bind λd=>
 some d
def j5d(l:ag)(n o m:Int)(d:ag)(j c:Int)(k:(List Int)):Option ((ag×Int×Int×Int×ag×Int×Int×(List Int)) ⊕ ((ag×Int×Int×Int×(List Int)))):=
 cond (decide (c<j)) (
 cond (inR c (List.length d)) (
 let a:=(List.getD d (Int.toNat c) (0,0))
 let g:=(w64 (a.1+604800))
 let e:=(w64 (a.2+604800))
 let b:(List Int):=[a.1,a.2,g,e]
 cond (decide (List.length k+List.length b<=aS)) (
 let i:(List Int):=(k++b)
 let f:=(w64 (c+1))
 some (.inl (l,n,o,m,d,j,f,i))) none) none) (
 some (.inr (l,n,o,m,k)))
def yl[LP](d:ag)(g i f:Int)(c:ag)(a b:Int)(e:(List Int)):Option ((ag×Int×Int×Int×(List Int))):=
 LP.lp (unc8 (j5d)) (d,g,i,f,c,a,b,e)
theorem SO(d g i f c a b e):yl d g i f c a b e=lpK (j5d d g i f c a b e) (λh=>yl h.1 h.2.1 h.2.2.1 h.2.2.2.1 h.2.2.2.2.1 h.2.2.2.2.2.1 h.2.2.2.2.2.2.1 h.2.2.2.2.2.2.2):=bm _ _
def j2M[LP](l:ag)(i q g b:Int)(f c:(List Int)):Option ((ag×Int×Int×Int×Int×(List Int)×(List Int)) ⊕ ((List Int))):=
 cond (decide (b<g)) (
 cond (inR b (List.length c)) (
 let a:=(List.getD c (Int.toNat b) 0)
 (j5l l q).bind λd=>
 (j5l l a).bind λo=>
 cond (cond (decide (d<=i)) (decide (o>i)) false) (
 let m:=(w64 (q+i))
 let k:=(w64 (m-d))
 let e:=(w64 (k+1))
 cond (decide (List.length f+List.length [e]<=aS)) (
 let j:(List Int):=(f++[e])
 let n:=(w64 (b+1))
 some (.inl (l,i,a,g,n,j,c))) none) (
 let p:=(w64 (b+1))
 some (.inl (l,i,a,g,p,f,c)))) none) (
 some (.inr f))
def ym[LP](f:ag)(g d b c:Int)(e a:(List Int)):Option ((List Int)):=
 LP.lp (unc7 (j2M)) (f,g,d,b,c,e,a)
theorem SP(f g d b c e a):ym f g d b c e a=lpK (j2M f g d b c e a) (λh=>ym h.1 h.2.1 h.2.2.1 h.2.2.2.1 h.2.2.2.2.1 h.2.2.2.2.2.1 h.2.2.2.2.2.2):=bm _ _
def j89[LP](a:ag)(d b e:Int):Option ((List Int)):=
 let i:=(Int.ofNat (List.length a))
 (yl a d b e a i 0 ([]:(List Int))).bind λc=>
 (jbt c.2.2.2.2 c.2.2.1 c.2.2.2.1).bind λf=>
 let g:=(Int.ofNat (List.length f))
 (ym c.1 c.2.1 c.2.2.1 g 0 ([]:(List Int)) f).bind λj=>
 some j
def j4b(a:ag)(n b:Int)(i:(List Int)):Option ((ag×Int×Int×(List Int)) ⊕ ((List Int))):=
 let m:=(Int.ofNat (List.length a))
 cond (decide (b<m)) (
 cond (inR b (List.length a)) (
 let g:=(List.getD a (Int.toNat b) (0,0))
 let d:=(w64 (b-1))
 cond (inR d (List.length a)) (
 let l:=(List.getD a (Int.toNat d) (0,0))
 let k:=(w64 (g.1-l.2))
 cond (decide (k<n)) (
 cond (inR b (List.length a)) (
 let c:=(List.getD a (Int.toNat b) (0,0))
 cond (decide (List.length i+List.length [c.1]<=aS)) (
 let e:(List Int):=(i++[c.1])
 let f:=(w64 (b+1))
 some (.inl (a,n,f,e))) none) none) (
 let j:=(w64 (b+1))
 some (.inl (a,n,j,i)))) none) none) (
 some (.inr i))
def AO[LP](a:ag)(d c:Int)(b:(List Int)):Option ((List Int)):=
 LP.lp (unc4 (j4b)) (a,d,c,b)
theorem Kn(a d c b):AO a d c b=lpK (j4b a d c b) (λh=>AO h.1 h.2.1 h.2.2.1 h.2.2.2):=bm _ _
def j77[LP](b:ag)(a:Int):Option ((List Int)):=
 (AO b a 1 ([]:(List Int))).bind λc=>
 some c
def j3o(a:ik)(b:Int):Option (dX):=
 cond (inR b (List.length a.2)) (
 let c:=(List.getD a.2 (Int.toNat b) (0,([]:ag)))
 some (c.1,c.2)) none
def j4M(f:ag)(g d:Int)(e:(List Int)):Option ((ag×Int×Int×(List Int)) ⊕ ((List Int))):=
 cond (decide (d<g)) (
 cond (inR d (List.length f)) (
 let a:=(List.getD f (Int.toNat d) (0,0))
 cond (decide (List.length e+List.length [a.1]<=aS)) (
 let c:(List Int):=(e++[a.1])
 let b:=(w64 (d+1))
 some (.inl (f,g,b,c))) none) none) (
 some (.inr e))
def yn[LP](b:ag)(d a:Int)(c:(List Int)):Option ((List Int)):=
 LP.lp (unc4 (j4M)) (b,d,a,c)
theorem SQ(b c d a):yn b c d a=lpK (j4M b c d a) (λh=>yn h.1 h.2.1 h.2.2.1 h.2.2.2):=bm _ _
def j4C[LP](a:ag):Option ((List Int)):=
 let c:=(Int.ofNat (List.length a))
 (yn a c 0 ([]:(List Int))).bind λb=>
 some b
def j5y(a b:xC):Option (Int):=
 cond (a.2.2 != b.2.2) (
 let e:=(w64 (a.2.2-b.2.2))
 some e) (
 cond (a.1 != b.1) (
 let d:=(w64 (a.1-b.1))
 some d) (
 let c:=(w64 (a.2.1-b.2.1))
 some c))
def j04(a:af):Option (af):=
 tt ((.pair (.int .i64) (.pair (.int .i64) (.int .i64)))) (λc b=>(j5y c b).getD 0) a
def j0J(i e f:Int)(a:af):Option ((Int×Int×Int×af) ⊕ ((Int×af))):=
 let l:=(Int.ofNat (List.length a-(Int.toNat e)))
 cond (decide (f<l)) (
 cond (inR f (List.length a-(Int.toNat e))) (
 let b:=(List.getD a ((Int.toNat e)+(Int.toNat f)) (0,(0,0)))
 let g:=(w64 (f-1))
 cond (inR g (List.length a-(Int.toNat e))) (
 let d:=(List.getD a ((Int.toNat e)+(Int.toNat g)) (0,(0,0)))
 cond (!((b.1==d.1)&&((b.2.1==d.2.1)&&(b.2.2==d.2.2)))) (
 cond (inR f (List.length a-(Int.toNat e))) (
 let c:=(List.getD a ((Int.toNat e)+(Int.toNat f)) (0,(0,0)))
 cond (inR i (List.length a)) (
 let n:af:=(List.set a (Int.toNat i) (c.1,(c.2.1,c.2.2)))
 let k:=(w64 (i+1))
 let j:=(w64 (f+1))
 some (.inl (k,(Int.ofNat (Int.toNat e)),j,n))) none) none) (
 let m:=(w64 (f+1))
 some (.inl (i,(Int.ofNat (Int.toNat e)),m,a)))) none) none) (
 some (.inr (i,a)))
def yo[LP](c a d:Int)(b:af):Option ((Int×af)):=
 LP.lp (unc4 (j0J)) (c,a,d,b)
theorem SR(b d c a):yo b d c a=lpK (j0J b d c a) (λh=>yo h.1 h.2.1 h.2.2.1 h.2.2.2):=bm _ _
def j0d[LP](e:Int)(d:af):Option ((Int×af) ⊕ ((Int×af) ⊕ af)):=
 let i:=(Int.ofNat (List.length d))
 cond (decide (e<i)) (
 cond (inR e (List.length d)) (
 let b:=(List.getD d (Int.toNat e) (0,(0,0)))
 let f:=(w64 (e-1))
 cond (inR f (List.length d)) (
 let c:=(List.getD d (Int.toNat f) (0,(0,0)))
 cond ((b.1==c.1)&&((b.2.1==c.2.1)&&(b.2.2==c.2.2))) (
 cond (decide (0<=e)&&decide (e<=(Int.ofNat (List.length d)))) (
 (yo e (Int.ofNat (Int.toNat e)) 1 d).bind λa=>
 cond (decide (0<=a.1)&&decide (a.1<=(Int.ofNat (List.length a.2)))) (
 let g:af:=(List.take (Int.toNat a.1) a.2++List.replicate (List.length a.2-(Int.toNat a.1)) (0,(0,0)))
 cond (decide (0<=a.1)&&decide (a.1<=(Int.ofNat (List.length g)))) (
 some (.inr (.inl ((Int.ofNat (Int.toNat a.1)),g)))) none) none) none) (
 let j:=(w64 (e+1))
 some (.inl (j,d)))) none) none) (
 some (.inr (.inr d)))
def tE[LP](b:Int)(a:af):Option ((Int×af) ⊕ af):=
 LP.lp (unc2 (j0d)) (b,a)
theorem SS(b a):tE b a=lpK (j0d b a) (λh=>tE h.1 h.2):=bm _ _
def j06[LP](a:af):Option (Int×af):=
 let c:=(Int.ofNat (List.length a))
 cond (decide (c<2)) (
 some ((Int.ofNat (List.length a)),a)) (
 (tE 1 a).bind λb=>
 sumC b (λd=>
 some ((Int.ofNat (Int.toNat d.1)),d.2)) (λe=>
 some ((Int.ofNat (List.length e)),e)))
def j3p(n j b:Int)(f:ae)(d e c a:(List Int)):Option ((Int×Int×Int×ae×(List Int)×(List Int)×(List Int)×(List Int)) ⊕ ((Int×(List Int)×(List Int)×(List Int)×(List Int)))):=
 cond (decide (b<j)) (
 cond (inR b (List.length f)) (
 let i:=(List.getD f (Int.toNat b) (0,(0,(0,(0,0)))))
 cond (i.1==n) (
 let g:(List Int):=[i.2.2.2.1]
 cond (decide (List.length a+List.length g<=aS)) (
 let k:(List Int):=(a++g)
 let l:=(w64 (b+1))
 some (.inl (n,j,l,f,d,e,c,k))) none) (
 let m:=(w64 (b+1))
 some (.inl (n,j,m,f,d,e,c,a)))) none) (
 some (.inr (n,d,e,c,a)))
def my[LP](i f e:Int)(g:ae)(c d a b:(List Int)):Option ((Int×(List Int)×(List Int)×(List Int)×(List Int))):=
 LP.lp (unc8 (j3p)) (i,f,e,g,c,d,a,b)
theorem SU(i f e g c d a b):my i f e g c d a b=lpK (j3p i f e g c d a b) (λh=>my h.1 h.2.1 h.2.2.1 h.2.2.2.1 h.2.2.2.2.1 h.2.2.2.2.2.1 h.2.2.2.2.2.2.1 h.2.2.2.2.2.2.2):=bm _ _
def j3q(m l:Int)(i:(List (List Int)))(k:Int)(c:(List Int))(f a:Int)(d:af):Option ((Int×Int×(List (List Int))×Int×(List Int)×Int×Int×af) ⊕ ((Int×(List (List Int))×Int×af))):=
 cond (decide (a<f)) (
 cond (inR a (List.length c)) (
 let j:=(List.getD c (Int.toNat a) 0)
 let b:af:=[(l,(m,j))]
 cond (decide (List.length d+List.length b<=aS)) (
 let e:af:=(d++b)
 let g:=(w64 (a+1))
 some (.inl (m,l,i,k,c,f,g,e))) none) none) (
 some (.inr (m,i,k,d)))
def rR[LP](i g:Int)(d:(List (List Int)))(e:Int)(b:(List Int))(c a:Int)(f:af):Option ((Int×(List (List Int))×Int×af)):=
 LP.lp (unc8 (j3q)) (i,g,d,e,b,c,a,f)
theorem SV(i g:Int)(d:(List (List Int)))(e:Int)(b:(List Int))(c a:Int)(f:af):rR i g d e b c a f=lpK (j3q i g d e b c a f) (λh=>rR h.1 h.2.1 h.2.2.1 h.2.2.2.1 h.2.2.2.2.1 h.2.2.2.2.2.1 h.2.2.2.2.2.2.1 h.2.2.2.2.2.2.2):=bm _ _
def j0S[LP](i:Int)(f:(List (List Int)))(a:Int)(g:af):Option ((Int×(List (List Int))×Int×af) ⊕ (af)):=
 cond (decide (a<4)) (
 cond (inR a 4) (
 let c:=(List.getD f (Int.toNat a) ([]:(List Int)))
 let d:=(Int.ofNat (List.length c))
 (rR i a f a c d 0 g).bind λb=>
 let e:=(w64 (b.2.2.1+1))
 some (.inl (b.1,b.2.1,e,b.2.2.2))) none) (
 some (.inr g))
def nf[LP](d:Int)(a:(List (List Int)))(b:Int)(c:af):Option (af):=
 LP.lp (unc4 (j0S)) (d,a,b,c)
theorem Dn(d:Int)(a:(List (List Int)))(b:Int)(c:af):nf d a b c=lpK (j0S d a b c) (λh=>nf h.1 h.2.1 h.2.2.1 h.2.2.2):=bm _ _
def j2l[LP](g:dY)(a c f:Int):Option (af×Int):=
 (j5I (g.1,(g.2.1,(g.2.2.1,g.2.2.2))) a c f).bind λb=>
 cond (b.2 != 0) (
 some (([]:af),b.2)) (
 (j4B ((b.1.1.1,(b.1.1.2.1,(b.1.1.2.2.1,b.1.1.2.2.2))),b.1.2) a c f).bind λi=>
 cond (i.2 != 0) (
 some (([]:af),i.2)) (
 (j39 (g.1,(g.2.1,(g.2.2.1,g.2.2.2))) c f).bind λe=>
 cond (e.2 != 0) (
 some (([]:af),e.2)) (
 cond (inR a (List.length g.2.1)) (
 let d:=(List.getD g.2.1 (Int.toNat a) (ByteArray.empty,(0,(([]:ag),(0,(0,false))))))
 cond (d.2.2.2.1 != 0) (
 (j89 i.1 d.2.2.2.1 c f).bind λa8=>
 cond (d.2.2.2.2.1 != 0) (
 (j77 i.1 d.2.2.2.2.1).bind λf2=>
 cond (!d.2.2.2.2.2) (
 (j3o ((b.1.1.1,(b.1.1.2.1,(b.1.1.2.2.1,b.1.1.2.2.2))),b.1.2) d.2.1).bind λf4=>
 (j2u (f4.1,f4.2) d.2.2.1 c f).bind λg6=>
 (j4o i.1 g6).bind λf3=>
 let g7:=(Int.ofNat (List.length f3))
 cond (decide (g7>4096)) (
 some (([]:af),5)) (
 (j4C f3).bind λg8=>
 let g3:=(Int.ofNat (List.length e.1))
 (my a g3 0 e.1 a8 f2 g8 ([]:(List Int))).bind λd1=>
 let g4:(List (List Int)):=[d1.2.1,d1.2.2.1,d1.2.2.2.1,d1.2.2.2.2]
 (nf d1.1 g4 0 ([]:af)).bind λg9=>
 (j04 g9).bind λf6=>
 (j06 f6).bind λd2=>
 let c8:af:=(List.take (Int.toNat d2.1) d2.2)
 let g2:=(Int.ofNat (List.length c8))
 cond (decide (g2>16384)) (
 some (([]:af),5)) (
 some (c8,0)))) (
 let c3:=(Int.ofNat (List.length e.1))
 (my a c3 0 e.1 a8 f2 ([]:(List Int)) ([]:(List Int))).bind λj=>
 let c0:(List (List Int)):=[j.2.1,j.2.2.1,j.2.2.2.1,j.2.2.2.2]
 (nf j.1 c0 0 ([]:af)).bind λg0=>
 (j04 g0).bind λb7=>
 (j06 b7).bind λu=>
 let a3:af:=(List.take (Int.toNat u.1) u.2)
 let c4:=(Int.ofNat (List.length a3))
 cond (decide (c4>16384)) (
 some (([]:af),5)) (
 some (a3,0)))) (
 cond (!d.2.2.2.2.2) (
 (j3o ((b.1.1.1,(b.1.1.2.1,(b.1.1.2.2.1,b.1.1.2.2.2))),b.1.2) d.2.1).bind λb0=>
 (j2u (b0.1,b0.2) d.2.2.1 c f).bind λe7=>
 (j4o i.1 e7).bind λa6=>
 let f0:=(Int.ofNat (List.length a6))
 cond (decide (f0>4096)) (
 some (([]:af),5)) (
 (j4C a6).bind λf1=>
 let c1:=(Int.ofNat (List.length e.1))
 (my a c1 0 e.1 a8 ([]:(List Int)) f1 ([]:(List Int))).bind λm=>
 let d4:(List (List Int)):=[m.2.1,m.2.2.1,m.2.2.2.1,m.2.2.2.2]
 (nf m.1 d4 0 ([]:af)).bind λf5=>
 (j04 f5).bind λd9=>
 (j06 d9).bind λt=>
 let r:af:=(List.take (Int.toNat t.1) t.2)
 let b3:=(Int.ofNat (List.length r))
 cond (decide (b3>16384)) (
 some (([]:af),5)) (
 some (r,0)))) (
 let d5:=(Int.ofNat (List.length e.1))
 (my a d5 0 e.1 a8 ([]:(List Int)) ([]:(List Int)) ([]:(List Int))).bind λp=>
 let e2:(List (List Int)):=[p.2.1,p.2.2.1,p.2.2.2.1,p.2.2.2.2]
 (nf p.1 e2 0 ([]:af)).bind λg1=>
 (j04 g1).bind λd3=>
 (j06 d3).bind λv=>
 let x:af:=(List.take (Int.toNat v.1) v.2)
 let d7:=(Int.ofNat (List.length x))
 cond (decide (d7>16384)) (
 some (([]:af),5)) (
 some (x,0))))) (
 cond (d.2.2.2.2.1 != 0) (
 (j77 i.1 d.2.2.2.2.1).bind λa7=>
 cond (!d.2.2.2.2.2) (
 (j3o ((b.1.1.1,(b.1.1.2.1,(b.1.1.2.2.1,b.1.1.2.2.2))),b.1.2) d.2.1).bind λa9=>
 (j2u (a9.1,a9.2) d.2.2.1 c f).bind λe3=>
 (j4o i.1 e3).bind λb1=>
 let e6:=(Int.ofNat (List.length b1))
 cond (decide (e6>4096)) (
 some (([]:af),5)) (
 (j4C b1).bind λe9=>
 let e1:=(Int.ofNat (List.length e.1))
 (my a e1 0 e.1 ([]:(List Int)) a7 e9 ([]:(List Int))).bind λl=>
 let c6:(List (List Int)):=[l.2.1,l.2.2.1,l.2.2.2.1,l.2.2.2.2]
 (nf l.1 c6 0 ([]:af)).bind λf9=>
 (j04 f9).bind λd8=>
 (j06 d8).bind λw=>
 let a2:af:=(List.take (Int.toNat w.1) w.2)
 let b9:=(Int.ofNat (List.length a2))
 cond (decide (b9>16384)) (
 some (([]:af),5)) (
 some (a2,0)))) (
 let c2:=(Int.ofNat (List.length e.1))
 (my a c2 0 e.1 ([]:(List Int)) a7 ([]:(List Int)) ([]:(List Int))).bind λn=>
 let e0:(List (List Int)):=[n.2.1,n.2.2.1,n.2.2.2.1,n.2.2.2.2]
 (nf n.1 e0 0 ([]:af)).bind λf8=>
 (j04 f8).bind λc7=>
 (j06 c7).bind λz=>
 let a0:af:=(List.take (Int.toNat z.1) z.2)
 let c5:=(Int.ofNat (List.length a0))
 cond (decide (c5>16384)) (
 some (([]:af),5)) (
 some (a0,0)))) (
 cond (!d.2.2.2.2.2) (
 (j3o ((b.1.1.1,(b.1.1.2.1,(b.1.1.2.2.1,b.1.1.2.2.2))),b.1.2) d.2.1).bind λa5=>
 (j2u (a5.1,a5.2) d.2.2.1 c f).bind λe4=>
 (j4o i.1 e4).bind λa4=>
 let e5:=(Int.ofNat (List.length a4))
 cond (decide (e5>4096)) (
 some (([]:af),5)) (
 (j4C a4).bind λe8=>
 let d6:=(Int.ofNat (List.length e.1))
 (my a d6 0 e.1 ([]:(List Int)) ([]:(List Int)) e8 ([]:(List Int))).bind λk=>
 let d0:(List (List Int)):=[k.2.1,k.2.2.1,k.2.2.2.1,k.2.2.2.2]
 (nf k.1 d0 0 ([]:af)).bind λf7=>
 (j04 f7).bind λb6=>
 (j06 b6).bind λa1=>
 let s:af:=(List.take (Int.toNat a1.1) a1.2)
 let b8:=(Int.ofNat (List.length s))
 cond (decide (b8>16384)) (
 some (([]:af),5)) (
 some (s,0)))) (
 let c9:=(Int.ofNat (List.length e.1))
 (my a c9 0 e.1 ([]:(List Int)) ([]:(List Int)) ([]:(List Int)) ([]:(List Int))).bind λo=>
 let b4:(List (List Int)):=[o.2.1,o.2.2.1,o.2.2.2.1,o.2.2.2.2]
 (nf o.1 b4 0 ([]:af)).bind λg5=>
 (j04 g5).bind λb2=>
 (j06 b2).bind λq=>
 let y:af:=(List.take (Int.toNat q.1) q.2)
 let b5:=(Int.ofNat (List.length y))
 cond (decide (b5>16384)) (
 some (([]:af),5)) (
 some (y,0)))))) none)))
def j4D[LP](d:dY)(a c e:Int):Option (ag×Int):=
 (j5I (d.1,(d.2.1,(d.2.2.1,d.2.2.2))) a c e).bind λb=>
 cond (b.2 != 0) (
 some (([]:ag),b.2)) (
 (j4B ((b.1.1.1,(b.1.1.2.1,(b.1.1.2.2.1,b.1.1.2.2.2))),b.1.2) a c e).bind λf=>
 some (f.1,f.2))
def j5m(a:(Int×Int)):Option (Int):=
 (j8q a.1).bind λd=>
 let b:=(w64 (d*86400))
 let c:=(w64 (b+a.2))
 some c
def jfG(e:Int)(d:ag)(f c:Int):Option ((Int×ag×Int×Int) ⊕ (Bool ⊕ Unit)):=
 cond (decide (c<f)) (
 cond (inR c (List.length d)) (
 let a:=(List.getD d (Int.toNat c) (0,0))
 cond (cond (decide (a.1<=e)) (decide (e<a.2)) false) (
 some (.inr (.inl true))) (
 let b:=(w64 (c+1))
 some (.inl (e,d,f,b)))) none) (
 some (.inr (.inr ())))
def Ko[LP](a:Int)(c:ag)(b d:Int):Option (Bool ⊕ Unit):=
 LP.lp (unc4 (jfG)) (a,c,b,d)
def jh2[LP](a:ag)(b:Int):Option (Bool):=
 let c:=(Int.ofNat (List.length a))
 (Ko b a c 0).bind λd=>
 sumC d (λe=>
 some e) (λf=>
 some false)
def j67[LP](c:dY)(b d:Int)(e:Bool):Option (Bool):=
 (j5I (c.1,(c.2.1,(c.2.2.1,c.2.2.2))) b d d).bind λa=>
 cond (a.2 != 0) (
 some false) (
 cond (inR b (List.length c.2.1)) (
 let f:=(List.getD c.2.1 (Int.toNat b) (ByteArray.empty,(0,(([]:ag),(0,(0,false))))))
 cond e (
 cond f.2.2.2.2.2 (
 some true) (
 (j3o ((a.1.1.1,(a.1.1.2.1,(a.1.1.2.2.1,a.1.1.2.2.2))),a.1.2) f.2.1).bind λm=>
 (j1y (m.1,m.2) d).bind λl=>
 (j5m (l.1,l.2)).bind λn=>
 (jh2 f.2.2.1 n).bind λo=>
 some (!o))) (
 (j3o ((a.1.1.1,(a.1.1.2.1,(a.1.1.2.2.1,a.1.1.2.2.2))),a.1.2) f.2.1).bind λg=>
 (j1y (g.1,g.2) d).bind λi=>
 (j5m (i.1,i.2)).bind λj=>
 (jh2 f.2.2.1 j).bind λk=>
 some (!k))) none)
def j9P[LP]  : Option (Bool):=
 (jlP 144000 39600 false).bind λa=>
 (j2l (a.1,(a.2.1,(a.2.2.1,a.2.2.2))) 0 86400 286400).bind λb=>
 let s:ae:=[(0,(0,(0,(90000,126000))))]
 cond (inR 0 (List.length a.2.2.2)) (
 let g:aC:=(List.set a.2.2.2 0 ((List.getD a.2.2.2 0 (ByteArray.empty,(([]:bc),([]:ae)))).1,((List.getD a.2.2.2 0 (ByteArray.empty,(([]:bc),([]:ae)))).2.1,s)))
 (j2l (a.1,(a.2.1,(a.2.2.1,g))) 0 86400 172800).bind λc=>
 (j4D (a.1,(a.2.1,(a.2.2.1,g))) 0 86400 172800).bind λm=>
 let q:=(Int.ofNat (List.length b.1))
 let k:Bool:=(cond (cond (cond (b.2==0) (c.2==0) false) (m.2==0) false) (q==2) false)
 cond ((inR 0 (List.length b.1)) || !k) (
 let f:=(List.getD b.1 0 (0,(0,0)))
 let i:Bool:=(cond k ((f.1==2)&&((f.2.1==0)&&(f.2.2==172800))) false)
 cond ((inR 1 (List.length b.1)) || !i) (
 let d:=(List.getD b.1 1 (0,(0,0)))
 let j:Bool:=(cond i ((d.1==0)&&((d.2.1==0)&&(d.2.2==230401))) false)
 let l:=(Int.ofNat (List.length c.1))
 cond ((inR 0 (List.length c.1)) || !(cond j (l==1) false)) (
 let e:=(List.getD c.1 0 (0,(0,0)))
 let r:Bool:=(cond (cond j (l==1) false) ((e.1==1)&&((e.2.1==0)&&(e.2.2==126000))) false)
 let n:=(Int.ofNat (List.length m.1))
 cond (cond r (n==2) false) (
 (j67 (a.1,(a.2.1,(a.2.2.1,g))) 0 86400 false).bind λo=>
 cond o (
 (j67 (a.1,(a.2.1,(a.2.2.1,g))) 0 172800 true).bind λp=>
 some (!p)) (
 some false)) (
 some false)) none) none) none) none
def jlR(a:(List Int)):Option ((List Int)×Int):=
 some (a,0)
def j07(b:(List Int))(a c:Int):Option (Int×(List Int)×Int):=
 let i:=(Int.ofNat (List.length b))
 cond (decide (a>=i)) (
 some (0,b,a)) (
 cond (decide (c<1)) (
 some (0,b,a)) (
 cond (inR a (List.length b)) (
 let g:=(List.getD b (Int.toNat a) 0)
 cond (!(c==0)) (
 let d:=(Int.tmod g c)
 let e:=(w64 (a+1))
 cond (decide (d<0)) (
 let f:=(w64 (d+c))
 some (f,b,e)) (
 some (d,b,e))) none) none))
def j27(d:(List Int))(b:Int)(a:(List Int)):Option (Int×(List Int)×Int):=
 let f:=(Int.ofNat (List.length a))
 (j07 d b f).bind λc=>
 cond (inR c.1 (List.length a)) (
 let e:=(List.getD a (Int.toNat c.1) 0)
 some (e,c.2.1,c.2.2)) none
def j5z(a0:(List Int))(u:Int)(a:ByteArray):Option (kJ×(List Int)×Int):=
 let a7:(List Int):=[0,4,(-20),22,48,(-47)]
 (j27 a0 u a7).bind λs=>
 (j07 s.2.1 s.2.2 2).bind λk=>
 (j07 k.2.1 k.2.2 3).bind λl=>
 let a4:=(w64 (k.1*l.1))
 let a6:=(w64 (s.1+a4))
 let c:=(w64 (900*a6))
 (j07 l.2.1 l.2.2 2).bind λm=>
 let g:=(w64 (2025+m.1))
 (j07 m.2.1 m.2.2 4).bind λb=>
 cond (b.1==1) (
 let a2:=(w64 (c+3600))
 let b7:cq:=[(2025,(g,(3,(5,(6,(7200,a2)))))),(2025,(g,(10,(5,(6,(10800,c))))))]
 some ((a,(c,b7)),b.2.1,b.2.2)) (
 cond (b.1==2) (
 (j07 b.2.1 b.2.2 4).bind λt=>
 let b4:=(w64 (1+t.1))
 (j07 t.2.1 t.2.2 7).bind λi=>
 (j07 i.2.1 i.2.2 24).bind λq=>
 let b2:=(w64 (3600*q.1))
 (j07 q.2.1 q.2.2 8).bind λj=>
 let a5:=(w64 (1+j.1))
 let a8:=(w64 (1800*a5))
 let b5:=(w64 (c+a8))
 (j07 j.2.1 j.2.2 2).bind λv=>
 let b1:=(w64 (2+v.1))
 let a9:(List Int):=[2,3,5]
 (j27 v.2.1 v.2.2 a9).bind λw=>
 (j07 w.2.1 w.2.2 7).bind λn=>
 (j07 n.2.1 n.2.2 24).bind λp=>
 let a3:=(w64 (3600*p.1))
 let b6:cq:=[(2025,(g,(1,(b4,(i.1,(b2,b5)))))),(2025,(g,(b1,(w.1,(n.1,(a3,c))))))]
 some ((a,(c,b6)),p.2.1,p.2.2)) (
 cond (b.1==3) (
 let b0:(List Int):=[3600,(-3600),82800,(-82800),43200]
 (j27 b.2.1 b.2.2 b0).bind λf=>
 let x:=(w64 (c+f.1))
 cond (cond (decide (x>64800)) true (decide (x<(-64800)))) (
 (j07 f.2.1 f.2.2 7).bind λr=>
 (j07 r.2.1 r.2.2 48).bind λo=>
 let a1:=(w64 (1800*o.1))
 let b3:cq:=[(2026,(2026,(1,(2,(r.1,(a1,0))))))]
 some ((a,(c,b3)),o.2.1,o.2.2)) (
 (j07 f.2.1 f.2.2 7).bind λd=>
 (j07 d.2.1 d.2.2 48).bind λe=>
 let y:=(w64 (1800*e.1))
 let z:cq:=[(2026,(2026,(1,(2,(d.1,(y,x))))))]
 some ((a,(c,z)),e.2.1,e.2.2))) (
 some ((a,(c,([]:cq))),b.2.1,b.2.2))))
def jh3  : Option ((List ByteArray)):=
 let a:(List ByteArray):=[(ByteArray.mk #[97,100,97]),(ByteArray.mk #[98,111,98]),(ByteArray.mk #[99,108,101,111]),(ByteArray.mk #[100,97,110]),(ByteArray.mk #[101,118,101]),(ByteArray.mk #[102,97,121]),(ByteArray.mk #[103,117,115]),(ByteArray.mk #[104,97,108])]
 some a
def j1R(c:(List Int))(b a:Int):Option (Bool×(List Int)×Int):=
 (j07 c b a).bind λd=>
 let e:=(w64 (a-1))
 some ((d.1==e),d.2.1,d.2.2)
def j3r(r q:Int)(p:(List Int))(g:Int)(l:ag):Option ((Int×Int×(List Int)×Int×ag) ⊕ (((List Int)×Int×ag))):=
 cond (decide (q>0)) (
 (j07 p g 30).bind λb=>
 let k:=(w64 (3600*b.1))
 let n:=(w64 (r+k))
 (j07 b.2.1 b.2.2 2).bind λd=>
 let o:=(w64 (60*d.1))
 let f:=(w64 (n+o))
 let m:(List Int):=[3600,28800,43200,86400,61,1]
 (j27 d.2.1 d.2.2 m).bind λa=>
 let c:=(w64 (f+a.1))
 cond (decide (c>604800)) (
 some (.inr (a.2.1,a.2.2,l))) (
 let e:ag:=[(f,c)]
 cond (decide (List.length l+List.length e<=aS)) (
 let j:ag:=(l++e)
 let i:=(w64 (q-1))
 some (.inl (c,i,a.2.1,a.2.2,j))) none)) (
 some (.inr (p,g,l)))
def F4[LP](e d:Int)(c:(List Int))(a:Int)(b:ag):Option (((List Int)×Int×ag)):=
 LP.lp (unc5 (j3r)) (e,d,c,a,b)
theorem SX(e d c a b):F4 e d c a b=lpK (j3r e d c a b) (λh=>F4 h.1 h.2.1 h.2.2.1 h.2.2.2.1 h.2.2.2.2):=bm _ _
def j5F[LP](d:(List Int))(a:Int):Option (ag×(List Int)×Int):=
 (j07 d a 4).bind λb=>
 (F4 0 b.1 b.2.1 b.2.2 ([]:ag)).bind λc=>
 some (c.2.2,c.1,c.2.1)
def j47(l:Int)(k:(List Int))(f:Int)(b:ax):Option ((Int×(List Int)×Int×ax) ⊕ (((List Int)×Int×ax))):=
 cond (decide (l>0)) (
 let e:(List ByteArray):=[(ByteArray.mk #[104,101,114,101]),(ByteArray.mk #[116,104,101,114,101])]
 let c:=(Int.ofNat (List.length b))
 cond (inR c (List.length e)) (
 let j:=(List.getD e (Int.toNat c) ByteArray.empty)
 (j5z k f j).bind λa=>
 let d:ax:=[(a.1.1,(a.1.2.1,a.1.2.2))]
 cond (decide (List.length b+List.length d<=aS)) (
 let i:ax:=(b++d)
 let g:=(w64 (l-1))
 some (.inl (g,a.2.1,a.2.2,i))) none) none) (
 some (.inr (k,f,b)))
def F5[LP](c:Int)(d:(List Int))(b:Int)(a:ax):Option (((List Int)×Int×ax)):=
 LP.lp (unc4 (j47)) (c,d,b,a)
theorem SY(d c b a):F5 d c b a=lpK (j47 d c b a) (λh=>F5 h.1 h.2.1 h.2.2.1 h.2.2.2):=bm _ _
def j48[LP](a4:Int)(a5:(List Int))(q:Int)(j:ax)(b:az):Option ((Int×(List Int)×Int×ax×az) ⊕ (((List Int)×Int×ax×az))):=
 cond (decide (a4>0)) (
 (jh3).bind λn=>
 let l:=(Int.ofNat (List.length b))
 cond (inR l (List.length n)) (
 let o:=(List.getD n (Int.toNat l) ByteArray.empty)
 let z:=(Int.ofNat (List.length j))
 (j07 a5 q z).bind λc=>
 (j1R c.2.1 c.2.2 3).bind λd=>
 (j1R d.2.1 d.2.2 2).bind λa=>
 cond a.1 (
 (j5F a.2.1 a.2.2).bind λk=>
 let r:(List Int):=[0,40,100,12]
 (j27 k.2.1 k.2.2 r).bind λe=>
 let a2:=(w64 (3600*e.1))
 let w:(List Int):=[0,11,24,1]
 (j27 e.2.1 e.2.2 w).bind λi=>
 let a0:=(w64 (3600*i.1))
 let p:az:=[(o,(c.1,(k.1,(a2,(a0,d.1)))))]
 cond (decide (List.length b+List.length p<=aS)) (
 let v:az:=(b++p)
 let s:=(w64 (a4-1))
 some (.inl (s,i.2.1,i.2.2,j,v))) none) (
 let a1:(List Int):=[0,40,100,12]
 (j27 a.2.1 a.2.2 a1).bind λf=>
 let t:=(w64 (3600*f.1))
 let u:(List Int):=[0,11,24,1]
 (j27 f.2.1 f.2.2 u).bind λg=>
 let y:=(w64 (3600*g.1))
 let m:az:=[(o,(c.1,(([]:ag),(t,(y,d.1)))))]
 cond (decide (List.length b+List.length m<=aS)) (
 let x:az:=(b++m)
 let a3:=(w64 (a4-1))
 some (.inl (a3,g.2.1,g.2.2,j,x))) none)) none) (
 some (.inr (a5,q,j,b)))
def F6[LP](e:Int)(d:(List Int))(a:Int)(c:ax)(b:az):Option (((List Int)×Int×ax×az)):=
 LP.lp (unc5 (j48)) (e,d,a,c,b)
theorem SZ(e d a c b):F6 e d a c b=lpK (j48 e d a c b) (λh=>F6 h.1 h.2.1 h.2.2.1 h.2.2.2.1 h.2.2.2.2):=bm _ _
def j49(o p q:Int)(n:(List Int))(d:Int)(m:ByteArray)(e:Int)(j:ax)(i:az)(g:aA)(c:(List Int)):Option ((Int×Int×Int×(List Int)×Int×ByteArray×Int×ax×az×aA×(List Int)) ⊕ ((Int×(List Int)×Int×ByteArray×Int×ax×az×aA×(List Int)))):=
 cond (decide (p>0)) (
 (j07 n d 6).bind λb=>
 let l:=(w64 (1+b.1))
 let a:=(w64 (q+l))
 cond (decide (List.length c+List.length [a]<=aS)) (
 let f:(List Int):=(c++[a])
 let k:=(w64 (p-1))
 some (.inl (o,k,a,b.2.1,b.2.2,m,e,j,i,g,f))) none) (
 some (.inr (o,n,d,m,e,j,i,g,c)))
def F7[LP](k l g:Int)(j:(List Int))(a:Int)(i:ByteArray)(b:Int)(e:ax)(d:az)(c:aA)(f:(List Int)):Option ((Int×(List Int)×Int×ByteArray×Int×ax×az×aA×(List Int))):=
 LP.lp (jtw (j49)) (k,l,g,j,a,i,b,e,d,c,f)
theorem S7(k l g j a i b e d c f):F7 k l g j a i b e d c f=lpK (j49 k l g j a i b e d c f) (λh=>F7 h.1 h.2.1 h.2.2.1 h.2.2.2.1 h.2.2.2.2.1 h.2.2.2.2.2.1 h.2.2.2.2.2.2.1 h.2.2.2.2.2.2.2.1 h.2.2.2.2.2.2.2.2.1 h.2.2.2.2.2.2.2.2.2.1 h.2.2.2.2.2.2.2.2.2.2):=bm _ _
def j3c[LP](n:Int)(m:(List Int))(g:Int)(e:ax)(j:az)(i:aA):Option ((Int×(List Int)×Int×ax×az×aA) ⊕ (((List Int)×Int×ax×az×aA))):=
 cond (decide (n>0)) (
 let k:=(Int.ofNat (List.length e))
 (j07 m g k).bind λc=>
 (j07 c.2.1 c.2.2 4).bind λb=>
 (F7 n b.1 20454 b.2.1 b.2.2 (ByteArray.mk #[100,97,121,115]) c.1 e j i ([]:(List Int))).bind λa=>
 let d:aA:=[(a.2.2.2.1,(a.2.2.2.2.1,a.2.2.2.2.2.2.2.2))]
 cond (decide (List.length a.2.2.2.2.2.2.2.1+List.length d<=aS)) (
 let f:aA:=(a.2.2.2.2.2.2.2.1++d)
 let l:=(w64 (a.1-1))
 some (.inl (l,a.2.1,a.2.2.1,a.2.2.2.2.2.1,a.2.2.2.2.2.2.1,f))) none) (
 some (.inr (m,g,e,j,i)))
def F8[LP](f:Int)(e:(List Int))(a:Int)(d:ax)(c:az)(b:aA):Option (((List Int)×Int×ax×az×aA)):=
 LP.lp (unc6 (j3c)) (f,e,a,d,c,b)
theorem Kp(f e a d c b):F8 f e a d c b=lpK (j3c f e a d c b) (λh=>F8 h.1 h.2.1 h.2.2.1 h.2.2.2.1 h.2.2.2.2.1 h.2.2.2.2.2):=bm _ _
def ja7[LP](g:(List Int))(c:Int):Option (dY×(List Int)×Int):=
 (j07 g c 2).bind λe=>
 let j:=(w64 (1+e.1))
 (F5 j e.2.1 e.2.2 ([]:ax)).bind λi=>
 (j07 i.1 i.2.1 4).bind λa=>
 let k:=(w64 (1+a.1))
 (F6 k a.2.1 a.2.2 i.2.2 ([]:az)).bind λf=>
 (j07 f.1 f.2.1 2).bind λd=>
 (F8 d.1 d.2.1 d.2.2 f.2.2.1 f.2.2.2 ([]:aA)).bind λb=>
 some ((b.2.2.1,(b.2.2.2.1,(b.2.2.2.2,([]:aC)))),b.1,b.2.1)
def j4a(z:Int)(y:(List Int))(d:Int)(a2:ax)(c:az)(u:aA)(e:aC)(a0:ByteArray)(j p t o g k s:Int)(a1:ByteArray)(m f n i q l r:Int)(b:(List Int)):Option ((Int×(List Int)×Int×ax×az×aA×aC×ByteArray×Int×Int×Int×Int×Int×Int×Int×ByteArray×Int×Int×Int×Int×Int×Int×Int×(List Int)) ⊕ (((List Int)×Int×ax×az×aA×aC×ByteArray×Int×Int×Int×Int×Int×Int×Int×ByteArray×Int×Int×Int×Int×Int×Int×Int×(List Int)))):=
 cond (decide (z>0)) (
 let x:=(Int.ofNat (List.length c))
 (j07 y d x).bind λa=>
 cond (decide (List.length b+List.length [a.1]<=aS)) (
 let v:(List Int):=(b++[a.1])
 let w:=(w64 (z-1))
 some (.inl (w,a.2.1,a.2.2,a2,c,u,e,a0,j,p,t,o,g,k,s,a1,m,f,n,i,q,l,r,v))) none) (
 some (.inr (y,d,a2,c,u,e,a0,j,p,t,o,g,k,s,a1,m,f,n,i,q,l,r,b)))
def Dp[LP](v:Int)(u:(List Int))(a:Int)(y:ax)(m:az)(t:aA)(b:aC)(w:ByteArray)(g o s n e i r:Int)(x:ByteArray)(k d l f p j q:Int)(c:(List Int)):Option (((List Int)×Int×ax×az×aA×aC×ByteArray×Int×Int×Int×Int×Int×Int×Int×ByteArray×Int×Int×Int×Int×Int×Int×Int×(List Int))):=
 LP.lp (jzW (j4a)) (v,u,a,y,m,t,b,w,g,o,s,n,e,i,r,x,k,d,l,f,p,j,q,c)
theorem S8(v u a y m t b w g o s n e i r x k d l f p j q c):Dp v u a y m t b w g o s n e i r x k d l f p j q c=lpK (j4a v u a y m t b w g o s n e i r x k d l f p j q c) (λh=>Dp h.1 h.2.1 h.2.2.1 h.2.2.2.1 h.2.2.2.2.1 h.2.2.2.2.2.1 h.2.2.2.2.2.2.1 h.2.2.2.2.2.2.2.1 h.2.2.2.2.2.2.2.2.1 h.2.2.2.2.2.2.2.2.2.1 h.2.2.2.2.2.2.2.2.2.2.1 h.2.2.2.2.2.2.2.2.2.2.2.1 h.2.2.2.2.2.2.2.2.2.2.2.2.1 h.2.2.2.2.2.2.2.2.2.2.2.2.2.1 h.2.2.2.2.2.2.2.2.2.2.2.2.2.2.1 h.2.2.2.2.2.2.2.2.2.2.2.2.2.2.2.1 h.2.2.2.2.2.2.2.2.2.2.2.2.2.2.2.2.1 h.2.2.2.2.2.2.2.2.2.2.2.2.2.2.2.2.2.1 h.2.2.2.2.2.2.2.2.2.2.2.2.2.2.2.2.2.2.1 h.2.2.2.2.2.2.2.2.2.2.2.2.2.2.2.2.2.2.2.1 h.2.2.2.2.2.2.2.2.2.2.2.2.2.2.2.2.2.2.2.2.1 h.2.2.2.2.2.2.2.2.2.2.2.2.2.2.2.2.2.2.2.2.2.1 h.2.2.2.2.2.2.2.2.2.2.2.2.2.2.2.2.2.2.2.2.2.2.1 h.2.2.2.2.2.2.2.2.2.2.2.2.2.2.2.2.2.2.2.2.2.2.2):=bm _ _
def ja8[LP](b5:(List Int))(a3:Int)(c:dY)(j:ByteArray):Option (ij×(List Int)×Int):=
 let b9:=(Int.ofNat (List.length c.1))
 (j07 b5 a3 b9).bind λx=>
 (j07 x.2.1 x.2.2 6).bind λy=>
 let b8:=(w64 (20454+y.1))
 let b4:=(w64 (b8-2))
 let b6:(List Int):=[0,32400,7200,9000,79200,1]
 (j27 y.2.1 y.2.2 b6).bind λw=>
 (j07 w.2.1 w.2.2 3).bind λt=>
 (j07 t.2.1 t.2.2 2).bind λr=>
 let c3:=(w64 (1+r.1))
 cond (t.1==0) (
 let c4:(List Int):=[6,8,12,24,23,49]
 (j27 r.2.1 r.2.2 c4).bind λa0=>
 (j07 a0.2.1 a0.2.2 3).bind λz=>
 let c2:=(w64 (1+z.1))
 (Dp c2 z.2.1 z.2.2 c.1 c.2.1 c.2.2.1 c.2.2.2 ByteArray.empty 0 0 0 0 0 0 0 j x.1 b4 w.1 t.1 a0.1 0 0 ([]:(List Int))).bind λb=>
 (j1R b.1 b.2.1 2).bind λs=>
 cond s.1 (
 (j5F s.2.1 s.2.2).bind λv=>
 (j1R v.2.1 v.2.2 4).bind λu=>
 let c0:=(Int.ofNat (List.length b.2.2.2.2.1))
 cond (cond u.1 (decide (c0>0)) false) (
 let b7:=(Int.ofNat (List.length b.2.2.2.2.1))
 (j07 u.2.1 u.2.2 b7).bind λa1=>
 (j07 a1.2.1 a1.2.2 2).bind λa2=>
 let c1:=(w64 (1+a2.1))
 some ((b.2.2.2.2.2.2.2.2.2.2.2.2.2.2.1,(b.2.2.2.2.2.2.2.2.2.2.2.2.2.2.2.1,((b.2.2.2.2.2.2.2.2.2.2.2.2.2.2.2.2.1,b.2.2.2.2.2.2.2.2.2.2.2.2.2.2.2.2.2.1),(b.2.2.2.2.2.2.2.2.2.2.2.2.2.2.2.2.2.2.1,(b.2.2.2.2.2.2.2.2.2.2.2.2.2.2.2.2.2.2.2.1,(b.2.2.2.2.2.2.2.2.2.2.2.2.2.2.2.2.2.2.2.2.2.2,(v.1,(a1.1,c1)))))))),a2.2.1,a2.2.2)) (
 some ((b.2.2.2.2.2.2.2.2.2.2.2.2.2.2.1,(b.2.2.2.2.2.2.2.2.2.2.2.2.2.2.2.1,((b.2.2.2.2.2.2.2.2.2.2.2.2.2.2.2.2.1,b.2.2.2.2.2.2.2.2.2.2.2.2.2.2.2.2.2.1),(b.2.2.2.2.2.2.2.2.2.2.2.2.2.2.2.2.2.2.1,(b.2.2.2.2.2.2.2.2.2.2.2.2.2.2.2.2.2.2.2.1,(b.2.2.2.2.2.2.2.2.2.2.2.2.2.2.2.2.2.2.2.2.2.2,(v.1,(b.2.2.2.2.2.2.2.2.2.2.2.2.2.2.2.2.2.2.2.2.1,b.2.2.2.2.2.2.2.2.2.2.2.2.2.2.2.2.2.2.2.2.2.1)))))))),u.2.1,u.2.2))) (
 (j1R s.2.1 s.2.2 4).bind λf=>
 let a7:=(Int.ofNat (List.length b.2.2.2.2.1))
 cond (cond f.1 (decide (a7>0)) false) (
 let a8:=(Int.ofNat (List.length b.2.2.2.2.1))
 (j07 f.2.1 f.2.2 a8).bind λp=>
 (j07 p.2.1 p.2.2 2).bind λl=>
 let b1:=(w64 (1+l.1))
 some ((b.2.2.2.2.2.2.2.2.2.2.2.2.2.2.1,(b.2.2.2.2.2.2.2.2.2.2.2.2.2.2.2.1,((b.2.2.2.2.2.2.2.2.2.2.2.2.2.2.2.2.1,b.2.2.2.2.2.2.2.2.2.2.2.2.2.2.2.2.2.1),(b.2.2.2.2.2.2.2.2.2.2.2.2.2.2.2.2.2.2.1,(b.2.2.2.2.2.2.2.2.2.2.2.2.2.2.2.2.2.2.2.1,(b.2.2.2.2.2.2.2.2.2.2.2.2.2.2.2.2.2.2.2.2.2.2,(([]:ag),(p.1,b1)))))))),l.2.1,l.2.2)) (
 some ((b.2.2.2.2.2.2.2.2.2.2.2.2.2.2.1,(b.2.2.2.2.2.2.2.2.2.2.2.2.2.2.2.1,((b.2.2.2.2.2.2.2.2.2.2.2.2.2.2.2.2.1,b.2.2.2.2.2.2.2.2.2.2.2.2.2.2.2.2.2.1),(b.2.2.2.2.2.2.2.2.2.2.2.2.2.2.2.2.2.2.1,(b.2.2.2.2.2.2.2.2.2.2.2.2.2.2.2.2.2.2.2.1,(b.2.2.2.2.2.2.2.2.2.2.2.2.2.2.2.2.2.2.2.2.2.2,(([]:ag),(b.2.2.2.2.2.2.2.2.2.2.2.2.2.2.2.2.2.2.2.2.1,b.2.2.2.2.2.2.2.2.2.2.2.2.2.2.2.2.2.2.2.2.2.1)))))))),f.2.1,f.2.2)))) (
 (j07 r.2.1 r.2.2 3).bind λk=>
 let a6:=(w64 (1+k.1))
 (Dp a6 k.2.1 k.2.2 c.1 c.2.1 c.2.2.1 c.2.2.2 ByteArray.empty 0 0 0 0 0 0 0 j x.1 b4 w.1 t.1 c3 0 0 ([]:(List Int))).bind λa=>
 (j1R a.1 a.2.1 2).bind λd=>
 cond d.1 (
 (j5F d.2.1 d.2.2).bind λi=>
 (j1R i.2.1 i.2.2 4).bind λe=>
 let a9:=(Int.ofNat (List.length a.2.2.2.2.1))
 cond (cond e.1 (decide (a9>0)) false) (
 let b3:=(Int.ofNat (List.length a.2.2.2.2.1))
 (j07 e.2.1 e.2.2 b3).bind λo=>
 (j07 o.2.1 o.2.2 2).bind λm=>
 let b2:=(w64 (1+m.1))
 some ((a.2.2.2.2.2.2.2.2.2.2.2.2.2.2.1,(a.2.2.2.2.2.2.2.2.2.2.2.2.2.2.2.1,((a.2.2.2.2.2.2.2.2.2.2.2.2.2.2.2.2.1,a.2.2.2.2.2.2.2.2.2.2.2.2.2.2.2.2.2.1),(a.2.2.2.2.2.2.2.2.2.2.2.2.2.2.2.2.2.2.1,(a.2.2.2.2.2.2.2.2.2.2.2.2.2.2.2.2.2.2.2.1,(a.2.2.2.2.2.2.2.2.2.2.2.2.2.2.2.2.2.2.2.2.2.2,(i.1,(o.1,b2)))))))),m.2.1,m.2.2)) (
 some ((a.2.2.2.2.2.2.2.2.2.2.2.2.2.2.1,(a.2.2.2.2.2.2.2.2.2.2.2.2.2.2.2.1,((a.2.2.2.2.2.2.2.2.2.2.2.2.2.2.2.2.1,a.2.2.2.2.2.2.2.2.2.2.2.2.2.2.2.2.2.1),(a.2.2.2.2.2.2.2.2.2.2.2.2.2.2.2.2.2.2.1,(a.2.2.2.2.2.2.2.2.2.2.2.2.2.2.2.2.2.2.2.1,(a.2.2.2.2.2.2.2.2.2.2.2.2.2.2.2.2.2.2.2.2.2.2,(i.1,(a.2.2.2.2.2.2.2.2.2.2.2.2.2.2.2.2.2.2.2.2.1,a.2.2.2.2.2.2.2.2.2.2.2.2.2.2.2.2.2.2.2.2.2.1)))))))),e.2.1,e.2.2))) (
 (j1R d.2.1 d.2.2 4).bind λg=>
 let b0:=(Int.ofNat (List.length a.2.2.2.2.1))
 cond (cond g.1 (decide (b0>0)) false) (
 let a5:=(Int.ofNat (List.length a.2.2.2.2.1))
 (j07 g.2.1 g.2.2 a5).bind λq=>
 (j07 q.2.1 q.2.2 2).bind λn=>
 let a4:=(w64 (1+n.1))
 some ((a.2.2.2.2.2.2.2.2.2.2.2.2.2.2.1,(a.2.2.2.2.2.2.2.2.2.2.2.2.2.2.2.1,((a.2.2.2.2.2.2.2.2.2.2.2.2.2.2.2.2.1,a.2.2.2.2.2.2.2.2.2.2.2.2.2.2.2.2.2.1),(a.2.2.2.2.2.2.2.2.2.2.2.2.2.2.2.2.2.2.1,(a.2.2.2.2.2.2.2.2.2.2.2.2.2.2.2.2.2.2.2.1,(a.2.2.2.2.2.2.2.2.2.2.2.2.2.2.2.2.2.2.2.2.2.2,(([]:ag),(q.1,a4)))))))),n.2.1,n.2.2)) (
 some ((a.2.2.2.2.2.2.2.2.2.2.2.2.2.2.1,(a.2.2.2.2.2.2.2.2.2.2.2.2.2.2.2.1,((a.2.2.2.2.2.2.2.2.2.2.2.2.2.2.2.2.1,a.2.2.2.2.2.2.2.2.2.2.2.2.2.2.2.2.2.1),(a.2.2.2.2.2.2.2.2.2.2.2.2.2.2.2.2.2.2.1,(a.2.2.2.2.2.2.2.2.2.2.2.2.2.2.2.2.2.2.2.1,(a.2.2.2.2.2.2.2.2.2.2.2.2.2.2.2.2.2.2.2.2.2.2,(([]:ag),(a.2.2.2.2.2.2.2.2.2.2.2.2.2.2.2.2.2.2.2.2.1,a.2.2.2.2.2.2.2.2.2.2.2.2.2.2.2.2.2.2.2.2.2.1)))))))),g.2.1,g.2.2))))
def j6V(d:(List Int))(c:Int):Option (Int×(List Int)×Int):=
 (j07 d c 576).bind λe=>
 let j:=(w64 (3600*e.1))
 let i:=(w64 (1767139200+j))
 (j1R e.2.1 e.2.2 3).bind λa=>
 cond a.1 (
 let f:(List Int):=[(-1),1,1800,3599]
 (j27 a.2.1 a.2.2 f).bind λb=>
 let g:=(w64 (i+b.1))
 some (g,b.2.1,b.2.2)) (
 some (i,a.2.1,a.2.2))
def jbf(m:(List Int))(k:Int)(n:dY):Option (nT×(List Int)×Int):=
 let l:=(Int.ofNat (List.length n.2.1))
 (j07 m k 3).bind λa=>
 (j07 a.2.1 a.2.2 l).bind λe=>
 (j6V e.2.1 e.2.2).bind λb=>
 let r:(List Int):=[3600,86400,7,259200,40000]
 (j27 b.2.1 b.2.2 r).bind λc=>
 let f:=(w64 (b.1+c.1))
 cond (a.1==2) (
 cond (decide (l<2)) (
 some ((0,(e.1,(0,(b.1,f)))),c.2.1,c.2.2)) (
 let q:=(w64 (e.1+1))
 let o:=(w64 (l-1))
 (j07 c.2.1 c.2.2 o).bind λg=>
 let p:=(w64 (q+g.1))
 cond (!(l==0)) (
 let j:=(Int.tmod p l)
 cond (a.1==1) (
 (j1R g.2.1 g.2.2 4).bind λi=>
 cond i.1 (
 some ((a.1,((-1),(j,(b.1,f)))),i.2.1,i.2.2)) (
 some ((a.1,(e.1,(j,(b.1,f)))),i.2.1,i.2.2))) (
 some ((a.1,(e.1,(j,(b.1,f)))),g.2.1,g.2.2))) none)) (
 cond (a.1==1) (
 (j1R c.2.1 c.2.2 4).bind λd=>
 cond d.1 (
 some ((a.1,((-1),(0,(b.1,f)))),d.2.1,d.2.2)) (
 some ((a.1,(e.1,(0,(b.1,f)))),d.2.1,d.2.2))) (
 some ((a.1,(e.1,(0,(b.1,f)))),c.2.1,c.2.2)))
def j3Q[LP](p q:Int)(o:(List Int))(j:Int)(n:ax)(d:az)(e:aA)(r:ByteArray)(c:aC)(b:bc):Option ((Int×Int×(List Int)×Int×ax×az×aA×ByteArray×aC×bc) ⊕ ((Int×(List Int)×Int×ax×az×aA×ByteArray×aC×bc))):=
 cond (decide (q>0)) (
 (jh3).bind λi=>
 let g:=(Int.ofNat (List.length b))
 cond (inR g (List.length i)) (
 let m:=(List.getD i (Int.toNat g) ByteArray.empty)
 (ja8 o j (n,(d,(e,c))) m).bind λa=>
 let f:bc:=[(a.1.1,(a.1.2.1,((a.1.2.2.1.1,a.1.2.2.1.2),(a.1.2.2.2.1,(a.1.2.2.2.2.1,(a.1.2.2.2.2.2.1,(a.1.2.2.2.2.2.2.1,(a.1.2.2.2.2.2.2.2.1,a.1.2.2.2.2.2.2.2.2))))))))]
 cond (decide (List.length b+List.length f<=aS)) (
 let l:bc:=(b++f)
 let k:=(w64 (q-1))
 some (.inl (p,k,a.2.1,a.2.2,n,d,e,r,c,l))) none) none) (
 some (.inr (p,o,j,n,d,e,r,c,b)))
def Dq[LP](i j:Int)(g:(List Int))(b:Int)(f:ax)(c:az)(d:aA)(k:ByteArray)(a:aC)(e:bc):Option ((Int×(List Int)×Int×ax×az×aA×ByteArray×aC×bc)):=
 LP.lp (jtv (j3Q)) (i,j,g,b,f,c,d,k,a,e)
theorem S9(i j g b f c d k a e):Dq i j g b f c d k a e=lpK (j3Q i j g b f c d k a e) (λh=>Dq h.1 h.2.1 h.2.2.1 h.2.2.2.1 h.2.2.2.2.1 h.2.2.2.2.2.1 h.2.2.2.2.2.2.1 h.2.2.2.2.2.2.2.1 h.2.2.2.2.2.2.2.2.1 h.2.2.2.2.2.2.2.2.2):=bm _ _
def j3R(n o:Int)(m:(List Int))(g:Int)(l:ax)(c:az)(d:aA)(p:ByteArray)(b:aC)(i:bc)(e:ae):Option ((Int×Int×(List Int)×Int×ax×az×aA×ByteArray×aC×bc×ae) ⊕ ((Int×(List Int)×Int×ax×az×aA×ByteArray×aC×bc×ae))):=
 cond (decide (o>0)) (
 (jbf m g (l,(c,(d,b)))).bind λa=>
 let f:ae:=[(a.1.1,(a.1.2.1,(a.1.2.2.1,(a.1.2.2.2.1,a.1.2.2.2.2))))]
 cond (decide (List.length e+List.length f<=aS)) (
 let k:ae:=(e++f)
 let j:=(w64 (o-1))
 some (.inl (n,j,a.2.1,a.2.2,l,c,d,p,b,i,k))) none) (
 some (.inr (n,m,g,l,c,d,p,b,i,e)))
def F9[LP](j k:Int)(i:(List Int))(b:Int)(g:ax)(c:az)(d:aA)(l:ByteArray)(a:aC)(e:bc)(f:ae):Option ((Int×(List Int)×Int×ax×az×aA×ByteArray×aC×bc×ae)):=
 LP.lp (jtw (j3R)) (j,k,i,b,g,c,d,l,a,e,f)
theorem Ta(j k i b g c d l a e f):F9 j k i b g c d l a e f=lpK (j3R j k i b g c d l a e f) (λh=>F9 h.1 h.2.1 h.2.2.1 h.2.2.2.1 h.2.2.2.2.1 h.2.2.2.2.2.1 h.2.2.2.2.2.2.1 h.2.2.2.2.2.2.2.1 h.2.2.2.2.2.2.2.2.1 h.2.2.2.2.2.2.2.2.2.1 h.2.2.2.2.2.2.2.2.2.2):=bm _ _
def j3S[LP](s:Int)(r:(List Int))(k:Int)(q:ax)(j:az)(l:aA)(e:aC):Option ((Int×(List Int)×Int×ax×az×aA×aC) ⊕ (((List Int)×Int×ax×az×aA×aC))):=
 cond (decide (s>0)) (
 let f:(List ByteArray):=[(ByteArray.mk #[102,105,114,115,116]),(ByteArray.mk #[115,101,99,111,110,100]),(ByteArray.mk #[116,104,105,114,100])]
 let m:=(Int.ofNat (List.length e))
 let g:=(Int.tmod m 3)
 cond (inR g (List.length f)) (
 let p:=(List.getD f (Int.toNat g) ByteArray.empty)
 (j07 r k 4).bind λc=>
 (Dq s c.1 c.2.1 c.2.2 q j l p e ([]:bc)).bind λb=>
 (j07 b.2.1 b.2.2.1 4).bind λd=>
 (F9 b.1 d.1 d.2.1 d.2.2 b.2.2.2.1 b.2.2.2.2.1 b.2.2.2.2.2.1 b.2.2.2.2.2.2.1 b.2.2.2.2.2.2.2.1 b.2.2.2.2.2.2.2.2 ([]:ae)).bind λa=>
 let i:aC:=[(a.2.2.2.2.2.2.1,(a.2.2.2.2.2.2.2.2.1,a.2.2.2.2.2.2.2.2.2))]
 cond (decide (List.length a.2.2.2.2.2.2.2.1+List.length i<=aS)) (
 let o:aC:=(a.2.2.2.2.2.2.2.1++i)
 let n:=(w64 (a.1-1))
 some (.inl (n,a.2.1,a.2.2.1,a.2.2.2.1,a.2.2.2.2.1,a.2.2.2.2.2.1,o))) none) none) (
 some (.inr (r,k,q,j,l,e)))
def Ga[LP](g:Int)(f:(List Int))(c:Int)(e:ax)(b:az)(d:aA)(a:aC):Option (((List Int)×Int×ax×az×aA×aC)):=
 LP.lp (unc7 (j3S)) (g,f,c,e,b,d,a)
theorem Tb(g f c e b d a):Ga g f c e b d a=lpK (j3S g f c e b d a) (λh=>Ga h.1 h.2.1 h.2.2.1 h.2.2.2.1 h.2.2.2.2.1 h.2.2.2.2.2.1 h.2.2.2.2.2.2):=bm _ _
def j9s[LP](f:(List Int))(d e:Int):Option (dY×(List Int)×Int):=
 (ja7 f d).bind λa=>
 (j07 a.2.1 a.2.2 e).bind λc=>
 let g:=(w64 (1+c.1))
 (Ga g c.2.1 c.2.2 a.1.1 a.1.2.1 a.1.2.2.1 ([]:aC)).bind λb=>
 some ((b.2.2.1,(b.2.2.2.1,(b.2.2.2.2.1,b.2.2.2.2.2))),b.1,b.2.1)
def j6g(d i:ag)(j b:Int):Option ((ag×ag×Int×Int) ⊕ (Bool ⊕ Unit)):=
 cond (decide (b<j)) (
 cond (inR b (List.length i)) (
 let a:=(List.getD i (Int.toNat b) (0,0))
 cond (decide (a.1<0)) (
 some (.inr (.inl false))) (
 cond (decide (a.1>=a.2)) (
 some (.inr (.inl false))) (
 cond (decide (a.2>8589934592)) (
 some (.inr (.inl false))) (
 cond (decide (b>0)) (
 let c:=(w64 (b-1))
 cond (inR c (List.length d)) (
 let e:=(List.getD d (Int.toNat c) (0,0))
 cond (decide (a.1<=e.2)) (
 some (.inr (.inl false))) (
 let g:=(w64 (b+1))
 some (.inl (d,i,j,g)))) none) (
 let f:=(w64 (b+1))
 some (.inl (d,i,j,f))))))) none) (
 some (.inr (.inr ())))
def Dr[LP](b c:ag)(d a:Int):Option (Bool ⊕ Unit):=
 LP.lp (unc4 (j6g)) (b,c,d,a)
theorem Tc(b d c a):Dr b d c a=lpK (j6g b d c a) (λh=>Dr h.1 h.2.1 h.2.2.1 h.2.2.2):=bm _ _
def jh4[LP](a:ag):Option (Bool):=
 let b:=(Int.ofNat (List.length a))
 cond (decide (b>4096)) (
 some false) (
 let d:=(Int.ofNat (List.length a))
 (Dr a a d 0).bind λc=>
 sumC c (λe=>
 some e) (λf=>
 some true))
def j3x[LP](b:ag)(a:Int):Option (Int):=
 (jh4 b).bind λf=>
 cond (!f) (
 some 0) (
 let c:Int:=(if (-1)>a then (-1) else a:Int)
 let d:Int:=(if 17179869184<c then 17179869184 else c:Int)
 (j5l b d).bind λe=>
 some e)
def jl1(b a:Int):Option (Int):=
 cond (!(a==0)) (
 let d:=(Int.tmod b a)
 let e:=(w64 (d+a))
 cond (!(a==0)) (
 let c:=(Int.tmod e a)
 some c) none) none
def j3s[LP](o q p r c e f b:Int)(a:af)(d:ag):Option ((Int×Int×Int×Int×Int×Int×Int×Int×af×ag) ⊕ (Bool ⊕ (Int×Int×Int×Int×Int×ag))):=
 cond (decide (b<f)) (
 cond (inR b (List.length a)) (
 let c4:=(List.getD a (Int.toNat b) (0,(0,0))).2.1
 cond (c4 != q) (
 some (.inr (.inl false))) (
 cond (decide (b>0)) (
 cond (inR b (List.length a)) (
 let c6:=(List.getD a (Int.toNat b) (0,(0,0))).2.2
 let s:=(w64 (b-1))
 cond (inR s (List.length a)) (
 let c7:=(List.getD a (Int.toNat s) (0,(0,0))).2.2
 cond (decide (c6<c7)) (
 some (.inr (.inl false))) (
 cond (inR b (List.length a)) (
 let c5:=(List.getD a (Int.toNat b) (0,(0,0))).2.2
 let t:=(w64 (b-1))
 cond (inR t (List.length a)) (
 let b8:=(List.getD a (Int.toNat t) (0,(0,0))).2.2
 cond (c5==b8) (
 cond (inR b (List.length a)) (
 let c3:=(List.getD a (Int.toNat b) (0,(0,0))).1
 let k:=(w64 (b-1))
 cond (inR k (List.length a)) (
 let b2:=(List.getD a (Int.toNat k) (0,(0,0))).1
 cond (decide (c3<=b2)) (
 some (.inr (.inl false))) (
 cond (inR b (List.length a)) (
 let a2:=(List.getD a (Int.toNat b) (0,(0,0))).1
 cond (a2==0) (
 let b4:=(w64 (e+1))
 cond ((inR b (List.length a)) || !(!(c==0))) (
 let b9:=(List.getD a (Int.toNat b) (0,(0,0))).2.2
 cond (c==0) (
 let d1:=(w64 (c+1))
 cond ((inR b (List.length a)) || !(!true)) (
 let a0:=(List.getD a (Int.toNat b) (0,(0,0))).2.2
 let d0:=(w64 (a0-1))
 some (.inr (.inl false))) none) (
 (j3x d b9).bind λm=>
 let i:=(w64 (c+1))
 cond ((inR b (List.length a)) || !(!(m != i))) (
 let z:=(List.getD a (Int.toNat b) (0,(0,0))).2.2
 let a9:=(w64 (z-1))
 cond (m != i) (
 some (.inr (.inl false))) (
 (j3x d a9).bind λb1=>
 cond (b1 != c) (
 some (.inr (.inl false))) (
 let a8:=(w64 (b+1))
 some (.inl (o,q,p,r,c,b4,f,a8,a,d))))) none)) none) (
 let b7:=(w64 (b+1))
 some (.inl (o,q,p,r,c,e,f,b7,a,d)))) none)) none) none) (
 cond (inR b (List.length a)) (
 let a5:=(List.getD a (Int.toNat b) (0,(0,0))).1
 cond (a5==0) (
 let b3:=(w64 (e+1))
 cond ((inR b (List.length a)) || !(!(c==0))) (
 let a6:=(List.getD a (Int.toNat b) (0,(0,0))).2.2
 cond (c==0) (
 let d3:=(w64 (c+1))
 cond ((inR b (List.length a)) || !(!true)) (
 let b0:=(List.getD a (Int.toNat b) (0,(0,0))).2.2
 let d2:=(w64 (b0-1))
 some (.inr (.inl false))) none) (
 (j3x d a6).bind λl=>
 let j:=(w64 (c+1))
 cond ((inR b (List.length a)) || !(!(l != j))) (
 let a3:=(List.getD a (Int.toNat b) (0,(0,0))).2.2
 let b5:=(w64 (a3-1))
 cond (l != j) (
 some (.inr (.inl false))) (
 (j3x d b5).bind λa4=>
 cond (a4 != c) (
 some (.inr (.inl false))) (
 let b6:=(w64 (b+1))
 some (.inl (o,q,p,r,c,b3,f,b6,a,d))))) none)) none) (
 let a1:=(w64 (b+1))
 some (.inl (o,q,p,r,c,e,f,a1,a,d)))) none)) none) none)) none) none) (
 cond (inR b (List.length a)) (
 let a7:=(List.getD a (Int.toNat b) (0,(0,0))).1
 cond (a7==0) (
 let c0:=(w64 (e+1))
 cond ((inR b (List.length a)) || !(!(c==0))) (
 let c1:=(List.getD a (Int.toNat b) (0,(0,0))).2.2
 cond (c==0) (
 let c9:=(w64 (c+1))
 cond ((inR b (List.length a)) || !(!true)) (
 let x:=(List.getD a (Int.toNat b) (0,(0,0))).2.2
 let c8:=(w64 (x-1))
 some (.inr (.inl false))) none) (
 (j3x d c1).bind λn=>
 let g:=(w64 (c+1))
 cond ((inR b (List.length a)) || !(!(n != g))) (
 let v:=(List.getD a (Int.toNat b) (0,(0,0))).2.2
 let w:=(w64 (v-1))
 cond (n != g) (
 some (.inr (.inl false))) (
 (j3x d w).bind λc2=>
 cond (c2 != c) (
 some (.inr (.inl false))) (
 let u:=(w64 (b+1))
 some (.inl (o,q,p,r,c,c0,f,u,a,d))))) none)) none) (
 let y:=(w64 (b+1))
 some (.inl (o,q,p,r,c,e,f,y,a,d)))) none))) none) (
 some (.inr (.inr (o,p,r,c,e,d))))
def Ds[LP](j g k i e d a c:Int)(b:af)(f:ag):Option (Bool ⊕ (Int×Int×Int×Int×Int×ag)):=
 LP.lp (jtv (j3s)) (j,g,k,i,e,d,a,c,b,f)
theorem Td(j g k i e d a c b f):Ds j g k i e d a c b f=lpK (j3s j g k i e d a c b f) (λh=>Ds h.1 h.2.1 h.2.2.1 h.2.2.2.1 h.2.2.2.2.1 h.2.2.2.2.2.1 h.2.2.2.2.2.2.1 h.2.2.2.2.2.2.2.1 h.2.2.2.2.2.2.2.2.1 h.2.2.2.2.2.2.2.2.2):=bm _ _
def jb2[LP](g:(List Int))(r:Int):Option (Bool):=
 (jjK g).bind λw=>
 cond (!w) (
 (j9P).bind λv=>
 some v) (
 (jlR g).bind λl=>
 (j9s l.1 l.2 2).bind λa=>
 let y:=(Int.ofNat (List.length a.1.2.1))
 (j07 a.2.1 a.2.2 y).bind λb=>
 (j6V b.2.1 b.2.2).bind λd=>
 let j:=(w64 (d.1+1036800))
 (j2l (a.1.1,(a.1.2.1,(a.1.2.2.1,a.1.2.2.2))) b.1 d.1 j).bind λf=>
 (j4D (a.1.1,(a.1.2.1,(a.1.2.2.1,a.1.2.2.2))) b.1 d.1 j).bind λm=>
 cond (cond (f.2 != 0) true (m.2 != 0)) (
 some false) (
 cond (inR b.1 (List.length a.1.2.1)) (
 let x:=(List.getD a.1.2.1 (Int.toNat b.1) (ByteArray.empty,(0,(([]:ag),(0,(0,false))))))
 let u:=(Int.ofNat (List.length f.1))
 (Ds r b.1 d.1 j x.2.2.2.1 0 u 0 f.1 m.1).bind λz=>
 sumC z (λa0=>
 some a0) (λk=>
 let o:=(w64 (k.2.1+1))
 let s:=(w64 (k.2.2.1-k.2.1))
 (jl1 k.1 s).bind λq=>
 let c:=(w64 (o+q))
 cond (k.2.2.2.1==0) (
 (j3x k.2.2.2.2.2 c).bind λn=>
 cond (decide (n<=604800)) (
 (j9P).bind λp=>
 some p) (
 some false)) (
 (j3x k.2.2.2.2.2 c).bind λt=>
 cond (cond (decide (t<=k.2.2.2.1)) true (decide (k.2.2.2.2.1>0))) (
 (j3x k.2.2.2.2.2 c).bind λe=>
 cond (decide (e<=604800)) (
 (j9P).bind λi=>
 some i) (
 some false)) (
 some false)))) none))
end
end Go.Proofs.Pw
