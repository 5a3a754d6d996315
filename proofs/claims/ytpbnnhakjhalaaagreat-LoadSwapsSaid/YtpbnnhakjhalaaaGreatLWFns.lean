/- Plain nO, printed by a program out of the given code. -/
import Derived.Test.YtpbnnhakjhalaaaGreatLWLS
open Go Go.Lft
set_option linter.unusedVariables false
namespace Go.Proofs.Pw
noncomputable section
abbrev af:Type:=(List (Int×Int))
abbrev nP:Type:=(Int×(List Int))
abbrev rk:Type:=(Int×(Int×Int))
abbrev BI:Type:=((Int×Int)×Int)
abbrev ae:Type:=(List rk)
abbrev dQ:Type:=(List BI)
abbrev eU:Type:=(Int×af)
abbrev p7:Type:=(ByteArray×nP)
abbrev cD:Type:=(List eU)
abbrev dW:Type:=(List (Int×rk))
abbrev mH:Type:=(Int×(Int×rk))
abbrev aq:Type:=(List p7)
abbrev aS:Type:=(List mH)
abbrev sF:Type:=(Int×(Int×mH))
abbrev ba:Type:=(List sF)
abbrev BJ:Type:=(ByteArray×(Int×(af×(Int×(Int×Bool)))))
abbrev ak:Type:=(List BJ)
abbrev hQ:Type:=(ByteArray×(Int×ba))
abbrev ai:Type:=(List hQ)
abbrev h9:Type:=(ByteArray×(Int×((Int×Int)×(Int×(Int×((List Int)×(af×(Int×Int))))))))
abbrev aV:Type:=(List h9)
abbrev lj:Type:=(ByteArray×(aV×aS))
abbrev aw:Type:=(List lj)
abbrev cL:Type:=(ai×(ak×(aq×aw)))
abbrev lu:Type:=(cL×cD)
abbrev unc2{A0 A1 R:Type}(f:A0->A1->R)(h:A0×A1):R:=f h.1 h.2
abbrev unc3{A0 A1 A2 R:Type}(f:A0->A1->A2->R)(h:A0×A1×A2):R:=f h.1 h.2.1 h.2.2
abbrev unc4{A0 A1 A2 A3 R:Type}(f:A0->A1->A2->A3->R)(h:A0×A1×A2×A3):R:=f h.1 h.2.1 h.2.2.1 h.2.2.2
abbrev unc5{A0 A1 A2 A3 A4 R:Type}(f:A0->A1->A2->A3->A4->R)(h:A0×A1×A2×A3×A4):R:=f h.1 h.2.1 h.2.2.1 h.2.2.2.1 h.2.2.2.2
abbrev unc6{A0 A1 A2 A3 A4 A5 R:Type}(f:A0->A1->A2->A3->A4->A5->R)(h:A0×A1×A2×A3×A4×A5):R:=f h.1 h.2.1 h.2.2.1 h.2.2.2.1 h.2.2.2.2.1 h.2.2.2.2.2
abbrev unc7{A0 A1 A2 A3 A4 A5 A6 R:Type}(f:A0->A1->A2->A3->A4->A5->A6->R)(h:A0×A1×A2×A3×A4×A5×A6):R:=f h.1 h.2.1 h.2.2.1 h.2.2.2.1 h.2.2.2.2.1 h.2.2.2.2.2.1 h.2.2.2.2.2.2
abbrev unc8{A0 A1 A2 A3 A4 A5 A6 A7 R:Type}(f:A0->A1->A2->A3->A4->A5->A6->A7->R)(h:A0×A1×A2×A3×A4×A5×A6×A7):R:=f h.1 h.2.1 h.2.2.1 h.2.2.2.1 h.2.2.2.2.1 h.2.2.2.2.2.1 h.2.2.2.2.2.2.1 h.2.2.2.2.2.2.2
abbrev unc9{A0 A1 A2 A3 A4 A5 A6 A7 A8 R:Type}(f:A0->A1->A2->A3->A4->A5->A6->A7->A8->R)(h:A0×A1×A2×A3×A4×A5×A6×A7×A8):R:=f h.1 h.2.1 h.2.2.1 h.2.2.2.1 h.2.2.2.2.1 h.2.2.2.2.2.1 h.2.2.2.2.2.2.1 h.2.2.2.2.2.2.2.1 h.2.2.2.2.2.2.2.2
abbrev jkk{A0 A1 A2 A3 A4 A5 A6 A7 A8 A9 R:Type}(f:A0->A1->A2->A3->A4->A5->A6->A7->A8->A9->R)(h:A0×A1×A2×A3×A4×A5×A6×A7×A8×A9):R:=f h.1 h.2.1 h.2.2.1 h.2.2.2.1 h.2.2.2.2.1 h.2.2.2.2.2.1 h.2.2.2.2.2.2.1 h.2.2.2.2.2.2.2.1 h.2.2.2.2.2.2.2.2.1 h.2.2.2.2.2.2.2.2.2
abbrev jrO{A0 A1 A2 A3 A4 A5 A6 A7 A8 A9 ia R:Type}(f:A0->A1->A2->A3->A4->A5->A6->A7->A8->A9->ia->R)(h:A0×A1×A2×A3×A4×A5×A6×A7×A8×A9×ia):R:=f h.1 h.2.1 h.2.2.1 h.2.2.2.1 h.2.2.2.2.1 h.2.2.2.2.2.1 h.2.2.2.2.2.2.1 h.2.2.2.2.2.2.2.1 h.2.2.2.2.2.2.2.2.1 h.2.2.2.2.2.2.2.2.2.1 h.2.2.2.2.2.2.2.2.2.2
abbrev jvz{A0 A1 A2 A3 A4 A5 A6 A7 A8 A9 ia iZ R:Type}(f:A0->A1->A2->A3->A4->A5->A6->A7->A8->A9->ia->iZ->R)(h:A0×A1×A2×A3×A4×A5×A6×A7×A8×A9×ia×iZ):R:=f h.1 h.2.1 h.2.2.1 h.2.2.2.1 h.2.2.2.2.1 h.2.2.2.2.2.1 h.2.2.2.2.2.2.1 h.2.2.2.2.2.2.2.1 h.2.2.2.2.2.2.2.2.1 h.2.2.2.2.2.2.2.2.2.1 h.2.2.2.2.2.2.2.2.2.2.1 h.2.2.2.2.2.2.2.2.2.2.2
abbrev jvA{A0 A1 A2 A3 A4 A5 A6 A7 A8 A9 ia iZ lv R:Type}(f:A0->A1->A2->A3->A4->A5->A6->A7->A8->A9->ia->iZ->lv->R)(h:A0×A1×A2×A3×A4×A5×A6×A7×A8×A9×ia×iZ×lv):R:=f h.1 h.2.1 h.2.2.1 h.2.2.2.1 h.2.2.2.2.1 h.2.2.2.2.2.1 h.2.2.2.2.2.2.1 h.2.2.2.2.2.2.2.1 h.2.2.2.2.2.2.2.2.1 h.2.2.2.2.2.2.2.2.2.1 h.2.2.2.2.2.2.2.2.2.2.1 h.2.2.2.2.2.2.2.2.2.2.2.1 h.2.2.2.2.2.2.2.2.2.2.2.2
abbrev jkl{A0 A1 A2 A3 A4 A5 A6 A7 A8 A9 ia iZ lv ng R:Type}(f:A0->A1->A2->A3->A4->A5->A6->A7->A8->A9->ia->iZ->lv->ng->R)(h:A0×A1×A2×A3×A4×A5×A6×A7×A8×A9×ia×iZ×lv×ng):R:=f h.1 h.2.1 h.2.2.1 h.2.2.2.1 h.2.2.2.2.1 h.2.2.2.2.2.1 h.2.2.2.2.2.2.1 h.2.2.2.2.2.2.2.1 h.2.2.2.2.2.2.2.2.1 h.2.2.2.2.2.2.2.2.2.1 h.2.2.2.2.2.2.2.2.2.2.1 h.2.2.2.2.2.2.2.2.2.2.2.1 h.2.2.2.2.2.2.2.2.2.2.2.2.1 h.2.2.2.2.2.2.2.2.2.2.2.2.2
abbrev jyn{A0 A1 A2 A3 A4 A5 A6 A7 A8 A9 ia iZ lv ng p8 R:Type}(f:A0->A1->A2->A3->A4->A5->A6->A7->A8->A9->ia->iZ->lv->ng->p8->R)(h:A0×A1×A2×A3×A4×A5×A6×A7×A8×A9×ia×iZ×lv×ng×p8):R:=f h.1 h.2.1 h.2.2.1 h.2.2.2.1 h.2.2.2.2.1 h.2.2.2.2.2.1 h.2.2.2.2.2.2.1 h.2.2.2.2.2.2.2.1 h.2.2.2.2.2.2.2.2.1 h.2.2.2.2.2.2.2.2.2.1 h.2.2.2.2.2.2.2.2.2.2.1 h.2.2.2.2.2.2.2.2.2.2.2.1 h.2.2.2.2.2.2.2.2.2.2.2.2.1 h.2.2.2.2.2.2.2.2.2.2.2.2.2.1 h.2.2.2.2.2.2.2.2.2.2.2.2.2.2
abbrev jyo{A0 A1 A2 A3 A4 A5 A6 A7 A8 A9 ia iZ lv ng p8 uv uw uy uz uA R:Type}(f:A0->A1->A2->A3->A4->A5->A6->A7->A8->A9->ia->iZ->lv->ng->p8->uv->uw->uy->uz->uA->R)(h:A0×A1×A2×A3×A4×A5×A6×A7×A8×A9×ia×iZ×lv×ng×p8×uv×uw×uy×uz×uA):R:=f h.1 h.2.1 h.2.2.1 h.2.2.2.1 h.2.2.2.2.1 h.2.2.2.2.2.1 h.2.2.2.2.2.2.1 h.2.2.2.2.2.2.2.1 h.2.2.2.2.2.2.2.2.1 h.2.2.2.2.2.2.2.2.2.1 h.2.2.2.2.2.2.2.2.2.2.1 h.2.2.2.2.2.2.2.2.2.2.2.1 h.2.2.2.2.2.2.2.2.2.2.2.2.1 h.2.2.2.2.2.2.2.2.2.2.2.2.2.1 h.2.2.2.2.2.2.2.2.2.2.2.2.2.2.1 h.2.2.2.2.2.2.2.2.2.2.2.2.2.2.2.1 h.2.2.2.2.2.2.2.2.2.2.2.2.2.2.2.2.1 h.2.2.2.2.2.2.2.2.2.2.2.2.2.2.2.2.2.1 h.2.2.2.2.2.2.2.2.2.2.2.2.2.2.2.2.2.2.1 h.2.2.2.2.2.2.2.2.2.2.2.2.2.2.2.2.2.2.2
abbrev jyp{A0 A1 A2 A3 A4 A5 A6 A7 A8 A9 ia iZ lv ng p8 uv uw uy uz uA BK BL R:Type}(f:A0->A1->A2->A3->A4->A5->A6->A7->A8->A9->ia->iZ->lv->ng->p8->uv->uw->uy->uz->uA->BK->BL->R)(h:A0×A1×A2×A3×A4×A5×A6×A7×A8×A9×ia×iZ×lv×ng×p8×uv×uw×uy×uz×uA×BK×BL):R:=f h.1 h.2.1 h.2.2.1 h.2.2.2.1 h.2.2.2.2.1 h.2.2.2.2.2.1 h.2.2.2.2.2.2.1 h.2.2.2.2.2.2.2.1 h.2.2.2.2.2.2.2.2.1 h.2.2.2.2.2.2.2.2.2.1 h.2.2.2.2.2.2.2.2.2.2.1 h.2.2.2.2.2.2.2.2.2.2.2.1 h.2.2.2.2.2.2.2.2.2.2.2.2.1 h.2.2.2.2.2.2.2.2.2.2.2.2.2.1 h.2.2.2.2.2.2.2.2.2.2.2.2.2.2.1 h.2.2.2.2.2.2.2.2.2.2.2.2.2.2.2.1 h.2.2.2.2.2.2.2.2.2.2.2.2.2.2.2.2.1 h.2.2.2.2.2.2.2.2.2.2.2.2.2.2.2.2.2.1 h.2.2.2.2.2.2.2.2.2.2.2.2.2.2.2.2.2.2.1 h.2.2.2.2.2.2.2.2.2.2.2.2.2.2.2.2.2.2.2.1 h.2.2.2.2.2.2.2.2.2.2.2.2.2.2.2.2.2.2.2.2.1 h.2.2.2.2.2.2.2.2.2.2.2.2.2.2.2.2.2.2.2.2.2
abbrev jyq{A0 A1 A2 A3 A4 A5 A6 A7 A8 A9 ia iZ lv ng p8 uv uw uy uz uA BK BL Rx Ry R:Type}(f:A0->A1->A2->A3->A4->A5->A6->A7->A8->A9->ia->iZ->lv->ng->p8->uv->uw->uy->uz->uA->BK->BL->Rx->Ry->R)(h:A0×A1×A2×A3×A4×A5×A6×A7×A8×A9×ia×iZ×lv×ng×p8×uv×uw×uy×uz×uA×BK×BL×Rx×Ry):R:=f h.1 h.2.1 h.2.2.1 h.2.2.2.1 h.2.2.2.2.1 h.2.2.2.2.2.1 h.2.2.2.2.2.2.1 h.2.2.2.2.2.2.2.1 h.2.2.2.2.2.2.2.2.1 h.2.2.2.2.2.2.2.2.2.1 h.2.2.2.2.2.2.2.2.2.2.1 h.2.2.2.2.2.2.2.2.2.2.2.1 h.2.2.2.2.2.2.2.2.2.2.2.2.1 h.2.2.2.2.2.2.2.2.2.2.2.2.2.1 h.2.2.2.2.2.2.2.2.2.2.2.2.2.2.1 h.2.2.2.2.2.2.2.2.2.2.2.2.2.2.2.1 h.2.2.2.2.2.2.2.2.2.2.2.2.2.2.2.2.1 h.2.2.2.2.2.2.2.2.2.2.2.2.2.2.2.2.2.1 h.2.2.2.2.2.2.2.2.2.2.2.2.2.2.2.2.2.2.1 h.2.2.2.2.2.2.2.2.2.2.2.2.2.2.2.2.2.2.2.1 h.2.2.2.2.2.2.2.2.2.2.2.2.2.2.2.2.2.2.2.2.1 h.2.2.2.2.2.2.2.2.2.2.2.2.2.2.2.2.2.2.2.2.2.1 h.2.2.2.2.2.2.2.2.2.2.2.2.2.2.2.2.2.2.2.2.2.2.1 h.2.2.2.2.2.2.2.2.2.2.2.2.2.2.2.2.2.2.2.2.2.2.2
def jhq(a:(List Int)):Option (Bool):=
 let b:=(Int.ofNat (List.length a))
 some (decide (b<=500))
def jbl(d k:ae)(l b:Int):Option ((ae×ae×Int×Int) ⊕ (Bool ⊕ Unit)):=
 cond (decide (b<l)) (
 cond (inR b (List.length k)) (
 let a:=(List.getD k (Int.toNat b) (0,(0,0)))
 cond (decide (a.1<0)) (
 some (.inr (.inl false))) (
 cond (decide (a.1>=32)) (
 some (.inr (.inl false))) (
 cond (decide (b>0)) (
 let c:=(w64 (b-1))
 cond (inR c (List.length d)) (
 let f:=(List.getD d (Int.toNat c) (0,(0,0)))
 cond (decide (a.1<=f.1)) (
 some (.inr (.inl false))) (
 cond (decide (a.2.1<0)) (
 some (.inr (.inl false))) (
 cond (decide (a.2.1>8589934592)) (
 some (.inr (.inl false))) (
 cond (decide (a.2.2<a.2.1)) (
 some (.inr (.inl false))) (
 let i:=(w64 (8*a.2.1))
 cond (decide (a.2.2>i)) (
 some (.inr (.inl false))) (
 let j:=(w64 (b+1))
 some (.inl (d,k,l,j)))))))) none) (
 cond (decide (a.2.1<0)) (
 some (.inr (.inl false))) (
 cond (decide (a.2.1>8589934592)) (
 some (.inr (.inl false))) (
 cond (decide (a.2.2<a.2.1)) (
 some (.inr (.inl false))) (
 let g:=(w64 (8*a.2.1))
 cond (decide (a.2.2>g)) (
 some (.inr (.inl false))) (
 let e:=(w64 (b+1))
 some (.inl (d,k,l,e)))))))))) none) (
 some (.inr (.inr ())))
def JT[LP](b c:ae)(d a:Int):Option (Bool ⊕ Unit):=
 LP.lp (unc4 (jbl)) (b,c,d,a)
def j7G[LP](a:ae):Option (Bool):=
 let d:=(Int.ofNat (List.length a))
 cond (decide (d>32)) (
 some false) (
 let c:=(Int.ofNat (List.length a))
 (JT a a c 0).bind λb=>
 sumC b (λe=>
 some e) (λf=>
 some true))
def j90(e:Int)(d:ae)(f b:Int):Option ((Int×ae×Int×Int) ⊕ (Int ⊕ Unit)):=
 cond (decide (b<f)) (
 cond (inR b (List.length d)) (
 let a:=(List.getD d (Int.toNat b) (0,(0,0)))
 cond (a.1==e) (
 some (.inr (.inl a.2.2))) (
 let c:=(w64 (b+1))
 some (.inl (e,d,f,c)))) none) (
 some (.inr (.inr ())))
def JU[LP](d:Int)(c:ae)(b a:Int):Option (Int ⊕ Unit):=
 LP.lp (unc4 (j90)) (d,c,b,a)
def j1O[LP](b:ae)(a:Int):Option (Int):=
 let d:=(Int.ofNat (List.length b))
 (JU a b d 0).bind λc=>
 sumC c (λe=>
 some e) (λf=>
 some 0)
def jdv(c:ae)(l b m d e n g f:Int):Option ((ae×Int×Int×Int×Int×Int×Int×Int×Int) ⊕ ((Int×Int×Int×Int×Int×Int))):=
 cond (decide (b<l)) (
 cond (inR b (List.length c)) (
 let a:=(List.getD c (Int.toNat b) (0,(0,0)))
 let j:=(w64 (g+a.2.1))
 let i:=(w64 (f+a.2.2))
 let k:=(w64 (b+1))
 some (.inl (c,l,k,m,d,e,n,j,i))) none) (
 some (.inr (m,d,e,n,g,f)))
def JV[LP](e:ae)(f g i a b j d c:Int):Option ((Int×Int×Int×Int×Int×Int)):=
 LP.lp (unc9 (jdv)) (e,f,g,i,a,b,j,d,c)
def jeK[LP](a:ae):Option (rk):=
 (j7G a).bind λd=>
 cond (!d) (
 some ((-1),(0,0))) (
 let c:=(Int.ofNat (List.length a))
 (JV a c 0 0 0 0 (-1) 0 0).bind λb=>
 some (b.2.2.2.1,(b.2.2.2.2.1,b.2.2.2.2.2)))
def jhZ(a:Int):Option (Bool):=
 let b:Bool:=(cond (decide (a>=(-4611686018427387904))) (decide (a<=4611686018427387904)) false)
 some b
def jlu(a:Int):Option (Int):=
 cond (decide (a<0)) (
 let b:=(w64 (0-a))
 some b) (
 some a)
def jce(c b:Int):Option ((Int×Int) ⊕ (Int)):=
 cond (b != 0) (
 cond (!(b==0)) (
 let a:=(Int.tmod c b)
 some (.inl (b,a))) none) (
 some (.inr c))
def JW[LP](a b:Int):Option (Int):=
 LP.lp (unc2 (jce)) (a,b)
def je7[LP](a b:Int):Option (Int):=
 (JW a b).bind λc=>
 some c
def jcf[LP](b a:Int):Option BI:=
 cond (cond (decide (a<1)) true (decide (a>4611686018427387904))) (
 some ((0,0),1)) (
 (jhZ b).bind λd=>
 cond (!d) (
 some ((0,0),1)) (
 (jlu b).bind λe=>
 (je7 e a).bind λc=>
 cond (!(c==0)) (
 let g:=(w64 (Int.tdiv b c))
 cond (!(c==0)) (
 let f:=(w64 (Int.tdiv a c))
 some ((g,f),0)) none) none))
def jcg[LP](b:ae)(a:Int):Option BI:=
 (j7G b).bind λg=>
 cond (!g) (
 some ((0,0),8)) (
 (j1O b a).bind λe=>
 (jeK b).bind λd=>
 let f:Int:=(if d.2.2>1 then d.2.2 else 1:Int)
 (jcf e f).bind λc=>
 some ((c.1.1,c.1.2),c.2))
def j4R[LP](j:ae)(m:(List Int))(l:Int)(c:(List Int))(i a k b:Int):Option ((ae×(List Int)×Int×(List Int)×Int×Int×Int×Int) ⊕ ((ae×(List Int)×Int×Int×Int))):=
 cond (decide (a<i)) (
 cond (inR a (List.length c)) (
 let f:=(List.getD c (Int.toNat a) 0)
 (j1O j f).bind λg=>
 let e:=(w64 (l+g))
 let d:=(w64 (a+1))
 some (.inl (j,m,e,c,i,d,k,b))) none) (
 some (.inr (j,m,l,k,b)))
def JX[LP](e:ae)(i:(List Int))(g:Int)(c:(List Int))(d b f a:Int):Option ((ae×(List Int)×Int×Int×Int)):=
 LP.lp (unc8 (j4R)) (e,i,g,c,d,b,f,a)
def j4S[LP](l:ae)(p:(List Int))(o m:Int)(d:(List Int))(k b n c:Int):Option ((ae×(List Int)×Int×Int×(List Int)×Int×Int×Int×Int) ⊕ (((List Int)×Int×Int×Int×Int))):=
 cond (decide (b<k)) (
 cond (inR b (List.length d)) (
 let a:=(List.getD d (Int.toNat b) 0)
 (j1O l a).bind λe=>
 (j1O l a).bind λi=>
 let f:=(w64 (e*i))
 let j:=(w64 (m+f))
 let g:=(w64 (b+1))
 some (.inl (l,p,o,j,d,k,g,n,c))) none) (
 some (.inr (p,o,m,n,c)))
def JY[LP](e:ae)(j:(List Int))(i f:Int)(b:(List Int))(c d g a:Int):Option (((List Int)×Int×Int×Int×Int)):=
 LP.lp (unc9 (j4S)) (e,j,i,f,b,c,d,g,a)
def jea[LP](d:ae)(a:(List Int)):Option BI:=
 (j7G d).bind λk=>
 cond (!k) (
 some ((0,0),8)) (
 let f:=(Int.ofNat (List.length a))
 cond (decide (f>32)) (
 some ((0,0),5)) (
 let m:=(Int.ofNat (List.length a))
 (JX d a 0 a m 0 0 0).bind λb=>
 cond (decide (b.2.2.1>268435456)) (
 some ((0,0),5)) (
 cond (b.2.2.1==0) (
 some ((1,1),0)) (
 let j:=(Int.ofNat (List.length b.2.1))
 (JY b.1 b.2.1 b.2.2.1 0 b.2.1 j 0 b.2.2.2.1 b.2.2.2.2).bind λe=>
 let g:=(w64 (e.2.1*e.2.1))
 let i:=(Int.ofNat (List.length e.1))
 let l:=(w64 (i*e.2.2.1))
 (jcf g l).bind λc=>
 some ((c.1.1,c.1.2),c.2)))))
def j3I[LP](k:ae)(m l:Int)(e:(List Int))(j a:Int):Option ((ae×Int×Int×(List Int)×Int×Int) ⊕ ((Int×Int))):=
 cond (decide (a<j)) (
 cond (inR a (List.length e)) (
 let b:=(List.getD e (Int.toNat a) 0)
 (j1O k b).bind λd=>
 let g:Int:=(if d<m then d else m:Int)
 (j1O k b).bind λc=>
 let f:Int:=(if c>l then c else l:Int)
 let i:=(w64 (a+1))
 some (.inl (k,g,f,e,j,i))) none) (
 some (.inr (m,l)))
def JZ[LP](d:ae)(f e:Int)(b:(List Int))(c a:Int):Option ((Int×Int)):=
 LP.lp (unc6 (j3I)) (d,f,e,b,c,a)
def jao[LP](b:ae)(a:(List Int)):Option (Int):=
 (j7G b).bind λj=>
 let l:=(Int.ofNat (List.length a))
 cond (cond (!j) true (l==0)) (
 some 0) (
 cond (inR 0 (List.length a)) (
 let f:=(List.getD a 0 0)
 (j1O b f).bind λd=>
 cond (inR 0 (List.length a)) (
 let g:=(List.getD a 0 0)
 (j1O b g).bind λc=>
 let k:=(Int.ofNat (List.length a))
 (JZ b d c a k 0).bind λe=>
 let i:=(w64 (e.2-e.1))
 some i) none) none)
def j7H[LP]  : Option (Bool):=
 let d:ae:=[(0,(100,100)),(1,(300,300))]
 (jcg d 0).bind λb=>
 let g:(List Int):=[0,1]
 (jea d g).bind λc=>
 let f:Bool:=(cond (cond (b.2==0) (c.2==0) false) ((b.1.1==1)&&(b.1.2==4)) false)
 cond (cond f ((c.1.1==4)&&(c.1.2==5)) false) (
 let e:(List Int):=[0,1]
 (jao d e).bind λi=>
 cond (i==200) (
 (jeK d).bind λa=>
 some ((a.1==(-1))&&((a.2.1==400)&&(a.2.2==400)))) (
 some false)) (
 some false)
def jjy(a:(List Int)):Option ((List Int)×Int):=
 some (a,0)
def j05(b:(List Int))(a c:Int):Option (Int×(List Int)×Int):=
 let i:=(Int.ofNat (List.length b))
 cond (decide (a>=i)) (
 some (0,b,a)) (
 cond (decide (c<1)) (
 some (0,b,a)) (
 cond (inR a (List.length b)) (
 let f:=(List.getD b (Int.toNat a) 0)
 cond (!(c==0)) (
 let d:=(Int.tmod f c)
 let e:=(w64 (a+1))
 cond (decide (d<0)) (
 let g:=(w64 (d+c))
 some (g,b,e)) (
 some (d,b,e))) none) none))
def j0V(d:(List Int))(b:Int)(a:(List Int)):Option (Int×(List Int)×Int):=
 let f:=(Int.ofNat (List.length a))
 (j05 d b f).bind λc=>
 cond (inR c.1 (List.length a)) (
 let e:=(List.getD a (Int.toNat c.1) 0)
 some (e,c.2.1,c.2.2)) none
def j3C(a0:(List Int))(w:Int)(a:ByteArray):Option (hQ×(List Int)×Int):=
 let a3:(List Int):=[0,4,(-20),22,48,(-47)]
 (j0V a0 w a3).bind λl=>
 (j05 l.2.1 l.2.2 2).bind λj=>
 (j05 j.2.1 j.2.2 3).bind λk=>
 let b6:=(w64 (j.1*k.1))
 let b5:=(w64 (l.1+b6))
 let c:=(w64 (900*b5))
 (j05 k.2.1 k.2.2 2).bind λn=>
 let g:=(w64 (2025+n.1))
 (j05 n.2.1 n.2.2 4).bind λb=>
 cond (b.1==1) (
 let a5:=(w64 (c+3600))
 let b4:ba:=[(2025,(g,(3,(5,(6,(7200,a5)))))),(2025,(g,(10,(5,(6,(10800,c))))))]
 some ((a,(c,b4)),b.2.1,b.2.2)) (
 cond (b.1==2) (
 (j05 b.2.1 b.2.2 4).bind λu=>
 let a9:=(w64 (1+u.1))
 (j05 u.2.1 u.2.2 7).bind λo=>
 (j05 o.2.1 o.2.2 24).bind λp=>
 let a8:=(w64 (3600*p.1))
 (j05 p.2.1 p.2.2 8).bind λt=>
 let a6:=(w64 (1+t.1))
 let b0:=(w64 (1800*a6))
 let a7:=(w64 (c+b0))
 (j05 t.2.1 t.2.2 2).bind λv=>
 let b2:=(w64 (2+v.1))
 let b3:(List Int):=[2,3,5]
 (j0V v.2.1 v.2.2 b3).bind λx=>
 (j05 x.2.1 x.2.2 7).bind λm=>
 (j05 m.2.1 m.2.2 24).bind λs=>
 let a4:=(w64 (3600*s.1))
 let b7:ba:=[(2025,(g,(1,(a9,(o.1,(a8,a7)))))),(2025,(g,(b2,(x.1,(m.1,(a4,c))))))]
 some ((a,(c,b7)),s.2.1,s.2.2)) (
 cond (b.1==3) (
 let a2:(List Int):=[3600,(-3600),82800,(-82800),43200]
 (j0V b.2.1 b.2.2 a2).bind λf=>
 let r:=(w64 (c+f.1))
 cond (cond (decide (r>64800)) true (decide (r<(-64800)))) (
 (j05 f.2.1 f.2.2 7).bind λq=>
 (j05 q.2.1 q.2.2 48).bind λi=>
 let a1:=(w64 (1800*i.1))
 let b1:ba:=[(2026,(2026,(1,(2,(q.1,(a1,0))))))]
 some ((a,(c,b1)),i.2.1,i.2.2)) (
 (j05 f.2.1 f.2.2 7).bind λd=>
 (j05 d.2.1 d.2.2 48).bind λe=>
 let z:=(w64 (1800*e.1))
 let y:ba:=[(2026,(2026,(1,(2,(d.1,(z,r))))))]
 some ((a,(c,y)),e.2.1,e.2.2))) (
 some ((a,(c,([]:ba))),b.2.1,b.2.2))))
def jeL  : Option ((List ByteArray)):=
 let a:(List ByteArray):=[(ByteArray.mk #[97,100,97]),(ByteArray.mk #[98,111,98]),(ByteArray.mk #[99,108,101,111]),(ByteArray.mk #[100,97,110]),(ByteArray.mk #[101,118,101]),(ByteArray.mk #[102,97,121]),(ByteArray.mk #[103,117,115]),(ByteArray.mk #[104,97,108])]
 some a
def j0K(d:(List Int))(a b:Int):Option (Bool×(List Int)×Int):=
 (j05 d a b).bind λc=>
 let e:=(w64 (b-1))
 some ((c.1==e),c.2.1,c.2.2)
def j1J(r q:Int)(p:(List Int))(g:Int)(l:af):Option ((Int×Int×(List Int)×Int×af) ⊕ (((List Int)×Int×af))):=
 cond (decide (q>0)) (
 (j05 p g 30).bind λd=>
 let m:=(w64 (3600*d.1))
 let j:=(w64 (r+m))
 (j05 d.2.1 d.2.2 2).bind λb=>
 let o:=(w64 (60*b.1))
 let f:=(w64 (j+o))
 let k:(List Int):=[3600,28800,43200,86400,61,1]
 (j0V b.2.1 b.2.2 k).bind λa=>
 let c:=(w64 (f+a.1))
 cond (decide (c>604800)) (
 some (.inr (a.2.1,a.2.2,l))) (
 let e:af:=[(f,c)]
 cond (decide (List.length l+List.length e<=aP)) (
 let i:af:=(l++e)
 let n:=(w64 (q-1))
 some (.inl (c,n,a.2.1,a.2.2,i))) none)) (
 some (.inr (p,g,l)))
def EV[LP](d e:Int)(b:(List Int))(a:Int)(c:af):Option (((List Int)×Int×af)):=
 LP.lp (unc5 (j1J)) (d,e,b,a,c)
theorem Rz(d e b a c):EV d e b a c=lpK (j1J d e b a c) (λh=>EV h.1 h.2.1 h.2.2.1 h.2.2.2.1 h.2.2.2.2):=bt _ _
def j3F[LP](d:(List Int))(a:Int):Option (af×(List Int)×Int):=
 (j05 d a 4).bind λc=>
 (EV 0 c.1 c.2.1 c.2.2 ([]:af)).bind λb=>
 some (b.2.2,b.1,b.2.1)
def j2c(l:Int)(k:(List Int))(f:Int)(b:ai):Option ((Int×(List Int)×Int×ai) ⊕ (((List Int)×Int×ai))):=
 cond (decide (l>0)) (
 let d:(List ByteArray):=[(ByteArray.mk #[104,101,114,101]),(ByteArray.mk #[116,104,101,114,101])]
 let c:=(Int.ofNat (List.length b))
 cond (inR c (List.length d)) (
 let i:=(List.getD d (Int.toNat c) ByteArray.empty)
 (j3C k f i).bind λa=>
 let e:ai:=[(a.1.1,(a.1.2.1,a.1.2.2))]
 cond (decide (List.length b+List.length e<=aP)) (
 let j:ai:=(b++e)
 let g:=(w64 (l-1))
 some (.inl (g,a.2.1,a.2.2,j))) none) none) (
 some (.inr (k,f,b)))
def EW[LP](d:Int)(c:(List Int))(b:Int)(a:ai):Option (((List Int)×Int×ai)):=
 LP.lp (unc4 (j2c)) (d,c,b,a)
theorem RA(d c b a):EW d c b a=lpK (j2c d c b a) (λh=>EW h.1 h.2.1 h.2.2.1 h.2.2.2):=bt _ _
def j2d[LP](a4:Int)(a5:(List Int))(q:Int)(e:ai)(b:ak):Option ((Int×(List Int)×Int×ai×ak) ⊕ (((List Int)×Int×ai×ak))):=
 cond (decide (a4>0)) (
 (jeL).bind λl=>
 let p:=(Int.ofNat (List.length b))
 cond (inR p (List.length l)) (
 let m:=(List.getD l (Int.toNat p) ByteArray.empty)
 let w:=(Int.ofNat (List.length e))
 (j05 a5 q w).bind λc=>
 (j0K c.2.1 c.2.2 3).bind λd=>
 (j0K d.2.1 d.2.2 2).bind λa=>
 cond a.1 (
 (j3F a.2.1 a.2.2).bind λk=>
 let x:(List Int):=[0,40,100,12]
 (j0V k.2.1 k.2.2 x).bind λg=>
 let a0:=(w64 (3600*g.1))
 let a2:(List Int):=[0,11,24,1]
 (j0V g.2.1 g.2.2 a2).bind λi=>
 let y:=(w64 (3600*i.1))
 let n:ak:=[(m,(c.1,(k.1,(a0,(y,d.1)))))]
 cond (decide (List.length b+List.length n<=aP)) (
 let u:ak:=(b++n)
 let t:=(w64 (a4-1))
 some (.inl (t,i.2.1,i.2.2,e,u))) none) (
 let r:(List Int):=[0,40,100,12]
 (j0V a.2.1 a.2.2 r).bind λf=>
 let v:=(w64 (3600*f.1))
 let s:(List Int):=[0,11,24,1]
 (j0V f.2.1 f.2.2 s).bind λj=>
 let a1:=(w64 (3600*j.1))
 let o:ak:=[(m,(c.1,(([]:af),(v,(a1,d.1)))))]
 cond (decide (List.length b+List.length o<=aP)) (
 let z:ak:=(b++o)
 let a3:=(w64 (a4-1))
 some (.inl (a3,j.2.1,j.2.2,e,z))) none)) none) (
 some (.inr (a5,q,e,b)))
def EX[LP](e:Int)(d:(List Int))(b:Int)(a:ai)(c:ak):Option (((List Int)×Int×ai×ak)):=
 LP.lp (unc5 (j2d)) (e,d,b,a,c)
theorem RB(e d b a c):EX e d b a c=lpK (j2d e d b a c) (λh=>EX h.1 h.2.1 h.2.2.1 h.2.2.2.1 h.2.2.2.2):=bt _ _
def j2e(p o q:Int)(m:(List Int))(i:Int)(n:ByteArray)(g:Int)(e:ai)(j:ak)(d:aq)(c:(List Int)):Option ((Int×Int×Int×(List Int)×Int×ByteArray×Int×ai×ak×aq×(List Int)) ⊕ ((Int×(List Int)×Int×ByteArray×Int×ai×ak×aq×(List Int)))):=
 cond (decide (o>0)) (
 (j05 m i 6).bind λa=>
 let l:=(w64 (1+a.1))
 let b:=(w64 (q+l))
 cond (decide (List.length c+List.length [b]<=aP)) (
 let f:(List Int):=(c++[b])
 let k:=(w64 (o-1))
 some (.inl (p,k,b,a.2.1,a.2.2,n,g,e,j,d,f))) none) (
 some (.inr (p,m,i,n,g,e,j,d,c)))
def EY[LP](l k g:Int)(i:(List Int))(e:Int)(j:ByteArray)(d:Int)(c:ai)(f:ak)(a:aq)(b:(List Int)):Option ((Int×(List Int)×Int×ByteArray×Int×ai×ak×aq×(List Int))):=
 LP.lp (jrO (j2e)) (l,k,g,i,e,j,d,c,f,a,b)
theorem RC(l k g i e j d c f a b):EY l k g i e j d c f a b=lpK (j2e l k g i e j d c f a b) (λh=>EY h.1 h.2.1 h.2.2.1 h.2.2.2.1 h.2.2.2.2.1 h.2.2.2.2.2.1 h.2.2.2.2.2.2.1 h.2.2.2.2.2.2.2.1 h.2.2.2.2.2.2.2.2.1 h.2.2.2.2.2.2.2.2.2.1 h.2.2.2.2.2.2.2.2.2.2):=bt _ _
def j1t[LP](n:Int)(m:(List Int))(i:Int)(e:ai)(j:ak)(f:aq):Option ((Int×(List Int)×Int×ai×ak×aq) ⊕ (((List Int)×Int×ai×ak×aq))):=
 cond (decide (n>0)) (
 let l:=(Int.ofNat (List.length e))
 (j05 m i l).bind λc=>
 (j05 c.2.1 c.2.2 4).bind λb=>
 (EY n b.1 20454 b.2.1 b.2.2 (ByteArray.mk #[100,97,121,115]) c.1 e j f ([]:(List Int))).bind λa=>
 let d:aq:=[(a.2.2.2.1,(a.2.2.2.2.1,a.2.2.2.2.2.2.2.2))]
 cond (decide (List.length a.2.2.2.2.2.2.2.1+List.length d<=aP)) (
 let g:aq:=(a.2.2.2.2.2.2.2.1++d)
 let k:=(w64 (a.1-1))
 some (.inl (k,a.2.1,a.2.2.1,a.2.2.2.2.2.1,a.2.2.2.2.2.2.1,g))) none) (
 some (.inr (m,i,e,j,f)))
def EZ[LP](f:Int)(e:(List Int))(c:Int)(b:ai)(d:ak)(a:aq):Option (((List Int)×Int×ai×ak×aq)):=
 LP.lp (unc6 (j1t)) (f,e,c,b,d,a)
theorem J0(f e c b d a):EZ f e c b d a=lpK (j1t f e c b d a) (λh=>EZ h.1 h.2.1 h.2.2.1 h.2.2.2.1 h.2.2.2.2.1 h.2.2.2.2.2):=bt _ _
def j7S[LP](i:(List Int))(b:Int):Option (cL×(List Int)×Int):=
 (j05 i b 2).bind λd=>
 let k:=(w64 (1+d.1))
 (EW k d.2.1 d.2.2 ([]:ai)).bind λg=>
 (j05 g.1 g.2.1 4).bind λa=>
 let j:=(w64 (1+a.1))
 (EX j a.2.1 a.2.2 g.2.2 ([]:ak)).bind λf=>
 (j05 f.1 f.2.1 2).bind λc=>
 (EZ c.1 c.2.1 c.2.2 f.2.2.1 f.2.2.2 ([]:aq)).bind λe=>
 some ((e.2.2.1,(e.2.2.2.1,(e.2.2.2.2,([]:aw)))),e.1,e.2.1)
def j2f(a1:Int)(a0:(List Int))(l:Int)(y:ai)(b:ak)(m:aq)(g:aw)(a2:ByteArray)(i r u d n j f:Int)(z:ByteArray)(o p k e q t s:Int)(c:(List Int)):Option ((Int×(List Int)×Int×ai×ak×aq×aw×ByteArray×Int×Int×Int×Int×Int×Int×Int×ByteArray×Int×Int×Int×Int×Int×Int×Int×(List Int)) ⊕ (((List Int)×Int×ai×ak×aq×aw×ByteArray×Int×Int×Int×Int×Int×Int×Int×ByteArray×Int×Int×Int×Int×Int×Int×Int×(List Int)))):=
 cond (decide (a1>0)) (
 let x:=(Int.ofNat (List.length b))
 (j05 a0 l x).bind λa=>
 cond (decide (List.length c+List.length [a.1]<=aP)) (
 let v:(List Int):=(c++[a.1])
 let w:=(w64 (a1-1))
 some (.inl (w,a.2.1,a.2.2,y,b,m,g,a2,i,r,u,d,n,j,f,z,o,p,k,e,q,t,s,v))) none) (
 some (.inr (a0,l,y,b,m,g,a2,i,r,u,d,n,j,f,z,o,p,k,e,q,t,s,c)))
def BM[LP](x:Int)(w:(List Int))(k:Int)(u:ai)(a:ak)(l:aq)(f:aw)(y:ByteArray)(g q t b m i e:Int)(v:ByteArray)(n o j d p s r:Int)(c:(List Int)):Option (((List Int)×Int×ai×ak×aq×aw×ByteArray×Int×Int×Int×Int×Int×Int×Int×ByteArray×Int×Int×Int×Int×Int×Int×Int×(List Int))):=
 LP.lp (jyq (j2f)) (x,w,k,u,a,l,f,y,g,q,t,b,m,i,e,v,n,o,j,d,p,s,r,c)
theorem RD(x w k u a l f y g q t b m i e v n o j d p s r c):BM x w k u a l f y g q t b m i e v n o j d p s r c=lpK (j2f x w k u a l f y g q t b m i e v n o j d p s r c) (λh=>BM h.1 h.2.1 h.2.2.1 h.2.2.2.1 h.2.2.2.2.1 h.2.2.2.2.2.1 h.2.2.2.2.2.2.1 h.2.2.2.2.2.2.2.1 h.2.2.2.2.2.2.2.2.1 h.2.2.2.2.2.2.2.2.2.1 h.2.2.2.2.2.2.2.2.2.2.1 h.2.2.2.2.2.2.2.2.2.2.2.1 h.2.2.2.2.2.2.2.2.2.2.2.2.1 h.2.2.2.2.2.2.2.2.2.2.2.2.2.1 h.2.2.2.2.2.2.2.2.2.2.2.2.2.2.1 h.2.2.2.2.2.2.2.2.2.2.2.2.2.2.2.1 h.2.2.2.2.2.2.2.2.2.2.2.2.2.2.2.2.1 h.2.2.2.2.2.2.2.2.2.2.2.2.2.2.2.2.2.1 h.2.2.2.2.2.2.2.2.2.2.2.2.2.2.2.2.2.2.1 h.2.2.2.2.2.2.2.2.2.2.2.2.2.2.2.2.2.2.2.1 h.2.2.2.2.2.2.2.2.2.2.2.2.2.2.2.2.2.2.2.2.1 h.2.2.2.2.2.2.2.2.2.2.2.2.2.2.2.2.2.2.2.2.2.1 h.2.2.2.2.2.2.2.2.2.2.2.2.2.2.2.2.2.2.2.2.2.2.1 h.2.2.2.2.2.2.2.2.2.2.2.2.2.2.2.2.2.2.2.2.2.2.2):=bt _ _
def j7T[LP](b5:(List Int))(a2:Int)(c:cL)(j:ByteArray):Option (h9×(List Int)×Int):=
 let c0:=(Int.ofNat (List.length c.1))
 (j05 b5 a2 c0).bind λw=>
 (j05 w.2.1 w.2.2 6).bind λa0=>
 let c4:=(w64 (20454+a0.1))
 let b4:=(w64 (c4-2))
 let c1:(List Int):=[0,32400,7200,9000,79200,1]
 (j0V a0.2.1 a0.2.2 c1).bind λv=>
 (j05 v.2.1 v.2.2 3).bind λu=>
 (j05 u.2.1 u.2.2 2).bind λs=>
 let b6:=(w64 (1+s.1))
 cond (u.1==0) (
 let b8:(List Int):=[6,8,12,24,23,49]
 (j0V s.2.1 s.2.2 b8).bind λa3=>
 (j05 a3.2.1 a3.2.2 3).bind λz=>
 let c3:=(w64 (1+z.1))
 (BM c3 z.2.1 z.2.2 c.1 c.2.1 c.2.2.1 c.2.2.2 ByteArray.empty 0 0 0 0 0 0 0 j w.1 b4 v.1 u.1 a3.1 0 0 ([]:(List Int))).bind λb=>
 (j0K b.1 b.2.1 2).bind λr=>
 cond r.1 (
 (j3F r.2.1 r.2.2).bind λx=>
 (j0K x.2.1 x.2.2 4).bind λt=>
 let b9:=(Int.ofNat (List.length b.2.2.2.2.1))
 cond (cond t.1 (decide (b9>0)) false) (
 let b7:=(Int.ofNat (List.length b.2.2.2.2.1))
 (j05 t.2.1 t.2.2 b7).bind λy=>
 (j05 y.2.1 y.2.2 2).bind λa1=>
 let c2:=(w64 (1+a1.1))
 some ((b.2.2.2.2.2.2.2.2.2.2.2.2.2.2.1,(b.2.2.2.2.2.2.2.2.2.2.2.2.2.2.2.1,((b.2.2.2.2.2.2.2.2.2.2.2.2.2.2.2.2.1,b.2.2.2.2.2.2.2.2.2.2.2.2.2.2.2.2.2.1),(b.2.2.2.2.2.2.2.2.2.2.2.2.2.2.2.2.2.2.1,(b.2.2.2.2.2.2.2.2.2.2.2.2.2.2.2.2.2.2.2.1,(b.2.2.2.2.2.2.2.2.2.2.2.2.2.2.2.2.2.2.2.2.2.2,(x.1,(y.1,c2)))))))),a1.2.1,a1.2.2)) (
 some ((b.2.2.2.2.2.2.2.2.2.2.2.2.2.2.1,(b.2.2.2.2.2.2.2.2.2.2.2.2.2.2.2.1,((b.2.2.2.2.2.2.2.2.2.2.2.2.2.2.2.2.1,b.2.2.2.2.2.2.2.2.2.2.2.2.2.2.2.2.2.1),(b.2.2.2.2.2.2.2.2.2.2.2.2.2.2.2.2.2.2.1,(b.2.2.2.2.2.2.2.2.2.2.2.2.2.2.2.2.2.2.2.1,(b.2.2.2.2.2.2.2.2.2.2.2.2.2.2.2.2.2.2.2.2.2.2,(x.1,(b.2.2.2.2.2.2.2.2.2.2.2.2.2.2.2.2.2.2.2.2.1,b.2.2.2.2.2.2.2.2.2.2.2.2.2.2.2.2.2.2.2.2.2.1)))))))),t.2.1,t.2.2))) (
 (j0K r.2.1 r.2.2 4).bind λg=>
 let a7:=(Int.ofNat (List.length b.2.2.2.2.1))
 cond (cond g.1 (decide (a7>0)) false) (
 let a4:=(Int.ofNat (List.length b.2.2.2.2.1))
 (j05 g.2.1 g.2.2 a4).bind λo=>
 (j05 o.2.1 o.2.2 2).bind λp=>
 let a5:=(w64 (1+p.1))
 some ((b.2.2.2.2.2.2.2.2.2.2.2.2.2.2.1,(b.2.2.2.2.2.2.2.2.2.2.2.2.2.2.2.1,((b.2.2.2.2.2.2.2.2.2.2.2.2.2.2.2.2.1,b.2.2.2.2.2.2.2.2.2.2.2.2.2.2.2.2.2.1),(b.2.2.2.2.2.2.2.2.2.2.2.2.2.2.2.2.2.2.1,(b.2.2.2.2.2.2.2.2.2.2.2.2.2.2.2.2.2.2.2.1,(b.2.2.2.2.2.2.2.2.2.2.2.2.2.2.2.2.2.2.2.2.2.2,(([]:af),(o.1,a5)))))))),p.2.1,p.2.2)) (
 some ((b.2.2.2.2.2.2.2.2.2.2.2.2.2.2.1,(b.2.2.2.2.2.2.2.2.2.2.2.2.2.2.2.1,((b.2.2.2.2.2.2.2.2.2.2.2.2.2.2.2.2.1,b.2.2.2.2.2.2.2.2.2.2.2.2.2.2.2.2.2.1),(b.2.2.2.2.2.2.2.2.2.2.2.2.2.2.2.2.2.2.1,(b.2.2.2.2.2.2.2.2.2.2.2.2.2.2.2.2.2.2.2.1,(b.2.2.2.2.2.2.2.2.2.2.2.2.2.2.2.2.2.2.2.2.2.2,(([]:af),(b.2.2.2.2.2.2.2.2.2.2.2.2.2.2.2.2.2.2.2.2.1,b.2.2.2.2.2.2.2.2.2.2.2.2.2.2.2.2.2.2.2.2.2.1)))))))),g.2.1,g.2.2)))) (
 (j05 s.2.1 s.2.2 3).bind λq=>
 let b2:=(w64 (1+q.1))
 (BM b2 q.2.1 q.2.2 c.1 c.2.1 c.2.2.1 c.2.2.2 ByteArray.empty 0 0 0 0 0 0 0 j w.1 b4 v.1 u.1 b6 0 0 ([]:(List Int))).bind λa=>
 (j0K a.1 a.2.1 2).bind λd=>
 cond d.1 (
 (j3F d.2.1 d.2.2).bind λi=>
 (j0K i.2.1 i.2.2 4).bind λe=>
 let b0:=(Int.ofNat (List.length a.2.2.2.2.1))
 cond (cond e.1 (decide (b0>0)) false) (
 let b1:=(Int.ofNat (List.length a.2.2.2.2.1))
 (j05 e.2.1 e.2.2 b1).bind λn=>
 (j05 n.2.1 n.2.2 2).bind λk=>
 let a8:=(w64 (1+k.1))
 some ((a.2.2.2.2.2.2.2.2.2.2.2.2.2.2.1,(a.2.2.2.2.2.2.2.2.2.2.2.2.2.2.2.1,((a.2.2.2.2.2.2.2.2.2.2.2.2.2.2.2.2.1,a.2.2.2.2.2.2.2.2.2.2.2.2.2.2.2.2.2.1),(a.2.2.2.2.2.2.2.2.2.2.2.2.2.2.2.2.2.2.1,(a.2.2.2.2.2.2.2.2.2.2.2.2.2.2.2.2.2.2.2.1,(a.2.2.2.2.2.2.2.2.2.2.2.2.2.2.2.2.2.2.2.2.2.2,(i.1,(n.1,a8)))))))),k.2.1,k.2.2)) (
 some ((a.2.2.2.2.2.2.2.2.2.2.2.2.2.2.1,(a.2.2.2.2.2.2.2.2.2.2.2.2.2.2.2.1,((a.2.2.2.2.2.2.2.2.2.2.2.2.2.2.2.2.1,a.2.2.2.2.2.2.2.2.2.2.2.2.2.2.2.2.2.1),(a.2.2.2.2.2.2.2.2.2.2.2.2.2.2.2.2.2.2.1,(a.2.2.2.2.2.2.2.2.2.2.2.2.2.2.2.2.2.2.2.1,(a.2.2.2.2.2.2.2.2.2.2.2.2.2.2.2.2.2.2.2.2.2.2,(i.1,(a.2.2.2.2.2.2.2.2.2.2.2.2.2.2.2.2.2.2.2.2.1,a.2.2.2.2.2.2.2.2.2.2.2.2.2.2.2.2.2.2.2.2.2.1)))))))),e.2.1,e.2.2))) (
 (j0K d.2.1 d.2.2 4).bind λf=>
 let a9:=(Int.ofNat (List.length a.2.2.2.2.1))
 cond (cond f.1 (decide (a9>0)) false) (
 let a6:=(Int.ofNat (List.length a.2.2.2.2.1))
 (j05 f.2.1 f.2.2 a6).bind λl=>
 (j05 l.2.1 l.2.2 2).bind λm=>
 let b3:=(w64 (1+m.1))
 some ((a.2.2.2.2.2.2.2.2.2.2.2.2.2.2.1,(a.2.2.2.2.2.2.2.2.2.2.2.2.2.2.2.1,((a.2.2.2.2.2.2.2.2.2.2.2.2.2.2.2.2.1,a.2.2.2.2.2.2.2.2.2.2.2.2.2.2.2.2.2.1),(a.2.2.2.2.2.2.2.2.2.2.2.2.2.2.2.2.2.2.1,(a.2.2.2.2.2.2.2.2.2.2.2.2.2.2.2.2.2.2.2.1,(a.2.2.2.2.2.2.2.2.2.2.2.2.2.2.2.2.2.2.2.2.2.2,(([]:af),(l.1,b3)))))))),m.2.1,m.2.2)) (
 some ((a.2.2.2.2.2.2.2.2.2.2.2.2.2.2.1,(a.2.2.2.2.2.2.2.2.2.2.2.2.2.2.2.1,((a.2.2.2.2.2.2.2.2.2.2.2.2.2.2.2.2.1,a.2.2.2.2.2.2.2.2.2.2.2.2.2.2.2.2.2.1),(a.2.2.2.2.2.2.2.2.2.2.2.2.2.2.2.2.2.2.1,(a.2.2.2.2.2.2.2.2.2.2.2.2.2.2.2.2.2.2.2.1,(a.2.2.2.2.2.2.2.2.2.2.2.2.2.2.2.2.2.2.2.2.2.2,(([]:af),(a.2.2.2.2.2.2.2.2.2.2.2.2.2.2.2.2.2.2.2.2.1,a.2.2.2.2.2.2.2.2.2.2.2.2.2.2.2.2.2.2.2.2.2.1)))))))),f.2.1,f.2.2))))
def j4T(d:(List Int))(b:Int):Option (Int×(List Int)×Int):=
 (j05 d b 576).bind λe=>
 let j:=(w64 (3600*e.1))
 let g:=(w64 (1767139200+j))
 (j0K e.2.1 e.2.2 3).bind λc=>
 cond c.1 (
 let f:(List Int):=[(-1),1,1800,3599]
 (j0V c.2.1 c.2.2 f).bind λa=>
 let i:=(w64 (g+a.1))
 some (i,a.2.1,a.2.2)) (
 some (g,c.2.1,c.2.2))
def j8Q(n:(List Int))(k:Int)(m:cL):Option (mH×(List Int)×Int):=
 let l:=(Int.ofNat (List.length m.2.1))
 (j05 n k 3).bind λa=>
 (j05 a.2.1 a.2.2 l).bind λe=>
 (j4T e.2.1 e.2.2).bind λb=>
 let p:(List Int):=[3600,86400,7,259200,40000]
 (j0V b.2.1 b.2.2 p).bind λd=>
 let f:=(w64 (b.1+d.1))
 cond (a.1==2) (
 cond (decide (l<2)) (
 some ((0,(e.1,(0,(b.1,f)))),d.2.1,d.2.2)) (
 let q:=(w64 (e.1+1))
 let o:=(w64 (l-1))
 (j05 d.2.1 d.2.2 o).bind λg=>
 let r:=(w64 (q+g.1))
 cond (!(l==0)) (
 let j:=(Int.tmod r l)
 cond (a.1==1) (
 (j0K g.2.1 g.2.2 4).bind λi=>
 cond i.1 (
 some ((a.1,((-1),(j,(b.1,f)))),i.2.1,i.2.2)) (
 some ((a.1,(e.1,(j,(b.1,f)))),i.2.1,i.2.2))) (
 some ((a.1,(e.1,(j,(b.1,f)))),g.2.1,g.2.2))) none)) (
 cond (a.1==1) (
 (j0K d.2.1 d.2.2 4).bind λc=>
 cond c.1 (
 some ((a.1,((-1),(0,(b.1,f)))),c.2.1,c.2.2)) (
 some ((a.1,(e.1,(0,(b.1,f)))),c.2.1,c.2.2))) (
 some ((a.1,(e.1,(0,(b.1,f)))),d.2.1,d.2.2)))
def j1T[LP](p q:Int)(o:(List Int))(j:Int)(n:ai)(d:ak)(c:aq)(r:ByteArray)(e:aw)(b:aV):Option ((Int×Int×(List Int)×Int×ai×ak×aq×ByteArray×aw×aV) ⊕ ((Int×(List Int)×Int×ai×ak×aq×ByteArray×aw×aV))):=
 cond (decide (q>0)) (
 (jeL).bind λf=>
 let g:=(Int.ofNat (List.length b))
 cond (inR g (List.length f)) (
 let l:=(List.getD f (Int.toNat g) ByteArray.empty)
 (j7T o j (n,(d,(c,e))) l).bind λa=>
 let i:aV:=[(a.1.1,(a.1.2.1,((a.1.2.2.1.1,a.1.2.2.1.2),(a.1.2.2.2.1,(a.1.2.2.2.2.1,(a.1.2.2.2.2.2.1,(a.1.2.2.2.2.2.2.1,(a.1.2.2.2.2.2.2.2.1,a.1.2.2.2.2.2.2.2.2))))))))]
 cond (decide (List.length b+List.length i<=aP)) (
 let m:aV:=(b++i)
 let k:=(w64 (q-1))
 some (.inl (p,k,a.2.1,a.2.2,n,d,c,r,e,m))) none) none) (
 some (.inr (p,o,j,n,d,c,r,e,b)))
def BN[LP](i j:Int)(g:(List Int))(d:Int)(f:ai)(c:ak)(b:aq)(k:ByteArray)(e:aw)(a:aV):Option ((Int×(List Int)×Int×ai×ak×aq×ByteArray×aw×aV)):=
 LP.lp (jkk (j1T)) (i,j,g,d,f,c,b,k,e,a)
theorem RE(i j g d f c b k e a):BN i j g d f c b k e a=lpK (j1T i j g d f c b k e a) (λh=>BN h.1 h.2.1 h.2.2.1 h.2.2.2.1 h.2.2.2.2.1 h.2.2.2.2.2.1 h.2.2.2.2.2.2.1 h.2.2.2.2.2.2.2.1 h.2.2.2.2.2.2.2.2.1 h.2.2.2.2.2.2.2.2.2):=bt _ _
def j1U(o n:Int)(m:(List Int))(i:Int)(l:ai)(d:ak)(c:aq)(p:ByteArray)(e:aw)(g:aV)(b:aS):Option ((Int×Int×(List Int)×Int×ai×ak×aq×ByteArray×aw×aV×aS) ⊕ ((Int×(List Int)×Int×ai×ak×aq×ByteArray×aw×aV×aS))):=
 cond (decide (n>0)) (
 (j8Q m i (l,(d,(c,e)))).bind λa=>
 let f:aS:=[(a.1.1,(a.1.2.1,(a.1.2.2.1,(a.1.2.2.2.1,a.1.2.2.2.2))))]
 cond (decide (List.length b+List.length f<=aP)) (
 let k:aS:=(b++f)
 let j:=(w64 (n-1))
 some (.inl (o,j,a.2.1,a.2.2,l,d,c,p,e,g,k))) none) (
 some (.inr (o,m,i,l,d,c,p,e,g,b)))
def E0[LP](k j:Int)(i:(List Int))(e:Int)(g:ai)(d:ak)(c:aq)(l:ByteArray)(f:aw)(a:aV)(b:aS):Option ((Int×(List Int)×Int×ai×ak×aq×ByteArray×aw×aV×aS)):=
 LP.lp (jrO (j1U)) (k,j,i,e,g,d,c,l,f,a,b)
theorem RF(k j i e g d c l f a b):E0 k j i e g d c l f a b=lpK (j1U k j i e g d c l f a b) (λh=>E0 h.1 h.2.1 h.2.2.1 h.2.2.2.1 h.2.2.2.2.1 h.2.2.2.2.2.1 h.2.2.2.2.2.2.1 h.2.2.2.2.2.2.2.1 h.2.2.2.2.2.2.2.2.1 h.2.2.2.2.2.2.2.2.2.1 h.2.2.2.2.2.2.2.2.2.2):=bt _ _
def j1V[LP](s:Int)(r:(List Int))(l:Int)(q:ai)(k:ak)(j:aq)(e:aw):Option ((Int×(List Int)×Int×ai×ak×aq×aw) ⊕ (((List Int)×Int×ai×ak×aq×aw))):=
 cond (decide (s>0)) (
 let f:(List ByteArray):=[(ByteArray.mk #[102,105,114,115,116]),(ByteArray.mk #[115,101,99,111,110,100]),(ByteArray.mk #[116,104,105,114,100])]
 let n:=(Int.ofNat (List.length e))
 let g:=(Int.tmod n 3)
 cond (inR g (List.length f)) (
 let p:=(List.getD f (Int.toNat g) ByteArray.empty)
 (j05 r l 4).bind λd=>
 (BN s d.1 d.2.1 d.2.2 q k j p e ([]:aV)).bind λb=>
 (j05 b.2.1 b.2.2.1 4).bind λc=>
 (E0 b.1 c.1 c.2.1 c.2.2 b.2.2.2.1 b.2.2.2.2.1 b.2.2.2.2.2.1 b.2.2.2.2.2.2.1 b.2.2.2.2.2.2.2.1 b.2.2.2.2.2.2.2.2 ([]:aS)).bind λa=>
 let i:aw:=[(a.2.2.2.2.2.2.1,(a.2.2.2.2.2.2.2.2.1,a.2.2.2.2.2.2.2.2.2))]
 cond (decide (List.length a.2.2.2.2.2.2.2.1+List.length i<=aP)) (
 let o:aw:=(a.2.2.2.2.2.2.2.1++i)
 let m:=(w64 (a.1-1))
 some (.inl (m,a.2.1,a.2.2.1,a.2.2.2.1,a.2.2.2.2.1,a.2.2.2.2.2.1,o))) none) none) (
 some (.inr (r,l,q,k,j,e)))
def E3[LP](g:Int)(f:(List Int))(c:Int)(e:ai)(b:ak)(a:aq)(d:aw):Option (((List Int)×Int×ai×ak×aq×aw)):=
 LP.lp (unc7 (j1V)) (g,f,c,e,b,a,d)
theorem RG(g f c e b a d):E3 g f c e b a d=lpK (j1V g f c e b a d) (λh=>E3 h.1 h.2.1 h.2.2.1 h.2.2.2.1 h.2.2.2.2.1 h.2.2.2.2.2.1 h.2.2.2.2.2.2):=bt _ _
def j5B[LP](f:(List Int))(c e:Int):Option (cL×(List Int)×Int):=
 (j7S f c).bind λa=>
 (j05 a.2.1 a.2.2 e).bind λd=>
 let g:=(w64 (1+d.1))
 (E3 g d.2.1 d.2.2 a.1.1 a.1.2.1 a.1.2.2.1 ([]:aw)).bind λb=>
 some ((b.2.2.1,(b.2.2.2.1,(b.2.2.2.2.1,b.2.2.2.2.2))),b.1,b.2.1)
def jjz(a:Int):Option (Bool):=
 some (cond (decide (a>=48)) (decide (a<=57)) false)
def j5C(a:ByteArray)(b:Int):Option ((ByteArray×Int) ⊕ (Bool ⊕ Unit)):=
 let g:=(Int.ofNat (ByteArray.size a))
 cond (decide (b<g)) (
 cond (inR b (ByteArray.size a)) (
 let d:=(cN a b)
 cond ((inR b (ByteArray.size a)) || !(!(decide (d<97)))) (
 let e:=(cN a b)
 cond ((inR b (ByteArray.size a)) || !(cond (decide (d<97)) true (decide (e>122)))) (
 let j:=(cN a b)
 cond (cond (decide (d<97)) true (decide (e>122))) (
 (jjz j).bind λc=>
 cond ((inR b (ByteArray.size a)) || !(!c)) (
 let f:=(cN a b)
 cond ((inR b (ByteArray.size a)) || !(cond (!c) (f != 95) false)) (
 let l:=(cN a b)
 cond (cond (cond (!c) (f != 95) false) (l != 45) false) (
 some (.inr (.inl false))) (
 let i:=(w64 (b+1))
 some (.inl (a,i)))) none) none) (
 cond ((inR b (ByteArray.size a)) || !false) (
 let m:=(cN a b)
 cond ((inR b (ByteArray.size a)) || !false) (
 let n:=(cN a b)
 let k:=(w64 (b+1))
 some (.inl (a,k))) none) none)) none) none) none) (
 some (.inr (.inr ())))
def yq[LP](a:ByteArray)(b:Int):Option (Bool ⊕ Unit):=
 LP.lp (unc2 (j5C)) (a,b)
theorem RH(a b):yq a b=lpK (j5C a b) (λh=>yq h.1 h.2):=bt _ _
def jiI[LP](a:ByteArray):Option (Bool):=
 let c:=(Int.ofNat (ByteArray.size a))
 let e:=(Int.ofNat (ByteArray.size a))
 cond ((inR 0 (ByteArray.size a)) || !(!(cond (decide (c<1)) true (decide (e>24))))) (
 let f:=(cN a 0)
 let b:Bool:=(cond (cond (decide (c<1)) true (decide (e>24))) true (decide (f<97)))
 cond ((inR 0 (ByteArray.size a)) || !(!b)) (
 let d:=(cN a 0)
 cond (cond b true (decide (d>122))) (
 some false) (
 (yq a 0).bind λg=>
 sumC g (λi=>
 some i) (λj=>
 some true))) none) none
def j5D(a:(List ByteArray))(c e:Int):Option (((List ByteArray)×Int×Int) ⊕ (Int ⊕ Unit)):=
 cond (decide (e<c)) (
 cond (inR e (List.length a)) (
 let d:=(List.getD a (Int.toNat e) ByteArray.empty)
 cond (inR c (List.length a)) (
 let b:=(List.getD a (Int.toNat c) ByteArray.empty)
 cond (ByteArray.toList d==ByteArray.toList b) (
 some (.inr (.inl 4))) (
 let f:=(w64 (e+1))
 some (.inl (a,c,f)))) none) none) (
 some (.inr (.inr ())))
def BO[LP](a:(List ByteArray))(c b:Int):Option (Int ⊕ Unit):=
 LP.lp (unc3 (j5D)) (a,c,b)
theorem RI(a c b):BO a c b=lpK (j5D a c b) (λh=>BO h.1 h.2.1 h.2.2):=bt _ _
def ja1[LP](b:(List ByteArray))(a:Int):Option (Int):=
 cond (inR a (List.length b)) (
 let e:=(List.getD b (Int.toNat a) ByteArray.empty)
 (jiI e).bind λc=>
 cond (!c) (
 some 2) (
 (BO b a 0).bind λd=>
 sumC d (λf=>
 some f) (λg=>
 some 0))) none
def jch(a c b:Int):Option (Bool):=
 some (cond (decide (a>=c)) (decide (a<=b)) false)
def jeb(a:sF):Option (Bool):=
 (jch a.1 1970 2240).bind λi=>
 cond i (
 (jch a.2.1 a.1 2240).bind λf=>
 cond f (
 (jch a.2.2.1 1 12).bind λb=>
 cond b (
 (jch a.2.2.2.1 1 5).bind λd=>
 cond d (
 (jch a.2.2.2.2.1 0 6).bind λc=>
 cond c (
 (jch a.2.2.2.2.2.1 0 86399).bind λg=>
 cond g (
 (jch a.2.2.2.2.2.2 (-64800) 64800).bind λe=>
 some e) (
 some false)) (
 some false)) (
 some false)) (
 some false)) (
 some false)) (
 some false)
def j1a(a:Int):Option (Bool):=
 let c:=(Int.tmod a 4)
 let d:=(Int.tmod a 100)
 let b:=(Int.tmod a 400)
 some (cond (c==0) (cond (d != 0) true (b==0)) false)
def jcO(b a:Int):Option (Int):=
 cond (a==1) (
 cond (a==1) (
 some 31) (
 cond (a==4) (
 cond (a==4) (
 some 30) (
 cond (a==2) (
 (j1a b).bind λa4=>
 cond a4 (
 some 29) (
 some 28)) (
 some 0))) (
 cond (a==6) (
 cond (a==6) (
 some 30) (
 cond (a==2) (
 (j1a b).bind λa3=>
 cond a3 (
 some 29) (
 some 28)) (
 some 0))) (
 cond (a==9) (
 cond (a==9) (
 some 30) (
 cond (a==2) (
 (j1a b).bind λv=>
 cond v (
 some 29) (
 some 28)) (
 some 0))) (
 cond (a==11) (
 some 30) (
 cond (a==2) (
 (j1a b).bind λa1=>
 cond a1 (
 some 29) (
 some 28)) (
 some 0))))))) (
 cond (a==3) (
 cond (a==3) (
 some 31) (
 cond (a==4) (
 cond (a==4) (
 some 30) (
 cond (a==2) (
 (j1a b).bind λw=>
 cond w (
 some 29) (
 some 28)) (
 some 0))) (
 cond (a==6) (
 cond (a==6) (
 some 30) (
 cond (a==2) (
 (j1a b).bind λz=>
 cond z (
 some 29) (
 some 28)) (
 some 0))) (
 cond (a==9) (
 cond (a==9) (
 some 30) (
 cond (a==2) (
 (j1a b).bind λa0=>
 cond a0 (
 some 29) (
 some 28)) (
 some 0))) (
 cond (a==11) (
 some 30) (
 cond (a==2) (
 (j1a b).bind λa2=>
 cond a2 (
 some 29) (
 some 28)) (
 some 0))))))) (
 cond (a==5) (
 cond (a==5) (
 some 31) (
 cond (a==4) (
 cond (a==4) (
 some 30) (
 cond (a==2) (
 (j1a b).bind λx=>
 cond x (
 some 29) (
 some 28)) (
 some 0))) (
 cond (a==6) (
 cond (a==6) (
 some 30) (
 cond (a==2) (
 (j1a b).bind λy=>
 cond y (
 some 29) (
 some 28)) (
 some 0))) (
 cond (a==9) (
 cond (a==9) (
 some 30) (
 cond (a==2) (
 (j1a b).bind λu=>
 cond u (
 some 29) (
 some 28)) (
 some 0))) (
 cond (a==11) (
 some 30) (
 cond (a==2) (
 (j1a b).bind λp=>
 cond p (
 some 29) (
 some 28)) (
 some 0))))))) (
 cond (a==7) (
 cond (a==7) (
 some 31) (
 cond (a==4) (
 cond (a==4) (
 some 30) (
 cond (a==2) (
 (j1a b).bind λq=>
 cond q (
 some 29) (
 some 28)) (
 some 0))) (
 cond (a==6) (
 cond (a==6) (
 some 30) (
 cond (a==2) (
 (j1a b).bind λm=>
 cond m (
 some 29) (
 some 28)) (
 some 0))) (
 cond (a==9) (
 cond (a==9) (
 some 30) (
 cond (a==2) (
 (j1a b).bind λe=>
 cond e (
 some 29) (
 some 28)) (
 some 0))) (
 cond (a==11) (
 some 30) (
 cond (a==2) (
 (j1a b).bind λd=>
 cond d (
 some 29) (
 some 28)) (
 some 0))))))) (
 cond (a==8) (
 cond (a==8) (
 some 31) (
 cond (a==4) (
 cond (a==4) (
 some 30) (
 cond (a==2) (
 (j1a b).bind λc=>
 cond c (
 some 29) (
 some 28)) (
 some 0))) (
 cond (a==6) (
 cond (a==6) (
 some 30) (
 cond (a==2) (
 (j1a b).bind λj=>
 cond j (
 some 29) (
 some 28)) (
 some 0))) (
 cond (a==9) (
 cond (a==9) (
 some 30) (
 cond (a==2) (
 (j1a b).bind λf=>
 cond f (
 some 29) (
 some 28)) (
 some 0))) (
 cond (a==11) (
 some 30) (
 cond (a==2) (
 (j1a b).bind λo=>
 cond o (
 some 29) (
 some 28)) (
 some 0))))))) (
 cond (a==10) (
 cond (a==10) (
 some 31) (
 cond (a==4) (
 cond (a==4) (
 some 30) (
 cond (a==2) (
 (j1a b).bind λg=>
 cond g (
 some 29) (
 some 28)) (
 some 0))) (
 cond (a==6) (
 cond (a==6) (
 some 30) (
 cond (a==2) (
 (j1a b).bind λr=>
 cond r (
 some 29) (
 some 28)) (
 some 0))) (
 cond (a==9) (
 cond (a==9) (
 some 30) (
 cond (a==2) (
 (j1a b).bind λl=>
 cond l (
 some 29) (
 some 28)) (
 some 0))) (
 cond (a==11) (
 some 30) (
 cond (a==2) (
 (j1a b).bind λn=>
 cond n (
 some 29) (
 some 28)) (
 some 0))))))) (
 cond (a==12) (
 some 31) (
 cond (a==4) (
 cond (a==4) (
 some 30) (
 cond (a==2) (
 (j1a b).bind λt=>
 cond t (
 some 29) (
 some 28)) (
 some 0))) (
 cond (a==6) (
 cond (a==6) (
 some 30) (
 cond (a==2) (
 (j1a b).bind λs=>
 cond s (
 some 29) (
 some 28)) (
 some 0))) (
 cond (a==9) (
 cond (a==9) (
 some 30) (
 cond (a==2) (
 (j1a b).bind λi=>
 cond i (
 some 29) (
 some 28)) (
 some 0))) (
 cond (a==11) (
 some 30) (
 cond (a==2) (
 (j1a b).bind λk=>
 cond k (
 some 29) (
 some 28)) (
 some 0))))))))))))
def jgr(a:rk):Option (Bool):=
 cond (decide (a.1>=1970)) (
 cond (decide (a.1<=2240)) (
 cond (decide (a.2.1>=1)) (
 cond (decide (a.2.1<=12)) (
 cond (decide (a.2.2>=1)) (
 (jcO a.1 a.2.1).bind λb=>
 some (decide (a.2.2<=b))) (
 some false)) (
 some false)) (
 some false)) (
 some false)) (
 some false)
def jgs(a:Int):Option (Int):=
 let j:=(w64 (a-1970))
 let i:=(w64 (j*365))
 let l:=(w64 (a-1969))
 let k:=(w64 (Int.tdiv l 4))
 let m:=(w64 (i+k))
 let b:=(w64 (a-1901))
 let c:=(w64 (Int.tdiv b 100))
 let e:=(w64 (m-c))
 let d:=(w64 (a-1601))
 let g:=(w64 (Int.tdiv d 400))
 let f:=(w64 (e+g))
 some f
def j6g(i g f a b:Int):Option ((Int×Int×Int×Int×Int) ⊕ ((Int×Int×Int×Int))):=
 cond (decide (g<a)) (
 (jcO f g).bind λd=>
 let c:=(w64 (i+d))
 let e:=(w64 (g+1))
 some (.inl (c,e,f,a,b))) (
 some (.inr (i,f,a,b)))
def E4[LP](c e d a b:Int):Option ((Int×Int×Int×Int)):=
 LP.lp (unc5 (j6g)) (c,e,d,a,b)
theorem RJ(c e d a b):E4 c e d a b=lpK (j6g c e d a b) (λh=>E4 h.1 h.2.1 h.2.2.1 h.2.2.2.1 h.2.2.2.2):=bt _ _
def jmh[LP](a:rk):Option (Int×Int):=
 (jgr (a.1,(a.2.1,a.2.2))).bind λf=>
 cond (!f) (
 some (0,1)) (
 (jgs a.1).bind λe=>
 (E4 e 1 a.1 a.2.1 a.2.2).bind λb=>
 let c:=(w64 (b.1+b.2.2.2))
 let d:=(w64 (c-1))
 some (d,0))
def jfu(a:Int):Option (Int):=
 let c:=(Int.tmod a 7)
 let b:=(w64 (c+10))
 let d:=(Int.tmod b 7)
 some d
def j6h(e i g f d a:Int):Option ((Int×Int×Int×Int×Int×Int) ⊕ ((Int×Int×Int×Int×Int))):=
 (jfu a).bind λb=>
 cond (b != f) (
 let c:=(w64 (a+1))
 some (.inl (e,i,g,f,d,c))) (
 some (.inr (e,i,g,d,a)))
def E5[LP](c f e d b a:Int):Option ((Int×Int×Int×Int×Int)):=
 LP.lp (unc6 (j6h)) (c,f,e,d,b,a)
theorem RK(c f e d b a):E5 c f e d b a=lpK (j6h c f e d b a) (λh=>E5 h.1 h.2.1 h.2.2.1 h.2.2.2.1 h.2.2.2.2.1 h.2.2.2.2.2):=bt _ _
def j6i(g i f a:Int):Option ((Int×Int×Int×Int) ⊕ (Int)):=
 let c:=(w64 (a+7))
 (jcO g i).bind λb=>
 let d:=(w64 (f+b))
 cond (decide (c<d)) (
 let e:=(w64 (a+7))
 some (.inl (g,i,f,e))) (
 some (.inr a))
def E6[LP](c d b a:Int):Option (Int):=
 LP.lp (unc4 (j6i)) (c,d,b,a)
theorem RM(c d b a):E6 c d b a=lpK (j6i c d b a) (λh=>E6 h.1 h.2.1 h.2.2.1 h.2.2.2):=bt _ _
def jmi[LP](f c b a:Int):Option (Int×Int):=
 (jmh (f,(c,1))).bind λe=>
 let g:Bool:=(cond (cond (e.2 != 0) true (decide (b<1))) true (decide (b>5)))
 let j:Bool:=(cond (cond g true (decide (a<0))) true (decide (a>6)))
 cond j (
 some (0,1)) (
 (E5 f c b a e.1 e.1).bind λd=>
 cond (decide (d.2.2.1<5)) (
 let k:=(w64 (d.2.2.1-1))
 let l:=(w64 (7*k))
 let i:=(w64 (d.2.2.2.2+l))
 some (i,0)) (
 (E6 d.1 d.2.1 d.2.2.2.1 d.2.2.2.2).bind λm=>
 some (m,0)))
def j2g(i:ba)(j k c e a:Int)(d:af):Option ((ba×Int×Int×Int×Int×Int×af) ⊕ ((ba×Int×Int×Int×Int×Int×af))):=
 cond (decide (c>0)) (
 let b:=(w64 (c-1))
 cond (inR b (List.length d)) (
 let f:=(List.getD d (Int.toNat b) (0,0)).1
 cond (decide (f>e)) (
 let g:=(w64 (c-1))
 some (.inl (i,j,k,g,e,a,d))) (
 some (.inr (i,j,k,c,e,a,d)))) none) (
 some (.inr (i,j,k,c,e,a,d)))
def BP[LP](b:ba)(f g d c a:Int)(e:af):Option ((ba×Int×Int×Int×Int×Int×af)):=
 LP.lp (unc7 (j2g)) (b,f,g,d,c,a,e)
theorem RN(b f g d c a e):BP b f g d c a e=lpK (j2g b f g d c a e) (λh=>BP h.1 h.2.1 h.2.2.1 h.2.2.2.1 h.2.2.2.2.1 h.2.2.2.2.2.1 h.2.2.2.2.2.2):=bt _ _
def j2h[LP](c:ba)(d t:Int)(u:af):Option ((ba×Int×Int×af) ⊕ ((ba×Int×af))):=
 cond (inR d (List.length c)) (
 let l:=(List.getD c (Int.toNat d) (0,(0,(0,(0,(0,(0,0)))))))
 cond (decide (t<=l.2.1)) (
 cond (inR d (List.length c)) (
 let m:=(List.getD c (Int.toNat d) (0,(0,(0,(0,(0,(0,0)))))))
 cond (inR d (List.length c)) (
 let n:=(List.getD c (Int.toNat d) (0,(0,(0,(0,(0,(0,0)))))))
 cond (inR d (List.length c)) (
 let k:=(List.getD c (Int.toNat d) (0,(0,(0,(0,(0,(0,0)))))))
 (jmi t m.2.2.1 n.2.2.2.1 k.2.2.2.2.1).bind λi=>
 let s:=(w64 (i.1*86400))
 cond (inR d (List.length c)) (
 let o:=(List.getD c (Int.toNat d) (0,(0,(0,(0,(0,(0,0)))))))
 let j:=(w64 (s+o.2.2.2.2.2.1))
 cond (inR d (List.length c)) (
 let p:=(List.getD c (Int.toNat d) (0,(0,(0,(0,(0,(0,0)))))))
 let q:=(Int.ofNat (List.length u))
 (BP c d t q j p.2.2.2.2.2.2 u).bind λa=>
 let f:af:=[(a.2.2.2.2.1,a.2.2.2.2.2.1)]
 cond (decide (List.length a.2.2.2.2.2.2+List.length f<=aP)) (
 let b:af:=(a.2.2.2.2.2.2++f)
 let e:=(w64 (a.2.2.2.1+1))
 cond (decide (0<=e)&&decide (e<=(Int.ofNat (List.length b)))) (
 cond (decide (0<=a.2.2.2.1)&&decide (a.2.2.2.1<=(Int.ofNat (List.length b)))) (
 let g:af:=(over b (Int.toNat e) (List.drop (Int.toNat a.2.2.2.1) b))
 let w:=(Int.ofNat (min (List.length (List.drop (Int.toNat a.2.2.2.1) b)) (List.length b-(Int.toNat e))))
 cond (inR a.2.2.2.1 (List.length g)) (
 let v:af:=(List.set g (Int.toNat a.2.2.2.1) (a.2.2.2.2.1,a.2.2.2.2.2.1))
 let r:=(w64 (a.2.2.1+1))
 some (.inl (a.1,a.2.1,r,v))) none) none) none) none) none) none) none) none) none) (
 some (.inr (c,d,u)))) none
def E7[LP](a:ba)(b c:Int)(d:af):Option ((ba×Int×af)):=
 LP.lp (unc4 (j2h)) (a,b,c,d)
theorem RO(a c d b):E7 a c d b=lpK (j2h a c d b) (λh=>E7 h.1 h.2.1 h.2.2.1 h.2.2.2):=bt _ _
def j2i[LP](b:ba)(e:Int)(g:af):Option ((ba×Int×af) ⊕ (af)):=
 let c:=(Int.ofNat (List.length b))
 cond (decide (e<c)) (
 cond (inR e (List.length b)) (
 let d:=(List.getD b (Int.toNat e) (0,(0,(0,(0,(0,(0,0)))))))
 (E7 b e d.1 g).bind λa=>
 let f:=(w64 (a.2.1+1))
 some (.inl (a.1,f,a.2.2))) none) (
 some (.inr g))
def BQ[LP](a:ba)(b:Int)(c:af):Option (af):=
 LP.lp (unc3 (j2i)) (a,b,c)
theorem RP(a b c):BQ a b c=lpK (j2i a b c) (λh=>BQ h.1 h.2.1 h.2.2):=bt _ _
def j7U[LP](a:ba):Option (af):=
 (BQ a 0 ([]:af)).bind λb=>
 some b
def j2j(n c:Int)(o:ByteArray)(d:Int)(b:ba):Option ((Int×Int×ByteArray×Int×ba) ⊕ (Int ⊕ (Int×ByteArray×Int×ba))):=
 let e:=(Int.ofNat (List.length b))
 cond (decide (c<e)) (
 cond (inR c (List.length b)) (
 let a:=(List.getD b (Int.toNat c) (0,(0,(0,(0,(0,(0,0)))))))
 (jeb (a.1,(a.2.1,(a.2.2.1,(a.2.2.2.1,(a.2.2.2.2.1,(a.2.2.2.2.2.1,a.2.2.2.2.2.2))))))).bind λm=>
 cond (!m) (
 some (.inr (.inl 1))) (
 cond (inR c (List.length b)) (
 let j:=(List.getD b (Int.toNat c) (0,(0,(0,(0,(0,(0,0)))))))
 cond (inR c (List.length b)) (
 let k:=(List.getD b (Int.toNat c) (0,(0,(0,(0,(0,(0,0)))))))
 let i:=(w64 (j.2.1-k.1))
 let f:=(w64 (i+1))
 let g:=(w64 (n+f))
 let l:=(w64 (c+1))
 some (.inl (g,l,o,d,b))) none) none)) none) (
 some (.inr (.inr (n,o,d,b))))
def BR[LP](c e:Int)(d:ByteArray)(a:Int)(b:ba):Option (Int ⊕ (Int×ByteArray×Int×ba)):=
 LP.lp (unc5 (j2j)) (c,e,d,a,b)
theorem RQ(c e d a b):BR c e d a b=lpK (j2j c e d a b) (λh=>BR h.1 h.2.1 h.2.2.1 h.2.2.2.1 h.2.2.2.2):=bt _ _
def j2k(t e:Int)(c d:af):Option ((Int×Int×af×af) ⊕ (Int ⊕ af)):=
 let w:=(Int.ofNat (List.length d))
 cond (decide (e<w)) (
 cond (inR e (List.length d)) (
 let v:=(List.getD d (Int.toNat e) (0,0)).2
 cond (v==t) (
 let r:=(w64 (e+1))
 some (.inl (t,r,c,d))) (
 cond (inR e (List.length d)) (
 let q:=(List.getD d (Int.toNat e) (0,0)).1
 let b:=(w64 (q-t))
 cond (inR e (List.length d)) (
 let a:=(List.getD d (Int.toNat e) (0,0)).2
 let o:=(w64 (a-t))
 (jch o (-86399) 86399).bind λs=>
 cond (!s) (
 some (.inr (.inl 6))) (
 (jch b 0 8589934592).bind λx=>
 cond (!x) (
 some (.inr (.inl 6))) (
 let u:=(Int.ofNat (List.length c))
 cond (decide (u>0)) (
 let m:=(Int.ofNat (List.length c))
 let f:=(w64 (m-1))
 cond (inR f (List.length c)) (
 let k:=(List.getD c (Int.toNat f) (0,0)).1
 let n:=(w64 (b-k))
 cond (decide (n<604800)) (
 some (.inr (.inl 6))) (
 let i:af:=[(b,a)]
 cond (decide (List.length c+List.length i<=aP)) (
 let l:af:=(c++i)
 let y:=(w64 (e+1))
 some (.inl (a,y,l,d))) none)) none) (
 let g:af:=[(b,a)]
 cond (decide (List.length c+List.length g<=aP)) (
 let j:af:=(c++g)
 let p:=(w64 (e+1))
 some (.inl (a,p,j,d))) none)))) none) none)) none) (
 some (.inr (.inr c)))
def BT[LP](c a:Int)(b d:af):Option (Int ⊕ af):=
 LP.lp (unc4 (j2k)) (c,a,b,d)
theorem RR(d a b c):BT d a b c=lpK (j2k d a b c) (λh=>BT h.1 h.2.1 h.2.2.1 h.2.2.2):=bt _ _
def j4U[LP](a:hQ):Option (af×Int):=
 (jch a.2.1 (-64800) 64800).bind λb=>
 cond (!b) (
 some (([]:af),1)) (
 let f:=(Int.ofNat (List.length a.2.2))
 cond (decide (f>16)) (
 some (([]:af),5)) (
 (BR 0 0 a.1 a.2.1 a.2.2).bind λg=>
 sumC g (λk=>
 some (([]:af),k)) (λi=>
 cond (decide (i.1>640)) (
 some (([]:af),5)) (
 (j7U i.2.2.2).bind λe=>
 (BT i.2.2.1 0 ([]:af) e).bind λj=>
 sumC j (λd=>
 some (([]:af),d)) (λc=>
 some (c,0))))))
def j9a[LP](a:hQ):Option (Int):=
 (j4U (a.1,(a.2.1,a.2.2))).bind λb=>
 some b.2
def j3K(g:Bool)(f:Int)(j:ByteArray)(i:Int)(a:ba):Option ((Bool×Int×ByteArray×Int×ba) ⊕ (Bool)):=
 let b:=(Int.ofNat (List.length a))
 cond (decide (f<b)) (
 cond ((inR f (List.length a)) || !g) (
 let c:=(List.getD a (Int.toNat f) (0,(0,(0,(0,(0,(0,0)))))))
 let e:=(Int.tmod c.2.2.2.2.2.2 60)
 let d:=(w64 (f+1))
 some (.inl ((cond g (e==0) false),d,j,i,a))) none) (
 some (.inr g))
def BU[LP](c:Bool)(d:Int)(e:ByteArray)(a:Int)(b:ba):Option (Bool):=
 LP.lp (unc5 (j3K)) (c,d,e,a,b)
theorem RS(c d e a b):BU c d e a b=lpK (j3K c d e a b) (λh=>BU h.1 h.2.1 h.2.2.1 h.2.2.2.1 h.2.2.2.2):=bt _ _
def jaq[LP](a:hQ):Option (Bool):=
 let b:=(Int.tmod a.2.1 60)
 (BU (b==0) 0 a.1 a.2.1 a.2.2).bind λc=>
 some c
def j4V[LP](c:Int)(d:ai)(m:ak)(n:aq)(l:aw)(p:(List ByteArray)):Option ((Int×ai×ak×aq×aw×(List ByteArray)) ⊕ (Int ⊕ Unit)):=
 let o:=(Int.ofNat (List.length d))
 cond (decide (c<o)) (
 cond (inR c (List.length d)) (
 let f:=(List.getD d (Int.toNat c) (ByteArray.empty,(0,([]:ba))))
 cond (decide (List.length p+List.length [f.1]<=aP)) (
 let g:(List ByteArray):=(p++[f.1])
 (ja1 g c).bind λe=>
 cond (e != 0) (
 some (.inr (.inl e))) (
 cond (inR c (List.length d)) (
 let a:=(List.getD d (Int.toNat c) (ByteArray.empty,(0,([]:ba))))
 (j9a (a.1,(a.2.1,a.2.2))).bind λi=>
 cond ((inR c (List.length d)) || !(!(i != 0))) (
 let b:=(List.getD d (Int.toNat c) (ByteArray.empty,(0,([]:ba))))
 cond (i != 0) (
 some (.inr (.inl 8))) (
 (jaq (b.1,(b.2.1,b.2.2))).bind λk=>
 cond (!k) (
 some (.inr (.inl 8))) (
 let j:=(w64 (c+1))
 some (.inl (j,d,m,n,l,g))))) none) none)) none) none) (
 some (.inr (.inr ())))
def BV[LP](e:Int)(f:ai)(b:ak)(c:aq)(a:aw)(d:(List ByteArray)):Option (Int ⊕ Unit):=
 LP.lp (unc6 (j4V)) (e,f,b,c,a,d)
theorem RT(e f b c a d):BV e f b c a d=lpK (j4V e f b c a d) (λh=>BV h.1 h.2.1 h.2.2.1 h.2.2.2.1 h.2.2.2.2.1 h.2.2.2.2.2):=bt _ _
def jjA[LP](a:cL):Option (Int):=
 (BV 0 a.1 a.2.1 a.2.2.1 a.2.2.2 ([]:(List ByteArray))).bind λb=>
 sumC b (λc=>
 some c) (λd=>
 some 0)
def j7b(a c b:Int):Option (Bool):=
 some (cond (decide (a>=c)) (decide (a<=b)) false)
def j4W(a:af)(b:Int):Option ((af×Int) ⊕ (Int ⊕ Unit)):=
 let m:=(Int.ofNat (List.length a))
 cond (decide (b<m)) (
 cond (inR b (List.length a)) (
 let i:=(List.getD a (Int.toNat b) (0,0))
 cond (decide (i.1<0)) (
 some (.inr (.inl 1))) (
 cond (inR b (List.length a)) (
 let d:=(List.getD a (Int.toNat b) (0,0))
 cond (inR b (List.length a)) (
 let e:=(List.getD a (Int.toNat b) (0,0))
 cond (decide (d.1>=e.2)) (
 some (.inr (.inl 1))) (
 cond (inR b (List.length a)) (
 let f:=(List.getD a (Int.toNat b) (0,0))
 cond (decide (f.2>604800)) (
 some (.inr (.inl 1))) (
 cond (decide (b>0)) (
 cond (inR b (List.length a)) (
 let k:=(List.getD a (Int.toNat b) (0,0))
 let c:=(w64 (b-1))
 cond (inR c (List.length a)) (
 let j:=(List.getD a (Int.toNat c) (0,0))
 cond (decide (k.1<j.2)) (
 some (.inr (.inl 6))) (
 let g:=(w64 (b+1))
 some (.inl (a,g)))) none) none) (
 let l:=(w64 (b+1))
 some (.inl (a,l))))) none)) none) none)) none) (
 some (.inr (.inr ())))
def BW[LP](a:af)(b:Int):Option (Int ⊕ Unit):=
 LP.lp (unc2 (j4W)) (a,b)
theorem RU(a b):BW a b=lpK (j4W a b) (λh=>BW h.1 h.2):=bt _ _
def jee[LP](a:af):Option (Int):=
 let c:=(Int.ofNat (List.length a))
 cond (decide (c>14)) (
 some 5) (
 (BW a 0).bind λb=>
 sumC b (λd=>
 some d) (λe=>
 some 0))
def jgw(a:Int):Option (Bool):=
 (j7b a 0 604800).bind λc=>
 let b:=(Int.tmod a 3600)
 some (cond c (b==0) false)
def j4f[LP](e:Int)(s:ai)(b:ak)(q:aq)(p:aw)(r:(List ByteArray)):Option ((Int×ai×ak×aq×aw×(List ByteArray)) ⊕ (Int ⊕ Unit)):=
 let f:=(Int.ofNat (List.length b))
 cond (decide (e<f)) (
 cond (inR e (List.length b)) (
 let a:=(List.getD b (Int.toNat e) (ByteArray.empty,(0,(([]:af),(0,(0,false))))))
 cond (decide (List.length r+List.length [a.1]<=aP)) (
 let c:(List ByteArray):=(r++[a.1])
 let n:Bool:=(ByteArray.toList a.1==ByteArray.toList (ByteArray.mk #[110,111,98,111,100,121]))
 cond n (
 some (.inr (.inl 2))) (
 (ja1 c e).bind λd=>
 cond (d != 0) (
 some (.inr (.inl d))) (
 let g:=(Int.ofNat (List.length s))
 let i:=(w64 (g-1))
 (j7b a.2.1 0 i).bind λk=>
 cond (!k) (
 some (.inr (.inl 3))) (
 (jee a.2.2.1).bind λl=>
 cond (l != 0) (
 some (.inr (.inl 8))) (
 (jgw a.2.2.2.1).bind λm=>
 cond (!m) (
 some (.inr (.inl 1))) (
 (jgw a.2.2.2.2.1).bind λo=>
 cond (!o) (
 some (.inr (.inl 1))) (
 let j:=(w64 (e+1))
 some (.inl (j,s,b,q,p,c))))))))) none) none) (
 some (.inr (.inr ())))
def BX[LP](e:Int)(f:ai)(b:ak)(c:aq)(a:aw)(d:(List ByteArray)):Option (Int ⊕ Unit):=
 LP.lp (unc6 (j4f)) (e,f,b,c,a,d)
theorem RW(e f b c a d):BX e f b c a d=lpK (j4f e f b c a d) (λh=>BX h.1 h.2.1 h.2.2.1 h.2.2.2.1 h.2.2.2.2.1 h.2.2.2.2.2):=bt _ _
def jhr[LP](a:cL):Option (Int):=
 (BX 0 a.1 a.2.1 a.2.2.1 a.2.2.2 ([]:(List ByteArray))).bind λb=>
 sumC b (λc=>
 some c) (λd=>
 some 0)
def jah  : Option (Int):=
 (jgs 2241).bind λa=>
 let b:=(w64 (a-1))
 some b
def j2M(o g:Int)(p:ai)(c:ak)(d:aq)(b:aw)(m:ByteArray)(e:Int)(a:(List Int))(n:(List ByteArray)):Option ((Int×Int×ai×ak×aq×aw×ByteArray×Int×(List Int)×(List ByteArray)) ⊕ (Int ⊕ (Int×ai×ak×aq×aw×ByteArray×Int×(List Int)×(List ByteArray)))):=
 let l:=(Int.ofNat (List.length a))
 cond (decide (g<l)) (
 cond (inR g (List.length a)) (
 let j:=(List.getD a (Int.toNat g) 0)
 (jah).bind λk=>
 (j7b j 0 k).bind λi=>
 cond (!i) (
 some (.inr (.inl 1))) (
 let f:=(w64 (g+1))
 some (.inl (o,f,p,c,d,b,m,e,a,n)))) none) (
 some (.inr (.inr (o,p,c,d,b,m,e,a,n))))
def BZ[LP](j g:Int)(k:ai)(b:ak)(d:aq)(a:aw)(f:ByteArray)(e:Int)(c:(List Int))(i:(List ByteArray)):Option (Int ⊕ (Int×ai×ak×aq×aw×ByteArray×Int×(List Int)×(List ByteArray))):=
 LP.lp (jkk (j2M)) (j,g,k,b,d,a,f,e,c,i)
theorem RX(j g k b d a f e c i):BZ j g k b d a f e c i=lpK (j2M j g k b d a f e c i) (λh=>BZ h.1 h.2.1 h.2.2.1 h.2.2.2.1 h.2.2.2.2.1 h.2.2.2.2.2.1 h.2.2.2.2.2.2.1 h.2.2.2.2.2.2.2.1 h.2.2.2.2.2.2.2.2.1 h.2.2.2.2.2.2.2.2.2):=bt _ _
def j4g(n f:Int)(o:ai)(d:ak)(e:aq)(c:aw)(p:ByteArray)(l:Int)(a:(List Int))(m:(List ByteArray)):Option ((Int×Int×ai×ak×aq×aw×ByteArray×Int×(List Int)×(List ByteArray)) ⊕ (Int ⊕ (Int×ai×ak×aq×aw×(List ByteArray)))):=
 let j:=(Int.ofNat (List.length a))
 cond (decide (f<j)) (
 cond (inR f (List.length a)) (
 let i:=(List.getD a (Int.toNat f) 0)
 let b:=(w64 (f-1))
 cond (inR b (List.length a)) (
 let g:=(List.getD a (Int.toNat b) 0)
 cond (decide (i<=g)) (
 some (.inr (.inl 6))) (
 let k:=(w64 (f+1))
 some (.inl (n,k,o,d,e,c,p,l,a,m)))) none) none) (
 some (.inr (.inr (n,o,d,e,c,m))))
def B2[LP](i k:Int)(j:ai)(b:ak)(d:aq)(a:aw)(f:ByteArray)(e:Int)(c:(List Int))(g:(List ByteArray)):Option (Int ⊕ (Int×ai×ak×aq×aw×(List ByteArray))):=
 LP.lp (jkk (j4g)) (i,k,j,b,d,a,f,e,c,g)
theorem jfv(i k j b d a f e c g):B2 i k j b d a f e c g=lpK (j4g i k j b d a f e c g) (λh=>B2 h.1 h.2.1 h.2.2.1 h.2.2.2.1 h.2.2.2.2.1 h.2.2.2.2.2.1 h.2.2.2.2.2.2.1 h.2.2.2.2.2.2.2.1 h.2.2.2.2.2.2.2.2.1 h.2.2.2.2.2.2.2.2.2):=bt _ _
def j2N[LP](g:Int)(t:ai)(q:ak)(d:aq)(o:aw)(s:(List ByteArray)):Option ((Int×ai×ak×aq×aw×(List ByteArray)) ⊕ (Int ⊕ Unit)):=
 let m:=(Int.ofNat (List.length d))
 cond (decide (g<m)) (
 cond (inR g (List.length d)) (
 let a:=(List.getD d (Int.toNat g) (ByteArray.empty,(0,([]:(List Int)))))
 cond (decide (List.length s+List.length [a.1]<=aP)) (
 let f:(List ByteArray):=(s++[a.1])
 (ja1 f g).bind λe=>
 cond (e != 0) (
 some (.inr (.inl e))) (
 let j:=(Int.ofNat (List.length t))
 let i:=(w64 (j-1))
 (j7b a.2.1 0 i).bind λk=>
 cond (!k) (
 some (.inr (.inl 3))) (
 let l:=(Int.ofNat (List.length a.2.2))
 cond (decide (l>64)) (
 some (.inr (.inl 5))) (
 (BZ g 0 t q d o a.1 a.2.1 a.2.2 f).bind λp=>
 sumC p (λu=>
 some (.inr (.inl u))) (λb=>
 (B2 b.1 1 b.2.1 b.2.2.1 b.2.2.2.1 b.2.2.2.2.1 b.2.2.2.2.2.1 b.2.2.2.2.2.2.1 b.2.2.2.2.2.2.2.1 b.2.2.2.2.2.2.2.2).bind λr=>
 sumC r (λv=>
 some (.inr (.inl v))) (λc=>
 let n:=(w64 (c.1+1))
 some (.inl (n,c.2.1,c.2.2.1,c.2.2.2.1,c.2.2.2.2.1,c.2.2.2.2.2)))))))) none) none) (
 some (.inr (.inr ())))
def B3[LP](e:Int)(f:ai)(b:ak)(c:aq)(a:aw)(d:(List ByteArray)):Option (Int ⊕ Unit):=
 LP.lp (unc6 (j2N)) (e,f,b,c,a,d)
theorem RY(e f b c a d):B3 e f b c a d=lpK (j2N e f b c a d) (λh=>B3 h.1 h.2.1 h.2.2.1 h.2.2.2.1 h.2.2.2.2.1 h.2.2.2.2.2):=bt _ _
def jcP[LP](a:cL):Option (Int):=
 (B3 0 a.1 a.2.1 a.2.2.1 a.2.2.2 ([]:(List ByteArray))).bind λb=>
 sumC b (λc=>
 some c) (λd=>
 some 0)
def j4X(o:Int)(u:ai)(b:ak)(d:aq)(l:aw)(v:ByteArray)(e m f i k:Int)(a:(List Int))(j:af)(g c:Int):Option ((Int×ai×ak×aq×aw×ByteArray×Int×Int×Int×Int×Int×(List Int)×af×Int×Int) ⊕ (Int ⊕ (ai×ak×aq×aw×ByteArray×Int×Int×Int×Int×Int×(List Int)×af×Int×Int))):=
 let s:=(Int.ofNat (List.length a))
 cond (decide (o<s)) (
 cond (inR o (List.length a)) (
 let p:=(List.getD a (Int.toNat o) 0)
 let q:=(Int.ofNat (List.length b))
 let t:=(w64 (q-1))
 (j7b p 0 t).bind λr=>
 cond (!r) (
 some (.inr (.inl 3))) (
 let n:=(w64 (o+1))
 some (.inl (n,u,b,d,l,v,e,m,f,i,k,a,j,g,c)))) none) (
 some (.inr (.inr (u,b,d,l,v,e,m,f,i,k,a,j,g,c))))
def B4[LP](o:Int)(n:ai)(c:ak)(i:aq)(e:aw)(p:ByteArray)(m k f l a:Int)(j:(List Int))(d:af)(g b:Int):Option (Int ⊕ (ai×ak×aq×aw×ByteArray×Int×Int×Int×Int×Int×(List Int)×af×Int×Int)):=
 LP.lp (jyn (j4X)) (o,n,c,i,e,p,m,k,f,l,a,j,d,g,b)
theorem RZ(o n c i e p m k f l a j d g b):B4 o n c i e p m k f l a j d g b=lpK (j4X o n c i e p m k f l a j d g b) (λh=>B4 h.1 h.2.1 h.2.2.1 h.2.2.2.1 h.2.2.2.2.1 h.2.2.2.2.2.1 h.2.2.2.2.2.2.1 h.2.2.2.2.2.2.2.1 h.2.2.2.2.2.2.2.2.1 h.2.2.2.2.2.2.2.2.2.1 h.2.2.2.2.2.2.2.2.2.2.1 h.2.2.2.2.2.2.2.2.2.2.2.1 h.2.2.2.2.2.2.2.2.2.2.2.2.1 h.2.2.2.2.2.2.2.2.2.2.2.2.2.1 h.2.2.2.2.2.2.2.2.2.2.2.2.2.2):=bt _ _
def jeg[LP](b:cL)(a:h9):Option (Int):=
 let r:=(Int.ofNat (List.length b.1))
 let s:=(w64 (r-1))
 (j7b a.2.1 0 s).bind λg=>
 cond (!g) (
 some 3) (
 (jah).bind λu=>
 (j7b a.2.2.1.1 1 u).bind λl=>
 cond (!l) (
 some 1) (
 (j7b a.2.2.1.2 0 86399).bind λk=>
 cond (!k) (
 some 1) (
 (j7b a.2.2.2.1 0 2).bind λp=>
 cond (!p) (
 some 1) (
 (j7b a.2.2.2.2.1 1 400).bind λq=>
 cond (!q) (
 some 1) (
 let n:=(Int.ofNat (List.length a.2.2.2.2.2.1))
 cond (n==0) (
 some 7) (
 let o:=(Int.ofNat (List.length a.2.2.2.2.2.1))
 cond (decide (o>12)) (
 some 5) (
 (B4 0 b.1 b.2.1 b.2.2.1 b.2.2.2 a.1 a.2.1 a.2.2.1.1 a.2.2.1.2 a.2.2.2.1 a.2.2.2.2.1 a.2.2.2.2.2.1 a.2.2.2.2.2.2.1 a.2.2.2.2.2.2.2.1 a.2.2.2.2.2.2.2.2).bind λv=>
 sumC v (λw=>
 some w) (λd=>
 (jee d.2.2.2.2.2.2.2.2.2.2.2.1).bind λt=>
 cond (t != 0) (
 some 8) (
 (j7b d.2.2.2.2.2.2.2.2.2.2.2.2.2 0 2).bind λm=>
 cond (!m) (
 some 1) (
 let i:=(Int.ofNat (List.length d.2.2.1))
 let f:=(w64 (i-1))
 cond (d.2.2.2.2.2.2.2.2.2.2.2.2.2 != 0) (
 (j7b d.2.2.2.2.2.2.2.2.2.2.2.2.1 0 f).bind λj=>
 cond (!j) (
 some 3) (
 let e:Bool:=(cond (d.2.2.2.2.2.2.2.2.2.2.2.2.2==0) (d.2.2.2.2.2.2.2.2.2.2.2.2.1 != 0) false)
 cond e (
 some 1) (
 some 0))) (
 let c:Bool:=(cond (d.2.2.2.2.2.2.2.2.2.2.2.2.2==0) (d.2.2.2.2.2.2.2.2.2.2.2.2.1 != 0) false)
 cond c (
 some 1) (
 some 0))))))))))))
def jgx(d:cL)(a:mH):Option (Int):=
 let g:=(Int.ofNat (List.length d.2.1))
 (j7b a.1 0 2).bind λl=>
 cond (!l) (
 some 1) (
 let j:=(w64 (g-1))
 (j7b a.2.1 0 j).bind λk=>
 let m:=(w64 (g-1))
 cond (cond (!k) (cond (a.1 != 1) true (a.2.1 != (-1))) false) (
 cond ((!(a.1==2)) || !(!true)) (
 some 3) none) (
 cond (a.1==2) (
 (j7b a.2.2.1 0 m).bind λe=>
 cond (!e) (
 some 3) (
 cond (cond (a.1 != 2) (a.2.2.1 != 0) false) (
 some 1) (
 cond (cond (a.1==2) (a.2.1==a.2.2.1) false) (
 some 4) (
 cond (decide (a.2.2.2.1<0)) (
 some 1) (
 cond (decide (a.2.2.2.2<0)) (
 some 1) (
 let i:=(w64 (Int.tdiv a.2.2.2.2 86400))
 (jah).bind λf=>
 cond (decide (i>f)) (
 some 1) (
 cond (decide (a.2.2.2.1>=a.2.2.2.2)) (
 some 6) (
 some 0)))))))) (
 cond (cond (a.1 != 2) (a.2.2.1 != 0) false) (
 some 1) (
 cond (cond (a.1==2) (a.2.1==a.2.2.1) false) (
 some 4) (
 cond (decide (a.2.2.2.1<0)) (
 some 1) (
 cond (decide (a.2.2.2.2<0)) (
 some 1) (
 let c:=(w64 (Int.tdiv a.2.2.2.2 86400))
 (jah).bind λb=>
 cond (decide (c>b)) (
 some 1) (
 cond (decide (a.2.2.2.1>=a.2.2.2.2)) (
 some 6) (
 some 0)))))))))
def j2O[LP](s f:Int)(o:ai)(d:ak)(e:aq)(c:aw)(p:ByteArray)(b:aV)(l:aS)(q r:(List ByteArray)):Option ((Int×Int×ai×ak×aq×aw×ByteArray×aV×aS×(List ByteArray)×(List ByteArray)) ⊕ (Int ⊕ (Int×ai×ak×aq×aw×ByteArray×aV×aS×(List ByteArray)))):=
 let n:=(Int.ofNat (List.length b))
 cond (decide (f<n)) (
 cond (inR f (List.length b)) (
 let k:=(List.getD b (Int.toNat f) (ByteArray.empty,(0,((0,0),(0,(0,(([]:(List Int)),(([]:af),(0,0)))))))))
 cond (decide (List.length r+List.length [k.1]<=aP)) (
 let j:(List ByteArray):=(r++[k.1])
 (ja1 j f).bind λg=>
 cond (g != 0) (
 some (.inr (.inl g))) (
 cond (inR f (List.length b)) (
 let a:=(List.getD b (Int.toNat f) (ByteArray.empty,(0,((0,0),(0,(0,(([]:(List Int)),(([]:af),(0,0)))))))))
 (jeg (o,(d,(e,c))) (a.1,(a.2.1,((a.2.2.1.1,a.2.2.1.2),(a.2.2.2.1,(a.2.2.2.2.1,(a.2.2.2.2.2.1,(a.2.2.2.2.2.2.1,(a.2.2.2.2.2.2.2.1,a.2.2.2.2.2.2.2.2))))))))).bind λi=>
 cond (i != 0) (
 some (.inr (.inl i))) (
 let m:=(w64 (f+1))
 some (.inl (s,m,o,d,e,c,p,b,l,q,j)))) none)) none) none) (
 some (.inr (.inr (s,o,d,e,c,p,b,l,q))))
def B5[LP](j l:Int)(k:ai)(b:ak)(d:aq)(a:aw)(f:ByteArray)(e:aV)(c:aS)(g i:(List ByteArray)):Option (Int ⊕ (Int×ai×ak×aq×aw×ByteArray×aV×aS×(List ByteArray))):=
 LP.lp (jrO (j2O)) (j,l,k,b,d,a,f,e,c,g,i)
theorem R0(j l k b d a f e c g i):B5 j l k b d a f e c g i=lpK (j2O j l k b d a f e c g i) (λh=>B5 h.1 h.2.1 h.2.2.1 h.2.2.2.1 h.2.2.2.2.1 h.2.2.2.2.2.1 h.2.2.2.2.2.2.1 h.2.2.2.2.2.2.2.1 h.2.2.2.2.2.2.2.2.1 h.2.2.2.2.2.2.2.2.2.1 h.2.2.2.2.2.2.2.2.2.2):=bt _ _
def j2P(n f:Int)(l:ai)(d:ak)(e:aq)(c:aw)(o:ByteArray)(k:aV)(b:aS)(m:(List ByteArray)):Option ((Int×Int×ai×ak×aq×aw×ByteArray×aV×aS×(List ByteArray)) ⊕ (Int ⊕ (Int×ai×ak×aq×aw×(List ByteArray)))):=
 let i:=(Int.ofNat (List.length b))
 cond (decide (f<i)) (
 cond (inR f (List.length b)) (
 let a:=(List.getD b (Int.toNat f) (0,(0,(0,(0,0)))))
 (jgx (l,(d,(e,c))) (a.1,(a.2.1,(a.2.2.1,(a.2.2.2.1,a.2.2.2.2))))).bind λg=>
 cond (g != 0) (
 some (.inr (.inl g))) (
 let j:=(w64 (f+1))
 some (.inl (n,j,l,d,e,c,o,k,b,m)))) none) (
 some (.inr (.inr (n,l,d,e,c,m))))
def B6[LP](j f:Int)(k:ai)(b:ak)(d:aq)(a:aw)(g:ByteArray)(e:aV)(c:aS)(i:(List ByteArray)):Option (Int ⊕ (Int×ai×ak×aq×aw×(List ByteArray))):=
 LP.lp (jkk (j2P)) (j,f,k,b,d,a,g,e,c,i)
theorem R1(j f k b d a g e c i):B6 j f k b d a g e c i=lpK (j2P j f k b d a g e c i) (λh=>B6 h.1 h.2.1 h.2.2.1 h.2.2.2.1 h.2.2.2.2.1 h.2.2.2.2.2.1 h.2.2.2.2.2.2.1 h.2.2.2.2.2.2.2.1 h.2.2.2.2.2.2.2.2.1 h.2.2.2.2.2.2.2.2.2):=bt _ _
def j2Q[LP](g:Int)(t:ai)(o:ak)(m:aq)(d:aw)(q:(List ByteArray)):Option ((Int×ai×ak×aq×aw×(List ByteArray)) ⊕ (Int ⊕ Unit)):=
 let k:=(Int.ofNat (List.length d))
 cond (decide (g<k)) (
 cond (inR g (List.length d)) (
 let a:=(List.getD d (Int.toNat g) (ByteArray.empty,(([]:aV),([]:aS))))
 cond (decide (List.length q+List.length [a.1]<=aP)) (
 let f:(List ByteArray):=(q++[a.1])
 (ja1 f g).bind λe=>
 cond (e != 0) (
 some (.inr (.inl e))) (
 let l:=(Int.ofNat (List.length a.2.1))
 let j:=(Int.ofNat (List.length a.2.2))
 cond (cond (decide (l>6)) true (decide (j>48))) (
 some (.inr (.inl 5))) (
 (B5 g 0 t o m d a.1 a.2.1 a.2.2 f ([]:(List ByteArray))).bind λn=>
 sumC n (λr=>
 some (.inr (.inl r))) (λb=>
 (B6 b.1 0 b.2.1 b.2.2.1 b.2.2.2.1 b.2.2.2.2.1 b.2.2.2.2.2.1 b.2.2.2.2.2.2.1 b.2.2.2.2.2.2.2.1 b.2.2.2.2.2.2.2.2).bind λp=>
 sumC p (λs=>
 some (.inr (.inl s))) (λc=>
 let i:=(w64 (c.1+1))
 some (.inl (i,c.2.1,c.2.2.1,c.2.2.2.1,c.2.2.2.2.1,c.2.2.2.2.2))))))) none) none) (
 some (.inr (.inr ())))
def B7[LP](e:Int)(f:ai)(b:ak)(c:aq)(a:aw)(d:(List ByteArray)):Option (Int ⊕ Unit):=
 LP.lp (unc6 (j2Q)) (e,f,b,c,a,d)
theorem R2(e f b c a d):B7 e f b c a d=lpK (j2Q e f b c a d) (λh=>B7 h.1 h.2.1 h.2.2.1 h.2.2.2.1 h.2.2.2.2.1 h.2.2.2.2.2):=bt _ _
def jcQ[LP](a:cL):Option (Int):=
 (B7 0 a.1 a.2.1 a.2.2.1 a.2.2.2 ([]:(List ByteArray))).bind λb=>
 sumC b (λc=>
 some c) (λd=>
 some 0)
def jaw[LP](a:cL):Option (Int):=
 let k:=(Int.ofNat (List.length a.1))
 let g:=(Int.ofNat (List.length a.2.1))
 let e:=(Int.ofNat (List.length a.2.2.1))
 let f:Bool:=(cond (cond (decide (k>16)) true (decide (g>32))) true (decide (e>8)))
 let j:=(Int.ofNat (List.length a.2.2.2))
 cond (cond f true (decide (j>12))) (
 some 5) (
 (jjA (a.1,(a.2.1,(a.2.2.1,a.2.2.2)))).bind λb=>
 cond (b != 0) (
 some b) (
 (jhr (a.1,(a.2.1,(a.2.2.1,a.2.2.2)))).bind λc=>
 cond (c != 0) (
 some c) (
 (jcP (a.1,(a.2.1,(a.2.2.1,a.2.2.2)))).bind λd=>
 cond (d != 0) (
 some d) (
 (jcQ (a.1,(a.2.1,(a.2.2.1,a.2.2.2)))).bind λi=>
 some i))))
def jmj(b:cL)(a:Int)(d:aS):Option (cL):=
 cond (decide (List.length ([]:aw)+List.length b.2.2.2<=aP)) (
 let c:aw:=(([]:aw)++b.2.2.2)
 cond (inR a (List.length c)) (
 let e:aw:=(List.set c (Int.toNat a) ((List.getD c (Int.toNat a) (ByteArray.empty,(([]:aV),([]:aS)))).1,((List.getD c (Int.toNat a) (ByteArray.empty,(([]:aV),([]:aS)))).2.1,d)))
 some (b.1,(b.2.1,(b.2.2.1,e)))) none) none
def jeh[LP](b:cL)(a:Int)(d:mH):Option (cL×Int):=
 (jaw (b.1,(b.2.1,(b.2.2.1,b.2.2.2)))).bind λj=>
 cond (j != 0) (
 some ((([]:ai),(([]:ak),(([]:aq),([]:aw)))),8)) (
 let l:=(Int.ofNat (List.length b.2.2.2))
 cond (cond (decide (a<0)) true (decide (a>=l))) (
 some ((([]:ai),(([]:ak),(([]:aq),([]:aw)))),3)) (
 cond (inR a (List.length b.2.2.2)) (
 let e:=(List.getD b.2.2.2 (Int.toNat a) (ByteArray.empty,(([]:aV),([]:aS))))
 cond (decide (List.length ([]:aS)+List.length e.2.2<=aP)) (
 let f:aS:=(([]:aS)++e.2.2)
 let g:aS:=[(d.1,(d.2.1,(d.2.2.1,(d.2.2.2.1,d.2.2.2.2))))]
 cond (decide (List.length f+List.length g<=aP)) (
 let k:aS:=(f++g)
 (jmj (b.1,(b.2.1,(b.2.2.1,b.2.2.2))) a k).bind λc=>
 (jaw (c.1,(c.2.1,(c.2.2.1,c.2.2.2)))).bind λi=>
 cond (i != 0) (
 some ((([]:ai),(([]:ak),(([]:aq),([]:aw)))),i)) (
 some ((c.1,(c.2.1,(c.2.2.1,c.2.2.2))),0))) none) none) none))
def j9v(a:hQ):Option (ByteArray):=
 some a.1
def jax(a:Int):Option (Bool):=
 some (cond (decide (a>=97)) (decide (a<=122)) false)
def jfw(a:Int):Option (Bool):=
 some (cond (decide (a>=48)) (decide (a<=57)) false)
def j64(d:ByteArray)(c b:Int):Option ((ByteArray×Int×Int) ⊕ (Bool ⊕ Unit)):=
 cond (decide (b<c)) (
 cond (inR b (ByteArray.size d)) (
 let a:=(cN d b)
 (jax a).bind λe=>
 cond (!e) (
 (jfw a).bind λg=>
 cond (cond (cond (!g) (a != 95) false) (a != 45) false) (
 some (.inr (.inl false))) (
 let i:=(w64 (b+1))
 some (.inl (d,c,i)))) (
 let f:=(w64 (b+1))
 some (.inl (d,c,f)))) none) (
 some (.inr (.inr ())))
def wR[LP](c:ByteArray)(b a:Int):Option (Bool ⊕ Unit):=
 LP.lp (unc3 (j64)) (c,b,a)
theorem ji8(c b a):wR c b a=lpK (j64 c b a) (λh=>wR h.1 h.2.1 h.2.2):=bt _ _
def j4Y[LP](a:ByteArray):Option (Bool):=
 let g:=(Int.ofNat (ByteArray.size a))
 let b:Bool:=(cond (ByteArray.toList a==ByteArray.toList ByteArray.empty) true (decide (g>24)))
 cond ((inR 0 (ByteArray.size a)) || !(!b)) (
 let e:=(cN a 0)
 cond b (
 some false) (
 (jax e).bind λd=>
 cond (!d) (
 some false) (
 let c:=(Int.ofNat (ByteArray.size a))
 (wR a c 0).bind λf=>
 sumC f (λi=>
 some i) (λj=>
 some true)))) none
def j5i[LP](b:ByteArray)(a:(List (ByteArray×Bool))):Option (Int×(List (ByteArray×Bool))):=
 (j4Y b).bind λc=>
 cond (!c) (
 some (2,a)) (
 cond (df false a b) (
 some (4,a)) (
 let d:(List (ByteArray×Bool)):=(fI a b true)
 some (0,d)))
def j9w(a c b:Int):Option (Bool):=
 some (cond (decide (a>=c)) (decide (a<=b)) false)
def jei(a:sF):Option (Int):=
 (j9w a.1 1970 2240).bind λi=>
 cond (!i) (
 some 1) (
 (j9w a.2.1 a.1 2240).bind λe=>
 cond (!e) (
 some 1) (
 (j9w a.2.2.1 1 12).bind λb=>
 cond (!b) (
 some 1) (
 (j9w a.2.2.2.1 1 5).bind λd=>
 cond (!d) (
 some 1) (
 (j9w a.2.2.2.2.1 0 6).bind λf=>
 cond (!f) (
 some 1) (
 (j9w a.2.2.2.2.2.1 0 86399).bind λc=>
 cond (!c) (
 some 1) (
 (j9w a.2.2.2.2.2.2 (-64800) 64800).bind λg=>
 cond (!g) (
 some 1) (
 some 0)))))))
def jhs(a:Int):Option (Bool):=
 let c:=(Int.tmod a 4)
 let d:=(Int.tmod a 100)
 let b:=(Int.tmod a 400)
 some (cond (c==0) (cond (d != 0) true (b==0)) false)
def j6C(c a:Int):Option (Int):=
 cond (cond (decide (a<1)) true (decide (a>12))) (
 some 0) (
 let e:(List Int):=[31,28,31,30,31,30,31,31,30,31,30,31]
 let j:(List Int):=(List.replicate 12 0)
 cond (a==2) (
 (jhs c).bind λg=>
 cond g (
 some 29) (
 let f:=(w64 (a-1))
 cond (inR f 12) (
 let i:=(List.getD e (Int.toNat f) 0)
 some i) none)) (
 let b:=(w64 (a-1))
 cond (inR b 12) (
 let d:=(List.getD e (Int.toNat b) 0)
 some d) none))
def jay(a:rk):Option (Bool):=
 cond (decide (a.1>=1970)) (
 cond (decide (a.1<=2240)) (
 cond (decide (a.2.2>=1)) (
 (j6C a.1 a.2.1).bind λb=>
 some (decide (a.2.2<=b))) (
 some false)) (
 some false)) (
 some false)
def j7s(b a:Int):Option (Int):=
 cond (!(a==0)) (
 let d:=(w64 (Int.tdiv b a))
 cond (!(a==0)) (
 let c:=(Int.tmod b a)
 cond (decide (c<0)) (
 let e:=(w64 (d-1))
 some e) (
 some d)) none) none
def j4y(a:Int):Option (Int):=
 let b:=(w64 (a-1))
 let l:=(w64 (a-1970))
 let k:=(w64 (365*l))
 (j7s b 4).bind λf=>
 let d:=(w64 (k+f))
 (j7s b 100).bind λe=>
 let j:=(w64 (d-e))
 (j7s b 400).bind λc=>
 let i:=(w64 (j+c))
 let g:=(w64 (i-477))
 some g
def j3j(g f i a e:Int):Option ((Int×Int×Int×Int×Int) ⊕ (Int)):=
 cond (decide (f<a)) (
 (j6C i f).bind λc=>
 let b:=(w64 (g+c))
 let d:=(w64 (f+1))
 some (.inl (b,d,i,a,e))) (
 some (.inr g))
def E8[LP](c d e a b:Int):Option (Int):=
 LP.lp (unc5 (j3j)) (c,d,e,a,b)
theorem R3(c d e a b):E8 c d e a b=lpK (j3j c d e a b) (λh=>E8 h.1 h.2.1 h.2.2.1 h.2.2.2.1 h.2.2.2.2):=bt _ _
def jbn[LP](a:rk):Option (Int):=
 (j4y a.1).bind λe=>
 let c:=(w64 (e+a.2.2))
 let b:=(w64 (c-1))
 (E8 b 1 a.1 a.2.1 a.2.2).bind λd=>
 some d
def j5o(a:Int):Option (Int):=
 let c:=(Int.tmod a 7)
 let b:=(w64 (c+10))
 let d:=(Int.tmod b 7)
 some d
def jgy[LP](d b c a:Int):Option (Int×Int):=
 (jay (d,(b,1))).bind λg=>
 let r:Bool:=(cond (cond (!g) true (decide (c<1))) true (decide (c>5)))
 let j:Bool:=(cond (cond r true (decide (a<0))) true (decide (a>6)))
 cond j (
 some (0,1)) (
 (jbn (d,(b,1))).bind λf=>
 (j5o f).bind λp=>
 let o:=(w64 (a-p))
 let t:=(w64 (o+7))
 let q:=(Int.tmod t 7)
 let m:=(w64 (f+q))
 let k:=(w64 (c-1))
 let i:=(w64 (7*k))
 let e:=(w64 (m+i))
 (j6C d b).bind λl=>
 let s:=(w64 (f+l))
 cond (decide (e>=s)) (
 let n:=(w64 (e-7))
 some (n,0)) (
 some (e,0)))
def j7t(a b:(Int×Int)):Option (Int):=
 let c:=(w64 (a.1-b.1))
 some c
def j0d(m q p b:Int)(a:af):Option ((Int×Int×Int×Int×af) ⊕ ((Int×Int×Int×af))):=
 cond (decide (b>m)) (
 cond (inR b (List.length a)) (
 let i:=(List.getD a (Int.toNat b) (0,0))
 let e:=(w64 (b-1))
 cond (inR e (List.length a)) (
 let j:=(List.getD a (Int.toNat e) (0,0))
 (j7t (i.1,i.2) (j.1,j.2)).bind λn=>
 cond (decide (n<0)) (
 let f:=(w64 (b-1))
 let k:=(w64 (b-1))
 cond (inR k (List.length a)) (
 let c:=(List.getD a (Int.toNat k) (0,0))
 cond (inR b (List.length a)) (
 let d:=(List.getD a (Int.toNat b) (0,0))
 cond (inR b (List.length a)) (
 let g:af:=(List.set a (Int.toNat b) (c.1,c.2))
 cond (inR f (List.length g)) (
 let o:af:=(List.set g (Int.toNat f) (d.1,d.2))
 let l:=(w64 (b-1))
 some (.inl (m,q,p,l,o))) none) none) none) none) (
 some (.inr (m,q,p,a)))) none) none) (
 some (.inr (m,q,p,a)))
def E9[LP](c e d b:Int)(a:af):Option ((Int×Int×Int×af)):=
 LP.lp (unc5 (j0d)) (c,e,d,b,a)
theorem R4(c e d b a):E9 c e d b a=lpK (j0d c e d b a) (λh=>E9 h.1 h.2.1 h.2.2.1 h.2.2.2.1 h.2.2.2.2):=bt _ _
def j0e[LP](f e c:Int)(d:af):Option ((Int×Int×Int×af) ⊕ (af)):=
 cond (decide (c<e)) (
 (E9 f e c c d).bind λa=>
 let b:=(w64 (a.2.2.1+1))
 some (.inl (a.1,a.2.1,b,a.2.2.2))) (
 some (.inr d))
def Fa[LP](d c b:Int)(a:af):Option (af):=
 LP.lp (unc4 (j0e)) (d,c,b,a)
theorem J1(b d c a):Fa b d c a=lpK (j0e b d c a) (λh=>Fa h.1 h.2.1 h.2.2.1 h.2.2.2):=bt _ _
def j0l[LP](a:af)(b c:Int):Option (af):=
 let d:=(w64 (b+1))
 (Fa b c d a).bind λe=>
 some e
def j0A[LP](e d g c:Int)(f:af):Option ((Int×Int×Int×Int×af) ⊕ ((Int×Int×Int×af))):=
 cond (decide (c<=e)) (
 (j0l f g c).bind λb=>
 let a:=(w64 (c+d))
 some (.inl (e,d,c,a,b))) (
 some (.inr (e,d,g,f)))
def Fb[LP](d b c e:Int)(a:af):Option ((Int×Int×Int×af)):=
 LP.lp (unc5 (j0A)) (d,b,c,e,a)
theorem j5K(d b c e a):Fb d b c e a=lpK (j0A d b c e a) (λh=>Fb h.1 h.2.1 h.2.2.1 h.2.2.2.1 h.2.2.2.2):=bt _ _
def j28(c a b f:Int)(e:af):Option ((Int×Int×Int×Int×af) ⊕ ((Int×Int×Int×af))):=
 cond (decide (f<=c)) (
 let d:=(w64 (b+a))
 none) (
 some (.inr (c,a,b,e)))
def j6j[LP](d b c e:Int)(a:af):Option ((Int×Int×Int×af)):=
 LP.lp (unc5 (j28)) (d,b,c,e,a)
def j0B[LP](g e:Int)(f:af):Option ((Int×Int×af) ⊕ (af)):=
 cond (decide (e<g)) (
 let b:=(w64 (2*e))
 (j6j g e 0 b f).bind λa=>
 let c:=(w64 (a.2.2.1+a.2.1))
 cond (decide (c<a.1)) (
 none) (
 let d:=(w64 (a.2.1*2))
 some (.inl (a.1,d,a.2.2.2)))) (
 some (.inr f))
def Fc[LP](c b:Int)(a:af):Option (af):=
 LP.lp (unc3 (j0B)) (c,b,a)
theorem j5L(c b a):Fc c b a=lpK (j0B c b a) (λh=>Fc h.1 h.2.1 h.2.2):=bt _ _
def j1K[LP](a:af)(c:Int):Option (af):=
 (Fb c 20 0 20 a).bind λb=>
 (j0l b.2.2.2 b.2.2.1 b.1).bind λd=>
 (Fc b.1 b.2.1 d).bind λe=>
 some e
def j0i[LP](a:af):Option (af):=
 let c:=(Int.ofNat (List.length a))
 (j1K a c).bind λb=>
 some b
def j1W(n:Int)(f:ba)(l c:Int)(m:ByteArray)(d:Int)(e:ba):Option ((Int×ba×Int×Int×ByteArray×Int×ba) ⊕ (Int ⊕ (Int×ByteArray×Int×ba))):=
 cond (decide (c<l)) (
 cond (inR c (List.length f)) (
 let a:=(List.getD f (Int.toNat c) (0,(0,(0,(0,(0,(0,0)))))))
 (jei (a.1,(a.2.1,(a.2.2.1,(a.2.2.2.1,(a.2.2.2.2.1,(a.2.2.2.2.2.1,a.2.2.2.2.2.2))))))).bind λb=>
 cond (b != 0) (
 some (.inr (.inl b))) (
 let k:=(w64 (a.2.1-a.1))
 let j:=(w64 (k+1))
 let g:=(w64 (n+j))
 let i:=(w64 (c+1))
 some (.inl (g,f,l,i,m,d,e)))) none) (
 some (.inr (.inr (n,m,d,e))))
def B8[LP](g:Int)(e:ba)(d c:Int)(f:ByteArray)(a:Int)(b:ba):Option (Int ⊕ (Int×ByteArray×Int×ba)):=
 LP.lp (unc7 (j1W)) (g,e,d,c,f,a,b)
theorem R5(g e d c f a b):B8 g e d c f a b=lpK (j1W g e d c f a b) (λh=>B8 h.1 h.2.1 h.2.2.1 h.2.2.2.1 h.2.2.2.2.1 h.2.2.2.2.2.1 h.2.2.2.2.2.2):=bt _ _
def j1X[LP](i:Int)(p:ba)(o q s c g e f a b:Int)(r:af):Option ((Int×ba×Int×Int×Int×Int×Int×Int×Int×Int×Int×af) ⊕ ((ba×Int×Int×af))):=
 cond (decide (i<=c)) (
 (jgy i g e f).bind λk=>
 let m:=(w64 (k.1*86400))
 let l:=(w64 (m+a))
 let d:af:=[(l,b)]
 cond (decide (List.length r+List.length d<=aP)) (
 let j:af:=(r++d)
 let n:=(w64 (i+1))
 some (.inl (n,p,o,q,s,c,g,e,f,a,b,j))) none) (
 some (.inr (p,o,q,r)))
def Fe[LP](i:Int)(j:ba)(g k l c f d e a b:Int)(m:af):Option ((ba×Int×Int×af)):=
 LP.lp (jvz (j1X)) (i,j,g,k,l,c,f,d,e,a,b,m)
theorem R6(i j g k l c f d e a b m):Fe i j g k l c f d e a b m=lpK (j1X i j g k l c f d e a b m) (λh=>Fe h.1 h.2.1 h.2.2.1 h.2.2.2.1 h.2.2.2.2.1 h.2.2.2.2.2.1 h.2.2.2.2.2.2.1 h.2.2.2.2.2.2.2.1 h.2.2.2.2.2.2.2.2.1 h.2.2.2.2.2.2.2.2.2.1 h.2.2.2.2.2.2.2.2.2.2.1 h.2.2.2.2.2.2.2.2.2.2.2):=bt _ _
def j1Y[LP](d:ba)(f c:Int)(g:af):Option ((ba×Int×Int×af) ⊕ (af)):=
 cond (decide (c<f)) (
 cond (inR c (List.length d)) (
 let a:=(List.getD d (Int.toNat c) (0,(0,(0,(0,(0,(0,0)))))))
 (Fe a.1 d f c a.1 a.2.1 a.2.2.1 a.2.2.2.1 a.2.2.2.2.1 a.2.2.2.2.2.1 a.2.2.2.2.2.2 g).bind λb=>
 let e:=(w64 (b.2.2.1+1))
 some (.inl (b.1,b.2.1,e,b.2.2.2))) none) (
 some (.inr g))
def B9[LP](a:ba)(c b:Int)(d:af):Option (af):=
 LP.lp (unc4 (j1Y)) (a,c,b,d)
theorem R7(b a c d):B9 b a c d=lpK (j1Y b a c d) (λh=>B9 h.1 h.2.1 h.2.2.1 h.2.2.2):=bt _ _
def j7m[LP](a:hQ):Option (af×Int):=
 (j9w a.2.1 (-64800) 64800).bind λb=>
 cond (!b) (
 some (([]:af),1)) (
 let d:=(Int.ofNat (List.length a.2.2))
 cond (decide (d>16)) (
 some (([]:af),5)) (
 let c:=(Int.ofNat (List.length a.2.2))
 (B8 0 a.2.2 c 0 a.1 a.2.1 a.2.2).bind λg=>
 sumC g (λk=>
 some (([]:af),k)) (λi=>
 cond (decide (i.1>640)) (
 some (([]:af),5)) (
 let f:=(Int.ofNat (List.length i.2.2.2))
 (B9 i.2.2.2 f 0 ([]:af)).bind λj=>
 (j0i j).bind λe=>
 some (e,0)))))
def j1Z(o m d:Int)(b f:af):Option ((Int×Int×Int×af×af) ⊕ (Int ⊕ af)):=
 cond (decide (d<m)) (
 cond (inR d (List.length f)) (
 let a:=(List.getD f (Int.toNat d) (0,0))
 cond (a.2==o) (
 let w:=(w64 (d+1))
 some (.inl (o,m,w,b,f))) (
 let c:=(w64 (a.1-o))
 let g:=(w64 (a.2-o))
 cond (cond (decide (g>=86400)) true (decide (g<=(-86400)))) (
 let v:=(Int.ofNat (List.length b))
 let n:=(Int.ofNat (List.length b))
 let l:=(w64 (n-1))
 cond ((inR l (List.length b)) || !((!true)&&(decide (v>0)))) (
 let u:=(List.getD b (Int.toNat l) (0,0)).1
 let x:=(w64 (u+604800))
 some (.inr (.inl 6))) none) (
 (j9w c 0 8589934592).bind λj=>
 let e:=(Int.ofNat (List.length b))
 let p:=(Int.ofNat (List.length b))
 let i:=(w64 (p-1))
 cond ((inR i (List.length b)) || !((!(!j))&&(decide (e>0)))) (
 let t:=(List.getD b (Int.toNat i) (0,0)).1
 let r:=(w64 (t+604800))
 cond (cond (!j) true (cond (decide (e>0)) (decide (c<r)) false)) (
 some (.inr (.inl 6))) (
 let k:af:=[(c,a.2)]
 cond (decide (List.length b+List.length k<=aP)) (
 let q:af:=(b++k)
 let s:=(w64 (d+1))
 some (.inl (a.2,m,s,q,f))) none)) none))) none) (
 some (.inr (.inr b)))
def Ca[LP](e c b:Int)(d a:af):Option (Int ⊕ af):=
 LP.lp (unc5 (j1Z)) (e,c,b,d,a)
theorem R8(e c b d a):Ca e c b d a=lpK (j1Z e c b d a) (λh=>Ca h.1 h.2.1 h.2.2.1 h.2.2.2.1 h.2.2.2.2):=bt _ _
def j3d[LP](a:hQ):Option (af×Int):=
 (j7m (a.1,(a.2.1,a.2.2))).bind λb=>
 cond (b.2 != 0) (
 some (([]:af),b.2)) (
 let c:=(Int.ofNat (List.length b.1))
 (Ca a.2.1 c 0 ([]:af) b.1).bind λd=>
 sumC d (λf=>
 some (([]:af),f)) (λe=>
 some (e,0)))
def jcj[LP](a:hQ):Option (Int):=
 (j3d (a.1,(a.2.1,a.2.2))).bind λb=>
 some b.2
def j6S(a:sF):Option (Bool):=
 let b:=(Int.tmod a.2.2.2.2.2.2 60)
 some (b != 0)
def j0f(e:ba)(f b:Int):Option ((ba×Int×Int) ⊕ (Int ⊕ Unit)):=
 cond (decide (b<f)) (
 cond (inR b (List.length e)) (
 let a:=(List.getD e (Int.toNat b) (0,(0,(0,(0,(0,(0,0)))))))
 (j6S (a.1,(a.2.1,(a.2.2.1,(a.2.2.2.1,(a.2.2.2.2.1,(a.2.2.2.2.2.1,a.2.2.2.2.2.2))))))).bind λc=>
 cond c (
 some (.inr (.inl b))) (
 let d:=(w64 (b+1))
 some (.inl (e,f,d)))) none) (
 some (.inr (.inr ())))
def Ff[LP](a:ba)(c b:Int):Option (Int ⊕ Unit):=
 LP.lp (unc3 (j0f)) (a,c,b)
theorem R9(a c b):Ff a c b=lpK (j0f a c b) (λh=>Ff h.1 h.2.1 h.2.2):=bt _ _
def j1e[LP](a:ba):Option (Int):=
 let c:=(Int.ofNat (List.length a))
 (Ff a c 0).bind λb=>
 sumC b (λd=>
 some d) (λe=>
 some (-1))
def j11[LP](a:ba):Option (Bool):=
 (j1e a).bind λb=>
 some (decide (b>=0))
def j4Z[LP](a:hQ):Option (Int):=
 (jcj (a.1,(a.2.1,a.2.2))).bind λd=>
 let c:=(Int.tmod a.2.1 60)
 cond (cond (d != 0) true (c != 0)) (
 some 8) (
 (j11 a.2.2).bind λb=>
 cond b (
 some 8) (
 some 0))
def j16[LP](e:ai)(i c:Int)(j:(List (ByteArray×Bool))):Option ((ai×Int×Int×(List (ByteArray×Bool))) ⊕ (Int ⊕ Unit)):=
 cond (decide (c<i)) (
 cond (inR c (List.length e)) (
 let a:=(List.getD e (Int.toNat c) (ByteArray.empty,(0,([]:ba))))
 (j9v (a.1,(a.2.1,a.2.2))).bind λg=>
 (j5i g j).bind λb=>
 cond (b.1 != 0) (
 some (.inr (.inl b.1))) (
 (j4Z (a.1,(a.2.1,a.2.2))).bind λd=>
 cond (d != 0) (
 some (.inr (.inl d))) (
 let f:=(w64 (c+1))
 some (.inl (e,i,f,b.2))))) none) (
 some (.inr (.inr ())))
def Cb[LP](b:ai)(a c:Int)(d:(List (ByteArray×Bool))):Option (Int ⊕ Unit):=
 LP.lp (unc4 (j16)) (b,a,c,d)
theorem Sa(b:ai)(c a:Int)(d:(List (ByteArray×Bool))):Cb b c a d=lpK (j16 b c a d) (λh=>Cb h.1 h.2.1 h.2.2.1 h.2.2.2):=bt _ _
def j3Z[LP](a:ai):Option (Int):=
 let b:(List (ByteArray×Bool)):=([]:(List (ByteArray×Bool)))
 let c:=(Int.ofNat (List.length a))
 (Cb a c 0 b).bind λd=>
 sumC d (λe=>
 some e) (λf=>
 some 0)
def j1u(a b:Int):Option (Bool):=
 some (cond (decide (a>=0)) (decide (a<b)) false)
def j4h(d j:af)(k b:Int):Option ((af×af×Int×Int) ⊕ (Int ⊕ Unit)):=
 cond (decide (b<k)) (
 cond (inR b (List.length j)) (
 let a:=(List.getD j (Int.toNat b) (0,0))
 let i:Bool:=(cond (cond (decide (a.1<0)) true (decide (a.1>=a.2))) true (decide (a.2>604800)))
 cond i (
 some (.inr (.inl 1))) (
 cond (decide (b>0)) (
 let c:=(w64 (b-1))
 cond (inR c (List.length d)) (
 let f:=(List.getD d (Int.toNat c) (0,0))
 cond (decide (a.1<f.2)) (
 some (.inr (.inl 6))) (
 let e:=(w64 (b+1))
 some (.inl (d,j,k,e)))) none) (
 let g:=(w64 (b+1))
 some (.inl (d,j,k,g))))) none) (
 some (.inr (.inr ())))
def Fg[LP](b c:af)(d a:Int):Option (Int ⊕ Unit):=
 LP.lp (unc4 (j4h)) (b,c,d,a)
theorem Sb(b d c a):Fg b d c a=lpK (j4h b d c a) (λh=>Fg h.1 h.2.1 h.2.2.1 h.2.2.2):=bt _ _
def jai[LP](a:af):Option (Int):=
 let d:=(Int.ofNat (List.length a))
 cond (decide (d>14)) (
 some 5) (
 let c:=(Int.ofNat (List.length a))
 (Fg a a c 0).bind λb=>
 sumC b (λe=>
 some e) (λf=>
 some 0))
def j6D(a c b:Int):Option (Bool):=
 some (cond (decide (a>=c)) (decide (a<=b)) false)
def j4i(a:Int):Option (Bool):=
 (j6D a 0 604800).bind λc=>
 let b:=(Int.tmod a 3600)
 some (cond c (b==0) false)
def j2B[LP](b:cL)(a:BJ):Option (Int):=
 let g:=(Int.ofNat (List.length b.1))
 (j1u a.2.1 g).bind λf=>
 cond (!f) (
 some 3) (
 (jai a.2.2.1).bind λc=>
 cond (c != 0) (
 some 8) (
 (j4i a.2.2.2.1).bind λe=>
 cond (!e) (
 some 1) (
 (j4i a.2.2.2.2.1).bind λd=>
 cond (!d) (
 some 1) (
 some 0))))
def j9x(a:p7):Option (ByteArray):=
 some a.1
def jbo(e c:Int):Option ((Int×Int) ⊕ (Int)):=
 let d:=(w64 (c+1))
 (j4y d).bind λb=>
 cond (decide (b<=e)) (
 let a:=(w64 (c+1))
 some (.inl (e,a))) (
 some (.inr c))
def J2[LP](a b:Int):Option (Int):=
 LP.lp (unc2 (jbo)) (a,b)
def jck[LP](a:Int):Option (Int):=
 (j7s a 366).bind λb=>
 let d:=(w64 (1970+b))
 (J2 a d).bind λc=>
 some c
def j9S(k l c d f a b:Int):Option ((Int×Int×Int×Int×Int×Int×Int) ⊕ ((Int×Int×Int×Int×Int×Int×Int))):=
 (j6C f a).bind λj=>
 cond (decide (k>=j)) (
 (j6C f a).bind λe=>
 let g:=(w64 (k-e))
 let i:=(w64 (a+1))
 some (.inl (g,l,c,d,f,i,b))) (
 some (.inr (k,l,c,d,f,a,b)))
def J3[LP](g e c d f a b:Int):Option ((Int×Int×Int×Int×Int×Int×Int)):=
 LP.lp (unc7 (j9S)) (g,e,c,d,f,a,b)
def j4j[LP](a:Int):Option (rk×Int):=
 (j4y 1970).bind λi=>
 cond (decide (a<i)) (
 some ((0,(0,0)),1)) (
 (j4y 2241).bind λg=>
 cond (decide (a>=g)) (
 some ((0,(0,0)),1)) (
 (jck a).bind λb=>
 (j4y b).bind λe=>
 let d:=(w64 (a-e))
 (J3 d 0 0 0 b 1 0).bind λc=>
 let f:=(w64 (c.1+1))
 some ((c.2.2.2.2.1,(c.2.2.2.2.2.1,f)),0)))
def j0t[LP](a:Int):Option (Bool):=
 (j4j a).bind λb=>
 some (b.2==0)
def j50[LP](a:Int):Option (Bool):=
 (j0t a).bind λb=>
 some (!b)
def j0Z[LP](e:(List Int))(f a:Int):Option (((List Int)×Int×Int) ⊕ (Int ⊕ Unit)):=
 cond (decide (a<f)) (
 cond (inR a (List.length e)) (
 let d:=(List.getD e (Int.toNat a) 0)
 (j50 d).bind λb=>
 cond b (
 some (.inr (.inl a))) (
 let c:=(w64 (a+1))
 some (.inl (e,f,c)))) none) (
 some (.inr (.inr ())))
def Fh[LP](a:(List Int))(c b:Int):Option (Int ⊕ Unit):=
 LP.lp (unc3 (j0Z)) (a,c,b)
theorem Sc(a c b):Fh a c b=lpK (j0Z a c b) (λh=>Fh h.1 h.2.1 h.2.2):=bt _ _
def j51[LP](a:(List Int)):Option (Int):=
 let c:=(Int.ofNat (List.length a))
 (Fh a c 0).bind λb=>
 sumC b (λd=>
 some d) (λe=>
 some (-1))
def j3O[LP](a:(List Int)):Option (Bool):=
 (j51 a).bind λb=>
 some (decide (b>=0))
def j1f(d b:Int)(k:ByteArray)(e:Int)(a:(List Int)):Option ((Int×Int×ByteArray×Int×(List Int)) ⊕ (Int ⊕ Unit)):=
 cond (decide (b<d)) (
 cond (decide (b>0)) (
 cond (inR b (List.length a)) (
 let f:=(List.getD a (Int.toNat b) 0)
 let c:=(w64 (b-1))
 cond (inR c (List.length a)) (
 let i:=(List.getD a (Int.toNat c) 0)
 cond (decide (f<=i)) (
 some (.inr (.inl 6))) (
 let g:=(w64 (b+1))
 some (.inl (d,g,k,e,a)))) none) none) (
 let j:=(w64 (b+1))
 some (.inl (d,j,k,e,a)))) (
 some (.inr (.inr ())))
def Fi[LP](d c:Int)(e:ByteArray)(b:Int)(a:(List Int)):Option (Int ⊕ Unit):=
 LP.lp (unc5 (j1f)) (d,c,e,b,a)
theorem Sd(d c e b a):Fi d c e b a=lpK (j1f d c e b a) (λh=>Fi h.1 h.2.1 h.2.2.1 h.2.2.2.1 h.2.2.2.2):=bt _ _
def j2R[LP](b:cL)(a:p7):Option (Int):=
 let c:=(Int.ofNat (List.length b.1))
 (j1u a.2.1 c).bind λd=>
 cond (!d) (
 some 3) (
 let e:=(Int.ofNat (List.length a.2.2))
 cond (decide (e>64)) (
 some 5) (
 (j3O a.2.2).bind λf=>
 cond f (
 some 1) (
 let g:=(Int.ofNat (List.length a.2.2))
 (Fi g 0 a.1 a.2.1 a.2.2).bind λi=>
 sumC i (λj=>
 some j) (λk=>
 some 0))))
def j9y[LP](a:p7)(f:ai)(b:ak)(c:aq)(d:aw):Option (Int):=
 (j2R (f,(b,(c,d))) (a.1,(a.2.1,a.2.2))).bind λe=>
 some e
def j0L[LP](m:ai)(g:ak)(i:aq)(e:aw)(f:aq)(l c:Int)(n:(List (ByteArray×Bool))):Option ((ai×ak×aq×aw×aq×Int×Int×(List (ByteArray×Bool))) ⊕ (Int ⊕ Unit)):=
 cond (decide (c<l)) (
 cond (inR c (List.length f)) (
 let a:=(List.getD f (Int.toNat c) (ByteArray.empty,(0,([]:(List Int)))))
 (j9x (a.1,(a.2.1,a.2.2))).bind λk=>
 (j5i k n).bind λb=>
 cond (b.1 != 0) (
 some (.inr (.inl b.1))) (
 (j9y (a.1,(a.2.1,a.2.2)) m g i e).bind λd=>
 cond (d != 0) (
 some (.inr (.inl d))) (
 let j:=(w64 (c+1))
 some (.inl (m,g,i,e,f,l,j,b.2))))) none) (
 some (.inr (.inr ())))
def Cc[LP](i:ai)(b:ak)(c:aq)(a:aw)(e:aq)(f d:Int)(g:(List (ByteArray×Bool))):Option (Int ⊕ Unit):=
 LP.lp (unc8 (j0L)) (i,b,c,a,e,f,d,g)
theorem Se(i:ai)(b:ak)(c:aq)(a:aw)(e:aq)(f d:Int)(g:(List (ByteArray×Bool))):Cc i b c a e f d g=lpK (j0L i b c a e f d g) (λh=>Cc h.1 h.2.1 h.2.2.1 h.2.2.2.1 h.2.2.2.2.1 h.2.2.2.2.2.1 h.2.2.2.2.2.2.1 h.2.2.2.2.2.2.2):=bt _ _
def j2u[LP](e:aq)(d:ai)(a:ak)(c:aq)(b:aw):Option (Int):=
 let f:(List (ByteArray×Bool)):=([]:(List (ByteArray×Bool)))
 let g:=(Int.ofNat (List.length e))
 (Cc d a c b e g 0 f).bind λi=>
 sumC i (λj=>
 some j) (λk=>
 some 0)
def j9z(a:lj):Option (ByteArray):=
 some a.1
def j52(a:h9):Option (ByteArray):=
 some a.1
def j6l(b:Int)(g:ai)(a:ak)(d:aq)(f:aw):Option (Bool):=
 let e:=(Int.ofNat (List.length a))
 (j1u b e).bind λc=>
 some (!c)
def j0F(i:(List Int))(k:ai)(a:ak)(c:aq)(b:aw)(j d:Int):Option (((List Int)×ai×ak×aq×aw×Int×Int) ⊕ (Int ⊕ Unit)):=
 cond (decide (d<j)) (
 cond (inR d (List.length i)) (
 let g:=(List.getD i (Int.toNat d) 0)
 (j6l g k a c b).bind λe=>
 cond e (
 some (.inr (.inl d))) (
 let f:=(w64 (d+1))
 some (.inl (i,k,a,c,b,j,f)))) none) (
 some (.inr (.inr ())))
def Fj[LP](d:(List Int))(f:ai)(a:ak)(c:aq)(b:aw)(e g:Int):Option (Int ⊕ Unit):=
 LP.lp (unc7 (j0F)) (d,f,a,c,b,e,g)
theorem Sf(d f a c b e g):Fj d f a c b e g=lpK (j0F d f a c b e g) (λh=>Fj h.1 h.2.1 h.2.2.1 h.2.2.2.1 h.2.2.2.2.1 h.2.2.2.2.2.1 h.2.2.2.2.2.2):=bt _ _
def j3P[LP](b:(List Int))(e:ai)(c:ak)(a:aq)(d:aw):Option (Int):=
 let g:=(Int.ofNat (List.length b))
 (Fj b e c a d g 0).bind λf=>
 sumC f (λi=>
 some i) (λj=>
 some (-1))
def j2S[LP](e:(List Int))(d:ai)(b:ak)(a:aq)(c:aw):Option (Bool):=
 (j3P e d b a c).bind λf=>
 some (decide (f>=0))
def j4l[LP](b:cL)(a:h9):Option (Int):=
 let p:=(Int.ofNat (List.length b.1))
 (j1u a.2.1 p).bind λl=>
 cond (!l) (
 some 3) (
 cond (decide (a.2.2.1.1<1)) (
 some 1) (
 (j0t a.2.2.1.1).bind λj=>
 cond (!j) (
 some 1) (
 (j6D a.2.2.1.2 0 86399).bind λk=>
 cond (!k) (
 some 1) (
 (j6D a.2.2.2.1 0 2).bind λe=>
 cond (!e) (
 some 1) (
 (j6D a.2.2.2.2.1 1 400).bind λf=>
 cond (!f) (
 some 1) (
 let m:=(Int.ofNat (List.length a.2.2.2.2.2.1))
 cond (m==0) (
 some 7) (
 let g:=(Int.ofNat (List.length a.2.2.2.2.2.1))
 cond (decide (g>12)) (
 some 5) (
 (j2S a.2.2.2.2.2.1 b.1 b.2.1 b.2.2.1 b.2.2.2).bind λc=>
 cond c (
 some 3) (
 (jai a.2.2.2.2.2.2.1).bind λd=>
 cond (d != 0) (
 some 8) (
 (j6D a.2.2.2.2.2.2.2.2 0 2).bind λi=>
 cond (!i) (
 some 1) (
 let o:=(Int.ofNat (List.length b.2.2.1))
 cond (a.2.2.2.2.2.2.2.2 != 0) (
 (j1u a.2.2.2.2.2.2.2.1 o).bind λn=>
 cond (!n) (
 some 3) (
 cond (cond (a.2.2.2.2.2.2.2.2==0) (a.2.2.2.2.2.2.2.1 != 0) false) (
 some 1) (
 some 0))) (
 cond (cond (a.2.2.2.2.2.2.2.2==0) (a.2.2.2.2.2.2.2.1 != 0) false) (
 some 1) (
 some 0)))))))))))))
def j53[LP](a:h9)(f:ai)(b:ak)(c:aq)(d:aw):Option (Int):=
 (j4l (f,(b,(c,d))) (a.1,(a.2.1,((a.2.2.1.1,a.2.2.1.2),(a.2.2.2.1,(a.2.2.2.2.1,(a.2.2.2.2.2.1,(a.2.2.2.2.2.2.1,(a.2.2.2.2.2.2.2.1,a.2.2.2.2.2.2.2.2))))))))).bind λe=>
 some e
def j12[LP](m:ai)(g:ak)(i:aq)(e:aw)(f:aV)(l c:Int)(n:(List (ByteArray×Bool))):Option ((ai×ak×aq×aw×aV×Int×Int×(List (ByteArray×Bool))) ⊕ (Int ⊕ Unit)):=
 cond (decide (c<l)) (
 cond (inR c (List.length f)) (
 let a:=(List.getD f (Int.toNat c) (ByteArray.empty,(0,((0,0),(0,(0,(([]:(List Int)),(([]:af),(0,0)))))))))
 (j52 (a.1,(a.2.1,((a.2.2.1.1,a.2.2.1.2),(a.2.2.2.1,(a.2.2.2.2.1,(a.2.2.2.2.2.1,(a.2.2.2.2.2.2.1,(a.2.2.2.2.2.2.2.1,a.2.2.2.2.2.2.2.2))))))))).bind λk=>
 (j5i k n).bind λb=>
 cond (b.1 != 0) (
 some (.inr (.inl b.1))) (
 (j53 (a.1,(a.2.1,((a.2.2.1.1,a.2.2.1.2),(a.2.2.2.1,(a.2.2.2.2.1,(a.2.2.2.2.2.1,(a.2.2.2.2.2.2.1,(a.2.2.2.2.2.2.2.1,a.2.2.2.2.2.2.2.2)))))))) m g i e).bind λd=>
 cond (d != 0) (
 some (.inr (.inl d))) (
 let j:=(w64 (c+1))
 some (.inl (m,g,i,e,f,l,j,b.2))))) none) (
 some (.inr (.inr ())))
def Cd[LP](i:ai)(b:ak)(c:aq)(a:aw)(e:aV)(f d:Int)(g:(List (ByteArray×Bool))):Option (Int ⊕ Unit):=
 LP.lp (unc8 (j12)) (i,b,c,a,e,f,d,g)
theorem Sh(i:ai)(b:ak)(c:aq)(a:aw)(e:aV)(f d:Int)(g:(List (ByteArray×Bool))):Cd i b c a e f d g=lpK (j12 i b c a e f d g) (λh=>Cd h.1 h.2.1 h.2.2.1 h.2.2.2.1 h.2.2.2.2.1 h.2.2.2.2.2.1 h.2.2.2.2.2.2.1 h.2.2.2.2.2.2.2):=bt _ _
def j3u[LP](e:aV)(d:ai)(a:ak)(c:aq)(b:aw):Option (Int):=
 let f:(List (ByteArray×Bool)):=([]:(List (ByteArray×Bool)))
 let g:=(Int.ofNat (List.length e))
 (Cd d a c b e g 0 f).bind λi=>
 sumC i (λj=>
 some j) (λk=>
 some 0)
def j54[LP](g:cL)(a:mH):Option (Int):=
 let k:=(Int.ofNat (List.length g.2.1))
 (j6D a.1 0 2).bind λm=>
 cond (!m) (
 some 1) (
 (j1u a.2.1 k).bind λf=>
 cond (cond (!f) (!(cond (a.1==1) (a.2.1==(-1)) false)) false) (
 cond (cond (!f) (!(cond (a.1==1) (a.2.1==(-1)) false)) false) (
 some 3) (
 cond (cond (a.1 != 2) (a.2.2.1 != 0) false) (
 some 1) (
 cond (cond (a.1==2) (a.2.1==a.2.2.1) false) (
 some 4) (
 let j:=(w64 (Int.tdiv a.2.2.2.2 86400))
 cond (cond (decide (a.2.2.2.1<0)) true (decide (a.2.2.2.2<0))) (
 some 1) (
 (j0t j).bind λl=>
 cond (!l) (
 some 1) (
 cond (decide (a.2.2.2.1>=a.2.2.2.2)) (
 some 6) (
 some 0))))))) (
 cond (a.1==2) (
 (j1u a.2.2.1 k).bind λi=>
 cond (!i) (
 some 3) (
 cond (cond (a.1 != 2) (a.2.2.1 != 0) false) (
 some 1) (
 cond (cond (a.1==2) (a.2.1==a.2.2.1) false) (
 some 4) (
 let d:=(w64 (Int.tdiv a.2.2.2.2 86400))
 cond (cond (decide (a.2.2.2.1<0)) true (decide (a.2.2.2.2<0))) (
 some 1) (
 (j0t d).bind λe=>
 cond (!e) (
 some 1) (
 cond (decide (a.2.2.2.1>=a.2.2.2.2)) (
 some 6) (
 some 0))))))) (
 cond (cond (a.1 != 2) (a.2.2.1 != 0) false) (
 some 1) (
 cond (cond (a.1==2) (a.2.1==a.2.2.1) false) (
 some 4) (
 let c:=(w64 (Int.tdiv a.2.2.2.2 86400))
 cond (cond (decide (a.2.2.2.1<0)) true (decide (a.2.2.2.2<0))) (
 some 1) (
 (j0t c).bind λb=>
 cond (!b) (
 some 1) (
 cond (decide (a.2.2.2.1>=a.2.2.2.2)) (
 some 6) (
 some 0))))))))
def j1h[LP](d:aS)(j c:Int)(k:ai)(e:ak)(g:aq)(f:aw):Option ((aS×Int×Int×ai×ak×aq×aw) ⊕ (Int ⊕ Unit)):=
 cond (decide (c<j)) (
 cond (inR c (List.length d)) (
 let a:=(List.getD d (Int.toNat c) (0,(0,(0,(0,0)))))
 (j54 (k,(e,(g,f))) (a.1,(a.2.1,(a.2.2.1,(a.2.2.2.1,a.2.2.2.2))))).bind λb=>
 cond (b != 0) (
 some (.inr (.inl b))) (
 let i:=(w64 (c+1))
 some (.inl (d,j,i,k,e,g,f)))) none) (
 some (.inr (.inr ())))
def Fk[LP](e:aS)(f d:Int)(g:ai)(a:ak)(c:aq)(b:aw):Option (Int ⊕ Unit):=
 LP.lp (unc7 (j1h)) (e,f,d,g,a,c,b)
theorem Si(e f d g a c b):Fk e f d g a c b=lpK (j1h e f d g a c b) (λh=>Fk h.1 h.2.1 h.2.2.1 h.2.2.2.1 h.2.2.2.2.1 h.2.2.2.2.2.1 h.2.2.2.2.2.2):=bt _ _
def j2T[LP](a:cL)(b:lj):Option (Int):=
 let d:=(Int.ofNat (List.length b.2.1))
 let f:=(Int.ofNat (List.length b.2.2))
 cond (cond (decide (d>6)) true (decide (f>48))) (
 some 5) (
 (j3u b.2.1 a.1 a.2.1 a.2.2.1 a.2.2.2).bind λc=>
 cond (c != 0) (
 some c) (
 let e:=(Int.ofNat (List.length b.2.2))
 (Fk b.2.2 e 0 a.1 a.2.1 a.2.2.1 a.2.2.2).bind λg=>
 sumC g (λi=>
 some i) (λj=>
 some 0)))
def j9A[LP](a:lj)(f:ai)(b:ak)(c:aq)(d:aw):Option (Int):=
 (j2T (f,(b,(c,d))) (a.1,(a.2.1,a.2.2))).bind λe=>
 some e
def j0M[LP](m:ai)(g:ak)(i:aq)(e f:aw)(l c:Int)(n:(List (ByteArray×Bool))):Option ((ai×ak×aq×aw×aw×Int×Int×(List (ByteArray×Bool))) ⊕ (Int ⊕ Unit)):=
 cond (decide (c<l)) (
 cond (inR c (List.length f)) (
 let a:=(List.getD f (Int.toNat c) (ByteArray.empty,(([]:aV),([]:aS))))
 (j9z (a.1,(a.2.1,a.2.2))).bind λk=>
 (j5i k n).bind λb=>
 cond (b.1 != 0) (
 some (.inr (.inl b.1))) (
 (j9A (a.1,(a.2.1,a.2.2)) m g i e).bind λd=>
 cond (d != 0) (
 some (.inr (.inl d))) (
 let j:=(w64 (c+1))
 some (.inl (m,g,i,e,f,l,j,b.2))))) none) (
 some (.inr (.inr ())))
def Ce[LP](i:ai)(b:ak)(c:aq)(a e:aw)(f d:Int)(g:(List (ByteArray×Bool))):Option (Int ⊕ Unit):=
 LP.lp (unc8 (j0M)) (i,b,c,a,e,f,d,g)
theorem Sj(i:ai)(b:ak)(c:aq)(a e:aw)(f d:Int)(g:(List (ByteArray×Bool))):Ce i b c a e f d g=lpK (j0M i b c a e f d g) (λh=>Ce h.1 h.2.1 h.2.2.1 h.2.2.2.1 h.2.2.2.2.1 h.2.2.2.2.2.1 h.2.2.2.2.2.2.1 h.2.2.2.2.2.2.2):=bt _ _
def j45[LP](e:aw)(d:ai)(a:ak)(c:aq)(b:aw):Option (Int):=
 let f:(List (ByteArray×Bool)):=([]:(List (ByteArray×Bool)))
 let g:=(Int.ofNat (List.length e))
 (Ce d a c b e g 0 f).bind λi=>
 sumC i (λj=>
 some j) (λk=>
 some 0)
def j2U[LP](g:ak)(i f:Int)(j:ai)(d:ak)(e:aq)(c:aw)(r:(List (ByteArray×Bool))):Option ((ak×Int×Int×ai×ak×aq×aw×(List (ByteArray×Bool))) ⊕ (Int ⊕ (ai×ak×aq×aw))):=
 cond (decide (f<i)) (
 cond (inR f (List.length g)) (
 let a:=(List.getD g (Int.toNat f) (ByteArray.empty,(0,(([]:af),(0,(0,false))))))
 (j5i a.1 r).bind λb=>
 let q:Bool:=(ByteArray.toList a.1==ByteArray.toList (ByteArray.mk #[110,111,98,111,100,121]))
 cond q (
 cond (2==0) (
 (j2B (j,(d,(e,c))) (a.1,(a.2.1,(a.2.2.1,(a.2.2.2.1,(a.2.2.2.2.1,a.2.2.2.2.2)))))).bind λk=>
 cond (k != 0) (
 some (.inr (.inl k))) (
 let o:=(w64 (f+1))
 some (.inl (g,i,o,j,d,e,c,b.2)))) (
 cond (2 != 0) (
 some (.inr (.inl 2))) (
 let p:=(w64 (f+1))
 some (.inl (g,i,p,j,d,e,c,b.2))))) (
 cond (b.1==0) (
 (j2B (j,(d,(e,c))) (a.1,(a.2.1,(a.2.2.1,(a.2.2.2.1,(a.2.2.2.2.1,a.2.2.2.2.2)))))).bind λl=>
 cond (l != 0) (
 some (.inr (.inl l))) (
 let m:=(w64 (f+1))
 some (.inl (g,i,m,j,d,e,c,b.2)))) (
 cond (b.1 != 0) (
 some (.inr (.inl b.1))) (
 let n:=(w64 (f+1))
 some (.inl (g,i,n,j,d,e,c,b.2)))))) none) (
 some (.inr (.inr (j,d,e,c))))
def Cf[LP](d:ak)(f e:Int)(i:ai)(b:ak)(c:aq)(a:aw)(g:(List (ByteArray×Bool))):Option (Int ⊕ (ai×ak×aq×aw)):=
 LP.lp (unc8 (j2U)) (d,f,e,i,b,c,a,g)
theorem Sk(d:ak)(f e:Int)(i:ai)(b:ak)(c:aq)(a:aw)(g:(List (ByteArray×Bool))):Cf d f e i b c a g=lpK (j2U d f e i b c a g) (λh=>Cf h.1 h.2.1 h.2.2.1 h.2.2.2.1 h.2.2.2.2.1 h.2.2.2.2.2.1 h.2.2.2.2.2.2.1 h.2.2.2.2.2.2.2):=bt _ _
def j7X[LP](a:cL):Option (Int):=
 let f:=(Int.ofNat (List.length a.1))
 let m:=(Int.ofNat (List.length a.2.1))
 let e:=(Int.ofNat (List.length a.2.2.1))
 let g:Bool:=(cond (cond (decide (f>16)) true (decide (m>32))) true (decide (e>8)))
 let k:=(Int.ofNat (List.length a.2.2.2))
 cond (cond g true (decide (k>12))) (
 some 5) (
 (j3Z a.1).bind λd=>
 cond (d != 0) (
 some d) (
 let i:(List (ByteArray×Bool)):=([]:(List (ByteArray×Bool)))
 let j:=(Int.ofNat (List.length a.2.1))
 (Cf a.2.1 j 0 a.1 a.2.1 a.2.2.1 a.2.2.2 i).bind λn=>
 sumC n (λo=>
 some o) (λb=>
 (j2u b.2.2.1 b.1 b.2.1 b.2.2.1 b.2.2.2).bind λc=>
 cond (c != 0) (
 some c) (
 (j45 b.2.2.2 b.1 b.2.1 b.2.2.1 b.2.2.2).bind λl=>
 some l))))
def jfx[LP](a:hQ):Option (eU×Int):=
 (j3d (a.1,(a.2.1,a.2.2))).bind λb=>
 some ((a.2.1,b.1),b.2)
def j3Q[LP](i:ai)(j d:Int)(g:cD):Option ((ai×Int×Int×cD) ⊕ (cD)):=
 cond (decide (d<j)) (
 cond (inR d (List.length i)) (
 let a:=(List.getD i (Int.toNat d) (ByteArray.empty,(0,([]:ba))))
 (jfx (a.1,(a.2.1,a.2.2))).bind λc=>
 let b:cD:=[(c.1.1,c.1.2)]
 cond (decide (List.length g+List.length b<=aP)) (
 let f:cD:=(g++b)
 let e:=(w64 (d+1))
 some (.inl (i,j,e,f))) none) none) (
 some (.inr g))
def Cg[LP](c:ai)(b a:Int)(d:cD):Option (cD):=
 LP.lp (unc4 (j3Q)) (c,b,a,d)
theorem Sl(d b a c):Cg d b a c=lpK (j3Q d b a c) (λh=>Cg h.1 h.2.1 h.2.2.1 h.2.2.2):=bt _ _
def jfy[LP](a:ai):Option (cD):=
 let b:=(Int.ofNat (List.length a))
 (Cg a b 0 ([]:cD)).bind λc=>
 some c
def jgz[LP](a:cL):Option (lu):=
 (jfy a.1).bind λb=>
 some ((a.1,(a.2.1,(a.2.2.1,a.2.2.2))),b)
def jmk[LP](a:cL):Option (lu×Bool):=
 (j7X (a.1,(a.2.1,(a.2.2.1,a.2.2.2)))).bind λc=>
 cond (c != 0) (
 some (((([]:ai),(([]:ak),(([]:aq),([]:aw)))),([]:cD)),false)) (
 (jgz (a.1,(a.2.1,(a.2.2.1,a.2.2.2)))).bind λb=>
 some (((b.1.1,(b.1.2.1,(b.1.2.2.1,b.1.2.2.2))),b.2),true))
def jfz(b:cL)(a:Int):Option (Bool):=
 let c:=(Int.ofNat (List.length b.2.2.2))
 some (cond (decide (a>=0)) (decide (a<c)) false)
def jht(a b:Int):Option (Bool):=
 let c:Bool:=(cond (cond (decide (a>=0)) (decide (a<=8589934592)) false) (decide (b>=a)) false)
 let d:=(w64 (b-a))
 let e:Bool:=(cond (cond c (decide (b<=8589934592)) false) (decide (d<=34560000)) false)
 some e
def jaB[LP](b:cL)(c d e:Int):Option (lu×Int):=
 (jmk (b.1,(b.2.1,(b.2.2.1,b.2.2.2)))).bind λa=>
 cond (!a.2) (
 some (((a.1.1.1,(a.1.1.2.1,(a.1.1.2.2.1,a.1.1.2.2.2))),a.1.2),8)) (
 (jfz (b.1,(b.2.1,(b.2.2.1,b.2.2.2))) c).bind λf=>
 cond (!f) (
 some (((a.1.1.1,(a.1.1.2.1,(a.1.1.2.2.1,a.1.1.2.2.2))),a.1.2),3)) (
 (jht d e).bind λg=>
 cond (!g) (
 some (((a.1.1.1,(a.1.1.2.1,(a.1.1.2.2.1,a.1.1.2.2.2))),a.1.2),1)) (
 some (((a.1.1.1,(a.1.1.2.1,(a.1.1.2.2.1,a.1.1.2.2.2))),a.1.2),0))))
def j6T(a:(List Int)):Option ((List Int)):=
 cond (decide (List.length ([]:List (Int))+List.length a<=aP)) (
 some (([]:List (Int))++a)) none
def j9e(a c b:Int):Option (Bool):=
 some (cond (decide (a<=c)) true (decide (a>=b)))
def j0G(i a g c:Int)(b:(List Int)):Option ((Int×Int×Int×Int×(List Int)) ⊕ (nP ⊕ (List Int))):=
 cond (decide (c<g)) (
 cond (inR c (List.length b)) (
 let f:=(List.getD b (Int.toNat c) 0)
 (j9e f i a).bind λd=>
 cond d (
 some (.inr (.inl (c,b)))) (
 let e:=(w64 (c+1))
 some (.inl (i,a,g,e,b)))) none) (
 some (.inr (.inr b)))
def Ci[LP](d a c e:Int)(b:(List Int)):Option (nP ⊕ (List Int)):=
 LP.lp (unc5 (j0G)) (d,a,c,e,b)
theorem Sn(d a c e b):Ci d a c e b=lpK (j0G d a c e b) (λh=>Ci h.1 h.2.1 h.2.2.1 h.2.2.2.1 h.2.2.2.2):=bt _ _
def j3R[LP](a:(List Int))(c b:Int):Option nP:=
 let e:=(Int.ofNat (List.length a))
 (Ci c b e 0 a).bind λd=>
 sumC d (λf=>
 some (f.1,f.2)) (λg=>
 some ((-1),g))
def j0S(m a e d:Int)(b:(List Int)):Option ((Int×Int×Int×Int×(List Int)) ⊕ (nP)):=
 let g:=(Int.ofNat (List.length b))
 cond (decide (d<g)) (
 cond (inR d (List.length b)) (
 let c:=(List.getD b (Int.toNat d) 0)
 (j9e c m a).bind λk=>
 cond (!k) (
 cond (inR e (List.length b)) (
 let l:(List Int):=(List.set b (Int.toNat e) c)
 let f:=(w64 (e+1))
 let j:=(w64 (d+1))
 some (.inl (m,a,f,j,l))) none) (
 let i:=(w64 (d+1))
 some (.inl (m,a,e,i,b)))) none) (
 some (.inr (e,b)))
def Fl[LP](d a e c:Int)(b:(List Int)):Option (nP):=
 LP.lp (unc5 (j0S)) (d,a,e,c,b)
theorem Sp(d a e c b):Fl d a e c b=lpK (j0S d a e c b) (λh=>Fl h.1 h.2.1 h.2.2.1 h.2.2.2.1 h.2.2.2.2):=bt _ _
def j2K[LP](e:(List Int))(d a:Int):Option nP:=
 (j3R e d a).bind λc=>
 cond (c.1==(-1)) (
 some ((Int.ofNat (List.length c.2)),c.2)) (
 let f:=(w64 (c.1+1))
 (Fl d a c.1 f c.2).bind λb=>
 cond (decide (0<=b.1)&&decide (b.1<=(Int.ofNat (List.length b.2)))) (
 let g:(List Int):=(List.take (Int.toNat b.1) b.2++List.replicate (List.length b.2-(Int.toNat b.1)) 0)
 cond (decide (0<=b.1)&&decide (b.1<=(Int.ofNat (List.length g)))) (
 some ((Int.ofNat (Int.toNat b.1)),g)) none) none)
def j5q(a:(List Int)):Option ((List Int)):=
 wP a
def j18(e b c:Int)(a:(List Int)):Option ((Int×Int×Int×(List Int)) ⊕ (nP)):=
 let k:=(Int.ofNat (List.length a-(Int.toNat b)))
 cond (decide (c<k)) (
 cond (inR c (List.length a-(Int.toNat b))) (
 let l:=(List.getD a ((Int.toNat b)+(Int.toNat c)) 0)
 let d:=(w64 (c-1))
 cond (inR d (List.length a-(Int.toNat b))) (
 let i:=(List.getD a ((Int.toNat b)+(Int.toNat d)) 0)
 cond (l != i) (
 cond (inR c (List.length a-(Int.toNat b))) (
 let g:=(List.getD a ((Int.toNat b)+(Int.toNat c)) 0)
 cond (inR e (List.length a)) (
 let n:(List Int):=(List.set a (Int.toNat e) g)
 let j:=(w64 (e+1))
 let m:=(w64 (c+1))
 some (.inl (j,(Int.ofNat (Int.toNat b)),m,n))) none) none) (
 let f:=(w64 (c+1))
 some (.inl (e,(Int.ofNat (Int.toNat b)),f,a)))) none) none) (
 some (.inr (e,a)))
def Cj[LP](d c b:Int)(a:(List Int)):Option (nP):=
 LP.lp (unc4 (j18)) (d,c,b,a)
theorem Sq(b c d a):Cj b c d a=lpK (j18 b c d a) (λh=>Cj h.1 h.2.1 h.2.2.1 h.2.2.2):=bt _ _
def j19[LP](c:Int)(b:(List Int)):Option (nP ⊕ (nP ⊕ (List Int))):=
 let f:=(Int.ofNat (List.length b))
 cond (decide (c<f)) (
 cond (inR c (List.length b)) (
 let j:=(List.getD b (Int.toNat c) 0)
 let d:=(w64 (c-1))
 cond (inR d (List.length b)) (
 let i:=(List.getD b (Int.toNat d) 0)
 cond (j==i) (
 cond (decide (0<=c)&&decide (c<=(Int.ofNat (List.length b)))) (
 (Cj c (Int.ofNat (Int.toNat c)) 1 b).bind λa=>
 cond (decide (0<=a.1)&&decide (a.1<=(Int.ofNat (List.length a.2)))) (
 let e:(List Int):=(List.take (Int.toNat a.1) a.2++List.replicate (List.length a.2-(Int.toNat a.1)) 0)
 cond (decide (0<=a.1)&&decide (a.1<=(Int.ofNat (List.length e)))) (
 some (.inr (.inl ((Int.ofNat (Int.toNat a.1)),e)))) none) none) none) (
 let g:=(w64 (c+1))
 some (.inl (g,b)))) none) none) (
 some (.inr (.inr b)))
def wS[LP](b:Int)(a:(List Int)):Option (nP ⊕ (List Int)):=
 LP.lp (unc2 (j19)) (b,a)
theorem Sr(b a):wS b a=lpK (j19 b a) (λh=>wS h.1 h.2):=bt _ _
def j40[LP](a:(List Int)):Option nP:=
 let c:=(Int.ofNat (List.length a))
 cond (decide (c<2)) (
 some ((Int.ofNat (List.length a)),a)) (
 (wS 1 a).bind λb=>
 sumC b (λe=>
 some ((Int.ofNat (Int.toNat e.1)),e.2)) (λd=>
 some ((Int.ofNat (List.length d)),d)))
def jgA[LP](f:(List Int))(b a:Int):Option ((List Int)):=
 (j6T f).bind λk=>
 (j2K k b a).bind λe=>
 let g:(List Int):=(List.take (Int.toNat e.1) e.2)
 (j5q g).bind λi=>
 (j40 i).bind λc=>
 let d:(List Int):=(List.take (Int.toNat c.1) c.2)
 cond (decide (List.length d+List.length [a]<=aP)) (
 let j:(List Int):=(d++[a])
 some j) none
def j1Q(a:aV):Option (aV):=
 some a
def j8C(a:h9):Option (Int):=
 cond (a.2.2.2.1==2) (
 let b:=(w64 (7*a.2.2.2.2.1))
 some b) (
 some a.2.2.2.2.1)
def j7u(b e:Int)(a:af)(d:Int):Option (Bool):=
 cond (inR b (List.length a)) (
 let c:=(List.getD a (Int.toNat b) (0,0))
 some (decide (c.1>d))) none
def j2C(l:Int)(a:af)(b i k:Int):Option ((Int×af×Int×Int×Int) ⊕ (Int)):=
 cond (decide (i<k)) (
 let g:=(w64 (i+k))
 let d:Int:=(IntKind.wrap .u64 g)
 let j:Int:=(Int.fdiv d 2)
 let c:=(w64 j)
 (j7u c l a b).bind λe=>
 cond (!e) (
 let f:=(w64 (c+1))
 some (.inl (l,a,b,f,k))) (
 some (.inl (l,a,b,i,c)))) (
 some (.inr i))
def Fm[LP](d:Int)(a:af)(b e c:Int):Option (Int):=
 LP.lp (unc5 (j2C)) (d,a,b,e,c)
theorem Ss(d a b e c):Fm d a b e c=lpK (j2C d a b e c) (λh=>Fm h.1 h.2.1 h.2.2.1 h.2.2.2.1 h.2.2.2.2):=bt _ _
def jfA[LP](d c:Int)(b:af)(a:Int):Option (Int):=
 (Fm c b a 0 d).bind λe=>
 some e
def j5O[LP](a:eU)(b:Int):Option (Int):=
 let c:=(Int.ofNat (List.length a.2))
 (jfA c a.1 a.2 b).bind λd=>
 some d
def j3G(a:eU)(b:Int):Option (Int):=
 cond (b==0) (
 some a.1) (
 let c:=(w64 (b-1))
 cond (inR c (List.length a.2)) (
 let d:=(List.getD a.2 (Int.toNat c) (0,0))
 some d.2) none)
def j0s[LP](n c j:Int)(a:af)(i:ae):Option ((Int×Int×Int×af×ae) ⊕ (ae)):=
 cond (decide (n<c)) (
 (j5O (j,a) n).bind λb=>
 let k:=(Int.ofNat (List.length a))
 cond (decide (b<k)) (
 cond (inR b (List.length a)) (
 let f:=(List.getD a (Int.toNat b) (0,0))
 let e:Int:=(if f.1<c then f.1 else c:Int)
 (j3G (j,a) b).bind λp=>
 let d:ae:=[(n,(e,p))]
 cond (decide (List.length i+List.length d<=aP)) (
 let l:ae:=(i++d)
 some (.inl (e,c,j,a,l))) none) none) (
 (j3G (j,a) b).bind λm=>
 let g:ae:=[(n,(c,m))]
 cond (decide (List.length i+List.length g<=aP)) (
 let o:ae:=(i++g)
 some (.inl (c,c,j,a,o))) none)) (
 some (.inr i))
def yr[LP](b d e:Int)(a:af)(c:ae):Option (ae):=
 LP.lp (unc5 (j0s)) (b,d,e,a,c)
theorem yt(b d e a c):yr b d e a c=lpK (j0s b d e a c) (λh=>yr h.1 h.2.1 h.2.2.1 h.2.2.2.1 h.2.2.2.2):=bt _ _
def j1w[LP](b:eU)(a c:Int):Option (ae):=
 (yr a c b.1 b.2 ([]:ae)).bind λd=>
 some d
def j3D(a:(Int×Int)):Option (Int):=
 let b:Int:=(if (-1048576)>a.1 then (-1048576) else a.1:Int)
 let e:Int:=(if 1048576<b then 1048576 else b:Int)
 let d:=(w64 (e*86400))
 let c:=(w64 (d+a.2))
 some c
def j13(j c k f:Int)(e:ae):Option ((Int×Int×Int×Int×ae) ⊕ ((Int×Bool) ⊕ Unit)):=
 cond (decide (c<j)) (
 cond (inR c (List.length e)) (
 let a:=(List.getD e (Int.toNat c) (0,(0,0)))
 (j3D (k,f)).bind λi=>
 let b:=(w64 (i-a.2.2))
 let d:Int:=(if b>a.1 then b else a.1:Int)
 cond (decide (d<a.2.1)) (
 some (.inr (.inl (d,true)))) (
 let g:=(w64 (c+1))
 some (.inl (j,g,k,f,e)))) none) (
 some (.inr (.inr ())))
def Ck[LP](b c e a:Int)(d:ae):Option ((Int×Bool) ⊕ Unit):=
 LP.lp (unc5 (j13)) (b,c,e,a,d)
theorem Fo(b c e a d):Ck b c e a d=lpK (j13 b c e a d) (λh=>Ck h.1 h.2.1 h.2.2.1 h.2.2.2.1 h.2.2.2.2):=bt _ _
def j2s[LP](b:eU)(a:(Int×Int)):Option (Int×Bool):=
 (j1w (b.1,b.2) 0 8589934593).bind λc=>
 let d:=(Int.ofNat (List.length c))
 (Ck d 0 a.1 a.2 c).bind λe=>
 sumC e (λf=>
 some (f.1,f.2)) (λg=>
 some (0,false))
def j0D[LP](b:eU)(a:h9)(c:Int):Option (Int×Bool):=
 cond (decide (c>8589934592)) (
 some (0,false)) (
 cond (a.2.2.2.1 != 0) (
 (j8C (a.1,(a.2.1,((a.2.2.1.1,a.2.2.1.2),(a.2.2.2.1,(a.2.2.2.2.1,(a.2.2.2.2.2.1,(a.2.2.2.2.2.2.1,(a.2.2.2.2.2.2.2.1,a.2.2.2.2.2.2.2.2))))))))).bind λk=>
 let l:=(w64 (c*k))
 let g:=(w64 (a.2.2.1.1+l))
 (j2s (b.1,b.2) (g,a.2.2.1.2)).bind λf=>
 some (f.1,f.2)) (
 (j2s (b.1,b.2) (a.2.2.1.1,a.2.2.1.2)).bind λe=>
 let j:=(w64 (3600*a.2.2.2.2.1))
 let i:=(w64 (j*c))
 let d:=(w64 (e.1+i))
 some (d,(cond e.2 (decide (d<=8589934592)) false))))
def j2V(a:af):Option (af):=
 cond (decide (List.length ([]:List ((Int×Int)))+List.length a<=aP)) (
 some (([]:List ((Int×Int)))++a)) none
def j7Y(a:(Int×Int)):Option (Bool):=
 some (decide (a.2<=a.1))
def j0p(f c:Int)(b:af):Option ((Int×Int×af) ⊕ (eU ⊕ af)):=
 cond (decide (c<f)) (
 cond (inR c (List.length b)) (
 let a:=(List.getD b (Int.toNat c) (0,0))
 (j7Y (a.1,a.2)).bind λd=>
 cond d (
 some (.inr (.inl (c,b)))) (
 let e:=(w64 (c+1))
 some (.inl (f,e,b)))) none) (
 some (.inr (.inr b)))
def Cl[LP](c b:Int)(a:af):Option (eU ⊕ af):=
 LP.lp (unc3 (j0p)) (c,b,a)
theorem Su(c b a):Cl c b a=lpK (j0p c b a) (λh=>Cl h.1 h.2.1 h.2.2):=bt _ _
def j24[LP](a:af):Option eU:=
 let c:=(Int.ofNat (List.length a))
 (Cl c 0 a).bind λb=>
 sumC b (λd=>
 some (d.1,d.2)) (λe=>
 some ((-1),e))
def j0m(d c:Int)(b:af):Option ((Int×Int×af) ⊕ (eU)):=
 let f:=(Int.ofNat (List.length b))
 cond (decide (c<f)) (
 cond (inR c (List.length b)) (
 let a:=(List.getD b (Int.toNat c) (0,0))
 (j7Y (a.1,a.2)).bind λj=>
 cond (!j) (
 cond (inR d (List.length b)) (
 let k:af:=(List.set b (Int.toNat d) (a.1,a.2))
 let e:=(w64 (d+1))
 let i:=(w64 (c+1))
 some (.inl (e,i,k))) none) (
 let g:=(w64 (c+1))
 some (.inl (d,g,b)))) none) (
 some (.inr (d,b)))
def Fp[LP](c b:Int)(a:af):Option (eU):=
 LP.lp (unc3 (j0m)) (c,b,a)
theorem Sv(c b a):Fp c b a=lpK (j0m c b a) (λh=>Fp h.1 h.2.1 h.2.2):=bt _ _
def j1b[LP](c:af):Option eU:=
 (j24 c).bind λb=>
 cond (b.1==(-1)) (
 some ((Int.ofNat (List.length b.2)),b.2)) (
 let d:=(w64 (b.1+1))
 (Fp b.1 d b.2).bind λa=>
 cond (decide (0<=a.1)&&decide (a.1<=(Int.ofNat (List.length a.2)))) (
 let e:af:=(List.take (Int.toNat a.1) a.2++List.replicate (List.length a.2-(Int.toNat a.1)) (0,0))
 cond (decide (0<=a.1)&&decide (a.1<=(Int.ofNat (List.length e)))) (
 some ((Int.ofNat (Int.toNat a.1)),e)) none) none)
def j6E(a b:(Int×Int)):Option (Int):=
 let c:=(w64 (a.1-b.1))
 some c
def j0J(a:af):Option (af):=
 uu ((.pair (.int .i64) (.int .i64))) (λc b=>(j6E c b).getD 0) a
def j39(m d:Int)(b f:af):Option ((Int×Int×af×af) ⊕ (af)):=
 cond (decide (d<m)) (
 cond (inR d (List.length f)) (
 let a:=(List.getD f (Int.toNat d) (0,0))
 let c:=(Int.ofNat (List.length b))
 cond (decide (c>0)) (
 let i:=(w64 (c-1))
 cond (inR i (List.length b)) (
 let q:=(List.getD b (Int.toNat i) (0,0)).2
 cond (decide (a.1<=q)) (
 let e:=(w64 (c-1))
 let g:=(w64 (c-1))
 cond (inR g (List.length b)) (
 let l:=(List.getD b (Int.toNat g) (0,0)).2
 let t:Int:=(if a.2>l then a.2 else l:Int)
 cond (inR e (List.length b)) (
 let r:af:=(List.set b (Int.toNat e) ((List.getD b (Int.toNat e) (0,0)).1,t))
 let s:=(w64 (d+1))
 some (.inl (m,s,r,f))) none) none) (
 let j:af:=[(a.1,a.2)]
 cond (decide (List.length b+List.length j<=aP)) (
 let n:af:=(b++j)
 let p:=(w64 (d+1))
 some (.inl (m,p,n,f))) none)) none) (
 let k:af:=[(a.1,a.2)]
 cond (decide (List.length b+List.length k<=aP)) (
 let u:af:=(b++k)
 let o:=(w64 (d+1))
 some (.inl (m,o,u,f))) none)) none) (
 some (.inr b))
def Cm[LP](a b:Int)(d c:af):Option (af):=
 LP.lp (unc4 (j39)) (a,b,d,c)
theorem J4(c a d b):Cm c a d b=lpK (j39 c a d b) (λh=>Cm h.1 h.2.1 h.2.2.1 h.2.2.2):=bt _ _
def j8D[LP](c:af):Option (af):=
 (j2V c).bind λg=>
 (j1b g).bind λa=>
 let d:af:=(List.take (Int.toNat a.1) a.2)
 (j0J d).bind λb=>
 let e:=(Int.ofNat (List.length b))
 (Cm e 0 ([]:af) b).bind λf=>
 some f
def j3k(u:af)(c r q:Int)(k:af)(p g e a j:Int)(t:af)(s:ae):Option ((af×Int×Int×Int×af×Int×Int×Int×Int×Int×af×ae) ⊕ ((af×Int×Int×Int×Int×Int×Int×af×ae))):=
 cond (decide (g<p)) (
 cond (inR g (List.length k)) (
 let d:=(List.getD k (Int.toNat g) (0,0))
 let i:=(w64 (c+d.1))
 let n:Int:=(if i>e then i else e:Int)
 let b:=(w64 (c+d.2))
 let m:Int:=(if b<a then b else a:Int)
 let f:af:=[(n,m)]
 cond (decide (List.length t+List.length f<=aP)) (
 let l:af:=(t++f)
 let o:=(w64 (g+1))
 some (.inl (u,c,r,q,k,p,o,e,a,j,l,s))) none) none) (
 some (.inr (u,c,r,q,e,a,j,t,s)))
def Fq[LP](m:af)(e c j:Int)(k:af)(f d g a b:Int)(l:af)(i:ae):Option ((af×Int×Int×Int×Int×Int×Int×af×ae)):=
 LP.lp (jvz (j3k)) (m,e,c,j,k,f,d,g,a,b,l,i)
theorem Sw(m e c j k f d g a b l i):Fq m e c j k f d g a b l i=lpK (j3k m e c j k f d g a b l i) (λh=>Fq h.1 h.2.1 h.2.2.1 h.2.2.2.1 h.2.2.2.2.1 h.2.2.2.2.2.1 h.2.2.2.2.2.2.1 h.2.2.2.2.2.2.2.1 h.2.2.2.2.2.2.2.2.1 h.2.2.2.2.2.2.2.2.2.1 h.2.2.2.2.2.2.2.2.2.2.1 h.2.2.2.2.2.2.2.2.2.2.2):=bt _ _
def j3l[LP](d:af)(i g k m b e:Int)(l:af)(j:ae):Option ((af×Int×Int×Int×Int×Int×Int×af×ae) ⊕ ((af×Int×Int×af×ae))):=
 cond (decide (i<b)) (
 let c:=(Int.ofNat (List.length d))
 (Fq d i g k d c 0 m b e l j).bind λa=>
 let f:=(w64 (a.2.1+604800))
 some (.inl (a.1,f,a.2.2.1,a.2.2.2.1,a.2.2.2.2.1,a.2.2.2.2.2.1,a.2.2.2.2.2.2.1,a.2.2.2.2.2.2.2.1,a.2.2.2.2.2.2.2.2))) (
 some (.inr (d,g,k,l,j)))
def Fs[LP](j:af)(d c g e a b:Int)(i:af)(f:ae):Option ((af×Int×Int×af×ae)):=
 LP.lp (unc9 (j3l)) (j,d,c,g,e,a,b,i,f)
theorem Sz(j d c g e a b i f):Fs j d c g e a b i f=lpK (j3l j d c g e a b i f) (λh=>Fs h.1 h.2.1 h.2.2.1 h.2.2.2.1 h.2.2.2.2.1 h.2.2.2.2.2.1 h.2.2.2.2.2.2.1 h.2.2.2.2.2.2.2.1 h.2.2.2.2.2.2.2.2):=bt _ _
def j3m[LP](o:af)(m c:Int)(n:af)(e:ae):Option ((af×Int×Int×af×ae) ⊕ (af)):=
 cond (decide (c<m)) (
 cond (inR c (List.length e)) (
 let a:=(List.getD e (Int.toNat c) (0,(0,0)))
 let j:=(w64 (a.1+a.2.2))
 let d:=(w64 (j-(-259200)))
 let k:=(Int.tmod d 604800)
 let l:=(w64 (d-k))
 let f:=(w64 (l+(-259200)))
 let g:=(w64 (f-a.2.2))
 (Fs o g m c a.1 a.2.1 a.2.2 n e).bind λb=>
 let i:=(w64 (b.2.2.1+1))
 some (.inl (b.1,b.2.1,i,b.2.2.2.1,b.2.2.2.2))) none) (
 some (.inr n))
def Fu[LP](e:af)(a c:Int)(d:af)(b:ae):Option (af):=
 LP.lp (unc5 (j3m)) (e,a,c,d,b)
theorem SA(e a c d b):Fu e a c d b=lpK (j3m e a c d b) (λh=>Fu h.1 h.2.1 h.2.2.1 h.2.2.2.1 h.2.2.2.2):=bt _ _
def j4n[LP](b:eU)(e:af)(a c:Int):Option (af):=
 (j1w (b.1,b.2) a c).bind λd=>
 let g:=(Int.ofNat (List.length d))
 (Fu e g 0 ([]:af) d).bind λi=>
 (j8D i).bind λf=>
 some f
def j2y(u s:Int)(k:(List Int))(r f:Int)(w:ByteArray)(i:Int)(g:(List Int))(j b e:Int)(v:af)(t:ae):Option ((Int×Int×(List Int)×Int×Int×ByteArray×Int×(List Int)×Int×Int×Int×af×ae) ⊕ ((Int×Int×ByteArray×Int×(List Int)×af×ae))):=
 cond (decide (f<r)) (
 cond (inR f (List.length k)) (
 let n:=(List.getD k (Int.toNat f) 0)
 let l:=(w64 (n*86400))
 let a:=(w64 (l-e))
 let m:Int:=(if a>j then a else j:Int)
 let c:=(w64 (a+86400))
 let o:Int:=(if c<b then c else b:Int)
 let d:af:=[(m,o)]
 cond (decide (List.length v+List.length d<=aP)) (
 let q:af:=(v++d)
 let p:=(w64 (f+1))
 some (.inl (u,s,k,r,p,w,i,g,j,b,e,q,t))) none) none) (
 some (.inr (u,s,w,i,g,v,t)))
def Cn[LP](l e:Int)(k:(List Int))(i j:Int)(m:ByteArray)(d:Int)(c:(List Int))(g a b:Int)(n:af)(f:ae):Option ((Int×Int×ByteArray×Int×(List Int)×af×ae)):=
 LP.lp (jvA (j2y)) (l,e,k,i,j,m,d,c,g,a,b,n,f)
theorem SB(l e k i j m d c g a b n f):Cn l e k i j m d c g a b n f=lpK (j2y l e k i j m d c g a b n f) (λh=>Cn h.1 h.2.1 h.2.2.1 h.2.2.2.1 h.2.2.2.2.1 h.2.2.2.2.2.1 h.2.2.2.2.2.2.1 h.2.2.2.2.2.2.2.1 h.2.2.2.2.2.2.2.2.1 h.2.2.2.2.2.2.2.2.2.1 h.2.2.2.2.2.2.2.2.2.2.1 h.2.2.2.2.2.2.2.2.2.2.2.1 h.2.2.2.2.2.2.2.2.2.2.2.2):=bt _ _
def j2z[LP](i d:Int)(l:ByteArray)(j:Int)(c:(List Int))(k:af)(e:ae):Option ((Int×Int×ByteArray×Int×(List Int)×af×ae) ⊕ (af)):=
 cond (decide (d<i)) (
 cond (inR d (List.length e)) (
 let b:=(List.getD e (Int.toNat d) (0,(0,0)))
 let f:=(Int.ofNat (List.length c))
 (Cn i d c f 0 l j c b.1 b.2.1 b.2.2 k e).bind λa=>
 let g:=(w64 (a.2.1+1))
 some (.inl (a.1,g,a.2.2.1,a.2.2.2.1,a.2.2.2.2.1,a.2.2.2.2.2.1,a.2.2.2.2.2.2))) none) (
 some (.inr k))
def Co[LP](e c:Int)(f:ByteArray)(b:Int)(a:(List Int))(g:af)(d:ae):Option (af):=
 LP.lp (unc7 (j2z)) (e,c,f,b,a,g,d)
theorem SC(e c f b a g d):Co e c f b a g d=lpK (j2z e c f b a g d) (λh=>Co h.1 h.2.1 h.2.2.1 h.2.2.2.1 h.2.2.2.2.1 h.2.2.2.2.2.1 h.2.2.2.2.2.2):=bt _ _
def j1N[LP](c:lu)(a:p7)(b d:Int):Option (af):=
 cond (inR a.2.1 (List.length c.2)) (
 let e:=(List.getD c.2 (Int.toNat a.2.1) (0,([]:af)))
 (j1w (e.1,e.2) b d).bind λf=>
 let g:=(Int.ofNat (List.length f))
 (Co g 0 a.1 a.2.1 a.2.2 ([]:af) f).bind λj=>
 (j8D j).bind λi=>
 some i) none
def j3n(c:af)(b:Int)(d:af)(e f g a:Int)(l:af):Option ((af×Int×af×Int×Int×Int×Int×af) ⊕ ((af×Int×af×Int×Int×Int×Int×af))):=
 let i:=(Int.ofNat (List.length c))
 cond (decide (b<i)) (
 cond (inR b (List.length c)) (
 let k:=(List.getD c (Int.toNat b) (0,0))
 cond (decide (k.2<=g)) (
 let j:=(w64 (b+1))
 some (.inl (c,j,d,e,f,g,a,l))) (
 some (.inr (c,b,d,e,f,g,a,l)))) none) (
 some (.inr (c,b,d,e,f,g,a,l)))
def Fv[LP](i:af)(f:Int)(b:af)(c d e a:Int)(g:af):Option ((af×Int×af×Int×Int×Int×Int×af)):=
 LP.lp (unc8 (j3n)) (i,f,b,c,d,e,a,g)
theorem SD(i f b c d e a g):Fv i f b c d e a g=lpK (j3n i f b c d e a g) (λh=>Fv h.1 h.2.1 h.2.2.1 h.2.2.2.1 h.2.2.2.2.1 h.2.2.2.2.2.1 h.2.2.2.2.2.2.1 h.2.2.2.2.2.2.2):=bt _ _
def j3o(b:af)(q d a:Int)(k:af)(e f n c:Int)(l:af):Option ((af×Int×Int×Int×af×Int×Int×Int×Int×af) ⊕ ((af×Int×Int×af×Int×Int×Int×Int×af))):=
 let t:=(Int.ofNat (List.length b))
 cond (decide (a<t)) (
 cond (inR a (List.length b)) (
 let u:=(List.getD b (Int.toNat a) (0,0))
 cond (decide (u.1<c)) (
 cond (inR a (List.length b)) (
 let v:=(List.getD b (Int.toNat a) (0,0))
 cond (decide (d<v.1)) (
 cond (inR a (List.length b)) (
 let s:=(List.getD b (Int.toNat a) (0,0))
 let j:af:=[(d,s.1)]
 cond (decide (List.length l+List.length j<=aP)) (
 let o:af:=(l++j)
 cond (inR a (List.length b)) (
 let i:=(List.getD b (Int.toNat a) (0,0))
 let w:Int:=(if i.2>d then i.2 else d:Int)
 let r:=(w64 (a+1))
 some (.inl (b,q,w,r,k,e,f,n,c,o))) none) none) none) (
 cond (inR a (List.length b)) (
 let g:=(List.getD b (Int.toNat a) (0,0))
 let p:Int:=(if g.2>d then g.2 else d:Int)
 let m:=(w64 (a+1))
 some (.inl (b,q,p,m,k,e,f,n,c,l))) none)) none) (
 some (.inr (b,q,d,k,e,f,n,c,l)))) none) (
 some (.inr (b,q,d,k,e,f,n,c,l)))
def Cp[LP](k:af)(i g e:Int)(b:af)(c d f a:Int)(j:af):Option ((af×Int×Int×af×Int×Int×Int×Int×af)):=
 LP.lp (jkk (j3o)) (k,i,g,e,b,c,d,f,a,j)
theorem SE(k i g e b c d f a j):Cp k i g e b c d f a j=lpK (j3o k i g e b c d f a j) (λh=>Cp h.1 h.2.1 h.2.2.1 h.2.2.2.1 h.2.2.2.2.1 h.2.2.2.2.2.1 h.2.2.2.2.2.2.1 h.2.2.2.2.2.2.2.1 h.2.2.2.2.2.2.2.2.1 h.2.2.2.2.2.2.2.2.2):=bt _ _
def j3p[LP](n:af)(m:Int)(f:af)(k d:Int)(l:af):Option ((af×Int×af×Int×Int×af) ⊕ (af)):=
 cond (decide (d<k)) (
 cond (inR d (List.length f)) (
 let e:=(List.getD f (Int.toNat d) (0,0))
 (Fv n m f k d e.1 e.2 l).bind λb=>
 (Cp b.1 b.2.1 b.2.2.2.2.2.1 b.2.1 b.2.2.1 b.2.2.2.1 b.2.2.2.2.1 b.2.2.2.2.2.1 b.2.2.2.2.2.2.1 b.2.2.2.2.2.2.2).bind λa=>
 cond (decide (a.2.2.1<a.2.2.2.2.2.2.2.1)) (
 let c:af:=[(a.2.2.1,a.2.2.2.2.2.2.2.1)]
 cond (decide (List.length a.2.2.2.2.2.2.2.2+List.length c<=aP)) (
 let i:af:=(a.2.2.2.2.2.2.2.2++c)
 let g:=(w64 (a.2.2.2.2.2.1+1))
 some (.inl (a.1,a.2.1,a.2.2.2.1,a.2.2.2.2.1,g,i))) none) (
 let j:=(w64 (a.2.2.2.2.2.1+1))
 some (.inl (a.1,a.2.1,a.2.2.2.1,a.2.2.2.2.1,j,a.2.2.2.2.2.2.2.2)))) none) (
 some (.inr l))
def yu[LP](f:af)(d:Int)(a:af)(b c:Int)(e:af):Option (af):=
 LP.lp (unc6 (j3p)) (f,d,a,b,c,e)
theorem SF(f d a b c e):yu f d a b c e=lpK (j3p f d a b c e) (λh=>yu h.1 h.2.1 h.2.2.1 h.2.2.2.1 h.2.2.2.2.1 h.2.2.2.2.2):=bt _ _
def j2t[LP](a b:af):Option (af):=
 let c:=(Int.ofNat (List.length a))
 (yu b 0 a c 0 ([]:af)).bind λd=>
 some d
def j5r(a d:af)(b c:Int)(n:af):Option ((af×af×Int×Int×af) ⊕ (af)):=
 let w:=(Int.ofNat (List.length a))
 let v:=(Int.ofNat (List.length d))
 cond (cond (decide (b<w)) (decide (c<v)) false) (
 cond (inR b (List.length a)) (
 let g:=(List.getD a (Int.toNat b) (0,0))
 cond (inR c (List.length d)) (
 let k:=(List.getD d (Int.toNat c) (0,0))
 let m:Int:=(if k.1>g.1 then k.1 else g.1:Int)
 cond (inR b (List.length a)) (
 let f:=(List.getD a (Int.toNat b) (0,0))
 cond (inR c (List.length d)) (
 let e:=(List.getD d (Int.toNat c) (0,0))
 let l:Int:=(if e.2<f.2 then e.2 else f.2:Int)
 cond (decide (m<l)) (
 let i:af:=[(m,l)]
 cond (decide (List.length n+List.length i<=aP)) (
 let j:af:=(n++i)
 cond (inR b (List.length a)) (
 let x:=(List.getD a (Int.toNat b) (0,0))
 cond (inR c (List.length d)) (
 let t:=(List.getD d (Int.toNat c) (0,0))
 cond (decide (x.2<t.2)) (
 let s:=(w64 (b+1))
 some (.inl (a,d,s,c,j))) (
 let o:=(w64 (c+1))
 some (.inl (a,d,b,o,j)))) none) none) none) (
 cond (inR b (List.length a)) (
 let q:=(List.getD a (Int.toNat b) (0,0))
 cond (inR c (List.length d)) (
 let p:=(List.getD d (Int.toNat c) (0,0))
 cond (decide (q.2<p.2)) (
 let u:=(w64 (b+1))
 some (.inl (a,d,u,c,n))) (
 let r:=(w64 (c+1))
 some (.inl (a,d,b,r,n)))) none) none)) none) none) none) none) (
 some (.inr n))
def wT[LP](a e:af)(c d:Int)(b:af):Option (af):=
 LP.lp (unc5 (j5r)) (a,e,c,d,b)
theorem jhu(a e c d b):wT a e c d b=lpK (j5r a e c d b) (λh=>wT h.1 h.2.1 h.2.2.1 h.2.2.2.1 h.2.2.2.2):=bt _ _
def jaC[LP](a b:af):Option (af):=
 (wT a b 0 0 ([]:af)).bind λc=>
 some c
def j6o[LP](a:lu)(b:h9)(d c:Int):Option (af):=
 cond (inR b.2.1 (List.length a.2)) (
 let s:=(List.getD a.2 (Int.toNat b.2.1) (0,([]:af)))
 (j0D (s.1,s.2) (b.1,(b.2.1,((b.2.2.1.1,b.2.2.1.2),(b.2.2.2.1,(b.2.2.2.2.1,(b.2.2.2.2.2.1,(b.2.2.2.2.2.2.1,(b.2.2.2.2.2.2.2.1,b.2.2.2.2.2.2.2.2)))))))) 0).bind λi=>
 cond (cond (cond (!i.2) true (decide (i.1>=c))) true (decide (d>=c))) (
 some ([]:af)) (
 let e:Int:=(if i.1>d then i.1 else d:Int)
 let m:af:=[(e,c)]
 let u:=(Int.ofNat (List.length b.2.2.2.2.2.2.1))
 cond (decide (u>0)) (
 cond (inR b.2.1 (List.length a.2)) (
 let r:=(List.getD a.2 (Int.toNat b.2.1) (0,([]:af)))
 (j4n (r.1,r.2) b.2.2.2.2.2.2.1 e c).bind λj=>
 cond (b.2.2.2.2.2.2.2.2==1) (
 cond (inR b.2.2.2.2.2.2.2.1 (List.length a.1.2.2.1)) (
 let k:=(List.getD a.1.2.2.1 (Int.toNat b.2.2.2.2.2.2.2.1) (ByteArray.empty,(0,([]:(List Int)))))
 (j1N ((a.1.1,(a.1.2.1,(a.1.2.2.1,a.1.2.2.2))),a.2) (k.1,(k.2.1,k.2.2)) e c).bind λw=>
 (j2t j w).bind λv=>
 some v) none) (
 cond (b.2.2.2.2.2.2.2.2==2) (
 cond (inR b.2.2.2.2.2.2.2.1 (List.length a.1.2.2.1)) (
 let l:=(List.getD a.1.2.2.1 (Int.toNat b.2.2.2.2.2.2.2.1) (ByteArray.empty,(0,([]:(List Int)))))
 (j1N ((a.1.1,(a.1.2.1,(a.1.2.2.1,a.1.2.2.2))),a.2) (l.1,(l.2.1,l.2.2)) e c).bind λx=>
 (jaC j x).bind λt=>
 some t) none) (
 some j))) none) (
 cond (b.2.2.2.2.2.2.2.2==1) (
 cond (inR b.2.2.2.2.2.2.2.1 (List.length a.1.2.2.1)) (
 let f:=(List.getD a.1.2.2.1 (Int.toNat b.2.2.2.2.2.2.2.1) (ByteArray.empty,(0,([]:(List Int)))))
 (j1N ((a.1.1,(a.1.2.1,(a.1.2.2.1,a.1.2.2.2))),a.2) (f.1,(f.2.1,f.2.2)) e c).bind λq=>
 (j2t m q).bind λp=>
 some p) none) (
 cond (b.2.2.2.2.2.2.2.2==2) (
 cond (inR b.2.2.2.2.2.2.2.1 (List.length a.1.2.2.1)) (
 let g:=(List.getD a.1.2.2.1 (Int.toNat b.2.2.2.2.2.2.2.1) (ByteArray.empty,(0,([]:(List Int)))))
 (j1N ((a.1.1,(a.1.2.1,(a.1.2.2.1,a.1.2.2.2))),a.2) (g.1,(g.2.1,g.2.2)) e c).bind λo=>
 (jaC m o).bind λn=>
 some n) none) (
 some m))))) none
def j6F[LP](a:eU)(b:Int):Option (Int):=
 (j5O (a.1,a.2) b).bind λd=>
 (j3G (a.1,a.2) d).bind λc=>
 some c
def jeP(a:Int):Option ((Int×Int)):=
 let e:=(w64 (Int.tdiv a 86400))
 let i:=(Int.tmod a 86400)
 cond (decide (i<0)) (
 let d:=(w64 (e-1))
 let g:=(w64 (d*86400))
 let f:=(w64 (a-g))
 some (d,f)) (
 let c:=(w64 (e*86400))
 let b:=(w64 (a-c))
 some (e,b))
def j1P[LP](a:eU)(b:Int):Option ((Int×Int)):=
 (j6F (a.1,a.2) b).bind λe=>
 let d:=(w64 (b+e))
 (jeP d).bind λc=>
 some (c.1,c.2)
def j2W[LP](p m q:Int)(k:af)(n:ByteArray)(f g e j a:Int)(c:(List Int))(b:af)(i d:Int):Option ((Int×Int×Int×af×ByteArray×Int×Int×Int×Int×Int×(List Int)×af×Int×Int) ⊕ ((Int×Int×Int×af×ByteArray×Int×Int×Int×Int×Int×(List Int)×af×Int×Int))):=
 cond (decide (m>0)) (
 (j0D (q,k) (n,(f,((g,e),(j,(a,(c,(b,(i,d)))))))) m).bind λl=>
 cond (cond l.2 (decide (l.1<=p)) false) (
 some (.inr (p,m,q,k,n,f,g,e,j,a,c,b,i,d))) (
 let o:=(w64 (m-1))
 some (.inl (p,o,q,k,n,f,g,e,j,a,c,b,i,d)))) (
 some (.inr (p,m,q,k,n,f,g,e,j,a,c,b,i,d)))
def Fw[LP](n l o:Int)(k:af)(m:ByteArray)(f g e j a:Int)(c:(List Int))(b:af)(i d:Int):Option ((Int×Int×Int×af×ByteArray×Int×Int×Int×Int×Int×(List Int)×af×Int×Int)):=
 LP.lp (jkl (j2W)) (n,l,o,k,m,f,g,e,j,a,c,b,i,d)
theorem SH(n l o k m f g e j a c b i d):Fw n l o k m f g e j a c b i d=lpK (j2W n l o k m f g e j a c b i d) (λh=>Fw h.1 h.2.1 h.2.2.1 h.2.2.2.1 h.2.2.2.2.1 h.2.2.2.2.2.1 h.2.2.2.2.2.2.1 h.2.2.2.2.2.2.2.1 h.2.2.2.2.2.2.2.2.1 h.2.2.2.2.2.2.2.2.2.1 h.2.2.2.2.2.2.2.2.2.2.1 h.2.2.2.2.2.2.2.2.2.2.2.1 h.2.2.2.2.2.2.2.2.2.2.2.2.1 h.2.2.2.2.2.2.2.2.2.2.2.2.2):=bt _ _
def j4o[LP](q o r:Int)(l:af)(p:ByteArray)(g i f k b:Int)(d:(List Int))(c:af)(j e:Int):Option ((Int×Int×Int×af×ByteArray×Int×Int×Int×Int×Int×(List Int)×af×Int×Int) ⊕ (Int)):=
 let n:=(w64 (o+1))
 (j0D (r,l) (p,(g,((i,f),(k,(b,(d,(c,(j,e)))))))) n).bind λa=>
 cond (cond (!a.2) true (decide (a.1>q))) (
 some (.inr o)) (
 let m:=(w64 (o+1))
 some (.inl (q,m,r,l,p,g,i,f,k,b,d,c,j,e)))
def Fx[LP](n l o:Int)(k:af)(m:ByteArray)(f g e j a:Int)(c:(List Int))(b:af)(i d:Int):Option (Int):=
 LP.lp (jkl (j4o)) (n,l,o,k,m,f,g,e,j,a,c,b,i,d)
theorem jfB(n l o k m f g e j a c b i d):Fx n l o k m f g e j a c b i d=lpK (j4o n l o k m f g e j a c b i d) (λh=>Fx h.1 h.2.1 h.2.2.1 h.2.2.2.1 h.2.2.2.2.1 h.2.2.2.2.2.1 h.2.2.2.2.2.2.1 h.2.2.2.2.2.2.2.1 h.2.2.2.2.2.2.2.2.1 h.2.2.2.2.2.2.2.2.2.1 h.2.2.2.2.2.2.2.2.2.2.1 h.2.2.2.2.2.2.2.2.2.2.2.1 h.2.2.2.2.2.2.2.2.2.2.2.2.1 h.2.2.2.2.2.2.2.2.2.2.2.2.2):=bt _ _
def j3v[LP](c:eU)(a:h9)(d:Int):Option (Int):=
 (j0D (c.1,c.2) (a.1,(a.2.1,((a.2.2.1.1,a.2.2.1.2),(a.2.2.2.1,(a.2.2.2.2.1,(a.2.2.2.2.2.1,(a.2.2.2.2.2.2.1,(a.2.2.2.2.2.2.2.1,a.2.2.2.2.2.2.2.2)))))))) 0).bind λe=>
 cond (cond (!e.2) true (decide (e.1>d))) (
 some (-1)) (
 cond (a.2.2.2.1==0) (
 let k:=(w64 (d-e.1))
 let g:=(w64 (3600*a.2.2.2.2.1))
 cond (!(g==0)) (
 let l:=(w64 (Int.tdiv k g))
 some l) none) (
 (j1P (c.1,c.2) d).bind λn=>
 let m:=(w64 (n.1-a.2.2.1.1))
 (j8C (a.1,(a.2.1,((a.2.2.1.1,a.2.2.1.2),(a.2.2.2.1,(a.2.2.2.2.1,(a.2.2.2.2.2.1,(a.2.2.2.2.2.2.1,(a.2.2.2.2.2.2.2.1,a.2.2.2.2.2.2.2.2))))))))).bind λf=>
 cond (!(f==0)) (
 let i:=(w64 (Int.tdiv m f))
 let j:Int:=(if i>0 then i else 0:Int)
 (Fw d j c.1 c.2 a.1 a.2.1 a.2.2.1.1 a.2.2.1.2 a.2.2.2.1 a.2.2.2.2.1 a.2.2.2.2.2.1 a.2.2.2.2.2.2.1 a.2.2.2.2.2.2.2.1 a.2.2.2.2.2.2.2.2).bind λb=>
 (Fx b.1 b.2.1 b.2.2.1 b.2.2.2.1 b.2.2.2.2.1 b.2.2.2.2.2.1 b.2.2.2.2.2.2.1 b.2.2.2.2.2.2.2.1 b.2.2.2.2.2.2.2.2.1 b.2.2.2.2.2.2.2.2.2.1 b.2.2.2.2.2.2.2.2.2.2.1 b.2.2.2.2.2.2.2.2.2.2.2.1 b.2.2.2.2.2.2.2.2.2.2.2.2.1 b.2.2.2.2.2.2.2.2.2.2.2.2.2).bind λo=>
 some o) none))
def j4p(f:ae)(m e:Int)(b:ae):Option ((ae×Int×Int×ae) ⊕ (ae)):=
 cond (decide (e<m)) (
 cond (inR e (List.length f)) (
 let a:=(List.getD f (Int.toNat e) (0,(0,0)))
 cond (decide (a.2.1<=a.1)) (
 let u:=(w64 (e+1))
 some (.inl (f,m,u,b))) (
 let d:=(Int.ofNat (List.length b))
 cond (decide (d>0)) (
 let k:=(w64 (d-1))
 cond (inR k (List.length b)) (
 let r:=(List.getD b (Int.toNat k) (0,(0,0))).2.1
 cond (r==a.1) (
 let i:=(w64 (d-1))
 cond (inR i (List.length b)) (
 let p:=(List.getD b (Int.toNat i) (0,(0,0))).2.2
 cond (p==a.2.2) (
 let c:=(w64 (d-1))
 cond (inR c (List.length b)) (
 let x:ae:=(List.set b (Int.toNat c) ((List.getD b (Int.toNat c) (0,(0,0))).1,(a.2.1,(List.getD b (Int.toNat c) (0,(0,0))).2.2)))
 let s:=(w64 (e+1))
 some (.inl (f,m,s,x))) none) (
 let l:ae:=[(a.1,(a.2.1,a.2.2))]
 cond (decide (List.length b+List.length l<=aP)) (
 let v:ae:=(b++l)
 let q:=(w64 (e+1))
 some (.inl (f,m,q,v))) none)) none) (
 let g:ae:=[(a.1,(a.2.1,a.2.2))]
 cond (decide (List.length b+List.length g<=aP)) (
 let t:ae:=(b++g)
 let n:=(w64 (e+1))
 some (.inl (f,m,n,t))) none)) none) (
 let j:ae:=[(a.1,(a.2.1,a.2.2))]
 cond (decide (List.length b+List.length j<=aP)) (
 let w:ae:=(b++j)
 let o:=(w64 (e+1))
 some (.inl (f,m,o,w))) none))) none) (
 some (.inr b))
def yw[LP](c:ae)(b a:Int)(d:ae):Option (ae):=
 LP.lp (unc4 (j4p)) (c,b,a,d)
theorem SI(b d a c):yw b d a c=lpK (j4p b d a c) (λh=>yw h.1 h.2.1 h.2.2.1 h.2.2.2):=bt _ _
def j8E[LP](a:ae):Option (ae):=
 let c:=(Int.ofNat (List.length a))
 (yw a c 0 ([]:ae)).bind λb=>
 some b
def j2v[LP](b5 o a8 r a0 a5:Int)(a7:ByteArray)(f e m j i:Int)(a:(List Int))(k:af)(g l p:Int)(c:af)(a9 b:Int)(z:ae)(a6:af):Option ((Int×Int×Int×Int×Int×Int×ByteArray×Int×Int×Int×Int×Int×(List Int)×af×Int×Int×Int×af×Int×Int×ae×af) ⊕ ((Int×Int×Int×Int×Int×Int×ByteArray×Int×Int×Int×Int×Int×(List Int)×af×Int×Int×Int×af×ae×af))):=
 cond (decide (o<b)) (
 cond (decide (o>=r)) (
 (j3v (p,c) (a7,(f,((e,m),(j,(i,(a,(k,(g,l)))))))) o).bind λd=>
 let b4:=(w64 (d+1))
 (j0D (p,c) (a7,(f,((e,m),(j,(i,(a,(k,(g,l)))))))) b4).bind λn=>
 cond (!n.2) (
 let a4:Int:=(if 8589934593<b then 8589934593 else b:Int)
 let a1:=(Int.ofNat (List.length a))
 cond (!(a1==0)) (
 let a2:=(Int.tmod d a1)
 cond (inR a2 (List.length a)) (
 let b6:=(List.getD a (Int.toNat a2) 0)
 let a3:ae:=[(o,(a4,b6))]
 cond (decide (List.length z+List.length a3<=aP)) (
 let b7:ae:=(z++a3)
 some (.inl (b5,a4,d,8589934593,a0,a5,a7,f,e,m,j,i,a,k,g,l,p,c,a9,b,b7,a6))) none) none) none) (
 let s:Int:=(if n.1<b then n.1 else b:Int)
 let x:=(Int.ofNat (List.length a))
 cond (!(x==0)) (
 let v:=(Int.tmod d x)
 cond (inR v (List.length a)) (
 let b2:=(List.getD a (Int.toNat v) 0)
 let u:ae:=[(o,(s,b2))]
 cond (decide (List.length z+List.length u<=aP)) (
 let b0:ae:=(z++u)
 some (.inl (b5,s,d,n.1,a0,a5,a7,f,e,m,j,i,a,k,g,l,p,c,a9,b,b0,a6))) none) none) none)) (
 let q:Int:=(if r<b then r else b:Int)
 let t:=(Int.ofNat (List.length a))
 cond (!(t==0)) (
 let y:=(Int.tmod a8 t)
 cond (inR y (List.length a)) (
 let b3:=(List.getD a (Int.toNat y) 0)
 let w:ae:=[(o,(q,b3))]
 cond (decide (List.length z+List.length w<=aP)) (
 let b1:ae:=(z++w)
 some (.inl (b5,q,a8,r,a0,a5,a7,f,e,m,j,i,a,k,g,l,p,c,a9,b,b1,a6))) none) none) none)) (
 some (.inr (b5,o,a8,r,a0,a5,a7,f,e,m,j,i,a,k,g,l,p,c,z,a6)))
def Cq[LP](w r m n o s:Int)(u:ByteArray)(e c l i g:Int)(d:(List Int))(j:af)(f k p:Int)(b:af)(q a:Int)(v:ae)(t:af):Option ((Int×Int×Int×Int×Int×Int×ByteArray×Int×Int×Int×Int×Int×(List Int)×af×Int×Int×Int×af×ae×af)):=
 LP.lp (jyp (j2v)) (w,r,m,n,o,s,u,e,c,l,i,g,d,j,f,k,p,b,q,a,v,t)
theorem jcn(w r m n o s u e c l i g d j f k p b q a v t):Cq w r m n o s u e c l i g d j f k p b q a v t=lpK (j2v w r m n o s u e c l i g d j f k p b q a v t) (λh=>Cq h.1 h.2.1 h.2.2.1 h.2.2.2.1 h.2.2.2.2.1 h.2.2.2.2.2.1 h.2.2.2.2.2.2.1 h.2.2.2.2.2.2.2.1 h.2.2.2.2.2.2.2.2.1 h.2.2.2.2.2.2.2.2.2.1 h.2.2.2.2.2.2.2.2.2.2.1 h.2.2.2.2.2.2.2.2.2.2.2.1 h.2.2.2.2.2.2.2.2.2.2.2.2.1 h.2.2.2.2.2.2.2.2.2.2.2.2.2.1 h.2.2.2.2.2.2.2.2.2.2.2.2.2.2.1 h.2.2.2.2.2.2.2.2.2.2.2.2.2.2.2.1 h.2.2.2.2.2.2.2.2.2.2.2.2.2.2.2.2.1 h.2.2.2.2.2.2.2.2.2.2.2.2.2.2.2.2.2.1 h.2.2.2.2.2.2.2.2.2.2.2.2.2.2.2.2.2.2.1 h.2.2.2.2.2.2.2.2.2.2.2.2.2.2.2.2.2.2.2.1 h.2.2.2.2.2.2.2.2.2.2.2.2.2.2.2.2.2.2.2.2.1 h.2.2.2.2.2.2.2.2.2.2.2.2.2.2.2.2.2.2.2.2.2):=bt _ _
def j1C[LP](y k v w j d:Int)(z:ByteArray)(o m u r q:Int)(n:(List Int))(s:af)(p t x:Int)(i:af)(l:ae)(e:af):Option ((Int×Int×Int×Int×Int×Int×ByteArray×Int×Int×Int×Int×Int×(List Int)×af×Int×Int×Int×af×ae×af) ⊕ ((Int×Int×ae))):=
 cond (decide (d<j)) (
 cond (inR d (List.length e)) (
 let b:=(List.getD e (Int.toNat d) (0,0))
 let c:ae:=[(k,(b.1,(-1)))]
 cond (decide (List.length l+List.length c<=aP)) (
 let g:ae:=(l++c)
 (Cq y b.1 v w j d z o m u r q n s p t x i b.1 b.2 g e).bind λa=>
 let f:=(w64 (a.2.2.2.2.2.1+1))
 some (.inl (a.1,a.2.1,a.2.2.1,a.2.2.2.1,a.2.2.2.2.1,f,a.2.2.2.2.2.2.1,a.2.2.2.2.2.2.2.1,a.2.2.2.2.2.2.2.2.1,a.2.2.2.2.2.2.2.2.2.1,a.2.2.2.2.2.2.2.2.2.2.1,a.2.2.2.2.2.2.2.2.2.2.2.1,a.2.2.2.2.2.2.2.2.2.2.2.2.1,a.2.2.2.2.2.2.2.2.2.2.2.2.2.1,a.2.2.2.2.2.2.2.2.2.2.2.2.2.2.1,a.2.2.2.2.2.2.2.2.2.2.2.2.2.2.2.1,a.2.2.2.2.2.2.2.2.2.2.2.2.2.2.2.2.1,a.2.2.2.2.2.2.2.2.2.2.2.2.2.2.2.2.2.1,a.2.2.2.2.2.2.2.2.2.2.2.2.2.2.2.2.2.2.1,a.2.2.2.2.2.2.2.2.2.2.2.2.2.2.2.2.2.2.2))) none) none) (
 some (.inr (y,k,l)))
def Cr[LP](u p l m n q:Int)(s:ByteArray)(d b k g f:Int)(c:(List Int))(i:af)(e j o:Int)(a:af)(t:ae)(r:af):Option ((Int×Int×ae)):=
 LP.lp (jyo (j1C)) (u,p,l,m,n,q,s,d,b,k,g,f,c,i,e,j,o,a,t,r)
theorem SJ(u p l m n q s d b k g f c i e j o a t r):Cr u p l m n q s d b k g f c i e j o a t r=lpK (j1C u p l m n q s d b k g f c i e j o a t r) (λh=>Cr h.1 h.2.1 h.2.2.1 h.2.2.2.1 h.2.2.2.2.1 h.2.2.2.2.2.1 h.2.2.2.2.2.2.1 h.2.2.2.2.2.2.2.1 h.2.2.2.2.2.2.2.2.1 h.2.2.2.2.2.2.2.2.2.1 h.2.2.2.2.2.2.2.2.2.2.1 h.2.2.2.2.2.2.2.2.2.2.2.1 h.2.2.2.2.2.2.2.2.2.2.2.2.1 h.2.2.2.2.2.2.2.2.2.2.2.2.2.1 h.2.2.2.2.2.2.2.2.2.2.2.2.2.2.1 h.2.2.2.2.2.2.2.2.2.2.2.2.2.2.2.1 h.2.2.2.2.2.2.2.2.2.2.2.2.2.2.2.2.1 h.2.2.2.2.2.2.2.2.2.2.2.2.2.2.2.2.2.1 h.2.2.2.2.2.2.2.2.2.2.2.2.2.2.2.2.2.2.1 h.2.2.2.2.2.2.2.2.2.2.2.2.2.2.2.2.2.2.2):=bt _ _
def j1F[LP](b:lu)(a:h9)(c d:Int):Option (ae):=
 cond (inR a.2.1 (List.length b.2)) (
 let i:=(List.getD b.2 (Int.toNat a.2.1) (0,([]:af)))
 (j6o ((b.1.1,(b.1.2.1,(b.1.2.2.1,b.1.2.2.2))),b.2) (a.1,(a.2.1,((a.2.2.1.1,a.2.2.1.2),(a.2.2.2.1,(a.2.2.2.2.1,(a.2.2.2.2.2.1,(a.2.2.2.2.2.2.1,(a.2.2.2.2.2.2.2.1,a.2.2.2.2.2.2.2.2)))))))) c d).bind λg=>
 let l:=(Int.ofNat (List.length g))
 (Cr d c (-1) (-1) l 0 a.1 a.2.1 a.2.2.1.1 a.2.2.1.2 a.2.2.2.1 a.2.2.2.2.1 a.2.2.2.2.2.1 a.2.2.2.2.2.2.1 a.2.2.2.2.2.2.2.1 a.2.2.2.2.2.2.2.2 i.1 i.2 ([]:ae) g).bind λe=>
 let f:ae:=[(e.2.1,(e.1,(-1)))]
 cond (decide (List.length e.2.2+List.length f<=aP)) (
 let j:ae:=(e.2.2++f)
 (j8E j).bind λk=>
 some k) none) none
def j3q(k:Int)(f:aS)(d b:Int)(g:af):Option ((Int×aS×Int×Int×af) ⊕ (af)):=
 cond (decide (b<d)) (
 cond (inR b (List.length f)) (
 let a:=(List.getD f (Int.toNat b) (0,(0,(0,(0,0)))))
 cond (cond (a.1==0) (a.2.1==k) false) (
 let c:af:=[(a.2.2.2.1,a.2.2.2.2)]
 cond (decide (List.length g+List.length c<=aP)) (
 let i:af:=(g++c)
 let e:=(w64 (b+1))
 some (.inl (k,f,d,e,i))) none) (
 let j:=(w64 (b+1))
 some (.inl (k,f,d,j,g)))) none) (
 some (.inr g))
def Cs[LP](e:Int)(c:aS)(b a:Int)(d:af):Option (af):=
 LP.lp (unc5 (j3q)) (e,c,b,a,d)
theorem SK(e c b a d):Cs e c b a d=lpK (j3q e c b a d) (λh=>Cs h.1 h.2.1 h.2.2.1 h.2.2.2.1 h.2.2.2.2):=bt _ _
def j6q[LP](b:lj)(a:Int):Option (af):=
 let d:=(Int.ofNat (List.length b.2.2))
 (Cs a b.2.2 d 0 ([]:af)).bind λe=>
 (j8D e).bind λc=>
 some c
def j2Z(n:ae)(k m l b:Int)(q:ByteArray)(e:aV)(f:aS)(s p d:Int)(r:cD)(o:ae)(g:af):Option ((ae×Int×Int×Int×Int×ByteArray×aV×aS×Int×Int×Int×cD×ae×af) ⊕ ((ae×Int×Int×ByteArray×aV×aS×cD×ae))):=
 cond (decide (b<l)) (
 cond (inR b (List.length g)) (
 let c:=(List.getD g (Int.toNat b) (0,0))
 let a:ae:=[(c.1,(c.2,d))]
 cond (decide (List.length o+List.length a<=aP)) (
 let i:ae:=(o++a)
 let j:=(w64 (b+1))
 some (.inl (n,k,m,l,j,q,e,f,s,p,d,r,i,g))) none) none) (
 some (.inr (n,k,m,q,e,f,r,o)))
def wU[LP](j:ae)(e i g f:Int)(l:ByteArray)(b:aV)(d:aS)(m c a:Int)(o:cD)(n:ae)(k:af):Option ((ae×Int×Int×ByteArray×aV×aS×cD×ae)):=
 LP.lp (jkl (j2Z)) (j,e,i,g,f,l,b,d,m,c,a,o,n,k)
theorem SM(j e i g f l b d m c a o n k):wU j e i g f l b d m c a o n k=lpK (j2Z j e i g f l b d m c a o n k) (λh=>wU h.1 h.2.1 h.2.2.1 h.2.2.2.1 h.2.2.2.2.1 h.2.2.2.2.2.1 h.2.2.2.2.2.2.1 h.2.2.2.2.2.2.2.1 h.2.2.2.2.2.2.2.2.1 h.2.2.2.2.2.2.2.2.2.1 h.2.2.2.2.2.2.2.2.2.2.1 h.2.2.2.2.2.2.2.2.2.2.2.1 h.2.2.2.2.2.2.2.2.2.2.2.2.1 h.2.2.2.2.2.2.2.2.2.2.2.2.2):=bt _ _
def j30[LP](g:ae)(j d:Int)(n:ByteArray)(f:aV)(e:aS)(l:cD)(s:ae):Option ((ae×Int×Int×ByteArray×aV×aS×cD×ae) ⊕ (ae)):=
 cond (decide (d<j)) (
 cond (inR d (List.length g)) (
 let a:=(List.getD g (Int.toNat d) (0,(0,0)))
 cond (decide (a.2.2<0)) (
 let v:=(w64 (d+1))
 some (.inl (g,j,v,n,f,e,l,s))) (
 let z:af:=(df ([]:af) l a.2.2)
 cond (!(eJ l a.2.2)) (
 (j6q (n,(f,e)) a.2.2).bind λu=>
 let m:cD:=(fI l a.2.2 u)
 let p:af:=[(a.1,a.2.1)]
 let r:af:=(df ([]:af) m a.2.2)
 (j2t p r).bind λk=>
 let t:=(Int.ofNat (List.length k))
 (wU g j d t 0 n f e a.1 a.2.1 a.2.2 m s k).bind λb=>
 let y:=(w64 (b.2.2.1+1))
 some (.inl (b.1,b.2.1,y,b.2.2.2.1,b.2.2.2.2.1,b.2.2.2.2.2.1,b.2.2.2.2.2.2.1,b.2.2.2.2.2.2.2))) (
 let o:af:=[(a.1,a.2.1)]
 let w:af:=(df ([]:af) l a.2.2)
 (j2t o w).bind λi=>
 let x:=(Int.ofNat (List.length i))
 (wU g j d x 0 n f e a.1 a.2.1 a.2.2 l s i).bind λc=>
 let q:=(w64 (c.2.2.1+1))
 some (.inl (c.1,c.2.1,q,c.2.2.2.1,c.2.2.2.2.1,c.2.2.2.2.2.1,c.2.2.2.2.2.2.1,c.2.2.2.2.2.2.2))))) none) (
 some (.inr s))
def yx[LP](e:ae)(c d:Int)(f:ByteArray)(a:aV)(b:aS)(i:cD)(g:ae):Option (ae):=
 LP.lp (unc8 (j30)) (e,c,d,f,a,b,i,g)
theorem SN(e c d f a b i g):yx e c d f a b i g=lpK (j30 e c d f a b i g) (λh=>yx h.1 h.2.1 h.2.2.1 h.2.2.2.1 h.2.2.2.2.1 h.2.2.2.2.2.1 h.2.2.2.2.2.2.1 h.2.2.2.2.2.2.2):=bt _ _
def j84[LP](a:lj)(b:ae):Option (ae):=
 let d:cD:=([]:cD)
 let c:=(Int.ofNat (List.length b))
 (yx b c 0 a.1 a.2.1 a.2.2 d ([]:ae)).bind λe=>
 some e
def j4K(a:ae)(d:af)(b c:Int)(n:ae):Option ((ae×af×Int×Int×ae) ⊕ (ae)):=
 let y:=(Int.ofNat (List.length a))
 let x:=(Int.ofNat (List.length d))
 cond (cond (decide (b<y)) (decide (c<x)) false) (
 cond (inR b (List.length a)) (
 let g:=(List.getD a (Int.toNat b) (0,(0,0)))
 cond (inR c (List.length d)) (
 let k:=(List.getD d (Int.toNat c) (0,0))
 let m:Int:=(if k.1>g.1 then k.1 else g.1:Int)
 cond (inR b (List.length a)) (
 let f:=(List.getD a (Int.toNat b) (0,(0,0)))
 cond (inR c (List.length d)) (
 let e:=(List.getD d (Int.toNat c) (0,0))
 let l:Int:=(if e.2<f.2.1 then e.2 else f.2.1:Int)
 cond (inR b (List.length a)) (
 let r:=(List.getD a (Int.toNat b) (0,(0,0)))
 cond (decide (m<l)) (
 let i:ae:=[(m,(l,r.2.2))]
 cond (decide (List.length n+List.length i<=aP)) (
 let j:ae:=(n++i)
 cond (inR b (List.length a)) (
 let v:=(List.getD a (Int.toNat b) (0,(0,0)))
 cond (inR c (List.length d)) (
 let u:=(List.getD d (Int.toNat c) (0,0))
 cond (decide (v.2.1<u.2)) (
 let o:=(w64 (b+1))
 some (.inl (a,d,o,c,j))) (
 let s:=(w64 (c+1))
 some (.inl (a,d,b,s,j)))) none) none) none) (
 cond (inR b (List.length a)) (
 let p:=(List.getD a (Int.toNat b) (0,(0,0)))
 cond (inR c (List.length d)) (
 let w:=(List.getD d (Int.toNat c) (0,0))
 cond (decide (p.2.1<w.2)) (
 let q:=(w64 (b+1))
 some (.inl (a,d,q,c,n))) (
 let t:=(w64 (c+1))
 some (.inl (a,d,b,t,n)))) none) none)) none) none) none) none) none) (
 some (.inr n))
def wV[LP](a:ae)(e:af)(c d:Int)(b:ae):Option (ae):=
 LP.lp (unc5 (j4K)) (a,e,c,d,b)
theorem jgB(a e c d b):wV a e c d b=lpK (j4K a e c d b) (λh=>wV h.1 h.2.1 h.2.2.1 h.2.2.2.1 h.2.2.2.2):=bt _ _
def jbw[LP](b:ae)(a:af):Option (ae):=
 (wV b a 0 0 ([]:ae)).bind λc=>
 some c
def j3U(f:ae)(i e:Int)(g:af):Option ((ae×Int×Int×af) ⊕ (af)):=
 cond (decide (e<i)) (
 cond (inR e (List.length f)) (
 let a:=(List.getD f (Int.toNat e) (0,(0,0)))
 let b:af:=[(a.1,a.2.1)]
 cond (decide (List.length g+List.length b<=aP)) (
 let d:af:=(g++b)
 let c:=(w64 (e+1))
 some (.inl (f,i,c,d))) none) none) (
 some (.inr g))
def Ct[LP](b:ae)(c a:Int)(d:af):Option (af):=
 LP.lp (unc4 (j3U)) (b,c,a,d)
theorem SO(a b d c):Ct a b d c=lpK (j3U a b d c) (λh=>Ct h.1 h.2.1 h.2.2.1 h.2.2.2):=bt _ _
def jaG[LP](a:ae):Option (af):=
 let c:=(Int.ofNat (List.length a))
 (Ct a c 0 ([]:af)).bind λd=>
 (j8D d).bind λb=>
 some b
def j2D(a b:rk):Option (Int):=
 let c:=(w64 (a.1-b.1))
 some c
def j0n(a:ae):Option (ae):=
 uu ((.pair (.int .i64) (.pair (.int .i64) (.int .i64)))) (λc b=>(j2D c b).getD 0) a
def j20[LP](o:Int)(k:aV)(u:ai)(e:ak)(l:aq)(j:aw)(i:cD)(t:ByteArray)(g:aV)(f:aS)(w v:Int)(d:af)(c:ae):Option ((Int×aV×ai×ak×aq×aw×cD×ByteArray×aV×aS×Int×Int×af×ae) ⊕ ((af×ae))):=
 cond (decide (o<=0)) (
 some (.inr (d,c))) (
 cond (decide (o<=Int.ofNat (List.length k))) (
 let r:Int:=(o-1)
 let a:=(List.getD k (Int.toNat r) (ByteArray.empty,(0,((0,0),(0,(0,(([]:(List Int)),(([]:af),(0,0)))))))))
 (j1F ((u,(e,(l,j))),i) (a.1,(a.2.1,((a.2.2.1.1,a.2.2.1.2),(a.2.2.2.1,(a.2.2.2.2.1,(a.2.2.2.2.2.1,(a.2.2.2.2.2.2.1,(a.2.2.2.2.2.2.2.1,a.2.2.2.2.2.2.2.2)))))))) w v).bind λn=>
 (j84 (t,(g,f)) n).bind λs=>
 (jbw s d).bind λb=>
 cond (decide (List.length c+List.length b<=aP)) (
 let p:ae:=(c++b)
 (jaG b).bind λm=>
 (j2t d m).bind λq=>
 some (.inl ((o-1),k,u,e,l,j,i,t,g,f,w,v,q,p))) none) none)
def Cu[LP](k:Int)(j:aV)(m:ai)(e:ak)(d:aq)(c:aw)(i:cD)(l:ByteArray)(g:aV)(f:aS)(n o:Int)(b:af)(a:ae):Option ((af×ae)):=
 LP.lp (jkl (j20)) (k,j,m,e,d,c,i,l,g,f,n,o,b,a)
theorem SP(k j m e d c i l g f n o b a):Cu k j m e d c i l g f n o b a=lpK (j20 k j m e d c i l g f n o b a) (λh=>Cu h.1 h.2.1 h.2.2.1 h.2.2.2.1 h.2.2.2.2.1 h.2.2.2.2.2.1 h.2.2.2.2.2.2.1 h.2.2.2.2.2.2.2.1 h.2.2.2.2.2.2.2.2.1 h.2.2.2.2.2.2.2.2.2.1 h.2.2.2.2.2.2.2.2.2.2.1 h.2.2.2.2.2.2.2.2.2.2.2.1 h.2.2.2.2.2.2.2.2.2.2.2.2.1 h.2.2.2.2.2.2.2.2.2.2.2.2.2):=bt _ _
def j21(i c:Int)(e:af)(a:ae):Option ((Int×Int×af×ae) ⊕ (ae)):=
 cond (decide (c<i)) (
 cond (inR c (List.length e)) (
 let b:=(List.getD e (Int.toNat c) (0,0))
 let d:ae:=[(b.1,(b.2,(-1)))]
 cond (decide (List.length a+List.length d<=aP)) (
 let f:ae:=(a++d)
 let g:=(w64 (c+1))
 some (.inl (i,g,e,f))) none) none) (
 some (.inr a))
def Cv[LP](d c:Int)(b:af)(a:ae):Option (ae):=
 LP.lp (unc4 (j21)) (d,c,b,a)
theorem SQ(d c b a):Cv d c b a=lpK (j21 d c b a) (λh=>Cv h.1 h.2.1 h.2.2.1 h.2.2.2):=bt _ _
def j49[LP](b:lu)(d:lj)(a c:Int):Option (ae):=
 cond (decide (a>=c)) (
 some ([]:ae)) (
 let i:af:=[(a,c)]
 (j1Q d.2.1).bind λe=>
 (Cu (Int.ofNat (List.length e)) e b.1.1 b.1.2.1 b.1.2.2.1 b.1.2.2.2 b.2 d.1 d.2.1 d.2.2 a c i ([]:ae)).bind λf=>
 let g:=(Int.ofNat (List.length f.1))
 (Cv g 0 f.1 f.2).bind λl=>
 (j0n l).bind λk=>
 (j8E k).bind λj=>
 some j)
def ja3(a:Int):Option (Bool):=
 some (a != a)
def jbx(a b:Int):Option (Bool):=
 (ja3 a).bind λd=>
 cond d (
 (ja3 b).bind λc=>
 some (cond (!c) true (decide (a<b)))) (
 some (decide (a<b)))
def j7p(a:Int):Option (Bool):=
 some (a != a)
def j1c(b:(List Int))(i l f m:Int):Option (((List Int)×Int×Int×Int×Int) ⊕ (((List Int)×Int×Int×Int))):=
 cond (decide (f<m)) (
 let d:=(w64 (f+m))
 let k:Int:=(IntKind.wrap .u64 d)
 let e:Int:=(Int.fdiv k 2)
 let a:=(w64 e)
 cond (inR a (List.length b)) (
 let g:=(List.getD b (Int.toNat a) 0)
 (jbx g i).bind λc=>
 cond c (
 let j:=(w64 (a+1))
 some (.inl (b,i,l,j,m))) (
 some (.inl (b,i,l,f,a)))) none) (
 some (.inr (b,i,l,f)))
def Fy[LP](a:(List Int))(d b c e:Int):Option (((List Int)×Int×Int×Int)):=
 LP.lp (unc5 (j1c)) (a,d,b,c,e)
theorem j85(a d b c e):Fy a d b c e=lpK (j1c a d b c e) (λh=>Fy h.1 h.2.1 h.2.2.1 h.2.2.2.1 h.2.2.2.2):=bt _ _
def j2m[LP](d:(List Int))(b:Int):Option (Int×Bool):=
 let e:=(Int.ofNat (List.length d))
 (Fy d b e 0 e).bind λa=>
 cond ((inR a.2.2.2 (List.length a.1)) || !(decide (a.2.2.2<a.2.2.1))) (
 let c:=(List.getD a.1 (Int.toNat a.2.2.2) 0)
 cond ((inR a.2.2.2 (List.length a.1)) || !((decide (a.2.2.2<a.2.2.1))&&(!(c==a.2.1)))) (
 let i:=(List.getD a.1 (Int.toNat a.2.2.2) 0)
 cond (decide (a.2.2.2<a.2.2.1)) (
 cond (c==a.2.1) (
 some (a.2.2.2,true)) (
 (j7p i).bind λg=>
 cond g (
 (j7p a.2.1).bind λf=>
 some (a.2.2.2,f)) (
 some (a.2.2.2,false)))) (
 cond ((c==a.2.1) || !false) (
 some (a.2.2.2,false)) none)) none) none
def jfC(a:mH)(b:Int):Option (Bool):=
 some (cond (decide (a.2.2.2.1<=b)) (decide (b<a.2.2.2.2)) false)
def j59(f e:Int)(d:aS)(c b:Int):Option ((Int×Int×aS×Int×Int) ⊕ (Int)):=
 cond (decide (b<c)) (
 cond (inR b (List.length d)) (
 let a:=(List.getD d (Int.toNat b) (0,(0,(0,(0,0)))))
 (jfC (a.1,(a.2.1,(a.2.2.1,(a.2.2.2.1,a.2.2.2.2)))) e).bind λk=>
 cond (cond (!k) true (a.1==0)) (
 let n:=(w64 (b+1))
 some (.inl (f,e,d,c,n))) (
 cond (a.1==1) (
 let m:=(w64 (b+1))
 some (.inl (a.2.1,e,d,c,m))) (
 cond (a.1 != 2) (
 let j:=(w64 (b+1))
 some (.inl (f,e,d,c,j))) (
 cond (f==a.2.1) (
 let l:=(w64 (b+1))
 some (.inl (a.2.2.1,e,d,c,l))) (
 cond (f==a.2.2.1) (
 let i:=(w64 (b+1))
 some (.inl (a.2.1,e,d,c,i))) (
 let g:=(w64 (b+1))
 some (.inl (f,e,d,c,g)))))))) none) (
 some (.inr f))
def Cw[LP](d e:Int)(c:aS)(b a:Int):Option (Int):=
 LP.lp (unc5 (j59)) (d,e,c,b,a)
theorem SR(d e c b a):Cw d e c b a=lpK (j59 d e c b a) (λh=>Cw h.1 h.2.1 h.2.2.1 h.2.2.2.1 h.2.2.2.2):=bt _ _
def jgC[LP](b:aS)(a c:Int):Option (Int):=
 let d:=(Int.ofNat (List.length b))
 (Cw a c b d 0).bind λe=>
 some e
def j2n(s q:Int)(k:aS)(n c:Int)(r:ai)(e:ak)(f:aq)(d:aw)(j:cD)(p:ByteArray)(i:aV)(g:aS)(o:(List Int)):Option ((Int×Int×aS×Int×Int×ai×ak×aq×aw×cD×ByteArray×aV×aS×(List Int)) ⊕ ((Int×Int×ai×ak×aq×aw×cD×ByteArray×aV×aS×(List Int)))):=
 cond (decide (c<n)) (
 cond (inR c (List.length k)) (
 let a:=(List.getD k (Int.toNat c) (0,(0,(0,(0,0)))))
 let b:(List Int):=[a.2.2.2.1,a.2.2.2.2]
 cond (decide (List.length o+List.length b<=aP)) (
 let l:(List Int):=(o++b)
 let m:=(w64 (c+1))
 some (.inl (s,q,k,n,m,r,e,f,d,j,p,i,g,l))) none) none) (
 some (.inr (s,q,r,e,f,d,j,p,i,g,o)))
def Cx[LP](o m:Int)(g:aS)(i j:Int)(n:ai)(b:ak)(c:aq)(a:aw)(f:cD)(k:ByteArray)(e:aV)(d:aS)(l:(List Int)):Option ((Int×Int×ai×ak×aq×aw×cD×ByteArray×aV×aS×(List Int))):=
 LP.lp (jkl (j2n)) (o,m,g,i,j,n,b,c,a,f,k,e,d,l)
theorem SS(o m g i j n b c a f k e d l):Cx o m g i j n b c a f k e d l=lpK (j2n o m g i j n b c a f k e d l) (λh=>Cx h.1 h.2.1 h.2.2.1 h.2.2.2.1 h.2.2.2.2.1 h.2.2.2.2.2.1 h.2.2.2.2.2.2.1 h.2.2.2.2.2.2.2.1 h.2.2.2.2.2.2.2.2.1 h.2.2.2.2.2.2.2.2.2.1 h.2.2.2.2.2.2.2.2.2.2.1 h.2.2.2.2.2.2.2.2.2.2.2.1 h.2.2.2.2.2.2.2.2.2.2.2.2.1 h.2.2.2.2.2.2.2.2.2.2.2.2.2):=bt _ _
def j2o[LP](j l r p:Int)(s:ByteArray)(i:aV)(b:aS)(t a e:Int)(c:(List Int))(k q:ae):Option ((Int×Int×Int×Int×ByteArray×aV×aS×Int×Int×Int×(List Int)×ae×ae) ⊕ ((Int×Int×ByteArray×aV×aS×(List Int)×ae×ae))):=
 cond (decide (l<a)) (
 cond (inR j (List.length c)) (
 let f:=(List.getD c (Int.toNat j) 0)
 let d:Int:=(if f<a then f else a:Int)
 (jgC b e l).bind λm=>
 let g:ae:=[(l,(d,m))]
 cond (decide (List.length k+List.length g<=aP)) (
 let o:ae:=(k++g)
 let n:=(w64 (j+1))
 some (.inl (n,d,r,p,s,i,b,t,a,e,c,o,q))) none) none) (
 some (.inr (r,p,s,i,b,c,k,q)))
def Fz[LP](i m k l:Int)(n:ByteArray)(d:aV)(c:aS)(f b a:Int)(e:(List Int))(j g:ae):Option ((Int×Int×ByteArray×aV×aS×(List Int)×ae×ae)):=
 LP.lp (jvA (j2o)) (i,m,k,l,n,d,c,f,b,a,e,j,g)
theorem SU(i m k l n d c f b a e j g):Fz i m k l n d c f b a e j g=lpK (j2o i m k l n d c f b a e j g) (λh=>Fz h.1 h.2.1 h.2.2.1 h.2.2.2.1 h.2.2.2.2.1 h.2.2.2.2.2.1 h.2.2.2.2.2.2.1 h.2.2.2.2.2.2.2.1 h.2.2.2.2.2.2.2.2.1 h.2.2.2.2.2.2.2.2.2.1 h.2.2.2.2.2.2.2.2.2.2.1 h.2.2.2.2.2.2.2.2.2.2.2.1 h.2.2.2.2.2.2.2.2.2.2.2.2):=bt _ _
def j2p[LP](k c:Int)(n:ByteArray)(m:aV)(l:aS)(i:(List Int))(j d:ae):Option ((Int×Int×ByteArray×aV×aS×(List Int)×ae×ae) ⊕ (ae)):=
 cond (decide (c<k)) (
 cond (inR c (List.length d)) (
 let b:=(List.getD d (Int.toNat c) (0,(0,0)))
 let g:=(w64 (b.1+1))
 (j2m i g).bind λe=>
 (Fz e.1 b.1 k c n m l b.1 b.2.1 b.2.2 i j d).bind λa=>
 let f:=(w64 (a.2.1+1))
 some (.inl (a.1,f,a.2.2.1,a.2.2.2.1,a.2.2.2.2.1,a.2.2.2.2.2.1,a.2.2.2.2.2.2.1,a.2.2.2.2.2.2.2))) none) (
 some (.inr j))
def Cy[LP](f g:Int)(i:ByteArray)(b:aV)(a:aS)(c:(List Int))(e d:ae):Option (ae):=
 LP.lp (unc8 (j2p)) (f,g,i,b,a,c,e,d)
theorem SV(f g i b a c e d):Cy f g i b a c e d=lpK (j2p f g i b a c e d) (λh=>Cy h.1 h.2.1 h.2.2.1 h.2.2.2.1 h.2.2.2.2.1 h.2.2.2.2.2.1 h.2.2.2.2.2.2.1 h.2.2.2.2.2.2.2):=bt _ _
def j6r[LP](b:lu)(c:lj)(d e:Int):Option (ae):=
 let i:=(Int.ofNat (List.length c.2.2))
 (Cx d e c.2.2 i 0 b.1.1 b.1.2.1 b.1.2.2.1 b.1.2.2.2 b.2 c.1 c.2.1 c.2.2 ([]:(List Int))).bind λa=>
 (jgA a.2.2.2.2.2.2.2.2.2.2 a.1 a.2.1).bind λg=>
 (j49 ((a.2.2.1,(a.2.2.2.1,(a.2.2.2.2.1,a.2.2.2.2.2.1))),a.2.2.2.2.2.2.1) (a.2.2.2.2.2.2.2.1,(a.2.2.2.2.2.2.2.2.1,a.2.2.2.2.2.2.2.2.2.1)) a.1 a.2.1).bind λf=>
 let k:=(Int.ofNat (List.length f))
 (Cy k 0 a.2.2.2.2.2.2.2.1 a.2.2.2.2.2.2.2.2.1 a.2.2.2.2.2.2.2.2.2.1 g ([]:ae) f).bind λl=>
 (j8E l).bind λj=>
 some j
def j6s[LP](b:cL)(a d e:Int):Option (ae×Int):=
 (jaB (b.1,(b.2.1,(b.2.2.1,b.2.2.2))) a d e).bind λc=>
 cond (c.2 != 0) (
 some (([]:ae),c.2)) (
 cond (inR a (List.length b.2.2.2)) (
 let f:=(List.getD b.2.2.2 (Int.toNat a) (ByteArray.empty,(([]:aV),([]:aS))))
 (j6r ((c.1.1.1,(c.1.1.2.1,(c.1.1.2.2.1,c.1.1.2.2.2))),c.1.2) (f.1,(f.2.1,f.2.2)) d e).bind λg=>
 let i:=(Int.ofNat (List.length g))
 cond (decide (i>16384)) (
 some (([]:ae),5)) (
 some (g,0))) none)
def j4L(f:dQ)(i e:Int)(g:af):Option ((dQ×Int×Int×af) ⊕ (af)):=
 cond (decide (e<i)) (
 cond (inR e (List.length f)) (
 let a:=(List.getD f (Int.toNat e) ((0,0),0))
 let b:af:=[(a.1.1,a.1.2)]
 cond (decide (List.length g+List.length b<=aP)) (
 let d:af:=(g++b)
 let c:=(w64 (e+1))
 some (.inl (f,i,c,d))) none) none) (
 some (.inr g))
def J5[LP](b:dQ)(c a:Int)(d:af):Option (af):=
 LP.lp (unc4 (j4L)) (b,c,a,d)
theorem jgD(a b d c):J5 a b d c=lpK (j4L a b d c) (λh=>J5 h.1 h.2.1 h.2.2.1 h.2.2.2):=bt _ _
def jby[LP](a:dQ):Option (af):=
 let b:=(Int.ofNat (List.length a))
 (J5 a b 0 ([]:af)).bind λc=>
 some c
def jgE(a:BI):Option (Bool):=
 some (cond (decide (a.2<1)) true (decide (a.2>8)))
def j0y(e:dQ)(f b:Int):Option ((dQ×Int×Int) ⊕ (Int ⊕ Unit)):=
 cond (decide (b<f)) (
 cond (inR b (List.length e)) (
 let a:=(List.getD e (Int.toNat b) ((0,0),0))
 (jgE ((a.1.1,a.1.2),a.2)).bind λc=>
 cond c (
 some (.inr (.inl b))) (
 let d:=(w64 (b+1))
 some (.inl (e,f,d)))) none) (
 some (.inr (.inr ())))
def J6[LP](a:dQ)(c b:Int):Option (Int ⊕ Unit):=
 LP.lp (unc3 (j0y)) (a,c,b)
theorem j5e(a c b):J6 a c b=lpK (j0y a c b) (λh=>J6 h.1 h.2.1 h.2.2):=bt _ _
def j1x[LP](a:dQ):Option (Int):=
 let c:=(Int.ofNat (List.length a))
 (J6 a c 0).bind λb=>
 sumC b (λd=>
 some d) (λe=>
 some (-1))
def j0H[LP](a:dQ):Option (Bool):=
 (j1x a).bind λb=>
 some (decide (b>=0))
def jeQ[LP](a:dQ):Option (Int):=
 (jby a).bind λd=>
 (jai d).bind λb=>
 cond (b != 0) (
 some b) (
 (j0H a).bind λc=>
 cond c (
 some 1) (
 some 0))
def j3X(m c:Int)(d:dW)(k:ae)(l:(List Int)):Option ((Int×Int×dW×ae×(List Int)) ⊕ ((dW×ae))):=
 cond (decide (c<m)) (
 cond (inR c (List.length l)) (
 let a:=(List.getD l (Int.toNat c) 0)
 let e:Int:=(df (0,(0,0)) d a).1
 let g:Int:=(df (0,(0,0)) d a).2.1
 let j:Int:=(df (0,(0,0)) d a).2.2
 let b:ae:=[(e,(g,j))]
 cond (decide (List.length k+List.length b<=aP)) (
 let i:ae:=(k++b)
 let f:=(w64 (c+1))
 some (.inl (m,f,d,i,l))) none) none) (
 some (.inr (d,k)))
def Cz[LP](c a:Int)(b:dW)(d:ae)(e:(List Int)):Option ((dW×ae)):=
 LP.lp (unc5 (j3X)) (c,a,b,d,e)
theorem SX(c a b d e):Cz c a b d e=lpK (j3X c a b d e) (λh=>Cz h.1 h.2.1 h.2.2.1 h.2.2.2.1 h.2.2.2.2):=bt _ _
def jcS[LP](a:dW):Option (ae×dW):=
 cond (yP a) (
 let c:(List Int):=(iw a)
 let d:=(Int.ofNat (List.length c))
 (Cz d 0 a ([]:ae) c).bind λb=>
 some (b.2,b.1)) none
def j4s(o n:Int)(q:dQ)(i e g:Int)(c:af)(d:ae)(b:dW):Option ((Int×Int×dQ×Int×Int×Int×af×ae×dW) ⊕ ((Int×Int×dQ×Int×af×ae×dW))):=
 cond (decide (e<i)) (
 cond (inR e (List.length d)) (
 let a:=(List.getD d (Int.toNat e) (0,(0,0)))
 cond (decide (a.2.2>=0)) (
 let r:Int:=(df (0,(0,0)) b a.2.2).1
 let l:Int:=(df (0,(0,0)) b a.2.2).2.1
 let s:Int:=(df (0,(0,0)) b a.2.2).2.2
 let k:=(w64 (l+a.2.1))
 let f:=(w64 (k-a.1))
 let p:dW:=(fI b a.2.2 (a.2.2,(f,f)))
 let m:=(w64 (e+1))
 some (.inl (o,n,q,i,m,g,c,d,p))) (
 let j:=(w64 (e+1))
 some (.inl (o,n,q,i,j,g,c,d,b)))) none) (
 some (.inr (o,n,q,g,c,d,b)))
def CA[LP](i g:Int)(j:dQ)(d f b:Int)(a:af)(c:ae)(e:dW):Option ((Int×Int×dQ×Int×af×ae×dW)):=
 LP.lp (unc9 (j4s)) (i,g,j,d,f,b,a,c,e)
theorem SY(i g j d f b a c e):CA i g j d f b a c e=lpK (j4s i g j d f b a c e) (λh=>CA h.1 h.2.1 h.2.2.1 h.2.2.2.1 h.2.2.2.2.1 h.2.2.2.2.2.1 h.2.2.2.2.2.2.1 h.2.2.2.2.2.2.2.1 h.2.2.2.2.2.2.2.2):=bt _ _
def j69[LP](l k:Int)(e:dQ)(f b g:Int)(d:af)(m:ae)(i:dW):Option ((Int×Int×dQ×Int×Int×Int×af×ae×dW) ⊕ (dW)):=
 cond (decide (b<f)) (
 cond (inR b (List.length e)) (
 let a:=(List.getD e (Int.toNat b) ((0,0),0))
 let c:af:=[(a.1.1,a.1.2)]
 (j4n (g,d) c l k).bind λj=>
 none) none) (
 some (.inr i))
def J7[LP](j i:Int)(g:dQ)(c b d:Int)(a:af)(e:ae)(f:dW):Option (dW):=
 LP.lp (unc9 (j69)) (j,i,g,c,b,d,a,e,f)
theorem ji9(j i g c b d a e f):J7 j i g c b d a e f=lpK (j69 j i g c b d a e f) (λh=>J7 h.1 h.2.1 h.2.2.1 h.2.2.2.1 h.2.2.2.2.1 h.2.2.2.2.2.1 h.2.2.2.2.2.2.1 h.2.2.2.2.2.2.2.1 h.2.2.2.2.2.2.2.2):=bt _ _
def jcq[LP](a:cL)(c d g b:Int)(i:dQ):Option (ae×Int):=
 (j6s (a.1,(a.2.1,(a.2.2.1,a.2.2.2))) c d g).bind λf=>
 cond (f.2 != 0) (
 some (([]:ae),f.2)) (
 let n:=(Int.ofNat (List.length a.1))
 cond (cond (decide (b<0)) true (decide (b>=n))) (
 some (([]:ae),3)) (
 (jeQ i).bind λq=>
 cond (q != 0) (
 some (([]:ae),8)) (
 cond (inR b (List.length a.1)) (
 let j:=(List.getD a.1 (Int.toNat b) (ByteArray.empty,(0,([]:ba))))
 (jfx (j.1,(j.2.1,j.2.2))).bind λk=>
 let o:dW:=([]:dW)
 let p:=(Int.ofNat (List.length f.1))
 (CA d g i p 0 k.1.1 k.1.2 f.1 o).bind λe=>
 let m:=(Int.ofNat (List.length e.2.2.1))
 (J7 e.1 e.2.1 e.2.2.1 m 0 e.2.2.2.1 e.2.2.2.2.1 e.2.2.2.2.2.1 e.2.2.2.2.2.2).bind λr=>
 (jcS r).bind λl=>
 some (l.1,0)) none)))
def j3r(a:ae)(g b:Int):Option ((ae×Int×Int) ⊕ (Int ⊕ Unit)):=
 let f:=(Int.ofNat (List.length a))
 cond (decide (b<f)) (
 cond (inR b (List.length a)) (
 let e:=(List.getD a (Int.toNat b) (0,(0,0)))
 cond (e.1==g) (
 cond (inR b (List.length a)) (
 let c:=(List.getD a (Int.toNat b) (0,(0,0)))
 some (.inr (.inl c.2.2))) none) (
 let d:=(w64 (b+1))
 some (.inl (a,g,d)))) none) (
 some (.inr (.inr ())))
def FA[LP](a:ae)(c b:Int):Option (Int ⊕ Unit):=
 LP.lp (unc3 (j3r)) (a,c,b)
theorem SZ(a c b):FA a c b=lpK (j3r a c b) (λh=>FA h.1 h.2.1 h.2.2):=bt _ _
def j3E[LP](b:ae)(a:Int):Option (Int):=
 (FA b a 0).bind λc=>
 sumC c (λd=>
 some d) (λe=>
 some 0)
def j2q[LP](f e d a:Int)(b c:ae):Option ((Int×Int×Int×Int×ae×ae) ⊕ (Bool ⊕ Unit)):=
 cond (decide (a<d)) (
 cond (a==f) (
 cond (a==e) (
 (j3E b a).bind λn=>
 (j3E c f).bind λi=>
 cond (n != i) (
 some (.inr (.inl false))) (
 let s:=(w64 (a+1))
 some (.inl (f,e,d,s,b,c)))) (
 (j3E b a).bind λq=>
 (j3E c e).bind λk=>
 cond (q != k) (
 some (.inr (.inl false))) (
 let o:=(w64 (a+1))
 some (.inl (f,e,d,o,b,c))))) (
 cond (a==e) (
 (j3E b a).bind λp=>
 (j3E c f).bind λj=>
 cond (p != j) (
 some (.inr (.inl false))) (
 let g:=(w64 (a+1))
 some (.inl (f,e,d,g,b,c)))) (
 (j3E b a).bind λl=>
 (j3E c a).bind λm=>
 cond (l != m) (
 some (.inr (.inl false))) (
 let r:=(w64 (a+1))
 some (.inl (f,e,d,r,b,c)))))) (
 some (.inr (.inr ())))
def CB[LP](f e b d:Int)(a c:ae):Option (Bool ⊕ Unit):=
 LP.lp (unc6 (j2q)) (f,e,b,d,a,c)
theorem S7(f e b d a c):CB f e b d a c=lpK (j2q f e b d a c) (λh=>CB h.1 h.2.1 h.2.2.1 h.2.2.2.1 h.2.2.2.2.1 h.2.2.2.2.2):=bt _ _
def jaI[LP](f:(List Int)):Option (Bool):=
 (jhq f).bind λw=>
 cond (!w) (
 (j7H).bind λt=>
 some t) (
 (jjy f).bind λm=>
 (j5B m.1 m.2 1).bind λa=>
 let o:=(Int.ofNat (List.length a.1.2.1))
 cond (decide (o<2)) (
 (j7H).bind λq=>
 some q) (
 let s:=(Int.ofNat (List.length a.1.2.1))
 (j05 a.2.1 a.2.2 s).bind λc=>
 let x:=(w64 (c.1+1))
 let p:=(Int.ofNat (List.length a.1.2.1))
 let u:=(w64 (p-1))
 (j05 c.2.1 c.2.2 u).bind λg=>
 let v:=(w64 (x+g.1))
 let j:=(Int.ofNat (List.length a.1.2.1))
 cond (!(j==0)) (
 let i:=(Int.tmod v j)
 (j4T g.2.1 g.2.2).bind λd=>
 let e:=(w64 (d.1+518400))
 (jeh (a.1.1,(a.1.2.1,(a.1.2.2.1,a.1.2.2.2))) 0 (2,(c.1,(i,(d.1,e))))).bind λb=>
 (jcq (a.1.1,(a.1.2.1,(a.1.2.2.1,a.1.2.2.2))) 0 d.1 e 0 ([]:dQ)).bind λl=>
 (jcq (b.1.1,(b.1.2.1,(b.1.2.2.1,b.1.2.2.2))) 0 d.1 e 0 ([]:dQ)).bind λk=>
 cond (cond (cond (b.2 != 0) true (l.2 != 0)) true (k.2 != 0)) (
 some false) (
 let r:=(Int.ofNat (List.length a.1.2.1))
 (CB c.1 i r 0 l.1 k.1).bind λy=>
 sumC y (λz=>
 some z) (λa0=>
 (j7H).bind λn=>
 some n))) none))
def j5s(a:(Int×Int)):Option (Int):=
 (j5o a.1).bind λb=>
 let d:=(w64 (b*86400))
 let c:=(w64 (d+a.2))
 some c
end
end Go.Proofs.Pw
