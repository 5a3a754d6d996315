/- Plain pd, printed by a program out of the given code. -/
import Derived.Test.YtbpjdcbbmibehaaGreatLJLS
open Go Go.Lft
set_option linter.unusedVariables false
namespace Go.Proofs.Pw
noncomputable section
abbrev af:Type:=(List (Int×Int))
abbrev ph:Type:=(Int×(List Int))
abbrev pj:Type:=(Int×(Int×Int))
abbrev DM:Type:=((Int×Int)×Int)
abbrev ae:Type:=(List pj)
abbrev cV:Type:=(List DM)
abbrev fv:Type:=(Int×af)
abbrev rU:Type:=(ByteArray×ph)
abbrev gS:Type:=(List ae)
abbrev cO:Type:=(List fv)
abbrev cW:Type:=(List (Int×pj))
abbrev rV:Type:=(Int×(Int×pj))
abbrev aB:Type:=(List rU)
abbrev bu:Type:=(List rV)
abbrev uy:Type:=(Int×(Int×rV))
abbrev bn:Type:=(List uy)
abbrev DN:Type:=(ByteArray×(Int×(af×(Int×(Int×Bool)))))
abbrev az:Type:=(List DN)
abbrev la:Type:=(ByteArray×(Int×bn))
abbrev aw:Type:=(List la)
abbrev jJ:Type:=(ByteArray×(Int×((Int×Int)×(Int×(Int×((List Int)×(af×(Int×Int))))))))
abbrev bg:Type:=(List jJ)
abbrev mf:Type:=(ByteArray×(bg×bu))
abbrev aM:Type:=(List mf)
abbrev fw:Type:=(aw×(az×(aB×aM)))
abbrev mh:Type:=(fw×cO)
abbrev unc2{A0 A1 R:Type}(f:A0->A1->R)(h:A0×A1):R:=f h.1 h.2
abbrev unc3{A0 A1 A2 R:Type}(f:A0->A1->A2->R)(h:A0×A1×A2):R:=f h.1 h.2.1 h.2.2
abbrev unc4{A0 A1 A2 A3 R:Type}(f:A0->A1->A2->A3->R)(h:A0×A1×A2×A3):R:=f h.1 h.2.1 h.2.2.1 h.2.2.2
abbrev unc5{A0 A1 A2 A3 A4 R:Type}(f:A0->A1->A2->A3->A4->R)(h:A0×A1×A2×A3×A4):R:=f h.1 h.2.1 h.2.2.1 h.2.2.2.1 h.2.2.2.2
abbrev unc6{A0 A1 A2 A3 A4 A5 R:Type}(f:A0->A1->A2->A3->A4->A5->R)(h:A0×A1×A2×A3×A4×A5):R:=f h.1 h.2.1 h.2.2.1 h.2.2.2.1 h.2.2.2.2.1 h.2.2.2.2.2
abbrev unc7{A0 A1 A2 A3 A4 A5 A6 R:Type}(f:A0->A1->A2->A3->A4->A5->A6->R)(h:A0×A1×A2×A3×A4×A5×A6):R:=f h.1 h.2.1 h.2.2.1 h.2.2.2.1 h.2.2.2.2.1 h.2.2.2.2.2.1 h.2.2.2.2.2.2
abbrev unc8{A0 A1 A2 A3 A4 A5 A6 A7 R:Type}(f:A0->A1->A2->A3->A4->A5->A6->A7->R)(h:A0×A1×A2×A3×A4×A5×A6×A7):R:=f h.1 h.2.1 h.2.2.1 h.2.2.2.1 h.2.2.2.2.1 h.2.2.2.2.2.1 h.2.2.2.2.2.2.1 h.2.2.2.2.2.2.2
abbrev unc9{A0 A1 A2 A3 A4 A5 A6 A7 A8 R:Type}(f:A0->A1->A2->A3->A4->A5->A6->A7->A8->R)(h:A0×A1×A2×A3×A4×A5×A6×A7×A8):R:=f h.1 h.2.1 h.2.2.1 h.2.2.2.1 h.2.2.2.2.1 h.2.2.2.2.2.1 h.2.2.2.2.2.2.1 h.2.2.2.2.2.2.2.1 h.2.2.2.2.2.2.2.2
abbrev jvs{A0 A1 A2 A3 A4 A5 A6 A7 A8 A9 R:Type}(f:A0->A1->A2->A3->A4->A5->A6->A7->A8->A9->R)(h:A0×A1×A2×A3×A4×A5×A6×A7×A8×A9):R:=f h.1 h.2.1 h.2.2.1 h.2.2.2.1 h.2.2.2.2.1 h.2.2.2.2.2.1 h.2.2.2.2.2.2.1 h.2.2.2.2.2.2.2.1 h.2.2.2.2.2.2.2.2.1 h.2.2.2.2.2.2.2.2.2
abbrev jvt{A0 A1 A2 A3 A4 A5 A6 A7 A8 A9 kE R:Type}(f:A0->A1->A2->A3->A4->A5->A6->A7->A8->A9->kE->R)(h:A0×A1×A2×A3×A4×A5×A6×A7×A8×A9×kE):R:=f h.1 h.2.1 h.2.2.1 h.2.2.2.1 h.2.2.2.2.1 h.2.2.2.2.2.1 h.2.2.2.2.2.2.1 h.2.2.2.2.2.2.2.1 h.2.2.2.2.2.2.2.2.1 h.2.2.2.2.2.2.2.2.2.1 h.2.2.2.2.2.2.2.2.2.2
abbrev jvu{A0 A1 A2 A3 A4 A5 A6 A7 A8 A9 kE mi R:Type}(f:A0->A1->A2->A3->A4->A5->A6->A7->A8->A9->kE->mi->R)(h:A0×A1×A2×A3×A4×A5×A6×A7×A8×A9×kE×mi):R:=f h.1 h.2.1 h.2.2.1 h.2.2.2.1 h.2.2.2.2.1 h.2.2.2.2.2.1 h.2.2.2.2.2.2.1 h.2.2.2.2.2.2.2.1 h.2.2.2.2.2.2.2.2.1 h.2.2.2.2.2.2.2.2.2.1 h.2.2.2.2.2.2.2.2.2.2.1 h.2.2.2.2.2.2.2.2.2.2.2
abbrev jvv{A0 A1 A2 A3 A4 A5 A6 A7 A8 A9 kE mi oz R:Type}(f:A0->A1->A2->A3->A4->A5->A6->A7->A8->A9->kE->mi->oz->R)(h:A0×A1×A2×A3×A4×A5×A6×A7×A8×A9×kE×mi×oz):R:=f h.1 h.2.1 h.2.2.1 h.2.2.2.1 h.2.2.2.2.1 h.2.2.2.2.2.1 h.2.2.2.2.2.2.1 h.2.2.2.2.2.2.2.1 h.2.2.2.2.2.2.2.2.1 h.2.2.2.2.2.2.2.2.2.1 h.2.2.2.2.2.2.2.2.2.2.1 h.2.2.2.2.2.2.2.2.2.2.2.1 h.2.2.2.2.2.2.2.2.2.2.2.2
abbrev jk6{A0 A1 A2 A3 A4 A5 A6 A7 A8 A9 kE mi oz rW R:Type}(f:A0->A1->A2->A3->A4->A5->A6->A7->A8->A9->kE->mi->oz->rW->R)(h:A0×A1×A2×A3×A4×A5×A6×A7×A8×A9×kE×mi×oz×rW):R:=f h.1 h.2.1 h.2.2.1 h.2.2.2.1 h.2.2.2.2.1 h.2.2.2.2.2.1 h.2.2.2.2.2.2.1 h.2.2.2.2.2.2.2.1 h.2.2.2.2.2.2.2.2.1 h.2.2.2.2.2.2.2.2.2.1 h.2.2.2.2.2.2.2.2.2.2.1 h.2.2.2.2.2.2.2.2.2.2.2.1 h.2.2.2.2.2.2.2.2.2.2.2.2.1 h.2.2.2.2.2.2.2.2.2.2.2.2.2
abbrev jyu{A0 A1 A2 A3 A4 A5 A6 A7 A8 A9 kE mi oz rW wF wG wH wI wJ wK R:Type}(f:A0->A1->A2->A3->A4->A5->A6->A7->A8->A9->kE->mi->oz->rW->wF->wG->wH->wI->wJ->wK->R)(h:A0×A1×A2×A3×A4×A5×A6×A7×A8×A9×kE×mi×oz×rW×wF×wG×wH×wI×wJ×wK):R:=f h.1 h.2.1 h.2.2.1 h.2.2.2.1 h.2.2.2.2.1 h.2.2.2.2.2.1 h.2.2.2.2.2.2.1 h.2.2.2.2.2.2.2.1 h.2.2.2.2.2.2.2.2.1 h.2.2.2.2.2.2.2.2.2.1 h.2.2.2.2.2.2.2.2.2.2.1 h.2.2.2.2.2.2.2.2.2.2.2.1 h.2.2.2.2.2.2.2.2.2.2.2.2.1 h.2.2.2.2.2.2.2.2.2.2.2.2.2.1 h.2.2.2.2.2.2.2.2.2.2.2.2.2.2.1 h.2.2.2.2.2.2.2.2.2.2.2.2.2.2.2.1 h.2.2.2.2.2.2.2.2.2.2.2.2.2.2.2.2.1 h.2.2.2.2.2.2.2.2.2.2.2.2.2.2.2.2.2.1 h.2.2.2.2.2.2.2.2.2.2.2.2.2.2.2.2.2.2.1 h.2.2.2.2.2.2.2.2.2.2.2.2.2.2.2.2.2.2.2
abbrev jyv{A0 A1 A2 A3 A4 A5 A6 A7 A8 A9 kE mi oz rW wF wG wH wI wJ wK DO DP R:Type}(f:A0->A1->A2->A3->A4->A5->A6->A7->A8->A9->kE->mi->oz->rW->wF->wG->wH->wI->wJ->wK->DO->DP->R)(h:A0×A1×A2×A3×A4×A5×A6×A7×A8×A9×kE×mi×oz×rW×wF×wG×wH×wI×wJ×wK×DO×DP):R:=f h.1 h.2.1 h.2.2.1 h.2.2.2.1 h.2.2.2.2.1 h.2.2.2.2.2.1 h.2.2.2.2.2.2.1 h.2.2.2.2.2.2.2.1 h.2.2.2.2.2.2.2.2.1 h.2.2.2.2.2.2.2.2.2.1 h.2.2.2.2.2.2.2.2.2.2.1 h.2.2.2.2.2.2.2.2.2.2.2.1 h.2.2.2.2.2.2.2.2.2.2.2.2.1 h.2.2.2.2.2.2.2.2.2.2.2.2.2.1 h.2.2.2.2.2.2.2.2.2.2.2.2.2.2.1 h.2.2.2.2.2.2.2.2.2.2.2.2.2.2.2.1 h.2.2.2.2.2.2.2.2.2.2.2.2.2.2.2.2.1 h.2.2.2.2.2.2.2.2.2.2.2.2.2.2.2.2.2.1 h.2.2.2.2.2.2.2.2.2.2.2.2.2.2.2.2.2.2.1 h.2.2.2.2.2.2.2.2.2.2.2.2.2.2.2.2.2.2.2.1 h.2.2.2.2.2.2.2.2.2.2.2.2.2.2.2.2.2.2.2.2.1 h.2.2.2.2.2.2.2.2.2.2.2.2.2.2.2.2.2.2.2.2.2
abbrev jyw{A0 A1 A2 A3 A4 A5 A6 A7 A8 A9 kE mi oz rW wF wG wH wI wJ wK DO DP Ui Uj R:Type}(f:A0->A1->A2->A3->A4->A5->A6->A7->A8->A9->kE->mi->oz->rW->wF->wG->wH->wI->wJ->wK->DO->DP->Ui->Uj->R)(h:A0×A1×A2×A3×A4×A5×A6×A7×A8×A9×kE×mi×oz×rW×wF×wG×wH×wI×wJ×wK×DO×DP×Ui×Uj):R:=f h.1 h.2.1 h.2.2.1 h.2.2.2.1 h.2.2.2.2.1 h.2.2.2.2.2.1 h.2.2.2.2.2.2.1 h.2.2.2.2.2.2.2.1 h.2.2.2.2.2.2.2.2.1 h.2.2.2.2.2.2.2.2.2.1 h.2.2.2.2.2.2.2.2.2.2.1 h.2.2.2.2.2.2.2.2.2.2.2.1 h.2.2.2.2.2.2.2.2.2.2.2.2.1 h.2.2.2.2.2.2.2.2.2.2.2.2.2.1 h.2.2.2.2.2.2.2.2.2.2.2.2.2.2.1 h.2.2.2.2.2.2.2.2.2.2.2.2.2.2.2.1 h.2.2.2.2.2.2.2.2.2.2.2.2.2.2.2.2.1 h.2.2.2.2.2.2.2.2.2.2.2.2.2.2.2.2.2.1 h.2.2.2.2.2.2.2.2.2.2.2.2.2.2.2.2.2.2.1 h.2.2.2.2.2.2.2.2.2.2.2.2.2.2.2.2.2.2.2.1 h.2.2.2.2.2.2.2.2.2.2.2.2.2.2.2.2.2.2.2.2.1 h.2.2.2.2.2.2.2.2.2.2.2.2.2.2.2.2.2.2.2.2.2.1 h.2.2.2.2.2.2.2.2.2.2.2.2.2.2.2.2.2.2.2.2.2.2.1 h.2.2.2.2.2.2.2.2.2.2.2.2.2.2.2.2.2.2.2.2.2.2.2
def jh5(a:(List Int)):Option (Bool):=
 let b:=(Int.ofNat (List.length a))
 some (decide (b<=500))
def j4m(d j:ae)(l b:Int):Option ((ae×ae×Int×Int) ⊕ (Bool ⊕ Unit)):=
 cond (decide (b<l)) (
 cond (inR b (List.length j)) (
 let a:=(List.getD j (Int.toNat b) (0,(0,0)))
 cond (decide (a.1<0)) (
 some (.inr (.inl false))) (
 cond (decide (a.1>=32)) (
 some (.inr (.inl false))) (
 cond (decide (b>0)) (
 let c:=(w64 (b-1))
 cond (inR c (List.length d)) (
 let k:=(List.getD d (Int.toNat c) (0,(0,0)))
 cond (decide (a.1<=k.1)) (
 some (.inr (.inl false))) (
 cond (decide (a.2.1<0)) (
 some (.inr (.inl false))) (
 cond (decide (a.2.1>8589934592)) (
 some (.inr (.inl false))) (
 cond (decide (a.2.2<a.2.1)) (
 some (.inr (.inl false))) (
 let e:=(w64 (8*a.2.1))
 cond (decide (a.2.2>e)) (
 some (.inr (.inl false))) (
 let i:=(w64 (b+1))
 some (.inl (d,j,l,i)))))))) none) (
 cond (decide (a.2.1<0)) (
 some (.inr (.inl false))) (
 cond (decide (a.2.1>8589934592)) (
 some (.inr (.inl false))) (
 cond (decide (a.2.2<a.2.1)) (
 some (.inr (.inl false))) (
 let g:=(w64 (8*a.2.1))
 cond (decide (a.2.2>g)) (
 some (.inr (.inl false))) (
 let f:=(w64 (b+1))
 some (.inl (d,j,l,f)))))))))) none) (
 some (.inr (.inr ())))
def yE[LP](b c:ae)(d a:Int):Option (Bool ⊕ Unit):=
 LP.lp (unc4 (j4m)) (b,c,d,a)
theorem Uk(b c d a):yE b c d a=lpK (j4m b c d a) (λh=>yE h.1 h.2.1 h.2.2.1 h.2.2.2):=bK _ _
def j4j[LP](a:ae):Option (Bool):=
 let c:=(Int.ofNat (List.length a))
 cond (decide (c>32)) (
 some false) (
 let b:=(Int.ofNat (List.length a))
 (yE a a b 0).bind λd=>
 sumC d (λe=>
 some e) (λf=>
 some true))
def j9b(e:Int)(d:ae)(f c:Int):Option ((Int×ae×Int×Int) ⊕ (Int ⊕ Unit)):=
 cond (decide (c<f)) (
 cond (inR c (List.length d)) (
 let a:=(List.getD d (Int.toNat c) (0,(0,0)))
 cond (a.1==e) (
 some (.inr (.inl a.2.2))) (
 let b:=(w64 (c+1))
 some (.inl (e,d,f,b)))) none) (
 some (.inr (.inr ())))
def Ml[LP](d:Int)(a:ae)(b c:Int):Option (Int ⊕ Unit):=
 LP.lp (unc4 (j9b)) (d,a,b,c)
def j21[LP](b:ae)(a:Int):Option (Int):=
 let c:=(Int.ofNat (List.length b))
 (Ml a b c 0).bind λd=>
 sumC d (λe=>
 some e) (λf=>
 some 0)
def jdi(d:ae)(l b n e g m f c:Int):Option ((ae×Int×Int×Int×Int×Int×Int×Int×Int) ⊕ ((Int×Int×Int×Int×Int×Int))):=
 cond (decide (b<l)) (
 cond (inR b (List.length d)) (
 let a:=(List.getD d (Int.toNat b) (0,(0,0)))
 let i:=(w64 (f+a.2.1))
 let j:=(w64 (c+a.2.2))
 let k:=(w64 (b+1))
 some (.inl (d,l,k,n,e,g,m,i,j))) none) (
 some (.inr (n,e,g,m,f,c)))
def Mm[LP](e:ae)(g f j b d i c a:Int):Option ((Int×Int×Int×Int×Int×Int)):=
 LP.lp (unc9 (jdi)) (e,g,f,j,b,d,i,c,a)
def jeu[LP](a:ae):Option (pj):=
 (j4j a).bind λd=>
 cond (!d) (
 some ((-1),(0,0))) (
 let c:=(Int.ofNat (List.length a))
 (Mm a c 0 0 0 0 (-1) 0 0).bind λb=>
 some (b.2.2.2.1,(b.2.2.2.2.1,b.2.2.2.2.2)))
def jhH(a:Int):Option (Bool):=
 let b:Bool:=(cond (decide (a>=(-4611686018427387904))) (decide (a<=4611686018427387904)) false)
 some b
def jlc(a:Int):Option (Int):=
 cond (decide (a<0)) (
 let b:=(w64 (0-a))
 some b) (
 some a)
def jc5(c b:Int):Option ((Int×Int) ⊕ (Int)):=
 cond (b != 0) (
 cond (!(b==0)) (
 let a:=(Int.tmod c b)
 some (.inl (b,a))) none) (
 some (.inr c))
def Mn[LP](a b:Int):Option (Int):=
 LP.lp (unc2 (jc5)) (a,b)
def jdX[LP](a b:Int):Option (Int):=
 (Mn a b).bind λc=>
 some c
def jc6[LP](b a:Int):Option DM:=
 cond (cond (decide (a<1)) true (decide (a>4611686018427387904))) (
 some ((0,0),1)) (
 (jhH b).bind λg=>
 cond (!g) (
 some ((0,0),1)) (
 (jlc b).bind λe=>
 (jdX e a).bind λc=>
 cond (!(c==0)) (
 let f:=(w64 (Int.tdiv b c))
 cond (!(c==0)) (
 let d:=(w64 (Int.tdiv a c))
 some ((f,d),0)) none) none))
def jc7[LP](b:ae)(a:Int):Option DM:=
 (j4j b).bind λg=>
 cond (!g) (
 some ((0,0),8)) (
 (j21 b a).bind λf=>
 (jeu b).bind λd=>
 let e:Int:=(if d.2.2>1 then d.2.2 else 1:Int)
 (jc6 f e).bind λc=>
 some ((c.1.1,c.1.2),c.2))
def j4X[LP](j:ae)(m:(List Int))(k:Int)(c:(List Int))(i a l b:Int):Option ((ae×(List Int)×Int×(List Int)×Int×Int×Int×Int) ⊕ ((ae×(List Int)×Int×Int×Int))):=
 cond (decide (a<i)) (
 cond (inR a (List.length c)) (
 let e:=(List.getD c (Int.toNat a) 0)
 (j21 j e).bind λg=>
 let f:=(w64 (k+g))
 let d:=(w64 (a+1))
 some (.inl (j,m,f,c,i,d,l,b))) none) (
 some (.inr (j,m,k,l,b)))
def Mo[LP](e:ae)(i:(List Int))(f:Int)(d:(List Int))(c b g a:Int):Option ((ae×(List Int)×Int×Int×Int)):=
 LP.lp (unc8 (j4X)) (e,i,f,d,c,b,g,a)
def j4Y[LP](l:ae)(o:(List Int))(m p:Int)(c:(List Int))(k b n d:Int):Option ((ae×(List Int)×Int×Int×(List Int)×Int×Int×Int×Int) ⊕ (((List Int)×Int×Int×Int×Int))):=
 cond (decide (b<k)) (
 cond (inR b (List.length c)) (
 let a:=(List.getD c (Int.toNat b) 0)
 (j21 l a).bind λg=>
 (j21 l a).bind λf=>
 let i:=(w64 (g*f))
 let e:=(w64 (p+i))
 let j:=(w64 (b+1))
 some (.inl (l,o,m,e,c,k,j,n,d))) none) (
 some (.inr (o,m,p,n,d)))
def Mp[LP](e:ae)(i:(List Int))(f j:Int)(b:(List Int))(d c g a:Int):Option (((List Int)×Int×Int×Int×Int)):=
 LP.lp (unc9 (j4Y)) (e,i,f,j,b,d,c,g,a)
def je0[LP](d:ae)(a:(List Int)):Option DM:=
 (j4j d).bind λl=>
 cond (!l) (
 some ((0,0),8)) (
 let m:=(Int.ofNat (List.length a))
 cond (decide (m>32)) (
 some ((0,0),5)) (
 let k:=(Int.ofNat (List.length a))
 (Mo d a 0 a k 0 0 0).bind λb=>
 cond (decide (b.2.2.1>268435456)) (
 some ((0,0),5)) (
 cond (b.2.2.1==0) (
 some ((1,1),0)) (
 let g:=(Int.ofNat (List.length b.2.1))
 (Mp b.1 b.2.1 b.2.2.1 0 b.2.1 g 0 b.2.2.2.1 b.2.2.2.2).bind λe=>
 let i:=(w64 (e.2.1*e.2.1))
 let f:=(Int.ofNat (List.length e.1))
 let j:=(w64 (f*e.2.2.1))
 (jc6 i j).bind λc=>
 some ((c.1.1,c.1.2),c.2)))))
def j3S[LP](k:ae)(m l:Int)(e:(List Int))(j d:Int):Option ((ae×Int×Int×(List Int)×Int×Int) ⊕ ((Int×Int))):=
 cond (decide (d<j)) (
 cond (inR d (List.length e)) (
 let a:=(List.getD e (Int.toNat d) 0)
 (j21 k a).bind λb=>
 let i:Int:=(if b<m then b else m:Int)
 (j21 k a).bind λc=>
 let f:Int:=(if c>l then c else l:Int)
 let g:=(w64 (d+1))
 some (.inl (k,i,f,e,j,g))) none) (
 some (.inr (m,l)))
def Mq[LP](d:ae)(f e:Int)(b:(List Int))(a c:Int):Option ((Int×Int)):=
 LP.lp (unc6 (j3S)) (d,f,e,b,a,c)
def jau[LP](b:ae)(a:(List Int)):Option (Int):=
 (j4j b).bind λk=>
 let j:=(Int.ofNat (List.length a))
 cond (cond (!k) true (j==0)) (
 some 0) (
 cond (inR 0 (List.length a)) (
 let l:=(List.getD a 0 0)
 (j21 b l).bind λd=>
 cond (inR 0 (List.length a)) (
 let e:=(List.getD a 0 0)
 (j21 b e).bind λg=>
 let c:=(Int.ofNat (List.length a))
 (Mq b d g a c 0).bind λi=>
 let f:=(w64 (i.2-i.1))
 some f) none) none)
def j8M[LP]  : Option (Bool):=
 let d:ae:=[(0,(100,100)),(1,(300,300))]
 (jc7 d 0).bind λb=>
 let e:(List Int):=[0,1]
 (je0 d e).bind λc=>
 let i:Bool:=(cond (cond (b.2==0) (c.2==0) false) ((b.1.1==1)&&(b.1.2==4)) false)
 cond (cond i ((c.1.1==4)&&(c.1.2==5)) false) (
 let f:(List Int):=[0,1]
 (jau d f).bind λg=>
 cond (g==200) (
 (jeu d).bind λa=>
 some ((a.1==(-1))&&((a.2.1==400)&&(a.2.2==400)))) (
 some false)) (
 some false)
def jjg(a:(List Int)):Option ((List Int)×Int):=
 some (a,0)
def j04(b:(List Int))(a c:Int):Option (Int×(List Int)×Int):=
 let i:=(Int.ofNat (List.length b))
 cond (decide (a>=i)) (
 some (0,b,a)) (
 cond (decide (c<1)) (
 some (0,b,a)) (
 cond (inR a (List.length b)) (
 let f:=(List.getD b (Int.toNat a) 0)
 cond (!(c==0)) (
 let d:=(Int.tmod f c)
 let e:=(w64 (a+1))
 cond (decide (d<0)) (
 let g:=(w64 (d+c))
 some (g,b,e)) (
 some (d,b,e))) none) none))
def j11(d:(List Int))(b:Int)(a:(List Int)):Option (Int×(List Int)×Int):=
 let f:=(Int.ofNat (List.length a))
 (j04 d b f).bind λc=>
 cond (inR c.1 (List.length a)) (
 let e:=(List.getD a (Int.toNat c.1) 0)
 some (e,c.2.1,c.2.2)) none
def j3O(a0:(List Int))(j:Int)(a:ByteArray):Option (la×(List Int)×Int):=
 let b4:(List Int):=[0,4,(-20),22,48,(-47)]
 (j11 a0 j b4).bind λv=>
 (j04 v.2.1 v.2.2 2).bind λo=>
 (j04 o.2.1 o.2.2 3).bind λu=>
 let a8:=(w64 (o.1*u.1))
 let a6:=(w64 (v.1+a8))
 let c:=(w64 (900*a6))
 (j04 u.2.1 u.2.2 2).bind λn=>
 let g:=(w64 (2025+n.1))
 (j04 n.2.1 n.2.2 4).bind λb=>
 cond (b.1==1) (
 let b2:=(w64 (c+3600))
 let b5:bn:=[(2025,(g,(3,(5,(6,(7200,b2)))))),(2025,(g,(10,(5,(6,(10800,c))))))]
 some ((a,(c,b5)),b.2.1,b.2.2)) (
 cond (b.1==2) (
 (j04 b.2.1 b.2.2 4).bind λm=>
 let a9:=(w64 (1+m.1))
 (j04 m.2.1 m.2.2 7).bind λr=>
 (j04 r.2.1 r.2.2 24).bind λq=>
 let a1:=(w64 (3600*q.1))
 (j04 q.2.1 q.2.2 8).bind λx=>
 let b3:=(w64 (1+x.1))
 let a7:=(w64 (1800*b3))
 let b1:=(w64 (c+a7))
 (j04 x.2.1 x.2.2 2).bind λt=>
 let b0:=(w64 (2+t.1))
 let b6:(List Int):=[2,3,5]
 (j11 t.2.1 t.2.2 b6).bind λl=>
 (j04 l.2.1 l.2.2 7).bind λi=>
 (j04 i.2.1 i.2.2 24).bind λs=>
 let a3:=(w64 (3600*s.1))
 let a5:bn:=[(2025,(g,(1,(a9,(r.1,(a1,b1)))))),(2025,(g,(b0,(l.1,(i.1,(a3,c))))))]
 some ((a,(c,a5)),s.2.1,s.2.2)) (
 cond (b.1==3) (
 let b7:(List Int):=[3600,(-3600),82800,(-82800),43200]
 (j11 b.2.1 b.2.2 b7).bind λf=>
 let w:=(w64 (c+f.1))
 cond (cond (decide (w>64800)) true (decide (w<(-64800)))) (
 (j04 f.2.1 f.2.2 7).bind λp=>
 (j04 p.2.1 p.2.2 48).bind λk=>
 let a2:=(w64 (1800*k.1))
 let a4:bn:=[(2026,(2026,(1,(2,(p.1,(a2,0))))))]
 some ((a,(c,a4)),k.2.1,k.2.2)) (
 (j04 f.2.1 f.2.2 7).bind λe=>
 (j04 e.2.1 e.2.2 48).bind λd=>
 let z:=(w64 (1800*d.1))
 let y:bn:=[(2026,(2026,(1,(2,(e.1,(z,w))))))]
 some ((a,(c,y)),d.2.1,d.2.2))) (
 some ((a,(c,([]:bn))),b.2.1,b.2.2))))
def jev  : Option ((List ByteArray)):=
 let a:(List ByteArray):=[(ByteArray.mk #[97,100,97]),(ByteArray.mk #[98,111,98]),(ByteArray.mk #[99,108,101,111]),(ByteArray.mk #[100,97,110]),(ByteArray.mk #[101,118,101]),(ByteArray.mk #[102,97,121]),(ByteArray.mk #[103,117,115]),(ByteArray.mk #[104,97,108])]
 some a
def j0N(c:(List Int))(b a:Int):Option (Bool×(List Int)×Int):=
 (j04 c b a).bind λd=>
 let e:=(w64 (a-1))
 some ((d.1==e),d.2.1,d.2.2)
def j1V(r q:Int)(p:(List Int))(g:Int)(j:af):Option ((Int×Int×(List Int)×Int×af) ⊕ (((List Int)×Int×af))):=
 cond (decide (q>0)) (
 (j04 p g 30).bind λd=>
 let o:=(w64 (3600*d.1))
 let k:=(w64 (r+o))
 (j04 d.2.1 d.2.2 2).bind λb=>
 let m:=(w64 (60*b.1))
 let e:=(w64 (k+m))
 let i:(List Int):=[3600,28800,43200,86400,61,1]
 (j11 b.2.1 b.2.2 i).bind λa=>
 let c:=(w64 (e+a.1))
 cond (decide (c>604800)) (
 some (.inr (a.2.1,a.2.2,j))) (
 let f:af:=[(e,c)]
 cond (decide (List.length j+List.length f<=aQ)) (
 let n:af:=(j++f)
 let l:=(w64 (q-1))
 some (.inl (c,l,a.2.1,a.2.2,n))) none)) (
 some (.inr (p,g,j)))
def Hj[LP](e d:Int)(b:(List Int))(a:Int)(c:af):Option (((List Int)×Int×af)):=
 LP.lp (unc5 (j1V)) (e,d,b,a,c)
theorem Ul(e d b a c):Hj e d b a c=lpK (j1V e d b a c) (λh=>Hj h.1 h.2.1 h.2.2.1 h.2.2.2.1 h.2.2.2.2):=bK _ _
def j2N[LP](c:(List Int))(a:Int):Option (af×(List Int)×Int):=
 (j04 c a 4).bind λd=>
 (Hj 0 d.1 d.2.1 d.2.2 ([]:af)).bind λb=>
 some (b.2.2,b.1,b.2.1)
def j2q(l:Int)(k:(List Int))(f:Int)(b:aw):Option ((Int×(List Int)×Int×aw) ⊕ (((List Int)×Int×aw))):=
 cond (decide (l>0)) (
 let e:(List ByteArray):=[(ByteArray.mk #[104,101,114,101]),(ByteArray.mk #[116,104,101,114,101])]
 let c:=(Int.ofNat (List.length b))
 cond (inR c (List.length e)) (
 let g:=(List.getD e (Int.toNat c) ByteArray.empty)
 (j3O k f g).bind λa=>
 let d:aw:=[(a.1.1,(a.1.2.1,a.1.2.2))]
 cond (decide (List.length b+List.length d<=aQ)) (
 let j:aw:=(b++d)
 let i:=(w64 (l-1))
 some (.inl (i,a.2.1,a.2.2,j))) none) none) (
 some (.inr (k,f,b)))
def Hk[LP](d:Int)(c:(List Int))(a:Int)(b:aw):Option (((List Int)×Int×aw)):=
 LP.lp (unc4 (j2q)) (d,c,a,b)
theorem Um(d c b a):Hk d c b a=lpK (j2q d c b a) (λh=>Hk h.1 h.2.1 h.2.2.1 h.2.2.2):=bK _ _
def j2r[LP](a4:Int)(a5:(List Int))(q:Int)(e:aw)(b:az):Option ((Int×(List Int)×Int×aw×az) ⊕ (((List Int)×Int×aw×az))):=
 cond (decide (a4>0)) (
 (jev).bind λp=>
 let l:=(Int.ofNat (List.length b))
 cond (inR l (List.length p)) (
 let m:=(List.getD p (Int.toNat l) ByteArray.empty)
 let a1:=(Int.ofNat (List.length e))
 (j04 a5 q a1).bind λd=>
 (j0N d.2.1 d.2.2 3).bind λc=>
 (j0N c.2.1 c.2.2 2).bind λa=>
 cond a.1 (
 (j2N a.2.1 a.2.2).bind λg=>
 let r:(List Int):=[0,40,100,12]
 (j11 g.2.1 g.2.2 r).bind λj=>
 let x:=(w64 (3600*j.1))
 let a3:(List Int):=[0,11,24,1]
 (j11 j.2.1 j.2.2 a3).bind λk=>
 let v:=(w64 (3600*k.1))
 let n:az:=[(m,(d.1,(g.1,(x,(v,c.1)))))]
 cond (decide (List.length b+List.length n<=aQ)) (
 let a2:az:=(b++n)
 let z:=(w64 (a4-1))
 some (.inl (z,k.2.1,k.2.2,e,a2))) none) (
 let a0:(List Int):=[0,40,100,12]
 (j11 a.2.1 a.2.2 a0).bind λf=>
 let s:=(w64 (3600*f.1))
 let t:(List Int):=[0,11,24,1]
 (j11 f.2.1 f.2.2 t).bind λi=>
 let w:=(w64 (3600*i.1))
 let o:az:=[(m,(d.1,(([]:af),(s,(w,c.1)))))]
 cond (decide (List.length b+List.length o<=aQ)) (
 let u:az:=(b++o)
 let y:=(w64 (a4-1))
 some (.inl (y,i.2.1,i.2.2,e,u))) none)) none) (
 some (.inr (a5,q,e,b)))
def Hl[LP](e:Int)(d:(List Int))(c:Int)(b:aw)(a:az):Option (((List Int)×Int×aw×az)):=
 LP.lp (unc5 (j2r)) (e,d,c,b,a)
theorem Un(e d c b a):Hl e d c b a=lpK (j2r e d c b a) (λh=>Hl h.1 h.2.1 h.2.2.1 h.2.2.2.1 h.2.2.2.2):=bK _ _
def j2s(p q n:Int)(m:(List Int))(i:Int)(o:ByteArray)(f:Int)(e:aw)(d:az)(g:aB)(c:(List Int)):Option ((Int×Int×Int×(List Int)×Int×ByteArray×Int×aw×az×aB×(List Int)) ⊕ ((Int×(List Int)×Int×ByteArray×Int×aw×az×aB×(List Int)))):=
 cond (decide (q>0)) (
 (j04 m i 6).bind λb=>
 let l:=(w64 (1+b.1))
 let a:=(w64 (n+l))
 cond (decide (List.length c+List.length [a]<=aQ)) (
 let j:(List Int):=(c++[a])
 let k:=(w64 (q-1))
 some (.inl (p,k,a,b.2.1,b.2.2,o,f,e,d,g,j))) none) (
 some (.inr (p,m,i,o,f,e,d,g,c)))
def Hm[LP](k l g:Int)(i:(List Int))(f:Int)(j:ByteArray)(d:Int)(c:aw)(b:az)(e:aB)(a:(List Int)):Option ((Int×(List Int)×Int×ByteArray×Int×aw×az×aB×(List Int))):=
 LP.lp (jvt (j2s)) (k,l,g,i,f,j,d,c,b,e,a)
theorem Uo(k l g i f j d c b e a):Hm k l g i f j d c b e a=lpK (j2s k l g i f j d c b e a) (λh=>Hm h.1 h.2.1 h.2.2.1 h.2.2.2.1 h.2.2.2.2.1 h.2.2.2.2.2.1 h.2.2.2.2.2.2.1 h.2.2.2.2.2.2.2.1 h.2.2.2.2.2.2.2.2.1 h.2.2.2.2.2.2.2.2.2.1 h.2.2.2.2.2.2.2.2.2.2):=bK _ _
def j1C[LP](n:Int)(m:(List Int))(j:Int)(e:aw)(f:az)(i:aB):Option ((Int×(List Int)×Int×aw×az×aB) ⊕ (((List Int)×Int×aw×az×aB))):=
 cond (decide (n>0)) (
 let l:=(Int.ofNat (List.length e))
 (j04 m j l).bind λb=>
 (j04 b.2.1 b.2.2 4).bind λc=>
 (Hm n c.1 20454 c.2.1 c.2.2 (ByteArray.mk #[100,97,121,115]) b.1 e f i ([]:(List Int))).bind λa=>
 let d:aB:=[(a.2.2.2.1,(a.2.2.2.2.1,a.2.2.2.2.2.2.2.2))]
 cond (decide (List.length a.2.2.2.2.2.2.2.1+List.length d<=aQ)) (
 let g:aB:=(a.2.2.2.2.2.2.2.1++d)
 let k:=(w64 (a.1-1))
 some (.inl (k,a.2.1,a.2.2.1,a.2.2.2.2.2.1,a.2.2.2.2.2.2.1,g))) none) (
 some (.inr (m,j,e,f,i)))
def Hn[LP](f:Int)(e:(List Int))(d:Int)(b:aw)(a:az)(c:aB):Option (((List Int)×Int×aw×az×aB)):=
 LP.lp (unc6 (j1C)) (f,e,d,b,a,c)
theorem Mr(f e d b a c):Hn f e d b a c=lpK (j1C f e d b a c) (λh=>Hn h.1 h.2.1 h.2.2.1 h.2.2.2.1 h.2.2.2.2.1 h.2.2.2.2.2):=bK _ _
def j7V[LP](g:(List Int))(d:Int):Option (fw×(List Int)×Int):=
 (j04 g d 2).bind λe=>
 let k:=(w64 (1+e.1))
 (Hk k e.2.1 e.2.2 ([]:aw)).bind λi=>
 (j04 i.1 i.2.1 4).bind λb=>
 let j:=(w64 (1+b.1))
 (Hl j b.2.1 b.2.2 i.2.2 ([]:az)).bind λf=>
 (j04 f.1 f.2.1 2).bind λc=>
 (Hn c.1 c.2.1 c.2.2 f.2.2.1 f.2.2.2 ([]:aB)).bind λa=>
 some ((a.2.2.1,(a.2.2.2.1,(a.2.2.2.2,([]:aM)))),a.1,a.2.1)
def j2t(z:Int)(a0:(List Int))(o:Int)(y:aw)(b:az)(e:aB)(n:aM)(a2:ByteArray)(j k f s i g l:Int)(a1:ByteArray)(r p m q u d t:Int)(c:(List Int)):Option ((Int×(List Int)×Int×aw×az×aB×aM×ByteArray×Int×Int×Int×Int×Int×Int×Int×ByteArray×Int×Int×Int×Int×Int×Int×Int×(List Int)) ⊕ (((List Int)×Int×aw×az×aB×aM×ByteArray×Int×Int×Int×Int×Int×Int×Int×ByteArray×Int×Int×Int×Int×Int×Int×Int×(List Int)))):=
 cond (decide (z>0)) (
 let v:=(Int.ofNat (List.length b))
 (j04 a0 o v).bind λa=>
 cond (decide (List.length c+List.length [a.1]<=aQ)) (
 let w:(List Int):=(c++[a.1])
 let x:=(w64 (z-1))
 some (.inl (x,a.2.1,a.2.2,y,b,e,n,a2,j,k,f,s,i,g,l,a1,r,p,m,q,u,d,t,w))) none) (
 some (.inr (a0,o,y,b,e,n,a2,j,k,f,s,i,g,l,a1,r,p,m,q,u,d,t,c)))
def DQ[LP](v:Int)(w:(List Int))(n:Int)(u:aw)(a:az)(c:aB)(m:aM)(y:ByteArray)(g j d r f e k:Int)(x:ByteArray)(q o l p t b s:Int)(i:(List Int)):Option (((List Int)×Int×aw×az×aB×aM×ByteArray×Int×Int×Int×Int×Int×Int×Int×ByteArray×Int×Int×Int×Int×Int×Int×Int×(List Int))):=
 LP.lp (jyw (j2t)) (v,w,n,u,a,c,m,y,g,j,d,r,f,e,k,x,q,o,l,p,t,b,s,i)
theorem Up(v w n u a c m y g j d r f e k x q o l p t b s i):DQ v w n u a c m y g j d r f e k x q o l p t b s i=lpK (j2t v w n u a c m y g j d r f e k x q o l p t b s i) (λh=>DQ h.1 h.2.1 h.2.2.1 h.2.2.2.1 h.2.2.2.2.1 h.2.2.2.2.2.1 h.2.2.2.2.2.2.1 h.2.2.2.2.2.2.2.1 h.2.2.2.2.2.2.2.2.1 h.2.2.2.2.2.2.2.2.2.1 h.2.2.2.2.2.2.2.2.2.2.1 h.2.2.2.2.2.2.2.2.2.2.2.1 h.2.2.2.2.2.2.2.2.2.2.2.2.1 h.2.2.2.2.2.2.2.2.2.2.2.2.2.1 h.2.2.2.2.2.2.2.2.2.2.2.2.2.2.1 h.2.2.2.2.2.2.2.2.2.2.2.2.2.2.2.1 h.2.2.2.2.2.2.2.2.2.2.2.2.2.2.2.2.1 h.2.2.2.2.2.2.2.2.2.2.2.2.2.2.2.2.2.1 h.2.2.2.2.2.2.2.2.2.2.2.2.2.2.2.2.2.2.1 h.2.2.2.2.2.2.2.2.2.2.2.2.2.2.2.2.2.2.2.1 h.2.2.2.2.2.2.2.2.2.2.2.2.2.2.2.2.2.2.2.2.1 h.2.2.2.2.2.2.2.2.2.2.2.2.2.2.2.2.2.2.2.2.2.1 h.2.2.2.2.2.2.2.2.2.2.2.2.2.2.2.2.2.2.2.2.2.2.1 h.2.2.2.2.2.2.2.2.2.2.2.2.2.2.2.2.2.2.2.2.2.2.2):=bK _ _
def j7W[LP](b5:(List Int))(z:Int)(c:fw)(j:ByteArray):Option (jJ×(List Int)×Int):=
 let c3:=(Int.ofNat (List.length c.1))
 (j04 b5 z c3).bind λx=>
 (j04 x.2.1 x.2.2 6).bind λa1=>
 let b7:=(w64 (20454+a1.1))
 let b4:=(w64 (b7-2))
 let c1:(List Int):=[0,32400,7200,9000,79200,1]
 (j11 a1.2.1 a1.2.2 c1).bind λv=>
 (j04 v.2.1 v.2.2 3).bind λt=>
 (j04 t.2.1 t.2.2 2).bind λs=>
 let c2:=(w64 (1+s.1))
 cond (t.1==0) (
 let c4:(List Int):=[6,8,12,24,23,49]
 (j11 s.2.1 s.2.2 c4).bind λa3=>
 (j04 a3.2.1 a3.2.2 3).bind λa0=>
 let b9:=(w64 (1+a0.1))
 (DQ b9 a0.2.1 a0.2.2 c.1 c.2.1 c.2.2.1 c.2.2.2 ByteArray.empty 0 0 0 0 0 0 0 j x.1 b4 v.1 t.1 a3.1 0 0 ([]:(List Int))).bind λb=>
 (j0N b.1 b.2.1 2).bind λr=>
 cond r.1 (
 (j2N r.2.1 r.2.2).bind λw=>
 (j0N w.2.1 w.2.2 4).bind λu=>
 let b6:=(Int.ofNat (List.length b.2.2.2.2.1))
 cond (cond u.1 (decide (b6>0)) false) (
 let c0:=(Int.ofNat (List.length b.2.2.2.2.1))
 (j04 u.2.1 u.2.2 c0).bind λa2=>
 (j04 a2.2.1 a2.2.2 2).bind λy=>
 let b8:=(w64 (1+y.1))
 some ((b.2.2.2.2.2.2.2.2.2.2.2.2.2.2.1,(b.2.2.2.2.2.2.2.2.2.2.2.2.2.2.2.1,((b.2.2.2.2.2.2.2.2.2.2.2.2.2.2.2.2.1,b.2.2.2.2.2.2.2.2.2.2.2.2.2.2.2.2.2.1),(b.2.2.2.2.2.2.2.2.2.2.2.2.2.2.2.2.2.2.1,(b.2.2.2.2.2.2.2.2.2.2.2.2.2.2.2.2.2.2.2.1,(b.2.2.2.2.2.2.2.2.2.2.2.2.2.2.2.2.2.2.2.2.2.2,(w.1,(a2.1,b8)))))))),y.2.1,y.2.2)) (
 some ((b.2.2.2.2.2.2.2.2.2.2.2.2.2.2.1,(b.2.2.2.2.2.2.2.2.2.2.2.2.2.2.2.1,((b.2.2.2.2.2.2.2.2.2.2.2.2.2.2.2.2.1,b.2.2.2.2.2.2.2.2.2.2.2.2.2.2.2.2.2.1),(b.2.2.2.2.2.2.2.2.2.2.2.2.2.2.2.2.2.2.1,(b.2.2.2.2.2.2.2.2.2.2.2.2.2.2.2.2.2.2.2.1,(b.2.2.2.2.2.2.2.2.2.2.2.2.2.2.2.2.2.2.2.2.2.2,(w.1,(b.2.2.2.2.2.2.2.2.2.2.2.2.2.2.2.2.2.2.2.2.1,b.2.2.2.2.2.2.2.2.2.2.2.2.2.2.2.2.2.2.2.2.2.1)))))))),u.2.1,u.2.2))) (
 (j0N r.2.1 r.2.2 4).bind λd=>
 let a8:=(Int.ofNat (List.length b.2.2.2.2.1))
 cond (cond d.1 (decide (a8>0)) false) (
 let b1:=(Int.ofNat (List.length b.2.2.2.2.1))
 (j04 d.2.1 d.2.2 b1).bind λm=>
 (j04 m.2.1 m.2.2 2).bind λn=>
 let a9:=(w64 (1+n.1))
 some ((b.2.2.2.2.2.2.2.2.2.2.2.2.2.2.1,(b.2.2.2.2.2.2.2.2.2.2.2.2.2.2.2.1,((b.2.2.2.2.2.2.2.2.2.2.2.2.2.2.2.2.1,b.2.2.2.2.2.2.2.2.2.2.2.2.2.2.2.2.2.1),(b.2.2.2.2.2.2.2.2.2.2.2.2.2.2.2.2.2.2.1,(b.2.2.2.2.2.2.2.2.2.2.2.2.2.2.2.2.2.2.2.1,(b.2.2.2.2.2.2.2.2.2.2.2.2.2.2.2.2.2.2.2.2.2.2,(([]:af),(m.1,a9)))))))),n.2.1,n.2.2)) (
 some ((b.2.2.2.2.2.2.2.2.2.2.2.2.2.2.1,(b.2.2.2.2.2.2.2.2.2.2.2.2.2.2.2.1,((b.2.2.2.2.2.2.2.2.2.2.2.2.2.2.2.2.1,b.2.2.2.2.2.2.2.2.2.2.2.2.2.2.2.2.2.1),(b.2.2.2.2.2.2.2.2.2.2.2.2.2.2.2.2.2.2.1,(b.2.2.2.2.2.2.2.2.2.2.2.2.2.2.2.2.2.2.2.1,(b.2.2.2.2.2.2.2.2.2.2.2.2.2.2.2.2.2.2.2.2.2.2,(([]:af),(b.2.2.2.2.2.2.2.2.2.2.2.2.2.2.2.2.2.2.2.2.1,b.2.2.2.2.2.2.2.2.2.2.2.2.2.2.2.2.2.2.2.2.2.1)))))))),d.2.1,d.2.2)))) (
 (j04 s.2.1 s.2.2 3).bind λp=>
 let a6:=(w64 (1+p.1))
 (DQ a6 p.2.1 p.2.2 c.1 c.2.1 c.2.2.1 c.2.2.2 ByteArray.empty 0 0 0 0 0 0 0 j x.1 b4 v.1 t.1 c2 0 0 ([]:(List Int))).bind λa=>
 (j0N a.1 a.2.1 2).bind λe=>
 cond e.1 (
 (j2N e.2.1 e.2.2).bind λi=>
 (j0N i.2.1 i.2.2 4).bind λf=>
 let a7:=(Int.ofNat (List.length a.2.2.2.2.1))
 cond (cond f.1 (decide (a7>0)) false) (
 let b2:=(Int.ofNat (List.length a.2.2.2.2.1))
 (j04 f.2.1 f.2.2 b2).bind λk=>
 (j04 k.2.1 k.2.2 2).bind λl=>
 let b0:=(w64 (1+l.1))
 some ((a.2.2.2.2.2.2.2.2.2.2.2.2.2.2.1,(a.2.2.2.2.2.2.2.2.2.2.2.2.2.2.2.1,((a.2.2.2.2.2.2.2.2.2.2.2.2.2.2.2.2.1,a.2.2.2.2.2.2.2.2.2.2.2.2.2.2.2.2.2.1),(a.2.2.2.2.2.2.2.2.2.2.2.2.2.2.2.2.2.2.1,(a.2.2.2.2.2.2.2.2.2.2.2.2.2.2.2.2.2.2.2.1,(a.2.2.2.2.2.2.2.2.2.2.2.2.2.2.2.2.2.2.2.2.2.2,(i.1,(k.1,b0)))))))),l.2.1,l.2.2)) (
 some ((a.2.2.2.2.2.2.2.2.2.2.2.2.2.2.1,(a.2.2.2.2.2.2.2.2.2.2.2.2.2.2.2.1,((a.2.2.2.2.2.2.2.2.2.2.2.2.2.2.2.2.1,a.2.2.2.2.2.2.2.2.2.2.2.2.2.2.2.2.2.1),(a.2.2.2.2.2.2.2.2.2.2.2.2.2.2.2.2.2.2.1,(a.2.2.2.2.2.2.2.2.2.2.2.2.2.2.2.2.2.2.2.1,(a.2.2.2.2.2.2.2.2.2.2.2.2.2.2.2.2.2.2.2.2.2.2,(i.1,(a.2.2.2.2.2.2.2.2.2.2.2.2.2.2.2.2.2.2.2.2.1,a.2.2.2.2.2.2.2.2.2.2.2.2.2.2.2.2.2.2.2.2.2.1)))))))),f.2.1,f.2.2))) (
 (j0N e.2.1 e.2.2 4).bind λg=>
 let a5:=(Int.ofNat (List.length a.2.2.2.2.1))
 cond (cond g.1 (decide (a5>0)) false) (
 let b3:=(Int.ofNat (List.length a.2.2.2.2.1))
 (j04 g.2.1 g.2.2 b3).bind λo=>
 (j04 o.2.1 o.2.2 2).bind λq=>
 let a4:=(w64 (1+q.1))
 some ((a.2.2.2.2.2.2.2.2.2.2.2.2.2.2.1,(a.2.2.2.2.2.2.2.2.2.2.2.2.2.2.2.1,((a.2.2.2.2.2.2.2.2.2.2.2.2.2.2.2.2.1,a.2.2.2.2.2.2.2.2.2.2.2.2.2.2.2.2.2.1),(a.2.2.2.2.2.2.2.2.2.2.2.2.2.2.2.2.2.2.1,(a.2.2.2.2.2.2.2.2.2.2.2.2.2.2.2.2.2.2.2.1,(a.2.2.2.2.2.2.2.2.2.2.2.2.2.2.2.2.2.2.2.2.2.2,(([]:af),(o.1,a4)))))))),q.2.1,q.2.2)) (
 some ((a.2.2.2.2.2.2.2.2.2.2.2.2.2.2.1,(a.2.2.2.2.2.2.2.2.2.2.2.2.2.2.2.1,((a.2.2.2.2.2.2.2.2.2.2.2.2.2.2.2.2.1,a.2.2.2.2.2.2.2.2.2.2.2.2.2.2.2.2.2.1),(a.2.2.2.2.2.2.2.2.2.2.2.2.2.2.2.2.2.2.1,(a.2.2.2.2.2.2.2.2.2.2.2.2.2.2.2.2.2.2.2.1,(a.2.2.2.2.2.2.2.2.2.2.2.2.2.2.2.2.2.2.2.2.2.2,(([]:af),(a.2.2.2.2.2.2.2.2.2.2.2.2.2.2.2.2.2.2.2.2.1,a.2.2.2.2.2.2.2.2.2.2.2.2.2.2.2.2.2.2.2.2.2.1)))))))),g.2.1,g.2.2))))
def j4Z(d:(List Int))(c:Int):Option (Int×(List Int)×Int):=
 (j04 d c 576).bind λe=>
 let j:=(w64 (3600*e.1))
 let f:=(w64 (1767139200+j))
 (j0N e.2.1 e.2.2 3).bind λa=>
 cond a.1 (
 let i:(List Int):=[(-1),1,1800,3599]
 (j11 a.2.1 a.2.2 i).bind λb=>
 let g:=(w64 (f+b.1))
 some (g,b.2.1,b.2.2)) (
 some (f,a.2.1,a.2.2))
def j8Z(m:(List Int))(l:Int)(n:fw):Option (rV×(List Int)×Int):=
 let j:=(Int.ofNat (List.length n.2.1))
 (j04 m l 3).bind λa=>
 (j04 a.2.1 a.2.2 j).bind λe=>
 (j4Z e.2.1 e.2.2).bind λb=>
 let q:(List Int):=[3600,86400,7,259200,40000]
 (j11 b.2.1 b.2.2 q).bind λd=>
 let f:=(w64 (b.1+d.1))
 cond (a.1==2) (
 cond (decide (j<2)) (
 some ((0,(e.1,(0,(b.1,f)))),d.2.1,d.2.2)) (
 let o:=(w64 (e.1+1))
 let r:=(w64 (j-1))
 (j04 d.2.1 d.2.2 r).bind λg=>
 let p:=(w64 (o+g.1))
 cond (!(j==0)) (
 let k:=(Int.tmod p j)
 cond (a.1==1) (
 (j0N g.2.1 g.2.2 4).bind λi=>
 cond i.1 (
 some ((a.1,((-1),(k,(b.1,f)))),i.2.1,i.2.2)) (
 some ((a.1,(e.1,(k,(b.1,f)))),i.2.1,i.2.2))) (
 some ((a.1,(e.1,(k,(b.1,f)))),g.2.1,g.2.2))) none)) (
 cond (a.1==1) (
 (j0N d.2.1 d.2.2 4).bind λc=>
 cond c.1 (
 some ((a.1,((-1),(0,(b.1,f)))),c.2.1,c.2.2)) (
 some ((a.1,(e.1,(0,(b.1,f)))),c.2.1,c.2.2))) (
 some ((a.1,(e.1,(0,(b.1,f)))),d.2.1,d.2.2)))
def j26[LP](p q:Int)(o:(List Int))(j:Int)(n:aw)(d:az)(c:aB)(r:ByteArray)(e:aM)(b:bg):Option ((Int×Int×(List Int)×Int×aw×az×aB×ByteArray×aM×bg) ⊕ ((Int×(List Int)×Int×aw×az×aB×ByteArray×aM×bg))):=
 cond (decide (q>0)) (
 (jev).bind λg=>
 let i:=(Int.ofNat (List.length b))
 cond (inR i (List.length g)) (
 let l:=(List.getD g (Int.toNat i) ByteArray.empty)
 (j7W o j (n,(d,(c,e))) l).bind λa=>
 let f:bg:=[(a.1.1,(a.1.2.1,((a.1.2.2.1.1,a.1.2.2.1.2),(a.1.2.2.2.1,(a.1.2.2.2.2.1,(a.1.2.2.2.2.2.1,(a.1.2.2.2.2.2.2.1,(a.1.2.2.2.2.2.2.2.1,a.1.2.2.2.2.2.2.2.2))))))))]
 cond (decide (List.length b+List.length f<=aQ)) (
 let k:bg:=(b++f)
 let m:=(w64 (q-1))
 some (.inl (p,m,a.2.1,a.2.2,n,d,c,r,e,k))) none) none) (
 some (.inr (p,o,j,n,d,c,r,e,b)))
def DR[LP](g j:Int)(f:(List Int))(d:Int)(i:aw)(c:az)(b:aB)(k:ByteArray)(e:aM)(a:bg):Option ((Int×(List Int)×Int×aw×az×aB×ByteArray×aM×bg)):=
 LP.lp (jvs (j26)) (g,j,f,d,i,c,b,k,e,a)
theorem Uq(g j f d i c b k e a):DR g j f d i c b k e a=lpK (j26 g j f d i c b k e a) (λh=>DR h.1 h.2.1 h.2.2.1 h.2.2.2.1 h.2.2.2.2.1 h.2.2.2.2.2.1 h.2.2.2.2.2.2.1 h.2.2.2.2.2.2.2.1 h.2.2.2.2.2.2.2.2.1 h.2.2.2.2.2.2.2.2.2):=bK _ _
def j27(n p:Int)(m:(List Int))(i:Int)(l:aw)(d:az)(c:aB)(o:ByteArray)(e:aM)(g:bg)(b:bu):Option ((Int×Int×(List Int)×Int×aw×az×aB×ByteArray×aM×bg×bu) ⊕ ((Int×(List Int)×Int×aw×az×aB×ByteArray×aM×bg×bu))):=
 cond (decide (p>0)) (
 (j8Z m i (l,(d,(c,e)))).bind λa=>
 let f:bu:=[(a.1.1,(a.1.2.1,(a.1.2.2.1,(a.1.2.2.2.1,a.1.2.2.2.2))))]
 cond (decide (List.length b+List.length f<=aQ)) (
 let j:bu:=(b++f)
 let k:=(w64 (p-1))
 some (.inl (n,k,a.2.1,a.2.2,l,d,c,o,e,g,j))) none) (
 some (.inr (n,m,i,l,d,c,o,e,g,b)))
def Ho[LP](i l:Int)(g:(List Int))(f:Int)(j:aw)(d:az)(c:aB)(k:ByteArray)(e:aM)(b:bg)(a:bu):Option ((Int×(List Int)×Int×aw×az×aB×ByteArray×aM×bg×bu)):=
 LP.lp (jvt (j27)) (i,l,g,f,j,d,c,k,e,b,a)
theorem Ur(i l g f j d c k e b a):Ho i l g f j d c k e b a=lpK (j27 i l g f j d c k e b a) (λh=>Ho h.1 h.2.1 h.2.2.1 h.2.2.2.1 h.2.2.2.2.1 h.2.2.2.2.2.1 h.2.2.2.2.2.2.1 h.2.2.2.2.2.2.2.1 h.2.2.2.2.2.2.2.2.1 h.2.2.2.2.2.2.2.2.2.1 h.2.2.2.2.2.2.2.2.2.2):=bK _ _
def j28[LP](r:Int)(q:(List Int))(l:Int)(s:aw)(k:az)(j:aB)(e:aM):Option ((Int×(List Int)×Int×aw×az×aB×aM) ⊕ (((List Int)×Int×aw×az×aB×aM))):=
 cond (decide (r>0)) (
 let i:(List ByteArray):=[(ByteArray.mk #[102,105,114,115,116]),(ByteArray.mk #[115,101,99,111,110,100]),(ByteArray.mk #[116,104,105,114,100])]
 let p:=(Int.ofNat (List.length e))
 let g:=(Int.tmod p 3)
 cond (inR g (List.length i)) (
 let o:=(List.getD i (Int.toNat g) ByteArray.empty)
 (j04 q l 4).bind λd=>
 (DR r d.1 d.2.1 d.2.2 s k j o e ([]:bg)).bind λb=>
 (j04 b.2.1 b.2.2.1 4).bind λc=>
 (Ho b.1 c.1 c.2.1 c.2.2 b.2.2.2.1 b.2.2.2.2.1 b.2.2.2.2.2.1 b.2.2.2.2.2.2.1 b.2.2.2.2.2.2.2.1 b.2.2.2.2.2.2.2.2 ([]:bu)).bind λa=>
 let f:aM:=[(a.2.2.2.2.2.2.1,(a.2.2.2.2.2.2.2.2.1,a.2.2.2.2.2.2.2.2.2))]
 cond (decide (List.length a.2.2.2.2.2.2.2.1+List.length f<=aQ)) (
 let n:aM:=(a.2.2.2.2.2.2.2.1++f)
 let m:=(w64 (a.1-1))
 some (.inl (m,a.2.1,a.2.2.1,a.2.2.2.1,a.2.2.2.2.1,a.2.2.2.2.2.1,n))) none) none) (
 some (.inr (q,l,s,k,j,e)))
def Hp[LP](f:Int)(e:(List Int))(c:Int)(g:aw)(b:az)(a:aB)(d:aM):Option (((List Int)×Int×aw×az×aB×aM)):=
 LP.lp (unc7 (j28)) (f,e,c,g,b,a,d)
theorem Us(f e c g b a d):Hp f e c g b a d=lpK (j28 f e c g b a d) (λh=>Hp h.1 h.2.1 h.2.2.1 h.2.2.2.1 h.2.2.2.2.1 h.2.2.2.2.2.1 h.2.2.2.2.2.2):=bK _ _
def j5F[LP](e:(List Int))(d f:Int):Option (fw×(List Int)×Int):=
 (j7V e d).bind λa=>
 (j04 a.2.1 a.2.2 f).bind λc=>
 let g:=(w64 (1+c.1))
 (Hp g c.2.1 c.2.2 a.1.1 a.1.2.1 a.1.2.2.1 ([]:aM)).bind λb=>
 some ((b.2.2.1,(b.2.2.2.1,(b.2.2.2.2.1,b.2.2.2.2.2))),b.1,b.2.1)
def jgb(b a:Int):Option (Int):=
 cond (!(a==0)) (
 let e:=(Int.tmod b a)
 let d:=(w64 (e+a))
 cond (!(a==0)) (
 let c:=(Int.tmod d a)
 some c) none) none
def j1W(g:Int)(m:(List Int))(d:Int)(l:cV)(e:af):Option ((Int×(List Int)×Int×cV×af) ⊕ (((List Int)×Int×cV))):=
 let j:=(Int.ofNat (List.length e))
 cond (decide (g<j)) (
 cond (inR g (List.length e)) (
 let b:=(List.getD e (Int.toNat g) (0,0))
 (j04 m d 4).bind λa=>
 let i:=(w64 (1+a.1))
 let c:cV:=[((b.1,b.2),i)]
 cond (decide (List.length l+List.length c<=aQ)) (
 let f:cV:=(l++c)
 let k:=(w64 (g+1))
 some (.inl (k,a.2.1,a.2.2,f,e))) none) none) (
 some (.inr (m,d,l)))
def DS[LP](e:Int)(b:(List Int))(a:Int)(d:cV)(c:af):Option (((List Int)×Int×cV)):=
 LP.lp (unc5 (j1W)) (e,b,a,d,c)
theorem Ut(e b a d c):DS e b a d c=lpK (j1W e b a d c) (λh=>DS h.1 h.2.1 h.2.2.1 h.2.2.2.1 h.2.2.2.2):=bK _ _
def j6y[LP](d:(List Int))(a:Int):Option (cV×(List Int)×Int):=
 (j2N d a).bind λb=>
 (DS 0 b.2.1 b.2.2 ([]:cV) b.1).bind λc=>
 some (c.2.2,c.1,c.2.1)
def j9B(a:la):Option (ByteArray):=
 some a.1
def jfc(a:Int):Option (Bool):=
 some (cond (decide (a>=97)) (decide (a<=122)) false)
def jjh(a:Int):Option (Bool):=
 some (cond (decide (a>=48)) (decide (a<=57)) false)
def jbb(d:ByteArray)(c b:Int):Option ((ByteArray×Int×Int) ⊕ (Bool ⊕ Unit)):=
 cond (decide (b<c)) (
 cond (inR b (ByteArray.size d)) (
 let a:=(BC d b)
 (jfc a).bind λg=>
 cond (!g) (
 (jjh a).bind λf=>
 cond (cond (cond (!f) (a != 95) false) (a != 45) false) (
 some (.inr (.inl false))) (
 let e:=(w64 (b+1))
 some (.inl (d,c,e)))) (
 let i:=(w64 (b+1))
 some (.inl (d,c,i)))) none) (
 some (.inr (.inr ())))
def Ms[LP](c:ByteArray)(a b:Int):Option (Bool ⊕ Unit):=
 LP.lp (unc3 (jbb)) (c,a,b)
def j6z[LP](a:ByteArray):Option (Bool):=
 let f:=(Int.ofNat (ByteArray.size a))
 let b:Bool:=(cond (ByteArray.toList a==ByteArray.toList ByteArray.empty) true (decide (f>24)))
 cond ((inR 0 (ByteArray.size a)) || !(!b)) (
 let d:=(BC a 0)
 cond b (
 some false) (
 (jfc d).bind λc=>
 cond (!c) (
 some false) (
 let e:=(Int.ofNat (ByteArray.size a))
 (Ms a e 0).bind λg=>
 sumC g (λi=>
 some i) (λj=>
 some true)))) none
def j5k[LP](b:ByteArray)(a:(List (ByteArray×Bool))):Option (Int×(List (ByteArray×Bool))):=
 (j6z b).bind λc=>
 cond (!c) (
 some (2,a)) (
 cond (cR false a b) (
 some (4,a)) (
 let d:(List (ByteArray×Bool)):=(dO a b true)
 some (0,d)))
def j9C(a c b:Int):Option (Bool):=
 some (cond (decide (a>=c)) (decide (a<=b)) false)
def je1(a:uy):Option (Int):=
 (j9C a.1 1970 2240).bind λi=>
 cond (!i) (
 some 1) (
 (j9C a.2.1 a.1 2240).bind λg=>
 cond (!g) (
 some 1) (
 (j9C a.2.2.1 1 12).bind λd=>
 cond (!d) (
 some 1) (
 (j9C a.2.2.2.1 1 5).bind λc=>
 cond (!c) (
 some 1) (
 (j9C a.2.2.2.2.1 0 6).bind λe=>
 cond (!e) (
 some 1) (
 (j9C a.2.2.2.2.2.1 0 86399).bind λf=>
 cond (!f) (
 some 1) (
 (j9C a.2.2.2.2.2.2 (-64800) 64800).bind λb=>
 cond (!b) (
 some 1) (
 some 0)))))))
def jh6(a:Int):Option (Bool):=
 let d:=(Int.tmod a 4)
 let c:=(Int.tmod a 100)
 let b:=(Int.tmod a 400)
 some (cond (d==0) (cond (c != 0) true (b==0)) false)
def j6A(c a:Int):Option (Int):=
 cond (cond (decide (a<1)) true (decide (a>12))) (
 some 0) (
 let f:(List Int):=[31,28,31,30,31,30,31,31,30,31,30,31]
 let j:(List Int):=(List.replicate 12 0)
 cond (a==2) (
 (jh6 c).bind λi=>
 cond i (
 some 29) (
 let e:=(w64 (a-1))
 cond (inR e 12) (
 let g:=(List.getD f (Int.toNat e) 0)
 some g) none)) (
 let b:=(w64 (a-1))
 cond (inR b 12) (
 let d:=(List.getD f (Int.toNat b) 0)
 some d) none))
def jav(a:pj):Option (Bool):=
 cond (decide (a.1>=1970)) (
 cond (decide (a.1<=2240)) (
 cond (decide (a.2.2>=1)) (
 (j6A a.1 a.2.1).bind λb=>
 some (decide (a.2.2<=b))) (
 some false)) (
 some false)) (
 some false)
def j7t(b a:Int):Option (Int):=
 cond (!(a==0)) (
 let c:=(w64 (Int.tdiv b a))
 cond (!(a==0)) (
 let d:=(Int.tmod b a)
 cond (decide (d<0)) (
 let e:=(w64 (c-1))
 some e) (
 some c)) none) none
def j4E(a:Int):Option (Int):=
 let b:=(w64 (a-1))
 let l:=(w64 (a-1970))
 let k:=(w64 (365*l))
 (j7t b 4).bind λg=>
 let c:=(w64 (k+g))
 (j7t b 100).bind λd=>
 let f:=(w64 (c-d))
 (j7t b 400).bind λj=>
 let e:=(w64 (f+j))
 let i:=(w64 (e-477))
 some i
def j3v(g f i a e:Int):Option ((Int×Int×Int×Int×Int) ⊕ (Int)):=
 cond (decide (f<a)) (
 (j6A i f).bind λb=>
 let d:=(w64 (g+b))
 let c:=(w64 (f+1))
 some (.inl (d,c,i,a,e))) (
 some (.inr g))
def Hq[LP](c e d a b:Int):Option (Int):=
 LP.lp (unc5 (j3v)) (c,e,d,a,b)
theorem Uu(c e d a b):Hq c e d a b=lpK (j3v c e d a b) (λh=>Hq h.1 h.2.1 h.2.2.1 h.2.2.2.1 h.2.2.2.2):=bK _ _
def jbd[LP](a:pj):Option (Int):=
 (j4E a.1).bind λe=>
 let b:=(w64 (e+a.2.2))
 let c:=(w64 (b-1))
 (Hq c 1 a.1 a.2.1 a.2.2).bind λd=>
 some d
def j5s(a:Int):Option (Int):=
 let c:=(Int.tmod a 7)
 let b:=(w64 (c+10))
 let d:=(Int.tmod b 7)
 some d
def jgc[LP](d b c a:Int):Option (Int×Int):=
 (jav (d,(b,1))).bind λt=>
 let i:Bool:=(cond (cond (!t) true (decide (c<1))) true (decide (c>5)))
 let k:Bool:=(cond (cond i true (decide (a<0))) true (decide (a>6)))
 cond k (
 some (0,1)) (
 (jbd (d,(b,1))).bind λf=>
 (j5s f).bind λm=>
 let p:=(w64 (a-m))
 let r:=(w64 (p+7))
 let l:=(Int.tmod r 7)
 let s:=(w64 (f+l))
 let g:=(w64 (c-1))
 let n:=(w64 (7*g))
 let e:=(w64 (s+n))
 (j6A d b).bind λo=>
 let j:=(w64 (f+o))
 cond (decide (e>=j)) (
 let q:=(w64 (e-7))
 some (q,0)) (
 some (e,0)))
def j7u(a b:(Int×Int)):Option (Int):=
 let c:=(w64 (a.1-b.1))
 some c
def j0d(m q p b:Int)(a:af):Option ((Int×Int×Int×Int×af) ⊕ ((Int×Int×Int×af))):=
 cond (decide (b>m)) (
 cond (inR b (List.length a)) (
 let k:=(List.getD a (Int.toNat b) (0,0))
 let g:=(w64 (b-1))
 cond (inR g (List.length a)) (
 let i:=(List.getD a (Int.toNat g) (0,0))
 (j7u (k.1,k.2) (i.1,i.2)).bind λo=>
 cond (decide (o<0)) (
 let e:=(w64 (b-1))
 let c:=(w64 (b-1))
 cond (inR c (List.length a)) (
 let f:=(List.getD a (Int.toNat c) (0,0))
 cond (inR b (List.length a)) (
 let j:=(List.getD a (Int.toNat b) (0,0))
 cond (inR b (List.length a)) (
 let d:af:=(List.set a (Int.toNat b) (f.1,f.2))
 cond (inR e (List.length d)) (
 let l:af:=(List.set d (Int.toNat e) (j.1,j.2))
 let n:=(w64 (b-1))
 some (.inl (m,q,p,n,l))) none) none) none) none) (
 some (.inr (m,q,p,a)))) none) none) (
 some (.inr (m,q,p,a)))
def Hr[LP](b e c d:Int)(a:af):Option ((Int×Int×Int×af)):=
 LP.lp (unc5 (j0d)) (b,e,c,d,a)
theorem Uv(b e c d a):Hr b e c d a=lpK (j0d b e c d a) (λh=>Hr h.1 h.2.1 h.2.2.1 h.2.2.2.1 h.2.2.2.2):=bK _ _
def j0e[LP](f e c:Int)(d:af):Option ((Int×Int×Int×af) ⊕ (af)):=
 cond (decide (c<e)) (
 (Hr f e c c d).bind λa=>
 let b:=(w64 (a.2.2.1+1))
 some (.inl (a.1,a.2.1,b,a.2.2.2))) (
 some (.inr d))
def Hs[LP](c d b:Int)(a:af):Option (af):=
 LP.lp (unc4 (j0e)) (c,d,b,a)
theorem Mt(b d c a):Hs b d c a=lpK (j0e b d c a) (λh=>Hs h.1 h.2.1 h.2.2.1 h.2.2.2):=bK _ _
def j0n[LP](a:af)(b c:Int):Option (af):=
 let d:=(w64 (b+1))
 (Hs b c d a).bind λe=>
 some e
def j0D[LP](e d g c:Int)(f:af):Option ((Int×Int×Int×Int×af) ⊕ ((Int×Int×Int×af))):=
 cond (decide (c<=e)) (
 (j0n f g c).bind λa=>
 let b:=(w64 (c+d))
 some (.inl (e,d,c,b,a))) (
 some (.inr (e,d,g,f)))
def Ht[LP](c b d e:Int)(a:af):Option ((Int×Int×Int×af)):=
 LP.lp (unc5 (j0D)) (c,b,d,e,a)
theorem j5G(c b d e a):Ht c b d e a=lpK (j0D c b d e a) (λh=>Ht h.1 h.2.1 h.2.2.1 h.2.2.2.1 h.2.2.2.2):=bK _ _
def j2l(b a c f:Int)(e:af):Option ((Int×Int×Int×Int×af) ⊕ ((Int×Int×Int×af))):=
 cond (decide (f<=b)) (
 let d:=(w64 (c+a))
 none) (
 some (.inr (b,a,c,e)))
def j69[LP](c b d e:Int)(a:af):Option ((Int×Int×Int×af)):=
 LP.lp (unc5 (j2l)) (c,b,d,e,a)
def j0E[LP](g e:Int)(f:af):Option ((Int×Int×af) ⊕ (af)):=
 cond (decide (e<g)) (
 let d:=(w64 (2*e))
 (j69 g e 0 d f).bind λa=>
 let c:=(w64 (a.2.2.1+a.2.1))
 cond (decide (c<a.1)) (
 none) (
 let b:=(w64 (a.2.1*2))
 some (.inl (a.1,b,a.2.2.2)))) (
 some (.inr f))
def Hu[LP](c b:Int)(a:af):Option (af):=
 LP.lp (unc3 (j0E)) (c,b,a)
theorem j5H(c b a):Hu c b a=lpK (j0E c b a) (λh=>Hu h.1 h.2.1 h.2.2):=bK _ _
def j1X[LP](a:af)(c:Int):Option (af):=
 (Ht c 20 0 20 a).bind λb=>
 (j0n b.2.2.2 b.2.2.1 b.1).bind λd=>
 (Hu b.1 b.2.1 d).bind λe=>
 some e
def j0l[LP](a:af):Option (af):=
 let c:=(Int.ofNat (List.length a))
 (j1X a c).bind λb=>
 some b
def j29(n:Int)(d:bn)(l b:Int)(m:ByteArray)(e:Int)(f:bn):Option ((Int×bn×Int×Int×ByteArray×Int×bn) ⊕ (Int ⊕ (Int×ByteArray×Int×bn))):=
 cond (decide (b<l)) (
 cond (inR b (List.length d)) (
 let a:=(List.getD d (Int.toNat b) (0,(0,(0,(0,(0,(0,0)))))))
 (je1 (a.1,(a.2.1,(a.2.2.1,(a.2.2.2.1,(a.2.2.2.2.1,(a.2.2.2.2.2.1,a.2.2.2.2.2.2))))))).bind λc=>
 cond (c != 0) (
 some (.inr (.inl c))) (
 let j:=(w64 (a.2.1-a.1))
 let k:=(w64 (j+1))
 let g:=(w64 (n+k))
 let i:=(w64 (b+1))
 some (.inl (g,d,l,i,m,e,f)))) none) (
 some (.inr (.inr (n,m,e,f))))
def DT[LP](g:Int)(d:bn)(c e:Int)(f:ByteArray)(a:Int)(b:bn):Option (Int ⊕ (Int×ByteArray×Int×bn)):=
 LP.lp (unc7 (j29)) (g,d,c,e,f,a,b)
theorem Uw(g d c e f a b):DT g d c e f a b=lpK (j29 g d c e f a b) (λh=>DT h.1 h.2.1 h.2.2.1 h.2.2.2.1 h.2.2.2.2.1 h.2.2.2.2.2.1 h.2.2.2.2.2.2):=bK _ _
def j2a[LP](i:Int)(o:bn)(p q s b c f d g a:Int)(r:af):Option ((Int×bn×Int×Int×Int×Int×Int×Int×Int×Int×Int×af) ⊕ ((bn×Int×Int×af))):=
 cond (decide (i<=b)) (
 (jgc i c f d).bind λn=>
 let j:=(w64 (n.1*86400))
 let m:=(w64 (j+g))
 let e:af:=[(m,a)]
 cond (decide (List.length r+List.length e<=aQ)) (
 let l:af:=(r++e)
 let k:=(w64 (i+1))
 some (.inl (k,o,p,q,s,b,c,f,d,g,a,l))) none) (
 some (.inr (o,p,q,r)))
def Hv[LP](i:Int)(j:bn)(k l g b c e d f a:Int)(m:af):Option ((bn×Int×Int×af)):=
 LP.lp (jvu (j2a)) (i,j,k,l,g,b,c,e,d,f,a,m)
theorem Ux(i j k l g b c e d f a m):Hv i j k l g b c e d f a m=lpK (j2a i j k l g b c e d f a m) (λh=>Hv h.1 h.2.1 h.2.2.1 h.2.2.2.1 h.2.2.2.2.1 h.2.2.2.2.2.1 h.2.2.2.2.2.2.1 h.2.2.2.2.2.2.2.1 h.2.2.2.2.2.2.2.2.1 h.2.2.2.2.2.2.2.2.2.1 h.2.2.2.2.2.2.2.2.2.2.1 h.2.2.2.2.2.2.2.2.2.2.2):=bK _ _
def j2b[LP](d:bn)(f c:Int)(g:af):Option ((bn×Int×Int×af) ⊕ (af)):=
 cond (decide (c<f)) (
 cond (inR c (List.length d)) (
 let a:=(List.getD d (Int.toNat c) (0,(0,(0,(0,(0,(0,0)))))))
 (Hv a.1 d f c a.1 a.2.1 a.2.2.1 a.2.2.2.1 a.2.2.2.2.1 a.2.2.2.2.2.1 a.2.2.2.2.2.2 g).bind λb=>
 let e:=(w64 (b.2.2.1+1))
 some (.inl (b.1,b.2.1,e,b.2.2.2))) none) (
 some (.inr g))
def DU[LP](c:bn)(a b:Int)(d:af):Option (af):=
 LP.lp (unc4 (j2b)) (c,a,b,d)
theorem Uy(a b c d):DU a b c d=lpK (j2b a b c d) (λh=>DU h.1 h.2.1 h.2.2.1 h.2.2.2):=bK _ _
def j7n[LP](a:la):Option (af×Int):=
 (j9C a.2.1 (-64800) 64800).bind λf=>
 cond (!f) (
 some (([]:af),1)) (
 let e:=(Int.ofNat (List.length a.2.2))
 cond (decide (e>16)) (
 some (([]:af),5)) (
 let d:=(Int.ofNat (List.length a.2.2))
 (DT 0 a.2.2 d 0 a.1 a.2.1 a.2.2).bind λi=>
 sumC i (λk=>
 some (([]:af),k)) (λg=>
 cond (decide (g.1>640)) (
 some (([]:af),5)) (
 let b:=(Int.ofNat (List.length g.2.2.2))
 (DU g.2.2.2 b 0 ([]:af)).bind λj=>
 (j0l j).bind λc=>
 some (c,0)))))
def j2c(w m d:Int)(b g:af):Option ((Int×Int×Int×af×af) ⊕ (Int ⊕ af)):=
 cond (decide (d<m)) (
 cond (inR d (List.length g)) (
 let a:=(List.getD g (Int.toNat d) (0,0))
 cond (a.2==w) (
 let q:=(w64 (d+1))
 some (.inl (w,m,q,b,g))) (
 let c:=(w64 (a.1-w))
 let j:=(w64 (a.2-w))
 cond (cond (decide (j>=86400)) true (decide (j<=(-86400)))) (
 let v:=(Int.ofNat (List.length b))
 let u:=(Int.ofNat (List.length b))
 let i:=(w64 (u-1))
 cond ((inR i (List.length b)) || !((!true)&&(decide (v>0)))) (
 let p:=(List.getD b (Int.toNat i) (0,0)).1
 let x:=(w64 (p+604800))
 some (.inr (.inl 6))) none) (
 (j9C c 0 8589934592).bind λk=>
 let e:=(Int.ofNat (List.length b))
 let s:=(Int.ofNat (List.length b))
 let f:=(w64 (s-1))
 cond ((inR f (List.length b)) || !((!(!k))&&(decide (e>0)))) (
 let o:=(List.getD b (Int.toNat f) (0,0)).1
 let n:=(w64 (o+604800))
 cond (cond (!k) true (cond (decide (e>0)) (decide (c<n)) false)) (
 some (.inr (.inl 6))) (
 let l:af:=[(c,a.2)]
 cond (decide (List.length b+List.length l<=aQ)) (
 let t:af:=(b++l)
 let r:=(w64 (d+1))
 some (.inl (a.2,m,r,t,g))) none)) none))) none) (
 some (.inr (.inr b)))
def DV[LP](e c a:Int)(d b:af):Option (Int ⊕ af):=
 LP.lp (unc5 (j2c)) (e,c,a,d,b)
theorem Uz(e c a d b):DV e c a d b=lpK (j2c e c a d b) (λh=>DV h.1 h.2.1 h.2.2.1 h.2.2.2.1 h.2.2.2.2):=bK _ _
def j3o[LP](a:la):Option (af×Int):=
 (j7n (a.1,(a.2.1,a.2.2))).bind λb=>
 cond (b.2 != 0) (
 some (([]:af),b.2)) (
 let c:=(Int.ofNat (List.length b.1))
 (DV a.2.1 c 0 ([]:af) b.1).bind λd=>
 sumC d (λf=>
 some (([]:af),f)) (λe=>
 some (e,0)))
def jc8[LP](a:la):Option (Int):=
 (j3o (a.1,(a.2.1,a.2.2))).bind λb=>
 some b.2
def j6S(a:uy):Option (Bool):=
 let b:=(Int.tmod a.2.2.2.2.2.2 60)
 some (b != 0)
def j0f(e:bn)(f b:Int):Option ((bn×Int×Int) ⊕ (Int ⊕ Unit)):=
 cond (decide (b<f)) (
 cond (inR b (List.length e)) (
 let a:=(List.getD e (Int.toNat b) (0,(0,(0,(0,(0,(0,0)))))))
 (j6S (a.1,(a.2.1,(a.2.2.1,(a.2.2.2.1,(a.2.2.2.2.1,(a.2.2.2.2.2.1,a.2.2.2.2.2.2))))))).bind λc=>
 cond c (
 some (.inr (.inl b))) (
 let d:=(w64 (b+1))
 some (.inl (e,f,d)))) none) (
 some (.inr (.inr ())))
def Hw[LP](a:bn)(b c:Int):Option (Int ⊕ Unit):=
 LP.lp (unc3 (j0f)) (a,b,c)
theorem UA(a b c):Hw a b c=lpK (j0f a b c) (λh=>Hw h.1 h.2.1 h.2.2):=bK _ _
def j1m[LP](a:bn):Option (Int):=
 let c:=(Int.ofNat (List.length a))
 (Hw a c 0).bind λb=>
 sumC b (λd=>
 some d) (λe=>
 some (-1))
def j17[LP](a:bn):Option (Bool):=
 (j1m a).bind λb=>
 some (decide (b>=0))
def j50[LP](a:la):Option (Int):=
 (jc8 (a.1,(a.2.1,a.2.2))).bind λd=>
 let c:=(Int.tmod a.2.1 60)
 cond (cond (d != 0) true (c != 0)) (
 some 8) (
 (j17 a.2.2).bind λb=>
 cond b (
 some 8) (
 some 0))
def j1e[LP](e:aw)(i c:Int)(j:(List (ByteArray×Bool))):Option ((aw×Int×Int×(List (ByteArray×Bool))) ⊕ (Int ⊕ Unit)):=
 cond (decide (c<i)) (
 cond (inR c (List.length e)) (
 let a:=(List.getD e (Int.toNat c) (ByteArray.empty,(0,([]:bn))))
 (j9B (a.1,(a.2.1,a.2.2))).bind λf=>
 (j5k f j).bind λb=>
 cond (b.1 != 0) (
 some (.inr (.inl b.1))) (
 (j50 (a.1,(a.2.1,a.2.2))).bind λd=>
 cond (d != 0) (
 some (.inr (.inl d))) (
 let g:=(w64 (c+1))
 some (.inl (e,i,g,b.2))))) none) (
 some (.inr (.inr ())))
def DW[LP](a:aw)(c b:Int)(d:(List (ByteArray×Bool))):Option (Int ⊕ Unit):=
 LP.lp (unc4 (j1e)) (a,c,b,d)
theorem UB(a:aw)(c b:Int)(d:(List (ByteArray×Bool))):DW a c b d=lpK (j1e a c b d) (λh=>DW h.1 h.2.1 h.2.2.1 h.2.2.2):=bK _ _
def j4a[LP](a:aw):Option (Int):=
 let c:(List (ByteArray×Bool)):=([]:(List (ByteArray×Bool)))
 let b:=(Int.ofNat (List.length a))
 (DW a b 0 c).bind λd=>
 sumC d (λe=>
 some e) (λf=>
 some 0)
def j1D(a b:Int):Option (Bool):=
 some (cond (decide (a>=0)) (decide (a<b)) false)
def j4o(d i:af)(k b:Int):Option ((af×af×Int×Int) ⊕ (Int ⊕ Unit)):=
 cond (decide (b<k)) (
 cond (inR b (List.length i)) (
 let a:=(List.getD i (Int.toNat b) (0,0))
 let e:Bool:=(cond (cond (decide (a.1<0)) true (decide (a.1>=a.2))) true (decide (a.2>604800)))
 cond e (
 some (.inr (.inl 1))) (
 cond (decide (b>0)) (
 let c:=(w64 (b-1))
 cond (inR c (List.length d)) (
 let g:=(List.getD d (Int.toNat c) (0,0))
 cond (decide (a.1<g.2)) (
 some (.inr (.inl 6))) (
 let j:=(w64 (b+1))
 some (.inl (d,i,k,j)))) none) (
 let f:=(w64 (b+1))
 some (.inl (d,i,k,f))))) none) (
 some (.inr (.inr ())))
def Hx[LP](b c:af)(d a:Int):Option (Int ⊕ Unit):=
 LP.lp (unc4 (j4o)) (b,c,d,a)
theorem UC(b c d a):Hx b c d a=lpK (j4o b c d a) (λh=>Hx h.1 h.2.1 h.2.2.1 h.2.2.2):=bK _ _
def jam[LP](a:af):Option (Int):=
 let c:=(Int.ofNat (List.length a))
 cond (decide (c>14)) (
 some 5) (
 let b:=(Int.ofNat (List.length a))
 (Hx a a b 0).bind λd=>
 sumC d (λe=>
 some e) (λf=>
 some 0))
def j6B(a c b:Int):Option (Bool):=
 some (cond (decide (a>=c)) (decide (a<=b)) false)
def j5u(a:Int):Option (Bool):=
 (j6B a 0 604800).bind λc=>
 let b:=(Int.tmod a 3600)
 some (cond c (b==0) false)
def j2O[LP](b:fw)(a:DN):Option (Int):=
 let c:=(Int.ofNat (List.length b.1))
 (j1D a.2.1 c).bind λf=>
 cond (!f) (
 some 3) (
 (jam a.2.2.1).bind λg=>
 cond (g != 0) (
 some 8) (
 (j5u a.2.2.2.1).bind λd=>
 cond (!d) (
 some 1) (
 (j5u a.2.2.2.2.1).bind λe=>
 cond (!e) (
 some 1) (
 some 0))))
def j9D(a:rU):Option (ByteArray):=
 some a.1
def jbe(e d:Int):Option ((Int×Int) ⊕ (Int)):=
 let c:=(w64 (d+1))
 (j4E c).bind λb=>
 cond (decide (b<=e)) (
 let a:=(w64 (d+1))
 some (.inl (e,a))) (
 some (.inr d))
def Mu[LP](a b:Int):Option (Int):=
 LP.lp (unc2 (jbe)) (a,b)
def jc9[LP](a:Int):Option (Int):=
 (j7t a 366).bind λc=>
 let d:=(w64 (1970+c))
 (Mu a d).bind λb=>
 some b
def j9Y(k l b d e a c:Int):Option ((Int×Int×Int×Int×Int×Int×Int) ⊕ ((Int×Int×Int×Int×Int×Int×Int))):=
 (j6A e a).bind λf=>
 cond (decide (k>=f)) (
 (j6A e a).bind λj=>
 let i:=(w64 (k-j))
 let g:=(w64 (a+1))
 some (.inl (i,l,b,d,e,g,c))) (
 some (.inr (k,l,b,d,e,a,c)))
def Mv[LP](f g b d e a c:Int):Option ((Int×Int×Int×Int×Int×Int×Int)):=
 LP.lp (unc7 (j9Y)) (f,g,b,d,e,a,c)
def j6a[LP](a:Int):Option (pj×Int):=
 (j4E 1970).bind λi=>
 cond (decide (a<i)) (
 some ((0,(0,0)),1)) (
 (j4E 2241).bind λf=>
 cond (decide (a>=f)) (
 some ((0,(0,0)),1)) (
 (jc9 a).bind λb=>
 (j4E b).bind λd=>
 let g:=(w64 (a-d))
 (Mv g 0 0 0 b 1 0).bind λc=>
 let e:=(w64 (c.1+1))
 some ((c.2.2.2.2.1,(c.2.2.2.2.2.1,e)),0)))
def j18[LP](a:Int):Option (Bool):=
 (j6a a).bind λb=>
 some (b.2==0)
def j51[LP](a:Int):Option (Bool):=
 (j18 a).bind λb=>
 some (!b)
def j15[LP](e:(List Int))(f a:Int):Option (((List Int)×Int×Int) ⊕ (Int ⊕ Unit)):=
 cond (decide (a<f)) (
 cond (inR a (List.length e)) (
 let b:=(List.getD e (Int.toNat a) 0)
 (j51 b).bind λc=>
 cond c (
 some (.inr (.inl a))) (
 let d:=(w64 (a+1))
 some (.inl (e,f,d)))) none) (
 some (.inr (.inr ())))
def Hy[LP](a:(List Int))(b c:Int):Option (Int ⊕ Unit):=
 LP.lp (unc3 (j15)) (a,b,c)
theorem UD(a b c):Hy a b c=lpK (j15 a b c) (λh=>Hy h.1 h.2.1 h.2.2):=bK _ _
def j52[LP](a:(List Int)):Option (Int):=
 let c:=(Int.ofNat (List.length a))
 (Hy a c 0).bind λb=>
 sumC b (λd=>
 some d) (λe=>
 some (-1))
def j3X[LP](a:(List Int)):Option (Bool):=
 (j52 a).bind λb=>
 some (decide (b>=0))
def j1n(d b:Int)(k:ByteArray)(e:Int)(a:(List Int)):Option ((Int×Int×ByteArray×Int×(List Int)) ⊕ (Int ⊕ Unit)):=
 cond (decide (b<d)) (
 cond (decide (b>0)) (
 cond (inR b (List.length a)) (
 let f:=(List.getD a (Int.toNat b) 0)
 let c:=(w64 (b-1))
 cond (inR c (List.length a)) (
 let g:=(List.getD a (Int.toNat c) 0)
 cond (decide (f<=g)) (
 some (.inr (.inl 6))) (
 let j:=(w64 (b+1))
 some (.inl (d,j,k,e,a)))) none) none) (
 let i:=(w64 (b+1))
 some (.inl (d,i,k,e,a)))) (
 some (.inr (.inr ())))
def Hz[LP](d c:Int)(e:ByteArray)(b:Int)(a:(List Int)):Option (Int ⊕ Unit):=
 LP.lp (unc5 (j1n)) (d,c,e,b,a)
theorem UE(d c e b a):Hz d c e b a=lpK (j1n d c e b a) (λh=>Hz h.1 h.2.1 h.2.2.1 h.2.2.2.1 h.2.2.2.2):=bK _ _
def j2Y[LP](b:fw)(a:rU):Option (Int):=
 let c:=(Int.ofNat (List.length b.1))
 (j1D a.2.1 c).bind λg=>
 cond (!g) (
 some 3) (
 let e:=(Int.ofNat (List.length a.2.2))
 cond (decide (e>64)) (
 some 5) (
 (j3X a.2.2).bind λf=>
 cond f (
 some 1) (
 let d:=(Int.ofNat (List.length a.2.2))
 (Hz d 0 a.1 a.2.1 a.2.2).bind λi=>
 sumC i (λj=>
 some j) (λk=>
 some 0))))
def j9E[LP](a:rU)(f:aw)(b:az)(d:aB)(c:aM):Option (Int):=
 (j2Y (f,(b,(d,c))) (a.1,(a.2.1,a.2.2))).bind λe=>
 some e
def j0O[LP](m:aw)(g:az)(e:aB)(i:aM)(f:aB)(l d:Int)(n:(List (ByteArray×Bool))):Option ((aw×az×aB×aM×aB×Int×Int×(List (ByteArray×Bool))) ⊕ (Int ⊕ Unit)):=
 cond (decide (d<l)) (
 cond (inR d (List.length f)) (
 let a:=(List.getD f (Int.toNat d) (ByteArray.empty,(0,([]:(List Int)))))
 (j9D (a.1,(a.2.1,a.2.2))).bind λj=>
 (j5k j n).bind λb=>
 cond (b.1 != 0) (
 some (.inr (.inl b.1))) (
 (j9E (a.1,(a.2.1,a.2.2)) m g e i).bind λc=>
 cond (c != 0) (
 some (.inr (.inl c))) (
 let k:=(w64 (d+1))
 some (.inl (m,g,e,i,f,l,k,b.2))))) none) (
 some (.inr (.inr ())))
def DX[LP](i:aw)(b:az)(a:aB)(c:aM)(d:aB)(e f:Int)(g:(List (ByteArray×Bool))):Option (Int ⊕ Unit):=
 LP.lp (unc8 (j0O)) (i,b,a,c,d,e,f,g)
theorem UF(i:aw)(b:az)(a:aB)(c:aM)(d:aB)(e f:Int)(g:(List (ByteArray×Bool))):DX i b a c d e f g=lpK (j0O i b a c d e f g) (λh=>DX h.1 h.2.1 h.2.2.1 h.2.2.2.1 h.2.2.2.2.1 h.2.2.2.2.2.1 h.2.2.2.2.2.2.1 h.2.2.2.2.2.2.2):=bK _ _
def j2H[LP](e:aB)(d:aw)(a:az)(c:aB)(b:aM):Option (Int):=
 let g:(List (ByteArray×Bool)):=([]:(List (ByteArray×Bool)))
 let f:=(Int.ofNat (List.length e))
 (DX d a c b e f 0 g).bind λi=>
 sumC i (λj=>
 some j) (λk=>
 some 0)
def j9F(a:mf):Option (ByteArray):=
 some a.1
def j53(a:jJ):Option (ByteArray):=
 some a.1
def j6c(b:Int)(g:aw)(a:az)(d:aB)(c:aM):Option (Bool):=
 let f:=(Int.ofNat (List.length a))
 (j1D b f).bind λe=>
 some (!e)
def j0I(i:(List Int))(k:aw)(a:az)(b:aB)(d:aM)(j c:Int):Option (((List Int)×aw×az×aB×aM×Int×Int) ⊕ (Int ⊕ Unit)):=
 cond (decide (c<j)) (
 cond (inR c (List.length i)) (
 let e:=(List.getD i (Int.toNat c) 0)
 (j6c e k a b d).bind λf=>
 cond f (
 some (.inr (.inl c))) (
 let g:=(w64 (c+1))
 some (.inl (i,k,a,b,d,j,g)))) none) (
 some (.inr (.inr ())))
def HA[LP](d:(List Int))(f:aw)(a:az)(b:aB)(c:aM)(e g:Int):Option (Int ⊕ Unit):=
 LP.lp (unc7 (j0I)) (d,f,a,b,c,e,g)
theorem UG(d f a b c e g):HA d f a b c e g=lpK (j0I d f a b c e g) (λh=>HA h.1 h.2.1 h.2.2.1 h.2.2.2.1 h.2.2.2.2.1 h.2.2.2.2.2.1 h.2.2.2.2.2.2):=bK _ _
def j3Y[LP](d:(List Int))(e:aw)(a:az)(c:aB)(b:aM):Option (Int):=
 let g:=(Int.ofNat (List.length d))
 (HA d e a c b g 0).bind λf=>
 sumC f (λi=>
 some i) (λj=>
 some (-1))
def j2Z[LP](e:(List Int))(d:aw)(a:az)(c:aB)(b:aM):Option (Bool):=
 (j3Y e d a c b).bind λf=>
 some (decide (f>=0))
def j4q[LP](b:fw)(a:jJ):Option (Int):=
 let d:=(Int.ofNat (List.length b.1))
 (j1D a.2.1 d).bind λp=>
 cond (!p) (
 some 3) (
 cond (decide (a.2.2.1.1<1)) (
 some 1) (
 (j18 a.2.2.1.1).bind λm=>
 cond (!m) (
 some 1) (
 (j6B a.2.2.1.2 0 86399).bind λo=>
 cond (!o) (
 some 1) (
 (j6B a.2.2.2.1 0 2).bind λi=>
 cond (!i) (
 some 1) (
 (j6B a.2.2.2.2.1 1 400).bind λj=>
 cond (!j) (
 some 1) (
 let c:=(Int.ofNat (List.length a.2.2.2.2.2.1))
 cond (c==0) (
 some 7) (
 let k:=(Int.ofNat (List.length a.2.2.2.2.2.1))
 cond (decide (k>12)) (
 some 5) (
 (j2Z a.2.2.2.2.2.1 b.1 b.2.1 b.2.2.1 b.2.2.2).bind λe=>
 cond e (
 some 3) (
 (jam a.2.2.2.2.2.2.1).bind λn=>
 cond (n != 0) (
 some 8) (
 (j6B a.2.2.2.2.2.2.2.2 0 2).bind λf=>
 cond (!f) (
 some 1) (
 let g:=(Int.ofNat (List.length b.2.2.1))
 cond (a.2.2.2.2.2.2.2.2 != 0) (
 (j1D a.2.2.2.2.2.2.2.1 g).bind λl=>
 cond (!l) (
 some 3) (
 cond (cond (a.2.2.2.2.2.2.2.2==0) (a.2.2.2.2.2.2.2.1 != 0) false) (
 some 1) (
 some 0))) (
 cond (cond (a.2.2.2.2.2.2.2.2==0) (a.2.2.2.2.2.2.2.1 != 0) false) (
 some 1) (
 some 0)))))))))))))
def j54[LP](a:jJ)(f:aw)(b:az)(d:aB)(c:aM):Option (Int):=
 (j4q (f,(b,(d,c))) (a.1,(a.2.1,((a.2.2.1.1,a.2.2.1.2),(a.2.2.2.1,(a.2.2.2.2.1,(a.2.2.2.2.2.1,(a.2.2.2.2.2.2.1,(a.2.2.2.2.2.2.2.1,a.2.2.2.2.2.2.2.2))))))))).bind λe=>
 some e
def j19[LP](m:aw)(g:az)(e:aB)(i:aM)(f:bg)(l d:Int)(n:(List (ByteArray×Bool))):Option ((aw×az×aB×aM×bg×Int×Int×(List (ByteArray×Bool))) ⊕ (Int ⊕ Unit)):=
 cond (decide (d<l)) (
 cond (inR d (List.length f)) (
 let a:=(List.getD f (Int.toNat d) (ByteArray.empty,(0,((0,0),(0,(0,(([]:(List Int)),(([]:af),(0,0)))))))))
 (j53 (a.1,(a.2.1,((a.2.2.1.1,a.2.2.1.2),(a.2.2.2.1,(a.2.2.2.2.1,(a.2.2.2.2.2.1,(a.2.2.2.2.2.2.1,(a.2.2.2.2.2.2.2.1,a.2.2.2.2.2.2.2.2))))))))).bind λj=>
 (j5k j n).bind λb=>
 cond (b.1 != 0) (
 some (.inr (.inl b.1))) (
 (j54 (a.1,(a.2.1,((a.2.2.1.1,a.2.2.1.2),(a.2.2.2.1,(a.2.2.2.2.1,(a.2.2.2.2.2.1,(a.2.2.2.2.2.2.1,(a.2.2.2.2.2.2.2.1,a.2.2.2.2.2.2.2.2)))))))) m g e i).bind λc=>
 cond (c != 0) (
 some (.inr (.inl c))) (
 let k:=(w64 (d+1))
 some (.inl (m,g,e,i,f,l,k,b.2))))) none) (
 some (.inr (.inr ())))
def DY[LP](i:aw)(b:az)(a:aB)(c:aM)(d:bg)(e f:Int)(g:(List (ByteArray×Bool))):Option (Int ⊕ Unit):=
 LP.lp (unc8 (j19)) (i,b,a,c,d,e,f,g)
theorem UH(i:aw)(b:az)(a:aB)(c:aM)(d:bg)(e f:Int)(g:(List (ByteArray×Bool))):DY i b a c d e f g=lpK (j19 i b a c d e f g) (λh=>DY h.1 h.2.1 h.2.2.1 h.2.2.2.1 h.2.2.2.2.1 h.2.2.2.2.2.1 h.2.2.2.2.2.2.1 h.2.2.2.2.2.2.2):=bK _ _
def j3G[LP](e:bg)(d:aw)(a:az)(c:aB)(b:aM):Option (Int):=
 let g:(List (ByteArray×Bool)):=([]:(List (ByteArray×Bool)))
 let f:=(Int.ofNat (List.length e))
 (DY d a c b e f 0 g).bind λi=>
 sumC i (λj=>
 some j) (λk=>
 some 0)
def j55[LP](g:fw)(a:rV):Option (Int):=
 let i:=(Int.ofNat (List.length g.2.1))
 (j6B a.1 0 2).bind λm=>
 cond (!m) (
 some 1) (
 (j1D a.2.1 i).bind λf=>
 cond (cond (!f) (!(cond (a.1==1) (a.2.1==(-1)) false)) false) (
 cond (cond (!f) (!(cond (a.1==1) (a.2.1==(-1)) false)) false) (
 some 3) (
 cond (cond (a.1 != 2) (a.2.2.1 != 0) false) (
 some 1) (
 cond (cond (a.1==2) (a.2.1==a.2.2.1) false) (
 some 4) (
 let l:=(w64 (Int.tdiv a.2.2.2.2 86400))
 cond (cond (decide (a.2.2.2.1<0)) true (decide (a.2.2.2.2<0))) (
 some 1) (
 (j18 l).bind λk=>
 cond (!k) (
 some 1) (
 cond (decide (a.2.2.2.1>=a.2.2.2.2)) (
 some 6) (
 some 0))))))) (
 cond (a.1==2) (
 (j1D a.2.2.1 i).bind λj=>
 cond (!j) (
 some 3) (
 cond (cond (a.1 != 2) (a.2.2.1 != 0) false) (
 some 1) (
 cond (cond (a.1==2) (a.2.1==a.2.2.1) false) (
 some 4) (
 let e:=(w64 (Int.tdiv a.2.2.2.2 86400))
 cond (cond (decide (a.2.2.2.1<0)) true (decide (a.2.2.2.2<0))) (
 some 1) (
 (j18 e).bind λd=>
 cond (!d) (
 some 1) (
 cond (decide (a.2.2.2.1>=a.2.2.2.2)) (
 some 6) (
 some 0))))))) (
 cond (cond (a.1 != 2) (a.2.2.1 != 0) false) (
 some 1) (
 cond (cond (a.1==2) (a.2.1==a.2.2.1) false) (
 some 4) (
 let b:=(w64 (Int.tdiv a.2.2.2.2 86400))
 cond (cond (decide (a.2.2.2.1<0)) true (decide (a.2.2.2.2<0))) (
 some 1) (
 (j18 b).bind λc=>
 cond (!c) (
 some 1) (
 cond (decide (a.2.2.2.1>=a.2.2.2.2)) (
 some 6) (
 some 0))))))))
def j1p[LP](f:bu)(j c:Int)(k:aw)(d:az)(g:aB)(e:aM):Option ((bu×Int×Int×aw×az×aB×aM) ⊕ (Int ⊕ Unit)):=
 cond (decide (c<j)) (
 cond (inR c (List.length f)) (
 let a:=(List.getD f (Int.toNat c) (0,(0,(0,(0,0)))))
 (j55 (k,(d,(g,e))) (a.1,(a.2.1,(a.2.2.1,(a.2.2.2.1,a.2.2.2.2))))).bind λb=>
 cond (b != 0) (
 some (.inr (.inl b))) (
 let i:=(w64 (c+1))
 some (.inl (f,j,i,k,d,g,e)))) none) (
 some (.inr (.inr ())))
def HB[LP](e:bu)(d f:Int)(g:aw)(a:az)(c:aB)(b:aM):Option (Int ⊕ Unit):=
 LP.lp (unc7 (j1p)) (e,d,f,g,a,c,b)
theorem UI(e d f g a c b):HB e d f g a c b=lpK (j1p e d f g a c b) (λh=>HB h.1 h.2.1 h.2.2.1 h.2.2.2.1 h.2.2.2.2.1 h.2.2.2.2.2.1 h.2.2.2.2.2.2):=bK _ _
def j30[LP](a:fw)(b:mf):Option (Int):=
 let f:=(Int.ofNat (List.length b.2.1))
 let e:=(Int.ofNat (List.length b.2.2))
 cond (cond (decide (f>6)) true (decide (e>48))) (
 some 5) (
 (j3G b.2.1 a.1 a.2.1 a.2.2.1 a.2.2.2).bind λc=>
 cond (c != 0) (
 some c) (
 let d:=(Int.ofNat (List.length b.2.2))
 (HB b.2.2 d 0 a.1 a.2.1 a.2.2.1 a.2.2.2).bind λg=>
 sumC g (λi=>
 some i) (λj=>
 some 0)))
def j9G[LP](a:mf)(f:aw)(b:az)(d:aB)(c:aM):Option (Int):=
 (j30 (f,(b,(d,c))) (a.1,(a.2.1,a.2.2))).bind λe=>
 some e
def j0P[LP](m:aw)(g:az)(e:aB)(i f:aM)(l d:Int)(n:(List (ByteArray×Bool))):Option ((aw×az×aB×aM×aM×Int×Int×(List (ByteArray×Bool))) ⊕ (Int ⊕ Unit)):=
 cond (decide (d<l)) (
 cond (inR d (List.length f)) (
 let a:=(List.getD f (Int.toNat d) (ByteArray.empty,(([]:bg),([]:bu))))
 (j9F (a.1,(a.2.1,a.2.2))).bind λj=>
 (j5k j n).bind λb=>
 cond (b.1 != 0) (
 some (.inr (.inl b.1))) (
 (j9G (a.1,(a.2.1,a.2.2)) m g e i).bind λc=>
 cond (c != 0) (
 some (.inr (.inl c))) (
 let k:=(w64 (d+1))
 some (.inl (m,g,e,i,f,l,k,b.2))))) none) (
 some (.inr (.inr ())))
def DZ[LP](i:aw)(b:az)(a:aB)(c d:aM)(e f:Int)(g:(List (ByteArray×Bool))):Option (Int ⊕ Unit):=
 LP.lp (unc8 (j0P)) (i,b,a,c,d,e,f,g)
theorem UJ(i:aw)(b:az)(a:aB)(c d:aM)(e f:Int)(g:(List (ByteArray×Bool))):DZ i b a c d e f g=lpK (j0P i b a c d e f g) (λh=>DZ h.1 h.2.1 h.2.2.1 h.2.2.2.1 h.2.2.2.2.1 h.2.2.2.2.2.1 h.2.2.2.2.2.2.1 h.2.2.2.2.2.2.2):=bK _ _
def j4g[LP](e:aM)(d:aw)(a:az)(c:aB)(b:aM):Option (Int):=
 let g:(List (ByteArray×Bool)):=([]:(List (ByteArray×Bool)))
 let f:=(Int.ofNat (List.length e))
 (DZ d a c b e f 0 g).bind λi=>
 sumC i (λj=>
 some j) (λk=>
 some 0)
def j31[LP](g:az)(i f:Int)(j:aw)(d:az)(e:aB)(c:aM)(r:(List (ByteArray×Bool))):Option ((az×Int×Int×aw×az×aB×aM×(List (ByteArray×Bool))) ⊕ (Int ⊕ (aw×az×aB×aM))):=
 cond (decide (f<i)) (
 cond (inR f (List.length g)) (
 let a:=(List.getD g (Int.toNat f) (ByteArray.empty,(0,(([]:af),(0,(0,false))))))
 (j5k a.1 r).bind λb=>
 let q:Bool:=(ByteArray.toList a.1==ByteArray.toList (ByteArray.mk #[110,111,98,111,100,121]))
 cond q (
 cond (2==0) (
 (j2O (j,(d,(e,c))) (a.1,(a.2.1,(a.2.2.1,(a.2.2.2.1,(a.2.2.2.2.1,a.2.2.2.2.2)))))).bind λl=>
 cond (l != 0) (
 some (.inr (.inl l))) (
 let o:=(w64 (f+1))
 some (.inl (g,i,o,j,d,e,c,b.2)))) (
 cond (2 != 0) (
 some (.inr (.inl 2))) (
 let n:=(w64 (f+1))
 some (.inl (g,i,n,j,d,e,c,b.2))))) (
 cond (b.1==0) (
 (j2O (j,(d,(e,c))) (a.1,(a.2.1,(a.2.2.1,(a.2.2.2.1,(a.2.2.2.2.1,a.2.2.2.2.2)))))).bind λk=>
 cond (k != 0) (
 some (.inr (.inl k))) (
 let m:=(w64 (f+1))
 some (.inl (g,i,m,j,d,e,c,b.2)))) (
 cond (b.1 != 0) (
 some (.inr (.inl b.1))) (
 let p:=(w64 (f+1))
 some (.inl (g,i,p,j,d,e,c,b.2)))))) none) (
 some (.inr (.inr (j,d,e,c))))
def D0[LP](d:az)(e f:Int)(i:aw)(b:az)(c:aB)(a:aM)(g:(List (ByteArray×Bool))):Option (Int ⊕ (aw×az×aB×aM)):=
 LP.lp (unc8 (j31)) (d,e,f,i,b,c,a,g)
theorem UK(d:az)(e f:Int)(i:aw)(b:az)(c:aB)(a:aM)(g:(List (ByteArray×Bool))):D0 d e f i b c a g=lpK (j31 d e f i b c a g) (λh=>D0 h.1 h.2.1 h.2.2.1 h.2.2.2.1 h.2.2.2.2.1 h.2.2.2.2.2.1 h.2.2.2.2.2.2.1 h.2.2.2.2.2.2.2):=bK _ _
def j7Z[LP](a:fw):Option (Int):=
 let i:=(Int.ofNat (List.length a.1))
 let f:=(Int.ofNat (List.length a.2.1))
 let m:=(Int.ofNat (List.length a.2.2.1))
 let j:Bool:=(cond (cond (decide (i>16)) true (decide (f>32))) true (decide (m>8)))
 let e:=(Int.ofNat (List.length a.2.2.2))
 cond (cond j true (decide (e>12))) (
 some 5) (
 (j4a a.1).bind λc=>
 cond (c != 0) (
 some c) (
 let k:(List (ByteArray×Bool)):=([]:(List (ByteArray×Bool)))
 let g:=(Int.ofNat (List.length a.2.1))
 (D0 a.2.1 g 0 a.1 a.2.1 a.2.2.1 a.2.2.2 k).bind λn=>
 sumC n (λo=>
 some o) (λb=>
 (j2H b.2.2.1 b.1 b.2.1 b.2.2.1 b.2.2.2).bind λd=>
 cond (d != 0) (
 some d) (
 (j4g b.2.2.2 b.1 b.2.1 b.2.2.1 b.2.2.2).bind λl=>
 some l))))
def jfd[LP](a:la):Option (fv×Int):=
 (j3o (a.1,(a.2.1,a.2.2))).bind λb=>
 some ((a.2.1,b.1),b.2)
def j3Z[LP](i:aw)(j b:Int)(g:cO):Option ((aw×Int×Int×cO) ⊕ (cO)):=
 cond (decide (b<j)) (
 cond (inR b (List.length i)) (
 let a:=(List.getD i (Int.toNat b) (ByteArray.empty,(0,([]:bn))))
 (jfd (a.1,(a.2.1,a.2.2))).bind λc=>
 let d:cO:=[(c.1.1,c.1.2)]
 cond (decide (List.length g+List.length d<=aQ)) (
 let e:cO:=(g++d)
 let f:=(w64 (b+1))
 some (.inl (i,j,f,e))) none) none) (
 some (.inr g))
def D1[LP](b:aw)(c a:Int)(d:cO):Option (cO):=
 LP.lp (unc4 (j3Z)) (b,c,a,d)
theorem UL(c d a b):D1 c d a b=lpK (j3Z c d a b) (λh=>D1 h.1 h.2.1 h.2.2.1 h.2.2.2):=bK _ _
def jfe[LP](a:aw):Option (cO):=
 let b:=(Int.ofNat (List.length a))
 (D1 a b 0 ([]:cO)).bind λc=>
 some c
def jgd[LP](a:fw):Option (mh):=
 (jfe a.1).bind λb=>
 some ((a.1,(a.2.1,(a.2.2.1,a.2.2.2))),b)
def jm9[LP](a:fw):Option (mh×Bool):=
 (j7Z (a.1,(a.2.1,(a.2.2.1,a.2.2.2)))).bind λc=>
 cond (c != 0) (
 some (((([]:aw),(([]:az),(([]:aB),([]:aM)))),([]:cO)),false)) (
 (jgd (a.1,(a.2.1,(a.2.2.1,a.2.2.2)))).bind λb=>
 some (((b.1.1,(b.1.2.1,(b.1.2.2.1,b.1.2.2.2))),b.2),true))
def jff(b:fw)(a:Int):Option (Bool):=
 let c:=(Int.ofNat (List.length b.2.2.2))
 some (cond (decide (a>=0)) (decide (a<c)) false)
def jh7(a b:Int):Option (Bool):=
 let c:Bool:=(cond (cond (decide (a>=0)) (decide (a<=8589934592)) false) (decide (b>=a)) false)
 let d:=(w64 (b-a))
 let e:Bool:=(cond (cond c (decide (b<=8589934592)) false) (decide (d<=34560000)) false)
 some e
def j8N[LP](b:fw)(c d e:Int):Option (mh×Int):=
 (jm9 (b.1,(b.2.1,(b.2.2.1,b.2.2.2)))).bind λa=>
 cond (!a.2) (
 some (((a.1.1.1,(a.1.1.2.1,(a.1.1.2.2.1,a.1.1.2.2.2))),a.1.2),8)) (
 (jff (b.1,(b.2.1,(b.2.2.1,b.2.2.2))) c).bind λf=>
 cond (!f) (
 some (((a.1.1.1,(a.1.1.2.1,(a.1.1.2.2.1,a.1.1.2.2.2))),a.1.2),3)) (
 (jh7 d e).bind λg=>
 cond (!g) (
 some (((a.1.1.1,(a.1.1.2.1,(a.1.1.2.2.1,a.1.1.2.2.2))),a.1.2),1)) (
 some (((a.1.1.1,(a.1.1.2.1,(a.1.1.2.2.1,a.1.1.2.2.2))),a.1.2),0))))
def j6T(a:(List Int)):Option ((List Int)):=
 cond (decide (List.length ([]:List (Int))+List.length a<=aQ)) (
 some (([]:List (Int))++a)) none
def j9g(a b c:Int):Option (Bool):=
 some (cond (decide (a<=b)) true (decide (a>=c)))
def j0J(g b i c:Int)(a:(List Int)):Option ((Int×Int×Int×Int×(List Int)) ⊕ (ph ⊕ (List Int))):=
 cond (decide (c<i)) (
 cond (inR c (List.length a)) (
 let d:=(List.getD a (Int.toNat c) 0)
 (j9g d g b).bind λe=>
 cond e (
 some (.inr (.inl (c,a)))) (
 let f:=(w64 (c+1))
 some (.inl (g,b,i,f,a)))) none) (
 some (.inr (.inr a)))
def D2[LP](c a d e:Int)(b:(List Int)):Option (ph ⊕ (List Int)):=
 LP.lp (unc5 (j0J)) (c,a,d,e,b)
theorem UM(c a d e b):D2 c a d e b=lpK (j0J c a d e b) (λh=>D2 h.1 h.2.1 h.2.2.1 h.2.2.2.1 h.2.2.2.2):=bK _ _
def j40[LP](b:(List Int))(c a:Int):Option ph:=
 let e:=(Int.ofNat (List.length b))
 (D2 c a e 0 b).bind λd=>
 sumC d (λf=>
 some (f.1,f.2)) (λg=>
 some ((-1),g))
def j0Y(m b e d:Int)(a:(List Int)):Option ((Int×Int×Int×Int×(List Int)) ⊕ (ph)):=
 let g:=(Int.ofNat (List.length a))
 cond (decide (d<g)) (
 cond (inR d (List.length a)) (
 let c:=(List.getD a (Int.toNat d) 0)
 (j9g c m b).bind λi=>
 cond (!i) (
 cond (inR e (List.length a)) (
 let l:(List Int):=(List.set a (Int.toNat e) c)
 let f:=(w64 (e+1))
 let k:=(w64 (d+1))
 some (.inl (m,b,f,k,l))) none) (
 let j:=(w64 (d+1))
 some (.inl (m,b,e,j,a)))) none) (
 some (.inr (e,a)))
def HC[LP](d a e c:Int)(b:(List Int)):Option (ph):=
 LP.lp (unc5 (j0Y)) (d,a,e,c,b)
theorem UN(d a e c b):HC d a e c b=lpK (j0Y d a e c b) (λh=>HC h.1 h.2.1 h.2.2.1 h.2.2.2.1 h.2.2.2.2):=bK _ _
def j2X[LP](e:(List Int))(d a:Int):Option ph:=
 (j40 e d a).bind λc=>
 cond (c.1==(-1)) (
 some ((Int.ofNat (List.length c.2)),c.2)) (
 let f:=(w64 (c.1+1))
 (HC d a c.1 f c.2).bind λb=>
 cond (decide (0<=b.1)&&decide (b.1<=(Int.ofNat (List.length b.2)))) (
 let g:(List Int):=(List.take (Int.toNat b.1) b.2++List.replicate (List.length b.2-(Int.toNat b.1)) 0)
 cond (decide (0<=b.1)&&decide (b.1<=(Int.ofNat (List.length g)))) (
 some ((Int.ofNat (Int.toNat b.1)),g)) none) none)
def j5v(a:(List Int)):Option ((List Int)):=
 yC a
def j1g(e b c:Int)(a:(List Int)):Option ((Int×Int×Int×(List Int)) ⊕ (ph)):=
 let l:=(Int.ofNat (List.length a-(Int.toNat b)))
 cond (decide (c<l)) (
 cond (inR c (List.length a-(Int.toNat b))) (
 let j:=(List.getD a ((Int.toNat b)+(Int.toNat c)) 0)
 let d:=(w64 (c-1))
 cond (inR d (List.length a-(Int.toNat b))) (
 let i:=(List.getD a ((Int.toNat b)+(Int.toNat d)) 0)
 cond (j != i) (
 cond (inR c (List.length a-(Int.toNat b))) (
 let m:=(List.getD a ((Int.toNat b)+(Int.toNat c)) 0)
 cond (inR e (List.length a)) (
 let n:(List Int):=(List.set a (Int.toNat e) m)
 let g:=(w64 (e+1))
 let k:=(w64 (c+1))
 some (.inl (g,(Int.ofNat (Int.toNat b)),k,n))) none) none) (
 let f:=(w64 (c+1))
 some (.inl (e,(Int.ofNat (Int.toNat b)),f,a)))) none) none) (
 some (.inr (e,a)))
def D3[LP](c b d:Int)(a:(List Int)):Option (ph):=
 LP.lp (unc4 (j1g)) (c,b,d,a)
theorem UO(b d c a):D3 b d c a=lpK (j1g b d c a) (λh=>D3 h.1 h.2.1 h.2.2.1 h.2.2.2):=bK _ _
def j1h[LP](c:Int)(b:(List Int)):Option (ph ⊕ (ph ⊕ (List Int))):=
 let j:=(Int.ofNat (List.length b))
 cond (decide (c<j)) (
 cond (inR c (List.length b)) (
 let i:=(List.getD b (Int.toNat c) 0)
 let d:=(w64 (c-1))
 cond (inR d (List.length b)) (
 let g:=(List.getD b (Int.toNat d) 0)
 cond (i==g) (
 cond (decide (0<=c)&&decide (c<=(Int.ofNat (List.length b)))) (
 (D3 c (Int.ofNat (Int.toNat c)) 1 b).bind λa=>
 cond (decide (0<=a.1)&&decide (a.1<=(Int.ofNat (List.length a.2)))) (
 let e:(List Int):=(List.take (Int.toNat a.1) a.2++List.replicate (List.length a.2-(Int.toNat a.1)) 0)
 cond (decide (0<=a.1)&&decide (a.1<=(Int.ofNat (List.length e)))) (
 some (.inr (.inl ((Int.ofNat (Int.toNat a.1)),e)))) none) none) none) (
 let f:=(w64 (c+1))
 some (.inl (f,b)))) none) none) (
 some (.inr (.inr b)))
def yF[LP](b:Int)(a:(List Int)):Option (ph ⊕ (List Int)):=
 LP.lp (unc2 (j1h)) (b,a)
theorem UP(b a):yF b a=lpK (j1h b a) (λh=>yF h.1 h.2):=bK _ _
def j4b[LP](a:(List Int)):Option ph:=
 let c:=(Int.ofNat (List.length a))
 cond (decide (c<2)) (
 some ((Int.ofNat (List.length a)),a)) (
 (yF 1 a).bind λb=>
 sumC b (λe=>
 some ((Int.ofNat (Int.toNat e.1)),e.2)) (λd=>
 some ((Int.ofNat (List.length d)),d)))
def jge[LP](f:(List Int))(b a:Int):Option ((List Int)):=
 (j6T f).bind λk=>
 (j2X k b a).bind λe=>
 let g:(List Int):=(List.take (Int.toNat e.1) e.2)
 (j5v g).bind λi=>
 (j4b i).bind λd=>
 let c:(List Int):=(List.take (Int.toNat d.1) d.2)
 cond (decide (List.length c+List.length [a]<=aQ)) (
 let j:(List Int):=(c++[a])
 some j) none
def j23(a:bg):Option (bg):=
 some a
def j8O(a:jJ):Option (Int):=
 cond (a.2.2.2.1==2) (
 let b:=(w64 (7*a.2.2.2.2.1))
 some b) (
 some a.2.2.2.2.1)
def j7v(b e:Int)(a:af)(d:Int):Option (Bool):=
 cond (inR b (List.length a)) (
 let c:=(List.getD a (Int.toNat b) (0,0))
 some (decide (c.1>d))) none
def j2P(l:Int)(a:af)(b i k:Int):Option ((Int×af×Int×Int×Int) ⊕ (Int)):=
 cond (decide (i<k)) (
 let f:=(w64 (i+k))
 let e:Int:=(IntKind.wrap .u64 f)
 let g:Int:=(Int.fdiv e 2)
 let c:=(w64 g)
 (j7v c l a b).bind λd=>
 cond (!d) (
 let j:=(w64 (c+1))
 some (.inl (l,a,b,j,k))) (
 some (.inl (l,a,b,i,c)))) (
 some (.inr i))
def HD[LP](d:Int)(a:af)(b e c:Int):Option (Int):=
 LP.lp (unc5 (j2P)) (d,a,b,e,c)
theorem UQ(d a b e c):HD d a b e c=lpK (j2P d a b e c) (λh=>HD h.1 h.2.1 h.2.2.1 h.2.2.2.1 h.2.2.2.2):=bK _ _
def jfg[LP](c d:Int)(a:af)(b:Int):Option (Int):=
 (HD d a b 0 c).bind λe=>
 some e
def j5K[LP](a:fv)(b:Int):Option (Int):=
 let c:=(Int.ofNat (List.length a.2))
 (jfg c a.1 a.2 b).bind λd=>
 some d
def j3Q(a:fv)(b:Int):Option (Int):=
 cond (b==0) (
 some a.1) (
 let c:=(w64 (b-1))
 cond (inR c (List.length a.2)) (
 let d:=(List.getD a.2 (Int.toNat c) (0,0))
 some d.2) none)
def j0v[LP](n c i:Int)(a:af)(j:ae):Option ((Int×Int×Int×af×ae) ⊕ (ae)):=
 cond (decide (n<c)) (
 (j5K (i,a) n).bind λb=>
 let p:=(Int.ofNat (List.length a))
 cond (decide (b<p)) (
 cond (inR b (List.length a)) (
 let d:=(List.getD a (Int.toNat b) (0,0))
 let g:Int:=(if d.1<c then d.1 else c:Int)
 (j3Q (i,a) b).bind λo=>
 let e:ae:=[(n,(g,o))]
 cond (decide (List.length j+List.length e<=aQ)) (
 let l:ae:=(j++e)
 some (.inl (g,c,i,a,l))) none) none) (
 (j3Q (i,a) b).bind λk=>
 let f:ae:=[(n,(c,k))]
 cond (decide (List.length j+List.length f<=aQ)) (
 let m:ae:=(j++f)
 some (.inl (c,c,i,a,m))) none)) (
 some (.inr j))
def Bc[LP](b e c:Int)(a:af)(d:ae):Option (ae):=
 LP.lp (unc5 (j0v)) (b,e,c,a,d)
theorem Bd(b e c a d):Bc b e c a d=lpK (j0v b e c a d) (λh=>Bc h.1 h.2.1 h.2.2.1 h.2.2.2.1 h.2.2.2.2):=bK _ _
def j1F[LP](b:fv)(a c:Int):Option (ae):=
 (Bc a c b.1 b.2 ([]:ae)).bind λd=>
 some d
def j3P(a:(Int×Int)):Option (Int):=
 let c:Int:=(if (-1048576)>a.1 then (-1048576) else a.1:Int)
 let d:Int:=(if 1048576<c then 1048576 else c:Int)
 let e:=(w64 (d*86400))
 let b:=(w64 (e+a.2))
 some b
def j1a(j c k f:Int)(e:ae):Option ((Int×Int×Int×Int×ae) ⊕ ((Int×Bool) ⊕ Unit)):=
 cond (decide (c<j)) (
 cond (inR c (List.length e)) (
 let a:=(List.getD e (Int.toNat c) (0,(0,0)))
 (j3P (k,f)).bind λg=>
 let b:=(w64 (g-a.2.2))
 let d:Int:=(if b>a.1 then b else a.1:Int)
 cond (decide (d<a.2.1)) (
 some (.inr (.inl (d,true)))) (
 let i:=(w64 (c+1))
 some (.inl (j,i,k,f,e)))) none) (
 some (.inr (.inr ())))
def D4[LP](b c e a:Int)(d:ae):Option ((Int×Bool) ⊕ Unit):=
 LP.lp (unc5 (j1a)) (b,c,e,a,d)
theorem HE(b c e a d):D4 b c e a d=lpK (j1a b c e a d) (λh=>D4 h.1 h.2.1 h.2.2.1 h.2.2.2.1 h.2.2.2.2):=bK _ _
def j2F[LP](a:fv)(b:(Int×Int)):Option (Int×Bool):=
 (j1F (a.1,a.2) 0 8589934593).bind λc=>
 let d:=(Int.ofNat (List.length c))
 (D4 d 0 b.1 b.2 c).bind λe=>
 sumC e (λf=>
 some (f.1,f.2)) (λg=>
 some (0,false))
def j0H[LP](b:fv)(a:jJ)(c:Int):Option (Int×Bool):=
 cond (decide (c>8589934592)) (
 some (0,false)) (
 cond (a.2.2.2.1 != 0) (
 (j8O (a.1,(a.2.1,((a.2.2.1.1,a.2.2.1.2),(a.2.2.2.1,(a.2.2.2.2.1,(a.2.2.2.2.2.1,(a.2.2.2.2.2.2.1,(a.2.2.2.2.2.2.2.1,a.2.2.2.2.2.2.2.2))))))))).bind λl=>
 let j:=(w64 (c*l))
 let i:=(w64 (a.2.2.1.1+j))
 (j2F (b.1,b.2) (i,a.2.2.1.2)).bind λf=>
 some (f.1,f.2)) (
 (j2F (b.1,b.2) (a.2.2.1.1,a.2.2.1.2)).bind λe=>
 let g:=(w64 (3600*a.2.2.2.2.1))
 let k:=(w64 (g*c))
 let d:=(w64 (e.1+k))
 some (d,(cond e.2 (decide (d<=8589934592)) false))))
def j32(a:af):Option (af):=
 cond (decide (List.length ([]:List ((Int×Int)))+List.length a<=aQ)) (
 some (([]:List ((Int×Int)))++a)) none
def j80(a:(Int×Int)):Option (Bool):=
 some (decide (a.2<=a.1))
def j0r(f c:Int)(b:af):Option ((Int×Int×af) ⊕ (fv ⊕ af)):=
 cond (decide (c<f)) (
 cond (inR c (List.length b)) (
 let a:=(List.getD b (Int.toNat c) (0,0))
 (j80 (a.1,a.2)).bind λd=>
 cond d (
 some (.inr (.inl (c,b)))) (
 let e:=(w64 (c+1))
 some (.inl (f,e,b)))) none) (
 some (.inr (.inr b)))
def D5[LP](a b:Int)(c:af):Option (fv ⊕ af):=
 LP.lp (unc3 (j0r)) (a,b,c)
theorem UR(a b c):D5 a b c=lpK (j0r a b c) (λh=>D5 h.1 h.2.1 h.2.2):=bK _ _
def j2h[LP](a:af):Option fv:=
 let c:=(Int.ofNat (List.length a))
 (D5 c 0 a).bind λb=>
 sumC b (λd=>
 some (d.1,d.2)) (λe=>
 some ((-1),e))
def j0o(d c:Int)(b:af):Option ((Int×Int×af) ⊕ (fv)):=
 let f:=(Int.ofNat (List.length b))
 cond (decide (c<f)) (
 cond (inR c (List.length b)) (
 let a:=(List.getD b (Int.toNat c) (0,0))
 (j80 (a.1,a.2)).bind λg=>
 cond (!g) (
 cond (inR d (List.length b)) (
 let k:af:=(List.set b (Int.toNat d) (a.1,a.2))
 let e:=(w64 (d+1))
 let j:=(w64 (c+1))
 some (.inl (e,j,k))) none) (
 let i:=(w64 (c+1))
 some (.inl (d,i,b)))) none) (
 some (.inr (d,b)))
def HF[LP](c b:Int)(a:af):Option (fv):=
 LP.lp (unc3 (j0o)) (c,b,a)
theorem US(c b a):HF c b a=lpK (j0o c b a) (λh=>HF h.1 h.2.1 h.2.2):=bK _ _
def j1i[LP](c:af):Option fv:=
 (j2h c).bind λb=>
 cond (b.1==(-1)) (
 some ((Int.ofNat (List.length b.2)),b.2)) (
 let d:=(w64 (b.1+1))
 (HF b.1 d b.2).bind λa=>
 cond (decide (0<=a.1)&&decide (a.1<=(Int.ofNat (List.length a.2)))) (
 let e:af:=(List.take (Int.toNat a.1) a.2++List.replicate (List.length a.2-(Int.toNat a.1)) (0,0))
 cond (decide (0<=a.1)&&decide (a.1<=(Int.ofNat (List.length e)))) (
 some ((Int.ofNat (Int.toNat a.1)),e)) none) none)
def j6C(a b:(Int×Int)):Option (Int):=
 let c:=(w64 (a.1-b.1))
 some c
def j0M(a:af):Option (af):=
 wE ((.pair (.int .i64) (.int .i64))) (λb c=>(j6C b c).getD 0) a
def j3i(j d:Int)(b f:af):Option ((Int×Int×af×af) ⊕ (af)):=
 cond (decide (d<j)) (
 cond (inR d (List.length f)) (
 let a:=(List.getD f (Int.toNat d) (0,0))
 let c:=(Int.ofNat (List.length b))
 cond (decide (c>0)) (
 let i:=(w64 (c-1))
 cond (inR i (List.length b)) (
 let p:=(List.getD b (Int.toNat i) (0,0)).2
 cond (decide (a.1<=p)) (
 let e:=(w64 (c-1))
 let g:=(w64 (c-1))
 cond (inR g (List.length b)) (
 let m:=(List.getD b (Int.toNat g) (0,0)).2
 let u:Int:=(if a.2>m then a.2 else m:Int)
 cond (inR e (List.length b)) (
 let o:af:=(List.set b (Int.toNat e) ((List.getD b (Int.toNat e) (0,0)).1,u))
 let n:=(w64 (d+1))
 some (.inl (j,n,o,f))) none) none) (
 let k:af:=[(a.1,a.2)]
 cond (decide (List.length b+List.length k<=aQ)) (
 let q:af:=(b++k)
 let s:=(w64 (d+1))
 some (.inl (j,s,q,f))) none)) none) (
 let l:af:=[(a.1,a.2)]
 cond (decide (List.length b+List.length l<=aQ)) (
 let t:af:=(b++l)
 let r:=(w64 (d+1))
 some (.inl (j,r,t,f))) none)) none) (
 some (.inr b))
def D6[LP](c a:Int)(d b:af):Option (af):=
 LP.lp (unc4 (j3i)) (c,a,d,b)
theorem Mw(b c d a):D6 b c d a=lpK (j3i b c d a) (λh=>D6 h.1 h.2.1 h.2.2.1 h.2.2.2):=bK _ _
def j7J[LP](c:af):Option (af):=
 (j32 c).bind λf=>
 (j1i f).bind λa=>
 let d:af:=(List.take (Int.toNat a.1) a.2)
 (j0M d).bind λb=>
 let e:=(Int.ofNat (List.length b))
 (D6 e 0 ([]:af) b).bind λg=>
 some g
def j3w(u:af)(j r p:Int)(k:af)(s b e a f:Int)(t:af)(q:ae):Option ((af×Int×Int×Int×af×Int×Int×Int×Int×Int×af×ae) ⊕ ((af×Int×Int×Int×Int×Int×Int×af×ae))):=
 cond (decide (b<s)) (
 cond (inR b (List.length k)) (
 let d:=(List.getD k (Int.toNat b) (0,0))
 let g:=(w64 (j+d.1))
 let l:Int:=(if g>e then g else e:Int)
 let c:=(w64 (j+d.2))
 let o:Int:=(if c<a then c else a:Int)
 let i:af:=[(l,o)]
 cond (decide (List.length t+List.length i<=aQ)) (
 let n:af:=(t++i)
 let m:=(w64 (b+1))
 some (.inl (u,j,r,p,k,s,m,e,a,f,n,q))) none) none) (
 some (.inr (u,j,r,p,e,a,f,t,q)))
def HG[LP](l:af)(f i c:Int)(d:af)(k g j b a:Int)(m:af)(e:ae):Option ((af×Int×Int×Int×Int×Int×Int×af×ae)):=
 LP.lp (jvu (j3w)) (l,f,i,c,d,k,g,j,b,a,m,e)
theorem UT(l f i c d k g j b a m e):HG l f i c d k g j b a m e=lpK (j3w l f i c d k g j b a m e) (λh=>HG h.1 h.2.1 h.2.2.1 h.2.2.2.1 h.2.2.2.2.1 h.2.2.2.2.2.1 h.2.2.2.2.2.2.1 h.2.2.2.2.2.2.2.1 h.2.2.2.2.2.2.2.2.1 h.2.2.2.2.2.2.2.2.2.1 h.2.2.2.2.2.2.2.2.2.2.1 h.2.2.2.2.2.2.2.2.2.2.2):=bK _ _
def j3x[LP](d:af)(j k g m b c:Int)(l:af)(i:ae):Option ((af×Int×Int×Int×Int×Int×Int×af×ae) ⊕ ((af×Int×Int×af×ae))):=
 cond (decide (j<b)) (
 let e:=(Int.ofNat (List.length d))
 (HG d j k g d e 0 m b c l i).bind λa=>
 let f:=(w64 (a.2.1+604800))
 some (.inl (a.1,f,a.2.2.1,a.2.2.2.1,a.2.2.2.2.1,a.2.2.2.2.2.1,a.2.2.2.2.2.2.1,a.2.2.2.2.2.2.2.1,a.2.2.2.2.2.2.2.2))) (
 some (.inr (d,k,g,l,i)))
def HH[LP](i:af)(e f c g b a:Int)(j:af)(d:ae):Option ((af×Int×Int×af×ae)):=
 LP.lp (unc9 (j3x)) (i,e,f,c,g,b,a,j,d)
theorem UU(i e f c g b a j d):HH i e f c g b a j d=lpK (j3x i e f c g b a j d) (λh=>HH h.1 h.2.1 h.2.2.1 h.2.2.2.1 h.2.2.2.2.1 h.2.2.2.2.2.1 h.2.2.2.2.2.2.1 h.2.2.2.2.2.2.2.1 h.2.2.2.2.2.2.2.2):=bK _ _
def j3y[LP](o:af)(m c:Int)(n:af)(e:ae):Option ((af×Int×Int×af×ae) ⊕ (af)):=
 cond (decide (c<m)) (
 cond (inR c (List.length e)) (
 let a:=(List.getD e (Int.toNat c) (0,(0,0)))
 let l:=(w64 (a.1+a.2.2))
 let d:=(w64 (l-(-259200)))
 let i:=(Int.tmod d 604800)
 let g:=(w64 (d-i))
 let k:=(w64 (g+(-259200)))
 let f:=(w64 (k-a.2.2))
 (HH o f m c a.1 a.2.1 a.2.2 n e).bind λb=>
 let j:=(w64 (b.2.2.1+1))
 some (.inl (b.1,b.2.1,j,b.2.2.2.1,b.2.2.2.2))) none) (
 some (.inr n))
def HI[LP](d:af)(c a:Int)(e:af)(b:ae):Option (af):=
 LP.lp (unc5 (j3y)) (d,c,a,e,b)
theorem UW(d c a e b):HI d c a e b=lpK (j3y d c a e b) (λh=>HI h.1 h.2.1 h.2.2.1 h.2.2.2.1 h.2.2.2.2):=bK _ _
def j33[LP](b:fv)(e:af)(a c:Int):Option (af):=
 (j1F (b.1,b.2) a c).bind λd=>
 let g:=(Int.ofNat (List.length d))
 (HI e g 0 ([]:af) d).bind λi=>
 (j7J i).bind λf=>
 some f
def j2K(u t:Int)(j:(List Int))(s d:Int)(w:ByteArray)(g:Int)(k:(List Int))(i b e:Int)(v:af)(r:ae):Option ((Int×Int×(List Int)×Int×Int×ByteArray×Int×(List Int)×Int×Int×Int×af×ae) ⊕ ((Int×Int×ByteArray×Int×(List Int)×af×ae))):=
 cond (decide (d<s)) (
 cond (inR d (List.length j)) (
 let p:=(List.getD j (Int.toNat d) 0)
 let n:=(w64 (p*86400))
 let a:=(w64 (n-e))
 let m:Int:=(if a>i then a else i:Int)
 let f:=(w64 (a+86400))
 let q:Int:=(if f<b then f else b:Int)
 let c:af:=[(m,q)]
 cond (decide (List.length v+List.length c<=aQ)) (
 let l:af:=(v++c)
 let o:=(w64 (d+1))
 some (.inl (u,t,j,s,o,w,g,k,i,b,e,l,r))) none) none) (
 some (.inr (u,t,w,g,k,v,r)))
def D7[LP](f j:Int)(e:(List Int))(l g:Int)(m:ByteArray)(d:Int)(c:(List Int))(k b a:Int)(n:af)(i:ae):Option ((Int×Int×ByteArray×Int×(List Int)×af×ae)):=
 LP.lp (jvv (j2K)) (f,j,e,l,g,m,d,c,k,b,a,n,i)
theorem UX(f j e l g m d c k b a n i):D7 f j e l g m d c k b a n i=lpK (j2K f j e l g m d c k b a n i) (λh=>D7 h.1 h.2.1 h.2.2.1 h.2.2.2.1 h.2.2.2.2.1 h.2.2.2.2.2.1 h.2.2.2.2.2.2.1 h.2.2.2.2.2.2.2.1 h.2.2.2.2.2.2.2.2.1 h.2.2.2.2.2.2.2.2.2.1 h.2.2.2.2.2.2.2.2.2.2.1 h.2.2.2.2.2.2.2.2.2.2.2.1 h.2.2.2.2.2.2.2.2.2.2.2.2):=bK _ _
def j2L[LP](i d:Int)(l:ByteArray)(j:Int)(c:(List Int))(k:af)(e:ae):Option ((Int×Int×ByteArray×Int×(List Int)×af×ae) ⊕ (af)):=
 cond (decide (d<i)) (
 cond (inR d (List.length e)) (
 let b:=(List.getD e (Int.toNat d) (0,(0,0)))
 let g:=(Int.ofNat (List.length c))
 (D7 i d c g 0 l j c b.1 b.2.1 b.2.2 k e).bind λa=>
 let f:=(w64 (a.2.1+1))
 some (.inl (a.1,f,a.2.2.1,a.2.2.2.1,a.2.2.2.2.1,a.2.2.2.2.2.1,a.2.2.2.2.2.2))) none) (
 some (.inr k))
def D8[LP](c e:Int)(f:ByteArray)(b:Int)(a:(List Int))(g:af)(d:ae):Option (af):=
 LP.lp (unc7 (j2L)) (c,e,f,b,a,g,d)
theorem UY(c e f b a g d):D8 c e f b a g d=lpK (j2L c e f b a g d) (λh=>D8 h.1 h.2.1 h.2.2.1 h.2.2.2.1 h.2.2.2.2.1 h.2.2.2.2.2.1 h.2.2.2.2.2.2):=bK _ _
def j20[LP](c:mh)(a:rU)(b d:Int):Option (af):=
 cond (inR a.2.1 (List.length c.2)) (
 let f:=(List.getD c.2 (Int.toNat a.2.1) (0,([]:af)))
 (j1F (f.1,f.2) b d).bind λe=>
 let g:=(Int.ofNat (List.length e))
 (D8 g 0 a.1 a.2.1 a.2.2 ([]:af) e).bind λj=>
 (j7J j).bind λi=>
 some i) none
def j3z(c:af)(b:Int)(d:af)(f e i a:Int)(l:af):Option ((af×Int×af×Int×Int×Int×Int×af) ⊕ ((af×Int×af×Int×Int×Int×Int×af))):=
 let g:=(Int.ofNat (List.length c))
 cond (decide (b<g)) (
 cond (inR b (List.length c)) (
 let k:=(List.getD c (Int.toNat b) (0,0))
 cond (decide (k.2<=i)) (
 let j:=(w64 (b+1))
 some (.inl (c,j,d,f,e,i,a,l))) (
 some (.inr (c,b,d,f,e,i,a,l)))) none) (
 some (.inr (c,b,d,f,e,i,a,l)))
def HJ[LP](g:af)(e:Int)(b:af)(d c f a:Int)(i:af):Option ((af×Int×af×Int×Int×Int×Int×af)):=
 LP.lp (unc8 (j3z)) (g,e,b,d,c,f,a,i)
theorem UZ(g e b d c f a i):HJ g e b d c f a i=lpK (j3z g e b d c f a i) (λh=>HJ h.1 h.2.1 h.2.2.1 h.2.2.2.1 h.2.2.2.2.1 h.2.2.2.2.2.1 h.2.2.2.2.2.2.1 h.2.2.2.2.2.2.2):=bK _ _
def j3A(b:af)(o d a:Int)(e:af)(f i m c:Int)(l:af):Option ((af×Int×Int×Int×af×Int×Int×Int×Int×af) ⊕ ((af×Int×Int×af×Int×Int×Int×Int×af))):=
 let v:=(Int.ofNat (List.length b))
 cond (decide (a<v)) (
 cond (inR a (List.length b)) (
 let s:=(List.getD b (Int.toNat a) (0,0))
 cond (decide (s.1<c)) (
 cond (inR a (List.length b)) (
 let w:=(List.getD b (Int.toNat a) (0,0))
 cond (decide (d<w.1)) (
 cond (inR a (List.length b)) (
 let u:=(List.getD b (Int.toNat a) (0,0))
 let k:af:=[(d,u.1)]
 cond (decide (List.length l+List.length k<=aQ)) (
 let q:af:=(l++k)
 cond (inR a (List.length b)) (
 let j:=(List.getD b (Int.toNat a) (0,0))
 let n:Int:=(if j.2>d then j.2 else d:Int)
 let t:=(w64 (a+1))
 some (.inl (b,o,n,t,e,f,i,m,c,q))) none) none) none) (
 cond (inR a (List.length b)) (
 let g:=(List.getD b (Int.toNat a) (0,0))
 let r:Int:=(if g.2>d then g.2 else d:Int)
 let p:=(w64 (a+1))
 some (.inl (b,o,r,p,e,f,i,m,c,l))) none)) none) (
 some (.inr (b,o,d,e,f,i,m,c,l)))) none) (
 some (.inr (b,o,d,e,f,i,m,c,l)))
def D9[LP](i:af)(f k b:Int)(c:af)(e d g a:Int)(j:af):Option ((af×Int×Int×af×Int×Int×Int×Int×af)):=
 LP.lp (jvs (j3A)) (i,f,k,b,c,e,d,g,a,j)
theorem U0(i f k b c e d g a j):D9 i f k b c e d g a j=lpK (j3A i f k b c e d g a j) (λh=>D9 h.1 h.2.1 h.2.2.1 h.2.2.2.1 h.2.2.2.2.1 h.2.2.2.2.2.1 h.2.2.2.2.2.2.1 h.2.2.2.2.2.2.2.1 h.2.2.2.2.2.2.2.2.1 h.2.2.2.2.2.2.2.2.2):=bK _ _
def j3B[LP](n:af)(m:Int)(f:af)(k e:Int)(l:af):Option ((af×Int×af×Int×Int×af) ⊕ (af)):=
 cond (decide (e<k)) (
 cond (inR e (List.length f)) (
 let c:=(List.getD f (Int.toNat e) (0,0))
 (HJ n m f k e c.1 c.2 l).bind λb=>
 (D9 b.1 b.2.1 b.2.2.2.2.2.1 b.2.1 b.2.2.1 b.2.2.2.1 b.2.2.2.2.1 b.2.2.2.2.2.1 b.2.2.2.2.2.2.1 b.2.2.2.2.2.2.2).bind λa=>
 cond (decide (a.2.2.1<a.2.2.2.2.2.2.2.1)) (
 let d:af:=[(a.2.2.1,a.2.2.2.2.2.2.2.1)]
 cond (decide (List.length a.2.2.2.2.2.2.2.2+List.length d<=aQ)) (
 let i:af:=(a.2.2.2.2.2.2.2.2++d)
 let g:=(w64 (a.2.2.2.2.2.1+1))
 some (.inl (a.1,a.2.1,a.2.2.2.1,a.2.2.2.2.1,g,i))) none) (
 let j:=(w64 (a.2.2.2.2.2.1+1))
 some (.inl (a.1,a.2.1,a.2.2.2.1,a.2.2.2.2.1,j,a.2.2.2.2.2.2.2.2)))) none) (
 some (.inr l))
def Be[LP](e:af)(d:Int)(a:af)(c b:Int)(f:af):Option (af):=
 LP.lp (unc6 (j3B)) (e,d,a,c,b,f)
theorem U1(e d a c b f):Be e d a c b f=lpK (j3B e d a c b f) (λh=>Be h.1 h.2.1 h.2.2.1 h.2.2.2.1 h.2.2.2.2.1 h.2.2.2.2.2):=bK _ _
def j2G[LP](a b:af):Option (af):=
 let c:=(Int.ofNat (List.length a))
 (Be b 0 a c 0 ([]:af)).bind λd=>
 some d
def j5w(b c:af)(a d:Int)(n:af):Option ((af×af×Int×Int×af) ⊕ (af)):=
 let x:=(Int.ofNat (List.length b))
 let w:=(Int.ofNat (List.length c))
 cond (cond (decide (a<x)) (decide (d<w)) false) (
 cond (inR a (List.length b)) (
 let f:=(List.getD b (Int.toNat a) (0,0))
 cond (inR d (List.length c)) (
 let g:=(List.getD c (Int.toNat d) (0,0))
 let j:Int:=(if g.1>f.1 then g.1 else f.1:Int)
 cond (inR a (List.length b)) (
 let k:=(List.getD b (Int.toNat a) (0,0))
 cond (inR d (List.length c)) (
 let m:=(List.getD c (Int.toNat d) (0,0))
 let e:Int:=(if m.2<k.2 then m.2 else k.2:Int)
 cond (decide (j<e)) (
 let l:af:=[(j,e)]
 cond (decide (List.length n+List.length l<=aQ)) (
 let i:af:=(n++l)
 cond (inR a (List.length b)) (
 let q:=(List.getD b (Int.toNat a) (0,0))
 cond (inR d (List.length c)) (
 let o:=(List.getD c (Int.toNat d) (0,0))
 cond (decide (q.2<o.2)) (
 let v:=(w64 (a+1))
 some (.inl (b,c,v,d,i))) (
 let p:=(w64 (d+1))
 some (.inl (b,c,a,p,i)))) none) none) none) (
 cond (inR a (List.length b)) (
 let s:=(List.getD b (Int.toNat a) (0,0))
 cond (inR d (List.length c)) (
 let t:=(List.getD c (Int.toNat d) (0,0))
 cond (decide (s.2<t.2)) (
 let u:=(w64 (a+1))
 some (.inl (b,c,u,d,n))) (
 let r:=(w64 (d+1))
 some (.inl (b,c,a,r,n)))) none) none)) none) none) none) none) (
 some (.inr n))
def yG[LP](a c:af)(b e:Int)(d:af):Option (af):=
 LP.lp (unc5 (j5w)) (a,c,b,e,d)
theorem jh8(a c b e d):yG a c b e d=lpK (j5w a c b e d) (λh=>yG h.1 h.2.1 h.2.2.1 h.2.2.2.1 h.2.2.2.2):=bK _ _
def j7w[LP](a b:af):Option (af):=
 (yG a b 0 0 ([]:af)).bind λc=>
 some c
def j6f[LP](a:mh)(b:jJ)(d c:Int):Option (af):=
 cond (inR b.2.1 (List.length a.2)) (
 let r:=(List.getD a.2 (Int.toNat b.2.1) (0,([]:af)))
 (j0H (r.1,r.2) (b.1,(b.2.1,((b.2.2.1.1,b.2.2.1.2),(b.2.2.2.1,(b.2.2.2.2.1,(b.2.2.2.2.2.1,(b.2.2.2.2.2.2.1,(b.2.2.2.2.2.2.2.1,b.2.2.2.2.2.2.2.2)))))))) 0).bind λi=>
 cond (cond (cond (!i.2) true (decide (i.1>=c))) true (decide (d>=c))) (
 some ([]:af)) (
 let e:Int:=(if i.1>d then i.1 else d:Int)
 let l:af:=[(e,c)]
 let x:=(Int.ofNat (List.length b.2.2.2.2.2.2.1))
 cond (decide (x>0)) (
 cond (inR b.2.1 (List.length a.2)) (
 let s:=(List.getD a.2 (Int.toNat b.2.1) (0,([]:af)))
 (j33 (s.1,s.2) b.2.2.2.2.2.2.1 e c).bind λk=>
 cond (b.2.2.2.2.2.2.2.2==1) (
 cond (inR b.2.2.2.2.2.2.2.1 (List.length a.1.2.2.1)) (
 let j:=(List.getD a.1.2.2.1 (Int.toNat b.2.2.2.2.2.2.2.1) (ByteArray.empty,(0,([]:(List Int)))))
 (j20 ((a.1.1,(a.1.2.1,(a.1.2.2.1,a.1.2.2.2))),a.2) (j.1,(j.2.1,j.2.2)) e c).bind λt=>
 (j2G k t).bind λv=>
 some v) none) (
 cond (b.2.2.2.2.2.2.2.2==2) (
 cond (inR b.2.2.2.2.2.2.2.1 (List.length a.1.2.2.1)) (
 let m:=(List.getD a.1.2.2.1 (Int.toNat b.2.2.2.2.2.2.2.1) (ByteArray.empty,(0,([]:(List Int)))))
 (j20 ((a.1.1,(a.1.2.1,(a.1.2.2.1,a.1.2.2.2))),a.2) (m.1,(m.2.1,m.2.2)) e c).bind λw=>
 (j7w k w).bind λu=>
 some u) none) (
 some k))) none) (
 cond (b.2.2.2.2.2.2.2.2==1) (
 cond (inR b.2.2.2.2.2.2.2.1 (List.length a.1.2.2.1)) (
 let f:=(List.getD a.1.2.2.1 (Int.toNat b.2.2.2.2.2.2.2.1) (ByteArray.empty,(0,([]:(List Int)))))
 (j20 ((a.1.1,(a.1.2.1,(a.1.2.2.1,a.1.2.2.2))),a.2) (f.1,(f.2.1,f.2.2)) e c).bind λp=>
 (j2G l p).bind λn=>
 some n) none) (
 cond (b.2.2.2.2.2.2.2.2==2) (
 cond (inR b.2.2.2.2.2.2.2.1 (List.length a.1.2.2.1)) (
 let g:=(List.getD a.1.2.2.1 (Int.toNat b.2.2.2.2.2.2.2.1) (ByteArray.empty,(0,([]:(List Int)))))
 (j20 ((a.1.1,(a.1.2.1,(a.1.2.2.1,a.1.2.2.2))),a.2) (g.1,(g.2.1,g.2.2)) e c).bind λo=>
 (j7w l o).bind λq=>
 some q) none) (
 some l))))) none
def j6D[LP](a:fv)(b:Int):Option (Int):=
 (j5K (a.1,a.2) b).bind λd=>
 (j3Q (a.1,a.2) d).bind λc=>
 some c
def jew(a:Int):Option ((Int×Int)):=
 let e:=(w64 (Int.tdiv a 86400))
 let i:=(Int.tmod a 86400)
 cond (decide (i<0)) (
 let d:=(w64 (e-1))
 let g:=(w64 (d*86400))
 let f:=(w64 (a-g))
 some (d,f)) (
 let c:=(w64 (e*86400))
 let b:=(w64 (a-c))
 some (e,b))
def j22[LP](a:fv)(b:Int):Option ((Int×Int)):=
 (j6D (a.1,a.2) b).bind λe=>
 let d:=(w64 (b+e))
 (jew d).bind λc=>
 some (c.1,c.2)
def j34[LP](q m o:Int)(i:af)(n:ByteArray)(b f j d g:Int)(k:(List Int))(c:af)(e a:Int):Option ((Int×Int×Int×af×ByteArray×Int×Int×Int×Int×Int×(List Int)×af×Int×Int) ⊕ ((Int×Int×Int×af×ByteArray×Int×Int×Int×Int×Int×(List Int)×af×Int×Int))):=
 cond (decide (m>0)) (
 (j0H (o,i) (n,(b,((f,j),(d,(g,(k,(c,(e,a)))))))) m).bind λl=>
 cond (cond l.2 (decide (l.1<=q)) false) (
 some (.inr (q,m,o,i,n,b,f,j,d,g,k,c,e,a))) (
 let p:=(w64 (m-1))
 some (.inl (q,p,o,i,n,b,f,j,d,g,k,c,e,a)))) (
 some (.inr (q,m,o,i,n,b,f,j,d,g,k,c,e,a)))
def HK[LP](o n m:Int)(i:af)(l:ByteArray)(b f j d g:Int)(k:(List Int))(c:af)(e a:Int):Option ((Int×Int×Int×af×ByteArray×Int×Int×Int×Int×Int×(List Int)×af×Int×Int)):=
 LP.lp (jk6 (j34)) (o,n,m,i,l,b,f,j,d,g,k,c,e,a)
theorem U2(o n m i l b f j d g k c e a):HK o n m i l b f j d g k c e a=lpK (j34 o n m i l b f j d g k c e a) (λh=>HK h.1 h.2.1 h.2.2.1 h.2.2.2.1 h.2.2.2.2.1 h.2.2.2.2.2.1 h.2.2.2.2.2.2.1 h.2.2.2.2.2.2.2.1 h.2.2.2.2.2.2.2.2.1 h.2.2.2.2.2.2.2.2.2.1 h.2.2.2.2.2.2.2.2.2.2.1 h.2.2.2.2.2.2.2.2.2.2.2.1 h.2.2.2.2.2.2.2.2.2.2.2.2.1 h.2.2.2.2.2.2.2.2.2.2.2.2.2):=bK _ _
def j4s[LP](r o q:Int)(j:af)(p:ByteArray)(c g k e i:Int)(l:(List Int))(d:af)(f b:Int):Option ((Int×Int×Int×af×ByteArray×Int×Int×Int×Int×Int×(List Int)×af×Int×Int) ⊕ (Int)):=
 let n:=(w64 (o+1))
 (j0H (q,j) (p,(c,((g,k),(e,(i,(l,(d,(f,b)))))))) n).bind λa=>
 cond (cond (!a.2) true (decide (a.1>r))) (
 some (.inr o)) (
 let m:=(w64 (o+1))
 some (.inl (r,m,q,j,p,c,g,k,e,i,l,d,f,b)))
def HM[LP](o n m:Int)(i:af)(l:ByteArray)(b f j d g:Int)(k:(List Int))(c:af)(e a:Int):Option (Int):=
 LP.lp (jk6 (j4s)) (o,n,m,i,l,b,f,j,d,g,k,c,e,a)
theorem jfh(o n m i l b f j d g k c e a):HM o n m i l b f j d g k c e a=lpK (j4s o n m i l b f j d g k c e a) (λh=>HM h.1 h.2.1 h.2.2.1 h.2.2.2.1 h.2.2.2.2.1 h.2.2.2.2.2.1 h.2.2.2.2.2.2.1 h.2.2.2.2.2.2.2.1 h.2.2.2.2.2.2.2.2.1 h.2.2.2.2.2.2.2.2.2.1 h.2.2.2.2.2.2.2.2.2.2.1 h.2.2.2.2.2.2.2.2.2.2.2.1 h.2.2.2.2.2.2.2.2.2.2.2.2.1 h.2.2.2.2.2.2.2.2.2.2.2.2.2):=bK _ _
def j3H[LP](c:fv)(a:jJ)(d:Int):Option (Int):=
 (j0H (c.1,c.2) (a.1,(a.2.1,((a.2.2.1.1,a.2.2.1.2),(a.2.2.2.1,(a.2.2.2.2.1,(a.2.2.2.2.2.1,(a.2.2.2.2.2.2.1,(a.2.2.2.2.2.2.2.1,a.2.2.2.2.2.2.2.2)))))))) 0).bind λe=>
 cond (cond (!e.2) true (decide (e.1>d))) (
 some (-1)) (
 cond (a.2.2.2.1==0) (
 let n:=(w64 (d-e.1))
 let g:=(w64 (3600*a.2.2.2.2.1))
 cond (!(g==0)) (
 let k:=(w64 (Int.tdiv n g))
 some k) none) (
 (j22 (c.1,c.2) d).bind λl=>
 let m:=(w64 (l.1-a.2.2.1.1))
 (j8O (a.1,(a.2.1,((a.2.2.1.1,a.2.2.1.2),(a.2.2.2.1,(a.2.2.2.2.1,(a.2.2.2.2.2.1,(a.2.2.2.2.2.2.1,(a.2.2.2.2.2.2.2.1,a.2.2.2.2.2.2.2.2))))))))).bind λi=>
 cond (!(i==0)) (
 let f:=(w64 (Int.tdiv m i))
 let j:Int:=(if f>0 then f else 0:Int)
 (HK d j c.1 c.2 a.1 a.2.1 a.2.2.1.1 a.2.2.1.2 a.2.2.2.1 a.2.2.2.2.1 a.2.2.2.2.2.1 a.2.2.2.2.2.2.1 a.2.2.2.2.2.2.2.1 a.2.2.2.2.2.2.2.2).bind λb=>
 (HM b.1 b.2.1 b.2.2.1 b.2.2.2.1 b.2.2.2.2.1 b.2.2.2.2.2.1 b.2.2.2.2.2.2.1 b.2.2.2.2.2.2.2.1 b.2.2.2.2.2.2.2.2.1 b.2.2.2.2.2.2.2.2.2.1 b.2.2.2.2.2.2.2.2.2.2.1 b.2.2.2.2.2.2.2.2.2.2.2.1 b.2.2.2.2.2.2.2.2.2.2.2.2.1 b.2.2.2.2.2.2.2.2.2.2.2.2.2).bind λo=>
 some o) none))
def j4t(f:ae)(m e:Int)(b:ae):Option ((ae×Int×Int×ae) ⊕ (ae)):=
 cond (decide (e<m)) (
 cond (inR e (List.length f)) (
 let a:=(List.getD f (Int.toNat e) (0,(0,0)))
 cond (decide (a.2.1<=a.1)) (
 let q:=(w64 (e+1))
 some (.inl (f,m,q,b))) (
 let c:=(Int.ofNat (List.length b))
 cond (decide (c>0)) (
 let g:=(w64 (c-1))
 cond (inR g (List.length b)) (
 let u:=(List.getD b (Int.toNat g) (0,(0,0))).2.1
 cond (u==a.1) (
 let j:=(w64 (c-1))
 cond (inR j (List.length b)) (
 let p:=(List.getD b (Int.toNat j) (0,(0,0))).2.2
 cond (p==a.2.2) (
 let d:=(w64 (c-1))
 cond (inR d (List.length b)) (
 let x:ae:=(List.set b (Int.toNat d) ((List.getD b (Int.toNat d) (0,(0,0))).1,(a.2.1,(List.getD b (Int.toNat d) (0,(0,0))).2.2)))
 let w:=(w64 (e+1))
 some (.inl (f,m,w,x))) none) (
 let i:ae:=[(a.1,(a.2.1,a.2.2))]
 cond (decide (List.length b+List.length i<=aQ)) (
 let s:ae:=(b++i)
 let t:=(w64 (e+1))
 some (.inl (f,m,t,s))) none)) none) (
 let l:ae:=[(a.1,(a.2.1,a.2.2))]
 cond (decide (List.length b+List.length l<=aQ)) (
 let r:ae:=(b++l)
 let o:=(w64 (e+1))
 some (.inl (f,m,o,r))) none)) none) (
 let k:ae:=[(a.1,(a.2.1,a.2.2))]
 cond (decide (List.length b+List.length k<=aQ)) (
 let v:ae:=(b++k)
 let n:=(w64 (e+1))
 some (.inl (f,m,n,v))) none))) none) (
 some (.inr b))
def Bf[LP](a:ae)(b c:Int)(d:ae):Option (ae):=
 LP.lp (unc4 (j4t)) (a,b,c,d)
theorem U3(b c d a):Bf b c d a=lpK (j4t b c d a) (λh=>Bf h.1 h.2.1 h.2.2.1 h.2.2.2):=bK _ _
def j8P[LP](a:ae):Option (ae):=
 let c:=(Int.ofNat (List.length a))
 (Bf a c 0 ([]:ae)).bind λb=>
 some b
def j2I[LP](b5 o a8 v a4 a0:Int)(a7:ByteArray)(e i g l j:Int)(a:(List Int))(m:af)(k f p:Int)(c:af)(a9 b:Int)(z:ae)(a1:af):Option ((Int×Int×Int×Int×Int×Int×ByteArray×Int×Int×Int×Int×Int×(List Int)×af×Int×Int×Int×af×Int×Int×ae×af) ⊕ ((Int×Int×Int×Int×Int×Int×ByteArray×Int×Int×Int×Int×Int×(List Int)×af×Int×Int×Int×af×ae×af))):=
 cond (decide (o<b)) (
 cond (decide (o>=v)) (
 (j3H (p,c) (a7,(e,((i,g),(l,(j,(a,(m,(k,f)))))))) o).bind λd=>
 let b6:=(w64 (d+1))
 (j0H (p,c) (a7,(e,((i,g),(l,(j,(a,(m,(k,f)))))))) b6).bind λn=>
 cond (!n.2) (
 let a2:Int:=(if 8589934593<b then 8589934593 else b:Int)
 let a6:=(Int.ofNat (List.length a))
 cond (!(a6==0)) (
 let a3:=(Int.tmod d a6)
 cond (inR a3 (List.length a)) (
 let b4:=(List.getD a (Int.toNat a3) 0)
 let a5:ae:=[(o,(a2,b4))]
 cond (decide (List.length z+List.length a5<=aQ)) (
 let b7:ae:=(z++a5)
 some (.inl (b5,a2,d,8589934593,a4,a0,a7,e,i,g,l,j,a,m,k,f,p,c,a9,b,b7,a1))) none) none) none) (
 let q:Int:=(if n.1<b then n.1 else b:Int)
 let w:=(Int.ofNat (List.length a))
 cond (!(w==0)) (
 let r:=(Int.tmod d w)
 cond (inR r (List.length a)) (
 let b3:=(List.getD a (Int.toNat r) 0)
 let x:ae:=[(o,(q,b3))]
 cond (decide (List.length z+List.length x<=aQ)) (
 let b1:ae:=(z++x)
 some (.inl (b5,q,d,n.1,a4,a0,a7,e,i,g,l,j,a,m,k,f,p,c,a9,b,b1,a1))) none) none) none)) (
 let s:Int:=(if v<b then v else b:Int)
 let t:=(Int.ofNat (List.length a))
 cond (!(t==0)) (
 let y:=(Int.tmod a8 t)
 cond (inR y (List.length a)) (
 let b0:=(List.getD a (Int.toNat y) 0)
 let u:ae:=[(o,(s,b0))]
 cond (decide (List.length z+List.length u<=aQ)) (
 let b2:ae:=(z++u)
 some (.inl (b5,s,a8,v,a4,a0,a7,e,i,g,l,j,a,m,k,f,p,c,a9,b,b2,a1))) none) none) none)) (
 some (.inr (b5,o,a8,v,a4,a0,a7,e,i,g,l,j,a,m,k,f,p,c,z,a1)))
def Ea[LP](u m o s r n:Int)(v:ByteArray)(c f e j g:Int)(l:(List Int))(k:af)(i d t:Int)(a:af)(p b:Int)(w:ae)(q:af):Option ((Int×Int×Int×Int×Int×Int×ByteArray×Int×Int×Int×Int×Int×(List Int)×af×Int×Int×Int×af×ae×af)):=
 LP.lp (jyv (j2I)) (u,m,o,s,r,n,v,c,f,e,j,g,l,k,i,d,t,a,p,b,w,q)
theorem jcc(u m o s r n v c f e j g l k i d t a p b w q):Ea u m o s r n v c f e j g l k i d t a p b w q=lpK (j2I u m o s r n v c f e j g l k i d t a p b w q) (λh=>Ea h.1 h.2.1 h.2.2.1 h.2.2.2.1 h.2.2.2.2.1 h.2.2.2.2.2.1 h.2.2.2.2.2.2.1 h.2.2.2.2.2.2.2.1 h.2.2.2.2.2.2.2.2.1 h.2.2.2.2.2.2.2.2.2.1 h.2.2.2.2.2.2.2.2.2.2.1 h.2.2.2.2.2.2.2.2.2.2.2.1 h.2.2.2.2.2.2.2.2.2.2.2.2.1 h.2.2.2.2.2.2.2.2.2.2.2.2.2.1 h.2.2.2.2.2.2.2.2.2.2.2.2.2.2.1 h.2.2.2.2.2.2.2.2.2.2.2.2.2.2.2.1 h.2.2.2.2.2.2.2.2.2.2.2.2.2.2.2.2.1 h.2.2.2.2.2.2.2.2.2.2.2.2.2.2.2.2.2.1 h.2.2.2.2.2.2.2.2.2.2.2.2.2.2.2.2.2.2.1 h.2.2.2.2.2.2.2.2.2.2.2.2.2.2.2.2.2.2.2.1 h.2.2.2.2.2.2.2.2.2.2.2.2.2.2.2.2.2.2.2.2.1 h.2.2.2.2.2.2.2.2.2.2.2.2.2.2.2.2.2.2.2.2.2):=bK _ _
def j1N[LP](v j w x k d:Int)(z:ByteArray)(l o n s p:Int)(u:(List Int))(t:af)(q m y:Int)(f:af)(r:ae)(e:af):Option ((Int×Int×Int×Int×Int×Int×ByteArray×Int×Int×Int×Int×Int×(List Int)×af×Int×Int×Int×af×ae×af) ⊕ ((Int×Int×ae))):=
 cond (decide (d<k)) (
 cond (inR d (List.length e)) (
 let b:=(List.getD e (Int.toNat d) (0,0))
 let c:ae:=[(j,(b.1,(-1)))]
 cond (decide (List.length r+List.length c<=aQ)) (
 let i:ae:=(r++c)
 (Ea v b.1 w x k d z l o n s p u t q m y f b.1 b.2 i e).bind λa=>
 let g:=(w64 (a.2.2.2.2.2.1+1))
 some (.inl (a.1,a.2.1,a.2.2.1,a.2.2.2.1,a.2.2.2.2.1,g,a.2.2.2.2.2.2.1,a.2.2.2.2.2.2.2.1,a.2.2.2.2.2.2.2.2.1,a.2.2.2.2.2.2.2.2.2.1,a.2.2.2.2.2.2.2.2.2.2.1,a.2.2.2.2.2.2.2.2.2.2.2.1,a.2.2.2.2.2.2.2.2.2.2.2.2.1,a.2.2.2.2.2.2.2.2.2.2.2.2.2.1,a.2.2.2.2.2.2.2.2.2.2.2.2.2.2.1,a.2.2.2.2.2.2.2.2.2.2.2.2.2.2.2.1,a.2.2.2.2.2.2.2.2.2.2.2.2.2.2.2.2.1,a.2.2.2.2.2.2.2.2.2.2.2.2.2.2.2.2.2.1,a.2.2.2.2.2.2.2.2.2.2.2.2.2.2.2.2.2.2.1,a.2.2.2.2.2.2.2.2.2.2.2.2.2.2.2.2.2.2.2))) none) none) (
 some (.inr (v,j,r)))
def Eb[LP](s l n q p m:Int)(t:ByteArray)(b e d i f:Int)(k:(List Int))(j:af)(g c r:Int)(a:af)(u:ae)(o:af):Option ((Int×Int×ae)):=
 LP.lp (jyu (j1N)) (s,l,n,q,p,m,t,b,e,d,i,f,k,j,g,c,r,a,u,o)
theorem U4(s l n q p m t b e d i f k j g c r a u o):Eb s l n q p m t b e d i f k j g c r a u o=lpK (j1N s l n q p m t b e d i f k j g c r a u o) (λh=>Eb h.1 h.2.1 h.2.2.1 h.2.2.2.1 h.2.2.2.2.1 h.2.2.2.2.2.1 h.2.2.2.2.2.2.1 h.2.2.2.2.2.2.2.1 h.2.2.2.2.2.2.2.2.1 h.2.2.2.2.2.2.2.2.2.1 h.2.2.2.2.2.2.2.2.2.2.1 h.2.2.2.2.2.2.2.2.2.2.2.1 h.2.2.2.2.2.2.2.2.2.2.2.2.1 h.2.2.2.2.2.2.2.2.2.2.2.2.2.1 h.2.2.2.2.2.2.2.2.2.2.2.2.2.2.1 h.2.2.2.2.2.2.2.2.2.2.2.2.2.2.2.1 h.2.2.2.2.2.2.2.2.2.2.2.2.2.2.2.2.1 h.2.2.2.2.2.2.2.2.2.2.2.2.2.2.2.2.2.1 h.2.2.2.2.2.2.2.2.2.2.2.2.2.2.2.2.2.2.1 h.2.2.2.2.2.2.2.2.2.2.2.2.2.2.2.2.2.2.2):=bK _ _
def j1S[LP](b:mh)(a:jJ)(c d:Int):Option (ae):=
 cond (inR a.2.1 (List.length b.2)) (
 let g:=(List.getD b.2 (Int.toNat a.2.1) (0,([]:af)))
 (j6f ((b.1.1,(b.1.2.1,(b.1.2.2.1,b.1.2.2.2))),b.2) (a.1,(a.2.1,((a.2.2.1.1,a.2.2.1.2),(a.2.2.2.1,(a.2.2.2.2.1,(a.2.2.2.2.2.1,(a.2.2.2.2.2.2.1,(a.2.2.2.2.2.2.2.1,a.2.2.2.2.2.2.2.2)))))))) c d).bind λi=>
 let k:=(Int.ofNat (List.length i))
 (Eb d c (-1) (-1) k 0 a.1 a.2.1 a.2.2.1.1 a.2.2.1.2 a.2.2.2.1 a.2.2.2.2.1 a.2.2.2.2.2.1 a.2.2.2.2.2.2.1 a.2.2.2.2.2.2.2.1 a.2.2.2.2.2.2.2.2 g.1 g.2 ([]:ae) i).bind λe=>
 let f:ae:=[(e.2.1,(e.1,(-1)))]
 cond (decide (List.length e.2.2+List.length f<=aQ)) (
 let j:ae:=(e.2.2++f)
 (j8P j).bind λl=>
 some l) none) none
def j3C(k:Int)(i:bu)(d b:Int)(e:af):Option ((Int×bu×Int×Int×af) ⊕ (af)):=
 cond (decide (b<d)) (
 cond (inR b (List.length i)) (
 let a:=(List.getD i (Int.toNat b) (0,(0,(0,(0,0)))))
 cond (cond (a.1==0) (a.2.1==k) false) (
 let c:af:=[(a.2.2.2.1,a.2.2.2.2)]
 cond (decide (List.length e+List.length c<=aQ)) (
 let j:af:=(e++c)
 let f:=(w64 (b+1))
 some (.inl (k,i,d,f,j))) none) (
 let g:=(w64 (b+1))
 some (.inl (k,i,d,g,e)))) none) (
 some (.inr e))
def Ec[LP](c:Int)(e:bu)(a b:Int)(d:af):Option (af):=
 LP.lp (unc5 (j3C)) (c,e,a,b,d)
theorem U5(c e a b d):Ec c e a b d=lpK (j3C c e a b d) (λh=>Ec h.1 h.2.1 h.2.2.1 h.2.2.2.1 h.2.2.2.2):=bK _ _
def j6h[LP](b:mf)(a:Int):Option (af):=
 let c:=(Int.ofNat (List.length b.2.2))
 (Ec a b.2.2 c 0 ([]:af)).bind λe=>
 (j7J e).bind λd=>
 some d
def j37(m:ae)(n k l c:Int)(r:ByteArray)(e:bg)(g:bu)(s p d:Int)(q:cO)(o:ae)(f:af):Option ((ae×Int×Int×Int×Int×ByteArray×bg×bu×Int×Int×Int×cO×ae×af) ⊕ ((ae×Int×Int×ByteArray×bg×bu×cO×ae))):=
 cond (decide (c<l)) (
 cond (inR c (List.length f)) (
 let b:=(List.getD f (Int.toNat c) (0,0))
 let a:ae:=[(b.1,(b.2,d))]
 cond (decide (List.length o+List.length a<=aQ)) (
 let j:ae:=(o++a)
 let i:=(w64 (c+1))
 some (.inl (m,n,k,l,i,r,e,g,s,p,d,q,j,f))) none) none) (
 some (.inr (m,n,k,r,e,g,q,o)))
def yH[LP](i:ae)(k e f g:Int)(o:ByteArray)(b:bg)(d:bu)(l c a:Int)(n:cO)(m:ae)(j:af):Option ((ae×Int×Int×ByteArray×bg×bu×cO×ae)):=
 LP.lp (jk6 (j37)) (i,k,e,f,g,o,b,d,l,c,a,n,m,j)
theorem U6(i k e f g o b d l c a n m j):yH i k e f g o b d l c a n m j=lpK (j37 i k e f g o b d l c a n m j) (λh=>yH h.1 h.2.1 h.2.2.1 h.2.2.2.1 h.2.2.2.2.1 h.2.2.2.2.2.1 h.2.2.2.2.2.2.1 h.2.2.2.2.2.2.2.1 h.2.2.2.2.2.2.2.2.1 h.2.2.2.2.2.2.2.2.2.1 h.2.2.2.2.2.2.2.2.2.2.1 h.2.2.2.2.2.2.2.2.2.2.2.1 h.2.2.2.2.2.2.2.2.2.2.2.2.1 h.2.2.2.2.2.2.2.2.2.2.2.2.2):=bK _ _
def j38[LP](g:ae)(k d:Int)(y:ByteArray)(f:bg)(e:bu)(l:cO)(q:ae):Option ((ae×Int×Int×ByteArray×bg×bu×cO×ae) ⊕ (ae)):=
 cond (decide (d<k)) (
 cond (inR d (List.length g)) (
 let a:=(List.getD g (Int.toNat d) (0,(0,0)))
 cond (decide (a.2.2<0)) (
 let o:=(w64 (d+1))
 some (.inl (g,k,o,y,f,e,l,q))) (
 let z:af:=(cR ([]:af) l a.2.2)
 cond (!(dN l a.2.2)) (
 (j6h (y,(f,e)) a.2.2).bind λs=>
 let m:cO:=(dO l a.2.2 s)
 let t:af:=[(a.1,a.2.1)]
 let n:af:=(cR ([]:af) m a.2.2)
 (j2G t n).bind λj=>
 let v:=(Int.ofNat (List.length j))
 (yH g k d v 0 y f e a.1 a.2.1 a.2.2 m q j).bind λb=>
 let w:=(w64 (b.2.2.1+1))
 some (.inl (b.1,b.2.1,w,b.2.2.2.1,b.2.2.2.2.1,b.2.2.2.2.2.1,b.2.2.2.2.2.2.1,b.2.2.2.2.2.2.2))) (
 let x:af:=[(a.1,a.2.1)]
 let u:af:=(cR ([]:af) l a.2.2)
 (j2G x u).bind λi=>
 let p:=(Int.ofNat (List.length i))
 (yH g k d p 0 y f e a.1 a.2.1 a.2.2 l q i).bind λc=>
 let r:=(w64 (c.2.2.1+1))
 some (.inl (c.1,c.2.1,r,c.2.2.2.1,c.2.2.2.2.1,c.2.2.2.2.2.1,c.2.2.2.2.2.2.1,c.2.2.2.2.2.2.2))))) none) (
 some (.inr q))
def Bg[LP](d:ae)(e c:Int)(i:ByteArray)(a:bg)(b:bu)(g:cO)(f:ae):Option (ae):=
 LP.lp (unc8 (j38)) (d,e,c,i,a,b,g,f)
theorem U7(d e c i a b g f):Bg d e c i a b g f=lpK (j38 d e c i a b g f) (λh=>Bg h.1 h.2.1 h.2.2.1 h.2.2.2.1 h.2.2.2.2.1 h.2.2.2.2.2.1 h.2.2.2.2.2.2.1 h.2.2.2.2.2.2.2):=bK _ _
def j86[LP](a:mf)(b:ae):Option (ae):=
 let c:cO:=([]:cO)
 let d:=(Int.ofNat (List.length b))
 (Bg b d 0 a.1 a.2.1 a.2.2 c ([]:ae)).bind λe=>
 some e
def j4S(b:ae)(c:af)(a d:Int)(n:ae):Option ((ae×af×Int×Int×ae) ⊕ (ae)):=
 let x:=(Int.ofNat (List.length b))
 let w:=(Int.ofNat (List.length c))
 cond (cond (decide (a<x)) (decide (d<w)) false) (
 cond (inR a (List.length b)) (
 let g:=(List.getD b (Int.toNat a) (0,(0,0)))
 cond (inR d (List.length c)) (
 let i:=(List.getD c (Int.toNat d) (0,0))
 let j:Int:=(if i.1>g.1 then i.1 else g.1:Int)
 cond (inR a (List.length b)) (
 let k:=(List.getD b (Int.toNat a) (0,(0,0)))
 cond (inR d (List.length c)) (
 let m:=(List.getD c (Int.toNat d) (0,0))
 let f:Int:=(if m.2<k.2.1 then m.2 else k.2.1:Int)
 cond (inR a (List.length b)) (
 let p:=(List.getD b (Int.toNat a) (0,(0,0)))
 cond (decide (j<f)) (
 let l:ae:=[(j,(f,p.2.2))]
 cond (decide (List.length n+List.length l<=aQ)) (
 let e:ae:=(n++l)
 cond (inR a (List.length b)) (
 let o:=(List.getD b (Int.toNat a) (0,(0,0)))
 cond (inR d (List.length c)) (
 let v:=(List.getD c (Int.toNat d) (0,0))
 cond (decide (o.2.1<v.2)) (
 let q:=(w64 (a+1))
 some (.inl (b,c,q,d,e))) (
 let r:=(w64 (d+1))
 some (.inl (b,c,a,r,e)))) none) none) none) (
 cond (inR a (List.length b)) (
 let s:=(List.getD b (Int.toNat a) (0,(0,0)))
 cond (inR d (List.length c)) (
 let t:=(List.getD c (Int.toNat d) (0,0))
 cond (decide (s.2.1<t.2)) (
 let y:=(w64 (a+1))
 some (.inl (b,c,y,d,n))) (
 let u:=(w64 (d+1))
 some (.inl (b,c,a,u,n)))) none) none)) none) none) none) none) none) (
 some (.inr n))
def yI[LP](a:ae)(c:af)(b e:Int)(d:ae):Option (ae):=
 LP.lp (unc5 (j4S)) (a,c,b,e,d)
theorem jgf(a c b e d):yI a c b e d=lpK (j4S a c b e d) (λh=>yI h.1 h.2.1 h.2.2.1 h.2.2.2.1 h.2.2.2.2):=bK _ _
def jbm[LP](b:ae)(a:af):Option (ae):=
 (yI b a 0 0 ([]:ae)).bind λc=>
 some c
def j43(f:ae)(i e:Int)(g:af):Option ((ae×Int×Int×af) ⊕ (af)):=
 cond (decide (e<i)) (
 cond (inR e (List.length f)) (
 let a:=(List.getD f (Int.toNat e) (0,(0,0)))
 let b:af:=[(a.1,a.2.1)]
 cond (decide (List.length g+List.length b<=aQ)) (
 let c:af:=(g++b)
 let d:=(w64 (e+1))
 some (.inl (f,i,d,c))) none) none) (
 some (.inr g))
def Ed[LP](c:ae)(a b:Int)(d:af):Option (af):=
 LP.lp (unc4 (j43)) (c,a,b,d)
theorem U8(a c d b):Ed a c d b=lpK (j43 a c d b) (λh=>Ed h.1 h.2.1 h.2.2.1 h.2.2.2):=bK _ _
def jaB[LP](a:ae):Option (af):=
 let d:=(Int.ofNat (List.length a))
 (Ed a d 0 ([]:af)).bind λc=>
 (j7J c).bind λb=>
 some b
def j2Q(a b:pj):Option (Int):=
 let c:=(w64 (a.1-b.1))
 some c
def j0p(a:ae):Option (ae):=
 wE ((.pair (.int .i64) (.pair (.int .i64) (.int .i64)))) (λb c=>(j2Q b c).getD 0) a
def j2d[LP](m:Int)(l:bg)(u:aw)(e:az)(f:aB)(k:aM)(i:cO)(t:ByteArray)(g:bg)(j:bu)(w v:Int)(d:af)(c:ae):Option ((Int×bg×aw×az×aB×aM×cO×ByteArray×bg×bu×Int×Int×af×ae) ⊕ ((af×ae))):=
 cond (decide (m<=0)) (
 some (.inr (d,c))) (
 cond (decide (m<=Int.ofNat (List.length l))) (
 let o:Int:=(m-1)
 let a:=(List.getD l (Int.toNat o) (ByteArray.empty,(0,((0,0),(0,(0,(([]:(List Int)),(([]:af),(0,0)))))))))
 (j1S ((u,(e,(f,k))),i) (a.1,(a.2.1,((a.2.2.1.1,a.2.2.1.2),(a.2.2.2.1,(a.2.2.2.2.1,(a.2.2.2.2.2.1,(a.2.2.2.2.2.2.1,(a.2.2.2.2.2.2.2.1,a.2.2.2.2.2.2.2.2)))))))) w v).bind λq=>
 (j86 (t,(g,j)) q).bind λn=>
 (jbm n d).bind λb=>
 cond (decide (List.length c+List.length b<=aQ)) (
 let p:ae:=(c++b)
 (jaB b).bind λs=>
 (j2G d s).bind λr=>
 some (.inl ((m-1),l,u,e,f,k,i,t,g,j,w,v,r,p))) none) none)
def Ee[LP](k:Int)(j:bg)(m:aw)(c:az)(f:aB)(i:aM)(d:cO)(l:ByteArray)(g:bg)(e:bu)(o n:Int)(b:af)(a:ae):Option ((af×ae)):=
 LP.lp (jk6 (j2d)) (k,j,m,c,f,i,d,l,g,e,o,n,b,a)
theorem U9(k j m c f i d l g e o n b a):Ee k j m c f i d l g e o n b a=lpK (j2d k j m c f i d l g e o n b a) (λh=>Ee h.1 h.2.1 h.2.2.1 h.2.2.2.1 h.2.2.2.2.1 h.2.2.2.2.2.1 h.2.2.2.2.2.2.1 h.2.2.2.2.2.2.2.1 h.2.2.2.2.2.2.2.2.1 h.2.2.2.2.2.2.2.2.2.1 h.2.2.2.2.2.2.2.2.2.2.1 h.2.2.2.2.2.2.2.2.2.2.2.1 h.2.2.2.2.2.2.2.2.2.2.2.2.1 h.2.2.2.2.2.2.2.2.2.2.2.2.2):=bK _ _
def j2e(i d:Int)(e:af)(a:ae):Option ((Int×Int×af×ae) ⊕ (ae)):=
 cond (decide (d<i)) (
 cond (inR d (List.length e)) (
 let c:=(List.getD e (Int.toNat d) (0,0))
 let b:ae:=[(c.1,(c.2,(-1)))]
 cond (decide (List.length a+List.length b<=aQ)) (
 let g:ae:=(a++b)
 let f:=(w64 (d+1))
 some (.inl (i,f,e,g))) none) none) (
 some (.inr a))
def Ef[LP](d b:Int)(c:af)(a:ae):Option (ae):=
 LP.lp (unc4 (j2e)) (d,b,c,a)
theorem Va(b d c a):Ef b d c a=lpK (j2e b d c a) (λh=>Ef h.1 h.2.1 h.2.2.1 h.2.2.2):=bK _ _
def j3q[LP](b:mh)(d:mf)(a c:Int):Option (ae):=
 cond (decide (a>=c)) (
 some ([]:ae)) (
 let k:af:=[(a,c)]
 (j23 d.2.1).bind λe=>
 (Ee (Int.ofNat (List.length e)) e b.1.1 b.1.2.1 b.1.2.2.1 b.1.2.2.2 b.2 d.1 d.2.1 d.2.2 a c k ([]:ae)).bind λf=>
 let j:=(Int.ofNat (List.length f.1))
 (Ef j 0 f.1 f.2).bind λl=>
 (j0p l).bind λg=>
 (j8P g).bind λi=>
 some i)
def ja9(a:Int):Option (Bool):=
 some (a != a)
def jbn(b a:Int):Option (Bool):=
 (ja9 b).bind λc=>
 cond c (
 (ja9 a).bind λd=>
 some (cond (!d) true (decide (b<a)))) (
 some (decide (b<a)))
def j7q(a:Int):Option (Bool):=
 some (a != a)
def j1j(b:(List Int))(f l k m:Int):Option (((List Int)×Int×Int×Int×Int) ⊕ (((List Int)×Int×Int×Int))):=
 cond (decide (k<m)) (
 let d:=(w64 (k+m))
 let g:Int:=(IntKind.wrap .u64 d)
 let e:Int:=(Int.fdiv g 2)
 let a:=(w64 e)
 cond (inR a (List.length b)) (
 let c:=(List.getD b (Int.toNat a) 0)
 (jbn c f).bind λi=>
 cond i (
 let j:=(w64 (a+1))
 some (.inl (b,f,l,j,m))) (
 some (.inl (b,f,l,k,a)))) none) (
 some (.inr (b,f,l,k)))
def HN[LP](a:(List Int))(c b d e:Int):Option (((List Int)×Int×Int×Int)):=
 LP.lp (unc5 (j1j)) (a,c,b,d,e)
theorem j87(a c b d e):HN a c b d e=lpK (j1j a c b d e) (λh=>HN h.1 h.2.1 h.2.2.1 h.2.2.2.1 h.2.2.2.2):=bK _ _
def j2v[LP](d:(List Int))(b:Int):Option (Int×Bool):=
 let e:=(Int.ofNat (List.length d))
 (HN d b e 0 e).bind λa=>
 cond ((inR a.2.2.2 (List.length a.1)) || !(decide (a.2.2.2<a.2.2.1))) (
 let c:=(List.getD a.1 (Int.toNat a.2.2.2) 0)
 cond ((inR a.2.2.2 (List.length a.1)) || !((decide (a.2.2.2<a.2.2.1))&&(!(c==a.2.1)))) (
 let i:=(List.getD a.1 (Int.toNat a.2.2.2) 0)
 cond (decide (a.2.2.2<a.2.2.1)) (
 cond (c==a.2.1) (
 some (a.2.2.2,true)) (
 (j7q i).bind λg=>
 cond g (
 (j7q a.2.1).bind λf=>
 some (a.2.2.2,f)) (
 some (a.2.2.2,false)))) (
 cond ((c==a.2.1) || !false) (
 some (a.2.2.2,false)) none)) none) none
def jfi(b:rV)(a:Int):Option (Bool):=
 some (cond (decide (b.2.2.2.1<=a)) (decide (a<b.2.2.2.2)) false)
def j5a(f e:Int)(d:bu)(c b:Int):Option ((Int×Int×bu×Int×Int) ⊕ (Int)):=
 cond (decide (b<c)) (
 cond (inR b (List.length d)) (
 let a:=(List.getD d (Int.toNat b) (0,(0,(0,(0,0)))))
 (jfi (a.1,(a.2.1,(a.2.2.1,(a.2.2.2.1,a.2.2.2.2)))) e).bind λl=>
 cond (cond (!l) true (a.1==0)) (
 let n:=(w64 (b+1))
 some (.inl (f,e,d,c,n))) (
 cond (a.1==1) (
 let j:=(w64 (b+1))
 some (.inl (a.2.1,e,d,c,j))) (
 cond (a.1 != 2) (
 let k:=(w64 (b+1))
 some (.inl (f,e,d,c,k))) (
 cond (f==a.2.1) (
 let m:=(w64 (b+1))
 some (.inl (a.2.2.1,e,d,c,m))) (
 cond (f==a.2.2.1) (
 let g:=(w64 (b+1))
 some (.inl (a.2.1,e,d,c,g))) (
 let i:=(w64 (b+1))
 some (.inl (f,e,d,c,i)))))))) none) (
 some (.inr f))
def Eg[LP](c e:Int)(d:bu)(a b:Int):Option (Int):=
 LP.lp (unc5 (j5a)) (c,e,d,a,b)
theorem Vb(c e d a b):Eg c e d a b=lpK (j5a c e d a b) (λh=>Eg h.1 h.2.1 h.2.2.1 h.2.2.2.1 h.2.2.2.2):=bK _ _
def jgg[LP](b:bu)(a c:Int):Option (Int):=
 let d:=(Int.ofNat (List.length b))
 (Eg a c b d 0).bind λe=>
 some e
def j2w(s p:Int)(d:bu)(n b:Int)(r:aw)(e:az)(j:aB)(k:aM)(f:cO)(q:ByteArray)(i:bg)(g:bu)(o:(List Int)):Option ((Int×Int×bu×Int×Int×aw×az×aB×aM×cO×ByteArray×bg×bu×(List Int)) ⊕ ((Int×Int×aw×az×aB×aM×cO×ByteArray×bg×bu×(List Int)))):=
 cond (decide (b<n)) (
 cond (inR b (List.length d)) (
 let a:=(List.getD d (Int.toNat b) (0,(0,(0,(0,0)))))
 let c:(List Int):=[a.2.2.2.1,a.2.2.2.2]
 cond (decide (List.length o+List.length c<=aQ)) (
 let m:(List Int):=(o++c)
 let l:=(w64 (b+1))
 some (.inl (s,p,d,n,l,r,e,j,k,f,q,i,g,m))) none) none) (
 some (.inr (s,p,r,e,j,k,f,q,i,g,o)))
def Bh[LP](o k:Int)(g:bu)(j i:Int)(m:aw)(a:az)(e:aB)(f:aM)(b:cO)(l:ByteArray)(d:bg)(c:bu)(n:(List Int)):Option ((Int×Int×aw×az×aB×aM×cO×ByteArray×bg×bu×(List Int))):=
 LP.lp (jk6 (j2w)) (o,k,g,j,i,m,a,e,f,b,l,d,c,n)
theorem Vc(o k g j i m a e f b l d c n):Bh o k g j i m a e f b l d c n=lpK (j2w o k g j i m a e f b l d c n) (λh=>Bh h.1 h.2.1 h.2.2.1 h.2.2.2.1 h.2.2.2.2.1 h.2.2.2.2.2.1 h.2.2.2.2.2.2.1 h.2.2.2.2.2.2.2.1 h.2.2.2.2.2.2.2.2.1 h.2.2.2.2.2.2.2.2.2.1 h.2.2.2.2.2.2.2.2.2.2.1 h.2.2.2.2.2.2.2.2.2.2.2.1 h.2.2.2.2.2.2.2.2.2.2.2.2.1 h.2.2.2.2.2.2.2.2.2.2.2.2.2):=bK _ _
def j2x[LP](k j p q:Int)(s:ByteArray)(i:bg)(b:bu)(t a c:Int)(e:(List Int))(l r:ae):Option ((Int×Int×Int×Int×ByteArray×bg×bu×Int×Int×Int×(List Int)×ae×ae) ⊕ ((Int×Int×ByteArray×bg×bu×(List Int)×ae×ae))):=
 cond (decide (j<a)) (
 cond (inR k (List.length e)) (
 let d:=(List.getD e (Int.toNat k) 0)
 let f:Int:=(if d<a then d else a:Int)
 (jgg b c j).bind λm=>
 let g:ae:=[(j,(f,m))]
 cond (decide (List.length l+List.length g<=aQ)) (
 let o:ae:=(l++g)
 let n:=(w64 (k+1))
 some (.inl (n,f,p,q,s,i,b,t,a,c,e,o,r))) none) none) (
 some (.inr (p,q,s,i,b,e,l,r)))
def HO[LP](g e i f:Int)(n:ByteArray)(d:bg)(c:bu)(m a b:Int)(j:(List Int))(l k:ae):Option ((Int×Int×ByteArray×bg×bu×(List Int)×ae×ae)):=
 LP.lp (jvv (j2x)) (g,e,i,f,n,d,c,m,a,b,j,l,k)
theorem Vd(g e i f n d c m a b j l k):HO g e i f n d c m a b j l k=lpK (j2x g e i f n d c m a b j l k) (λh=>HO h.1 h.2.1 h.2.2.1 h.2.2.2.1 h.2.2.2.2.1 h.2.2.2.2.2.1 h.2.2.2.2.2.2.1 h.2.2.2.2.2.2.2.1 h.2.2.2.2.2.2.2.2.1 h.2.2.2.2.2.2.2.2.2.1 h.2.2.2.2.2.2.2.2.2.2.1 h.2.2.2.2.2.2.2.2.2.2.2.1 h.2.2.2.2.2.2.2.2.2.2.2.2):=bK _ _
def j1G[LP](i c:Int)(n:ByteArray)(m:bg)(l:bu)(j:(List Int))(k d:ae):Option ((Int×Int×ByteArray×bg×bu×(List Int)×ae×ae) ⊕ (ae)):=
 cond (decide (c<i)) (
 cond (inR c (List.length d)) (
 let b:=(List.getD d (Int.toNat c) (0,(0,0)))
 let g:=(w64 (b.1+1))
 (j2v j g).bind λf=>
 (HO f.1 b.1 i c n m l b.1 b.2.1 b.2.2 j k d).bind λa=>
 let e:=(w64 (a.2.1+1))
 some (.inl (a.1,e,a.2.2.1,a.2.2.2.1,a.2.2.2.2.1,a.2.2.2.2.2.1,a.2.2.2.2.2.2.1,a.2.2.2.2.2.2.2))) none) (
 some (.inr k))
def yJ[LP](d c:Int)(i:ByteArray)(b:bg)(a:bu)(e:(List Int))(g f:ae):Option (ae):=
 LP.lp (unc8 (j1G)) (d,c,i,b,a,e,g,f)
theorem Mx(d c i b a e g f):yJ d c i b a e g f=lpK (j1G d c i b a e g f) (λh=>yJ h.1 h.2.1 h.2.2.1 h.2.2.2.1 h.2.2.2.2.1 h.2.2.2.2.2.1 h.2.2.2.2.2.2.1 h.2.2.2.2.2.2.2):=bK _ _
def j39[LP](c:mh)(b:mf)(d e:Int):Option (ae):=
 let k:=(Int.ofNat (List.length b.2.2))
 (Bh d e b.2.2 k 0 c.1.1 c.1.2.1 c.1.2.2.1 c.1.2.2.2 c.2 b.1 b.2.1 b.2.2 ([]:(List Int))).bind λa=>
 (jge a.2.2.2.2.2.2.2.2.2.2 a.1 a.2.1).bind λg=>
 (j3q ((a.2.2.1,(a.2.2.2.1,(a.2.2.2.2.1,a.2.2.2.2.2.1))),a.2.2.2.2.2.2.1) (a.2.2.2.2.2.2.2.1,(a.2.2.2.2.2.2.2.2.1,a.2.2.2.2.2.2.2.2.2.1)) a.1 a.2.1).bind λf=>
 let i:=(Int.ofNat (List.length f))
 (yJ i 0 a.2.2.2.2.2.2.2.1 a.2.2.2.2.2.2.2.2.1 a.2.2.2.2.2.2.2.2.2.1 g ([]:ae) f).bind λl=>
 (j8P l).bind λj=>
 some j
def j46[LP](b:fw)(a d e:Int):Option (ae×Int):=
 (j8N (b.1,(b.2.1,(b.2.2.1,b.2.2.2))) a d e).bind λc=>
 cond (c.2 != 0) (
 some (([]:ae),c.2)) (
 cond (inR a (List.length b.2.2.2)) (
 let f:=(List.getD b.2.2.2 (Int.toNat a) (ByteArray.empty,(([]:bg),([]:bu))))
 (j39 ((c.1.1.1,(c.1.1.2.1,(c.1.1.2.2.1,c.1.1.2.2.2))),c.1.2) (f.1,(f.2.1,f.2.2)) d e).bind λg=>
 let i:=(Int.ofNat (List.length g))
 cond (decide (i>16384)) (
 some (([]:ae),5)) (
 some (g,0))) none)
def j3D(f:cV)(i d:Int)(g:af):Option ((cV×Int×Int×af) ⊕ (af)):=
 cond (decide (d<i)) (
 cond (inR d (List.length f)) (
 let b:=(List.getD f (Int.toNat d) ((0,0),0))
 let a:af:=[(b.1.1,b.1.2)]
 cond (decide (List.length g+List.length a<=aQ)) (
 let e:af:=(g++a)
 let c:=(w64 (d+1))
 some (.inl (f,i,c,e))) none) none) (
 some (.inr g))
def Eh[LP](c:cV)(a b:Int)(d:af):Option (af):=
 LP.lp (unc4 (j3D)) (c,a,b,d)
theorem Ve(a c d b):Eh a c d b=lpK (j3D a c d b) (λh=>Eh h.1 h.2.1 h.2.2.1 h.2.2.2):=bK _ _
def jbp[LP](a:cV):Option (af):=
 let c:=(Int.ofNat (List.length a))
 (Eh a c 0 ([]:af)).bind λb=>
 some b
def jcO(a:DM):Option (Bool):=
 some (cond (decide (a.2<1)) true (decide (a.2>8)))
def j0i(e:cV)(f b:Int):Option ((cV×Int×Int) ⊕ (Int ⊕ Unit)):=
 cond (decide (b<f)) (
 cond (inR b (List.length e)) (
 let a:=(List.getD e (Int.toNat b) ((0,0),0))
 (jcO ((a.1.1,a.1.2),a.2)).bind λc=>
 cond c (
 some (.inr (.inl b))) (
 let d:=(w64 (b+1))
 some (.inl (e,f,d)))) none) (
 some (.inr (.inr ())))
def Ei[LP](a:cV)(b c:Int):Option (Int ⊕ Unit):=
 LP.lp (unc3 (j0i)) (a,b,c)
theorem Vf(a b c):Ei a b c=lpK (j0i a b c) (λh=>Ei h.1 h.2.1 h.2.2):=bK _ _
def j1H[LP](a:cV):Option (Int):=
 let c:=(Int.ofNat (List.length a))
 (Ei a c 0).bind λb=>
 sumC b (λd=>
 some d) (λe=>
 some (-1))
def j0K[LP](a:cV):Option (Bool):=
 (j1H a).bind λb=>
 some (decide (b>=0))
def jex[LP](a:cV):Option (Int):=
 (jbp a).bind λd=>
 (jam d).bind λb=>
 cond (b != 0) (
 some b) (
 (j0K a).bind λc=>
 cond c (
 some 1) (
 some 0))
def j2M(j:Int)(i:ae)(k b:Int)(g:af):Option ((Int×ae×Int×Int×af) ⊕ (af)):=
 cond (decide (b<k)) (
 cond (inR b (List.length i)) (
 let a:=(List.getD i (Int.toNat b) (0,(0,0)))
 cond (a.2.2==j) (
 let c:af:=[(a.1,a.2.1)]
 cond (decide (List.length g+List.length c<=aQ)) (
 let d:af:=(g++c)
 let e:=(w64 (b+1))
 some (.inl (j,i,k,e,d))) none) (
 let f:=(w64 (b+1))
 some (.inl (j,i,k,f,g)))) none) (
 some (.inr g))
def Ej[LP](b:Int)(d:ae)(e a:Int)(c:af):Option (af):=
 LP.lp (unc5 (j2M)) (b,d,e,a,c)
theorem Vg(b d e a c):Ej b d e a c=lpK (j2M b d e a c) (λh=>Ej h.1 h.2.1 h.2.2.1 h.2.2.2.1 h.2.2.2.2):=bK _ _
def j7d[LP](b:ae)(a:Int):Option (af):=
 let d:=(Int.ofNat (List.length b))
 (Ej a b d 0 ([]:af)).bind λe=>
 (j7J e).bind λc=>
 some c
def j47(g:Int)(f:af)(i e:Int):Option ((Int×af×Int×Int) ⊕ (Int)):=
 cond (decide (e<i)) (
 cond (inR e (List.length f)) (
 let a:=(List.getD f (Int.toNat e) (0,0))
 let d:=(w64 (a.2-a.1))
 let b:=(w64 (g+d))
 let c:=(w64 (e+1))
 some (.inl (b,f,i,c))) none) (
 some (.inr g))
def Ek[LP](d:Int)(c:af)(a b:Int):Option (Int):=
 LP.lp (unc4 (j47)) (d,c,a,b)
theorem Vh(b a c d):Ek b a c d=lpK (j47 b a c d) (λh=>Ek h.1 h.2.1 h.2.2.1 h.2.2.2):=bK _ _
def jcP[LP](a:af):Option (Int):=
 let c:=(Int.ofNat (List.length a))
 (Ek 0 a c 0).bind λb=>
 some b
def j48(m b:Int)(d:cW)(l:ae)(k:(List Int)):Option ((Int×Int×cW×ae×(List Int)) ⊕ ((cW×ae))):=
 cond (decide (b<m)) (
 cond (inR b (List.length k)) (
 let a:=(List.getD k (Int.toNat b) 0)
 let f:Int:=(cR (0,(0,0)) d a).1
 let g:Int:=(cR (0,(0,0)) d a).2.1
 let e:Int:=(cR (0,(0,0)) d a).2.2
 let c:ae:=[(f,(g,e))]
 cond (decide (List.length l+List.length c<=aQ)) (
 let i:ae:=(l++c)
 let j:=(w64 (b+1))
 some (.inl (m,j,d,i,k))) none) none) (
 some (.inr (d,l)))
def El[LP](e a:Int)(b:cW)(d:ae)(c:(List Int)):Option ((cW×ae)):=
 LP.lp (unc5 (j48)) (e,a,b,d,c)
theorem Vi(e a b d c):El e a b d c=lpK (j48 e a b d c) (λh=>El h.1 h.2.1 h.2.2.1 h.2.2.2.1 h.2.2.2.2):=bK _ _
def j8Q[LP](a:cW):Option (ae×cW):=
 cond (BD a) (
 let c:(List Int):=(kH a)
 let d:=(Int.ofNat (List.length c))
 (El d 0 a ([]:ae) c).bind λb=>
 some (b.2,b.1)) none
def j4u(q n:Int)(o:cV)(i d g:Int)(c:af)(e:ae)(b:cW):Option ((Int×Int×cV×Int×Int×Int×af×ae×cW) ⊕ ((Int×Int×cV×Int×af×ae×cW))):=
 cond (decide (d<i)) (
 cond (inR d (List.length e)) (
 let a:=(List.getD e (Int.toNat d) (0,(0,0)))
 cond (decide (a.2.2>=0)) (
 let s:Int:=(cR (0,(0,0)) b a.2.2).1
 let j:Int:=(cR (0,(0,0)) b a.2.2).2.1
 let r:Int:=(cR (0,(0,0)) b a.2.2).2.2
 let m:=(w64 (j+a.2.1))
 let f:=(w64 (m-a.1))
 let p:cW:=(dO b a.2.2 (a.2.2,(f,f)))
 let l:=(w64 (d+1))
 some (.inl (q,n,o,i,l,g,c,e,p))) (
 let k:=(w64 (d+1))
 some (.inl (q,n,o,i,k,g,c,e,b)))) none) (
 some (.inr (q,n,o,g,c,e,b)))
def Em[LP](j g:Int)(i:cV)(c d b:Int)(a:af)(e:ae)(f:cW):Option ((Int×Int×cV×Int×af×ae×cW)):=
 LP.lp (unc9 (j4u)) (j,g,i,c,d,b,a,e,f)
theorem Vj(j g i c d b a e f):Em j g i c d b a e f=lpK (j4u j g i c d b a e f) (λh=>Em h.1 h.2.1 h.2.2.1 h.2.2.2.1 h.2.2.2.2.1 h.2.2.2.2.2.1 h.2.2.2.2.2.2.1 h.2.2.2.2.2.2.2.1 h.2.2.2.2.2.2.2.2):=bK _ _
def jaa[LP](x w:Int)(p:cV)(u t s:Int)(n:af)(q m b:Int)(l:ae)(k:af)(v:cW)(i:Int)(a:pj){r:Type}(o:pj->Option r):Option r:=
 let d:=(w64 (b-1))
 (j7d l i).bind λj=>
 (j7w j k).bind λc=>
 (jcP c).bind λf=>
 let g:=(w64 (d*f))
 let e:=(w64 (a.2.2+g))
 o (a.1,(a.2.1,e))
def j4v[LP](q o:Int)(d:cV)(l c f:Int)(b:af)(n:ae)(k:cW):Option ((Int×Int×cV×Int×Int×Int×af×ae×cW) ⊕ (cW)):=
 cond (decide (c<l)) (
 cond (inR c (List.length d)) (
 let a:=(List.getD d (Int.toNat c) ((0,0),0))
 let g:af:=[(a.1.1,a.1.2)]
 (j33 (f,b) g q o).bind λm=>
 (pI (λ(e:Int)(i:pj)=>jaa q o d l c f b a.1.1 a.1.2 a.2 n m k e i some) k).bind λp=>
 let j:=(w64 (c+1))
 some (.inl (q,o,d,l,j,f,b,n,p))) none) (
 some (.inr k))
def En[LP](j i:Int)(d:cV)(e g b:Int)(a:af)(f:ae)(c:cW):Option (cW):=
 LP.lp (unc9 (j4v)) (j,i,d,e,g,b,a,f,c)
theorem Vk(j i d e g b a f c):En j i d e g b a f c=lpK (j4v j i d e g b a f c) (λh=>En h.1 h.2.1 h.2.2.1 h.2.2.2.1 h.2.2.2.2.1 h.2.2.2.2.2.1 h.2.2.2.2.2.2.1 h.2.2.2.2.2.2.2.1 h.2.2.2.2.2.2.2.2):=bK _ _
def j6F[LP](a:fw)(c d f b:Int)(j:cV):Option (ae×Int):=
 (j46 (a.1,(a.2.1,(a.2.2.1,a.2.2.2))) c d f).bind λg=>
 cond (g.2 != 0) (
 some (([]:ae),g.2)) (
 let o:=(Int.ofNat (List.length a.1))
 cond (cond (decide (b<0)) true (decide (b>=o))) (
 some (([]:ae),3)) (
 (jex j).bind λp=>
 cond (p != 0) (
 some (([]:ae),8)) (
 cond (inR b (List.length a.1)) (
 let i:=(List.getD a.1 (Int.toNat b) (ByteArray.empty,(0,([]:bn))))
 (jfd (i.1,(i.2.1,i.2.2))).bind λk=>
 let q:cW:=([]:cW)
 let n:=(Int.ofNat (List.length g.1))
 (Em d f j n 0 k.1.1 k.1.2 g.1 q).bind λe=>
 let m:=(Int.ofNat (List.length e.2.2.1))
 (En e.1 e.2.1 e.2.2.1 m 0 e.2.2.2.1 e.2.2.2.2.1 e.2.2.2.2.2.1 e.2.2.2.2.2.2).bind λr=>
 (j8Q r).bind λl=>
 some (l.1,0)) none)))
def j0j(i:gS)(j:Int)(g:gS)(f a:Int):Option ((gS×Int×gS×Int×Int) ⊕ ((gS×Int))):=
 cond (decide (a<f)) (
 cond (inR a (List.length g)) (
 let c:=(List.getD g (Int.toNat a) ([]:ae))
 let e:=(Int.ofNat (List.length c))
 let b:=(w64 (j+e))
 cond (decide (b<0)) (
 none) (
 let d:=(w64 (a+1))
 some (.inl (i,b,g,f,d)))) none) (
 some (.inr (i,j)))
def Eo[LP](c:gS)(d:Int)(e:gS)(a b:Int):Option ((gS×Int)):=
 LP.lp (unc5 (j0j)) (c,d,e,a,b)
theorem My(c d e a b):Eo c d e a b=lpK (j0j c d e a b) (λh=>Eo h.1 h.2.1 h.2.2.1 h.2.2.2.1 h.2.2.2.2):=bK _ _
def j0k(c:gS)(f b:Int)(g:ae):Option ((gS×Int×Int×ae) ⊕ (ae)):=
 cond (decide (b<f)) (
 cond (inR b (List.length c)) (
 let a:=(List.getD c (Int.toNat b) ([]:ae))
 cond (decide (List.length g+List.length a<=aQ)) (
 let e:ae:=(g++a)
 let d:=(w64 (b+1))
 some (.inl (c,f,d,e))) none) none) (
 some (.inr g))
def Ep[LP](a:gS)(b c:Int)(d:ae):Option (ae):=
 LP.lp (unc4 (j0k)) (a,b,c,d)
theorem Mz(b a c d):Ep b a c d=lpK (j0k b a c d) (λh=>Ep h.1 h.2.1 h.2.2.1 h.2.2.2):=bK _ _
def j1I[LP](a:gS):Option (ae):=
 let c:=(Int.ofNat (List.length a))
 (Eo a 0 a c 0).bind λb=>
 cond (decide (0<=b.2)&&decide (b.2<=1000000)) (
 let d:ae:=([]:ae)
 let e:=(Int.ofNat (List.length b.1))
 (Ep b.1 e 0 d).bind λf=>
 some f) none
def j5c(m b:Int)(d:cW)(e:ae):Option ((Int×Int×cW×ae) ⊕ (Int ⊕ cW)):=
 cond (decide (b<m)) (
 cond (inR b (List.length e)) (
 let a:=(List.getD e (Int.toNat b) (0,(0,0)))
 let n:Int:=(cR (0,(0,0)) d a.1).1
 let c:Int:=(cR (0,(0,0)) d a.1).2.1
 let g:Int:=(cR (0,(0,0)) d a.1).2.2
 let i:=(w64 (c+a.2.1))
 cond (decide (i>8589934592)) (
 some (.inr (.inl 5))) (
 let j:=(w64 (c+a.2.1))
 let l:=(w64 (g+a.2.2))
 let k:cW:=(dO d a.1 (a.1,(j,l)))
 let f:=(w64 (b+1))
 some (.inl (m,f,k,e)))) none) (
 some (.inr (.inr d)))
def Er[LP](b c:Int)(d:cW)(a:ae):Option (Int ⊕ cW):=
 LP.lp (unc4 (j5c)) (b,c,d,a)
theorem Vl(c a d b):Er c a d b=lpK (j5c c a d b) (λh=>Er h.1 h.2.1 h.2.2.1 h.2.2.2):=bK _ _
def je4[LP](a b:ae):Option (ae×Int):=
 (j4j a).bind λg=>
 cond (!g) (
 some (([]:ae),8)) (
 (j4j b).bind λe=>
 cond (!e) (
 some (([]:ae),8)) (
 let i:cW:=([]:cW)
 let d:gS:=[a,b]
 (j1I d).bind λc=>
 let f:=(Int.ofNat (List.length c))
 (Er f 0 i c).bind λk=>
 sumC k (λm=>
 some (([]:ae),m)) (λl=>
 (j8Q l).bind λj=>
 some (j.1,0))))
def j4w(f g:ae)(e a:Int):Option ((ae×ae×Int×Int) ⊕ (Bool ⊕ Unit)):=
 cond (decide (a<e)) (
 cond (inR a (List.length f)) (
 let b:=(List.getD f (Int.toNat a) (0,(0,0)))
 cond (inR a (List.length g)) (
 let c:=(List.getD g (Int.toNat a) (0,(0,0)))
 cond (!((b.1==c.1)&&((b.2.1==c.2.1)&&(b.2.2==c.2.2)))) (
 some (.inr (.inl false))) (
 let d:=(w64 (a+1))
 some (.inl (f,g,e,d)))) none) none) (
 some (.inr (.inr ())))
def Es[LP](c d:ae)(a b:Int):Option (Bool ⊕ Unit):=
 LP.lp (unc4 (j4w)) (c,d,a,b)
theorem Vm(c d b a):Es c d b a=lpK (j4w c d b a) (λh=>Es h.1 h.2.1 h.2.2.1 h.2.2.2):=bK _ _
def jcg[LP](a b:ae):Option (Bool):=
 let f:=(Int.ofNat (List.length a))
 let d:=(Int.ofNat (List.length b))
 cond (f != d) (
 some false) (
 let c:=(Int.ofNat (List.length a))
 (Es a b c 0).bind λe=>
 sumC e (λg=>
 some g) (λi=>
 some true))
def j8b[LP](i:(List Int))(p q:Int):Option (Bool):=
 (jh5 i).bind λu=>
 cond (!u) (
 (j8M).bind λy=>
 some y) (
 (jjg i).bind λl=>
 (j5F l.1 l.2 1).bind λa=>
 (j4Z a.2.1 a.2.2).bind λc=>
 (jgb p 432000).bind λx=>
 let d:=(w64 (c.1+x))
 (jgb q 432000).bind λw=>
 let n:=(w64 (d+w))
 let v:=(Int.ofNat (List.length a.1.1))
 (j04 c.2.1 c.2.2 v).bind λb=>
 (j6y b.2.1 b.2.2).bind λf=>
 (j6F (a.1.1,(a.1.2.1,(a.1.2.2.1,a.1.2.2.2))) 0 c.1 d b.1 f.1).bind λe=>
 (j6F (a.1.1,(a.1.2.1,(a.1.2.2.1,a.1.2.2.2))) 0 d n b.1 f.1).bind λg=>
 (j6F (a.1.1,(a.1.2.1,(a.1.2.2.1,a.1.2.2.2))) 0 c.1 n b.1 f.1).bind λj=>
 (je4 e.1 g.1).bind λm=>
 (je4 g.1 e.1).bind λk=>
 let o:Bool:=(cond (cond (cond (e.2==0) (g.2==0) false) (j.2==0) false) (m.2==0) false)
 cond (cond o (k.2==0) false) (
 (jcg m.1 j.1).bind λr=>
 cond r (
 (jcg k.1 j.1).bind λs=>
 cond s (
 (j8M).bind λt=>
 some t) (
 some false)) (
 some false)) (
 some false))
def jch(a c b:Int):Option (Bool):=
 some (cond (decide (a>=c)) (decide (a<=b)) false)
def je5(a:uy):Option (Bool):=
 (jch a.1 1970 2240).bind λi=>
 cond i (
 (jch a.2.1 a.1 2240).bind λe=>
 cond e (
 (jch a.2.2.1 1 12).bind λg=>
 cond g (
 (jch a.2.2.2.1 1 5).bind λb=>
 cond b (
 (jch a.2.2.2.2.1 0 6).bind λd=>
 cond d (
 (jch a.2.2.2.2.2.1 0 86399).bind λc=>
 cond c (
 (jch a.2.2.2.2.2.2 (-64800) 64800).bind λf=>
 some f) (
 some false)) (
 some false)) (
 some false)) (
 some false)) (
 some false)) (
 some false)
def j1k(a:Int):Option (Bool):=
 let d:=(Int.tmod a 4)
 let c:=(Int.tmod a 100)
 let b:=(Int.tmod a 400)
 some (cond (d==0) (cond (c != 0) true (b==0)) false)
def jcQ(b a:Int):Option (Int):=
 cond (a==1) (
 cond (a==1) (
 some 31) (
 cond (a==4) (
 cond (a==4) (
 some 30) (
 cond (a==2) (
 (j1k b).bind λa4=>
 cond a4 (
 some 29) (
 some 28)) (
 some 0))) (
 cond (a==6) (
 cond (a==6) (
 some 30) (
 cond (a==2) (
 (j1k b).bind λa1=>
 cond a1 (
 some 29) (
 some 28)) (
 some 0))) (
 cond (a==9) (
 cond (a==9) (
 some 30) (
 cond (a==2) (
 (j1k b).bind λw=>
 cond w (
 some 29) (
 some 28)) (
 some 0))) (
 cond (a==11) (
 some 30) (
 cond (a==2) (
 (j1k b).bind λy=>
 cond y (
 some 29) (
 some 28)) (
 some 0))))))) (
 cond (a==3) (
 cond (a==3) (
 some 31) (
 cond (a==4) (
 cond (a==4) (
 some 30) (
 cond (a==2) (
 (j1k b).bind λv=>
 cond v (
 some 29) (
 some 28)) (
 some 0))) (
 cond (a==6) (
 cond (a==6) (
 some 30) (
 cond (a==2) (
 (j1k b).bind λa0=>
 cond a0 (
 some 29) (
 some 28)) (
 some 0))) (
 cond (a==9) (
 cond (a==9) (
 some 30) (
 cond (a==2) (
 (j1k b).bind λx=>
 cond x (
 some 29) (
 some 28)) (
 some 0))) (
 cond (a==11) (
 some 30) (
 cond (a==2) (
 (j1k b).bind λa2=>
 cond a2 (
 some 29) (
 some 28)) (
 some 0))))))) (
 cond (a==5) (
 cond (a==5) (
 some 31) (
 cond (a==4) (
 cond (a==4) (
 some 30) (
 cond (a==2) (
 (j1k b).bind λa3=>
 cond a3 (
 some 29) (
 some 28)) (
 some 0))) (
 cond (a==6) (
 cond (a==6) (
 some 30) (
 cond (a==2) (
 (j1k b).bind λz=>
 cond z (
 some 29) (
 some 28)) (
 some 0))) (
 cond (a==9) (
 cond (a==9) (
 some 30) (
 cond (a==2) (
 (j1k b).bind λf=>
 cond f (
 some 29) (
 some 28)) (
 some 0))) (
 cond (a==11) (
 some 30) (
 cond (a==2) (
 (j1k b).bind λc=>
 cond c (
 some 29) (
 some 28)) (
 some 0))))))) (
 cond (a==7) (
 cond (a==7) (
 some 31) (
 cond (a==4) (
 cond (a==4) (
 some 30) (
 cond (a==2) (
 (j1k b).bind λs=>
 cond s (
 some 29) (
 some 28)) (
 some 0))) (
 cond (a==6) (
 cond (a==6) (
 some 30) (
 cond (a==2) (
 (j1k b).bind λj=>
 cond j (
 some 29) (
 some 28)) (
 some 0))) (
 cond (a==9) (
 cond (a==9) (
 some 30) (
 cond (a==2) (
 (j1k b).bind λi=>
 cond i (
 some 29) (
 some 28)) (
 some 0))) (
 cond (a==11) (
 some 30) (
 cond (a==2) (
 (j1k b).bind λp=>
 cond p (
 some 29) (
 some 28)) (
 some 0))))))) (
 cond (a==8) (
 cond (a==8) (
 some 31) (
 cond (a==4) (
 cond (a==4) (
 some 30) (
 cond (a==2) (
 (j1k b).bind λk=>
 cond k (
 some 29) (
 some 28)) (
 some 0))) (
 cond (a==6) (
 cond (a==6) (
 some 30) (
 cond (a==2) (
 (j1k b).bind λe=>
 cond e (
 some 29) (
 some 28)) (
 some 0))) (
 cond (a==9) (
 cond (a==9) (
 some 30) (
 cond (a==2) (
 (j1k b).bind λq=>
 cond q (
 some 29) (
 some 28)) (
 some 0))) (
 cond (a==11) (
 some 30) (
 cond (a==2) (
 (j1k b).bind λu=>
 cond u (
 some 29) (
 some 28)) (
 some 0))))))) (
 cond (a==10) (
 cond (a==10) (
 some 31) (
 cond (a==4) (
 cond (a==4) (
 some 30) (
 cond (a==2) (
 (j1k b).bind λl=>
 cond l (
 some 29) (
 some 28)) (
 some 0))) (
 cond (a==6) (
 cond (a==6) (
 some 30) (
 cond (a==2) (
 (j1k b).bind λm=>
 cond m (
 some 29) (
 some 28)) (
 some 0))) (
 cond (a==9) (
 cond (a==9) (
 some 30) (
 cond (a==2) (
 (j1k b).bind λd=>
 cond d (
 some 29) (
 some 28)) (
 some 0))) (
 cond (a==11) (
 some 30) (
 cond (a==2) (
 (j1k b).bind λg=>
 cond g (
 some 29) (
 some 28)) (
 some 0))))))) (
 cond (a==12) (
 some 31) (
 cond (a==4) (
 cond (a==4) (
 some 30) (
 cond (a==2) (
 (j1k b).bind λo=>
 cond o (
 some 29) (
 some 28)) (
 some 0))) (
 cond (a==6) (
 cond (a==6) (
 some 30) (
 cond (a==2) (
 (j1k b).bind λt=>
 cond t (
 some 29) (
 some 28)) (
 some 0))) (
 cond (a==9) (
 cond (a==9) (
 some 30) (
 cond (a==2) (
 (j1k b).bind λn=>
 cond n (
 some 29) (
 some 28)) (
 some 0))) (
 cond (a==11) (
 some 30) (
 cond (a==2) (
 (j1k b).bind λr=>
 cond r (
 some 29) (
 some 28)) (
 some 0))))))))))))
def jgh(a:pj):Option (Bool):=
 cond (decide (a.1>=1970)) (
 cond (decide (a.1<=2240)) (
 cond (decide (a.2.1>=1)) (
 cond (decide (a.2.1<=12)) (
 cond (decide (a.2.2>=1)) (
 (jcQ a.1 a.2.1).bind λb=>
 some (decide (a.2.2<=b))) (
 some false)) (
 some false)) (
 some false)) (
 some false)) (
 some false)
def jil(a:Int):Option (Int):=
 let k:=(w64 (a-1970))
 let l:=(w64 (k*365))
 let m:=(w64 (a-1969))
 let j:=(w64 (Int.tdiv m 4))
 let i:=(w64 (l+j))
 let d:=(w64 (a-1901))
 let g:=(w64 (Int.tdiv d 100))
 let b:=(w64 (i-g))
 let e:=(w64 (a-1601))
 let c:=(w64 (Int.tdiv e 400))
 let f:=(w64 (b+c))
 some f
def j6k(i g f a b:Int):Option ((Int×Int×Int×Int×Int) ⊕ ((Int×Int×Int×Int))):=
 cond (decide (g<a)) (
 (jcQ f g).bind λc=>
 let e:=(w64 (i+c))
 let d:=(w64 (g+1))
 some (.inl (e,d,f,a,b))) (
 some (.inr (i,f,a,b)))
def HP[LP](e d c a b:Int):Option ((Int×Int×Int×Int)):=
 LP.lp (unc5 (j6k)) (e,d,c,a,b)
theorem Vn(e d c a b):HP e d c a b=lpK (j6k e d c a b) (λh=>HP h.1 h.2.1 h.2.2.1 h.2.2.2.1 h.2.2.2.2):=bK _ _
def jma[LP](a:pj):Option (Int×Int):=
 (jgh (a.1,(a.2.1,a.2.2))).bind λf=>
 cond (!f) (
 some (0,1)) (
 (jil a.1).bind λd=>
 (HP d 1 a.1 a.2.1 a.2.2).bind λc=>
 let e:=(w64 (c.1+c.2.2.2))
 let b:=(w64 (e-1))
 some (b,0))
def jfj(a:Int):Option (Int):=
 let c:=(Int.tmod a 7)
 let b:=(w64 (c+10))
 let d:=(Int.tmod b 7)
 some d
def j6l(e g i f d a:Int):Option ((Int×Int×Int×Int×Int×Int) ⊕ ((Int×Int×Int×Int×Int))):=
 (jfj a).bind λc=>
 cond (c != f) (
 let b:=(w64 (a+1))
 some (.inl (e,g,i,f,d,b))) (
 some (.inr (e,g,i,d,a)))
def HQ[LP](c e f d a b:Int):Option ((Int×Int×Int×Int×Int)):=
 LP.lp (unc6 (j6l)) (c,e,f,d,a,b)
theorem Vo(c e f d a b):HQ c e f d a b=lpK (j6l c e f d a b) (λh=>HQ h.1 h.2.1 h.2.2.1 h.2.2.2.1 h.2.2.2.2.1 h.2.2.2.2.2):=bK _ _
def j6m(g i f a:Int):Option ((Int×Int×Int×Int) ⊕ (Int)):=
 let c:=(w64 (a+7))
 (jcQ g i).bind λd=>
 let e:=(w64 (f+d))
 cond (decide (c<e)) (
 let b:=(w64 (a+7))
 some (.inl (g,i,f,b))) (
 some (.inr a))
def HR[LP](c d b a:Int):Option (Int):=
 LP.lp (unc4 (j6m)) (c,d,b,a)
theorem Vp(c d a b):HR c d a b=lpK (j6m c d a b) (λh=>HR h.1 h.2.1 h.2.2.1 h.2.2.2):=bK _ _
def jmb[LP](e c b a:Int):Option (Int×Int):=
 (jma (e,(c,1))).bind λf=>
 let k:Bool:=(cond (cond (f.2 != 0) true (decide (b<1))) true (decide (b>5)))
 let j:Bool:=(cond (cond k true (decide (a<0))) true (decide (a>6)))
 cond j (
 some (0,1)) (
 (HQ e c b a f.1 f.1).bind λd=>
 cond (decide (d.2.2.1<5)) (
 let l:=(w64 (d.2.2.1-1))
 let g:=(w64 (7*l))
 let i:=(w64 (d.2.2.2.2+g))
 some (i,0)) (
 (HR d.1 d.2.1 d.2.2.2.1 d.2.2.2.2).bind λm=>
 some (m,0)))
def j2z(i:bn)(k j d e a:Int)(c:af):Option ((bn×Int×Int×Int×Int×Int×af) ⊕ ((bn×Int×Int×Int×Int×Int×af))):=
 cond (decide (d>0)) (
 let b:=(w64 (d-1))
 cond (inR b (List.length c)) (
 let g:=(List.getD c (Int.toNat b) (0,0)).1
 cond (decide (g>e)) (
 let f:=(w64 (d-1))
 some (.inl (i,k,j,f,e,a,c))) (
 some (.inr (i,k,j,d,e,a,c)))) none) (
 some (.inr (i,k,j,d,e,a,c)))
def Et[LP](b:bn)(g e f c a:Int)(d:af):Option ((bn×Int×Int×Int×Int×Int×af)):=
 LP.lp (unc7 (j2z)) (b,g,e,f,c,a,d)
theorem Vq(b g e f c a d):Et b g e f c a d=lpK (j2z b g e f c a d) (λh=>Et h.1 h.2.1 h.2.2.1 h.2.2.2.1 h.2.2.2.2.1 h.2.2.2.2.2.1 h.2.2.2.2.2.2):=bK _ _
def j2A[LP](d:bn)(c v:Int)(t:af):Option ((bn×Int×Int×af) ⊕ ((bn×Int×af))):=
 cond (inR c (List.length d)) (
 let s:=(List.getD d (Int.toNat c) (0,(0,(0,(0,(0,(0,0)))))))
 cond (decide (v<=s.2.1)) (
 cond (inR c (List.length d)) (
 let p:=(List.getD d (Int.toNat c) (0,(0,(0,(0,(0,(0,0)))))))
 cond (inR c (List.length d)) (
 let j:=(List.getD d (Int.toNat c) (0,(0,(0,(0,(0,(0,0)))))))
 cond (inR c (List.length d)) (
 let o:=(List.getD d (Int.toNat c) (0,(0,(0,(0,(0,(0,0)))))))
 (jmb v p.2.2.1 j.2.2.2.1 o.2.2.2.2.1).bind λr=>
 let q:=(w64 (r.1*86400))
 cond (inR c (List.length d)) (
 let n:=(List.getD d (Int.toNat c) (0,(0,(0,(0,(0,(0,0)))))))
 let k:=(w64 (q+n.2.2.2.2.2.1))
 cond (inR c (List.length d)) (
 let m:=(List.getD d (Int.toNat c) (0,(0,(0,(0,(0,(0,0)))))))
 let l:=(Int.ofNat (List.length t))
 (Et d c v l k m.2.2.2.2.2.2 t).bind λa=>
 let g:af:=[(a.2.2.2.2.1,a.2.2.2.2.2.1)]
 cond (decide (List.length a.2.2.2.2.2.2+List.length g<=aQ)) (
 let b:af:=(a.2.2.2.2.2.2++g)
 let e:=(w64 (a.2.2.2.1+1))
 cond (decide (0<=e)&&decide (e<=(Int.ofNat (List.length b)))) (
 cond (decide (0<=a.2.2.2.1)&&decide (a.2.2.2.1<=(Int.ofNat (List.length b)))) (
 let f:af:=(over b (Int.toNat e) (List.drop (Int.toNat a.2.2.2.1) b))
 let w:=(Int.ofNat (min (List.length (List.drop (Int.toNat a.2.2.2.1) b)) (List.length b-(Int.toNat e))))
 cond (inR a.2.2.2.1 (List.length f)) (
 let u:af:=(List.set f (Int.toNat a.2.2.2.1) (a.2.2.2.2.1,a.2.2.2.2.2.1))
 let i:=(w64 (a.2.2.1+1))
 some (.inl (a.1,a.2.1,i,u))) none) none) none) none) none) none) none) none) none) (
 some (.inr (d,c,t)))) none
def HS[LP](a:bn)(b d:Int)(c:af):Option ((bn×Int×af)):=
 LP.lp (unc4 (j2A)) (a,b,d,c)
theorem Vr(a d c b):HS a d c b=lpK (j2A a d c b) (λh=>HS h.1 h.2.1 h.2.2.1 h.2.2.2):=bK _ _
def j2B[LP](b:bn)(f:Int)(g:af):Option ((bn×Int×af) ⊕ (af)):=
 let d:=(Int.ofNat (List.length b))
 cond (decide (f<d)) (
 cond (inR f (List.length b)) (
 let e:=(List.getD b (Int.toNat f) (0,(0,(0,(0,(0,(0,0)))))))
 (HS b f e.1 g).bind λa=>
 let c:=(w64 (a.2.1+1))
 some (.inl (a.1,c,a.2.2))) none) (
 some (.inr g))
def Eu[LP](a:bn)(b:Int)(c:af):Option (af):=
 LP.lp (unc3 (j2B)) (a,b,c)
theorem Vs(a b c):Eu a b c=lpK (j2B a b c) (λh=>Eu h.1 h.2.1 h.2.2):=bK _ _
def j8c[LP](a:bn):Option (af):=
 (Eu a 0 ([]:af)).bind λb=>
 some b
def j2C(o c:Int)(n:ByteArray)(d:Int)(a:bn):Option ((Int×Int×ByteArray×Int×bn) ⊕ (Int ⊕ (Int×ByteArray×Int×bn))):=
 let i:=(Int.ofNat (List.length a))
 cond (decide (c<i)) (
 cond (inR c (List.length a)) (
 let b:=(List.getD a (Int.toNat c) (0,(0,(0,(0,(0,(0,0)))))))
 (je5 (b.1,(b.2.1,(b.2.2.1,(b.2.2.2.1,(b.2.2.2.2.1,(b.2.2.2.2.2.1,b.2.2.2.2.2.2))))))).bind λm=>
 cond (!m) (
 some (.inr (.inl 1))) (
 cond (inR c (List.length a)) (
 let j:=(List.getD a (Int.toNat c) (0,(0,(0,(0,(0,(0,0)))))))
 cond (inR c (List.length a)) (
 let f:=(List.getD a (Int.toNat c) (0,(0,(0,(0,(0,(0,0)))))))
 let e:=(w64 (j.2.1-f.1))
 let k:=(w64 (e+1))
 let g:=(w64 (o+k))
 let l:=(w64 (c+1))
 some (.inl (g,l,n,d,a))) none) none)) none) (
 some (.inr (.inr (o,n,d,a))))
def Ev[LP](e d:Int)(c:ByteArray)(a:Int)(b:bn):Option (Int ⊕ (Int×ByteArray×Int×bn)):=
 LP.lp (unc5 (j2C)) (e,d,c,a,b)
theorem Vt(e d c a b):Ev e d c a b=lpK (j2C e d c a b) (λh=>Ev h.1 h.2.1 h.2.2.1 h.2.2.2.1 h.2.2.2.2):=bK _ _
def j2D(s d:Int)(c e:af):Option ((Int×Int×af×af) ⊕ (Int ⊕ af)):=
 let r:=(Int.ofNat (List.length e))
 cond (decide (d<r)) (
 cond (inR d (List.length e)) (
 let o:=(List.getD e (Int.toNat d) (0,0)).2
 cond (o==s) (
 let q:=(w64 (d+1))
 some (.inl (s,q,c,e))) (
 cond (inR d (List.length e)) (
 let v:=(List.getD e (Int.toNat d) (0,0)).1
 let b:=(w64 (v-s))
 cond (inR d (List.length e)) (
 let a:=(List.getD e (Int.toNat d) (0,0)).2
 let x:=(w64 (a-s))
 (jch x (-86399) 86399).bind λu=>
 cond (!u) (
 some (.inr (.inl 6))) (
 (jch b 0 8589934592).bind λt=>
 cond (!t) (
 some (.inr (.inl 6))) (
 let p:=(Int.ofNat (List.length c))
 cond (decide (p>0)) (
 let m:=(Int.ofNat (List.length c))
 let f:=(w64 (m-1))
 cond (inR f (List.length c)) (
 let j:=(List.getD c (Int.toNat f) (0,0)).1
 let k:=(w64 (b-j))
 cond (decide (k<604800)) (
 some (.inr (.inl 6))) (
 let i:af:=[(b,a)]
 cond (decide (List.length c+List.length i<=aQ)) (
 let l:af:=(c++i)
 let y:=(w64 (d+1))
 some (.inl (a,y,l,e))) none)) none) (
 let g:af:=[(b,a)]
 cond (decide (List.length c+List.length g<=aQ)) (
 let n:af:=(c++g)
 let w:=(w64 (d+1))
 some (.inl (a,w,n,e))) none)))) none) none)) none) (
 some (.inr (.inr c)))
def Ew[LP](b c:Int)(a d:af):Option (Int ⊕ af):=
 LP.lp (unc4 (j2D)) (b,c,a,d)
theorem Vu(b c a d):Ew b c a d=lpK (j2D b c a d) (λh=>Ew h.1 h.2.1 h.2.2.1 h.2.2.2):=bK _ _
def j8d[LP](a:la):Option (af×Int):=
 (jch a.2.1 (-64800) 64800).bind λe=>
 cond (!e) (
 some (([]:af),1)) (
 let d:=(Int.ofNat (List.length a.2.2))
 cond (decide (d>16)) (
 some (([]:af),5)) (
 (Ev 0 0 a.1 a.2.1 a.2.2).bind λi=>
 sumC i (λk=>
 some (([]:af),k)) (λg=>
 cond (decide (g.1>640)) (
 some (([]:af),5)) (
 (j8c g.2.2.2).bind λb=>
 (Ew g.2.2.1 0 ([]:af) b).bind λj=>
 sumC j (λf=>
 some (([]:af),f)) (λc=>
 some (c,0))))))
def j5x(a:(Int×Int)):Option (Int):=
 (j5s a.1).bind λc=>
 let d:=(w64 (c*86400))
 let b:=(w64 (d+a.2))
 some b
end
end Go.Proofs.Pw
