/- Plain functions, printed by a program out of the given code. -/
import Derived.Test.YtpbnnhakjhalaaaGreatEOLD
open Go Go.Lft
set_option linter.unusedVariables false
namespace Go.Proofs.Pw
noncomputable section
abbrev Tn2:Type:=(List (Int×Int))
abbrev Tn4:Type:=(Int×(Int×Int))
abbrev Tn17:Type:=(List Tn4)
abbrev Tn15:Type:=(Int×Tn2)
abbrev Tn22:Type:=(ByteArray×(Int×(List Int)))
abbrev Tn23:Type:=(List Tn15)
abbrev Tn28:Type:=(Int×(Int×Tn4))
abbrev Tn30:Type:=(List Tn22)
abbrev Tn34:Type:=(List Tn28)
abbrev Tn43:Type:=(Int×(Int×Tn28))
abbrev Tn47:Type:=(List Tn43)
abbrev Tn49:Type:=(ByteArray×(Int×(Tn2×(Int×(Int×Bool)))))
abbrev Tn53:Type:=(List Tn49)
abbrev Tn57:Type:=(ByteArray×(Int×Tn47))
abbrev Tn59:Type:=(List Tn57)
abbrev Tn64:Type:=(ByteArray×(Int×((Int×Int)×(Int×(Int×((List Int)×(Tn2×(Int×Int))))))))
abbrev Tn65:Type:=(List Tn64)
abbrev Tn69:Type:=(ByteArray×(Tn65×Tn34))
abbrev Tn70:Type:=(List Tn69)
abbrev Tn76:Type:=(Tn59×(Tn53×(Tn30×Tn70)))
abbrev Tn78:Type:=(Tn76×Tn23)
abbrev unc2 {A0 A1 R:Type} (f:A0→A1→R) (h:A0×A1):R:=f h.1 h.2
abbrev unc3 {A0 A1 A2 R:Type} (f:A0→A1→A2→R) (h:A0×A1×A2):R:=f h.1 h.2.1 h.2.2
abbrev unc4 {A0 A1 A2 A3 R:Type} (f:A0→A1→A2→A3→R) (h:A0×A1×A2×A3):R:=f h.1 h.2.1 h.2.2.1 h.2.2.2
abbrev unc5 {A0 A1 A2 A3 A4 R:Type} (f:A0→A1→A2→A3→A4→R) (h:A0×A1×A2×A3×A4):R:=f h.1 h.2.1 h.2.2.1 h.2.2.2.1 h.2.2.2.2
abbrev unc6 {A0 A1 A2 A3 A4 A5 R:Type} (f:A0→A1→A2→A3→A4→A5→R) (h:A0×A1×A2×A3×A4×A5):R:=f h.1 h.2.1 h.2.2.1 h.2.2.2.1 h.2.2.2.2.1 h.2.2.2.2.2
abbrev unc7 {A0 A1 A2 A3 A4 A5 A6 R:Type} (f:A0→A1→A2→A3→A4→A5→A6→R) (h:A0×A1×A2×A3×A4×A5×A6):R:=f h.1 h.2.1 h.2.2.1 h.2.2.2.1 h.2.2.2.2.1 h.2.2.2.2.2.1 h.2.2.2.2.2.2
abbrev unc8 {A0 A1 A2 A3 A4 A5 A6 A7 R:Type} (f:A0→A1→A2→A3→A4→A5→A6→A7→R) (h:A0×A1×A2×A3×A4×A5×A6×A7):R:=f h.1 h.2.1 h.2.2.1 h.2.2.2.1 h.2.2.2.2.1 h.2.2.2.2.2.1 h.2.2.2.2.2.2.1 h.2.2.2.2.2.2.2
abbrev unc9 {A0 A1 A2 A3 A4 A5 A6 A7 A8 R:Type} (f:A0→A1→A2→A3→A4→A5→A6→A7→A8→R) (h:A0×A1×A2×A3×A4×A5×A6×A7×A8):R:=f h.1 h.2.1 h.2.2.1 h.2.2.2.1 h.2.2.2.2.1 h.2.2.2.2.2.1 h.2.2.2.2.2.2.1 h.2.2.2.2.2.2.2.1 h.2.2.2.2.2.2.2.2
abbrev jjO {A0 A1 A2 A3 A4 A5 A6 A7 A8 A9 R:Type} (f:A0→A1→A2→A3→A4→A5→A6→A7→A8→A9→R) (h:A0×A1×A2×A3×A4×A5×A6×A7×A8×A9):R:=f h.1 h.2.1 h.2.2.1 h.2.2.2.1 h.2.2.2.2.1 h.2.2.2.2.2.1 h.2.2.2.2.2.2.1 h.2.2.2.2.2.2.2.1 h.2.2.2.2.2.2.2.2.1 h.2.2.2.2.2.2.2.2.2
abbrev jn4 {A0 A1 A2 A3 A4 A5 A6 A7 A8 A9 A10 R:Type} (f:A0→A1→A2→A3→A4→A5→A6→A7→A8→A9→A10→R) (h:A0×A1×A2×A3×A4×A5×A6×A7×A8×A9×A10):R:=f h.1 h.2.1 h.2.2.1 h.2.2.2.1 h.2.2.2.2.1 h.2.2.2.2.2.1 h.2.2.2.2.2.2.1 h.2.2.2.2.2.2.2.1 h.2.2.2.2.2.2.2.2.1 h.2.2.2.2.2.2.2.2.2.1 h.2.2.2.2.2.2.2.2.2.2
abbrev jwe {A0 A1 A2 A3 A4 A5 A6 A7 A8 A9 A10 A11 R:Type} (f:A0→A1→A2→A3→A4→A5→A6→A7→A8→A9→A10→A11→R) (h:A0×A1×A2×A3×A4×A5×A6×A7×A8×A9×A10×A11):R:=f h.1 h.2.1 h.2.2.1 h.2.2.2.1 h.2.2.2.2.1 h.2.2.2.2.2.1 h.2.2.2.2.2.2.1 h.2.2.2.2.2.2.2.1 h.2.2.2.2.2.2.2.2.1 h.2.2.2.2.2.2.2.2.2.1 h.2.2.2.2.2.2.2.2.2.2.1 h.2.2.2.2.2.2.2.2.2.2.2
abbrev jwf {A0 A1 A2 A3 A4 A5 A6 A7 A8 A9 A10 A11 A12 R:Type} (f:A0→A1→A2→A3→A4→A5→A6→A7→A8→A9→A10→A11→A12→R) (h:A0×A1×A2×A3×A4×A5×A6×A7×A8×A9×A10×A11×A12):R:=f h.1 h.2.1 h.2.2.1 h.2.2.2.1 h.2.2.2.2.1 h.2.2.2.2.2.1 h.2.2.2.2.2.2.1 h.2.2.2.2.2.2.2.1 h.2.2.2.2.2.2.2.2.1 h.2.2.2.2.2.2.2.2.2.1 h.2.2.2.2.2.2.2.2.2.2.1 h.2.2.2.2.2.2.2.2.2.2.2.1 h.2.2.2.2.2.2.2.2.2.2.2.2
abbrev jtY {A0 A1 A2 A3 A4 A5 A6 A7 A8 A9 A10 A11 A12 A13 R:Type} (f:A0→A1→A2→A3→A4→A5→A6→A7→A8→A9→A10→A11→A12→A13→R) (h:A0×A1×A2×A3×A4×A5×A6×A7×A8×A9×A10×A11×A12×A13):R:=f h.1 h.2.1 h.2.2.1 h.2.2.2.1 h.2.2.2.2.1 h.2.2.2.2.2.1 h.2.2.2.2.2.2.1 h.2.2.2.2.2.2.2.1 h.2.2.2.2.2.2.2.2.1 h.2.2.2.2.2.2.2.2.2.1 h.2.2.2.2.2.2.2.2.2.2.1 h.2.2.2.2.2.2.2.2.2.2.2.1 h.2.2.2.2.2.2.2.2.2.2.2.2.1 h.2.2.2.2.2.2.2.2.2.2.2.2.2
abbrev jtZ {A0 A1 A2 A3 A4 A5 A6 A7 A8 A9 A10 A11 A12 A13 A14 R:Type} (f:A0→A1→A2→A3→A4→A5→A6→A7→A8→A9→A10→A11→A12→A13→A14→R) (h:A0×A1×A2×A3×A4×A5×A6×A7×A8×A9×A10×A11×A12×A13×A14):R:=f h.1 h.2.1 h.2.2.1 h.2.2.2.1 h.2.2.2.2.1 h.2.2.2.2.2.1 h.2.2.2.2.2.2.1 h.2.2.2.2.2.2.2.1 h.2.2.2.2.2.2.2.2.1 h.2.2.2.2.2.2.2.2.2.1 h.2.2.2.2.2.2.2.2.2.2.1 h.2.2.2.2.2.2.2.2.2.2.2.1 h.2.2.2.2.2.2.2.2.2.2.2.2.1 h.2.2.2.2.2.2.2.2.2.2.2.2.2.1 h.2.2.2.2.2.2.2.2.2.2.2.2.2.2
abbrev jwg {A0 A1 A2 A3 A4 A5 A6 A7 A8 A9 A10 A11 A12 A13 A14 A15 R:Type} (f:A0→A1→A2→A3→A4→A5→A6→A7→A8→A9→A10→A11→A12→A13→A14→A15→R) (h:A0×A1×A2×A3×A4×A5×A6×A7×A8×A9×A10×A11×A12×A13×A14×A15):R:=f h.1 h.2.1 h.2.2.1 h.2.2.2.1 h.2.2.2.2.1 h.2.2.2.2.2.1 h.2.2.2.2.2.2.1 h.2.2.2.2.2.2.2.1 h.2.2.2.2.2.2.2.2.1 h.2.2.2.2.2.2.2.2.2.1 h.2.2.2.2.2.2.2.2.2.2.1 h.2.2.2.2.2.2.2.2.2.2.2.1 h.2.2.2.2.2.2.2.2.2.2.2.2.1 h.2.2.2.2.2.2.2.2.2.2.2.2.2.1 h.2.2.2.2.2.2.2.2.2.2.2.2.2.2.1 h.2.2.2.2.2.2.2.2.2.2.2.2.2.2.2
abbrev jwh {A0 A1 A2 A3 A4 A5 A6 A7 A8 A9 A10 A11 A12 A13 A14 A15 A16 A17 R:Type} (f:A0→A1→A2→A3→A4→A5→A6→A7→A8→A9→A10→A11→A12→A13→A14→A15→A16→A17→R) (h:A0×A1×A2×A3×A4×A5×A6×A7×A8×A9×A10×A11×A12×A13×A14×A15×A16×A17):R:=f h.1 h.2.1 h.2.2.1 h.2.2.2.1 h.2.2.2.2.1 h.2.2.2.2.2.1 h.2.2.2.2.2.2.1 h.2.2.2.2.2.2.2.1 h.2.2.2.2.2.2.2.2.1 h.2.2.2.2.2.2.2.2.2.1 h.2.2.2.2.2.2.2.2.2.2.1 h.2.2.2.2.2.2.2.2.2.2.2.1 h.2.2.2.2.2.2.2.2.2.2.2.2.1 h.2.2.2.2.2.2.2.2.2.2.2.2.2.1 h.2.2.2.2.2.2.2.2.2.2.2.2.2.2.1 h.2.2.2.2.2.2.2.2.2.2.2.2.2.2.2.1 h.2.2.2.2.2.2.2.2.2.2.2.2.2.2.2.2.1 h.2.2.2.2.2.2.2.2.2.2.2.2.2.2.2.2.2
abbrev jwi {A0 A1 A2 A3 A4 A5 A6 A7 A8 A9 A10 A11 A12 A13 A14 A15 A16 A17 A18 A19 A20 A21 A22 A23 R:Type} (f:A0→A1→A2→A3→A4→A5→A6→A7→A8→A9→A10→A11→A12→A13→A14→A15→A16→A17→A18→A19→A20→A21→A22→A23→R) (h:A0×A1×A2×A3×A4×A5×A6×A7×A8×A9×A10×A11×A12×A13×A14×A15×A16×A17×A18×A19×A20×A21×A22×A23):R:=f h.1 h.2.1 h.2.2.1 h.2.2.2.1 h.2.2.2.2.1 h.2.2.2.2.2.1 h.2.2.2.2.2.2.1 h.2.2.2.2.2.2.2.1 h.2.2.2.2.2.2.2.2.1 h.2.2.2.2.2.2.2.2.2.1 h.2.2.2.2.2.2.2.2.2.2.1 h.2.2.2.2.2.2.2.2.2.2.2.1 h.2.2.2.2.2.2.2.2.2.2.2.2.1 h.2.2.2.2.2.2.2.2.2.2.2.2.2.1 h.2.2.2.2.2.2.2.2.2.2.2.2.2.2.1 h.2.2.2.2.2.2.2.2.2.2.2.2.2.2.2.1 h.2.2.2.2.2.2.2.2.2.2.2.2.2.2.2.2.1 h.2.2.2.2.2.2.2.2.2.2.2.2.2.2.2.2.2.1 h.2.2.2.2.2.2.2.2.2.2.2.2.2.2.2.2.2.2.1 h.2.2.2.2.2.2.2.2.2.2.2.2.2.2.2.2.2.2.2.1 h.2.2.2.2.2.2.2.2.2.2.2.2.2.2.2.2.2.2.2.2.1 h.2.2.2.2.2.2.2.2.2.2.2.2.2.2.2.2.2.2.2.2.2.1 h.2.2.2.2.2.2.2.2.2.2.2.2.2.2.2.2.2.2.2.2.2.2.1 h.2.2.2.2.2.2.2.2.2.2.2.2.2.2.2.2.2.2.2.2.2.2.2
def jgY (a:(List Int)):Option (Bool):=
 let b:=(Int.ofNat (List.length a))
 some (decide (b≤500))
def jiY  : Option (Tn59×Tn53×Tn30×Tn70):=
 let f:Tn59:=[((ByteArray.mk #[122]),(0,([]:Tn47)))]
 let g:Tn53:=[((ByteArray.mk #[97]),(0,(([]:Tn2),(0,(0,false))))),((ByteArray.mk #[98]),(0,(([]:Tn2),(0,(0,false))))),((ByteArray.mk #[99]),(0,(([]:Tn2),(0,(0,false)))))]
 let c:(List Int):=[0,1]
 let b:(List Int):=[2]
 let e:Tn2:=[(0,86400)]
 let a:Tn65:=[((ByteArray.mk #[108,111,119]),(0,((4,0),(2,(1,(c,(([]:Tn2),(0,0)))))))),((ByteArray.mk #[116,111,112]),(0,((4,0),(2,(1,(b,(e,(0,0))))))))]
 let d:Tn70:=[((ByteArray.mk #[115]),(a,([]:Tn34)))]
 some (f,g,([]:Tn30),d)
def j90 (a:Tn57):Option (ByteArray):=
 some a.1
def j9O (a:Int):Option (Bool):=
 some (cond (decide (a≥97)) (decide (a≤122)) false)
def jf5 (a:Int):Option (Bool):=
 some (cond (decide (a≥48)) (decide (a≤57)) false)
def j5o (g:ByteArray) (c b:Int):Option ((ByteArray×Int×Int) ⊕ (Bool ⊕ Unit)):=
 cond (decide (b<c)) (
 cond (inR b (ByteArray.size g)) (
 let a:=(j2B g b)
 (j9O a).bind fun d=>
 cond (!d) (
 (jf5 a).bind fun f=>
 cond (cond (cond (!f) (a != 95) false) (a != 45) false) (
 some (.inr (.inl false))) (
 let i:=(w64 (b+1))
 some (.inl (g,c,i)))) (
 let e:=(w64 (b+1))
 some (.inl (g,c,e)))) none) (
 some (.inr (.inr ())))
def j4R [LP] (c:ByteArray) (b a:Int):Option (Bool ⊕ Unit):=
 LP.lp (unc3 (j5o)) (c,b,a)
theorem jhC (c b a):j4R c b a=lpK (j5o c b a) (fun h=>j4R h.1 h.2.1 h.2.2):=j05 _ _
def j4s [LP] (a:ByteArray):Option (Bool):=
 let f:=(Int.ofNat (ByteArray.size a))
 let b:Bool:=(cond (ByteArray.toList a==ByteArray.toList ByteArray.empty) true (decide (f>24)))
 cond ((inR 0 (ByteArray.size a)) || !(!b)) (
 let c:=(j2B a 0)
 cond b (
 some false) (
 (j9O c).bind fun d=>
 cond (!d) (
 some false) (
 let e:=(Int.ofNat (ByteArray.size a))
 (j4R a e 0).bind fun g=>
 sumC g (fun i=>
 some i) (fun j=>
 some true)))) none
def j2M [LP] (b:ByteArray) (a:(List (ByteArray×Bool))):Option (Int×(List (ByteArray×Bool))):=
 (j4s b).bind fun c=>
 cond (!c) (
 some (2,a)) (
 cond (jcP false a b) (
 some (4,a)) (
 let d:(List (ByteArray×Bool)):=(jbl a b true)
 some (0,d)))
def j91 (a b c:Int):Option (Bool):=
 some (cond (decide (a≥b)) (decide (a≤c)) false)
def jdz (a:Tn43):Option (Int):=
 (j91 a.1 1970 2240).bind fun i=>
 cond (!i) (
 some 1) (
 (j91 a.2.1 a.1 2240).bind fun f=>
 cond (!f) (
 some 1) (
 (j91 a.2.2.1 1 12).bind fun g=>
 cond (!g) (
 some 1) (
 (j91 a.2.2.2.1 1 5).bind fun e=>
 cond (!e) (
 some 1) (
 (j91 a.2.2.2.2.1 0 6).bind fun c=>
 cond (!c) (
 some 1) (
 (j91 a.2.2.2.2.2.1 0 86399).bind fun b=>
 cond (!b) (
 some 1) (
 (j91 a.2.2.2.2.2.2 (-64800) 64800).bind fun d=>
 cond (!d) (
 some 1) (
 some 0)))))))
def jgZ (a:Int):Option (Bool):=
 let d:=(Int.tmod a 4)
 let c:=(Int.tmod a 100)
 let b:=(Int.tmod a 400)
 some (cond (d==0) (cond (c != 0) true (b==0)) false)
def j66 (c a:Int):Option (Int):=
 cond (cond (decide (a<1)) true (decide (a>12))) (
 some 0) (
 let f:(List Int):=[31,28,31,30,31,30,31,31,30,31,30,31]
 let j:(List Int):=(List.replicate 12 0)
 cond (a==2) (
 (jgZ c).bind fun i=>
 cond i (
 some 29) (
 let e:=(w64 (a-1))
 cond (inR e 12) (
 let g:=(List.getD f (Int.toNat e) 0)
 some g) none)) (
 let b:=(w64 (a-1))
 cond (inR b 12) (
 let d:=(List.getD f (Int.toNat b) 0)
 some d) none))
def j9P (a:Tn4):Option (Bool):=
 cond (decide (a.1≥1970)) (
 cond (decide (a.1≤2240)) (
 cond (decide (a.2.2≥1)) (
 (j66 a.1 a.2.1).bind fun b=>
 some (decide (a.2.2≤b))) (
 some false)) (
 some false)) (
 some false)
def j6O (b a:Int):Option (Int):=
 cond (!(a==0)) (
 let d:=(w64 (Int.tdiv b a))
 cond (!(a==0)) (
 let e:=(Int.tmod b a)
 cond (decide (e<0)) (
 let c:=(w64 (d-1))
 some c) (
 some d)) none) none
def j4a (a:Int):Option (Int):=
 let b:=(w64 (a-1))
 let k:=(w64 (a-1970))
 let l:=(w64 (365*k))
 (j6O b 4).bind fun c=>
 let i:=(w64 (l+c))
 (j6O b 100).bind fun g=>
 let d:=(w64 (i-g))
 (j6O b 400).bind fun e=>
 let j:=(w64 (d+e))
 let f:=(w64 (j-477))
 some f
def j3c (i e g a f:Int):Option ((Int×Int×Int×Int×Int) ⊕ (Int)):=
 cond (decide (e<a)) (
 (j66 g e).bind fun b=>
 let c:=(w64 (i+b))
 let d:=(w64 (e+1))
 some (.inl (c,d,g,a,f))) (
 some (.inr i))
def j4t [LP] (d e c b a:Int):Option (Int):=
 LP.lp (unc5 (j3c)) (d,e,c,b,a)
theorem jaO (d e c b a):j4t d e c b a=lpK (j3c d e c b a) (fun h=>j4t h.1 h.2.1 h.2.2.1 h.2.2.2.1 h.2.2.2.2):=j05 _ _
def j5H [LP] (a:Tn4):Option (Int):=
 (j4a a.1).bind fun d=>
 let b:=(w64 (d+a.2.2))
 let c:=(w64 (b-1))
 (j4t c 1 a.1 a.2.1 a.2.2).bind fun e=>
 some e
def j4S (a:Int):Option (Int):=
 let d:=(Int.tmod a 7)
 let c:=(w64 (d+10))
 let b:=(Int.tmod c 7)
 some b
def j9Q [LP] (d b c a:Int):Option (Int×Int):=
 (j9P (d,(b,1))).bind fun r=>
 let s:Bool:=(cond (cond (!r) true (decide (c<1))) true (decide (c>5)))
 let q:Bool:=(cond (cond s true (decide (a<0))) true (decide (a>6)))
 cond q (
 some (0,1)) (
 (j5H (d,(b,1))).bind fun e=>
 (j4S e).bind fun k=>
 let o:=(w64 (a-k))
 let n:=(w64 (o+7))
 let g:=(Int.tmod n 7)
 let m:=(w64 (e+g))
 let t:=(w64 (c-1))
 let j:=(w64 (7*t))
 let f:=(w64 (m+j))
 (j66 d b).bind fun p=>
 let i:=(w64 (e+p))
 cond (decide (f≥i)) (
 let l:=(w64 (f-7))
 some (l,0)) (
 some (f,0)))
def j6P (a b:(Int×Int)):Option (Int):=
 let c:=(w64 (a.1-b.1))
 some c
def j0m (l q p b:Int) (a:Tn2):Option ((Int×Int×Int×Int×Tn2) ⊕ ((Int×Int×Int×Tn2))):=
 cond (decide (b>l)) (
 cond (inR b (List.length a)) (
 let c:=(List.getD a (Int.toNat b) (0,0))
 let k:=(w64 (b-1))
 cond (inR k (List.length a)) (
 let f:=(List.getD a (Int.toNat k) (0,0))
 (j6P (c.1,c.2) (f.1,f.2)).bind fun n=>
 cond (decide (n<0)) (
 let g:=(w64 (b-1))
 let i:=(w64 (b-1))
 cond (inR i (List.length a)) (
 let e:=(List.getD a (Int.toNat i) (0,0))
 cond (inR b (List.length a)) (
 let d:=(List.getD a (Int.toNat b) (0,0))
 cond (inR b (List.length a)) (
 let j:Tn2:=(List.set a (Int.toNat b) (e.1,e.2))
 cond (inR g (List.length j)) (
 let m:Tn2:=(List.set j (Int.toNat g) (d.1,d.2))
 let o:=(w64 (b-1))
 some (.inl (l,q,p,o,m))) none) none) none) none) (
 some (.inr (l,q,p,a)))) none) none) (
 some (.inr (l,q,p,a)))
def j0i [LP] (a c b e:Int) (d:Tn2):Option ((Int×Int×Int×Tn2)):=
 LP.lp (unc5 (j0m)) (a,c,b,e,d)
theorem j1O (a c b e d):j0i a c b e d=lpK (j0m a c b e d) (fun h=>j0i h.1 h.2.1 h.2.2.1 h.2.2.2.1 h.2.2.2.2):=j05 _ _
def j08 [LP] (f d c:Int) (e:Tn2):Option ((Int×Int×Int×Tn2) ⊕ (Tn2)):=
 cond (decide (c<d)) (
 (j0i f d c c e).bind fun a=>
 let b:=(w64 (a.2.2.1+1))
 some (.inl (a.1,a.2.1,b,a.2.2.2))) (
 some (.inr e))
def j0j [LP] (b d c:Int) (a:Tn2):Option (Tn2):=
 LP.lp (unc4 (j08)) (b,d,c,a)
theorem j0Z (a c b d):j0j a c b d=lpK (j08 a c b d) (fun h=>j0j h.1 h.2.1 h.2.2.1 h.2.2.2):=j05 _ _
def j0c [LP] (a:Tn2) (b c:Int):Option (Tn2):=
 let d:=(w64 (b+1))
 (j0j b c d a).bind fun e=>
 some e
def j0g [LP] (d e f a:Int) (g:Tn2):Option ((Int×Int×Int×Int×Tn2) ⊕ ((Int×Int×Int×Tn2))):=
 cond (decide (a≤d)) (
 (j0c g f a).bind fun b=>
 let c:=(w64 (a+e))
 some (.inl (d,e,a,c,b))) (
 some (.inr (d,e,f,g)))
def j0w [LP] (b e c a:Int) (d:Tn2):Option ((Int×Int×Int×Tn2)):=
 LP.lp (unc5 (j0g)) (b,e,c,a,d)
theorem j4Y (b e c a d):j0w b e c a d=lpK (j0g b e c a d) (fun h=>j0w h.1 h.2.1 h.2.2.1 h.2.2.2.1 h.2.2.2.2):=j05 _ _
def j2g (a c b e:Int) (f:Tn2):Option ((Int×Int×Int×Int×Tn2) ⊕ ((Int×Int×Int×Tn2))):=
 cond (decide (e≤a)) (
 let d:=(w64 (b+c))
 none) (
 some (.inr (a,c,b,f)))
def j1D [LP] (b e c a:Int) (d:Tn2):Option ((Int×Int×Int×Tn2)):=
 LP.lp (unc5 (j2g)) (b,e,c,a,d)
def j0h [LP] (f e:Int) (g:Tn2):Option ((Int×Int×Tn2) ⊕ (Tn2)):=
 cond (decide (e<f)) (
 let b:=(w64 (2*e))
 (j1D f e 0 b g).bind fun a=>
 let d:=(w64 (a.2.2.1+a.2.1))
 cond (decide (d<a.1)) (
 none) (
 let c:=(w64 (a.2.1*2))
 some (.inl (a.1,c,a.2.2.2)))) (
 some (.inr g))
def j0x [LP] (c b:Int) (a:Tn2):Option (Tn2):=
 LP.lp (unc3 (j0h)) (c,b,a)
theorem j4Z (c b a):j0x c b a=lpK (j0h c b a) (fun h=>j0x h.1 h.2.1 h.2.2):=j05 _ _
def j0H [LP] (a:Tn2) (c:Int):Option (Tn2):=
 (j0w c 20 0 20 a).bind fun b=>
 (j0c b.2.2.2 b.2.2.1 b.1).bind fun d=>
 (j0x b.1 b.2.1 d).bind fun e=>
 some e
def j0a [LP] (a:Tn2):Option (Tn2):=
 let c:=(Int.ofNat (List.length a))
 (j0H a c).bind fun b=>
 some b
def j25 (n:Int) (d:Tn47) (l c:Int) (m:ByteArray) (f:Int) (e:Tn47):Option ((Int×Tn47×Int×Int×ByteArray×Int×Tn47) ⊕ (Int ⊕ (Int×ByteArray×Int×Tn47))):=
 cond (decide (c<l)) (
 cond (inR c (List.length d)) (
 let a:=(List.getD d (Int.toNat c) (0,(0,(0,(0,(0,(0,0)))))))
 (jdz (a.1,(a.2.1,(a.2.2.1,(a.2.2.2.1,(a.2.2.2.2.1,(a.2.2.2.2.2.1,a.2.2.2.2.2.2))))))).bind fun b=>
 cond (b != 0) (
 some (.inr (.inl b))) (
 let k:=(w64 (a.2.1-a.1))
 let j:=(w64 (k+1))
 let i:=(w64 (n+j))
 let g:=(w64 (c+1))
 some (.inl (i,d,l,g,m,f,e)))) none) (
 some (.inr (.inr (n,m,f,e))))
def j1Y [LP] (g:Int) (d:Tn47) (c e:Int) (f:ByteArray) (b:Int) (a:Tn47):Option (Int ⊕ (Int×ByteArray×Int×Tn47)):=
 LP.lp (unc7 (j25)) (g,d,c,e,f,b,a)
theorem j7K (g d c e f b a):j1Y g d c e f b a=lpK (j25 g d c e f b a) (fun h=>j1Y h.1 h.2.1 h.2.2.1 h.2.2.2.1 h.2.2.2.2.1 h.2.2.2.2.2.1 h.2.2.2.2.2.2):=j05 _ _
def j0R [LP] (i:Int) (o:Tn47) (p q s b f c a e g:Int) (r:Tn2):Option ((Int×Tn47×Int×Int×Int×Int×Int×Int×Int×Int×Int×Tn2) ⊕ ((Tn47×Int×Int×Tn2))):=
 cond (decide (i≤b)) (
 (j9Q i f c a).bind fun j=>
 let k:=(w64 (j.1*86400))
 let l:=(w64 (k+e))
 let d:Tn2:=[(l,g)]
 cond (decide (List.length r+List.length d≤j07)) (
 let m:Tn2:=(r++d)
 let n:=(w64 (i+1))
 some (.inl (n,o,p,q,s,b,f,c,a,e,g,m))) none) (
 some (.inr (o,p,q,r)))
def j2C [LP] (k:Int) (g:Tn47) (i j l b e c a d f:Int) (m:Tn2):Option ((Tn47×Int×Int×Tn2)):=
 LP.lp (jwe (j0R)) (k,g,i,j,l,b,e,c,a,d,f,m)
theorem j7L (k g i j l b e c a d f m):j2C k g i j l b e c a d f m=lpK (j0R k g i j l b e c a d f m) (fun h=>j2C h.1 h.2.1 h.2.2.1 h.2.2.2.1 h.2.2.2.2.1 h.2.2.2.2.2.1 h.2.2.2.2.2.2.1 h.2.2.2.2.2.2.2.1 h.2.2.2.2.2.2.2.2.1 h.2.2.2.2.2.2.2.2.2.1 h.2.2.2.2.2.2.2.2.2.2.1 h.2.2.2.2.2.2.2.2.2.2.2):=j05 _ _
def j0S [LP] (d:Tn47) (f c:Int) (g:Tn2):Option ((Tn47×Int×Int×Tn2) ⊕ (Tn2)):=
 cond (decide (c<f)) (
 cond (inR c (List.length d)) (
 let a:=(List.getD d (Int.toNat c) (0,(0,(0,(0,(0,(0,0)))))))
 (j2C a.1 d f c a.1 a.2.1 a.2.2.1 a.2.2.2.1 a.2.2.2.2.1 a.2.2.2.2.2.1 a.2.2.2.2.2.2 g).bind fun b=>
 let e:=(w64 (b.2.2.1+1))
 some (.inl (b.1,b.2.1,e,b.2.2.2))) none) (
 some (.inr g))
def j1Z [LP] (c:Tn47) (b a:Int) (d:Tn2):Option (Tn2):=
 LP.lp (unc4 (j0S)) (c,b,a,d)
theorem j7M (c a b d):j1Z c a b d=lpK (j0S c a b d) (fun h=>j1Z h.1 h.2.1 h.2.2.1 h.2.2.2):=j05 _ _
def j36 [LP] (a:Tn57):Option (Tn2×Int):=
 (j91 a.2.1 (-64800) 64800).bind fun d=>
 cond (!d) (
 some (([]:Tn2),1)) (
 let b:=(Int.ofNat (List.length a.2.2))
 cond (decide (b>16)) (
 some (([]:Tn2),5)) (
 let e:=(Int.ofNat (List.length a.2.2))
 (j1Y 0 a.2.2 e 0 a.1 a.2.1 a.2.2).bind fun i=>
 sumC i (fun k=>
 some (([]:Tn2),k)) (fun j=>
 cond (decide (j.1>640)) (
 some (([]:Tn2),5)) (
 let c:=(Int.ofNat (List.length j.2.2.2))
 (j1Z j.2.2.2 c 0 ([]:Tn2)).bind fun g=>
 (j0a g).bind fun f=>
 some (f,0)))))
def j26 (s m d:Int) (b g:Tn2):Option ((Int×Int×Int×Tn2×Tn2) ⊕ (Int ⊕ Tn2)):=
 cond (decide (d<m)) (
 cond (inR d (List.length g)) (
 let a:=(List.getD g (Int.toNat d) (0,0))
 cond (a.2==s) (
 let u:=(w64 (d+1))
 some (.inl (s,m,u,b,g))) (
 let c:=(w64 (a.1-s))
 let i:=(w64 (a.2-s))
 cond (cond (decide (i≥86400)) true (decide (i≤(-86400)))) (
 let o:=(Int.ofNat (List.length b))
 let p:=(Int.ofNat (List.length b))
 let k:=(w64 (p-1))
 cond ((inR k (List.length b)) || !((!true)&&(decide (o>0)))) (
 let v:=(List.getD b (Int.toNat k) (0,0)).1
 let x:=(w64 (v+604800))
 some (.inr (.inl 6))) none) (
 (j91 c 0 8589934592).bind fun e=>
 let f:=(Int.ofNat (List.length b))
 let q:=(Int.ofNat (List.length b))
 let j:=(w64 (q-1))
 cond ((inR j (List.length b)) || !((!(!e))&&(decide (f>0)))) (
 let t:=(List.getD b (Int.toNat j) (0,0)).1
 let r:=(w64 (t+604800))
 cond (cond (!e) true (cond (decide (f>0)) (decide (c<r)) false)) (
 some (.inr (.inl 6))) (
 let l:Tn2:=[(c,a.2)]
 cond (decide (List.length b+List.length l≤j07)) (
 let n:Tn2:=(b++l)
 let w:=(w64 (d+1))
 some (.inl (a.2,m,w,n,g))) none)) none))) none) (
 some (.inr (.inr b)))
def j20 [LP] (d b a:Int) (e c:Tn2):Option (Int ⊕ Tn2):=
 LP.lp (unc5 (j26)) (d,b,a,e,c)
theorem j7N (d b a e c):j20 d b a e c=lpK (j26 d b a e c) (fun h=>j20 h.1 h.2.1 h.2.2.1 h.2.2.2.1 h.2.2.2.2):=j05 _ _
def j1H [LP] (a:Tn57):Option (Tn2×Int):=
 (j36 (a.1,(a.2.1,a.2.2))).bind fun b=>
 cond (b.2 != 0) (
 some (([]:Tn2),b.2)) (
 let c:=(Int.ofNat (List.length b.1))
 (j20 a.2.1 c 0 ([]:Tn2) b.1).bind fun d=>
 sumC d (fun e=>
 some (([]:Tn2),e)) (fun f=>
 some (f,0)))
def j72 [LP] (a:Tn57):Option (Int):=
 (j1H (a.1,(a.2.1,a.2.2))).bind fun b=>
 some b.2
def j6i (a:Tn43):Option (Bool):=
 let b:=(Int.tmod a.2.2.2.2.2.2 60)
 some (b != 0)
def j0n (e:Tn47) (f b:Int):Option ((Tn47×Int×Int) ⊕ (Int ⊕ Unit)):=
 cond (decide (b<f)) (
 cond (inR b (List.length e)) (
 let a:=(List.getD e (Int.toNat b) (0,(0,(0,(0,(0,(0,0)))))))
 (j6i (a.1,(a.2.1,(a.2.2.1,(a.2.2.2.1,(a.2.2.2.2.1,(a.2.2.2.2.2.1,a.2.2.2.2.2.2))))))).bind fun d=>
 cond d (
 some (.inr (.inl b))) (
 let c:=(w64 (b+1))
 some (.inl (e,f,c)))) none) (
 some (.inr (.inr ())))
def j0k [LP] (a:Tn47) (c b:Int):Option (Int ⊕ Unit):=
 LP.lp (unc3 (j0n)) (a,c,b)
theorem j1R (a c b):j0k a c b=lpK (j0n a c b) (fun h=>j0k h.1 h.2.1 h.2.2):=j05 _ _
def j0r [LP] (a:Tn47):Option (Int):=
 let b:=(Int.ofNat (List.length a))
 (j0k a b 0).bind fun c=>
 sumC c (fun d=>
 some d) (fun e=>
 some (-1))
def j0l [LP] (a:Tn47):Option (Bool):=
 (j0r a).bind fun b=>
 some (decide (b≥0))
def j27 [LP] (a:Tn57):Option (Int):=
 (j72 (a.1,(a.2.1,a.2.2))).bind fun c=>
 let d:=(Int.tmod a.2.1 60)
 cond (cond (c != 0) true (d != 0)) (
 some 8) (
 (j0l a.2.2).bind fun b=>
 cond b (
 some 8) (
 some 0))
def j0A [LP] (e:Tn59) (i c:Int) (j:(List (ByteArray×Bool))):Option ((Tn59×Int×Int×(List (ByteArray×Bool))) ⊕ (Int ⊕ Unit)):=
 cond (decide (c<i)) (
 cond (inR c (List.length e)) (
 let a:=(List.getD e (Int.toNat c) (ByteArray.empty,(0,([]:Tn47))))
 (j90 (a.1,(a.2.1,a.2.2))).bind fun f=>
 (j2M f j).bind fun b=>
 cond (b.1 != 0) (
 some (.inr (.inl b.1))) (
 (j27 (a.1,(a.2.1,a.2.2))).bind fun d=>
 cond (d != 0) (
 some (.inr (.inl d))) (
 let g:=(w64 (c+1))
 some (.inl (e,i,g,b.2))))) none) (
 some (.inr (.inr ())))
def j16 [LP] (c:Tn59) (b a:Int) (d:(List (ByteArray×Bool))):Option (Int ⊕ Unit):=
 LP.lp (unc4 (j0A)) (c,b,a,d)
theorem j5p (c:Tn59) (b a:Int) (d:(List (ByteArray×Bool))):j16 c b a d=lpK (j0A c b a d) (fun h=>j16 h.1 h.2.1 h.2.2.1 h.2.2.2):=j05 _ _
def j1v [LP] (a:Tn59):Option (Int):=
 let c:(List (ByteArray×Bool)):=([]:(List (ByteArray×Bool)))
 let b:=(Int.ofNat (List.length a))
 (j16 a b 0 c).bind fun d=>
 sumC d (fun e=>
 some e) (fun f=>
 some 0)
def j1J (a b:Int):Option (Bool):=
 some (cond (decide (a≥0)) (decide (a<b)) false)
def j3P (i e:Tn2) (k b:Int):Option ((Tn2×Tn2×Int×Int) ⊕ (Int ⊕ Unit)):=
 cond (decide (b<k)) (
 cond (inR b (List.length e)) (
 let a:=(List.getD e (Int.toNat b) (0,0))
 let g:Bool:=(cond (cond (decide (a.1<0)) true (decide (a.1≥a.2))) true (decide (a.2>604800)))
 cond g (
 some (.inr (.inl 1))) (
 cond (decide (b>0)) (
 let c:=(w64 (b-1))
 cond (inR c (List.length i)) (
 let j:=(List.getD i (Int.toNat c) (0,0))
 cond (decide (a.1<j.2)) (
 some (.inr (.inl 6))) (
 let f:=(w64 (b+1))
 some (.inl (i,e,k,f)))) none) (
 let d:=(w64 (b+1))
 some (.inl (i,e,k,d))))) none) (
 some (.inr (.inr ())))
def j67 [LP] (b c:Tn2) (d a:Int):Option (Int ⊕ Unit):=
 LP.lp (unc4 (j3P)) (b,c,d,a)
theorem jcV (c b d a):j67 c b d a=lpK (j3P c b d a) (fun h=>j67 h.1 h.2.1 h.2.2.1 h.2.2.2):=j05 _ _
def j73 [LP] (a:Tn2):Option (Int):=
 let b:=(Int.ofNat (List.length a))
 cond (decide (b>14)) (
 some 5) (
 let c:=(Int.ofNat (List.length a))
 (j67 a a c 0).bind fun d=>
 sumC d (fun e=>
 some e) (fun f=>
 some 0))
def j68 (a b c:Int):Option (Bool):=
 some (cond (decide (a≥b)) (decide (a≤c)) false)
def j3Q (a:Int):Option (Bool):=
 (j68 a 0 604800).bind fun b=>
 let c:=(Int.tmod a 3600)
 some (cond b (c==0) false)
def j1n [LP] (b:Tn76) (a:Tn49):Option (Int):=
 let d:=(Int.ofNat (List.length b.1))
 (j1J a.2.1 d).bind fun c=>
 cond (!c) (
 some 3) (
 (j73 a.2.2.1).bind fun e=>
 cond (e != 0) (
 some 8) (
 (j3Q a.2.2.2.1).bind fun g=>
 cond (!g) (
 some 1) (
 (j3Q a.2.2.2.2.1).bind fun f=>
 cond (!f) (
 some 1) (
 some 0))))
def j92 (a:Tn22):Option (ByteArray):=
 some a.1
def jaP (e b:Int):Option ((Int×Int) ⊕ (Int)):=
 let d:=(w64 (b+1))
 (j4a d).bind fun c=>
 cond (decide (c≤e)) (
 let a:=(w64 (b+1))
 some (.inl (e,a))) (
 some (.inr b))
def jce [LP] (a b:Int):Option (Int):=
 LP.lp (unc2 (jaP)) (a,b)
def jbB [LP] (a:Int):Option (Int):=
 (j6O a 366).bind fun d=>
 let b:=(w64 (1970+d))
 (jce a b).bind fun c=>
 some c
def j9n (k l d c e a b:Int):Option ((Int×Int×Int×Int×Int×Int×Int) ⊕ ((Int×Int×Int×Int×Int×Int×Int))):=
 (j66 e a).bind fun g=>
 cond (decide (k≥g)) (
 (j66 e a).bind fun f=>
 let j:=(w64 (k-f))
 let i:=(w64 (a+1))
 some (.inl (j,l,d,c,e,i,b))) (
 some (.inr (k,l,d,c,e,a,b)))
def j9R [LP] (f g d b e c a:Int):Option ((Int×Int×Int×Int×Int×Int×Int)):=
 LP.lp (unc7 (j9n)) (f,g,d,b,e,c,a)
def j4K [LP] (a:Int):Option (Tn4×Int):=
 (j4a 1970).bind fun i=>
 cond (decide (a<i)) (
 some ((0,(0,0)),1)) (
 (j4a 2241).bind fun d=>
 cond (decide (a≥d)) (
 some ((0,(0,0)),1)) (
 (jbB a).bind fun b=>
 (j4a b).bind fun f=>
 let e:=(w64 (a-f))
 (j9R e 0 0 0 b 1 0).bind fun c=>
 let g:=(w64 (c.1+1))
 some ((c.2.2.2.2.1,(c.2.2.2.2.2.1,g)),0)))
def j0P [LP] (a:Int):Option (Bool):=
 (j4K a).bind fun b=>
 some (b.2==0)
def j1y [LP] (a:Int):Option (Bool):=
 (j0P a).bind fun b=>
 some (!b)
def j0t [LP] (e:(List Int)) (f a:Int):Option (((List Int)×Int×Int) ⊕ (Int ⊕ Unit)):=
 cond (decide (a<f)) (
 cond (inR a (List.length e)) (
 let c:=(List.getD e (Int.toNat a) 0)
 (j1y c).bind fun d=>
 cond d (
 some (.inr (.inl a))) (
 let b:=(w64 (a+1))
 some (.inl (e,f,b)))) none) (
 some (.inr (.inr ())))
def j1b [LP] (a:(List Int)) (c b:Int):Option (Int ⊕ Unit):=
 LP.lp (unc3 (j0t)) (a,c,b)
theorem j4L (a c b):j1b a c b=lpK (j0t a c b) (fun h=>j1b h.1 h.2.1 h.2.2):=j05 _ _
def j1z [LP] (a:(List Int)):Option (Int):=
 let b:=(Int.ofNat (List.length a))
 (j1b a b 0).bind fun c=>
 sumC c (fun d=>
 some d) (fun e=>
 some (-1))
def j1c [LP] (a:(List Int)):Option (Bool):=
 (j1z a).bind fun b=>
 some (decide (b≥0))
def j1r (e b:Int) (k:ByteArray) (d:Int) (a:(List Int)):Option ((Int×Int×ByteArray×Int×(List Int)) ⊕ (Int ⊕ Unit)):=
 cond (decide (b<e)) (
 cond (decide (b>0)) (
 cond (inR b (List.length a)) (
 let i:=(List.getD a (Int.toNat b) 0)
 let c:=(w64 (b-1))
 cond (inR c (List.length a)) (
 let j:=(List.getD a (Int.toNat c) 0)
 cond (decide (i≤j)) (
 some (.inr (.inl 6))) (
 let g:=(w64 (b+1))
 some (.inl (e,g,k,d,a)))) none) none) (
 let f:=(w64 (b+1))
 some (.inl (e,f,k,d,a)))) (
 some (.inr (.inr ())))
def j1A [LP] (d c:Int) (e:ByteArray) (b:Int) (a:(List Int)):Option (Int ⊕ Unit):=
 LP.lp (unc5 (j1r)) (d,c,e,b,a)
theorem j5I (d c e b a):j1A d c e b a=lpK (j1r d c e b a) (fun h=>j1A h.1 h.2.1 h.2.2.1 h.2.2.2.1 h.2.2.2.2):=j05 _ _
def j1g [LP] (b:Tn76) (a:Tn22):Option (Int):=
 let f:=(Int.ofNat (List.length b.1))
 (j1J a.2.1 f).bind fun c=>
 cond (!c) (
 some 3) (
 let g:=(Int.ofNat (List.length a.2.2))
 cond (decide (g>64)) (
 some 5) (
 (j1c a.2.2).bind fun e=>
 cond e (
 some 1) (
 let d:=(Int.ofNat (List.length a.2.2))
 (j1A d 0 a.1 a.2.1 a.2.2).bind fun i=>
 sumC i (fun j=>
 some j) (fun k=>
 some 0))))
def j3L [LP] (a:Tn22) (f:Tn59) (b:Tn53) (d:Tn30) (c:Tn70):Option (Int):=
 (j1g (f,(b,(d,c))) (a.1,(a.2.1,a.2.2))).bind fun e=>
 some e
def j0p [LP] (m:Tn59) (i:Tn53) (f:Tn30) (e:Tn70) (g:Tn30) (l c:Int) (n:(List (ByteArray×Bool))):Option ((Tn59×Tn53×Tn30×Tn70×Tn30×Int×Int×(List (ByteArray×Bool))) ⊕ (Int ⊕ Unit)):=
 cond (decide (c<l)) (
 cond (inR c (List.length g)) (
 let a:=(List.getD g (Int.toNat c) (ByteArray.empty,(0,([]:(List Int)))))
 (j92 (a.1,(a.2.1,a.2.2))).bind fun j=>
 (j2M j n).bind fun b=>
 cond (b.1 != 0) (
 some (.inr (.inl b.1))) (
 (j3L (a.1,(a.2.1,a.2.2)) m i f e).bind fun d=>
 cond (d != 0) (
 some (.inr (.inl d))) (
 let k:=(w64 (c+1))
 some (.inl (m,i,f,e,g,l,k,b.2))))) none) (
 some (.inr (.inr ())))
def j0M [LP] (g:Tn59) (c:Tn53) (b:Tn30) (a:Tn70) (f:Tn30) (e d:Int) (i:(List (ByteArray×Bool))):Option (Int ⊕ Unit):=
 LP.lp (unc8 (j0p)) (g,c,b,a,f,e,d,i)
theorem j4i (g:Tn59) (c:Tn53) (b:Tn30) (a:Tn70) (f:Tn30) (e d:Int) (i:(List (ByteArray×Bool))):j0M g c b a f e d i=lpK (j0p g c b a f e d i) (fun h=>j0M h.1 h.2.1 h.2.2.1 h.2.2.2.1 h.2.2.2.2.1 h.2.2.2.2.2.1 h.2.2.2.2.2.2.1 h.2.2.2.2.2.2.2):=j05 _ _
def j10 [LP] (e:Tn30) (d:Tn59) (a:Tn53) (c:Tn30) (b:Tn70):Option (Int):=
 let g:(List (ByteArray×Bool)):=([]:(List (ByteArray×Bool)))
 let f:=(Int.ofNat (List.length e))
 (j0M d a c b e f 0 g).bind fun i=>
 sumC i (fun j=>
 some j) (fun k=>
 some 0)
def j93 (a:Tn69):Option (ByteArray):=
 some a.1
def j4u (a:Tn64):Option (ByteArray):=
 some a.1
def j5J (b:Int) (g:Tn59) (a:Tn53) (f:Tn30) (e:Tn70):Option (Bool):=
 let c:=(Int.ofNat (List.length a))
 (j1J b c).bind fun d=>
 some (!d)
def j0Q (i:(List Int)) (j:Tn59) (d:Tn53) (a:Tn30) (c:Tn70) (k b:Int):Option (((List Int)×Tn59×Tn53×Tn30×Tn70×Int×Int) ⊕ (Int ⊕ Unit)):=
 cond (decide (b<k)) (
 cond (inR b (List.length i)) (
 let f:=(List.getD i (Int.toNat b) 0)
 (j5J f j d a c).bind fun g=>
 cond g (
 some (.inr (.inl b))) (
 let e:=(w64 (b+1))
 some (.inl (i,j,d,a,c,k,e)))) none) (
 some (.inr (.inr ())))
def j0T [LP] (g:(List Int)) (d:Tn59) (c:Tn53) (a:Tn30) (b:Tn70) (e f:Int):Option (Int ⊕ Unit):=
 LP.lp (unc7 (j0Q)) (g,d,c,a,b,e,f)
theorem j3R (g d c a b e f):j0T g d c a b e f=lpK (j0Q g d c a b e f) (fun h=>j0T h.1 h.2.1 h.2.2.1 h.2.2.2.1 h.2.2.2.2.1 h.2.2.2.2.2.1 h.2.2.2.2.2.2):=j05 _ _
def j1d [LP] (b:(List Int)) (e:Tn59) (c:Tn53) (a:Tn30) (d:Tn70):Option (Int):=
 let f:=(Int.ofNat (List.length b))
 (j0T b e c a d f 0).bind fun g=>
 sumC g (fun i=>
 some i) (fun j=>
 some (-1))
def j0U [LP] (e:(List Int)) (d:Tn59) (b:Tn53) (a:Tn30) (c:Tn70):Option (Bool):=
 (j1d e d b a c).bind fun f=>
 some (decide (f≥0))
def j1S [LP] (b:Tn76) (a:Tn64):Option (Int):=
 let f:=(Int.ofNat (List.length b.1))
 (j1J a.2.1 f).bind fun c=>
 cond (!c) (
 some 3) (
 cond (decide (a.2.2.1.1<1)) (
 some 1) (
 (j0P a.2.2.1.1).bind fun l=>
 cond (!l) (
 some 1) (
 (j68 a.2.2.1.2 0 86399).bind fun d=>
 cond (!d) (
 some 1) (
 (j68 a.2.2.2.1 0 2).bind fun g=>
 cond (!g) (
 some 1) (
 (j68 a.2.2.2.2.1 1 400).bind fun i=>
 cond (!i) (
 some 1) (
 let k:=(Int.ofNat (List.length a.2.2.2.2.2.1))
 cond (k==0) (
 some 7) (
 let m:=(Int.ofNat (List.length a.2.2.2.2.2.1))
 cond (decide (m>12)) (
 some 5) (
 (j0U a.2.2.2.2.2.1 b.1 b.2.1 b.2.2.1 b.2.2.2).bind fun e=>
 cond e (
 some 3) (
 (j73 a.2.2.2.2.2.2.1).bind fun p=>
 cond (p != 0) (
 some 8) (
 (j68 a.2.2.2.2.2.2.2.2 0 2).bind fun j=>
 cond (!j) (
 some 1) (
 let n:=(Int.ofNat (List.length b.2.2.1))
 cond (a.2.2.2.2.2.2.2.2 != 0) (
 (j1J a.2.2.2.2.2.2.2.1 n).bind fun o=>
 cond (!o) (
 some 3) (
 cond (cond (a.2.2.2.2.2.2.2.2==0) (a.2.2.2.2.2.2.2.1 != 0) false) (
 some 1) (
 some 0))) (
 cond (cond (a.2.2.2.2.2.2.2.2==0) (a.2.2.2.2.2.2.2.1 != 0) false) (
 some 1) (
 some 0)))))))))))))
def j1B [LP] (a:Tn64) (f:Tn59) (b:Tn53) (c:Tn30) (d:Tn70):Option (Int):=
 (j1S (f,(b,(c,d))) (a.1,(a.2.1,((a.2.2.1.1,a.2.2.1.2),(a.2.2.2.1,(a.2.2.2.2.1,(a.2.2.2.2.2.1,(a.2.2.2.2.2.2.1,(a.2.2.2.2.2.2.2.1,a.2.2.2.2.2.2.2.2))))))))).bind fun e=>
 some e
def j0y [LP] (m:Tn59) (i:Tn53) (f:Tn30) (e:Tn70) (g:Tn65) (l c:Int) (n:(List (ByteArray×Bool))):Option ((Tn59×Tn53×Tn30×Tn70×Tn65×Int×Int×(List (ByteArray×Bool))) ⊕ (Int ⊕ Unit)):=
 cond (decide (c<l)) (
 cond (inR c (List.length g)) (
 let a:=(List.getD g (Int.toNat c) (ByteArray.empty,(0,((0,0),(0,(0,(([]:(List Int)),(([]:Tn2),(0,0)))))))))
 (j4u (a.1,(a.2.1,((a.2.2.1.1,a.2.2.1.2),(a.2.2.2.1,(a.2.2.2.2.1,(a.2.2.2.2.2.1,(a.2.2.2.2.2.2.1,(a.2.2.2.2.2.2.2.1,a.2.2.2.2.2.2.2.2))))))))).bind fun j=>
 (j2M j n).bind fun b=>
 cond (b.1 != 0) (
 some (.inr (.inl b.1))) (
 (j1B (a.1,(a.2.1,((a.2.2.1.1,a.2.2.1.2),(a.2.2.2.1,(a.2.2.2.2.1,(a.2.2.2.2.2.1,(a.2.2.2.2.2.2.1,(a.2.2.2.2.2.2.2.1,a.2.2.2.2.2.2.2.2)))))))) m i f e).bind fun d=>
 cond (d != 0) (
 some (.inr (.inl d))) (
 let k:=(w64 (c+1))
 some (.inl (m,i,f,e,g,l,k,b.2))))) none) (
 some (.inr (.inr ())))
def j11 [LP] (g:Tn59) (c:Tn53) (b:Tn30) (a:Tn70) (f:Tn65) (e d:Int) (i:(List (ByteArray×Bool))):Option (Int ⊕ Unit):=
 LP.lp (unc8 (j0y)) (g,c,b,a,f,e,d,i)
theorem j50 (g:Tn59) (c:Tn53) (b:Tn30) (a:Tn70) (f:Tn65) (e d:Int) (i:(List (ByteArray×Bool))):j11 g c b a f e d i=lpK (j0y g c b a f e d i) (fun h=>j11 h.1 h.2.1 h.2.2.1 h.2.2.2.1 h.2.2.2.2.1 h.2.2.2.2.2.1 h.2.2.2.2.2.2.1 h.2.2.2.2.2.2.2):=j05 _ _
def j1o [LP] (e:Tn65) (d:Tn59) (a:Tn53) (c:Tn30) (b:Tn70):Option (Int):=
 let g:(List (ByteArray×Bool)):=([]:(List (ByteArray×Bool)))
 let f:=(Int.ofNat (List.length e))
 (j11 d a c b e f 0 g).bind fun i=>
 sumC i (fun j=>
 some j) (fun k=>
 some 0)
def j28 [LP] (g:Tn76) (a:Tn28):Option (Int):=
 let l:=(Int.ofNat (List.length g.2.1))
 (j68 a.1 0 2).bind fun m=>
 cond (!m) (
 some 1) (
 (j1J a.2.1 l).bind fun f=>
 cond (cond (!f) (!(cond (a.1==1) (a.2.1==(-1)) false)) false) (
 cond (cond (!f) (!(cond (a.1==1) (a.2.1==(-1)) false)) false) (
 some 3) (
 cond (cond (a.1 != 2) (a.2.2.1 != 0) false) (
 some 1) (
 cond (cond (a.1==2) (a.2.1==a.2.2.1) false) (
 some 4) (
 let j:=(w64 (Int.tdiv a.2.2.2.2 86400))
 cond (cond (decide (a.2.2.2.1<0)) true (decide (a.2.2.2.2<0))) (
 some 1) (
 (j0P j).bind fun i=>
 cond (!i) (
 some 1) (
 cond (decide (a.2.2.2.1≥a.2.2.2.2)) (
 some 6) (
 some 0))))))) (
 cond (a.1==2) (
 (j1J a.2.2.1 l).bind fun k=>
 cond (!k) (
 some 3) (
 cond (cond (a.1 != 2) (a.2.2.1 != 0) false) (
 some 1) (
 cond (cond (a.1==2) (a.2.1==a.2.2.1) false) (
 some 4) (
 let c:=(w64 (Int.tdiv a.2.2.2.2 86400))
 cond (cond (decide (a.2.2.2.1<0)) true (decide (a.2.2.2.2<0))) (
 some 1) (
 (j0P c).bind fun d=>
 cond (!d) (
 some 1) (
 cond (decide (a.2.2.2.1≥a.2.2.2.2)) (
 some 6) (
 some 0))))))) (
 cond (cond (a.1 != 2) (a.2.2.1 != 0) false) (
 some 1) (
 cond (cond (a.1==2) (a.2.1==a.2.2.1) false) (
 some 4) (
 let e:=(w64 (Int.tdiv a.2.2.2.2 86400))
 cond (cond (decide (a.2.2.2.1<0)) true (decide (a.2.2.2.2<0))) (
 some 1) (
 (j0P e).bind fun b=>
 cond (!b) (
 some 1) (
 cond (decide (a.2.2.2.1≥a.2.2.2.2)) (
 some 6) (
 some 0))))))))
def j0F [LP] (e:Tn34) (j c:Int) (k:Tn59) (g:Tn53) (d:Tn30) (f:Tn70):Option ((Tn34×Int×Int×Tn59×Tn53×Tn30×Tn70) ⊕ (Int ⊕ Unit)):=
 cond (decide (c<j)) (
 cond (inR c (List.length e)) (
 let a:=(List.getD e (Int.toNat c) (0,(0,(0,(0,0)))))
 (j28 (k,(g,(d,f))) (a.1,(a.2.1,(a.2.2.1,(a.2.2.2.1,a.2.2.2.2))))).bind fun b=>
 cond (b != 0) (
 some (.inr (.inl b))) (
 let i:=(w64 (c+1))
 some (.inl (e,j,i,k,g,d,f)))) none) (
 some (.inr (.inr ())))
def j1C [LP] (e:Tn34) (d f:Int) (g:Tn59) (c:Tn53) (a:Tn30) (b:Tn70):Option (Int ⊕ Unit):=
 LP.lp (unc7 (j0F)) (e,d,f,g,c,a,b)
theorem j5K (e d f g c a b):j1C e d f g c a b=lpK (j0F e d f g c a b) (fun h=>j1C h.1 h.2.1 h.2.2.1 h.2.2.2.1 h.2.2.2.2.1 h.2.2.2.2.2.1 h.2.2.2.2.2.2):=j05 _ _
def j1h [LP] (a:Tn76) (b:Tn69):Option (Int):=
 let d:=(Int.ofNat (List.length b.2.1))
 let f:=(Int.ofNat (List.length b.2.2))
 cond (cond (decide (d>6)) true (decide (f>48))) (
 some 5) (
 (j1o b.2.1 a.1 a.2.1 a.2.2.1 a.2.2.2).bind fun c=>
 cond (c != 0) (
 some c) (
 let e:=(Int.ofNat (List.length b.2.2))
 (j1C b.2.2 e 0 a.1 a.2.1 a.2.2.1 a.2.2.2).bind fun g=>
 sumC g (fun i=>
 some i) (fun j=>
 some 0)))
def j3M [LP] (a:Tn69) (f:Tn59) (b:Tn53) (d:Tn30) (c:Tn70):Option (Int):=
 (j1h (f,(b,(d,c))) (a.1,(a.2.1,a.2.2))).bind fun e=>
 some e
def j0q [LP] (m:Tn59) (i:Tn53) (f:Tn30) (e g:Tn70) (l c:Int) (n:(List (ByteArray×Bool))):Option ((Tn59×Tn53×Tn30×Tn70×Tn70×Int×Int×(List (ByteArray×Bool))) ⊕ (Int ⊕ Unit)):=
 cond (decide (c<l)) (
 cond (inR c (List.length g)) (
 let a:=(List.getD g (Int.toNat c) (ByteArray.empty,(([]:Tn65),([]:Tn34))))
 (j93 (a.1,(a.2.1,a.2.2))).bind fun j=>
 (j2M j n).bind fun b=>
 cond (b.1 != 0) (
 some (.inr (.inl b.1))) (
 (j3M (a.1,(a.2.1,a.2.2)) m i f e).bind fun d=>
 cond (d != 0) (
 some (.inr (.inl d))) (
 let k:=(w64 (c+1))
 some (.inl (m,i,f,e,g,l,k,b.2))))) none) (
 some (.inr (.inr ())))
def j0N [LP] (g:Tn59) (c:Tn53) (b:Tn30) (a f:Tn70) (e d:Int) (i:(List (ByteArray×Bool))):Option (Int ⊕ Unit):=
 LP.lp (unc8 (j0q)) (g,c,b,a,f,e,d,i)
theorem j4j (g:Tn59) (c:Tn53) (b:Tn30) (a f:Tn70) (e d:Int) (i:(List (ByteArray×Bool))):j0N g c b a f e d i=lpK (j0q g c b a f e d i) (fun h=>j0N h.1 h.2.1 h.2.2.1 h.2.2.2.1 h.2.2.2.2.1 h.2.2.2.2.2.1 h.2.2.2.2.2.2.1 h.2.2.2.2.2.2.2):=j05 _ _
def j1m [LP] (e:Tn70) (d:Tn59) (a:Tn53) (c:Tn30) (b:Tn70):Option (Int):=
 let g:(List (ByteArray×Bool)):=([]:(List (ByteArray×Bool)))
 let f:=(Int.ofNat (List.length e))
 (j0N d a c b e f 0 g).bind fun i=>
 sumC i (fun j=>
 some j) (fun k=>
 some 0)
def j1i [LP] (g:Tn53) (i f:Int) (j:Tn59) (e:Tn53) (d:Tn30) (c:Tn70) (r:(List (ByteArray×Bool))):Option ((Tn53×Int×Int×Tn59×Tn53×Tn30×Tn70×(List (ByteArray×Bool))) ⊕ (Int ⊕ (Tn59×Tn53×Tn30×Tn70))):=
 cond (decide (f<i)) (
 cond (inR f (List.length g)) (
 let a:=(List.getD g (Int.toNat f) (ByteArray.empty,(0,(([]:Tn2),(0,(0,false))))))
 (j2M a.1 r).bind fun b=>
 let q:Bool:=(ByteArray.toList a.1==ByteArray.toList (ByteArray.mk #[110,111,98,111,100,121]))
 cond q (
 cond (2==0) (
 (j1n (j,(e,(d,c))) (a.1,(a.2.1,(a.2.2.1,(a.2.2.2.1,(a.2.2.2.2.1,a.2.2.2.2.2)))))).bind fun k=>
 cond (k != 0) (
 some (.inr (.inl k))) (
 let m:=(w64 (f+1))
 some (.inl (g,i,m,j,e,d,c,b.2)))) (
 cond (2 != 0) (
 some (.inr (.inl 2))) (
 let p:=(w64 (f+1))
 some (.inl (g,i,p,j,e,d,c,b.2))))) (
 cond (b.1==0) (
 (j1n (j,(e,(d,c))) (a.1,(a.2.1,(a.2.2.1,(a.2.2.2.1,(a.2.2.2.2.1,a.2.2.2.2.2)))))).bind fun l=>
 cond (l != 0) (
 some (.inr (.inl l))) (
 let n:=(w64 (f+1))
 some (.inl (g,i,n,j,e,d,c,b.2)))) (
 cond (b.1 != 0) (
 some (.inr (.inl b.1))) (
 let o:=(w64 (f+1))
 some (.inl (g,i,o,j,e,d,c,b.2)))))) none) (
 some (.inr (.inr (j,e,d,c))))
def j37 [LP] (f:Tn53) (e d:Int) (g:Tn59) (c:Tn53) (b:Tn30) (a:Tn70) (i:(List (ByteArray×Bool))):Option (Int ⊕ (Tn59×Tn53×Tn30×Tn70)):=
 LP.lp (unc8 (j1i)) (f,e,d,g,c,b,a,i)
theorem j9S (f:Tn53) (e d:Int) (g:Tn59) (c:Tn53) (b:Tn30) (a:Tn70) (i:(List (ByteArray×Bool))):j37 f e d g c b a i=lpK (j1i f e d g c b a i) (fun h=>j37 h.1 h.2.1 h.2.2.1 h.2.2.2.1 h.2.2.2.2.1 h.2.2.2.2.2.1 h.2.2.2.2.2.2.1 h.2.2.2.2.2.2.2):=j05 _ _
def j2L [LP] (a:Tn76):Option (Int):=
 let g:=(Int.ofNat (List.length a.1))
 let m:=(Int.ofNat (List.length a.2.1))
 let j:=(Int.ofNat (List.length a.2.2.1))
 let k:Bool:=(cond (cond (decide (g>16)) true (decide (m>32))) true (decide (j>8)))
 let i:=(Int.ofNat (List.length a.2.2.2))
 cond (cond k true (decide (i>12))) (
 some 5) (
 (j1v a.1).bind fun c=>
 cond (c != 0) (
 some c) (
 let e:(List (ByteArray×Bool)):=([]:(List (ByteArray×Bool)))
 let l:=(Int.ofNat (List.length a.2.1))
 (j37 a.2.1 l 0 a.1 a.2.1 a.2.2.1 a.2.2.2 e).bind fun n=>
 sumC n (fun o=>
 some o) (fun b=>
 (j10 b.2.2.1 b.1 b.2.1 b.2.2.1 b.2.2.2).bind fun d=>
 cond (d != 0) (
 some d) (
 (j1m b.2.2.2 b.1 b.2.1 b.2.2.1 b.2.2.2).bind fun f=>
 some f))))
def jcf (b:Tn76) (a:Int):Option (Bool):=
 let c:=(Int.ofNat (List.length b.2.2.2))
 some (cond (decide (a≥0)) (decide (a<c)) false)
def j4M (a:Tn59):Option (Tn59):=
 cond (decide (List.length ([]:List (Tn57))+List.length a≤j07)) (
 some (([]:List (Tn57))++a)) none
def j3E (a:Tn53):Option (Tn53):=
 cond (decide (List.length ([]:List (Tn49))+List.length a≤j07)) (
 some (([]:List (Tn49))++a)) none
def j2Y (a:Tn30):Option (Tn30):=
 cond (decide (List.length ([]:List (Tn22))+List.length a≤j07)) (
 some (([]:List (Tn22))++a)) none
def j2Z (a:Tn70):Option (Tn70):=
 cond (decide (List.length ([]:List (Tn69))+List.length a≤j07)) (
 some (([]:List (Tn69))++a)) none
def j30 (a:Tn47):Option (Tn47):=
 cond (decide (List.length ([]:List (Tn43))+List.length a≤j07)) (
 some (([]:List (Tn43))++a)) none
def j2e (a:Tn2):Option (Tn2):=
 cond (decide (List.length ([]:List ((Int×Int)))+List.length a≤j07)) (
 some (([]:List ((Int×Int)))++a)) none
def j6j (a:(List Int)):Option ((List Int)):=
 cond (decide (List.length ([]:List (Int))+List.length a≤j07)) (
 some (([]:List (Int))++a)) none
def j2A (a:Tn65):Option (Tn65):=
 cond (decide (List.length ([]:List (Tn64))+List.length a≤j07)) (
 some (([]:List (Tn64))++a)) none
def j2N (a:Tn34):Option (Tn34):=
 cond (decide (List.length ([]:List (Tn28))+List.length a≤j07)) (
 some (([]:List (Tn28))++a)) none
def jbC (m d:Int) (e:ByteArray) (c:Tn65) (b:Tn34) (a:Tn59) (f:Tn53) (g:Tn30):Option ((Int×Int×ByteArray×Tn65×Tn34×Tn59×Tn53×Tn30) ⊕ ((ByteArray×Tn65×Tn34×Tn59×Tn53×Tn30))):=
 cond (decide (d<m)) (
 cond (inR d (List.length a)) (
 let j:=(List.getD a (Int.toNat d) (ByteArray.empty,(0,([]:Tn47)))).2.2
 (j30 j).bind fun l=>
 cond (inR d (List.length a)) (
 let k:Tn59:=(List.set a (Int.toNat d) ((List.getD a (Int.toNat d) (ByteArray.empty,(0,([]:Tn47)))).1,((List.getD a (Int.toNat d) (ByteArray.empty,(0,([]:Tn47)))).2.1,l)))
 let i:=(w64 (d+1))
 some (.inl (m,i,e,c,b,k,f,g))) none) none) (
 some (.inr (e,c,b,a,f,g)))
def jdA [LP] (i g:Int) (c:ByteArray) (b:Tn65) (a:Tn34) (d:Tn59) (e:Tn53) (f:Tn30):Option ((ByteArray×Tn65×Tn34×Tn59×Tn53×Tn30)):=
 LP.lp (unc8 (jbC)) (i,g,c,b,a,d,e,f)
def jbD (m b:Int) (e:ByteArray) (d:Tn65) (c:Tn34) (f:Tn59) (a:Tn53) (g:Tn30):Option ((Int×Int×ByteArray×Tn65×Tn34×Tn59×Tn53×Tn30) ⊕ ((ByteArray×Tn65×Tn34×Tn59×Tn53×Tn30))):=
 cond (decide (b<m)) (
 cond (inR b (List.length a)) (
 let l:=(List.getD a (Int.toNat b) (ByteArray.empty,(0,(([]:Tn2),(0,(0,false)))))).2.2.1
 (j2e l).bind fun i=>
 cond (inR b (List.length a)) (
 let k:Tn53:=(List.set a (Int.toNat b) ((List.getD a (Int.toNat b) (ByteArray.empty,(0,(([]:Tn2),(0,(0,false)))))).1,((List.getD a (Int.toNat b) (ByteArray.empty,(0,(([]:Tn2),(0,(0,false)))))).2.1,(i,((List.getD a (Int.toNat b) (ByteArray.empty,(0,(([]:Tn2),(0,(0,false)))))).2.2.2.1,((List.getD a (Int.toNat b) (ByteArray.empty,(0,(([]:Tn2),(0,(0,false)))))).2.2.2.2.1,(List.getD a (Int.toNat b) (ByteArray.empty,(0,(([]:Tn2),(0,(0,false)))))).2.2.2.2.2))))))
 let j:=(w64 (b+1))
 some (.inl (m,j,e,d,c,f,k,g))) none) none) (
 some (.inr (e,d,c,f,a,g)))
def jdB [LP] (i g:Int) (c:ByteArray) (b:Tn65) (a:Tn34) (d:Tn59) (f:Tn53) (e:Tn30):Option ((ByteArray×Tn65×Tn34×Tn59×Tn53×Tn30)):=
 LP.lp (unc8 (jbD)) (i,g,c,b,a,d,f,e)
def jbE (m d:Int) (e:ByteArray) (c:Tn65) (b:Tn34) (f:Tn59) (g:Tn53) (a:Tn30):Option ((Int×Int×ByteArray×Tn65×Tn34×Tn59×Tn53×Tn30) ⊕ ((ByteArray×Tn65×Tn34×Tn59×Tn53×Tn30))):=
 cond (decide (d<m)) (
 cond (inR d (List.length a)) (
 let j:=(List.getD a (Int.toNat d) (ByteArray.empty,(0,([]:(List Int))))).2.2
 (j6j j).bind fun i=>
 cond (inR d (List.length a)) (
 let k:Tn30:=(List.set a (Int.toNat d) ((List.getD a (Int.toNat d) (ByteArray.empty,(0,([]:(List Int))))).1,((List.getD a (Int.toNat d) (ByteArray.empty,(0,([]:(List Int))))).2.1,i)))
 let l:=(w64 (d+1))
 some (.inl (m,l,e,c,b,f,g,k))) none) none) (
 some (.inr (e,c,b,f,g,a)))
def jdC [LP] (i g:Int) (c:ByteArray) (b:Tn65) (a:Tn34) (d:Tn59) (e:Tn53) (f:Tn30):Option ((ByteArray×Tn65×Tn34×Tn59×Tn53×Tn30)):=
 LP.lp (unc8 (jbE)) (i,g,c,b,a,d,e,f)
def jbF (r q o b:Int) (e:ByteArray) (g:Tn59) (j:Tn53) (i:Tn30) (a:Tn65) (d:Tn34):Option ((Int×Int×Int×Int×ByteArray×Tn59×Tn53×Tn30×Tn65×Tn34) ⊕ ((Int×Int×ByteArray×Tn59×Tn53×Tn30×Tn65×Tn34))):=
 cond (decide (b<o)) (
 cond (inR b (List.length a)) (
 let k:=(List.getD a (Int.toNat b) (ByteArray.empty,(0,((0,0),(0,(0,(([]:(List Int)),(([]:Tn2),(0,0))))))))).2.2.2.2.2.1
 (j6j k).bind fun f=>
 cond (inR b (List.length a)) (
 let m:=(List.getD a (Int.toNat b) (ByteArray.empty,(0,((0,0),(0,(0,(([]:(List Int)),(([]:Tn2),(0,0))))))))).2.2.2.2.2.2.1
 (j2e m).bind fun n=>
 cond (inR b (List.length a)) (
 let c:Tn65:=(List.set a (Int.toNat b) ((List.getD a (Int.toNat b) (ByteArray.empty,(0,((0,0),(0,(0,(([]:(List Int)),(([]:Tn2),(0,0))))))))).1,((List.getD a (Int.toNat b) (ByteArray.empty,(0,((0,0),(0,(0,(([]:(List Int)),(([]:Tn2),(0,0))))))))).2.1,(((List.getD a (Int.toNat b) (ByteArray.empty,(0,((0,0),(0,(0,(([]:(List Int)),(([]:Tn2),(0,0))))))))).2.2.1.1,(List.getD a (Int.toNat b) (ByteArray.empty,(0,((0,0),(0,(0,(([]:(List Int)),(([]:Tn2),(0,0))))))))).2.2.1.2),((List.getD a (Int.toNat b) (ByteArray.empty,(0,((0,0),(0,(0,(([]:(List Int)),(([]:Tn2),(0,0))))))))).2.2.2.1,((List.getD a (Int.toNat b) (ByteArray.empty,(0,((0,0),(0,(0,(([]:(List Int)),(([]:Tn2),(0,0))))))))).2.2.2.2.1,(f,((List.getD a (Int.toNat b) (ByteArray.empty,(0,((0,0),(0,(0,(([]:(List Int)),(([]:Tn2),(0,0))))))))).2.2.2.2.2.2.1,((List.getD a (Int.toNat b) (ByteArray.empty,(0,((0,0),(0,(0,(([]:(List Int)),(([]:Tn2),(0,0))))))))).2.2.2.2.2.2.2.1,(List.getD a (Int.toNat b) (ByteArray.empty,(0,((0,0),(0,(0,(([]:(List Int)),(([]:Tn2),(0,0))))))))).2.2.2.2.2.2.2.2)))))))))
 cond (inR b (List.length c)) (
 let p:Tn65:=(List.set c (Int.toNat b) ((List.getD c (Int.toNat b) (ByteArray.empty,(0,((0,0),(0,(0,(([]:(List Int)),(([]:Tn2),(0,0))))))))).1,((List.getD c (Int.toNat b) (ByteArray.empty,(0,((0,0),(0,(0,(([]:(List Int)),(([]:Tn2),(0,0))))))))).2.1,(((List.getD c (Int.toNat b) (ByteArray.empty,(0,((0,0),(0,(0,(([]:(List Int)),(([]:Tn2),(0,0))))))))).2.2.1.1,(List.getD c (Int.toNat b) (ByteArray.empty,(0,((0,0),(0,(0,(([]:(List Int)),(([]:Tn2),(0,0))))))))).2.2.1.2),((List.getD c (Int.toNat b) (ByteArray.empty,(0,((0,0),(0,(0,(([]:(List Int)),(([]:Tn2),(0,0))))))))).2.2.2.1,((List.getD c (Int.toNat b) (ByteArray.empty,(0,((0,0),(0,(0,(([]:(List Int)),(([]:Tn2),(0,0))))))))).2.2.2.2.1,((List.getD c (Int.toNat b) (ByteArray.empty,(0,((0,0),(0,(0,(([]:(List Int)),(([]:Tn2),(0,0))))))))).2.2.2.2.2.1,(n,((List.getD c (Int.toNat b) (ByteArray.empty,(0,((0,0),(0,(0,(([]:(List Int)),(([]:Tn2),(0,0))))))))).2.2.2.2.2.2.2.1,(List.getD c (Int.toNat b) (ByteArray.empty,(0,((0,0),(0,(0,(([]:(List Int)),(([]:Tn2),(0,0))))))))).2.2.2.2.2.2.2.2)))))))))
 let l:=(w64 (b+1))
 some (.inl (r,q,o,l,e,g,j,i,p,d))) none) none) none) none) (
 some (.inr (r,q,e,g,j,i,a,d)))
def jaQ [LP] (k j i d:Int) (c:ByteArray) (e:Tn59) (g:Tn53) (f:Tn30) (b:Tn65) (a:Tn34):Option ((Int×Int×ByteArray×Tn59×Tn53×Tn30×Tn65×Tn34)):=
 LP.lp (jjO (jbF)) (k,j,i,d,c,e,g,f,b,a)
def jdD [LP] (b:Tn76):Option (Tn59×Tn53×Tn30×ByteArray×Tn65×Tn34):=
 (j4M b.1).bind fun k=>
 (j3E b.2.1).bind fun v=>
 (j2Y b.2.2.1).bind fun u=>
 (j2Z b.2.2.2).bind fun m=>
 cond (Nat.beq (List.length m) 1) (
 let q:=(List.getD m 0 (ByteArray.empty,(([]:Tn65),([]:Tn34))))
 let s:=(Int.ofNat (List.length k))
 (jdA s 0 q.1 q.2.1 q.2.2 k v u).bind fun e=>
 let w:=(Int.ofNat (List.length e.2.2.2.2.1))
 (jdB w 0 e.1 e.2.1 e.2.2.1 e.2.2.2.1 e.2.2.2.2.1 e.2.2.2.2.2).bind fun d=>
 let r:=(Int.ofNat (List.length d.2.2.2.2.2))
 (jdC r 0 d.1 d.2.1 d.2.2.1 d.2.2.2.1 d.2.2.2.2.1 d.2.2.2.2.2).bind fun g=>
 (j2A g.2.1).bind fun l=>
 (j2N g.2.2.1).bind fun n=>
 let p:=(Int.ofNat (List.length l))
 (jaQ 1 0 p 0 g.1 g.2.2.2.1 g.2.2.2.2.1 g.2.2.2.2.2 l n).bind fun a=>
 let c:=(w64 (a.2.1+1))
 cond (decide (c<a.1)) (
 cond (inR c 1) (
 (j2A a.2.2.2.2.2.2.1).bind fun f=>
 (j2N a.2.2.2.2.2.2.2).bind fun i=>
 let j:=(Int.ofNat (List.length f))
 (jaQ a.1 c j 0 a.2.2.1 a.2.2.2.1 a.2.2.2.2.1 a.2.2.2.2.2.1 f i).bind fun o=>
 let t:=(w64 (o.2.1+1))
 none) none) (
 some (a.2.2.2.1,a.2.2.2.2.1,a.2.2.2.2.2.1,a.2.2.1,a.2.2.2.2.2.2.1,a.2.2.2.2.2.2.2))) none
def jbG [LP] (a:Tn76) (b:Int):Option (Int×Tn59×Tn53×Tn30×ByteArray×Tn65×Tn34):=
 (j2L (a.1,(a.2.1,(a.2.2.1,a.2.2.2)))).bind fun e=>
 cond (e != 0) (
 none) (
 (jcf (a.1,(a.2.1,(a.2.2.1,a.2.2.2))) b).bind fun d=>
 cond (!d) (
 none) (
 (jdD (a.1,(a.2.1,(a.2.2.1,a.2.2.2)))).bind fun c=>
 some (0,c.1,c.2.1,c.2.2.1,c.2.2.2.1,c.2.2.2.2.1,c.2.2.2.2.2)))
def j9H [LP] (d:Tn76) (b:Int) (c:Tn28):Option (Tn76×Int):=
 (jbG (d.1,(d.2.1,(d.2.2.1,d.2.2.2))) b).bind fun a=>
 cond (a.1 != 0) (
 some ((([]:Tn59),(([]:Tn53),(([]:Tn30),([]:Tn70)))),a.1)) (
 cond (inR b 1) (
 let g:Tn34:=[(c.1,(c.2.1,(c.2.2.1,(c.2.2.2.1,c.2.2.2.2))))]
 cond (decide (List.length a.2.2.2.2.2.2+List.length g≤j07)) (
 let f:Tn34:=(a.2.2.2.2.2.2++g)
 (j2L (a.2.1,(a.2.2.1,(a.2.2.2.1,[(a.2.2.2.2.1,(a.2.2.2.2.2.1,f))])))).bind fun e=>
 cond (e != 0) (
 some ((([]:Tn59),(([]:Tn53),(([]:Tn30),([]:Tn70)))),e)) (
 some ((a.2.1,(a.2.2.1,(a.2.2.2.1,[(a.2.2.2.2.1,(a.2.2.2.2.2.1,f))]))),0))) none) none)
def j4v (a:Tn34) (b c:Int):Option (Int×Tn34):=
 let f:=(Int.ofNat (List.length a))
 cond (decide (0≤b)&&(decide (b≤c)&&(decide (c≤f)&&decide (f≤(Int.ofNat (List.length a)))))) (
 cond (b==c) (
 some ((Int.ofNat (List.length a)),a)) (
 let g:=(Int.ofNat (List.length a))
 cond (decide (0≤b)&&decide (b≤(Int.ofNat (List.length a)))) (
 cond (decide (0≤c)&&decide (c≤(Int.ofNat (List.length a)))) (
 cond (decide ((Int.toNat b)≤(Int.toNat c))) (
 let e:Tn34:=(List.take (Int.toNat b) a++(List.drop (Int.toNat c) a++List.drop ((Int.toNat b)+(List.length a-(Int.toNat c))) a))
 let d:=(Int.ofNat ((Int.toNat b)+(List.length a-(Int.toNat c))))
 cond (decide (0≤d)&&(decide (d≤g)&&decide (g=(Int.ofNat (List.length e))))) (
 let i:Tn34:=(List.take (Int.toNat d) e++List.replicate (List.length e-(Int.toNat d)) (0,(0,(0,(0,0)))))
 some ((Int.ofNat ((Int.toNat b)+(List.length a-(Int.toNat c)))),i)) none) none) none) none)) none
def j82 [LP] (d:Tn76) (b a:Int):Option (Tn76×Int):=
 (jbG (d.1,(d.2.1,(d.2.2.1,d.2.2.2))) b).bind fun c=>
 cond (c.1 != 0) (
 some ((([]:Tn59),(([]:Tn53),(([]:Tn30),([]:Tn70)))),c.1)) (
 cond (inR b 1) (
 let g:=(Int.ofNat (List.length c.2.2.2.2.2.2))
 cond (cond (decide (a<0)) true (decide (a≥g))) (
 some ((([]:Tn59),(([]:Tn53),(([]:Tn30),([]:Tn70)))),10)) (
 let f:=(w64 (a+1))
 (j4v c.2.2.2.2.2.2 a f).bind fun e=>
 let i:Tn34:=(List.take (Int.toNat e.1) e.2)
 some ((c.2.1,(c.2.2.1,(c.2.2.2.1,[(c.2.2.2.2.1,(c.2.2.2.2.2.1,i))]))),0))) none)
def jdE [LP] (a:Tn57):Option (Tn15×Int):=
 (j1H (a.1,(a.2.1,a.2.2))).bind fun b=>
 some ((a.2.1,b.1),b.2)
def j1E [LP] (g:Tn59) (j c:Int) (i:Tn23):Option ((Tn59×Int×Int×Tn23) ⊕ (Tn23)):=
 cond (decide (c<j)) (
 cond (inR c (List.length g)) (
 let a:=(List.getD g (Int.toNat c) (ByteArray.empty,(0,([]:Tn47))))
 (jdE (a.1,(a.2.1,a.2.2))).bind fun b=>
 let d:Tn23:=[(b.1.1,b.1.2)]
 cond (decide (List.length i+List.length d≤j07)) (
 let e:Tn23:=(i++d)
 let f:=(w64 (c+1))
 some (.inl (g,j,f,e))) none) none) (
 some (.inr i))
def j4b [LP] (c:Tn59) (d a:Int) (b:Tn23):Option (Tn23):=
 LP.lp (unc4 (j1E)) (c,d,a,b)
theorem jbH (b d a c):j4b b d a c=lpK (j1E b d a c) (fun h=>j4b h.1 h.2.1 h.2.2.1 h.2.2.2):=j05 _ _
def j83 [LP] (a:Tn59):Option (Tn23):=
 let b:=(Int.ofNat (List.length a))
 (j4b a b 0 ([]:Tn23)).bind fun c=>
 some c
def j9T [LP] (a:Tn76):Option (Tn78):=
 (j83 a.1).bind fun b=>
 some ((a.1,(a.2.1,(a.2.2.1,a.2.2.2))),b)
def jf6 [LP] (a:Tn76):Option (Tn78×Bool):=
 (j2L (a.1,(a.2.1,(a.2.2.1,a.2.2.2)))).bind fun c=>
 cond (c != 0) (
 some (((([]:Tn59),(([]:Tn53),(([]:Tn30),([]:Tn70)))),([]:Tn23)),false)) (
 (j9T (a.1,(a.2.1,(a.2.2.1,a.2.2.2)))).bind fun b=>
 some (((b.1.1,(b.1.2.1,(b.1.2.2.1,b.1.2.2.2))),b.2),true))
def j21 (a:Tn65):Option (Tn65):=
 some a
def j84 (a:Tn64):Option (Int):=
 cond (a.2.2.2.1==2) (
 let b:=(w64 (7*a.2.2.2.2.1))
 some b) (
 some a.2.2.2.2.1)
def j6Q (a e:Int) (b:Tn2) (d:Int):Option (Bool):=
 cond (inR a (List.length b)) (
 let c:=(List.getD b (Int.toNat a) (0,0))
 some (decide (c.1>d))) none
def j2D (k:Int) (b:Tn2) (a f l:Int):Option ((Int×Tn2×Int×Int×Int) ⊕ (Int)):=
 cond (decide (f<l)) (
 let e:=(w64 (f+l))
 let g:Int:=(IntKind.wrap .u64 e)
 let j:Int:=(Int.fdiv g 2)
 let c:=(w64 j)
 (j6Q c k b a).bind fun i=>
 cond (!i) (
 let d:=(w64 (c+1))
 some (.inl (k,b,a,d,l))) (
 some (.inl (k,b,a,f,c)))) (
 some (.inr f))
def j5h [LP] (c:Int) (b:Tn2) (a d e:Int):Option (Int):=
 LP.lp (unc5 (j2D)) (c,b,a,d,e)
theorem jbI (c b a d e):j5h c b a d e=lpK (j2D c b a d e) (fun h=>j5h h.1 h.2.1 h.2.2.1 h.2.2.2.1 h.2.2.2.2):=j05 _ _
def j85 [LP] (d c:Int) (b:Tn2) (a:Int):Option (Int):=
 (j5h c b a 0 d).bind fun e=>
 some e
def j2w [LP] (a:Tn15) (b:Int):Option (Int):=
 let d:=(Int.ofNat (List.length a.2))
 (j85 d a.1 a.2 b).bind fun c=>
 some c
def j3s (a:Tn15) (b:Int):Option (Int):=
 cond (b==0) (
 some a.1) (
 let c:=(w64 (b-1))
 cond (inR c (List.length a.2)) (
 let d:=(List.getD a.2 (Int.toNat c) (0,0))
 some d.2) none)
def j0O [LP] (l c i:Int) (a:Tn2) (j:Tn17):Option ((Int×Int×Int×Tn2×Tn17) ⊕ (Tn17)):=
 cond (decide (l<c)) (
 (j2w (i,a) l).bind fun b=>
 let o:=(Int.ofNat (List.length a))
 cond (decide (b<o)) (
 cond (inR b (List.length a)) (
 let d:=(List.getD a (Int.toNat b) (0,0))
 let f:Int:=(if d.1<c then d.1 else c:Int)
 (j3s (i,a) b).bind fun m=>
 let e:Tn17:=[(l,(f,m))]
 cond (decide (List.length j+List.length e≤j07)) (
 let n:Tn17:=(j++e)
 some (.inl (f,c,i,a,n))) none) none) (
 (j3s (i,a) b).bind fun k=>
 let g:Tn17:=[(l,(c,k))]
 cond (decide (List.length j+List.length g≤j07)) (
 let p:Tn17:=(j++g)
 some (.inl (c,c,i,a,p))) none)) (
 some (.inr j))
def j1Q [LP] (c d b:Int) (a:Tn2) (e:Tn17):Option (Tn17):=
 LP.lp (unc5 (j0O)) (c,d,b,a,e)
theorem j7g (c d b a e):j1Q c d b a e=lpK (j0O c d b a e) (fun h=>j1Q h.1 h.2.1 h.2.2.1 h.2.2.2.1 h.2.2.2.2):=j05 _ _
def j2E [LP] (b:Tn15) (a c:Int):Option (Tn17):=
 (j1Q a c b.1 b.2 ([]:Tn17)).bind fun d=>
 some d
def j3n (a:(Int×Int)):Option (Int):=
 let b:Int:=(if (-1048576)>a.1 then (-1048576) else a.1:Int)
 let e:Int:=(if 1048576<b then 1048576 else b:Int)
 let d:=(w64 (e*86400))
 let c:=(w64 (d+a.2))
 some c
def j1e (j c k f:Int) (e:Tn17):Option ((Int×Int×Int×Int×Tn17) ⊕ ((Int×Bool) ⊕ Unit)):=
 cond (decide (c<j)) (
 cond (inR c (List.length e)) (
 let a:=(List.getD e (Int.toNat c) (0,(0,0)))
 (j3n (k,f)).bind fun g=>
 let d:=(w64 (g-a.2.2))
 let b:Int:=(if d>a.1 then d else a.1:Int)
 cond (decide (b<a.2.1)) (
 some (.inr (.inl (b,true)))) (
 let i:=(w64 (c+1))
 some (.inl (j,i,k,f,e)))) none) (
 some (.inr (.inr ())))
def j22 [LP] (d b e a:Int) (c:Tn17):Option ((Int×Bool) ⊕ Unit):=
 LP.lp (unc5 (j1e)) (d,b,e,a,c)
theorem j3C (d b e a c):j22 d b e a c=lpK (j1e d b e a c) (fun h=>j22 h.1 h.2.1 h.2.2.1 h.2.2.2.1 h.2.2.2.2):=j05 _ _
def j1s [LP] (a:Tn15) (b:(Int×Int)):Option (Int×Bool):=
 (j2E (a.1,a.2) 0 8589934593).bind fun c=>
 let d:=(Int.ofNat (List.length c))
 (j22 d 0 b.1 b.2 c).bind fun e=>
 sumC e (fun f=>
 some (f.1,f.2)) (fun g=>
 some (0,false))
def j1a [LP] (b:Tn15) (a:Tn64) (c:Int):Option (Int×Bool):=
 cond (decide (c>8589934592)) (
 some (0,false)) (
 cond (a.2.2.2.1 != 0) (
 (j84 (a.1,(a.2.1,((a.2.2.1.1,a.2.2.1.2),(a.2.2.2.1,(a.2.2.2.2.1,(a.2.2.2.2.2.1,(a.2.2.2.2.2.2.1,(a.2.2.2.2.2.2.2.1,a.2.2.2.2.2.2.2.2))))))))).bind fun g=>
 let j:=(w64 (c*g))
 let i:=(w64 (a.2.2.1.1+j))
 (j1s (b.1,b.2) (i,a.2.2.1.2)).bind fun f=>
 some (f.1,f.2)) (
 (j1s (b.1,b.2) (a.2.2.1.1,a.2.2.1.2)).bind fun d=>
 let k:=(w64 (3600*a.2.2.2.2.1))
 let l:=(w64 (k*c))
 let e:=(w64 (d.1+l))
 some (e,(cond d.2 (decide (e≤8589934592)) false))))
def j2F [LP] (a:Tn15) (b:Int):Option (Int):=
 (j2w (a.1,a.2) b).bind fun c=>
 (j3s (a.1,a.2) c).bind fun d=>
 some d
def jek (a:Int):Option ((Int×Int)):=
 let e:=(w64 (Int.tdiv a 86400))
 let i:=(Int.tmod a 86400)
 cond (decide (i<0)) (
 let d:=(w64 (e-1))
 let g:=(w64 (d*86400))
 let f:=(w64 (a-g))
 some (d,f)) (
 let b:=(w64 (e*86400))
 let c:=(w64 (a-b))
 some (e,c))
def j0u [LP] (a:Tn15) (b:Int):Option ((Int×Int)):=
 (j2F (a.1,a.2) b).bind fun d=>
 let e:=(w64 (b+d))
 (jek e).bind fun c=>
 some (c.1,c.2)
def j1j [LP] (p m n:Int) (j:Tn2) (o:ByteArray) (g c b d e:Int) (f:(List Int)) (k:Tn2) (a i:Int):Option ((Int×Int×Int×Tn2×ByteArray×Int×Int×Int×Int×Int×(List Int)×Tn2×Int×Int) ⊕ ((Int×Int×Int×Tn2×ByteArray×Int×Int×Int×Int×Int×(List Int)×Tn2×Int×Int))):=
 cond (decide (m>0)) (
 (j1a (n,j) (o,(g,((c,b),(d,(e,(f,(k,(a,i)))))))) m).bind fun l=>
 cond (cond l.2 (decide (l.1≤p)) false) (
 some (.inr (p,m,n,j,o,g,c,b,d,e,f,k,a,i))) (
 let q:=(w64 (m-1))
 some (.inl (p,q,n,j,o,g,c,b,d,e,f,k,a,i)))) (
 some (.inr (p,m,n,j,o,g,c,b,d,e,f,k,a,i)))
def j3N [LP] (n o l:Int) (j:Tn2) (m:ByteArray) (g c b d e:Int) (f:(List Int)) (k:Tn2) (a i:Int):Option ((Int×Int×Int×Tn2×ByteArray×Int×Int×Int×Int×Int×(List Int)×Tn2×Int×Int)):=
 LP.lp (jtY (j1j)) (n,o,l,j,m,g,c,b,d,e,f,k,a,i)
theorem j9U (n o l j m g c b d e f k a i):j3N n o l j m g c b d e f k a i=lpK (j1j n o l j m g c b d e f k a i) (fun h=>j3N h.1 h.2.1 h.2.2.1 h.2.2.2.1 h.2.2.2.2.1 h.2.2.2.2.2.1 h.2.2.2.2.2.2.1 h.2.2.2.2.2.2.2.1 h.2.2.2.2.2.2.2.2.1 h.2.2.2.2.2.2.2.2.2.1 h.2.2.2.2.2.2.2.2.2.2.1 h.2.2.2.2.2.2.2.2.2.2.2.1 h.2.2.2.2.2.2.2.2.2.2.2.2.1 h.2.2.2.2.2.2.2.2.2.2.2.2.2):=j05 _ _
def j1F [LP] (r o p:Int) (k:Tn2) (q:ByteArray) (i d c e f:Int) (g:(List Int)) (l:Tn2) (b j:Int):Option ((Int×Int×Int×Tn2×ByteArray×Int×Int×Int×Int×Int×(List Int)×Tn2×Int×Int) ⊕ (Int)):=
 let n:=(w64 (o+1))
 (j1a (p,k) (q,(i,((d,c),(e,(f,(g,(l,(b,j)))))))) n).bind fun a=>
 cond (cond (!a.2) true (decide (a.1>r))) (
 some (.inr o)) (
 let m:=(w64 (o+1))
 some (.inl (r,m,p,k,q,i,d,c,e,f,g,l,b,j)))
def j3O [LP] (n o l:Int) (j:Tn2) (m:ByteArray) (g c b d e:Int) (f:(List Int)) (k:Tn2) (a i:Int):Option (Int):=
 LP.lp (jtY (j1F)) (n,o,l,j,m,g,c,b,d,e,f,k,a,i)
theorem jf7 (n o l j m g c b d e f k a i):j3O n o l j m g c b d e f k a i=lpK (j1F n o l j m g c b d e f k a i) (fun h=>j3O h.1 h.2.1 h.2.2.1 h.2.2.2.1 h.2.2.2.2.1 h.2.2.2.2.2.1 h.2.2.2.2.2.2.1 h.2.2.2.2.2.2.2.1 h.2.2.2.2.2.2.2.2.1 h.2.2.2.2.2.2.2.2.2.1 h.2.2.2.2.2.2.2.2.2.2.1 h.2.2.2.2.2.2.2.2.2.2.2.1 h.2.2.2.2.2.2.2.2.2.2.2.2.1 h.2.2.2.2.2.2.2.2.2.2.2.2.2):=j05 _ _
def j1W [LP] (c:Tn15) (a:Tn64) (d:Int):Option (Int):=
 (j1a (c.1,c.2) (a.1,(a.2.1,((a.2.2.1.1,a.2.2.1.2),(a.2.2.2.1,(a.2.2.2.2.1,(a.2.2.2.2.2.1,(a.2.2.2.2.2.2.1,(a.2.2.2.2.2.2.2.1,a.2.2.2.2.2.2.2.2)))))))) 0).bind fun e=>
 cond (cond (!e.2) true (decide (e.1>d))) (
 some (-1)) (
 cond (a.2.2.2.1==0) (
 let k:=(w64 (d-e.1))
 let f:=(w64 (3600*a.2.2.2.2.1))
 cond (!(f==0)) (
 let j:=(w64 (Int.tdiv k f))
 some j) none) (
 (j0u (c.1,c.2) d).bind fun m=>
 let l:=(w64 (m.1-a.2.2.1.1))
 (j84 (a.1,(a.2.1,((a.2.2.1.1,a.2.2.1.2),(a.2.2.2.1,(a.2.2.2.2.1,(a.2.2.2.2.2.1,(a.2.2.2.2.2.2.1,(a.2.2.2.2.2.2.2.1,a.2.2.2.2.2.2.2.2))))))))).bind fun g=>
 cond (!(g==0)) (
 let i:=(w64 (Int.tdiv l g))
 let n:Int:=(if i>0 then i else 0:Int)
 (j3N d n c.1 c.2 a.1 a.2.1 a.2.2.1.1 a.2.2.1.2 a.2.2.2.1 a.2.2.2.2.1 a.2.2.2.2.2.1 a.2.2.2.2.2.2.1 a.2.2.2.2.2.2.2.1 a.2.2.2.2.2.2.2.2).bind fun b=>
 (j3O b.1 b.2.1 b.2.2.1 b.2.2.2.1 b.2.2.2.2.1 b.2.2.2.2.2.1 b.2.2.2.2.2.2.1 b.2.2.2.2.2.2.2.1 b.2.2.2.2.2.2.2.2.1 b.2.2.2.2.2.2.2.2.2.1 b.2.2.2.2.2.2.2.2.2.2.1 b.2.2.2.2.2.2.2.2.2.2.2.1 b.2.2.2.2.2.2.2.2.2.2.2.2.1 b.2.2.2.2.2.2.2.2.2.2.2.2.2).bind fun o=>
 some o) none))
def j3f (a:(Int×Int)):Option (Int):=
 (j4S a.1).bind fun d=>
 let b:=(w64 (d*86400))
 let c:=(w64 (b+a.2))
 some c
def j51 (d:Int) (e:Tn2) (f c:Int):Option ((Int×Tn2×Int×Int) ⊕ (Bool ⊕ Unit)):=
 cond (decide (c<f)) (
 cond (inR c (List.length e)) (
 let a:=(List.getD e (Int.toNat c) (0,0))
 cond (cond (decide (a.1≤d)) (decide (d<a.2)) false) (
 some (.inr (.inl true))) (
 let b:=(w64 (c+1))
 some (.inl (d,e,f,b)))) none) (
 some (.inr (.inr ())))
def j86 [LP] (c:Int) (d:Tn2) (a b:Int):Option (Bool ⊕ Unit):=
 LP.lp (unc4 (j51)) (c,d,a,b)
theorem jeI (b c a d):j86 b c a d=lpK (j51 b c a d) (fun h=>j86 h.1 h.2.1 h.2.2.1 h.2.2.2):=j05 _ _
def jcg [LP] (a:Tn2) (b:Int):Option (Bool):=
 let c:=(Int.ofNat (List.length a))
 (j86 b a c 0).bind fun d=>
 sumC d (fun e=>
 some e) (fun f=>
 some false)
def j9t (a:Int):Option (Bool):=
 some (a != a)
def jaR (b a:Int):Option (Bool):=
 (j9t b).bind fun c=>
 cond c (
 (j9t a).bind fun d=>
 some (cond (!d) true (decide (b<a)))) (
 some (decide (b<a)))
def j6N (a:Int):Option (Bool):=
 some (a != a)
def j1p (b:(List Int)) (e m f l:Int):Option (((List Int)×Int×Int×Int×Int) ⊕ (((List Int)×Int×Int×Int))):=
 cond (decide (f<l)) (
 let d:=(w64 (f+l))
 let k:Int:=(IntKind.wrap .u64 d)
 let i:Int:=(Int.fdiv k 2)
 let a:=(w64 i)
 cond (inR a (List.length b)) (
 let g:=(List.getD b (Int.toNat a) 0)
 (jaR g e).bind fun c=>
 cond c (
 let j:=(w64 (a+1))
 some (.inl (b,e,m,j,l))) (
 some (.inl (b,e,m,f,a)))) none) (
 some (.inr (b,e,m,f)))
def j0V [LP] (e:(List Int)) (b d c a:Int):Option (((List Int)×Int×Int×Int)):=
 LP.lp (unc5 (j1p)) (e,b,d,c,a)
theorem j7h (e b d c a):j0V e b d c a=lpK (j1p e b d c a) (fun h=>j0V h.1 h.2.1 h.2.2.1 h.2.2.2.1 h.2.2.2.2):=j05 _ _
def j0C [LP] (d:(List Int)) (b:Int):Option (Int×Bool):=
 let e:=(Int.ofNat (List.length d))
 (j0V d b e 0 e).bind fun a=>
 cond ((inR a.2.2.2 (List.length a.1)) || !(decide (a.2.2.2<a.2.2.1))) (
 let c:=(List.getD a.1 (Int.toNat a.2.2.2) 0)
 cond ((inR a.2.2.2 (List.length a.1)) || !((decide (a.2.2.2<a.2.2.1))&&(!(c==a.2.1)))) (
 let i:=(List.getD a.1 (Int.toNat a.2.2.2) 0)
 cond (decide (a.2.2.2<a.2.2.1)) (
 cond (c==a.2.1) (
 some (a.2.2.2,true)) (
 (j6N i).bind fun g=>
 cond g (
 (j6N a.2.1).bind fun f=>
 some (a.2.2.2,f)) (
 some (a.2.2.2,false)))) (
 cond ((c==a.2.1) || !false) (
 some (a.2.2.2,false)) none)) none) none
def j3o [LP] (b:Tn78) (a:Tn64) (c:Int):Option (Int×Bool):=
 cond (cond (decide (c<0)) true (decide (c>8589934592))) (
 some (0,false)) (
 cond (inR a.2.1 (List.length b.2)) (
 let g:=(List.getD b.2 (Int.toNat a.2.1) (0,([]:Tn2)))
 (j1W (g.1,g.2) (a.1,(a.2.1,((a.2.2.1.1,a.2.2.1.2),(a.2.2.2.1,(a.2.2.2.2.1,(a.2.2.2.2.2.1,(a.2.2.2.2.2.2.1,(a.2.2.2.2.2.2.2.1,a.2.2.2.2.2.2.2.2)))))))) c).bind fun e=>
 cond (decide (e<0)) (
 some (0,false)) (
 let r:=(Int.ofNat (List.length a.2.2.2.2.2.2.1))
 cond (decide (r>0)) (
 (j0u (g.1,g.2) c).bind fun l=>
 (j3f (l.1,l.2)).bind fun n=>
 (jcg a.2.2.2.2.2.2.1 n).bind fun p=>
 cond (!p) (
 some (0,false)) (
 cond (a.2.2.2.2.2.2.2.2==0) (
 some (e,true)) (
 cond (inR a.2.2.2.2.2.2.2.1 (List.length b.1.2.2.1)) (
 let i:=(List.getD b.1.2.2.1 (Int.toNat a.2.2.2.2.2.2.2.1) (ByteArray.empty,(0,([]:(List Int)))))
 cond (inR i.2.1 (List.length b.2)) (
 let m:=(List.getD b.2 (Int.toNat i.2.1) (0,([]:Tn2)))
 (j0u (m.1,m.2) c).bind fun o=>
 (j0C i.2.2 o.1).bind fun q=>
 some (e,(q.2==(a.2.2.2.2.2.2.2.2==2)))) none) none))) (
 cond (a.2.2.2.2.2.2.2.2==0) (
 some (e,true)) (
 cond (inR a.2.2.2.2.2.2.2.1 (List.length b.1.2.2.1)) (
 let d:=(List.getD b.1.2.2.1 (Int.toNat a.2.2.2.2.2.2.2.1) (ByteArray.empty,(0,([]:(List Int)))))
 cond (inR d.2.1 (List.length b.2)) (
 let f:=(List.getD b.2 (Int.toNat d.2.1) (0,([]:Tn2)))
 (j0u (f.1,f.2) c).bind fun k=>
 (j0C d.2.2 k.1).bind fun j=>
 some (e,(j.2==(a.2.2.2.2.2.2.2.2==2)))) none) none)))) none)
def j1t [LP] (b:Tn78) (a:Tn64) (f:Int):Option (Int):=
 (j3o ((b.1.1,(b.1.2.1,(b.1.2.2.1,b.1.2.2.2))),b.2) (a.1,(a.2.1,((a.2.2.1.1,a.2.2.1.2),(a.2.2.2.1,(a.2.2.2.2.1,(a.2.2.2.2.2.1,(a.2.2.2.2.2.2.1,(a.2.2.2.2.2.2.2.1,a.2.2.2.2.2.2.2.2)))))))) f).bind fun e=>
 cond (!e.2) (
 some (-1)) (
 let c:=(Int.ofNat (List.length a.2.2.2.2.2.1))
 cond (!(c==0)) (
 let d:=(Int.tmod e.1 c)
 cond (inR d (List.length a.2.2.2.2.2.1)) (
 let g:=(List.getD a.2.2.2.2.2.1 (Int.toNat d) 0)
 some g) none) none)
def jch (a:Tn28) (d c:Int):Option (Bool):=
 let b:Bool:=(cond (cond (a.1==0) (a.2.1==d) false) (decide (a.2.2.2.1≤c)) false)
 some (cond b (decide (c<a.2.2.2.2)) false)
def j0G (f:Tn34) (g c i b:Int):Option ((Tn34×Int×Int×Int×Int) ⊕ (Int ⊕ Unit)):=
 cond (decide (b<i)) (
 cond (inR b (List.length f)) (
 let a:=(List.getD f (Int.toNat b) (0,(0,(0,(0,0)))))
 (jch (a.1,(a.2.1,(a.2.2.1,(a.2.2.2.1,a.2.2.2.2)))) g c).bind fun e=>
 cond e (
 some (.inr (.inl b))) (
 let d:=(w64 (b+1))
 some (.inl (f,g,c,i,d)))) none) (
 some (.inr (.inr ())))
def j0s [LP] (e:Tn34) (c a d b:Int):Option (Int ⊕ Unit):=
 LP.lp (unc5 (j0G)) (e,c,a,d,b)
theorem j2K (e c a d b):j0s e c a d b=lpK (j0G e c a d b) (fun h=>j0s h.1 h.2.1 h.2.2.1 h.2.2.2.1 h.2.2.2.2):=j05 _ _
def j0J [LP] (a:Tn34) (c b:Int):Option (Int):=
 let d:=(Int.ofNat (List.length a))
 (j0s a c b d 0).bind fun e=>
 sumC e (fun f=>
 some f) (fun g=>
 some (-1))
def j0D [LP] (c:Tn34) (b a:Int):Option (Bool):=
 (j0J c b a).bind fun d=>
 some (decide (d≥0))
def j87 [LP] (c:Tn69) (a b:Int):Option (Bool):=
 (j0D c.2.2 a b).bind fun d=>
 some d
def j1k [LP] (l:Int) (k:Tn65) (o:Tn59) (g:Tn53) (d:Tn30) (f:Tn70) (i:Tn23) (p:ByteArray) (e:Tn65) (c:Tn34) (n q r:Int):Option ((Int×Tn65×Tn59×Tn53×Tn30×Tn70×Tn23×ByteArray×Tn65×Tn34×Int×Int×Int) ⊕ ((Int×Int) ⊕ (Int×Int))):=
 cond (decide (l≤0)) (
 some (.inr (.inl (q,r)))) (
 cond (decide (l≤Int.ofNat (List.length k))) (
 let j:Int:=(l-1)
 let a:=(List.getD k (Int.toNat j) (ByteArray.empty,(0,((0,0),(0,(0,(([]:(List Int)),(([]:Tn2),(0,0)))))))))
 (j1t ((o,(g,(d,f))),i) (a.1,(a.2.1,((a.2.2.1.1,a.2.2.1.2),(a.2.2.2.1,(a.2.2.2.2.1,(a.2.2.2.2.2.1,(a.2.2.2.2.2.2.1,(a.2.2.2.2.2.2.2.1,a.2.2.2.2.2.2.2.2)))))))) n).bind fun b=>
 cond (decide (b<0)) (
 some (.inl ((l-1),k,o,g,d,f,i,p,e,c,n,q,r))) (
 (j87 (p,(e,c)) b n).bind fun m=>
 cond (!m) (
 some (.inr (.inr (j,b)))) (
 some (.inl ((l-1),k,o,g,d,f,i,p,e,c,n,q,r))))) none)
def j38 [LP] (k:Int) (g:Tn65) (i:Tn59) (e:Tn53) (b:Tn30) (d:Tn70) (f:Tn23) (j:ByteArray) (c:Tn65) (a:Tn34) (m l n:Int):Option ((Int×Int) ⊕ (Int×Int)):=
 LP.lp (jwf (j1k)) (k,g,i,e,b,d,f,j,c,a,m,l,n)
theorem j9V (k g i e b d f j c a m l n):j38 k g i e b d f j c a m l n=lpK (j1k k g i e b d f j c a m l n) (fun h=>j38 h.1 h.2.1 h.2.2.1 h.2.2.2.1 h.2.2.2.2.1 h.2.2.2.2.2.1 h.2.2.2.2.2.2.1 h.2.2.2.2.2.2.2.1 h.2.2.2.2.2.2.2.2.1 h.2.2.2.2.2.2.2.2.2.1 h.2.2.2.2.2.2.2.2.2.2.1 h.2.2.2.2.2.2.2.2.2.2.2.1 h.2.2.2.2.2.2.2.2.2.2.2.2):=j05 _ _
def j3g [LP] (a:Tn78) (b:Tn69) (d:Int):Option (Int×Int):=
 (j21 b.2.1).bind fun c=>
 (j38 (Int.ofNat (List.length c)) c a.1.1 a.1.2.1 a.1.2.2.1 a.1.2.2.2 a.2 b.1 b.2.1 b.2.2 d 0 0).bind fun e=>
 sumC e (fun g=>
 some ((-1),(-1))) (fun f=>
 some (f.1,f.2))
def jf8 (b:Tn28) (a:Int):Option (Bool):=
 some (cond (decide (b.2.2.2.1≤a)) (decide (a<b.2.2.2.2)) false)
def j4w (f e:Int) (d:Tn34) (c b:Int):Option ((Int×Int×Tn34×Int×Int) ⊕ (Int)):=
 cond (decide (b<c)) (
 cond (inR b (List.length d)) (
 let a:=(List.getD d (Int.toNat b) (0,(0,(0,(0,0)))))
 (jf8 (a.1,(a.2.1,(a.2.2.1,(a.2.2.2.1,a.2.2.2.2)))) e).bind fun j=>
 cond (cond (!j) true (a.1==0)) (
 let k:=(w64 (b+1))
 some (.inl (f,e,d,c,k))) (
 cond (a.1==1) (
 let m:=(w64 (b+1))
 some (.inl (a.2.1,e,d,c,m))) (
 cond (a.1 != 2) (
 let n:=(w64 (b+1))
 some (.inl (f,e,d,c,n))) (
 cond (f==a.2.1) (
 let l:=(w64 (b+1))
 some (.inl (a.2.2.1,e,d,c,l))) (
 cond (f==a.2.2.1) (
 let i:=(w64 (b+1))
 some (.inl (a.2.1,e,d,c,i))) (
 let g:=(w64 (b+1))
 some (.inl (f,e,d,c,g)))))))) none) (
 some (.inr f))
def j4N [LP] (c d:Int) (e:Tn34) (a b:Int):Option (Int):=
 LP.lp (unc5 (j4w)) (c,d,e,a,b)
theorem jdF (c d e a b):j4N c d e a b=lpK (j4w c d e a b) (fun h=>j4N h.1 h.2.1 h.2.2.1 h.2.2.2.1 h.2.2.2.2):=j05 _ _
def j8u [LP] (b:Tn34) (a c:Int):Option (Int):=
 let d:=(Int.ofNat (List.length b))
 (j4N a c b d 0).bind fun e=>
 some e
def j74 [LP] (a:Tn78) (c:Tn69) (b:Int):Option (Int):=
 cond (cond (decide (b<0)) true (decide (b>8589934592))) (
 some (-1)) (
 (j3g ((a.1.1,(a.1.2.1,(a.1.2.2.1,a.1.2.2.2))),a.2) (c.1,(c.2.1,c.2.2)) b).bind fun d=>
 (j8u c.2.2 d.2 b).bind fun e=>
 some e)
def j69 [LP] (a:Tn76) (b e:Int):Option (Int):=
 (jf6 (a.1,(a.2.1,(a.2.2.1,a.2.2.2)))).bind fun c=>
 cond (!c.2) (
 some (-1)) (
 (jcf (a.1,(a.2.1,(a.2.2.1,a.2.2.2))) b).bind fun f=>
 cond (!f) (
 some (-1)) (
 cond (inR b (List.length a.2.2.2)) (
 let d:=(List.getD a.2.2.2 (Int.toNat b) (ByteArray.empty,(([]:Tn65),([]:Tn34))))
 (j74 ((c.1.1.1,(c.1.1.2.1,(c.1.1.2.2.1,c.1.1.2.2.2))),c.1.2) (d.1,(d.2.1,d.2.2)) e).bind fun g=>
 some g) none))
def j88 [LP]  : Option (Bool):=
 (jiY).bind fun d=>
 (j9H (d.1,(d.2.1,(d.2.2.1,d.2.2.2))) 0 (2,(0,(1,(432000,518400))))).bind fun c=>
 (j9H (c.1.1,(c.1.2.1,(c.1.2.2.1,c.1.2.2.2))) 0 (1,(2,(0,(432000,475200))))).bind fun a=>
 (j82 (a.1.1,(a.1.2.1,(a.1.2.2.1,a.1.2.2.2))) 0 1).bind fun b=>
 (j82 (a.1.1,(a.1.2.1,(a.1.2.2.1,a.1.2.2.2))) 0 2).bind fun g=>
 let i:Bool:=(cond (cond (cond (c.2==0) (a.2==0) false) (b.2==0) false) (g.2==10) false)
 cond i (
 (j69 (a.1.1,(a.1.2.1,(a.1.2.2.1,a.1.2.2.2))) 0 432000).bind fun j=>
 cond (j==2) (
 (j69 (a.1.1,(a.1.2.1,(a.1.2.2.1,a.1.2.2.2))) 0 475200).bind fun e=>
 cond (e==1) (
 (j69 (b.1.1,(b.1.2.1,(b.1.2.2.1,b.1.2.2.2))) 0 432000).bind fun f=>
 cond (f==1) (
 (j69 (a.1.1,(a.1.2.1,(a.1.2.2.1,a.1.2.2.2))) 0 518400).bind fun k=>
 some (k==0)) (
 some false)) (
 some false)) (
 some false)) (
 some false)
def jiZ (a:(List Int)):Option ((List Int)×Int):=
 some (a,0)
def j04 (b:(List Int)) (a c:Int):Option (Int×(List Int)×Int):=
 let g:=(Int.ofNat (List.length b))
 cond (decide (a≥g)) (
 some (0,b,a)) (
 cond (decide (c<1)) (
 some (0,b,a)) (
 cond (inR a (List.length b)) (
 let i:=(List.getD b (Int.toNat a) 0)
 cond (!(c==0)) (
 let d:=(Int.tmod i c)
 let e:=(w64 (a+1))
 cond (decide (d<0)) (
 let f:=(w64 (d+c))
 some (f,b,e)) (
 some (d,b,e))) none) none))
def j17 (d:(List Int)) (b:Int) (a:(List Int)):Option (Int×(List Int)×Int):=
 let f:=(Int.ofNat (List.length a))
 (j04 d b f).bind fun c=>
 cond (inR c.1 (List.length a)) (
 let e:=(List.getD a (Int.toNat c.1) 0)
 some (e,c.2.1,c.2.2)) none
def j3p (a0:(List Int)) (m:Int) (a:ByteArray):Option (Tn57×(List Int)×Int):=
 let a2:(List Int):=[0,4,(-20),22,48,(-47)]
 (j17 a0 m a2).bind fun n=>
 (j04 n.2.1 n.2.2 2).bind fun s=>
 (j04 s.2.1 s.2.2 3).bind fun v=>
 let a9:=(w64 (s.1*v.1))
 let b0:=(w64 (n.1+a9))
 let c:=(w64 (900*b0))
 (j04 v.2.1 v.2.2 2).bind fun x=>
 let g:=(w64 (2025+x.1))
 (j04 x.2.1 x.2.2 4).bind fun b=>
 cond (b.1==1) (
 let a6:=(w64 (c+3600))
 let a5:Tn47:=[(2025,(g,(3,(5,(6,(7200,a6)))))),(2025,(g,(10,(5,(6,(10800,c))))))]
 some ((a,(c,a5)),b.2.1,b.2.2)) (
 cond (b.1==2) (
 (j04 b.2.1 b.2.2 4).bind fun i=>
 let a3:=(w64 (1+i.1))
 (j04 i.2.1 i.2.2 7).bind fun k=>
 (j04 k.2.1 k.2.2 24).bind fun j=>
 let b7:=(w64 (3600*j.1))
 (j04 j.2.1 j.2.2 8).bind fun t=>
 let b4:=(w64 (1+t.1))
 let a7:=(w64 (1800*b4))
 let b3:=(w64 (c+a7))
 (j04 t.2.1 t.2.2 2).bind fun w=>
 let b2:=(w64 (2+w.1))
 let b5:(List Int):=[2,3,5]
 (j17 w.2.1 w.2.2 b5).bind fun l=>
 (j04 l.2.1 l.2.2 7).bind fun r=>
 (j04 r.2.1 r.2.2 24).bind fun p=>
 let b6:=(w64 (3600*p.1))
 let b1:Tn47:=[(2025,(g,(1,(a3,(k.1,(b7,b3)))))),(2025,(g,(b2,(l.1,(r.1,(b6,c))))))]
 some ((a,(c,b1)),p.2.1,p.2.2)) (
 cond (b.1==3) (
 let a1:(List Int):=[3600,(-3600),82800,(-82800),43200]
 (j17 b.2.1 b.2.2 a1).bind fun f=>
 let u:=(w64 (c+f.1))
 cond (cond (decide (u>64800)) true (decide (u<(-64800)))) (
 (j04 f.2.1 f.2.2 7).bind fun o=>
 (j04 o.2.1 o.2.2 48).bind fun q=>
 let a8:=(w64 (1800*q.1))
 let a4:Tn47:=[(2026,(2026,(1,(2,(o.1,(a8,0))))))]
 some ((a,(c,a4)),q.2.1,q.2.2)) (
 (j04 f.2.1 f.2.2 7).bind fun e=>
 (j04 e.2.1 e.2.2 48).bind fun d=>
 let z:=(w64 (1800*d.1))
 let y:Tn47:=[(2026,(2026,(1,(2,(e.1,(z,u))))))]
 some ((a,(c,y)),d.2.1,d.2.2))) (
 some ((a,(c,([]:Tn47))),b.2.1,b.2.2))))
def jel  : Option ((List ByteArray)):=
 let a:(List ByteArray):=[(ByteArray.mk #[97,100,97]),(ByteArray.mk #[98,111,98]),(ByteArray.mk #[99,108,101,111]),(ByteArray.mk #[100,97,110]),(ByteArray.mk #[101,118,101]),(ByteArray.mk #[102,97,121]),(ByteArray.mk #[103,117,115]),(ByteArray.mk #[104,97,108])]
 some a
def j0X (c:(List Int)) (a b:Int):Option (Bool×(List Int)×Int):=
 (j04 c a b).bind fun d=>
 let e:=(w64 (b-1))
 some ((d.1==e),d.2.1,d.2.2)
def j1U (r p:Int) (q:(List Int)) (g:Int) (l:Tn2):Option ((Int×Int×(List Int)×Int×Tn2) ⊕ (((List Int)×Int×Tn2))):=
 cond (decide (p>0)) (
 (j04 q g 30).bind fun b=>
 let k:=(w64 (3600*b.1))
 let o:=(w64 (r+k))
 (j04 b.2.1 b.2.2 2).bind fun d=>
 let m:=(w64 (60*d.1))
 let f:=(w64 (o+m))
 let i:(List Int):=[3600,28800,43200,86400,61,1]
 (j17 d.2.1 d.2.2 i).bind fun a=>
 let c:=(w64 (f+a.1))
 cond (decide (c>604800)) (
 some (.inr (a.2.1,a.2.2,l))) (
 let e:Tn2:=[(f,c)]
 cond (decide (List.length l+List.length e≤j07)) (
 let j:Tn2:=(l++e)
 let n:=(w64 (p-1))
 some (.inl (c,n,a.2.1,a.2.2,j))) none)) (
 some (.inr (q,g,l)))
def j4m [LP] (e b:Int) (c:(List Int)) (a:Int) (d:Tn2):Option (((List Int)×Int×Tn2)):=
 LP.lp (unc5 (j1U)) (e,b,c,a,d)
theorem j7i (e b c a d):j4m e b c a d=lpK (j1U e b c a d) (fun h=>j4m h.1 h.2.1 h.2.2.1 h.2.2.2.1 h.2.2.2.2):=j05 _ _
def j3t [LP] (d:(List Int)) (a:Int):Option (Tn2×(List Int)×Int):=
 (j04 d a 4).bind fun c=>
 (j4m 0 c.1 c.2.1 c.2.2 ([]:Tn2)).bind fun b=>
 some (b.2.2,b.1,b.2.1)
def j2k (l:Int) (k:(List Int)) (f:Int) (b:Tn59):Option ((Int×(List Int)×Int×Tn59) ⊕ (((List Int)×Int×Tn59))):=
 cond (decide (l>0)) (
 let e:(List ByteArray):=[(ByteArray.mk #[104,101,114,101]),(ByteArray.mk #[116,104,101,114,101])]
 let d:=(Int.ofNat (List.length b))
 cond (inR d (List.length e)) (
 let g:=(List.getD e (Int.toNat d) ByteArray.empty)
 (j3p k f g).bind fun a=>
 let c:Tn59:=[(a.1.1,(a.1.2.1,a.1.2.2))]
 cond (decide (List.length b+List.length c≤j07)) (
 let j:Tn59:=(b++c)
 let i:=(w64 (l-1))
 some (.inl (i,a.2.1,a.2.2,j))) none) none) (
 some (.inr (k,f,b)))
def j5q [LP] (c:Int) (d:(List Int)) (a:Int) (b:Tn59):Option (((List Int)×Int×Tn59)):=
 LP.lp (unc4 (j2k)) (c,d,a,b)
theorem j8v (d c b a):j5q d c b a=lpK (j2k d c b a) (fun h=>j5q h.1 h.2.1 h.2.2.1 h.2.2.2):=j05 _ _
def j2l [LP] (a4:Int) (a5:(List Int)) (q:Int) (e:Tn59) (b:Tn53):Option ((Int×(List Int)×Int×Tn59×Tn53) ⊕ (((List Int)×Int×Tn59×Tn53))):=
 cond (decide (a4>0)) (
 (jel).bind fun l=>
 let m:=(Int.ofNat (List.length b))
 cond (inR m (List.length l)) (
 let n:=(List.getD l (Int.toNat m) ByteArray.empty)
 let u:=(Int.ofNat (List.length e))
 (j04 a5 q u).bind fun c=>
 (j0X c.2.1 c.2.2 3).bind fun d=>
 (j0X d.2.1 d.2.2 2).bind fun a=>
 cond a.1 (
 (j3t a.2.1 a.2.2).bind fun f=>
 let z:(List Int):=[0,40,100,12]
 (j17 f.2.1 f.2.2 z).bind fun i=>
 let a2:=(w64 (3600*i.1))
 let x:(List Int):=[0,11,24,1]
 (j17 i.2.1 i.2.2 x).bind fun j=>
 let v:=(w64 (3600*j.1))
 let p:Tn53:=[(n,(c.1,(f.1,(a2,(v,d.1)))))]
 cond (decide (List.length b+List.length p≤j07)) (
 let a0:Tn53:=(b++p)
 let s:=(w64 (a4-1))
 some (.inl (s,j.2.1,j.2.2,e,a0))) none) (
 let r:(List Int):=[0,40,100,12]
 (j17 a.2.1 a.2.2 r).bind fun g=>
 let a1:=(w64 (3600*g.1))
 let a3:(List Int):=[0,11,24,1]
 (j17 g.2.1 g.2.2 a3).bind fun k=>
 let t:=(w64 (3600*k.1))
 let o:Tn53:=[(n,(c.1,(([]:Tn2),(a1,(t,d.1)))))]
 cond (decide (List.length b+List.length o≤j07)) (
 let y:Tn53:=(b++o)
 let w:=(w64 (a4-1))
 some (.inl (w,k.2.1,k.2.2,e,y))) none)) none) (
 some (.inr (a5,q,e,b)))
def j5r [LP] (d:Int) (e:(List Int)) (c:Int) (b:Tn59) (a:Tn53):Option (((List Int)×Int×Tn59×Tn53)):=
 LP.lp (unc5 (j2l)) (d,e,c,b,a)
theorem j8w (d e c b a):j5r d e c b a=lpK (j2l d e c b a) (fun h=>j5r h.1 h.2.1 h.2.2.1 h.2.2.2.1 h.2.2.2.2):=j05 _ _
def j2m (m p o:Int) (n:(List Int)) (j:Int) (q:ByteArray) (d:Int) (g:Tn59) (e:Tn53) (i:Tn30) (c:(List Int)):Option ((Int×Int×Int×(List Int)×Int×ByteArray×Int×Tn59×Tn53×Tn30×(List Int)) ⊕ ((Int×(List Int)×Int×ByteArray×Int×Tn59×Tn53×Tn30×(List Int)))):=
 cond (decide (p>0)) (
 (j04 n j 6).bind fun a=>
 let k:=(w64 (1+a.1))
 let b:=(w64 (o+k))
 cond (decide (List.length c+List.length [b]≤j07)) (
 let f:(List Int):=(c++[b])
 let l:=(w64 (p-1))
 some (.inl (m,l,b,a.2.1,a.2.2,q,d,g,e,i,f))) none) (
 some (.inr (m,n,j,q,d,g,e,i,c)))
def j5s [LP] (i k g:Int) (j:(List Int)) (e:Int) (l:ByteArray) (a:Int) (c:Tn59) (b:Tn53) (d:Tn30) (f:(List Int)):Option ((Int×(List Int)×Int×ByteArray×Int×Tn59×Tn53×Tn30×(List Int))):=
 LP.lp (jn4 (j2m)) (i,k,g,j,e,l,a,c,b,d,f)
theorem j8x (i k g j e l a c b d f):j5s i k g j e l a c b d f=lpK (j2m i k g j e l a c b d f) (fun h=>j5s h.1 h.2.1 h.2.2.1 h.2.2.2.1 h.2.2.2.2.1 h.2.2.2.2.2.1 h.2.2.2.2.2.2.1 h.2.2.2.2.2.2.2.1 h.2.2.2.2.2.2.2.2.1 h.2.2.2.2.2.2.2.2.2.1 h.2.2.2.2.2.2.2.2.2.2):=j05 _ _
def j1K [LP] (m:Int) (n:(List Int)) (j:Int) (e:Tn59) (f:Tn53) (g:Tn30):Option ((Int×(List Int)×Int×Tn59×Tn53×Tn30) ⊕ (((List Int)×Int×Tn59×Tn53×Tn30))):=
 cond (decide (m>0)) (
 let k:=(Int.ofNat (List.length e))
 (j04 n j k).bind fun b=>
 (j04 b.2.1 b.2.2 4).bind fun c=>
 (j5s m c.1 20454 c.2.1 c.2.2 (ByteArray.mk #[100,97,121,115]) b.1 e f g ([]:(List Int))).bind fun a=>
 let d:Tn30:=[(a.2.2.2.1,(a.2.2.2.2.1,a.2.2.2.2.2.2.2.2))]
 cond (decide (List.length a.2.2.2.2.2.2.2.1+List.length d≤j07)) (
 let i:Tn30:=(a.2.2.2.2.2.2.2.1++d)
 let l:=(w64 (a.1-1))
 some (.inl (l,a.2.1,a.2.2.1,a.2.2.2.2.2.1,a.2.2.2.2.2.2.1,i))) none) (
 some (.inr (n,j,e,f,g)))
def j5t [LP] (e:Int) (f:(List Int)) (d:Int) (b:Tn59) (a:Tn53) (c:Tn30):Option (((List Int)×Int×Tn59×Tn53×Tn30)):=
 LP.lp (unc6 (j1K)) (e,f,d,b,a,c)
theorem j5L (e f d b a c):j5t e f d b a c=lpK (j1K e f d b a c) (fun h=>j5t h.1 h.2.1 h.2.2.1 h.2.2.2.1 h.2.2.2.2.1 h.2.2.2.2.2):=j05 _ _
def j7j [LP] (g:(List Int)) (b:Int):Option (Tn76×(List Int)×Int):=
 (j04 g b 2).bind fun e=>
 let j:=(w64 (1+e.1))
 (j5q j e.2.1 e.2.2 ([]:Tn59)).bind fun i=>
 (j04 i.1 i.2.1 4).bind fun d=>
 let k:=(w64 (1+d.1))
 (j5r k d.2.1 d.2.2 i.2.2 ([]:Tn53)).bind fun f=>
 (j04 f.1 f.2.1 2).bind fun a=>
 (j5t a.1 a.2.1 a.2.2 f.2.2.1 f.2.2.2 ([]:Tn30)).bind fun c=>
 some ((c.2.2.1,(c.2.2.2.1,(c.2.2.2.2,([]:Tn70)))),c.1,c.2.1)
def j2n (y:Int) (a2:(List Int)) (n:Int) (a0:Tn59) (b:Tn53) (p:Tn30) (o:Tn70) (z:ByteArray) (d q f t m e r:Int) (a1:ByteArray) (k g i j s l u:Int) (c:(List Int)):Option ((Int×(List Int)×Int×Tn59×Tn53×Tn30×Tn70×ByteArray×Int×Int×Int×Int×Int×Int×Int×ByteArray×Int×Int×Int×Int×Int×Int×Int×(List Int)) ⊕ (((List Int)×Int×Tn59×Tn53×Tn30×Tn70×ByteArray×Int×Int×Int×Int×Int×Int×Int×ByteArray×Int×Int×Int×Int×Int×Int×Int×(List Int)))):=
 cond (decide (y>0)) (
 let w:=(Int.ofNat (List.length b))
 (j04 a2 n w).bind fun a=>
 cond (decide (List.length c+List.length [a.1]≤j07)) (
 let x:(List Int):=(c++[a.1])
 let v:=(w64 (y-1))
 some (.inl (v,a.2.1,a.2.2,a0,b,p,o,z,d,q,f,t,m,e,r,a1,k,g,i,j,s,l,u,x))) none) (
 some (.inr (a2,n,a0,b,p,o,z,d,q,f,t,m,e,r,a1,k,g,i,j,s,l,u,c)))
def j3S [LP] (u:Int) (y:(List Int)) (l:Int) (w:Tn59) (a:Tn53) (n:Tn30) (m:Tn70) (v:ByteArray) (b o d s k c p:Int) (x:ByteArray) (i e f g q j t:Int) (r:(List Int)):Option (((List Int)×Int×Tn59×Tn53×Tn30×Tn70×ByteArray×Int×Int×Int×Int×Int×Int×Int×ByteArray×Int×Int×Int×Int×Int×Int×Int×(List Int))):=
 LP.lp (jwi (j2n)) (u,y,l,w,a,n,m,v,b,o,d,s,k,c,p,x,i,e,f,g,q,j,t,r)
theorem j8y (u y l w a n m v b o d s k c p x i e f g q j t r):j3S u y l w a n m v b o d s k c p x i e f g q j t r=lpK (j2n u y l w a n m v b o d s k c p x i e f g q j t r) (fun h=>j3S h.1 h.2.1 h.2.2.1 h.2.2.2.1 h.2.2.2.2.1 h.2.2.2.2.2.1 h.2.2.2.2.2.2.1 h.2.2.2.2.2.2.2.1 h.2.2.2.2.2.2.2.2.1 h.2.2.2.2.2.2.2.2.2.1 h.2.2.2.2.2.2.2.2.2.2.1 h.2.2.2.2.2.2.2.2.2.2.2.1 h.2.2.2.2.2.2.2.2.2.2.2.2.1 h.2.2.2.2.2.2.2.2.2.2.2.2.2.1 h.2.2.2.2.2.2.2.2.2.2.2.2.2.2.1 h.2.2.2.2.2.2.2.2.2.2.2.2.2.2.2.1 h.2.2.2.2.2.2.2.2.2.2.2.2.2.2.2.2.1 h.2.2.2.2.2.2.2.2.2.2.2.2.2.2.2.2.2.1 h.2.2.2.2.2.2.2.2.2.2.2.2.2.2.2.2.2.2.1 h.2.2.2.2.2.2.2.2.2.2.2.2.2.2.2.2.2.2.2.1 h.2.2.2.2.2.2.2.2.2.2.2.2.2.2.2.2.2.2.2.2.1 h.2.2.2.2.2.2.2.2.2.2.2.2.2.2.2.2.2.2.2.2.2.1 h.2.2.2.2.2.2.2.2.2.2.2.2.2.2.2.2.2.2.2.2.2.2.1 h.2.2.2.2.2.2.2.2.2.2.2.2.2.2.2.2.2.2.2.2.2.2.2):=j05 _ _
def j7k [LP] (b5:(List Int)) (a1:Int) (c:Tn76) (j:ByteArray):Option (Tn64×(List Int)×Int):=
 let b6:=(Int.ofNat (List.length c.1))
 (j04 b5 a1 b6).bind fun w=>
 (j04 w.2.1 w.2.2 6).bind fun a3=>
 let b9:=(w64 (20454+a3.1))
 let b4:=(w64 (b9-2))
 let c3:(List Int):=[0,32400,7200,9000,79200,1]
 (j17 a3.2.1 a3.2.2 c3).bind fun x=>
 (j04 x.2.1 x.2.2 3).bind fun s=>
 (j04 s.2.1 s.2.2 2).bind fun r=>
 let c1:=(w64 (1+r.1))
 cond (s.1==0) (
 let c4:(List Int):=[6,8,12,24,23,49]
 (j17 r.2.1 r.2.2 c4).bind fun z=>
 (j04 z.2.1 z.2.2 3).bind fun a0=>
 let b7:=(w64 (1+a0.1))
 (j3S b7 a0.2.1 a0.2.2 c.1 c.2.1 c.2.2.1 c.2.2.2 ByteArray.empty 0 0 0 0 0 0 0 j w.1 b4 x.1 s.1 z.1 0 0 ([]:(List Int))).bind fun b=>
 (j0X b.1 b.2.1 2).bind fun t=>
 cond t.1 (
 (j3t t.2.1 t.2.2).bind fun v=>
 (j0X v.2.1 v.2.2 4).bind fun u=>
 let b8:=(Int.ofNat (List.length b.2.2.2.2.1))
 cond (cond u.1 (decide (b8>0)) false) (
 let c2:=(Int.ofNat (List.length b.2.2.2.2.1))
 (j04 u.2.1 u.2.2 c2).bind fun y=>
 (j04 y.2.1 y.2.2 2).bind fun a2=>
 let c0:=(w64 (1+a2.1))
 some ((b.2.2.2.2.2.2.2.2.2.2.2.2.2.2.1,(b.2.2.2.2.2.2.2.2.2.2.2.2.2.2.2.1,((b.2.2.2.2.2.2.2.2.2.2.2.2.2.2.2.2.1,b.2.2.2.2.2.2.2.2.2.2.2.2.2.2.2.2.2.1),(b.2.2.2.2.2.2.2.2.2.2.2.2.2.2.2.2.2.2.1,(b.2.2.2.2.2.2.2.2.2.2.2.2.2.2.2.2.2.2.2.1,(b.2.2.2.2.2.2.2.2.2.2.2.2.2.2.2.2.2.2.2.2.2.2,(v.1,(y.1,c0)))))))),a2.2.1,a2.2.2)) (
 some ((b.2.2.2.2.2.2.2.2.2.2.2.2.2.2.1,(b.2.2.2.2.2.2.2.2.2.2.2.2.2.2.2.1,((b.2.2.2.2.2.2.2.2.2.2.2.2.2.2.2.2.1,b.2.2.2.2.2.2.2.2.2.2.2.2.2.2.2.2.2.1),(b.2.2.2.2.2.2.2.2.2.2.2.2.2.2.2.2.2.2.1,(b.2.2.2.2.2.2.2.2.2.2.2.2.2.2.2.2.2.2.2.1,(b.2.2.2.2.2.2.2.2.2.2.2.2.2.2.2.2.2.2.2.2.2.2,(v.1,(b.2.2.2.2.2.2.2.2.2.2.2.2.2.2.2.2.2.2.2.2.1,b.2.2.2.2.2.2.2.2.2.2.2.2.2.2.2.2.2.2.2.2.2.1)))))))),u.2.1,u.2.2))) (
 (j0X t.2.1 t.2.2 4).bind fun e=>
 let b0:=(Int.ofNat (List.length b.2.2.2.2.1))
 cond (cond e.1 (decide (b0>0)) false) (
 let a5:=(Int.ofNat (List.length b.2.2.2.2.1))
 (j04 e.2.1 e.2.2 a5).bind fun n=>
 (j04 n.2.1 n.2.2 2).bind fun q=>
 let a8:=(w64 (1+q.1))
 some ((b.2.2.2.2.2.2.2.2.2.2.2.2.2.2.1,(b.2.2.2.2.2.2.2.2.2.2.2.2.2.2.2.1,((b.2.2.2.2.2.2.2.2.2.2.2.2.2.2.2.2.1,b.2.2.2.2.2.2.2.2.2.2.2.2.2.2.2.2.2.1),(b.2.2.2.2.2.2.2.2.2.2.2.2.2.2.2.2.2.2.1,(b.2.2.2.2.2.2.2.2.2.2.2.2.2.2.2.2.2.2.2.1,(b.2.2.2.2.2.2.2.2.2.2.2.2.2.2.2.2.2.2.2.2.2.2,(([]:Tn2),(n.1,a8)))))))),q.2.1,q.2.2)) (
 some ((b.2.2.2.2.2.2.2.2.2.2.2.2.2.2.1,(b.2.2.2.2.2.2.2.2.2.2.2.2.2.2.2.1,((b.2.2.2.2.2.2.2.2.2.2.2.2.2.2.2.2.1,b.2.2.2.2.2.2.2.2.2.2.2.2.2.2.2.2.2.1),(b.2.2.2.2.2.2.2.2.2.2.2.2.2.2.2.2.2.2.1,(b.2.2.2.2.2.2.2.2.2.2.2.2.2.2.2.2.2.2.2.1,(b.2.2.2.2.2.2.2.2.2.2.2.2.2.2.2.2.2.2.2.2.2.2,(([]:Tn2),(b.2.2.2.2.2.2.2.2.2.2.2.2.2.2.2.2.2.2.2.2.1,b.2.2.2.2.2.2.2.2.2.2.2.2.2.2.2.2.2.2.2.2.2.1)))))))),e.2.1,e.2.2)))) (
 (j04 r.2.1 r.2.2 3).bind fun o=>
 let a6:=(w64 (1+o.1))
 (j3S a6 o.2.1 o.2.2 c.1 c.2.1 c.2.2.1 c.2.2.2 ByteArray.empty 0 0 0 0 0 0 0 j w.1 b4 x.1 s.1 c1 0 0 ([]:(List Int))).bind fun a=>
 (j0X a.1 a.2.1 2).bind fun f=>
 cond f.1 (
 (j3t f.2.1 f.2.2).bind fun i=>
 (j0X i.2.1 i.2.2 4).bind fun d=>
 let b1:=(Int.ofNat (List.length a.2.2.2.2.1))
 cond (cond d.1 (decide (b1>0)) false) (
 let b2:=(Int.ofNat (List.length a.2.2.2.2.1))
 (j04 d.2.1 d.2.2 b2).bind fun p=>
 (j04 p.2.1 p.2.2 2).bind fun m=>
 let b3:=(w64 (1+m.1))
 some ((a.2.2.2.2.2.2.2.2.2.2.2.2.2.2.1,(a.2.2.2.2.2.2.2.2.2.2.2.2.2.2.2.1,((a.2.2.2.2.2.2.2.2.2.2.2.2.2.2.2.2.1,a.2.2.2.2.2.2.2.2.2.2.2.2.2.2.2.2.2.1),(a.2.2.2.2.2.2.2.2.2.2.2.2.2.2.2.2.2.2.1,(a.2.2.2.2.2.2.2.2.2.2.2.2.2.2.2.2.2.2.2.1,(a.2.2.2.2.2.2.2.2.2.2.2.2.2.2.2.2.2.2.2.2.2.2,(i.1,(p.1,b3)))))))),m.2.1,m.2.2)) (
 some ((a.2.2.2.2.2.2.2.2.2.2.2.2.2.2.1,(a.2.2.2.2.2.2.2.2.2.2.2.2.2.2.2.1,((a.2.2.2.2.2.2.2.2.2.2.2.2.2.2.2.2.1,a.2.2.2.2.2.2.2.2.2.2.2.2.2.2.2.2.2.1),(a.2.2.2.2.2.2.2.2.2.2.2.2.2.2.2.2.2.2.1,(a.2.2.2.2.2.2.2.2.2.2.2.2.2.2.2.2.2.2.2.1,(a.2.2.2.2.2.2.2.2.2.2.2.2.2.2.2.2.2.2.2.2.2.2,(i.1,(a.2.2.2.2.2.2.2.2.2.2.2.2.2.2.2.2.2.2.2.2.1,a.2.2.2.2.2.2.2.2.2.2.2.2.2.2.2.2.2.2.2.2.2.1)))))))),d.2.1,d.2.2))) (
 (j0X f.2.1 f.2.2 4).bind fun g=>
 let a9:=(Int.ofNat (List.length a.2.2.2.2.1))
 cond (cond g.1 (decide (a9>0)) false) (
 let a4:=(Int.ofNat (List.length a.2.2.2.2.1))
 (j04 g.2.1 g.2.2 a4).bind fun l=>
 (j04 l.2.1 l.2.2 2).bind fun k=>
 let a7:=(w64 (1+k.1))
 some ((a.2.2.2.2.2.2.2.2.2.2.2.2.2.2.1,(a.2.2.2.2.2.2.2.2.2.2.2.2.2.2.2.1,((a.2.2.2.2.2.2.2.2.2.2.2.2.2.2.2.2.1,a.2.2.2.2.2.2.2.2.2.2.2.2.2.2.2.2.2.1),(a.2.2.2.2.2.2.2.2.2.2.2.2.2.2.2.2.2.2.1,(a.2.2.2.2.2.2.2.2.2.2.2.2.2.2.2.2.2.2.2.1,(a.2.2.2.2.2.2.2.2.2.2.2.2.2.2.2.2.2.2.2.2.2.2,(([]:Tn2),(l.1,a7)))))))),k.2.1,k.2.2)) (
 some ((a.2.2.2.2.2.2.2.2.2.2.2.2.2.2.1,(a.2.2.2.2.2.2.2.2.2.2.2.2.2.2.2.1,((a.2.2.2.2.2.2.2.2.2.2.2.2.2.2.2.2.1,a.2.2.2.2.2.2.2.2.2.2.2.2.2.2.2.2.2.1),(a.2.2.2.2.2.2.2.2.2.2.2.2.2.2.2.2.2.2.1,(a.2.2.2.2.2.2.2.2.2.2.2.2.2.2.2.2.2.2.2.1,(a.2.2.2.2.2.2.2.2.2.2.2.2.2.2.2.2.2.2.2.2.2.2,(([]:Tn2),(a.2.2.2.2.2.2.2.2.2.2.2.2.2.2.2.2.2.2.2.2.1,a.2.2.2.2.2.2.2.2.2.2.2.2.2.2.2.2.2.2.2.2.2.1)))))))),g.2.1,g.2.2))))
def j4x (e:(List Int)) (a:Int):Option (Int×(List Int)×Int):=
 (j04 e a 576).bind fun d=>
 let j:=(w64 (3600*d.1))
 let f:=(w64 (1767139200+j))
 (j0X d.2.1 d.2.2 3).bind fun c=>
 cond c.1 (
 let i:(List Int):=[(-1),1,1800,3599]
 (j17 c.2.1 c.2.2 i).bind fun b=>
 let g:=(w64 (f+b.1))
 some (g,b.2.1,b.2.2)) (
 some (f,c.2.1,c.2.2))
def j5i (n:(List Int)) (j:Int) (m:Tn76):Option (Tn28×(List Int)×Int):=
 let l:=(Int.ofNat (List.length m.2.1))
 (j04 n j 3).bind fun a=>
 (j04 a.2.1 a.2.2 l).bind fun e=>
 (j4x e.2.1 e.2.2).bind fun b=>
 let o:(List Int):=[3600,86400,7,259200,40000]
 (j17 b.2.1 b.2.2 o).bind fun c=>
 let f:=(w64 (b.1+c.1))
 cond (a.1==2) (
 cond (decide (l<2)) (
 some ((0,(e.1,(0,(b.1,f)))),c.2.1,c.2.2)) (
 let r:=(w64 (e.1+1))
 let p:=(w64 (l-1))
 (j04 c.2.1 c.2.2 p).bind fun g=>
 let q:=(w64 (r+g.1))
 cond (!(l==0)) (
 let k:=(Int.tmod q l)
 cond (a.1==1) (
 (j0X g.2.1 g.2.2 4).bind fun i=>
 cond i.1 (
 some ((a.1,((-1),(k,(b.1,f)))),i.2.1,i.2.2)) (
 some ((a.1,(e.1,(k,(b.1,f)))),i.2.1,i.2.2))) (
 some ((a.1,(e.1,(k,(b.1,f)))),g.2.1,g.2.2))) none)) (
 cond (a.1==1) (
 (j0X c.2.1 c.2.2 4).bind fun d=>
 cond d.1 (
 some ((a.1,((-1),(0,(b.1,f)))),d.2.1,d.2.2)) (
 some ((a.1,(e.1,(0,(b.1,f)))),d.2.1,d.2.2))) (
 some ((a.1,(e.1,(0,(b.1,f)))),c.2.1,c.2.2)))
def j29 [LP] (q o:Int) (p:(List Int)) (j:Int) (n:Tn59) (c:Tn53) (e:Tn30) (r:ByteArray) (d:Tn70) (b:Tn65):Option ((Int×Int×(List Int)×Int×Tn59×Tn53×Tn30×ByteArray×Tn70×Tn65) ⊕ ((Int×(List Int)×Int×Tn59×Tn53×Tn30×ByteArray×Tn70×Tn65))):=
 cond (decide (o>0)) (
 (jel).bind fun g=>
 let f:=(Int.ofNat (List.length b))
 cond (inR f (List.length g)) (
 let k:=(List.getD g (Int.toNat f) ByteArray.empty)
 (j7k p j (n,(c,(e,d))) k).bind fun a=>
 let i:Tn65:=[(a.1.1,(a.1.2.1,((a.1.2.2.1.1,a.1.2.2.1.2),(a.1.2.2.2.1,(a.1.2.2.2.2.1,(a.1.2.2.2.2.2.1,(a.1.2.2.2.2.2.2.1,(a.1.2.2.2.2.2.2.2.1,a.1.2.2.2.2.2.2.2.2))))))))]
 cond (decide (List.length b+List.length i≤j07)) (
 let m:Tn65:=(b++i)
 let l:=(w64 (o-1))
 some (.inl (q,l,a.2.1,a.2.2,n,c,e,r,d,m))) none) none) (
 some (.inr (q,p,j,n,c,e,r,d,b)))
def j3w [LP] (i f:Int) (g:(List Int)) (d:Int) (j:Tn59) (b:Tn53) (e:Tn30) (k:ByteArray) (c:Tn70) (a:Tn65):Option ((Int×(List Int)×Int×Tn59×Tn53×Tn30×ByteArray×Tn70×Tn65)):=
 LP.lp (jjO (j29)) (i,f,g,d,j,b,e,k,c,a)
theorem j7O (i f g d j b e k c a):j3w i f g d j b e k c a=lpK (j29 i f g d j b e k c a) (fun h=>j3w h.1 h.2.1 h.2.2.1 h.2.2.2.1 h.2.2.2.2.1 h.2.2.2.2.2.1 h.2.2.2.2.2.2.1 h.2.2.2.2.2.2.2.1 h.2.2.2.2.2.2.2.2.1 h.2.2.2.2.2.2.2.2.2):=j05 _ _
def j2a (n p:Int) (m:(List Int)) (i:Int) (l:Tn59) (c:Tn53) (e:Tn30) (o:ByteArray) (d:Tn70) (g:Tn65) (b:Tn34):Option ((Int×Int×(List Int)×Int×Tn59×Tn53×Tn30×ByteArray×Tn70×Tn65×Tn34) ⊕ ((Int×(List Int)×Int×Tn59×Tn53×Tn30×ByteArray×Tn70×Tn65×Tn34))):=
 cond (decide (p>0)) (
 (j5i m i (l,(c,(e,d)))).bind fun a=>
 let f:Tn34:=[(a.1.1,(a.1.2.1,(a.1.2.2.1,(a.1.2.2.2.1,a.1.2.2.2.2))))]
 cond (decide (List.length b+List.length f≤j07)) (
 let j:Tn34:=(b++f)
 let k:=(w64 (p-1))
 some (.inl (n,k,a.2.1,a.2.2,l,c,e,o,d,g,j))) none) (
 some (.inr (n,m,i,l,c,e,o,d,g,b)))
def j4T [LP] (i l:Int) (g:(List Int)) (e:Int) (j:Tn59) (c:Tn53) (f:Tn30) (k:ByteArray) (d:Tn70) (b:Tn65) (a:Tn34):Option ((Int×(List Int)×Int×Tn59×Tn53×Tn30×ByteArray×Tn70×Tn65×Tn34)):=
 LP.lp (jn4 (j2a)) (i,l,g,e,j,c,f,k,d,b,a)
theorem j7P (i l g e j c f k d b a):j4T i l g e j c f k d b a=lpK (j2a i l g e j c f k d b a) (fun h=>j4T h.1 h.2.1 h.2.2.1 h.2.2.2.1 h.2.2.2.2.1 h.2.2.2.2.2.1 h.2.2.2.2.2.2.1 h.2.2.2.2.2.2.2.1 h.2.2.2.2.2.2.2.2.1 h.2.2.2.2.2.2.2.2.2.1 h.2.2.2.2.2.2.2.2.2.2):=j05 _ _
def j2b [LP] (r:Int) (q:(List Int)) (k:Int) (s:Tn59) (j:Tn53) (l:Tn30) (e:Tn70):Option ((Int×(List Int)×Int×Tn59×Tn53×Tn30×Tn70) ⊕ (((List Int)×Int×Tn59×Tn53×Tn30×Tn70))):=
 cond (decide (r>0)) (
 let f:(List ByteArray):=[(ByteArray.mk #[102,105,114,115,116]),(ByteArray.mk #[115,101,99,111,110,100]),(ByteArray.mk #[116,104,105,114,100])]
 let p:=(Int.ofNat (List.length e))
 let g:=(Int.tmod p 3)
 cond (inR g (List.length f)) (
 let n:=(List.getD f (Int.toNat g) ByteArray.empty)
 (j04 q k 4).bind fun c=>
 (j3w r c.1 c.2.1 c.2.2 s j l n e ([]:Tn65)).bind fun b=>
 (j04 b.2.1 b.2.2.1 4).bind fun d=>
 (j4T b.1 d.1 d.2.1 d.2.2 b.2.2.2.1 b.2.2.2.2.1 b.2.2.2.2.2.1 b.2.2.2.2.2.2.1 b.2.2.2.2.2.2.2.1 b.2.2.2.2.2.2.2.2 ([]:Tn34)).bind fun a=>
 let i:Tn70:=[(a.2.2.2.2.2.2.1,(a.2.2.2.2.2.2.2.2.1,a.2.2.2.2.2.2.2.2.2))]
 cond (decide (List.length a.2.2.2.2.2.2.2.1+List.length i≤j07)) (
 let m:Tn70:=(a.2.2.2.2.2.2.2.1++i)
 let o:=(w64 (a.1-1))
 some (.inl (o,a.2.1,a.2.2.1,a.2.2.2.1,a.2.2.2.2.1,a.2.2.2.2.2.1,m))) none) none) (
 some (.inr (q,k,s,j,l,e)))
def j4U [LP] (f:Int) (e:(List Int)) (c:Int) (g:Tn59) (a:Tn53) (d:Tn30) (b:Tn70):Option (((List Int)×Int×Tn59×Tn53×Tn30×Tn70)):=
 LP.lp (unc7 (j2b)) (f,e,c,g,a,d,b)
theorem j7Q (f e c g a d b):j4U f e c g a d b=lpK (j2b f e c g a d b) (fun h=>j4U h.1 h.2.1 h.2.2.1 h.2.2.2.1 h.2.2.2.2.1 h.2.2.2.2.2.1 h.2.2.2.2.2.2):=j05 _ _
def j52 [LP] (e:(List Int)) (c f:Int):Option (Tn76×(List Int)×Int):=
 (j7j e c).bind fun a=>
 (j04 a.2.1 a.2.2 f).bind fun d=>
 let g:=(w64 (1+d.1))
 (j4U g d.2.1 d.2.2 a.1.1 a.1.2.1 a.1.2.2.1 ([]:Tn70)).bind fun b=>
 some ((b.2.2.1,(b.2.2.2.1,(b.2.2.2.2.1,b.2.2.2.2.2))),b.1,b.2.1)
def jj0 (a:Int):Option (Bool):=
 some (cond (decide (a≥48)) (decide (a≤57)) false)
def j53 (b:ByteArray) (a:Int):Option ((ByteArray×Int) ⊕ (Bool ⊕ Unit)):=
 let g:=(Int.ofNat (ByteArray.size b))
 cond (decide (a<g)) (
 cond (inR a (ByteArray.size b)) (
 let d:=(j2B b a)
 cond ((inR a (ByteArray.size b)) || !(!(decide (d<97)))) (
 let e:=(j2B b a)
 cond ((inR a (ByteArray.size b)) || !(cond (decide (d<97)) true (decide (e>122)))) (
 let i:=(j2B b a)
 cond (cond (decide (d<97)) true (decide (e>122))) (
 (jj0 i).bind fun c=>
 cond ((inR a (ByteArray.size b)) || !(!c)) (
 let f:=(j2B b a)
 cond ((inR a (ByteArray.size b)) || !(cond (!c) (f != 95) false)) (
 let l:=(j2B b a)
 cond (cond (cond (!c) (f != 95) false) (l != 45) false) (
 some (.inr (.inl false))) (
 let j:=(w64 (a+1))
 some (.inl (b,j)))) none) none) (
 cond ((inR a (ByteArray.size b)) || !false) (
 let m:=(j2B b a)
 cond ((inR a (ByteArray.size b)) || !false) (
 let n:=(j2B b a)
 let k:=(w64 (a+1))
 some (.inl (b,k))) none) none)) none) none) none) (
 some (.inr (.inr ())))
def j89 [LP] (a:ByteArray) (b:Int):Option (Bool ⊕ Unit):=
 LP.lp (unc2 (j53)) (a,b)
theorem jeJ (a b):j89 a b=lpK (j53 a b) (fun h=>j89 h.1 h.2):=j05 _ _
def ji9 [LP] (a:ByteArray):Option (Bool):=
 let c:=(Int.ofNat (ByteArray.size a))
 let f:=(Int.ofNat (ByteArray.size a))
 cond ((inR 0 (ByteArray.size a)) || !(!(cond (decide (c<1)) true (decide (f>24))))) (
 let d:=(j2B a 0)
 let b:Bool:=(cond (cond (decide (c<1)) true (decide (f>24))) true (decide (d<97)))
 cond ((inR 0 (ByteArray.size a)) || !(!b)) (
 let e:=(j2B a 0)
 cond (cond b true (decide (e>122))) (
 some false) (
 (j89 a 0).bind fun g=>
 sumC g (fun i=>
 some i) (fun j=>
 some true))) none) none
def j54 (a:(List ByteArray)) (c d:Int):Option (((List ByteArray)×Int×Int) ⊕ (Int ⊕ Unit)):=
 cond (decide (d<c)) (
 cond (inR d (List.length a)) (
 let f:=(List.getD a (Int.toNat d) ByteArray.empty)
 cond (inR c (List.length a)) (
 let b:=(List.getD a (Int.toNat c) ByteArray.empty)
 cond (ByteArray.toList f==ByteArray.toList b) (
 some (.inr (.inl 4))) (
 let e:=(w64 (d+1))
 some (.inl (a,c,e)))) none) none) (
 some (.inr (.inr ())))
def j9W [LP] (b:(List ByteArray)) (c a:Int):Option (Int ⊕ Unit):=
 LP.lp (unc3 (j54)) (b,c,a)
theorem jeK (b c a):j9W b c a=lpK (j54 b c a) (fun h=>j9W h.1 h.2.1 h.2.2):=j05 _ _
def j9u [LP] (b:(List ByteArray)) (a:Int):Option (Int):=
 cond (inR a (List.length b)) (
 let d:=(List.getD b (Int.toNat a) ByteArray.empty)
 (ji9 d).bind fun c=>
 cond (!c) (
 some 2) (
 (j9W b a 0).bind fun e=>
 sumC e (fun f=>
 some f) (fun g=>
 some 0))) none
def j7R (a b c:Int):Option (Bool):=
 some (cond (decide (a≥b)) (decide (a≤c)) false)
def jdG (a:Tn43):Option (Bool):=
 (j7R a.1 1970 2240).bind fun i=>
 cond i (
 (j7R a.2.1 a.1 2240).bind fun b=>
 cond b (
 (j7R a.2.2.1 1 12).bind fun d=>
 cond d (
 (j7R a.2.2.2.1 1 5).bind fun g=>
 cond g (
 (j7R a.2.2.2.2.1 0 6).bind fun f=>
 cond f (
 (j7R a.2.2.2.2.2.1 0 86399).bind fun e=>
 cond e (
 (j7R a.2.2.2.2.2.2 (-64800) 64800).bind fun c=>
 some c) (
 some false)) (
 some false)) (
 some false)) (
 some false)) (
 some false)) (
 some false)
def j1q (a:Int):Option (Bool):=
 let d:=(Int.tmod a 4)
 let c:=(Int.tmod a 100)
 let b:=(Int.tmod a 400)
 some (cond (d==0) (cond (c != 0) true (b==0)) false)
def jci (b a:Int):Option (Int):=
 cond (a==1) (
 cond (a==1) (
 some 31) (
 cond (a==4) (
 cond (a==4) (
 some 30) (
 cond (a==2) (
 (j1q b).bind fun a4=>
 cond a4 (
 some 29) (
 some 28)) (
 some 0))) (
 cond (a==6) (
 cond (a==6) (
 some 30) (
 cond (a==2) (
 (j1q b).bind fun v=>
 cond v (
 some 29) (
 some 28)) (
 some 0))) (
 cond (a==9) (
 cond (a==9) (
 some 30) (
 cond (a==2) (
 (j1q b).bind fun a2=>
 cond a2 (
 some 29) (
 some 28)) (
 some 0))) (
 cond (a==11) (
 some 30) (
 cond (a==2) (
 (j1q b).bind fun z=>
 cond z (
 some 29) (
 some 28)) (
 some 0))))))) (
 cond (a==3) (
 cond (a==3) (
 some 31) (
 cond (a==4) (
 cond (a==4) (
 some 30) (
 cond (a==2) (
 (j1q b).bind fun a0=>
 cond a0 (
 some 29) (
 some 28)) (
 some 0))) (
 cond (a==6) (
 cond (a==6) (
 some 30) (
 cond (a==2) (
 (j1q b).bind fun x=>
 cond x (
 some 29) (
 some 28)) (
 some 0))) (
 cond (a==9) (
 cond (a==9) (
 some 30) (
 cond (a==2) (
 (j1q b).bind fun a1=>
 cond a1 (
 some 29) (
 some 28)) (
 some 0))) (
 cond (a==11) (
 some 30) (
 cond (a==2) (
 (j1q b).bind fun w=>
 cond w (
 some 29) (
 some 28)) (
 some 0))))))) (
 cond (a==5) (
 cond (a==5) (
 some 31) (
 cond (a==4) (
 cond (a==4) (
 some 30) (
 cond (a==2) (
 (j1q b).bind fun a3=>
 cond a3 (
 some 29) (
 some 28)) (
 some 0))) (
 cond (a==6) (
 cond (a==6) (
 some 30) (
 cond (a==2) (
 (j1q b).bind fun y=>
 cond y (
 some 29) (
 some 28)) (
 some 0))) (
 cond (a==9) (
 cond (a==9) (
 some 30) (
 cond (a==2) (
 (j1q b).bind fun u=>
 cond u (
 some 29) (
 some 28)) (
 some 0))) (
 cond (a==11) (
 some 30) (
 cond (a==2) (
 (j1q b).bind fun c=>
 cond c (
 some 29) (
 some 28)) (
 some 0))))))) (
 cond (a==7) (
 cond (a==7) (
 some 31) (
 cond (a==4) (
 cond (a==4) (
 some 30) (
 cond (a==2) (
 (j1q b).bind fun f=>
 cond f (
 some 29) (
 some 28)) (
 some 0))) (
 cond (a==6) (
 cond (a==6) (
 some 30) (
 cond (a==2) (
 (j1q b).bind fun e=>
 cond e (
 some 29) (
 some 28)) (
 some 0))) (
 cond (a==9) (
 cond (a==9) (
 some 30) (
 cond (a==2) (
 (j1q b).bind fun j=>
 cond j (
 some 29) (
 some 28)) (
 some 0))) (
 cond (a==11) (
 some 30) (
 cond (a==2) (
 (j1q b).bind fun d=>
 cond d (
 some 29) (
 some 28)) (
 some 0))))))) (
 cond (a==8) (
 cond (a==8) (
 some 31) (
 cond (a==4) (
 cond (a==4) (
 some 30) (
 cond (a==2) (
 (j1q b).bind fun g=>
 cond g (
 some 29) (
 some 28)) (
 some 0))) (
 cond (a==6) (
 cond (a==6) (
 some 30) (
 cond (a==2) (
 (j1q b).bind fun o=>
 cond o (
 some 29) (
 some 28)) (
 some 0))) (
 cond (a==9) (
 cond (a==9) (
 some 30) (
 cond (a==2) (
 (j1q b).bind fun p=>
 cond p (
 some 29) (
 some 28)) (
 some 0))) (
 cond (a==11) (
 some 30) (
 cond (a==2) (
 (j1q b).bind fun m=>
 cond m (
 some 29) (
 some 28)) (
 some 0))))))) (
 cond (a==10) (
 cond (a==10) (
 some 31) (
 cond (a==4) (
 cond (a==4) (
 some 30) (
 cond (a==2) (
 (j1q b).bind fun n=>
 cond n (
 some 29) (
 some 28)) (
 some 0))) (
 cond (a==6) (
 cond (a==6) (
 some 30) (
 cond (a==2) (
 (j1q b).bind fun t=>
 cond t (
 some 29) (
 some 28)) (
 some 0))) (
 cond (a==9) (
 cond (a==9) (
 some 30) (
 cond (a==2) (
 (j1q b).bind fun q=>
 cond q (
 some 29) (
 some 28)) (
 some 0))) (
 cond (a==11) (
 some 30) (
 cond (a==2) (
 (j1q b).bind fun i=>
 cond i (
 some 29) (
 some 28)) (
 some 0))))))) (
 cond (a==12) (
 some 31) (
 cond (a==4) (
 cond (a==4) (
 some 30) (
 cond (a==2) (
 (j1q b).bind fun k=>
 cond k (
 some 29) (
 some 28)) (
 some 0))) (
 cond (a==6) (
 cond (a==6) (
 some 30) (
 cond (a==2) (
 (j1q b).bind fun l=>
 cond l (
 some 29) (
 some 28)) (
 some 0))) (
 cond (a==9) (
 cond (a==9) (
 some 30) (
 cond (a==2) (
 (j1q b).bind fun s=>
 cond s (
 some 29) (
 some 28)) (
 some 0))) (
 cond (a==11) (
 some 30) (
 cond (a==2) (
 (j1q b).bind fun r=>
 cond r (
 some 29) (
 some 28)) (
 some 0))))))))))))
def jg8 (a:Tn4):Option (Bool):=
 cond (decide (a.1≥1970)) (
 cond (decide (a.1≤2240)) (
 cond (decide (a.2.1≥1)) (
 cond (decide (a.2.1≤12)) (
 cond (decide (a.2.2≥1)) (
 (jci a.1 a.2.1).bind fun b=>
 some (decide (a.2.2≤b))) (
 some false)) (
 some false)) (
 some false)) (
 some false)) (
 some false)
def jg9 (a:Int):Option (Int):=
 let m:=(w64 (a-1970))
 let i:=(w64 (m*365))
 let j:=(w64 (a-1969))
 let k:=(w64 (Int.tdiv j 4))
 let l:=(w64 (i+k))
 let f:=(w64 (a-1901))
 let e:=(w64 (Int.tdiv f 100))
 let b:=(w64 (l-e))
 let c:=(w64 (a-1601))
 let d:=(w64 (Int.tdiv c 400))
 let g:=(w64 (b+d))
 some g
def j5M (i g f a b:Int):Option ((Int×Int×Int×Int×Int) ⊕ ((Int×Int×Int×Int))):=
 cond (decide (g<a)) (
 (jci f g).bind fun c=>
 let d:=(w64 (i+c))
 let e:=(w64 (g+1))
 some (.inl (d,e,f,a,b))) (
 some (.inr (i,f,a,b)))
def jem [LP] (e d c b a:Int):Option ((Int×Int×Int×Int)):=
 LP.lp (unc5 (j5M)) (e,d,c,b,a)
theorem jga (e d c b a):jem e d c b a=lpK (j5M e d c b a) (fun h=>jem h.1 h.2.1 h.2.2.1 h.2.2.2.1 h.2.2.2.2):=j05 _ _
def jlq [LP] (a:Tn4):Option (Int×Int):=
 (jg8 (a.1,(a.2.1,a.2.2))).bind fun f=>
 cond (!f) (
 some (0,1)) (
 (jg9 a.1).bind fun b=>
 (jem b 1 a.1 a.2.1 a.2.2).bind fun e=>
 let d:=(w64 (e.1+e.2.2.2))
 let c:=(w64 (d-1))
 some (c,0))
def jcj (a:Int):Option (Int):=
 let d:=(Int.tmod a 7)
 let c:=(w64 (d+10))
 let b:=(Int.tmod c 7)
 some b
def j5N (i e f g d a:Int):Option ((Int×Int×Int×Int×Int×Int) ⊕ ((Int×Int×Int×Int×Int))):=
 (jcj a).bind fun c=>
 cond (c != g) (
 let b:=(w64 (a+1))
 some (.inl (i,e,f,g,d,b))) (
 some (.inr (i,e,f,d,a)))
def jen [LP] (f c d e b a:Int):Option ((Int×Int×Int×Int×Int)):=
 LP.lp (unc6 (j5N)) (f,c,d,e,b,a)
theorem jgb (f c d e b a):jen f c d e b a=lpK (j5N f c d e b a) (fun h=>jen h.1 h.2.1 h.2.2.1 h.2.2.2.1 h.2.2.2.2.1 h.2.2.2.2.2):=j05 _ _
def j5O (i g f a:Int):Option ((Int×Int×Int×Int) ⊕ (Int)):=
 let d:=(w64 (a+7))
 (jci i g).bind fun b=>
 let e:=(w64 (f+b))
 cond (decide (d<e)) (
 let c:=(w64 (a+7))
 some (.inl (i,g,f,c))) (
 some (.inr a))
def jeo [LP] (c d a b:Int):Option (Int):=
 LP.lp (unc4 (j5O)) (c,d,a,b)
theorem jgc (d c b a):jeo d c b a=lpK (j5O d c b a) (fun h=>jeo h.1 h.2.1 h.2.2.1 h.2.2.2):=j05 _ _
def jlr [LP] (e c b a:Int):Option (Int×Int):=
 (jlq (e,(c,1))).bind fun f=>
 let k:Bool:=(cond (cond (f.2 != 0) true (decide (b<1))) true (decide (b>5)))
 let g:Bool:=(cond (cond k true (decide (a<0))) true (decide (a>6)))
 cond g (
 some (0,1)) (
 (jen e c b a f.1 f.1).bind fun d=>
 cond (decide (d.2.2.1<5)) (
 let l:=(w64 (d.2.2.1-1))
 let i:=(w64 (7*l))
 let j:=(w64 (d.2.2.2.2+i))
 some (j,0)) (
 (jeo d.1 d.2.1 d.2.2.2.1 d.2.2.2.2).bind fun m=>
 some (m,0)))
def j2o (j:Tn47) (k i d g a:Int) (c:Tn2):Option ((Tn47×Int×Int×Int×Int×Int×Tn2) ⊕ ((Tn47×Int×Int×Int×Int×Int×Tn2))):=
 cond (decide (d>0)) (
 let b:=(w64 (d-1))
 cond (inR b (List.length c)) (
 let f:=(List.getD c (Int.toNat b) (0,0)).1
 cond (decide (f>g)) (
 let e:=(w64 (d-1))
 some (.inl (j,k,i,e,g,a,c))) (
 some (.inr (j,k,i,d,g,a,c)))) none) (
 some (.inr (j,k,i,d,g,a,c)))
def j3T [LP] (d:Tn47) (f b e g a:Int) (c:Tn2):Option ((Tn47×Int×Int×Int×Int×Int×Tn2)):=
 LP.lp (unc7 (j2o)) (d,f,b,e,g,a,c)
theorem j8z (d f b e g a c):j3T d f b e g a c=lpK (j2o d f b e g a c) (fun h=>j3T h.1 h.2.1 h.2.2.1 h.2.2.2.1 h.2.2.2.2.1 h.2.2.2.2.2.1 h.2.2.2.2.2.2):=j05 _ _
def j2p [LP] (c:Tn47) (d u:Int) (v:Tn2):Option ((Tn47×Int×Int×Tn2) ⊕ ((Tn47×Int×Tn2))):=
 cond (inR d (List.length c)) (
 let i:=(List.getD c (Int.toNat d) (0,(0,(0,(0,(0,(0,0)))))))
 cond (decide (u≤i.2.1)) (
 cond (inR d (List.length c)) (
 let j:=(List.getD c (Int.toNat d) (0,(0,(0,(0,(0,(0,0)))))))
 cond (inR d (List.length c)) (
 let l:=(List.getD c (Int.toNat d) (0,(0,(0,(0,(0,(0,0)))))))
 cond (inR d (List.length c)) (
 let n:=(List.getD c (Int.toNat d) (0,(0,(0,(0,(0,(0,0)))))))
 (jlr u j.2.2.1 l.2.2.2.1 n.2.2.2.2.1).bind fun k=>
 let s:=(w64 (k.1*86400))
 cond (inR d (List.length c)) (
 let m:=(List.getD c (Int.toNat d) (0,(0,(0,(0,(0,(0,0)))))))
 let p:=(w64 (s+m.2.2.2.2.2.1))
 cond (inR d (List.length c)) (
 let q:=(List.getD c (Int.toNat d) (0,(0,(0,(0,(0,(0,0)))))))
 let o:=(Int.ofNat (List.length v))
 (j3T c d u o p q.2.2.2.2.2.2 v).bind fun a=>
 let g:Tn2:=[(a.2.2.2.2.1,a.2.2.2.2.2.1)]
 cond (decide (List.length a.2.2.2.2.2.2+List.length g≤j07)) (
 let b:Tn2:=(a.2.2.2.2.2.2++g)
 let e:=(w64 (a.2.2.2.1+1))
 cond (decide (0≤e)&&decide (e≤(Int.ofNat (List.length b)))) (
 cond (decide (0≤a.2.2.2.1)&&decide (a.2.2.2.1≤(Int.ofNat (List.length b)))) (
 let f:Tn2:=(over b (Int.toNat e) (List.drop (Int.toNat a.2.2.2.1) b))
 let w:=(Int.ofNat (min (List.length (List.drop (Int.toNat a.2.2.2.1) b)) (List.length b-(Int.toNat e))))
 cond (inR a.2.2.2.1 (List.length f)) (
 let t:Tn2:=(List.set f (Int.toNat a.2.2.2.1) (a.2.2.2.2.1,a.2.2.2.2.2.1))
 let r:=(w64 (a.2.2.1+1))
 some (.inl (a.1,a.2.1,r,t))) none) none) none) none) none) none) none) none) none) (
 some (.inr (c,d,v)))) none
def j5u [LP] (c:Tn47) (a b:Int) (d:Tn2):Option ((Tn47×Int×Tn2)):=
 LP.lp (unc4 (j2p)) (c,a,b,d)
theorem j8A (c d a b):j5u c d a b=lpK (j2p c d a b) (fun h=>j5u h.1 h.2.1 h.2.2.1 h.2.2.2):=j05 _ _
def j2q [LP] (c:Tn47) (e:Int) (g:Tn2):Option ((Tn47×Int×Tn2) ⊕ (Tn2)):=
 let b:=(Int.ofNat (List.length c))
 cond (decide (e<b)) (
 cond (inR e (List.length c)) (
 let f:=(List.getD c (Int.toNat e) (0,(0,(0,(0,(0,(0,0)))))))
 (j5u c e f.1 g).bind fun a=>
 let d:=(w64 (a.2.1+1))
 some (.inl (a.1,d,a.2.2))) none) (
 some (.inr g))
def j3U [LP] (b:Tn47) (a:Int) (c:Tn2):Option (Tn2):=
 LP.lp (unc3 (j2q)) (b,a,c)
theorem j8B (b a c):j3U b a c=lpK (j2q b a c) (fun h=>j3U h.1 h.2.1 h.2.2):=j05 _ _
def j7l [LP] (a:Tn47):Option (Tn2):=
 (j3U a 0 ([]:Tn2)).bind fun b=>
 some b
def j2r (o c:Int) (n:ByteArray) (d:Int) (b:Tn47):Option ((Int×Int×ByteArray×Int×Tn47) ⊕ (Int ⊕ (Int×ByteArray×Int×Tn47))):=
 let l:=(Int.ofNat (List.length b))
 cond (decide (c<l)) (
 cond (inR c (List.length b)) (
 let a:=(List.getD b (Int.toNat c) (0,(0,(0,(0,(0,(0,0)))))))
 (jdG (a.1,(a.2.1,(a.2.2.1,(a.2.2.2.1,(a.2.2.2.2.1,(a.2.2.2.2.2.1,a.2.2.2.2.2.2))))))).bind fun f=>
 cond (!f) (
 some (.inr (.inl 1))) (
 cond (inR c (List.length b)) (
 let k:=(List.getD b (Int.toNat c) (0,(0,(0,(0,(0,(0,0)))))))
 cond (inR c (List.length b)) (
 let i:=(List.getD b (Int.toNat c) (0,(0,(0,(0,(0,(0,0)))))))
 let j:=(w64 (k.2.1-i.1))
 let g:=(w64 (j+1))
 let e:=(w64 (o+g))
 let m:=(w64 (c+1))
 some (.inl (e,m,n,d,b))) none) none)) none) (
 some (.inr (.inr (o,n,d,b))))
def j3V [LP] (e d:Int) (c:ByteArray) (b:Int) (a:Tn47):Option (Int ⊕ (Int×ByteArray×Int×Tn47)):=
 LP.lp (unc5 (j2r)) (e,d,c,b,a)
theorem j8C (e d c b a):j3V e d c b a=lpK (j2r e d c b a) (fun h=>j3V h.1 h.2.1 h.2.2.1 h.2.2.2.1 h.2.2.2.2):=j05 _ _
def j2s (q d:Int) (e c:Tn2):Option ((Int×Int×Tn2×Tn2) ⊕ (Int ⊕ Tn2)):=
 let r:=(Int.ofNat (List.length c))
 cond (decide (d<r)) (
 cond (inR d (List.length c)) (
 let o:=(List.getD c (Int.toNat d) (0,0)).2
 cond (o==q) (
 let p:=(w64 (d+1))
 some (.inl (q,p,e,c))) (
 cond (inR d (List.length c)) (
 let w:=(List.getD c (Int.toNat d) (0,0)).1
 let b:=(w64 (w-q))
 cond (inR d (List.length c)) (
 let a:=(List.getD c (Int.toNat d) (0,0)).2
 let x:=(w64 (a-q))
 (j7R x (-86399) 86399).bind fun t=>
 cond (!t) (
 some (.inr (.inl 6))) (
 (j7R b 0 8589934592).bind fun y=>
 cond (!y) (
 some (.inr (.inl 6))) (
 let s:=(Int.ofNat (List.length e))
 cond (decide (s>0)) (
 let k:=(Int.ofNat (List.length e))
 let i:=(w64 (k-1))
 cond (inR i (List.length e)) (
 let l:=(List.getD e (Int.toNat i) (0,0)).1
 let n:=(w64 (b-l))
 cond (decide (n<604800)) (
 some (.inr (.inl 6))) (
 let f:Tn2:=[(b,a)]
 cond (decide (List.length e+List.length f≤j07)) (
 let j:Tn2:=(e++f)
 let u:=(w64 (d+1))
 some (.inl (a,u,j,c))) none)) none) (
 let g:Tn2:=[(b,a)]
 cond (decide (List.length e+List.length g≤j07)) (
 let m:Tn2:=(e++g)
 let v:=(w64 (d+1))
 some (.inl (a,v,m,c))) none)))) none) none)) none) (
 some (.inr (.inr e)))
def j3W [LP] (b c:Int) (d a:Tn2):Option (Int ⊕ Tn2):=
 LP.lp (unc4 (j2s)) (b,c,d,a)
theorem j8D (a c d b):j3W a c d b=lpK (j2s a c d b) (fun h=>j3W h.1 h.2.1 h.2.2.1 h.2.2.2):=j05 _ _
def j1f [LP] (a:Tn57):Option (Tn2×Int):=
 (j7R a.2.1 (-64800) 64800).bind fun d=>
 cond (!d) (
 some (([]:Tn2),1)) (
 let f:=(Int.ofNat (List.length a.2.2))
 cond (decide (f>16)) (
 some (([]:Tn2),5)) (
 (j3V 0 0 a.1 a.2.1 a.2.2).bind fun i=>
 sumC i (fun k=>
 some (([]:Tn2),k)) (fun j=>
 cond (decide (j.1>640)) (
 some (([]:Tn2),5)) (
 (j7l j.2.2.2).bind fun b=>
 (j3W j.2.2.1 0 ([]:Tn2) b).bind fun g=>
 sumC g (fun e=>
 some (([]:Tn2),e)) (fun c=>
 some (c,0))))))
def j5P [LP] (a:Tn57):Option (Int):=
 (j1f (a.1,(a.2.1,a.2.2))).bind fun b=>
 some b.2
def j3x (g:Bool) (f:Int) (j:ByteArray) (i:Int) (a:Tn47):Option ((Bool×Int×ByteArray×Int×Tn47) ⊕ (Bool)):=
 let e:=(Int.ofNat (List.length a))
 cond (decide (f<e)) (
 cond ((inR f (List.length a)) || !g) (
 let d:=(List.getD a (Int.toNat f) (0,(0,(0,(0,(0,(0,0)))))))
 let b:=(Int.tmod d.2.2.2.2.2.2 60)
 let c:=(w64 (f+1))
 some (.inl ((cond g (b==0) false),c,j,i,a))) none) (
 some (.inr g))
def j6E [LP] (d:Bool) (e:Int) (c:ByteArray) (b:Int) (a:Tn47):Option (Bool):=
 LP.lp (unc5 (j3x)) (d,e,c,b,a)
theorem jbJ (d e c b a):j6E d e c b a=lpK (j3x d e c b a) (fun h=>j6E h.1 h.2.1 h.2.2.1 h.2.2.2.1 h.2.2.2.2):=j05 _ _
def j9X [LP] (a:Tn57):Option (Bool):=
 let c:=(Int.tmod a.2.1 60)
 (j6E (c==0) 0 a.1 a.2.1 a.2.2).bind fun b=>
 some b
def j4y [LP] (c:Int) (d:Tn59) (o:Tn53) (n:Tn30) (l:Tn70) (p:(List ByteArray)):Option ((Int×Tn59×Tn53×Tn30×Tn70×(List ByteArray)) ⊕ (Int ⊕ Unit)):=
 let m:=(Int.ofNat (List.length d))
 cond (decide (c<m)) (
 cond (inR c (List.length d)) (
 let e:=(List.getD d (Int.toNat c) (ByteArray.empty,(0,([]:Tn47))))
 cond (decide (List.length p+List.length [e.1]≤j07)) (
 let g:(List ByteArray):=(p++[e.1])
 (j9u g c).bind fun f=>
 cond (f != 0) (
 some (.inr (.inl f))) (
 cond (inR c (List.length d)) (
 let a:=(List.getD d (Int.toNat c) (ByteArray.empty,(0,([]:Tn47))))
 (j5P (a.1,(a.2.1,a.2.2))).bind fun i=>
 cond ((inR c (List.length d)) || !(!(i != 0))) (
 let b:=(List.getD d (Int.toNat c) (ByteArray.empty,(0,([]:Tn47))))
 cond (i != 0) (
 some (.inr (.inl 8))) (
 (j9X (b.1,(b.2.1,b.2.2))).bind fun k=>
 cond (!k) (
 some (.inr (.inl 8))) (
 let j:=(w64 (c+1))
 some (.inl (j,d,o,n,l,g))))) none) none)) none) none) (
 some (.inr (.inr ())))
def j8E [LP] (f:Int) (d:Tn59) (c:Tn53) (b:Tn30) (a:Tn70) (e:(List ByteArray)):Option (Int ⊕ Unit):=
 LP.lp (unc6 (j4y)) (f,d,c,b,a,e)
theorem jdH (f d c b a e):j8E f d c b a e=lpK (j4y f d c b a e) (fun h=>j8E h.1 h.2.1 h.2.2.1 h.2.2.2.1 h.2.2.2.2.1 h.2.2.2.2.2):=j05 _ _
def jj1 [LP] (a:Tn76):Option (Int):=
 (j8E 0 a.1 a.2.1 a.2.2.1 a.2.2.2 ([]:(List ByteArray))).bind fun b=>
 sumC b (fun c=>
 some c) (fun d=>
 some 0)
def j6F (a b c:Int):Option (Bool):=
 some (cond (decide (a≥b)) (decide (a≤c)) false)
def j4z (b:Tn2) (a:Int):Option ((Tn2×Int) ⊕ (Int ⊕ Unit)):=
 let m:=(Int.ofNat (List.length b))
 cond (decide (a<m)) (
 cond (inR a (List.length b)) (
 let f:=(List.getD b (Int.toNat a) (0,0))
 cond (decide (f.1<0)) (
 some (.inr (.inl 1))) (
 cond (inR a (List.length b)) (
 let j:=(List.getD b (Int.toNat a) (0,0))
 cond (inR a (List.length b)) (
 let i:=(List.getD b (Int.toNat a) (0,0))
 cond (decide (j.1≥i.2)) (
 some (.inr (.inl 1))) (
 cond (inR a (List.length b)) (
 let g:=(List.getD b (Int.toNat a) (0,0))
 cond (decide (g.2>604800)) (
 some (.inr (.inl 1))) (
 cond (decide (a>0)) (
 cond (inR a (List.length b)) (
 let e:=(List.getD b (Int.toNat a) (0,0))
 let c:=(w64 (a-1))
 cond (inR c (List.length b)) (
 let k:=(List.getD b (Int.toNat c) (0,0))
 cond (decide (e.1<k.2)) (
 some (.inr (.inl 6))) (
 let d:=(w64 (a+1))
 some (.inl (b,d)))) none) none) (
 let l:=(w64 (a+1))
 some (.inl (b,l))))) none)) none) none)) none) (
 some (.inr (.inr ())))
def j8F [LP] (a:Tn2) (b:Int):Option (Int ⊕ Unit):=
 LP.lp (unc2 (j4z)) (a,b)
theorem jdI (a b):j8F a b=lpK (j4z a b) (fun h=>j8F h.1 h.2):=j05 _ _
def jbK [LP] (a:Tn2):Option (Int):=
 let b:=(Int.ofNat (List.length a))
 cond (decide (b>14)) (
 some 5) (
 (j8F a 0).bind fun c=>
 sumC c (fun d=>
 some d) (fun e=>
 some 0))
def jgd (a:Int):Option (Bool):=
 (j6F a 0 604800).bind fun b=>
 let c:=(Int.tmod a 3600)
 some (cond b (c==0) false)
def j3X [LP] (e:Int) (r:Tn59) (b:Tn53) (q:Tn30) (p:Tn70) (s:(List ByteArray)):Option ((Int×Tn59×Tn53×Tn30×Tn70×(List ByteArray)) ⊕ (Int ⊕ Unit)):=
 let o:=(Int.ofNat (List.length b))
 cond (decide (e<o)) (
 cond (inR e (List.length b)) (
 let a:=(List.getD b (Int.toNat e) (ByteArray.empty,(0,(([]:Tn2),(0,(0,false))))))
 cond (decide (List.length s+List.length [a.1]≤j07)) (
 let d:(List ByteArray):=(s++[a.1])
 let f:Bool:=(ByteArray.toList a.1==ByteArray.toList (ByteArray.mk #[110,111,98,111,100,121]))
 cond f (
 some (.inr (.inl 2))) (
 (j9u d e).bind fun c=>
 cond (c != 0) (
 some (.inr (.inl c))) (
 let j:=(Int.ofNat (List.length r))
 let l:=(w64 (j-1))
 (j6F a.2.1 0 l).bind fun g=>
 cond (!g) (
 some (.inr (.inl 3))) (
 (jbK a.2.2.1).bind fun i=>
 cond (i != 0) (
 some (.inr (.inl 8))) (
 (jgd a.2.2.2.1).bind fun k=>
 cond (!k) (
 some (.inr (.inl 1))) (
 (jgd a.2.2.2.2.1).bind fun n=>
 cond (!n) (
 some (.inr (.inl 1))) (
 let m:=(w64 (e+1))
 some (.inl (m,r,b,q,p,d))))))))) none) none) (
 some (.inr (.inr ())))
def j7m [LP] (f:Int) (d:Tn59) (c:Tn53) (b:Tn30) (a:Tn70) (e:(List ByteArray)):Option (Int ⊕ Unit):=
 LP.lp (unc6 (j3X)) (f,d,c,b,a,e)
theorem jcW (f d c b a e):j7m f d c b a e=lpK (j3X f d c b a e) (fun h=>j7m h.1 h.2.1 h.2.2.1 h.2.2.2.1 h.2.2.2.2.1 h.2.2.2.2.2):=j05 _ _
def jh0 [LP] (a:Tn76):Option (Int):=
 (j7m 0 a.1 a.2.1 a.2.2.1 a.2.2.2 ([]:(List ByteArray))).bind fun b=>
 sumC b (fun c=>
 some c) (fun d=>
 some 0)
def j9I  : Option (Int):=
 (jg9 2241).bind fun b=>
 let a:=(w64 (b-1))
 some a
def j2O (p g:Int) (m:Tn59) (e:Tn53) (d:Tn30) (b:Tn70) (o:ByteArray) (c:Int) (a:(List Int)) (n:(List ByteArray)):Option ((Int×Int×Tn59×Tn53×Tn30×Tn70×ByteArray×Int×(List Int)×(List ByteArray)) ⊕ (Int ⊕ (Int×Tn59×Tn53×Tn30×Tn70×ByteArray×Int×(List Int)×(List ByteArray)))):=
 let f:=(Int.ofNat (List.length a))
 cond (decide (g<f)) (
 cond (inR g (List.length a)) (
 let l:=(List.getD a (Int.toNat g) 0)
 (j9I).bind fun j=>
 (j6F l 0 j).bind fun k=>
 cond (!k) (
 some (.inr (.inl 1))) (
 let i:=(w64 (g+1))
 some (.inl (p,i,m,e,d,b,o,c,a,n)))) none) (
 some (.inr (.inr (p,m,e,d,b,o,c,a,n))))
def j55 [LP] (k g:Int) (f:Tn59) (e:Tn53) (c:Tn30) (a:Tn70) (j:ByteArray) (b:Int) (d:(List Int)) (i:(List ByteArray)):Option (Int ⊕ (Int×Tn59×Tn53×Tn30×Tn70×ByteArray×Int×(List Int)×(List ByteArray))):=
 LP.lp (jjO (j2O)) (k,g,f,e,c,a,j,b,d,i)
theorem j9Y (k g f e c a j b d i):j55 k g f e c a j b d i=lpK (j2O k g f e c a j b d i) (fun h=>j55 h.1 h.2.1 h.2.2.1 h.2.2.2.1 h.2.2.2.2.1 h.2.2.2.2.2.1 h.2.2.2.2.2.2.1 h.2.2.2.2.2.2.2.1 h.2.2.2.2.2.2.2.2.1 h.2.2.2.2.2.2.2.2.2):=j05 _ _
def j3Y (o d:Int) (m:Tn59) (f:Tn53) (e:Tn30) (c:Tn70) (p:ByteArray) (l:Int) (a:(List Int)) (n:(List ByteArray)):Option ((Int×Int×Tn59×Tn53×Tn30×Tn70×ByteArray×Int×(List Int)×(List ByteArray)) ⊕ (Int ⊕ (Int×Tn59×Tn53×Tn30×Tn70×(List ByteArray)))):=
 let j:=(Int.ofNat (List.length a))
 cond (decide (d<j)) (
 cond (inR d (List.length a)) (
 let i:=(List.getD a (Int.toNat d) 0)
 let b:=(w64 (d-1))
 cond (inR b (List.length a)) (
 let g:=(List.getD a (Int.toNat b) 0)
 cond (decide (i≤g)) (
 some (.inr (.inl 6))) (
 let k:=(w64 (d+1))
 some (.inl (o,k,m,f,e,c,p,l,a,n)))) none) none) (
 some (.inr (.inr (o,m,f,e,c,n))))
def j56 [LP] (k g:Int) (f:Tn59) (e:Tn53) (c:Tn30) (a:Tn70) (j:ByteArray) (b:Int) (d:(List Int)) (i:(List ByteArray)):Option (Int ⊕ (Int×Tn59×Tn53×Tn30×Tn70×(List ByteArray))):=
 LP.lp (jjO (j3Y)) (k,g,f,e,c,a,j,b,d,i)
theorem jf9 (k g f e c a j b d i):j56 k g f e c a j b d i=lpK (j3Y k g f e c a j b d i) (fun h=>j56 h.1 h.2.1 h.2.2.1 h.2.2.2.1 h.2.2.2.2.1 h.2.2.2.2.2.1 h.2.2.2.2.2.2.1 h.2.2.2.2.2.2.2.1 h.2.2.2.2.2.2.2.2.1 h.2.2.2.2.2.2.2.2.2):=j05 _ _
def j2P [LP] (g:Int) (t:Tn59) (o:Tn53) (d:Tn30) (q:Tn70) (v:(List ByteArray)):Option ((Int×Tn59×Tn53×Tn30×Tn70×(List ByteArray)) ⊕ (Int ⊕ Unit)):=
 let i:=(Int.ofNat (List.length d))
 cond (decide (g<i)) (
 cond (inR g (List.length d)) (
 let a:=(List.getD d (Int.toNat g) (ByteArray.empty,(0,([]:(List Int)))))
 cond (decide (List.length v+List.length [a.1]≤j07)) (
 let e:(List ByteArray):=(v++[a.1])
 (j9u e g).bind fun f=>
 cond (f != 0) (
 some (.inr (.inl f))) (
 let j:=(Int.ofNat (List.length t))
 let m:=(w64 (j-1))
 (j6F a.2.1 0 m).bind fun k=>
 cond (!k) (
 some (.inr (.inl 3))) (
 let l:=(Int.ofNat (List.length a.2.2))
 cond (decide (l>64)) (
 some (.inr (.inl 5))) (
 (j55 g 0 t o d q a.1 a.2.1 a.2.2 e).bind fun p=>
 sumC p (fun u=>
 some (.inr (.inl u))) (fun b=>
 (j56 b.1 1 b.2.1 b.2.2.1 b.2.2.2.1 b.2.2.2.2.1 b.2.2.2.2.2.1 b.2.2.2.2.2.2.1 b.2.2.2.2.2.2.2.1 b.2.2.2.2.2.2.2.2).bind fun r=>
 sumC r (fun s=>
 some (.inr (.inl s))) (fun c=>
 let n:=(w64 (c.1+1))
 some (.inl (n,c.2.1,c.2.2.1,c.2.2.2.1,c.2.2.2.2.1,c.2.2.2.2.2)))))))) none) none) (
 some (.inr (.inr ())))
def j57 [LP] (f:Int) (d:Tn59) (c:Tn53) (b:Tn30) (a:Tn70) (e:(List ByteArray)):Option (Int ⊕ Unit):=
 LP.lp (unc6 (j2P)) (f,d,c,b,a,e)
theorem j9Z (f d c b a e):j57 f d c b a e=lpK (j2P f d c b a e) (fun h=>j57 h.1 h.2.1 h.2.2.1 h.2.2.2.1 h.2.2.2.2.1 h.2.2.2.2.2):=j05 _ _
def jck [LP] (a:Tn76):Option (Int):=
 (j57 0 a.1 a.2.1 a.2.2.1 a.2.2.2 ([]:(List ByteArray))).bind fun b=>
 sumC b (fun c=>
 some c) (fun d=>
 some 0)
def j4A (s:Int) (v:Tn59) (b:Tn53) (l:Tn30) (e:Tn70) (u:ByteArray) (d c m f g:Int) (a:(List Int)) (k:Tn2) (i j:Int):Option ((Int×Tn59×Tn53×Tn30×Tn70×ByteArray×Int×Int×Int×Int×Int×(List Int)×Tn2×Int×Int) ⊕ (Int ⊕ (Tn59×Tn53×Tn30×Tn70×ByteArray×Int×Int×Int×Int×Int×(List Int)×Tn2×Int×Int))):=
 let t:=(Int.ofNat (List.length a))
 cond (decide (s<t)) (
 cond (inR s (List.length a)) (
 let q:=(List.getD a (Int.toNat s) 0)
 let p:=(Int.ofNat (List.length b))
 let o:=(w64 (p-1))
 (j6F q 0 o).bind fun n=>
 cond (!n) (
 some (.inr (.inl 3))) (
 let r:=(w64 (s+1))
 some (.inl (r,v,b,l,e,u,d,c,m,f,g,a,k,i,j)))) none) (
 some (.inr (.inr (v,b,l,e,u,d,c,m,f,g,a,k,i,j))))
def j8G [LP] (o:Int) (p:Tn59) (k:Tn53) (b:Tn30) (j:Tn70) (n:ByteArray) (i d f c m:Int) (e:(List Int)) (a:Tn2) (g l:Int):Option (Int ⊕ (Tn59×Tn53×Tn30×Tn70×ByteArray×Int×Int×Int×Int×Int×(List Int)×Tn2×Int×Int)):=
 LP.lp (jtZ (j4A)) (o,p,k,b,j,n,i,d,f,c,m,e,a,g,l)
theorem jdJ (o p k b j n i d f c m e a g l):j8G o p k b j n i d f c m e a g l=lpK (j4A o p k b j n i d f c m e a g l) (fun h=>j8G h.1 h.2.1 h.2.2.1 h.2.2.2.1 h.2.2.2.2.1 h.2.2.2.2.2.1 h.2.2.2.2.2.2.1 h.2.2.2.2.2.2.2.1 h.2.2.2.2.2.2.2.2.1 h.2.2.2.2.2.2.2.2.2.1 h.2.2.2.2.2.2.2.2.2.2.1 h.2.2.2.2.2.2.2.2.2.2.2.1 h.2.2.2.2.2.2.2.2.2.2.2.2.1 h.2.2.2.2.2.2.2.2.2.2.2.2.2.1 h.2.2.2.2.2.2.2.2.2.2.2.2.2.2):=j05 _ _
def jdK [LP] (b:Tn76) (a:Tn64):Option (Int):=
 let q:=(Int.ofNat (List.length b.1))
 let s:=(w64 (q-1))
 (j6F a.2.1 0 s).bind fun p=>
 cond (!p) (
 some 3) (
 (j9I).bind fun f=>
 (j6F a.2.2.1.1 1 f).bind fun r=>
 cond (!r) (
 some 1) (
 (j6F a.2.2.1.2 0 86399).bind fun l=>
 cond (!l) (
 some 1) (
 (j6F a.2.2.2.1 0 2).bind fun k=>
 cond (!k) (
 some 1) (
 (j6F a.2.2.2.2.1 1 400).bind fun g=>
 cond (!g) (
 some 1) (
 let m:=(Int.ofNat (List.length a.2.2.2.2.2.1))
 cond (m==0) (
 some 7) (
 let i:=(Int.ofNat (List.length a.2.2.2.2.2.1))
 cond (decide (i>12)) (
 some 5) (
 (j8G 0 b.1 b.2.1 b.2.2.1 b.2.2.2 a.1 a.2.1 a.2.2.1.1 a.2.2.1.2 a.2.2.2.1 a.2.2.2.2.1 a.2.2.2.2.2.1 a.2.2.2.2.2.2.1 a.2.2.2.2.2.2.2.1 a.2.2.2.2.2.2.2.2).bind fun v=>
 sumC v (fun w=>
 some w) (fun d=>
 (jbK d.2.2.2.2.2.2.2.2.2.2.2.1).bind fun o=>
 cond (o != 0) (
 some 8) (
 (j6F d.2.2.2.2.2.2.2.2.2.2.2.2.2 0 2).bind fun u=>
 cond (!u) (
 some 1) (
 let j:=(Int.ofNat (List.length d.2.2.1))
 let t:=(w64 (j-1))
 cond (d.2.2.2.2.2.2.2.2.2.2.2.2.2 != 0) (
 (j6F d.2.2.2.2.2.2.2.2.2.2.2.2.1 0 t).bind fun n=>
 cond (!n) (
 some 3) (
 let e:Bool:=(cond (d.2.2.2.2.2.2.2.2.2.2.2.2.2==0) (d.2.2.2.2.2.2.2.2.2.2.2.2.1 != 0) false)
 cond e (
 some 1) (
 some 0))) (
 let c:Bool:=(cond (d.2.2.2.2.2.2.2.2.2.2.2.2.2==0) (d.2.2.2.2.2.2.2.2.2.2.2.2.1 != 0) false)
 cond c (
 some 1) (
 some 0))))))))))))
def jge (d:Tn76) (a:Tn28):Option (Int):=
 let g:=(Int.ofNat (List.length d.2.1))
 (j6F a.1 0 2).bind fun l=>
 cond (!l) (
 some 1) (
 let j:=(w64 (g-1))
 (j6F a.2.1 0 j).bind fun e=>
 let f:=(w64 (g-1))
 cond (cond (!e) (cond (a.1 != 1) true (a.2.1 != (-1))) false) (
 cond ((!(a.1==2)) || !(!true)) (
 some 3) none) (
 cond (a.1==2) (
 (j6F a.2.2.1 0 f).bind fun i=>
 cond (!i) (
 some 3) (
 cond (cond (a.1 != 2) (a.2.2.1 != 0) false) (
 some 1) (
 cond (cond (a.1==2) (a.2.1==a.2.2.1) false) (
 some 4) (
 cond (decide (a.2.2.2.1<0)) (
 some 1) (
 cond (decide (a.2.2.2.2<0)) (
 some 1) (
 let m:=(w64 (Int.tdiv a.2.2.2.2 86400))
 (j9I).bind fun k=>
 cond (decide (m>k)) (
 some 1) (
 cond (decide (a.2.2.2.1≥a.2.2.2.2)) (
 some 6) (
 some 0)))))))) (
 cond (cond (a.1 != 2) (a.2.2.1 != 0) false) (
 some 1) (
 cond (cond (a.1==2) (a.2.1==a.2.2.1) false) (
 some 4) (
 cond (decide (a.2.2.2.1<0)) (
 some 1) (
 cond (decide (a.2.2.2.2<0)) (
 some 1) (
 let b:=(w64 (Int.tdiv a.2.2.2.2 86400))
 (j9I).bind fun c=>
 cond (decide (b>c)) (
 some 1) (
 cond (decide (a.2.2.2.1≥a.2.2.2.2)) (
 some 6) (
 some 0)))))))))
def j2Q [LP] (s d:Int) (o:Tn59) (f:Tn53) (e:Tn30) (c:Tn70) (q:ByteArray) (b:Tn65) (l:Tn34) (p r:(List ByteArray)):Option ((Int×Int×Tn59×Tn53×Tn30×Tn70×ByteArray×Tn65×Tn34×(List ByteArray)×(List ByteArray)) ⊕ (Int ⊕ (Int×Tn59×Tn53×Tn30×Tn70×ByteArray×Tn65×Tn34×(List ByteArray)))):=
 let n:=(Int.ofNat (List.length b))
 cond (decide (d<n)) (
 cond (inR d (List.length b)) (
 let j:=(List.getD b (Int.toNat d) (ByteArray.empty,(0,((0,0),(0,(0,(([]:(List Int)),(([]:Tn2),(0,0)))))))))
 cond (decide (List.length r+List.length [j.1]≤j07)) (
 let i:(List ByteArray):=(r++[j.1])
 (j9u i d).bind fun k=>
 cond (k != 0) (
 some (.inr (.inl k))) (
 cond (inR d (List.length b)) (
 let a:=(List.getD b (Int.toNat d) (ByteArray.empty,(0,((0,0),(0,(0,(([]:(List Int)),(([]:Tn2),(0,0)))))))))
 (jdK (o,(f,(e,c))) (a.1,(a.2.1,((a.2.2.1.1,a.2.2.1.2),(a.2.2.2.1,(a.2.2.2.2.1,(a.2.2.2.2.2.1,(a.2.2.2.2.2.2.1,(a.2.2.2.2.2.2.2.1,a.2.2.2.2.2.2.2.2))))))))).bind fun g=>
 cond (g != 0) (
 some (.inr (.inl g))) (
 let m:=(w64 (d+1))
 some (.inl (s,m,o,f,e,c,q,b,l,p,i)))) none)) none) none) (
 some (.inr (.inr (s,o,f,e,c,q,b,l,p))))
def j58 [LP] (l g:Int) (f:Tn59) (e:Tn53) (c:Tn30) (a:Tn70) (j:ByteArray) (b:Tn65) (d:Tn34) (i k:(List ByteArray)):Option (Int ⊕ (Int×Tn59×Tn53×Tn30×Tn70×ByteArray×Tn65×Tn34×(List ByteArray))):=
 LP.lp (jn4 (j2Q)) (l,g,f,e,c,a,j,b,d,i,k)
theorem ja0 (l g f e c a j b d i k):j58 l g f e c a j b d i k=lpK (j2Q l g f e c a j b d i k) (fun h=>j58 h.1 h.2.1 h.2.2.1 h.2.2.2.1 h.2.2.2.2.1 h.2.2.2.2.2.1 h.2.2.2.2.2.2.1 h.2.2.2.2.2.2.2.1 h.2.2.2.2.2.2.2.2.1 h.2.2.2.2.2.2.2.2.2.1 h.2.2.2.2.2.2.2.2.2.2):=j05 _ _
def j2R (n g:Int) (k:Tn59) (e:Tn53) (d:Tn30) (c:Tn70) (o:ByteArray) (l:Tn65) (b:Tn34) (m:(List ByteArray)):Option ((Int×Int×Tn59×Tn53×Tn30×Tn70×ByteArray×Tn65×Tn34×(List ByteArray)) ⊕ (Int ⊕ (Int×Tn59×Tn53×Tn30×Tn70×(List ByteArray)))):=
 let i:=(Int.ofNat (List.length b))
 cond (decide (g<i)) (
 cond (inR g (List.length b)) (
 let a:=(List.getD b (Int.toNat g) (0,(0,(0,(0,0)))))
 (jge (k,(e,(d,c))) (a.1,(a.2.1,(a.2.2.1,(a.2.2.2.1,a.2.2.2.2))))).bind fun f=>
 cond (f != 0) (
 some (.inr (.inl f))) (
 let j:=(w64 (g+1))
 some (.inl (n,j,k,e,d,c,o,l,b,m)))) none) (
 some (.inr (.inr (n,k,e,d,c,m))))
def j59 [LP] (k f:Int) (g:Tn59) (e:Tn53) (d:Tn30) (b:Tn70) (j:ByteArray) (c:Tn65) (a:Tn34) (i:(List ByteArray)):Option (Int ⊕ (Int×Tn59×Tn53×Tn30×Tn70×(List ByteArray))):=
 LP.lp (jjO (j2R)) (k,f,g,e,d,b,j,c,a,i)
theorem ja1 (k f g e d b j c a i):j59 k f g e d b j c a i=lpK (j2R k f g e d b j c a i) (fun h=>j59 h.1 h.2.1 h.2.2.1 h.2.2.2.1 h.2.2.2.2.1 h.2.2.2.2.2.1 h.2.2.2.2.2.2.1 h.2.2.2.2.2.2.2.1 h.2.2.2.2.2.2.2.2.1 h.2.2.2.2.2.2.2.2.2):=j05 _ _
def j2S [LP] (g:Int) (t:Tn59) (m:Tn53) (o:Tn30) (d:Tn70) (s:(List ByteArray)):Option ((Int×Tn59×Tn53×Tn30×Tn70×(List ByteArray)) ⊕ (Int ⊕ Unit)):=
 let i:=(Int.ofNat (List.length d))
 cond (decide (g<i)) (
 cond (inR g (List.length d)) (
 let a:=(List.getD d (Int.toNat g) (ByteArray.empty,(([]:Tn65),([]:Tn34))))
 cond (decide (List.length s+List.length [a.1]≤j07)) (
 let f:(List ByteArray):=(s++[a.1])
 (j9u f g).bind fun e=>
 cond (e != 0) (
 some (.inr (.inl e))) (
 let l:=(Int.ofNat (List.length a.2.1))
 let k:=(Int.ofNat (List.length a.2.2))
 cond (cond (decide (l>6)) true (decide (k>48))) (
 some (.inr (.inl 5))) (
 (j58 g 0 t m o d a.1 a.2.1 a.2.2 f ([]:(List ByteArray))).bind fun n=>
 sumC n (fun r=>
 some (.inr (.inl r))) (fun b=>
 (j59 b.1 0 b.2.1 b.2.2.1 b.2.2.2.1 b.2.2.2.2.1 b.2.2.2.2.2.1 b.2.2.2.2.2.2.1 b.2.2.2.2.2.2.2.1 b.2.2.2.2.2.2.2.2).bind fun p=>
 sumC p (fun q=>
 some (.inr (.inl q))) (fun c=>
 let j:=(w64 (c.1+1))
 some (.inl (j,c.2.1,c.2.2.1,c.2.2.2.1,c.2.2.2.2.1,c.2.2.2.2.2))))))) none) none) (
 some (.inr (.inr ())))
def j5a [LP] (f:Int) (d:Tn59) (c:Tn53) (b:Tn30) (a:Tn70) (e:(List ByteArray)):Option (Int ⊕ Unit):=
 LP.lp (unc6 (j2S)) (f,d,c,b,a,e)
theorem ja2 (f d c b a e):j5a f d c b a e=lpK (j2S f d c b a e) (fun h=>j5a h.1 h.2.1 h.2.2.1 h.2.2.2.1 h.2.2.2.2.1 h.2.2.2.2.2):=j05 _ _
def jcl [LP] (a:Tn76):Option (Int):=
 (j5a 0 a.1 a.2.1 a.2.2.1 a.2.2.2 ([]:(List ByteArray))).bind fun b=>
 sumC b (fun c=>
 some c) (fun d=>
 some 0)
def j8H [LP] (a:Tn76):Option (Int):=
 let k:=(Int.ofNat (List.length a.1))
 let g:=(Int.ofNat (List.length a.2.1))
 let j:=(Int.ofNat (List.length a.2.2.1))
 let e:Bool:=(cond (cond (decide (k>16)) true (decide (g>32))) true (decide (j>8)))
 let i:=(Int.ofNat (List.length a.2.2.2))
 cond (cond e true (decide (i>12))) (
 some 5) (
 (jj1 (a.1,(a.2.1,(a.2.2.1,a.2.2.2)))).bind fun b=>
 cond (b != 0) (
 some b) (
 (jh0 (a.1,(a.2.1,(a.2.2.1,a.2.2.2)))).bind fun d=>
 cond (d != 0) (
 some d) (
 (jck (a.1,(a.2.1,(a.2.2.1,a.2.2.2)))).bind fun c=>
 cond (c != 0) (
 some c) (
 (jcl (a.1,(a.2.1,(a.2.2.1,a.2.2.2)))).bind fun f=>
 some f))))
def jls (b:Tn76) (a:Int) (d:Tn34):Option (Tn76):=
 cond (decide (List.length ([]:Tn70)+List.length b.2.2.2≤j07)) (
 let c:Tn70:=(([]:Tn70)++b.2.2.2)
 cond (inR a (List.length c)) (
 let e:Tn70:=(List.set c (Int.toNat a) ((List.getD c (Int.toNat a) (ByteArray.empty,(([]:Tn65),([]:Tn34)))).1,((List.getD c (Int.toNat a) (ByteArray.empty,(([]:Tn65),([]:Tn34)))).2.1,d)))
 some (b.1,(b.2.1,(b.2.2.1,e)))) none) none
def jdL [LP] (b:Tn76) (a:Int) (d:Tn28):Option (Tn76×Int):=
 (j8H (b.1,(b.2.1,(b.2.2.1,b.2.2.2)))).bind fun l=>
 cond (l != 0) (
 some ((([]:Tn59),(([]:Tn53),(([]:Tn30),([]:Tn70)))),8)) (
 let k:=(Int.ofNat (List.length b.2.2.2))
 cond (cond (decide (a<0)) true (decide (a≥k))) (
 some ((([]:Tn59),(([]:Tn53),(([]:Tn30),([]:Tn70)))),3)) (
 cond (inR a (List.length b.2.2.2)) (
 let g:=(List.getD b.2.2.2 (Int.toNat a) (ByteArray.empty,(([]:Tn65),([]:Tn34))))
 cond (decide (List.length ([]:Tn34)+List.length g.2.2≤j07)) (
 let i:Tn34:=(([]:Tn34)++g.2.2)
 let f:Tn34:=[(d.1,(d.2.1,(d.2.2.1,(d.2.2.2.1,d.2.2.2.2))))]
 cond (decide (List.length i+List.length f≤j07)) (
 let j:Tn34:=(i++f)
 (jls (b.1,(b.2.1,(b.2.2.1,b.2.2.2))) a j).bind fun c=>
 (j8H (c.1,(c.2.1,(c.2.2.1,c.2.2.2)))).bind fun e=>
 cond (e != 0) (
 some ((([]:Tn59),(([]:Tn53),(([]:Tn30),([]:Tn70)))),e)) (
 some ((c.1,(c.2.1,(c.2.2.1,c.2.2.2))),0))) none) none) none))
def j2c [LP] (k l:Int) (m:(List Int)) (f:Int) (i:Tn59) (c:Tn53) (e:Tn30) (d:Tn70):Option ((Int×Int×(List Int)×Int×Tn59×Tn53×Tn30×Tn70) ⊕ (((List Int)×Int×Tn59×Tn53×Tn30×Tn70))):=
 cond (decide (l>0)) (
 (j5i m f (i,(c,(e,d)))).bind fun a=>
 (jdL (i,(c,(e,d))) k (a.1.1,(a.1.2.1,(a.1.2.2.1,(a.1.2.2.2.1,a.1.2.2.2.2))))).bind fun b=>
 cond (b.2==0) (
 let g:=(w64 (l-1))
 some (.inl (k,g,a.2.1,a.2.2,b.1.1,b.1.2.1,b.1.2.2.1,b.1.2.2.2))) (
 let j:=(w64 (l-1))
 some (.inl (k,j,a.2.1,a.2.2,i,c,e,d)))) (
 some (.inr (m,f,i,c,e,d)))
def j3y [LP] (e g:Int) (f:(List Int)) (c:Int) (i:Tn59) (a:Tn53) (d:Tn30) (b:Tn70):Option (((List Int)×Int×Tn59×Tn53×Tn30×Tn70)):=
 LP.lp (unc8 (j2c)) (e,g,f,c,i,a,d,b)
theorem j7S (e g f c i a d b):j3y e g f c i a d b=lpK (j2c e g f c i a d b) (fun h=>j3y h.1 h.2.1 h.2.2.1 h.2.2.2.1 h.2.2.2.2.1 h.2.2.2.2.2.1 h.2.2.2.2.2.2.1 h.2.2.2.2.2.2.2):=j05 _ _
def j94 [LP] (e:(List Int)) (d:Int) (b:Tn76) (a f:Int):Option (Tn76×(List Int)×Int):=
 (j3y a f e d b.1 b.2.1 b.2.2.1 b.2.2.2).bind fun c=>
 some ((c.2.2.1,(c.2.2.2.1,(c.2.2.2.2.1,c.2.2.2.2.2))),c.1,c.2.1)
def j4B (n:Int) (q:Tn59) (p:Tn53) (o:Tn30) (b:Tn70) (f:Tn59) (e:Tn53) (g:Tn30) (c:Tn70):Option ((Int×Tn59×Tn53×Tn30×Tn70×Tn59×Tn53×Tn30×Tn70) ⊕ ((Tn59×Tn53×Tn30×Tn70))):=
 let j:=(Int.ofNat (List.length b))
 cond (decide (n<j)) (
 cond (inR n (List.length b)) (
 let a:=(List.getD b (Int.toNat n) (ByteArray.empty,(([]:Tn65),([]:Tn34))))
 cond (decide (List.length ([]:Tn65)+List.length a.2.1≤j07)) (
 let k:Tn65:=(([]:Tn65)++a.2.1)
 cond (decide (List.length ([]:Tn34)+List.length a.2.2≤j07)) (
 let l:Tn34:=(([]:Tn34)++a.2.2)
 let d:Tn70:=[(a.1,(k,l))]
 cond (decide (List.length c+List.length d≤j07)) (
 let i:Tn70:=(c++d)
 let m:=(w64 (n+1))
 some (.inl (m,q,p,o,b,f,e,g,i))) none) none) none) none) (
 some (.inr (f,e,g,c)))
def j8I [LP] (j:Int) (i:Tn59) (g:Tn53) (f:Tn30) (a:Tn70) (d:Tn59) (b:Tn53) (e:Tn30) (c:Tn70):Option ((Tn59×Tn53×Tn30×Tn70)):=
 LP.lp (unc9 (j4B)) (j,i,g,f,a,d,b,e,c)
theorem jdM (j i g f a d b e c):j8I j i g f a d b e c=lpK (j4B j i g f a d b e c) (fun h=>j8I h.1 h.2.1 h.2.2.1 h.2.2.2.1 h.2.2.2.2.1 h.2.2.2.2.2.1 h.2.2.2.2.2.2.1 h.2.2.2.2.2.2.2.1 h.2.2.2.2.2.2.2.2):=j05 _ _
def jbL [LP] (a:Tn76):Option (Tn59×Tn53×Tn30×Tn70):=
 cond (decide (List.length ([]:Tn59)+List.length a.1≤j07)) (
 let e:Tn59:=(([]:Tn59)++a.1)
 cond (decide (List.length ([]:Tn53)+List.length a.2.1≤j07)) (
 let d:Tn53:=(([]:Tn53)++a.2.1)
 cond (decide (List.length ([]:Tn30)+List.length a.2.2.1≤j07)) (
 let c:Tn30:=(([]:Tn30)++a.2.2.1)
 (j8I 0 a.1 a.2.1 a.2.2.1 a.2.2.2 e d c ([]:Tn70)).bind fun b=>
 some (b.1,b.2.1,b.2.2.1,b.2.2.2)) none) none) none
def jsy [LP] (b:Tn76) (a c:Int):Option (Bool):=
 let d:=(Int.ofNat (List.length b.2.2.2))
 let e:Bool:=(cond (cond (decide (a≥0)) (decide (a<d)) false) (decide (c≥0)) false)
 cond (cond e (decide (c≤8589934592)) false) (
 (j8H (b.1,(b.2.1,(b.2.2.1,b.2.2.2)))).bind fun f=>
 some (f==0)) (
 some false)
def jdN [LP] (b:Tn57) (a:Tn64):Option (Int):=
 (j5P (b.1,(b.2.1,b.2.2))).bind fun i=>
 let f:Bool:=(cond (cond (i != 0) true (decide (a.2.2.1.1<1))) true (decide (a.2.2.1.1>100000)))
 let g:Bool:=(cond (cond f true (decide (a.2.2.1.2<0))) true (decide (a.2.2.1.2≥86400)))
 let c:Bool:=(cond (cond g true (decide (a.2.2.2.1<0))) true (decide (a.2.2.2.1>2)))
 let d:Bool:=(cond (cond c true (decide (a.2.2.2.2.1<1))) true (decide (a.2.2.2.2.1>400)))
 let e:=(Int.ofNat (List.length a.2.2.2.2.2.1))
 cond (cond d true (e==0)) (
 some 8) (
 some 0)
def jdO (a:Int):Option (Bool):=
 (j7R a (-2) 99422).bind fun b=>
 some b
def j3u (c:Int) (a7:ByteArray) (d:Int) (f:Tn47) (g a:Int) (b:Tn2):Option ((Int×ByteArray×Int×Tn47×Int×Int×Tn2) ⊕ ((Int×Int) ⊕ Unit)):=
 let a9:=(Int.ofNat (List.length b))
 cond (decide (c<a9)) (
 cond (decide (c≥0)) (
 cond (inR c (List.length b)) (
 let m:=(List.getD b (Int.toNat c) (0,0)).2
 cond (inR c (List.length b)) (
 let e:=(List.getD b (Int.toNat c) (0,0)).1
 let u:=(w64 (c+1))
 let x:=(Int.ofNat (List.length b))
 cond (decide (u<x)) (
 let i:=(w64 (c+1))
 cond (inR i (List.length b)) (
 let w:=(List.getD b (Int.toNat i) (0,0)).1
 let t:=(w64 (g*86400))
 let y:=(w64 (t+a))
 let s:=(w64 (y-m))
 let q:Int:=(if s>e then s else e:Int)
 cond (decide (q<w)) (
 some (.inr (.inl (q,0)))) (
 let b0:=(w64 (c+1))
 some (.inl (b0,a7,d,f,g,a,b)))) none) (
 let a3:=(w64 (g*86400))
 let a4:=(w64 (a3+a))
 let r:=(w64 (a4-m))
 let o:Int:=(if r>e then r else e:Int)
 cond (decide (o<8589934593)) (
 some (.inr (.inl (o,0)))) (
 let z:=(w64 (c+1))
 some (.inl (z,a7,d,f,g,a,b))))) none) none) (
 let a6:=(w64 (c+1))
 let a2:=(Int.ofNat (List.length b))
 cond (decide (a6<a2)) (
 let p:=(w64 (c+1))
 cond (inR p (List.length b)) (
 let b1:=(List.getD b (Int.toNat p) (0,0)).1
 let a5:=(w64 (g*86400))
 let b2:=(w64 (a5+a))
 let n:=(w64 (b2-d))
 let l:Int:=(if n>0 then n else 0:Int)
 cond (decide (l<b1)) (
 some (.inr (.inl (l,0)))) (
 let a1:=(w64 (c+1))
 some (.inl (a1,a7,d,f,g,a,b)))) none) (
 let v:=(w64 (g*86400))
 let a0:=(w64 (v+a))
 let j:=(w64 (a0-d))
 let k:Int:=(if j>0 then j else 0:Int)
 cond (decide (k<8589934593)) (
 some (.inr (.inl (k,0)))) (
 let a8:=(w64 (c+1))
 some (.inl (a8,a7,d,f,g,a,b)))))) (
 some (.inr (.inr ())))
def j3Z [LP] (e:Int) (f:ByteArray) (c:Int) (a:Tn47) (d b:Int) (g:Tn2):Option ((Int×Int) ⊕ Unit):=
 LP.lp (unc7 (j3u)) (e,f,c,a,d,b,g)
theorem ja3 (e f c a d b g):j3Z e f c a d b g=lpK (j3u e f c a d b g) (fun h=>j3Z h.1 h.2.1 h.2.2.1 h.2.2.2.1 h.2.2.2.2.1 h.2.2.2.2.2.1 h.2.2.2.2.2.2):=j05 _ _
def j40 [LP] (a:Tn57) (b:(Int×Int)):Option (Int×Int):=
 (j1f (a.1,(a.2.1,a.2.2))).bind fun c=>
 cond (c.2 != 0) (
 some (0,8)) (
 (j7R b.2 0 86399).bind fun e=>
 cond (!e) (
 some (0,1)) (
 cond (decide (b.1<(-2))) (
 some (0,0)) (
 (jdO b.1).bind fun d=>
 cond (!d) (
 some (0,10)) (
 (j3Z (-1) a.1 a.2.1 a.2.2 b.1 b.2 c.1).bind fun f=>
 sumC f (fun g=>
 some (g.1,g.2)) (fun i=>
 some (0,10))))))
def j41 (c:Tn2) (g i a:Int):Option ((Tn2×Int×Int×Int) ⊕ (Int)):=
 let b:=(Int.ofNat (List.length c))
 cond ((inR a (List.length c)) || !(decide (a<b))) (
 let d:=(List.getD c (Int.toNat a) (0,0))
 cond (cond (decide (a<b)) (decide (d.1≤g)) false) (
 cond (inR a (List.length c)) (
 let e:=(List.getD c (Int.toNat a) (0,0))
 let f:=(w64 (a+1))
 some (.inl (c,g,e.2,f))) none) (
 some (.inr i))) none
def j7n [LP] (b:Tn2) (d c a:Int):Option (Int):=
 LP.lp (unc4 (j41)) (b,d,c,a)
theorem jcX (b d c a):j7n b d c a=lpK (j41 b d c a) (fun h=>j7n h.1 h.2.1 h.2.2.1 h.2.2.2):=j05 _ _
def jep [LP] (a:Tn57) (c:Tn2) (b:Int):Option (Int):=
 (j7n c b a.2.1 0).bind fun d=>
 some d
def j8J [LP] (a:Tn57) (b:Int):Option (Int×Int):=
 (j1f (a.1,(a.2.1,a.2.2))).bind fun c=>
 cond (c.2 != 0) (
 some (0,8)) (
 (j7R b 0 8589934592).bind fun d=>
 cond (!d) (
 some (0,1)) (
 (jep (a.1,(a.2.1,a.2.2)) c.1 b).bind fun e=>
 some (e,0)))
def jgf (b a:Int):Option ((Int×Int)):=
 let g:=(w64 (b+a))
 let e:=(w64 (g+864000))
 let f:=(w64 (Int.tdiv e 86400))
 let d:=(w64 (f-10))
 let c:=(Int.tmod e 86400)
 some (d,c)
def j39 [LP] (a:Tn57) (c:Int):Option ((Int×Int)×Int):=
 (j8J (a.1,(a.2.1,a.2.2)) c).bind fun b=>
 cond (b.2 != 0) (
 some ((0,0),b.2)) (
 (jgf c b.1).bind fun d=>
 some ((d.1,d.2),0))
def j8K [LP] (b:Tn57) (a:Tn64) (e:Int):Option (Int×Bool):=
 cond (a.2.2.2.1==0) (
 (j40 (b.1,(b.2.1,b.2.2)) (a.2.2.1.1,a.2.2.1.2)).bind fun d=>
 let l:=(w64 (e*a.2.2.2.2.1))
 let i:=(w64 (l*3600))
 let n:=(w64 (d.1+i))
 let k:=(w64 (d.1+i))
 some (n,(cond (d.2==0) (decide (k≤8589934592)) false))) (
 let g:=(w64 (e*a.2.2.2.2.1))
 cond (a.2.2.2.1==2) (
 let o:=(w64 (g*7))
 let m:=(w64 (a.2.2.1.1+o))
 (j40 (b.1,(b.2.1,b.2.2)) (m,a.2.2.1.2)).bind fun j=>
 some (j.1,(j.2==0))) (
 let f:=(w64 (a.2.2.1.1+g))
 (j40 (b.1,(b.2.1,b.2.2)) (f,a.2.2.1.2)).bind fun c=>
 some (c.1,(c.2==0))))
def j4C [LP] (r e:Int) (p:ByteArray) (m:Int) (j:Tn47) (q:ByteArray) (k d c f g:Int) (i:(List Int)) (n:Tn2) (b l:Int):Option ((Int×Int×ByteArray×Int×Tn47×ByteArray×Int×Int×Int×Int×Int×(List Int)×Tn2×Int×Int) ⊕ (Int)):=
 cond (decide (e≥0)) (
 (j8K (p,(m,j)) (q,(k,((d,c),(f,(g,(i,(n,(b,l)))))))) e).bind fun a=>
 cond (cond a.2 (decide (a.1≤r)) false) (
 some (.inr e)) (
 let o:=(w64 (e-1))
 some (.inl (r,o,p,m,j,q,k,d,c,f,g,i,n,b,l)))) (
 some (.inr e))
def j5Q [LP] (p o:Int) (m:ByteArray) (k:Int) (g:Tn47) (n:ByteArray) (i c b d e:Int) (f:(List Int)) (l:Tn2) (a j:Int):Option (Int):=
 LP.lp (jtZ (j4C)) (p,o,m,k,g,n,i,c,b,d,e,f,l,a,j)
theorem jdP (p o m k g n i c b d e f l a j):j5Q p o m k g n i c b d e f l a j=lpK (j4C p o m k g n i c b d e f l a j) (fun h=>j5Q h.1 h.2.1 h.2.2.1 h.2.2.2.1 h.2.2.2.2.1 h.2.2.2.2.2.1 h.2.2.2.2.2.2.1 h.2.2.2.2.2.2.2.1 h.2.2.2.2.2.2.2.2.1 h.2.2.2.2.2.2.2.2.2.1 h.2.2.2.2.2.2.2.2.2.2.1 h.2.2.2.2.2.2.2.2.2.2.2.1 h.2.2.2.2.2.2.2.2.2.2.2.2.1 h.2.2.2.2.2.2.2.2.2.2.2.2.2.1 h.2.2.2.2.2.2.2.2.2.2.2.2.2.2):=j05 _ _
def jdQ [LP] (b:Tn57) (a:Tn64) (c:Int):Option (Int):=
 cond (a.2.2.2.1==0) (
 (j40 (b.1,(b.2.1,b.2.2)) (a.2.2.1.1,a.2.2.1.2)).bind fun e=>
 cond (cond (e.2==0) (decide (e.1≤c)) false) (
 let r:=(w64 (c-e.1))
 let k:=(w64 (3600*a.2.2.2.2.1))
 cond (!(k==0)) (
 let o:=(w64 (Int.tdiv r k))
 some o) none) (
 some (-1))) (
 (j39 (b.1,(b.2.1,b.2.2)) c).bind fun l=>
 cond (a.2.2.2.1==2) (
 let m:=(w64 (a.2.2.2.2.1*7))
 let q:=(w64 (l.1.1+2))
 let j:=(w64 (q-a.2.2.1.1))
 let p:Int:=(if 0>j then 0 else j:Int)
 cond (!(m==0)) (
 let s:=(w64 (Int.tdiv p m))
 (j5Q c s b.1 b.2.1 b.2.2 a.1 a.2.1 a.2.2.1.1 a.2.2.1.2 a.2.2.2.1 a.2.2.2.2.1 a.2.2.2.2.2.1 a.2.2.2.2.2.2.1 a.2.2.2.2.2.2.2.1 a.2.2.2.2.2.2.2.2).bind fun t=>
 some t) none) (
 let f:=(w64 (l.1.1+2))
 let d:=(w64 (f-a.2.2.1.1))
 let g:Int:=(if 0>d then 0 else d:Int)
 cond (!(a.2.2.2.2.1==0)) (
 let i:=(w64 (Int.tdiv g a.2.2.2.2.1))
 (j5Q c i b.1 b.2.1 b.2.2 a.1 a.2.1 a.2.2.1.1 a.2.2.1.2 a.2.2.2.1 a.2.2.2.2.1 a.2.2.2.2.2.1 a.2.2.2.2.2.2.1 a.2.2.2.2.2.2.2.1 a.2.2.2.2.2.2.2.2).bind fun n=>
 some n) none))
def jdR [LP] (b:Tn57) (a:Tn64) (c:Int):Option (Int×Int):=
 (jdN (b.1,(b.2.1,b.2.2)) (a.1,(a.2.1,((a.2.2.1.1,a.2.2.1.2),(a.2.2.2.1,(a.2.2.2.2.1,(a.2.2.2.2.2.1,(a.2.2.2.2.2.2.1,(a.2.2.2.2.2.2.2.1,a.2.2.2.2.2.2.2.2))))))))).bind fun d=>
 cond (d != 0) (
 some (0,8)) (
 cond (cond (decide (c<0)) true (decide (c>8589934592))) (
 some (0,1)) (
 (jdQ (b.1,(b.2.1,b.2.2)) (a.1,(a.2.1,((a.2.2.1.1,a.2.2.1.2),(a.2.2.2.1,(a.2.2.2.2.1,(a.2.2.2.2.2.1,(a.2.2.2.2.2.2.1,(a.2.2.2.2.2.2.2.1,a.2.2.2.2.2.2.2.2)))))))) c).bind fun e=>
 some (e,0)))
def jeq (a:(Int×Int)):Option (Int):=
 (jcj a.1).bind fun d=>
 let b:=(w64 (d*86400))
 let c:=(w64 (b+a.2))
 some c
def j9J [LP] (a:Tn57) (c:Int):Option (Int×Int):=
 (j39 (a.1,(a.2.1,a.2.2)) c).bind fun b=>
 cond (b.2 != 0) (
 some (0,b.2)) (
 (jeq (b.1.1,b.1.2)).bind fun d=>
 some (d,0))
def j42 (c:Tn2) (f b:Int):Option ((Tn2×Int×Int) ⊕ (Bool ⊕ Unit)):=
 let g:=(Int.ofNat (List.length c))
 cond (decide (b<g)) (
 cond (inR b (List.length c)) (
 let a:=(List.getD c (Int.toNat b) (0,0))
 cond ((inR b (List.length c)) || !(decide (f≥a.1))) (
 let e:=(List.getD c (Int.toNat b) (0,0))
 cond (cond (decide (f≥a.1)) (decide (f<e.2)) false) (
 some (.inr (.inl true))) (
 let d:=(w64 (b+1))
 some (.inl (c,f,d)))) none) none) (
 some (.inr (.inr ())))
def j7o [LP] (b:Tn2) (c a:Int):Option (Bool ⊕ Unit):=
 LP.lp (unc3 (j42)) (b,c,a)
theorem jcY (b c a):j7o b c a=lpK (j42 b c a) (fun h=>j7o h.1 h.2.1 h.2.2):=j05 _ _
def jer [LP] (a:Tn2) (b:Int):Option (Bool):=
 (j7o a b 0).bind fun c=>
 sumC c (fun d=>
 some d) (fun e=>
 some false)
def jn5 [LP] (a:Tn57) (b:Tn2) (d:Int):Option (Bool):=
 (j9J (a.1,(a.2.1,a.2.2)) d).bind fun c=>
 cond (c.2==0) (
 (jbK b).bind fun e=>
 cond (e==0) (
 (jer b c.1).bind fun f=>
 some f) (
 some false)) (
 some false)
def j5b (w:Int) (t:Bool) (b:Int) (v:ByteArray) (e l k c g:Int) (d:(List Int)) (j:Tn2) (f i:Int) (u:ByteArray) (m:Int) (a:(List Int)) (o n:Int):Option ((Int×Bool×Int×ByteArray×Int×Int×Int×Int×Int×(List Int)×Tn2×Int×Int×ByteArray×Int×(List Int)×Int×Int) ⊕ ((Int×Bool×ByteArray×Int×Int×Int×Int×Int×(List Int)×Tn2×Int×Int))):=
 let r:=(Int.ofNat (List.length a))
 cond (decide (b<r)) (
 cond t (
 let p:=(w64 (b+1))
 some (.inl (w,true,p,v,e,l,k,c,g,d,j,f,i,u,m,a,o,n))) (
 cond (inR b (List.length a)) (
 let s:=(List.getD a (Int.toNat b) 0)
 let q:=(w64 (b+1))
 some (.inl (w,(s==o),q,v,e,l,k,c,g,d,j,f,i,u,m,a,o,n))) none)) (
 some (.inr (w,t,v,e,l,k,c,g,d,j,f,i)))
def j6R [LP] (s:Int) (o:Bool) (n:Int) (r:ByteArray) (l f e g i:Int) (j:(List Int)) (m:Tn2) (d k:Int) (q:ByteArray) (c:Int) (a:(List Int)) (p b:Int):Option ((Int×Bool×ByteArray×Int×Int×Int×Int×Int×(List Int)×Tn2×Int×Int)):=
 LP.lp (jwh (j5b)) (s,o,n,r,l,f,e,g,i,j,m,d,k,q,c,a,p,b)
theorem jeL (s n q r f m l d i e k g j o a c p b):j6R s n q r f m l d i e k g j o a c p b=lpK (j5b s n q r f m l d i e k g j o a c p b) (fun h=>j6R h.1 h.2.1 h.2.2.1 h.2.2.2.1 h.2.2.2.2.1 h.2.2.2.2.2.1 h.2.2.2.2.2.2.1 h.2.2.2.2.2.2.2.1 h.2.2.2.2.2.2.2.2.1 h.2.2.2.2.2.2.2.2.2.1 h.2.2.2.2.2.2.2.2.2.2.1 h.2.2.2.2.2.2.2.2.2.2.2.1 h.2.2.2.2.2.2.2.2.2.2.2.2.1 h.2.2.2.2.2.2.2.2.2.2.2.2.2.1 h.2.2.2.2.2.2.2.2.2.2.2.2.2.2.1 h.2.2.2.2.2.2.2.2.2.2.2.2.2.2.2.1 h.2.2.2.2.2.2.2.2.2.2.2.2.2.2.2.2.1 h.2.2.2.2.2.2.2.2.2.2.2.2.2.2.2.2.2):=j05 _ _
def jgg [LP] (b:Tn76) (a:Tn64) (f:Int):Option (Int×Bool):=
 cond (inR a.2.1 (List.length b.1)) (
 let d:=(List.getD b.1 (Int.toNat a.2.1) (ByteArray.empty,(0,([]:Tn47))))
 (jdR (d.1,(d.2.1,d.2.2)) (a.1,(a.2.1,((a.2.2.1.1,a.2.2.1.2),(a.2.2.2.1,(a.2.2.2.2.1,(a.2.2.2.2.2.1,(a.2.2.2.2.2.2.1,(a.2.2.2.2.2.2.2.1,a.2.2.2.2.2.2.2.2)))))))) f).bind fun e=>
 let m:=(Int.ofNat (List.length a.2.2.2.2.2.2.1))
 cond (cond (e.2 != 0) true (decide (e.1<0))) (
 cond ((!(decide (m>0))) || !(!true)) (
 some (0,false)) none) (
 cond (decide (m>0)) (
 (jn5 (d.1,(d.2.1,d.2.2)) a.2.2.2.2.2.2.1 f).bind fun p=>
 cond (!p) (
 some (0,false)) (
 cond (a.2.2.2.2.2.2.2.2==0) (
 some (e.1,true)) (
 cond (inR a.2.2.2.2.2.2.2.1 (List.length b.2.2.1)) (
 let i:=(List.getD b.2.2.1 (Int.toNat a.2.2.2.2.2.2.2.1) (ByteArray.empty,(0,([]:(List Int)))))
 cond (inR i.2.1 (List.length b.1)) (
 let l:=(List.getD b.1 (Int.toNat i.2.1) (ByteArray.empty,(0,([]:Tn47))))
 (j39 (l.1,(l.2.1,l.2.2)) f).bind fun n=>
 (j6R e.1 false 0 a.1 a.2.1 a.2.2.1.1 a.2.2.1.2 a.2.2.2.1 a.2.2.2.2.1 a.2.2.2.2.2.1 a.2.2.2.2.2.2.1 a.2.2.2.2.2.2.2.1 a.2.2.2.2.2.2.2.2 i.1 i.2.1 i.2.2 n.1.1 n.1.2).bind fun o=>
 some (o.1,(o.2.1==(o.2.2.2.2.2.2.2.2.2.2.2==2)))) none) none))) (
 cond (a.2.2.2.2.2.2.2.2==0) (
 some (e.1,true)) (
 cond (inR a.2.2.2.2.2.2.2.1 (List.length b.2.2.1)) (
 let c:=(List.getD b.2.2.1 (Int.toNat a.2.2.2.2.2.2.2.1) (ByteArray.empty,(0,([]:(List Int)))))
 cond (inR c.2.1 (List.length b.1)) (
 let g:=(List.getD b.1 (Int.toNat c.2.1) (ByteArray.empty,(0,([]:Tn47))))
 (j39 (g.1,(g.2.1,g.2.2)) f).bind fun k=>
 (j6R e.1 false 0 a.1 a.2.1 a.2.2.1.1 a.2.2.1.2 a.2.2.2.1 a.2.2.2.2.1 a.2.2.2.2.2.1 a.2.2.2.2.2.2.1 a.2.2.2.2.2.2.2.1 a.2.2.2.2.2.2.2.2 c.1 c.2.1 c.2.2 k.1.1 k.1.2).bind fun j=>
 some (j.1,(j.2.1==(j.2.2.2.2.2.2.2.2.2.2.2==2)))) none) none)))) none
def jj2 [LP] (b:Tn76) (a:Tn64) (f:Int):Option (Int):=
 (jgg (b.1,(b.2.1,(b.2.2.1,b.2.2.2))) (a.1,(a.2.1,((a.2.2.1.1,a.2.2.1.2),(a.2.2.2.1,(a.2.2.2.2.1,(a.2.2.2.2.2.1,(a.2.2.2.2.2.2.1,(a.2.2.2.2.2.2.2.1,a.2.2.2.2.2.2.2.2)))))))) f).bind fun e=>
 cond (!e.2) (
 some (-1)) (
 let c:=(Int.ofNat (List.length a.2.2.2.2.2.1))
 cond (!(c==0)) (
 let d:=(Int.tmod e.1 c)
 cond (inR d (List.length a.2.2.2.2.2.1)) (
 let g:=(List.getD a.2.2.2.2.2.1 (Int.toNat d) 0)
 some g) none) none)
def j5c (i f c:Int) (k:ByteArray) (g:Tn65) (b:Tn34):Option ((Int×Int×Int×ByteArray×Tn65×Tn34) ⊕ (Bool ⊕ Unit)):=
 let e:=(Int.ofNat (List.length b))
 cond (decide (c<e)) (
 cond (inR c (List.length b)) (
 let a:=(List.getD b (Int.toNat c) (0,(0,(0,(0,0)))))
 let j:Bool:=(cond (cond (a.1==0) (a.2.1==i) false) (decide (a.2.2.2.1≤f)) false)
 cond (cond j (decide (f<a.2.2.2.2)) false) (
 some (.inr (.inl true))) (
 let d:=(w64 (c+1))
 some (.inl (i,f,d,k,g,b)))) none) (
 some (.inr (.inr ())))
def ja4 [LP] (d f e:Int) (c:ByteArray) (b:Tn65) (a:Tn34):Option (Bool ⊕ Unit):=
 LP.lp (unc6 (j5c)) (d,f,e,c,b,a)
theorem jeM (d f e c b a):ja4 d f e c b a=lpK (j5c d f e c b a) (fun h=>ja4 h.1 h.2.1 h.2.2.1 h.2.2.2.1 h.2.2.2.2.1 h.2.2.2.2.2):=j05 _ _
def jia [LP] (b:Tn69) (a c:Int):Option (Bool):=
 (ja4 a c 0 b.1 b.2.1 b.2.2).bind fun d=>
 sumC d (fun e=>
 some e) (fun f=>
 some false)
def j5R [LP] (j i:Int) (n:Tn59) (g:Tn53) (e:Tn30) (f:Tn70) (o:ByteArray) (b:Tn65) (d:Tn34):Option ((Int×Int×Tn59×Tn53×Tn30×Tn70×ByteArray×Tn65×Tn34) ⊕ ((Int×Int) ⊕ Unit)):=
 cond (decide (i≥0)) (
 cond (inR i (List.length b)) (
 let a:=(List.getD b (Int.toNat i) (ByteArray.empty,(0,((0,0),(0,(0,(([]:(List Int)),(([]:Tn2),(0,0)))))))))
 (jj2 (n,(g,(e,f))) (a.1,(a.2.1,((a.2.2.1.1,a.2.2.1.2),(a.2.2.2.1,(a.2.2.2.2.1,(a.2.2.2.2.2.1,(a.2.2.2.2.2.2.1,(a.2.2.2.2.2.2.2.1,a.2.2.2.2.2.2.2.2)))))))) j).bind fun c=>
 cond (decide (c≥0)) (
 (jia (o,(b,d)) c j).bind fun l=>
 cond (!l) (
 some (.inr (.inl (i,c)))) (
 let m:=(w64 (i-1))
 some (.inl (j,m,n,g,e,f,o,b,d)))) (
 let k:=(w64 (i-1))
 some (.inl (j,k,n,g,e,f,o,b,d)))) none) (
 some (.inr (.inr ())))
def jbM [LP] (g i:Int) (f:Tn59) (e:Tn53) (c:Tn30) (d:Tn70) (j:ByteArray) (a:Tn65) (b:Tn34):Option ((Int×Int) ⊕ Unit):=
 LP.lp (unc9 (j5R)) (g,i,f,e,c,d,j,a,b)
theorem jgh (g i f e c d j a b):jbM g i f e c d j a b=lpK (j5R g i f e c d j a b) (fun h=>jbM h.1 h.2.1 h.2.2.1 h.2.2.2.1 h.2.2.2.2.1 h.2.2.2.2.2.1 h.2.2.2.2.2.2.1 h.2.2.2.2.2.2.2.1 h.2.2.2.2.2.2.2.2):=j05 _ _
def jlt [LP] (b:Tn76) (a d:Int):Option (Int×Int):=
 cond (inR a (List.length b.2.2.2)) (
 let c:=(List.getD b.2.2.2 (Int.toNat a) (ByteArray.empty,(([]:Tn65),([]:Tn34))))
 let f:=(Int.ofNat (List.length c.2.1))
 let e:=(w64 (f-1))
 (jbM d e b.1 b.2.1 b.2.2.1 b.2.2.2 c.1 c.2.1 c.2.2).bind fun g=>
 sumC g (fun i=>
 some (i.1,i.2)) (fun j=>
 some ((-1),(-1)))) none
def jlu [LP] (a:Tn76) (b c:Int):Option (Int):=
 (jsy (a.1,(a.2.1,(a.2.2.1,a.2.2.2))) b c).bind fun d=>
 cond (!d) (
 some (-1)) (
 (jlt (a.1,(a.2.1,(a.2.2.1,a.2.2.2))) b c).bind fun e=>
 some e.2)
def j2t (e:Tn34) (m c:Int) (u:Tn59) (f:Tn53) (i:Tn30) (g:Tn70) (l:(List Int)) (d:Int) (t n:Tn34):Option ((Tn34×Int×Int×Tn59×Tn53×Tn30×Tn70×(List Int)×Int×Tn34×Tn34) ⊕ ((Tn59×Tn53×Tn30×Tn70×(List Int)×Int×Tn34×Tn34))):=
 cond (decide (c<m)) (
 cond (inR c (List.length e)) (
 let p:=(List.getD e (Int.toNat c) (0,(0,(0,(0,0)))))
 cond (p.1==0) (
 cond (inR c (List.length e)) (
 let b:=(List.getD e (Int.toNat c) (0,(0,(0,(0,0)))))
 let k:Tn34:=[(b.1,(b.2.1,(b.2.2.1,(b.2.2.2.1,b.2.2.2.2))))]
 cond (decide (List.length t+List.length k≤j07)) (
 let r:Tn34:=(t++k)
 let q:=(w64 (c+1))
 some (.inl (e,m,q,u,f,i,g,l,d,r,n))) none) none) (
 cond (inR c (List.length e)) (
 let a:=(List.getD e (Int.toNat c) (0,(0,(0,(0,0)))))
 let j:Tn34:=[(a.1,(a.2.1,(a.2.2.1,(a.2.2.2.1,a.2.2.2.2))))]
 cond (decide (List.length n+List.length j≤j07)) (
 let o:Tn34:=(n++j)
 let s:=(w64 (c+1))
 some (.inl (e,m,s,u,f,i,g,l,d,t,o))) none) none)) none) (
 some (.inr (u,f,i,g,l,d,t,n)))
def j43 [LP] (j:Tn34) (g f:Int) (i:Tn59) (d:Tn53) (c:Tn30) (b:Tn70) (e:(List Int)) (a:Int) (l k:Tn34):Option ((Tn59×Tn53×Tn30×Tn70×(List Int)×Int×Tn34×Tn34)):=
 LP.lp (jn4 (j2t)) (j,g,f,i,d,c,b,e,a,l,k)
theorem j8L (j g f i d c b e a l k):j43 j g f i d c b e a l k=lpK (j2t j g f i d c b e a l k) (fun h=>j43 h.1 h.2.1 h.2.2.1 h.2.2.2.1 h.2.2.2.2.1 h.2.2.2.2.2.1 h.2.2.2.2.2.2.1 h.2.2.2.2.2.2.2.1 h.2.2.2.2.2.2.2.2.1 h.2.2.2.2.2.2.2.2.2.1 h.2.2.2.2.2.2.2.2.2.2):=j05 _ _
def j2u [LP] (u:Int) (v:Tn59) (c:Tn53) (e:Tn30) (d:Tn70) (x:(List Int)) (s:Int) (w:Tn34) (k:Tn59) (n:Tn53) (p:Tn30) (l:Tn70) (j:Tn59) (i:Tn53) (f:Tn30) (g:Tn70):Option ((Int×Tn59×Tn53×Tn30×Tn70×(List Int)×Int×Tn34×Tn59×Tn53×Tn30×Tn70×Tn59×Tn53×Tn30×Tn70) ⊕ (Bool ⊕ Unit)):=
 cond (decide (u<8)) (
 (j4x x s).bind fun a=>
 (j69 (v,(c,(e,d))) 0 a.1).bind fun b=>
 (j69 (k,(n,(p,l))) 0 a.1).bind fun t=>
 cond (t != b) (
 some (.inr (.inl false))) (
 (j69 (j,(i,(f,g))) 0 a.1).bind fun q=>
 cond (q != b) (
 some (.inr (.inl false))) (
 (jlu (v,(c,(e,d))) 0 a.1).bind fun m=>
 (j8u w m a.1).bind fun o=>
 cond (b != o) (
 some (.inr (.inl false))) (
 let r:=(w64 (u+1))
 some (.inl (r,v,c,e,d,a.2.1,a.2.2,w,k,n,p,l,j,i,f,g)))))) (
 some (.inr (.inr ())))
def j5v [LP] (o:Int) (p:Tn59) (m:Tn53) (g:Tn30) (f:Tn70) (n:(List Int)) (b:Int) (q:Tn34) (i:Tn59) (l:Tn53) (j:Tn30) (k:Tn70) (a:Tn59) (c:Tn53) (d:Tn30) (e:Tn70):Option (Bool ⊕ Unit):=
 LP.lp (jwg (j2u)) (o,p,m,g,f,n,b,q,i,l,j,k,a,c,d,e)
theorem j8M (o p m g f n b q i l j k a c d e):j5v o p m g f n b q i l j k a c d e=lpK (j2u o p m g f n b q i l j k a c d e) (fun h=>j5v h.1 h.2.1 h.2.2.1 h.2.2.2.1 h.2.2.2.2.1 h.2.2.2.2.2.1 h.2.2.2.2.2.2.1 h.2.2.2.2.2.2.2.1 h.2.2.2.2.2.2.2.2.1 h.2.2.2.2.2.2.2.2.2.1 h.2.2.2.2.2.2.2.2.2.2.1 h.2.2.2.2.2.2.2.2.2.2.2.1 h.2.2.2.2.2.2.2.2.2.2.2.2.1 h.2.2.2.2.2.2.2.2.2.2.2.2.2.1 h.2.2.2.2.2.2.2.2.2.2.2.2.2.2.1 h.2.2.2.2.2.2.2.2.2.2.2.2.2.2.2):=j05 _ _
def ja5 [LP] (f:(List Int)):Option (Bool):=
 (jgY f).bind fun r=>
 cond (!r) (
 (j88).bind fun q=>
 some q) (
 (jiZ f).bind fun g=>
 (j52 g.1 g.2 1).bind fun e=>
 (j94 e.2.1 e.2.2 (e.1.1,(e.1.2.1,(e.1.2.2.1,e.1.2.2.2))) 0 3).bind fun b=>
 cond (inR 0 (List.length b.1.2.2.2)) (
 let k:=(List.getD b.1.2.2.2 0 (ByteArray.empty,(([]:Tn65),([]:Tn34))))
 let n:=(Int.ofNat (List.length k.2.2))
 (j43 k.2.2 n 0 b.1.1 b.1.2.1 b.1.2.2.1 b.1.2.2.2 b.2.1 b.2.2 ([]:Tn34) ([]:Tn34)).bind fun a=>
 (jbL (a.1,(a.2.1,(a.2.2.1,a.2.2.2.1)))).bind fun c=>
 (jbL (a.1,(a.2.1,(a.2.2.1,a.2.2.2.1)))).bind fun d=>
 cond (decide (List.length ([]:Tn34)+List.length a.2.2.2.2.2.2.1≤j07)) (
 let i:Tn34:=(([]:Tn34)++a.2.2.2.2.2.2.1)
 cond (decide (List.length i+List.length a.2.2.2.2.2.2.2≤j07)) (
 let p:Tn34:=(i++a.2.2.2.2.2.2.2)
 cond (inR 0 (List.length c.2.2.2)) (
 let t:Tn70:=(List.set c.2.2.2 0 ((List.getD c.2.2.2 0 (ByteArray.empty,(([]:Tn65),([]:Tn34)))).1,((List.getD c.2.2.2 0 (ByteArray.empty,(([]:Tn65),([]:Tn34)))).2.1,p)))
 cond (decide (List.length ([]:Tn34)+List.length a.2.2.2.2.2.2.2≤j07)) (
 let j:Tn34:=(([]:Tn34)++a.2.2.2.2.2.2.2)
 cond (decide (List.length j+List.length a.2.2.2.2.2.2.1≤j07)) (
 let o:Tn34:=(j++a.2.2.2.2.2.2.1)
 cond (inR 0 (List.length d.2.2.2)) (
 let l:Tn70:=(List.set d.2.2.2 0 ((List.getD d.2.2.2 0 (ByteArray.empty,(([]:Tn65),([]:Tn34)))).1,((List.getD d.2.2.2 0 (ByteArray.empty,(([]:Tn65),([]:Tn34)))).2.1,o)))
 (j5v 0 a.1 a.2.1 a.2.2.1 a.2.2.2.1 a.2.2.2.2.1 a.2.2.2.2.2.1 a.2.2.2.2.2.2.2 c.1 c.2.1 c.2.2.1 t d.1 d.2.1 d.2.2.1 l).bind fun s=>
 sumC s (fun u=>
 some u) (fun v=>
 (j88).bind fun m=>
 some m)) none) none) none) none) none) none) none)
end
end Go.Proofs.Pw
