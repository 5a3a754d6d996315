/- Plain functions, printed by a program out of the given code. -/
import Derived.Test.YtaieocafhcjelaaGreatBLS
open Go Go.Lft
set_option linter.unusedVariables false
namespace Go.Proofs.Pw
noncomputable section
abbrev Tn2:Type:=(List (Int×Int))
abbrev Tn1:Type:=(Int×(List Int))
abbrev Tn4:Type:=(Int×(Int×Int))
abbrev Tn17:Type:=(List Tn4)
abbrev Tn15:Type:=(Int×Tn2)
abbrev Tn22:Type:=(ByteArray×Tn1)
abbrev Tn23:Type:=(List Tn15)
abbrev Tn28:Type:=(Int×(Int×Tn4))
abbrev Tn30:Type:=(List Tn22)
abbrev Tn34:Type:=(List Tn28)
abbrev Tn43:Type:=(Int×(Int×Tn28))
abbrev Tn47:Type:=(List Tn43)
abbrev Tn49:Type:=(ByteArray×(Int×(Tn2×(Int×(Int×Bool)))))
abbrev Tn53:Type:=(List Tn49)
abbrev Tn57:Type:=(ByteArray×(Int×Tn47))
abbrev Tn59:Type:=(List Tn57)
abbrev Tn64:Type:=(ByteArray×(Int×((Int×Int)×(Int×(Int×((List Int)×(Tn2×(Int×Int))))))))
abbrev Tn65:Type:=(List Tn64)
abbrev Tn69:Type:=(ByteArray×(Tn65×Tn34))
abbrev Tn70:Type:=(List Tn69)
abbrev Tn76:Type:=(Tn59×(Tn53×(Tn30×Tn70)))
abbrev Tn78:Type:=(Tn76×Tn23)
abbrev unc2 {A0 A1 R:Type} (f:A0→A1→R) (h:A0×A1):R:=f h.1 h.2
abbrev unc3 {A0 A1 A2 R:Type} (f:A0→A1→A2→R) (h:A0×A1×A2):R:=f h.1 h.2.1 h.2.2
abbrev unc4 {A0 A1 A2 A3 R:Type} (f:A0→A1→A2→A3→R) (h:A0×A1×A2×A3):R:=f h.1 h.2.1 h.2.2.1 h.2.2.2
abbrev unc5 {A0 A1 A2 A3 A4 R:Type} (f:A0→A1→A2→A3→A4→R) (h:A0×A1×A2×A3×A4):R:=f h.1 h.2.1 h.2.2.1 h.2.2.2.1 h.2.2.2.2
abbrev unc6 {A0 A1 A2 A3 A4 A5 R:Type} (f:A0→A1→A2→A3→A4→A5→R) (h:A0×A1×A2×A3×A4×A5):R:=f h.1 h.2.1 h.2.2.1 h.2.2.2.1 h.2.2.2.2.1 h.2.2.2.2.2
abbrev unc7 {A0 A1 A2 A3 A4 A5 A6 R:Type} (f:A0→A1→A2→A3→A4→A5→A6→R) (h:A0×A1×A2×A3×A4×A5×A6):R:=f h.1 h.2.1 h.2.2.1 h.2.2.2.1 h.2.2.2.2.1 h.2.2.2.2.2.1 h.2.2.2.2.2.2
abbrev unc8 {A0 A1 A2 A3 A4 A5 A6 A7 R:Type} (f:A0→A1→A2→A3→A4→A5→A6→A7→R) (h:A0×A1×A2×A3×A4×A5×A6×A7):R:=f h.1 h.2.1 h.2.2.1 h.2.2.2.1 h.2.2.2.2.1 h.2.2.2.2.2.1 h.2.2.2.2.2.2.1 h.2.2.2.2.2.2.2
abbrev unc9 {A0 A1 A2 A3 A4 A5 A6 A7 A8 R:Type} (f:A0→A1→A2→A3→A4→A5→A6→A7→A8→R) (h:A0×A1×A2×A3×A4×A5×A6×A7×A8):R:=f h.1 h.2.1 h.2.2.1 h.2.2.2.1 h.2.2.2.2.1 h.2.2.2.2.2.1 h.2.2.2.2.2.2.1 h.2.2.2.2.2.2.2.1 h.2.2.2.2.2.2.2.2
abbrev jqy {A0 A1 A2 A3 A4 A5 A6 A7 A8 A9 R:Type} (f:A0→A1→A2→A3→A4→A5→A6→A7→A8→A9→R) (h:A0×A1×A2×A3×A4×A5×A6×A7×A8×A9):R:=f h.1 h.2.1 h.2.2.1 h.2.2.2.1 h.2.2.2.2.1 h.2.2.2.2.2.1 h.2.2.2.2.2.2.1 h.2.2.2.2.2.2.2.1 h.2.2.2.2.2.2.2.2.1 h.2.2.2.2.2.2.2.2.2
abbrev jtE {A0 A1 A2 A3 A4 A5 A6 A7 A8 A9 A10 R:Type} (f:A0→A1→A2→A3→A4→A5→A6→A7→A8→A9→A10→R) (h:A0×A1×A2×A3×A4×A5×A6×A7×A8×A9×A10):R:=f h.1 h.2.1 h.2.2.1 h.2.2.2.1 h.2.2.2.2.1 h.2.2.2.2.2.1 h.2.2.2.2.2.2.1 h.2.2.2.2.2.2.2.1 h.2.2.2.2.2.2.2.2.1 h.2.2.2.2.2.2.2.2.2.1 h.2.2.2.2.2.2.2.2.2.2
abbrev jtF {A0 A1 A2 A3 A4 A5 A6 A7 A8 A9 A10 A11 R:Type} (f:A0→A1→A2→A3→A4→A5→A6→A7→A8→A9→A10→A11→R) (h:A0×A1×A2×A3×A4×A5×A6×A7×A8×A9×A10×A11):R:=f h.1 h.2.1 h.2.2.1 h.2.2.2.1 h.2.2.2.2.1 h.2.2.2.2.2.1 h.2.2.2.2.2.2.1 h.2.2.2.2.2.2.2.1 h.2.2.2.2.2.2.2.2.1 h.2.2.2.2.2.2.2.2.2.1 h.2.2.2.2.2.2.2.2.2.2.1 h.2.2.2.2.2.2.2.2.2.2.2
abbrev jqz {A0 A1 A2 A3 A4 A5 A6 A7 A8 A9 A10 A11 A12 R:Type} (f:A0→A1→A2→A3→A4→A5→A6→A7→A8→A9→A10→A11→A12→R) (h:A0×A1×A2×A3×A4×A5×A6×A7×A8×A9×A10×A11×A12):R:=f h.1 h.2.1 h.2.2.1 h.2.2.2.1 h.2.2.2.2.1 h.2.2.2.2.2.1 h.2.2.2.2.2.2.1 h.2.2.2.2.2.2.2.1 h.2.2.2.2.2.2.2.2.1 h.2.2.2.2.2.2.2.2.2.1 h.2.2.2.2.2.2.2.2.2.2.1 h.2.2.2.2.2.2.2.2.2.2.2.1 h.2.2.2.2.2.2.2.2.2.2.2.2
abbrev jk2 {A0 A1 A2 A3 A4 A5 A6 A7 A8 A9 A10 A11 A12 A13 R:Type} (f:A0→A1→A2→A3→A4→A5→A6→A7→A8→A9→A10→A11→A12→A13→R) (h:A0×A1×A2×A3×A4×A5×A6×A7×A8×A9×A10×A11×A12×A13):R:=f h.1 h.2.1 h.2.2.1 h.2.2.2.1 h.2.2.2.2.1 h.2.2.2.2.2.1 h.2.2.2.2.2.2.1 h.2.2.2.2.2.2.2.1 h.2.2.2.2.2.2.2.2.1 h.2.2.2.2.2.2.2.2.2.1 h.2.2.2.2.2.2.2.2.2.2.1 h.2.2.2.2.2.2.2.2.2.2.2.1 h.2.2.2.2.2.2.2.2.2.2.2.2.1 h.2.2.2.2.2.2.2.2.2.2.2.2.2
abbrev jwc {A0 A1 A2 A3 A4 A5 A6 A7 A8 A9 A10 A11 A12 A13 A14 A15 A16 A17 R:Type} (f:A0→A1→A2→A3→A4→A5→A6→A7→A8→A9→A10→A11→A12→A13→A14→A15→A16→A17→R) (h:A0×A1×A2×A3×A4×A5×A6×A7×A8×A9×A10×A11×A12×A13×A14×A15×A16×A17):R:=f h.1 h.2.1 h.2.2.1 h.2.2.2.1 h.2.2.2.2.1 h.2.2.2.2.2.1 h.2.2.2.2.2.2.1 h.2.2.2.2.2.2.2.1 h.2.2.2.2.2.2.2.2.1 h.2.2.2.2.2.2.2.2.2.1 h.2.2.2.2.2.2.2.2.2.2.1 h.2.2.2.2.2.2.2.2.2.2.2.1 h.2.2.2.2.2.2.2.2.2.2.2.2.1 h.2.2.2.2.2.2.2.2.2.2.2.2.2.1 h.2.2.2.2.2.2.2.2.2.2.2.2.2.2.1 h.2.2.2.2.2.2.2.2.2.2.2.2.2.2.2.1 h.2.2.2.2.2.2.2.2.2.2.2.2.2.2.2.2.1 h.2.2.2.2.2.2.2.2.2.2.2.2.2.2.2.2.2
abbrev jwd {A0 A1 A2 A3 A4 A5 A6 A7 A8 A9 A10 A11 A12 A13 A14 A15 A16 A17 A18 A19 R:Type} (f:A0→A1→A2→A3→A4→A5→A6→A7→A8→A9→A10→A11→A12→A13→A14→A15→A16→A17→A18→A19→R) (h:A0×A1×A2×A3×A4×A5×A6×A7×A8×A9×A10×A11×A12×A13×A14×A15×A16×A17×A18×A19):R:=f h.1 h.2.1 h.2.2.1 h.2.2.2.1 h.2.2.2.2.1 h.2.2.2.2.2.1 h.2.2.2.2.2.2.1 h.2.2.2.2.2.2.2.1 h.2.2.2.2.2.2.2.2.1 h.2.2.2.2.2.2.2.2.2.1 h.2.2.2.2.2.2.2.2.2.2.1 h.2.2.2.2.2.2.2.2.2.2.2.1 h.2.2.2.2.2.2.2.2.2.2.2.2.1 h.2.2.2.2.2.2.2.2.2.2.2.2.2.1 h.2.2.2.2.2.2.2.2.2.2.2.2.2.2.1 h.2.2.2.2.2.2.2.2.2.2.2.2.2.2.2.1 h.2.2.2.2.2.2.2.2.2.2.2.2.2.2.2.2.1 h.2.2.2.2.2.2.2.2.2.2.2.2.2.2.2.2.2.1 h.2.2.2.2.2.2.2.2.2.2.2.2.2.2.2.2.2.2.1 h.2.2.2.2.2.2.2.2.2.2.2.2.2.2.2.2.2.2.2
abbrev jwe {A0 A1 A2 A3 A4 A5 A6 A7 A8 A9 A10 A11 A12 A13 A14 A15 A16 A17 A18 A19 A20 A21 R:Type} (f:A0→A1→A2→A3→A4→A5→A6→A7→A8→A9→A10→A11→A12→A13→A14→A15→A16→A17→A18→A19→A20→A21→R) (h:A0×A1×A2×A3×A4×A5×A6×A7×A8×A9×A10×A11×A12×A13×A14×A15×A16×A17×A18×A19×A20×A21):R:=f h.1 h.2.1 h.2.2.1 h.2.2.2.1 h.2.2.2.2.1 h.2.2.2.2.2.1 h.2.2.2.2.2.2.1 h.2.2.2.2.2.2.2.1 h.2.2.2.2.2.2.2.2.1 h.2.2.2.2.2.2.2.2.2.1 h.2.2.2.2.2.2.2.2.2.2.1 h.2.2.2.2.2.2.2.2.2.2.2.1 h.2.2.2.2.2.2.2.2.2.2.2.2.1 h.2.2.2.2.2.2.2.2.2.2.2.2.2.1 h.2.2.2.2.2.2.2.2.2.2.2.2.2.2.1 h.2.2.2.2.2.2.2.2.2.2.2.2.2.2.2.1 h.2.2.2.2.2.2.2.2.2.2.2.2.2.2.2.2.1 h.2.2.2.2.2.2.2.2.2.2.2.2.2.2.2.2.2.1 h.2.2.2.2.2.2.2.2.2.2.2.2.2.2.2.2.2.2.1 h.2.2.2.2.2.2.2.2.2.2.2.2.2.2.2.2.2.2.2.1 h.2.2.2.2.2.2.2.2.2.2.2.2.2.2.2.2.2.2.2.2.1 h.2.2.2.2.2.2.2.2.2.2.2.2.2.2.2.2.2.2.2.2.2
abbrev jwf {A0 A1 A2 A3 A4 A5 A6 A7 A8 A9 A10 A11 A12 A13 A14 A15 A16 A17 A18 A19 A20 A21 A22 A23 R:Type} (f:A0→A1→A2→A3→A4→A5→A6→A7→A8→A9→A10→A11→A12→A13→A14→A15→A16→A17→A18→A19→A20→A21→A22→A23→R) (h:A0×A1×A2×A3×A4×A5×A6×A7×A8×A9×A10×A11×A12×A13×A14×A15×A16×A17×A18×A19×A20×A21×A22×A23):R:=f h.1 h.2.1 h.2.2.1 h.2.2.2.1 h.2.2.2.2.1 h.2.2.2.2.2.1 h.2.2.2.2.2.2.1 h.2.2.2.2.2.2.2.1 h.2.2.2.2.2.2.2.2.1 h.2.2.2.2.2.2.2.2.2.1 h.2.2.2.2.2.2.2.2.2.2.1 h.2.2.2.2.2.2.2.2.2.2.2.1 h.2.2.2.2.2.2.2.2.2.2.2.2.1 h.2.2.2.2.2.2.2.2.2.2.2.2.2.1 h.2.2.2.2.2.2.2.2.2.2.2.2.2.2.1 h.2.2.2.2.2.2.2.2.2.2.2.2.2.2.2.1 h.2.2.2.2.2.2.2.2.2.2.2.2.2.2.2.2.1 h.2.2.2.2.2.2.2.2.2.2.2.2.2.2.2.2.2.1 h.2.2.2.2.2.2.2.2.2.2.2.2.2.2.2.2.2.2.1 h.2.2.2.2.2.2.2.2.2.2.2.2.2.2.2.2.2.2.2.1 h.2.2.2.2.2.2.2.2.2.2.2.2.2.2.2.2.2.2.2.2.1 h.2.2.2.2.2.2.2.2.2.2.2.2.2.2.2.2.2.2.2.2.2.1 h.2.2.2.2.2.2.2.2.2.2.2.2.2.2.2.2.2.2.2.2.2.2.1 h.2.2.2.2.2.2.2.2.2.2.2.2.2.2.2.2.2.2.2.2.2.2.2
def jhb (a:(List Int)):Option (Bool):=
 let b:=(Int.ofNat (List.length a))
 some (decide (b≤500))
def jji  : Option (Tn59×Tn53×Tn30×Tn70):=
 let g:Tn59:=[((ByteArray.mk #[122]),(0,([]:Tn47)))]
 let f:Tn53:=[((ByteArray.mk #[97]),(0,(([]:Tn2),(0,(0,false))))),((ByteArray.mk #[98]),(0,(([]:Tn2),(0,(0,false))))),((ByteArray.mk #[99]),(0,(([]:Tn2),(0,(0,false)))))]
 let a:(List Int):=[0,1]
 let d:(List Int):=[2]
 let c:Tn2:=[(0,86400)]
 let b:Tn65:=[((ByteArray.mk #[108,111,119]),(0,((4,0),(2,(1,(a,(([]:Tn2),(0,0)))))))),((ByteArray.mk #[116,111,112]),(0,((4,0),(2,(1,(d,(c,(0,0))))))))]
 let e:Tn70:=[((ByteArray.mk #[115]),(b,([]:Tn34)))]
 some (g,f,([]:Tn30),e)
def jgh  : Option (Tn76):=
 (jji).bind fun a=>
 let c:Tn34:=[(2,(0,(1,(432000,518400)))),(1,(2,(0,(432000,475200))))]
 cond (inR 0 (List.length a.2.2.2)) (
 let b:Tn70:=(List.set a.2.2.2 0 ((List.getD a.2.2.2 0 (ByteArray.empty,(([]:Tn65),([]:Tn34)))).1,((List.getD a.2.2.2 0 (ByteArray.empty,(([]:Tn65),([]:Tn34)))).2.1,c)))
 some (a.1,(a.2.1,(a.2.2.1,b)))) none
def j9K (a:Tn57):Option (ByteArray):=
 some a.1
def jfm (a:Int):Option (Bool):=
 some (cond (decide (a≥97)) (decide (a≤122)) false)
def jjj (a:Int):Option (Bool):=
 some (cond (decide (a≥48)) (decide (a≤57)) false)
def jbz (g:ByteArray) (c b:Int):Option ((ByteArray×Int×Int) ⊕ (Bool ⊕ Unit)):=
 cond (decide (b<c)) (
 cond (inR b (ByteArray.size g)) (
 let a:=(jqN g b)
 (jfm a).bind fun e=>
 cond (!e) (
 (jjj a).bind fun f=>
 cond (cond (cond (!f) (a != 95) false) (a != 45) false) (
 some (.inr (.inl false))) (
 let i:=(w64 (b+1))
 some (.inl (g,c,i)))) (
 let d:=(w64 (b+1))
 some (.inl (g,c,d)))) none) (
 some (.inr (.inr ())))
def jcV [LP] (c:ByteArray) (b a:Int):Option (Bool ⊕ Unit):=
 LP.lp (unc3 (jbz)) (c,b,a)
def j7S [LP] (a:ByteArray):Option (Bool):=
 let f:=(Int.ofNat (ByteArray.size a))
 let b:Bool:=(cond (ByteArray.toList a==ByteArray.toList ByteArray.empty) true (decide (f>24)))
 cond ((inR 0 (ByteArray.size a)) || !(!b)) (
 let e:=(jqN a 0)
 cond b (
 some false) (
 (jfm e).bind fun d=>
 cond (!d) (
 some false) (
 let c:=(Int.ofNat (ByteArray.size a))
 (jcV a c 0).bind fun g=>
 sumC g (fun i=>
 some i) (fun j=>
 some true)))) none
def j3z [LP] (b:ByteArray) (a:(List (ByteArray×Bool))):Option (Int×(List (ByteArray×Bool))):=
 (j7S b).bind fun c=>
 cond (!c) (
 some (2,a)) (
 cond (j5P false a b) (
 some (4,a)) (
 let d:(List (ByteArray×Bool)):=(j6V a b true)
 some (0,d)))
def j9L (a b c:Int):Option (Bool):=
 some (cond (decide (a≥b)) (decide (a≤c)) false)
def je3 (a:Tn43):Option (Int):=
 (j9L a.1 1970 2240).bind fun i=>
 cond (!i) (
 some 1) (
 (j9L a.2.1 a.1 2240).bind fun f=>
 cond (!f) (
 some 1) (
 (j9L a.2.2.1 1 12).bind fun e=>
 cond (!e) (
 some 1) (
 (j9L a.2.2.2.1 1 5).bind fun d=>
 cond (!d) (
 some 1) (
 (j9L a.2.2.2.2.1 0 6).bind fun c=>
 cond (!c) (
 some 1) (
 (j9L a.2.2.2.2.2.1 0 86399).bind fun g=>
 cond (!g) (
 some 1) (
 (j9L a.2.2.2.2.2.2 (-64800) 64800).bind fun b=>
 cond (!b) (
 some 1) (
 some 0)))))))
def jhc (a:Int):Option (Bool):=
 let c:=(Int.tmod a 4)
 let d:=(Int.tmod a 100)
 let b:=(Int.tmod a 400)
 some (cond (c==0) (cond (d != 0) true (b==0)) false)
def j6H (c a:Int):Option (Int):=
 cond (cond (decide (a<1)) true (decide (a>12))) (
 some 0) (
 let e:(List Int):=[31,28,31,30,31,30,31,31,30,31,30,31]
 let j:(List Int):=(List.replicate 12 0)
 cond (a==2) (
 (jhc c).bind fun i=>
 cond i (
 some 29) (
 let f:=(w64 (a-1))
 cond (inR f 12) (
 let g:=(List.getD e (Int.toNat f) 0)
 some g) none)) (
 let b:=(w64 (a-1))
 cond (inR b 12) (
 let d:=(List.getD e (Int.toNat b) 0)
 some d) none))
def jaC (a:Tn4):Option (Bool):=
 cond (decide (a.1≥1970)) (
 cond (decide (a.1≤2240)) (
 cond (decide (a.2.2≥1)) (
 (j6H a.1 a.2.1).bind fun b=>
 some (decide (a.2.2≤b))) (
 some false)) (
 some false)) (
 some false)
def j7G (b a:Int):Option (Int):=
 cond (!(a==0)) (
 let c:=(w64 (Int.tdiv b a))
 cond (!(a==0)) (
 let d:=(Int.tmod b a)
 cond (decide (d<0)) (
 let e:=(w64 (c-1))
 some e) (
 some c)) none) none
def j4V (a:Int):Option (Int):=
 let b:=(w64 (a-1))
 let l:=(w64 (a-1970))
 let k:=(w64 (365*l))
 (j7G b 4).bind fun f=>
 let c:=(w64 (k+f))
 (j7G b 100).bind fun d=>
 let j:=(w64 (c-d))
 (j7G b 400).bind fun i=>
 let e:=(w64 (j+i))
 let g:=(w64 (e-477))
 some g
def j3W (i e g a f:Int):Option ((Int×Int×Int×Int×Int) ⊕ (Int)):=
 cond (decide (e<a)) (
 (j6H g e).bind fun c=>
 let d:=(w64 (i+c))
 let b:=(w64 (e+1))
 some (.inl (d,b,g,a,f))) (
 some (.inr i))
def j5g [LP] (e d c a b:Int):Option (Int):=
 LP.lp (unc5 (j3W)) (e,d,c,a,b)
theorem jbA (e d c a b):j5g e d c a b=lpK (j3W e d c a b) (fun h=>j5g h.1 h.2.1 h.2.2.1 h.2.2.2.1 h.2.2.2.2):=j05 _ _
def j6o [LP] (a:Tn4):Option (Int):=
 (j4V a.1).bind fun d=>
 let c:=(w64 (d+a.2.2))
 let b:=(w64 (c-1))
 (j5g b 1 a.1 a.2.1 a.2.2).bind fun e=>
 some e
def j6I (a:Int):Option (Int):=
 let d:=(Int.tmod a 7)
 let b:=(w64 (d+10))
 let c:=(Int.tmod b 7)
 some c
def jaD [LP] (c b d a:Int):Option (Int×Int):=
 (jaC (c,(b,1))).bind fun n=>
 let g:Bool:=(cond (cond (!n) true (decide (d<1))) true (decide (d>5)))
 let j:Bool:=(cond (cond g true (decide (a<0))) true (decide (a>6)))
 cond j (
 some (0,1)) (
 (j6o (c,(b,1))).bind fun f=>
 (j6I f).bind fun s=>
 let o:=(w64 (a-s))
 let i:=(w64 (o+7))
 let r:=(Int.tmod i 7)
 let q:=(w64 (f+r))
 let k:=(w64 (d-1))
 let l:=(w64 (7*k))
 let e:=(w64 (q+l))
 (j6H c b).bind fun t=>
 let m:=(w64 (f+t))
 cond (decide (e≥m)) (
 let p:=(w64 (e-7))
 some (p,0)) (
 some (e,0)))
def j7H (a b:(Int×Int)):Option (Int):=
 let c:=(w64 (a.1-b.1))
 some c
def j0o (q u t b:Int) (a:Tn2):Option ((Int×Int×Int×Int×Tn2) ⊕ ((Int×Int×Int×Tn2))):=
 cond (decide (b>q)) (
 cond (inR b (List.length a)) (
 let o:=(List.getD a (Int.toNat b) (0,0)).1
 let s:=(List.getD a (Int.toNat b) (0,0)).2
 let c:=(w64 (b-1))
 cond (inR c (List.length a)) (
 let k:=(List.getD a (Int.toNat c) (0,0)).1
 let i:=(List.getD a (Int.toNat c) (0,0)).2
 (j7H (o,s) (k,i)).bind fun n=>
 cond (decide (n<0)) (
 let e:=(w64 (b-1))
 let d:=(w64 (b-1))
 cond (inR d (List.length a)) (
 let r:=(List.getD a (Int.toNat d) (0,0)).1
 let g:=(List.getD a (Int.toNat d) (0,0)).2
 cond (inR b (List.length a)) (
 let l:=(List.getD a (Int.toNat b) (0,0)).1
 let j:=(List.getD a (Int.toNat b) (0,0)).2
 cond (inR b (List.length a)) (
 let f:Tn2:=(List.set a (Int.toNat b) (r,g))
 cond (inR e (List.length f)) (
 let p:Tn2:=(List.set f (Int.toNat e) (l,j))
 let m:=(w64 (b-1))
 some (.inl (q,u,t,m,p))) none) none) none) none) (
 some (.inr (q,u,t,a)))) none) none) (
 some (.inr (q,u,t,a)))
def j0j [LP] (a d b e:Int) (c:Tn2):Option ((Int×Int×Int×Tn2)):=
 LP.lp (unc5 (j0o)) (a,d,b,e,c)
theorem j2u (a d b e c):j0j a d b e c=lpK (j0o a d b e c) (fun h=>j0j h.1 h.2.1 h.2.2.1 h.2.2.2.1 h.2.2.2.2):=j05 _ _
def j08 [LP] (f e c:Int) (d:Tn2):Option ((Int×Int×Int×Tn2) ⊕ (Tn2)):=
 cond (decide (c<e)) (
 (j0j f e c c d).bind fun a=>
 let b:=(w64 (a.2.2.1+1))
 some (.inl (a.1,a.2.1,b,a.2.2.2))) (
 some (.inr d))
def j0k [LP] (a c b:Int) (d:Tn2):Option (Tn2):=
 LP.lp (unc4 (j08)) (a,c,b,d)
theorem j1d (a d b c):j0k a d b c=lpK (j08 a d b c) (fun h=>j0k h.1 h.2.1 h.2.2.1 h.2.2.2):=j05 _ _
def j0d [LP] (a:Tn2) (b c:Int):Option (Tn2):=
 let d:=(w64 (b+1))
 (j0k b c d a).bind fun e=>
 some e
def j0f [LP] (d e g b:Int) (f:Tn2):Option ((Int×Int×Int×Int×Tn2) ⊕ ((Int×Int×Int×Tn2))):=
 cond (decide (b≤d)) (
 (j0d f g b).bind fun a=>
 let c:=(w64 (b+e))
 some (.inl (d,e,b,c,a))) (
 some (.inr (d,e,g,f)))
def j0A [LP] (a d e b:Int) (c:Tn2):Option ((Int×Int×Int×Tn2)):=
 LP.lp (unc5 (j0f)) (a,d,e,b,c)
theorem j5R (a d e b c):j0A a d e b c=lpK (j0f a d e b c) (fun h=>j0A h.1 h.2.1 h.2.2.1 h.2.2.2.1 h.2.2.2.2):=j05 _ _
def j2Z (a b c e:Int) (f:Tn2):Option ((Int×Int×Int×Int×Tn2) ⊕ ((Int×Int×Int×Tn2))):=
 cond (decide (e≤a)) (
 let d:=(w64 (c+b))
 none) (
 some (.inr (a,b,c,f)))
def j2e [LP] (a d e b:Int) (c:Tn2):Option ((Int×Int×Int×Tn2)):=
 LP.lp (unc5 (j2Z)) (a,d,e,b,c)
def j0g [LP] (f e:Int) (g:Tn2):Option ((Int×Int×Tn2) ⊕ (Tn2)):=
 cond (decide (e<f)) (
 let b:=(w64 (2*e))
 (j2e f e 0 b g).bind fun a=>
 let c:=(w64 (a.2.2.1+a.2.1))
 cond (decide (c<a.1)) (
 none) (
 let d:=(w64 (a.2.1*2))
 some (.inl (a.1,d,a.2.2.2)))) (
 some (.inr g))
def j0B [LP] (a b:Int) (c:Tn2):Option (Tn2):=
 LP.lp (unc3 (j0g)) (a,b,c)
theorem j5S (a b c):j0B a b c=lpK (j0g a b c) (fun h=>j0B h.1 h.2.1 h.2.2):=j05 _ _
def j0N [LP] (a:Tn2) (c:Int):Option (Tn2):=
 (j0A c 20 0 20 a).bind fun b=>
 (j0d b.2.2.2 b.2.2.1 b.1).bind fun d=>
 (j0B b.1 b.2.1 d).bind fun e=>
 some e
def j0a [LP] (a:Tn2):Option (Tn2):=
 let c:=(Int.ofNat (List.length a))
 (j0N a c).bind fun b=>
 some b
def j2P (n:Int) (d:Tn47) (l c:Int) (m:ByteArray) (e:Int) (f:Tn47):Option ((Int×Tn47×Int×Int×ByteArray×Int×Tn47) ⊕ (Int ⊕ (Int×ByteArray×Int×Tn47))):=
 cond (decide (c<l)) (
 cond (inR c (List.length d)) (
 let a:=(List.getD d (Int.toNat c) (0,(0,(0,(0,(0,(0,0)))))))
 (je3 (a.1,(a.2.1,(a.2.2.1,(a.2.2.2.1,(a.2.2.2.2.1,(a.2.2.2.2.2.1,a.2.2.2.2.2.2))))))).bind fun b=>
 cond (b != 0) (
 some (.inr (.inl b))) (
 let i:=(w64 (a.2.1-a.1))
 let k:=(w64 (i+1))
 let g:=(w64 (n+k))
 let j:=(w64 (c+1))
 some (.inl (g,d,l,j,m,e,f)))) none) (
 some (.inr (.inr (n,m,e,f))))
def j2H [LP] (g:Int) (d:Tn47) (e c:Int) (f:ByteArray) (a:Int) (b:Tn47):Option (Int ⊕ (Int×ByteArray×Int×Tn47)):=
 LP.lp (unc7 (j2P)) (g,d,e,c,f,a,b)
theorem j8G (g d e c f a b):j2H g d e c f a b=lpK (j2P g d e c f a b) (fun h=>j2H h.1 h.2.1 h.2.2.1 h.2.2.2.1 h.2.2.2.2.1 h.2.2.2.2.2.1 h.2.2.2.2.2.2):=j05 _ _
def j13 [LP] (i:Int) (o:Tn47) (p q s c g b d a e:Int) (r:Tn2):Option ((Int×Tn47×Int×Int×Int×Int×Int×Int×Int×Int×Int×Tn2) ⊕ ((Tn47×Int×Int×Tn2))):=
 cond (decide (i≤c)) (
 (jaD i g b d).bind fun l=>
 let m:=(w64 (l.1*86400))
 let n:=(w64 (m+a))
 let f:Tn2:=[(n,e)]
 cond (decide (List.length r+List.length f≤j06)) (
 let j:Tn2:=(r++f)
 let k:=(w64 (i+1))
 some (.inl (k,o,p,q,s,c,g,b,d,a,e,j))) none) (
 some (.inr (o,p,q,r)))
def j3i [LP] (k:Int) (g:Tn47) (j l i c f b d a e:Int) (m:Tn2):Option ((Tn47×Int×Int×Tn2)):=
 LP.lp (jtF (j13)) (k,g,j,l,i,c,f,b,d,a,e,m)
theorem j8H (k g j l i c f b d a e m):j3i k g j l i c f b d a e m=lpK (j13 k g j l i c f b d a e m) (fun h=>j3i h.1 h.2.1 h.2.2.1 h.2.2.2.1 h.2.2.2.2.1 h.2.2.2.2.2.1 h.2.2.2.2.2.2.1 h.2.2.2.2.2.2.2.1 h.2.2.2.2.2.2.2.2.1 h.2.2.2.2.2.2.2.2.2.1 h.2.2.2.2.2.2.2.2.2.2.1 h.2.2.2.2.2.2.2.2.2.2.2):=j05 _ _
def j14 [LP] (d:Tn47) (f c:Int) (g:Tn2):Option ((Tn47×Int×Int×Tn2) ⊕ (Tn2)):=
 cond (decide (c<f)) (
 cond (inR c (List.length d)) (
 let a:=(List.getD d (Int.toNat c) (0,(0,(0,(0,(0,(0,0)))))))
 (j3i a.1 d f c a.1 a.2.1 a.2.2.1 a.2.2.2.1 a.2.2.2.2.1 a.2.2.2.2.2.1 a.2.2.2.2.2.2 g).bind fun b=>
 let e:=(w64 (b.2.2.1+1))
 some (.inl (b.1,b.2.1,e,b.2.2.2))) none) (
 some (.inr g))
def j2I [LP] (b:Tn47) (c a:Int) (d:Tn2):Option (Tn2):=
 LP.lp (unc4 (j14)) (b,c,a,d)
theorem j8I (a b c d):j2I a b c d=lpK (j14 a b c d) (fun h=>j2I h.1 h.2.1 h.2.2.1 h.2.2.2):=j05 _ _
def j3P [LP] (a:Tn57):Option (Tn2×Int):=
 (j9L a.2.1 (-64800) 64800).bind fun e=>
 cond (!e) (
 some (([]:Tn2),1)) (
 let b:=(Int.ofNat (List.length a.2.2))
 cond (decide (b>16)) (
 some (([]:Tn2),5)) (
 let c:=(Int.ofNat (List.length a.2.2))
 (j2H 0 a.2.2 c 0 a.1 a.2.1 a.2.2).bind fun j=>
 sumC j (fun k=>
 some (([]:Tn2),k)) (fun i=>
 cond (decide (i.1>640)) (
 some (([]:Tn2),5)) (
 let d:=(Int.ofNat (List.length i.2.2.2))
 (j2I i.2.2.2 d 0 ([]:Tn2)).bind fun g=>
 (j0a g).bind fun f=>
 some (f,0)))))
def j2Q (n m c:Int) (a e:Tn2):Option ((Int×Int×Int×Tn2×Tn2) ⊕ (Int ⊕ Tn2)):=
 cond (decide (c<m)) (
 cond (inR c (List.length e)) (
 let r:=(List.getD e (Int.toNat c) (0,0)).1
 let b:=(List.getD e (Int.toNat c) (0,0)).2
 cond (b==n) (
 let o:=(w64 (c+1))
 some (.inl (n,m,o,a,e))) (
 let d:=(w64 (r-n))
 let l:=(w64 (b-n))
 cond (cond (decide (l≥86400)) true (decide (l≤(-86400)))) (
 let u:=(Int.ofNat (List.length a))
 let v:=(Int.ofNat (List.length a))
 let i:=(w64 (v-1))
 cond ((inR i (List.length a)) || !((!true)&&(decide (u>0)))) (
 let q:=(List.getD a (Int.toNat i) (0,0)).1
 let y:=(w64 (q+604800))
 some (.inr (.inl 6))) none) (
 (j9L d 0 8589934592).bind fun k=>
 let g:=(Int.ofNat (List.length a))
 let x:=(Int.ofNat (List.length a))
 let f:=(w64 (x-1))
 cond ((inR f (List.length a)) || !((!(!k))&&(decide (g>0)))) (
 let t:=(List.getD a (Int.toNat f) (0,0)).1
 let p:=(w64 (t+604800))
 cond (cond (!k) true (cond (decide (g>0)) (decide (d<p)) false)) (
 some (.inr (.inl 6))) (
 let j:Tn2:=[(d,b)]
 cond (decide (List.length a+List.length j≤j06)) (
 let s:Tn2:=(a++j)
 let w:=(w64 (c+1))
 some (.inl (b,m,w,s,e))) none)) none))) none) (
 some (.inr (.inr a)))
def j2J [LP] (e b c:Int) (d a:Tn2):Option (Int ⊕ Tn2):=
 LP.lp (unc5 (j2Q)) (e,b,c,d,a)
theorem j8J (e b c d a):j2J e b c d a=lpK (j2Q e b c d a) (fun h=>j2J h.1 h.2.1 h.2.2.1 h.2.2.2.1 h.2.2.2.2):=j05 _ _
def j2m [LP] (a:Tn57):Option (Tn2×Int):=
 (j3P (a.1,(a.2.1,a.2.2))).bind fun b=>
 cond (b.2 != 0) (
 some (([]:Tn2),b.2)) (
 let c:=(Int.ofNat (List.length b.1))
 (j2J a.2.1 c 0 ([]:Tn2) b.1).bind fun d=>
 sumC d (fun f=>
 some (([]:Tn2),f)) (fun e=>
 some (e,0)))
def j7T [LP] (a:Tn57):Option (Int):=
 (j2m (a.1,(a.2.1,a.2.2))).bind fun b=>
 some b.2
def j6Y (a:Tn43):Option (Bool):=
 let b:=(Int.tmod a.2.2.2.2.2.2 60)
 some (b != 0)
def j0q (e:Tn47) (f b:Int):Option ((Tn47×Int×Int) ⊕ (Int ⊕ Unit)):=
 cond (decide (b<f)) (
 cond (inR b (List.length e)) (
 let a:=(List.getD e (Int.toNat b) (0,(0,(0,(0,(0,(0,0)))))))
 (j6Y (a.1,(a.2.1,(a.2.2.1,(a.2.2.2.1,(a.2.2.2.2.1,(a.2.2.2.2.2.1,a.2.2.2.2.2.2))))))).bind fun c=>
 cond c (
 some (.inr (.inl b))) (
 let d:=(w64 (b+1))
 some (.inl (e,f,d)))) none) (
 some (.inr (.inr ())))
def j0l [LP] (a:Tn47) (c b:Int):Option (Int ⊕ Unit):=
 LP.lp (unc3 (j0q)) (a,c,b)
theorem j2w (a c b):j0l a c b=lpK (j0q a c b) (fun h=>j0l h.1 h.2.1 h.2.2):=j05 _ _
def j0t [LP] (a:Tn47):Option (Int):=
 let b:=(Int.ofNat (List.length a))
 (j0l a b 0).bind fun c=>
 sumC c (fun d=>
 some d) (fun e=>
 some (-1))
def j0m [LP] (a:Tn47):Option (Bool):=
 (j0t a).bind fun b=>
 some (decide (b≥0))
def j2R [LP] (a:Tn57):Option (Int):=
 (j7T (a.1,(a.2.1,a.2.2))).bind fun d=>
 let c:=(Int.tmod a.2.1 60)
 cond (cond (d != 0) true (c != 0)) (
 some 8) (
 (j0m a.2.2).bind fun b=>
 cond b (
 some 8) (
 some 0))
def j0E [LP] (e:Tn59) (i d:Int) (j:(List (ByteArray×Bool))):Option ((Tn59×Int×Int×(List (ByteArray×Bool))) ⊕ (Int ⊕ Unit)):=
 cond (decide (d<i)) (
 cond (inR d (List.length e)) (
 let a:=(List.getD e (Int.toNat d) (ByteArray.empty,(0,([]:Tn47))))
 (j9K (a.1,(a.2.1,a.2.2))).bind fun g=>
 (j3z g j).bind fun b=>
 cond (b.1 != 0) (
 some (.inr (.inl b.1))) (
 (j2R (a.1,(a.2.1,a.2.2))).bind fun c=>
 cond (c != 0) (
 some (.inr (.inl c))) (
 let f:=(w64 (d+1))
 some (.inl (e,i,f,b.2))))) none) (
 some (.inr (.inr ())))
def j1q [LP] (a:Tn59) (c b:Int) (d:(List (ByteArray×Bool))):Option (Int ⊕ Unit):=
 LP.lp (unc4 (j0E)) (a,c,b,d)
theorem j69 (a:Tn59) (c b:Int) (d:(List (ByteArray×Bool))):j1q a c b d=lpK (j0E a c b d) (fun h=>j1q h.1 h.2.1 h.2.2.1 h.2.2.2):=j05 _ _
def j23 [LP] (a:Tn59):Option (Int):=
 let b:(List (ByteArray×Bool)):=([]:(List (ByteArray×Bool)))
 let c:=(Int.ofNat (List.length a))
 (j1q a c 0 b).bind fun d=>
 sumC d (fun e=>
 some e) (fun f=>
 some 0)
def j2n (a b:Int):Option (Bool):=
 some (cond (decide (a≥0)) (decide (a<b)) false)
def j4F (j d:Tn2) (k b:Int):Option ((Tn2×Tn2×Int×Int) ⊕ (Int ⊕ Unit)):=
 cond (decide (b<k)) (
 cond (inR b (List.length d)) (
 let a:=(List.getD d (Int.toNat b) (0,0))
 let i:Bool:=(cond (cond (decide (a.1<0)) true (decide (a.1≥a.2))) true (decide (a.2>604800)))
 cond i (
 some (.inr (.inl 1))) (
 cond (decide (b>0)) (
 let c:=(w64 (b-1))
 cond (inR c (List.length j)) (
 let f:=(List.getD j (Int.toNat c) (0,0))
 cond (decide (a.1<f.2)) (
 some (.inr (.inl 6))) (
 let g:=(w64 (b+1))
 some (.inl (j,d,k,g)))) none) (
 let e:=(w64 (b+1))
 some (.inl (j,d,k,e))))) none) (
 some (.inr (.inr ())))
def j6J [LP] (b c:Tn2) (d a:Int):Option (Int ⊕ Unit):=
 LP.lp (unc4 (j4F)) (b,c,d,a)
theorem jds (d b c a):j6J d b c a=lpK (j4F d b c a) (fun h=>j6J h.1 h.2.1 h.2.2.1 h.2.2.2):=j05 _ _
def j7U [LP] (a:Tn2):Option (Int):=
 let b:=(Int.ofNat (List.length a))
 cond (decide (b>14)) (
 some 5) (
 let c:=(Int.ofNat (List.length a))
 (j6J a a c 0).bind fun d=>
 sumC d (fun e=>
 some e) (fun f=>
 some 0))
def j6K (a b c:Int):Option (Bool):=
 some (cond (decide (a≥b)) (decide (a≤c)) false)
def j5D (a:Int):Option (Bool):=
 (j6K a 0 604800).bind fun c=>
 let b:=(Int.tmod a 3600)
 some (cond c (b==0) false)
def j1Q [LP] (b:Tn76) (a:Tn49):Option (Int):=
 let c:=(Int.ofNat (List.length b.1))
 (j2n a.2.1 c).bind fun f=>
 cond (!f) (
 some 3) (
 (j7U a.2.2.1).bind fun d=>
 cond (d != 0) (
 some 8) (
 (j5D a.2.2.2.1).bind fun e=>
 cond (!e) (
 some 1) (
 (j5D a.2.2.2.2.1).bind fun g=>
 cond (!g) (
 some 1) (
 some 0))))
def j9M (a:Tn22):Option (ByteArray):=
 some a.1
def jbB (e d:Int):Option ((Int×Int) ⊕ (Int)):=
 let b:=(w64 (d+1))
 (j4V b).bind fun c=>
 cond (decide (c≤e)) (
 let a:=(w64 (d+1))
 some (.inl (e,a))) (
 some (.inr d))
def jcW [LP] (a b:Int):Option (Int):=
 LP.lp (unc2 (jbB)) (a,b)
def jco [LP] (a:Int):Option (Int):=
 (j7G a 366).bind fun c=>
 let b:=(w64 (1970+c))
 (jcW a b).bind fun d=>
 some d
def jaa (k l d c f a b:Int):Option ((Int×Int×Int×Int×Int×Int×Int) ⊕ ((Int×Int×Int×Int×Int×Int×Int))):=
 (j6H f a).bind fun j=>
 cond (decide (k≥j)) (
 (j6H f a).bind fun g=>
 let i:=(w64 (k-g))
 let e:=(w64 (a+1))
 some (.inl (i,l,d,c,f,e,b))) (
 some (.inr (k,l,d,c,f,a,b)))
def jaE [LP] (g f d b e c a:Int):Option ((Int×Int×Int×Int×Int×Int×Int)):=
 LP.lp (unc7 (jaa)) (g,f,d,b,e,c,a)
def j6p [LP] (a:Int):Option (Tn4×Int):=
 (j4V 1970).bind fun i=>
 cond (decide (a<i)) (
 some ((0,(0,0)),1)) (
 (j4V 2241).bind fun f=>
 cond (decide (a≥f)) (
 some ((0,(0,0)),1)) (
 (jco a).bind fun b=>
 (j4V b).bind fun e=>
 let g:=(w64 (a-e))
 (jaE g 0 0 0 b 1 0).bind fun c=>
 let d:=(w64 (c.1+1))
 some ((c.2.2.2.2.1,(c.2.2.2.2.2.1,d)),0)))
def j1z [LP] (a:Int):Option (Bool):=
 (j6p a).bind fun b=>
 some (b.2==0)
def j28 [LP] (a:Int):Option (Bool):=
 (j1z a).bind fun b=>
 some (!b)
def j0x [LP] (e:(List Int)) (f a:Int):Option (((List Int)×Int×Int) ⊕ (Int ⊕ Unit)):=
 cond (decide (a<f)) (
 cond (inR a (List.length e)) (
 let d:=(List.getD e (Int.toNat a) 0)
 (j28 d).bind fun b=>
 cond b (
 some (.inr (.inl a))) (
 let c:=(w64 (a+1))
 some (.inl (e,f,c)))) none) (
 some (.inr (.inr ())))
def j1A [LP] (a:(List Int)) (c b:Int):Option (Int ⊕ Unit):=
 LP.lp (unc3 (j0x)) (a,c,b)
theorem j5y (a c b):j1A a c b=lpK (j0x a c b) (fun h=>j1A h.1 h.2.1 h.2.2):=j05 _ _
def j29 [LP] (a:(List Int)):Option (Int):=
 let b:=(Int.ofNat (List.length a))
 (j1A a b 0).bind fun c=>
 sumC c (fun d=>
 some d) (fun e=>
 some (-1))
def j1B [LP] (a:(List Int)):Option (Bool):=
 (j29 a).bind fun b=>
 some (decide (b≥0))
def j1U (e b:Int) (k:ByteArray) (d:Int) (a:(List Int)):Option ((Int×Int×ByteArray×Int×(List Int)) ⊕ (Int ⊕ Unit)):=
 cond (decide (b<e)) (
 cond (decide (b>0)) (
 cond (inR b (List.length a)) (
 let i:=(List.getD a (Int.toNat b) 0)
 let c:=(w64 (b-1))
 cond (inR c (List.length a)) (
 let f:=(List.getD a (Int.toNat c) 0)
 cond (decide (i≤f)) (
 some (.inr (.inl 6))) (
 let j:=(w64 (b+1))
 some (.inl (e,j,k,d,a)))) none) none) (
 let g:=(w64 (b+1))
 some (.inl (e,g,k,d,a)))) (
 some (.inr (.inr ())))
def j2a [LP] (c d:Int) (e:ByteArray) (a:Int) (b:(List Int)):Option (Int ⊕ Unit):=
 LP.lp (unc5 (j1U)) (c,d,e,a,b)
theorem j6q (c d e a b):j2a c d e a b=lpK (j1U c d e a b) (fun h=>j2a h.1 h.2.1 h.2.2.1 h.2.2.2.1 h.2.2.2.2):=j05 _ _
def j1I [LP] (b:Tn76) (a:Tn22):Option (Int):=
 let c:=(Int.ofNat (List.length b.1))
 (j2n a.2.1 c).bind fun g=>
 cond (!g) (
 some 3) (
 let d:=(Int.ofNat (List.length a.2.2))
 cond (decide (d>64)) (
 some 5) (
 (j1B a.2.2).bind fun e=>
 cond e (
 some 1) (
 let f:=(Int.ofNat (List.length a.2.2))
 (j2a f 0 a.1 a.2.1 a.2.2).bind fun i=>
 sumC i (fun j=>
 some j) (fun k=>
 some 0))))
def j4A [LP] (a:Tn22) (e:Tn59) (b:Tn53) (d:Tn30) (c:Tn70):Option (Int):=
 (j1I (e,(b,(d,c))) (a.1,(a.2.1,a.2.2))).bind fun f=>
 some f
def j0r [LP] (m:Tn59) (f:Tn53) (i:Tn30) (e:Tn70) (g:Tn30) (l d:Int) (n:(List (ByteArray×Bool))):Option ((Tn59×Tn53×Tn30×Tn70×Tn30×Int×Int×(List (ByteArray×Bool))) ⊕ (Int ⊕ Unit)):=
 cond (decide (d<l)) (
 cond (inR d (List.length g)) (
 let a:=(List.getD g (Int.toNat d) (ByteArray.empty,(0,([]:(List Int)))))
 (j9M (a.1,(a.2.1,a.2.2))).bind fun k=>
 (j3z k n).bind fun b=>
 cond (b.1 != 0) (
 some (.inr (.inl b.1))) (
 (j4A (a.1,(a.2.1,a.2.2)) m f i e).bind fun c=>
 cond (c != 0) (
 some (.inr (.inl c))) (
 let j:=(w64 (d+1))
 some (.inl (m,f,i,e,g,l,j,b.2))))) none) (
 some (.inr (.inr ())))
def j0V [LP] (g:Tn59) (b:Tn53) (c:Tn30) (a:Tn70) (d:Tn30) (f e:Int) (i:(List (ByteArray×Bool))):Option (Int ⊕ Unit):=
 LP.lp (unc8 (j0r)) (g,b,c,a,d,f,e,i)
theorem j57 (g:Tn59) (b:Tn53) (c:Tn30) (a:Tn70) (d:Tn30) (f e:Int) (i:(List (ByteArray×Bool))):j0V g b c a d f e i=lpK (j0r g b c a d f e i) (fun h=>j0V h.1 h.2.1 h.2.2.1 h.2.2.2.1 h.2.2.2.2.1 h.2.2.2.2.2.1 h.2.2.2.2.2.2.1 h.2.2.2.2.2.2.2):=j05 _ _
def j1e [LP] (e:Tn30) (d:Tn59) (a:Tn53) (c:Tn30) (b:Tn70):Option (Int):=
 let f:(List (ByteArray×Bool)):=([]:(List (ByteArray×Bool)))
 let g:=(Int.ofNat (List.length e))
 (j0V d a c b e g 0 f).bind fun i=>
 sumC i (fun j=>
 some j) (fun k=>
 some 0)
def j9N (a:Tn69):Option (ByteArray):=
 some a.1
def j5h (a:Tn64):Option (ByteArray):=
 some a.1
def j6r (b:Int) (g:Tn59) (a:Tn53) (f:Tn30) (c:Tn70):Option (Bool):=
 let d:=(Int.ofNat (List.length a))
 (j2n b d).bind fun e=>
 some (!e)
def j10 (i:(List Int)) (j:Tn59) (b:Tn53) (d:Tn30) (c:Tn70) (k a:Int):Option (((List Int)×Tn59×Tn53×Tn30×Tn70×Int×Int) ⊕ (Int ⊕ Unit)):=
 cond (decide (a<k)) (
 cond (inR a (List.length i)) (
 let g:=(List.getD i (Int.toNat a) 0)
 (j6r g j b d c).bind fun e=>
 cond e (
 some (.inr (.inl a))) (
 let f:=(w64 (a+1))
 some (.inl (i,j,b,d,c,k,f)))) none) (
 some (.inr (.inr ())))
def j15 [LP] (g:(List Int)) (d:Tn59) (a:Tn53) (c:Tn30) (b:Tn70) (f e:Int):Option (Int ⊕ Unit):=
 LP.lp (unc7 (j10)) (g,d,a,c,b,f,e)
theorem j4G (g d a c b f e):j15 g d a c b f e=lpK (j10 g d a c b f e) (fun h=>j15 h.1 h.2.1 h.2.2.1 h.2.2.2.1 h.2.2.2.2.1 h.2.2.2.2.2.1 h.2.2.2.2.2.2):=j05 _ _
def j1C [LP] (b:(List Int)) (e:Tn59) (a:Tn53) (d:Tn30) (c:Tn70):Option (Int):=
 let f:=(Int.ofNat (List.length b))
 (j15 b e a d c f 0).bind fun g=>
 sumC g (fun i=>
 some i) (fun j=>
 some (-1))
def j16 [LP] (e:(List Int)) (d:Tn59) (a:Tn53) (c:Tn30) (b:Tn70):Option (Bool):=
 (j1C e d a c b).bind fun f=>
 some (decide (f≥0))
def j2x [LP] (b:Tn76) (a:Tn64):Option (Int):=
 let c:=(Int.ofNat (List.length b.1))
 (j2n a.2.1 c).bind fun m=>
 cond (!m) (
 some 3) (
 cond (decide (a.2.2.1.1<1)) (
 some 1) (
 (j1z a.2.2.1.1).bind fun d=>
 cond (!d) (
 some 1) (
 (j6K a.2.2.1.2 0 86399).bind fun e=>
 cond (!e) (
 some 1) (
 (j6K a.2.2.2.1 0 2).bind fun f=>
 cond (!f) (
 some 1) (
 (j6K a.2.2.2.2.1 1 400).bind fun g=>
 cond (!g) (
 some 1) (
 let i:=(Int.ofNat (List.length a.2.2.2.2.2.1))
 cond (i==0) (
 some 7) (
 let n:=(Int.ofNat (List.length a.2.2.2.2.2.1))
 cond (decide (n>12)) (
 some 5) (
 (j16 a.2.2.2.2.2.1 b.1 b.2.1 b.2.2.1 b.2.2.2).bind fun o=>
 cond o (
 some 3) (
 (j7U a.2.2.2.2.2.2.1).bind fun j=>
 cond (j != 0) (
 some 8) (
 (j6K a.2.2.2.2.2.2.2.2 0 2).bind fun p=>
 cond (!p) (
 some 1) (
 let k:=(Int.ofNat (List.length b.2.2.1))
 cond (a.2.2.2.2.2.2.2.2 != 0) (
 (j2n a.2.2.2.2.2.2.2.1 k).bind fun l=>
 cond (!l) (
 some 3) (
 cond (cond (a.2.2.2.2.2.2.2.2==0) (a.2.2.2.2.2.2.2.1 != 0) false) (
 some 1) (
 some 0))) (
 cond (cond (a.2.2.2.2.2.2.2.2==0) (a.2.2.2.2.2.2.2.1 != 0) false) (
 some 1) (
 some 0)))))))))))))
def j2b [LP] (a:Tn64) (e:Tn59) (b:Tn53) (d:Tn30) (c:Tn70):Option (Int):=
 (j2x (e,(b,(d,c))) (a.1,(a.2.1,((a.2.2.1.1,a.2.2.1.2),(a.2.2.2.1,(a.2.2.2.2.1,(a.2.2.2.2.2.1,(a.2.2.2.2.2.2.1,(a.2.2.2.2.2.2.2.1,a.2.2.2.2.2.2.2.2))))))))).bind fun f=>
 some f
def j0C [LP] (m:Tn59) (f:Tn53) (i:Tn30) (e:Tn70) (g:Tn65) (l d:Int) (n:(List (ByteArray×Bool))):Option ((Tn59×Tn53×Tn30×Tn70×Tn65×Int×Int×(List (ByteArray×Bool))) ⊕ (Int ⊕ Unit)):=
 cond (decide (d<l)) (
 cond (inR d (List.length g)) (
 let a:=(List.getD g (Int.toNat d) (ByteArray.empty,(0,((0,0),(0,(0,(([]:(List Int)),(([]:Tn2),(0,0)))))))))
 (j5h (a.1,(a.2.1,((a.2.2.1.1,a.2.2.1.2),(a.2.2.2.1,(a.2.2.2.2.1,(a.2.2.2.2.2.1,(a.2.2.2.2.2.2.1,(a.2.2.2.2.2.2.2.1,a.2.2.2.2.2.2.2.2))))))))).bind fun k=>
 (j3z k n).bind fun b=>
 cond (b.1 != 0) (
 some (.inr (.inl b.1))) (
 (j2b (a.1,(a.2.1,((a.2.2.1.1,a.2.2.1.2),(a.2.2.2.1,(a.2.2.2.2.1,(a.2.2.2.2.2.1,(a.2.2.2.2.2.2.1,(a.2.2.2.2.2.2.2.1,a.2.2.2.2.2.2.2.2)))))))) m f i e).bind fun c=>
 cond (c != 0) (
 some (.inr (.inl c))) (
 let j:=(w64 (d+1))
 some (.inl (m,f,i,e,g,l,j,b.2))))) none) (
 some (.inr (.inr ())))
def j1f [LP] (g:Tn59) (b:Tn53) (c:Tn30) (a:Tn70) (d:Tn65) (f e:Int) (i:(List (ByteArray×Bool))):Option (Int ⊕ Unit):=
 LP.lp (unc8 (j0C)) (g,b,c,a,d,f,e,i)
theorem j5T (g:Tn59) (b:Tn53) (c:Tn30) (a:Tn70) (d:Tn65) (f e:Int) (i:(List (ByteArray×Bool))):j1f g b c a d f e i=lpK (j0C g b c a d f e i) (fun h=>j1f h.1 h.2.1 h.2.2.1 h.2.2.2.1 h.2.2.2.2.1 h.2.2.2.2.2.1 h.2.2.2.2.2.2.1 h.2.2.2.2.2.2.2):=j05 _ _
def j1R [LP] (e:Tn65) (d:Tn59) (a:Tn53) (c:Tn30) (b:Tn70):Option (Int):=
 let f:(List (ByteArray×Bool)):=([]:(List (ByteArray×Bool)))
 let g:=(Int.ofNat (List.length e))
 (j1f d a c b e g 0 f).bind fun i=>
 sumC i (fun j=>
 some j) (fun k=>
 some 0)
def j2S [LP] (g:Tn76) (a:Tn28):Option (Int):=
 let i:=(Int.ofNat (List.length g.2.1))
 (j6K a.1 0 2).bind fun k=>
 cond (!k) (
 some 1) (
 (j2n a.2.1 i).bind fun f=>
 cond (cond (!f) (!(cond (a.1==1) (a.2.1==(-1)) false)) false) (
 cond (cond (!f) (!(cond (a.1==1) (a.2.1==(-1)) false)) false) (
 some 3) (
 cond (cond (a.1 != 2) (a.2.2.1 != 0) false) (
 some 1) (
 cond (cond (a.1==2) (a.2.1==a.2.2.1) false) (
 some 4) (
 let m:=(w64 (Int.tdiv a.2.2.2.2 86400))
 cond (cond (decide (a.2.2.2.1<0)) true (decide (a.2.2.2.2<0))) (
 some 1) (
 (j1z m).bind fun l=>
 cond (!l) (
 some 1) (
 cond (decide (a.2.2.2.1≥a.2.2.2.2)) (
 some 6) (
 some 0))))))) (
 cond (a.1==2) (
 (j2n a.2.2.1 i).bind fun j=>
 cond (!j) (
 some 3) (
 cond (cond (a.1 != 2) (a.2.2.1 != 0) false) (
 some 1) (
 cond (cond (a.1==2) (a.2.1==a.2.2.1) false) (
 some 4) (
 let c:=(w64 (Int.tdiv a.2.2.2.2 86400))
 cond (cond (decide (a.2.2.2.1<0)) true (decide (a.2.2.2.2<0))) (
 some 1) (
 (j1z c).bind fun b=>
 cond (!b) (
 some 1) (
 cond (decide (a.2.2.2.1≥a.2.2.2.2)) (
 some 6) (
 some 0))))))) (
 cond (cond (a.1 != 2) (a.2.2.1 != 0) false) (
 some 1) (
 cond (cond (a.1==2) (a.2.1==a.2.2.1) false) (
 some 4) (
 let e:=(w64 (Int.tdiv a.2.2.2.2 86400))
 cond (cond (decide (a.2.2.2.1<0)) true (decide (a.2.2.2.2<0))) (
 some 1) (
 (j1z e).bind fun d=>
 cond (!d) (
 some 1) (
 cond (decide (a.2.2.2.1≥a.2.2.2.2)) (
 some 6) (
 some 0))))))))
def j0J [LP] (d:Tn34) (j b:Int) (k:Tn59) (g:Tn53) (f:Tn30) (e:Tn70):Option ((Tn34×Int×Int×Tn59×Tn53×Tn30×Tn70) ⊕ (Int ⊕ Unit)):=
 cond (decide (b<j)) (
 cond (inR b (List.length d)) (
 let a:=(List.getD d (Int.toNat b) (0,(0,(0,(0,0)))))
 (j2S (k,(g,(f,e))) (a.1,(a.2.1,(a.2.2.1,(a.2.2.2.1,a.2.2.2.2))))).bind fun c=>
 cond (c != 0) (
 some (.inr (.inl c))) (
 let i:=(w64 (b+1))
 some (.inl (d,j,i,k,g,f,e)))) none) (
 some (.inr (.inr ())))
def j2c [LP] (f:Tn34) (d e:Int) (g:Tn59) (c:Tn53) (b:Tn30) (a:Tn70):Option (Int ⊕ Unit):=
 LP.lp (unc7 (j0J)) (f,d,e,g,c,b,a)
theorem j6s (f d e g c b a):j2c f d e g c b a=lpK (j0J f d e g c b a) (fun h=>j2c h.1 h.2.1 h.2.2.1 h.2.2.2.1 h.2.2.2.2.1 h.2.2.2.2.2.1 h.2.2.2.2.2.2):=j05 _ _
def j1J [LP] (a:Tn76) (b:Tn69):Option (Int):=
 let e:=(Int.ofNat (List.length b.2.1))
 let d:=(Int.ofNat (List.length b.2.2))
 cond (cond (decide (e>6)) true (decide (d>48))) (
 some 5) (
 (j1R b.2.1 a.1 a.2.1 a.2.2.1 a.2.2.2).bind fun c=>
 cond (c != 0) (
 some c) (
 let f:=(Int.ofNat (List.length b.2.2))
 (j2c b.2.2 f 0 a.1 a.2.1 a.2.2.1 a.2.2.2).bind fun g=>
 sumC g (fun i=>
 some i) (fun j=>
 some 0)))
def j4B [LP] (a:Tn69) (e:Tn59) (b:Tn53) (d:Tn30) (c:Tn70):Option (Int):=
 (j1J (e,(b,(d,c))) (a.1,(a.2.1,a.2.2))).bind fun f=>
 some f
def j0s [LP] (m:Tn59) (f:Tn53) (i:Tn30) (e g:Tn70) (l d:Int) (n:(List (ByteArray×Bool))):Option ((Tn59×Tn53×Tn30×Tn70×Tn70×Int×Int×(List (ByteArray×Bool))) ⊕ (Int ⊕ Unit)):=
 cond (decide (d<l)) (
 cond (inR d (List.length g)) (
 let a:=(List.getD g (Int.toNat d) (ByteArray.empty,(([]:Tn65),([]:Tn34))))
 (j9N (a.1,(a.2.1,a.2.2))).bind fun k=>
 (j3z k n).bind fun b=>
 cond (b.1 != 0) (
 some (.inr (.inl b.1))) (
 (j4B (a.1,(a.2.1,a.2.2)) m f i e).bind fun c=>
 cond (c != 0) (
 some (.inr (.inl c))) (
 let j:=(w64 (d+1))
 some (.inl (m,f,i,e,g,l,j,b.2))))) none) (
 some (.inr (.inr ())))
def j0W [LP] (g:Tn59) (b:Tn53) (c:Tn30) (a d:Tn70) (f e:Int) (i:(List (ByteArray×Bool))):Option (Int ⊕ Unit):=
 LP.lp (unc8 (j0s)) (g,b,c,a,d,f,e,i)
theorem j58 (g:Tn59) (b:Tn53) (c:Tn30) (a d:Tn70) (f e:Int) (i:(List (ByteArray×Bool))):j0W g b c a d f e i=lpK (j0s g b c a d f e i) (fun h=>j0W h.1 h.2.1 h.2.2.1 h.2.2.2.1 h.2.2.2.2.1 h.2.2.2.2.2.1 h.2.2.2.2.2.2.1 h.2.2.2.2.2.2.2):=j05 _ _
def j1P [LP] (e:Tn70) (d:Tn59) (a:Tn53) (c:Tn30) (b:Tn70):Option (Int):=
 let f:(List (ByteArray×Bool)):=([]:(List (ByteArray×Bool)))
 let g:=(Int.ofNat (List.length e))
 (j0W d a c b e g 0 f).bind fun i=>
 sumC i (fun j=>
 some j) (fun k=>
 some 0)
def j1K [LP] (g:Tn53) (i f:Int) (j:Tn59) (d:Tn53) (e:Tn30) (c:Tn70) (r:(List (ByteArray×Bool))):Option ((Tn53×Int×Int×Tn59×Tn53×Tn30×Tn70×(List (ByteArray×Bool))) ⊕ (Int ⊕ (Tn59×Tn53×Tn30×Tn70))):=
 cond (decide (f<i)) (
 cond (inR f (List.length g)) (
 let a:=(List.getD g (Int.toNat f) (ByteArray.empty,(0,(([]:Tn2),(0,(0,false))))))
 (j3z a.1 r).bind fun b=>
 let q:Bool:=(ByteArray.toList a.1==ByteArray.toList (ByteArray.mk #[110,111,98,111,100,121]))
 cond q (
 cond (2==0) (
 (j1Q (j,(d,(e,c))) (a.1,(a.2.1,(a.2.2.1,(a.2.2.2.1,(a.2.2.2.2.1,a.2.2.2.2.2)))))).bind fun k=>
 cond (k != 0) (
 some (.inr (.inl k))) (
 let n:=(w64 (f+1))
 some (.inl (g,i,n,j,d,e,c,b.2)))) (
 cond (2 != 0) (
 some (.inr (.inl 2))) (
 let m:=(w64 (f+1))
 some (.inl (g,i,m,j,d,e,c,b.2))))) (
 cond (b.1==0) (
 (j1Q (j,(d,(e,c))) (a.1,(a.2.1,(a.2.2.1,(a.2.2.2.1,(a.2.2.2.2.1,a.2.2.2.2.2)))))).bind fun l=>
 cond (l != 0) (
 some (.inr (.inl l))) (
 let o:=(w64 (f+1))
 some (.inl (g,i,o,j,d,e,c,b.2)))) (
 cond (b.1 != 0) (
 some (.inr (.inl b.1))) (
 let p:=(w64 (f+1))
 some (.inl (g,i,p,j,d,e,c,b.2)))))) none) (
 some (.inr (.inr (j,d,e,c))))
def j3Q [LP] (e:Tn53) (d f:Int) (g:Tn59) (b:Tn53) (c:Tn30) (a:Tn70) (i:(List (ByteArray×Bool))):Option (Int ⊕ (Tn59×Tn53×Tn30×Tn70)):=
 LP.lp (unc8 (j1K)) (e,d,f,g,b,c,a,i)
theorem jaF (e:Tn53) (d f:Int) (g:Tn59) (b:Tn53) (c:Tn30) (a:Tn70) (i:(List (ByteArray×Bool))):j3Q e d f g b c a i=lpK (j1K e d f g b c a i) (fun h=>j3Q h.1 h.2.1 h.2.2.1 h.2.2.2.1 h.2.2.2.2.1 h.2.2.2.2.2.1 h.2.2.2.2.2.2.1 h.2.2.2.2.2.2.2):=j05 _ _
def j4H [LP] (a:Tn76):Option (Int):=
 let i:=(Int.ofNat (List.length a.1))
 let f:=(Int.ofNat (List.length a.2.1))
 let m:=(Int.ofNat (List.length a.2.2.1))
 let e:Bool:=(cond (cond (decide (i>16)) true (decide (f>32))) true (decide (m>8)))
 let k:=(Int.ofNat (List.length a.2.2.2))
 cond (cond e true (decide (k>12))) (
 some 5) (
 (j23 a.1).bind fun c=>
 cond (c != 0) (
 some c) (
 let l:(List (ByteArray×Bool)):=([]:(List (ByteArray×Bool)))
 let g:=(Int.ofNat (List.length a.2.1))
 (j3Q a.2.1 g 0 a.1 a.2.1 a.2.2.1 a.2.2.2 l).bind fun n=>
 sumC n (fun o=>
 some o) (fun b=>
 (j1e b.2.2.1 b.1 b.2.1 b.2.2.1 b.2.2.2).bind fun d=>
 cond (d != 0) (
 some d) (
 (j1P b.2.2.2 b.1 b.2.1 b.2.2.1 b.2.2.2).bind fun j=>
 some j))))
def je4 [LP] (a:Tn57):Option (Tn15×Int):=
 (j2m (a.1,(a.2.1,a.2.2))).bind fun b=>
 some ((a.2.1,b.1),b.2)
def j2f [LP] (g:Tn59) (j d:Int) (i:Tn23):Option ((Tn59×Int×Int×Tn23) ⊕ (Tn23)):=
 cond (decide (d<j)) (
 cond (inR d (List.length g)) (
 let a:=(List.getD g (Int.toNat d) (ByteArray.empty,(0,([]:Tn47))))
 (je4 (a.1,(a.2.1,a.2.2))).bind fun b=>
 let c:Tn23:=[(b.1.1,b.1.2)]
 cond (decide (List.length i+List.length c≤j06)) (
 let f:Tn23:=(i++c)
 let e:=(w64 (d+1))
 some (.inl (g,j,e,f))) none) none) (
 some (.inr i))
def j4W [LP] (c:Tn59) (b a:Int) (d:Tn23):Option (Tn23):=
 LP.lp (unc4 (j2f)) (c,b,a,d)
theorem jcp (b d a c):j4W b d a c=lpK (j2f b d a c) (fun h=>j4W h.1 h.2.1 h.2.2.1 h.2.2.2):=j05 _ _
def j8V [LP] (a:Tn59):Option (Tn23):=
 let b:=(Int.ofNat (List.length a))
 (j4W a b 0 ([]:Tn23)).bind fun c=>
 some c
def jaG [LP] (a:Tn76):Option (Tn78):=
 (j8V a.1).bind fun b=>
 some ((a.1,(a.2.1,(a.2.2.1,a.2.2.2))),b)
def jcX [LP] (a:Tn76):Option (Tn78×Bool):=
 (j4H (a.1,(a.2.1,(a.2.2.1,a.2.2.2)))).bind fun c=>
 cond (c != 0) (
 some (((([]:Tn59),(([]:Tn53),(([]:Tn30),([]:Tn70)))),([]:Tn23)),false)) (
 (jaG (a.1,(a.2.1,(a.2.2.1,a.2.2.2)))).bind fun b=>
 some (((b.1.1,(b.1.2.1,(b.1.2.2.1,b.1.2.2.2))),b.2),true))
def jaH (b:Tn76) (a:Int):Option (Bool):=
 let c:=(Int.ofNat (List.length b.2.2.2))
 some (cond (decide (a≥0)) (decide (a<c)) false)
def jhd (a b:Int):Option (Bool):=
 let d:Bool:=(cond (cond (decide (a≥0)) (decide (a≤8589934592)) false) (decide (b≥a)) false)
 let e:=(w64 (b-a))
 let c:Bool:=(cond (cond d (decide (b≤8589934592)) false) (decide (e≤34560000)) false)
 some c
def j4X [LP] (b:Tn76) (c d e:Int):Option (Tn78×Int):=
 (jcX (b.1,(b.2.1,(b.2.2.1,b.2.2.2)))).bind fun a=>
 cond (!a.2) (
 some (((a.1.1.1,(a.1.1.2.1,(a.1.1.2.2.1,a.1.1.2.2.2))),a.1.2),8)) (
 (jaH (b.1,(b.2.1,(b.2.2.1,b.2.2.2))) c).bind fun g=>
 cond (!g) (
 some (((a.1.1.1,(a.1.1.2.1,(a.1.1.2.2.1,a.1.1.2.2.2))),a.1.2),3)) (
 (jhd d e).bind fun f=>
 cond (!f) (
 some (((a.1.1.1,(a.1.1.2.1,(a.1.1.2.2.1,a.1.1.2.2.2))),a.1.2),1)) (
 some (((a.1.1.1,(a.1.1.2.1,(a.1.1.2.2.1,a.1.1.2.2.2))),a.1.2),0))))
def j6Z (a:(List Int)):Option ((List Int)):=
 cond (decide (List.length ([]:List (Int))+List.length a≤j06)) (
 some (([]:List (Int))++a)) none
def j9t (a b c:Int):Option (Bool):=
 some (cond (decide (a≤b)) true (decide (a≥c)))
def j11 (g c i a:Int) (b:(List Int)):Option ((Int×Int×Int×Int×(List Int)) ⊕ (Tn1 ⊕ (List Int))):=
 cond (decide (a<i)) (
 cond (inR a (List.length b)) (
 let d:=(List.getD b (Int.toNat a) 0)
 (j9t d g c).bind fun e=>
 cond e (
 some (.inr (.inl (a,b)))) (
 let f:=(w64 (a+1))
 some (.inl (g,c,i,f,b)))) none) (
 some (.inr (.inr b)))
def j0T [LP] (b a e c:Int) (d:(List Int)):Option (Tn1 ⊕ (List Int)):=
 LP.lp (unc5 (j11)) (b,a,e,c,d)
theorem j4I (b a e c d):j0T b a e c d=lpK (j11 b a e c d) (fun h=>j0T h.1 h.2.1 h.2.2.1 h.2.2.2.1 h.2.2.2.2):=j05 _ _
def j1D [LP] (b:(List Int)) (c a:Int):Option Tn1:=
 let d:=(Int.ofNat (List.length b))
 (j0T c a d 0 b).bind fun e=>
 sumC e (fun f=>
 some (f.1,f.2)) (fun g=>
 some ((-1),g))
def j1j (l b e d:Int) (a:(List Int)):Option ((Int×Int×Int×Int×(List Int)) ⊕ (Tn1)):=
 let i:=(Int.ofNat (List.length a))
 cond (decide (d<i)) (
 cond (inR d (List.length a)) (
 let c:=(List.getD a (Int.toNat d) 0)
 (j9t c l b).bind fun k=>
 cond (!k) (
 cond (inR e (List.length a)) (
 let m:(List Int):=(List.set a (Int.toNat e) c)
 let f:=(w64 (e+1))
 let j:=(w64 (d+1))
 some (.inl (l,b,f,j,m))) none) (
 let g:=(w64 (d+1))
 some (.inl (l,b,e,g,a)))) none) (
 some (.inr (e,a)))
def j1v [LP] (b a e d:Int) (c:(List Int)):Option (Tn1):=
 LP.lp (unc5 (j1j)) (b,a,e,d,c)
theorem j5i (b a e d c):j1v b a e d c=lpK (j1j b a e d c) (fun h=>j1v h.1 h.2.1 h.2.2.1 h.2.2.2.1 h.2.2.2.2):=j05 _ _
def j1r [LP] (e:(List Int)) (d a:Int):Option Tn1:=
 (j1D e d a).bind fun c=>
 cond (c.1==(-1)) (
 some ((Int.ofNat (List.length c.2)),c.2)) (
 let f:=(w64 (c.1+1))
 (j1v d a c.1 f c.2).bind fun b=>
 cond (decide (0≤b.1)&&decide (b.1≤(Int.ofNat (List.length b.2)))) (
 let g:(List Int):=(List.take (Int.toNat b.1) b.2++List.replicate (List.length b.2-(Int.toNat b.1)) 0)
 cond (decide (0≤b.1)&&decide (b.1≤(Int.ofNat (List.length g)))) (
 some ((Int.ofNat (Int.toNat b.1)),g)) none) none)
def j5E (a:(List Int)):Option ((List Int)):=
 joD a
def j1L (e b c:Int) (a:(List Int)):Option ((Int×Int×Int×(List Int)) ⊕ (Tn1)):=
 let i:=(Int.ofNat (List.length a-(Int.toNat b)))
 cond (decide (c<i)) (
 cond (inR c (List.length a-(Int.toNat b))) (
 let k:=(List.getD a ((Int.toNat b)+(Int.toNat c)) 0)
 let d:=(w64 (c-1))
 cond (inR d (List.length a-(Int.toNat b))) (
 let l:=(List.getD a ((Int.toNat b)+(Int.toNat d)) 0)
 cond (k != l) (
 cond (inR c (List.length a-(Int.toNat b))) (
 let j:=(List.getD a ((Int.toNat b)+(Int.toNat c)) 0)
 cond (inR e (List.length a)) (
 let n:(List Int):=(List.set a (Int.toNat e) j)
 let g:=(w64 (e+1))
 let f:=(w64 (c+1))
 some (.inl (g,(Int.ofNat (Int.toNat b)),f,n))) none) none) (
 let m:=(w64 (c+1))
 some (.inl (e,(Int.ofNat (Int.toNat b)),m,a)))) none) none) (
 some (.inr (e,a)))
def j1s [LP] (c a b:Int) (d:(List Int)):Option (Tn1):=
 LP.lp (unc4 (j1L)) (c,a,b,d)
theorem j6a (c b d a):j1s c b d a=lpK (j1L c b d a) (fun h=>j1s h.1 h.2.1 h.2.2.1 h.2.2.2):=j05 _ _
def j0F [LP] (c:Int) (b:(List Int)):Option (Tn1 ⊕ (Tn1 ⊕ (List Int))):=
 let j:=(Int.ofNat (List.length b))
 cond (decide (c<j)) (
 cond (inR c (List.length b)) (
 let f:=(List.getD b (Int.toNat c) 0)
 let d:=(w64 (c-1))
 cond (inR d (List.length b)) (
 let i:=(List.getD b (Int.toNat d) 0)
 cond (f==i) (
 cond (decide (0≤c)&&decide (c≤(Int.ofNat (List.length b)))) (
 (j1s c (Int.ofNat (Int.toNat c)) 1 b).bind fun a=>
 cond (decide (0≤a.1)&&decide (a.1≤(Int.ofNat (List.length a.2)))) (
 let e:(List Int):=(List.take (Int.toNat a.1) a.2++List.replicate (List.length a.2-(Int.toNat a.1)) 0)
 cond (decide (0≤a.1)&&decide (a.1≤(Int.ofNat (List.length e)))) (
 some (.inr (.inl ((Int.ofNat (Int.toNat a.1)),e)))) none) none) none) (
 let g:=(w64 (c+1))
 some (.inl (g,b)))) none) none) (
 some (.inr (.inr b)))
def j0P [LP] (a:Int) (b:(List Int)):Option (Tn1 ⊕ (List Int)):=
 LP.lp (unc2 (j0F)) (a,b)
theorem j6b (a b):j0P a b=lpK (j0F a b) (fun h=>j0P h.1 h.2):=j05 _ _
def j24 [LP] (a:(List Int)):Option Tn1:=
 let b:=(Int.ofNat (List.length a))
 cond (decide (b<2)) (
 some ((Int.ofNat (List.length a)),a)) (
 (j0P 1 a).bind fun c=>
 sumC c (fun e=>
 some ((Int.ofNat (Int.toNat e.1)),e.2)) (fun d=>
 some ((Int.ofNat (List.length d)),d)))
def jaI [LP] (f:(List Int)) (b a:Int):Option ((List Int)):=
 (j6Z f).bind fun k=>
 (j1r k b a).bind fun e=>
 let g:(List Int):=(List.take (Int.toNat e.1) e.2)
 (j5E g).bind fun i=>
 (j24 i).bind fun c=>
 let d:(List Int):=(List.take (Int.toNat c.1) c.2)
 cond (decide (List.length d+List.length [a]≤j06)) (
 let j:(List Int):=(d++[a])
 some j) none
def j12 (a:Tn65):Option (Tn65):=
 some a
def j8W (a:Tn64):Option (Int):=
 cond (a.2.2.2.1==2) (
 let b:=(w64 (7*a.2.2.2.2.1))
 some b) (
 some a.2.2.2.2.1)
def j7I (b e:Int) (a:Tn2) (d:Int):Option (Bool):=
 cond (inR b (List.length a)) (
 let c:=(List.getD a (Int.toNat b) (0,0))
 some (decide (c.1>d))) none
def j3j (k:Int) (a:Tn2) (b i l:Int):Option ((Int×Tn2×Int×Int×Int) ⊕ (Int)):=
 cond (decide (i<l)) (
 let g:=(w64 (i+l))
 let e:Int:=(IntKind.wrap .u64 g)
 let d:Int:=(Int.fdiv e 2)
 let c:=(w64 d)
 (j7I c k a b).bind fun f=>
 cond (!f) (
 let j:=(w64 (c+1))
 some (.inl (k,a,b,j,l))) (
 some (.inl (k,a,b,i,c)))) (
 some (.inr i))
def j61 [LP] (c:Int) (a:Tn2) (b e d:Int):Option (Int):=
 LP.lp (unc5 (j3j)) (c,a,b,e,d)
theorem jcq (c a b e d):j61 c a b e d=lpK (j3j c a b e d) (fun h=>j61 h.1 h.2.1 h.2.2.1 h.2.2.2.1 h.2.2.2.2):=j05 _ _
def j8X [LP] (d c:Int) (a:Tn2) (b:Int):Option (Int):=
 (j61 c a b 0 d).bind fun e=>
 some e
def j3b [LP] (a:Tn15) (b:Int):Option (Int):=
 let d:=(Int.ofNat (List.length a.2))
 (j8X d a.1 a.2 b).bind fun c=>
 some c
def j4g (a:Tn15) (b:Int):Option (Int):=
 cond (b==0) (
 some a.1) (
 let c:=(w64 (b-1))
 cond (inR c (List.length a.2)) (
 let d:=(List.getD a.2 (Int.toNat c) (0,0))
 some d.2) none)
def j0p [LP] (k c i:Int) (a:Tn2) (j:Tn17):Option ((Int×Int×Int×Tn2×Tn17) ⊕ (Tn17)):=
 cond (decide (k<c)) (
 (j3b (i,a) k).bind fun b=>
 let n:=(Int.ofNat (List.length a))
 cond (decide (b<n)) (
 cond (inR b (List.length a)) (
 let f:=(List.getD a (Int.toNat b) (0,0))
 let e:Int:=(if f.1<c then f.1 else c:Int)
 (j4g (i,a) b).bind fun o=>
 let d:Tn17:=[(k,(e,o))]
 cond (decide (List.length j+List.length d≤j06)) (
 let p:Tn17:=(j++d)
 some (.inl (e,c,i,a,p))) none) none) (
 (j4g (i,a) b).bind fun m=>
 let g:Tn17:=[(k,(c,m))]
 cond (decide (List.length j+List.length g≤j06)) (
 let l:Tn17:=(j++g)
 some (.inl (c,c,i,a,l))) none)) (
 some (.inr j))
def j1Y [LP] (b d c:Int) (a:Tn2) (e:Tn17):Option (Tn17):=
 LP.lp (unc5 (j0p)) (b,d,c,a,e)
theorem j2o (b d c a e):j1Y b d c a e=lpK (j0p b d c a e) (fun h=>j1Y h.1 h.2.1 h.2.2.1 h.2.2.2.1 h.2.2.2.2):=j05 _ _
def j1i [LP] (b:Tn15) (a c:Int):Option (Tn17):=
 (j1Y a c b.1 b.2 ([]:Tn17)).bind fun d=>
 some d
def j4b (a:(Int×Int)):Option (Int):=
 let c:Int:=(if (-1048576)>a.1 then (-1048576) else a.1:Int)
 let d:Int:=(if 1048576<c then 1048576 else c:Int)
 let e:=(w64 (d*86400))
 let b:=(w64 (e+a.2))
 some b
def j1E (l a m f:Int) (b:Tn17):Option ((Int×Int×Int×Int×Tn17) ⊕ ((Int×Bool) ⊕ Unit)):=
 cond (decide (a<l)) (
 cond (inR a (List.length b)) (
 let c:=(List.getD b (Int.toNat a) (0,(0,0))).1
 let j:=(List.getD b (Int.toNat a) (0,(0,0))).2.1
 let g:=(List.getD b (Int.toNat a) (0,(0,0))).2.2
 (j4b (m,f)).bind fun k=>
 let d:=(w64 (k-g))
 let e:Int:=(if d>c then d else c:Int)
 cond (decide (e<j)) (
 some (.inr (.inl (e,true)))) (
 let i:=(w64 (a+1))
 some (.inl (l,i,m,f,b)))) none) (
 some (.inr (.inr ())))
def j2K [LP] (c d e a:Int) (b:Tn17):Option ((Int×Bool) ⊕ Unit):=
 LP.lp (unc5 (j1E)) (c,d,e,a,b)
theorem j4s (c d e a b):j2K c d e a b=lpK (j1E c d e a b) (fun h=>j2K h.1 h.2.1 h.2.2.1 h.2.2.2.1 h.2.2.2.2):=j05 _ _
def j1V [LP] (a:Tn15) (b:(Int×Int)):Option (Int×Bool):=
 (j1i (a.1,a.2) 0 8589934593).bind fun c=>
 let d:=(Int.ofNat (List.length c))
 (j2K d 0 b.1 b.2 c).bind fun e=>
 sumC e (fun f=>
 some (f.1,f.2)) (fun g=>
 some (0,false))
def j0K [LP] (b:Tn15) (a:Tn64) (c:Int):Option (Int×Bool):=
 cond (decide (c>8589934592)) (
 some (0,false)) (
 cond (a.2.2.2.1 != 0) (
 (j8W (a.1,(a.2.1,((a.2.2.1.1,a.2.2.1.2),(a.2.2.2.1,(a.2.2.2.2.1,(a.2.2.2.2.2.1,(a.2.2.2.2.2.2.1,(a.2.2.2.2.2.2.2.1,a.2.2.2.2.2.2.2.2))))))))).bind fun j=>
 let l:=(w64 (c*j))
 let g:=(w64 (a.2.2.1.1+l))
 (j1V (b.1,b.2) (g,a.2.2.1.2)).bind fun d=>
 some (d.1,d.2)) (
 (j1V (b.1,b.2) (a.2.2.1.1,a.2.2.1.2)).bind fun f=>
 let i:=(w64 (3600*a.2.2.2.2.1))
 let k:=(w64 (i*c))
 let e:=(w64 (f.1+k))
 some (e,(cond f.2 (decide (e≤8589934592)) false))))
def j3A (a:Tn2):Option (Tn2):=
 cond (decide (List.length ([]:List ((Int×Int)))+List.length a≤j06)) (
 some (([]:List ((Int×Int)))++a)) none
def j88 (a:(Int×Int)):Option (Bool):=
 some (decide (a.2≤a.1))
def j0L (g a:Int) (b:Tn2):Option ((Int×Int×Tn2) ⊕ (Tn15 ⊕ Tn2)):=
 cond (decide (a<g)) (
 cond (inR a (List.length b)) (
 let f:=(List.getD b (Int.toNat a) (0,0)).1
 let e:=(List.getD b (Int.toNat a) (0,0)).2
 (j88 (f,e)).bind fun c=>
 cond c (
 some (.inr (.inl (a,b)))) (
 let d:=(w64 (a+1))
 some (.inl (g,d,b)))) none) (
 some (.inr (.inr b)))
def j0v [LP] (b a:Int) (c:Tn2):Option (Tn15 ⊕ Tn2):=
 LP.lp (unc3 (j0L)) (b,a,c)
theorem j3t (b a c):j0v b a c=lpK (j0L b a c) (fun h=>j0v h.1 h.2.1 h.2.2):=j05 _ _
def j0R [LP] (a:Tn2):Option Tn15:=
 let b:=(Int.ofNat (List.length a))
 (j0v b 0 a).bind fun c=>
 sumC c (fun d=>
 some (d.1,d.2)) (fun e=>
 some ((-1),e))
def j0G (e d:Int) (a:Tn2):Option ((Int×Int×Tn2) ⊕ (Tn15)):=
 let i:=(Int.ofNat (List.length a))
 cond (decide (d<i)) (
 cond (inR d (List.length a)) (
 let c:=(List.getD a (Int.toNat d) (0,0)).1
 let b:=(List.getD a (Int.toNat d) (0,0)).2
 (j88 (c,b)).bind fun k=>
 cond (!k) (
 cond (inR e (List.length a)) (
 let l:Tn2:=(List.set a (Int.toNat e) (c,b))
 let f:=(w64 (e+1))
 let j:=(w64 (d+1))
 some (.inl (f,j,l))) none) (
 let g:=(w64 (d+1))
 some (.inl (e,g,a)))) none) (
 some (.inr (e,a)))
def j0D [LP] (a b:Int) (c:Tn2):Option (Tn15):=
 LP.lp (unc3 (j0G)) (a,b,c)
theorem j3e (a b c):j0D a b c=lpK (j0G a b c) (fun h=>j0D h.1 h.2.1 h.2.2):=j05 _ _
def j0y [LP] (c:Tn2):Option Tn15:=
 (j0R c).bind fun b=>
 cond (b.1==(-1)) (
 some ((Int.ofNat (List.length b.2)),b.2)) (
 let d:=(w64 (b.1+1))
 (j0D b.1 d b.2).bind fun a=>
 cond (decide (0≤a.1)&&decide (a.1≤(Int.ofNat (List.length a.2)))) (
 let e:Tn2:=(List.take (Int.toNat a.1) a.2++List.replicate (List.length a.2-(Int.toNat a.1)) (0,0))
 cond (decide (0≤a.1)&&decide (a.1≤(Int.ofNat (List.length e)))) (
 some ((Int.ofNat (Int.toNat a.1)),e)) none) none)
def j6L (a b:(Int×Int)):Option (Int):=
 let c:=(w64 (a.1-b.1))
 some c
def j1a (a:Tn2):Option (Tn2):=
 jnk ((.pair (.int .i64) (.int .i64))) (fun c b=>(j6L c b).getD 0) a
def j3K (k d:Int) (a e:Tn2):Option ((Int×Int×Tn2×Tn2) ⊕ (Tn2)):=
 cond (decide (d<k)) (
 cond (inR d (List.length e)) (
 let g:=(List.getD e (Int.toNat d) (0,0)).1
 let b:=(List.getD e (Int.toNat d) (0,0)).2
 let c:=(Int.ofNat (List.length a))
 cond (decide (c>0)) (
 let n:=(w64 (c-1))
 cond (inR n (List.length a)) (
 let u:=(List.getD a (Int.toNat n) (0,0)).2
 cond (decide (g≤u)) (
 let f:=(w64 (c-1))
 let j:=(w64 (c-1))
 cond (inR j (List.length a)) (
 let l:=(List.getD a (Int.toNat j) (0,0)).2
 let t:Int:=(if b>l then b else l:Int)
 cond (inR f (List.length a)) (
 let v:Tn2:=(List.set a (Int.toNat f) ((List.getD a (Int.toNat f) (0,0)).1,t))
 let r:=(w64 (d+1))
 some (.inl (k,r,v,e))) none) none) (
 let i:Tn2:=[(g,b)]
 cond (decide (List.length a+List.length i≤j06)) (
 let s:Tn2:=(a++i)
 let q:=(w64 (d+1))
 some (.inl (k,q,s,e))) none)) none) (
 let m:Tn2:=[(g,b)]
 cond (decide (List.length a+List.length m≤j06)) (
 let o:Tn2:=(a++m)
 let p:=(w64 (d+1))
 some (.inl (k,p,o,e))) none)) none) (
 some (.inr a))
def j5F [LP] (c b:Int) (d a:Tn2):Option (Tn2):=
 LP.lp (unc4 (j3K)) (c,b,d,a)
theorem j9O (c b d a):j5F c b d a=lpK (j3K c b d a) (fun h=>j5F h.1 h.2.1 h.2.2.1 h.2.2.2):=j05 _ _
def j5j [LP] (c:Tn2):Option (Tn2):=
 (j3A c).bind fun g=>
 (j0y g).bind fun a=>
 let d:Tn2:=(List.take (Int.toNat a.1) a.2)
 (j1a d).bind fun b=>
 let e:=(Int.ofNat (List.length b))
 (j5F e 0 ([]:Tn2) b).bind fun f=>
 some f
def j3X (u:Tn2) (e p q:Int) (k:Tn2) (s d f a c:Int) (t:Tn2) (r:Tn17):Option ((Tn2×Int×Int×Int×Tn2×Int×Int×Int×Int×Int×Tn2×Tn17) ⊕ ((Tn2×Int×Int×Int×Int×Int×Int×Tn2×Tn17))):=
 cond (decide (d<s)) (
 cond (inR d (List.length k)) (
 let b:=(List.getD k (Int.toNat d) (0,0))
 let j:=(w64 (e+b.1))
 let l:Int:=(if j>f then j else f:Int)
 let g:=(w64 (e+b.2))
 let n:Int:=(if g<a then g else a:Int)
 let i:Tn2:=[(l,n)]
 cond (decide (List.length t+List.length i≤j06)) (
 let m:Tn2:=(t++i)
 let o:=(w64 (d+1))
 some (.inl (u,e,p,q,k,s,o,f,a,c,m,r))) none) none) (
 some (.inr (u,e,p,q,f,a,c,t,r)))
def j5k [LP] (l:Tn2) (g j e:Int) (i:Tn2) (c d k a b:Int) (m:Tn2) (f:Tn17):Option ((Tn2×Int×Int×Int×Int×Int×Int×Tn2×Tn17)):=
 LP.lp (jtF (j3X)) (l,g,j,e,i,c,d,k,a,b,m,f)
theorem jbC (l g j e i c d k a b m f):j5k l g j e i c d k a b m f=lpK (j3X l g j e i c d k a b m f) (fun h=>j5k h.1 h.2.1 h.2.2.1 h.2.2.2.1 h.2.2.2.2.1 h.2.2.2.2.2.1 h.2.2.2.2.2.2.1 h.2.2.2.2.2.2.2.1 h.2.2.2.2.2.2.2.2.1 h.2.2.2.2.2.2.2.2.2.1 h.2.2.2.2.2.2.2.2.2.2.1 h.2.2.2.2.2.2.2.2.2.2.2):=j05 _ _
def j1Z [LP] (c:Tn2) (j k g m b f:Int) (l:Tn2) (i:Tn17):Option ((Tn2×Int×Int×Int×Int×Int×Int×Tn2×Tn17) ⊕ ((Tn2×Int×Int×Tn2×Tn17))):=
 cond (decide (j<b)) (
 let e:=(Int.ofNat (List.length c))
 (j5k c j k g c e 0 m b f l i).bind fun a=>
 let d:=(w64 (a.2.1+604800))
 some (.inl (a.1,d,a.2.2.1,a.2.2.2.1,a.2.2.2.2.1,a.2.2.2.2.2.1,a.2.2.2.2.2.2.1,a.2.2.2.2.2.2.2.1,a.2.2.2.2.2.2.2.2))) (
 some (.inr (c,k,g,l,i)))
def j5l [LP] (i:Tn2) (e f c g a b:Int) (j:Tn2) (d:Tn17):Option ((Tn2×Int×Int×Tn2×Tn17)):=
 LP.lp (unc9 (j1Z)) (i,e,f,c,g,a,b,j,d)
theorem jbD (i e f c g a b j d):j5l i e f c g a b j d=lpK (j1Z i e f c g a b j d) (fun h=>j5l h.1 h.2.1 h.2.2.1 h.2.2.2.1 h.2.2.2.2.1 h.2.2.2.2.2.1 h.2.2.2.2.2.2.1 h.2.2.2.2.2.2.2.1 h.2.2.2.2.2.2.2.2):=j05 _ _
def j20 [LP] (q:Tn2) (o b:Int) (p:Tn2) (d:Tn17):Option ((Tn2×Int×Int×Tn2×Tn17) ⊕ (Tn2)):=
 cond (decide (b<o)) (
 cond (inR b (List.length d)) (
 let e:=(List.getD d (Int.toNat b) (0,(0,0))).1
 let m:=(List.getD d (Int.toNat b) (0,(0,0))).2.1
 let c:=(List.getD d (Int.toNat b) (0,(0,0))).2.2
 let l:=(w64 (e+c))
 let f:=(w64 (l-(-259200)))
 let j:=(Int.tmod f 604800)
 let g:=(w64 (f-j))
 let i:=(w64 (g+(-259200)))
 let k:=(w64 (i-c))
 (j5l q k o b e m c p d).bind fun a=>
 let n:=(w64 (a.2.2.1+1))
 some (.inl (a.1,a.2.1,n,a.2.2.2.1,a.2.2.2.2))) none) (
 some (.inr p))
def j5m [LP] (d:Tn2) (c b:Int) (e:Tn2) (a:Tn17):Option (Tn2):=
 LP.lp (unc5 (j20)) (d,c,b,e,a)
theorem jbE (d c b e a):j5m d c b e a=lpK (j20 d c b e a) (fun h=>j5m h.1 h.2.1 h.2.2.1 h.2.2.2.1 h.2.2.2.2):=j05 _ _
def j3B [LP] (b:Tn15) (e:Tn2) (a c:Int):Option (Tn2):=
 (j1i (b.1,b.2) a c).bind fun d=>
 let f:=(Int.ofNat (List.length d))
 (j5m e f 0 ([]:Tn2) d).bind fun i=>
 (j5j i).bind fun g=>
 some g
def j3f (r t:Int) (i:(List Int)) (s d:Int) (w:ByteArray) (j:Int) (g:(List Int)) (k b e:Int) (v:Tn2) (u:Tn17):Option ((Int×Int×(List Int)×Int×Int×ByteArray×Int×(List Int)×Int×Int×Int×Tn2×Tn17) ⊕ ((Int×Int×ByteArray×Int×(List Int)×Tn2×Tn17))):=
 cond (decide (d<s)) (
 cond (inR d (List.length i)) (
 let n:=(List.getD i (Int.toNat d) 0)
 let l:=(w64 (n*86400))
 let a:=(w64 (l-e))
 let q:Int:=(if a>k then a else k:Int)
 let c:=(w64 (a+86400))
 let p:Int:=(if c<b then c else b:Int)
 let f:Tn2:=[(q,p)]
 cond (decide (List.length v+List.length f≤j06)) (
 let o:Tn2:=(v++f)
 let m:=(w64 (d+1))
 some (.inl (r,t,i,s,m,w,j,g,k,b,e,o,u))) none) none) (
 some (.inr (r,t,w,j,g,v,u)))
def j3k [LP] (i e:Int) (j:(List Int)) (l f:Int) (m:ByteArray) (c:Int) (d:(List Int)) (k a b:Int) (n:Tn2) (g:Tn17):Option ((Int×Int×ByteArray×Int×(List Int)×Tn2×Tn17)):=
 LP.lp (jqz (j3f)) (i,e,j,l,f,m,c,d,k,a,b,n,g)
theorem jab (i e j l f m c d k a b n g):j3k i e j l f m c d k a b n g=lpK (j3f i e j l f m c d k a b n g) (fun h=>j3k h.1 h.2.1 h.2.2.1 h.2.2.2.1 h.2.2.2.2.1 h.2.2.2.2.2.1 h.2.2.2.2.2.2.1 h.2.2.2.2.2.2.2.1 h.2.2.2.2.2.2.2.2.1 h.2.2.2.2.2.2.2.2.2.1 h.2.2.2.2.2.2.2.2.2.2.1 h.2.2.2.2.2.2.2.2.2.2.2.1 h.2.2.2.2.2.2.2.2.2.2.2.2):=j05 _ _
def j1x [LP] (k b:Int) (n:ByteArray) (l:Int) (d:(List Int)) (m:Tn2) (c:Tn17):Option ((Int×Int×ByteArray×Int×(List Int)×Tn2×Tn17) ⊕ (Tn2)):=
 cond (decide (b<k)) (
 cond (inR b (List.length c)) (
 let e:=(List.getD c (Int.toNat b) (0,(0,0))).1
 let f:=(List.getD c (Int.toNat b) (0,(0,0))).2.1
 let g:=(List.getD c (Int.toNat b) (0,(0,0))).2.2
 let i:=(Int.ofNat (List.length d))
 (j3k k b d i 0 n l d e f g m c).bind fun a=>
 let j:=(w64 (a.2.1+1))
 some (.inl (a.1,j,a.2.2.1,a.2.2.2.1,a.2.2.2.2.1,a.2.2.2.2.2.1,a.2.2.2.2.2.2))) none) (
 some (.inr m))
def j3l [LP] (e c:Int) (f:ByteArray) (a:Int) (b:(List Int)) (g:Tn2) (d:Tn17):Option (Tn2):=
 LP.lp (unc7 (j1x)) (e,c,f,a,b,g,d)
theorem jac (e c f a b g d):j3l e c f a b g d=lpK (j1x e c f a b g d) (fun h=>j3l h.1 h.2.1 h.2.2.1 h.2.2.2.1 h.2.2.2.2.1 h.2.2.2.2.2.1 h.2.2.2.2.2.2):=j05 _ _
def j1H [LP] (c:Tn78) (a:Tn22) (b d:Int):Option (Tn2):=
 cond (inR a.2.1 (List.length c.2)) (
 let e:=(List.getD c.2 (Int.toNat a.2.1) (0,([]:Tn2)))
 (j1i (e.1,e.2) b d).bind fun f=>
 let g:=(Int.ofNat (List.length f))
 (j3l g 0 a.1 a.2.1 a.2.2 ([]:Tn2) f).bind fun j=>
 (j5j j).bind fun i=>
 some i) none
def j3Y (b:Tn2) (c:Int) (e:Tn2) (f d g a:Int) (l:Tn2):Option ((Tn2×Int×Tn2×Int×Int×Int×Int×Tn2) ⊕ ((Tn2×Int×Tn2×Int×Int×Int×Int×Tn2))):=
 let i:=(Int.ofNat (List.length b))
 cond (decide (c<i)) (
 cond (inR c (List.length b)) (
 let j:=(List.getD b (Int.toNat c) (0,0))
 cond (decide (j.2≤g)) (
 let k:=(w64 (c+1))
 some (.inl (b,k,e,f,d,g,a,l))) (
 some (.inr (b,c,e,f,d,g,a,l)))) none) (
 some (.inr (b,c,e,f,d,g,a,l)))
def j5n [LP] (f:Tn2) (g:Int) (c:Tn2) (d b e a:Int) (i:Tn2):Option ((Tn2×Int×Tn2×Int×Int×Int×Int×Tn2)):=
 LP.lp (unc8 (j3Y)) (f,g,c,d,b,e,a,i)
theorem jbF (f g c d b e a i):j5n f g c d b e a i=lpK (j3Y f g c d b e a i) (fun h=>j5n h.1 h.2.1 h.2.2.1 h.2.2.2.1 h.2.2.2.2.1 h.2.2.2.2.2.1 h.2.2.2.2.2.2.1 h.2.2.2.2.2.2.2):=j05 _ _
def j3Z (b:Tn2) (r d a:Int) (i:Tn2) (e g m c:Int) (l:Tn2):Option ((Tn2×Int×Int×Int×Tn2×Int×Int×Int×Int×Tn2) ⊕ ((Tn2×Int×Int×Tn2×Int×Int×Int×Int×Tn2))):=
 let u:=(Int.ofNat (List.length b))
 cond (decide (a<u)) (
 cond (inR a (List.length b)) (
 let s:=(List.getD b (Int.toNat a) (0,0))
 cond (decide (s.1<c)) (
 cond (inR a (List.length b)) (
 let v:=(List.getD b (Int.toNat a) (0,0))
 cond (decide (d<v.1)) (
 cond (inR a (List.length b)) (
 let n:=(List.getD b (Int.toNat a) (0,0))
 let j:Tn2:=[(d,n.1)]
 cond (decide (List.length l+List.length j≤j06)) (
 let o:Tn2:=(l++j)
 cond (inR a (List.length b)) (
 let k:=(List.getD b (Int.toNat a) (0,0))
 let w:Int:=(if k.2>d then k.2 else d:Int)
 let q:=(w64 (a+1))
 some (.inl (b,r,w,q,i,e,g,m,c,o))) none) none) none) (
 cond (inR a (List.length b)) (
 let f:=(List.getD b (Int.toNat a) (0,0))
 let p:Int:=(if f.2>d then f.2 else d:Int)
 let t:=(w64 (a+1))
 some (.inl (b,r,p,t,i,e,g,m,c,l))) none)) none) (
 some (.inr (b,r,d,i,e,g,m,c,l)))) none) (
 some (.inr (b,r,d,i,e,g,m,c,l)))
def j4k [LP] (g:Tn2) (i k e:Int) (d:Tn2) (b c f a:Int) (j:Tn2):Option ((Tn2×Int×Int×Tn2×Int×Int×Int×Int×Tn2)):=
 LP.lp (jqy (j3Z)) (g,i,k,e,d,b,c,f,a,j)
theorem jbG (g i k e d b c f a j):j4k g i k e d b c f a j=lpK (j3Z g i k e d b c f a j) (fun h=>j4k h.1 h.2.1 h.2.2.1 h.2.2.2.1 h.2.2.2.2.1 h.2.2.2.2.2.1 h.2.2.2.2.2.2.1 h.2.2.2.2.2.2.2.1 h.2.2.2.2.2.2.2.2.1 h.2.2.2.2.2.2.2.2.2):=j05 _ _
def j21 [LP] (m:Tn2) (n:Int) (f:Tn2) (k c:Int) (l:Tn2):Option ((Tn2×Int×Tn2×Int×Int×Tn2) ⊕ (Tn2)):=
 cond (decide (c<k)) (
 cond (inR c (List.length f)) (
 let d:=(List.getD f (Int.toNat c) (0,0))
 (j5n m n f k c d.1 d.2 l).bind fun b=>
 (j4k b.1 b.2.1 b.2.2.2.2.2.1 b.2.1 b.2.2.1 b.2.2.2.1 b.2.2.2.2.1 b.2.2.2.2.2.1 b.2.2.2.2.2.2.1 b.2.2.2.2.2.2.2).bind fun a=>
 cond (decide (a.2.2.1<a.2.2.2.2.2.2.2.1)) (
 let e:Tn2:=[(a.2.2.1,a.2.2.2.2.2.2.2.1)]
 cond (decide (List.length a.2.2.2.2.2.2.2.2+List.length e≤j06)) (
 let g:Tn2:=(a.2.2.2.2.2.2.2.2++e)
 let j:=(w64 (a.2.2.2.2.2.1+1))
 some (.inl (a.1,a.2.1,a.2.2.2.1,a.2.2.2.2.1,j,g))) none) (
 let i:=(w64 (a.2.2.2.2.2.1+1))
 some (.inl (a.1,a.2.1,a.2.2.2.1,a.2.2.2.2.1,i,a.2.2.2.2.2.2.2.2)))) none) (
 some (.inr l))
def j3C [LP] (d:Tn2) (e:Int) (b:Tn2) (c a:Int) (f:Tn2):Option (Tn2):=
 LP.lp (unc6 (j21)) (d,e,b,c,a,f)
theorem jbH (d e b c a f):j3C d e b c a f=lpK (j21 d e b c a f) (fun h=>j3C h.1 h.2.1 h.2.2.1 h.2.2.2.1 h.2.2.2.2.1 h.2.2.2.2.2):=j05 _ _
def j2g [LP] (a b:Tn2):Option (Tn2):=
 let c:=(Int.ofNat (List.length a))
 (j3C b 0 a c 0 ([]:Tn2)).bind fun d=>
 some d
def j5G (c d:Tn2) (b a:Int) (n:Tn2):Option ((Tn2×Tn2×Int×Int×Tn2) ⊕ (Tn2)):=
 let w:=(Int.ofNat (List.length c))
 let r:=(Int.ofNat (List.length d))
 cond (cond (decide (b<w)) (decide (a<r)) false) (
 cond (inR b (List.length c)) (
 let m:=(List.getD c (Int.toNat b) (0,0))
 cond (inR a (List.length d)) (
 let k:=(List.getD d (Int.toNat a) (0,0))
 let l:Int:=(if k.1>m.1 then k.1 else m.1:Int)
 cond (inR b (List.length c)) (
 let g:=(List.getD c (Int.toNat b) (0,0))
 cond (inR a (List.length d)) (
 let e:=(List.getD d (Int.toNat a) (0,0))
 let i:Int:=(if e.2<g.2 then e.2 else g.2:Int)
 cond (decide (l<i)) (
 let j:Tn2:=[(l,i)]
 cond (decide (List.length n+List.length j≤j06)) (
 let f:Tn2:=(n++j)
 cond (inR b (List.length c)) (
 let v:=(List.getD c (Int.toNat b) (0,0))
 cond (inR a (List.length d)) (
 let t:=(List.getD d (Int.toNat a) (0,0))
 cond (decide (v.2<t.2)) (
 let o:=(w64 (b+1))
 some (.inl (c,d,o,a,f))) (
 let x:=(w64 (a+1))
 some (.inl (c,d,b,x,f)))) none) none) none) (
 cond (inR b (List.length c)) (
 let s:=(List.getD c (Int.toNat b) (0,0))
 cond (inR a (List.length d)) (
 let u:=(List.getD d (Int.toNat a) (0,0))
 cond (decide (s.2<u.2)) (
 let p:=(w64 (b+1))
 some (.inl (c,d,p,a,n))) (
 let q:=(w64 (a+1))
 some (.inl (c,d,b,q,n)))) none) none)) none) none) none) none) (
 some (.inr n))
def j3v [LP] (e a:Tn2) (b c:Int) (d:Tn2):Option (Tn2):=
 LP.lp (unc5 (j5G)) (e,a,b,c,d)
theorem jhe (e a b c d):j3v e a b c d=lpK (j5G e a b c d) (fun h=>j3v h.1 h.2.1 h.2.2.1 h.2.2.2.1 h.2.2.2.2):=j05 _ _
def j6t [LP] (a b:Tn2):Option (Tn2):=
 (j3v a b 0 0 ([]:Tn2)).bind fun c=>
 some c
def j3D [LP] (a:Tn78) (b:Tn64) (d c:Int):Option (Tn2):=
 cond (inR b.2.1 (List.length a.2)) (
 let r:=(List.getD a.2 (Int.toNat b.2.1) (0,([]:Tn2)))
 (j0K (r.1,r.2) (b.1,(b.2.1,((b.2.2.1.1,b.2.2.1.2),(b.2.2.2.1,(b.2.2.2.2.1,(b.2.2.2.2.2.1,(b.2.2.2.2.2.2.1,(b.2.2.2.2.2.2.2.1,b.2.2.2.2.2.2.2.2)))))))) 0).bind fun i=>
 cond (cond (cond (!i.2) true (decide (i.1≥c))) true (decide (d≥c))) (
 some ([]:Tn2)) (
 let e:Int:=(if i.1>d then i.1 else d:Int)
 let k:Tn2:=[(e,c)]
 let x:=(Int.ofNat (List.length b.2.2.2.2.2.2.1))
 cond (decide (x>0)) (
 cond (inR b.2.1 (List.length a.2)) (
 let s:=(List.getD a.2 (Int.toNat b.2.1) (0,([]:Tn2)))
 (j3B (s.1,s.2) b.2.2.2.2.2.2.1 e c).bind fun l=>
 cond (b.2.2.2.2.2.2.2.2==1) (
 cond (inR b.2.2.2.2.2.2.2.1 (List.length a.1.2.2.1)) (
 let j:=(List.getD a.1.2.2.1 (Int.toNat b.2.2.2.2.2.2.2.1) (ByteArray.empty,(0,([]:(List Int)))))
 (j1H ((a.1.1,(a.1.2.1,(a.1.2.2.1,a.1.2.2.2))),a.2) (j.1,(j.2.1,j.2.2)) e c).bind fun u=>
 (j2g l u).bind fun v=>
 some v) none) (
 cond (b.2.2.2.2.2.2.2.2==2) (
 cond (inR b.2.2.2.2.2.2.2.1 (List.length a.1.2.2.1)) (
 let m:=(List.getD a.1.2.2.1 (Int.toNat b.2.2.2.2.2.2.2.1) (ByteArray.empty,(0,([]:(List Int)))))
 (j1H ((a.1.1,(a.1.2.1,(a.1.2.2.1,a.1.2.2.2))),a.2) (m.1,(m.2.1,m.2.2)) e c).bind fun t=>
 (j6t l t).bind fun w=>
 some w) none) (
 some l))) none) (
 cond (b.2.2.2.2.2.2.2.2==1) (
 cond (inR b.2.2.2.2.2.2.2.1 (List.length a.1.2.2.1)) (
 let f:=(List.getD a.1.2.2.1 (Int.toNat b.2.2.2.2.2.2.2.1) (ByteArray.empty,(0,([]:(List Int)))))
 (j1H ((a.1.1,(a.1.2.1,(a.1.2.2.1,a.1.2.2.2))),a.2) (f.1,(f.2.1,f.2.2)) e c).bind fun n=>
 (j2g k n).bind fun q=>
 some q) none) (
 cond (b.2.2.2.2.2.2.2.2==2) (
 cond (inR b.2.2.2.2.2.2.2.1 (List.length a.1.2.2.1)) (
 let g:=(List.getD a.1.2.2.1 (Int.toNat b.2.2.2.2.2.2.2.1) (ByteArray.empty,(0,([]:(List Int)))))
 (j1H ((a.1.1,(a.1.2.1,(a.1.2.2.1,a.1.2.2.2))),a.2) (g.1,(g.2.1,g.2.2)) e c).bind fun p=>
 (j6t k p).bind fun o=>
 some o) none) (
 some k))))) none
def j3m [LP] (a:Tn15) (b:Int):Option (Int):=
 (j3b (a.1,a.2) b).bind fun c=>
 (j4g (a.1,a.2) c).bind fun d=>
 some d
def jeC (a:Int):Option ((Int×Int)):=
 let e:=(w64 (Int.tdiv a 86400))
 let i:=(Int.tmod a 86400)
 cond (decide (i<0)) (
 let d:=(w64 (e-1))
 let g:=(w64 (d*86400))
 let f:=(w64 (a-g))
 some (d,f)) (
 let c:=(w64 (e*86400))
 let b:=(w64 (a-c))
 some (e,b))
def j0u [LP] (a:Tn15) (b:Int):Option ((Int×Int)):=
 (j3m (a.1,a.2) b).bind fun e=>
 let d:=(w64 (b+e))
 (jeC d).bind fun c=>
 some (c.1,c.2)
def j1M [LP] (p m o:Int) (b:Tn2) (n:ByteArray) (j e k c f:Int) (g:(List Int)) (d:Tn2) (i a:Int):Option ((Int×Int×Int×Tn2×ByteArray×Int×Int×Int×Int×Int×(List Int)×Tn2×Int×Int) ⊕ ((Int×Int×Int×Tn2×ByteArray×Int×Int×Int×Int×Int×(List Int)×Tn2×Int×Int))):=
 cond (decide (m>0)) (
 (j0K (o,b) (n,(j,((e,k),(c,(f,(g,(d,(i,a)))))))) m).bind fun l=>
 cond (cond l.2 (decide (l.1≤p)) false) (
 some (.inr (p,m,o,b,n,j,e,k,c,f,g,d,i,a))) (
 let q:=(w64 (m-1))
 some (.inl (p,q,o,b,n,j,e,k,c,f,g,d,i,a)))) (
 some (.inr (p,m,o,b,n,j,e,k,c,f,g,d,i,a)))
def j4C [LP] (n o m:Int) (b:Tn2) (l:ByteArray) (j e k c f:Int) (g:(List Int)) (d:Tn2) (i a:Int):Option ((Int×Int×Int×Tn2×ByteArray×Int×Int×Int×Int×Int×(List Int)×Tn2×Int×Int)):=
 LP.lp (jk2 (j1M)) (n,o,m,b,l,j,e,k,c,f,g,d,i,a)
theorem jaJ (n o m b l j e k c f g d i a):j4C n o m b l j e k c f g d i a=lpK (j1M n o m b l j e k c f g d i a) (fun h=>j4C h.1 h.2.1 h.2.2.1 h.2.2.2.1 h.2.2.2.2.1 h.2.2.2.2.2.1 h.2.2.2.2.2.2.1 h.2.2.2.2.2.2.2.1 h.2.2.2.2.2.2.2.2.1 h.2.2.2.2.2.2.2.2.2.1 h.2.2.2.2.2.2.2.2.2.2.1 h.2.2.2.2.2.2.2.2.2.2.2.1 h.2.2.2.2.2.2.2.2.2.2.2.2.1 h.2.2.2.2.2.2.2.2.2.2.2.2.2):=j05 _ _
def j2h [LP] (r o q:Int) (c:Tn2) (p:ByteArray) (k f l d g:Int) (i:(List Int)) (e:Tn2) (j b:Int):Option ((Int×Int×Int×Tn2×ByteArray×Int×Int×Int×Int×Int×(List Int)×Tn2×Int×Int) ⊕ (Int)):=
 let m:=(w64 (o+1))
 (j0K (q,c) (p,(k,((f,l),(d,(g,(i,(e,(j,b)))))))) m).bind fun a=>
 cond (cond (!a.2) true (decide (a.1>r))) (
 some (.inr o)) (
 let n:=(w64 (o+1))
 some (.inl (r,n,q,c,p,k,f,l,d,g,i,e,j,b)))
def j4D [LP] (n o m:Int) (b:Tn2) (l:ByteArray) (j e k c f:Int) (g:(List Int)) (d:Tn2) (i a:Int):Option (Int):=
 LP.lp (jk2 (j2h)) (n,o,m,b,l,j,e,k,c,f,g,d,i,a)
theorem jfn (n o m b l j e k c f g d i a):j4D n o m b l j e k c f g d i a=lpK (j2h n o m b l j e k c f g d i a) (fun h=>j4D h.1 h.2.1 h.2.2.1 h.2.2.2.1 h.2.2.2.2.1 h.2.2.2.2.2.1 h.2.2.2.2.2.2.1 h.2.2.2.2.2.2.2.1 h.2.2.2.2.2.2.2.2.1 h.2.2.2.2.2.2.2.2.2.1 h.2.2.2.2.2.2.2.2.2.2.1 h.2.2.2.2.2.2.2.2.2.2.2.1 h.2.2.2.2.2.2.2.2.2.2.2.2.1 h.2.2.2.2.2.2.2.2.2.2.2.2.2):=j05 _ _
def j1S [LP] (c:Tn15) (a:Tn64) (d:Int):Option (Int):=
 (j0K (c.1,c.2) (a.1,(a.2.1,((a.2.2.1.1,a.2.2.1.2),(a.2.2.2.1,(a.2.2.2.2.1,(a.2.2.2.2.2.1,(a.2.2.2.2.2.2.1,(a.2.2.2.2.2.2.2.1,a.2.2.2.2.2.2.2.2)))))))) 0).bind fun e=>
 cond (cond (!e.2) true (decide (e.1>d))) (
 some (-1)) (
 cond (a.2.2.2.1==0) (
 let j:=(w64 (d-e.1))
 let f:=(w64 (3600*a.2.2.2.2.1))
 cond (!(f==0)) (
 let k:=(w64 (Int.tdiv j f))
 some k) none) (
 (j0u (c.1,c.2) d).bind fun n=>
 let l:=(w64 (n.1-a.2.2.1.1))
 (j8W (a.1,(a.2.1,((a.2.2.1.1,a.2.2.1.2),(a.2.2.2.1,(a.2.2.2.2.1,(a.2.2.2.2.2.1,(a.2.2.2.2.2.2.1,(a.2.2.2.2.2.2.2.1,a.2.2.2.2.2.2.2.2))))))))).bind fun i=>
 cond (!(i==0)) (
 let g:=(w64 (Int.tdiv l i))
 let m:Int:=(if g>0 then g else 0:Int)
 (j4C d m c.1 c.2 a.1 a.2.1 a.2.2.1.1 a.2.2.1.2 a.2.2.2.1 a.2.2.2.2.1 a.2.2.2.2.2.1 a.2.2.2.2.2.2.1 a.2.2.2.2.2.2.2.1 a.2.2.2.2.2.2.2.2).bind fun b=>
 (j4D b.1 b.2.1 b.2.2.1 b.2.2.2.1 b.2.2.2.2.1 b.2.2.2.2.2.1 b.2.2.2.2.2.2.1 b.2.2.2.2.2.2.2.1 b.2.2.2.2.2.2.2.2.1 b.2.2.2.2.2.2.2.2.2.1 b.2.2.2.2.2.2.2.2.2.2.1 b.2.2.2.2.2.2.2.2.2.2.2.1 b.2.2.2.2.2.2.2.2.2.2.2.2.1 b.2.2.2.2.2.2.2.2.2.2.2.2.2).bind fun o=>
 some o) none))
def j4J (f:Tn17) (m e:Int) (b:Tn17):Option ((Tn17×Int×Int×Tn17) ⊕ (Tn17)):=
 cond (decide (e<m)) (
 cond (inR e (List.length f)) (
 let a:=(List.getD f (Int.toNat e) (0,(0,0)))
 cond (decide (a.2.1≤a.1)) (
 let v:=(w64 (e+1))
 some (.inl (f,m,v,b))) (
 let d:=(Int.ofNat (List.length b))
 cond (decide (d>0)) (
 let i:=(w64 (d-1))
 cond (inR i (List.length b)) (
 let t:=(List.getD b (Int.toNat i) (0,(0,0))).2.1
 cond (t==a.1) (
 let g:=(w64 (d-1))
 cond (inR g (List.length b)) (
 let q:=(List.getD b (Int.toNat g) (0,(0,0))).2.2
 cond (q==a.2.2) (
 let c:=(w64 (d-1))
 cond (inR c (List.length b)) (
 let x:Tn17:=(List.set b (Int.toNat c) ((List.getD b (Int.toNat c) (0,(0,0))).1,(a.2.1,(List.getD b (Int.toNat c) (0,(0,0))).2.2)))
 let p:=(w64 (e+1))
 some (.inl (f,m,p,x))) none) (
 let l:Tn17:=[(a.1,(a.2.1,a.2.2))]
 cond (decide (List.length b+List.length l≤j06)) (
 let s:Tn17:=(b++l)
 let w:=(w64 (e+1))
 some (.inl (f,m,w,s))) none)) none) (
 let j:Tn17:=[(a.1,(a.2.1,a.2.2))]
 cond (decide (List.length b+List.length j≤j06)) (
 let u:Tn17:=(b++j)
 let n:=(w64 (e+1))
 some (.inl (f,m,n,u))) none)) none) (
 let k:Tn17:=[(a.1,(a.2.1,a.2.2))]
 cond (decide (List.length b+List.length k≤j06)) (
 let r:Tn17:=(b++k)
 let o:=(w64 (e+1))
 some (.inl (f,m,o,r))) none))) none) (
 some (.inr b))
def j4K [LP] (c:Tn17) (b a:Int) (d:Tn17):Option (Tn17):=
 LP.lp (unc4 (j4J)) (c,b,a,d)
theorem jdt (c a d b):j4K c a d b=lpK (j4J c a d b) (fun h=>j4K h.1 h.2.1 h.2.2.1 h.2.2.2):=j05 _ _
def j62 [LP] (a:Tn17):Option (Tn17):=
 let c:=(Int.ofNat (List.length a))
 (j4K a c 0 ([]:Tn17)).bind fun b=>
 some b
def j1g [LP] (b5 o b0 t a6 a0:Int) (a7:ByteArray) (k f g m e:Int) (a:(List Int)) (j:Tn2) (l i p:Int) (c:Tn2) (a8 b:Int) (z:Tn17) (a5:Tn2):Option ((Int×Int×Int×Int×Int×Int×ByteArray×Int×Int×Int×Int×Int×(List Int)×Tn2×Int×Int×Int×Tn2×Int×Int×Tn17×Tn2) ⊕ ((Int×Int×Int×Int×Int×Int×ByteArray×Int×Int×Int×Int×Int×(List Int)×Tn2×Int×Int×Int×Tn2×Tn17×Tn2))):=
 cond (decide (o<b)) (
 cond (decide (o≥t)) (
 (j1S (p,c) (a7,(k,((f,g),(m,(e,(a,(j,(l,i)))))))) o).bind fun d=>
 let b6:=(w64 (d+1))
 (j0K (p,c) (a7,(k,((f,g),(m,(e,(a,(j,(l,i)))))))) b6).bind fun n=>
 cond (!n.2) (
 let a4:Int:=(if 8589934593<b then 8589934593 else b:Int)
 let a2:=(Int.ofNat (List.length a))
 cond (!(a2==0)) (
 let a1:=(Int.tmod d a2)
 cond (inR a1 (List.length a)) (
 let b7:=(List.getD a (Int.toNat a1) 0)
 let a3:Tn17:=[(o,(a4,b7))]
 cond (decide (List.length z+List.length a3≤j06)) (
 let b4:Tn17:=(z++a3)
 some (.inl (b5,a4,d,8589934593,a6,a0,a7,k,f,g,m,e,a,j,l,i,p,c,a8,b,b4,a5))) none) none) none) (
 let u:Int:=(if n.1<b then n.1 else b:Int)
 let v:=(Int.ofNat (List.length a))
 cond (!(v==0)) (
 let r:=(Int.tmod d v)
 cond (inR r (List.length a)) (
 let a9:=(List.getD a (Int.toNat r) 0)
 let q:Tn17:=[(o,(u,a9))]
 cond (decide (List.length z+List.length q≤j06)) (
 let b3:Tn17:=(z++q)
 some (.inl (b5,u,d,n.1,a6,a0,a7,k,f,g,m,e,a,j,l,i,p,c,a8,b,b3,a5))) none) none) none)) (
 let w:Int:=(if t<b then t else b:Int)
 let s:=(Int.ofNat (List.length a))
 cond (!(s==0)) (
 let y:=(Int.tmod b0 s)
 cond (inR y (List.length a)) (
 let b1:=(List.getD a (Int.toNat y) 0)
 let x:Tn17:=[(o,(w,b1))]
 cond (decide (List.length z+List.length x≤j06)) (
 let b2:Tn17:=(z++x)
 some (.inl (b5,w,b0,t,a6,a0,a7,k,f,g,m,e,a,j,l,i,p,c,a8,b,b2,a5))) none) none) none)) (
 some (.inr (b5,o,b0,t,a6,a0,a7,k,f,g,m,e,a,j,l,i,p,c,z,a5)))
def j2i [LP] (u r p q t o:Int) (v:ByteArray) (i d e k c:Int) (l:(List Int)) (g:Tn2) (j f m:Int) (a:Tn2) (n b:Int) (w:Tn17) (s:Tn2):Option ((Int×Int×Int×Int×Int×Int×ByteArray×Int×Int×Int×Int×Int×(List Int)×Tn2×Int×Int×Int×Tn2×Tn17×Tn2)):=
 LP.lp (jwe (j1g)) (u,r,p,q,t,o,v,i,d,e,k,c,l,g,j,f,m,a,n,b,w,s)
theorem jcr (u r p q t o v i d e k c l g j f m a n b w s):j2i u r p q t o v i d e k c l g j f m a n b w s=lpK (j1g u r p q t o v i d e k c l g j f m a n b w s) (fun h=>j2i h.1 h.2.1 h.2.2.1 h.2.2.2.1 h.2.2.2.2.1 h.2.2.2.2.2.1 h.2.2.2.2.2.2.1 h.2.2.2.2.2.2.2.1 h.2.2.2.2.2.2.2.2.1 h.2.2.2.2.2.2.2.2.2.1 h.2.2.2.2.2.2.2.2.2.2.1 h.2.2.2.2.2.2.2.2.2.2.2.1 h.2.2.2.2.2.2.2.2.2.2.2.2.1 h.2.2.2.2.2.2.2.2.2.2.2.2.2.1 h.2.2.2.2.2.2.2.2.2.2.2.2.2.2.1 h.2.2.2.2.2.2.2.2.2.2.2.2.2.2.2.1 h.2.2.2.2.2.2.2.2.2.2.2.2.2.2.2.2.1 h.2.2.2.2.2.2.2.2.2.2.2.2.2.2.2.2.2.1 h.2.2.2.2.2.2.2.2.2.2.2.2.2.2.2.2.2.2.1 h.2.2.2.2.2.2.2.2.2.2.2.2.2.2.2.2.2.2.2.1 h.2.2.2.2.2.2.2.2.2.2.2.2.2.2.2.2.2.2.2.2.1 h.2.2.2.2.2.2.2.2.2.2.2.2.2.2.2.2.2.2.2.2.2):=j05 _ _
def j0X [LP] (y k x z l c:Int) (a0:ByteArray) (r n o t m:Int) (u:(List Int)) (q:Tn2) (s p w:Int) (f:Tn2) (v:Tn17) (d:Tn2):Option ((Int×Int×Int×Int×Int×Int×ByteArray×Int×Int×Int×Int×Int×(List Int)×Tn2×Int×Int×Int×Tn2×Tn17×Tn2) ⊕ ((Int×Int×Tn17))):=
 cond (decide (c<l)) (
 cond (inR c (List.length d)) (
 let b:=(List.getD d (Int.toNat c) (0,0)).1
 let g:=(List.getD d (Int.toNat c) (0,0)).2
 let e:Tn17:=[(k,(b,(-1)))]
 cond (decide (List.length v+List.length e≤j06)) (
 let j:Tn17:=(v++e)
 (j2i y b x z l c a0 r n o t m u q s p w f b g j d).bind fun a=>
 let i:=(w64 (a.2.2.2.2.2.1+1))
 some (.inl (a.1,a.2.1,a.2.2.1,a.2.2.2.1,a.2.2.2.2.1,i,a.2.2.2.2.2.2.1,a.2.2.2.2.2.2.2.1,a.2.2.2.2.2.2.2.2.1,a.2.2.2.2.2.2.2.2.2.1,a.2.2.2.2.2.2.2.2.2.2.1,a.2.2.2.2.2.2.2.2.2.2.2.1,a.2.2.2.2.2.2.2.2.2.2.2.2.1,a.2.2.2.2.2.2.2.2.2.2.2.2.2.1,a.2.2.2.2.2.2.2.2.2.2.2.2.2.2.1,a.2.2.2.2.2.2.2.2.2.2.2.2.2.2.2.1,a.2.2.2.2.2.2.2.2.2.2.2.2.2.2.2.2.1,a.2.2.2.2.2.2.2.2.2.2.2.2.2.2.2.2.2.1,a.2.2.2.2.2.2.2.2.2.2.2.2.2.2.2.2.2.2.1,a.2.2.2.2.2.2.2.2.2.2.2.2.2.2.2.2.2.2.2))) none) none) (
 some (.inr (y,k,v)))
def j2j [LP] (s p n o r m:Int) (t:ByteArray) (g c d j b:Int) (k:(List Int)) (f:Tn2) (i e l:Int) (a:Tn2) (u:Tn17) (q:Tn2):Option ((Int×Int×Tn17)):=
 LP.lp (jwd (j0X)) (s,p,n,o,r,m,t,g,c,d,j,b,k,f,i,e,l,a,u,q)
theorem j7V (s p n o r m t g c d j b k f i e l a u q):j2j s p n o r m t g c d j b k f i e l a u q=lpK (j0X s p n o r m t g c d j b k f i e l a u q) (fun h=>j2j h.1 h.2.1 h.2.2.1 h.2.2.2.1 h.2.2.2.2.1 h.2.2.2.2.2.1 h.2.2.2.2.2.2.1 h.2.2.2.2.2.2.2.1 h.2.2.2.2.2.2.2.2.1 h.2.2.2.2.2.2.2.2.2.1 h.2.2.2.2.2.2.2.2.2.2.1 h.2.2.2.2.2.2.2.2.2.2.2.1 h.2.2.2.2.2.2.2.2.2.2.2.2.1 h.2.2.2.2.2.2.2.2.2.2.2.2.2.1 h.2.2.2.2.2.2.2.2.2.2.2.2.2.2.1 h.2.2.2.2.2.2.2.2.2.2.2.2.2.2.2.1 h.2.2.2.2.2.2.2.2.2.2.2.2.2.2.2.2.1 h.2.2.2.2.2.2.2.2.2.2.2.2.2.2.2.2.2.1 h.2.2.2.2.2.2.2.2.2.2.2.2.2.2.2.2.2.2.1 h.2.2.2.2.2.2.2.2.2.2.2.2.2.2.2.2.2.2.2):=j05 _ _
def j1k [LP] (b:Tn78) (a:Tn64) (c d:Int):Option (Tn17):=
 cond (inR a.2.1 (List.length b.2)) (
 let i:=(List.getD b.2 (Int.toNat a.2.1) (0,([]:Tn2)))
 (j3D ((b.1.1,(b.1.2.1,(b.1.2.2.1,b.1.2.2.2))),b.2) (a.1,(a.2.1,((a.2.2.1.1,a.2.2.1.2),(a.2.2.2.1,(a.2.2.2.2.1,(a.2.2.2.2.2.1,(a.2.2.2.2.2.2.1,(a.2.2.2.2.2.2.2.1,a.2.2.2.2.2.2.2.2)))))))) c d).bind fun f=>
 let k:=(Int.ofNat (List.length f))
 (j2j d c (-1) (-1) k 0 a.1 a.2.1 a.2.2.1.1 a.2.2.1.2 a.2.2.2.1 a.2.2.2.2.1 a.2.2.2.2.2.1 a.2.2.2.2.2.2.1 a.2.2.2.2.2.2.2.1 a.2.2.2.2.2.2.2.2 i.1 i.2 ([]:Tn17) f).bind fun e=>
 let g:Tn17:=[(e.2.1,(e.1,(-1)))]
 cond (decide (List.length e.2.2+List.length g≤j06)) (
 let l:Tn17:=(e.2.2++g)
 (j62 l).bind fun j=>
 some j) none) none
def j40 (k:Int) (i:Tn34) (d b:Int) (f:Tn2):Option ((Int×Tn34×Int×Int×Tn2) ⊕ (Tn2)):=
 cond (decide (b<d)) (
 cond (inR b (List.length i)) (
 let a:=(List.getD i (Int.toNat b) (0,(0,(0,(0,0)))))
 cond (cond (a.1==0) (a.2.1==k) false) (
 let c:Tn2:=[(a.2.2.2.1,a.2.2.2.2)]
 cond (decide (List.length f+List.length c≤j06)) (
 let e:Tn2:=(f++c)
 let g:=(w64 (b+1))
 some (.inl (k,i,d,g,e))) none) (
 let j:=(w64 (b+1))
 some (.inl (k,i,d,j,f)))) none) (
 some (.inr f))
def j4l [LP] (c:Int) (e:Tn34) (b a:Int) (d:Tn2):Option (Tn2):=
 LP.lp (unc5 (j40)) (c,e,b,a,d)
theorem jbI (c e b a d):j4l c e b a d=lpK (j40 c e b a d) (fun h=>j4l h.1 h.2.1 h.2.2.1 h.2.2.2.1 h.2.2.2.2):=j05 _ _
def j4c [LP] (b:Tn69) (a:Int):Option (Tn2):=
 let c:=(Int.ofNat (List.length b.2.2))
 (j4l a b.2.2 c 0 ([]:Tn2)).bind fun e=>
 (j5j e).bind fun d=>
 some d
def j3E (n:Tn17) (l o m a:Int) (s:ByteArray) (e:Tn65) (f:Tn34) (t q d:Int) (r:Tn23) (p:Tn17) (c:Tn2):Option ((Tn17×Int×Int×Int×Int×ByteArray×Tn65×Tn34×Int×Int×Int×Tn23×Tn17×Tn2) ⊕ ((Tn17×Int×Int×ByteArray×Tn65×Tn34×Tn23×Tn17))):=
 cond (decide (a<m)) (
 cond (inR a (List.length c)) (
 let g:=(List.getD c (Int.toNat a) (0,0)).1
 let i:=(List.getD c (Int.toNat a) (0,0)).2
 let b:Tn17:=[(g,(i,d))]
 cond (decide (List.length p+List.length b≤j06)) (
 let j:Tn17:=(p++b)
 let k:=(w64 (a+1))
 some (.inl (n,l,o,m,k,s,e,f,t,q,d,r,j,c))) none) none) (
 some (.inr (n,l,o,s,e,f,r,p)))
def j2E [LP] (k:Tn17) (j i f e:Int) (n:ByteArray) (c:Tn65) (d:Tn34) (l b a:Int) (o:Tn23) (m:Tn17) (g:Tn2):Option ((Tn17×Int×Int×ByteArray×Tn65×Tn34×Tn23×Tn17)):=
 LP.lp (jk2 (j3E)) (k,j,i,f,e,n,c,d,l,b,a,o,m,g)
theorem jaK (k j i f e n c d l b a o m g):j2E k j i f e n c d l b a o m g=lpK (j3E k j i f e n c d l b a o m g) (fun h=>j2E h.1 h.2.1 h.2.2.1 h.2.2.2.1 h.2.2.2.2.1 h.2.2.2.2.2.1 h.2.2.2.2.2.2.1 h.2.2.2.2.2.2.2.1 h.2.2.2.2.2.2.2.2.1 h.2.2.2.2.2.2.2.2.2.1 h.2.2.2.2.2.2.2.2.2.2.1 h.2.2.2.2.2.2.2.2.2.2.2.1 h.2.2.2.2.2.2.2.2.2.2.2.2.1 h.2.2.2.2.2.2.2.2.2.2.2.2.2):=j05 _ _
def j1N [LP] (g:Tn17) (j d:Int) (x:ByteArray) (e:Tn65) (f:Tn34) (l:Tn23) (s:Tn17):Option ((Tn17×Int×Int×ByteArray×Tn65×Tn34×Tn23×Tn17) ⊕ (Tn17)):=
 cond (decide (d<j)) (
 cond (inR d (List.length g)) (
 let a:=(List.getD g (Int.toNat d) (0,(0,0)))
 cond (decide (a.2.2<0)) (
 let t:=(w64 (d+1))
 some (.inl (g,j,t,x,e,f,l,s))) (
 let z:Tn2:=(j5P ([]:Tn2) l a.2.2)
 cond (!(j7m l a.2.2)) (
 (j4c (x,(e,f)) a.2.2).bind fun u=>
 let m:Tn23:=(j6V l a.2.2 u)
 let r:Tn2:=[(a.1,a.2.1)]
 let q:Tn2:=(j5P ([]:Tn2) m a.2.2)
 (j2g r q).bind fun k=>
 let v:=(Int.ofNat (List.length k))
 (j2E g j d v 0 x e f a.1 a.2.1 a.2.2 m s k).bind fun b=>
 let w:=(w64 (b.2.2.1+1))
 some (.inl (b.1,b.2.1,w,b.2.2.2.1,b.2.2.2.2.1,b.2.2.2.2.2.1,b.2.2.2.2.2.2.1,b.2.2.2.2.2.2.2))) (
 let o:Tn2:=[(a.1,a.2.1)]
 let p:Tn2:=(j5P ([]:Tn2) l a.2.2)
 (j2g o p).bind fun i=>
 let y:=(Int.ofNat (List.length i))
 (j2E g j d y 0 x e f a.1 a.2.1 a.2.2 l s i).bind fun c=>
 let n:=(w64 (c.2.2.1+1))
 some (.inl (c.1,c.2.1,n,c.2.2.2.1,c.2.2.2.2.1,c.2.2.2.2.2.1,c.2.2.2.2.2.2.1,c.2.2.2.2.2.2.2))))) none) (
 some (.inr s))
def j3c [LP] (c:Tn17) (e d:Int) (g:ByteArray) (b:Tn65) (a:Tn34) (i:Tn23) (f:Tn17):Option (Tn17):=
 LP.lp (unc8 (j1N)) (c,e,d,g,b,a,i,f)
theorem jaL (c e d g b a i f):j3c c e d g b a i f=lpK (j1N c e d g b a i f) (fun h=>j3c h.1 h.2.1 h.2.2.1 h.2.2.2.1 h.2.2.2.2.1 h.2.2.2.2.2.1 h.2.2.2.2.2.2.1 h.2.2.2.2.2.2.2):=j05 _ _
def j4L [LP] (a:Tn69) (b:Tn17):Option (Tn17):=
 let c:Tn23:=([]:Tn23)
 let d:=(Int.ofNat (List.length b))
 (j3c b d 0 a.1 a.2.1 a.2.2 c ([]:Tn17)).bind fun e=>
 some e
def j5b (b:Tn17) (d:Tn2) (a c:Int) (n:Tn17):Option ((Tn17×Tn2×Int×Int×Tn17) ⊕ (Tn17)):=
 let y:=(Int.ofNat (List.length b))
 let s:=(Int.ofNat (List.length d))
 cond (cond (decide (a<y)) (decide (c<s)) false) (
 cond (inR a (List.length b)) (
 let m:=(List.getD b (Int.toNat a) (0,(0,0)))
 cond (inR c (List.length d)) (
 let k:=(List.getD d (Int.toNat c) (0,0))
 let l:Int:=(if k.1>m.1 then k.1 else m.1:Int)
 cond (inR a (List.length b)) (
 let f:=(List.getD b (Int.toNat a) (0,(0,0)))
 cond (inR c (List.length d)) (
 let e:=(List.getD d (Int.toNat c) (0,0))
 let i:Int:=(if e.2<f.2.1 then e.2 else f.2.1:Int)
 cond (inR a (List.length b)) (
 let w:=(List.getD b (Int.toNat a) (0,(0,0)))
 cond (decide (l<i)) (
 let j:Tn17:=[(l,(i,w.2.2))]
 cond (decide (List.length n+List.length j≤j06)) (
 let g:Tn17:=(n++j)
 cond (inR a (List.length b)) (
 let t:=(List.getD b (Int.toNat a) (0,(0,0)))
 cond (inR c (List.length d)) (
 let o:=(List.getD d (Int.toNat c) (0,0))
 cond (decide (t.2.1<o.2)) (
 let p:=(w64 (a+1))
 some (.inl (b,d,p,c,g))) (
 let u:=(w64 (c+1))
 some (.inl (b,d,a,u,g)))) none) none) none) (
 cond (inR a (List.length b)) (
 let v:=(List.getD b (Int.toNat a) (0,(0,0)))
 cond (inR c (List.length d)) (
 let q:=(List.getD d (Int.toNat c) (0,0))
 cond (decide (v.2.1<q.2)) (
 let x:=(w64 (a+1))
 some (.inl (b,d,x,c,n))) (
 let r:=(w64 (c+1))
 some (.inl (b,d,a,r,n)))) none) none)) none) none) none) none) none) (
 some (.inr n))
def j32 [LP] (e:Tn17) (a:Tn2) (b c:Int) (d:Tn17):Option (Tn17):=
 LP.lp (unc5 (j5b)) (e,a,b,c,d)
theorem jgi (e a b c d):j32 e a b c d=lpK (j5b e a b c d) (fun h=>j32 h.1 h.2.1 h.2.2.1 h.2.2.2.1 h.2.2.2.2):=j05 _ _
def j6u [LP] (b:Tn17) (a:Tn2):Option (Tn17):=
 (j32 b a 0 0 ([]:Tn17)).bind fun c=>
 some c
def j4m (g:Tn17) (i c:Int) (f:Tn2):Option ((Tn17×Int×Int×Tn2) ⊕ (Tn2)):=
 cond (decide (c<i)) (
 cond (inR c (List.length g)) (
 let a:=(List.getD g (Int.toNat c) (0,(0,0)))
 let b:Tn2:=[(a.1,a.2.1)]
 cond (decide (List.length f+List.length b≤j06)) (
 let e:Tn2:=(f++b)
 let d:=(w64 (c+1))
 some (.inl (g,i,d,e))) none) none) (
 some (.inr f))
def j4Y [LP] (a:Tn17) (c b:Int) (d:Tn2):Option (Tn2):=
 LP.lp (unc4 (j4m)) (a,c,b,d)
theorem jcs (c d a b):j4Y c d a b=lpK (j4m c d a b) (fun h=>j4Y h.1 h.2.1 h.2.2.1 h.2.2.2):=j05 _ _
def j6v [LP] (a:Tn17):Option (Tn2):=
 let c:=(Int.ofNat (List.length a))
 (j4Y a c 0 ([]:Tn2)).bind fun d=>
 (j5j d).bind fun b=>
 some b
def j3n (a b:Tn4):Option (Int):=
 let c:=(w64 (a.1-b.1))
 some c
def j0I (a:Tn17):Option (Tn17):=
 jnk ((.pair (.int .i64) (.pair (.int .i64) (.int .i64)))) (fun c b=>(j3n c b).getD 0) a
def j17 [LP] (r:Int) (l:Tn65) (t:Tn59) (k:Tn53) (f:Tn30) (g:Tn70) (j:Tn23) (u:ByteArray) (i:Tn65) (e:Tn34) (v w:Int) (d:Tn2) (b:Tn17):Option ((Int×Tn65×Tn59×Tn53×Tn30×Tn70×Tn23×ByteArray×Tn65×Tn34×Int×Int×Tn2×Tn17) ⊕ ((Tn2×Tn17))):=
 cond (decide (r≤0)) (
 some (.inr (d,b))) (
 cond (decide (r≤Int.ofNat (List.length l))) (
 let p:Int:=(r-1)
 let a:=(List.getD l (Int.toNat p) (ByteArray.empty,(0,((0,0),(0,(0,(([]:(List Int)),(([]:Tn2),(0,0)))))))))
 (j1k ((t,(k,(f,g))),j) (a.1,(a.2.1,((a.2.2.1.1,a.2.2.1.2),(a.2.2.2.1,(a.2.2.2.2.1,(a.2.2.2.2.2.1,(a.2.2.2.2.2.2.1,(a.2.2.2.2.2.2.2.1,a.2.2.2.2.2.2.2.2)))))))) v w).bind fun m=>
 (j4L (u,(i,e)) m).bind fun n=>
 (j6u n d).bind fun c=>
 cond (decide (List.length b+List.length c≤j06)) (
 let s:Tn17:=(b++c)
 (j6v c).bind fun o=>
 (j2g d o).bind fun q=>
 some (.inl ((r-1),l,t,k,f,g,j,u,i,e,v,w,q,s))) none) none)
def j2L [LP] (n:Int) (j:Tn65) (l:Tn59) (g:Tn53) (e:Tn30) (i:Tn70) (c:Tn23) (m:ByteArray) (b:Tn65) (d:Tn34) (k o:Int) (f:Tn2) (a:Tn17):Option ((Tn2×Tn17)):=
 LP.lp (jk2 (j17)) (n,j,l,g,e,i,c,m,b,d,k,o,f,a)
theorem j8K (n j l g e i c m b d k o f a):j2L n j l g e i c m b d k o f a=lpK (j17 n j l g e i c m b d k o f a) (fun h=>j2L h.1 h.2.1 h.2.2.1 h.2.2.2.1 h.2.2.2.2.1 h.2.2.2.2.2.1 h.2.2.2.2.2.2.1 h.2.2.2.2.2.2.2.1 h.2.2.2.2.2.2.2.2.1 h.2.2.2.2.2.2.2.2.2.1 h.2.2.2.2.2.2.2.2.2.2.1 h.2.2.2.2.2.2.2.2.2.2.2.1 h.2.2.2.2.2.2.2.2.2.2.2.2.1 h.2.2.2.2.2.2.2.2.2.2.2.2.2):=j05 _ _
def j2T (j b:Int) (d:Tn2) (a:Tn17):Option ((Int×Int×Tn2×Tn17) ⊕ (Tn17)):=
 cond (decide (b<j)) (
 cond (inR b (List.length d)) (
 let g:=(List.getD d (Int.toNat b) (0,0)).1
 let i:=(List.getD d (Int.toNat b) (0,0)).2
 let c:Tn17:=[(g,(i,(-1)))]
 cond (decide (List.length a+List.length c≤j06)) (
 let e:Tn17:=(a++c)
 let f:=(w64 (b+1))
 some (.inl (j,f,d,e))) none) none) (
 some (.inr a))
def j2M [LP] (b c:Int) (d:Tn2) (a:Tn17):Option (Tn17):=
 LP.lp (unc4 (j2T)) (b,c,d,a)
theorem j8L (c b d a):j2M c b d a=lpK (j2T c b d a) (fun h=>j2M h.1 h.2.1 h.2.2.1 h.2.2.2):=j05 _ _
def j2F [LP] (b:Tn78) (d:Tn69) (a c:Int):Option (Tn17):=
 cond (decide (a≥c)) (
 some ([]:Tn17)) (
 let k:Tn2:=[(a,c)]
 (j12 d.2.1).bind fun e=>
 (j2L (Int.ofNat (List.length e)) e b.1.1 b.1.2.1 b.1.2.2.1 b.1.2.2.2 b.2 d.1 d.2.1 d.2.2 a c k ([]:Tn17)).bind fun f=>
 let j:=(Int.ofNat (List.length f.1))
 (j2M j 0 f.1 f.2).bind fun l=>
 (j0I l).bind fun g=>
 (j62 g).bind fun i=>
 some i)
def jaj (a:Int):Option (Bool):=
 some (a != a)
def jbJ (b a:Int):Option (Bool):=
 (jaj b).bind fun c=>
 cond c (
 (jaj a).bind fun d=>
 some (cond (!d) true (decide (b<a)))) (
 some (decide (b<a)))
def j5U (a:Int):Option (Bool):=
 some (a != a)
def j1T (b:(List Int)) (c m g l:Int):Option (((List Int)×Int×Int×Int×Int) ⊕ (((List Int)×Int×Int×Int))):=
 cond (decide (g<l)) (
 let i:=(w64 (g+l))
 let d:Int:=(IntKind.wrap .u64 i)
 let e:Int:=(Int.fdiv d 2)
 let a:=(w64 e)
 cond (inR a (List.length b)) (
 let k:=(List.getD b (Int.toNat a) 0)
 (jbJ k c).bind fun f=>
 cond f (
 let j:=(w64 (a+1))
 some (.inl (b,c,m,j,l))) (
 some (.inl (b,c,m,g,a)))) none) (
 some (.inr (b,c,m,g)))
def j18 [LP] (e:(List Int)) (a c d b:Int):Option (((List Int)×Int×Int×Int)):=
 LP.lp (unc5 (j1T)) (e,a,c,d,b)
theorem j89 (e a c d b):j18 e a c d b=lpK (j1T e a c d b) (fun h=>j18 h.1 h.2.1 h.2.2.1 h.2.2.2.1 h.2.2.2.2):=j05 _ _
def j0h [LP] (d:(List Int)) (b:Int):Option (Int×Bool):=
 let e:=(Int.ofNat (List.length d))
 (j18 d b e 0 e).bind fun a=>
 cond ((inR a.2.2.2 (List.length a.1)) || !(decide (a.2.2.2<a.2.2.1))) (
 let c:=(List.getD a.1 (Int.toNat a.2.2.2) 0)
 cond ((inR a.2.2.2 (List.length a.1)) || !((decide (a.2.2.2<a.2.2.1))&&(!(c==a.2.1)))) (
 let i:=(List.getD a.1 (Int.toNat a.2.2.2) 0)
 cond (decide (a.2.2.2<a.2.2.1)) (
 cond (c==a.2.1) (
 some (a.2.2.2,true)) (
 (j5U i).bind fun f=>
 cond f (
 (j5U a.2.1).bind fun g=>
 some (a.2.2.2,g)) (
 some (a.2.2.2,false)))) (
 cond ((c==a.2.1) || !false) (
 some (a.2.2.2,false)) none)) none) none
def jfo (b:Tn28) (a:Int):Option (Bool):=
 some (cond (decide (b.2.2.2.1≤a)) (decide (a<b.2.2.2.2)) false)
def j5o (f e:Int) (d:Tn34) (c b:Int):Option ((Int×Int×Tn34×Int×Int) ⊕ (Int)):=
 cond (decide (b<c)) (
 cond (inR b (List.length d)) (
 let a:=(List.getD d (Int.toNat b) (0,(0,(0,(0,0)))))
 (jfo (a.1,(a.2.1,(a.2.2.1,(a.2.2.2.1,a.2.2.2.2)))) e).bind fun k=>
 cond (cond (!k) true (a.1==0)) (
 let m:=(w64 (b+1))
 some (.inl (f,e,d,c,m))) (
 cond (a.1==1) (
 let n:=(w64 (b+1))
 some (.inl (a.2.1,e,d,c,n))) (
 cond (a.1 != 2) (
 let l:=(w64 (b+1))
 some (.inl (f,e,d,c,l))) (
 cond (f==a.2.1) (
 let j:=(w64 (b+1))
 some (.inl (a.2.2.1,e,d,c,j))) (
 cond (f==a.2.2.1) (
 let g:=(w64 (b+1))
 some (.inl (a.2.1,e,d,c,g))) (
 let i:=(w64 (b+1))
 some (.inl (f,e,d,c,i)))))))) none) (
 some (.inr f))
def j4M [LP] (c d:Int) (e:Tn34) (b a:Int):Option (Int):=
 LP.lp (unc5 (j5o)) (c,d,e,b,a)
theorem je5 (c d e b a):j4M c d e b a=lpK (j5o c d e b a) (fun h=>j4M h.1 h.2.1 h.2.2.1 h.2.2.2.1 h.2.2.2.2):=j05 _ _
def j7p [LP] (b:Tn34) (a c:Int):Option (Int):=
 let d:=(Int.ofNat (List.length b))
 (j4M a c b d 0).bind fun e=>
 some e
def j33 (r s:Int) (d:Tn34) (n a:Int) (p:Tn59) (j:Tn53) (i:Tn30) (k:Tn70) (e:Tn23) (q:ByteArray) (f:Tn65) (g:Tn34) (o:(List Int)):Option ((Int×Int×Tn34×Int×Int×Tn59×Tn53×Tn30×Tn70×Tn23×ByteArray×Tn65×Tn34×(List Int)) ⊕ ((Int×Int×Tn59×Tn53×Tn30×Tn70×Tn23×ByteArray×Tn65×Tn34×(List Int)))):=
 cond (decide (a<n)) (
 cond (inR a (List.length d)) (
 let c:=(List.getD d (Int.toNat a) (0,(0,(0,(0,0)))))
 let b:(List Int):=[c.2.2.2.1,c.2.2.2.2]
 cond (decide (List.length o+List.length b≤j06)) (
 let m:(List Int):=(o++b)
 let l:=(w64 (a+1))
 some (.inl (r,s,d,n,l,p,j,i,k,e,q,f,g,m))) none) none) (
 some (.inr (r,s,p,j,i,k,e,q,f,g,o)))
def j34 [LP] (m o:Int) (g:Tn34) (i j:Int) (k:Tn59) (e:Tn53) (d:Tn30) (f:Tn70) (a:Tn23) (l:ByteArray) (b:Tn65) (c:Tn34) (n:(List Int)):Option ((Int×Int×Tn59×Tn53×Tn30×Tn70×Tn23×ByteArray×Tn65×Tn34×(List Int))):=
 LP.lp (jk2 (j33)) (m,o,g,i,j,k,e,d,f,a,l,b,c,n)
theorem j9u (m o g i j k e d f a l b c n):j34 m o g i j k e d f a l b c n=lpK (j33 m o g i j k e d f a l b c n) (fun h=>j34 h.1 h.2.1 h.2.2.1 h.2.2.2.1 h.2.2.2.2.1 h.2.2.2.2.2.1 h.2.2.2.2.2.2.1 h.2.2.2.2.2.2.2.1 h.2.2.2.2.2.2.2.2.1 h.2.2.2.2.2.2.2.2.2.1 h.2.2.2.2.2.2.2.2.2.2.1 h.2.2.2.2.2.2.2.2.2.2.2.1 h.2.2.2.2.2.2.2.2.2.2.2.2.1 h.2.2.2.2.2.2.2.2.2.2.2.2.2):=j05 _ _
def j1l [LP] (l k p q:Int) (t:ByteArray) (j:Tn65) (b:Tn34) (s a g:Int) (c:(List Int)) (i r:Tn17):Option ((Int×Int×Int×Int×ByteArray×Tn65×Tn34×Int×Int×Int×(List Int)×Tn17×Tn17) ⊕ ((Int×Int×ByteArray×Tn65×Tn34×(List Int)×Tn17×Tn17))):=
 cond (decide (k<a)) (
 cond (inR l (List.length c)) (
 let d:=(List.getD c (Int.toNat l) 0)
 let f:Int:=(if d<a then d else a:Int)
 (j7p b g k).bind fun o=>
 let e:Tn17:=[(k,(f,o))]
 cond (decide (List.length i+List.length e≤j06)) (
 let n:Tn17:=(i++e)
 let m:=(w64 (l+1))
 some (.inl (m,f,p,q,t,j,b,s,a,g,c,n,r))) none) none) (
 some (.inr (p,q,t,j,b,c,i,r)))
def j3L [LP] (m e f k:Int) (n:ByteArray) (c:Tn65) (d:Tn34) (g a b:Int) (i:(List Int)) (j l:Tn17):Option ((Int×Int×ByteArray×Tn65×Tn34×(List Int)×Tn17×Tn17)):=
 LP.lp (jqz (j1l)) (m,e,f,k,n,c,d,g,a,b,i,j,l)
theorem j9v (m e f k n c d g a b i j l):j3L m e f k n c d g a b i j l=lpK (j1l m e f k n c d g a b i j l) (fun h=>j3L h.1 h.2.1 h.2.2.1 h.2.2.2.1 h.2.2.2.2.1 h.2.2.2.2.2.1 h.2.2.2.2.2.2.1 h.2.2.2.2.2.2.2.1 h.2.2.2.2.2.2.2.2.1 h.2.2.2.2.2.2.2.2.2.1 h.2.2.2.2.2.2.2.2.2.2.1 h.2.2.2.2.2.2.2.2.2.2.2.1 h.2.2.2.2.2.2.2.2.2.2.2.2):=j05 _ _
def j1m [LP] (k b:Int) (p:ByteArray) (n:Tn65) (o:Tn34) (m:(List Int)) (l d:Tn17):Option ((Int×Int×ByteArray×Tn65×Tn34×(List Int)×Tn17×Tn17) ⊕ (Tn17)):=
 cond (decide (b<k)) (
 cond (inR b (List.length d)) (
 let c:=(List.getD d (Int.toNat b) (0,(0,0))).1
 let e:=(List.getD d (Int.toNat b) (0,(0,0))).2.1
 let i:=(List.getD d (Int.toNat b) (0,(0,0))).2.2
 let g:=(w64 (c+1))
 (j0h m g).bind fun f=>
 (j3L f.1 c k b p n o c e i m l d).bind fun a=>
 let j:=(w64 (a.2.1+1))
 some (.inl (a.1,j,a.2.2.1,a.2.2.2.1,a.2.2.2.2.1,a.2.2.2.2.2.1,a.2.2.2.2.2.2.1,a.2.2.2.2.2.2.2))) none) (
 some (.inr l))
def j35 [LP] (c e:Int) (i:ByteArray) (a:Tn65) (b:Tn34) (f:(List Int)) (d g:Tn17):Option (Tn17):=
 LP.lp (unc8 (j1m)) (c,e,i,a,b,f,d,g)
theorem j9w (c e i a b f d g):j35 c e i a b f d g=lpK (j1m c e i a b f d g) (fun h=>j35 h.1 h.2.1 h.2.2.1 h.2.2.2.1 h.2.2.2.2.1 h.2.2.2.2.2.1 h.2.2.2.2.2.2.1 h.2.2.2.2.2.2.2):=j05 _ _
def j2B [LP] (b:Tn78) (c:Tn69) (d e:Int):Option (Tn17):=
 let k:=(Int.ofNat (List.length c.2.2))
 (j34 d e c.2.2 k 0 b.1.1 b.1.2.1 b.1.2.2.1 b.1.2.2.2 b.2 c.1 c.2.1 c.2.2 ([]:(List Int))).bind fun a=>
 (jaI a.2.2.2.2.2.2.2.2.2.2 a.1 a.2.1).bind fun i=>
 (j2F ((a.2.2.1,(a.2.2.2.1,(a.2.2.2.2.1,a.2.2.2.2.2.1))),a.2.2.2.2.2.2.1) (a.2.2.2.2.2.2.2.1,(a.2.2.2.2.2.2.2.2.1,a.2.2.2.2.2.2.2.2.2.1)) a.1 a.2.1).bind fun f=>
 let j:=(Int.ofNat (List.length f))
 (j35 j 0 a.2.2.2.2.2.2.2.1 a.2.2.2.2.2.2.2.2.1 a.2.2.2.2.2.2.2.2.2.1 i ([]:Tn17) f).bind fun l=>
 (j62 l).bind fun g=>
 some g
def j2C [LP] (b:Tn76) (a d e:Int):Option (Tn17×Int):=
 (j4X (b.1,(b.2.1,(b.2.2.1,b.2.2.2))) a d e).bind fun c=>
 cond (c.2 != 0) (
 some (([]:Tn17),c.2)) (
 cond (inR a (List.length b.2.2.2)) (
 let f:=(List.getD b.2.2.2 (Int.toNat a) (ByteArray.empty,(([]:Tn65),([]:Tn34))))
 (j2B ((c.1.1.1,(c.1.1.2.1,(c.1.1.2.2.1,c.1.1.2.2.2))),c.1.2) (f.1,(f.2.1,f.2.2)) d e).bind fun g=>
 let i:=(Int.ofNat (List.length g))
 cond (decide (i>16384)) (
 some (([]:Tn17),5)) (
 some (g,0))) none)
def j7q (a:Tn17):Option (Tn17):=
 some a
def j3g (d:Int) (b a:Tn17):Option ((Int×Tn17×Tn17) ⊕ (Tn17)):=
 cond (decide (Int.ofNat (List.length b)≤d)) (
 some (.inr a)) (
 cond (decide (1≤d)) (
 let e:=(List.getD b (Int.toNat d) (0,(0,0))).1
 let g:=(List.getD b (Int.toNat (d-1)) (0,(0,0))).2.2
 let i:=(List.getD b (Int.toNat d) (0,(0,0))).2.2
 let c:Tn17:=[(e,(g,i))]
 cond (decide (List.length a+List.length c≤j06)) (
 let f:Tn17:=(a++c)
 some (.inl ((d+1),b,f))) none) none)
def j3o [LP] (c:Int) (b a:Tn17):Option (Tn17):=
 LP.lp (unc3 (j3g)) (c,b,a)
theorem jad (c b a):j3o c b a=lpK (j3g c b a) (fun h=>j3o h.1 h.2.1 h.2.2):=j05 _ _
def j4Z [LP] (b:Tn76) (a c e:Int):Option (Tn17×Int):=
 (j2C (b.1,(b.2.1,(b.2.2.1,b.2.2.2))) a c e).bind fun d=>
 cond (d.2 != 0) (
 some (([]:Tn17),d.2)) (
 (j7q d.1).bind fun f=>
 (j3o 1 f ([]:Tn17)).bind fun g=>
 some (g,0))
def j3w (a:(Int×Int)):Option (Int):=
 (j6I a.1).bind fun c=>
 let b:=(w64 (c*86400))
 let d:=(w64 (b+a.2))
 some d
def j5V (d:Int) (e:Tn2) (f b:Int):Option ((Int×Tn2×Int×Int) ⊕ (Bool ⊕ Unit)):=
 cond (decide (b<f)) (
 cond (inR b (List.length e)) (
 let a:=(List.getD e (Int.toNat b) (0,0))
 cond (cond (decide (a.1≤d)) (decide (d<a.2)) false) (
 some (.inr (.inl true))) (
 let c:=(w64 (b+1))
 some (.inl (d,e,f,c)))) none) (
 some (.inr (.inr ())))
def j8Y [LP] (b:Int) (d:Tn2) (c a:Int):Option (Bool ⊕ Unit):=
 LP.lp (unc4 (j5V)) (b,d,c,a)
theorem jeY (a c b d):j8Y a c b d=lpK (j5V a c b d) (fun h=>j8Y h.1 h.2.1 h.2.2.1 h.2.2.2):=j05 _ _
def jcY [LP] (a:Tn2) (b:Int):Option (Bool):=
 let c:=(Int.ofNat (List.length a))
 (j8Y b a c 0).bind fun d=>
 sumC d (fun e=>
 some e) (fun f=>
 some false)
def j4d [LP] (b:Tn78) (a:Tn64) (c:Int):Option (Int×Bool):=
 cond (cond (decide (c<0)) true (decide (c>8589934592))) (
 some (0,false)) (
 cond (inR a.2.1 (List.length b.2)) (
 let g:=(List.getD b.2 (Int.toNat a.2.1) (0,([]:Tn2)))
 (j1S (g.1,g.2) (a.1,(a.2.1,((a.2.2.1.1,a.2.2.1.2),(a.2.2.2.1,(a.2.2.2.2.1,(a.2.2.2.2.2.1,(a.2.2.2.2.2.2.1,(a.2.2.2.2.2.2.2.1,a.2.2.2.2.2.2.2.2)))))))) c).bind fun e=>
 cond (decide (e<0)) (
 some (0,false)) (
 let r:=(Int.ofNat (List.length a.2.2.2.2.2.2.1))
 cond (decide (r>0)) (
 (j0u (g.1,g.2) c).bind fun m=>
 (j3w (m.1,m.2)).bind fun o=>
 (jcY a.2.2.2.2.2.2.1 o).bind fun q=>
 cond (!q) (
 some (0,false)) (
 cond (a.2.2.2.2.2.2.2.2==0) (
 some (e,true)) (
 cond (inR a.2.2.2.2.2.2.2.1 (List.length b.1.2.2.1)) (
 let i:=(List.getD b.1.2.2.1 (Int.toNat a.2.2.2.2.2.2.2.1) (ByteArray.empty,(0,([]:(List Int)))))
 cond (inR i.2.1 (List.length b.2)) (
 let l:=(List.getD b.2 (Int.toNat i.2.1) (0,([]:Tn2)))
 (j0u (l.1,l.2) c).bind fun n=>
 (j0h i.2.2 n.1).bind fun p=>
 some (e,(p.2==(a.2.2.2.2.2.2.2.2==2)))) none) none))) (
 cond (a.2.2.2.2.2.2.2.2==0) (
 some (e,true)) (
 cond (inR a.2.2.2.2.2.2.2.1 (List.length b.1.2.2.1)) (
 let d:=(List.getD b.1.2.2.1 (Int.toNat a.2.2.2.2.2.2.2.1) (ByteArray.empty,(0,([]:(List Int)))))
 cond (inR d.2.1 (List.length b.2)) (
 let f:=(List.getD b.2 (Int.toNat d.2.1) (0,([]:Tn2)))
 (j0u (f.1,f.2) c).bind fun j=>
 (j0h d.2.2 j.1).bind fun k=>
 some (e,(k.2==(a.2.2.2.2.2.2.2.2==2)))) none) none)))) none)
def j1W [LP] (b:Tn78) (a:Tn64) (f:Int):Option (Int):=
 (j4d ((b.1.1,(b.1.2.1,(b.1.2.2.1,b.1.2.2.2))),b.2) (a.1,(a.2.1,((a.2.2.1.1,a.2.2.1.2),(a.2.2.2.1,(a.2.2.2.2.1,(a.2.2.2.2.2.1,(a.2.2.2.2.2.2.1,(a.2.2.2.2.2.2.2.1,a.2.2.2.2.2.2.2.2)))))))) f).bind fun d=>
 cond (!d.2) (
 some (-1)) (
 let e:=(Int.ofNat (List.length a.2.2.2.2.2.1))
 cond (!(e==0)) (
 let c:=(Int.tmod d.1 e)
 cond (inR c (List.length a.2.2.2.2.2.1)) (
 let g:=(List.getD a.2.2.2.2.2.1 (Int.toNat c) 0)
 some g) none) none)
def jcZ (a:Tn28) (d b:Int):Option (Bool):=
 let c:Bool:=(cond (cond (a.1==0) (a.2.1==d) false) (decide (a.2.2.2.1≤b)) false)
 some (cond c (decide (b<a.2.2.2.2)) false)
def j0M (f:Tn34) (g c i b:Int):Option ((Tn34×Int×Int×Int×Int) ⊕ (Int ⊕ Unit)):=
 cond (decide (b<i)) (
 cond (inR b (List.length f)) (
 let a:=(List.getD f (Int.toNat b) (0,(0,(0,(0,0)))))
 (jcZ (a.1,(a.2.1,(a.2.2.1,(a.2.2.2.1,a.2.2.2.2)))) g c).bind fun d=>
 cond d (
 some (.inr (.inl b))) (
 let e:=(w64 (b+1))
 some (.inl (f,g,c,i,e)))) none) (
 some (.inr (.inr ())))
def j0w [LP] (e:Tn34) (b a d c:Int):Option (Int ⊕ Unit):=
 LP.lp (unc5 (j0M)) (e,b,a,d,c)
theorem j3u (e b a d c):j0w e b a d c=lpK (j0M e b a d c) (fun h=>j0w h.1 h.2.1 h.2.2.1 h.2.2.2.1 h.2.2.2.2):=j05 _ _
def j0S [LP] (b:Tn34) (c a:Int):Option (Int):=
 let d:=(Int.ofNat (List.length b))
 (j0w b c a d 0).bind fun e=>
 sumC e (fun f=>
 some f) (fun g=>
 some (-1))
def j0H [LP] (c:Tn34) (b a:Int):Option (Bool):=
 (j0S c b a).bind fun d=>
 some (decide (d≥0))
def j8Z [LP] (c:Tn69) (a b:Int):Option (Bool):=
 (j0H c.2.2 a b).bind fun d=>
 some d
def j1O [LP] (l:Int) (j:Tn65) (q:Tn59) (c:Tn53) (f:Tn30) (i:Tn70) (e:Tn23) (p:ByteArray) (g:Tn65) (d:Tn34) (m o r:Int):Option ((Int×Tn65×Tn59×Tn53×Tn30×Tn70×Tn23×ByteArray×Tn65×Tn34×Int×Int×Int) ⊕ ((Int×Int) ⊕ (Int×Int))):=
 cond (decide (l≤0)) (
 some (.inr (.inl (o,r)))) (
 cond (decide (l≤Int.ofNat (List.length j))) (
 let k:Int:=(l-1)
 let a:=(List.getD j (Int.toNat k) (ByteArray.empty,(0,((0,0),(0,(0,(([]:(List Int)),(([]:Tn2),(0,0)))))))))
 (j1W ((q,(c,(f,i))),e) (a.1,(a.2.1,((a.2.2.1.1,a.2.2.1.2),(a.2.2.2.1,(a.2.2.2.2.1,(a.2.2.2.2.2.1,(a.2.2.2.2.2.2.1,(a.2.2.2.2.2.2.2.1,a.2.2.2.2.2.2.2.2)))))))) m).bind fun b=>
 cond (decide (b<0)) (
 some (.inl ((l-1),j,q,c,f,i,e,p,g,d,m,o,r))) (
 (j8Z (p,(g,d)) b m).bind fun n=>
 cond (!n) (
 some (.inr (.inr (k,b)))) (
 some (.inl ((l-1),j,q,c,f,i,e,p,g,d,m,o,r))))) none)
def j3R [LP] (m:Int) (g:Tn65) (k:Tn59) (a:Tn53) (d:Tn30) (f:Tn70) (c:Tn23) (j:ByteArray) (e:Tn65) (b:Tn34) (l i n:Int):Option ((Int×Int) ⊕ (Int×Int)):=
 LP.lp (jqz (j1O)) (m,g,k,a,d,f,c,j,e,b,l,i,n)
theorem jaM (m g k a d f c j e b l i n):j3R m g k a d f c j e b l i n=lpK (j1O m g k a d f c j e b l i n) (fun h=>j3R h.1 h.2.1 h.2.2.1 h.2.2.2.1 h.2.2.2.2.1 h.2.2.2.2.2.1 h.2.2.2.2.2.2.1 h.2.2.2.2.2.2.2.1 h.2.2.2.2.2.2.2.2.1 h.2.2.2.2.2.2.2.2.2.1 h.2.2.2.2.2.2.2.2.2.2.1 h.2.2.2.2.2.2.2.2.2.2.2.1 h.2.2.2.2.2.2.2.2.2.2.2.2):=j05 _ _
def j36 [LP] (a:Tn78) (b:Tn69) (d:Int):Option (Int×Int):=
 (j12 b.2.1).bind fun c=>
 (j3R (Int.ofNat (List.length c)) c a.1.1 a.1.2.1 a.1.2.2.1 a.1.2.2.2 a.2 b.1 b.2.1 b.2.2 d 0 0).bind fun e=>
 sumC e (fun g=>
 some ((-1),(-1))) (fun f=>
 some (f.1,f.2))
def j5p [LP] (a:Tn78) (b:Tn69) (c:Int):Option (Int):=
 cond (cond (decide (c<0)) true (decide (c>8589934592))) (
 some (-1)) (
 (j36 ((a.1.1,(a.1.2.1,(a.1.2.2.1,a.1.2.2.2))),a.2) (b.1,(b.2.1,b.2.2)) c).bind fun e=>
 (j7p b.2.2 e.2 c).bind fun d=>
 some d)
def j5H (b s p:Int) (a:Tn17) (u:Tn59) (l:Tn53) (g:Tn30) (m:Tn70) (t j k v:Int) (r:Tn59) (n:Tn53) (f:Tn30) (i:Tn70) (o:Tn23) (q:Tn17):Option ((Int×Int×Int×Tn17×Tn59×Tn53×Tn30×Tn70×Int×Int×Int×Int×Tn59×Tn53×Tn30×Tn70×Tn23×Tn17) ⊕ ((Int×Int×Tn59×Tn53×Tn30×Tn70×Int×Int×Int×Int×Tn59×Tn53×Tn30×Tn70×Tn23×Tn17) ⊕ (Int×Int×Int×Int))):=
 cond (decide (Int.ofNat (List.length a)≤b)) (
 some (.inr (.inl (s,p,u,l,g,m,t,j,k,v,r,n,f,i,o,q)))) (
 cond (decide (1≤b)) (
 let d:=(List.getD a (Int.toNat b) (0,(0,0))).1
 let c:=(List.getD a (Int.toNat (b-1)) (0,(0,0))).2.2
 let e:=(List.getD a (Int.toNat b) (0,(0,0))).2.2
 some (.inr (.inr (d,c,e,0)))) none)
def j7r [LP] (r n m:Int) (k:Tn17) (q:Tn59) (b:Tn53) (g:Tn30) (i:Tn70) (o a c s:Int) (p:Tn59) (f:Tn53) (d:Tn30) (j:Tn70) (e:Tn23) (l:Tn17):Option ((Int×Int×Tn59×Tn53×Tn30×Tn70×Int×Int×Int×Int×Tn59×Tn53×Tn30×Tn70×Tn23×Tn17) ⊕ (Int×Int×Int×Int)):=
 LP.lp (jwc (j5H)) (r,n,m,k,q,b,g,i,o,a,c,s,p,f,d,j,e,l)
theorem jhf (r o l k q f b g p d e s n i a c j m):j7r r o l k q f b g p d e s n i a c j m=lpK (j5H r o l k q f b g p d e s n i a c j m) (fun h=>j7r h.1 h.2.1 h.2.2.1 h.2.2.2.1 h.2.2.2.2.1 h.2.2.2.2.2.1 h.2.2.2.2.2.2.1 h.2.2.2.2.2.2.2.1 h.2.2.2.2.2.2.2.2.1 h.2.2.2.2.2.2.2.2.2.1 h.2.2.2.2.2.2.2.2.2.2.1 h.2.2.2.2.2.2.2.2.2.2.2.1 h.2.2.2.2.2.2.2.2.2.2.2.2.1 h.2.2.2.2.2.2.2.2.2.2.2.2.2.1 h.2.2.2.2.2.2.2.2.2.2.2.2.2.2.1 h.2.2.2.2.2.2.2.2.2.2.2.2.2.2.2.1 h.2.2.2.2.2.2.2.2.2.2.2.2.2.2.2.2.1 h.2.2.2.2.2.2.2.2.2.2.2.2.2.2.2.2.2):=j05 _ _
def j4n [LP] (b:Tn76) (a d:Int):Option (Tn4×Int):=
 (j4X (b.1,(b.2.1,(b.2.2.1,b.2.2.2))) a d d).bind fun c=>
 cond (c.2 != 0) (
 some ((0,(0,0)),c.2)) (
 let j:=(w64 (d+34560000))
 let i:Int:=(if 8589934592<j then 8589934592 else j:Int)
 cond (inR a (List.length b.2.2.2)) (
 let f:=(List.getD b.2.2.2 (Int.toNat a) (ByteArray.empty,(([]:Tn65),([]:Tn34))))
 (j2B ((c.1.1.1,(c.1.1.2.1,(c.1.1.2.2.1,c.1.1.2.2.2))),c.1.2) (f.1,(f.2.1,f.2.2)) d i).bind fun k=>
 (j7q k).bind fun n=>
 (j7r 1 a i n b.1 b.2.1 b.2.2.1 b.2.2.2 0 0 0 0 c.1.1.1 c.1.1.2.1 c.1.1.2.2.1 c.1.1.2.2.2 c.1.2 k).bind fun r=>
 sumC r (fun e=>
 let m:=(Int.ofNat (List.length e.2.2.2.2.2.2.2.2.2.2.2.2.2.2.2))
 cond (decide (m>0)) (
 cond (inR e.1 (List.length e.2.2.2.2.2.1)) (
 let g:=(List.getD e.2.2.2.2.2.1 (Int.toNat e.1) (ByteArray.empty,(([]:Tn65),([]:Tn34))))
 (j5p ((e.2.2.2.2.2.2.2.2.2.2.1,(e.2.2.2.2.2.2.2.2.2.2.2.1,(e.2.2.2.2.2.2.2.2.2.2.2.2.1,e.2.2.2.2.2.2.2.2.2.2.2.2.2.1))),e.2.2.2.2.2.2.2.2.2.2.2.2.2.2.1) (g.1,(g.2.1,g.2.2)) e.2.1).bind fun l=>
 cond (inR 0 (List.length e.2.2.2.2.2.2.2.2.2.2.2.2.2.2.2)) (
 let o:=(List.getD e.2.2.2.2.2.2.2.2.2.2.2.2.2.2.2 0 (0,(0,0))).2.2
 cond (l != o) (
 cond (inR 0 (List.length e.2.2.2.2.2.2.2.2.2.2.2.2.2.2.2)) (
 let p:=(List.getD e.2.2.2.2.2.2.2.2.2.2.2.2.2.2.2 0 (0,(0,0))).2.2
 some ((e.2.1,(p,l)),0)) none) (
 some ((0,(0,0)),10))) none) none) (
 some ((0,(0,0)),10))) (fun q=>
 some ((q.1,(q.2.1,q.2.2.1)),q.2.2.2))) none)
def j8M (j:Int) (e:Tn17) (k b:Int) (g:Tn2):Option ((Int×Tn17×Int×Int×Tn2) ⊕ (Tn2)):=
 cond (decide (b<k)) (
 cond (inR b (List.length e)) (
 let a:=(List.getD e (Int.toNat b) (0,(0,0)))
 cond (a.2.2==j) (
 let c:Tn2:=[(a.1,a.2.1)]
 cond (decide (List.length g+List.length c≤j06)) (
 let i:Tn2:=(g++c)
 let f:=(w64 (b+1))
 some (.inl (j,e,k,f,i))) none) (
 let d:=(w64 (b+1))
 some (.inl (j,e,k,d,g)))) none) (
 some (.inr g))
def j90 [LP] (b:Int) (c:Tn17) (e a:Int) (d:Tn2):Option (Tn2):=
 LP.lp (unc5 (j8M)) (b,c,e,a,d)
def j7s [LP] (b:Tn17) (a:Int):Option (Tn2):=
 let d:=(Int.ofNat (List.length b))
 (j90 a b d 0 ([]:Tn2)).bind fun e=>
 (j5j e).bind fun c=>
 some c
def j9x [LP] (b:Tn76) (a c d f:Int):Option (Tn2×Int):=
 (j2C (b.1,(b.2.1,(b.2.2.1,b.2.2.2))) a d f).bind fun e=>
 cond (e.2 != 0) (
 some (([]:Tn2),e.2)) (
 (j7s e.1 c).bind fun g=>
 let i:=(Int.ofNat (List.length g))
 cond (decide (i>4096)) (
 some (([]:Tn2),5)) (
 some (g,0)))
def j4N [LP] (n:Int) (d:Tn70) (l c:Int) (o:Tn59) (e:Tn53) (f:Tn30) (g:Tn70) (i:Tn23) (m:(List Int)):Option ((Int×Tn70×Int×Int×Tn59×Tn53×Tn30×Tn70×Tn23×(List Int)) ⊕ ((List Int))):=
 cond (decide (c<l)) (
 cond (inR c (List.length d)) (
 let a:=(List.getD d (Int.toNat c) (ByteArray.empty,(([]:Tn65),([]:Tn34))))
 (j5p ((o,(e,(f,g))),i) (a.1,(a.2.1,a.2.2)) n).bind fun b=>
 cond (decide (List.length m+List.length [b]≤j06)) (
 let k:(List Int):=(m++[b])
 let j:=(w64 (c+1))
 some (.inl (n,d,l,j,o,e,f,g,i,k))) none) none) (
 some (.inr m))
def jd0 [LP] (i:Int) (e:Tn70) (g f:Int) (j:Tn59) (a:Tn53) (b:Tn30) (c:Tn70) (d:Tn23) (k:(List Int)):Option ((List Int)):=
 LP.lp (jqy (j4N)) (i,e,g,f,j,a,b,c,d,k)
def jct [LP] (a:Tn76) (c:Int):Option ((List Int)):=
 (jcX (a.1,(a.2.1,(a.2.2.1,a.2.2.2)))).bind fun b=>
 cond (!b.2) (
 some ([]:(List Int))) (
 let d:=(Int.ofNat (List.length a.2.2.2))
 (jd0 c a.2.2.2 d 0 b.1.1.1 b.1.1.2.1 b.1.1.2.2.1 b.1.1.2.2.2 b.1.2 ([]:(List Int))).bind fun e=>
 some e)
def jeD [LP] (a:Tn76) (b e:Int):Option (Int):=
 (jcX (a.1,(a.2.1,(a.2.2.1,a.2.2.2)))).bind fun c=>
 cond (!c.2) (
 some (-1)) (
 (jaH (a.1,(a.2.1,(a.2.2.1,a.2.2.2))) b).bind fun g=>
 cond (!g) (
 some (-1)) (
 cond (inR b (List.length a.2.2.2)) (
 let d:=(List.getD a.2.2.2 (Int.toNat b) (ByteArray.empty,(([]:Tn65),([]:Tn34))))
 (j5p ((c.1.1.1,(c.1.1.2.1,(c.1.1.2.2.1,c.1.1.2.2.2))),c.1.2) (d.1,(d.2.1,d.2.2)) e).bind fun f=>
 some f) none))
def j5q [LP] (b:Tn76) (a c:Int):Option (Int):=
 (jeD (b.1,(b.2.1,(b.2.2.1,b.2.2.2))) a c).bind fun d=>
 some d
def j91 [LP]  : Option (Bool):=
 (jgh).bind fun a=>
 (j4Z (a.1,(a.2.1,(a.2.2.1,a.2.2.2))) 0 432000 518400).bind fun b=>
 (j4n (a.1,(a.2.1,(a.2.2.1,a.2.2.2))) 0 432000).bind fun c=>
 (j2C (a.1,(a.2.1,(a.2.2.1,a.2.2.2))) 0 432000 518400).bind fun k=>
 (j9x (a.1,(a.2.1,(a.2.2.1,a.2.2.2))) 0 2 432000 518400).bind fun j=>
 (jct (a.1,(a.2.1,(a.2.2.1,a.2.2.2))) 432000).bind fun d=>
 cond (b.2==0) (
 cond (c.2==0) (
 cond (k.2==0) (
 cond (j.2==0) (
 let p:=(Int.ofNat (List.length b.1))
 cond (p==1) (
 cond (inR 0 (List.length b.1)) (
 let l:=(List.getD b.1 0 (0,(0,0))).1
 let f:=(List.getD b.1 0 (0,(0,0))).2.1
 let g:=(List.getD b.1 0 (0,(0,0))).2.2
 cond ((l==475200)&&((f==2)&&(g==1))) (
 cond (inR 0 (List.length b.1)) (
 let n:=(List.getD b.1 0 (0,(0,0))).1
 let i:=(List.getD b.1 0 (0,(0,0))).2.1
 let e:=(List.getD b.1 0 (0,(0,0))).2.2
 cond ((c.1.1==n)&&((c.1.2.1==i)&&(c.1.2.2==e))) (
 let r:=(Int.ofNat (List.length k.1))
 cond (r==2) (
 let m:=(Int.ofNat (List.length j.1))
 cond (m==1) (
 let s:=(Int.ofNat (List.length d))
 cond (s==1) (
 cond (inR 0 (List.length d)) (
 let o:=(List.getD d 0 0)
 cond (o==2) (
 (j5q (a.1,(a.2.1,(a.2.2.1,a.2.2.2))) 0 432000).bind fun q=>
 some (q==2)) (
 some false)) none) (
 some false)) (
 some false)) (
 some false)) (
 some false)) none) (
 some false)) none) (
 some false)) (
 some false)) (
 some false)) (
 some false)) (
 some false)
def jjk (a:(List Int)):Option ((List Int)×Int):=
 some (a,0)
def j03 (b:(List Int)) (a c:Int):Option (Int×(List Int)×Int):=
 let i:=(Int.ofNat (List.length b))
 cond (decide (a≥i)) (
 some (0,b,a)) (
 cond (decide (c<1)) (
 some (0,b,a)) (
 cond (inR a (List.length b)) (
 let f:=(List.getD b (Int.toNat a) 0)
 cond (!(c==0)) (
 let d:=(Int.tmod f c)
 let e:=(w64 (a+1))
 cond (decide (d<0)) (
 let g:=(w64 (d+c))
 some (g,b,e)) (
 some (d,b,e))) none) none))
def j1t (d:(List Int)) (b:Int) (a:(List Int)):Option (Int×(List Int)×Int):=
 let f:=(Int.ofNat (List.length a))
 (j03 d b f).bind fun c=>
 cond (inR c.1 (List.length a)) (
 let e:=(List.getD a (Int.toNat c.1) 0)
 some (e,c.2.1,c.2.2)) none
def j4e (a0:(List Int)) (q:Int) (a:ByteArray):Option (Tn57×(List Int)×Int):=
 let a2:(List Int):=[0,4,(-20),22,48,(-47)]
 (j1t a0 q a2).bind fun x=>
 (j03 x.2.1 x.2.2 2).bind fun t=>
 (j03 t.2.1 t.2.2 3).bind fun s=>
 let a1:=(w64 (t.1*s.1))
 let b4:=(w64 (x.1+a1))
 let c:=(w64 (900*b4))
 (j03 s.2.1 s.2.2 2).bind fun j=>
 let g:=(w64 (2025+j.1))
 (j03 j.2.1 j.2.2 4).bind fun b=>
 cond (b.1==1) (
 let b7:=(w64 (c+3600))
 let b3:Tn47:=[(2025,(g,(3,(5,(6,(7200,b7)))))),(2025,(g,(10,(5,(6,(10800,c))))))]
 some ((a,(c,b3)),b.2.1,b.2.2)) (
 cond (b.1==2) (
 (j03 b.2.1 b.2.2 4).bind fun l=>
 let b5:=(w64 (1+l.1))
 (j03 l.2.1 l.2.2 7).bind fun w=>
 (j03 w.2.1 w.2.2 24).bind fun i=>
 let b0:=(w64 (3600*i.1))
 (j03 i.2.1 i.2.2 8).bind fun m=>
 let a5:=(w64 (1+m.1))
 let a8:=(w64 (1800*a5))
 let a7:=(w64 (c+a8))
 (j03 m.2.1 m.2.2 2).bind fun u=>
 let b6:=(w64 (2+u.1))
 let b2:(List Int):=[2,3,5]
 (j1t u.2.1 u.2.2 b2).bind fun n=>
 (j03 n.2.1 n.2.2 7).bind fun o=>
 (j03 o.2.1 o.2.2 24).bind fun r=>
 let a6:=(w64 (3600*r.1))
 let a4:Tn47:=[(2025,(g,(1,(b5,(w.1,(b0,a7)))))),(2025,(g,(b6,(n.1,(o.1,(a6,c))))))]
 some ((a,(c,a4)),r.2.1,r.2.2)) (
 cond (b.1==3) (
 let b1:(List Int):=[3600,(-3600),82800,(-82800),43200]
 (j1t b.2.1 b.2.2 b1).bind fun f=>
 let v:=(w64 (c+f.1))
 cond (cond (decide (v>64800)) true (decide (v<(-64800)))) (
 (j03 f.2.1 f.2.2 7).bind fun p=>
 (j03 p.2.1 p.2.2 48).bind fun k=>
 let a3:=(w64 (1800*k.1))
 let a9:Tn47:=[(2026,(2026,(1,(2,(p.1,(a3,0))))))]
 some ((a,(c,a9)),k.2.1,k.2.2)) (
 (j03 f.2.1 f.2.2 7).bind fun d=>
 (j03 d.2.1 d.2.2 48).bind fun e=>
 let y:=(w64 (1800*e.1))
 let z:Tn47:=[(2026,(2026,(1,(2,(d.1,(y,v))))))]
 some ((a,(c,z)),e.2.1,e.2.2))) (
 some ((a,(c,([]:Tn47))),b.2.1,b.2.2))))
def jeE  : Option ((List ByteArray)):=
 let a:(List ByteArray):=[(ByteArray.mk #[97,100,97]),(ByteArray.mk #[98,111,98]),(ByteArray.mk #[99,108,101,111]),(ByteArray.mk #[100,97,110]),(ByteArray.mk #[101,118,101]),(ByteArray.mk #[102,97,121]),(ByteArray.mk #[103,117,115]),(ByteArray.mk #[104,97,108])]
 some a
def j1b (d:(List Int)) (b a:Int):Option (Bool×(List Int)×Int):=
 (j03 d b a).bind fun c=>
 let e:=(w64 (a-1))
 some ((c.1==e),c.2.1,c.2.2)
def j2D (r q:Int) (p:(List Int)) (g:Int) (k:Tn2):Option ((Int×Int×(List Int)×Int×Tn2) ⊕ (((List Int)×Int×Tn2))):=
 cond (decide (q>0)) (
 (j03 p g 30).bind fun c=>
 let i:=(w64 (3600*c.1))
 let l:=(w64 (r+i))
 (j03 c.2.1 c.2.2 2).bind fun b=>
 let n:=(w64 (60*b.1))
 let f:=(w64 (l+n))
 let o:(List Int):=[3600,28800,43200,86400,61,1]
 (j1t b.2.1 b.2.2 o).bind fun a=>
 let d:=(w64 (f+a.1))
 cond (decide (d>604800)) (
 some (.inr (a.2.1,a.2.2,k))) (
 let e:Tn2:=[(f,d)]
 cond (decide (List.length k+List.length e≤j06)) (
 let j:Tn2:=(k++e)
 let m:=(w64 (q-1))
 some (.inl (d,m,a.2.1,a.2.2,j))) none)) (
 some (.inr (p,g,k)))
def j5c [LP] (d e:Int) (c:(List Int)) (a:Int) (b:Tn2):Option (((List Int)×Int×Tn2)):=
 LP.lp (unc5 (j2D)) (d,e,c,a,b)
theorem j8a (d e c a b):j5c d e c a b=lpK (j2D d e c a b) (fun h=>j5c h.1 h.2.1 h.2.2.1 h.2.2.2.1 h.2.2.2.2):=j05 _ _
def j4h [LP] (c:(List Int)) (a:Int):Option (Tn2×(List Int)×Int):=
 (j03 c a 4).bind fun b=>
 (j5c 0 b.1 b.2.1 b.2.2 ([]:Tn2)).bind fun d=>
 some (d.2.2,d.1,d.2.1)
def j37 (l:Int) (k:(List Int)) (f:Int) (b:Tn59):Option ((Int×(List Int)×Int×Tn59) ⊕ (((List Int)×Int×Tn59))):=
 cond (decide (l>0)) (
 let e:(List ByteArray):=[(ByteArray.mk #[104,101,114,101]),(ByteArray.mk #[116,104,101,114,101])]
 let d:=(Int.ofNat (List.length b))
 cond (inR d (List.length e)) (
 let j:=(List.getD e (Int.toNat d) ByteArray.empty)
 (j4e k f j).bind fun a=>
 let c:Tn59:=[(a.1.1,(a.1.2.1,a.1.2.2))]
 cond (decide (List.length b+List.length c≤j06)) (
 let i:Tn59:=(b++c)
 let g:=(w64 (l-1))
 some (.inl (g,a.2.1,a.2.2,i))) none) none) (
 some (.inr (k,f,b)))
def j6c [LP] (c:Int) (d:(List Int)) (b:Int) (a:Tn59):Option (((List Int)×Int×Tn59)):=
 LP.lp (unc4 (j37)) (c,d,b,a)
theorem j9y (d c b a):j6c d c b a=lpK (j37 d c b a) (fun h=>j6c h.1 h.2.1 h.2.2.1 h.2.2.2):=j05 _ _
def j38 [LP] (a4:Int) (a5:(List Int)) (q:Int) (i:Tn59) (b:Tn53):Option ((Int×(List Int)×Int×Tn59×Tn53) ⊕ (((List Int)×Int×Tn59×Tn53))):=
 cond (decide (a4>0)) (
 (jeE).bind fun o=>
 let l:=(Int.ofNat (List.length b))
 cond (inR l (List.length o)) (
 let p:=(List.getD o (Int.toNat l) ByteArray.empty)
 let a1:=(Int.ofNat (List.length i))
 (j03 a5 q a1).bind fun d=>
 (j1b d.2.1 d.2.2 3).bind fun c=>
 (j1b c.2.1 c.2.2 2).bind fun a=>
 cond a.1 (
 (j4h a.2.1 a.2.2).bind fun e=>
 let w:(List Int):=[0,40,100,12]
 (j1t e.2.1 e.2.2 w).bind fun g=>
 let y:=(w64 (3600*g.1))
 let a0:(List Int):=[0,11,24,1]
 (j1t g.2.1 g.2.2 a0).bind fun j=>
 let u:=(w64 (3600*j.1))
 let n:Tn53:=[(p,(d.1,(e.1,(y,(u,c.1)))))]
 cond (decide (List.length b+List.length n≤j06)) (
 let a3:Tn53:=(b++n)
 let v:=(w64 (a4-1))
 some (.inl (v,j.2.1,j.2.2,i,a3))) none) (
 let x:(List Int):=[0,40,100,12]
 (j1t a.2.1 a.2.2 x).bind fun f=>
 let s:=(w64 (3600*f.1))
 let z:(List Int):=[0,11,24,1]
 (j1t f.2.1 f.2.2 z).bind fun k=>
 let r:=(w64 (3600*k.1))
 let m:Tn53:=[(p,(d.1,(([]:Tn2),(s,(r,c.1)))))]
 cond (decide (List.length b+List.length m≤j06)) (
 let t:Tn53:=(b++m)
 let a2:=(w64 (a4-1))
 some (.inl (a2,k.2.1,k.2.2,i,t))) none)) none) (
 some (.inr (a5,q,i,b)))
def j6d [LP] (e:Int) (d:(List Int)) (c:Int) (a:Tn59) (b:Tn53):Option (((List Int)×Int×Tn59×Tn53)):=
 LP.lp (unc5 (j38)) (e,d,c,a,b)
theorem j9z (e d c a b):j6d e d c a b=lpK (j38 e d c a b) (fun h=>j6d h.1 h.2.1 h.2.2.1 h.2.2.2.1 h.2.2.2.2):=j05 _ _
def j39 (o p q:Int) (n:(List Int)) (i:Int) (m:ByteArray) (f:Int) (d:Tn59) (g:Tn53) (e:Tn30) (c:(List Int)):Option ((Int×Int×Int×(List Int)×Int×ByteArray×Int×Tn59×Tn53×Tn30×(List Int)) ⊕ ((Int×(List Int)×Int×ByteArray×Int×Tn59×Tn53×Tn30×(List Int)))):=
 cond (decide (p>0)) (
 (j03 n i 6).bind fun b=>
 let k:=(w64 (1+b.1))
 let a:=(w64 (q+k))
 cond (decide (List.length c+List.length [a]≤j06)) (
 let j:(List Int):=(c++[a])
 let l:=(w64 (p-1))
 some (.inl (o,l,a,b.2.1,b.2.2,m,f,d,g,e,j))) none) (
 some (.inr (o,n,i,m,f,d,g,e,c)))
def j6e [LP] (k l g:Int) (j:(List Int)) (f:Int) (i:ByteArray) (c:Int) (a:Tn59) (d:Tn53) (b:Tn30) (e:(List Int)):Option ((Int×(List Int)×Int×ByteArray×Int×Tn59×Tn53×Tn30×(List Int))):=
 LP.lp (jtE (j39)) (k,l,g,j,f,i,c,a,d,b,e)
theorem j9A (k l g j f i c a d b e):j6e k l g j f i c a d b e=lpK (j39 k l g j f i c a d b e) (fun h=>j6e h.1 h.2.1 h.2.2.1 h.2.2.2.1 h.2.2.2.2.1 h.2.2.2.2.2.1 h.2.2.2.2.2.2.1 h.2.2.2.2.2.2.2.1 h.2.2.2.2.2.2.2.2.1 h.2.2.2.2.2.2.2.2.2.1 h.2.2.2.2.2.2.2.2.2.2):=j05 _ _
def j2p [LP] (n:Int) (m:(List Int)) (j:Int) (e:Tn59) (g:Tn53) (f:Tn30):Option ((Int×(List Int)×Int×Tn59×Tn53×Tn30) ⊕ (((List Int)×Int×Tn59×Tn53×Tn30))):=
 cond (decide (n>0)) (
 let k:=(Int.ofNat (List.length e))
 (j03 m j k).bind fun b=>
 (j03 b.2.1 b.2.2 4).bind fun c=>
 (j6e n c.1 20454 c.2.1 c.2.2 (ByteArray.mk #[100,97,121,115]) b.1 e g f ([]:(List Int))).bind fun a=>
 let d:Tn30:=[(a.2.2.2.1,(a.2.2.2.2.1,a.2.2.2.2.2.2.2.2))]
 cond (decide (List.length a.2.2.2.2.2.2.2.1+List.length d≤j06)) (
 let i:Tn30:=(a.2.2.2.2.2.2.2.1++d)
 let l:=(w64 (a.1-1))
 some (.inl (l,a.2.1,a.2.2.1,a.2.2.2.2.2.1,a.2.2.2.2.2.2.1,i))) none) (
 some (.inr (m,j,e,g,f)))
def j6f [LP] (f:Int) (e:(List Int)) (d:Int) (a:Tn59) (c:Tn53) (b:Tn30):Option (((List Int)×Int×Tn59×Tn53×Tn30)):=
 LP.lp (unc6 (j2p)) (f,e,d,a,c,b)
theorem j6w (f e d a c b):j6f f e d a c b=lpK (j2p f e d a c b) (fun h=>j6f h.1 h.2.1 h.2.2.1 h.2.2.2.1 h.2.2.2.2.1 h.2.2.2.2.2):=j05 _ _
def j8b [LP] (g:(List Int)) (e:Int):Option (Tn76×(List Int)×Int):=
 (j03 g e 2).bind fun c=>
 let j:=(w64 (1+c.1))
 (j6c j c.2.1 c.2.2 ([]:Tn59)).bind fun i=>
 (j03 i.1 i.2.1 4).bind fun d=>
 let k:=(w64 (1+d.1))
 (j6d k d.2.1 d.2.2 i.2.2 ([]:Tn53)).bind fun f=>
 (j03 f.1 f.2.1 2).bind fun b=>
 (j6f b.1 b.2.1 b.2.2 f.2.2.1 f.2.2.2 ([]:Tn30)).bind fun a=>
 some ((a.2.2.1,(a.2.2.2.1,(a.2.2.2.2,([]:Tn70)))),a.1,a.2.1)
def j3a (y:Int) (z:(List Int)) (p:Int) (a0:Tn59) (c:Tn53) (d:Tn30) (g:Tn70) (a1:ByteArray) (j k n t l m r:Int) (a2:ByteArray) (e f u i o s q:Int) (b:(List Int)):Option ((Int×(List Int)×Int×Tn59×Tn53×Tn30×Tn70×ByteArray×Int×Int×Int×Int×Int×Int×Int×ByteArray×Int×Int×Int×Int×Int×Int×Int×(List Int)) ⊕ (((List Int)×Int×Tn59×Tn53×Tn30×Tn70×ByteArray×Int×Int×Int×Int×Int×Int×Int×ByteArray×Int×Int×Int×Int×Int×Int×Int×(List Int)))):=
 cond (decide (y>0)) (
 let v:=(Int.ofNat (List.length c))
 (j03 z p v).bind fun a=>
 cond (decide (List.length b+List.length [a.1]≤j06)) (
 let w:(List Int):=(b++[a.1])
 let x:=(w64 (y-1))
 some (.inl (x,a.2.1,a.2.2,a0,c,d,g,a1,j,k,n,t,l,m,r,a2,e,f,u,i,o,s,q,w))) none) (
 some (.inr (z,p,a0,c,d,g,a1,j,k,n,t,l,m,r,a2,e,f,u,i,o,s,q,b)))
def j4O [LP] (u:Int) (v:(List Int)) (o:Int) (w:Tn59) (n:Tn53) (b:Tn30) (e:Tn70) (x:ByteArray) (g i l s j k q:Int) (y:ByteArray) (c d t f m r p:Int) (a:(List Int)):Option (((List Int)×Int×Tn59×Tn53×Tn30×Tn70×ByteArray×Int×Int×Int×Int×Int×Int×Int×ByteArray×Int×Int×Int×Int×Int×Int×Int×(List Int))):=
 LP.lp (jwf (j3a)) (u,v,o,w,n,b,e,x,g,i,l,s,j,k,q,y,c,d,t,f,m,r,p,a)
theorem j9B (u v o w n b e x g i l s j k q y c d t f m r p a):j4O u v o w n b e x g i l s j k q y c d t f m r p a=lpK (j3a u v o w n b e x g i l s j k q y c d t f m r p a) (fun h=>j4O h.1 h.2.1 h.2.2.1 h.2.2.2.1 h.2.2.2.2.1 h.2.2.2.2.2.1 h.2.2.2.2.2.2.1 h.2.2.2.2.2.2.2.1 h.2.2.2.2.2.2.2.2.1 h.2.2.2.2.2.2.2.2.2.1 h.2.2.2.2.2.2.2.2.2.2.1 h.2.2.2.2.2.2.2.2.2.2.2.1 h.2.2.2.2.2.2.2.2.2.2.2.2.1 h.2.2.2.2.2.2.2.2.2.2.2.2.2.1 h.2.2.2.2.2.2.2.2.2.2.2.2.2.2.1 h.2.2.2.2.2.2.2.2.2.2.2.2.2.2.2.1 h.2.2.2.2.2.2.2.2.2.2.2.2.2.2.2.2.1 h.2.2.2.2.2.2.2.2.2.2.2.2.2.2.2.2.2.1 h.2.2.2.2.2.2.2.2.2.2.2.2.2.2.2.2.2.2.1 h.2.2.2.2.2.2.2.2.2.2.2.2.2.2.2.2.2.2.2.1 h.2.2.2.2.2.2.2.2.2.2.2.2.2.2.2.2.2.2.2.2.1 h.2.2.2.2.2.2.2.2.2.2.2.2.2.2.2.2.2.2.2.2.2.1 h.2.2.2.2.2.2.2.2.2.2.2.2.2.2.2.2.2.2.2.2.2.2.1 h.2.2.2.2.2.2.2.2.2.2.2.2.2.2.2.2.2.2.2.2.2.2.2):=j05 _ _
def j8c [LP] (b5:(List Int)) (a2:Int) (c:Tn76) (j:ByteArray):Option (Tn64×(List Int)×Int):=
 let b9:=(Int.ofNat (List.length c.1))
 (j03 b5 a2 b9).bind fun w=>
 (j03 w.2.1 w.2.2 6).bind fun a3=>
 let c4:=(w64 (20454+a3.1))
 let b4:=(w64 (c4-2))
 let b6:(List Int):=[0,32400,7200,9000,79200,1]
 (j1t a3.2.1 a3.2.2 b6).bind fun v=>
 (j03 v.2.1 v.2.2 3).bind fun t=>
 (j03 t.2.1 t.2.2 2).bind fun s=>
 let b7:=(w64 (1+s.1))
 cond (t.1==0) (
 let c0:(List Int):=[6,8,12,24,23,49]
 (j1t s.2.1 s.2.2 c0).bind fun y=>
 (j03 y.2.1 y.2.2 3).bind fun a0=>
 let c1:=(w64 (1+a0.1))
 (j4O c1 a0.2.1 a0.2.2 c.1 c.2.1 c.2.2.1 c.2.2.2 ByteArray.empty 0 0 0 0 0 0 0 j w.1 b4 v.1 t.1 y.1 0 0 ([]:(List Int))).bind fun b=>
 (j1b b.1 b.2.1 2).bind fun r=>
 cond r.1 (
 (j4h r.2.1 r.2.2).bind fun x=>
 (j1b x.2.1 x.2.2 4).bind fun u=>
 let b8:=(Int.ofNat (List.length b.2.2.2.2.1))
 cond (cond u.1 (decide (b8>0)) false) (
 let c2:=(Int.ofNat (List.length b.2.2.2.2.1))
 (j03 u.2.1 u.2.2 c2).bind fun a1=>
 (j03 a1.2.1 a1.2.2 2).bind fun z=>
 let c3:=(w64 (1+z.1))
 some ((b.2.2.2.2.2.2.2.2.2.2.2.2.2.2.1,(b.2.2.2.2.2.2.2.2.2.2.2.2.2.2.2.1,((b.2.2.2.2.2.2.2.2.2.2.2.2.2.2.2.2.1,b.2.2.2.2.2.2.2.2.2.2.2.2.2.2.2.2.2.1),(b.2.2.2.2.2.2.2.2.2.2.2.2.2.2.2.2.2.2.1,(b.2.2.2.2.2.2.2.2.2.2.2.2.2.2.2.2.2.2.2.1,(b.2.2.2.2.2.2.2.2.2.2.2.2.2.2.2.2.2.2.2.2.2.2,(x.1,(a1.1,c3)))))))),z.2.1,z.2.2)) (
 some ((b.2.2.2.2.2.2.2.2.2.2.2.2.2.2.1,(b.2.2.2.2.2.2.2.2.2.2.2.2.2.2.2.1,((b.2.2.2.2.2.2.2.2.2.2.2.2.2.2.2.2.1,b.2.2.2.2.2.2.2.2.2.2.2.2.2.2.2.2.2.1),(b.2.2.2.2.2.2.2.2.2.2.2.2.2.2.2.2.2.2.1,(b.2.2.2.2.2.2.2.2.2.2.2.2.2.2.2.2.2.2.2.1,(b.2.2.2.2.2.2.2.2.2.2.2.2.2.2.2.2.2.2.2.2.2.2,(x.1,(b.2.2.2.2.2.2.2.2.2.2.2.2.2.2.2.2.2.2.2.2.1,b.2.2.2.2.2.2.2.2.2.2.2.2.2.2.2.2.2.2.2.2.2.1)))))))),u.2.1,u.2.2))) (
 (j1b r.2.1 r.2.2 4).bind fun e=>
 let b3:=(Int.ofNat (List.length b.2.2.2.2.1))
 cond (cond e.1 (decide (b3>0)) false) (
 let a4:=(Int.ofNat (List.length b.2.2.2.2.1))
 (j03 e.2.1 e.2.2 a4).bind fun l=>
 (j03 l.2.1 l.2.2 2).bind fun o=>
 let a6:=(w64 (1+o.1))
 some ((b.2.2.2.2.2.2.2.2.2.2.2.2.2.2.1,(b.2.2.2.2.2.2.2.2.2.2.2.2.2.2.2.1,((b.2.2.2.2.2.2.2.2.2.2.2.2.2.2.2.2.1,b.2.2.2.2.2.2.2.2.2.2.2.2.2.2.2.2.2.1),(b.2.2.2.2.2.2.2.2.2.2.2.2.2.2.2.2.2.2.1,(b.2.2.2.2.2.2.2.2.2.2.2.2.2.2.2.2.2.2.2.1,(b.2.2.2.2.2.2.2.2.2.2.2.2.2.2.2.2.2.2.2.2.2.2,(([]:Tn2),(l.1,a6)))))))),o.2.1,o.2.2)) (
 some ((b.2.2.2.2.2.2.2.2.2.2.2.2.2.2.1,(b.2.2.2.2.2.2.2.2.2.2.2.2.2.2.2.1,((b.2.2.2.2.2.2.2.2.2.2.2.2.2.2.2.2.1,b.2.2.2.2.2.2.2.2.2.2.2.2.2.2.2.2.2.1),(b.2.2.2.2.2.2.2.2.2.2.2.2.2.2.2.2.2.2.1,(b.2.2.2.2.2.2.2.2.2.2.2.2.2.2.2.2.2.2.2.1,(b.2.2.2.2.2.2.2.2.2.2.2.2.2.2.2.2.2.2.2.2.2.2,(([]:Tn2),(b.2.2.2.2.2.2.2.2.2.2.2.2.2.2.2.2.2.2.2.2.1,b.2.2.2.2.2.2.2.2.2.2.2.2.2.2.2.2.2.2.2.2.2.1)))))))),e.2.1,e.2.2)))) (
 (j03 s.2.1 s.2.2 3).bind fun q=>
 let a7:=(w64 (1+q.1))
 (j4O a7 q.2.1 q.2.2 c.1 c.2.1 c.2.2.1 c.2.2.2 ByteArray.empty 0 0 0 0 0 0 0 j w.1 b4 v.1 t.1 b7 0 0 ([]:(List Int))).bind fun a=>
 (j1b a.1 a.2.1 2).bind fun g=>
 cond g.1 (
 (j4h g.2.1 g.2.2).bind fun i=>
 (j1b i.2.1 i.2.2 4).bind fun f=>
 let a8:=(Int.ofNat (List.length a.2.2.2.2.1))
 cond (cond f.1 (decide (a8>0)) false) (
 let a5:=(Int.ofNat (List.length a.2.2.2.2.1))
 (j03 f.2.1 f.2.2 a5).bind fun n=>
 (j03 n.2.1 n.2.2 2).bind fun k=>
 let b1:=(w64 (1+k.1))
 some ((a.2.2.2.2.2.2.2.2.2.2.2.2.2.2.1,(a.2.2.2.2.2.2.2.2.2.2.2.2.2.2.2.1,((a.2.2.2.2.2.2.2.2.2.2.2.2.2.2.2.2.1,a.2.2.2.2.2.2.2.2.2.2.2.2.2.2.2.2.2.1),(a.2.2.2.2.2.2.2.2.2.2.2.2.2.2.2.2.2.2.1,(a.2.2.2.2.2.2.2.2.2.2.2.2.2.2.2.2.2.2.2.1,(a.2.2.2.2.2.2.2.2.2.2.2.2.2.2.2.2.2.2.2.2.2.2,(i.1,(n.1,b1)))))))),k.2.1,k.2.2)) (
 some ((a.2.2.2.2.2.2.2.2.2.2.2.2.2.2.1,(a.2.2.2.2.2.2.2.2.2.2.2.2.2.2.2.1,((a.2.2.2.2.2.2.2.2.2.2.2.2.2.2.2.2.1,a.2.2.2.2.2.2.2.2.2.2.2.2.2.2.2.2.2.1),(a.2.2.2.2.2.2.2.2.2.2.2.2.2.2.2.2.2.2.1,(a.2.2.2.2.2.2.2.2.2.2.2.2.2.2.2.2.2.2.2.1,(a.2.2.2.2.2.2.2.2.2.2.2.2.2.2.2.2.2.2.2.2.2.2,(i.1,(a.2.2.2.2.2.2.2.2.2.2.2.2.2.2.2.2.2.2.2.2.1,a.2.2.2.2.2.2.2.2.2.2.2.2.2.2.2.2.2.2.2.2.2.1)))))))),f.2.1,f.2.2))) (
 (j1b g.2.1 g.2.2 4).bind fun d=>
 let a9:=(Int.ofNat (List.length a.2.2.2.2.1))
 cond (cond d.1 (decide (a9>0)) false) (
 let b2:=(Int.ofNat (List.length a.2.2.2.2.1))
 (j03 d.2.1 d.2.2 b2).bind fun m=>
 (j03 m.2.1 m.2.2 2).bind fun p=>
 let b0:=(w64 (1+p.1))
 some ((a.2.2.2.2.2.2.2.2.2.2.2.2.2.2.1,(a.2.2.2.2.2.2.2.2.2.2.2.2.2.2.2.1,((a.2.2.2.2.2.2.2.2.2.2.2.2.2.2.2.2.1,a.2.2.2.2.2.2.2.2.2.2.2.2.2.2.2.2.2.1),(a.2.2.2.2.2.2.2.2.2.2.2.2.2.2.2.2.2.2.1,(a.2.2.2.2.2.2.2.2.2.2.2.2.2.2.2.2.2.2.2.1,(a.2.2.2.2.2.2.2.2.2.2.2.2.2.2.2.2.2.2.2.2.2.2,(([]:Tn2),(m.1,b0)))))))),p.2.1,p.2.2)) (
 some ((a.2.2.2.2.2.2.2.2.2.2.2.2.2.2.1,(a.2.2.2.2.2.2.2.2.2.2.2.2.2.2.2.1,((a.2.2.2.2.2.2.2.2.2.2.2.2.2.2.2.2.1,a.2.2.2.2.2.2.2.2.2.2.2.2.2.2.2.2.2.1),(a.2.2.2.2.2.2.2.2.2.2.2.2.2.2.2.2.2.2.1,(a.2.2.2.2.2.2.2.2.2.2.2.2.2.2.2.2.2.2.2.1,(a.2.2.2.2.2.2.2.2.2.2.2.2.2.2.2.2.2.2.2.2.2.2,(([]:Tn2),(a.2.2.2.2.2.2.2.2.2.2.2.2.2.2.2.2.2.2.2.2.1,a.2.2.2.2.2.2.2.2.2.2.2.2.2.2.2.2.2.2.2.2.2.1)))))))),d.2.1,d.2.2))))
def j5r (d:(List Int)) (c:Int):Option (Int×(List Int)×Int):=
 (j03 d c 576).bind fun e=>
 let j:=(w64 (3600*e.1))
 let g:=(w64 (1767139200+j))
 (j1b e.2.1 e.2.2 3).bind fun b=>
 cond b.1 (
 let f:(List Int):=[(-1),1,1800,3599]
 (j1t b.2.1 b.2.2 f).bind fun a=>
 let i:=(w64 (g+a.1))
 some (i,a.2.1,a.2.2)) (
 some (g,b.2.1,b.2.2))
def j9f (n:(List Int)) (l:Int) (m:Tn76):Option (Tn28×(List Int)×Int):=
 let j:=(Int.ofNat (List.length m.2.1))
 (j03 n l 3).bind fun a=>
 (j03 a.2.1 a.2.2 j).bind fun e=>
 (j5r e.2.1 e.2.2).bind fun b=>
 let o:(List Int):=[3600,86400,7,259200,40000]
 (j1t b.2.1 b.2.2 o).bind fun d=>
 let f:=(w64 (b.1+d.1))
 cond (a.1==2) (
 cond (decide (j<2)) (
 some ((0,(e.1,(0,(b.1,f)))),d.2.1,d.2.2)) (
 let r:=(w64 (e.1+1))
 let q:=(w64 (j-1))
 (j03 d.2.1 d.2.2 q).bind fun i=>
 let p:=(w64 (r+i.1))
 cond (!(j==0)) (
 let k:=(Int.tmod p j)
 cond (a.1==1) (
 (j1b i.2.1 i.2.2 4).bind fun g=>
 cond g.1 (
 some ((a.1,((-1),(k,(b.1,f)))),g.2.1,g.2.2)) (
 some ((a.1,(e.1,(k,(b.1,f)))),g.2.1,g.2.2))) (
 some ((a.1,(e.1,(k,(b.1,f)))),i.2.1,i.2.2))) none)) (
 cond (a.1==1) (
 (j1b d.2.1 d.2.2 4).bind fun c=>
 cond c.1 (
 some ((a.1,((-1),(0,(b.1,f)))),c.2.1,c.2.2)) (
 some ((a.1,(e.1,(0,(b.1,f)))),c.2.1,c.2.2))) (
 some ((a.1,(e.1,(0,(b.1,f)))),d.2.1,d.2.2)))
def j2U [LP] (q o:Int) (p:(List Int)) (j:Int) (n:Tn59) (c:Tn53) (e:Tn30) (r:ByteArray) (d:Tn70) (b:Tn65):Option ((Int×Int×(List Int)×Int×Tn59×Tn53×Tn30×ByteArray×Tn70×Tn65) ⊕ ((Int×(List Int)×Int×Tn59×Tn53×Tn30×ByteArray×Tn70×Tn65))):=
 cond (decide (o>0)) (
 (jeE).bind fun i=>
 let f:=(Int.ofNat (List.length b))
 cond (inR f (List.length i)) (
 let k:=(List.getD i (Int.toNat f) ByteArray.empty)
 (j8c p j (n,(c,(e,d))) k).bind fun a=>
 let g:Tn65:=[(a.1.1,(a.1.2.1,((a.1.2.2.1.1,a.1.2.2.1.2),(a.1.2.2.2.1,(a.1.2.2.2.2.1,(a.1.2.2.2.2.2.1,(a.1.2.2.2.2.2.2.1,(a.1.2.2.2.2.2.2.2.1,a.1.2.2.2.2.2.2.2.2))))))))]
 cond (decide (List.length b+List.length g≤j06)) (
 let l:Tn65:=(b++g)
 let m:=(w64 (o-1))
 some (.inl (q,m,a.2.1,a.2.2,n,c,e,r,d,l))) none) none) (
 some (.inr (q,p,j,n,c,e,r,d,b)))
def j4o [LP] (j f:Int) (g:(List Int)) (e:Int) (i:Tn59) (a:Tn53) (d:Tn30) (k:ByteArray) (c:Tn70) (b:Tn65):Option ((Int×(List Int)×Int×Tn59×Tn53×Tn30×ByteArray×Tn70×Tn65)):=
 LP.lp (jqy (j2U)) (j,f,g,e,i,a,d,k,c,b)
theorem j8N (j f g e i a d k c b):j4o j f g e i a d k c b=lpK (j2U j f g e i a d k c b) (fun h=>j4o h.1 h.2.1 h.2.2.1 h.2.2.2.1 h.2.2.2.2.1 h.2.2.2.2.2.1 h.2.2.2.2.2.2.1 h.2.2.2.2.2.2.2.1 h.2.2.2.2.2.2.2.2.1 h.2.2.2.2.2.2.2.2.2):=j05 _ _
def j2V (n p:Int) (m:(List Int)) (i:Int) (l:Tn59) (c:Tn53) (e:Tn30) (o:ByteArray) (d:Tn70) (g:Tn65) (b:Tn34):Option ((Int×Int×(List Int)×Int×Tn59×Tn53×Tn30×ByteArray×Tn70×Tn65×Tn34) ⊕ ((Int×(List Int)×Int×Tn59×Tn53×Tn30×ByteArray×Tn70×Tn65×Tn34))):=
 cond (decide (p>0)) (
 (j9f m i (l,(c,(e,d)))).bind fun a=>
 let f:Tn34:=[(a.1.1,(a.1.2.1,(a.1.2.2.1,(a.1.2.2.2.1,a.1.2.2.2.2))))]
 cond (decide (List.length b+List.length f≤j06)) (
 let j:Tn34:=(b++f)
 let k:=(w64 (p-1))
 some (.inl (n,k,a.2.1,a.2.2,l,c,e,o,d,g,j))) none) (
 some (.inr (n,m,i,l,c,e,o,d,g,b)))
def j5I [LP] (j l:Int) (g:(List Int)) (f:Int) (i:Tn59) (b:Tn53) (e:Tn30) (k:ByteArray) (d:Tn70) (c:Tn65) (a:Tn34):Option ((Int×(List Int)×Int×Tn59×Tn53×Tn30×ByteArray×Tn70×Tn65×Tn34)):=
 LP.lp (jtE (j2V)) (j,l,g,f,i,b,e,k,d,c,a)
theorem j8O (j l g f i b e k d c a):j5I j l g f i b e k d c a=lpK (j2V j l g f i b e k d c a) (fun h=>j5I h.1 h.2.1 h.2.2.1 h.2.2.2.1 h.2.2.2.2.1 h.2.2.2.2.2.1 h.2.2.2.2.2.2.1 h.2.2.2.2.2.2.2.1 h.2.2.2.2.2.2.2.2.1 h.2.2.2.2.2.2.2.2.2.1 h.2.2.2.2.2.2.2.2.2.2):=j05 _ _
def j2W [LP] (s:Int) (q:(List Int)) (l:Int) (r:Tn59) (j:Tn53) (k:Tn30) (e:Tn70):Option ((Int×(List Int)×Int×Tn59×Tn53×Tn30×Tn70) ⊕ (((List Int)×Int×Tn59×Tn53×Tn30×Tn70))):=
 cond (decide (s>0)) (
 let i:(List ByteArray):=[(ByteArray.mk #[102,105,114,115,116]),(ByteArray.mk #[115,101,99,111,110,100]),(ByteArray.mk #[116,104,105,114,100])]
 let p:=(Int.ofNat (List.length e))
 let g:=(Int.tmod p 3)
 cond (inR g (List.length i)) (
 let n:=(List.getD i (Int.toNat g) ByteArray.empty)
 (j03 q l 4).bind fun d=>
 (j4o s d.1 d.2.1 d.2.2 r j k n e ([]:Tn65)).bind fun b=>
 (j03 b.2.1 b.2.2.1 4).bind fun c=>
 (j5I b.1 c.1 c.2.1 c.2.2 b.2.2.2.1 b.2.2.2.2.1 b.2.2.2.2.2.1 b.2.2.2.2.2.2.1 b.2.2.2.2.2.2.2.1 b.2.2.2.2.2.2.2.2 ([]:Tn34)).bind fun a=>
 let f:Tn70:=[(a.2.2.2.2.2.2.1,(a.2.2.2.2.2.2.2.2.1,a.2.2.2.2.2.2.2.2.2))]
 cond (decide (List.length a.2.2.2.2.2.2.2.1+List.length f≤j06)) (
 let o:Tn70:=(a.2.2.2.2.2.2.2.1++f)
 let m:=(w64 (a.1-1))
 some (.inl (m,a.2.1,a.2.2.1,a.2.2.2.1,a.2.2.2.2.1,a.2.2.2.2.2.1,o))) none) none) (
 some (.inr (q,l,r,j,k,e)))
def j5J [LP] (g:Int) (e:(List Int)) (d:Int) (f:Tn59) (a:Tn53) (c:Tn30) (b:Tn70):Option (((List Int)×Int×Tn59×Tn53×Tn30×Tn70)):=
 LP.lp (unc7 (j2W)) (g,e,d,f,a,c,b)
theorem j8P (g e d f a c b):j5J g e d f a c b=lpK (j2W g e d f a c b) (fun h=>j5J h.1 h.2.1 h.2.2.1 h.2.2.2.1 h.2.2.2.2.1 h.2.2.2.2.2.1 h.2.2.2.2.2.2):=j05 _ _
def j7C [LP] (f:(List Int)) (d e:Int):Option (Tn76×(List Int)×Int):=
 (j8b f d).bind fun a=>
 (j03 a.2.1 a.2.2 e).bind fun c=>
 let g:=(w64 (1+c.1))
 (j5J g c.2.1 c.2.2 a.1.1 a.1.2.1 a.1.2.2.1 ([]:Tn70)).bind fun b=>
 some ((b.2.2.1,(b.2.2.2.1,(b.2.2.2.2.1,b.2.2.2.2.2))),b.1,b.2.1)
def j2k [LP] (w x v a:Int) (i:Tn59) (f:Tn53) (d:Tn30) (e:Tn70) (b:Tn17):Option ((Int×Int×Int×Int×Tn59×Tn53×Tn30×Tn70×Tn17) ⊕ (Bool ⊕ (Int×Int×Tn59×Tn53×Tn30×Tn70))):=
 cond (decide (a<v)) (
 (j4n (i,(f,(d,e))) 0 x).bind fun c=>
 cond (c.2 != 0) (
 some (.inr (.inl false))) (
 cond (inR a (List.length b)) (
 let p:=(List.getD b (Int.toNat a) (0,(0,0))).1
 let t:=(List.getD b (Int.toNat a) (0,(0,0))).2.1
 let l:=(List.getD b (Int.toNat a) (0,(0,0))).2.2
 cond (!((c.1.1==p)&&((c.1.2.1==t)&&(c.1.2.2==l)))) (
 some (.inr (.inl false))) (
 cond (inR a (List.length b)) (
 let u:=(List.getD b (Int.toNat a) (0,(0,0))).2.1
 cond (inR a (List.length b)) (
 let j:=(List.getD b (Int.toNat a) (0,(0,0))).2.2
 cond (u==j) (
 some (.inr (.inl false))) (
 cond (inR a (List.length b)) (
 let o:=(List.getD b (Int.toNat a) (0,(0,0))).1
 (j5q (i,(f,(d,e))) 0 o).bind fun q=>
 cond (inR a (List.length b)) (
 let m:=(List.getD b (Int.toNat a) (0,(0,0))).2.2
 cond (q != m) (
 some (.inr (.inl false))) (
 cond (inR a (List.length b)) (
 let s:=(List.getD b (Int.toNat a) (0,(0,0))).1
 let k:=(w64 (s-1))
 (j5q (i,(f,(d,e))) 0 k).bind fun n=>
 cond (inR a (List.length b)) (
 let r:=(List.getD b (Int.toNat a) (0,(0,0))).2.1
 cond (n != r) (
 some (.inr (.inl false))) (
 let g:=(w64 (a+1))
 some (.inl (w,c.1.1,v,g,i,f,d,e,b)))) none) none)) none) none)) none) none)) none)) (
 some (.inr (.inr (w,x,i,f,d,e))))
def j3h [LP] (g j d e:Int) (f:Tn59) (b:Tn53) (a:Tn30) (c:Tn70) (i:Tn17):Option (Bool ⊕ (Int×Int×Tn59×Tn53×Tn30×Tn70)):=
 LP.lp (unc9 (j2k)) (g,j,d,e,f,b,a,c,i)
theorem j7t (g j d e f b a c i):j3h g j d e f b a c i=lpK (j2k g j d e f b a c i) (fun h=>j3h h.1 h.2.1 h.2.2.1 h.2.2.2.1 h.2.2.2.2.1 h.2.2.2.2.2.1 h.2.2.2.2.2.2.1 h.2.2.2.2.2.2.2.1 h.2.2.2.2.2.2.2.2):=j05 _ _
def j7J [LP] (e:(List Int)):Option (Bool):=
 (jhb e).bind fun n=>
 cond (!n) (
 (j91).bind fun m=>
 some m) (
 (jjk e).bind fun g=>
 (j7C g.1 g.2 1).bind fun a=>
 (j5r a.2.1 a.2.2).bind fun c=>
 let f:=(w64 (c.1+518400))
 (j4Z (a.1.1,(a.1.2.1,(a.1.2.2.1,a.1.2.2.2))) 0 c.1 f).bind fun d=>
 cond (d.2 != 0) (
 some false) (
 let l:=(Int.ofNat (List.length d.1))
 (j3h f c.1 l 0 a.1.1 a.1.2.1 a.1.2.2.1 a.1.2.2.2 d.1).bind fun o=>
 sumC o (fun p=>
 some p) (fun k=>
 (j4n (k.2.2.1,(k.2.2.2.1,(k.2.2.2.2.1,k.2.2.2.2.2))) 0 k.2.1).bind fun b=>
 let i:Bool:=(cond (b.2==10) true (cond (b.2==0) (decide (b.1.1≥k.1)) false))
 cond i (
 (j91).bind fun j=>
 some j) (
 some false))))
end
end Go.Proofs.Pw
