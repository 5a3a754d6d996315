/- Plain functions, printed by a program out of the given code. -/
import Derived.Test.YtpbnnhakjhalaaaGreatSLLS
open Go Go.Lft
set_option linter.unusedVariables false
namespace Go.Proofs.Pw
noncomputable section
abbrev Tn2:Type:=(List (Int×Int))
abbrev Tn4:Type:=(Int×(Int×Int))
abbrev Tn17:Type:=(List Tn4)
abbrev Tn15:Type:=(Int×Tn2)
abbrev Tn22:Type:=(ByteArray×(Int×(List Int)))
abbrev Tn23:Type:=(List Tn15)
abbrev Tn28:Type:=(Int×(Int×Tn4))
abbrev Tn30:Type:=(List Tn22)
abbrev Tn34:Type:=(List Tn28)
abbrev Tn43:Type:=(Int×(Int×Tn28))
abbrev Tn47:Type:=(List Tn43)
abbrev Tn49:Type:=(ByteArray×(Int×(Tn2×(Int×(Int×Bool)))))
abbrev Tn53:Type:=(List Tn49)
abbrev Tn57:Type:=(ByteArray×(Int×Tn47))
abbrev Tn59:Type:=(List Tn57)
abbrev Tn64:Type:=(ByteArray×(Int×((Int×Int)×(Int×(Int×((List Int)×(Tn2×(Int×Int))))))))
abbrev Tn65:Type:=(List Tn64)
abbrev Tn69:Type:=(ByteArray×(Tn65×Tn34))
abbrev Tn70:Type:=(List Tn69)
abbrev Tn76:Type:=(Tn59×(Tn53×(Tn30×Tn70)))
abbrev Tn78:Type:=(Tn76×Tn23)
abbrev unc2 {A0 A1 R:Type} (f:A0→A1→R) (h:A0×A1):R:=f h.1 h.2
abbrev unc3 {A0 A1 A2 R:Type} (f:A0→A1→A2→R) (h:A0×A1×A2):R:=f h.1 h.2.1 h.2.2
abbrev unc4 {A0 A1 A2 A3 R:Type} (f:A0→A1→A2→A3→R) (h:A0×A1×A2×A3):R:=f h.1 h.2.1 h.2.2.1 h.2.2.2
abbrev unc5 {A0 A1 A2 A3 A4 R:Type} (f:A0→A1→A2→A3→A4→R) (h:A0×A1×A2×A3×A4):R:=f h.1 h.2.1 h.2.2.1 h.2.2.2.1 h.2.2.2.2
abbrev unc6 {A0 A1 A2 A3 A4 A5 R:Type} (f:A0→A1→A2→A3→A4→A5→R) (h:A0×A1×A2×A3×A4×A5):R:=f h.1 h.2.1 h.2.2.1 h.2.2.2.1 h.2.2.2.2.1 h.2.2.2.2.2
abbrev unc7 {A0 A1 A2 A3 A4 A5 A6 R:Type} (f:A0→A1→A2→A3→A4→A5→A6→R) (h:A0×A1×A2×A3×A4×A5×A6):R:=f h.1 h.2.1 h.2.2.1 h.2.2.2.1 h.2.2.2.2.1 h.2.2.2.2.2.1 h.2.2.2.2.2.2
abbrev unc8 {A0 A1 A2 A3 A4 A5 A6 A7 R:Type} (f:A0→A1→A2→A3→A4→A5→A6→A7→R) (h:A0×A1×A2×A3×A4×A5×A6×A7):R:=f h.1 h.2.1 h.2.2.1 h.2.2.2.1 h.2.2.2.2.1 h.2.2.2.2.2.1 h.2.2.2.2.2.2.1 h.2.2.2.2.2.2.2
abbrev unc9 {A0 A1 A2 A3 A4 A5 A6 A7 A8 R:Type} (f:A0→A1→A2→A3→A4→A5→A6→A7→A8→R) (h:A0×A1×A2×A3×A4×A5×A6×A7×A8):R:=f h.1 h.2.1 h.2.2.1 h.2.2.2.1 h.2.2.2.2.1 h.2.2.2.2.2.1 h.2.2.2.2.2.2.1 h.2.2.2.2.2.2.2.1 h.2.2.2.2.2.2.2.2
abbrev jrM {A0 A1 A2 A3 A4 A5 A6 A7 A8 A9 R:Type} (f:A0→A1→A2→A3→A4→A5→A6→A7→A8→A9→R) (h:A0×A1×A2×A3×A4×A5×A6×A7×A8×A9):R:=f h.1 h.2.1 h.2.2.1 h.2.2.2.1 h.2.2.2.2.1 h.2.2.2.2.2.1 h.2.2.2.2.2.2.1 h.2.2.2.2.2.2.2.1 h.2.2.2.2.2.2.2.2.1 h.2.2.2.2.2.2.2.2.2
abbrev jrN {A0 A1 A2 A3 A4 A5 A6 A7 A8 A9 A10 R:Type} (f:A0→A1→A2→A3→A4→A5→A6→A7→A8→A9→A10→R) (h:A0×A1×A2×A3×A4×A5×A6×A7×A8×A9×A10):R:=f h.1 h.2.1 h.2.2.1 h.2.2.2.1 h.2.2.2.2.1 h.2.2.2.2.2.1 h.2.2.2.2.2.2.1 h.2.2.2.2.2.2.2.1 h.2.2.2.2.2.2.2.2.1 h.2.2.2.2.2.2.2.2.2.1 h.2.2.2.2.2.2.2.2.2.2
abbrev jrO {A0 A1 A2 A3 A4 A5 A6 A7 A8 A9 A10 A11 R:Type} (f:A0→A1→A2→A3→A4→A5→A6→A7→A8→A9→A10→A11→R) (h:A0×A1×A2×A3×A4×A5×A6×A7×A8×A9×A10×A11):R:=f h.1 h.2.1 h.2.2.1 h.2.2.2.1 h.2.2.2.2.1 h.2.2.2.2.2.1 h.2.2.2.2.2.2.1 h.2.2.2.2.2.2.2.1 h.2.2.2.2.2.2.2.2.1 h.2.2.2.2.2.2.2.2.2.1 h.2.2.2.2.2.2.2.2.2.2.1 h.2.2.2.2.2.2.2.2.2.2.2
abbrev jrP {A0 A1 A2 A3 A4 A5 A6 A7 A8 A9 A10 A11 A12 R:Type} (f:A0→A1→A2→A3→A4→A5→A6→A7→A8→A9→A10→A11→A12→R) (h:A0×A1×A2×A3×A4×A5×A6×A7×A8×A9×A10×A11×A12):R:=f h.1 h.2.1 h.2.2.1 h.2.2.2.1 h.2.2.2.2.1 h.2.2.2.2.2.1 h.2.2.2.2.2.2.1 h.2.2.2.2.2.2.2.1 h.2.2.2.2.2.2.2.2.1 h.2.2.2.2.2.2.2.2.2.1 h.2.2.2.2.2.2.2.2.2.2.1 h.2.2.2.2.2.2.2.2.2.2.2.1 h.2.2.2.2.2.2.2.2.2.2.2.2
abbrev jlS {A0 A1 A2 A3 A4 A5 A6 A7 A8 A9 A10 A11 A12 A13 R:Type} (f:A0→A1→A2→A3→A4→A5→A6→A7→A8→A9→A10→A11→A12→A13→R) (h:A0×A1×A2×A3×A4×A5×A6×A7×A8×A9×A10×A11×A12×A13):R:=f h.1 h.2.1 h.2.2.1 h.2.2.2.1 h.2.2.2.2.1 h.2.2.2.2.2.1 h.2.2.2.2.2.2.1 h.2.2.2.2.2.2.2.1 h.2.2.2.2.2.2.2.2.1 h.2.2.2.2.2.2.2.2.2.1 h.2.2.2.2.2.2.2.2.2.2.1 h.2.2.2.2.2.2.2.2.2.2.2.1 h.2.2.2.2.2.2.2.2.2.2.2.2.1 h.2.2.2.2.2.2.2.2.2.2.2.2.2
abbrev jtJ {A0 A1 A2 A3 A4 A5 A6 A7 A8 A9 A10 A11 A12 A13 A14 A15 R:Type} (f:A0→A1→A2→A3→A4→A5→A6→A7→A8→A9→A10→A11→A12→A13→A14→A15→R) (h:A0×A1×A2×A3×A4×A5×A6×A7×A8×A9×A10×A11×A12×A13×A14×A15):R:=f h.1 h.2.1 h.2.2.1 h.2.2.2.1 h.2.2.2.2.1 h.2.2.2.2.2.1 h.2.2.2.2.2.2.1 h.2.2.2.2.2.2.2.1 h.2.2.2.2.2.2.2.2.1 h.2.2.2.2.2.2.2.2.2.1 h.2.2.2.2.2.2.2.2.2.2.1 h.2.2.2.2.2.2.2.2.2.2.2.1 h.2.2.2.2.2.2.2.2.2.2.2.2.1 h.2.2.2.2.2.2.2.2.2.2.2.2.2.1 h.2.2.2.2.2.2.2.2.2.2.2.2.2.2.1 h.2.2.2.2.2.2.2.2.2.2.2.2.2.2.2
abbrev jtK {A0 A1 A2 A3 A4 A5 A6 A7 A8 A9 A10 A11 A12 A13 A14 A15 A16 A17 A18 A19 R:Type} (f:A0→A1→A2→A3→A4→A5→A6→A7→A8→A9→A10→A11→A12→A13→A14→A15→A16→A17→A18→A19→R) (h:A0×A1×A2×A3×A4×A5×A6×A7×A8×A9×A10×A11×A12×A13×A14×A15×A16×A17×A18×A19):R:=f h.1 h.2.1 h.2.2.1 h.2.2.2.1 h.2.2.2.2.1 h.2.2.2.2.2.1 h.2.2.2.2.2.2.1 h.2.2.2.2.2.2.2.1 h.2.2.2.2.2.2.2.2.1 h.2.2.2.2.2.2.2.2.2.1 h.2.2.2.2.2.2.2.2.2.2.1 h.2.2.2.2.2.2.2.2.2.2.2.1 h.2.2.2.2.2.2.2.2.2.2.2.2.1 h.2.2.2.2.2.2.2.2.2.2.2.2.2.1 h.2.2.2.2.2.2.2.2.2.2.2.2.2.2.1 h.2.2.2.2.2.2.2.2.2.2.2.2.2.2.2.1 h.2.2.2.2.2.2.2.2.2.2.2.2.2.2.2.2.1 h.2.2.2.2.2.2.2.2.2.2.2.2.2.2.2.2.2.1 h.2.2.2.2.2.2.2.2.2.2.2.2.2.2.2.2.2.2.1 h.2.2.2.2.2.2.2.2.2.2.2.2.2.2.2.2.2.2.2
abbrev jtL {A0 A1 A2 A3 A4 A5 A6 A7 A8 A9 A10 A11 A12 A13 A14 A15 A16 A17 A18 A19 A20 A21 R:Type} (f:A0→A1→A2→A3→A4→A5→A6→A7→A8→A9→A10→A11→A12→A13→A14→A15→A16→A17→A18→A19→A20→A21→R) (h:A0×A1×A2×A3×A4×A5×A6×A7×A8×A9×A10×A11×A12×A13×A14×A15×A16×A17×A18×A19×A20×A21):R:=f h.1 h.2.1 h.2.2.1 h.2.2.2.1 h.2.2.2.2.1 h.2.2.2.2.2.1 h.2.2.2.2.2.2.1 h.2.2.2.2.2.2.2.1 h.2.2.2.2.2.2.2.2.1 h.2.2.2.2.2.2.2.2.2.1 h.2.2.2.2.2.2.2.2.2.2.1 h.2.2.2.2.2.2.2.2.2.2.2.1 h.2.2.2.2.2.2.2.2.2.2.2.2.1 h.2.2.2.2.2.2.2.2.2.2.2.2.2.1 h.2.2.2.2.2.2.2.2.2.2.2.2.2.2.1 h.2.2.2.2.2.2.2.2.2.2.2.2.2.2.2.1 h.2.2.2.2.2.2.2.2.2.2.2.2.2.2.2.2.1 h.2.2.2.2.2.2.2.2.2.2.2.2.2.2.2.2.2.1 h.2.2.2.2.2.2.2.2.2.2.2.2.2.2.2.2.2.2.1 h.2.2.2.2.2.2.2.2.2.2.2.2.2.2.2.2.2.2.2.1 h.2.2.2.2.2.2.2.2.2.2.2.2.2.2.2.2.2.2.2.2.1 h.2.2.2.2.2.2.2.2.2.2.2.2.2.2.2.2.2.2.2.2.2
abbrev jtM {A0 A1 A2 A3 A4 A5 A6 A7 A8 A9 A10 A11 A12 A13 A14 A15 A16 A17 A18 A19 A20 A21 A22 A23 R:Type} (f:A0→A1→A2→A3→A4→A5→A6→A7→A8→A9→A10→A11→A12→A13→A14→A15→A16→A17→A18→A19→A20→A21→A22→A23→R) (h:A0×A1×A2×A3×A4×A5×A6×A7×A8×A9×A10×A11×A12×A13×A14×A15×A16×A17×A18×A19×A20×A21×A22×A23):R:=f h.1 h.2.1 h.2.2.1 h.2.2.2.1 h.2.2.2.2.1 h.2.2.2.2.2.1 h.2.2.2.2.2.2.1 h.2.2.2.2.2.2.2.1 h.2.2.2.2.2.2.2.2.1 h.2.2.2.2.2.2.2.2.2.1 h.2.2.2.2.2.2.2.2.2.2.1 h.2.2.2.2.2.2.2.2.2.2.2.1 h.2.2.2.2.2.2.2.2.2.2.2.2.1 h.2.2.2.2.2.2.2.2.2.2.2.2.2.1 h.2.2.2.2.2.2.2.2.2.2.2.2.2.2.1 h.2.2.2.2.2.2.2.2.2.2.2.2.2.2.2.1 h.2.2.2.2.2.2.2.2.2.2.2.2.2.2.2.2.1 h.2.2.2.2.2.2.2.2.2.2.2.2.2.2.2.2.2.1 h.2.2.2.2.2.2.2.2.2.2.2.2.2.2.2.2.2.2.1 h.2.2.2.2.2.2.2.2.2.2.2.2.2.2.2.2.2.2.2.1 h.2.2.2.2.2.2.2.2.2.2.2.2.2.2.2.2.2.2.2.2.1 h.2.2.2.2.2.2.2.2.2.2.2.2.2.2.2.2.2.2.2.2.2.1 h.2.2.2.2.2.2.2.2.2.2.2.2.2.2.2.2.2.2.2.2.2.2.1 h.2.2.2.2.2.2.2.2.2.2.2.2.2.2.2.2.2.2.2.2.2.2.2
def jg0 (a:(List Int)):Option (Bool):=
 let b:=(Int.ofNat (List.length a))
 some (decide (b≤500))
def jdY  : Option (Tn59×Tn53×Tn30×Tn70):=
 let f:Tn59:=[((ByteArray.mk #[122]),(0,([]:Tn47)))]
 let g:Tn53:=[((ByteArray.mk #[97]),(0,(([]:Tn2),(0,(0,false))))),((ByteArray.mk #[98]),(0,(([]:Tn2),(0,(0,false))))),((ByteArray.mk #[99]),(0,(([]:Tn2),(0,(0,false)))))]
 let d:(List Int):=[0,1]
 let c:(List Int):=[2]
 let a:Tn2:=[(0,86400)]
 let b:Tn65:=[((ByteArray.mk #[108,111,119]),(0,((4,0),(2,(1,(d,(([]:Tn2),(0,0)))))))),((ByteArray.mk #[116,111,112]),(0,((4,0),(2,(1,(c,(a,(0,0))))))))]
 let e:Tn70:=[((ByteArray.mk #[115]),(b,([]:Tn34)))]
 some (f,g,([]:Tn30),e)
def j8r (a:Tn57):Option (ByteArray):=
 some a.1
def jdZ (a:Int):Option (Bool):=
 some (cond (decide (a≥97)) (decide (a≤122)) false)
def jhZ (a:Int):Option (Bool):=
 some (cond (decide (a≥48)) (decide (a≤57)) false)
def jap (f:ByteArray) (c b:Int):Option ((ByteArray×Int×Int) ⊕ (Bool ⊕ Unit)):=
 cond (decide (b<c)) (
 cond (inR b (ByteArray.size f)) (
 let a:=(jpa f b)
 (jdZ a).bind fun g=>
 cond (!g) (
 (jhZ a).bind fun d=>
 cond (cond (cond (!d) (a != 95) false) (a != 45) false) (
 some (.inr (.inl false))) (
 let e:=(w64 (b+1))
 some (.inl (f,c,e)))) (
 let i:=(w64 (b+1))
 some (.inl (f,c,i)))) none) (
 some (.inr (.inr ())))
def jbA [LP] (c:ByteArray) (b a:Int):Option (Bool ⊕ Unit):=
 LP.lp (unc3 (jap)) (c,b,a)
def j5x [LP] (a:ByteArray):Option (Bool):=
 let f:=(Int.ofNat (ByteArray.size a))
 let b:Bool:=(cond (ByteArray.toList a==ByteArray.toList ByteArray.empty) true (decide (f>24)))
 cond ((inR 0 (ByteArray.size a)) || !(!b)) (
 let c:=(jpa a 0)
 cond b (
 some false) (
 (jdZ c).bind fun e=>
 cond (!e) (
 some false) (
 let d:=(Int.ofNat (ByteArray.size a))
 (jbA a d 0).bind fun g=>
 sumC g (fun i=>
 some i) (fun j=>
 some true)))) none
def j2S [LP] (b:ByteArray) (a:(List (ByteArray×Bool))):Option (Int×(List (ByteArray×Bool))):=
 (j5x b).bind fun d=>
 cond (!d) (
 some (2,a)) (
 cond (j9g false a b) (
 some (4,a)) (
 let c:(List (ByteArray×Bool)):=(jah a b true)
 some (0,c)))
def j8s (a b c:Int):Option (Bool):=
 some (cond (decide (a≥b)) (decide (a≤c)) false)
def jcP (a:Tn43):Option (Int):=
 (j8s a.1 1970 2240).bind fun i=>
 cond (!i) (
 some 1) (
 (j8s a.2.1 a.1 2240).bind fun e=>
 cond (!e) (
 some 1) (
 (j8s a.2.2.1 1 12).bind fun g=>
 cond (!g) (
 some 1) (
 (j8s a.2.2.2.1 1 5).bind fun c=>
 cond (!c) (
 some 1) (
 (j8s a.2.2.2.2.1 0 6).bind fun b=>
 cond (!b) (
 some 1) (
 (j8s a.2.2.2.2.2.1 0 86399).bind fun d=>
 cond (!d) (
 some 1) (
 (j8s a.2.2.2.2.2.2 (-64800) 64800).bind fun f=>
 cond (!f) (
 some 1) (
 some 0)))))))
def jg1 (a:Int):Option (Bool):=
 let d:=(Int.tmod a 4)
 let c:=(Int.tmod a 100)
 let b:=(Int.tmod a 400)
 some (cond (d==0) (cond (c != 0) true (b==0)) false)
def j5y (c a:Int):Option (Int):=
 cond (cond (decide (a<1)) true (decide (a>12))) (
 some 0) (
 let f:(List Int):=[31,28,31,30,31,30,31,31,30,31,30,31]
 let j:(List Int):=(List.replicate 12 0)
 cond (a==2) (
 (jg1 c).bind fun i=>
 cond i (
 some 29) (
 let e:=(w64 (a-1))
 cond (inR e 12) (
 let g:=(List.getD f (Int.toNat e) 0)
 some g) none)) (
 let b:=(w64 (a-1))
 cond (inR b 12) (
 let d:=(List.getD f (Int.toNat b) 0)
 some d) none))
def j9k (a:Tn4):Option (Bool):=
 cond (decide (a.1≥1970)) (
 cond (decide (a.1≤2240)) (
 cond (decide (a.2.2≥1)) (
 (j5y a.1 a.2.1).bind fun b=>
 some (decide (a.2.2≤b))) (
 some false)) (
 some false)) (
 some false)
def j6k (b a:Int):Option (Int):=
 cond (!(a==0)) (
 let c:=(w64 (Int.tdiv b a))
 cond (!(a==0)) (
 let d:=(Int.tmod b a)
 cond (decide (d<0)) (
 let e:=(w64 (c-1))
 some e) (
 some c)) none) none
def j40 (a:Int):Option (Int):=
 let b:=(w64 (a-1))
 let l:=(w64 (a-1970))
 let k:=(w64 (365*l))
 (j6k b 4).bind fun j=>
 let e:=(w64 (k+j))
 (j6k b 100).bind fun d=>
 let g:=(w64 (e-d))
 (j6k b 400).bind fun i=>
 let c:=(w64 (g+i))
 let f:=(w64 (c-477))
 some f
def j3a (i e g a f:Int):Option ((Int×Int×Int×Int×Int) ⊕ (Int)):=
 cond (decide (e<a)) (
 (j5y g e).bind fun b=>
 let c:=(w64 (i+b))
 let d:=(w64 (e+1))
 some (.inl (c,d,g,a,f))) (
 some (.inr i))
def j4j [LP] (d e c b a:Int):Option (Int):=
 LP.lp (unc5 (j3a)) (d,e,c,b,a)
theorem jaq (d e c b a):j4j d e c b a=lpK (j3a d e c b a) (fun h=>j4j h.1 h.2.1 h.2.2.1 h.2.2.2.1 h.2.2.2.2):=j0a _ _
def j59 [LP] (a:Tn4):Option (Int):=
 (j40 a.1).bind fun d=>
 let c:=(w64 (d+a.2.2))
 let b:=(w64 (c-1))
 (j4j b 1 a.1 a.2.1 a.2.2).bind fun e=>
 some e
def j4v (a:Int):Option (Int):=
 let b:=(Int.tmod a 7)
 let c:=(w64 (b+10))
 let d:=(Int.tmod c 7)
 some d
def j9l [LP] (c b d a:Int):Option (Int×Int):=
 (j9k (c,(b,1))).bind fun l=>
 let p:Bool:=(cond (cond (!l) true (decide (d<1))) true (decide (d>5)))
 let o:Bool:=(cond (cond p true (decide (a<0))) true (decide (a>6)))
 cond o (
 some (0,1)) (
 (j59 (c,(b,1))).bind fun e=>
 (j4v e).bind fun i=>
 let t:=(w64 (a-i))
 let r:=(w64 (t+7))
 let j:=(Int.tmod r 7)
 let s:=(w64 (e+j))
 let n:=(w64 (d-1))
 let q:=(w64 (7*n))
 let f:=(w64 (s+q))
 (j5y c b).bind fun g=>
 let m:=(w64 (e+g))
 cond (decide (f≥m)) (
 let k:=(w64 (f-7))
 some (k,0)) (
 some (f,0)))
def j6l (b a:(Int×Int)):Option (Int):=
 let c:=(w64 (b.1-a.1))
 some c
def j0k (m q p b:Int) (a:Tn2):Option ((Int×Int×Int×Int×Tn2) ⊕ ((Int×Int×Int×Tn2))):=
 cond (decide (b>m)) (
 cond (inR b (List.length a)) (
 let f:=(List.getD a (Int.toNat b) (0,0))
 let d:=(w64 (b-1))
 cond (inR d (List.length a)) (
 let g:=(List.getD a (Int.toNat d) (0,0))
 (j6l (f.1,f.2) (g.1,g.2)).bind fun n=>
 cond (decide (n<0)) (
 let c:=(w64 (b-1))
 let e:=(w64 (b-1))
 cond (inR e (List.length a)) (
 let j:=(List.getD a (Int.toNat e) (0,0))
 cond (inR b (List.length a)) (
 let i:=(List.getD a (Int.toNat b) (0,0))
 cond (inR b (List.length a)) (
 let k:Tn2:=(List.set a (Int.toNat b) (j.1,j.2))
 cond (inR c (List.length k)) (
 let l:Tn2:=(List.set k (Int.toNat c) (i.1,i.2))
 let o:=(w64 (b-1))
 some (.inl (m,q,p,o,l))) none) none) none) none) (
 some (.inr (m,q,p,a)))) none) none) (
 some (.inr (m,q,p,a)))
def j0g [LP] (e c a d:Int) (b:Tn2):Option ((Int×Int×Int×Tn2)):=
 LP.lp (unc5 (j0k)) (e,c,a,d,b)
theorem j1Y (e c a d b):j0g e c a d b=lpK (j0k e c a d b) (fun h=>j0g h.1 h.2.1 h.2.2.1 h.2.2.2.1 h.2.2.2.2):=j0a _ _
def j06 [LP] (f e c:Int) (d:Tn2):Option ((Int×Int×Int×Tn2) ⊕ (Tn2)):=
 cond (decide (c<e)) (
 (j0g f e c c d).bind fun a=>
 let b:=(w64 (a.2.2.1+1))
 some (.inl (a.1,a.2.1,b,a.2.2.2))) (
 some (.inr d))
def j0h [LP] (c d a:Int) (b:Tn2):Option (Tn2):=
 LP.lp (unc4 (j06)) (c,d,a,b)
theorem j11 (d c a b):j0h d c a b=lpK (j06 d c a b) (fun h=>j0h h.1 h.2.1 h.2.2.1 h.2.2.2):=j0a _ _
def j09 [LP] (a:Tn2) (b c:Int):Option (Tn2):=
 let d:=(w64 (b+1))
 (j0h b c d a).bind fun e=>
 some e
def j0d [LP] (e d f a:Int) (g:Tn2):Option ((Int×Int×Int×Int×Tn2) ⊕ ((Int×Int×Int×Tn2))):=
 cond (decide (a≤e)) (
 (j09 g f a).bind fun c=>
 let b:=(w64 (a+d))
 some (.inl (e,d,a,b,c))) (
 some (.inr (e,d,f,g)))
def j0u [LP] (e c a b:Int) (d:Tn2):Option ((Int×Int×Int×Tn2)):=
 LP.lp (unc5 (j0d)) (e,c,a,b,d)
theorem j4E (e c a b d):j0u e c a b d=lpK (j0d e c a b d) (fun h=>j0u h.1 h.2.1 h.2.2.1 h.2.2.2.1 h.2.2.2.2):=j0a _ _
def j2p (c b a e:Int) (f:Tn2):Option ((Int×Int×Int×Int×Tn2) ⊕ ((Int×Int×Int×Tn2))):=
 cond (decide (e≤c)) (
 let d:=(w64 (a+b))
 none) (
 some (.inr (c,b,a,f)))
def j1I [LP] (e c a b:Int) (d:Tn2):Option ((Int×Int×Int×Tn2)):=
 LP.lp (unc5 (j2p)) (e,c,a,b,d)
def j0e [LP] (g e:Int) (f:Tn2):Option ((Int×Int×Tn2) ⊕ (Tn2)):=
 cond (decide (e<g)) (
 let b:=(w64 (2*e))
 (j1I g e 0 b f).bind fun a=>
 let d:=(w64 (a.2.2.1+a.2.1))
 cond (decide (d<a.1)) (
 none) (
 let c:=(w64 (a.2.1*2))
 some (.inl (a.1,c,a.2.2.2)))) (
 some (.inr f))
def j0v [LP] (b c:Int) (a:Tn2):Option (Tn2):=
 LP.lp (unc3 (j0e)) (b,c,a)
theorem j4F (b c a):j0v b c a=lpK (j0e b c a) (fun h=>j0v h.1 h.2.1 h.2.2):=j0a _ _
def j0H [LP] (a:Tn2) (c:Int):Option (Tn2):=
 (j0u c 20 0 20 a).bind fun b=>
 (j09 b.2.2.2 b.2.2.1 b.1).bind fun d=>
 (j0v b.1 b.2.1 d).bind fun e=>
 some e
def j07 [LP] (a:Tn2):Option (Tn2):=
 let c:=(Int.ofNat (List.length a))
 (j0H a c).bind fun b=>
 some b
def j2e (n:Int) (f:Tn47) (l c:Int) (m:ByteArray) (e:Int) (d:Tn47):Option ((Int×Tn47×Int×Int×ByteArray×Int×Tn47) ⊕ (Int ⊕ (Int×ByteArray×Int×Tn47))):=
 cond (decide (c<l)) (
 cond (inR c (List.length f)) (
 let a:=(List.getD f (Int.toNat c) (0,(0,(0,(0,(0,(0,0)))))))
 (jcP (a.1,(a.2.1,(a.2.2.1,(a.2.2.2.1,(a.2.2.2.2.1,(a.2.2.2.2.2.1,a.2.2.2.2.2.2))))))).bind fun b=>
 cond (b != 0) (
 some (.inr (.inl b))) (
 let j:=(w64 (a.2.1-a.1))
 let i:=(w64 (j+1))
 let g:=(w64 (n+i))
 let k:=(w64 (c+1))
 some (.inl (g,f,l,k,m,e,d)))) none) (
 some (.inr (.inr (n,m,e,d))))
def j29 [LP] (g:Int) (e:Tn47) (c d:Int) (f:ByteArray) (b:Int) (a:Tn47):Option (Int ⊕ (Int×ByteArray×Int×Tn47)):=
 LP.lp (unc7 (j2e)) (g,e,c,d,f,b,a)
theorem j7g (g e c d f b a):j29 g e c d f b a=lpK (j2e g e c d f b a) (fun h=>j29 h.1 h.2.1 h.2.2.1 h.2.2.2.1 h.2.2.2.2.1 h.2.2.2.2.2.1 h.2.2.2.2.2.2):=j0a _ _
def j0S [LP] (i:Int) (p:Tn47) (q o s g c e d a f:Int) (r:Tn2):Option ((Int×Tn47×Int×Int×Int×Int×Int×Int×Int×Int×Int×Tn2) ⊕ ((Tn47×Int×Int×Tn2))):=
 cond (decide (i≤g)) (
 (j9l i c e d).bind fun n=>
 let k:=(w64 (n.1*86400))
 let m:=(w64 (k+a))
 let b:Tn2:=[(m,f)]
 cond (decide (List.length r+List.length b≤j0b)) (
 let j:Tn2:=(r++b)
 let l:=(w64 (i+1))
 some (.inl (l,p,q,o,s,g,c,e,d,a,f,j))) none) (
 some (.inr (p,q,o,r)))
def j2I [LP] (g:Int) (k:Tn47) (l i j f b d c a e:Int) (m:Tn2):Option ((Tn47×Int×Int×Tn2)):=
 LP.lp (jrO (j0S)) (g,k,l,i,j,f,b,d,c,a,e,m)
theorem j7h (g k l i j f b d c a e m):j2I g k l i j f b d c a e m=lpK (j0S g k l i j f b d c a e m) (fun h=>j2I h.1 h.2.1 h.2.2.1 h.2.2.2.1 h.2.2.2.2.1 h.2.2.2.2.2.1 h.2.2.2.2.2.2.1 h.2.2.2.2.2.2.2.1 h.2.2.2.2.2.2.2.2.1 h.2.2.2.2.2.2.2.2.2.1 h.2.2.2.2.2.2.2.2.2.2.1 h.2.2.2.2.2.2.2.2.2.2.2):=j0a _ _
def j0T [LP] (d:Tn47) (f c:Int) (g:Tn2):Option ((Tn47×Int×Int×Tn2) ⊕ (Tn2)):=
 cond (decide (c<f)) (
 cond (inR c (List.length d)) (
 let a:=(List.getD d (Int.toNat c) (0,(0,(0,(0,(0,(0,0)))))))
 (j2I a.1 d f c a.1 a.2.1 a.2.2.1 a.2.2.2.1 a.2.2.2.2.1 a.2.2.2.2.2.1 a.2.2.2.2.2.2 g).bind fun b=>
 let e:=(w64 (b.2.2.1+1))
 some (.inl (b.1,b.2.1,e,b.2.2.2))) none) (
 some (.inr g))
def j2a [LP] (c:Tn47) (a b:Int) (d:Tn2):Option (Tn2):=
 LP.lp (unc4 (j0T)) (c,a,b,d)
theorem j7i (b c a d):j2a b c a d=lpK (j0T b c a d) (fun h=>j2a h.1 h.2.1 h.2.2.1 h.2.2.2):=j0a _ _
def j35 [LP] (a:Tn57):Option (Tn2×Int):=
 (j8s a.2.1 (-64800) 64800).bind fun e=>
 cond (!e) (
 some (([]:Tn2),1)) (
 let f:=(Int.ofNat (List.length a.2.2))
 cond (decide (f>16)) (
 some (([]:Tn2),5)) (
 let c:=(Int.ofNat (List.length a.2.2))
 (j29 0 a.2.2 c 0 a.1 a.2.1 a.2.2).bind fun i=>
 sumC i (fun k=>
 some (([]:Tn2),k)) (fun j=>
 cond (decide (j.1>640)) (
 some (([]:Tn2),5)) (
 let d:=(Int.ofNat (List.length j.2.2.2))
 (j2a j.2.2.2 d 0 ([]:Tn2)).bind fun g=>
 (j07 g).bind fun b=>
 some (b,0)))))
def j2f (s m d:Int) (b k:Tn2):Option ((Int×Int×Int×Tn2×Tn2) ⊕ (Int ⊕ Tn2)):=
 cond (decide (d<m)) (
 cond (inR d (List.length k)) (
 let a:=(List.getD k (Int.toNat d) (0,0))
 cond (a.2==s) (
 let p:=(w64 (d+1))
 some (.inl (s,m,p,b,k))) (
 let c:=(w64 (a.1-s))
 let l:=(w64 (a.2-s))
 cond (cond (decide (l≥86400)) true (decide (l≤(-86400)))) (
 let q:=(Int.ofNat (List.length b))
 let u:=(Int.ofNat (List.length b))
 let j:=(w64 (u-1))
 cond ((inR j (List.length b)) || !((!true)&&(decide (q>0)))) (
 let w:=(List.getD b (Int.toNat j) (0,0)).1
 let x:=(w64 (w+604800))
 some (.inr (.inl 6))) none) (
 (j8s c 0 8589934592).bind fun g=>
 let e:=(Int.ofNat (List.length b))
 let n:=(Int.ofNat (List.length b))
 let f:=(w64 (n-1))
 cond ((inR f (List.length b)) || !((!(!g))&&(decide (e>0)))) (
 let r:=(List.getD b (Int.toNat f) (0,0)).1
 let t:=(w64 (r+604800))
 cond (cond (!g) true (cond (decide (e>0)) (decide (c<t)) false)) (
 some (.inr (.inl 6))) (
 let i:Tn2:=[(c,a.2)]
 cond (decide (List.length b+List.length i≤j0b)) (
 let o:Tn2:=(b++i)
 let v:=(w64 (d+1))
 some (.inl (a.2,m,v,o,k))) none)) none))) none) (
 some (.inr (.inr b)))
def j2b [LP] (d c b:Int) (e a:Tn2):Option (Int ⊕ Tn2):=
 LP.lp (unc5 (j2f)) (d,c,b,e,a)
theorem j7j (d c b e a):j2b d c b e a=lpK (j2f d c b e a) (fun h=>j2b h.1 h.2.1 h.2.2.1 h.2.2.2.1 h.2.2.2.2):=j0a _ _
def j1N [LP] (a:Tn57):Option (Tn2×Int):=
 (j35 (a.1,(a.2.1,a.2.2))).bind fun b=>
 cond (b.2 != 0) (
 some (([]:Tn2),b.2)) (
 let c:=(Int.ofNat (List.length b.1))
 (j2b a.2.1 c 0 ([]:Tn2) b.1).bind fun d=>
 sumC d (fun e=>
 some (([]:Tn2),e)) (fun f=>
 some (f,0)))
def j6x [LP] (a:Tn57):Option (Int):=
 (j1N (a.1,(a.2.1,a.2.2))).bind fun b=>
 some b.2
def j5N (a:Tn43):Option (Bool):=
 let b:=(Int.tmod a.2.2.2.2.2.2 60)
 some (b != 0)
def j0m (e:Tn47) (f b:Int):Option ((Tn47×Int×Int) ⊕ (Int ⊕ Unit)):=
 cond (decide (b<f)) (
 cond (inR b (List.length e)) (
 let a:=(List.getD e (Int.toNat b) (0,(0,(0,(0,(0,(0,0)))))))
 (j5N (a.1,(a.2.1,(a.2.2.1,(a.2.2.2.1,(a.2.2.2.2.1,(a.2.2.2.2.2.1,a.2.2.2.2.2.2))))))).bind fun c=>
 cond c (
 some (.inr (.inl b))) (
 let d:=(w64 (b+1))
 some (.inl (e,f,d)))) none) (
 some (.inr (.inr ())))
def j0i [LP] (c:Tn47) (a b:Int):Option (Int ⊕ Unit):=
 LP.lp (unc3 (j0m)) (c,a,b)
theorem j23 (c a b):j0i c a b=lpK (j0m c a b) (fun h=>j0i h.1 h.2.1 h.2.2):=j0a _ _
def j0q [LP] (a:Tn47):Option (Int):=
 let b:=(Int.ofNat (List.length a))
 (j0i a b 0).bind fun c=>
 sumC c (fun d=>
 some d) (fun e=>
 some (-1))
def j0j [LP] (a:Tn47):Option (Bool):=
 (j0q a).bind fun b=>
 some (decide (b≥0))
def j2g [LP] (a:Tn57):Option (Int):=
 (j6x (a.1,(a.2.1,a.2.2))).bind fun d=>
 let c:=(Int.tmod a.2.1 60)
 cond (cond (d != 0) true (c != 0)) (
 some 8) (
 (j0j a.2.2).bind fun b=>
 cond b (
 some 8) (
 some 0))
def j0A [LP] (e:Tn59) (i d:Int) (j:(List (ByteArray×Bool))):Option ((Tn59×Int×Int×(List (ByteArray×Bool))) ⊕ (Int ⊕ Unit)):=
 cond (decide (d<i)) (
 cond (inR d (List.length e)) (
 let a:=(List.getD e (Int.toNat d) (ByteArray.empty,(0,([]:Tn47))))
 (j8r (a.1,(a.2.1,a.2.2))).bind fun f=>
 (j2S f j).bind fun b=>
 cond (b.1 != 0) (
 some (.inr (.inl b.1))) (
 (j2g (a.1,(a.2.1,a.2.2))).bind fun c=>
 cond (c != 0) (
 some (.inr (.inl c))) (
 let g:=(w64 (d+1))
 some (.inl (e,i,g,b.2))))) none) (
 some (.inr (.inr ())))
def j19 [LP] (a:Tn59) (b c:Int) (d:(List (ByteArray×Bool))):Option (Int ⊕ Unit):=
 LP.lp (unc4 (j0A)) (a,b,c,d)
theorem j4V (c:Tn59) (a b:Int) (d:(List (ByteArray×Bool))):j19 c a b d=lpK (j0A c a b d) (fun h=>j19 h.1 h.2.1 h.2.2.1 h.2.2.2):=j0a _ _
def j1z [LP] (a:Tn59):Option (Int):=
 let c:(List (ByteArray×Bool)):=([]:(List (ByteArray×Bool)))
 let b:=(Int.ofNat (List.length a))
 (j19 a b 0 c).bind fun d=>
 sumC d (fun e=>
 some e) (fun f=>
 some 0)
def j1Q (a b:Int):Option (Bool):=
 some (cond (decide (a≥0)) (decide (a<b)) false)
def j3K (f d:Tn2) (k b:Int):Option ((Tn2×Tn2×Int×Int) ⊕ (Int ⊕ Unit)):=
 cond (decide (b<k)) (
 cond (inR b (List.length d)) (
 let a:=(List.getD d (Int.toNat b) (0,0))
 let i:Bool:=(cond (cond (decide (a.1<0)) true (decide (a.1≥a.2))) true (decide (a.2>604800)))
 cond i (
 some (.inr (.inl 1))) (
 cond (decide (b>0)) (
 let c:=(w64 (b-1))
 cond (inR c (List.length f)) (
 let e:=(List.getD f (Int.toNat c) (0,0))
 cond (decide (a.1<e.2)) (
 some (.inr (.inl 6))) (
 let j:=(w64 (b+1))
 some (.inl (f,d,k,j)))) none) (
 let g:=(w64 (b+1))
 some (.inl (f,d,k,g))))) none) (
 some (.inr (.inr ())))
def j5z [LP] (d b:Tn2) (c a:Int):Option (Int ⊕ Unit):=
 LP.lp (unc4 (j3K)) (d,b,c,a)
theorem jc7 (d b c a):j5z d b c a=lpK (j3K d b c a) (fun h=>j5z h.1 h.2.1 h.2.2.1 h.2.2.2):=j0a _ _
def j6y [LP] (a:Tn2):Option (Int):=
 let b:=(Int.ofNat (List.length a))
 cond (decide (b>14)) (
 some 5) (
 let c:=(Int.ofNat (List.length a))
 (j5z a a c 0).bind fun d=>
 sumC d (fun e=>
 some e) (fun f=>
 some 0))
def j5A (a b c:Int):Option (Bool):=
 some (cond (decide (a≥b)) (decide (a≤c)) false)
def j4w (a:Int):Option (Bool):=
 (j5A a 0 604800).bind fun b=>
 let c:=(Int.tmod a 3600)
 some (cond b (c==0) false)
def j1n [LP] (b:Tn76) (a:Tn49):Option (Int):=
 let g:=(Int.ofNat (List.length b.1))
 (j1Q a.2.1 g).bind fun c=>
 cond (!c) (
 some 3) (
 (j6y a.2.2.1).bind fun d=>
 cond (d != 0) (
 some 8) (
 (j4w a.2.2.2.1).bind fun f=>
 cond (!f) (
 some 1) (
 (j4w a.2.2.2.2.1).bind fun e=>
 cond (!e) (
 some 1) (
 some 0))))
def j8t (a:Tn22):Option (ByteArray):=
 some a.1
def jar (e b:Int):Option ((Int×Int) ⊕ (Int)):=
 let c:=(w64 (b+1))
 (j40 c).bind fun d=>
 cond (decide (d≤e)) (
 let a:=(w64 (b+1))
 some (.inl (e,a))) (
 some (.inr b))
def jbB [LP] (b a:Int):Option (Int):=
 LP.lp (unc2 (jar)) (b,a)
def jb3 [LP] (a:Int):Option (Int):=
 (j6k a 366).bind fun b=>
 let d:=(w64 (1970+b))
 (jbB a d).bind fun c=>
 some c
def j8Q (k l d b f a c:Int):Option ((Int×Int×Int×Int×Int×Int×Int) ⊕ ((Int×Int×Int×Int×Int×Int×Int))):=
 (j5y f a).bind fun i=>
 cond (decide (k≥i)) (
 (j5y f a).bind fun g=>
 let j:=(w64 (k-g))
 let e:=(w64 (a+1))
 some (.inl (j,l,d,b,f,e,c))) (
 some (.inr (k,l,d,b,f,a,c)))
def j9m [LP] (g f d a e b c:Int):Option ((Int×Int×Int×Int×Int×Int×Int)):=
 LP.lp (unc7 (j8Q)) (g,f,d,a,e,b,c)
def j6z [LP] (a:Int):Option (Tn4×Int):=
 (j40 1970).bind fun i=>
 cond (decide (a<i)) (
 some ((0,(0,0)),1)) (
 (j40 2241).bind fun e=>
 cond (decide (a≥e)) (
 some ((0,(0,0)),1)) (
 (jb3 a).bind fun b=>
 (j40 b).bind fun g=>
 let d:=(w64 (a-g))
 (j9m d 0 0 0 b 1 0).bind fun c=>
 let f:=(w64 (c.1+1))
 some ((c.2.2.2.2.1,(c.2.2.2.2.2.1,f)),0)))
def j1o [LP] (a:Int):Option (Bool):=
 (j6z a).bind fun b=>
 some (b.2==0)
def j1D [LP] (a:Int):Option (Bool):=
 (j1o a).bind fun b=>
 some (!b)
def j0s [LP] (e:(List Int)) (f a:Int):Option (((List Int)×Int×Int) ⊕ (Int ⊕ Unit)):=
 cond (decide (a<f)) (
 cond (inR a (List.length e)) (
 let c:=(List.getD e (Int.toNat a) 0)
 (j1D c).bind fun b=>
 cond b (
 some (.inr (.inl a))) (
 let d:=(w64 (a+1))
 some (.inl (e,f,d)))) none) (
 some (.inr (.inr ())))
def j1d [LP] (c:(List Int)) (a b:Int):Option (Int ⊕ Unit):=
 LP.lp (unc3 (j0s)) (c,a,b)
theorem j4r (c a b):j1d c a b=lpK (j0s c a b) (fun h=>j1d h.1 h.2.1 h.2.2):=j0a _ _
def j1E [LP] (a:(List Int)):Option (Int):=
 let b:=(Int.ofNat (List.length a))
 (j1d a b 0).bind fun c=>
 sumC c (fun d=>
 some d) (fun e=>
 some (-1))
def j1e [LP] (a:(List Int)):Option (Bool):=
 (j1E a).bind fun b=>
 some (decide (b≥0))
def j1t (d b:Int) (k:ByteArray) (e:Int) (a:(List Int)):Option ((Int×Int×ByteArray×Int×(List Int)) ⊕ (Int ⊕ Unit)):=
 cond (decide (b<d)) (
 cond (decide (b>0)) (
 cond (inR b (List.length a)) (
 let j:=(List.getD a (Int.toNat b) 0)
 let c:=(w64 (b-1))
 cond (inR c (List.length a)) (
 let f:=(List.getD a (Int.toNat c) 0)
 cond (decide (j≤f)) (
 some (.inr (.inl 6))) (
 let i:=(w64 (b+1))
 some (.inl (d,i,k,e,a)))) none) none) (
 let g:=(w64 (b+1))
 some (.inl (d,g,k,e,a)))) (
 some (.inr (.inr ())))
def j1F [LP] (d c:Int) (e:ByteArray) (a:Int) (b:(List Int)):Option (Int ⊕ Unit):=
 LP.lp (unc5 (j1t)) (d,c,e,a,b)
theorem j5a (d c e a b):j1F d c e a b=lpK (j1t d c e a b) (fun h=>j1F h.1 h.2.1 h.2.2.1 h.2.2.2.1 h.2.2.2.2):=j0a _ _
def j1h [LP] (b:Tn76) (a:Tn22):Option (Int):=
 let e:=(Int.ofNat (List.length b.1))
 (j1Q a.2.1 e).bind fun g=>
 cond (!g) (
 some 3) (
 let d:=(Int.ofNat (List.length a.2.2))
 cond (decide (d>64)) (
 some 5) (
 (j1e a.2.2).bind fun c=>
 cond c (
 some 1) (
 let f:=(Int.ofNat (List.length a.2.2))
 (j1F f 0 a.1 a.2.1 a.2.2).bind fun i=>
 sumC i (fun j=>
 some j) (fun k=>
 some 0))))
def j3G [LP] (a:Tn22) (e:Tn59) (b:Tn53) (d:Tn30) (c:Tn70):Option (Int):=
 (j1h (e,(b,(d,c))) (a.1,(a.2.1,a.2.2))).bind fun f=>
 some f
def j0o [LP] (m:Tn59) (f:Tn53) (e:Tn30) (i:Tn70) (g:Tn30) (l d:Int) (n:(List (ByteArray×Bool))):Option ((Tn59×Tn53×Tn30×Tn70×Tn30×Int×Int×(List (ByteArray×Bool))) ⊕ (Int ⊕ Unit)):=
 cond (decide (d<l)) (
 cond (inR d (List.length g)) (
 let a:=(List.getD g (Int.toNat d) (ByteArray.empty,(0,([]:(List Int)))))
 (j8t (a.1,(a.2.1,a.2.2))).bind fun j=>
 (j2S j n).bind fun b=>
 cond (b.1 != 0) (
 some (.inr (.inl b.1))) (
 (j3G (a.1,(a.2.1,a.2.2)) m f e i).bind fun c=>
 cond (c != 0) (
 some (.inr (.inl c))) (
 let k:=(w64 (d+1))
 some (.inl (m,f,e,i,g,l,k,b.2))))) none) (
 some (.inr (.inr ())))
def j0L [LP] (i:Tn59) (b:Tn53) (a:Tn30) (c:Tn70) (f:Tn30) (d e:Int) (g:(List (ByteArray×Bool))):Option (Int ⊕ Unit):=
 LP.lp (unc8 (j0o)) (i,b,a,c,f,d,e,g)
theorem j48 (i:Tn59) (b:Tn53) (a:Tn30) (c:Tn70) (f:Tn30) (d e:Int) (g:(List (ByteArray×Bool))):j0L i b a c f d e g=lpK (j0o i b a c f d e g) (fun h=>j0L h.1 h.2.1 h.2.2.1 h.2.2.2.1 h.2.2.2.2.1 h.2.2.2.2.2.1 h.2.2.2.2.2.2.1 h.2.2.2.2.2.2.2):=j0a _ _
def j12 [LP] (e:Tn30) (d:Tn59) (b:Tn53) (c:Tn30) (a:Tn70):Option (Int):=
 let g:(List (ByteArray×Bool)):=([]:(List (ByteArray×Bool)))
 let f:=(Int.ofNat (List.length e))
 (j0L d b c a e f 0 g).bind fun i=>
 sumC i (fun j=>
 some j) (fun k=>
 some 0)
def j8u (a:Tn69):Option (ByteArray):=
 some a.1
def j4k (a:Tn64):Option (ByteArray):=
 some a.1
def j5b (b:Int) (g:Tn59) (a:Tn53) (f:Tn30) (e:Tn70):Option (Bool):=
 let d:=(Int.ofNat (List.length a))
 (j1Q b d).bind fun c=>
 some (!c)
def j0Q (i:(List Int)) (k:Tn59) (c:Tn53) (b:Tn30) (d:Tn70) (j a:Int):Option (((List Int)×Tn59×Tn53×Tn30×Tn70×Int×Int) ⊕ (Int ⊕ Unit)):=
 cond (decide (a<j)) (
 cond (inR a (List.length i)) (
 let f:=(List.getD i (Int.toNat a) 0)
 (j5b f k c b d).bind fun e=>
 cond e (
 some (.inr (.inl a))) (
 let g:=(w64 (a+1))
 some (.inl (i,k,c,b,d,j,g)))) none) (
 some (.inr (.inr ())))
def j0U [LP] (f:(List Int)) (g:Tn59) (b:Tn53) (a:Tn30) (c:Tn70) (d e:Int):Option (Int ⊕ Unit):=
 LP.lp (unc7 (j0Q)) (f,g,b,a,c,d,e)
theorem j3L (f g b a c d e):j0U f g b a c d e=lpK (j0Q f g b a c d e) (fun h=>j0U h.1 h.2.1 h.2.2.1 h.2.2.2.1 h.2.2.2.2.1 h.2.2.2.2.2.1 h.2.2.2.2.2.2):=j0a _ _
def j1f [LP] (d:(List Int)) (e:Tn59) (b:Tn53) (c:Tn30) (a:Tn70):Option (Int):=
 let f:=(Int.ofNat (List.length d))
 (j0U d e b c a f 0).bind fun g=>
 sumC g (fun i=>
 some i) (fun j=>
 some (-1))
def j0V [LP] (e:(List Int)) (d:Tn59) (b:Tn53) (c:Tn30) (a:Tn70):Option (Bool):=
 (j1f e d b c a).bind fun f=>
 some (decide (f≥0))
def j24 [LP] (b:Tn76) (a:Tn64):Option (Int):=
 let o:=(Int.ofNat (List.length b.1))
 (j1Q a.2.1 o).bind fun e=>
 cond (!e) (
 some 3) (
 cond (decide (a.2.2.1.1<1)) (
 some 1) (
 (j1o a.2.2.1.1).bind fun d=>
 cond (!d) (
 some 1) (
 (j5A a.2.2.1.2 0 86399).bind fun f=>
 cond (!f) (
 some 1) (
 (j5A a.2.2.2.1 0 2).bind fun j=>
 cond (!j) (
 some 1) (
 (j5A a.2.2.2.2.1 1 400).bind fun i=>
 cond (!i) (
 some 1) (
 let g:=(Int.ofNat (List.length a.2.2.2.2.2.1))
 cond (g==0) (
 some 7) (
 let k:=(Int.ofNat (List.length a.2.2.2.2.2.1))
 cond (decide (k>12)) (
 some 5) (
 (j0V a.2.2.2.2.2.1 b.1 b.2.1 b.2.2.1 b.2.2.2).bind fun n=>
 cond n (
 some 3) (
 (j6y a.2.2.2.2.2.2.1).bind fun m=>
 cond (m != 0) (
 some 8) (
 (j5A a.2.2.2.2.2.2.2.2 0 2).bind fun l=>
 cond (!l) (
 some 1) (
 let p:=(Int.ofNat (List.length b.2.2.1))
 cond (a.2.2.2.2.2.2.2.2 != 0) (
 (j1Q a.2.2.2.2.2.2.2.1 p).bind fun c=>
 cond (!c) (
 some 3) (
 cond (cond (a.2.2.2.2.2.2.2.2==0) (a.2.2.2.2.2.2.2.1 != 0) false) (
 some 1) (
 some 0))) (
 cond (cond (a.2.2.2.2.2.2.2.2==0) (a.2.2.2.2.2.2.2.1 != 0) false) (
 some 1) (
 some 0)))))))))))))
def j1G [LP] (a:Tn64) (e:Tn59) (b:Tn53) (d:Tn30) (c:Tn70):Option (Int):=
 (j24 (e,(b,(d,c))) (a.1,(a.2.1,((a.2.2.1.1,a.2.2.1.2),(a.2.2.2.1,(a.2.2.2.2.1,(a.2.2.2.2.2.1,(a.2.2.2.2.2.2.1,(a.2.2.2.2.2.2.2.1,a.2.2.2.2.2.2.2.2))))))))).bind fun f=>
 some f
def j0w [LP] (m:Tn59) (f:Tn53) (e:Tn30) (i:Tn70) (g:Tn65) (l d:Int) (n:(List (ByteArray×Bool))):Option ((Tn59×Tn53×Tn30×Tn70×Tn65×Int×Int×(List (ByteArray×Bool))) ⊕ (Int ⊕ Unit)):=
 cond (decide (d<l)) (
 cond (inR d (List.length g)) (
 let a:=(List.getD g (Int.toNat d) (ByteArray.empty,(0,((0,0),(0,(0,(([]:(List Int)),(([]:Tn2),(0,0)))))))))
 (j4k (a.1,(a.2.1,((a.2.2.1.1,a.2.2.1.2),(a.2.2.2.1,(a.2.2.2.2.1,(a.2.2.2.2.2.1,(a.2.2.2.2.2.2.1,(a.2.2.2.2.2.2.2.1,a.2.2.2.2.2.2.2.2))))))))).bind fun j=>
 (j2S j n).bind fun b=>
 cond (b.1 != 0) (
 some (.inr (.inl b.1))) (
 (j1G (a.1,(a.2.1,((a.2.2.1.1,a.2.2.1.2),(a.2.2.2.1,(a.2.2.2.2.1,(a.2.2.2.2.2.1,(a.2.2.2.2.2.2.1,(a.2.2.2.2.2.2.2.1,a.2.2.2.2.2.2.2.2)))))))) m f e i).bind fun c=>
 cond (c != 0) (
 some (.inr (.inl c))) (
 let k:=(w64 (d+1))
 some (.inl (m,f,e,i,g,l,k,b.2))))) none) (
 some (.inr (.inr ())))
def j13 [LP] (i:Tn59) (b:Tn53) (a:Tn30) (c:Tn70) (f:Tn65) (d e:Int) (g:(List (ByteArray×Bool))):Option (Int ⊕ Unit):=
 LP.lp (unc8 (j0w)) (i,b,a,c,f,d,e,g)
theorem j4G (i:Tn59) (b:Tn53) (a:Tn30) (c:Tn70) (f:Tn65) (d e:Int) (g:(List (ByteArray×Bool))):j13 i b a c f d e g=lpK (j0w i b a c f d e g) (fun h=>j13 h.1 h.2.1 h.2.2.1 h.2.2.2.1 h.2.2.2.2.1 h.2.2.2.2.2.1 h.2.2.2.2.2.2.1 h.2.2.2.2.2.2.2):=j0a _ _
def j1p [LP] (e:Tn65) (d:Tn59) (b:Tn53) (c:Tn30) (a:Tn70):Option (Int):=
 let g:(List (ByteArray×Bool)):=([]:(List (ByteArray×Bool)))
 let f:=(Int.ofNat (List.length e))
 (j13 d b c a e f 0 g).bind fun i=>
 sumC i (fun j=>
 some j) (fun k=>
 some 0)
def j2h [LP] (g:Tn76) (a:Tn28):Option (Int):=
 let i:=(Int.ofNat (List.length g.2.1))
 (j5A a.1 0 2).bind fun k=>
 cond (!k) (
 some 1) (
 (j1Q a.2.1 i).bind fun f=>
 cond (cond (!f) (!(cond (a.1==1) (a.2.1==(-1)) false)) false) (
 cond (cond (!f) (!(cond (a.1==1) (a.2.1==(-1)) false)) false) (
 some 3) (
 cond (cond (a.1 != 2) (a.2.2.1 != 0) false) (
 some 1) (
 cond (cond (a.1==2) (a.2.1==a.2.2.1) false) (
 some 4) (
 let l:=(w64 (Int.tdiv a.2.2.2.2 86400))
 cond (cond (decide (a.2.2.2.1<0)) true (decide (a.2.2.2.2<0))) (
 some 1) (
 (j1o l).bind fun m=>
 cond (!m) (
 some 1) (
 cond (decide (a.2.2.2.1≥a.2.2.2.2)) (
 some 6) (
 some 0))))))) (
 cond (a.1==2) (
 (j1Q a.2.2.1 i).bind fun j=>
 cond (!j) (
 some 3) (
 cond (cond (a.1 != 2) (a.2.2.1 != 0) false) (
 some 1) (
 cond (cond (a.1==2) (a.2.1==a.2.2.1) false) (
 some 4) (
 let c:=(w64 (Int.tdiv a.2.2.2.2 86400))
 cond (cond (decide (a.2.2.2.1<0)) true (decide (a.2.2.2.2<0))) (
 some 1) (
 (j1o c).bind fun e=>
 cond (!e) (
 some 1) (
 cond (decide (a.2.2.2.1≥a.2.2.2.2)) (
 some 6) (
 some 0))))))) (
 cond (cond (a.1 != 2) (a.2.2.1 != 0) false) (
 some 1) (
 cond (cond (a.1==2) (a.2.1==a.2.2.1) false) (
 some 4) (
 let d:=(w64 (Int.tdiv a.2.2.2.2 86400))
 cond (cond (decide (a.2.2.2.1<0)) true (decide (a.2.2.2.2<0))) (
 some 1) (
 (j1o d).bind fun b=>
 cond (!b) (
 some 1) (
 cond (decide (a.2.2.2.1≥a.2.2.2.2)) (
 some 6) (
 some 0))))))))
def j0F [LP] (e:Tn34) (j b:Int) (k:Tn59) (f:Tn53) (d:Tn30) (g:Tn70):Option ((Tn34×Int×Int×Tn59×Tn53×Tn30×Tn70) ⊕ (Int ⊕ Unit)):=
 cond (decide (b<j)) (
 cond (inR b (List.length e)) (
 let a:=(List.getD e (Int.toNat b) (0,(0,(0,(0,0)))))
 (j2h (k,(f,(d,g))) (a.1,(a.2.1,(a.2.2.1,(a.2.2.2.1,a.2.2.2.2))))).bind fun c=>
 cond (c != 0) (
 some (.inr (.inl c))) (
 let i:=(w64 (b+1))
 some (.inl (e,j,i,k,f,d,g)))) none) (
 some (.inr (.inr ())))
def j1H [LP] (e:Tn34) (f d:Int) (g:Tn59) (b:Tn53) (a:Tn30) (c:Tn70):Option (Int ⊕ Unit):=
 LP.lp (unc7 (j0F)) (e,f,d,g,b,a,c)
theorem j5c (e f d g b a c):j1H e f d g b a c=lpK (j0F e f d g b a c) (fun h=>j1H h.1 h.2.1 h.2.2.1 h.2.2.2.1 h.2.2.2.2.1 h.2.2.2.2.2.1 h.2.2.2.2.2.2):=j0a _ _
def j1i [LP] (a:Tn76) (b:Tn69):Option (Int):=
 let d:=(Int.ofNat (List.length b.2.1))
 let e:=(Int.ofNat (List.length b.2.2))
 cond (cond (decide (d>6)) true (decide (e>48))) (
 some 5) (
 (j1p b.2.1 a.1 a.2.1 a.2.2.1 a.2.2.2).bind fun c=>
 cond (c != 0) (
 some c) (
 let f:=(Int.ofNat (List.length b.2.2))
 (j1H b.2.2 f 0 a.1 a.2.1 a.2.2.1 a.2.2.2).bind fun g=>
 sumC g (fun i=>
 some i) (fun j=>
 some 0)))
def j3H [LP] (a:Tn69) (e:Tn59) (b:Tn53) (d:Tn30) (c:Tn70):Option (Int):=
 (j1i (e,(b,(d,c))) (a.1,(a.2.1,a.2.2))).bind fun f=>
 some f
def j0p [LP] (m:Tn59) (f:Tn53) (e:Tn30) (i g:Tn70) (l d:Int) (n:(List (ByteArray×Bool))):Option ((Tn59×Tn53×Tn30×Tn70×Tn70×Int×Int×(List (ByteArray×Bool))) ⊕ (Int ⊕ Unit)):=
 cond (decide (d<l)) (
 cond (inR d (List.length g)) (
 let a:=(List.getD g (Int.toNat d) (ByteArray.empty,(([]:Tn65),([]:Tn34))))
 (j8u (a.1,(a.2.1,a.2.2))).bind fun j=>
 (j2S j n).bind fun b=>
 cond (b.1 != 0) (
 some (.inr (.inl b.1))) (
 (j3H (a.1,(a.2.1,a.2.2)) m f e i).bind fun c=>
 cond (c != 0) (
 some (.inr (.inl c))) (
 let k:=(w64 (d+1))
 some (.inl (m,f,e,i,g,l,k,b.2))))) none) (
 some (.inr (.inr ())))
def j0M [LP] (i:Tn59) (b:Tn53) (a:Tn30) (c f:Tn70) (d e:Int) (g:(List (ByteArray×Bool))):Option (Int ⊕ Unit):=
 LP.lp (unc8 (j0p)) (i,b,a,c,f,d,e,g)
theorem j49 (i:Tn59) (b:Tn53) (a:Tn30) (c f:Tn70) (d e:Int) (g:(List (ByteArray×Bool))):j0M i b a c f d e g=lpK (j0p i b a c f d e g) (fun h=>j0M h.1 h.2.1 h.2.2.1 h.2.2.2.1 h.2.2.2.2.1 h.2.2.2.2.2.1 h.2.2.2.2.2.2.1 h.2.2.2.2.2.2.2):=j0a _ _
def j1m [LP] (e:Tn70) (d:Tn59) (b:Tn53) (c:Tn30) (a:Tn70):Option (Int):=
 let g:(List (ByteArray×Bool)):=([]:(List (ByteArray×Bool)))
 let f:=(Int.ofNat (List.length e))
 (j0M d b c a e f 0 g).bind fun i=>
 sumC i (fun j=>
 some j) (fun k=>
 some 0)
def j1j [LP] (g:Tn53) (i f:Int) (j:Tn59) (e:Tn53) (d:Tn30) (c:Tn70) (r:(List (ByteArray×Bool))):Option ((Tn53×Int×Int×Tn59×Tn53×Tn30×Tn70×(List (ByteArray×Bool))) ⊕ (Int ⊕ (Tn59×Tn53×Tn30×Tn70))):=
 cond (decide (f<i)) (
 cond (inR f (List.length g)) (
 let a:=(List.getD g (Int.toNat f) (ByteArray.empty,(0,(([]:Tn2),(0,(0,false))))))
 (j2S a.1 r).bind fun b=>
 let q:Bool:=(ByteArray.toList a.1==ByteArray.toList (ByteArray.mk #[110,111,98,111,100,121]))
 cond q (
 cond (2==0) (
 (j1n (j,(e,(d,c))) (a.1,(a.2.1,(a.2.2.1,(a.2.2.2.1,(a.2.2.2.2.1,a.2.2.2.2.2)))))).bind fun k=>
 cond (k != 0) (
 some (.inr (.inl k))) (
 let n:=(w64 (f+1))
 some (.inl (g,i,n,j,e,d,c,b.2)))) (
 cond (2 != 0) (
 some (.inr (.inl 2))) (
 let m:=(w64 (f+1))
 some (.inl (g,i,m,j,e,d,c,b.2))))) (
 cond (b.1==0) (
 (j1n (j,(e,(d,c))) (a.1,(a.2.1,(a.2.2.1,(a.2.2.2.1,(a.2.2.2.2.1,a.2.2.2.2.2)))))).bind fun l=>
 cond (l != 0) (
 some (.inr (.inl l))) (
 let p:=(w64 (f+1))
 some (.inl (g,i,p,j,e,d,c,b.2)))) (
 cond (b.1 != 0) (
 some (.inr (.inl b.1))) (
 let o:=(w64 (f+1))
 some (.inl (g,i,o,j,e,d,c,b.2)))))) none) (
 some (.inr (.inr (j,e,d,c))))
def j36 [LP] (f:Tn53) (d e:Int) (g:Tn59) (c:Tn53) (b:Tn30) (a:Tn70) (i:(List (ByteArray×Bool))):Option (Int ⊕ (Tn59×Tn53×Tn30×Tn70)):=
 LP.lp (unc8 (j1j)) (f,d,e,g,c,b,a,i)
theorem j9n (f:Tn53) (d e:Int) (g:Tn59) (c:Tn53) (b:Tn30) (a:Tn70) (i:(List (ByteArray×Bool))):j36 f d e g c b a i=lpK (j1j f d e g c b a i) (fun h=>j36 h.1 h.2.1 h.2.2.1 h.2.2.2.1 h.2.2.2.2.1 h.2.2.2.2.2.1 h.2.2.2.2.2.2.1 h.2.2.2.2.2.2.2):=j0a _ _
def j3M [LP] (a:Tn76):Option (Int):=
 let g:=(Int.ofNat (List.length a.1))
 let j:=(Int.ofNat (List.length a.2.1))
 let e:=(Int.ofNat (List.length a.2.2.1))
 let f:Bool:=(cond (cond (decide (g>16)) true (decide (j>32))) true (decide (e>8)))
 let k:=(Int.ofNat (List.length a.2.2.2))
 cond (cond f true (decide (k>12))) (
 some 5) (
 (j1z a.1).bind fun c=>
 cond (c != 0) (
 some c) (
 let i:(List (ByteArray×Bool)):=([]:(List (ByteArray×Bool)))
 let m:=(Int.ofNat (List.length a.2.1))
 (j36 a.2.1 m 0 a.1 a.2.1 a.2.2.1 a.2.2.2 i).bind fun n=>
 sumC n (fun o=>
 some o) (fun b=>
 (j12 b.2.2.1 b.1 b.2.1 b.2.2.1 b.2.2.2).bind fun d=>
 cond (d != 0) (
 some d) (
 (j1m b.2.2.2 b.1 b.2.1 b.2.2.1 b.2.2.2).bind fun l=>
 some l))))
def jcQ [LP] (a:Tn57):Option (Tn15×Int):=
 (j1N (a.1,(a.2.1,a.2.2))).bind fun b=>
 some ((a.2.1,b.1),b.2)
def j1J [LP] (g:Tn59) (j c:Int) (i:Tn23):Option ((Tn59×Int×Int×Tn23) ⊕ (Tn23)):=
 cond (decide (c<j)) (
 cond (inR c (List.length g)) (
 let a:=(List.getD g (Int.toNat c) (ByteArray.empty,(0,([]:Tn47))))
 (jcQ (a.1,(a.2.1,a.2.2))).bind fun d=>
 let b:Tn23:=[(d.1.1,d.1.2)]
 cond (decide (List.length i+List.length b≤j0b)) (
 let e:Tn23:=(i++b)
 let f:=(w64 (c+1))
 some (.inl (g,j,f,e))) none) none) (
 some (.inr i))
def j41 [LP] (b:Tn59) (c a:Int) (d:Tn23):Option (Tn23):=
 LP.lp (unc4 (j1J)) (b,c,a,d)
theorem jb4 (b c a d):j41 b c a d=lpK (j1J b c a d) (fun h=>j41 h.1 h.2.1 h.2.2.1 h.2.2.2):=j0a _ _
def j7x [LP] (a:Tn59):Option (Tn23):=
 let b:=(Int.ofNat (List.length a))
 (j41 a b 0 ([]:Tn23)).bind fun c=>
 some c
def j9o [LP] (a:Tn76):Option (Tn78):=
 (j7x a.1).bind fun b=>
 some ((a.1,(a.2.1,(a.2.2.1,a.2.2.2))),b)
def jcR [LP] (a:Tn76):Option (Tn78×Bool):=
 (j3M (a.1,(a.2.1,(a.2.2.1,a.2.2.2)))).bind fun c=>
 cond (c != 0) (
 some (((([]:Tn59),(([]:Tn53),(([]:Tn30),([]:Tn70)))),([]:Tn23)),false)) (
 (j9o (a.1,(a.2.1,(a.2.2.1,a.2.2.2)))).bind fun b=>
 some (((b.1.1,(b.1.2.1,(b.1.2.2.1,b.1.2.2.2))),b.2),true))
def jbC (b:Tn76) (a:Int):Option (Bool):=
 let c:=(Int.ofNat (List.length b.2.2.2))
 some (cond (decide (a≥0)) (decide (a<c)) false)
def jjH (a b:Int):Option (Bool):=
 let c:Bool:=(cond (cond (decide (a≥0)) (decide (a≤8589934592)) false) (decide (b≥a)) false)
 let e:=(w64 (b-a))
 let d:Bool:=(cond (cond c (decide (b≤8589934592)) false) (decide (e≤34560000)) false)
 some d
def j9p [LP] (b:Tn76) (c d e:Int):Option (Tn78×Int):=
 (jcR (b.1,(b.2.1,(b.2.2.1,b.2.2.2)))).bind fun a=>
 cond (!a.2) (
 some (((a.1.1.1,(a.1.1.2.1,(a.1.1.2.2.1,a.1.1.2.2.2))),a.1.2),8)) (
 (jbC (b.1,(b.2.1,(b.2.2.1,b.2.2.2))) c).bind fun g=>
 cond (!g) (
 some (((a.1.1.1,(a.1.1.2.1,(a.1.1.2.2.1,a.1.1.2.2.2))),a.1.2),3)) (
 (jjH d e).bind fun f=>
 cond (!f) (
 some (((a.1.1.1,(a.1.1.2.1,(a.1.1.2.2.1,a.1.1.2.2.2))),a.1.2),1)) (
 some (((a.1.1.1,(a.1.1.2.1,(a.1.1.2.2.1,a.1.1.2.2.2))),a.1.2),0))))
def j1q (a:Tn65):Option (Tn65):=
 some a
def j7y (a:Tn64):Option (Int):=
 cond (a.2.2.2.1==2) (
 let b:=(w64 (7*a.2.2.2.2.1))
 some b) (
 some a.2.2.2.2.1)
def j6m (b e:Int) (a:Tn2) (d:Int):Option (Bool):=
 cond (inR b (List.length a)) (
 let c:=(List.getD a (Int.toNat b) (0,0))
 some (decide (c.1>d))) none
def j2J (l:Int) (b:Tn2) (a j k:Int):Option ((Int×Tn2×Int×Int×Int) ⊕ (Int)):=
 cond (decide (j<k)) (
 let f:=(w64 (j+k))
 let g:Int:=(IntKind.wrap .u64 f)
 let i:Int:=(Int.fdiv g 2)
 let c:=(w64 i)
 (j6m c l b a).bind fun e=>
 cond (!e) (
 let d:=(w64 (c+1))
 some (.inl (l,b,a,d,k))) (
 some (.inl (l,b,a,j,c)))) (
 some (.inr j))
def j4P [LP] (d:Int) (b:Tn2) (a e c:Int):Option (Int):=
 LP.lp (unc5 (j2J)) (d,b,a,e,c)
theorem jb5 (d b a e c):j4P d b a e c=lpK (j2J d b a e c) (fun h=>j4P h.1 h.2.1 h.2.2.1 h.2.2.2.1 h.2.2.2.2):=j0a _ _
def j7z [LP] (d c:Int) (a:Tn2) (b:Int):Option (Int):=
 (j4P c a b 0 d).bind fun e=>
 some e
def j2F [LP] (a:Tn15) (b:Int):Option (Int):=
 let c:=(Int.ofNat (List.length a.2))
 (j7z c a.1 a.2 b).bind fun d=>
 some d
def j3t (a:Tn15) (b:Int):Option (Int):=
 cond (b==0) (
 some a.1) (
 let c:=(w64 (b-1))
 cond (inR c (List.length a.2)) (
 let d:=(List.getD a.2 (Int.toNat c) (0,0))
 some d.2) none)
def j0N [LP] (o c j:Int) (a:Tn2) (i:Tn17):Option ((Int×Int×Int×Tn2×Tn17) ⊕ (Tn17)):=
 cond (decide (o<c)) (
 (j2F (j,a) o).bind fun b=>
 let m:=(Int.ofNat (List.length a))
 cond (decide (b<m)) (
 cond (inR b (List.length a)) (
 let e:=(List.getD a (Int.toNat b) (0,0))
 let d:Int:=(if e.1<c then e.1 else c:Int)
 (j3t (j,a) b).bind fun k=>
 let f:Tn17:=[(o,(d,k))]
 cond (decide (List.length i+List.length f≤j0b)) (
 let n:Tn17:=(i++f)
 some (.inl (d,c,j,a,n))) none) none) (
 (j3t (j,a) b).bind fun l=>
 let g:Tn17:=[(o,(c,l))]
 cond (decide (List.length i+List.length g≤j0b)) (
 let p:Tn17:=(i++g)
 some (.inl (c,c,j,a,p))) none)) (
 some (.inr i))
def j21 [LP] (e c d:Int) (a:Tn2) (b:Tn17):Option (Tn17):=
 LP.lp (unc5 (j0N)) (e,c,d,a,b)
theorem j6O (e c d a b):j21 e c d a b=lpK (j0N e c d a b) (fun h=>j21 h.1 h.2.1 h.2.2.1 h.2.2.2.1 h.2.2.2.2):=j0a _ _
def j1R [LP] (b:Tn15) (a c:Int):Option (Tn17):=
 (j21 a c b.1 b.2 ([]:Tn17)).bind fun d=>
 some d
def j3o (a:(Int×Int)):Option (Int):=
 let b:Int:=(if (-1048576)>a.1 then (-1048576) else a.1:Int)
 let d:Int:=(if 1048576<b then 1048576 else b:Int)
 let e:=(w64 (d*86400))
 let c:=(w64 (e+a.2))
 some c
def j1g (j c k e:Int) (f:Tn17):Option ((Int×Int×Int×Int×Tn17) ⊕ ((Int×Bool) ⊕ Unit)):=
 cond (decide (c<j)) (
 cond (inR c (List.length f)) (
 let a:=(List.getD f (Int.toNat c) (0,(0,0)))
 (j3o (k,e)).bind fun i=>
 let d:=(w64 (i-a.2.2))
 let b:Int:=(if d>a.1 then d else a.1:Int)
 cond (decide (b<a.2.1)) (
 some (.inr (.inl (b,true)))) (
 let g:=(w64 (c+1))
 some (.inl (j,g,k,e,f)))) none) (
 some (.inr (.inr ())))
def j2c [LP] (b d e a:Int) (c:Tn17):Option ((Int×Bool) ⊕ Unit):=
 LP.lp (unc5 (j1g)) (b,d,e,a,c)
theorem j3z (b d e a c):j2c b d e a c=lpK (j1g b d e a c) (fun h=>j2c h.1 h.2.1 h.2.2.1 h.2.2.2.1 h.2.2.2.2):=j0a _ _
def j1u [LP] (a:Tn15) (b:(Int×Int)):Option (Int×Bool):=
 (j1R (a.1,a.2) 0 8589934593).bind fun c=>
 let d:=(Int.ofNat (List.length c))
 (j2c d 0 b.1 b.2 c).bind fun e=>
 sumC e (fun f=>
 some (f.1,f.2)) (fun g=>
 some (0,false))
def j0O [LP] (b:Tn15) (a:Tn64) (c:Int):Option (Int×Bool):=
 cond (decide (c>8589934592)) (
 some (0,false)) (
 cond (a.2.2.2.1 != 0) (
 (j7y (a.1,(a.2.1,((a.2.2.1.1,a.2.2.1.2),(a.2.2.2.1,(a.2.2.2.2.1,(a.2.2.2.2.2.1,(a.2.2.2.2.2.2.1,(a.2.2.2.2.2.2.2.1,a.2.2.2.2.2.2.2.2))))))))).bind fun k=>
 let j:=(w64 (c*k))
 let g:=(w64 (a.2.2.1.1+j))
 (j1u (b.1,b.2) (g,a.2.2.1.2)).bind fun d=>
 some (d.1,d.2)) (
 (j1u (b.1,b.2) (a.2.2.1.1,a.2.2.1.2)).bind fun f=>
 let l:=(w64 (3600*a.2.2.2.2.1))
 let i:=(w64 (l*c))
 let e:=(w64 (f.1+i))
 some (e,(cond f.2 (decide (e≤8589934592)) false))))
def j4s (a:Tn2):Option (Tn2):=
 cond (decide (List.length ([]:List ((Int×Int)))+List.length a≤j0b)) (
 some (([]:List ((Int×Int)))++a)) none
def jbD (a:(Int×Int)):Option (Bool):=
 some (decide (a.2≤a.1))
def j2G (f b:Int) (c:Tn2):Option ((Int×Int×Tn2) ⊕ (Tn15 ⊕ Tn2)):=
 cond (decide (b<f)) (
 cond (inR b (List.length c)) (
 let a:=(List.getD c (Int.toNat b) (0,0))
 (jbD (a.1,a.2)).bind fun d=>
 cond d (
 some (.inr (.inl (b,c)))) (
 let e:=(w64 (b+1))
 some (.inl (f,e,c)))) none) (
 some (.inr (.inr c)))
def j22 [LP] (a b:Int) (c:Tn2):Option (Tn15 ⊕ Tn2):=
 LP.lp (unc3 (j2G)) (a,b,c)
def j10 [LP] (a:Tn2):Option Tn15:=
 let b:=(Int.ofNat (List.length a))
 (j22 b 0 a).bind fun c=>
 sumC c (fun d=>
 some (d.1,d.2)) (fun e=>
 some ((-1),e))
def j2v (d c:Int) (b:Tn2):Option ((Int×Int×Tn2) ⊕ (Tn15)):=
 let g:=(Int.ofNat (List.length b))
 cond (decide (c<g)) (
 cond (inR c (List.length b)) (
 let a:=(List.getD b (Int.toNat c) (0,0))
 (jbD (a.1,a.2)).bind fun i=>
 cond (!i) (
 cond (inR d (List.length b)) (
 let k:Tn2:=(List.set b (Int.toNat d) (a.1,a.2))
 let j:=(w64 (d+1))
 let e:=(w64 (c+1))
 some (.inl (j,e,k))) none) (
 let f:=(w64 (c+1))
 some (.inl (d,f,b)))) none) (
 some (.inr (d,b)))
def j1S [LP] (c b:Int) (a:Tn2):Option (Tn15):=
 LP.lp (unc3 (j2v)) (c,b,a)
def j0R [LP] (c:Tn2):Option Tn15:=
 (j10 c).bind fun b=>
 cond (b.1==(-1)) (
 some ((Int.ofNat (List.length b.2)),b.2)) (
 let d:=(w64 (b.1+1))
 (j1S b.1 d b.2).bind fun a=>
 cond (decide (0≤a.1)&&decide (a.1≤(Int.ofNat (List.length a.2)))) (
 let e:Tn2:=(List.take (Int.toNat a.1) a.2++List.replicate (List.length a.2-(Int.toNat a.1)) (0,0))
 cond (decide (0≤a.1)&&decide (a.1≤(Int.ofNat (List.length e)))) (
 some ((Int.ofNat (Int.toNat a.1)),e)) none) none)
def j92 (b a:(Int×Int)):Option (Int):=
 let c:=(w64 (b.1-a.1))
 some c
def j1P (a:Tn2):Option (Tn2):=
 joW ((.pair (.int .i64) (.int .i64))) (fun c b=>(j92 c b).getD 0) a
def jas (k d:Int) (b f:Tn2):Option ((Int×Int×Tn2×Tn2) ⊕ (Tn2)):=
 cond (decide (d<k)) (
 cond (inR d (List.length f)) (
 let a:=(List.getD f (Int.toNat d) (0,0))
 let c:=(Int.ofNat (List.length b))
 cond (decide (c>0)) (
 let l:=(w64 (c-1))
 cond (inR l (List.length b)) (
 let t:=(List.getD b (Int.toNat l) (0,0)).2
 cond (decide (a.1≤t)) (
 let e:=(w64 (c-1))
 let j:=(w64 (c-1))
 cond (inR j (List.length b)) (
 let m:=(List.getD b (Int.toNat j) (0,0)).2
 let p:Int:=(if a.2>m then a.2 else m:Int)
 cond (inR e (List.length b)) (
 let o:Tn2:=(List.set b (Int.toNat e) ((List.getD b (Int.toNat e) (0,0)).1,p))
 let s:=(w64 (d+1))
 some (.inl (k,s,o,f))) none) none) (
 let g:Tn2:=[(a.1,a.2)]
 cond (decide (List.length b+List.length g≤j0b)) (
 let r:Tn2:=(b++g)
 let n:=(w64 (d+1))
 some (.inl (k,n,r,f))) none)) none) (
 let i:Tn2:=[(a.1,a.2)]
 cond (decide (List.length b+List.length i≤j0b)) (
 let u:Tn2:=(b++i)
 let q:=(w64 (d+1))
 some (.inl (k,q,u,f))) none)) none) (
 some (.inr b))
def jbE [LP] (b c:Int) (d a:Tn2):Option (Tn2):=
 LP.lp (unc4 (jas)) (b,c,d,a)
def j6A [LP] (c:Tn2):Option (Tn2):=
 (j4s c).bind fun g=>
 (j0R g).bind fun b=>
 let e:Tn2:=(List.take (Int.toNat b.1) b.2)
 (j1P e).bind fun a=>
 let d:=(Int.ofNat (List.length a))
 (jbE d 0 ([]:Tn2) a).bind fun f=>
 some f
def j8R (u:Tn2) (i s q:Int) (k:Tn2) (p c j a f:Int) (t:Tn2) (r:Tn17):Option ((Tn2×Int×Int×Int×Tn2×Int×Int×Int×Int×Int×Tn2×Tn17) ⊕ ((Tn2×Int×Int×Int×Int×Int×Int×Tn2×Tn17))):=
 cond (decide (c<p)) (
 cond (inR c (List.length k)) (
 let e:=(List.getD k (Int.toNat c) (0,0))
 let d:=(w64 (i+e.1))
 let l:Int:=(if d>j then d else j:Int)
 let g:=(w64 (i+e.2))
 let o:Int:=(if g<a then g else a:Int)
 let b:Tn2:=[(l,o)]
 cond (decide (List.length t+List.length b≤j0b)) (
 let n:Tn2:=(t++b)
 let m:=(w64 (c+1))
 some (.inl (u,i,s,q,k,p,m,j,a,f,n,r))) none) none) (
 some (.inr (u,i,s,q,j,a,f,t,r)))
def j9q [LP] (l:Tn2) (i f e:Int) (j:Tn2) (c d k b a:Int) (m:Tn2) (g:Tn17):Option ((Tn2×Int×Int×Int×Int×Int×Int×Tn2×Tn17)):=
 LP.lp (jrO (j8R)) (l,i,f,e,j,c,d,k,b,a,m,g)
def j3b [LP] (e:Tn2) (k i g m b d:Int) (l:Tn2) (j:Tn17):Option ((Tn2×Int×Int×Int×Int×Int×Int×Tn2×Tn17) ⊕ ((Tn2×Int×Int×Tn2×Tn17))):=
 cond (decide (k<b)) (
 let f:=(Int.ofNat (List.length e))
 (j9q e k i g e f 0 m b d l j).bind fun a=>
 let c:=(w64 (a.2.1+604800))
 some (.inl (a.1,c,a.2.2.1,a.2.2.2.1,a.2.2.2.2.1,a.2.2.2.2.2.1,a.2.2.2.2.2.2.1,a.2.2.2.2.2.2.2.1,a.2.2.2.2.2.2.2.2))) (
 some (.inr (e,i,g,l,j)))
def j9r [LP] (i:Tn2) (f d c g b a:Int) (j:Tn2) (e:Tn17):Option ((Tn2×Int×Int×Tn2×Tn17)):=
 LP.lp (unc9 (j3b)) (i,f,d,c,g,b,a,j,e)
def j3c [LP] (o:Tn2) (m c:Int) (n:Tn2) (e:Tn17):Option ((Tn2×Int×Int×Tn2×Tn17) ⊕ (Tn2)):=
 cond (decide (c<m)) (
 cond (inR c (List.length e)) (
 let a:=(List.getD e (Int.toNat c) (0,(0,0)))
 let j:=(w64 (a.1+a.2.2))
 let d:=(w64 (j-(-259200)))
 let f:=(Int.tmod d 604800)
 let k:=(w64 (d-f))
 let i:=(w64 (k+(-259200)))
 let g:=(w64 (i-a.2.2))
 (j9r o g m c a.1 a.2.1 a.2.2 n e).bind fun b=>
 let l:=(w64 (b.2.2.1+1))
 some (.inl (b.1,b.2.1,l,b.2.2.2.1,b.2.2.2.2))) none) (
 some (.inr n))
def j9s [LP] (d:Tn2) (b a:Int) (e:Tn2) (c:Tn17):Option (Tn2):=
 LP.lp (unc5 (j3c)) (d,b,a,e,c)
def j81 [LP] (b:Tn15) (e:Tn2) (a c:Int):Option (Tn2):=
 (j1R (b.1,b.2) a c).bind fun d=>
 let g:=(Int.ofNat (List.length d))
 (j9s e g 0 ([]:Tn2) d).bind fun i=>
 (j6A i).bind fun f=>
 some f
def j7k (r s:Int) (i:(List Int)) (u f:Int) (w:ByteArray) (j:Int) (g:(List Int)) (k b e:Int) (v:Tn2) (t:Tn17):Option ((Int×Int×(List Int)×Int×Int×ByteArray×Int×(List Int)×Int×Int×Int×Tn2×Tn17) ⊕ ((Int×Int×ByteArray×Int×(List Int)×Tn2×Tn17))):=
 cond (decide (f<u)) (
 cond (inR f (List.length i)) (
 let o:=(List.getD i (Int.toNat f) 0)
 let m:=(w64 (o*86400))
 let a:=(w64 (m-e))
 let q:Int:=(if a>k then a else k:Int)
 let c:=(w64 (a+86400))
 let l:Int:=(if c<b then c else b:Int)
 let d:Tn2:=[(q,l)]
 cond (decide (List.length v+List.length d≤j0b)) (
 let n:Tn2:=(v++d)
 let p:=(w64 (f+1))
 some (.inl (r,s,i,u,p,w,j,g,k,b,e,n,t))) none) none) (
 some (.inr (r,s,w,j,g,v,t)))
def j7A [LP] (g i:Int) (f:(List Int)) (j l:Int) (m:ByteArray) (d:Int) (c:(List Int)) (k b a:Int) (n:Tn2) (e:Tn17):Option ((Int×Int×ByteArray×Int×(List Int)×Tn2×Tn17)):=
 LP.lp (jrP (j7k)) (g,i,f,j,l,m,d,c,k,b,a,n,e)
def j2H [LP] (i d:Int) (l:ByteArray) (j:Int) (c:(List Int)) (k:Tn2) (e:Tn17):Option ((Int×Int×ByteArray×Int×(List Int)×Tn2×Tn17) ⊕ (Tn2)):=
 cond (decide (d<i)) (
 cond (inR d (List.length e)) (
 let b:=(List.getD e (Int.toNat d) (0,(0,0)))
 let f:=(Int.ofNat (List.length c))
 (j7A i d c f 0 l j c b.1 b.2.1 b.2.2 k e).bind fun a=>
 let g:=(w64 (a.2.1+1))
 some (.inl (a.1,g,a.2.2.1,a.2.2.2.1,a.2.2.2.2.1,a.2.2.2.2.2.1,a.2.2.2.2.2.2))) none) (
 some (.inr k))
def j7B [LP] (d e:Int) (f:ByteArray) (b:Int) (a:(List Int)) (g:Tn2) (c:Tn17):Option (Tn2):=
 LP.lp (unc7 (j2H)) (d,e,f,b,a,g,c)
def j3p [LP] (c:Tn78) (a:Tn22) (b d:Int):Option (Tn2):=
 cond (inR a.2.1 (List.length c.2)) (
 let e:=(List.getD c.2 (Int.toNat a.2.1) (0,([]:Tn2)))
 (j1R (e.1,e.2) b d).bind fun f=>
 let g:=(Int.ofNat (List.length f))
 (j7B g 0 a.1 a.2.1 a.2.2 ([]:Tn2) f).bind fun j=>
 (j6A j).bind fun i=>
 some i) none
def j8S (c:Tn2) (b:Int) (d:Tn2) (e f k a:Int) (l:Tn2):Option ((Tn2×Int×Tn2×Int×Int×Int×Int×Tn2) ⊕ ((Tn2×Int×Tn2×Int×Int×Int×Int×Tn2))):=
 let j:=(Int.ofNat (List.length c))
 cond (decide (b<j)) (
 cond (inR b (List.length c)) (
 let i:=(List.getD c (Int.toNat b) (0,0))
 cond (decide (i.2≤k)) (
 let g:=(w64 (b+1))
 some (.inl (c,g,d,e,f,k,a,l))) (
 some (.inr (c,b,d,e,f,k,a,l)))) none) (
 some (.inr (c,b,d,e,f,k,a,l)))
def j9t [LP] (g:Tn2) (f:Int) (b:Tn2) (c d i a:Int) (e:Tn2):Option ((Tn2×Int×Tn2×Int×Int×Int×Int×Tn2)):=
 LP.lp (unc8 (j8S)) (g,f,b,c,d,i,a,e)
def j8T (b:Tn2) (p d a:Int) (e:Tn2) (i k v c:Int) (l:Tn2):Option ((Tn2×Int×Int×Int×Tn2×Int×Int×Int×Int×Tn2) ⊕ ((Tn2×Int×Int×Tn2×Int×Int×Int×Int×Tn2))):=
 let o:=(Int.ofNat (List.length b))
 cond (decide (a<o)) (
 cond (inR a (List.length b)) (
 let t:=(List.getD b (Int.toNat a) (0,0))
 cond (decide (t.1<c)) (
 cond (inR a (List.length b)) (
 let w:=(List.getD b (Int.toNat a) (0,0))
 cond (decide (d<w.1)) (
 cond (inR a (List.length b)) (
 let u:=(List.getD b (Int.toNat a) (0,0))
 let g:Tn2:=[(d,u.1)]
 cond (decide (List.length l+List.length g≤j0b)) (
 let s:Tn2:=(l++g)
 cond (inR a (List.length b)) (
 let j:=(List.getD b (Int.toNat a) (0,0))
 let r:Int:=(if j.2>d then j.2 else d:Int)
 let q:=(w64 (a+1))
 some (.inl (b,p,r,q,e,i,k,v,c,s))) none) none) none) (
 cond (inR a (List.length b)) (
 let f:=(List.getD b (Int.toNat a) (0,0))
 let n:Int:=(if f.2>d then f.2 else d:Int)
 let m:=(w64 (a+1))
 some (.inl (b,p,n,m,e,i,k,v,c,l))) none)) none) (
 some (.inr (b,p,d,e,i,k,v,c,l)))) none) (
 some (.inr (b,p,d,e,i,k,v,c,l)))
def j9u [LP] (j:Tn2) (g i c:Int) (b:Tn2) (d e k a:Int) (f:Tn2):Option ((Tn2×Int×Int×Tn2×Int×Int×Int×Int×Tn2)):=
 LP.lp (jrM (j8T)) (j,g,i,c,b,d,e,k,a,f)
def j3d [LP] (n:Tn2) (m:Int) (f:Tn2) (k d:Int) (l:Tn2):Option ((Tn2×Int×Tn2×Int×Int×Tn2) ⊕ (Tn2)):=
 cond (decide (d<k)) (
 cond (inR d (List.length f)) (
 let e:=(List.getD f (Int.toNat d) (0,0))
 (j9t n m f k d e.1 e.2 l).bind fun b=>
 (j9u b.1 b.2.1 b.2.2.2.2.2.1 b.2.1 b.2.2.1 b.2.2.2.1 b.2.2.2.2.1 b.2.2.2.2.2.1 b.2.2.2.2.2.2.1 b.2.2.2.2.2.2.2).bind fun a=>
 cond (decide (a.2.2.1<a.2.2.2.2.2.2.2.1)) (
 let c:Tn2:=[(a.2.2.1,a.2.2.2.2.2.2.2.1)]
 cond (decide (List.length a.2.2.2.2.2.2.2.2+List.length c≤j0b)) (
 let j:Tn2:=(a.2.2.2.2.2.2.2.2++c)
 let i:=(w64 (a.2.2.2.2.2.1+1))
 some (.inl (a.1,a.2.1,a.2.2.2.1,a.2.2.2.2.1,i,j))) none) (
 let g:=(w64 (a.2.2.2.2.2.1+1))
 some (.inl (a.1,a.2.1,a.2.2.2.1,a.2.2.2.2.1,g,a.2.2.2.2.2.2.2.2)))) none) (
 some (.inr l))
def j9v [LP] (f:Tn2) (e:Int) (a:Tn2) (b c:Int) (d:Tn2):Option (Tn2):=
 LP.lp (unc6 (j3d)) (f,e,a,b,c,d)
def j3N [LP] (a b:Tn2):Option (Tn2):=
 let c:=(Int.ofNat (List.length a))
 (j9v b 0 a c 0 ([]:Tn2)).bind fun d=>
 some d
def j9w (a d:Tn2) (c b:Int) (n:Tn2):Option ((Tn2×Tn2×Int×Int×Tn2) ⊕ (Tn2)):=
 let p:=(Int.ofNat (List.length a))
 let u:=(Int.ofNat (List.length d))
 cond (cond (decide (c<p)) (decide (b<u)) false) (
 cond (inR c (List.length a)) (
 let j:=(List.getD a (Int.toNat c) (0,0))
 cond (inR b (List.length d)) (
 let i:=(List.getD d (Int.toNat b) (0,0))
 let k:Int:=(if i.1>j.1 then i.1 else j.1:Int)
 cond (inR c (List.length a)) (
 let e:=(List.getD a (Int.toNat c) (0,0))
 cond (inR b (List.length d)) (
 let g:=(List.getD d (Int.toNat b) (0,0))
 let m:Int:=(if g.2<e.2 then g.2 else e.2:Int)
 cond (decide (k<m)) (
 let l:Tn2:=[(k,m)]
 cond (decide (List.length n+List.length l≤j0b)) (
 let f:Tn2:=(n++l)
 cond (inR c (List.length a)) (
 let r:=(List.getD a (Int.toNat c) (0,0))
 cond (inR b (List.length d)) (
 let q:=(List.getD d (Int.toNat b) (0,0))
 cond (decide (r.2<q.2)) (
 let w:=(w64 (c+1))
 some (.inl (a,d,w,b,f))) (
 let o:=(w64 (b+1))
 some (.inl (a,d,c,o,f)))) none) none) none) (
 cond (inR c (List.length a)) (
 let v:=(List.getD a (Int.toNat c) (0,0))
 cond (inR b (List.length d)) (
 let x:=(List.getD d (Int.toNat b) (0,0))
 cond (decide (v.2<x.2)) (
 let t:=(w64 (c+1))
 some (.inl (a,d,t,b,n))) (
 let s:=(w64 (b+1))
 some (.inl (a,d,c,s,n)))) none) none)) none) none) none) none) (
 some (.inr n))
def jay [LP] (d e:Tn2) (c a:Int) (b:Tn2):Option (Tn2):=
 LP.lp (unc5 (j9w)) (d,e,c,a,b)
def j7C [LP] (b a:Tn2):Option (Tn2):=
 (jay b a 0 0 ([]:Tn2)).bind fun c=>
 some c
def j5d [LP] (a:Tn78) (b:Tn64) (d c:Int):Option (Tn2):=
 cond (inR b.2.1 (List.length a.2)) (
 let s:=(List.getD a.2 (Int.toNat b.2.1) (0,([]:Tn2)))
 (j0O (s.1,s.2) (b.1,(b.2.1,((b.2.2.1.1,b.2.2.1.2),(b.2.2.2.1,(b.2.2.2.2.1,(b.2.2.2.2.2.1,(b.2.2.2.2.2.2.1,(b.2.2.2.2.2.2.2.1,b.2.2.2.2.2.2.2.2)))))))) 0).bind fun i=>
 cond (cond (cond (!i.2) true (decide (i.1≥c))) true (decide (d≥c))) (
 some ([]:Tn2)) (
 let e:Int:=(if i.1>d then i.1 else d:Int)
 let k:Tn2:=[(e,c)]
 let x:=(Int.ofNat (List.length b.2.2.2.2.2.2.1))
 cond (decide (x>0)) (
 cond (inR b.2.1 (List.length a.2)) (
 let r:=(List.getD a.2 (Int.toNat b.2.1) (0,([]:Tn2)))
 (j81 (r.1,r.2) b.2.2.2.2.2.2.1 e c).bind fun m=>
 cond (b.2.2.2.2.2.2.2.2==1) (
 cond (inR b.2.2.2.2.2.2.2.1 (List.length a.1.2.2.1)) (
 let l:=(List.getD a.1.2.2.1 (Int.toNat b.2.2.2.2.2.2.2.1) (ByteArray.empty,(0,([]:(List Int)))))
 (j3p ((a.1.1,(a.1.2.1,(a.1.2.2.1,a.1.2.2.2))),a.2) (l.1,(l.2.1,l.2.2)) e c).bind fun u=>
 (j3N m u).bind fun t=>
 some t) none) (
 cond (b.2.2.2.2.2.2.2.2==2) (
 cond (inR b.2.2.2.2.2.2.2.1 (List.length a.1.2.2.1)) (
 let j:=(List.getD a.1.2.2.1 (Int.toNat b.2.2.2.2.2.2.2.1) (ByteArray.empty,(0,([]:(List Int)))))
 (j3p ((a.1.1,(a.1.2.1,(a.1.2.2.1,a.1.2.2.2))),a.2) (j.1,(j.2.1,j.2.2)) e c).bind fun v=>
 (j7C m v).bind fun w=>
 some w) none) (
 some m))) none) (
 cond (b.2.2.2.2.2.2.2.2==1) (
 cond (inR b.2.2.2.2.2.2.2.1 (List.length a.1.2.2.1)) (
 let g:=(List.getD a.1.2.2.1 (Int.toNat b.2.2.2.2.2.2.2.1) (ByteArray.empty,(0,([]:(List Int)))))
 (j3p ((a.1.1,(a.1.2.1,(a.1.2.2.1,a.1.2.2.2))),a.2) (g.1,(g.2.1,g.2.2)) e c).bind fun p=>
 (j3N k p).bind fun o=>
 some o) none) (
 cond (b.2.2.2.2.2.2.2.2==2) (
 cond (inR b.2.2.2.2.2.2.2.1 (List.length a.1.2.2.1)) (
 let f:=(List.getD a.1.2.2.1 (Int.toNat b.2.2.2.2.2.2.2.1) (ByteArray.empty,(0,([]:(List Int)))))
 (j3p ((a.1.1,(a.1.2.1,(a.1.2.2.1,a.1.2.2.2))),a.2) (f.1,(f.2.1,f.2.2)) e c).bind fun n=>
 (j7C k n).bind fun q=>
 some q) none) (
 some k))))) none
def j2K [LP] (a:Tn15) (b:Int):Option (Int):=
 (j2F (a.1,a.2) b).bind fun d=>
 (j3t (a.1,a.2) d).bind fun c=>
 some c
def jdj (a:Int):Option ((Int×Int)):=
 let e:=(w64 (Int.tdiv a 86400))
 let i:=(Int.tmod a 86400)
 cond (decide (i<0)) (
 let d:=(w64 (e-1))
 let f:=(w64 (d*86400))
 let g:=(w64 (a-f))
 some (d,g)) (
 let b:=(w64 (e*86400))
 let c:=(w64 (a-b))
 some (e,c))
def j0y [LP] (b:Tn15) (a:Int):Option ((Int×Int)):=
 (j2K (b.1,b.2) a).bind fun d=>
 let e:=(w64 (a+d))
 (jdj e).bind fun c=>
 some (c.1,c.2)
def j1k [LP] (n m p:Int) (d:Tn2) (o:ByteArray) (e i f b j:Int) (c:(List Int)) (g:Tn2) (a k:Int):Option ((Int×Int×Int×Tn2×ByteArray×Int×Int×Int×Int×Int×(List Int)×Tn2×Int×Int) ⊕ ((Int×Int×Int×Tn2×ByteArray×Int×Int×Int×Int×Int×(List Int)×Tn2×Int×Int))):=
 cond (decide (m>0)) (
 (j0O (p,d) (o,(e,((i,f),(b,(j,(c,(g,(a,k)))))))) m).bind fun l=>
 cond (cond l.2 (decide (l.1≤n)) false) (
 some (.inr (n,m,p,d,o,e,i,f,b,j,c,g,a,k))) (
 let q:=(w64 (m-1))
 some (.inl (n,q,p,d,o,e,i,f,b,j,c,g,a,k)))) (
 some (.inr (n,m,p,d,o,e,i,f,b,j,c,g,a,k)))
def j3I [LP] (l n o:Int) (d:Tn2) (m:ByteArray) (e i f b j:Int) (c:(List Int)) (g:Tn2) (a k:Int):Option ((Int×Int×Int×Tn2×ByteArray×Int×Int×Int×Int×Int×(List Int)×Tn2×Int×Int)):=
 LP.lp (jlS (j1k)) (l,n,o,d,m,e,i,f,b,j,c,g,a,k)
theorem j9x (l n o d m e i f b j c g a k):j3I l n o d m e i f b j c g a k=lpK (j1k l n o d m e i f b j c g a k) (fun h=>j3I h.1 h.2.1 h.2.2.1 h.2.2.2.1 h.2.2.2.2.1 h.2.2.2.2.2.1 h.2.2.2.2.2.2.1 h.2.2.2.2.2.2.2.1 h.2.2.2.2.2.2.2.2.1 h.2.2.2.2.2.2.2.2.2.1 h.2.2.2.2.2.2.2.2.2.2.1 h.2.2.2.2.2.2.2.2.2.2.2.1 h.2.2.2.2.2.2.2.2.2.2.2.2.1 h.2.2.2.2.2.2.2.2.2.2.2.2.2):=j0a _ _
def j1K [LP] (p o r:Int) (e:Tn2) (q:ByteArray) (f j g c k:Int) (d:(List Int)) (i:Tn2) (b l:Int):Option ((Int×Int×Int×Tn2×ByteArray×Int×Int×Int×Int×Int×(List Int)×Tn2×Int×Int) ⊕ (Int)):=
 let m:=(w64 (o+1))
 (j0O (r,e) (q,(f,((j,g),(c,(k,(d,(i,(b,l)))))))) m).bind fun a=>
 cond (cond (!a.2) true (decide (a.1>p))) (
 some (.inr o)) (
 let n:=(w64 (o+1))
 some (.inl (p,n,r,e,q,f,j,g,c,k,d,i,b,l)))
def j3J [LP] (l n o:Int) (d:Tn2) (m:ByteArray) (e i f b j:Int) (c:(List Int)) (g:Tn2) (a k:Int):Option (Int):=
 LP.lp (jlS (j1K)) (l,n,o,d,m,e,i,f,b,j,c,g,a,k)
theorem je0 (l n o d m e i f b j c g a k):j3J l n o d m e i f b j c g a k=lpK (j1K l n o d m e i f b j c g a k) (fun h=>j3J h.1 h.2.1 h.2.2.1 h.2.2.2.1 h.2.2.2.2.1 h.2.2.2.2.2.1 h.2.2.2.2.2.2.1 h.2.2.2.2.2.2.2.1 h.2.2.2.2.2.2.2.2.1 h.2.2.2.2.2.2.2.2.2.1 h.2.2.2.2.2.2.2.2.2.2.1 h.2.2.2.2.2.2.2.2.2.2.2.1 h.2.2.2.2.2.2.2.2.2.2.2.2.1 h.2.2.2.2.2.2.2.2.2.2.2.2.2):=j0a _ _
def j1T [LP] (c:Tn15) (a:Tn64) (d:Int):Option (Int):=
 (j0O (c.1,c.2) (a.1,(a.2.1,((a.2.2.1.1,a.2.2.1.2),(a.2.2.2.1,(a.2.2.2.2.1,(a.2.2.2.2.2.1,(a.2.2.2.2.2.2.1,(a.2.2.2.2.2.2.2.1,a.2.2.2.2.2.2.2.2)))))))) 0).bind fun e=>
 cond (cond (!e.2) true (decide (e.1>d))) (
 some (-1)) (
 cond (a.2.2.2.1==0) (
 let j:=(w64 (d-e.1))
 let i:=(w64 (3600*a.2.2.2.2.1))
 cond (!(i==0)) (
 let n:=(w64 (Int.tdiv j i))
 some n) none) (
 (j0y (c.1,c.2) d).bind fun k=>
 let m:=(w64 (k.1-a.2.2.1.1))
 (j7y (a.1,(a.2.1,((a.2.2.1.1,a.2.2.1.2),(a.2.2.2.1,(a.2.2.2.2.1,(a.2.2.2.2.2.1,(a.2.2.2.2.2.2.1,(a.2.2.2.2.2.2.2.1,a.2.2.2.2.2.2.2.2))))))))).bind fun g=>
 cond (!(g==0)) (
 let f:=(w64 (Int.tdiv m g))
 let l:Int:=(if f>0 then f else 0:Int)
 (j3I d l c.1 c.2 a.1 a.2.1 a.2.2.1.1 a.2.2.1.2 a.2.2.2.1 a.2.2.2.2.1 a.2.2.2.2.2.1 a.2.2.2.2.2.2.1 a.2.2.2.2.2.2.2.1 a.2.2.2.2.2.2.2.2).bind fun b=>
 (j3J b.1 b.2.1 b.2.2.1 b.2.2.2.1 b.2.2.2.2.1 b.2.2.2.2.2.1 b.2.2.2.2.2.2.1 b.2.2.2.2.2.2.2.1 b.2.2.2.2.2.2.2.2.1 b.2.2.2.2.2.2.2.2.2.1 b.2.2.2.2.2.2.2.2.2.2.1 b.2.2.2.2.2.2.2.2.2.2.2.1 b.2.2.2.2.2.2.2.2.2.2.2.2.1 b.2.2.2.2.2.2.2.2.2.2.2.2.2).bind fun o=>
 some o) none))
def jat (f:Tn17) (m e:Int) (b:Tn17):Option ((Tn17×Int×Int×Tn17) ⊕ (Tn17)):=
 cond (decide (e<m)) (
 cond (inR e (List.length f)) (
 let a:=(List.getD f (Int.toNat e) (0,(0,0)))
 cond (decide (a.2.1≤a.1)) (
 let r:=(w64 (e+1))
 some (.inl (f,m,r,b))) (
 let d:=(Int.ofNat (List.length b))
 cond (decide (d>0)) (
 let l:=(w64 (d-1))
 cond (inR l (List.length b)) (
 let t:=(List.getD b (Int.toNat l) (0,(0,0))).2.1
 cond (t==a.1) (
 let k:=(w64 (d-1))
 cond (inR k (List.length b)) (
 let p:=(List.getD b (Int.toNat k) (0,(0,0))).2.2
 cond (p==a.2.2) (
 let c:=(w64 (d-1))
 cond (inR c (List.length b)) (
 let x:Tn17:=(List.set b (Int.toNat c) ((List.getD b (Int.toNat c) (0,(0,0))).1,(a.2.1,(List.getD b (Int.toNat c) (0,(0,0))).2.2)))
 let q:=(w64 (e+1))
 some (.inl (f,m,q,x))) none) (
 let i:Tn17:=[(a.1,(a.2.1,a.2.2))]
 cond (decide (List.length b+List.length i≤j0b)) (
 let v:Tn17:=(b++i)
 let w:=(w64 (e+1))
 some (.inl (f,m,w,v))) none)) none) (
 let j:Tn17:=[(a.1,(a.2.1,a.2.2))]
 cond (decide (List.length b+List.length j≤j0b)) (
 let s:Tn17:=(b++j)
 let o:=(w64 (e+1))
 some (.inl (f,m,o,s))) none)) none) (
 let g:Tn17:=[(a.1,(a.2.1,a.2.2))]
 cond (decide (List.length b+List.length g≤j0b)) (
 let u:Tn17:=(b++g)
 let n:=(w64 (e+1))
 some (.inl (f,m,n,u))) none))) none) (
 some (.inr b))
def jbF [LP] (a:Tn17) (b c:Int) (d:Tn17):Option (Tn17):=
 LP.lp (unc4 (jat)) (a,b,c,d)
def j9e [LP] (a:Tn17):Option (Tn17):=
 let c:=(Int.ofNat (List.length a))
 (jbF a c 0 ([]:Tn17)).bind fun b=>
 some b
def j1Z [LP] (b7 o b1 y a5 a6:Int) (a7:ByteArray) (l k j e g:Int) (a:(List Int)) (f:Tn2) (m i p:Int) (c:Tn2) (b0 b:Int) (z:Tn17) (a2:Tn2):Option ((Int×Int×Int×Int×Int×Int×ByteArray×Int×Int×Int×Int×Int×(List Int)×Tn2×Int×Int×Int×Tn2×Int×Int×Tn17×Tn2) ⊕ ((Int×Int×Int×Int×Int×Int×ByteArray×Int×Int×Int×Int×Int×(List Int)×Tn2×Int×Int×Int×Tn2×Tn17×Tn2))):=
 cond (decide (o<b)) (
 cond (decide (o≥y)) (
 (j1T (p,c) (a7,(l,((k,j),(e,(g,(a,(f,(m,i)))))))) o).bind fun d=>
 let b4:=(w64 (d+1))
 (j0O (p,c) (a7,(l,((k,j),(e,(g,(a,(f,(m,i)))))))) b4).bind fun n=>
 cond (!n.2) (
 let a1:Int:=(if 8589934593<b then 8589934593 else b:Int)
 let a4:=(Int.ofNat (List.length a))
 cond (!(a4==0)) (
 let a3:=(Int.tmod d a4)
 cond (inR a3 (List.length a)) (
 let b6:=(List.getD a (Int.toNat a3) 0)
 let a0:Tn17:=[(o,(a1,b6))]
 cond (decide (List.length z+List.length a0≤j0b)) (
 let b5:Tn17:=(z++a0)
 some (.inl (b7,a1,d,8589934593,a5,a6,a7,l,k,j,e,g,a,f,m,i,p,c,b0,b,b5,a2))) none) none) none) (
 let s:Int:=(if n.1<b then n.1 else b:Int)
 let v:=(Int.ofNat (List.length a))
 cond (!(v==0)) (
 let w:=(Int.tmod d v)
 cond (inR w (List.length a)) (
 let b3:=(List.getD a (Int.toNat w) 0)
 let r:Tn17:=[(o,(s,b3))]
 cond (decide (List.length z+List.length r≤j0b)) (
 let a8:Tn17:=(z++r)
 some (.inl (b7,s,d,n.1,a5,a6,a7,l,k,j,e,g,a,f,m,i,p,c,b0,b,a8,a2))) none) none) none)) (
 let u:Int:=(if y<b then y else b:Int)
 let x:=(Int.ofNat (List.length a))
 cond (!(x==0)) (
 let q:=(Int.tmod b1 x)
 cond (inR q (List.length a)) (
 let a9:=(List.getD a (Int.toNat q) 0)
 let t:Tn17:=[(o,(u,a9))]
 cond (decide (List.length z+List.length t≤j0b)) (
 let b2:Tn17:=(z++t)
 some (.inl (b7,u,b1,y,a5,a6,a7,l,k,j,e,g,a,f,m,i,p,c,b0,b,b2,a2))) none) none) none)) (
 some (.inr (b7,o,b1,y,a5,a6,a7,l,k,j,e,g,a,f,m,i,p,c,z,a2)))
def j5e [LP] (w m p t r s:Int) (u:ByteArray) (k i g c e:Int) (j:(List Int)) (d:Tn2) (l f q:Int) (a:Tn2) (o b:Int) (v:Tn17) (n:Tn2):Option ((Int×Int×Int×Int×Int×Int×ByteArray×Int×Int×Int×Int×Int×(List Int)×Tn2×Int×Int×Int×Tn2×Tn17×Tn2)):=
 LP.lp (jtL (j1Z)) (w,m,p,t,r,s,u,k,i,g,c,e,j,d,l,f,q,a,o,b,v,n)
def j20 [LP] (w j v y k d:Int) (z:ByteArray) (t q p l n:Int) (s:(List Int)) (m:Tn2) (u o x:Int) (g:Tn2) (r:Tn17) (e:Tn2):Option ((Int×Int×Int×Int×Int×Int×ByteArray×Int×Int×Int×Int×Int×(List Int)×Tn2×Int×Int×Int×Tn2×Tn17×Tn2) ⊕ ((Int×Int×Tn17))):=
 cond (decide (d<k)) (
 cond (inR d (List.length e)) (
 let b:=(List.getD e (Int.toNat d) (0,0))
 let c:Tn17:=[(j,(b.1,(-1)))]
 cond (decide (List.length r+List.length c≤j0b)) (
 let f:Tn17:=(r++c)
 (j5e w b.1 v y k d z t q p l n s m u o x g b.1 b.2 f e).bind fun a=>
 let i:=(w64 (a.2.2.2.2.2.1+1))
 some (.inl (a.1,a.2.1,a.2.2.1,a.2.2.2.1,a.2.2.2.2.1,i,a.2.2.2.2.2.2.1,a.2.2.2.2.2.2.2.1,a.2.2.2.2.2.2.2.2.1,a.2.2.2.2.2.2.2.2.2.1,a.2.2.2.2.2.2.2.2.2.2.1,a.2.2.2.2.2.2.2.2.2.2.2.1,a.2.2.2.2.2.2.2.2.2.2.2.2.1,a.2.2.2.2.2.2.2.2.2.2.2.2.2.1,a.2.2.2.2.2.2.2.2.2.2.2.2.2.2.1,a.2.2.2.2.2.2.2.2.2.2.2.2.2.2.2.1,a.2.2.2.2.2.2.2.2.2.2.2.2.2.2.2.2.1,a.2.2.2.2.2.2.2.2.2.2.2.2.2.2.2.2.2.1,a.2.2.2.2.2.2.2.2.2.2.2.2.2.2.2.2.2.2.1,a.2.2.2.2.2.2.2.2.2.2.2.2.2.2.2.2.2.2.2))) none) none) (
 some (.inr (w,j,r)))
def j5f [LP] (u l n r p q:Int) (s:ByteArray) (j g f b d:Int) (i:(List Int)) (c:Tn2) (k e o:Int) (a:Tn2) (t:Tn17) (m:Tn2):Option ((Int×Int×Tn17)):=
 LP.lp (jtK (j20)) (u,l,n,r,p,q,s,j,g,f,b,d,i,c,k,e,o,a,t,m)
def j3O [LP] (b:Tn78) (a:Tn64) (c d:Int):Option (Tn17):=
 cond (inR a.2.1 (List.length b.2)) (
 let i:=(List.getD b.2 (Int.toNat a.2.1) (0,([]:Tn2)))
 (j5d ((b.1.1,(b.1.2.1,(b.1.2.2.1,b.1.2.2.2))),b.2) (a.1,(a.2.1,((a.2.2.1.1,a.2.2.1.2),(a.2.2.2.1,(a.2.2.2.2.1,(a.2.2.2.2.2.1,(a.2.2.2.2.2.2.1,(a.2.2.2.2.2.2.2.1,a.2.2.2.2.2.2.2.2)))))))) c d).bind fun g=>
 let j:=(Int.ofNat (List.length g))
 (j5f d c (-1) (-1) j 0 a.1 a.2.1 a.2.2.1.1 a.2.2.1.2 a.2.2.2.1 a.2.2.2.2.1 a.2.2.2.2.2.1 a.2.2.2.2.2.2.1 a.2.2.2.2.2.2.2.1 a.2.2.2.2.2.2.2.2 i.1 i.2 ([]:Tn17) g).bind fun e=>
 let f:Tn17:=[(e.2.1,(e.1,(-1)))]
 cond (decide (List.length e.2.2+List.length f≤j0b)) (
 let k:Tn17:=(e.2.2++f)
 (j9e k).bind fun l=>
 some l) none) none
def j8U (k:Int) (j:Tn34) (d b:Int) (e:Tn2):Option ((Int×Tn34×Int×Int×Tn2) ⊕ (Tn2)):=
 cond (decide (b<d)) (
 cond (inR b (List.length j)) (
 let a:=(List.getD j (Int.toNat b) (0,(0,(0,(0,0)))))
 cond (cond (a.1==0) (a.2.1==k) false) (
 let c:Tn2:=[(a.2.2.2.1,a.2.2.2.2)]
 cond (decide (List.length e+List.length c≤j0b)) (
 let g:Tn2:=(e++c)
 let f:=(w64 (b+1))
 some (.inl (k,j,d,f,g))) none) (
 let i:=(w64 (b+1))
 some (.inl (k,j,d,i,e)))) none) (
 some (.inr e))
def j9y [LP] (e:Int) (d:Tn34) (b a:Int) (c:Tn2):Option (Tn2):=
 LP.lp (unc5 (j8U)) (e,d,b,a,c)
def j82 [LP] (b:Tn69) (a:Int):Option (Tn2):=
 let c:=(Int.ofNat (List.length b.2.2))
 (j9y a b.2.2 c 0 ([]:Tn2)).bind fun e=>
 (j6A e).bind fun d=>
 some d
def j83 (k:Tn17) (l m n a:Int) (r:ByteArray) (g:Tn65) (d:Tn34) (s p e:Int) (q:Tn23) (o:Tn17) (f:Tn2):Option ((Tn17×Int×Int×Int×Int×ByteArray×Tn65×Tn34×Int×Int×Int×Tn23×Tn17×Tn2) ⊕ ((Tn17×Int×Int×ByteArray×Tn65×Tn34×Tn23×Tn17))):=
 cond (decide (a<n)) (
 cond (inR a (List.length f)) (
 let b:=(List.getD f (Int.toNat a) (0,0))
 let c:Tn17:=[(b.1,(b.2,e))]
 cond (decide (List.length o+List.length c≤j0b)) (
 let i:Tn17:=(o++c)
 let j:=(w64 (a+1))
 some (.inl (k,l,m,n,j,r,g,d,s,p,e,q,i,f))) none) none) (
 some (.inr (k,l,m,r,g,d,q,o)))
def j6h [LP] (e:Tn17) (f g i j:Int) (n:ByteArray) (c:Tn65) (a:Tn34) (o d b:Int) (l:Tn23) (m:Tn17) (k:Tn2):Option ((Tn17×Int×Int×ByteArray×Tn65×Tn34×Tn23×Tn17)):=
 LP.lp (jlS (j83)) (e,f,g,i,j,n,c,a,o,d,b,l,m,k)
def j2T [LP] (g:Tn17) (j d:Int) (y:ByteArray) (e:Tn65) (f:Tn34) (l:Tn23) (r:Tn17):Option ((Tn17×Int×Int×ByteArray×Tn65×Tn34×Tn23×Tn17) ⊕ (Tn17)):=
 cond (decide (d<j)) (
 cond (inR d (List.length g)) (
 let a:=(List.getD g (Int.toNat d) (0,(0,0)))
 cond (decide (a.2.2<0)) (
 let p:=(w64 (d+1))
 some (.inl (g,j,p,y,e,f,l,r))) (
 let z:Tn2:=(j9g ([]:Tn2) l a.2.2)
 cond (!(jeF l a.2.2)) (
 (j82 (y,(e,f)) a.2.2).bind fun w=>
 let m:Tn23:=(jah l a.2.2 w)
 let t:Tn2:=[(a.1,a.2.1)]
 let x:Tn2:=(j9g ([]:Tn2) m a.2.2)
 (j3N t x).bind fun i=>
 let o:=(Int.ofNat (List.length i))
 (j6h g j d o 0 y e f a.1 a.2.1 a.2.2 m r i).bind fun b=>
 let q:=(w64 (b.2.2.1+1))
 some (.inl (b.1,b.2.1,q,b.2.2.2.1,b.2.2.2.2.1,b.2.2.2.2.2.1,b.2.2.2.2.2.2.1,b.2.2.2.2.2.2.2))) (
 let s:Tn2:=[(a.1,a.2.1)]
 let v:Tn2:=(j9g ([]:Tn2) l a.2.2)
 (j3N s v).bind fun k=>
 let n:=(Int.ofNat (List.length k))
 (j6h g j d n 0 y e f a.1 a.2.1 a.2.2 l r k).bind fun c=>
 let u:=(w64 (c.2.2.1+1))
 some (.inl (c.1,c.2.1,u,c.2.2.2.1,c.2.2.2.2.1,c.2.2.2.2.2.1,c.2.2.2.2.2.2.1,c.2.2.2.2.2.2.2))))) none) (
 some (.inr r))
def j8v [LP] (c:Tn17) (d e:Int) (i:ByteArray) (b:Tn65) (a:Tn34) (f:Tn23) (g:Tn17):Option (Tn17):=
 LP.lp (unc8 (j2T)) (c,d,e,i,b,a,f,g)
def j6P [LP] (a:Tn69) (b:Tn17):Option (Tn17):=
 let d:Tn23:=([]:Tn23)
 let c:=(Int.ofNat (List.length b))
 (j8v b c 0 a.1 a.2.1 a.2.2 d ([]:Tn17)).bind fun e=>
 some e
def j8V (a:Tn17) (d:Tn2) (b c:Int) (n:Tn17):Option ((Tn17×Tn2×Int×Int×Tn17) ⊕ (Tn17)):=
 let q:=(Int.ofNat (List.length a))
 let v:=(Int.ofNat (List.length d))
 cond (cond (decide (b<q)) (decide (c<v)) false) (
 cond (inR b (List.length a)) (
 let k:=(List.getD a (Int.toNat b) (0,(0,0)))
 cond (inR c (List.length d)) (
 let i:=(List.getD d (Int.toNat c) (0,0))
 let l:Int:=(if i.1>k.1 then i.1 else k.1:Int)
 cond (inR b (List.length a)) (
 let e:=(List.getD a (Int.toNat b) (0,(0,0)))
 cond (inR c (List.length d)) (
 let f:=(List.getD d (Int.toNat c) (0,0))
 let m:Int:=(if f.2<e.2.1 then f.2 else e.2.1:Int)
 cond (inR b (List.length a)) (
 let o:=(List.getD a (Int.toNat b) (0,(0,0)))
 cond (decide (l<m)) (
 let j:Tn17:=[(l,(m,o.2.2))]
 cond (decide (List.length n+List.length j≤j0b)) (
 let g:Tn17:=(n++j)
 cond (inR b (List.length a)) (
 let r:=(List.getD a (Int.toNat b) (0,(0,0)))
 cond (inR c (List.length d)) (
 let x:=(List.getD d (Int.toNat c) (0,0))
 cond (decide (r.2.1<x.2)) (
 let w:=(w64 (b+1))
 some (.inl (a,d,w,c,g))) (
 let s:=(w64 (c+1))
 some (.inl (a,d,b,s,g)))) none) none) none) (
 cond (inR b (List.length a)) (
 let y:=(List.getD a (Int.toNat b) (0,(0,0)))
 cond (inR c (List.length d)) (
 let u:=(List.getD d (Int.toNat c) (0,0))
 cond (decide (y.2.1<u.2)) (
 let t:=(w64 (b+1))
 some (.inl (a,d,t,c,n))) (
 let p:=(w64 (c+1))
 some (.inl (a,d,b,p,n)))) none) none)) none) none) none) none) none) (
 some (.inr n))
def j9z [LP] (d:Tn17) (e:Tn2) (c a:Int) (b:Tn17):Option (Tn17):=
 LP.lp (unc5 (j8V)) (d,e,c,a,b)
def j84 [LP] (b:Tn17) (a:Tn2):Option (Tn17):=
 (j9z b a 0 0 ([]:Tn17)).bind fun c=>
 some c
def j9A (f:Tn17) (i c:Int) (g:Tn2):Option ((Tn17×Int×Int×Tn2) ⊕ (Tn2)):=
 cond (decide (c<i)) (
 cond (inR c (List.length f)) (
 let a:=(List.getD f (Int.toNat c) (0,(0,0)))
 let b:Tn2:=[(a.1,a.2.1)]
 cond (decide (List.length g+List.length b≤j0b)) (
 let d:Tn2:=(g++b)
 let e:=(w64 (c+1))
 some (.inl (f,i,e,d))) none) none) (
 some (.inr g))
def jaz [LP] (d:Tn17) (a b:Int) (c:Tn2):Option (Tn2):=
 LP.lp (unc4 (j9A)) (d,a,b,c)
def j9B [LP] (a:Tn17):Option (Tn2):=
 let c:=(Int.ofNat (List.length a))
 (jaz a c 0 ([]:Tn2)).bind fun d=>
 (j6A d).bind fun b=>
 some b
def j4x (b a:Tn4):Option (Int):=
 let c:=(w64 (b.1-a.1))
 some c
def j17 (a:Tn17):Option (Tn17):=
 joW ((.pair (.int .i64) (.pair (.int .i64) (.int .i64)))) (fun c b=>(j4x c b).getD 0) a
def j2i [LP] (n:Int) (i:Tn65) (w:Tn59) (k:Tn53) (f:Tn30) (l:Tn70) (e:Tn23) (t:ByteArray) (j:Tn65) (g:Tn34) (u v:Int) (d:Tn2) (b:Tn17):Option ((Int×Tn65×Tn59×Tn53×Tn30×Tn70×Tn23×ByteArray×Tn65×Tn34×Int×Int×Tn2×Tn17) ⊕ ((Tn2×Tn17))):=
 cond (decide (n≤0)) (
 some (.inr (d,b))) (
 cond (decide (n≤Int.ofNat (List.length i))) (
 let p:Int:=(n-1)
 let a:=(List.getD i (Int.toNat p) (ByteArray.empty,(0,((0,0),(0,(0,(([]:(List Int)),(([]:Tn2),(0,0)))))))))
 (j3O ((w,(k,(f,l))),e) (a.1,(a.2.1,((a.2.2.1.1,a.2.2.1.2),(a.2.2.2.1,(a.2.2.2.2.1,(a.2.2.2.2.2.1,(a.2.2.2.2.2.2.1,(a.2.2.2.2.2.2.2.1,a.2.2.2.2.2.2.2.2)))))))) u v).bind fun m=>
 (j6P (t,(j,g)) m).bind fun q=>
 (j84 q d).bind fun c=>
 cond (decide (List.length b+List.length c≤j0b)) (
 let s:Tn17:=(b++c)
 (j9B c).bind fun r=>
 (j3N d r).bind fun o=>
 some (.inl ((n-1),i,w,k,f,l,e,t,j,g,u,v,o,s))) none) none)
def j6n [LP] (o:Int) (j:Tn65) (l:Tn59) (c:Tn53) (f:Tn30) (d:Tn70) (b:Tn23) (k:ByteArray) (i:Tn65) (e:Tn34) (m n:Int) (g:Tn2) (a:Tn17):Option ((Tn2×Tn17)):=
 LP.lp (jlS (j2i)) (o,j,l,c,f,d,b,k,i,e,m,n,g,a)
def j6B (i b:Int) (e:Tn2) (a:Tn17):Option ((Int×Int×Tn2×Tn17) ⊕ (Tn17)):=
 cond (decide (b<i)) (
 cond (inR b (List.length e)) (
 let c:=(List.getD e (Int.toNat b) (0,0))
 let d:Tn17:=[(c.1,(c.2,(-1)))]
 cond (decide (List.length a+List.length d≤j0b)) (
 let f:Tn17:=(a++d)
 let g:=(w64 (b+1))
 some (.inl (i,g,e,f))) none) none) (
 some (.inr a))
def j6o [LP] (c d:Int) (b:Tn2) (a:Tn17):Option (Tn17):=
 LP.lp (unc4 (j6B)) (c,d,b,a)
def j4H [LP] (b:Tn78) (c:Tn69) (a d:Int):Option (Tn17):=
 cond (decide (a≥d)) (
 some ([]:Tn17)) (
 let g:Tn2:=[(a,d)]
 (j1q c.2.1).bind fun e=>
 (j6n (Int.ofNat (List.length e)) e b.1.1 b.1.2.1 b.1.2.2.1 b.1.2.2.2 b.2 c.1 c.2.1 c.2.2 a d g ([]:Tn17)).bind fun f=>
 let i:=(Int.ofNat (List.length f.1))
 (j6o i 0 f.1 f.2).bind fun l=>
 (j17 l).bind fun j=>
 (j9e j).bind fun k=>
 some k)
def j6b [LP] (b:Tn76) (a d e:Int):Option (Tn17×Int):=
 (j9p (b.1,(b.2.1,(b.2.2.1,b.2.2.2))) a d e).bind fun c=>
 cond (c.2 != 0) (
 some (([]:Tn17),c.2)) (
 cond (inR a (List.length b.2.2.2)) (
 let f:=(List.getD b.2.2.2 (Int.toNat a) (ByteArray.empty,(([]:Tn65),([]:Tn34))))
 (j4H ((c.1.1.1,(c.1.1.2.1,(c.1.1.2.2.1,c.1.1.2.2.2))),c.1.2) (f.1,(f.2.1,f.2.2)) d e).bind fun g=>
 let i:=(Int.ofNat (List.length g))
 cond (decide (i>16384)) (
 some (([]:Tn17),5)) (
 some (g,0))) none)
def j6C [LP] (b:Tn76) (c:Int):Option (Tn78×Tn69×Bool):=
 (jcR (b.1,(b.2.1,(b.2.2.1,b.2.2.2)))).bind fun a=>
 cond (!a.2) (
 some (((a.1.1.1,(a.1.1.2.1,(a.1.1.2.2.1,a.1.1.2.2.2))),a.1.2),(ByteArray.empty,(([]:Tn65),([]:Tn34))),false)) (
 (jbC (b.1,(b.2.1,(b.2.2.1,b.2.2.2))) c).bind fun e=>
 cond (!e) (
 some (((a.1.1.1,(a.1.1.2.1,(a.1.1.2.2.1,a.1.1.2.2.2))),a.1.2),(ByteArray.empty,(([]:Tn65),([]:Tn34))),false)) (
 cond (inR c (List.length b.2.2.2)) (
 let d:=(List.getD b.2.2.2 (Int.toNat c) (ByteArray.empty,(([]:Tn65),([]:Tn34))))
 some (((a.1.1.1,(a.1.1.2.1,(a.1.1.2.2.1,a.1.1.2.2.2))),a.1.2),(d.1,(d.2.1,d.2.2)),true)) none))
def j3i (a:(Int×Int)):Option (Int):=
 (j4v a.1).bind fun c=>
 let d:=(w64 (c*86400))
 let b:=(w64 (d+a.2))
 some b
def j4I (e:Int) (d:Tn2) (f c:Int):Option ((Int×Tn2×Int×Int) ⊕ (Bool ⊕ Unit)):=
 cond (decide (c<f)) (
 cond (inR c (List.length d)) (
 let a:=(List.getD d (Int.toNat c) (0,0))
 cond (cond (decide (a.1≤e)) (decide (e<a.2)) false) (
 some (.inr (.inl true))) (
 let b:=(w64 (c+1))
 some (.inl (e,d,f,b)))) none) (
 some (.inr (.inr ())))
def j7D [LP] (c:Int) (a:Tn2) (b d:Int):Option (Bool ⊕ Unit):=
 LP.lp (unc4 (j4I)) (c,a,b,d)
theorem jdF (d a b c):j7D d a b c=lpK (j4I d a b c) (fun h=>j7D h.1 h.2.1 h.2.2.1 h.2.2.2):=j0a _ _
def jbG [LP] (a:Tn2) (b:Int):Option (Bool):=
 let c:=(Int.ofNat (List.length a))
 (j7D b a c 0).bind fun d=>
 sumC d (fun e=>
 some e) (fun f=>
 some false)
def j93 (a:Int):Option (Bool):=
 some (a != a)
def jau (b a:Int):Option (Bool):=
 (j93 b).bind fun d=>
 cond d (
 (j93 a).bind fun c=>
 some (cond (!c) true (decide (b<a)))) (
 some (decide (b<a)))
def j6i (a:Int):Option (Bool):=
 some (a != a)
def j1r (b:(List Int)) (i m c l:Int):Option (((List Int)×Int×Int×Int×Int) ⊕ (((List Int)×Int×Int×Int))):=
 cond (decide (c<l)) (
 let j:=(w64 (c+l))
 let k:Int:=(IntKind.wrap .u64 j)
 let f:Int:=(Int.fdiv k 2)
 let a:=(w64 f)
 cond (inR a (List.length b)) (
 let e:=(List.getD b (Int.toNat a) 0)
 (jau e i).bind fun g=>
 cond g (
 let d:=(w64 (a+1))
 some (.inl (b,i,m,d,l))) (
 some (.inl (b,i,m,c,a)))) none) (
 some (.inr (b,i,m,c)))
def j0W [LP] (d:(List Int)) (e c a b:Int):Option (((List Int)×Int×Int×Int)):=
 LP.lp (unc5 (j1r)) (d,e,c,a,b)
theorem j6Q (d e c a b):j0W d e c a b=lpK (j1r d e c a b) (fun h=>j0W h.1 h.2.1 h.2.2.1 h.2.2.2.1 h.2.2.2.2):=j0a _ _
def j0B [LP] (c:(List Int)) (b:Int):Option (Int×Bool):=
 let e:=(Int.ofNat (List.length c))
 (j0W c b e 0 e).bind fun a=>
 cond ((inR a.2.2.2 (List.length a.1)) || !(decide (a.2.2.2<a.2.2.1))) (
 let d:=(List.getD a.1 (Int.toNat a.2.2.2) 0)
 cond ((inR a.2.2.2 (List.length a.1)) || !((decide (a.2.2.2<a.2.2.1))&&(!(d==a.2.1)))) (
 let f:=(List.getD a.1 (Int.toNat a.2.2.2) 0)
 cond (decide (a.2.2.2<a.2.2.1)) (
 cond (d==a.2.1) (
 some (a.2.2.2,true)) (
 (j6i f).bind fun g=>
 cond g (
 (j6i a.2.1).bind fun i=>
 some (a.2.2.2,i)) (
 some (a.2.2.2,false)))) (
 cond ((d==a.2.1) || !false) (
 some (a.2.2.2,false)) none)) none) none
def j3q [LP] (b:Tn78) (a:Tn64) (c:Int):Option (Int×Bool):=
 cond (cond (decide (c<0)) true (decide (c>8589934592))) (
 some (0,false)) (
 cond (inR a.2.1 (List.length b.2)) (
 let g:=(List.getD b.2 (Int.toNat a.2.1) (0,([]:Tn2)))
 (j1T (g.1,g.2) (a.1,(a.2.1,((a.2.2.1.1,a.2.2.1.2),(a.2.2.2.1,(a.2.2.2.2.1,(a.2.2.2.2.2.1,(a.2.2.2.2.2.2.1,(a.2.2.2.2.2.2.2.1,a.2.2.2.2.2.2.2.2)))))))) c).bind fun e=>
 cond (decide (e<0)) (
 some (0,false)) (
 let r:=(Int.ofNat (List.length a.2.2.2.2.2.2.1))
 cond (decide (r>0)) (
 (j0y (g.1,g.2) c).bind fun l=>
 (j3i (l.1,l.2)).bind fun p=>
 (jbG a.2.2.2.2.2.2.1 p).bind fun n=>
 cond (!n) (
 some (0,false)) (
 cond (a.2.2.2.2.2.2.2.2==0) (
 some (e,true)) (
 cond (inR a.2.2.2.2.2.2.2.1 (List.length b.1.2.2.1)) (
 let i:=(List.getD b.1.2.2.1 (Int.toNat a.2.2.2.2.2.2.2.1) (ByteArray.empty,(0,([]:(List Int)))))
 cond (inR i.2.1 (List.length b.2)) (
 let m:=(List.getD b.2 (Int.toNat i.2.1) (0,([]:Tn2)))
 (j0y (m.1,m.2) c).bind fun q=>
 (j0B i.2.2 q.1).bind fun o=>
 some (e,(o.2==(a.2.2.2.2.2.2.2.2==2)))) none) none))) (
 cond (a.2.2.2.2.2.2.2.2==0) (
 some (e,true)) (
 cond (inR a.2.2.2.2.2.2.2.1 (List.length b.1.2.2.1)) (
 let d:=(List.getD b.1.2.2.1 (Int.toNat a.2.2.2.2.2.2.2.1) (ByteArray.empty,(0,([]:(List Int)))))
 cond (inR d.2.1 (List.length b.2)) (
 let f:=(List.getD b.2 (Int.toNat d.2.1) (0,([]:Tn2)))
 (j0y (f.1,f.2) c).bind fun j=>
 (j0B d.2.2 j.1).bind fun k=>
 some (e,(k.2==(a.2.2.2.2.2.2.2.2==2)))) none) none)))) none)
def j1c [LP] (b:Tn78) (a:Tn64) (f:Int):Option (Int):=
 (j3q ((b.1.1,(b.1.2.1,(b.1.2.2.1,b.1.2.2.2))),b.2) (a.1,(a.2.1,((a.2.2.1.1,a.2.2.1.2),(a.2.2.2.1,(a.2.2.2.2.1,(a.2.2.2.2.2.1,(a.2.2.2.2.2.2.1,(a.2.2.2.2.2.2.2.1,a.2.2.2.2.2.2.2.2)))))))) f).bind fun c=>
 cond (!c.2) (
 some (-1)) (
 let e:=(Int.ofNat (List.length a.2.2.2.2.2.1))
 cond (!(e==0)) (
 let d:=(Int.tmod c.1 e)
 cond (inR d (List.length a.2.2.2.2.2.1)) (
 let g:=(List.getD a.2.2.2.2.2.1 (Int.toNat d) 0)
 some g) none) none)
def jbH (a:Tn28) (d c:Int):Option (Bool):=
 let b:Bool:=(cond (cond (a.1==0) (a.2.1==d) false) (decide (a.2.2.2.1≤c)) false)
 some (cond b (decide (c<a.2.2.2.2)) false)
def j0G (f:Tn34) (i c g b:Int):Option ((Tn34×Int×Int×Int×Int) ⊕ (Int ⊕ Unit)):=
 cond (decide (b<g)) (
 cond (inR b (List.length f)) (
 let a:=(List.getD f (Int.toNat b) (0,(0,(0,(0,0)))))
 (jbH (a.1,(a.2.1,(a.2.2.1,(a.2.2.2.1,a.2.2.2.2)))) i c).bind fun d=>
 cond d (
 some (.inr (.inl b))) (
 let e:=(w64 (b+1))
 some (.inl (f,i,c,g,e)))) none) (
 some (.inr (.inr ())))
def j0r [LP] (d:Tn34) (e a b c:Int):Option (Int ⊕ Unit):=
 LP.lp (unc5 (j0G)) (d,e,a,b,c)
theorem j2Q (d e a b c):j0r d e a b c=lpK (j0G d e a b c) (fun h=>j0r h.1 h.2.1 h.2.2.1 h.2.2.2.1 h.2.2.2.2):=j0a _ _
def j0J [LP] (b:Tn34) (c a:Int):Option (Int):=
 let d:=(Int.ofNat (List.length b))
 (j0r b c a d 0).bind fun e=>
 sumC e (fun f=>
 some f) (fun g=>
 some (-1))
def j0C [LP] (c:Tn34) (b a:Int):Option (Bool):=
 (j0J c b a).bind fun d=>
 some (decide (d≥0))
def j6D [LP] (c:Tn69) (a b:Int):Option (Bool):=
 (j0C c.2.2 a b).bind fun d=>
 some d
def j1l [LP] (l:Int) (k:Tn65) (p:Tn59) (d:Tn53) (f:Tn30) (g:Tn70) (c:Tn23) (o:ByteArray) (e:Tn65) (i:Tn34) (m q r:Int):Option ((Int×Tn65×Tn59×Tn53×Tn30×Tn70×Tn23×ByteArray×Tn65×Tn34×Int×Int×Int) ⊕ ((Int×Int) ⊕ (Int×Int))):=
 cond (decide (l≤0)) (
 some (.inr (.inl (q,r)))) (
 cond (decide (l≤Int.ofNat (List.length k))) (
 let j:Int:=(l-1)
 let a:=(List.getD k (Int.toNat j) (ByteArray.empty,(0,((0,0),(0,(0,(([]:(List Int)),(([]:Tn2),(0,0)))))))))
 (j1c ((p,(d,(f,g))),c) (a.1,(a.2.1,((a.2.2.1.1,a.2.2.1.2),(a.2.2.2.1,(a.2.2.2.2.1,(a.2.2.2.2.2.1,(a.2.2.2.2.2.2.1,(a.2.2.2.2.2.2.2.1,a.2.2.2.2.2.2.2.2)))))))) m).bind fun b=>
 cond (decide (b<0)) (
 some (.inl ((l-1),k,p,d,f,g,c,o,e,i,m,q,r))) (
 (j6D (o,(e,i)) b m).bind fun n=>
 cond (!n) (
 some (.inr (.inr (j,b)))) (
 some (.inl ((l-1),k,p,d,f,g,c,o,e,i,m,q,r))))) none)
def j37 [LP] (n:Int) (g:Tn65) (k:Tn59) (b:Tn53) (d:Tn30) (e:Tn70) (a:Tn23) (j:ByteArray) (c:Tn65) (f:Tn34) (i l m:Int):Option ((Int×Int) ⊕ (Int×Int)):=
 LP.lp (jrP (j1l)) (n,g,k,b,d,e,a,j,c,f,i,l,m)
theorem j9C (n g k b d e a j c f i l m):j37 n g k b d e a j c f i l m=lpK (j1l n g k b d e a j c f i l m) (fun h=>j37 h.1 h.2.1 h.2.2.1 h.2.2.2.1 h.2.2.2.2.1 h.2.2.2.2.2.1 h.2.2.2.2.2.2.1 h.2.2.2.2.2.2.2.1 h.2.2.2.2.2.2.2.2.1 h.2.2.2.2.2.2.2.2.2.1 h.2.2.2.2.2.2.2.2.2.2.1 h.2.2.2.2.2.2.2.2.2.2.2.1 h.2.2.2.2.2.2.2.2.2.2.2.2):=j0a _ _
def j2R [LP] (a:Tn78) (b:Tn69) (d:Int):Option (Int×Int):=
 (j1q b.2.1).bind fun c=>
 (j37 (Int.ofNat (List.length c)) c a.1.1 a.1.2.1 a.1.2.2.1 a.1.2.2.2 a.2 b.1 b.2.1 b.2.2 d 0 0).bind fun e=>
 sumC e (fun g=>
 some ((-1),(-1))) (fun f=>
 some (f.1,f.2))
def j4J [LP] (c:Tn76) (b d:Int):Option (Int):=
 (j6C (c.1,(c.2.1,(c.2.2.1,c.2.2.2))) b).bind fun a=>
 cond (!a.2.2) (
 some (-1)) (
 (j2R ((a.1.1.1,(a.1.1.2.1,(a.1.1.2.2.1,a.1.1.2.2.2))),a.1.2) (a.2.1.1,(a.2.1.2.1,a.2.1.2.2)) d).bind fun e=>
 some e.2)
def j5g [LP] (c:Tn76) (b d:Int):Option (Int):=
 (j6C (c.1,(c.2.1,(c.2.2.1,c.2.2.2))) b).bind fun a=>
 cond (!a.2.2) (
 some (-1)) (
 (j2R ((a.1.1.1,(a.1.1.2.1,(a.1.1.2.2.1,a.1.1.2.2.2))),a.1.2) (a.2.1.1,(a.2.1.2.1,a.2.1.2.2)) d).bind fun e=>
 some e.1)
def j7E [LP]  : Option (Bool):=
 (jdY).bind fun a=>
 (jdY).bind fun d=>
 let m:Tn34:=[(0,(2,(0,(950400,1036800))))]
 cond (inR 0 (List.length d.2.2.2)) (
 let b:Tn70:=(List.set d.2.2.2 0 ((List.getD d.2.2.2 0 (ByteArray.empty,(([]:Tn65),([]:Tn34)))).1,((List.getD d.2.2.2 0 (ByteArray.empty,(([]:Tn65),([]:Tn34)))).2.1,m)))
 (j6b (a.1,(a.2.1,(a.2.2.1,a.2.2.2))) 0 950400 1123200).bind fun c=>
 cond (c.2==0) (
 (j4J (a.1,(a.2.1,(a.2.2.1,a.2.2.2))) 0 950400).bind fun l=>
 cond (l==2) (
 (j4J (d.1,(d.2.1,(d.2.2.1,b))) 0 950400).bind fun i=>
 cond (i==1) (
 (j4J (a.1,(a.2.1,(a.2.2.1,a.2.2.2))) 0 1036800).bind fun k=>
 cond (k==1) (
 (j5g (a.1,(a.2.1,(a.2.2.1,a.2.2.2))) 0 950400).bind fun f=>
 let g:=(Int.ofNat (List.length c.1))
 cond ((inR 0 (List.length b)) || !(cond (f==1) (g==2) false)) (
 let e:=(List.getD b 0 (ByteArray.empty,(([]:Tn65),([]:Tn34))))
 cond (cond (f==1) (g==2) false) (
 (j6D (e.1,(e.2.1,e.2.2)) 2 950400).bind fun j=>
 some j) (
 some false)) none) (
 let u:=(Int.ofNat (List.length c.1))
 cond ((inR 0 (List.length b)) || !false) (
 let r:=(List.getD b 0 (ByteArray.empty,(([]:Tn65),([]:Tn34))))
 some false) none)) (
 let n:=(Int.ofNat (List.length c.1))
 cond ((inR 0 (List.length b)) || !false) (
 let t:=(List.getD b 0 (ByteArray.empty,(([]:Tn65),([]:Tn34))))
 some false) none)) (
 let s:=(Int.ofNat (List.length c.1))
 cond ((inR 0 (List.length b)) || !false) (
 let o:=(List.getD b 0 (ByteArray.empty,(([]:Tn65),([]:Tn34))))
 some false) none)) (
 let p:=(Int.ofNat (List.length c.1))
 cond ((inR 0 (List.length b)) || !false) (
 let q:=(List.getD b 0 (ByteArray.empty,(([]:Tn65),([]:Tn34))))
 some false) none)) none
def ji0 (a:(List Int)):Option ((List Int)×Int):=
 some (a,0)
def j02 (b:(List Int)) (a c:Int):Option (Int×(List Int)×Int):=
 let g:=(Int.ofNat (List.length b))
 cond (decide (a≥g)) (
 some (0,b,a)) (
 cond (decide (c<1)) (
 some (0,b,a)) (
 cond (inR a (List.length b)) (
 let i:=(List.getD b (Int.toNat a) 0)
 cond (!(c==0)) (
 let d:=(Int.tmod i c)
 let e:=(w64 (a+1))
 cond (decide (d<0)) (
 let f:=(w64 (d+c))
 some (f,b,e)) (
 some (d,b,e))) none) none))
def j0Y (d:(List Int)) (b:Int) (a:(List Int)):Option (Int×(List Int)×Int):=
 let f:=(Int.ofNat (List.length a))
 (j02 d b f).bind fun c=>
 cond (inR c.1 (List.length a)) (
 let e:=(List.getD a (Int.toNat c.1) 0)
 some (e,c.2.1,c.2.2)) none
def j3r (a0:(List Int)) (u:Int) (a:ByteArray):Option (Tn57×(List Int)×Int):=
 let b6:(List Int):=[0,4,(-20),22,48,(-47)]
 (j0Y a0 u b6).bind fun l=>
 (j02 l.2.1 l.2.2 2).bind fun m=>
 (j02 m.2.1 m.2.2 3).bind fun j=>
 let a4:=(w64 (m.1*j.1))
 let b1:=(w64 (l.1+a4))
 let c:=(w64 (900*b1))
 (j02 j.2.1 j.2.2 2).bind fun o=>
 let g:=(w64 (2025+o.1))
 (j02 o.2.1 o.2.2 4).bind fun b=>
 cond (b.1==1) (
 let a5:=(w64 (c+3600))
 let b7:Tn47:=[(2025,(g,(3,(5,(6,(7200,a5)))))),(2025,(g,(10,(5,(6,(10800,c))))))]
 some ((a,(c,b7)),b.2.1,b.2.2)) (
 cond (b.1==2) (
 (j02 b.2.1 b.2.2 4).bind fun n=>
 let a6:=(w64 (1+n.1))
 (j02 n.2.1 n.2.2 7).bind fun i=>
 (j02 i.2.1 i.2.2 24).bind fun v=>
 let b4:=(w64 (3600*v.1))
 (j02 v.2.1 v.2.2 8).bind fun p=>
 let a9:=(w64 (1+p.1))
 let b2:=(w64 (1800*a9))
 let b0:=(w64 (c+b2))
 (j02 p.2.1 p.2.2 2).bind fun t=>
 let a3:=(w64 (2+t.1))
 let a1:(List Int):=[2,3,5]
 (j0Y t.2.1 t.2.2 a1).bind fun k=>
 (j02 k.2.1 k.2.2 7).bind fun w=>
 (j02 w.2.1 w.2.2 24).bind fun r=>
 let a7:=(w64 (3600*r.1))
 let a2:Tn47:=[(2025,(g,(1,(a6,(i.1,(b4,b0)))))),(2025,(g,(a3,(k.1,(w.1,(a7,c))))))]
 some ((a,(c,a2)),r.2.1,r.2.2)) (
 cond (b.1==3) (
 let b5:(List Int):=[3600,(-3600),82800,(-82800),43200]
 (j0Y b.2.1 b.2.2 b5).bind fun f=>
 let x:=(w64 (c+f.1))
 cond (cond (decide (x>64800)) true (decide (x<(-64800)))) (
 (j02 f.2.1 f.2.2 7).bind fun s=>
 (j02 s.2.1 s.2.2 48).bind fun q=>
 let b3:=(w64 (1800*q.1))
 let a8:Tn47:=[(2026,(2026,(1,(2,(s.1,(b3,0))))))]
 some ((a,(c,a8)),q.2.1,q.2.2)) (
 (j02 f.2.1 f.2.2 7).bind fun e=>
 (j02 e.2.1 e.2.2 48).bind fun d=>
 let y:=(w64 (1800*d.1))
 let z:Tn47:=[(2026,(2026,(1,(2,(e.1,(y,x))))))]
 some ((a,(c,z)),d.2.1,d.2.2))) (
 some ((a,(c,([]:Tn47))),b.2.1,b.2.2))))
def jdk  : Option ((List ByteArray)):=
 let a:(List ByteArray):=[(ByteArray.mk #[97,100,97]),(ByteArray.mk #[98,111,98]),(ByteArray.mk #[99,108,101,111]),(ByteArray.mk #[100,97,110]),(ByteArray.mk #[101,118,101]),(ByteArray.mk #[102,97,121]),(ByteArray.mk #[103,117,115]),(ByteArray.mk #[104,97,108])]
 some a
def j0Z (d:(List Int)) (a b:Int):Option (Bool×(List Int)×Int):=
 (j02 d a b).bind fun c=>
 let e:=(w64 (b-1))
 some ((c.1==e),c.2.1,c.2.2)
def j25 (r q:Int) (p:(List Int)) (g:Int) (m:Tn2):Option ((Int×Int×(List Int)×Int×Tn2) ⊕ (((List Int)×Int×Tn2))):=
 cond (decide (q>0)) (
 (j02 p g 30).bind fun c=>
 let k:=(w64 (3600*c.1))
 let n:=(w64 (r+k))
 (j02 c.2.1 c.2.2 2).bind fun d=>
 let i:=(w64 (60*d.1))
 let f:=(w64 (n+i))
 let o:(List Int):=[3600,28800,43200,86400,61,1]
 (j0Y d.2.1 d.2.2 o).bind fun a=>
 let b:=(w64 (f+a.1))
 cond (decide (b>604800)) (
 some (.inr (a.2.1,a.2.2,m))) (
 let e:Tn2:=[(f,b)]
 cond (decide (List.length m+List.length e≤j0b)) (
 let j:Tn2:=(m++e)
 let l:=(w64 (q-1))
 some (.inl (b,l,a.2.1,a.2.2,j))) none)) (
 some (.inr (p,g,m)))
def j4c [LP] (b e:Int) (c:(List Int)) (a:Int) (d:Tn2):Option (((List Int)×Int×Tn2)):=
 LP.lp (unc5 (j25)) (b,e,c,a,d)
theorem j6R (b e c a d):j4c b e c a d=lpK (j25 b e c a d) (fun h=>j4c h.1 h.2.1 h.2.2.1 h.2.2.2.1 h.2.2.2.2):=j0a _ _
def j3u [LP] (b:(List Int)) (a:Int):Option (Tn2×(List Int)×Int):=
 (j02 b a 4).bind fun d=>
 (j4c 0 d.1 d.2.1 d.2.2 ([]:Tn2)).bind fun c=>
 some (c.2.2,c.1,c.2.1)
def j2w (k:Int) (l:(List Int)) (f:Int) (b:Tn59):Option ((Int×(List Int)×Int×Tn59) ⊕ (((List Int)×Int×Tn59))):=
 cond (decide (k>0)) (
 let c:(List ByteArray):=[(ByteArray.mk #[104,101,114,101]),(ByteArray.mk #[116,104,101,114,101])]
 let d:=(Int.ofNat (List.length b))
 cond (inR d (List.length c)) (
 let j:=(List.getD c (Int.toNat d) ByteArray.empty)
 (j3r l f j).bind fun a=>
 let e:Tn59:=[(a.1.1,(a.1.2.1,a.1.2.2))]
 cond (decide (List.length b+List.length e≤j0b)) (
 let g:Tn59:=(b++e)
 let i:=(w64 (k-1))
 some (.inl (i,a.2.1,a.2.2,g))) none) none) (
 some (.inr (l,f,b)))
def j4W [LP] (c:Int) (d:(List Int)) (b:Int) (a:Tn59):Option (((List Int)×Int×Tn59)):=
 LP.lp (unc4 (j2w)) (c,d,b,a)
theorem j85 (c d a b):j4W c d a b=lpK (j2w c d a b) (fun h=>j4W h.1 h.2.1 h.2.2.1 h.2.2.2):=j0a _ _
def j2x [LP] (a4:Int) (a5:(List Int)) (q:Int) (g:Tn59) (b:Tn53):Option ((Int×(List Int)×Int×Tn59×Tn53) ⊕ (((List Int)×Int×Tn59×Tn53))):=
 cond (decide (a4>0)) (
 (jdk).bind fun p=>
 let n:=(Int.ofNat (List.length b))
 cond (inR n (List.length p)) (
 let l:=(List.getD p (Int.toNat n) ByteArray.empty)
 let t:=(Int.ofNat (List.length g))
 (j02 a5 q t).bind fun c=>
 (j0Z c.2.1 c.2.2 3).bind fun d=>
 (j0Z d.2.1 d.2.2 2).bind fun a=>
 cond a.1 (
 (j3u a.2.1 a.2.2).bind fun e=>
 let w:(List Int):=[0,40,100,12]
 (j0Y e.2.1 e.2.2 w).bind fun k=>
 let x:=(w64 (3600*k.1))
 let a2:(List Int):=[0,11,24,1]
 (j0Y k.2.1 k.2.2 a2).bind fun i=>
 let z:=(w64 (3600*i.1))
 let o:Tn53:=[(l,(c.1,(e.1,(x,(z,d.1)))))]
 cond (decide (List.length b+List.length o≤j0b)) (
 let r:Tn53:=(b++o)
 let u:=(w64 (a4-1))
 some (.inl (u,i.2.1,i.2.2,g,r))) none) (
 let a3:(List Int):=[0,40,100,12]
 (j0Y a.2.1 a.2.2 a3).bind fun f=>
 let v:=(w64 (3600*f.1))
 let y:(List Int):=[0,11,24,1]
 (j0Y f.2.1 f.2.2 y).bind fun j=>
 let a0:=(w64 (3600*j.1))
 let m:Tn53:=[(l,(c.1,(([]:Tn2),(v,(a0,d.1)))))]
 cond (decide (List.length b+List.length m≤j0b)) (
 let s:Tn53:=(b++m)
 let a1:=(w64 (a4-1))
 some (.inl (a1,j.2.1,j.2.2,g,s))) none)) none) (
 some (.inr (a5,q,g,b)))
def j4X [LP] (e:Int) (d:(List Int)) (b:Int) (c:Tn59) (a:Tn53):Option (((List Int)×Int×Tn59×Tn53)):=
 LP.lp (unc5 (j2x)) (e,d,b,c,a)
theorem j86 (e d b c a):j4X e d b c a=lpK (j2x e d b c a) (fun h=>j4X h.1 h.2.1 h.2.2.1 h.2.2.2.1 h.2.2.2.2):=j0a _ _
def j2y (m p n:Int) (o:(List Int)) (e:Int) (q:ByteArray) (j:Int) (i:Tn59) (d:Tn53) (g:Tn30) (c:(List Int)):Option ((Int×Int×Int×(List Int)×Int×ByteArray×Int×Tn59×Tn53×Tn30×(List Int)) ⊕ ((Int×(List Int)×Int×ByteArray×Int×Tn59×Tn53×Tn30×(List Int)))):=
 cond (decide (p>0)) (
 (j02 o e 6).bind fun a=>
 let l:=(w64 (1+a.1))
 let b:=(w64 (n+l))
 cond (decide (List.length c+List.length [b]≤j0b)) (
 let f:(List Int):=(c++[b])
 let k:=(w64 (p-1))
 some (.inl (m,k,b,a.2.1,a.2.2,q,j,i,d,g,f))) none) (
 some (.inr (m,o,e,q,j,i,d,g,c)))
def j4Y [LP] (i k g:Int) (j:(List Int)) (b:Int) (l:ByteArray) (f:Int) (e:Tn59) (a:Tn53) (d:Tn30) (c:(List Int)):Option ((Int×(List Int)×Int×ByteArray×Int×Tn59×Tn53×Tn30×(List Int))):=
 LP.lp (jrN (j2y)) (i,k,g,j,b,l,f,e,a,d,c)
theorem j87 (i k g j b l f e a d c):j4Y i k g j b l f e a d c=lpK (j2y i k g j b l f e a d c) (fun h=>j4Y h.1 h.2.1 h.2.2.1 h.2.2.2.1 h.2.2.2.2.1 h.2.2.2.2.2.1 h.2.2.2.2.2.2.1 h.2.2.2.2.2.2.2.1 h.2.2.2.2.2.2.2.2.1 h.2.2.2.2.2.2.2.2.2.1 h.2.2.2.2.2.2.2.2.2.2):=j0a _ _
def j1U [LP] (m:Int) (n:(List Int)) (g:Int) (e:Tn59) (f:Tn53) (i:Tn30):Option ((Int×(List Int)×Int×Tn59×Tn53×Tn30) ⊕ (((List Int)×Int×Tn59×Tn53×Tn30))):=
 cond (decide (m>0)) (
 let k:=(Int.ofNat (List.length e))
 (j02 n g k).bind fun b=>
 (j02 b.2.1 b.2.2 4).bind fun c=>
 (j4Y m c.1 20454 c.2.1 c.2.2 (ByteArray.mk #[100,97,121,115]) b.1 e f i ([]:(List Int))).bind fun a=>
 let d:Tn30:=[(a.2.2.2.1,(a.2.2.2.2.1,a.2.2.2.2.2.2.2.2))]
 cond (decide (List.length a.2.2.2.2.2.2.2.1+List.length d≤j0b)) (
 let j:Tn30:=(a.2.2.2.2.2.2.2.1++d)
 let l:=(w64 (a.1-1))
 some (.inl (l,a.2.1,a.2.2.1,a.2.2.2.2.2.1,a.2.2.2.2.2.2.1,j))) none) (
 some (.inr (n,g,e,f,i)))
def j4Z [LP] (e:Int) (f:(List Int)) (b:Int) (d:Tn59) (a:Tn53) (c:Tn30):Option (((List Int)×Int×Tn59×Tn53×Tn30)):=
 LP.lp (unc6 (j1U)) (e,f,b,d,a,c)
theorem j5h (e f b d a c):j4Z e f b d a c=lpK (j1U e f b d a c) (fun h=>j4Z h.1 h.2.1 h.2.2.1 h.2.2.2.1 h.2.2.2.2.1 h.2.2.2.2.2):=j0a _ _
def j6S [LP] (g:(List Int)) (b:Int):Option (Tn76×(List Int)×Int):=
 (j02 g b 2).bind fun c=>
 let k:=(w64 (1+c.1))
 (j4W k c.2.1 c.2.2 ([]:Tn59)).bind fun i=>
 (j02 i.1 i.2.1 4).bind fun a=>
 let j:=(w64 (1+a.1))
 (j4X j a.2.1 a.2.2 i.2.2 ([]:Tn53)).bind fun f=>
 (j02 f.1 f.2.1 2).bind fun e=>
 (j4Z e.1 e.2.1 e.2.2 f.2.2.1 f.2.2.2 ([]:Tn30)).bind fun d=>
 some ((d.2.2.1,(d.2.2.2.1,(d.2.2.2.2,([]:Tn70)))),d.1,d.2.1)
def j2z (y:Int) (z:(List Int)) (e:Int) (a2:Tn59) (c:Tn53) (f:Tn30) (t:Tn70) (a0:ByteArray) (l q n g j m p:Int) (a1:ByteArray) (o i d s k r u:Int) (b:(List Int)):Option ((Int×(List Int)×Int×Tn59×Tn53×Tn30×Tn70×ByteArray×Int×Int×Int×Int×Int×Int×Int×ByteArray×Int×Int×Int×Int×Int×Int×Int×(List Int)) ⊕ (((List Int)×Int×Tn59×Tn53×Tn30×Tn70×ByteArray×Int×Int×Int×Int×Int×Int×Int×ByteArray×Int×Int×Int×Int×Int×Int×Int×(List Int)))):=
 cond (decide (y>0)) (
 let x:=(Int.ofNat (List.length c))
 (j02 z e x).bind fun a=>
 cond (decide (List.length b+List.length [a.1]≤j0b)) (
 let w:(List Int):=(b++[a.1])
 let v:=(w64 (y-1))
 some (.inl (v,a.2.1,a.2.2,a2,c,f,t,a0,l,q,n,g,j,m,p,a1,o,i,d,s,k,r,u,w))) none) (
 some (.inr (z,e,a2,c,f,t,a0,l,q,n,g,j,m,p,a1,o,i,d,s,k,r,u,b)))
def j3P [LP] (u:Int) (v:(List Int)) (b:Int) (y:Tn59) (r:Tn53) (c:Tn30) (s:Tn70) (w:ByteArray) (i n k d f j m:Int) (x:ByteArray) (l e a q g o t:Int) (p:(List Int)):Option (((List Int)×Int×Tn59×Tn53×Tn30×Tn70×ByteArray×Int×Int×Int×Int×Int×Int×Int×ByteArray×Int×Int×Int×Int×Int×Int×Int×(List Int))):=
 LP.lp (jtM (j2z)) (u,v,b,y,r,c,s,w,i,n,k,d,f,j,m,x,l,e,a,q,g,o,t,p)
theorem j88 (u v b y r c s w i n k d f j m x l e a q g o t p):j3P u v b y r c s w i n k d f j m x l e a q g o t p=lpK (j2z u v b y r c s w i n k d f j m x l e a q g o t p) (fun h=>j3P h.1 h.2.1 h.2.2.1 h.2.2.2.1 h.2.2.2.2.1 h.2.2.2.2.2.1 h.2.2.2.2.2.2.1 h.2.2.2.2.2.2.2.1 h.2.2.2.2.2.2.2.2.1 h.2.2.2.2.2.2.2.2.2.1 h.2.2.2.2.2.2.2.2.2.2.1 h.2.2.2.2.2.2.2.2.2.2.2.1 h.2.2.2.2.2.2.2.2.2.2.2.2.1 h.2.2.2.2.2.2.2.2.2.2.2.2.2.1 h.2.2.2.2.2.2.2.2.2.2.2.2.2.2.1 h.2.2.2.2.2.2.2.2.2.2.2.2.2.2.2.1 h.2.2.2.2.2.2.2.2.2.2.2.2.2.2.2.2.1 h.2.2.2.2.2.2.2.2.2.2.2.2.2.2.2.2.2.1 h.2.2.2.2.2.2.2.2.2.2.2.2.2.2.2.2.2.2.1 h.2.2.2.2.2.2.2.2.2.2.2.2.2.2.2.2.2.2.2.1 h.2.2.2.2.2.2.2.2.2.2.2.2.2.2.2.2.2.2.2.2.1 h.2.2.2.2.2.2.2.2.2.2.2.2.2.2.2.2.2.2.2.2.2.1 h.2.2.2.2.2.2.2.2.2.2.2.2.2.2.2.2.2.2.2.2.2.2.1 h.2.2.2.2.2.2.2.2.2.2.2.2.2.2.2.2.2.2.2.2.2.2.2):=j0a _ _
def j6T [LP] (b5:(List Int)) (a2:Int) (c:Tn76) (j:ByteArray):Option (Tn64×(List Int)×Int):=
 let c0:=(Int.ofNat (List.length c.1))
 (j02 b5 a2 c0).bind fun v=>
 (j02 v.2.1 v.2.2 6).bind fun z=>
 let b8:=(w64 (20454+z.1))
 let b4:=(w64 (b8-2))
 let c2:(List Int):=[0,32400,7200,9000,79200,1]
 (j0Y z.2.1 z.2.2 c2).bind fun w=>
 (j02 w.2.1 w.2.2 3).bind fun r=>
 (j02 r.2.1 r.2.2 2).bind fun s=>
 let b7:=(w64 (1+s.1))
 cond (r.1==0) (
 let b9:(List Int):=[6,8,12,24,23,49]
 (j0Y s.2.1 s.2.2 b9).bind fun y=>
 (j02 y.2.1 y.2.2 3).bind fun a1=>
 let c3:=(w64 (1+a1.1))
 (j3P c3 a1.2.1 a1.2.2 c.1 c.2.1 c.2.2.1 c.2.2.2 ByteArray.empty 0 0 0 0 0 0 0 j v.1 b4 w.1 r.1 y.1 0 0 ([]:(List Int))).bind fun b=>
 (j0Z b.1 b.2.1 2).bind fun u=>
 cond u.1 (
 (j3u u.2.1 u.2.2).bind fun x=>
 (j0Z x.2.1 x.2.2 4).bind fun t=>
 let c4:=(Int.ofNat (List.length b.2.2.2.2.1))
 cond (cond t.1 (decide (c4>0)) false) (
 let b6:=(Int.ofNat (List.length b.2.2.2.2.1))
 (j02 t.2.1 t.2.2 b6).bind fun a3=>
 (j02 a3.2.1 a3.2.2 2).bind fun a0=>
 let c1:=(w64 (1+a0.1))
 some ((b.2.2.2.2.2.2.2.2.2.2.2.2.2.2.1,(b.2.2.2.2.2.2.2.2.2.2.2.2.2.2.2.1,((b.2.2.2.2.2.2.2.2.2.2.2.2.2.2.2.2.1,b.2.2.2.2.2.2.2.2.2.2.2.2.2.2.2.2.2.1),(b.2.2.2.2.2.2.2.2.2.2.2.2.2.2.2.2.2.2.1,(b.2.2.2.2.2.2.2.2.2.2.2.2.2.2.2.2.2.2.2.1,(b.2.2.2.2.2.2.2.2.2.2.2.2.2.2.2.2.2.2.2.2.2.2,(x.1,(a3.1,c1)))))))),a0.2.1,a0.2.2)) (
 some ((b.2.2.2.2.2.2.2.2.2.2.2.2.2.2.1,(b.2.2.2.2.2.2.2.2.2.2.2.2.2.2.2.1,((b.2.2.2.2.2.2.2.2.2.2.2.2.2.2.2.2.1,b.2.2.2.2.2.2.2.2.2.2.2.2.2.2.2.2.2.1),(b.2.2.2.2.2.2.2.2.2.2.2.2.2.2.2.2.2.2.1,(b.2.2.2.2.2.2.2.2.2.2.2.2.2.2.2.2.2.2.2.1,(b.2.2.2.2.2.2.2.2.2.2.2.2.2.2.2.2.2.2.2.2.2.2,(x.1,(b.2.2.2.2.2.2.2.2.2.2.2.2.2.2.2.2.2.2.2.2.1,b.2.2.2.2.2.2.2.2.2.2.2.2.2.2.2.2.2.2.2.2.2.1)))))))),t.2.1,t.2.2))) (
 (j0Z u.2.1 u.2.2 4).bind fun f=>
 let a4:=(Int.ofNat (List.length b.2.2.2.2.1))
 cond (cond f.1 (decide (a4>0)) false) (
 let b0:=(Int.ofNat (List.length b.2.2.2.2.1))
 (j02 f.2.1 f.2.2 b0).bind fun k=>
 (j02 k.2.1 k.2.2 2).bind fun o=>
 let a9:=(w64 (1+o.1))
 some ((b.2.2.2.2.2.2.2.2.2.2.2.2.2.2.1,(b.2.2.2.2.2.2.2.2.2.2.2.2.2.2.2.1,((b.2.2.2.2.2.2.2.2.2.2.2.2.2.2.2.2.1,b.2.2.2.2.2.2.2.2.2.2.2.2.2.2.2.2.2.1),(b.2.2.2.2.2.2.2.2.2.2.2.2.2.2.2.2.2.2.1,(b.2.2.2.2.2.2.2.2.2.2.2.2.2.2.2.2.2.2.2.1,(b.2.2.2.2.2.2.2.2.2.2.2.2.2.2.2.2.2.2.2.2.2.2,(([]:Tn2),(k.1,a9)))))))),o.2.1,o.2.2)) (
 some ((b.2.2.2.2.2.2.2.2.2.2.2.2.2.2.1,(b.2.2.2.2.2.2.2.2.2.2.2.2.2.2.2.1,((b.2.2.2.2.2.2.2.2.2.2.2.2.2.2.2.2.1,b.2.2.2.2.2.2.2.2.2.2.2.2.2.2.2.2.2.1),(b.2.2.2.2.2.2.2.2.2.2.2.2.2.2.2.2.2.2.1,(b.2.2.2.2.2.2.2.2.2.2.2.2.2.2.2.2.2.2.2.1,(b.2.2.2.2.2.2.2.2.2.2.2.2.2.2.2.2.2.2.2.2.2.2,(([]:Tn2),(b.2.2.2.2.2.2.2.2.2.2.2.2.2.2.2.2.2.2.2.2.1,b.2.2.2.2.2.2.2.2.2.2.2.2.2.2.2.2.2.2.2.2.2.1)))))))),f.2.1,f.2.2)))) (
 (j02 s.2.1 s.2.2 3).bind fun q=>
 let b1:=(w64 (1+q.1))
 (j3P b1 q.2.1 q.2.2 c.1 c.2.1 c.2.2.1 c.2.2.2 ByteArray.empty 0 0 0 0 0 0 0 j v.1 b4 w.1 r.1 b7 0 0 ([]:(List Int))).bind fun a=>
 (j0Z a.1 a.2.1 2).bind fun g=>
 cond g.1 (
 (j3u g.2.1 g.2.2).bind fun i=>
 (j0Z i.2.1 i.2.2 4).bind fun d=>
 let b3:=(Int.ofNat (List.length a.2.2.2.2.1))
 cond (cond d.1 (decide (b3>0)) false) (
 let a8:=(Int.ofNat (List.length a.2.2.2.2.1))
 (j02 d.2.1 d.2.2 a8).bind fun l=>
 (j02 l.2.1 l.2.2 2).bind fun n=>
 let a6:=(w64 (1+n.1))
 some ((a.2.2.2.2.2.2.2.2.2.2.2.2.2.2.1,(a.2.2.2.2.2.2.2.2.2.2.2.2.2.2.2.1,((a.2.2.2.2.2.2.2.2.2.2.2.2.2.2.2.2.1,a.2.2.2.2.2.2.2.2.2.2.2.2.2.2.2.2.2.1),(a.2.2.2.2.2.2.2.2.2.2.2.2.2.2.2.2.2.2.1,(a.2.2.2.2.2.2.2.2.2.2.2.2.2.2.2.2.2.2.2.1,(a.2.2.2.2.2.2.2.2.2.2.2.2.2.2.2.2.2.2.2.2.2.2,(i.1,(l.1,a6)))))))),n.2.1,n.2.2)) (
 some ((a.2.2.2.2.2.2.2.2.2.2.2.2.2.2.1,(a.2.2.2.2.2.2.2.2.2.2.2.2.2.2.2.1,((a.2.2.2.2.2.2.2.2.2.2.2.2.2.2.2.2.1,a.2.2.2.2.2.2.2.2.2.2.2.2.2.2.2.2.2.1),(a.2.2.2.2.2.2.2.2.2.2.2.2.2.2.2.2.2.2.1,(a.2.2.2.2.2.2.2.2.2.2.2.2.2.2.2.2.2.2.2.1,(a.2.2.2.2.2.2.2.2.2.2.2.2.2.2.2.2.2.2.2.2.2.2,(i.1,(a.2.2.2.2.2.2.2.2.2.2.2.2.2.2.2.2.2.2.2.2.1,a.2.2.2.2.2.2.2.2.2.2.2.2.2.2.2.2.2.2.2.2.2.1)))))))),d.2.1,d.2.2))) (
 (j0Z g.2.1 g.2.2 4).bind fun e=>
 let a5:=(Int.ofNat (List.length a.2.2.2.2.1))
 cond (cond e.1 (decide (a5>0)) false) (
 let a7:=(Int.ofNat (List.length a.2.2.2.2.1))
 (j02 e.2.1 e.2.2 a7).bind fun p=>
 (j02 p.2.1 p.2.2 2).bind fun m=>
 let b2:=(w64 (1+m.1))
 some ((a.2.2.2.2.2.2.2.2.2.2.2.2.2.2.1,(a.2.2.2.2.2.2.2.2.2.2.2.2.2.2.2.1,((a.2.2.2.2.2.2.2.2.2.2.2.2.2.2.2.2.1,a.2.2.2.2.2.2.2.2.2.2.2.2.2.2.2.2.2.1),(a.2.2.2.2.2.2.2.2.2.2.2.2.2.2.2.2.2.2.1,(a.2.2.2.2.2.2.2.2.2.2.2.2.2.2.2.2.2.2.2.1,(a.2.2.2.2.2.2.2.2.2.2.2.2.2.2.2.2.2.2.2.2.2.2,(([]:Tn2),(p.1,b2)))))))),m.2.1,m.2.2)) (
 some ((a.2.2.2.2.2.2.2.2.2.2.2.2.2.2.1,(a.2.2.2.2.2.2.2.2.2.2.2.2.2.2.2.1,((a.2.2.2.2.2.2.2.2.2.2.2.2.2.2.2.2.1,a.2.2.2.2.2.2.2.2.2.2.2.2.2.2.2.2.2.1),(a.2.2.2.2.2.2.2.2.2.2.2.2.2.2.2.2.2.2.1,(a.2.2.2.2.2.2.2.2.2.2.2.2.2.2.2.2.2.2.2.1,(a.2.2.2.2.2.2.2.2.2.2.2.2.2.2.2.2.2.2.2.2.2.2,(([]:Tn2),(a.2.2.2.2.2.2.2.2.2.2.2.2.2.2.2.2.2.2.2.2.1,a.2.2.2.2.2.2.2.2.2.2.2.2.2.2.2.2.2.2.2.2.2.1)))))))),e.2.1,e.2.2))))
def j3v (e:(List Int)) (b:Int):Option (Int×(List Int)×Int):=
 (j02 e b 576).bind fun d=>
 let j:=(w64 (3600*d.1))
 let f:=(w64 (1767139200+j))
 (j0Z d.2.1 d.2.2 3).bind fun c=>
 cond c.1 (
 let i:(List Int):=[(-1),1,1800,3599]
 (j0Y c.2.1 c.2.2 i).bind fun a=>
 let g:=(w64 (f+a.1))
 some (g,a.2.1,a.2.2)) (
 some (f,c.2.1,c.2.2))
def j7O (n:(List Int)) (j:Int) (m:Tn76):Option (Tn28×(List Int)×Int):=
 let k:=(Int.ofNat (List.length m.2.1))
 (j02 n j 3).bind fun a=>
 (j02 a.2.1 a.2.2 k).bind fun e=>
 (j3v e.2.1 e.2.2).bind fun b=>
 let o:(List Int):=[3600,86400,7,259200,40000]
 (j0Y b.2.1 b.2.2 o).bind fun d=>
 let f:=(w64 (b.1+d.1))
 cond (a.1==2) (
 cond (decide (k<2)) (
 some ((0,(e.1,(0,(b.1,f)))),d.2.1,d.2.2)) (
 let r:=(w64 (e.1+1))
 let p:=(w64 (k-1))
 (j02 d.2.1 d.2.2 p).bind fun g=>
 let q:=(w64 (r+g.1))
 cond (!(k==0)) (
 let l:=(Int.tmod q k)
 cond (a.1==1) (
 (j0Z g.2.1 g.2.2 4).bind fun i=>
 cond i.1 (
 some ((a.1,((-1),(l,(b.1,f)))),i.2.1,i.2.2)) (
 some ((a.1,(e.1,(l,(b.1,f)))),i.2.1,i.2.2))) (
 some ((a.1,(e.1,(l,(b.1,f)))),g.2.1,g.2.2))) none)) (
 cond (a.1==1) (
 (j0Z d.2.1 d.2.2 4).bind fun c=>
 cond c.1 (
 some ((a.1,((-1),(0,(b.1,f)))),c.2.1,c.2.2)) (
 some ((a.1,(e.1,(0,(b.1,f)))),c.2.1,c.2.2))) (
 some ((a.1,(e.1,(0,(b.1,f)))),d.2.1,d.2.2)))
def j2j [LP] (p o:Int) (q:(List Int)) (j:Int) (n:Tn59) (e:Tn53) (c:Tn30) (r:ByteArray) (d:Tn70) (b:Tn65):Option ((Int×Int×(List Int)×Int×Tn59×Tn53×Tn30×ByteArray×Tn70×Tn65) ⊕ ((Int×(List Int)×Int×Tn59×Tn53×Tn30×ByteArray×Tn70×Tn65))):=
 cond (decide (o>0)) (
 (jdk).bind fun i=>
 let f:=(Int.ofNat (List.length b))
 cond (inR f (List.length i)) (
 let k:=(List.getD i (Int.toNat f) ByteArray.empty)
 (j6T q j (n,(e,(c,d))) k).bind fun a=>
 let g:Tn65:=[(a.1.1,(a.1.2.1,((a.1.2.2.1.1,a.1.2.2.1.2),(a.1.2.2.2.1,(a.1.2.2.2.2.1,(a.1.2.2.2.2.2.1,(a.1.2.2.2.2.2.2.1,(a.1.2.2.2.2.2.2.2.1,a.1.2.2.2.2.2.2.2.2))))))))]
 cond (decide (List.length b+List.length g≤j0b)) (
 let l:Tn65:=(b++g)
 let m:=(w64 (o-1))
 some (.inl (p,m,a.2.1,a.2.2,n,e,c,r,d,l))) none) none) (
 some (.inr (p,q,j,n,e,c,r,d,b)))
def j3w [LP] (g f:Int) (j:(List Int)) (a:Int) (i:Tn59) (e:Tn53) (b:Tn30) (k:ByteArray) (d:Tn70) (c:Tn65):Option ((Int×(List Int)×Int×Tn59×Tn53×Tn30×ByteArray×Tn70×Tn65)):=
 LP.lp (jrM (j2j)) (g,f,j,a,i,e,b,k,d,c)
theorem j7l (g f j a i e b k d c):j3w g f j a i e b k d c=lpK (j2j g f j a i e b k d c) (fun h=>j3w h.1 h.2.1 h.2.2.1 h.2.2.2.1 h.2.2.2.2.1 h.2.2.2.2.2.1 h.2.2.2.2.2.2.1 h.2.2.2.2.2.2.2.1 h.2.2.2.2.2.2.2.2.1 h.2.2.2.2.2.2.2.2.2):=j0a _ _
def j2k (m o:Int) (n:(List Int)) (g:Int) (l:Tn59) (e:Tn53) (c:Tn30) (p:ByteArray) (d:Tn70) (i:Tn65) (b:Tn34):Option ((Int×Int×(List Int)×Int×Tn59×Tn53×Tn30×ByteArray×Tn70×Tn65×Tn34) ⊕ ((Int×(List Int)×Int×Tn59×Tn53×Tn30×ByteArray×Tn70×Tn65×Tn34))):=
 cond (decide (o>0)) (
 (j7O n g (l,(e,(c,d)))).bind fun a=>
 let f:Tn34:=[(a.1.1,(a.1.2.1,(a.1.2.2.1,(a.1.2.2.2.1,a.1.2.2.2.2))))]
 cond (decide (List.length b+List.length f≤j0b)) (
 let j:Tn34:=(b++f)
 let k:=(w64 (o-1))
 some (.inl (m,k,a.2.1,a.2.2,l,e,c,p,d,i,j))) none) (
 some (.inr (m,n,g,l,e,c,p,d,i,b)))
def j4y [LP] (g k:Int) (j:(List Int)) (a:Int) (i:Tn59) (f:Tn53) (c:Tn30) (l:ByteArray) (e:Tn70) (d:Tn65) (b:Tn34):Option ((Int×(List Int)×Int×Tn59×Tn53×Tn30×ByteArray×Tn70×Tn65×Tn34)):=
 LP.lp (jrN (j2k)) (g,k,j,a,i,f,c,l,e,d,b)
theorem j7m (g k j a i f c l e d b):j4y g k j a i f c l e d b=lpK (j2k g k j a i f c l e d b) (fun h=>j4y h.1 h.2.1 h.2.2.1 h.2.2.2.1 h.2.2.2.2.1 h.2.2.2.2.2.1 h.2.2.2.2.2.2.1 h.2.2.2.2.2.2.2.1 h.2.2.2.2.2.2.2.2.1 h.2.2.2.2.2.2.2.2.2.1 h.2.2.2.2.2.2.2.2.2.2):=j0a _ _
def j2l [LP] (q:Int) (s:(List Int)) (j:Int) (r:Tn59) (l:Tn53) (k:Tn30) (e:Tn70):Option ((Int×(List Int)×Int×Tn59×Tn53×Tn30×Tn70) ⊕ (((List Int)×Int×Tn59×Tn53×Tn30×Tn70))):=
 cond (decide (q>0)) (
 let i:(List ByteArray):=[(ByteArray.mk #[102,105,114,115,116]),(ByteArray.mk #[115,101,99,111,110,100]),(ByteArray.mk #[116,104,105,114,100])]
 let m:=(Int.ofNat (List.length e))
 let f:=(Int.tmod m 3)
 cond (inR f (List.length i)) (
 let o:=(List.getD i (Int.toNat f) ByteArray.empty)
 (j02 s j 4).bind fun c=>
 (j3w q c.1 c.2.1 c.2.2 r l k o e ([]:Tn65)).bind fun b=>
 (j02 b.2.1 b.2.2.1 4).bind fun d=>
 (j4y b.1 d.1 d.2.1 d.2.2 b.2.2.2.1 b.2.2.2.2.1 b.2.2.2.2.2.1 b.2.2.2.2.2.2.1 b.2.2.2.2.2.2.2.1 b.2.2.2.2.2.2.2.2 ([]:Tn34)).bind fun a=>
 let g:Tn70:=[(a.2.2.2.2.2.2.1,(a.2.2.2.2.2.2.2.2.1,a.2.2.2.2.2.2.2.2.2))]
 cond (decide (List.length a.2.2.2.2.2.2.2.1+List.length g≤j0b)) (
 let n:Tn70:=(a.2.2.2.2.2.2.2.1++g)
 let p:=(w64 (a.1-1))
 some (.inl (p,a.2.1,a.2.2.1,a.2.2.2.1,a.2.2.2.2.1,a.2.2.2.2.2.1,n))) none) none) (
 some (.inr (s,j,r,l,k,e)))
def j4z [LP] (e:Int) (g:(List Int)) (a:Int) (f:Tn59) (d:Tn53) (b:Tn30) (c:Tn70):Option (((List Int)×Int×Tn59×Tn53×Tn30×Tn70)):=
 LP.lp (unc7 (j2l)) (e,g,a,f,d,b,c)
theorem j7n (e g a f d b c):j4z e g a f d b c=lpK (j2l e g a f d b c) (fun h=>j4z h.1 h.2.1 h.2.2.1 h.2.2.2.1 h.2.2.2.2.1 h.2.2.2.2.2.1 h.2.2.2.2.2.2):=j0a _ _
def j6j [LP] (f:(List Int)) (c e:Int):Option (Tn76×(List Int)×Int):=
 (j6S f c).bind fun a=>
 (j02 a.2.1 a.2.2 e).bind fun d=>
 let g:=(w64 (1+d.1))
 (j4z g d.2.1 d.2.2 a.1.1 a.1.2.1 a.1.2.2.1 ([]:Tn70)).bind fun b=>
 some ((b.2.2.1,(b.2.2.2.1,(b.2.2.2.2.1,b.2.2.2.2.2))),b.1,b.2.1)
def jcS (a:Tn76):Option (Tn59×Tn53×Tn30×ByteArray×Tn65×Tn34):=
 cond (decide (List.length ([]:Tn59)+List.length a.1≤j0b)) (
 let k:Tn59:=(([]:Tn59)++a.1)
 cond (decide (List.length ([]:Tn53)+List.length a.2.1≤j0b)) (
 let e:Tn53:=(([]:Tn53)++a.2.1)
 cond (decide (List.length ([]:Tn30)+List.length a.2.2.1≤j0b)) (
 let f:Tn30:=(([]:Tn30)++a.2.2.1)
 let i:=(Int.ofNat (List.length a.2.2.2))
 cond (decide (0<i)) (
 cond (inR 0 (List.length a.2.2.2)) (
 let b:=(List.getD a.2.2.2 0 (ByteArray.empty,(([]:Tn65),([]:Tn34))))
 cond (decide (List.length ([]:Tn65)+List.length b.2.1≤j0b)) (
 let d:Tn65:=(([]:Tn65)++b.2.1)
 cond (decide (List.length ([]:Tn34)+List.length b.2.2≤j0b)) (
 let g:Tn34:=(([]:Tn34)++b.2.2)
 let c:=(Int.ofNat (List.length a.2.2.2))
 cond (decide (1<c)) (
 cond (inR 1 (List.length a.2.2.2)) (
 let j:=(List.getD a.2.2.2 1 (ByteArray.empty,(([]:Tn65),([]:Tn34))))
 none) none) (
 some (k,e,f,b.1,d,g))) none) none) none) (
 none)) none) none) none
def j26 [LP] (a0 k j z:Int) (a2:Tn59) (p:Tn53) (m:Tn30) (q:Tn70) (a3:Tn59) (n:Tn53) (o:Tn30) (a1:(List Int)) (v:Int) (y:ByteArray) (d:Tn65) (f:Tn34):Option ((Int×Int×Int×Int×Tn59×Tn53×Tn30×Tn70×Tn59×Tn53×Tn30×(List Int)×Int×ByteArray×Tn65×Tn34) ⊕ (Bool ⊕ Unit)):=
 cond (decide (z<9)) (
 let w:=(w64 (j-1))
 let u:=(w64 (k-1))
 let r:=(w64 (k+j))
 let t:=(w64 (Int.tdiv r 2))
 (j3v a1 v).bind fun b=>
 let c:(List Int):=[k,w,u,j,t,b.1]
 let g:=(Int.tmod z 6)
 cond (inR g (List.length c)) (
 let a:=(List.getD c (Int.toNat g) 0)
 (j4J (a2,(p,(m,q))) 0 a).bind fun i=>
 (j4J (a3,(n,(o,[(y,(d,f))]))) 0 a).bind fun e=>
 let x:Bool:=(cond (cond (!(cond (decide (k≤a)) (decide (a<j)) false)) true (i != a0)) (e != i) false)
 let l:Bool:=(cond x true (cond (cond (decide (k≤a)) (decide (a<j)) false) (e==a0) false))
 cond l (
 some (.inr (.inl false))) (
 let s:=(w64 (z+1))
 some (.inl (a0,k,j,s,a2,p,m,q,a3,n,o,b.2.1,b.2.2,y,d,f)))) none) (
 some (.inr (.inr ())))
def j4d [LP] (q m l o:Int) (n:Tn59) (e:Tn53) (g:Tn30) (f:Tn70) (p:Tn59) (i:Tn53) (d:Tn30) (j:(List Int)) (b:Int) (k:ByteArray) (a:Tn65) (c:Tn34):Option (Bool ⊕ Unit):=
 LP.lp (jtJ (j26)) (q,m,l,o,n,e,g,f,p,i,d,j,b,k,a,c)
theorem j6U (q m l o n e g f p i d j b k a c):j4d q m l o n e g f p i d j b k a c=lpK (j26 q m l o n e g f p i d j b k a c) (fun h=>j4d h.1 h.2.1 h.2.2.1 h.2.2.2.1 h.2.2.2.2.1 h.2.2.2.2.2.1 h.2.2.2.2.2.2.1 h.2.2.2.2.2.2.2.1 h.2.2.2.2.2.2.2.2.1 h.2.2.2.2.2.2.2.2.2.1 h.2.2.2.2.2.2.2.2.2.2.1 h.2.2.2.2.2.2.2.2.2.2.2.1 h.2.2.2.2.2.2.2.2.2.2.2.2.1 h.2.2.2.2.2.2.2.2.2.2.2.2.2.1 h.2.2.2.2.2.2.2.2.2.2.2.2.2.2.1 h.2.2.2.2.2.2.2.2.2.2.2.2.2.2.2):=j0a _ _
def j7F [LP] (f:(List Int)):Option (Bool):=
 (jg0 f).bind fun p=>
 cond (!p) (
 (j7E).bind fun l=>
 some l) (
 (ji0 f).bind fun g=>
 (j6j g.1 g.2 1).bind fun a=>
 let o:=(Int.ofNat (List.length a.1.2.1))
 (j02 a.2.1 a.2.2 o).bind fun d=>
 (j3v d.2.1 d.2.2).bind fun c=>
 let n:(List Int):=[3600,86400,432000]
 (j0Y c.2.1 c.2.2 n).bind fun e=>
 let j:=(w64 (c.1+e.1))
 (jcS (a.1.1,(a.1.2.1,(a.1.2.2.1,a.1.2.2.2)))).bind fun b=>
 let i:Tn34:=[(0,(d.1,(0,(c.1,j))))]
 cond (decide (List.length b.2.2.2.2.2+List.length i≤j0b)) (
 let m:Tn34:=(b.2.2.2.2.2++i)
 (j4d d.1 c.1 j 0 a.1.1 a.1.2.1 a.1.2.2.1 a.1.2.2.2 b.1 b.2.1 b.2.2.1 e.2.1 e.2.2 b.2.2.2.1 b.2.2.2.2.1 m).bind fun q=>
 sumC q (fun r=>
 some r) (fun s=>
 (j7E).bind fun k=>
 some k)) none)
def jb6 (a b c:Int):Option (Bool):=
 some (cond (decide (a≥b)) (decide (a≤c)) false)
def jcT (a:Tn43):Option (Bool):=
 (jb6 a.1 1970 2240).bind fun i=>
 cond i (
 (jb6 a.2.1 a.1 2240).bind fun b=>
 cond b (
 (jb6 a.2.2.1 1 12).bind fun d=>
 cond d (
 (jb6 a.2.2.2.1 1 5).bind fun g=>
 cond g (
 (jb6 a.2.2.2.2.1 0 6).bind fun e=>
 cond e (
 (jb6 a.2.2.2.2.2.1 0 86399).bind fun c=>
 cond c (
 (jb6 a.2.2.2.2.2.2 (-64800) 64800).bind fun f=>
 some f) (
 some false)) (
 some false)) (
 some false)) (
 some false)) (
 some false)) (
 some false)
def j1s (a:Int):Option (Bool):=
 let d:=(Int.tmod a 4)
 let c:=(Int.tmod a 100)
 let b:=(Int.tmod a 400)
 some (cond (d==0) (cond (c != 0) true (b==0)) false)
def jbI (b a:Int):Option (Int):=
 cond (a==1) (
 cond (a==1) (
 some 31) (
 cond (a==4) (
 cond (a==4) (
 some 30) (
 cond (a==2) (
 (j1s b).bind fun a4=>
 cond a4 (
 some 29) (
 some 28)) (
 some 0))) (
 cond (a==6) (
 cond (a==6) (
 some 30) (
 cond (a==2) (
 (j1s b).bind fun x=>
 cond x (
 some 29) (
 some 28)) (
 some 0))) (
 cond (a==9) (
 cond (a==9) (
 some 30) (
 cond (a==2) (
 (j1s b).bind fun a2=>
 cond a2 (
 some 29) (
 some 28)) (
 some 0))) (
 cond (a==11) (
 some 30) (
 cond (a==2) (
 (j1s b).bind fun y=>
 cond y (
 some 29) (
 some 28)) (
 some 0))))))) (
 cond (a==3) (
 cond (a==3) (
 some 31) (
 cond (a==4) (
 cond (a==4) (
 some 30) (
 cond (a==2) (
 (j1s b).bind fun a3=>
 cond a3 (
 some 29) (
 some 28)) (
 some 0))) (
 cond (a==6) (
 cond (a==6) (
 some 30) (
 cond (a==2) (
 (j1s b).bind fun w=>
 cond w (
 some 29) (
 some 28)) (
 some 0))) (
 cond (a==9) (
 cond (a==9) (
 some 30) (
 cond (a==2) (
 (j1s b).bind fun z=>
 cond z (
 some 29) (
 some 28)) (
 some 0))) (
 cond (a==11) (
 some 30) (
 cond (a==2) (
 (j1s b).bind fun v=>
 cond v (
 some 29) (
 some 28)) (
 some 0))))))) (
 cond (a==5) (
 cond (a==5) (
 some 31) (
 cond (a==4) (
 cond (a==4) (
 some 30) (
 cond (a==2) (
 (j1s b).bind fun a1=>
 cond a1 (
 some 29) (
 some 28)) (
 some 0))) (
 cond (a==6) (
 cond (a==6) (
 some 30) (
 cond (a==2) (
 (j1s b).bind fun a0=>
 cond a0 (
 some 29) (
 some 28)) (
 some 0))) (
 cond (a==9) (
 cond (a==9) (
 some 30) (
 cond (a==2) (
 (j1s b).bind fun r=>
 cond r (
 some 29) (
 some 28)) (
 some 0))) (
 cond (a==11) (
 some 30) (
 cond (a==2) (
 (j1s b).bind fun s=>
 cond s (
 some 29) (
 some 28)) (
 some 0))))))) (
 cond (a==7) (
 cond (a==7) (
 some 31) (
 cond (a==4) (
 cond (a==4) (
 some 30) (
 cond (a==2) (
 (j1s b).bind fun d=>
 cond d (
 some 29) (
 some 28)) (
 some 0))) (
 cond (a==6) (
 cond (a==6) (
 some 30) (
 cond (a==2) (
 (j1s b).bind fun l=>
 cond l (
 some 29) (
 some 28)) (
 some 0))) (
 cond (a==9) (
 cond (a==9) (
 some 30) (
 cond (a==2) (
 (j1s b).bind fun f=>
 cond f (
 some 29) (
 some 28)) (
 some 0))) (
 cond (a==11) (
 some 30) (
 cond (a==2) (
 (j1s b).bind fun e=>
 cond e (
 some 29) (
 some 28)) (
 some 0))))))) (
 cond (a==8) (
 cond (a==8) (
 some 31) (
 cond (a==4) (
 cond (a==4) (
 some 30) (
 cond (a==2) (
 (j1s b).bind fun m=>
 cond m (
 some 29) (
 some 28)) (
 some 0))) (
 cond (a==6) (
 cond (a==6) (
 some 30) (
 cond (a==2) (
 (j1s b).bind fun n=>
 cond n (
 some 29) (
 some 28)) (
 some 0))) (
 cond (a==9) (
 cond (a==9) (
 some 30) (
 cond (a==2) (
 (j1s b).bind fun j=>
 cond j (
 some 29) (
 some 28)) (
 some 0))) (
 cond (a==11) (
 some 30) (
 cond (a==2) (
 (j1s b).bind fun t=>
 cond t (
 some 29) (
 some 28)) (
 some 0))))))) (
 cond (a==10) (
 cond (a==10) (
 some 31) (
 cond (a==4) (
 cond (a==4) (
 some 30) (
 cond (a==2) (
 (j1s b).bind fun q=>
 cond q (
 some 29) (
 some 28)) (
 some 0))) (
 cond (a==6) (
 cond (a==6) (
 some 30) (
 cond (a==2) (
 (j1s b).bind fun i=>
 cond i (
 some 29) (
 some 28)) (
 some 0))) (
 cond (a==9) (
 cond (a==9) (
 some 30) (
 cond (a==2) (
 (j1s b).bind fun g=>
 cond g (
 some 29) (
 some 28)) (
 some 0))) (
 cond (a==11) (
 some 30) (
 cond (a==2) (
 (j1s b).bind fun c=>
 cond c (
 some 29) (
 some 28)) (
 some 0))))))) (
 cond (a==12) (
 some 31) (
 cond (a==4) (
 cond (a==4) (
 some 30) (
 cond (a==2) (
 (j1s b).bind fun u=>
 cond u (
 some 29) (
 some 28)) (
 some 0))) (
 cond (a==6) (
 cond (a==6) (
 some 30) (
 cond (a==2) (
 (j1s b).bind fun p=>
 cond p (
 some 29) (
 some 28)) (
 some 0))) (
 cond (a==9) (
 cond (a==9) (
 some 30) (
 cond (a==2) (
 (j1s b).bind fun o=>
 cond o (
 some 29) (
 some 28)) (
 some 0))) (
 cond (a==11) (
 some 30) (
 cond (a==2) (
 (j1s b).bind fun k=>
 cond k (
 some 29) (
 some 28)) (
 some 0))))))))))))
def jf0 (a:Tn4):Option (Bool):=
 cond (decide (a.1≥1970)) (
 cond (decide (a.1≤2240)) (
 cond (decide (a.2.1≥1)) (
 cond (decide (a.2.1≤12)) (
 cond (decide (a.2.2≥1)) (
 (jbI a.1 a.2.1).bind fun b=>
 some (decide (a.2.2≤b))) (
 some false)) (
 some false)) (
 some false)) (
 some false)) (
 some false)
def jhb (a:Int):Option (Int):=
 let m:=(w64 (a-1970))
 let j:=(w64 (m*365))
 let k:=(w64 (a-1969))
 let i:=(w64 (Int.tdiv k 4))
 let l:=(w64 (j+i))
 let c:=(w64 (a-1901))
 let f:=(w64 (Int.tdiv c 100))
 let e:=(w64 (l-f))
 let d:=(w64 (a-1601))
 let g:=(w64 (Int.tdiv d 400))
 let b:=(w64 (e+g))
 some b
def j5i (i g f a b:Int):Option ((Int×Int×Int×Int×Int) ⊕ ((Int×Int×Int×Int))):=
 cond (decide (g<a)) (
 (jbI f g).bind fun c=>
 let d:=(w64 (i+c))
 let e:=(w64 (g+1))
 some (.inl (d,e,f,a,b))) (
 some (.inr (i,f,a,b)))
def jdl [LP] (d e c b a:Int):Option ((Int×Int×Int×Int)):=
 LP.lp (unc5 (j5i)) (d,e,c,b,a)
theorem jf1 (d e c b a):jdl d e c b a=lpK (j5i d e c b a) (fun h=>jdl h.1 h.2.1 h.2.2.1 h.2.2.2.1 h.2.2.2.2):=j0a _ _
def jkq [LP] (a:Tn4):Option (Int×Int):=
 (jf0 (a.1,(a.2.1,a.2.2))).bind fun f=>
 cond (!f) (
 some (0,1)) (
 (jhb a.1).bind fun b=>
 (jdl b 1 a.1 a.2.1 a.2.2).bind fun c=>
 let e:=(w64 (c.1+c.2.2.2))
 let d:=(w64 (e-1))
 some (d,0))
def je1 (a:Int):Option (Int):=
 let b:=(Int.tmod a 7)
 let c:=(w64 (b+10))
 let d:=(Int.tmod c 7)
 some d
def j5j (g i f e d a:Int):Option ((Int×Int×Int×Int×Int×Int) ⊕ ((Int×Int×Int×Int×Int))):=
 (je1 a).bind fun c=>
 cond (c != e) (
 let b:=(w64 (a+1))
 some (.inl (g,i,f,e,d,b))) (
 some (.inr (g,i,f,d,a)))
def jdm [LP] (e f d c a b:Int):Option ((Int×Int×Int×Int×Int)):=
 LP.lp (unc6 (j5j)) (e,f,d,c,a,b)
theorem jf2 (e f d c a b):jdm e f d c a b=lpK (j5j e f d c a b) (fun h=>jdm h.1 h.2.1 h.2.2.1 h.2.2.2.1 h.2.2.2.2.1 h.2.2.2.2.2):=j0a _ _
def j5k (g i f a:Int):Option ((Int×Int×Int×Int) ⊕ (Int)):=
 let e:=(w64 (a+7))
 (jbI g i).bind fun b=>
 let d:=(w64 (f+b))
 cond (decide (e<d)) (
 let c:=(w64 (a+7))
 some (.inl (g,i,f,c))) (
 some (.inr a))
def jdn [LP] (d c b a:Int):Option (Int):=
 LP.lp (unc4 (j5k)) (d,c,b,a)
theorem jf3 (c d a b):jdn c d a b=lpK (j5k c d a b) (fun h=>jdn h.1 h.2.1 h.2.2.1 h.2.2.2):=j0a _ _
def jkr [LP] (e c b a:Int):Option (Int×Int):=
 (jkq (e,(c,1))).bind fun f=>
 let k:Bool:=(cond (cond (f.2 != 0) true (decide (b<1))) true (decide (b>5)))
 let j:Bool:=(cond (cond k true (decide (a<0))) true (decide (a>6)))
 cond j (
 some (0,1)) (
 (jdm e c b a f.1 f.1).bind fun d=>
 cond (decide (d.2.2.1<5)) (
 let g:=(w64 (d.2.2.1-1))
 let l:=(w64 (7*g))
 let i:=(w64 (d.2.2.2.2+l))
 some (i,0)) (
 (jdn d.1 d.2.1 d.2.2.2.1 d.2.2.2.2).bind fun m=>
 some (m,0)))
def j2A (j:Tn47) (i k c f a:Int) (d:Tn2):Option ((Tn47×Int×Int×Int×Int×Int×Tn2) ⊕ ((Tn47×Int×Int×Int×Int×Int×Tn2))):=
 cond (decide (c>0)) (
 let b:=(w64 (c-1))
 cond (inR b (List.length d)) (
 let g:=(List.getD d (Int.toNat b) (0,0)).1
 cond (decide (g>f)) (
 let e:=(w64 (c-1))
 some (.inl (j,i,k,e,f,a,d))) (
 some (.inr (j,i,k,c,f,a,d)))) none) (
 some (.inr (j,i,k,c,f,a,d)))
def j3Q [LP] (d:Tn47) (b g c f a:Int) (e:Tn2):Option ((Tn47×Int×Int×Int×Int×Int×Tn2)):=
 LP.lp (unc7 (j2A)) (d,b,g,c,f,a,e)
theorem j89 (d b g c f a e):j3Q d b g c f a e=lpK (j2A d b g c f a e) (fun h=>j3Q h.1 h.2.1 h.2.2.1 h.2.2.2.1 h.2.2.2.2.1 h.2.2.2.2.2.1 h.2.2.2.2.2.2):=j0a _ _
def j2B [LP] (d:Tn47) (c u:Int) (t:Tn2):Option ((Tn47×Int×Int×Tn2) ⊕ ((Tn47×Int×Tn2))):=
 cond (inR c (List.length d)) (
 let j:=(List.getD d (Int.toNat c) (0,(0,(0,(0,(0,(0,0)))))))
 cond (decide (u≤j.2.1)) (
 cond (inR c (List.length d)) (
 let p:=(List.getD d (Int.toNat c) (0,(0,(0,(0,(0,(0,0)))))))
 cond (inR c (List.length d)) (
 let l:=(List.getD d (Int.toNat c) (0,(0,(0,(0,(0,(0,0)))))))
 cond (inR c (List.length d)) (
 let o:=(List.getD d (Int.toNat c) (0,(0,(0,(0,(0,(0,0)))))))
 (jkr u p.2.2.1 l.2.2.2.1 o.2.2.2.2.1).bind fun k=>
 let r:=(w64 (k.1*86400))
 cond (inR c (List.length d)) (
 let q:=(List.getD d (Int.toNat c) (0,(0,(0,(0,(0,(0,0)))))))
 let n:=(w64 (r+q.2.2.2.2.2.1))
 cond (inR c (List.length d)) (
 let m:=(List.getD d (Int.toNat c) (0,(0,(0,(0,(0,(0,0)))))))
 let i:=(Int.ofNat (List.length t))
 (j3Q d c u i n m.2.2.2.2.2.2 t).bind fun a=>
 let g:Tn2:=[(a.2.2.2.2.1,a.2.2.2.2.2.1)]
 cond (decide (List.length a.2.2.2.2.2.2+List.length g≤j0b)) (
 let b:Tn2:=(a.2.2.2.2.2.2++g)
 let e:=(w64 (a.2.2.2.1+1))
 cond (decide (0≤e)&&decide (e≤(Int.ofNat (List.length b)))) (
 cond (decide (0≤a.2.2.2.1)&&decide (a.2.2.2.1≤(Int.ofNat (List.length b)))) (
 let f:Tn2:=(over b (Int.toNat e) (List.drop (Int.toNat a.2.2.2.1) b))
 let w:=(Int.ofNat (min (List.length (List.drop (Int.toNat a.2.2.2.1) b)) (List.length b-(Int.toNat e))))
 cond (inR a.2.2.2.1 (List.length f)) (
 let v:Tn2:=(List.set f (Int.toNat a.2.2.2.1) (a.2.2.2.2.1,a.2.2.2.2.2.1))
 let s:=(w64 (a.2.2.1+1))
 some (.inl (a.1,a.2.1,s,v))) none) none) none) none) none) none) none) none) none) (
 some (.inr (d,c,t)))) none
def j50 [LP] (c:Tn47) (a d:Int) (b:Tn2):Option ((Tn47×Int×Tn2)):=
 LP.lp (unc4 (j2B)) (c,a,d,b)
theorem j8a (c a d b):j50 c a d b=lpK (j2B c a d b) (fun h=>j50 h.1 h.2.1 h.2.2.1 h.2.2.2):=j0a _ _
def j2C [LP] (d:Tn47) (c:Int) (g:Tn2):Option ((Tn47×Int×Tn2) ⊕ (Tn2)):=
 let b:=(Int.ofNat (List.length d))
 cond (decide (c<b)) (
 cond (inR c (List.length d)) (
 let e:=(List.getD d (Int.toNat c) (0,(0,(0,(0,(0,(0,0)))))))
 (j50 d c e.1 g).bind fun a=>
 let f:=(w64 (a.2.1+1))
 some (.inl (a.1,f,a.2.2))) none) (
 some (.inr g))
def j3R [LP] (c:Tn47) (a:Int) (b:Tn2):Option (Tn2):=
 LP.lp (unc3 (j2C)) (c,a,b)
theorem j8b (c a b):j3R c a b=lpK (j2C c a b) (fun h=>j3R h.1 h.2.1 h.2.2):=j0a _ _
def j6V [LP] (a:Tn47):Option (Tn2):=
 (j3R a 0 ([]:Tn2)).bind fun b=>
 some b
def j2D (o c:Int) (n:ByteArray) (d:Int) (b:Tn47):Option ((Int×Int×ByteArray×Int×Tn47) ⊕ (Int ⊕ (Int×ByteArray×Int×Tn47))):=
 let l:=(Int.ofNat (List.length b))
 cond (decide (c<l)) (
 cond (inR c (List.length b)) (
 let a:=(List.getD b (Int.toNat c) (0,(0,(0,(0,(0,(0,0)))))))
 (jcT (a.1,(a.2.1,(a.2.2.1,(a.2.2.2.1,(a.2.2.2.2.1,(a.2.2.2.2.2.1,a.2.2.2.2.2.2))))))).bind fun g=>
 cond (!g) (
 some (.inr (.inl 1))) (
 cond (inR c (List.length b)) (
 let m:=(List.getD b (Int.toNat c) (0,(0,(0,(0,(0,(0,0)))))))
 cond (inR c (List.length b)) (
 let f:=(List.getD b (Int.toNat c) (0,(0,(0,(0,(0,(0,0)))))))
 let k:=(w64 (m.2.1-f.1))
 let i:=(w64 (k+1))
 let e:=(w64 (o+i))
 let j:=(w64 (c+1))
 some (.inl (e,j,n,d,b))) none) none)) none) (
 some (.inr (.inr (o,n,d,b))))
def j3S [LP] (d e:Int) (c:ByteArray) (b:Int) (a:Tn47):Option (Int ⊕ (Int×ByteArray×Int×Tn47)):=
 LP.lp (unc5 (j2D)) (d,e,c,b,a)
theorem j8c (d e c b a):j3S d e c b a=lpK (j2D d e c b a) (fun h=>j3S h.1 h.2.1 h.2.2.1 h.2.2.2.1 h.2.2.2.2):=j0a _ _
def j2E (o c:Int) (e d:Tn2):Option ((Int×Int×Tn2×Tn2) ⊕ (Int ⊕ Tn2)):=
 let r:=(Int.ofNat (List.length d))
 cond (decide (c<r)) (
 cond (inR c (List.length d)) (
 let q:=(List.getD d (Int.toNat c) (0,0)).2
 cond (q==o) (
 let y:=(w64 (c+1))
 some (.inl (o,y,e,d))) (
 cond (inR c (List.length d)) (
 let t:=(List.getD d (Int.toNat c) (0,0)).1
 let b:=(w64 (t-o))
 cond (inR c (List.length d)) (
 let a:=(List.getD d (Int.toNat c) (0,0)).2
 let s:=(w64 (a-o))
 (jb6 s (-86399) 86399).bind fun x=>
 cond (!x) (
 some (.inr (.inl 6))) (
 (jb6 b 0 8589934592).bind fun u=>
 cond (!u) (
 some (.inr (.inl 6))) (
 let p:=(Int.ofNat (List.length e))
 cond (decide (p>0)) (
 let k:=(Int.ofNat (List.length e))
 let i:=(w64 (k-1))
 cond (inR i (List.length e)) (
 let n:=(List.getD e (Int.toNat i) (0,0)).1
 let l:=(w64 (b-n))
 cond (decide (l<604800)) (
 some (.inr (.inl 6))) (
 let g:Tn2:=[(b,a)]
 cond (decide (List.length e+List.length g≤j0b)) (
 let m:Tn2:=(e++g)
 let w:=(w64 (c+1))
 some (.inl (a,w,m,d))) none)) none) (
 let f:Tn2:=[(b,a)]
 cond (decide (List.length e+List.length f≤j0b)) (
 let j:Tn2:=(e++f)
 let v:=(w64 (c+1))
 some (.inl (a,v,j,d))) none)))) none) none)) none) (
 some (.inr (.inr e)))
def j3T [LP] (a c:Int) (b d:Tn2):Option (Int ⊕ Tn2):=
 LP.lp (unc4 (j2E)) (a,c,b,d)
theorem j8d (a d c b):j3T a d c b=lpK (j2E a d c b) (fun h=>j3T h.1 h.2.1 h.2.2.1 h.2.2.2):=j0a _ _
def j6W [LP] (a:Tn57):Option (Tn2×Int):=
 (jb6 a.2.1 (-64800) 64800).bind fun c=>
 cond (!c) (
 some (([]:Tn2),1)) (
 let b:=(Int.ofNat (List.length a.2.2))
 cond (decide (b>16)) (
 some (([]:Tn2),5)) (
 (j3S 0 0 a.1 a.2.1 a.2.2).bind fun i=>
 sumC i (fun k=>
 some (([]:Tn2),k)) (fun j=>
 cond (decide (j.1>640)) (
 some (([]:Tn2),5)) (
 (j6V j.2.2.2).bind fun f=>
 (j3T j.2.2.1 0 ([]:Tn2) f).bind fun g=>
 sumC g (fun d=>
 some (([]:Tn2),d)) (fun e=>
 some (e,0))))))
end
end Go.Proofs.Pw
