/- Plain functions, printed by a program out of the given code. -/
import Derived.Test.YtaieocafhcjelaaGreatALS
open Go Go.Lft
set_option linter.unusedVariables false
namespace Go.Proofs.Pw
noncomputable section
abbrev Tn2:Type:=(List (Int×Int))
abbrev Tn1:Type:=(Int×(List Int))
abbrev Tn4:Type:=(Int×(Int×Int))
abbrev Tn17:Type:=(List Tn4)
abbrev Tn15:Type:=(Int×Tn2)
abbrev Tn22:Type:=(ByteArray×Tn1)
abbrev Tn23:Type:=(List Tn15)
abbrev Tn28:Type:=(Int×(Int×Tn4))
abbrev Tn30:Type:=(List Tn22)
abbrev Tn34:Type:=(List Tn28)
abbrev Tn43:Type:=(Int×(Int×Tn28))
abbrev Tn47:Type:=(List Tn43)
abbrev Tn49:Type:=(ByteArray×(Int×(Tn2×(Int×(Int×Bool)))))
abbrev Tn53:Type:=(List Tn49)
abbrev Tn57:Type:=(ByteArray×(Int×Tn47))
abbrev Tn59:Type:=(List Tn57)
abbrev Tn64:Type:=(ByteArray×(Int×((Int×Int)×(Int×(Int×((List Int)×(Tn2×(Int×Int))))))))
abbrev Tn65:Type:=(List Tn64)
abbrev Tn69:Type:=(ByteArray×(Tn65×Tn34))
abbrev Tn70:Type:=(List Tn69)
abbrev Tn76:Type:=(Tn59×(Tn53×(Tn30×Tn70)))
abbrev Tn78:Type:=(Tn76×Tn23)
abbrev unc2 {A0 A1 R:Type} (f:A0→A1→R) (h:A0×A1):R:=f h.1 h.2
abbrev unc3 {A0 A1 A2 R:Type} (f:A0→A1→A2→R) (h:A0×A1×A2):R:=f h.1 h.2.1 h.2.2
abbrev unc4 {A0 A1 A2 A3 R:Type} (f:A0→A1→A2→A3→R) (h:A0×A1×A2×A3):R:=f h.1 h.2.1 h.2.2.1 h.2.2.2
abbrev unc5 {A0 A1 A2 A3 A4 R:Type} (f:A0→A1→A2→A3→A4→R) (h:A0×A1×A2×A3×A4):R:=f h.1 h.2.1 h.2.2.1 h.2.2.2.1 h.2.2.2.2
abbrev unc6 {A0 A1 A2 A3 A4 A5 R:Type} (f:A0→A1→A2→A3→A4→A5→R) (h:A0×A1×A2×A3×A4×A5):R:=f h.1 h.2.1 h.2.2.1 h.2.2.2.1 h.2.2.2.2.1 h.2.2.2.2.2
abbrev unc7 {A0 A1 A2 A3 A4 A5 A6 R:Type} (f:A0→A1→A2→A3→A4→A5→A6→R) (h:A0×A1×A2×A3×A4×A5×A6):R:=f h.1 h.2.1 h.2.2.1 h.2.2.2.1 h.2.2.2.2.1 h.2.2.2.2.2.1 h.2.2.2.2.2.2
abbrev unc8 {A0 A1 A2 A3 A4 A5 A6 A7 R:Type} (f:A0→A1→A2→A3→A4→A5→A6→A7→R) (h:A0×A1×A2×A3×A4×A5×A6×A7):R:=f h.1 h.2.1 h.2.2.1 h.2.2.2.1 h.2.2.2.2.1 h.2.2.2.2.2.1 h.2.2.2.2.2.2.1 h.2.2.2.2.2.2.2
abbrev unc9 {A0 A1 A2 A3 A4 A5 A6 A7 A8 R:Type} (f:A0→A1→A2→A3→A4→A5→A6→A7→A8→R) (h:A0×A1×A2×A3×A4×A5×A6×A7×A8):R:=f h.1 h.2.1 h.2.2.1 h.2.2.2.1 h.2.2.2.2.1 h.2.2.2.2.2.1 h.2.2.2.2.2.2.1 h.2.2.2.2.2.2.2.1 h.2.2.2.2.2.2.2.2
abbrev jlv {A0 A1 A2 A3 A4 A5 A6 A7 A8 A9 R:Type} (f:A0→A1→A2→A3→A4→A5→A6→A7→A8→A9→R) (h:A0×A1×A2×A3×A4×A5×A6×A7×A8×A9):R:=f h.1 h.2.1 h.2.2.1 h.2.2.2.1 h.2.2.2.2.1 h.2.2.2.2.2.1 h.2.2.2.2.2.2.1 h.2.2.2.2.2.2.2.1 h.2.2.2.2.2.2.2.2.1 h.2.2.2.2.2.2.2.2.2
abbrev jrr {A0 A1 A2 A3 A4 A5 A6 A7 A8 A9 A10 R:Type} (f:A0→A1→A2→A3→A4→A5→A6→A7→A8→A9→A10→R) (h:A0×A1×A2×A3×A4×A5×A6×A7×A8×A9×A10):R:=f h.1 h.2.1 h.2.2.1 h.2.2.2.1 h.2.2.2.2.1 h.2.2.2.2.2.1 h.2.2.2.2.2.2.1 h.2.2.2.2.2.2.2.1 h.2.2.2.2.2.2.2.2.1 h.2.2.2.2.2.2.2.2.2.1 h.2.2.2.2.2.2.2.2.2.2
abbrev jz4 {A0 A1 A2 A3 A4 A5 A6 A7 A8 A9 A10 A11 R:Type} (f:A0→A1→A2→A3→A4→A5→A6→A7→A8→A9→A10→A11→R) (h:A0×A1×A2×A3×A4×A5×A6×A7×A8×A9×A10×A11):R:=f h.1 h.2.1 h.2.2.1 h.2.2.2.1 h.2.2.2.2.1 h.2.2.2.2.2.1 h.2.2.2.2.2.2.1 h.2.2.2.2.2.2.2.1 h.2.2.2.2.2.2.2.2.1 h.2.2.2.2.2.2.2.2.2.1 h.2.2.2.2.2.2.2.2.2.2.1 h.2.2.2.2.2.2.2.2.2.2.2
abbrev jvw {A0 A1 A2 A3 A4 A5 A6 A7 A8 A9 A10 A11 A12 R:Type} (f:A0→A1→A2→A3→A4→A5→A6→A7→A8→A9→A10→A11→A12→R) (h:A0×A1×A2×A3×A4×A5×A6×A7×A8×A9×A10×A11×A12):R:=f h.1 h.2.1 h.2.2.1 h.2.2.2.1 h.2.2.2.2.1 h.2.2.2.2.2.1 h.2.2.2.2.2.2.1 h.2.2.2.2.2.2.2.1 h.2.2.2.2.2.2.2.2.1 h.2.2.2.2.2.2.2.2.2.1 h.2.2.2.2.2.2.2.2.2.2.1 h.2.2.2.2.2.2.2.2.2.2.2.1 h.2.2.2.2.2.2.2.2.2.2.2.2
abbrev jnS {A0 A1 A2 A3 A4 A5 A6 A7 A8 A9 A10 A11 A12 A13 R:Type} (f:A0→A1→A2→A3→A4→A5→A6→A7→A8→A9→A10→A11→A12→A13→R) (h:A0×A1×A2×A3×A4×A5×A6×A7×A8×A9×A10×A11×A12×A13):R:=f h.1 h.2.1 h.2.2.1 h.2.2.2.1 h.2.2.2.2.1 h.2.2.2.2.2.1 h.2.2.2.2.2.2.1 h.2.2.2.2.2.2.2.1 h.2.2.2.2.2.2.2.2.1 h.2.2.2.2.2.2.2.2.2.1 h.2.2.2.2.2.2.2.2.2.2.1 h.2.2.2.2.2.2.2.2.2.2.2.1 h.2.2.2.2.2.2.2.2.2.2.2.2.1 h.2.2.2.2.2.2.2.2.2.2.2.2.2
abbrev jz5 {A0 A1 A2 A3 A4 A5 A6 A7 A8 A9 A10 A11 A12 A13 A14 R:Type} (f:A0→A1→A2→A3→A4→A5→A6→A7→A8→A9→A10→A11→A12→A13→A14→R) (h:A0×A1×A2×A3×A4×A5×A6×A7×A8×A9×A10×A11×A12×A13×A14):R:=f h.1 h.2.1 h.2.2.1 h.2.2.2.1 h.2.2.2.2.1 h.2.2.2.2.2.1 h.2.2.2.2.2.2.1 h.2.2.2.2.2.2.2.1 h.2.2.2.2.2.2.2.2.1 h.2.2.2.2.2.2.2.2.2.1 h.2.2.2.2.2.2.2.2.2.2.1 h.2.2.2.2.2.2.2.2.2.2.2.1 h.2.2.2.2.2.2.2.2.2.2.2.2.1 h.2.2.2.2.2.2.2.2.2.2.2.2.2.1 h.2.2.2.2.2.2.2.2.2.2.2.2.2.2
abbrev jC1 {A0 A1 A2 A3 A4 A5 A6 A7 A8 A9 A10 A11 A12 A13 A14 A15 R:Type} (f:A0→A1→A2→A3→A4→A5→A6→A7→A8→A9→A10→A11→A12→A13→A14→A15→R) (h:A0×A1×A2×A3×A4×A5×A6×A7×A8×A9×A10×A11×A12×A13×A14×A15):R:=f h.1 h.2.1 h.2.2.1 h.2.2.2.1 h.2.2.2.2.1 h.2.2.2.2.2.1 h.2.2.2.2.2.2.1 h.2.2.2.2.2.2.2.1 h.2.2.2.2.2.2.2.2.1 h.2.2.2.2.2.2.2.2.2.1 h.2.2.2.2.2.2.2.2.2.2.1 h.2.2.2.2.2.2.2.2.2.2.2.1 h.2.2.2.2.2.2.2.2.2.2.2.2.1 h.2.2.2.2.2.2.2.2.2.2.2.2.2.1 h.2.2.2.2.2.2.2.2.2.2.2.2.2.2.1 h.2.2.2.2.2.2.2.2.2.2.2.2.2.2.2
abbrev jz6 {A0 A1 A2 A3 A4 A5 A6 A7 A8 A9 A10 A11 A12 A13 A14 A15 A16 A17 R:Type} (f:A0→A1→A2→A3→A4→A5→A6→A7→A8→A9→A10→A11→A12→A13→A14→A15→A16→A17→R) (h:A0×A1×A2×A3×A4×A5×A6×A7×A8×A9×A10×A11×A12×A13×A14×A15×A16×A17):R:=f h.1 h.2.1 h.2.2.1 h.2.2.2.1 h.2.2.2.2.1 h.2.2.2.2.2.1 h.2.2.2.2.2.2.1 h.2.2.2.2.2.2.2.1 h.2.2.2.2.2.2.2.2.1 h.2.2.2.2.2.2.2.2.2.1 h.2.2.2.2.2.2.2.2.2.2.1 h.2.2.2.2.2.2.2.2.2.2.2.1 h.2.2.2.2.2.2.2.2.2.2.2.2.1 h.2.2.2.2.2.2.2.2.2.2.2.2.2.1 h.2.2.2.2.2.2.2.2.2.2.2.2.2.2.1 h.2.2.2.2.2.2.2.2.2.2.2.2.2.2.2.1 h.2.2.2.2.2.2.2.2.2.2.2.2.2.2.2.2.1 h.2.2.2.2.2.2.2.2.2.2.2.2.2.2.2.2.2
abbrev jC2 {A0 A1 A2 A3 A4 A5 A6 A7 A8 A9 A10 A11 A12 A13 A14 A15 A16 A17 A18 A19 R:Type} (f:A0→A1→A2→A3→A4→A5→A6→A7→A8→A9→A10→A11→A12→A13→A14→A15→A16→A17→A18→A19→R) (h:A0×A1×A2×A3×A4×A5×A6×A7×A8×A9×A10×A11×A12×A13×A14×A15×A16×A17×A18×A19):R:=f h.1 h.2.1 h.2.2.1 h.2.2.2.1 h.2.2.2.2.1 h.2.2.2.2.2.1 h.2.2.2.2.2.2.1 h.2.2.2.2.2.2.2.1 h.2.2.2.2.2.2.2.2.1 h.2.2.2.2.2.2.2.2.2.1 h.2.2.2.2.2.2.2.2.2.2.1 h.2.2.2.2.2.2.2.2.2.2.2.1 h.2.2.2.2.2.2.2.2.2.2.2.2.1 h.2.2.2.2.2.2.2.2.2.2.2.2.2.1 h.2.2.2.2.2.2.2.2.2.2.2.2.2.2.1 h.2.2.2.2.2.2.2.2.2.2.2.2.2.2.2.1 h.2.2.2.2.2.2.2.2.2.2.2.2.2.2.2.2.1 h.2.2.2.2.2.2.2.2.2.2.2.2.2.2.2.2.2.1 h.2.2.2.2.2.2.2.2.2.2.2.2.2.2.2.2.2.2.1 h.2.2.2.2.2.2.2.2.2.2.2.2.2.2.2.2.2.2.2
abbrev jz7 {A0 A1 A2 A3 A4 A5 A6 A7 A8 A9 A10 A11 A12 A13 A14 A15 A16 A17 A18 A19 A20 R:Type} (f:A0→A1→A2→A3→A4→A5→A6→A7→A8→A9→A10→A11→A12→A13→A14→A15→A16→A17→A18→A19→A20→R) (h:A0×A1×A2×A3×A4×A5×A6×A7×A8×A9×A10×A11×A12×A13×A14×A15×A16×A17×A18×A19×A20):R:=f h.1 h.2.1 h.2.2.1 h.2.2.2.1 h.2.2.2.2.1 h.2.2.2.2.2.1 h.2.2.2.2.2.2.1 h.2.2.2.2.2.2.2.1 h.2.2.2.2.2.2.2.2.1 h.2.2.2.2.2.2.2.2.2.1 h.2.2.2.2.2.2.2.2.2.2.1 h.2.2.2.2.2.2.2.2.2.2.2.1 h.2.2.2.2.2.2.2.2.2.2.2.2.1 h.2.2.2.2.2.2.2.2.2.2.2.2.2.1 h.2.2.2.2.2.2.2.2.2.2.2.2.2.2.1 h.2.2.2.2.2.2.2.2.2.2.2.2.2.2.2.1 h.2.2.2.2.2.2.2.2.2.2.2.2.2.2.2.2.1 h.2.2.2.2.2.2.2.2.2.2.2.2.2.2.2.2.2.1 h.2.2.2.2.2.2.2.2.2.2.2.2.2.2.2.2.2.2.1 h.2.2.2.2.2.2.2.2.2.2.2.2.2.2.2.2.2.2.2.1 h.2.2.2.2.2.2.2.2.2.2.2.2.2.2.2.2.2.2.2.2
abbrev jC3 {A0 A1 A2 A3 A4 A5 A6 A7 A8 A9 A10 A11 A12 A13 A14 A15 A16 A17 A18 A19 A20 A21 R:Type} (f:A0→A1→A2→A3→A4→A5→A6→A7→A8→A9→A10→A11→A12→A13→A14→A15→A16→A17→A18→A19→A20→A21→R) (h:A0×A1×A2×A3×A4×A5×A6×A7×A8×A9×A10×A11×A12×A13×A14×A15×A16×A17×A18×A19×A20×A21):R:=f h.1 h.2.1 h.2.2.1 h.2.2.2.1 h.2.2.2.2.1 h.2.2.2.2.2.1 h.2.2.2.2.2.2.1 h.2.2.2.2.2.2.2.1 h.2.2.2.2.2.2.2.2.1 h.2.2.2.2.2.2.2.2.2.1 h.2.2.2.2.2.2.2.2.2.2.1 h.2.2.2.2.2.2.2.2.2.2.2.1 h.2.2.2.2.2.2.2.2.2.2.2.2.1 h.2.2.2.2.2.2.2.2.2.2.2.2.2.1 h.2.2.2.2.2.2.2.2.2.2.2.2.2.2.1 h.2.2.2.2.2.2.2.2.2.2.2.2.2.2.2.1 h.2.2.2.2.2.2.2.2.2.2.2.2.2.2.2.2.1 h.2.2.2.2.2.2.2.2.2.2.2.2.2.2.2.2.2.1 h.2.2.2.2.2.2.2.2.2.2.2.2.2.2.2.2.2.2.1 h.2.2.2.2.2.2.2.2.2.2.2.2.2.2.2.2.2.2.2.1 h.2.2.2.2.2.2.2.2.2.2.2.2.2.2.2.2.2.2.2.2.1 h.2.2.2.2.2.2.2.2.2.2.2.2.2.2.2.2.2.2.2.2.2
abbrev jC4 {A0 A1 A2 A3 A4 A5 A6 A7 A8 A9 A10 A11 A12 A13 A14 A15 A16 A17 A18 A19 A20 A21 A22 A23 R:Type} (f:A0→A1→A2→A3→A4→A5→A6→A7→A8→A9→A10→A11→A12→A13→A14→A15→A16→A17→A18→A19→A20→A21→A22→A23→R) (h:A0×A1×A2×A3×A4×A5×A6×A7×A8×A9×A10×A11×A12×A13×A14×A15×A16×A17×A18×A19×A20×A21×A22×A23):R:=f h.1 h.2.1 h.2.2.1 h.2.2.2.1 h.2.2.2.2.1 h.2.2.2.2.2.1 h.2.2.2.2.2.2.1 h.2.2.2.2.2.2.2.1 h.2.2.2.2.2.2.2.2.1 h.2.2.2.2.2.2.2.2.2.1 h.2.2.2.2.2.2.2.2.2.2.1 h.2.2.2.2.2.2.2.2.2.2.2.1 h.2.2.2.2.2.2.2.2.2.2.2.2.1 h.2.2.2.2.2.2.2.2.2.2.2.2.2.1 h.2.2.2.2.2.2.2.2.2.2.2.2.2.2.1 h.2.2.2.2.2.2.2.2.2.2.2.2.2.2.2.1 h.2.2.2.2.2.2.2.2.2.2.2.2.2.2.2.2.1 h.2.2.2.2.2.2.2.2.2.2.2.2.2.2.2.2.2.1 h.2.2.2.2.2.2.2.2.2.2.2.2.2.2.2.2.2.2.1 h.2.2.2.2.2.2.2.2.2.2.2.2.2.2.2.2.2.2.2.1 h.2.2.2.2.2.2.2.2.2.2.2.2.2.2.2.2.2.2.2.2.1 h.2.2.2.2.2.2.2.2.2.2.2.2.2.2.2.2.2.2.2.2.2.1 h.2.2.2.2.2.2.2.2.2.2.2.2.2.2.2.2.2.2.2.2.2.2.1 h.2.2.2.2.2.2.2.2.2.2.2.2.2.2.2.2.2.2.2.2.2.2.2
def jkA (a:(List Int)):Option (Bool):=
 let b:=(Int.ofNat (List.length a))
 some (decide (b≤500))
def jmW  : Option (Tn59×Tn53×Tn30×Tn70):=
 let f:Tn59:=[((ByteArray.mk #[122]),(0,([]:Tn47)))]
 let g:Tn53:=[((ByteArray.mk #[97]),(0,(([]:Tn2),(0,(0,false))))),((ByteArray.mk #[98]),(0,(([]:Tn2),(0,(0,false))))),((ByteArray.mk #[99]),(0,(([]:Tn2),(0,(0,false)))))]
 let b:(List Int):=[0,1]
 let a:(List Int):=[2]
 let e:Tn2:=[(0,86400)]
 let c:Tn65:=[((ByteArray.mk #[108,111,119]),(0,((4,0),(2,(1,(b,(([]:Tn2),(0,0)))))))),((ByteArray.mk #[116,111,112]),(0,((4,0),(2,(1,(a,(e,(0,0))))))))]
 let d:Tn70:=[((ByteArray.mk #[115]),(c,([]:Tn34)))]
 some (f,g,([]:Tn30),d)
def jjt  : Option (Tn76):=
 (jmW).bind fun a=>
 let c:Tn34:=[(2,(0,(1,(432000,518400)))),(1,(2,(0,(432000,475200))))]
 cond (inR 0 (List.length a.2.2.2)) (
 let b:Tn70:=(List.set a.2.2.2 0 ((List.getD a.2.2.2 0 (ByteArray.empty,(([]:Tn65),([]:Tn34)))).1,((List.getD a.2.2.2 0 (ByteArray.empty,(([]:Tn65),([]:Tn34)))).2.1,c)))
 some (a.1,(a.2.1,(a.2.2.1,b)))) none
def jbg (a:Tn57):Option (ByteArray):=
 some a.1
def jcg (a:Int):Option (Bool):=
 some (cond (decide (a≥97)) (decide (a≤122)) false)
def jio (a:Int):Option (Bool):=
 some (cond (decide (a≥48)) (decide (a≤57)) false)
def j70 (d:ByteArray) (c b:Int):Option ((ByteArray×Int×Int) ⊕ (Bool ⊕ Unit)):=
 cond (decide (b<c)) (
 cond (inR b (ByteArray.size d)) (
 let a:=(j3p d b)
 (jcg a).bind fun i=>
 cond (!i) (
 (jio a).bind fun g=>
 cond (cond (cond (!g) (a != 95) false) (a != 45) false) (
 some (.inr (.inl false))) (
 let f:=(w64 (b+1))
 some (.inl (d,c,f)))) (
 let e:=(w64 (b+1))
 some (.inl (d,c,e)))) none) (
 some (.inr (.inr ())))
def j6g [LP] (c:ByteArray) (b a:Int):Option (Bool ⊕ Unit):=
 LP.lp (unc3 (j70)) (c,b,a)
theorem jlw (c b a):j6g c b a=lpK (j70 c b a) (fun h=>j6g h.1 h.2.1 h.2.2):=j04 _ _
def j51 [LP] (a:ByteArray):Option (Bool):=
 let g:=(Int.ofNat (ByteArray.size a))
 let b:Bool:=(cond (ByteArray.toList a==ByteArray.toList ByteArray.empty) true (decide (g>24)))
 cond ((inR 0 (ByteArray.size a)) || !(!b)) (
 let c:=(j3p a 0)
 cond b (
 some false) (
 (jcg c).bind fun d=>
 cond (!d) (
 some false) (
 let e:=(Int.ofNat (ByteArray.size a))
 (j6g a e 0).bind fun f=>
 sumC f (fun i=>
 some i) (fun j=>
 some true)))) none
def j3K [LP] (b:ByteArray) (a:(List (ByteArray×Bool))):Option (Int×(List (ByteArray×Bool))):=
 (j51 b).bind fun d=>
 cond (!d) (
 some (2,a)) (
 cond (j6u false a b) (
 some (4,a)) (
 let c:(List (ByteArray×Bool)):=(j7V a b true)
 some (0,c)))
def jbh (a b c:Int):Option (Bool):=
 some (cond (decide (a≥b)) (decide (a≤c)) false)
def jgz (a:Tn43):Option (Int):=
 (jbh a.1 1970 2240).bind fun i=>
 cond (!i) (
 some 1) (
 (jbh a.2.1 a.1 2240).bind fun c=>
 cond (!c) (
 some 1) (
 (jbh a.2.2.1 1 12).bind fun d=>
 cond (!d) (
 some 1) (
 (jbh a.2.2.2.1 1 5).bind fun f=>
 cond (!f) (
 some 1) (
 (jbh a.2.2.2.2.1 0 6).bind fun b=>
 cond (!b) (
 some 1) (
 (jbh a.2.2.2.2.2.1 0 86399).bind fun g=>
 cond (!g) (
 some 1) (
 (jbh a.2.2.2.2.2.2 (-64800) 64800).bind fun e=>
 cond (!e) (
 some 1) (
 some 0)))))))
def jkB (a:Int):Option (Bool):=
 let d:=(Int.tmod a 4)
 let c:=(Int.tmod a 100)
 let b:=(Int.tmod a 400)
 some (cond (d==0) (cond (c != 0) true (b==0)) false)
def j7H (c a:Int):Option (Int):=
 cond (cond (decide (a<1)) true (decide (a>12))) (
 some 0) (
 let f:(List Int):=[31,28,31,30,31,30,31,31,30,31,30,31]
 let j:(List Int):=(List.replicate 12 0)
 cond (a==2) (
 (jkB c).bind fun i=>
 cond i (
 some 29) (
 let e:=(w64 (a-1))
 cond (inR e 12) (
 let g:=(List.getD f (Int.toNat e) 0)
 some g) none)) (
 let b:=(w64 (a-1))
 cond (inR b 12) (
 let d:=(List.getD f (Int.toNat b) 0)
 some d) none))
def jch (a:Tn4):Option (Bool):=
 cond (decide (a.1≥1970)) (
 cond (decide (a.1≤2240)) (
 cond (decide (a.2.2≥1)) (
 (j7H a.1 a.2.1).bind fun b=>
 some (decide (a.2.2≤b))) (
 some false)) (
 some false)) (
 some false)
def j8H (b a:Int):Option (Int):=
 cond (!(a==0)) (
 let e:=(w64 (Int.tdiv b a))
 cond (!(a==0)) (
 let c:=(Int.tmod b a)
 cond (decide (c<0)) (
 let d:=(w64 (e-1))
 some d) (
 some e)) none) none
def j5y (a:Int):Option (Int):=
 let b:=(w64 (a-1))
 let l:=(w64 (a-1970))
 let k:=(w64 (365*l))
 (j8H b 4).bind fun g=>
 let c:=(w64 (k+g))
 (j8H b 100).bind fun e=>
 let f:=(w64 (c-e))
 (j8H b 400).bind fun i=>
 let j:=(w64 (f+i))
 let d:=(w64 (j-477))
 some d
def j4i (g e i a f:Int):Option ((Int×Int×Int×Int×Int) ⊕ (Int)):=
 cond (decide (e<a)) (
 (j7H i e).bind fun d=>
 let b:=(w64 (g+d))
 let c:=(w64 (e+1))
 some (.inl (b,c,i,a,f))) (
 some (.inr g))
def j5R [LP] (d c e b a:Int):Option (Int):=
 LP.lp (unc5 (j4i)) (d,c,e,b,a)
theorem jds (d c e b a):j5R d c e b a=lpK (j4i d c e b a) (fun h=>j5R h.1 h.2.1 h.2.2.1 h.2.2.2.1 h.2.2.2.2):=j04 _ _
def j7i [LP] (a:Tn4):Option (Int):=
 (j5y a.1).bind fun e=>
 let c:=(w64 (e+a.2.2))
 let b:=(w64 (c-1))
 (j5R b 1 a.1 a.2.1 a.2.2).bind fun d=>
 some d
def j6h (a:Int):Option (Int):=
 let b:=(Int.tmod a 7)
 let d:=(w64 (b+10))
 let c:=(Int.tmod d 7)
 some c
def jci [LP] (d b c a:Int):Option (Int×Int):=
 (jch (d,(b,1))).bind fun n=>
 let q:Bool:=(cond (cond (!n) true (decide (c<1))) true (decide (c>5)))
 let r:Bool:=(cond (cond q true (decide (a<0))) true (decide (a>6)))
 cond r (
 some (0,1)) (
 (j7i (d,(b,1))).bind fun f=>
 (j6h f).bind fun k=>
 let g:=(w64 (a-k))
 let p:=(w64 (g+7))
 let j:=(Int.tmod p 7)
 let s:=(w64 (f+j))
 let m:=(w64 (c-1))
 let i:=(w64 (7*m))
 let e:=(w64 (s+i))
 (j7H d b).bind fun l=>
 let t:=(w64 (f+l))
 cond (decide (e≥t)) (
 let o:=(w64 (e-7))
 some (o,0)) (
 some (e,0)))
def j8I (b a:(Int×Int)):Option (Int):=
 let c:=(w64 (b.1-a.1))
 some c
def j0o (o u t b:Int) (a:Tn2):Option ((Int×Int×Int×Int×Tn2) ⊕ ((Int×Int×Int×Tn2))):=
 cond (decide (b>o)) (
 cond (inR b (List.length a)) (
 let p:=(List.getD a (Int.toNat b) (0,0)).1
 let i:=(List.getD a (Int.toNat b) (0,0)).2
 let c:=(w64 (b-1))
 cond (inR c (List.length a)) (
 let r:=(List.getD a (Int.toNat c) (0,0)).1
 let l:=(List.getD a (Int.toNat c) (0,0)).2
 (j8I (p,i) (r,l)).bind fun m=>
 cond (decide (m<0)) (
 let e:=(w64 (b-1))
 let d:=(w64 (b-1))
 cond (inR d (List.length a)) (
 let s:=(List.getD a (Int.toNat d) (0,0)).1
 let n:=(List.getD a (Int.toNat d) (0,0)).2
 cond (inR b (List.length a)) (
 let k:=(List.getD a (Int.toNat b) (0,0)).1
 let q:=(List.getD a (Int.toNat b) (0,0)).2
 cond (inR b (List.length a)) (
 let f:Tn2:=(List.set a (Int.toNat b) (s,n))
 cond (inR e (List.length f)) (
 let g:Tn2:=(List.set f (Int.toNat e) (k,q))
 let j:=(w64 (b-1))
 some (.inl (o,u,t,j,g))) none) none) none) none) (
 some (.inr (o,u,t,a)))) none) none) (
 some (.inr (o,u,t,a)))
def j0k [LP] (a e b c:Int) (d:Tn2):Option ((Int×Int×Int×Tn2)):=
 LP.lp (unc5 (j0o)) (a,e,b,c,d)
theorem j2y (a e b c d):j0k a e b c d=lpK (j0o a e b c d) (fun h=>j0k h.1 h.2.1 h.2.2.1 h.2.2.2.1 h.2.2.2.2):=j04 _ _
def j09 [LP] (f e c:Int) (d:Tn2):Option ((Int×Int×Int×Tn2) ⊕ (Tn2)):=
 cond (decide (c<e)) (
 (j0k f e c c d).bind fun a=>
 let b:=(w64 (a.2.2.1+1))
 some (.inl (a.1,a.2.1,b,a.2.2.2))) (
 some (.inr d))
def j0l [LP] (a b c:Int) (d:Tn2):Option (Tn2):=
 LP.lp (unc4 (j09)) (a,b,c,d)
theorem j1e (a d b c):j0l a d b c=lpK (j09 a d b c) (fun h=>j0l h.1 h.2.1 h.2.2.1 h.2.2.2):=j04 _ _
def j0e [LP] (a:Tn2) (b c:Int):Option (Tn2):=
 let d:=(w64 (b+1))
 (j0l b c d a).bind fun e=>
 some e
def j0g [LP] (d e g a:Int) (f:Tn2):Option ((Int×Int×Int×Int×Tn2) ⊕ ((Int×Int×Int×Tn2))):=
 cond (decide (a≤d)) (
 (j0e f g a).bind fun c=>
 let b:=(w64 (a+e))
 some (.inl (d,e,a,b,c))) (
 some (.inr (d,e,g,f)))
def j0C [LP] (a c e b:Int) (d:Tn2):Option ((Int×Int×Int×Tn2)):=
 LP.lp (unc5 (j0g)) (a,c,e,b,d)
theorem j6w (a c e b d):j0C a c e b d=lpK (j0g a c e b d) (fun h=>j0C h.1 h.2.1 h.2.2.1 h.2.2.2.1 h.2.2.2.2):=j04 _ _
def j36 (a b c e:Int) (f:Tn2):Option ((Int×Int×Int×Int×Tn2) ⊕ ((Int×Int×Int×Tn2))):=
 cond (decide (e≤a)) (
 let d:=(w64 (c+b))
 none) (
 some (.inr (a,b,c,f)))
def j2i [LP] (a c e b:Int) (d:Tn2):Option ((Int×Int×Int×Tn2)):=
 LP.lp (unc5 (j36)) (a,c,e,b,d)
def j0h [LP] (f e:Int) (g:Tn2):Option ((Int×Int×Tn2) ⊕ (Tn2)):=
 cond (decide (e<f)) (
 let d:=(w64 (2*e))
 (j2i f e 0 d g).bind fun a=>
 let b:=(w64 (a.2.2.1+a.2.1))
 cond (decide (b<a.1)) (
 none) (
 let c:=(w64 (a.2.1*2))
 some (.inl (a.1,c,a.2.2.2)))) (
 some (.inr g))
def j0D [LP] (a b:Int) (c:Tn2):Option (Tn2):=
 LP.lp (unc3 (j0h)) (a,b,c)
theorem j6x (a b c):j0D a b c=lpK (j0h a b c) (fun h=>j0D h.1 h.2.1 h.2.2):=j04 _ _
def j0P [LP] (a:Tn2) (c:Int):Option (Tn2):=
 (j0C c 20 0 20 a).bind fun b=>
 (j0e b.2.2.2 b.2.2.1 b.1).bind fun d=>
 (j0D b.1 b.2.1 d).bind fun e=>
 some e
def j0b [LP] (a:Tn2):Option (Tn2):=
 let c:=(Int.ofNat (List.length a))
 (j0P a c).bind fun b=>
 some b
def j2U (m:Int) (d:Tn47) (l b:Int) (n:ByteArray) (f:Int) (e:Tn47):Option ((Int×Tn47×Int×Int×ByteArray×Int×Tn47) ⊕ (Int ⊕ (Int×ByteArray×Int×Tn47))):=
 cond (decide (b<l)) (
 cond (inR b (List.length d)) (
 let a:=(List.getD d (Int.toNat b) (0,(0,(0,(0,(0,(0,0)))))))
 (jgz (a.1,(a.2.1,(a.2.2.1,(a.2.2.2.1,(a.2.2.2.2.1,(a.2.2.2.2.2.1,a.2.2.2.2.2.2))))))).bind fun c=>
 cond (c != 0) (
 some (.inr (.inl c))) (
 let g:=(w64 (a.2.1-a.1))
 let i:=(w64 (g+1))
 let k:=(w64 (m+i))
 let j:=(w64 (b+1))
 some (.inl (k,d,l,j,n,f,e)))) none) (
 some (.inr (.inr (m,n,f,e))))
def j2M [LP] (f:Int) (c:Tn47) (d e:Int) (g:ByteArray) (b:Int) (a:Tn47):Option (Int ⊕ (Int×ByteArray×Int×Tn47)):=
 LP.lp (unc7 (j2U)) (f,c,d,e,g,b,a)
theorem j9P (f c d e g b a):j2M f c d e g b a=lpK (j2U f c d e g b a) (fun h=>j2M h.1 h.2.1 h.2.2.1 h.2.2.2.1 h.2.2.2.2.1 h.2.2.2.2.2.1 h.2.2.2.2.2.2):=j04 _ _
def j15 [LP] (i:Int) (p:Tn47) (o q s d a f g b e:Int) (r:Tn2):Option ((Int×Tn47×Int×Int×Int×Int×Int×Int×Int×Int×Int×Tn2) ⊕ ((Tn47×Int×Int×Tn2))):=
 cond (decide (i≤d)) (
 (jci i a f g).bind fun j=>
 let l:=(w64 (j.1*86400))
 let k:=(w64 (l+b))
 let c:Tn2:=[(k,e)]
 cond (decide (List.length r+List.length c≤j07)) (
 let n:Tn2:=(r++c)
 let m:=(w64 (i+1))
 some (.inl (m,p,o,q,s,d,a,f,g,b,e,n))) none) (
 some (.inr (p,o,q,r)))
def j3t [LP] (i:Int) (k:Tn47) (j l g c a e f b d:Int) (m:Tn2):Option ((Tn47×Int×Int×Tn2)):=
 LP.lp (jz4 (j15)) (i,k,j,l,g,c,a,e,f,b,d,m)
theorem j9Q (i k j l g c a e f b d m):j3t i k j l g c a e f b d m=lpK (j15 i k j l g c a e f b d m) (fun h=>j3t h.1 h.2.1 h.2.2.1 h.2.2.2.1 h.2.2.2.2.1 h.2.2.2.2.2.1 h.2.2.2.2.2.2.1 h.2.2.2.2.2.2.2.1 h.2.2.2.2.2.2.2.2.1 h.2.2.2.2.2.2.2.2.2.1 h.2.2.2.2.2.2.2.2.2.2.1 h.2.2.2.2.2.2.2.2.2.2.2):=j04 _ _
def j16 [LP] (d:Tn47) (f c:Int) (g:Tn2):Option ((Tn47×Int×Int×Tn2) ⊕ (Tn2)):=
 cond (decide (c<f)) (
 cond (inR c (List.length d)) (
 let a:=(List.getD d (Int.toNat c) (0,(0,(0,(0,(0,(0,0)))))))
 (j3t a.1 d f c a.1 a.2.1 a.2.2.1 a.2.2.2.1 a.2.2.2.2.1 a.2.2.2.2.2.1 a.2.2.2.2.2.2 g).bind fun b=>
 let e:=(w64 (b.2.2.1+1))
 some (.inl (b.1,b.2.1,e,b.2.2.2))) none) (
 some (.inr g))
def j2N [LP] (a:Tn47) (c b:Int) (d:Tn2):Option (Tn2):=
 LP.lp (unc4 (j16)) (a,c,b,d)
theorem j9R (b a c d):j2N b a c d=lpK (j16 b a c d) (fun h=>j2N h.1 h.2.1 h.2.2.1 h.2.2.2):=j04 _ _
def j4a [LP] (a:Tn57):Option (Tn2×Int):=
 (jbh a.2.1 (-64800) 64800).bind fun e=>
 cond (!e) (
 some (([]:Tn2),1)) (
 let f:=(Int.ofNat (List.length a.2.2))
 cond (decide (f>16)) (
 some (([]:Tn2),5)) (
 let b:=(Int.ofNat (List.length a.2.2))
 (j2M 0 a.2.2 b 0 a.1 a.2.1 a.2.2).bind fun g=>
 sumC g (fun k=>
 some (([]:Tn2),k)) (fun j=>
 cond (decide (j.1>640)) (
 some (([]:Tn2),5)) (
 let d:=(Int.ofNat (List.length j.2.2.2))
 (j2N j.2.2.2 d 0 ([]:Tn2)).bind fun i=>
 (j0b i).bind fun c=>
 some (c,0)))))
def j2V (q m c:Int) (a e:Tn2):Option ((Int×Int×Int×Tn2×Tn2) ⊕ (Int ⊕ Tn2)):=
 cond (decide (c<m)) (
 cond (inR c (List.length e)) (
 let p:=(List.getD e (Int.toNat c) (0,0)).1
 let b:=(List.getD e (Int.toNat c) (0,0)).2
 cond (b==q) (
 let t:=(w64 (c+1))
 some (.inl (q,m,t,a,e))) (
 let d:=(w64 (p-q))
 let f:=(w64 (b-q))
 cond (cond (decide (f≥86400)) true (decide (f≤(-86400)))) (
 let u:=(Int.ofNat (List.length a))
 let w:=(Int.ofNat (List.length a))
 let k:=(w64 (w-1))
 cond ((inR k (List.length a)) || !((!true)&&(decide (u>0)))) (
 let o:=(List.getD a (Int.toNat k) (0,0)).1
 let y:=(w64 (o+604800))
 some (.inr (.inl 6))) none) (
 (jbh d 0 8589934592).bind fun l=>
 let j:=(Int.ofNat (List.length a))
 let v:=(Int.ofNat (List.length a))
 let i:=(w64 (v-1))
 cond ((inR i (List.length a)) || !((!(!l))&&(decide (j>0)))) (
 let x:=(List.getD a (Int.toNat i) (0,0)).1
 let s:=(w64 (x+604800))
 cond (cond (!l) true (cond (decide (j>0)) (decide (d<s)) false)) (
 some (.inr (.inl 6))) (
 let g:Tn2:=[(d,b)]
 cond (decide (List.length a+List.length g≤j07)) (
 let r:Tn2:=(a++g)
 let n:=(w64 (c+1))
 some (.inl (b,m,n,r,e))) none)) none))) none) (
 some (.inr (.inr a)))
def j2O [LP] (e a b:Int) (d c:Tn2):Option (Int ⊕ Tn2):=
 LP.lp (unc5 (j2V)) (e,a,b,d,c)
theorem j9S (e a b d c):j2O e a b d c=lpK (j2V e a b d c) (fun h=>j2O h.1 h.2.1 h.2.2.1 h.2.2.2.1 h.2.2.2.2):=j04 _ _
def j2q [LP] (a:Tn57):Option (Tn2×Int):=
 (j4a (a.1,(a.2.1,a.2.2))).bind fun b=>
 cond (b.2 != 0) (
 some (([]:Tn2),b.2)) (
 let c:=(Int.ofNat (List.length b.1))
 (j2O a.2.1 c 0 ([]:Tn2) b.1).bind fun d=>
 sumC d (fun e=>
 some (([]:Tn2),e)) (fun f=>
 some (f,0)))
def j8U [LP] (a:Tn57):Option (Int):=
 (j2q (a.1,(a.2.1,a.2.2))).bind fun b=>
 some b.2
def j7Y (a:Tn43):Option (Bool):=
 let b:=(Int.tmod a.2.2.2.2.2.2 60)
 some (b != 0)
def j0r (e:Tn47) (f b:Int):Option ((Tn47×Int×Int) ⊕ (Int ⊕ Unit)):=
 cond (decide (b<f)) (
 cond (inR b (List.length e)) (
 let a:=(List.getD e (Int.toNat b) (0,(0,(0,(0,(0,(0,0)))))))
 (j7Y (a.1,(a.2.1,(a.2.2.1,(a.2.2.2.1,(a.2.2.2.2.1,(a.2.2.2.2.2.1,a.2.2.2.2.2.2))))))).bind fun d=>
 cond d (
 some (.inr (.inl b))) (
 let c:=(w64 (b+1))
 some (.inl (e,f,c)))) none) (
 some (.inr (.inr ())))
def j0m [LP] (b:Tn47) (a c:Int):Option (Int ⊕ Unit):=
 LP.lp (unc3 (j0r)) (b,a,c)
theorem j2E (b a c):j0m b a c=lpK (j0r b a c) (fun h=>j0m h.1 h.2.1 h.2.2):=j04 _ _
def j0v [LP] (a:Tn47):Option (Int):=
 let c:=(Int.ofNat (List.length a))
 (j0m a c 0).bind fun b=>
 sumC b (fun d=>
 some d) (fun e=>
 some (-1))
def j0n [LP] (a:Tn47):Option (Bool):=
 (j0v a).bind fun b=>
 some (decide (b≥0))
def j2W [LP] (a:Tn57):Option (Int):=
 (j8U (a.1,(a.2.1,a.2.2))).bind fun d=>
 let c:=(Int.tmod a.2.1 60)
 cond (cond (d != 0) true (c != 0)) (
 some 8) (
 (j0n a.2.2).bind fun b=>
 cond b (
 some 8) (
 some 0))
def j0G [LP] (e:Tn59) (i c:Int) (j:(List (ByteArray×Bool))):Option ((Tn59×Int×Int×(List (ByteArray×Bool))) ⊕ (Int ⊕ Unit)):=
 cond (decide (c<i)) (
 cond (inR c (List.length e)) (
 let a:=(List.getD e (Int.toNat c) (ByteArray.empty,(0,([]:Tn47))))
 (jbg (a.1,(a.2.1,a.2.2))).bind fun g=>
 (j3K g j).bind fun b=>
 cond (b.1 != 0) (
 some (.inr (.inl b.1))) (
 (j2W (a.1,(a.2.1,a.2.2))).bind fun d=>
 cond (d != 0) (
 some (.inr (.inl d))) (
 let f:=(w64 (c+1))
 some (.inl (e,i,f,b.2))))) none) (
 some (.inr (.inr ())))
def j1s [LP] (b:Tn59) (c a:Int) (d:(List (ByteArray×Bool))):Option (Int ⊕ Unit):=
 LP.lp (unc4 (j0G)) (b,c,a,d)
theorem j71 (b:Tn59) (c a:Int) (d:(List (ByteArray×Bool))):j1s b c a d=lpK (j0G b c a d) (fun h=>j1s h.1 h.2.1 h.2.2.1 h.2.2.2):=j04 _ _
def j27 [LP] (a:Tn59):Option (Int):=
 let b:(List (ByteArray×Bool)):=([]:(List (ByteArray×Bool)))
 let c:=(Int.ofNat (List.length a))
 (j1s a c 0 b).bind fun d=>
 sumC d (fun e=>
 some e) (fun f=>
 some 0)
def j2r (a b:Int):Option (Bool):=
 some (cond (decide (a≥0)) (decide (a<b)) false)
def j57 (d e:Tn2) (k b:Int):Option ((Tn2×Tn2×Int×Int) ⊕ (Int ⊕ Unit)):=
 cond (decide (b<k)) (
 cond (inR b (List.length e)) (
 let a:=(List.getD e (Int.toNat b) (0,0))
 let i:Bool:=(cond (cond (decide (a.1<0)) true (decide (a.1≥a.2))) true (decide (a.2>604800)))
 cond i (
 some (.inr (.inl 1))) (
 cond (decide (b>0)) (
 let c:=(w64 (b-1))
 cond (inR c (List.length d)) (
 let g:=(List.getD d (Int.toNat c) (0,0))
 cond (decide (a.1<g.2)) (
 some (.inr (.inl 6))) (
 let f:=(w64 (b+1))
 some (.inl (d,e,k,f)))) none) (
 let j:=(w64 (b+1))
 some (.inl (d,e,k,j))))) none) (
 some (.inr (.inr ())))
def j7I [LP] (b c:Tn2) (d a:Int):Option (Int ⊕ Unit):=
 LP.lp (unc4 (j57)) (b,c,d,a)
theorem jfV (b c d a):j7I b c d a=lpK (j57 b c d a) (fun h=>j7I h.1 h.2.1 h.2.2.1 h.2.2.2):=j04 _ _
def j8V [LP] (a:Tn2):Option (Int):=
 let c:=(Int.ofNat (List.length a))
 cond (decide (c>14)) (
 some 5) (
 let d:=(Int.ofNat (List.length a))
 (j7I a a d 0).bind fun b=>
 sumC b (fun e=>
 some e) (fun f=>
 some 0))
def j7J (a b c:Int):Option (Bool):=
 some (cond (decide (a≥b)) (decide (a≤c)) false)
def j58 (a:Int):Option (Bool):=
 (j7J a 0 604800).bind fun c=>
 let b:=(Int.tmod a 3600)
 some (cond c (b==0) false)
def j1T [LP] (b:Tn76) (a:Tn49):Option (Int):=
 let c:=(Int.ofNat (List.length b.1))
 (j2r a.2.1 c).bind fun d=>
 cond (!d) (
 some 3) (
 (j8V a.2.2.1).bind fun f=>
 cond (f != 0) (
 some 8) (
 (j58 a.2.2.2.1).bind fun g=>
 cond (!g) (
 some 1) (
 (j58 a.2.2.2.2.1).bind fun e=>
 cond (!e) (
 some 1) (
 some 0))))
def jbi (a:Tn22):Option (ByteArray):=
 some a.1
def jdt (e d:Int):Option ((Int×Int) ⊕ (Int)):=
 let b:=(w64 (d+1))
 (j5y b).bind fun c=>
 cond (decide (c≤e)) (
 let a:=(w64 (d+1))
 some (.inl (e,a))) (
 some (.inr d))
def jf2 [LP] (a b:Int):Option (Int):=
 LP.lp (unc2 (jdt)) (a,b)
def jeq [LP] (a:Int):Option (Int):=
 (j8H a 366).bind fun b=>
 let c:=(w64 (1970+b))
 (jf2 a c).bind fun d=>
 some d
def jbJ (k l b c e a d:Int):Option ((Int×Int×Int×Int×Int×Int×Int) ⊕ ((Int×Int×Int×Int×Int×Int×Int))):=
 (j7H e a).bind fun j=>
 cond (decide (k≥j)) (
 (j7H e a).bind fun i=>
 let f:=(w64 (k-i))
 let g:=(w64 (a+1))
 some (.inl (f,l,b,c,e,g,d))) (
 some (.inr (k,l,b,c,e,a,d)))
def jcj [LP] (g f a b e c d:Int):Option ((Int×Int×Int×Int×Int×Int×Int)):=
 LP.lp (unc7 (jbJ)) (g,f,a,b,e,c,d)
def j59 [LP] (a:Int):Option (Tn4×Int):=
 (j5y 1970).bind fun i=>
 cond (decide (a<i)) (
 some ((0,(0,0)),1)) (
 (j5y 2241).bind fun e=>
 cond (decide (a≥e)) (
 some ((0,(0,0)),1)) (
 (jeq a).bind fun b=>
 (j5y b).bind fun f=>
 let g:=(w64 (a-f))
 (jcj g 0 0 0 b 1 0).bind fun c=>
 let d:=(w64 (c.1+1))
 some ((c.2.2.2.2.1,(c.2.2.2.2.2.1,d)),0)))
def j0W [LP] (a:Int):Option (Bool):=
 (j59 a).bind fun b=>
 some (b.2==0)
def j2d [LP] (a:Int):Option (Bool):=
 (j0W a).bind fun b=>
 some (!b)
def j0z [LP] (e:(List Int)) (f a:Int):Option (((List Int)×Int×Int) ⊕ (Int ⊕ Unit)):=
 cond (decide (a<f)) (
 cond (inR a (List.length e)) (
 let d:=(List.getD e (Int.toNat a) 0)
 (j2d d).bind fun c=>
 cond c (
 some (.inr (.inl a))) (
 let b:=(w64 (a+1))
 some (.inl (e,f,b)))) none) (
 some (.inr (.inr ())))
def j1C [LP] (b:(List Int)) (a c:Int):Option (Int ⊕ Unit):=
 LP.lp (unc3 (j0z)) (b,a,c)
theorem j6a (b a c):j1C b a c=lpK (j0z b a c) (fun h=>j1C h.1 h.2.1 h.2.2):=j04 _ _
def j2e [LP] (a:(List Int)):Option (Int):=
 let c:=(Int.ofNat (List.length a))
 (j1C a c 0).bind fun b=>
 sumC b (fun d=>
 some d) (fun e=>
 some (-1))
def j1D [LP] (a:(List Int)):Option (Bool):=
 (j2e a).bind fun b=>
 some (decide (b≥0))
def j1Y (d b:Int) (k:ByteArray) (e:Int) (a:(List Int)):Option ((Int×Int×ByteArray×Int×(List Int)) ⊕ (Int ⊕ Unit)):=
 cond (decide (b<d)) (
 cond (decide (b>0)) (
 cond (inR b (List.length a)) (
 let g:=(List.getD a (Int.toNat b) 0)
 let c:=(w64 (b-1))
 cond (inR c (List.length a)) (
 let i:=(List.getD a (Int.toNat c) 0)
 cond (decide (g≤i)) (
 some (.inr (.inl 6))) (
 let f:=(w64 (b+1))
 some (.inl (d,f,k,e,a)))) none) none) (
 let j:=(w64 (b+1))
 some (.inl (d,j,k,e,a)))) (
 some (.inr (.inr ())))
def j2f [LP] (d c:Int) (e:ByteArray) (b:Int) (a:(List Int)):Option (Int ⊕ Unit):=
 LP.lp (unc5 (j1Y)) (d,c,e,b,a)
theorem j7j (d c e b a):j2f d c e b a=lpK (j1Y d c e b a) (fun h=>j2f h.1 h.2.1 h.2.2.1 h.2.2.2.1 h.2.2.2.2):=j04 _ _
def j1K [LP] (b:Tn76) (a:Tn22):Option (Int):=
 let c:=(Int.ofNat (List.length b.1))
 (j2r a.2.1 c).bind fun e=>
 cond (!e) (
 some 3) (
 let g:=(Int.ofNat (List.length a.2.2))
 cond (decide (g>64)) (
 some 5) (
 (j1D a.2.2).bind fun d=>
 cond d (
 some 1) (
 let f:=(Int.ofNat (List.length a.2.2))
 (j2f f 0 a.1 a.2.1 a.2.2).bind fun i=>
 sumC i (fun j=>
 some j) (fun k=>
 some 0))))
def j52 [LP] (a:Tn22) (e:Tn59) (b:Tn53) (d:Tn30) (c:Tn70):Option (Int):=
 (j1K (e,(b,(d,c))) (a.1,(a.2.1,a.2.2))).bind fun f=>
 some f
def j0t [LP] (m:Tn59) (i:Tn53) (f:Tn30) (g:Tn70) (e:Tn30) (l c:Int) (n:(List (ByteArray×Bool))):Option ((Tn59×Tn53×Tn30×Tn70×Tn30×Int×Int×(List (ByteArray×Bool))) ⊕ (Int ⊕ Unit)):=
 cond (decide (c<l)) (
 cond (inR c (List.length e)) (
 let a:=(List.getD e (Int.toNat c) (ByteArray.empty,(0,([]:(List Int)))))
 (jbi (a.1,(a.2.1,a.2.2))).bind fun j=>
 (j3K j n).bind fun b=>
 cond (b.1 != 0) (
 some (.inr (.inl b.1))) (
 (j52 (a.1,(a.2.1,a.2.2)) m i f g).bind fun d=>
 cond (d != 0) (
 some (.inr (.inl d))) (
 let k:=(w64 (c+1))
 some (.inl (m,i,f,g,e,l,k,b.2))))) none) (
 some (.inr (.inr ())))
def j0X [LP] (i:Tn59) (c:Tn53) (a:Tn30) (b:Tn70) (e:Tn30) (f d:Int) (g:(List (ByteArray×Bool))):Option (Int ⊕ Unit):=
 LP.lp (unc8 (j0t)) (i,c,a,b,e,f,d,g)
theorem j5I (i:Tn59) (c:Tn53) (a:Tn30) (b:Tn70) (e:Tn30) (f d:Int) (g:(List (ByteArray×Bool))):j0X i c a b e f d g=lpK (j0t i c a b e f d g) (fun h=>j0X h.1 h.2.1 h.2.2.1 h.2.2.2.1 h.2.2.2.2.1 h.2.2.2.2.2.1 h.2.2.2.2.2.2.1 h.2.2.2.2.2.2.2):=j04 _ _
def j1f [LP] (e:Tn30) (d:Tn59) (b:Tn53) (c:Tn30) (a:Tn70):Option (Int):=
 let f:(List (ByteArray×Bool)):=([]:(List (ByteArray×Bool)))
 let g:=(Int.ofNat (List.length e))
 (j0X d b c a e g 0 f).bind fun i=>
 sumC i (fun j=>
 some j) (fun k=>
 some 0)
def jbj (a:Tn69):Option (ByteArray):=
 some a.1
def j5S (a:Tn64):Option (ByteArray):=
 some a.1
def j7k (a:Int) (g:Tn59) (b:Tn53) (f:Tn30) (e:Tn70):Option (Bool):=
 let c:=(Int.ofNat (List.length b))
 (j2r a c).bind fun d=>
 some (!d)
def j12 (i:(List Int)) (j:Tn59) (b:Tn53) (c:Tn30) (d:Tn70) (k a:Int):Option (((List Int)×Tn59×Tn53×Tn30×Tn70×Int×Int) ⊕ (Int ⊕ Unit)):=
 cond (decide (a<k)) (
 cond (inR a (List.length i)) (
 let g:=(List.getD i (Int.toNat a) 0)
 (j7k g j b c d).bind fun f=>
 cond f (
 some (.inr (.inl a))) (
 let e:=(w64 (a+1))
 some (.inl (i,j,b,c,d,k,e)))) none) (
 some (.inr (.inr ())))
def j17 [LP] (e:(List Int)) (d:Tn59) (a:Tn53) (b:Tn30) (c:Tn70) (g f:Int):Option (Int ⊕ Unit):=
 LP.lp (unc7 (j12)) (e,d,a,b,c,g,f)
theorem j5a (e d a b c g f):j17 e d a b c g f=lpK (j12 e d a b c g f) (fun h=>j17 h.1 h.2.1 h.2.2.1 h.2.2.2.1 h.2.2.2.2.1 h.2.2.2.2.2.1 h.2.2.2.2.2.2):=j04 _ _
def j1E [LP] (b:(List Int)) (e:Tn59) (a:Tn53) (d:Tn30) (c:Tn70):Option (Int):=
 let g:=(Int.ofNat (List.length b))
 (j17 b e a d c g 0).bind fun f=>
 sumC f (fun i=>
 some i) (fun j=>
 some (-1))
def j18 [LP] (e:(List Int)) (d:Tn59) (a:Tn53) (c:Tn30) (b:Tn70):Option (Bool):=
 (j1E e d a c b).bind fun f=>
 some (decide (f≥0))
def j2F [LP] (b:Tn76) (a:Tn64):Option (Int):=
 let e:=(Int.ofNat (List.length b.1))
 (j2r a.2.1 e).bind fun g=>
 cond (!g) (
 some 3) (
 cond (decide (a.2.2.1.1<1)) (
 some 1) (
 (j0W a.2.2.1.1).bind fun d=>
 cond (!d) (
 some 1) (
 (j7J a.2.2.1.2 0 86399).bind fun c=>
 cond (!c) (
 some 1) (
 (j7J a.2.2.2.1 0 2).bind fun m=>
 cond (!m) (
 some 1) (
 (j7J a.2.2.2.2.1 1 400).bind fun f=>
 cond (!f) (
 some 1) (
 let o:=(Int.ofNat (List.length a.2.2.2.2.2.1))
 cond (o==0) (
 some 7) (
 let l:=(Int.ofNat (List.length a.2.2.2.2.2.1))
 cond (decide (l>12)) (
 some 5) (
 (j18 a.2.2.2.2.2.1 b.1 b.2.1 b.2.2.1 b.2.2.2).bind fun i=>
 cond i (
 some 3) (
 (j8V a.2.2.2.2.2.2.1).bind fun j=>
 cond (j != 0) (
 some 8) (
 (j7J a.2.2.2.2.2.2.2.2 0 2).bind fun n=>
 cond (!n) (
 some 1) (
 let p:=(Int.ofNat (List.length b.2.2.1))
 cond (a.2.2.2.2.2.2.2.2 != 0) (
 (j2r a.2.2.2.2.2.2.2.1 p).bind fun k=>
 cond (!k) (
 some 3) (
 cond (cond (a.2.2.2.2.2.2.2.2==0) (a.2.2.2.2.2.2.2.1 != 0) false) (
 some 1) (
 some 0))) (
 cond (cond (a.2.2.2.2.2.2.2.2==0) (a.2.2.2.2.2.2.2.1 != 0) false) (
 some 1) (
 some 0)))))))))))))
def j2g [LP] (a:Tn64) (e:Tn59) (b:Tn53) (d:Tn30) (c:Tn70):Option (Int):=
 (j2F (e,(b,(d,c))) (a.1,(a.2.1,((a.2.2.1.1,a.2.2.1.2),(a.2.2.2.1,(a.2.2.2.2.1,(a.2.2.2.2.2.1,(a.2.2.2.2.2.2.1,(a.2.2.2.2.2.2.2.1,a.2.2.2.2.2.2.2.2))))))))).bind fun f=>
 some f
def j0E [LP] (m:Tn59) (i:Tn53) (f:Tn30) (g:Tn70) (e:Tn65) (l c:Int) (n:(List (ByteArray×Bool))):Option ((Tn59×Tn53×Tn30×Tn70×Tn65×Int×Int×(List (ByteArray×Bool))) ⊕ (Int ⊕ Unit)):=
 cond (decide (c<l)) (
 cond (inR c (List.length e)) (
 let a:=(List.getD e (Int.toNat c) (ByteArray.empty,(0,((0,0),(0,(0,(([]:(List Int)),(([]:Tn2),(0,0)))))))))
 (j5S (a.1,(a.2.1,((a.2.2.1.1,a.2.2.1.2),(a.2.2.2.1,(a.2.2.2.2.1,(a.2.2.2.2.2.1,(a.2.2.2.2.2.2.1,(a.2.2.2.2.2.2.2.1,a.2.2.2.2.2.2.2.2))))))))).bind fun j=>
 (j3K j n).bind fun b=>
 cond (b.1 != 0) (
 some (.inr (.inl b.1))) (
 (j2g (a.1,(a.2.1,((a.2.2.1.1,a.2.2.1.2),(a.2.2.2.1,(a.2.2.2.2.1,(a.2.2.2.2.2.1,(a.2.2.2.2.2.2.1,(a.2.2.2.2.2.2.2.1,a.2.2.2.2.2.2.2.2)))))))) m i f g).bind fun d=>
 cond (d != 0) (
 some (.inr (.inl d))) (
 let k:=(w64 (c+1))
 some (.inl (m,i,f,g,e,l,k,b.2))))) none) (
 some (.inr (.inr ())))
def j1g [LP] (i:Tn59) (c:Tn53) (a:Tn30) (b:Tn70) (e:Tn65) (f d:Int) (g:(List (ByteArray×Bool))):Option (Int ⊕ Unit):=
 LP.lp (unc8 (j0E)) (i,c,a,b,e,f,d,g)
theorem j6y (i:Tn59) (c:Tn53) (a:Tn30) (b:Tn70) (e:Tn65) (f d:Int) (g:(List (ByteArray×Bool))):j1g i c a b e f d g=lpK (j0E i c a b e f d g) (fun h=>j1g h.1 h.2.1 h.2.2.1 h.2.2.2.1 h.2.2.2.2.1 h.2.2.2.2.2.1 h.2.2.2.2.2.2.1 h.2.2.2.2.2.2.2):=j04 _ _
def j1U [LP] (e:Tn65) (d:Tn59) (b:Tn53) (c:Tn30) (a:Tn70):Option (Int):=
 let f:(List (ByteArray×Bool)):=([]:(List (ByteArray×Bool)))
 let g:=(Int.ofNat (List.length e))
 (j1g d b c a e g 0 f).bind fun i=>
 sumC i (fun j=>
 some j) (fun k=>
 some 0)
def j2X [LP] (g:Tn76) (a:Tn28):Option (Int):=
 let l:=(Int.ofNat (List.length g.2.1))
 (j7J a.1 0 2).bind fun i=>
 cond (!i) (
 some 1) (
 (j2r a.2.1 l).bind fun f=>
 cond (cond (!f) (!(cond (a.1==1) (a.2.1==(-1)) false)) false) (
 cond (cond (!f) (!(cond (a.1==1) (a.2.1==(-1)) false)) false) (
 some 3) (
 cond (cond (a.1 != 2) (a.2.2.1 != 0) false) (
 some 1) (
 cond (cond (a.1==2) (a.2.1==a.2.2.1) false) (
 some 4) (
 let m:=(w64 (Int.tdiv a.2.2.2.2 86400))
 cond (cond (decide (a.2.2.2.1<0)) true (decide (a.2.2.2.2<0))) (
 some 1) (
 (j0W m).bind fun k=>
 cond (!k) (
 some 1) (
 cond (decide (a.2.2.2.1≥a.2.2.2.2)) (
 some 6) (
 some 0))))))) (
 cond (a.1==2) (
 (j2r a.2.2.1 l).bind fun j=>
 cond (!j) (
 some 3) (
 cond (cond (a.1 != 2) (a.2.2.1 != 0) false) (
 some 1) (
 cond (cond (a.1==2) (a.2.1==a.2.2.1) false) (
 some 4) (
 let c:=(w64 (Int.tdiv a.2.2.2.2 86400))
 cond (cond (decide (a.2.2.2.1<0)) true (decide (a.2.2.2.2<0))) (
 some 1) (
 (j0W c).bind fun b=>
 cond (!b) (
 some 1) (
 cond (decide (a.2.2.2.1≥a.2.2.2.2)) (
 some 6) (
 some 0))))))) (
 cond (cond (a.1 != 2) (a.2.2.1 != 0) false) (
 some 1) (
 cond (cond (a.1==2) (a.2.1==a.2.2.1) false) (
 some 4) (
 let d:=(w64 (Int.tdiv a.2.2.2.2 86400))
 cond (cond (decide (a.2.2.2.1<0)) true (decide (a.2.2.2.2<0))) (
 some 1) (
 (j0W d).bind fun e=>
 cond (!e) (
 some 1) (
 cond (decide (a.2.2.2.1≥a.2.2.2.2)) (
 some 6) (
 some 0))))))))
def j0L [LP] (d:Tn34) (j c:Int) (k:Tn59) (e:Tn53) (f:Tn30) (g:Tn70):Option ((Tn34×Int×Int×Tn59×Tn53×Tn30×Tn70) ⊕ (Int ⊕ Unit)):=
 cond (decide (c<j)) (
 cond (inR c (List.length d)) (
 let a:=(List.getD d (Int.toNat c) (0,(0,(0,(0,0)))))
 (j2X (k,(e,(f,g))) (a.1,(a.2.1,(a.2.2.1,(a.2.2.2.1,a.2.2.2.2))))).bind fun b=>
 cond (b != 0) (
 some (.inr (.inl b))) (
 let i:=(w64 (c+1))
 some (.inl (d,j,i,k,e,f,g)))) none) (
 some (.inr (.inr ())))
def j2h [LP] (d:Tn34) (e f:Int) (g:Tn59) (a:Tn53) (b:Tn30) (c:Tn70):Option (Int ⊕ Unit):=
 LP.lp (unc7 (j0L)) (d,e,f,g,a,b,c)
theorem j7l (d e f g a b c):j2h d e f g a b c=lpK (j0L d e f g a b c) (fun h=>j2h h.1 h.2.1 h.2.2.1 h.2.2.2.1 h.2.2.2.2.1 h.2.2.2.2.2.1 h.2.2.2.2.2.2):=j04 _ _
def j1L [LP] (a:Tn76) (b:Tn69):Option (Int):=
 let d:=(Int.ofNat (List.length b.2.1))
 let f:=(Int.ofNat (List.length b.2.2))
 cond (cond (decide (d>6)) true (decide (f>48))) (
 some 5) (
 (j1U b.2.1 a.1 a.2.1 a.2.2.1 a.2.2.2).bind fun c=>
 cond (c != 0) (
 some c) (
 let e:=(Int.ofNat (List.length b.2.2))
 (j2h b.2.2 e 0 a.1 a.2.1 a.2.2.1 a.2.2.2).bind fun g=>
 sumC g (fun i=>
 some i) (fun j=>
 some 0)))
def j53 [LP] (a:Tn69) (e:Tn59) (b:Tn53) (d:Tn30) (c:Tn70):Option (Int):=
 (j1L (e,(b,(d,c))) (a.1,(a.2.1,a.2.2))).bind fun f=>
 some f
def j0u [LP] (m:Tn59) (i:Tn53) (f:Tn30) (g e:Tn70) (l c:Int) (n:(List (ByteArray×Bool))):Option ((Tn59×Tn53×Tn30×Tn70×Tn70×Int×Int×(List (ByteArray×Bool))) ⊕ (Int ⊕ Unit)):=
 cond (decide (c<l)) (
 cond (inR c (List.length e)) (
 let a:=(List.getD e (Int.toNat c) (ByteArray.empty,(([]:Tn65),([]:Tn34))))
 (jbj (a.1,(a.2.1,a.2.2))).bind fun j=>
 (j3K j n).bind fun b=>
 cond (b.1 != 0) (
 some (.inr (.inl b.1))) (
 (j53 (a.1,(a.2.1,a.2.2)) m i f g).bind fun d=>
 cond (d != 0) (
 some (.inr (.inl d))) (
 let k:=(w64 (c+1))
 some (.inl (m,i,f,g,e,l,k,b.2))))) none) (
 some (.inr (.inr ())))
def j0Y [LP] (i:Tn59) (c:Tn53) (a:Tn30) (b e:Tn70) (f d:Int) (g:(List (ByteArray×Bool))):Option (Int ⊕ Unit):=
 LP.lp (unc8 (j0u)) (i,c,a,b,e,f,d,g)
theorem j5J (i:Tn59) (c:Tn53) (a:Tn30) (b e:Tn70) (f d:Int) (g:(List (ByteArray×Bool))):j0Y i c a b e f d g=lpK (j0u i c a b e f d g) (fun h=>j0Y h.1 h.2.1 h.2.2.1 h.2.2.2.1 h.2.2.2.2.1 h.2.2.2.2.2.1 h.2.2.2.2.2.2.1 h.2.2.2.2.2.2.2):=j04 _ _
def j1S [LP] (e:Tn70) (d:Tn59) (b:Tn53) (c:Tn30) (a:Tn70):Option (Int):=
 let f:(List (ByteArray×Bool)):=([]:(List (ByteArray×Bool)))
 let g:=(Int.ofNat (List.length e))
 (j0Y d b c a e g 0 f).bind fun i=>
 sumC i (fun j=>
 some j) (fun k=>
 some 0)
def j1M [LP] (g:Tn53) (i f:Int) (j:Tn59) (e:Tn53) (d:Tn30) (c:Tn70) (r:(List (ByteArray×Bool))):Option ((Tn53×Int×Int×Tn59×Tn53×Tn30×Tn70×(List (ByteArray×Bool))) ⊕ (Int ⊕ (Tn59×Tn53×Tn30×Tn70))):=
 cond (decide (f<i)) (
 cond (inR f (List.length g)) (
 let a:=(List.getD g (Int.toNat f) (ByteArray.empty,(0,(([]:Tn2),(0,(0,false))))))
 (j3K a.1 r).bind fun b=>
 let q:Bool:=(ByteArray.toList a.1==ByteArray.toList (ByteArray.mk #[110,111,98,111,100,121]))
 cond q (
 cond (2==0) (
 (j1T (j,(e,(d,c))) (a.1,(a.2.1,(a.2.2.1,(a.2.2.2.1,(a.2.2.2.2.1,a.2.2.2.2.2)))))).bind fun k=>
 cond (k != 0) (
 some (.inr (.inl k))) (
 let m:=(w64 (f+1))
 some (.inl (g,i,m,j,e,d,c,b.2)))) (
 cond (2 != 0) (
 some (.inr (.inl 2))) (
 let o:=(w64 (f+1))
 some (.inl (g,i,o,j,e,d,c,b.2))))) (
 cond (b.1==0) (
 (j1T (j,(e,(d,c))) (a.1,(a.2.1,(a.2.2.1,(a.2.2.2.1,(a.2.2.2.2.1,a.2.2.2.2.2)))))).bind fun l=>
 cond (l != 0) (
 some (.inr (.inl l))) (
 let p:=(w64 (f+1))
 some (.inl (g,i,p,j,e,d,c,b.2)))) (
 cond (b.1 != 0) (
 some (.inr (.inl b.1))) (
 let n:=(w64 (f+1))
 some (.inl (g,i,n,j,e,d,c,b.2)))))) none) (
 some (.inr (.inr (j,e,d,c))))
def j4b [LP] (f:Tn53) (d e:Int) (i:Tn59) (c:Tn53) (b:Tn30) (a:Tn70) (g:(List (ByteArray×Bool))):Option (Int ⊕ (Tn59×Tn53×Tn30×Tn70)):=
 LP.lp (unc8 (j1M)) (f,d,e,i,c,b,a,g)
theorem jck (f:Tn53) (d e:Int) (i:Tn59) (c:Tn53) (b:Tn30) (a:Tn70) (g:(List (ByteArray×Bool))):j4b f d e i c b a g=lpK (j1M f d e i c b a g) (fun h=>j4b h.1 h.2.1 h.2.2.1 h.2.2.2.1 h.2.2.2.2.1 h.2.2.2.2.2.1 h.2.2.2.2.2.2.1 h.2.2.2.2.2.2.2):=j04 _ _
def j5b [LP] (a:Tn76):Option (Int):=
 let e:=(Int.ofNat (List.length a.1))
 let k:=(Int.ofNat (List.length a.2.1))
 let m:=(Int.ofNat (List.length a.2.2.1))
 let i:Bool:=(cond (cond (decide (e>16)) true (decide (k>32))) true (decide (m>8)))
 let g:=(Int.ofNat (List.length a.2.2.2))
 cond (cond i true (decide (g>12))) (
 some 5) (
 (j27 a.1).bind fun d=>
 cond (d != 0) (
 some d) (
 let j:(List (ByteArray×Bool)):=([]:(List (ByteArray×Bool)))
 let l:=(Int.ofNat (List.length a.2.1))
 (j4b a.2.1 l 0 a.1 a.2.1 a.2.2.1 a.2.2.2 j).bind fun n=>
 sumC n (fun o=>
 some o) (fun b=>
 (j1f b.2.2.1 b.1 b.2.1 b.2.2.1 b.2.2.2).bind fun c=>
 cond (c != 0) (
 some c) (
 (j1S b.2.2.2 b.1 b.2.1 b.2.2.1 b.2.2.2).bind fun f=>
 some f))))
def jgA [LP] (a:Tn57):Option (Tn15×Int):=
 (j2q (a.1,(a.2.1,a.2.2))).bind fun b=>
 some ((a.2.1,b.1),b.2)
def j2j [LP] (g:Tn59) (j c:Int) (i:Tn23):Option ((Tn59×Int×Int×Tn23) ⊕ (Tn23)):=
 cond (decide (c<j)) (
 cond (inR c (List.length g)) (
 let a:=(List.getD g (Int.toNat c) (ByteArray.empty,(0,([]:Tn47))))
 (jgA (a.1,(a.2.1,a.2.2))).bind fun d=>
 let b:Tn23:=[(d.1.1,d.1.2)]
 cond (decide (List.length i+List.length b≤j07)) (
 let f:Tn23:=(i++b)
 let e:=(w64 (c+1))
 some (.inl (g,j,e,f))) none) none) (
 some (.inr i))
def j5z [LP] (b:Tn59) (d a:Int) (c:Tn23):Option (Tn23):=
 LP.lp (unc4 (j2j)) (b,d,a,c)
theorem jer (b d a c):j5z b d a c=lpK (j2j b d a c) (fun h=>j5z h.1 h.2.1 h.2.2.1 h.2.2.2):=j04 _ _
def ja9 [LP] (a:Tn59):Option (Tn23):=
 let b:=(Int.ofNat (List.length a))
 (j5z a b 0 ([]:Tn23)).bind fun c=>
 some c
def jcl [LP] (a:Tn76):Option (Tn78):=
 (ja9 a.1).bind fun b=>
 some ((a.1,(a.2.1,(a.2.2.1,a.2.2.2))),b)
def jf3 [LP] (a:Tn76):Option (Tn78×Bool):=
 (j5b (a.1,(a.2.1,(a.2.2.1,a.2.2.2)))).bind fun c=>
 cond (c != 0) (
 some (((([]:Tn59),(([]:Tn53),(([]:Tn30),([]:Tn70)))),([]:Tn23)),false)) (
 (jcl (a.1,(a.2.1,(a.2.2.1,a.2.2.2)))).bind fun b=>
 some (((b.1.1,(b.1.2.1,(b.1.2.2.1,b.1.2.2.2))),b.2),true))
def jcm (b:Tn76) (a:Int):Option (Bool):=
 let c:=(Int.ofNat (List.length b.2.2.2))
 some (cond (decide (a≥0)) (decide (a<c)) false)
def jkC (a b:Int):Option (Bool):=
 let c:Bool:=(cond (cond (decide (a≥0)) (decide (a≤8589934592)) false) (decide (b≥a)) false)
 let d:=(w64 (b-a))
 let e:Bool:=(cond (cond c (decide (b≤8589934592)) false) (decide (d≤34560000)) false)
 some e
def j6i [LP] (b:Tn76) (c d e:Int):Option (Tn78×Int):=
 (jf3 (b.1,(b.2.1,(b.2.2.1,b.2.2.2)))).bind fun a=>
 cond (!a.2) (
 some (((a.1.1.1,(a.1.1.2.1,(a.1.1.2.2.1,a.1.1.2.2.2))),a.1.2),8)) (
 (jcm (b.1,(b.2.1,(b.2.2.1,b.2.2.2))) c).bind fun g=>
 cond (!g) (
 some (((a.1.1.1,(a.1.1.2.1,(a.1.1.2.2.1,a.1.1.2.2.2))),a.1.2),3)) (
 (jkC d e).bind fun f=>
 cond (!f) (
 some (((a.1.1.1,(a.1.1.2.1,(a.1.1.2.2.1,a.1.1.2.2.2))),a.1.2),1)) (
 some (((a.1.1.1,(a.1.1.2.1,(a.1.1.2.2.1,a.1.1.2.2.2))),a.1.2),0))))
def j7Z (a:(List Int)):Option ((List Int)):=
 cond (decide (List.length ([]:List (Int))+List.length a≤j07)) (
 some (([]:List (Int))++a)) none
def jaN (a b c:Int):Option (Bool):=
 some (cond (decide (a≤b)) true (decide (a≥c)))
def j13 (g b i a:Int) (c:(List Int)):Option ((Int×Int×Int×Int×(List Int)) ⊕ (Tn1 ⊕ (List Int))):=
 cond (decide (a<i)) (
 cond (inR a (List.length c)) (
 let d:=(List.getD c (Int.toNat a) 0)
 (jaN d g b).bind fun f=>
 cond f (
 some (.inr (.inl (a,c)))) (
 let e:=(w64 (a+1))
 some (.inl (g,b,i,e,c)))) none) (
 some (.inr (.inr c)))
def j0U [LP] (b a e c:Int) (d:(List Int)):Option (Tn1 ⊕ (List Int)):=
 LP.lp (unc5 (j13)) (b,a,e,c,d)
theorem j5c (b a e c d):j0U b a e c d=lpK (j13 b a e c d) (fun h=>j0U h.1 h.2.1 h.2.2.1 h.2.2.2.1 h.2.2.2.2):=j04 _ _
def j1F [LP] (b:(List Int)) (c a:Int):Option Tn1:=
 let e:=(Int.ofNat (List.length b))
 (j0U c a e 0 b).bind fun d=>
 sumC d (fun f=>
 some (f.1,f.2)) (fun g=>
 some ((-1),g))
def j1k (l a e d:Int) (b:(List Int)):Option ((Int×Int×Int×Int×(List Int)) ⊕ (Tn1)):=
 let g:=(Int.ofNat (List.length b))
 cond (decide (d<g)) (
 cond (inR d (List.length b)) (
 let c:=(List.getD b (Int.toNat d) 0)
 (jaN c l a).bind fun j=>
 cond (!j) (
 cond (inR e (List.length b)) (
 let m:(List Int):=(List.set b (Int.toNat e) c)
 let k:=(w64 (e+1))
 let f:=(w64 (d+1))
 some (.inl (l,a,k,f,m))) none) (
 let i:=(w64 (d+1))
 some (.inl (l,a,e,i,b)))) none) (
 some (.inr (e,b)))
def j1x [LP] (b a e c:Int) (d:(List Int)):Option (Tn1):=
 LP.lp (unc5 (j1k)) (b,a,e,c,d)
theorem j5T (b a e c d):j1x b a e c d=lpK (j1k b a e c d) (fun h=>j1x h.1 h.2.1 h.2.2.1 h.2.2.2.1 h.2.2.2.2):=j04 _ _
def j1t [LP] (e:(List Int)) (d a:Int):Option Tn1:=
 (j1F e d a).bind fun c=>
 cond (c.1==(-1)) (
 some ((Int.ofNat (List.length c.2)),c.2)) (
 let f:=(w64 (c.1+1))
 (j1x d a c.1 f c.2).bind fun b=>
 cond (decide (0≤b.1)&&decide (b.1≤(Int.ofNat (List.length b.2)))) (
 let g:(List Int):=(List.take (Int.toNat b.1) b.2++List.replicate (List.length b.2-(Int.toNat b.1)) 0)
 cond (decide (0≤b.1)&&decide (b.1≤(Int.ofNat (List.length g)))) (
 some ((Int.ofNat (Int.toNat b.1)),g)) none) none)
def j6j (a:(List Int)):Option ((List Int)):=
 jt6 a
def j1N (e b c:Int) (a:(List Int)):Option ((Int×Int×Int×(List Int)) ⊕ (Tn1)):=
 let j:=(Int.ofNat (List.length a-(Int.toNat b)))
 cond (decide (c<j)) (
 cond (inR c (List.length a-(Int.toNat b))) (
 let k:=(List.getD a ((Int.toNat b)+(Int.toNat c)) 0)
 let d:=(w64 (c-1))
 cond (inR d (List.length a-(Int.toNat b))) (
 let m:=(List.getD a ((Int.toNat b)+(Int.toNat d)) 0)
 cond (k != m) (
 cond (inR c (List.length a-(Int.toNat b))) (
 let g:=(List.getD a ((Int.toNat b)+(Int.toNat c)) 0)
 cond (inR e (List.length a)) (
 let n:(List Int):=(List.set a (Int.toNat e) g)
 let i:=(w64 (e+1))
 let f:=(w64 (c+1))
 some (.inl (i,(Int.ofNat (Int.toNat b)),f,n))) none) none) (
 let l:=(w64 (c+1))
 some (.inl (e,(Int.ofNat (Int.toNat b)),l,a)))) none) none) (
 some (.inr (e,a)))
def j1u [LP] (d a b:Int) (c:(List Int)):Option (Tn1):=
 LP.lp (unc4 (j1N)) (d,a,b,c)
theorem j72 (c a d b):j1u c a d b=lpK (j1N c a d b) (fun h=>j1u h.1 h.2.1 h.2.2.1 h.2.2.2):=j04 _ _
def j0H [LP] (c:Int) (b:(List Int)):Option (Tn1 ⊕ (Tn1 ⊕ (List Int))):=
 let j:=(Int.ofNat (List.length b))
 cond (decide (c<j)) (
 cond (inR c (List.length b)) (
 let i:=(List.getD b (Int.toNat c) 0)
 let d:=(w64 (c-1))
 cond (inR d (List.length b)) (
 let g:=(List.getD b (Int.toNat d) 0)
 cond (i==g) (
 cond (decide (0≤c)&&decide (c≤(Int.ofNat (List.length b)))) (
 (j1u c (Int.ofNat (Int.toNat c)) 1 b).bind fun a=>
 cond (decide (0≤a.1)&&decide (a.1≤(Int.ofNat (List.length a.2)))) (
 let e:(List Int):=(List.take (Int.toNat a.1) a.2++List.replicate (List.length a.2-(Int.toNat a.1)) 0)
 cond (decide (0≤a.1)&&decide (a.1≤(Int.ofNat (List.length e)))) (
 some (.inr (.inl ((Int.ofNat (Int.toNat a.1)),e)))) none) none) none) (
 let f:=(w64 (c+1))
 some (.inl (f,b)))) none) none) (
 some (.inr (.inr b)))
def j0R [LP] (b:Int) (a:(List Int)):Option (Tn1 ⊕ (List Int)):=
 LP.lp (unc2 (j0H)) (b,a)
theorem j73 (b a):j0R b a=lpK (j0H b a) (fun h=>j0R h.1 h.2):=j04 _ _
def j28 [LP] (a:(List Int)):Option Tn1:=
 let c:=(Int.ofNat (List.length a))
 cond (decide (c<2)) (
 some ((Int.ofNat (List.length a)),a)) (
 (j0R 1 a).bind fun b=>
 sumC b (fun d=>
 some ((Int.ofNat (Int.toNat d.1)),d.2)) (fun e=>
 some ((Int.ofNat (List.length e)),e)))
def jcn [LP] (f:(List Int)) (b a:Int):Option ((List Int)):=
 (j7Z f).bind fun k=>
 (j1t k b a).bind fun c=>
 let g:(List Int):=(List.take (Int.toNat c.1) c.2)
 (j6j g).bind fun j=>
 (j28 j).bind fun e=>
 let d:(List Int):=(List.take (Int.toNat e.1) e.2)
 cond (decide (List.length d+List.length [a]≤j07)) (
 let i:(List Int):=(d++[a])
 some i) none
def j14 (a:Tn65):Option (Tn65):=
 some a
def jaa (a:Tn64):Option (Int):=
 cond (a.2.2.2.1==2) (
 let b:=(w64 (7*a.2.2.2.2.1))
 some b) (
 some a.2.2.2.2.1)
def j8J (b e:Int) (a:Tn2) (d:Int):Option (Bool):=
 cond (inR b (List.length a)) (
 let c:=(List.getD a (Int.toNat b) (0,0))
 some (decide (c.1>d))) none
def j3u (k:Int) (a:Tn2) (b i l:Int):Option ((Int×Tn2×Int×Int×Int) ⊕ (Int)):=
 cond (decide (i<l)) (
 let g:=(w64 (i+l))
 let d:Int:=(IntKind.wrap .u64 g)
 let j:Int:=(Int.fdiv d 2)
 let c:=(w64 j)
 (j8J c k a b).bind fun f=>
 cond (!f) (
 let e:=(w64 (c+1))
 some (.inl (k,a,b,e,l))) (
 some (.inl (k,a,b,i,c)))) (
 some (.inr i))
def j6Q [LP] (c:Int) (a:Tn2) (b e d:Int):Option (Int):=
 LP.lp (unc5 (j3u)) (c,a,b,e,d)
theorem jes (c a b e d):j6Q c a b e d=lpK (j3u c a b e d) (fun h=>j6Q h.1 h.2.1 h.2.2.1 h.2.2.2.1 h.2.2.2.2):=j04 _ _
def jab [LP] (c d:Int) (a:Tn2) (b:Int):Option (Int):=
 (j6Q d a b 0 c).bind fun e=>
 some e
def j3n [LP] (a:Tn15) (b:Int):Option (Int):=
 let d:=(Int.ofNat (List.length a.2))
 (jab d a.1 a.2 b).bind fun c=>
 some c
def j4D (a:Tn15) (b:Int):Option (Int):=
 cond (b==0) (
 some a.1) (
 let c:=(w64 (b-1))
 cond (inR c (List.length a.2)) (
 let d:=(List.getD a.2 (Int.toNat c) (0,0))
 some d.2) none)
def j0p [LP] (k c i:Int) (a:Tn2) (j:Tn17):Option ((Int×Int×Int×Tn2×Tn17) ⊕ (Tn17)):=
 cond (decide (k<c)) (
 (j3n (i,a) k).bind fun b=>
 let p:=(Int.ofNat (List.length a))
 cond (decide (b<p)) (
 cond (inR b (List.length a)) (
 let f:=(List.getD a (Int.toNat b) (0,0))
 let e:Int:=(if f.1<c then f.1 else c:Int)
 (j4D (i,a) b).bind fun l=>
 let g:Tn17:=[(k,(e,l))]
 cond (decide (List.length j+List.length g≤j07)) (
 let m:Tn17:=(j++g)
 some (.inl (e,c,i,a,m))) none) none) (
 (j4D (i,a) b).bind fun o=>
 let d:Tn17:=[(k,(c,o))]
 cond (decide (List.length j+List.length d≤j07)) (
 let n:Tn17:=(j++d)
 some (.inl (c,c,i,a,n))) none)) (
 some (.inr j))
def j22 [LP] (b e c:Int) (a:Tn2) (d:Tn17):Option (Tn17):=
 LP.lp (unc5 (j0p)) (b,e,c,a,d)
theorem j2s (b e c a d):j22 b e c a d=lpK (j0p b e c a d) (fun h=>j22 h.1 h.2.1 h.2.2.1 h.2.2.2.1 h.2.2.2.2):=j04 _ _
def j1j [LP] (b:Tn15) (a c:Int):Option (Tn17):=
 (j22 a c b.1 b.2 ([]:Tn17)).bind fun d=>
 some d
def j4y (a:(Int×Int)):Option (Int):=
 let c:Int:=(if (-1048576)>a.1 then (-1048576) else a.1:Int)
 let d:Int:=(if 1048576<c then 1048576 else c:Int)
 let e:=(w64 (d*86400))
 let b:=(w64 (e+a.2))
 some b
def j1G (l a m f:Int) (b:Tn17):Option ((Int×Int×Int×Int×Tn17) ⊕ ((Int×Bool) ⊕ Unit)):=
 cond (decide (a<l)) (
 cond (inR a (List.length b)) (
 let e:=(List.getD b (Int.toNat a) (0,(0,0))).1
 let k:=(List.getD b (Int.toNat a) (0,(0,0))).2.1
 let g:=(List.getD b (Int.toNat a) (0,(0,0))).2.2
 (j4y (m,f)).bind fun i=>
 let d:=(w64 (i-g))
 let c:Int:=(if d>e then d else e:Int)
 cond (decide (c<k)) (
 some (.inr (.inl (c,true)))) (
 let j:=(w64 (a+1))
 some (.inl (l,j,m,f,b)))) none) (
 some (.inr (.inr ())))
def j2P [LP] (b c e a:Int) (d:Tn17):Option ((Int×Bool) ⊕ Unit):=
 LP.lp (unc5 (j1G)) (b,c,e,a,d)
theorem j4T (b c e a d):j2P b c e a d=lpK (j1G b c e a d) (fun h=>j2P h.1 h.2.1 h.2.2.1 h.2.2.2.1 h.2.2.2.2):=j04 _ _
def j1Z [LP] (a:Tn15) (b:(Int×Int)):Option (Int×Bool):=
 (j1j (a.1,a.2) 0 8589934593).bind fun c=>
 let d:=(Int.ofNat (List.length c))
 (j2P d 0 b.1 b.2 c).bind fun e=>
 sumC e (fun f=>
 some (f.1,f.2)) (fun g=>
 some (0,false))
def j0M [LP] (b:Tn15) (a:Tn64) (c:Int):Option (Int×Bool):=
 cond (decide (c>8589934592)) (
 some (0,false)) (
 cond (a.2.2.2.1 != 0) (
 (jaa (a.1,(a.2.1,((a.2.2.1.1,a.2.2.1.2),(a.2.2.2.1,(a.2.2.2.2.1,(a.2.2.2.2.2.1,(a.2.2.2.2.2.2.1,(a.2.2.2.2.2.2.2.1,a.2.2.2.2.2.2.2.2))))))))).bind fun i=>
 let j:=(w64 (c*i))
 let k:=(w64 (a.2.2.1.1+j))
 (j1Z (b.1,b.2) (k,a.2.2.1.2)).bind fun e=>
 some (e.1,e.2)) (
 (j1Z (b.1,b.2) (a.2.2.1.1,a.2.2.1.2)).bind fun f=>
 let l:=(w64 (3600*a.2.2.2.2.1))
 let g:=(w64 (l*c))
 let d:=(w64 (f.1+g))
 some (d,(cond f.2 (decide (d≤8589934592)) false))))
def j3L (a:Tn2):Option (Tn2):=
 cond (decide (List.length ([]:List ((Int×Int)))+List.length a≤j07)) (
 some (([]:List ((Int×Int)))++a)) none
def j9c (a:(Int×Int)):Option (Bool):=
 some (decide (a.2≤a.1))
def j0N (g a:Int) (b:Tn2):Option ((Int×Int×Tn2) ⊕ (Tn15 ⊕ Tn2)):=
 cond (decide (a<g)) (
 cond (inR a (List.length b)) (
 let e:=(List.getD b (Int.toNat a) (0,0)).1
 let f:=(List.getD b (Int.toNat a) (0,0)).2
 (j9c (e,f)).bind fun d=>
 cond d (
 some (.inr (.inl (a,b)))) (
 let c:=(w64 (a+1))
 some (.inl (g,c,b)))) none) (
 some (.inr (.inr b)))
def j0x [LP] (a b:Int) (c:Tn2):Option (Tn15 ⊕ Tn2):=
 LP.lp (unc3 (j0N)) (a,b,c)
theorem j3E (a b c):j0x a b c=lpK (j0N a b c) (fun h=>j0x h.1 h.2.1 h.2.2):=j04 _ _
def j0S [LP] (a:Tn2):Option Tn15:=
 let c:=(Int.ofNat (List.length a))
 (j0x c 0 a).bind fun b=>
 sumC b (fun d=>
 some (d.1,d.2)) (fun e=>
 some ((-1),e))
def j0I (e d:Int) (a:Tn2):Option ((Int×Int×Tn2) ⊕ (Tn15)):=
 let g:=(Int.ofNat (List.length a))
 cond (decide (d<g)) (
 cond (inR d (List.length a)) (
 let b:=(List.getD a (Int.toNat d) (0,0)).1
 let c:=(List.getD a (Int.toNat d) (0,0)).2
 (j9c (b,c)).bind fun j=>
 cond (!j) (
 cond (inR e (List.length a)) (
 let l:Tn2:=(List.set a (Int.toNat e) (b,c))
 let k:=(w64 (e+1))
 let f:=(w64 (d+1))
 some (.inl (k,f,l))) none) (
 let i:=(w64 (d+1))
 some (.inl (e,i,a)))) none) (
 some (.inr (e,a)))
def j0F [LP] (b c:Int) (a:Tn2):Option (Tn15):=
 LP.lp (unc3 (j0I)) (b,c,a)
theorem j3r (b c a):j0F b c a=lpK (j0I b c a) (fun h=>j0F h.1 h.2.1 h.2.2):=j04 _ _
def j0A [LP] (c:Tn2):Option Tn15:=
 (j0S c).bind fun b=>
 cond (b.1==(-1)) (
 some ((Int.ofNat (List.length b.2)),b.2)) (
 let d:=(w64 (b.1+1))
 (j0F b.1 d b.2).bind fun a=>
 cond (decide (0≤a.1)&&decide (a.1≤(Int.ofNat (List.length a.2)))) (
 let e:Tn2:=(List.take (Int.toNat a.1) a.2++List.replicate (List.length a.2-(Int.toNat a.1)) (0,0))
 cond (decide (0≤a.1)&&decide (a.1≤(Int.ofNat (List.length e)))) (
 some ((Int.ofNat (Int.toNat a.1)),e)) none) none)
def j7K (b a:(Int×Int)):Option (Int):=
 let c:=(w64 (b.1-a.1))
 some c
def j1c (a:Tn2):Option (Tn2):=
 jro ((.pair (.int .i64) (.int .i64))) (fun c b=>(j7K c b).getD 0) a
def j44 (k d:Int) (a e:Tn2):Option ((Int×Int×Tn2×Tn2) ⊕ (Tn2)):=
 cond (decide (d<k)) (
 cond (inR d (List.length e)) (
 let g:=(List.getD e (Int.toNat d) (0,0)).1
 let b:=(List.getD e (Int.toNat d) (0,0)).2
 let c:=(Int.ofNat (List.length a))
 cond (decide (c>0)) (
 let l:=(w64 (c-1))
 cond (inR l (List.length a)) (
 let o:=(List.getD a (Int.toNat l) (0,0)).2
 cond (decide (g≤o)) (
 let f:=(w64 (c-1))
 let i:=(w64 (c-1))
 cond (inR i (List.length a)) (
 let j:=(List.getD a (Int.toNat i) (0,0)).2
 let t:Int:=(if b>j then b else j:Int)
 cond (inR f (List.length a)) (
 let r:Tn2:=(List.set a (Int.toNat f) ((List.getD a (Int.toNat f) (0,0)).1,t))
 let u:=(w64 (d+1))
 some (.inl (k,u,r,e))) none) none) (
 let n:Tn2:=[(g,b)]
 cond (decide (List.length a+List.length n≤j07)) (
 let q:Tn2:=(a++n)
 let s:=(w64 (d+1))
 some (.inl (k,s,q,e))) none)) none) (
 let m:Tn2:=[(g,b)]
 cond (decide (List.length a+List.length m≤j07)) (
 let v:Tn2:=(a++m)
 let p:=(w64 (d+1))
 some (.inl (k,p,v,e))) none)) none) (
 some (.inr a))
def j6k [LP] (b a:Int) (d c:Tn2):Option (Tn2):=
 LP.lp (unc4 (j44)) (b,a,d,c)
theorem jbk (b a d c):j6k b a d c=lpK (j44 b a d c) (fun h=>j6k h.1 h.2.1 h.2.2.1 h.2.2.2):=j04 _ _
def j5U [LP] (c:Tn2):Option (Tn2):=
 (j3L c).bind fun g=>
 (j0A g).bind fun b=>
 let d:Tn2:=(List.take (Int.toNat b.1) b.2)
 (j1c d).bind fun a=>
 let e:=(Int.ofNat (List.length a))
 (j6k e 0 ([]:Tn2) a).bind fun f=>
 some f
def j4j (u:Tn2) (d s p:Int) (k:Tn2) (q i e a b:Int) (t:Tn2) (r:Tn17):Option ((Tn2×Int×Int×Int×Tn2×Int×Int×Int×Int×Int×Tn2×Tn17) ⊕ ((Tn2×Int×Int×Int×Int×Int×Int×Tn2×Tn17))):=
 cond (decide (i<q)) (
 cond (inR i (List.length k)) (
 let j:=(List.getD k (Int.toNat i) (0,0))
 let f:=(w64 (d+j.1))
 let n:Int:=(if f>e then f else e:Int)
 let c:=(w64 (d+j.2))
 let l:Int:=(if c<a then c else a:Int)
 let g:Tn2:=[(n,l)]
 cond (decide (List.length t+List.length g≤j07)) (
 let m:Tn2:=(t++g)
 let o:=(w64 (i+1))
 some (.inl (u,d,s,p,k,q,o,e,a,b,m,r))) none) none) (
 some (.inr (u,d,s,p,e,a,b,t,r)))
def j5V [LP] (l:Tn2) (c d g:Int) (e:Tn2) (j i f b a:Int) (m:Tn2) (k:Tn17):Option ((Tn2×Int×Int×Int×Int×Int×Int×Tn2×Tn17)):=
 LP.lp (jz4 (j4j)) (l,c,d,g,e,j,i,f,b,a,m,k)
theorem jdu (l c d g e j i f b a m k):j5V l c d g e j i f b a m k=lpK (j4j l c d g e j i f b a m k) (fun h=>j5V h.1 h.2.1 h.2.2.1 h.2.2.2.1 h.2.2.2.2.1 h.2.2.2.2.2.1 h.2.2.2.2.2.2.1 h.2.2.2.2.2.2.2.1 h.2.2.2.2.2.2.2.2.1 h.2.2.2.2.2.2.2.2.2.1 h.2.2.2.2.2.2.2.2.2.2.1 h.2.2.2.2.2.2.2.2.2.2.2):=j04 _ _
def j23 [LP] (c:Tn2) (g i j l b f:Int) (m:Tn2) (k:Tn17):Option ((Tn2×Int×Int×Int×Int×Int×Int×Tn2×Tn17) ⊕ ((Tn2×Int×Int×Tn2×Tn17))):=
 cond (decide (g<b)) (
 let d:=(Int.ofNat (List.length c))
 (j5V c g i j c d 0 l b f m k).bind fun a=>
 let e:=(w64 (a.2.1+604800))
 some (.inl (a.1,e,a.2.2.1,a.2.2.2.1,a.2.2.2.2.1,a.2.2.2.2.2.1,a.2.2.2.2.2.2.1,a.2.2.2.2.2.2.2.1,a.2.2.2.2.2.2.2.2))) (
 some (.inr (c,i,j,m,k)))
def j5W [LP] (i:Tn2) (c d f e b a:Int) (j:Tn2) (g:Tn17):Option ((Tn2×Int×Int×Tn2×Tn17)):=
 LP.lp (unc9 (j23)) (i,c,d,f,e,b,a,j,g)
theorem jdv (i c d f e b a j g):j5W i c d f e b a j g=lpK (j23 i c d f e b a j g) (fun h=>j5W h.1 h.2.1 h.2.2.1 h.2.2.2.1 h.2.2.2.2.1 h.2.2.2.2.2.1 h.2.2.2.2.2.2.1 h.2.2.2.2.2.2.2.1 h.2.2.2.2.2.2.2.2):=j04 _ _
def j24 [LP] (q:Tn2) (o b:Int) (p:Tn2) (d:Tn17):Option ((Tn2×Int×Int×Tn2×Tn17) ⊕ (Tn2)):=
 cond (decide (b<o)) (
 cond (inR b (List.length d)) (
 let e:=(List.getD d (Int.toNat b) (0,(0,0))).1
 let j:=(List.getD d (Int.toNat b) (0,(0,0))).2.1
 let c:=(List.getD d (Int.toNat b) (0,(0,0))).2.2
 let k:=(w64 (e+c))
 let f:=(w64 (k-(-259200)))
 let l:=(Int.tmod f 604800)
 let g:=(w64 (f-l))
 let n:=(w64 (g+(-259200)))
 let m:=(w64 (n-c))
 (j5W q m o b e j c p d).bind fun a=>
 let i:=(w64 (a.2.2.1+1))
 some (.inl (a.1,a.2.1,i,a.2.2.2.1,a.2.2.2.2))) none) (
 some (.inr p))
def j5X [LP] (d:Tn2) (a b:Int) (e:Tn2) (c:Tn17):Option (Tn2):=
 LP.lp (unc5 (j24)) (d,a,b,e,c)
theorem jdw (d a b e c):j5X d a b e c=lpK (j24 d a b e c) (fun h=>j5X h.1 h.2.1 h.2.2.1 h.2.2.2.1 h.2.2.2.2):=j04 _ _
def j3M [LP] (b:Tn15) (e:Tn2) (a c:Int):Option (Tn2):=
 (j1j (b.1,b.2) a c).bind fun d=>
 let g:=(Int.ofNat (List.length d))
 (j5X e g 0 ([]:Tn2) d).bind fun i=>
 (j5U i).bind fun f=>
 some f
def j3s (t s:Int) (k:(List Int)) (r c:Int) (w:ByteArray) (i:Int) (j:(List Int)) (g a d:Int) (v:Tn2) (u:Tn17):Option ((Int×Int×(List Int)×Int×Int×ByteArray×Int×(List Int)×Int×Int×Int×Tn2×Tn17) ⊕ ((Int×Int×ByteArray×Int×(List Int)×Tn2×Tn17))):=
 cond (decide (c<r)) (
 cond (inR c (List.length k)) (
 let o:=(List.getD k (Int.toNat c) 0)
 let l:=(w64 (o*86400))
 let b:=(w64 (l-d))
 let p:Int:=(if b>g then b else g:Int)
 let e:=(w64 (b+86400))
 let q:Int:=(if e<a then e else a:Int)
 let f:Tn2:=[(p,q)]
 cond (decide (List.length v+List.length f≤j07)) (
 let n:Tn2:=(v++f)
 let m:=(w64 (c+1))
 some (.inl (t,s,k,r,m,w,i,j,g,a,d,n,u))) none) none) (
 some (.inr (t,s,w,i,j,v,u)))
def j3v [LP] (e j:Int) (k:(List Int)) (i g:Int) (m:ByteArray) (c:Int) (d:(List Int)) (f b a:Int) (n:Tn2) (l:Tn17):Option ((Int×Int×ByteArray×Int×(List Int)×Tn2×Tn17)):=
 LP.lp (jvw (j3s)) (e,j,k,i,g,m,c,d,f,b,a,n,l)
theorem jbK (e j k i g m c d f b a n l):j3v e j k i g m c d f b a n l=lpK (j3s e j k i g m c d f b a n l) (fun h=>j3v h.1 h.2.1 h.2.2.1 h.2.2.2.1 h.2.2.2.2.1 h.2.2.2.2.2.1 h.2.2.2.2.2.2.1 h.2.2.2.2.2.2.2.1 h.2.2.2.2.2.2.2.2.1 h.2.2.2.2.2.2.2.2.2.1 h.2.2.2.2.2.2.2.2.2.2.1 h.2.2.2.2.2.2.2.2.2.2.2.1 h.2.2.2.2.2.2.2.2.2.2.2.2):=j04 _ _
def j1A [LP] (k b:Int) (n:ByteArray) (l:Int) (d:(List Int)) (m:Tn2) (c:Tn17):Option ((Int×Int×ByteArray×Int×(List Int)×Tn2×Tn17) ⊕ (Tn2)):=
 cond (decide (b<k)) (
 cond (inR b (List.length c)) (
 let g:=(List.getD c (Int.toNat b) (0,(0,0))).1
 let i:=(List.getD c (Int.toNat b) (0,(0,0))).2.1
 let j:=(List.getD c (Int.toNat b) (0,(0,0))).2.2
 let f:=(Int.ofNat (List.length d))
 (j3v k b d f 0 n l d g i j m c).bind fun a=>
 let e:=(w64 (a.2.1+1))
 some (.inl (a.1,e,a.2.2.1,a.2.2.2.1,a.2.2.2.2.1,a.2.2.2.2.2.1,a.2.2.2.2.2.2))) none) (
 some (.inr m))
def j3w [LP] (c d:Int) (f:ByteArray) (a:Int) (b:(List Int)) (g:Tn2) (e:Tn17):Option (Tn2):=
 LP.lp (unc7 (j1A)) (c,d,f,a,b,g,e)
theorem jbL (c d f a b g e):j3w c d f a b g e=lpK (j1A c d f a b g e) (fun h=>j3w h.1 h.2.1 h.2.2.1 h.2.2.2.1 h.2.2.2.2.1 h.2.2.2.2.2.1 h.2.2.2.2.2.2):=j04 _ _
def j1J [LP] (c:Tn78) (a:Tn22) (b d:Int):Option (Tn2):=
 cond (inR a.2.1 (List.length c.2)) (
 let f:=(List.getD c.2 (Int.toNat a.2.1) (0,([]:Tn2)))
 (j1j (f.1,f.2) b d).bind fun e=>
 let i:=(Int.ofNat (List.length e))
 (j3w i 0 a.1 a.2.1 a.2.2 ([]:Tn2) e).bind fun j=>
 (j5U j).bind fun g=>
 some g) none
def j4k (b:Tn2) (c:Int) (e:Tn2) (f d i a:Int) (l:Tn2):Option ((Tn2×Int×Tn2×Int×Int×Int×Int×Tn2) ⊕ ((Tn2×Int×Tn2×Int×Int×Int×Int×Tn2))):=
 let j:=(Int.ofNat (List.length b))
 cond (decide (c<j)) (
 cond (inR c (List.length b)) (
 let g:=(List.getD b (Int.toNat c) (0,0))
 cond (decide (g.2≤i)) (
 let k:=(w64 (c+1))
 some (.inl (b,k,e,f,d,i,a,l))) (
 some (.inr (b,c,e,f,d,i,a,l)))) none) (
 some (.inr (b,c,e,f,d,i,a,l)))
def j5Y [LP] (e:Tn2) (f:Int) (c:Tn2) (d b g a:Int) (i:Tn2):Option ((Tn2×Int×Tn2×Int×Int×Int×Int×Tn2)):=
 LP.lp (unc8 (j4k)) (e,f,c,d,b,g,a,i)
theorem jdx (e f c d b g a i):j5Y e f c d b g a i=lpK (j4k e f c d b g a i) (fun h=>j5Y h.1 h.2.1 h.2.2.1 h.2.2.2.1 h.2.2.2.2.1 h.2.2.2.2.2.1 h.2.2.2.2.2.2.1 h.2.2.2.2.2.2.2):=j04 _ _
def j4l (b:Tn2) (w d a:Int) (j:Tn2) (k f m c:Int) (l:Tn2):Option ((Tn2×Int×Int×Int×Tn2×Int×Int×Int×Int×Tn2) ⊕ ((Tn2×Int×Int×Tn2×Int×Int×Int×Int×Tn2))):=
 let q:=(Int.ofNat (List.length b))
 cond (decide (a<q)) (
 cond (inR a (List.length b)) (
 let v:=(List.getD b (Int.toNat a) (0,0))
 cond (decide (v.1<c)) (
 cond (inR a (List.length b)) (
 let p:=(List.getD b (Int.toNat a) (0,0))
 cond (decide (d<p.1)) (
 cond (inR a (List.length b)) (
 let o:=(List.getD b (Int.toNat a) (0,0))
 let e:Tn2:=[(d,o.1)]
 cond (decide (List.length l+List.length e≤j07)) (
 let s:Tn2:=(l++e)
 cond (inR a (List.length b)) (
 let i:=(List.getD b (Int.toNat a) (0,0))
 let t:Int:=(if i.2>d then i.2 else d:Int)
 let r:=(w64 (a+1))
 some (.inl (b,w,t,r,j,k,f,m,c,s))) none) none) none) (
 cond (inR a (List.length b)) (
 let g:=(List.getD b (Int.toNat a) (0,0))
 let n:Int:=(if g.2>d then g.2 else d:Int)
 let u:=(w64 (a+1))
 some (.inl (b,w,n,u,j,k,f,m,c,l))) none)) none) (
 some (.inr (b,w,d,j,k,f,m,c,l)))) none) (
 some (.inr (b,w,d,j,k,f,m,c,l)))
def j4I [LP] (f:Tn2) (g i d:Int) (c:Tn2) (e b j a:Int) (k:Tn2):Option ((Tn2×Int×Int×Tn2×Int×Int×Int×Int×Tn2)):=
 LP.lp (jlv (j4l)) (f,g,i,d,c,e,b,j,a,k)
theorem jdy (f g i d c e b j a k):j4I f g i d c e b j a k=lpK (j4l f g i d c e b j a k) (fun h=>j4I h.1 h.2.1 h.2.2.1 h.2.2.2.1 h.2.2.2.2.1 h.2.2.2.2.2.1 h.2.2.2.2.2.2.1 h.2.2.2.2.2.2.2.1 h.2.2.2.2.2.2.2.2.1 h.2.2.2.2.2.2.2.2.2):=j04 _ _
def j25 [LP] (m:Tn2) (n:Int) (f:Tn2) (k c:Int) (l:Tn2):Option ((Tn2×Int×Tn2×Int×Int×Tn2) ⊕ (Tn2)):=
 cond (decide (c<k)) (
 cond (inR c (List.length f)) (
 let d:=(List.getD f (Int.toNat c) (0,0))
 (j5Y m n f k c d.1 d.2 l).bind fun b=>
 (j4I b.1 b.2.1 b.2.2.2.2.2.1 b.2.1 b.2.2.1 b.2.2.2.1 b.2.2.2.2.1 b.2.2.2.2.2.1 b.2.2.2.2.2.2.1 b.2.2.2.2.2.2.2).bind fun a=>
 cond (decide (a.2.2.1<a.2.2.2.2.2.2.2.1)) (
 let e:Tn2:=[(a.2.2.1,a.2.2.2.2.2.2.2.1)]
 cond (decide (List.length a.2.2.2.2.2.2.2.2+List.length e≤j07)) (
 let j:Tn2:=(a.2.2.2.2.2.2.2.2++e)
 let i:=(w64 (a.2.2.2.2.2.1+1))
 some (.inl (a.1,a.2.1,a.2.2.2.1,a.2.2.2.2.1,i,j))) none) (
 let g:=(w64 (a.2.2.2.2.2.1+1))
 some (.inl (a.1,a.2.1,a.2.2.2.1,a.2.2.2.2.1,g,a.2.2.2.2.2.2.2.2)))) none) (
 some (.inr l))
def j3N [LP] (d:Tn2) (e:Int) (b:Tn2) (c a:Int) (f:Tn2):Option (Tn2):=
 LP.lp (unc6 (j25)) (d,e,b,c,a,f)
theorem jdz (d e b c a f):j3N d e b c a f=lpK (j25 d e b c a f) (fun h=>j3N h.1 h.2.1 h.2.2.1 h.2.2.2.1 h.2.2.2.2.1 h.2.2.2.2.2):=j04 _ _
def j2k [LP] (a b:Tn2):Option (Tn2):=
 let c:=(Int.ofNat (List.length a))
 (j3N b 0 a c 0 ([]:Tn2)).bind fun d=>
 some d
def j6l (c b:Tn2) (d a:Int) (n:Tn2):Option ((Tn2×Tn2×Int×Int×Tn2) ⊕ (Tn2)):=
 let x:=(Int.ofNat (List.length c))
 let o:=(Int.ofNat (List.length b))
 cond (cond (decide (d<x)) (decide (a<o)) false) (
 cond (inR d (List.length c)) (
 let f:=(List.getD c (Int.toNat d) (0,0))
 cond (inR a (List.length b)) (
 let m:=(List.getD b (Int.toNat a) (0,0))
 let k:Int:=(if m.1>f.1 then m.1 else f.1:Int)
 cond (inR d (List.length c)) (
 let j:=(List.getD c (Int.toNat d) (0,0))
 cond (inR a (List.length b)) (
 let l:=(List.getD b (Int.toNat a) (0,0))
 let g:Int:=(if l.2<j.2 then l.2 else j.2:Int)
 cond (decide (k<g)) (
 let e:Tn2:=[(k,g)]
 cond (decide (List.length n+List.length e≤j07)) (
 let i:Tn2:=(n++e)
 cond (inR d (List.length c)) (
 let s:=(List.getD c (Int.toNat d) (0,0))
 cond (inR a (List.length b)) (
 let w:=(List.getD b (Int.toNat a) (0,0))
 cond (decide (s.2<w.2)) (
 let p:=(w64 (d+1))
 some (.inl (c,b,p,a,i))) (
 let u:=(w64 (a+1))
 some (.inl (c,b,d,u,i)))) none) none) none) (
 cond (inR d (List.length c)) (
 let q:=(List.getD c (Int.toNat d) (0,0))
 cond (inR a (List.length b)) (
 let r:=(List.getD b (Int.toNat a) (0,0))
 cond (decide (q.2<r.2)) (
 let t:=(w64 (d+1))
 some (.inl (c,b,t,a,n))) (
 let v:=(w64 (a+1))
 some (.inl (c,b,d,v,n)))) none) none)) none) none) none) none) (
 some (.inr n))
def j3G [LP] (b a:Tn2) (c d:Int) (e:Tn2):Option (Tn2):=
 LP.lp (unc5 (j6l)) (b,a,c,d,e)
theorem jkD (b a c d e):j3G b a c d e=lpK (j6l b a c d e) (fun h=>j3G h.1 h.2.1 h.2.2.1 h.2.2.2.1 h.2.2.2.2):=j04 _ _
def j7m [LP] (b a:Tn2):Option (Tn2):=
 (j3G b a 0 0 ([]:Tn2)).bind fun c=>
 some c
def j3O [LP] (a:Tn78) (b:Tn64) (d c:Int):Option (Tn2):=
 cond (inR b.2.1 (List.length a.2)) (
 let s:=(List.getD a.2 (Int.toNat b.2.1) (0,([]:Tn2)))
 (j0M (s.1,s.2) (b.1,(b.2.1,((b.2.2.1.1,b.2.2.1.2),(b.2.2.2.1,(b.2.2.2.2.1,(b.2.2.2.2.2.1,(b.2.2.2.2.2.2.1,(b.2.2.2.2.2.2.2.1,b.2.2.2.2.2.2.2.2)))))))) 0).bind fun i=>
 cond (cond (cond (!i.2) true (decide (i.1≥c))) true (decide (d≥c))) (
 some ([]:Tn2)) (
 let e:Int:=(if i.1>d then i.1 else d:Int)
 let j:Tn2:=[(e,c)]
 let w:=(Int.ofNat (List.length b.2.2.2.2.2.2.1))
 cond (decide (w>0)) (
 cond (inR b.2.1 (List.length a.2)) (
 let r:=(List.getD a.2 (Int.toNat b.2.1) (0,([]:Tn2)))
 (j3M (r.1,r.2) b.2.2.2.2.2.2.1 e c).bind fun k=>
 cond (b.2.2.2.2.2.2.2.2==1) (
 cond (inR b.2.2.2.2.2.2.2.1 (List.length a.1.2.2.1)) (
 let m:=(List.getD a.1.2.2.1 (Int.toNat b.2.2.2.2.2.2.2.1) (ByteArray.empty,(0,([]:(List Int)))))
 (j1J ((a.1.1,(a.1.2.1,(a.1.2.2.1,a.1.2.2.2))),a.2) (m.1,(m.2.1,m.2.2)) e c).bind fun x=>
 (j2k k x).bind fun u=>
 some u) none) (
 cond (b.2.2.2.2.2.2.2.2==2) (
 cond (inR b.2.2.2.2.2.2.2.1 (List.length a.1.2.2.1)) (
 let l:=(List.getD a.1.2.2.1 (Int.toNat b.2.2.2.2.2.2.2.1) (ByteArray.empty,(0,([]:(List Int)))))
 (j1J ((a.1.1,(a.1.2.1,(a.1.2.2.1,a.1.2.2.2))),a.2) (l.1,(l.2.1,l.2.2)) e c).bind fun v=>
 (j7m k v).bind fun t=>
 some t) none) (
 some k))) none) (
 cond (b.2.2.2.2.2.2.2.2==1) (
 cond (inR b.2.2.2.2.2.2.2.1 (List.length a.1.2.2.1)) (
 let g:=(List.getD a.1.2.2.1 (Int.toNat b.2.2.2.2.2.2.2.1) (ByteArray.empty,(0,([]:(List Int)))))
 (j1J ((a.1.1,(a.1.2.1,(a.1.2.2.1,a.1.2.2.2))),a.2) (g.1,(g.2.1,g.2.2)) e c).bind fun q=>
 (j2k j q).bind fun o=>
 some o) none) (
 cond (b.2.2.2.2.2.2.2.2==2) (
 cond (inR b.2.2.2.2.2.2.2.1 (List.length a.1.2.2.1)) (
 let f:=(List.getD a.1.2.2.1 (Int.toNat b.2.2.2.2.2.2.2.1) (ByteArray.empty,(0,([]:(List Int)))))
 (j1J ((a.1.1,(a.1.2.1,(a.1.2.2.1,a.1.2.2.2))),a.2) (f.1,(f.2.1,f.2.2)) e c).bind fun p=>
 (j7m j p).bind fun n=>
 some n) none) (
 some j))))) none
def j3x [LP] (a:Tn15) (b:Int):Option (Int):=
 (j3n (a.1,a.2) b).bind fun c=>
 (j4D (a.1,a.2) c).bind fun d=>
 some d
def jht (a:Int):Option ((Int×Int)):=
 let e:=(w64 (Int.tdiv a 86400))
 let i:=(Int.tmod a 86400)
 cond (decide (i<0)) (
 let d:=(w64 (e-1))
 let g:=(w64 (d*86400))
 let f:=(w64 (a-g))
 some (d,f)) (
 let c:=(w64 (e*86400))
 let b:=(w64 (a-c))
 some (e,b))
def j0q [LP] (b:Tn15) (a:Int):Option ((Int×Int)):=
 (j3x (b.1,b.2) a).bind fun d=>
 let e:=(w64 (a+d))
 (jht e).bind fun c=>
 some (c.1,c.2)
def j1O [LP] (q m o:Int) (k:Tn2) (n:ByteArray) (g i a c b:Int) (f:(List Int)) (d:Tn2) (j e:Int):Option ((Int×Int×Int×Tn2×ByteArray×Int×Int×Int×Int×Int×(List Int)×Tn2×Int×Int) ⊕ ((Int×Int×Int×Tn2×ByteArray×Int×Int×Int×Int×Int×(List Int)×Tn2×Int×Int))):=
 cond (decide (m>0)) (
 (j0M (o,k) (n,(g,((i,a),(c,(b,(f,(d,(j,e)))))))) m).bind fun l=>
 cond (cond l.2 (decide (l.1≤q)) false) (
 some (.inr (q,m,o,k,n,g,i,a,c,b,f,d,j,e))) (
 let p:=(w64 (m-1))
 some (.inl (q,p,o,k,n,g,i,a,c,b,f,d,j,e)))) (
 some (.inr (q,m,o,k,n,g,i,a,c,b,f,d,j,e)))
def j54 [LP] (o n m:Int) (k:Tn2) (l:ByteArray) (g i a c b:Int) (f:(List Int)) (d:Tn2) (j e:Int):Option ((Int×Int×Int×Tn2×ByteArray×Int×Int×Int×Int×Int×(List Int)×Tn2×Int×Int)):=
 LP.lp (jnS (j1O)) (o,n,m,k,l,g,i,a,c,b,f,d,j,e)
theorem jco (o n m k l g i a c b f d j e):j54 o n m k l g i a c b f d j e=lpK (j1O o n m k l g i a c b f d j e) (fun h=>j54 h.1 h.2.1 h.2.2.1 h.2.2.2.1 h.2.2.2.2.1 h.2.2.2.2.2.1 h.2.2.2.2.2.2.1 h.2.2.2.2.2.2.2.1 h.2.2.2.2.2.2.2.2.1 h.2.2.2.2.2.2.2.2.2.1 h.2.2.2.2.2.2.2.2.2.2.1 h.2.2.2.2.2.2.2.2.2.2.2.1 h.2.2.2.2.2.2.2.2.2.2.2.2.1 h.2.2.2.2.2.2.2.2.2.2.2.2.2):=j04 _ _
def j2l [LP] (r o q:Int) (l:Tn2) (p:ByteArray) (i j b d c:Int) (g:(List Int)) (e:Tn2) (k f:Int):Option ((Int×Int×Int×Tn2×ByteArray×Int×Int×Int×Int×Int×(List Int)×Tn2×Int×Int) ⊕ (Int)):=
 let n:=(w64 (o+1))
 (j0M (q,l) (p,(i,((j,b),(d,(c,(g,(e,(k,f)))))))) n).bind fun a=>
 cond (cond (!a.2) true (decide (a.1>r))) (
 some (.inr o)) (
 let m:=(w64 (o+1))
 some (.inl (r,m,q,l,p,i,j,b,d,c,g,e,k,f)))
def j55 [LP] (o n m:Int) (k:Tn2) (l:ByteArray) (g i a c b:Int) (f:(List Int)) (d:Tn2) (j e:Int):Option (Int):=
 LP.lp (jnS (j2l)) (o,n,m,k,l,g,i,a,c,b,f,d,j,e)
theorem jip (o n m k l g i a c b f d j e):j55 o n m k l g i a c b f d j e=lpK (j2l o n m k l g i a c b f d j e) (fun h=>j55 h.1 h.2.1 h.2.2.1 h.2.2.2.1 h.2.2.2.2.1 h.2.2.2.2.2.1 h.2.2.2.2.2.2.1 h.2.2.2.2.2.2.2.1 h.2.2.2.2.2.2.2.2.1 h.2.2.2.2.2.2.2.2.2.1 h.2.2.2.2.2.2.2.2.2.2.1 h.2.2.2.2.2.2.2.2.2.2.2.1 h.2.2.2.2.2.2.2.2.2.2.2.2.1 h.2.2.2.2.2.2.2.2.2.2.2.2.2):=j04 _ _
def j1V [LP] (c:Tn15) (a:Tn64) (d:Int):Option (Int):=
 (j0M (c.1,c.2) (a.1,(a.2.1,((a.2.2.1.1,a.2.2.1.2),(a.2.2.2.1,(a.2.2.2.2.1,(a.2.2.2.2.2.1,(a.2.2.2.2.2.2.1,(a.2.2.2.2.2.2.2.1,a.2.2.2.2.2.2.2.2)))))))) 0).bind fun e=>
 cond (cond (!e.2) true (decide (e.1>d))) (
 some (-1)) (
 cond (a.2.2.2.1==0) (
 let l:=(w64 (d-e.1))
 let i:=(w64 (3600*a.2.2.2.2.1))
 cond (!(i==0)) (
 let m:=(w64 (Int.tdiv l i))
 some m) none) (
 (j0q (c.1,c.2) d).bind fun j=>
 let k:=(w64 (j.1-a.2.2.1.1))
 (jaa (a.1,(a.2.1,((a.2.2.1.1,a.2.2.1.2),(a.2.2.2.1,(a.2.2.2.2.1,(a.2.2.2.2.2.1,(a.2.2.2.2.2.2.1,(a.2.2.2.2.2.2.2.1,a.2.2.2.2.2.2.2.2))))))))).bind fun f=>
 cond (!(f==0)) (
 let g:=(w64 (Int.tdiv k f))
 let n:Int:=(if g>0 then g else 0:Int)
 (j54 d n c.1 c.2 a.1 a.2.1 a.2.2.1.1 a.2.2.1.2 a.2.2.2.1 a.2.2.2.2.1 a.2.2.2.2.2.1 a.2.2.2.2.2.2.1 a.2.2.2.2.2.2.2.1 a.2.2.2.2.2.2.2.2).bind fun b=>
 (j55 b.1 b.2.1 b.2.2.1 b.2.2.2.1 b.2.2.2.2.1 b.2.2.2.2.2.1 b.2.2.2.2.2.2.1 b.2.2.2.2.2.2.2.1 b.2.2.2.2.2.2.2.2.1 b.2.2.2.2.2.2.2.2.2.1 b.2.2.2.2.2.2.2.2.2.2.1 b.2.2.2.2.2.2.2.2.2.2.2.1 b.2.2.2.2.2.2.2.2.2.2.2.2.1 b.2.2.2.2.2.2.2.2.2.2.2.2.2).bind fun o=>
 some o) none))
def j5d (f:Tn17) (m e:Int) (b:Tn17):Option ((Tn17×Int×Int×Tn17) ⊕ (Tn17)):=
 cond (decide (e<m)) (
 cond (inR e (List.length f)) (
 let a:=(List.getD f (Int.toNat e) (0,(0,0)))
 cond (decide (a.2.1≤a.1)) (
 let q:=(w64 (e+1))
 some (.inl (f,m,q,b))) (
 let d:=(Int.ofNat (List.length b))
 cond (decide (d>0)) (
 let i:=(w64 (d-1))
 cond (inR i (List.length b)) (
 let v:=(List.getD b (Int.toNat i) (0,(0,0))).2.1
 cond (v==a.1) (
 let j:=(w64 (d-1))
 cond (inR j (List.length b)) (
 let p:=(List.getD b (Int.toNat j) (0,(0,0))).2.2
 cond (p==a.2.2) (
 let c:=(w64 (d-1))
 cond (inR c (List.length b)) (
 let x:Tn17:=(List.set b (Int.toNat c) ((List.getD b (Int.toNat c) (0,(0,0))).1,(a.2.1,(List.getD b (Int.toNat c) (0,(0,0))).2.2)))
 let w:=(w64 (e+1))
 some (.inl (f,m,w,x))) none) (
 let l:Tn17:=[(a.1,(a.2.1,a.2.2))]
 cond (decide (List.length b+List.length l≤j07)) (
 let s:Tn17:=(b++l)
 let t:=(w64 (e+1))
 some (.inl (f,m,t,s))) none)) none) (
 let k:Tn17:=[(a.1,(a.2.1,a.2.2))]
 cond (decide (List.length b+List.length k≤j07)) (
 let r:Tn17:=(b++k)
 let n:=(w64 (e+1))
 some (.inl (f,m,n,r))) none)) none) (
 let g:Tn17:=[(a.1,(a.2.1,a.2.2))]
 cond (decide (List.length b+List.length g≤j07)) (
 let u:Tn17:=(b++g)
 let o:=(w64 (e+1))
 some (.inl (f,m,o,u))) none))) none) (
 some (.inr b))
def j5e [LP] (a:Tn17) (b d:Int) (c:Tn17):Option (Tn17):=
 LP.lp (unc4 (j5d)) (a,b,d,c)
theorem jfW (d a c b):j5e d a c b=lpK (j5d d a c b) (fun h=>j5e h.1 h.2.1 h.2.2.1 h.2.2.2):=j04 _ _
def j6R [LP] (a:Tn17):Option (Tn17):=
 let b:=(Int.ofNat (List.length a))
 (j5e a b 0 ([]:Tn17)).bind fun c=>
 some c
def j1h [LP] (b7 o b3 s a1 a0:Int) (a7:ByteArray) (g j k f l:Int) (a:(List Int)) (e:Tn2) (i m p:Int) (c:Tn2) (a8 b:Int) (z:Tn17) (a6:Tn2):Option ((Int×Int×Int×Int×Int×Int×ByteArray×Int×Int×Int×Int×Int×(List Int)×Tn2×Int×Int×Int×Tn2×Int×Int×Tn17×Tn2) ⊕ ((Int×Int×Int×Int×Int×Int×ByteArray×Int×Int×Int×Int×Int×(List Int)×Tn2×Int×Int×Int×Tn2×Tn17×Tn2))):=
 cond (decide (o<b)) (
 cond (decide (o≥s)) (
 (j1V (p,c) (a7,(g,((j,k),(f,(l,(a,(e,(i,m)))))))) o).bind fun d=>
 let b5:=(w64 (d+1))
 (j0M (p,c) (a7,(g,((j,k),(f,(l,(a,(e,(i,m)))))))) b5).bind fun n=>
 cond (!n.2) (
 let a4:Int:=(if 8589934593<b then 8589934593 else b:Int)
 let a2:=(Int.ofNat (List.length a))
 cond (!(a2==0)) (
 let a3:=(Int.tmod d a2)
 cond (inR a3 (List.length a)) (
 let b4:=(List.getD a (Int.toNat a3) 0)
 let a5:Tn17:=[(o,(a4,b4))]
 cond (decide (List.length z+List.length a5≤j07)) (
 let b6:Tn17:=(z++a5)
 some (.inl (b7,a4,d,8589934593,a1,a0,a7,g,j,k,f,l,a,e,i,m,p,c,a8,b,b6,a6))) none) none) none) (
 let t:Int:=(if n.1<b then n.1 else b:Int)
 let w:=(Int.ofNat (List.length a))
 cond (!(w==0)) (
 let r:=(Int.tmod d w)
 cond (inR r (List.length a)) (
 let a9:=(List.getD a (Int.toNat r) 0)
 let u:Tn17:=[(o,(t,a9))]
 cond (decide (List.length z+List.length u≤j07)) (
 let b0:Tn17:=(z++u)
 some (.inl (b7,t,d,n.1,a1,a0,a7,g,j,k,f,l,a,e,i,m,p,c,a8,b,b0,a6))) none) none) none)) (
 let x:Int:=(if s<b then s else b:Int)
 let y:=(Int.ofNat (List.length a))
 cond (!(y==0)) (
 let v:=(Int.tmod b3 y)
 cond (inR v (List.length a)) (
 let b2:=(List.getD a (Int.toNat v) 0)
 let q:Tn17:=[(o,(x,b2))]
 cond (decide (List.length z+List.length q≤j07)) (
 let b1:Tn17:=(z++q)
 some (.inl (b7,x,b3,s,a1,a0,a7,g,j,k,f,l,a,e,i,m,p,c,a8,b,b1,a6))) none) none) none)) (
 some (.inr (b7,o,b3,s,a1,a0,a7,g,j,k,f,l,a,e,i,m,p,c,z,a6)))
def j2m [LP] (v q t p n m:Int) (u:ByteArray) (f i j e k:Int) (c:(List Int)) (d:Tn2) (g l s:Int) (a:Tn2) (o b:Int) (w:Tn17) (r:Tn2):Option ((Int×Int×Int×Int×Int×Int×ByteArray×Int×Int×Int×Int×Int×(List Int)×Tn2×Int×Int×Int×Tn2×Tn17×Tn2)):=
 LP.lp (jC3 (j1h)) (v,q,t,p,n,m,u,f,i,j,e,k,c,d,g,l,s,a,o,b,w,r)
theorem jet (v q t p n m u f i j e k c d g l s a o b w r):j2m v q t p n m u f i j e k c d g l s a o b w r=lpK (j1h v q t p n m u f i j e k c d g l s a o b w r) (fun h=>j2m h.1 h.2.1 h.2.2.1 h.2.2.2.1 h.2.2.2.2.1 h.2.2.2.2.2.1 h.2.2.2.2.2.2.1 h.2.2.2.2.2.2.2.1 h.2.2.2.2.2.2.2.2.1 h.2.2.2.2.2.2.2.2.2.1 h.2.2.2.2.2.2.2.2.2.2.1 h.2.2.2.2.2.2.2.2.2.2.2.1 h.2.2.2.2.2.2.2.2.2.2.2.2.1 h.2.2.2.2.2.2.2.2.2.2.2.2.2.1 h.2.2.2.2.2.2.2.2.2.2.2.2.2.2.1 h.2.2.2.2.2.2.2.2.2.2.2.2.2.2.2.1 h.2.2.2.2.2.2.2.2.2.2.2.2.2.2.2.2.1 h.2.2.2.2.2.2.2.2.2.2.2.2.2.2.2.2.2.1 h.2.2.2.2.2.2.2.2.2.2.2.2.2.2.2.2.2.2.1 h.2.2.2.2.2.2.2.2.2.2.2.2.2.2.2.2.2.2.2.1 h.2.2.2.2.2.2.2.2.2.2.2.2.2.2.2.2.2.2.2.2.1 h.2.2.2.2.2.2.2.2.2.2.2.2.2.2.2.2.2.2.2.2.2):=j04 _ _
def j0Z [LP] (x l z w k c:Int) (a0:ByteArray) (p r s o t:Int) (m:(List Int)) (n:Tn2) (q v y:Int) (f:Tn2) (u:Tn17) (e:Tn2):Option ((Int×Int×Int×Int×Int×Int×ByteArray×Int×Int×Int×Int×Int×(List Int)×Tn2×Int×Int×Int×Tn2×Tn17×Tn2) ⊕ ((Int×Int×Tn17))):=
 cond (decide (c<k)) (
 cond (inR c (List.length e)) (
 let b:=(List.getD e (Int.toNat c) (0,0)).1
 let i:=(List.getD e (Int.toNat c) (0,0)).2
 let d:Tn17:=[(l,(b,(-1)))]
 cond (decide (List.length u+List.length d≤j07)) (
 let j:Tn17:=(u++d)
 (j2m x b z w k c a0 p r s o t m n q v y f b i j e).bind fun a=>
 let g:=(w64 (a.2.2.2.2.2.1+1))
 some (.inl (a.1,a.2.1,a.2.2.1,a.2.2.2.1,a.2.2.2.2.1,g,a.2.2.2.2.2.2.1,a.2.2.2.2.2.2.2.1,a.2.2.2.2.2.2.2.2.1,a.2.2.2.2.2.2.2.2.2.1,a.2.2.2.2.2.2.2.2.2.2.1,a.2.2.2.2.2.2.2.2.2.2.2.1,a.2.2.2.2.2.2.2.2.2.2.2.2.1,a.2.2.2.2.2.2.2.2.2.2.2.2.2.1,a.2.2.2.2.2.2.2.2.2.2.2.2.2.2.1,a.2.2.2.2.2.2.2.2.2.2.2.2.2.2.2.1,a.2.2.2.2.2.2.2.2.2.2.2.2.2.2.2.2.1,a.2.2.2.2.2.2.2.2.2.2.2.2.2.2.2.2.2.1,a.2.2.2.2.2.2.2.2.2.2.2.2.2.2.2.2.2.2.1,a.2.2.2.2.2.2.2.2.2.2.2.2.2.2.2.2.2.2.2))) none) none) (
 some (.inr (x,l,u)))
def j2n [LP] (t o r n m l:Int) (s:ByteArray) (e g i d j:Int) (b:(List Int)) (c:Tn2) (f k q:Int) (a:Tn2) (u:Tn17) (p:Tn2):Option ((Int×Int×Tn17)):=
 LP.lp (jC2 (j0Z)) (t,o,r,n,m,l,s,e,g,i,d,j,b,c,f,k,q,a,u,p)
theorem j8W (t o r n m l s e g i d j b c f k q a u p):j2n t o r n m l s e g i d j b c f k q a u p=lpK (j0Z t o r n m l s e g i d j b c f k q a u p) (fun h=>j2n h.1 h.2.1 h.2.2.1 h.2.2.2.1 h.2.2.2.2.1 h.2.2.2.2.2.1 h.2.2.2.2.2.2.1 h.2.2.2.2.2.2.2.1 h.2.2.2.2.2.2.2.2.1 h.2.2.2.2.2.2.2.2.2.1 h.2.2.2.2.2.2.2.2.2.2.1 h.2.2.2.2.2.2.2.2.2.2.2.1 h.2.2.2.2.2.2.2.2.2.2.2.2.1 h.2.2.2.2.2.2.2.2.2.2.2.2.2.1 h.2.2.2.2.2.2.2.2.2.2.2.2.2.2.1 h.2.2.2.2.2.2.2.2.2.2.2.2.2.2.2.1 h.2.2.2.2.2.2.2.2.2.2.2.2.2.2.2.2.1 h.2.2.2.2.2.2.2.2.2.2.2.2.2.2.2.2.2.1 h.2.2.2.2.2.2.2.2.2.2.2.2.2.2.2.2.2.2.1 h.2.2.2.2.2.2.2.2.2.2.2.2.2.2.2.2.2.2.2):=j04 _ _
def j1l [LP] (b:Tn78) (a:Tn64) (c d:Int):Option (Tn17):=
 cond (inR a.2.1 (List.length b.2)) (
 let f:=(List.getD b.2 (Int.toNat a.2.1) (0,([]:Tn2)))
 (j3O ((b.1.1,(b.1.2.1,(b.1.2.2.1,b.1.2.2.2))),b.2) (a.1,(a.2.1,((a.2.2.1.1,a.2.2.1.2),(a.2.2.2.1,(a.2.2.2.2.1,(a.2.2.2.2.2.1,(a.2.2.2.2.2.2.1,(a.2.2.2.2.2.2.2.1,a.2.2.2.2.2.2.2.2)))))))) c d).bind fun g=>
 let l:=(Int.ofNat (List.length g))
 (j2n d c (-1) (-1) l 0 a.1 a.2.1 a.2.2.1.1 a.2.2.1.2 a.2.2.2.1 a.2.2.2.2.1 a.2.2.2.2.2.1 a.2.2.2.2.2.2.1 a.2.2.2.2.2.2.2.1 a.2.2.2.2.2.2.2.2 f.1 f.2 ([]:Tn17) g).bind fun e=>
 let i:Tn17:=[(e.2.1,(e.1,(-1)))]
 cond (decide (List.length e.2.2+List.length i≤j07)) (
 let j:Tn17:=(e.2.2++i)
 (j6R j).bind fun k=>
 some k) none) none
def j4m (k:Int) (g:Tn34) (d b:Int) (i:Tn2):Option ((Int×Tn34×Int×Int×Tn2) ⊕ (Tn2)):=
 cond (decide (b<d)) (
 cond (inR b (List.length g)) (
 let a:=(List.getD g (Int.toNat b) (0,(0,(0,(0,0)))))
 cond (cond (a.1==0) (a.2.1==k) false) (
 let c:Tn2:=[(a.2.2.2.1,a.2.2.2.2)]
 cond (decide (List.length i+List.length c≤j07)) (
 let j:Tn2:=(i++c)
 let f:=(w64 (b+1))
 some (.inl (k,g,d,f,j))) none) (
 let e:=(w64 (b+1))
 some (.inl (k,g,d,e,i)))) none) (
 some (.inr i))
def j4J [LP] (c:Int) (d:Tn34) (b a:Int) (e:Tn2):Option (Tn2):=
 LP.lp (unc5 (j4m)) (c,d,b,a,e)
theorem jdA (c d b a e):j4J c d b a e=lpK (j4m c d b a e) (fun h=>j4J h.1 h.2.1 h.2.2.1 h.2.2.2.1 h.2.2.2.2):=j04 _ _
def j4z [LP] (b:Tn69) (a:Int):Option (Tn2):=
 let c:=(Int.ofNat (List.length b.2.2))
 (j4J a b.2.2 c 0 ([]:Tn2)).bind fun e=>
 (j5U e).bind fun d=>
 some d
def j3P (l:Tn17) (n o m a:Int) (s:ByteArray) (e:Tn65) (f:Tn34) (t q d:Int) (r:Tn23) (p:Tn17) (c:Tn2):Option ((Tn17×Int×Int×Int×Int×ByteArray×Tn65×Tn34×Int×Int×Int×Tn23×Tn17×Tn2) ⊕ ((Tn17×Int×Int×ByteArray×Tn65×Tn34×Tn23×Tn17))):=
 cond (decide (a<m)) (
 cond (inR a (List.length c)) (
 let j:=(List.getD c (Int.toNat a) (0,0)).1
 let i:=(List.getD c (Int.toNat a) (0,0)).2
 let b:Tn17:=[(j,(i,d))]
 cond (decide (List.length p+List.length b≤j07)) (
 let g:Tn17:=(p++b)
 let k:=(w64 (a+1))
 some (.inl (l,n,o,m,k,s,e,f,t,q,d,r,g,c))) none) none) (
 some (.inr (l,n,o,s,e,f,r,p)))
def j2J [LP] (f:Tn17) (e j i g:Int) (m:ByteArray) (b:Tn65) (c:Tn34) (n d a:Int) (o:Tn23) (l:Tn17) (k:Tn2):Option ((Tn17×Int×Int×ByteArray×Tn65×Tn34×Tn23×Tn17)):=
 LP.lp (jnS (j3P)) (f,e,j,i,g,m,b,c,n,d,a,o,l,k)
theorem jcp (f e j i g m b c n d a o l k):j2J f e j i g m b c n d a o l k=lpK (j3P f e j i g m b c n d a o l k) (fun h=>j2J h.1 h.2.1 h.2.2.1 h.2.2.2.1 h.2.2.2.2.1 h.2.2.2.2.2.1 h.2.2.2.2.2.2.1 h.2.2.2.2.2.2.2.1 h.2.2.2.2.2.2.2.2.1 h.2.2.2.2.2.2.2.2.2.1 h.2.2.2.2.2.2.2.2.2.2.1 h.2.2.2.2.2.2.2.2.2.2.2.1 h.2.2.2.2.2.2.2.2.2.2.2.2.1 h.2.2.2.2.2.2.2.2.2.2.2.2.2):=j04 _ _
def j1P [LP] (g:Tn17) (i d:Int) (w:ByteArray) (e:Tn65) (f:Tn34) (l:Tn23) (t:Tn17):Option ((Tn17×Int×Int×ByteArray×Tn65×Tn34×Tn23×Tn17) ⊕ (Tn17)):=
 cond (decide (d<i)) (
 cond (inR d (List.length g)) (
 let a:=(List.getD g (Int.toNat d) (0,(0,0)))
 cond (decide (a.2.2<0)) (
 let p:=(w64 (d+1))
 some (.inl (g,i,p,w,e,f,l,t))) (
 let z:Tn2:=(j6u ([]:Tn2) l a.2.2)
 cond (!(j8m l a.2.2)) (
 (j4z (w,(e,f)) a.2.2).bind fun v=>
 let m:Tn23:=(j7V l a.2.2 v)
 let q:Tn2:=[(a.1,a.2.1)]
 let y:Tn2:=(j6u ([]:Tn2) m a.2.2)
 (j2k q y).bind fun k=>
 let x:=(Int.ofNat (List.length k))
 (j2J g i d x 0 w e f a.1 a.2.1 a.2.2 m t k).bind fun c=>
 let u:=(w64 (c.2.2.1+1))
 some (.inl (c.1,c.2.1,u,c.2.2.2.1,c.2.2.2.2.1,c.2.2.2.2.2.1,c.2.2.2.2.2.2.1,c.2.2.2.2.2.2.2))) (
 let r:Tn2:=[(a.1,a.2.1)]
 let o:Tn2:=(j6u ([]:Tn2) l a.2.2)
 (j2k r o).bind fun j=>
 let s:=(Int.ofNat (List.length j))
 (j2J g i d s 0 w e f a.1 a.2.1 a.2.2 l t j).bind fun b=>
 let n:=(w64 (b.2.2.1+1))
 some (.inl (b.1,b.2.1,n,b.2.2.2.1,b.2.2.2.2.1,b.2.2.2.2.2.1,b.2.2.2.2.2.2.1,b.2.2.2.2.2.2.2))))) none) (
 some (.inr t))
def j3o [LP] (d:Tn17) (c e:Int) (g:ByteArray) (a:Tn65) (b:Tn34) (i:Tn23) (f:Tn17):Option (Tn17):=
 LP.lp (unc8 (j1P)) (d,c,e,g,a,b,i,f)
theorem jcq (d c e g a b i f):j3o d c e g a b i f=lpK (j1P d c e g a b i f) (fun h=>j3o h.1 h.2.1 h.2.2.1 h.2.2.2.1 h.2.2.2.2.1 h.2.2.2.2.2.1 h.2.2.2.2.2.2.1 h.2.2.2.2.2.2.2):=j04 _ _
def j5f [LP] (a:Tn69) (b:Tn17):Option (Tn17):=
 let d:Tn23:=([]:Tn23)
 let c:=(Int.ofNat (List.length b))
 (j3o b c 0 a.1 a.2.1 a.2.2 d ([]:Tn17)).bind fun e=>
 some e
def j5M (a:Tn17) (d:Tn2) (b c:Int) (n:Tn17):Option ((Tn17×Tn2×Int×Int×Tn17) ⊕ (Tn17)):=
 let y:=(Int.ofNat (List.length a))
 let o:=(Int.ofNat (List.length d))
 cond (cond (decide (b<y)) (decide (c<o)) false) (
 cond (inR b (List.length a)) (
 let e:=(List.getD a (Int.toNat b) (0,(0,0)))
 cond (inR c (List.length d)) (
 let m:=(List.getD d (Int.toNat c) (0,0))
 let k:Int:=(if m.1>e.1 then m.1 else e.1:Int)
 cond (inR b (List.length a)) (
 let g:=(List.getD a (Int.toNat b) (0,(0,0)))
 cond (inR c (List.length d)) (
 let l:=(List.getD d (Int.toNat c) (0,0))
 let f:Int:=(if l.2<g.2.1 then l.2 else g.2.1:Int)
 cond (inR b (List.length a)) (
 let p:=(List.getD a (Int.toNat b) (0,(0,0)))
 cond (decide (k<f)) (
 let j:Tn17:=[(k,(f,p.2.2))]
 cond (decide (List.length n+List.length j≤j07)) (
 let i:Tn17:=(n++j)
 cond (inR b (List.length a)) (
 let x:=(List.getD a (Int.toNat b) (0,(0,0)))
 cond (inR c (List.length d)) (
 let r:=(List.getD d (Int.toNat c) (0,0))
 cond (decide (x.2.1<r.2)) (
 let v:=(w64 (b+1))
 some (.inl (a,d,v,c,i))) (
 let q:=(w64 (c+1))
 some (.inl (a,d,b,q,i)))) none) none) none) (
 cond (inR b (List.length a)) (
 let t:=(List.getD a (Int.toNat b) (0,(0,0)))
 cond (inR c (List.length d)) (
 let w:=(List.getD d (Int.toNat c) (0,0))
 cond (decide (t.2.1<w.2)) (
 let s:=(w64 (b+1))
 some (.inl (a,d,s,c,n))) (
 let u:=(w64 (c+1))
 some (.inl (a,d,b,u,n)))) none) none)) none) none) none) none) none) (
 some (.inr n))
def j39 [LP] (b:Tn17) (a:Tn2) (c d:Int) (e:Tn17):Option (Tn17):=
 LP.lp (unc5 (j5M)) (b,a,c,d,e)
theorem jju (b a c d e):j39 b a c d e=lpK (j5M b a c d e) (fun h=>j39 h.1 h.2.1 h.2.2.1 h.2.2.2.1 h.2.2.2.2):=j04 _ _
def j7n [LP] (b:Tn17) (a:Tn2):Option (Tn17):=
 (j39 b a 0 0 ([]:Tn17)).bind fun c=>
 some c
def j4K (g:Tn17) (i c:Int) (f:Tn2):Option ((Tn17×Int×Int×Tn2) ⊕ (Tn2)):=
 cond (decide (c<i)) (
 cond (inR c (List.length g)) (
 let b:=(List.getD g (Int.toNat c) (0,(0,0)))
 let a:Tn2:=[(b.1,b.2.1)]
 cond (decide (List.length f+List.length a≤j07)) (
 let d:Tn2:=(f++a)
 let e:=(w64 (c+1))
 some (.inl (g,i,e,d))) none) none) (
 some (.inr f))
def j5A [LP] (c:Tn17) (a d:Int) (b:Tn2):Option (Tn2):=
 LP.lp (unc4 (j4K)) (c,a,d,b)
theorem jeu (c d a b):j5A c d a b=lpK (j4K c d a b) (fun h=>j5A h.1 h.2.1 h.2.2.1 h.2.2.2):=j04 _ _
def j7o [LP] (a:Tn17):Option (Tn2):=
 let d:=(Int.ofNat (List.length a))
 (j5A a d 0 ([]:Tn2)).bind fun c=>
 (j5U c).bind fun b=>
 some b
def j3y (b a:Tn4):Option (Int):=
 let c:=(w64 (b.1-a.1))
 some c
def j0K (a:Tn17):Option (Tn17):=
 jro ((.pair (.int .i64) (.pair (.int .i64) (.int .i64)))) (fun c b=>(j3y c b).getD 0) a
def j19 [LP] (o:Int) (f:Tn65) (t:Tn59) (k:Tn53) (l:Tn30) (e:Tn70) (g:Tn23) (v:ByteArray) (i:Tn65) (j:Tn34) (w u:Int) (d:Tn2) (b:Tn17):Option ((Int×Tn65×Tn59×Tn53×Tn30×Tn70×Tn23×ByteArray×Tn65×Tn34×Int×Int×Tn2×Tn17) ⊕ ((Tn2×Tn17))):=
 cond (decide (o≤0)) (
 some (.inr (d,b))) (
 cond (decide (o≤Int.ofNat (List.length f))) (
 let s:Int:=(o-1)
 let a:=(List.getD f (Int.toNat s) (ByteArray.empty,(0,((0,0),(0,(0,(([]:(List Int)),(([]:Tn2),(0,0)))))))))
 (j1l ((t,(k,(l,e))),g) (a.1,(a.2.1,((a.2.2.1.1,a.2.2.1.2),(a.2.2.2.1,(a.2.2.2.2.1,(a.2.2.2.2.2.1,(a.2.2.2.2.2.2.1,(a.2.2.2.2.2.2.2.1,a.2.2.2.2.2.2.2.2)))))))) w u).bind fun n=>
 (j5f (v,(i,j)) n).bind fun q=>
 (j7n q d).bind fun c=>
 cond (decide (List.length b+List.length c≤j07)) (
 let m:Tn17:=(b++c)
 (j7o c).bind fun p=>
 (j2k d p).bind fun r=>
 some (.inl ((o-1),f,t,k,l,e,g,v,i,j,w,u,r,m))) none) none)
def j2Q [LP] (n:Int) (j:Tn65) (k:Tn59) (g:Tn53) (i:Tn30) (c:Tn70) (f:Tn23) (o:ByteArray) (b:Tn65) (d:Tn34) (l m:Int) (e:Tn2) (a:Tn17):Option ((Tn2×Tn17)):=
 LP.lp (jnS (j19)) (n,j,k,g,i,c,f,o,b,d,l,m,e,a)
theorem j9T (n j k g i c f o b d l m e a):j2Q n j k g i c f o b d l m e a=lpK (j19 n j k g i c f o b d l m e a) (fun h=>j2Q h.1 h.2.1 h.2.2.1 h.2.2.2.1 h.2.2.2.2.1 h.2.2.2.2.2.1 h.2.2.2.2.2.2.1 h.2.2.2.2.2.2.2.1 h.2.2.2.2.2.2.2.2.1 h.2.2.2.2.2.2.2.2.2.1 h.2.2.2.2.2.2.2.2.2.2.1 h.2.2.2.2.2.2.2.2.2.2.2.1 h.2.2.2.2.2.2.2.2.2.2.2.2.1 h.2.2.2.2.2.2.2.2.2.2.2.2.2):=j04 _ _
def j2Y (j b:Int) (c:Tn2) (a:Tn17):Option ((Int×Int×Tn2×Tn17) ⊕ (Tn17)):=
 cond (decide (b<j)) (
 cond (inR b (List.length c)) (
 let f:=(List.getD c (Int.toNat b) (0,0)).1
 let g:=(List.getD c (Int.toNat b) (0,0)).2
 let d:Tn17:=[(f,(g,(-1)))]
 cond (decide (List.length a+List.length d≤j07)) (
 let e:Tn17:=(a++d)
 let i:=(w64 (b+1))
 some (.inl (j,i,c,e))) none) none) (
 some (.inr a))
def j2R [LP] (d b:Int) (c:Tn2) (a:Tn17):Option (Tn17):=
 LP.lp (unc4 (j2Y)) (d,b,c,a)
theorem j9U (b d c a):j2R b d c a=lpK (j2Y b d c a) (fun h=>j2R h.1 h.2.1 h.2.2.1 h.2.2.2):=j04 _ _
def j2K [LP] (b:Tn78) (c:Tn69) (a d:Int):Option (Tn17):=
 cond (decide (a≥d)) (
 some ([]:Tn17)) (
 let k:Tn2:=[(a,d)]
 (j14 c.2.1).bind fun e=>
 (j2Q (Int.ofNat (List.length e)) e b.1.1 b.1.2.1 b.1.2.2.1 b.1.2.2.2 b.2 c.1 c.2.1 c.2.2 a d k ([]:Tn17)).bind fun f=>
 let g:=(Int.ofNat (List.length f.1))
 (j2R g 0 f.1 f.2).bind fun l=>
 (j0K l).bind fun j=>
 (j6R j).bind fun i=>
 some i)
def jbR (a:Int):Option (Bool):=
 some (a != a)
def jdB (b a:Int):Option (Bool):=
 (jbR b).bind fun d=>
 cond d (
 (jbR a).bind fun c=>
 some (cond (!c) true (decide (b<a)))) (
 some (decide (b<a)))
def j6z (a:Int):Option (Bool):=
 some (a != a)
def j1W (b:(List Int)) (c m i l:Int):Option (((List Int)×Int×Int×Int×Int) ⊕ (((List Int)×Int×Int×Int))):=
 cond (decide (i<l)) (
 let e:=(w64 (i+l))
 let f:Int:=(IntKind.wrap .u64 e)
 let j:Int:=(Int.fdiv f 2)
 let a:=(w64 j)
 cond (inR a (List.length b)) (
 let d:=(List.getD b (Int.toNat a) 0)
 (jdB d c).bind fun k=>
 cond k (
 let g:=(w64 (a+1))
 some (.inl (b,c,m,g,l))) (
 some (.inl (b,c,m,i,a)))) none) (
 some (.inr (b,c,m,i)))
def j1a [LP] (b:(List Int)) (a d e c:Int):Option (((List Int)×Int×Int×Int)):=
 LP.lp (unc5 (j1W)) (b,a,d,e,c)
theorem j9d (b a d e c):j1a b a d e c=lpK (j1W b a d e c) (fun h=>j1a h.1 h.2.1 h.2.2.1 h.2.2.2.1 h.2.2.2.2):=j04 _ _
def j0i [LP] (c:(List Int)) (b:Int):Option (Int×Bool):=
 let e:=(Int.ofNat (List.length c))
 (j1a c b e 0 e).bind fun a=>
 cond ((inR a.2.2.2 (List.length a.1)) || !(decide (a.2.2.2<a.2.2.1))) (
 let d:=(List.getD a.1 (Int.toNat a.2.2.2) 0)
 cond ((inR a.2.2.2 (List.length a.1)) || !((decide (a.2.2.2<a.2.2.1))&&(!(d==a.2.1)))) (
 let f:=(List.getD a.1 (Int.toNat a.2.2.2) 0)
 cond (decide (a.2.2.2<a.2.2.1)) (
 cond (d==a.2.1) (
 some (a.2.2.2,true)) (
 (j6z f).bind fun g=>
 cond g (
 (j6z a.2.1).bind fun i=>
 some (a.2.2.2,i)) (
 some (a.2.2.2,false)))) (
 cond ((d==a.2.1) || !false) (
 some (a.2.2.2,false)) none)) none) none
def jiq (b:Tn28) (a:Int):Option (Bool):=
 some (cond (decide (b.2.2.2.1≤a)) (decide (a<b.2.2.2.2)) false)
def j5Z (f e:Int) (d:Tn34) (c b:Int):Option ((Int×Int×Tn34×Int×Int) ⊕ (Int)):=
 cond (decide (b<c)) (
 cond (inR b (List.length d)) (
 let a:=(List.getD d (Int.toNat b) (0,(0,(0,(0,0)))))
 (jiq (a.1,(a.2.1,(a.2.2.1,(a.2.2.2.1,a.2.2.2.2)))) e).bind fun k=>
 cond (cond (!k) true (a.1==0)) (
 let m:=(w64 (b+1))
 some (.inl (f,e,d,c,m))) (
 cond (a.1==1) (
 let l:=(w64 (b+1))
 some (.inl (a.2.1,e,d,c,l))) (
 cond (a.1 != 2) (
 let j:=(w64 (b+1))
 some (.inl (f,e,d,c,j))) (
 cond (f==a.2.1) (
 let n:=(w64 (b+1))
 some (.inl (a.2.2.1,e,d,c,n))) (
 cond (f==a.2.2.1) (
 let i:=(w64 (b+1))
 some (.inl (a.2.1,e,d,c,i))) (
 let g:=(w64 (b+1))
 some (.inl (f,e,d,c,g)))))))) none) (
 some (.inr f))
def j6b [LP] (c e:Int) (d:Tn34) (b a:Int):Option (Int):=
 LP.lp (unc5 (j5Z)) (c,e,d,b,a)
theorem jgB (c e d b a):j6b c e d b a=lpK (j5Z c e d b a) (fun h=>j6b h.1 h.2.1 h.2.2.1 h.2.2.2.1 h.2.2.2.2):=j04 _ _
def j9e [LP] (b:Tn34) (a c:Int):Option (Int):=
 let d:=(Int.ofNat (List.length b))
 (j6b a c b d 0).bind fun e=>
 some e
def j3a (s r:Int) (g:Tn34) (n a:Int) (p:Tn59) (j:Tn53) (k:Tn30) (e:Tn70) (i:Tn23) (q:ByteArray) (d:Tn65) (f:Tn34) (o:(List Int)):Option ((Int×Int×Tn34×Int×Int×Tn59×Tn53×Tn30×Tn70×Tn23×ByteArray×Tn65×Tn34×(List Int)) ⊕ ((Int×Int×Tn59×Tn53×Tn30×Tn70×Tn23×ByteArray×Tn65×Tn34×(List Int)))):=
 cond (decide (a<n)) (
 cond (inR a (List.length g)) (
 let b:=(List.getD g (Int.toNat a) (0,(0,(0,(0,0)))))
 let c:(List Int):=[b.2.2.2.1,b.2.2.2.2]
 cond (decide (List.length o+List.length c≤j07)) (
 let m:(List Int):=(o++c)
 let l:=(w64 (a+1))
 some (.inl (s,r,g,n,l,p,j,k,e,i,q,d,f,m))) none) none) (
 some (.inr (s,r,p,j,k,e,i,q,d,f,o)))
def j3b [LP] (o m:Int) (i:Tn34) (j g:Int) (k:Tn59) (e:Tn53) (f:Tn30) (b:Tn70) (d:Tn23) (l:ByteArray) (a:Tn65) (c:Tn34) (n:(List Int)):Option ((Int×Int×Tn59×Tn53×Tn30×Tn70×Tn23×ByteArray×Tn65×Tn34×(List Int))):=
 LP.lp (jnS (j3a)) (o,m,i,j,g,k,e,f,b,d,l,a,c,n)
theorem jaO (o m i j g k e f b d l a c n):j3b o m i j g k e f b d l a c n=lpK (j3a o m i j g k e f b d l a c n) (fun h=>j3b h.1 h.2.1 h.2.2.1 h.2.2.2.1 h.2.2.2.2.1 h.2.2.2.2.2.1 h.2.2.2.2.2.2.1 h.2.2.2.2.2.2.2.1 h.2.2.2.2.2.2.2.2.1 h.2.2.2.2.2.2.2.2.2.1 h.2.2.2.2.2.2.2.2.2.2.1 h.2.2.2.2.2.2.2.2.2.2.2.1 h.2.2.2.2.2.2.2.2.2.2.2.2.1 h.2.2.2.2.2.2.2.2.2.2.2.2.2):=j04 _ _
def j1m [LP] (l j r q:Int) (s:ByteArray) (k:Tn65) (b:Tn34) (t a e:Int) (g:(List Int)) (i p:Tn17):Option ((Int×Int×Int×Int×ByteArray×Tn65×Tn34×Int×Int×Int×(List Int)×Tn17×Tn17) ⊕ ((Int×Int×ByteArray×Tn65×Tn34×(List Int)×Tn17×Tn17))):=
 cond (decide (j<a)) (
 cond (inR l (List.length g)) (
 let c:=(List.getD g (Int.toNat l) 0)
 let f:Int:=(if c<a then c else a:Int)
 (j9e b e j).bind fun n=>
 let d:Tn17:=[(j,(f,n))]
 cond (decide (List.length i+List.length d≤j07)) (
 let m:Tn17:=(i++d)
 let o:=(w64 (l+1))
 some (.inl (o,f,r,q,s,k,b,t,a,e,g,m,p))) none) none) (
 some (.inr (r,q,s,k,b,g,i,p)))
def j45 [LP] (k m j e:Int) (n:ByteArray) (c:Tn65) (d:Tn34) (l a b:Int) (f:(List Int)) (i g:Tn17):Option ((Int×Int×ByteArray×Tn65×Tn34×(List Int)×Tn17×Tn17)):=
 LP.lp (jvw (j1m)) (k,m,j,e,n,c,d,l,a,b,f,i,g)
theorem jaP (k m j e n c d l a b f i g):j45 k m j e n c d l a b f i g=lpK (j1m k m j e n c d l a b f i g) (fun h=>j45 h.1 h.2.1 h.2.2.1 h.2.2.2.1 h.2.2.2.2.1 h.2.2.2.2.2.1 h.2.2.2.2.2.2.1 h.2.2.2.2.2.2.2.1 h.2.2.2.2.2.2.2.2.1 h.2.2.2.2.2.2.2.2.2.1 h.2.2.2.2.2.2.2.2.2.2.1 h.2.2.2.2.2.2.2.2.2.2.2.1 h.2.2.2.2.2.2.2.2.2.2.2.2):=j04 _ _
def j1n [LP] (m b:Int) (p:ByteArray) (n:Tn65) (o:Tn34) (k:(List Int)) (l d:Tn17):Option ((Int×Int×ByteArray×Tn65×Tn34×(List Int)×Tn17×Tn17) ⊕ (Tn17)):=
 cond (decide (b<m)) (
 cond (inR b (List.length d)) (
 let c:=(List.getD d (Int.toNat b) (0,(0,0))).1
 let e:=(List.getD d (Int.toNat b) (0,(0,0))).2.1
 let j:=(List.getD d (Int.toNat b) (0,(0,0))).2.2
 let f:=(w64 (c+1))
 (j0i k f).bind fun i=>
 (j45 i.1 c m b p n o c e j k l d).bind fun a=>
 let g:=(w64 (a.2.1+1))
 some (.inl (a.1,g,a.2.2.1,a.2.2.2.1,a.2.2.2.2.1,a.2.2.2.2.2.1,a.2.2.2.2.2.2.1,a.2.2.2.2.2.2.2))) none) (
 some (.inr l))
def j3c [LP] (g d:Int) (i:ByteArray) (a:Tn65) (b:Tn34) (c:(List Int)) (f e:Tn17):Option (Tn17):=
 LP.lp (unc8 (j1n)) (g,d,i,a,b,c,f,e)
theorem jaQ (g d i a b c f e):j3c g d i a b c f e=lpK (j1n g d i a b c f e) (fun h=>j3c h.1 h.2.1 h.2.2.1 h.2.2.2.1 h.2.2.2.2.1 h.2.2.2.2.2.1 h.2.2.2.2.2.2.1 h.2.2.2.2.2.2.2):=j04 _ _
def j3d [LP] (c:Tn78) (b:Tn69) (d e:Int):Option (Tn17):=
 let k:=(Int.ofNat (List.length b.2.2))
 (j3b d e b.2.2 k 0 c.1.1 c.1.2.1 c.1.2.2.1 c.1.2.2.2 c.2 b.1 b.2.1 b.2.2 ([]:(List Int))).bind fun a=>
 (jcn a.2.2.2.2.2.2.2.2.2.2 a.1 a.2.1).bind fun j=>
 (j2K ((a.2.2.1,(a.2.2.2.1,(a.2.2.2.2.1,a.2.2.2.2.2.1))),a.2.2.2.2.2.2.1) (a.2.2.2.2.2.2.2.1,(a.2.2.2.2.2.2.2.2.1,a.2.2.2.2.2.2.2.2.2.1)) a.1 a.2.1).bind fun f=>
 let i:=(Int.ofNat (List.length f))
 (j3c i 0 a.2.2.2.2.2.2.2.1 a.2.2.2.2.2.2.2.2.1 a.2.2.2.2.2.2.2.2.2.1 j ([]:Tn17) f).bind fun l=>
 (j6R l).bind fun g=>
 some g
def j2o [LP] (b:Tn76) (a d e:Int):Option (Tn17×Int):=
 (j6i (b.1,(b.2.1,(b.2.2.1,b.2.2.2))) a d e).bind fun c=>
 cond (c.2 != 0) (
 some (([]:Tn17),c.2)) (
 cond (inR a (List.length b.2.2.2)) (
 let f:=(List.getD b.2.2.2 (Int.toNat a) (ByteArray.empty,(([]:Tn65),([]:Tn34))))
 (j3d ((c.1.1.1,(c.1.1.2.1,(c.1.1.2.2.1,c.1.1.2.2.2))),c.1.2) (f.1,(f.2.1,f.2.2)) d e).bind fun g=>
 let i:=(Int.ofNat (List.length g))
 cond (decide (i>16384)) (
 some (([]:Tn17),5)) (
 some (g,0))) none)
def jdN (a:Tn17):Option (Tn17):=
 some a
def j9V (d:Int) (b a:Tn17):Option ((Int×Tn17×Tn17) ⊕ (Tn17)):=
 cond (decide (Int.ofNat (List.length b)≤d)) (
 some (.inr a)) (
 cond (decide (1≤d)) (
 let f:=(List.getD b (Int.toNat d) (0,(0,0))).1
 let e:=(List.getD b (Int.toNat (d-1)) (0,(0,0))).2.2
 let i:=(List.getD b (Int.toNat d) (0,(0,0))).2.2
 let c:Tn17:=[(f,(e,i))]
 cond (decide (List.length a+List.length c≤j07)) (
 let g:Tn17:=(a++c)
 some (.inl ((d+1),b,g))) none) none)
def jac [LP] (c:Int) (b a:Tn17):Option (Tn17):=
 LP.lp (unc3 (j9V)) (c,b,a)
def j8p [LP] (b:Tn76) (a c e:Int):Option (Tn17×Int):=
 (j2o (b.1,(b.2.1,(b.2.2.1,b.2.2.2))) a c e).bind fun d=>
 cond (d.2 != 0) (
 some (([]:Tn17),d.2)) (
 (jdN d.1).bind fun f=>
 (jac 1 f ([]:Tn17)).bind fun g=>
 some (g,0))
def j3H (a:(Int×Int)):Option (Int):=
 (j6h a.1).bind fun b=>
 let c:=(w64 (b*86400))
 let d:=(w64 (c+a.2))
 some d
def j6A (d:Int) (e:Tn2) (f c:Int):Option ((Int×Tn2×Int×Int) ⊕ (Bool ⊕ Unit)):=
 cond (decide (c<f)) (
 cond (inR c (List.length e)) (
 let a:=(List.getD e (Int.toNat c) (0,0))
 cond (cond (decide (a.1≤d)) (decide (d<a.2)) false) (
 some (.inr (.inl true))) (
 let b:=(w64 (c+1))
 some (.inl (d,e,f,b)))) none) (
 some (.inr (.inr ())))
def jad [LP] (a:Int) (d:Tn2) (c b:Int):Option (Bool ⊕ Unit):=
 LP.lp (unc4 (j6A)) (a,d,c,b)
theorem jhW (a d b c):jad a d b c=lpK (j6A a d b c) (fun h=>jad h.1 h.2.1 h.2.2.1 h.2.2.2):=j04 _ _
def jf4 [LP] (a:Tn2) (b:Int):Option (Bool):=
 let d:=(Int.ofNat (List.length a))
 (jad b a d 0).bind fun c=>
 sumC c (fun e=>
 some e) (fun f=>
 some false)
def j4A [LP] (b:Tn78) (a:Tn64) (c:Int):Option (Int×Bool):=
 cond (cond (decide (c<0)) true (decide (c>8589934592))) (
 some (0,false)) (
 cond (inR a.2.1 (List.length b.2)) (
 let g:=(List.getD b.2 (Int.toNat a.2.1) (0,([]:Tn2)))
 (j1V (g.1,g.2) (a.1,(a.2.1,((a.2.2.1.1,a.2.2.1.2),(a.2.2.2.1,(a.2.2.2.2.1,(a.2.2.2.2.2.1,(a.2.2.2.2.2.2.1,(a.2.2.2.2.2.2.2.1,a.2.2.2.2.2.2.2.2)))))))) c).bind fun e=>
 cond (decide (e<0)) (
 some (0,false)) (
 let q:=(Int.ofNat (List.length a.2.2.2.2.2.2.1))
 cond (decide (q>0)) (
 (j0q (g.1,g.2) c).bind fun m=>
 (j3H (m.1,m.2)).bind fun n=>
 (jf4 a.2.2.2.2.2.2.1 n).bind fun p=>
 cond (!p) (
 some (0,false)) (
 cond (a.2.2.2.2.2.2.2.2==0) (
 some (e,true)) (
 cond (inR a.2.2.2.2.2.2.2.1 (List.length b.1.2.2.1)) (
 let i:=(List.getD b.1.2.2.1 (Int.toNat a.2.2.2.2.2.2.2.1) (ByteArray.empty,(0,([]:(List Int)))))
 cond (inR i.2.1 (List.length b.2)) (
 let l:=(List.getD b.2 (Int.toNat i.2.1) (0,([]:Tn2)))
 (j0q (l.1,l.2) c).bind fun r=>
 (j0i i.2.2 r.1).bind fun o=>
 some (e,(o.2==(a.2.2.2.2.2.2.2.2==2)))) none) none))) (
 cond (a.2.2.2.2.2.2.2.2==0) (
 some (e,true)) (
 cond (inR a.2.2.2.2.2.2.2.1 (List.length b.1.2.2.1)) (
 let d:=(List.getD b.1.2.2.1 (Int.toNat a.2.2.2.2.2.2.2.1) (ByteArray.empty,(0,([]:(List Int)))))
 cond (inR d.2.1 (List.length b.2)) (
 let f:=(List.getD b.2 (Int.toNat d.2.1) (0,([]:Tn2)))
 (j0q (f.1,f.2) c).bind fun k=>
 (j0i d.2.2 k.1).bind fun j=>
 some (e,(j.2==(a.2.2.2.2.2.2.2.2==2)))) none) none)))) none)
def j20 [LP] (b:Tn78) (a:Tn64) (f:Int):Option (Int):=
 (j4A ((b.1.1,(b.1.2.1,(b.1.2.2.1,b.1.2.2.2))),b.2) (a.1,(a.2.1,((a.2.2.1.1,a.2.2.1.2),(a.2.2.2.1,(a.2.2.2.2.1,(a.2.2.2.2.2.1,(a.2.2.2.2.2.2.1,(a.2.2.2.2.2.2.2.1,a.2.2.2.2.2.2.2.2)))))))) f).bind fun c=>
 cond (!c.2) (
 some (-1)) (
 let d:=(Int.ofNat (List.length a.2.2.2.2.2.1))
 cond (!(d==0)) (
 let e:=(Int.tmod c.1 d)
 cond (inR e (List.length a.2.2.2.2.2.1)) (
 let g:=(List.getD a.2.2.2.2.2.1 (Int.toNat e) 0)
 some g) none) none)
def jf5 (a:Tn28) (d b:Int):Option (Bool):=
 let c:Bool:=(cond (cond (a.1==0) (a.2.1==d) false) (decide (a.2.2.2.1≤b)) false)
 some (cond c (decide (b<a.2.2.2.2)) false)
def j0O (f:Tn34) (g c i b:Int):Option ((Tn34×Int×Int×Int×Int) ⊕ (Int ⊕ Unit)):=
 cond (decide (b<i)) (
 cond (inR b (List.length f)) (
 let a:=(List.getD f (Int.toNat b) (0,(0,(0,(0,0)))))
 (jf5 (a.1,(a.2.1,(a.2.2.1,(a.2.2.2.1,a.2.2.2.2)))) g c).bind fun e=>
 cond e (
 some (.inr (.inl b))) (
 let d:=(w64 (b+1))
 some (.inl (f,g,c,i,d)))) none) (
 some (.inr (.inr ())))
def j0y [LP] (c:Tn34) (b a e d:Int):Option (Int ⊕ Unit):=
 LP.lp (unc5 (j0O)) (c,b,a,e,d)
theorem j3F (c b a e d):j0y c b a e d=lpK (j0O c b a e d) (fun h=>j0y h.1 h.2.1 h.2.2.1 h.2.2.2.1 h.2.2.2.2):=j04 _ _
def j0T [LP] (b:Tn34) (c a:Int):Option (Int):=
 let e:=(Int.ofNat (List.length b))
 (j0y b c a e 0).bind fun d=>
 sumC d (fun f=>
 some f) (fun g=>
 some (-1))
def j0J [LP] (b:Tn34) (c a:Int):Option (Bool):=
 (j0T b c a).bind fun d=>
 some (decide (d≥0))
def jae [LP] (b:Tn69) (a c:Int):Option (Bool):=
 (j0J b.2.2 a c).bind fun d=>
 some d
def j1Q [LP] (l:Int) (j:Tn65) (o:Tn59) (i:Tn53) (c:Tn30) (d:Tn70) (e:Tn23) (p:ByteArray) (f:Tn65) (g:Tn34) (m q r:Int):Option ((Int×Tn65×Tn59×Tn53×Tn30×Tn70×Tn23×ByteArray×Tn65×Tn34×Int×Int×Int) ⊕ ((Int×Int) ⊕ (Int×Int))):=
 cond (decide (l≤0)) (
 some (.inr (.inl (q,r)))) (
 cond (decide (l≤Int.ofNat (List.length j))) (
 let k:Int:=(l-1)
 let a:=(List.getD j (Int.toNat k) (ByteArray.empty,(0,((0,0),(0,(0,(([]:(List Int)),(([]:Tn2),(0,0)))))))))
 (j20 ((o,(i,(c,d))),e) (a.1,(a.2.1,((a.2.2.1.1,a.2.2.1.2),(a.2.2.2.1,(a.2.2.2.2.1,(a.2.2.2.2.2.1,(a.2.2.2.2.2.2.1,(a.2.2.2.2.2.2.2.1,a.2.2.2.2.2.2.2.2)))))))) m).bind fun b=>
 cond (decide (b<0)) (
 some (.inl ((l-1),j,o,i,c,d,e,p,f,g,m,q,r))) (
 (jae (p,(f,g)) b m).bind fun n=>
 cond (!n) (
 some (.inr (.inr (k,b)))) (
 some (.inl ((l-1),j,o,i,c,d,e,p,f,g,m,q,r))))) none)
def j4c [LP] (m:Int) (g:Tn65) (i:Tn59) (f:Tn53) (a:Tn30) (b:Tn70) (c:Tn23) (j:ByteArray) (d:Tn65) (e:Tn34) (n k l:Int):Option ((Int×Int) ⊕ (Int×Int)):=
 LP.lp (jvw (j1Q)) (m,g,i,f,a,b,c,j,d,e,n,k,l)
theorem jcr (m g i f a b c j d e n k l):j4c m g i f a b c j d e n k l=lpK (j1Q m g i f a b c j d e n k l) (fun h=>j4c h.1 h.2.1 h.2.2.1 h.2.2.2.1 h.2.2.2.2.1 h.2.2.2.2.2.1 h.2.2.2.2.2.2.1 h.2.2.2.2.2.2.2.1 h.2.2.2.2.2.2.2.2.1 h.2.2.2.2.2.2.2.2.2.1 h.2.2.2.2.2.2.2.2.2.2.1 h.2.2.2.2.2.2.2.2.2.2.2.1 h.2.2.2.2.2.2.2.2.2.2.2.2):=j04 _ _
def j4r [LP] (a:Tn78) (b:Tn69) (d:Int):Option (Int×Int):=
 (j14 b.2.1).bind fun c=>
 (j4c (Int.ofNat (List.length c)) c a.1.1 a.1.2.1 a.1.2.2.1 a.1.2.2.2 a.2 b.1 b.2.1 b.2.2 d 0 0).bind fun e=>
 sumC e (fun g=>
 some ((-1),(-1))) (fun f=>
 some (f.1,f.2))
def j8X [LP] (a:Tn78) (b:Tn69) (c:Int):Option (Int):=
 cond (cond (decide (c<0)) true (decide (c>8589934592))) (
 some (-1)) (
 (j4r ((a.1.1,(a.1.2.1,(a.1.2.2.1,a.1.2.2.2))),a.2) (b.1,(b.2.1,b.2.2)) c).bind fun d=>
 (j9e b.2.2 d.2 c).bind fun e=>
 some e)
def jcs (b v p:Int) (a:Tn17) (u:Tn59) (g:Tn53) (i:Tn30) (f:Tn70) (t l m r:Int) (s:Tn59) (n:Tn53) (j:Tn30) (k:Tn70) (o:Tn23) (q:Tn17):Option ((Int×Int×Int×Tn17×Tn59×Tn53×Tn30×Tn70×Int×Int×Int×Int×Tn59×Tn53×Tn30×Tn70×Tn23×Tn17) ⊕ ((Int×Int×Tn59×Tn53×Tn30×Tn70×Int×Int×Int×Int×Tn59×Tn53×Tn30×Tn70×Tn23×Tn17) ⊕ (Int×Int×Int×Int))):=
 cond (decide (Int.ofNat (List.length a)≤b)) (
 some (.inr (.inl (v,p,u,g,i,f,t,l,m,r,s,n,j,k,o,q)))) (
 cond (decide (1≤b)) (
 let e:=(List.getD a (Int.toNat b) (0,(0,0))).1
 let d:=(List.getD a (Int.toNat (b-1)) (0,(0,0))).2.2
 let c:=(List.getD a (Int.toNat b) (0,(0,0))).2.2
 some (.inr (.inr (e,d,c,0)))) none)
def jdO [LP] (r n k:Int) (m:Tn17) (o:Tn59) (j:Tn53) (a:Tn30) (b:Tn70) (p c g q:Int) (s:Tn59) (i:Tn53) (d:Tn30) (e:Tn70) (f:Tn23) (l:Tn17):Option ((Int×Int×Tn59×Tn53×Tn30×Tn70×Int×Int×Int×Int×Tn59×Tn53×Tn30×Tn70×Tn23×Tn17) ⊕ (Int×Int×Int×Int)):=
 LP.lp (jz6 (jcs)) (r,n,k,m,o,j,a,b,p,c,g,q,s,i,d,e,f,l)
def jct [LP] (b:Tn76) (a d:Int):Option (Tn4×Int):=
 (j6i (b.1,(b.2.1,(b.2.2.1,b.2.2.2))) a d d).bind fun c=>
 cond (c.2 != 0) (
 some ((0,(0,0)),c.2)) (
 let i:=(w64 (d+34560000))
 let j:Int:=(if 8589934592<i then 8589934592 else i:Int)
 cond (inR a (List.length b.2.2.2)) (
 let f:=(List.getD b.2.2.2 (Int.toNat a) (ByteArray.empty,(([]:Tn65),([]:Tn34))))
 (j3d ((c.1.1.1,(c.1.1.2.1,(c.1.1.2.2.1,c.1.1.2.2.2))),c.1.2) (f.1,(f.2.1,f.2.2)) d j).bind fun k=>
 (jdN k).bind fun n=>
 (jdO 1 a j n b.1 b.2.1 b.2.2.1 b.2.2.2 0 0 0 0 c.1.1.1 c.1.1.2.1 c.1.1.2.2.1 c.1.1.2.2.2 c.1.2 k).bind fun r=>
 sumC r (fun e=>
 let m:=(Int.ofNat (List.length e.2.2.2.2.2.2.2.2.2.2.2.2.2.2.2))
 cond (decide (m>0)) (
 cond (inR e.1 (List.length e.2.2.2.2.2.1)) (
 let g:=(List.getD e.2.2.2.2.2.1 (Int.toNat e.1) (ByteArray.empty,(([]:Tn65),([]:Tn34))))
 (j8X ((e.2.2.2.2.2.2.2.2.2.2.1,(e.2.2.2.2.2.2.2.2.2.2.2.1,(e.2.2.2.2.2.2.2.2.2.2.2.2.1,e.2.2.2.2.2.2.2.2.2.2.2.2.2.1))),e.2.2.2.2.2.2.2.2.2.2.2.2.2.2.1) (g.1,(g.2.1,g.2.2)) e.2.1).bind fun l=>
 cond (inR 0 (List.length e.2.2.2.2.2.2.2.2.2.2.2.2.2.2.2)) (
 let p:=(List.getD e.2.2.2.2.2.2.2.2.2.2.2.2.2.2.2 0 (0,(0,0))).2.2
 cond (l != p) (
 cond (inR 0 (List.length e.2.2.2.2.2.2.2.2.2.2.2.2.2.2.2)) (
 let o:=(List.getD e.2.2.2.2.2.2.2.2.2.2.2.2.2.2.2 0 (0,(0,0))).2.2
 some ((e.2.1,(o,l)),0)) none) (
 some ((0,(0,0)),10))) none) none) (
 some ((0,(0,0)),10))) (fun q=>
 some ((q.1,(q.2.1,q.2.2.1)),q.2.2.2))) none)
def j9W (j:Int) (d:Tn17) (k b:Int) (g:Tn2):Option ((Int×Tn17×Int×Int×Tn2) ⊕ (Tn2)):=
 cond (decide (b<k)) (
 cond (inR b (List.length d)) (
 let a:=(List.getD d (Int.toNat b) (0,(0,0)))
 cond (a.2.2==j) (
 let c:Tn2:=[(a.1,a.2.1)]
 cond (decide (List.length g+List.length c≤j07)) (
 let f:Tn2:=(g++c)
 let e:=(w64 (b+1))
 some (.inl (j,d,k,e,f))) none) (
 let i:=(w64 (b+1))
 some (.inl (j,d,k,i,g)))) none) (
 some (.inr g))
def jaf [LP] (b:Int) (c:Tn17) (d a:Int) (e:Tn2):Option (Tn2):=
 LP.lp (unc5 (j9W)) (b,c,d,a,e)
def j8q [LP] (b:Tn17) (a:Int):Option (Tn2):=
 let e:=(Int.ofNat (List.length b))
 (jaf a b e 0 ([]:Tn2)).bind fun d=>
 (j5U d).bind fun c=>
 some c
def jaR [LP] (b:Tn76) (a c d f:Int):Option (Tn2×Int):=
 (j2o (b.1,(b.2.1,(b.2.2.1,b.2.2.2))) a d f).bind fun e=>
 cond (e.2 != 0) (
 some (([]:Tn2),e.2)) (
 (j8q e.1 c).bind fun g=>
 let i:=(Int.ofNat (List.length g))
 cond (decide (i>4096)) (
 some (([]:Tn2),5)) (
 some (g,0)))
def j5g [LP] (n:Int) (i:Tn70) (l b:Int) (o:Tn59) (d:Tn53) (e:Tn30) (f:Tn70) (g:Tn23) (m:(List Int)):Option ((Int×Tn70×Int×Int×Tn59×Tn53×Tn30×Tn70×Tn23×(List Int)) ⊕ ((List Int))):=
 cond (decide (b<l)) (
 cond (inR b (List.length i)) (
 let a:=(List.getD i (Int.toNat b) (ByteArray.empty,(([]:Tn65),([]:Tn34))))
 (j8X ((o,(d,(e,f))),g) (a.1,(a.2.1,a.2.2)) n).bind fun c=>
 cond (decide (List.length m+List.length [c]≤j07)) (
 let k:(List Int):=(m++[c])
 let j:=(w64 (b+1))
 some (.inl (n,i,l,j,o,d,e,f,g,k))) none) none) (
 some (.inr m))
def jf6 [LP] (i:Int) (g:Tn70) (f e:Int) (k:Tn59) (a:Tn53) (b:Tn30) (c:Tn70) (d:Tn23) (j:(List Int)):Option ((List Int)):=
 LP.lp (jlv (j5g)) (i,g,f,e,k,a,b,c,d,j)
def jev [LP] (a:Tn76) (c:Int):Option ((List Int)):=
 (jf3 (a.1,(a.2.1,(a.2.2.1,a.2.2.2)))).bind fun b=>
 cond (!b.2) (
 some ([]:(List Int))) (
 let d:=(Int.ofNat (List.length a.2.2.2))
 (jf6 c a.2.2.2 d 0 b.1.1.1 b.1.1.2.1 b.1.1.2.2.1 b.1.1.2.2.2 b.1.2 ([]:(List Int))).bind fun e=>
 some e)
def jhu [LP] (a:Tn76) (b e:Int):Option (Int):=
 (jf3 (a.1,(a.2.1,(a.2.2.1,a.2.2.2)))).bind fun c=>
 cond (!c.2) (
 some (-1)) (
 (jcm (a.1,(a.2.1,(a.2.2.1,a.2.2.2))) b).bind fun g=>
 cond (!g) (
 some (-1)) (
 cond (inR b (List.length a.2.2.2)) (
 let d:=(List.getD a.2.2.2 (Int.toNat b) (ByteArray.empty,(([]:Tn65),([]:Tn34))))
 (j8X ((c.1.1.1,(c.1.1.2.1,(c.1.1.2.2.1,c.1.1.2.2.2))),c.1.2) (d.1,(d.2.1,d.2.2)) e).bind fun f=>
 some f) none))
def j7L [LP] (b:Tn76) (a c:Int):Option (Int):=
 (jhu (b.1,(b.2.1,(b.2.2.1,b.2.2.2))) a c).bind fun d=>
 some d
def jag [LP]  : Option (Bool):=
 (jjt).bind fun a=>
 (j8p (a.1,(a.2.1,(a.2.2.1,a.2.2.2))) 0 432000 518400).bind fun b=>
 (jct (a.1,(a.2.1,(a.2.2.1,a.2.2.2))) 0 432000).bind fun c=>
 (j2o (a.1,(a.2.1,(a.2.2.1,a.2.2.2))) 0 432000 518400).bind fun k=>
 (jaR (a.1,(a.2.1,(a.2.2.1,a.2.2.2))) 0 2 432000 518400).bind fun j=>
 (jev (a.1,(a.2.1,(a.2.2.1,a.2.2.2))) 432000).bind fun d=>
 cond (b.2==0) (
 cond (c.2==0) (
 cond (k.2==0) (
 cond (j.2==0) (
 let n:=(Int.ofNat (List.length b.1))
 cond (n==1) (
 cond (inR 0 (List.length b.1)) (
 let q:=(List.getD b.1 0 (0,(0,0))).1
 let g:=(List.getD b.1 0 (0,(0,0))).2.1
 let e:=(List.getD b.1 0 (0,(0,0))).2.2
 cond ((q==475200)&&((g==2)&&(e==1))) (
 cond (inR 0 (List.length b.1)) (
 let m:=(List.getD b.1 0 (0,(0,0))).1
 let i:=(List.getD b.1 0 (0,(0,0))).2.1
 let f:=(List.getD b.1 0 (0,(0,0))).2.2
 cond ((c.1.1==m)&&((c.1.2.1==i)&&(c.1.2.2==f))) (
 let s:=(Int.ofNat (List.length k.1))
 cond (s==2) (
 let o:=(Int.ofNat (List.length j.1))
 cond (o==1) (
 let l:=(Int.ofNat (List.length d))
 cond (l==1) (
 cond (inR 0 (List.length d)) (
 let r:=(List.getD d 0 0)
 cond (r==2) (
 (j7L (a.1,(a.2.1,(a.2.2.1,a.2.2.2))) 0 432000).bind fun p=>
 some (p==2)) (
 some false)) none) (
 some false)) (
 some false)) (
 some false)) (
 some false)) none) (
 some false)) none) (
 some false)) (
 some false)) (
 some false)) (
 some false)) (
 some false)
def jmX (a:(List Int)):Option ((List Int)×Int):=
 some (a,0)
def j06 (b:(List Int)) (a c:Int):Option (Int×(List Int)×Int):=
 let g:=(Int.ofNat (List.length b))
 cond (decide (a≥g)) (
 some (0,b,a)) (
 cond (decide (c<1)) (
 some (0,b,a)) (
 cond (inR a (List.length b)) (
 let i:=(List.getD b (Int.toNat a) 0)
 cond (!(c==0)) (
 let d:=(Int.tmod i c)
 let e:=(w64 (a+1))
 cond (decide (d<0)) (
 let f:=(w64 (d+c))
 some (f,b,e)) (
 some (d,b,e))) none) none))
def j1v (d:(List Int)) (b:Int) (a:(List Int)):Option (Int×(List Int)×Int):=
 let f:=(Int.ofNat (List.length a))
 (j06 d b f).bind fun c=>
 cond (inR c.1 (List.length a)) (
 let e:=(List.getD a (Int.toNat c.1) 0)
 some (e,c.2.1,c.2.2)) none
def j4B (a0:(List Int)) (n:Int) (a:ByteArray):Option (Tn57×(List Int)×Int):=
 let a9:(List Int):=[0,4,(-20),22,48,(-47)]
 (j1v a0 n a9).bind fun m=>
 (j06 m.2.1 m.2.2 2).bind fun k=>
 (j06 k.2.1 k.2.2 3).bind fun o=>
 let a3:=(w64 (k.1*o.1))
 let b6:=(w64 (m.1+a3))
 let c:=(w64 (900*b6))
 (j06 o.2.1 o.2.2 2).bind fun q=>
 let g:=(w64 (2025+q.1))
 (j06 q.2.1 q.2.2 4).bind fun b=>
 cond (b.1==1) (
 let b0:=(w64 (c+3600))
 let b2:Tn47:=[(2025,(g,(3,(5,(6,(7200,b0)))))),(2025,(g,(10,(5,(6,(10800,c))))))]
 some ((a,(c,b2)),b.2.1,b.2.2)) (
 cond (b.1==2) (
 (j06 b.2.1 b.2.2 4).bind fun p=>
 let a8:=(w64 (1+p.1))
 (j06 p.2.1 p.2.2 7).bind fun i=>
 (j06 i.2.1 i.2.2 24).bind fun s=>
 let a7:=(w64 (3600*s.1))
 (j06 s.2.1 s.2.2 8).bind fun t=>
 let a2:=(w64 (1+t.1))
 let b7:=(w64 (1800*a2))
 let a1:=(w64 (c+b7))
 (j06 t.2.1 t.2.2 2).bind fun l=>
 let a5:=(w64 (2+l.1))
 let a4:(List Int):=[2,3,5]
 (j1v l.2.1 l.2.2 a4).bind fun r=>
 (j06 r.2.1 r.2.2 7).bind fun u=>
 (j06 u.2.1 u.2.2 24).bind fun w=>
 let b3:=(w64 (3600*w.1))
 let b5:Tn47:=[(2025,(g,(1,(a8,(i.1,(a7,a1)))))),(2025,(g,(a5,(r.1,(u.1,(b3,c))))))]
 some ((a,(c,b5)),w.2.1,w.2.2)) (
 cond (b.1==3) (
 let b4:(List Int):=[3600,(-3600),82800,(-82800),43200]
 (j1v b.2.1 b.2.2 b4).bind fun f=>
 let j:=(w64 (c+f.1))
 cond (cond (decide (j>64800)) true (decide (j<(-64800)))) (
 (j06 f.2.1 f.2.2 7).bind fun v=>
 (j06 v.2.1 v.2.2 48).bind fun x=>
 let b1:=(w64 (1800*x.1))
 let a6:Tn47:=[(2026,(2026,(1,(2,(v.1,(b1,0))))))]
 some ((a,(c,a6)),x.2.1,x.2.2)) (
 (j06 f.2.1 f.2.2 7).bind fun e=>
 (j06 e.2.1 e.2.2 48).bind fun d=>
 let z:=(w64 (1800*d.1))
 let y:Tn47:=[(2026,(2026,(1,(2,(e.1,(z,j))))))]
 some ((a,(c,y)),d.2.1,d.2.2))) (
 some ((a,(c,([]:Tn47))),b.2.1,b.2.2))))
def jhv  : Option ((List ByteArray)):=
 let a:(List ByteArray):=[(ByteArray.mk #[97,100,97]),(ByteArray.mk #[98,111,98]),(ByteArray.mk #[99,108,101,111]),(ByteArray.mk #[100,97,110]),(ByteArray.mk #[101,118,101]),(ByteArray.mk #[102,97,121]),(ByteArray.mk #[103,117,115]),(ByteArray.mk #[104,97,108])]
 some a
def j1d (d:(List Int)) (a b:Int):Option (Bool×(List Int)×Int):=
 (j06 d a b).bind fun c=>
 let e:=(w64 (b-1))
 some ((c.1==e),c.2.1,c.2.2)
def j2I (r q:Int) (p:(List Int)) (g:Int) (k:Tn2):Option ((Int×Int×(List Int)×Int×Tn2) ⊕ (((List Int)×Int×Tn2))):=
 cond (decide (q>0)) (
 (j06 p g 30).bind fun b=>
 let o:=(w64 (3600*b.1))
 let l:=(w64 (r+o))
 (j06 b.2.1 b.2.2 2).bind fun d=>
 let j:=(w64 (60*d.1))
 let f:=(w64 (l+j))
 let m:(List Int):=[3600,28800,43200,86400,61,1]
 (j1v d.2.1 d.2.2 m).bind fun a=>
 let c:=(w64 (f+a.1))
 cond (decide (c>604800)) (
 some (.inr (a.2.1,a.2.2,k))) (
 let e:Tn2:=[(f,c)]
 cond (decide (List.length k+List.length e≤j07)) (
 let n:Tn2:=(k++e)
 let i:=(w64 (q-1))
 some (.inl (c,i,a.2.1,a.2.2,n))) none)) (
 some (.inr (p,g,k)))
def j5N [LP] (c e:Int) (d:(List Int)) (a:Int) (b:Tn2):Option (((List Int)×Int×Tn2)):=
 LP.lp (unc5 (j2I)) (c,e,d,a,b)
theorem j9f (c e d a b):j5N c e d a b=lpK (j2I c e d a b) (fun h=>j5N h.1 h.2.1 h.2.2.1 h.2.2.2.1 h.2.2.2.2):=j04 _ _
def j4E [LP] (d:(List Int)) (a:Int):Option (Tn2×(List Int)×Int):=
 (j06 d a 4).bind fun b=>
 (j5N 0 b.1 b.2.1 b.2.2 ([]:Tn2)).bind fun c=>
 some (c.2.2,c.1,c.2.1)
def j3e (k:Int) (l:(List Int)) (f:Int) (b:Tn59):Option ((Int×(List Int)×Int×Tn59) ⊕ (((List Int)×Int×Tn59))):=
 cond (decide (k>0)) (
 let c:(List ByteArray):=[(ByteArray.mk #[104,101,114,101]),(ByteArray.mk #[116,104,101,114,101])]
 let d:=(Int.ofNat (List.length b))
 cond (inR d (List.length c)) (
 let i:=(List.getD c (Int.toNat d) ByteArray.empty)
 (j4B l f i).bind fun a=>
 let e:Tn59:=[(a.1.1,(a.1.2.1,a.1.2.2))]
 cond (decide (List.length b+List.length e≤j07)) (
 let g:Tn59:=(b++e)
 let j:=(w64 (k-1))
 some (.inl (j,a.2.1,a.2.2,g))) none) none) (
 some (.inr (l,f,b)))
def j74 [LP] (c:Int) (d:(List Int)) (b:Int) (a:Tn59):Option (((List Int)×Int×Tn59)):=
 LP.lp (unc4 (j3e)) (c,d,b,a)
theorem jaS (c d a b):j74 c d a b=lpK (j3e c d a b) (fun h=>j74 h.1 h.2.1 h.2.2.1 h.2.2.2):=j04 _ _
def j3f [LP] (a4:Int) (a5:(List Int)) (q:Int) (k:Tn59) (b:Tn53):Option ((Int×(List Int)×Int×Tn59×Tn53) ⊕ (((List Int)×Int×Tn59×Tn53))):=
 cond (decide (a4>0)) (
 (jhv).bind fun p=>
 let l:=(Int.ofNat (List.length b))
 cond (inR l (List.length p)) (
 let n:=(List.getD p (Int.toNat l) ByteArray.empty)
 let a0:=(Int.ofNat (List.length k))
 (j06 a5 q a0).bind fun d=>
 (j1d d.2.1 d.2.2 3).bind fun c=>
 (j1d c.2.1 c.2.2 2).bind fun a=>
 cond a.1 (
 (j4E a.2.1 a.2.2).bind fun f=>
 let a3:(List Int):=[0,40,100,12]
 (j1v f.2.1 f.2.2 a3).bind fun e=>
 let a1:=(w64 (3600*e.1))
 let x:(List Int):=[0,11,24,1]
 (j1v e.2.1 e.2.2 x).bind fun j=>
 let w:=(w64 (3600*j.1))
 let m:Tn53:=[(n,(d.1,(f.1,(a1,(w,c.1)))))]
 cond (decide (List.length b+List.length m≤j07)) (
 let a2:Tn53:=(b++m)
 let v:=(w64 (a4-1))
 some (.inl (v,j.2.1,j.2.2,k,a2))) none) (
 let y:(List Int):=[0,40,100,12]
 (j1v a.2.1 a.2.2 y).bind fun g=>
 let z:=(w64 (3600*g.1))
 let u:(List Int):=[0,11,24,1]
 (j1v g.2.1 g.2.2 u).bind fun i=>
 let s:=(w64 (3600*i.1))
 let o:Tn53:=[(n,(d.1,(([]:Tn2),(z,(s,c.1)))))]
 cond (decide (List.length b+List.length o≤j07)) (
 let t:Tn53:=(b++o)
 let r:=(w64 (a4-1))
 some (.inl (r,i.2.1,i.2.2,k,t))) none)) none) (
 some (.inr (a5,q,k,b)))
def j75 [LP] (e:Int) (d:(List Int)) (c:Int) (a:Tn59) (b:Tn53):Option (((List Int)×Int×Tn59×Tn53)):=
 LP.lp (unc5 (j3f)) (e,d,c,a,b)
theorem jaT (e d c a b):j75 e d c a b=lpK (j3f e d c a b) (fun h=>j75 h.1 h.2.1 h.2.2.1 h.2.2.2.1 h.2.2.2.2):=j04 _ _
def j3g (q n m:Int) (p:(List Int)) (j:Int) (o:ByteArray) (f:Int) (g:Tn59) (i:Tn53) (d:Tn30) (c:(List Int)):Option ((Int×Int×Int×(List Int)×Int×ByteArray×Int×Tn59×Tn53×Tn30×(List Int)) ⊕ ((Int×(List Int)×Int×ByteArray×Int×Tn59×Tn53×Tn30×(List Int)))):=
 cond (decide (n>0)) (
 (j06 p j 6).bind fun b=>
 let l:=(w64 (1+b.1))
 let a:=(w64 (m+l))
 cond (decide (List.length c+List.length [a]≤j07)) (
 let e:(List Int):=(c++[a])
 let k:=(w64 (n-1))
 some (.inl (q,k,a,b.2.1,b.2.2,o,f,g,i,d,e))) none) (
 some (.inr (q,p,j,o,f,g,i,d,c)))
def j76 [LP] (l i g:Int) (k:(List Int)) (f:Int) (j:ByteArray) (c:Int) (d:Tn59) (e:Tn53) (a:Tn30) (b:(List Int)):Option ((Int×(List Int)×Int×ByteArray×Int×Tn59×Tn53×Tn30×(List Int))):=
 LP.lp (jrr (j3g)) (l,i,g,k,f,j,c,d,e,a,b)
theorem jaU (l i g k f j c d e a b):j76 l i g k f j c d e a b=lpK (j3g l i g k f j c d e a b) (fun h=>j76 h.1 h.2.1 h.2.2.1 h.2.2.2.1 h.2.2.2.2.1 h.2.2.2.2.2.1 h.2.2.2.2.2.2.1 h.2.2.2.2.2.2.2.1 h.2.2.2.2.2.2.2.2.1 h.2.2.2.2.2.2.2.2.2.1 h.2.2.2.2.2.2.2.2.2.2):=j04 _ _
def j2t [LP] (n:Int) (m:(List Int)) (j:Int) (e:Tn59) (i:Tn53) (f:Tn30):Option ((Int×(List Int)×Int×Tn59×Tn53×Tn30) ⊕ (((List Int)×Int×Tn59×Tn53×Tn30))):=
 cond (decide (n>0)) (
 let k:=(Int.ofNat (List.length e))
 (j06 m j k).bind fun b=>
 (j06 b.2.1 b.2.2 4).bind fun c=>
 (j76 n c.1 20454 c.2.1 c.2.2 (ByteArray.mk #[100,97,121,115]) b.1 e i f ([]:(List Int))).bind fun a=>
 let d:Tn30:=[(a.2.2.2.1,(a.2.2.2.2.1,a.2.2.2.2.2.2.2.2))]
 cond (decide (List.length a.2.2.2.2.2.2.2.1+List.length d≤j07)) (
 let g:Tn30:=(a.2.2.2.2.2.2.2.1++d)
 let l:=(w64 (a.1-1))
 some (.inl (l,a.2.1,a.2.2.1,a.2.2.2.2.2.1,a.2.2.2.2.2.2.1,g))) none) (
 some (.inr (m,j,e,i,f)))
def j77 [LP] (f:Int) (e:(List Int)) (d:Int) (b:Tn59) (c:Tn53) (a:Tn30):Option (((List Int)×Int×Tn59×Tn53×Tn30)):=
 LP.lp (unc6 (j2t)) (f,e,d,b,c,a)
theorem j7p (f e d b c a):j77 f e d b c a=lpK (j2t f e d b c a) (fun h=>j77 h.1 h.2.1 h.2.2.1 h.2.2.2.1 h.2.2.2.2.1 h.2.2.2.2.2):=j04 _ _
def j9g [LP] (i:(List Int)) (c:Int):Option (Tn76×(List Int)×Int):=
 (j06 i c 2).bind fun b=>
 let k:=(w64 (1+b.1))
 (j74 k b.2.1 b.2.2 ([]:Tn59)).bind fun g=>
 (j06 g.1 g.2.1 4).bind fun a=>
 let j:=(w64 (1+a.1))
 (j75 j a.2.1 a.2.2 g.2.2 ([]:Tn53)).bind fun f=>
 (j06 f.1 f.2.1 2).bind fun d=>
 (j77 d.1 d.2.1 d.2.2 f.2.2.1 f.2.2.2 ([]:Tn30)).bind fun e=>
 some ((e.2.2.1,(e.2.2.2.1,(e.2.2.2.2,([]:Tn70)))),e.1,e.2.1)
def j3h (a1:Int) (a0:(List Int)) (l:Int) (y:Tn59) (b:Tn53) (s:Tn30) (e:Tn70) (a2:ByteArray) (p r k i u o g:Int) (z:ByteArray) (n j m t q f d:Int) (c:(List Int)):Option ((Int×(List Int)×Int×Tn59×Tn53×Tn30×Tn70×ByteArray×Int×Int×Int×Int×Int×Int×Int×ByteArray×Int×Int×Int×Int×Int×Int×Int×(List Int)) ⊕ (((List Int)×Int×Tn59×Tn53×Tn30×Tn70×ByteArray×Int×Int×Int×Int×Int×Int×Int×ByteArray×Int×Int×Int×Int×Int×Int×Int×(List Int)))):=
 cond (decide (a1>0)) (
 let v:=(Int.ofNat (List.length b))
 (j06 a0 l v).bind fun a=>
 cond (decide (List.length c+List.length [a.1]≤j07)) (
 let x:(List Int):=(c++[a.1])
 let w:=(w64 (a1-1))
 some (.inl (w,a.2.1,a.2.2,y,b,s,e,a2,p,r,k,i,u,o,g,z,n,j,m,t,q,f,d,x))) none) (
 some (.inr (a0,l,y,b,s,e,a2,p,r,k,i,u,o,g,z,n,j,m,t,q,f,d,c)))
def j5h [LP] (x:Int) (w:(List Int)) (i:Int) (u:Tn59) (p:Tn53) (q:Tn30) (b:Tn70) (y:ByteArray) (m o g e t l d:Int) (v:ByteArray) (k f j r n c a:Int) (s:(List Int)):Option (((List Int)×Int×Tn59×Tn53×Tn30×Tn70×ByteArray×Int×Int×Int×Int×Int×Int×Int×ByteArray×Int×Int×Int×Int×Int×Int×Int×(List Int))):=
 LP.lp (jC4 (j3h)) (x,w,i,u,p,q,b,y,m,o,g,e,t,l,d,v,k,f,j,r,n,c,a,s)
theorem jaV (x w i u p q b y m o g e t l d v k f j r n c a s):j5h x w i u p q b y m o g e t l d v k f j r n c a s=lpK (j3h x w i u p q b y m o g e t l d v k f j r n c a s) (fun h=>j5h h.1 h.2.1 h.2.2.1 h.2.2.2.1 h.2.2.2.2.1 h.2.2.2.2.2.1 h.2.2.2.2.2.2.1 h.2.2.2.2.2.2.2.1 h.2.2.2.2.2.2.2.2.1 h.2.2.2.2.2.2.2.2.2.1 h.2.2.2.2.2.2.2.2.2.2.1 h.2.2.2.2.2.2.2.2.2.2.2.1 h.2.2.2.2.2.2.2.2.2.2.2.2.1 h.2.2.2.2.2.2.2.2.2.2.2.2.2.1 h.2.2.2.2.2.2.2.2.2.2.2.2.2.2.1 h.2.2.2.2.2.2.2.2.2.2.2.2.2.2.2.1 h.2.2.2.2.2.2.2.2.2.2.2.2.2.2.2.2.1 h.2.2.2.2.2.2.2.2.2.2.2.2.2.2.2.2.2.1 h.2.2.2.2.2.2.2.2.2.2.2.2.2.2.2.2.2.2.1 h.2.2.2.2.2.2.2.2.2.2.2.2.2.2.2.2.2.2.2.1 h.2.2.2.2.2.2.2.2.2.2.2.2.2.2.2.2.2.2.2.2.1 h.2.2.2.2.2.2.2.2.2.2.2.2.2.2.2.2.2.2.2.2.2.1 h.2.2.2.2.2.2.2.2.2.2.2.2.2.2.2.2.2.2.2.2.2.2.1 h.2.2.2.2.2.2.2.2.2.2.2.2.2.2.2.2.2.2.2.2.2.2.2):=j04 _ _
def j9h [LP] (b5:(List Int)) (z:Int) (c:Tn76) (j:ByteArray):Option (Tn64×(List Int)×Int):=
 let b8:=(Int.ofNat (List.length c.1))
 (j06 b5 z b8).bind fun v=>
 (j06 v.2.1 v.2.2 6).bind fun y=>
 let c3:=(w64 (20454+y.1))
 let b4:=(w64 (c3-2))
 let c1:(List Int):=[0,32400,7200,9000,79200,1]
 (j1v y.2.1 y.2.2 c1).bind fun x=>
 (j06 x.2.1 x.2.2 3).bind fun u=>
 (j06 u.2.1 u.2.2 2).bind fun t=>
 let b9:=(w64 (1+t.1))
 cond (u.1==0) (
 let b7:(List Int):=[6,8,12,24,23,49]
 (j1v t.2.1 t.2.2 b7).bind fun a0=>
 (j06 a0.2.1 a0.2.2 3).bind fun a2=>
 let c2:=(w64 (1+a2.1))
 (j5h c2 a2.2.1 a2.2.2 c.1 c.2.1 c.2.2.1 c.2.2.2 ByteArray.empty 0 0 0 0 0 0 0 j v.1 b4 x.1 u.1 a0.1 0 0 ([]:(List Int))).bind fun b=>
 (j1d b.1 b.2.1 2).bind fun r=>
 cond r.1 (
 (j4E r.2.1 r.2.2).bind fun w=>
 (j1d w.2.1 w.2.2 4).bind fun s=>
 let b6:=(Int.ofNat (List.length b.2.2.2.2.1))
 cond (cond s.1 (decide (b6>0)) false) (
 let c0:=(Int.ofNat (List.length b.2.2.2.2.1))
 (j06 s.2.1 s.2.2 c0).bind fun a3=>
 (j06 a3.2.1 a3.2.2 2).bind fun a1=>
 let c4:=(w64 (1+a1.1))
 some ((b.2.2.2.2.2.2.2.2.2.2.2.2.2.2.1,(b.2.2.2.2.2.2.2.2.2.2.2.2.2.2.2.1,((b.2.2.2.2.2.2.2.2.2.2.2.2.2.2.2.2.1,b.2.2.2.2.2.2.2.2.2.2.2.2.2.2.2.2.2.1),(b.2.2.2.2.2.2.2.2.2.2.2.2.2.2.2.2.2.2.1,(b.2.2.2.2.2.2.2.2.2.2.2.2.2.2.2.2.2.2.2.1,(b.2.2.2.2.2.2.2.2.2.2.2.2.2.2.2.2.2.2.2.2.2.2,(w.1,(a3.1,c4)))))))),a1.2.1,a1.2.2)) (
 some ((b.2.2.2.2.2.2.2.2.2.2.2.2.2.2.1,(b.2.2.2.2.2.2.2.2.2.2.2.2.2.2.2.1,((b.2.2.2.2.2.2.2.2.2.2.2.2.2.2.2.2.1,b.2.2.2.2.2.2.2.2.2.2.2.2.2.2.2.2.2.1),(b.2.2.2.2.2.2.2.2.2.2.2.2.2.2.2.2.2.2.1,(b.2.2.2.2.2.2.2.2.2.2.2.2.2.2.2.2.2.2.2.1,(b.2.2.2.2.2.2.2.2.2.2.2.2.2.2.2.2.2.2.2.2.2.2,(w.1,(b.2.2.2.2.2.2.2.2.2.2.2.2.2.2.2.2.2.2.2.2.1,b.2.2.2.2.2.2.2.2.2.2.2.2.2.2.2.2.2.2.2.2.2.1)))))))),s.2.1,s.2.2))) (
 (j1d r.2.1 r.2.2 4).bind fun d=>
 let a4:=(Int.ofNat (List.length b.2.2.2.2.1))
 cond (cond d.1 (decide (a4>0)) false) (
 let b1:=(Int.ofNat (List.length b.2.2.2.2.1))
 (j06 d.2.1 d.2.2 b1).bind fun l=>
 (j06 l.2.1 l.2.2 2).bind fun q=>
 let a6:=(w64 (1+q.1))
 some ((b.2.2.2.2.2.2.2.2.2.2.2.2.2.2.1,(b.2.2.2.2.2.2.2.2.2.2.2.2.2.2.2.1,((b.2.2.2.2.2.2.2.2.2.2.2.2.2.2.2.2.1,b.2.2.2.2.2.2.2.2.2.2.2.2.2.2.2.2.2.1),(b.2.2.2.2.2.2.2.2.2.2.2.2.2.2.2.2.2.2.1,(b.2.2.2.2.2.2.2.2.2.2.2.2.2.2.2.2.2.2.2.1,(b.2.2.2.2.2.2.2.2.2.2.2.2.2.2.2.2.2.2.2.2.2.2,(([]:Tn2),(l.1,a6)))))))),q.2.1,q.2.2)) (
 some ((b.2.2.2.2.2.2.2.2.2.2.2.2.2.2.1,(b.2.2.2.2.2.2.2.2.2.2.2.2.2.2.2.1,((b.2.2.2.2.2.2.2.2.2.2.2.2.2.2.2.2.1,b.2.2.2.2.2.2.2.2.2.2.2.2.2.2.2.2.2.1),(b.2.2.2.2.2.2.2.2.2.2.2.2.2.2.2.2.2.2.1,(b.2.2.2.2.2.2.2.2.2.2.2.2.2.2.2.2.2.2.2.1,(b.2.2.2.2.2.2.2.2.2.2.2.2.2.2.2.2.2.2.2.2.2.2,(([]:Tn2),(b.2.2.2.2.2.2.2.2.2.2.2.2.2.2.2.2.2.2.2.2.1,b.2.2.2.2.2.2.2.2.2.2.2.2.2.2.2.2.2.2.2.2.2.1)))))))),d.2.1,d.2.2)))) (
 (j06 t.2.1 t.2.2 3).bind fun k=>
 let a9:=(w64 (1+k.1))
 (j5h a9 k.2.1 k.2.2 c.1 c.2.1 c.2.2.1 c.2.2.2 ByteArray.empty 0 0 0 0 0 0 0 j v.1 b4 x.1 u.1 b9 0 0 ([]:(List Int))).bind fun a=>
 (j1d a.1 a.2.1 2).bind fun g=>
 cond g.1 (
 (j4E g.2.1 g.2.2).bind fun i=>
 (j1d i.2.1 i.2.2 4).bind fun e=>
 let a5:=(Int.ofNat (List.length a.2.2.2.2.1))
 cond (cond e.1 (decide (a5>0)) false) (
 let b0:=(Int.ofNat (List.length a.2.2.2.2.1))
 (j06 e.2.1 e.2.2 b0).bind fun m=>
 (j06 m.2.1 m.2.2 2).bind fun o=>
 let a7:=(w64 (1+o.1))
 some ((a.2.2.2.2.2.2.2.2.2.2.2.2.2.2.1,(a.2.2.2.2.2.2.2.2.2.2.2.2.2.2.2.1,((a.2.2.2.2.2.2.2.2.2.2.2.2.2.2.2.2.1,a.2.2.2.2.2.2.2.2.2.2.2.2.2.2.2.2.2.1),(a.2.2.2.2.2.2.2.2.2.2.2.2.2.2.2.2.2.2.1,(a.2.2.2.2.2.2.2.2.2.2.2.2.2.2.2.2.2.2.2.1,(a.2.2.2.2.2.2.2.2.2.2.2.2.2.2.2.2.2.2.2.2.2.2,(i.1,(m.1,a7)))))))),o.2.1,o.2.2)) (
 some ((a.2.2.2.2.2.2.2.2.2.2.2.2.2.2.1,(a.2.2.2.2.2.2.2.2.2.2.2.2.2.2.2.1,((a.2.2.2.2.2.2.2.2.2.2.2.2.2.2.2.2.1,a.2.2.2.2.2.2.2.2.2.2.2.2.2.2.2.2.2.1),(a.2.2.2.2.2.2.2.2.2.2.2.2.2.2.2.2.2.2.1,(a.2.2.2.2.2.2.2.2.2.2.2.2.2.2.2.2.2.2.2.1,(a.2.2.2.2.2.2.2.2.2.2.2.2.2.2.2.2.2.2.2.2.2.2,(i.1,(a.2.2.2.2.2.2.2.2.2.2.2.2.2.2.2.2.2.2.2.2.1,a.2.2.2.2.2.2.2.2.2.2.2.2.2.2.2.2.2.2.2.2.2.1)))))))),e.2.1,e.2.2))) (
 (j1d g.2.1 g.2.2 4).bind fun f=>
 let b3:=(Int.ofNat (List.length a.2.2.2.2.1))
 cond (cond f.1 (decide (b3>0)) false) (
 let a8:=(Int.ofNat (List.length a.2.2.2.2.1))
 (j06 f.2.1 f.2.2 a8).bind fun n=>
 (j06 n.2.1 n.2.2 2).bind fun p=>
 let b2:=(w64 (1+p.1))
 some ((a.2.2.2.2.2.2.2.2.2.2.2.2.2.2.1,(a.2.2.2.2.2.2.2.2.2.2.2.2.2.2.2.1,((a.2.2.2.2.2.2.2.2.2.2.2.2.2.2.2.2.1,a.2.2.2.2.2.2.2.2.2.2.2.2.2.2.2.2.2.1),(a.2.2.2.2.2.2.2.2.2.2.2.2.2.2.2.2.2.2.1,(a.2.2.2.2.2.2.2.2.2.2.2.2.2.2.2.2.2.2.2.1,(a.2.2.2.2.2.2.2.2.2.2.2.2.2.2.2.2.2.2.2.2.2.2,(([]:Tn2),(n.1,b2)))))))),p.2.1,p.2.2)) (
 some ((a.2.2.2.2.2.2.2.2.2.2.2.2.2.2.1,(a.2.2.2.2.2.2.2.2.2.2.2.2.2.2.2.1,((a.2.2.2.2.2.2.2.2.2.2.2.2.2.2.2.2.1,a.2.2.2.2.2.2.2.2.2.2.2.2.2.2.2.2.2.1),(a.2.2.2.2.2.2.2.2.2.2.2.2.2.2.2.2.2.2.1,(a.2.2.2.2.2.2.2.2.2.2.2.2.2.2.2.2.2.2.2.1,(a.2.2.2.2.2.2.2.2.2.2.2.2.2.2.2.2.2.2.2.2.2.2,(([]:Tn2),(a.2.2.2.2.2.2.2.2.2.2.2.2.2.2.2.2.2.2.2.2.1,a.2.2.2.2.2.2.2.2.2.2.2.2.2.2.2.2.2.2.2.2.2.1)))))))),f.2.1,f.2.2))))
def j60 (d:(List Int)) (b:Int):Option (Int×(List Int)×Int):=
 (j06 d b 576).bind fun e=>
 let j:=(w64 (3600*e.1))
 let i:=(w64 (1767139200+j))
 (j1d e.2.1 e.2.2 3).bind fun a=>
 cond a.1 (
 let f:(List Int):=[(-1),1,1800,3599]
 (j1v a.2.1 a.2.2 f).bind fun c=>
 let g:=(w64 (i+c.1))
 some (g,c.2.1,c.2.2)) (
 some (i,a.2.1,a.2.2))
def j6S (n:(List Int)) (k:Int) (m:Tn76):Option (Tn28×(List Int)×Int):=
 let l:=(Int.ofNat (List.length m.2.1))
 (j06 n k 3).bind fun a=>
 (j06 a.2.1 a.2.2 l).bind fun e=>
 (j60 e.2.1 e.2.2).bind fun b=>
 let o:(List Int):=[3600,86400,7,259200,40000]
 (j1v b.2.1 b.2.2 o).bind fun c=>
 let f:=(w64 (b.1+c.1))
 cond (a.1==2) (
 cond (decide (l<2)) (
 some ((0,(e.1,(0,(b.1,f)))),c.2.1,c.2.2)) (
 let r:=(w64 (e.1+1))
 let p:=(w64 (l-1))
 (j06 c.2.1 c.2.2 p).bind fun i=>
 let q:=(w64 (r+i.1))
 cond (!(l==0)) (
 let j:=(Int.tmod q l)
 cond (a.1==1) (
 (j1d i.2.1 i.2.2 4).bind fun g=>
 cond g.1 (
 some ((a.1,((-1),(j,(b.1,f)))),g.2.1,g.2.2)) (
 some ((a.1,(e.1,(j,(b.1,f)))),g.2.1,g.2.2))) (
 some ((a.1,(e.1,(j,(b.1,f)))),i.2.1,i.2.2))) none)) (
 cond (a.1==1) (
 (j1d c.2.1 c.2.2 4).bind fun d=>
 cond d.1 (
 some ((a.1,((-1),(0,(b.1,f)))),d.2.1,d.2.2)) (
 some ((a.1,(e.1,(0,(b.1,f)))),d.2.1,d.2.2))) (
 some ((a.1,(e.1,(0,(b.1,f)))),c.2.1,c.2.2)))
def j2Z [LP] (q o:Int) (r:(List Int)) (j:Int) (n:Tn59) (c:Tn53) (e:Tn30) (p:ByteArray) (d:Tn70) (b:Tn65):Option ((Int×Int×(List Int)×Int×Tn59×Tn53×Tn30×ByteArray×Tn70×Tn65) ⊕ ((Int×(List Int)×Int×Tn59×Tn53×Tn30×ByteArray×Tn70×Tn65))):=
 cond (decide (o>0)) (
 (jhv).bind fun f=>
 let g:=(Int.ofNat (List.length b))
 cond (inR g (List.length f)) (
 let k:=(List.getD f (Int.toNat g) ByteArray.empty)
 (j9h r j (n,(c,(e,d))) k).bind fun a=>
 let i:Tn65:=[(a.1.1,(a.1.2.1,((a.1.2.2.1.1,a.1.2.2.1.2),(a.1.2.2.2.1,(a.1.2.2.2.2.1,(a.1.2.2.2.2.2.1,(a.1.2.2.2.2.2.2.1,(a.1.2.2.2.2.2.2.2.1,a.1.2.2.2.2.2.2.2.2))))))))]
 cond (decide (List.length b+List.length i≤j07)) (
 let l:Tn65:=(b++i)
 let m:=(w64 (o-1))
 some (.inl (q,m,a.2.1,a.2.2,n,c,e,p,d,l))) none) none) (
 some (.inr (q,r,j,n,c,e,p,d,b)))
def j4L [LP] (i f:Int) (k:(List Int)) (e:Int) (j:Tn59) (a:Tn53) (d:Tn30) (g:ByteArray) (c:Tn70) (b:Tn65):Option ((Int×(List Int)×Int×Tn59×Tn53×Tn30×ByteArray×Tn70×Tn65)):=
 LP.lp (jlv (j2Z)) (i,f,k,e,j,a,d,g,c,b)
theorem j9X (i f k e j a d g c b):j4L i f k e j a d g c b=lpK (j2Z i f k e j a d g c b) (fun h=>j4L h.1 h.2.1 h.2.2.1 h.2.2.2.1 h.2.2.2.2.1 h.2.2.2.2.2.1 h.2.2.2.2.2.2.1 h.2.2.2.2.2.2.2.1 h.2.2.2.2.2.2.2.2.1 h.2.2.2.2.2.2.2.2.2):=j04 _ _
def j30 (n o:Int) (p:(List Int)) (i:Int) (l:Tn59) (b:Tn53) (e:Tn30) (m:ByteArray) (d:Tn70) (g:Tn65) (c:Tn34):Option ((Int×Int×(List Int)×Int×Tn59×Tn53×Tn30×ByteArray×Tn70×Tn65×Tn34) ⊕ ((Int×(List Int)×Int×Tn59×Tn53×Tn30×ByteArray×Tn70×Tn65×Tn34))):=
 cond (decide (o>0)) (
 (j6S p i (l,(b,(e,d)))).bind fun a=>
 let f:Tn34:=[(a.1.1,(a.1.2.1,(a.1.2.2.1,(a.1.2.2.2.1,a.1.2.2.2.2))))]
 cond (decide (List.length c+List.length f≤j07)) (
 let k:Tn34:=(c++f)
 let j:=(w64 (o-1))
 some (.inl (n,j,a.2.1,a.2.2,l,b,e,m,d,g,k))) none) (
 some (.inr (n,p,i,l,b,e,m,d,g,c)))
def j6m [LP] (i j:Int) (l:(List Int)) (f:Int) (k:Tn59) (a:Tn53) (e:Tn30) (g:ByteArray) (d:Tn70) (b:Tn65) (c:Tn34):Option ((Int×(List Int)×Int×Tn59×Tn53×Tn30×ByteArray×Tn70×Tn65×Tn34)):=
 LP.lp (jrr (j30)) (i,j,l,f,k,a,e,g,d,b,c)
theorem j9Y (i j l f k a e g d b c):j6m i j l f k a e g d b c=lpK (j30 i j l f k a e g d b c) (fun h=>j6m h.1 h.2.1 h.2.2.1 h.2.2.2.1 h.2.2.2.2.1 h.2.2.2.2.2.1 h.2.2.2.2.2.2.1 h.2.2.2.2.2.2.2.1 h.2.2.2.2.2.2.2.2.1 h.2.2.2.2.2.2.2.2.2.1 h.2.2.2.2.2.2.2.2.2.2):=j04 _ _
def j31 [LP] (q:Int) (s:(List Int)) (l:Int) (r:Tn59) (j:Tn53) (k:Tn30) (e:Tn70):Option ((Int×(List Int)×Int×Tn59×Tn53×Tn30×Tn70) ⊕ (((List Int)×Int×Tn59×Tn53×Tn30×Tn70))):=
 cond (decide (q>0)) (
 let g:(List ByteArray):=[(ByteArray.mk #[102,105,114,115,116]),(ByteArray.mk #[115,101,99,111,110,100]),(ByteArray.mk #[116,104,105,114,100])]
 let m:=(Int.ofNat (List.length e))
 let f:=(Int.tmod m 3)
 cond (inR f (List.length g)) (
 let n:=(List.getD g (Int.toNat f) ByteArray.empty)
 (j06 s l 4).bind fun d=>
 (j4L q d.1 d.2.1 d.2.2 r j k n e ([]:Tn65)).bind fun b=>
 (j06 b.2.1 b.2.2.1 4).bind fun c=>
 (j6m b.1 c.1 c.2.1 c.2.2 b.2.2.2.1 b.2.2.2.2.1 b.2.2.2.2.2.1 b.2.2.2.2.2.2.1 b.2.2.2.2.2.2.2.1 b.2.2.2.2.2.2.2.2 ([]:Tn34)).bind fun a=>
 let i:Tn70:=[(a.2.2.2.2.2.2.1,(a.2.2.2.2.2.2.2.2.1,a.2.2.2.2.2.2.2.2.2))]
 cond (decide (List.length a.2.2.2.2.2.2.2.1+List.length i≤j07)) (
 let o:Tn70:=(a.2.2.2.2.2.2.2.1++i)
 let p:=(w64 (a.1-1))
 some (.inl (p,a.2.1,a.2.2.1,a.2.2.2.1,a.2.2.2.2.1,a.2.2.2.2.2.1,o))) none) none) (
 some (.inr (s,l,r,j,k,e)))
def j6n [LP] (e:Int) (g:(List Int)) (d:Int) (f:Tn59) (a:Tn53) (c:Tn30) (b:Tn70):Option (((List Int)×Int×Tn59×Tn53×Tn30×Tn70)):=
 LP.lp (unc7 (j31)) (e,g,d,f,a,c,b)
theorem j9Z (e g d f a c b):j6n e g d f a c b=lpK (j31 e g d f a c b) (fun h=>j6n h.1 h.2.1 h.2.2.1 h.2.2.2.1 h.2.2.2.2.1 h.2.2.2.2.2.1 h.2.2.2.2.2.2):=j04 _ _
def j8D [LP] (e:(List Int)) (d f:Int):Option (Tn76×(List Int)×Int):=
 (j9g e d).bind fun a=>
 (j06 a.2.1 a.2.2 f).bind fun c=>
 let g:=(w64 (1+c.1))
 (j6n g c.2.1 c.2.2 a.1.1 a.1.2.1 a.1.2.2.1 ([]:Tn70)).bind fun b=>
 some ((b.2.2.1,(b.2.2.2.1,(b.2.2.2.2.1,b.2.2.2.2.2))),b.1,b.2.1)
def jmY (a:Int):Option (Bool):=
 some (cond (decide (a≥48)) (decide (a≤57)) false)
def j6B (a:ByteArray) (b:Int):Option ((ByteArray×Int) ⊕ (Bool ⊕ Unit)):=
 let g:=(Int.ofNat (ByteArray.size a))
 cond (decide (b<g)) (
 cond (inR b (ByteArray.size a)) (
 let d:=(j3p a b)
 cond ((inR b (ByteArray.size a)) || !(!(decide (d<97)))) (
 let f:=(j3p a b)
 cond ((inR b (ByteArray.size a)) || !(cond (decide (d<97)) true (decide (f>122)))) (
 let l:=(j3p a b)
 cond (cond (decide (d<97)) true (decide (f>122))) (
 (jmY l).bind fun c=>
 cond ((inR b (ByteArray.size a)) || !(!c)) (
 let e:=(j3p a b)
 cond ((inR b (ByteArray.size a)) || !(cond (!c) (e != 95) false)) (
 let i:=(j3p a b)
 cond (cond (cond (!c) (e != 95) false) (i != 45) false) (
 some (.inr (.inl false))) (
 let j:=(w64 (b+1))
 some (.inl (a,j)))) none) none) (
 cond ((inR b (ByteArray.size a)) || !false) (
 let m:=(j3p a b)
 cond ((inR b (ByteArray.size a)) || !false) (
 let n:=(j3p a b)
 let k:=(w64 (b+1))
 some (.inl (a,k))) none) none)) none) none) none) (
 some (.inr (.inr ())))
def jah [LP] (a:ByteArray) (b:Int):Option (Bool ⊕ Unit):=
 LP.lp (unc2 (j6B)) (a,b)
theorem jhX (a b):jah a b=lpK (j6B a b) (fun h=>jah h.1 h.2):=j04 _ _
def jmd [LP] (a:ByteArray):Option (Bool):=
 let d:=(Int.ofNat (ByteArray.size a))
 let f:=(Int.ofNat (ByteArray.size a))
 cond ((inR 0 (ByteArray.size a)) || !(!(cond (decide (d<1)) true (decide (f>24))))) (
 let c:=(j3p a 0)
 let b:Bool:=(cond (cond (decide (d<1)) true (decide (f>24))) true (decide (c<97)))
 cond ((inR 0 (ByteArray.size a)) || !(!b)) (
 let e:=(j3p a 0)
 cond (cond b true (decide (e>122))) (
 some false) (
 (jah a 0).bind fun g=>
 sumC g (fun i=>
 some i) (fun j=>
 some true))) none) none
def j6C (a:(List ByteArray)) (b e:Int):Option (((List ByteArray)×Int×Int) ⊕ (Int ⊕ Unit)):=
 cond (decide (e<b)) (
 cond (inR e (List.length a)) (
 let d:=(List.getD a (Int.toNat e) ByteArray.empty)
 cond (inR b (List.length a)) (
 let c:=(List.getD a (Int.toNat b) ByteArray.empty)
 cond (ByteArray.toList d==ByteArray.toList c) (
 some (.inr (.inl 4))) (
 let f:=(w64 (e+1))
 some (.inl (a,b,f)))) none) none) (
 some (.inr (.inr ())))
def jcu [LP] (c:(List ByteArray)) (a b:Int):Option (Int ⊕ Unit):=
 LP.lp (unc3 (j6C)) (c,a,b)
theorem jhY (c a b):jcu c a b=lpK (j6C c a b) (fun h=>jcu h.1 h.2.1 h.2.2):=j04 _ _
def jbS [LP] (a:(List ByteArray)) (b:Int):Option (Int):=
 cond (inR b (List.length a)) (
 let e:=(List.getD a (Int.toNat b) ByteArray.empty)
 (jmd e).bind fun c=>
 cond (!c) (
 some 2) (
 (jcu a b 0).bind fun d=>
 sumC d (fun f=>
 some f) (fun g=>
 some 0))) none
def ja0 (a b c:Int):Option (Bool):=
 some (cond (decide (a≥b)) (decide (a≤c)) false)
def jgC (a:Tn43):Option (Bool):=
 (ja0 a.1 1970 2240).bind fun i=>
 cond i (
 (ja0 a.2.1 a.1 2240).bind fun b=>
 cond b (
 (ja0 a.2.2.1 1 12).bind fun e=>
 cond e (
 (ja0 a.2.2.2.1 1 5).bind fun c=>
 cond c (
 (ja0 a.2.2.2.2.1 0 6).bind fun d=>
 cond d (
 (ja0 a.2.2.2.2.2.1 0 86399).bind fun g=>
 cond g (
 (ja0 a.2.2.2.2.2.2 (-64800) 64800).bind fun f=>
 some f) (
 some false)) (
 some false)) (
 some false)) (
 some false)) (
 some false)) (
 some false)
def j1X (a:Int):Option (Bool):=
 let d:=(Int.tmod a 4)
 let c:=(Int.tmod a 100)
 let b:=(Int.tmod a 400)
 some (cond (d==0) (cond (c != 0) true (b==0)) false)
def jf7 (b a:Int):Option (Int):=
 cond (a==1) (
 cond (a==1) (
 some 31) (
 cond (a==4) (
 cond (a==4) (
 some 30) (
 cond (a==2) (
 (j1X b).bind fun a4=>
 cond a4 (
 some 29) (
 some 28)) (
 some 0))) (
 cond (a==6) (
 cond (a==6) (
 some 30) (
 cond (a==2) (
 (j1X b).bind fun a0=>
 cond a0 (
 some 29) (
 some 28)) (
 some 0))) (
 cond (a==9) (
 cond (a==9) (
 some 30) (
 cond (a==2) (
 (j1X b).bind fun v=>
 cond v (
 some 29) (
 some 28)) (
 some 0))) (
 cond (a==11) (
 some 30) (
 cond (a==2) (
 (j1X b).bind fun w=>
 cond w (
 some 29) (
 some 28)) (
 some 0))))))) (
 cond (a==3) (
 cond (a==3) (
 some 31) (
 cond (a==4) (
 cond (a==4) (
 some 30) (
 cond (a==2) (
 (j1X b).bind fun y=>
 cond y (
 some 29) (
 some 28)) (
 some 0))) (
 cond (a==6) (
 cond (a==6) (
 some 30) (
 cond (a==2) (
 (j1X b).bind fun x=>
 cond x (
 some 29) (
 some 28)) (
 some 0))) (
 cond (a==9) (
 cond (a==9) (
 some 30) (
 cond (a==2) (
 (j1X b).bind fun z=>
 cond z (
 some 29) (
 some 28)) (
 some 0))) (
 cond (a==11) (
 some 30) (
 cond (a==2) (
 (j1X b).bind fun a1=>
 cond a1 (
 some 29) (
 some 28)) (
 some 0))))))) (
 cond (a==5) (
 cond (a==5) (
 some 31) (
 cond (a==4) (
 cond (a==4) (
 some 30) (
 cond (a==2) (
 (j1X b).bind fun a3=>
 cond a3 (
 some 29) (
 some 28)) (
 some 0))) (
 cond (a==6) (
 cond (a==6) (
 some 30) (
 cond (a==2) (
 (j1X b).bind fun a2=>
 cond a2 (
 some 29) (
 some 28)) (
 some 0))) (
 cond (a==9) (
 cond (a==9) (
 some 30) (
 cond (a==2) (
 (j1X b).bind fun c=>
 cond c (
 some 29) (
 some 28)) (
 some 0))) (
 cond (a==11) (
 some 30) (
 cond (a==2) (
 (j1X b).bind fun l=>
 cond l (
 some 29) (
 some 28)) (
 some 0))))))) (
 cond (a==7) (
 cond (a==7) (
 some 31) (
 cond (a==4) (
 cond (a==4) (
 some 30) (
 cond (a==2) (
 (j1X b).bind fun e=>
 cond e (
 some 29) (
 some 28)) (
 some 0))) (
 cond (a==6) (
 cond (a==6) (
 some 30) (
 cond (a==2) (
 (j1X b).bind fun m=>
 cond m (
 some 29) (
 some 28)) (
 some 0))) (
 cond (a==9) (
 cond (a==9) (
 some 30) (
 cond (a==2) (
 (j1X b).bind fun k=>
 cond k (
 some 29) (
 some 28)) (
 some 0))) (
 cond (a==11) (
 some 30) (
 cond (a==2) (
 (j1X b).bind fun r=>
 cond r (
 some 29) (
 some 28)) (
 some 0))))))) (
 cond (a==8) (
 cond (a==8) (
 some 31) (
 cond (a==4) (
 cond (a==4) (
 some 30) (
 cond (a==2) (
 (j1X b).bind fun f=>
 cond f (
 some 29) (
 some 28)) (
 some 0))) (
 cond (a==6) (
 cond (a==6) (
 some 30) (
 cond (a==2) (
 (j1X b).bind fun d=>
 cond d (
 some 29) (
 some 28)) (
 some 0))) (
 cond (a==9) (
 cond (a==9) (
 some 30) (
 cond (a==2) (
 (j1X b).bind fun q=>
 cond q (
 some 29) (
 some 28)) (
 some 0))) (
 cond (a==11) (
 some 30) (
 cond (a==2) (
 (j1X b).bind fun s=>
 cond s (
 some 29) (
 some 28)) (
 some 0))))))) (
 cond (a==10) (
 cond (a==10) (
 some 31) (
 cond (a==4) (
 cond (a==4) (
 some 30) (
 cond (a==2) (
 (j1X b).bind fun n=>
 cond n (
 some 29) (
 some 28)) (
 some 0))) (
 cond (a==6) (
 cond (a==6) (
 some 30) (
 cond (a==2) (
 (j1X b).bind fun o=>
 cond o (
 some 29) (
 some 28)) (
 some 0))) (
 cond (a==9) (
 cond (a==9) (
 some 30) (
 cond (a==2) (
 (j1X b).bind fun i=>
 cond i (
 some 29) (
 some 28)) (
 some 0))) (
 cond (a==11) (
 some 30) (
 cond (a==2) (
 (j1X b).bind fun g=>
 cond g (
 some 29) (
 some 28)) (
 some 0))))))) (
 cond (a==12) (
 some 31) (
 cond (a==4) (
 cond (a==4) (
 some 30) (
 cond (a==2) (
 (j1X b).bind fun p=>
 cond p (
 some 29) (
 some 28)) (
 some 0))) (
 cond (a==6) (
 cond (a==6) (
 some 30) (
 cond (a==2) (
 (j1X b).bind fun u=>
 cond u (
 some 29) (
 some 28)) (
 some 0))) (
 cond (a==9) (
 cond (a==9) (
 some 30) (
 cond (a==2) (
 (j1X b).bind fun t=>
 cond t (
 some 29) (
 some 28)) (
 some 0))) (
 cond (a==11) (
 some 30) (
 cond (a==2) (
 (j1X b).bind fun j=>
 cond j (
 some 29) (
 some 28)) (
 some 0))))))))))))
def jjv (a:Tn4):Option (Bool):=
 cond (decide (a.1≥1970)) (
 cond (decide (a.1≤2240)) (
 cond (decide (a.2.1≥1)) (
 cond (decide (a.2.1≤12)) (
 cond (decide (a.2.2≥1)) (
 (jf7 a.1 a.2.1).bind fun b=>
 some (decide (a.2.2≤b))) (
 some false)) (
 some false)) (
 some false)) (
 some false)) (
 some false)
def jjw (a:Int):Option (Int):=
 let j:=(w64 (a-1970))
 let k:=(w64 (j*365))
 let l:=(w64 (a-1969))
 let i:=(w64 (Int.tdiv l 4))
 let m:=(w64 (k+i))
 let b:=(w64 (a-1901))
 let d:=(w64 (Int.tdiv b 100))
 let e:=(w64 (m-d))
 let c:=(w64 (a-1601))
 let f:=(w64 (Int.tdiv c 400))
 let g:=(w64 (e+f))
 some g
def j7q (i f g a b:Int):Option ((Int×Int×Int×Int×Int) ⊕ ((Int×Int×Int×Int))):=
 cond (decide (f<a)) (
 (jf7 g f).bind fun e=>
 let c:=(w64 (i+e))
 let d:=(w64 (f+1))
 some (.inl (c,d,g,a,b))) (
 some (.inr (i,g,a,b)))
def jhw [LP] (c d e b a:Int):Option ((Int×Int×Int×Int)):=
 LP.lp (unc5 (j7q)) (c,d,e,b,a)
theorem jjx (c d e b a):jhw c d e b a=lpK (j7q c d e b a) (fun h=>jhw h.1 h.2.1 h.2.2.1 h.2.2.2.1 h.2.2.2.2):=j04 _ _
def jpG [LP] (a:Tn4):Option (Int×Int):=
 (jjv (a.1,(a.2.1,a.2.2))).bind fun f=>
 cond (!f) (
 some (0,1)) (
 (jjw a.1).bind fun b=>
 (jhw b 1 a.1 a.2.1 a.2.2).bind fun c=>
 let d:=(w64 (c.1+c.2.2.2))
 let e:=(w64 (d-1))
 some (e,0))
def jf8 (a:Int):Option (Int):=
 let b:=(Int.tmod a 7)
 let d:=(w64 (b+10))
 let c:=(Int.tmod d 7)
 some c
def j7r (f e i g d a:Int):Option ((Int×Int×Int×Int×Int×Int) ⊕ ((Int×Int×Int×Int×Int))):=
 (jf8 a).bind fun c=>
 cond (c != g) (
 let b:=(w64 (a+1))
 some (.inl (f,e,i,g,d,b))) (
 some (.inr (f,e,i,d,a)))
def jhx [LP] (d c f e a b:Int):Option ((Int×Int×Int×Int×Int)):=
 LP.lp (unc6 (j7r)) (d,c,f,e,a,b)
theorem jjy (d c f e a b):jhx d c f e a b=lpK (j7r d c f e a b) (fun h=>jhx h.1 h.2.1 h.2.2.1 h.2.2.2.1 h.2.2.2.2.1 h.2.2.2.2.2):=j04 _ _
def j7s (i g f a:Int):Option ((Int×Int×Int×Int) ⊕ (Int)):=
 let b:=(w64 (a+7))
 (jf7 i g).bind fun e=>
 let c:=(w64 (f+e))
 cond (decide (b<c)) (
 let d:=(w64 (a+7))
 some (.inl (i,g,f,d))) (
 some (.inr a))
def jhy [LP] (d c b a:Int):Option (Int):=
 LP.lp (unc4 (j7s)) (d,c,b,a)
theorem jjz (d c a b):jhy d c a b=lpK (j7s d c a b) (fun h=>jhy h.1 h.2.1 h.2.2.1 h.2.2.2):=j04 _ _
def jpH [LP] (e c b a:Int):Option (Int×Int):=
 (jpG (e,(c,1))).bind fun f=>
 let g:Bool:=(cond (cond (f.2 != 0) true (decide (b<1))) true (decide (b>5)))
 let k:Bool:=(cond (cond g true (decide (a<0))) true (decide (a>6)))
 cond k (
 some (0,1)) (
 (jhx e c b a f.1 f.1).bind fun d=>
 cond (decide (d.2.2.1<5)) (
 let l:=(w64 (d.2.2.1-1))
 let i:=(w64 (7*l))
 let j:=(w64 (d.2.2.2.2+i))
 some (j,0)) (
 (jhy d.1 d.2.1 d.2.2.2.1 d.2.2.2.2).bind fun m=>
 some (m,0)))
def j3i (i:Tn47) (j k d g a:Int) (c:Tn2):Option ((Tn47×Int×Int×Int×Int×Int×Tn2) ⊕ ((Tn47×Int×Int×Int×Int×Int×Tn2))):=
 cond (decide (d>0)) (
 let b:=(w64 (d-1))
 cond (inR b (List.length c)) (
 let f:=(List.getD c (Int.toNat b) (0,0)).1
 cond (decide (f>g)) (
 let e:=(w64 (d-1))
 some (.inl (i,j,k,e,g,a,c))) (
 some (.inr (i,j,k,d,g,a,c)))) none) (
 some (.inr (i,j,k,d,g,a,c)))
def j5i [LP] (b:Tn47) (f g d e a:Int) (c:Tn2):Option ((Tn47×Int×Int×Int×Int×Int×Tn2)):=
 LP.lp (unc7 (j3i)) (b,f,g,d,e,a,c)
theorem jaW (b f g d e a c):j5i b f g d e a c=lpK (j3i b f g d e a c) (fun h=>j5i h.1 h.2.1 h.2.2.1 h.2.2.2.1 h.2.2.2.2.1 h.2.2.2.2.2.1 h.2.2.2.2.2.2):=j04 _ _
def j3j [LP] (d:Tn47) (c v:Int) (t:Tn2):Option ((Tn47×Int×Int×Tn2) ⊕ ((Tn47×Int×Tn2))):=
 cond (inR c (List.length d)) (
 let j:=(List.getD d (Int.toNat c) (0,(0,(0,(0,(0,(0,0)))))))
 cond (decide (v≤j.2.1)) (
 cond (inR c (List.length d)) (
 let o:=(List.getD d (Int.toNat c) (0,(0,(0,(0,(0,(0,0)))))))
 cond (inR c (List.length d)) (
 let p:=(List.getD d (Int.toNat c) (0,(0,(0,(0,(0,(0,0)))))))
 cond (inR c (List.length d)) (
 let k:=(List.getD d (Int.toNat c) (0,(0,(0,(0,(0,(0,0)))))))
 (jpH v o.2.2.1 p.2.2.2.1 k.2.2.2.2.1).bind fun q=>
 let s:=(w64 (q.1*86400))
 cond (inR c (List.length d)) (
 let l:=(List.getD d (Int.toNat c) (0,(0,(0,(0,(0,(0,0)))))))
 let n:=(w64 (s+l.2.2.2.2.2.1))
 cond (inR c (List.length d)) (
 let r:=(List.getD d (Int.toNat c) (0,(0,(0,(0,(0,(0,0)))))))
 let m:=(Int.ofNat (List.length t))
 (j5i d c v m n r.2.2.2.2.2.2 t).bind fun a=>
 let f:Tn2:=[(a.2.2.2.2.1,a.2.2.2.2.2.1)]
 cond (decide (List.length a.2.2.2.2.2.2+List.length f≤j07)) (
 let b:Tn2:=(a.2.2.2.2.2.2++f)
 let e:=(w64 (a.2.2.2.1+1))
 cond (decide (0≤e)&&decide (e≤(Int.ofNat (List.length b)))) (
 cond (decide (0≤a.2.2.2.1)&&decide (a.2.2.2.1≤(Int.ofNat (List.length b)))) (
 let g:Tn2:=(over b (Int.toNat e) (List.drop (Int.toNat a.2.2.2.1) b))
 let w:=(Int.ofNat (min (List.length (List.drop (Int.toNat a.2.2.2.1) b)) (List.length b-(Int.toNat e))))
 cond (inR a.2.2.2.1 (List.length g)) (
 let u:Tn2:=(List.set g (Int.toNat a.2.2.2.1) (a.2.2.2.2.1,a.2.2.2.2.2.1))
 let i:=(w64 (a.2.2.1+1))
 some (.inl (a.1,a.2.1,i,u))) none) none) none) none) none) none) none) none) none) (
 some (.inr (d,c,t)))) none
def j78 [LP] (c:Tn47) (a b:Int) (d:Tn2):Option ((Tn47×Int×Tn2)):=
 LP.lp (unc4 (j3j)) (c,a,b,d)
theorem jaX (a c d b):j78 a c d b=lpK (j3j a c d b) (fun h=>j78 h.1 h.2.1 h.2.2.1 h.2.2.2):=j04 _ _
def j3k [LP] (b:Tn47) (e:Int) (g:Tn2):Option ((Tn47×Int×Tn2) ⊕ (Tn2)):=
 let c:=(Int.ofNat (List.length b))
 cond (decide (e<c)) (
 cond (inR e (List.length b)) (
 let d:=(List.getD b (Int.toNat e) (0,(0,(0,(0,(0,(0,0)))))))
 (j78 b e d.1 g).bind fun a=>
 let f:=(w64 (a.2.1+1))
 some (.inl (a.1,f,a.2.2))) none) (
 some (.inr g))
def j5j [LP] (b:Tn47) (a:Int) (c:Tn2):Option (Tn2):=
 LP.lp (unc3 (j3k)) (b,a,c)
theorem jaY (b a c):j5j b a c=lpK (j3k b a c) (fun h=>j5j h.1 h.2.1 h.2.2):=j04 _ _
def j9i [LP] (a:Tn47):Option (Tn2):=
 (j5j a 0 ([]:Tn2)).bind fun b=>
 some b
def j3l (n c:Int) (o:ByteArray) (d:Int) (b:Tn47):Option ((Int×Int×ByteArray×Int×Tn47) ⊕ (Int ⊕ (Int×ByteArray×Int×Tn47))):=
 let g:=(Int.ofNat (List.length b))
 cond (decide (c<g)) (
 cond (inR c (List.length b)) (
 let a:=(List.getD b (Int.toNat c) (0,(0,(0,(0,(0,(0,0)))))))
 (jgC (a.1,(a.2.1,(a.2.2.1,(a.2.2.2.1,(a.2.2.2.2.1,(a.2.2.2.2.2.1,a.2.2.2.2.2.2))))))).bind fun k=>
 cond (!k) (
 some (.inr (.inl 1))) (
 cond (inR c (List.length b)) (
 let j:=(List.getD b (Int.toNat c) (0,(0,(0,(0,(0,(0,0)))))))
 cond (inR c (List.length b)) (
 let m:=(List.getD b (Int.toNat c) (0,(0,(0,(0,(0,(0,0)))))))
 let e:=(w64 (j.2.1-m.1))
 let f:=(w64 (e+1))
 let l:=(w64 (n+f))
 let i:=(w64 (c+1))
 some (.inl (l,i,o,d,b))) none) none)) none) (
 some (.inr (.inr (n,o,d,b))))
def j5k [LP] (c d:Int) (e:ByteArray) (b:Int) (a:Tn47):Option (Int ⊕ (Int×ByteArray×Int×Tn47)):=
 LP.lp (unc5 (j3l)) (c,d,e,b,a)
theorem jaZ (c d e b a):j5k c d e b a=lpK (j3l c d e b a) (fun h=>j5k h.1 h.2.1 h.2.2.1 h.2.2.2.1 h.2.2.2.2):=j04 _ _
def j3m (s c:Int) (d e:Tn2):Option ((Int×Int×Tn2×Tn2) ⊕ (Int ⊕ Tn2)):=
 let v:=(Int.ofNat (List.length e))
 cond (decide (c<v)) (
 cond (inR c (List.length e)) (
 let x:=(List.getD e (Int.toNat c) (0,0)).2
 cond (x==s) (
 let t:=(w64 (c+1))
 some (.inl (s,t,d,e))) (
 cond (inR c (List.length e)) (
 let u:=(List.getD e (Int.toNat c) (0,0)).1
 let b:=(w64 (u-s))
 cond (inR c (List.length e)) (
 let a:=(List.getD e (Int.toNat c) (0,0)).2
 let q:=(w64 (a-s))
 (ja0 q (-86399) 86399).bind fun o=>
 cond (!o) (
 some (.inr (.inl 6))) (
 (ja0 b 0 8589934592).bind fun y=>
 cond (!y) (
 some (.inr (.inl 6))) (
 let w:=(Int.ofNat (List.length d))
 cond (decide (w>0)) (
 let k:=(Int.ofNat (List.length d))
 let i:=(w64 (k-1))
 cond (inR i (List.length d)) (
 let l:=(List.getD d (Int.toNat i) (0,0)).1
 let j:=(w64 (b-l))
 cond (decide (j<604800)) (
 some (.inr (.inl 6))) (
 let f:Tn2:=[(b,a)]
 cond (decide (List.length d+List.length f≤j07)) (
 let n:Tn2:=(d++f)
 let p:=(w64 (c+1))
 some (.inl (a,p,n,e))) none)) none) (
 let g:Tn2:=[(b,a)]
 cond (decide (List.length d+List.length g≤j07)) (
 let m:Tn2:=(d++g)
 let r:=(w64 (c+1))
 some (.inl (a,r,m,e))) none)))) none) none)) none) (
 some (.inr (.inr d)))
def j5l [LP] (b d:Int) (a c:Tn2):Option (Int ⊕ Tn2):=
 LP.lp (unc4 (j3m)) (b,d,a,c)
theorem jb0 (b d a c):j5l b d a c=lpK (j3m b d a c) (fun h=>j5l h.1 h.2.1 h.2.2.1 h.2.2.2):=j04 _ _
def j1H [LP] (a:Tn57):Option (Tn2×Int):=
 (ja0 a.2.1 (-64800) 64800).bind fun b=>
 cond (!b) (
 some (([]:Tn2),1)) (
 let f:=(Int.ofNat (List.length a.2.2))
 cond (decide (f>16)) (
 some (([]:Tn2),5)) (
 (j5k 0 0 a.1 a.2.1 a.2.2).bind fun g=>
 sumC g (fun k=>
 some (([]:Tn2),k)) (fun j=>
 cond (decide (j.1>640)) (
 some (([]:Tn2),5)) (
 (j9i j.2.2.2).bind fun d=>
 (j5l j.2.2.1 0 ([]:Tn2) d).bind fun i=>
 sumC i (fun c=>
 some (([]:Tn2),c)) (fun e=>
 some (e,0))))))
def j7t [LP] (a:Tn57):Option (Int):=
 (j1H (a.1,(a.2.1,a.2.2))).bind fun b=>
 some b.2
def j4M (g:Bool) (e:Int) (j:ByteArray) (i:Int) (a:Tn47):Option ((Bool×Int×ByteArray×Int×Tn47) ⊕ (Bool)):=
 let d:=(Int.ofNat (List.length a))
 cond (decide (e<d)) (
 cond ((inR e (List.length a)) || !g) (
 let f:=(List.getD a (Int.toNat e) (0,(0,(0,(0,(0,(0,0)))))))
 let c:=(Int.tmod f.2.2.2.2.2.2 60)
 let b:=(w64 (e+1))
 some (.inl ((cond g (c==0) false),b,j,i,a))) none) (
 some (.inr g))
def j8r [LP] (d:Bool) (c:Int) (e:ByteArray) (b:Int) (a:Tn47):Option (Bool):=
 LP.lp (unc5 (j4M)) (d,c,e,b,a)
theorem jew (d c e b a):j8r d c e b a=lpK (j4M d c e b a) (fun h=>j8r h.1 h.2.1 h.2.2.1 h.2.2.2.1 h.2.2.2.2):=j04 _ _
def jcv [LP] (a:Tn57):Option (Bool):=
 let c:=(Int.tmod a.2.1 60)
 (j8r (c==0) 0 a.1 a.2.1 a.2.2).bind fun b=>
 some b
def j61 [LP] (b:Int) (d:Tn59) (o:Tn53) (n:Tn30) (l:Tn70) (p:(List ByteArray)):Option ((Int×Tn59×Tn53×Tn30×Tn70×(List ByteArray)) ⊕ (Int ⊕ Unit)):=
 let m:=(Int.ofNat (List.length d))
 cond (decide (b<m)) (
 cond (inR b (List.length d)) (
 let i:=(List.getD d (Int.toNat b) (ByteArray.empty,(0,([]:Tn47))))
 cond (decide (List.length p+List.length [i.1]≤j07)) (
 let e:(List ByteArray):=(p++[i.1])
 (jbS e b).bind fun g=>
 cond (g != 0) (
 some (.inr (.inl g))) (
 cond (inR b (List.length d)) (
 let c:=(List.getD d (Int.toNat b) (ByteArray.empty,(0,([]:Tn47))))
 (j7t (c.1,(c.2.1,c.2.2))).bind fun f=>
 cond ((inR b (List.length d)) || !(!(f != 0))) (
 let a:=(List.getD d (Int.toNat b) (ByteArray.empty,(0,([]:Tn47))))
 cond (f != 0) (
 some (.inr (.inl 8))) (
 (jcv (a.1,(a.2.1,a.2.2))).bind fun j=>
 cond (!j) (
 some (.inr (.inl 8))) (
 let k:=(w64 (b+1))
 some (.inl (k,d,o,n,l,e))))) none) none)) none) none) (
 some (.inr (.inr ())))
def jb1 [LP] (e:Int) (f:Tn59) (c:Tn53) (b:Tn30) (a:Tn70) (d:(List ByteArray)):Option (Int ⊕ Unit):=
 LP.lp (unc6 (j61)) (e,f,c,b,a,d)
theorem jgD (e f c b a d):jb1 e f c b a d=lpK (j61 e f c b a d) (fun h=>jb1 h.1 h.2.1 h.2.2.1 h.2.2.2.1 h.2.2.2.2.1 h.2.2.2.2.2):=j04 _ _
def jmZ [LP] (a:Tn76):Option (Int):=
 (jb1 0 a.1 a.2.1 a.2.2.1 a.2.2.2 ([]:(List ByteArray))).bind fun b=>
 sumC b (fun c=>
 some c) (fun d=>
 some 0)
def j8s (a b c:Int):Option (Bool):=
 some (cond (decide (a≥b)) (decide (a≤c)) false)
def j62 (a:Tn2) (b:Int):Option ((Tn2×Int) ⊕ (Int ⊕ Unit)):=
 let m:=(Int.ofNat (List.length a))
 cond (decide (b<m)) (
 cond (inR b (List.length a)) (
 let d:=(List.getD a (Int.toNat b) (0,0))
 cond (decide (d.1<0)) (
 some (.inr (.inl 1))) (
 cond (inR b (List.length a)) (
 let e:=(List.getD a (Int.toNat b) (0,0))
 cond (inR b (List.length a)) (
 let i:=(List.getD a (Int.toNat b) (0,0))
 cond (decide (e.1≥i.2)) (
 some (.inr (.inl 1))) (
 cond (inR b (List.length a)) (
 let l:=(List.getD a (Int.toNat b) (0,0))
 cond (decide (l.2>604800)) (
 some (.inr (.inl 1))) (
 cond (decide (b>0)) (
 cond (inR b (List.length a)) (
 let f:=(List.getD a (Int.toNat b) (0,0))
 let c:=(w64 (b-1))
 cond (inR c (List.length a)) (
 let k:=(List.getD a (Int.toNat c) (0,0))
 cond (decide (f.1<k.2)) (
 some (.inr (.inl 6))) (
 let g:=(w64 (b+1))
 some (.inl (a,g)))) none) none) (
 let j:=(w64 (b+1))
 some (.inl (a,j))))) none)) none) none)) none) (
 some (.inr (.inr ())))
def jb2 [LP] (a:Tn2) (b:Int):Option (Int ⊕ Unit):=
 LP.lp (unc2 (j62)) (a,b)
theorem jgE (a b):jb2 a b=lpK (j62 a b) (fun h=>jb2 h.1 h.2):=j04 _ _
def jex [LP] (a:Tn2):Option (Int):=
 let c:=(Int.ofNat (List.length a))
 cond (decide (c>14)) (
 some 5) (
 (jb2 a 0).bind fun b=>
 sumC b (fun d=>
 some d) (fun e=>
 some 0))
def jjA (a:Int):Option (Bool):=
 (j8s a 0 604800).bind fun c=>
 let b:=(Int.tmod a 3600)
 some (cond c (b==0) false)
def j5m [LP] (e:Int) (s:Tn59) (b:Tn53) (q:Tn30) (p:Tn70) (r:(List ByteArray)):Option ((Int×Tn59×Tn53×Tn30×Tn70×(List ByteArray)) ⊕ (Int ⊕ Unit)):=
 let o:=(Int.ofNat (List.length b))
 cond (decide (e<o)) (
 cond (inR e (List.length b)) (
 let a:=(List.getD b (Int.toNat e) (ByteArray.empty,(0,(([]:Tn2),(0,(0,false))))))
 cond (decide (List.length r+List.length [a.1]≤j07)) (
 let c:(List ByteArray):=(r++[a.1])
 let f:Bool:=(ByteArray.toList a.1==ByteArray.toList (ByteArray.mk #[110,111,98,111,100,121]))
 cond f (
 some (.inr (.inl 2))) (
 (jbS c e).bind fun d=>
 cond (d != 0) (
 some (.inr (.inl d))) (
 let l:=(Int.ofNat (List.length s))
 let j:=(w64 (l-1))
 (j8s a.2.1 0 j).bind fun k=>
 cond (!k) (
 some (.inr (.inl 3))) (
 (jex a.2.2.1).bind fun m=>
 cond (m != 0) (
 some (.inr (.inl 8))) (
 (jjA a.2.2.2.1).bind fun i=>
 cond (!i) (
 some (.inr (.inl 1))) (
 (jjA a.2.2.2.2.1).bind fun n=>
 cond (!n) (
 some (.inr (.inl 1))) (
 let g:=(w64 (e+1))
 some (.inl (g,s,b,q,p,c))))))))) none) none) (
 some (.inr (.inr ())))
def j9j [LP] (e:Int) (f:Tn59) (c:Tn53) (b:Tn30) (a:Tn70) (d:(List ByteArray)):Option (Int ⊕ Unit):=
 LP.lp (unc6 (j5m)) (e,f,c,b,a,d)
theorem jfX (e f c b a d):j9j e f c b a d=lpK (j5m e f c b a d) (fun h=>j9j h.1 h.2.1 h.2.2.1 h.2.2.2.1 h.2.2.2.2.1 h.2.2.2.2.2):=j04 _ _
def jkE [LP] (a:Tn76):Option (Int):=
 (j9j 0 a.1 a.2.1 a.2.2.1 a.2.2.2 ([]:(List ByteArray))).bind fun b=>
 sumC b (fun c=>
 some c) (fun d=>
 some 0)
def jcb  : Option (Int):=
 (jjw 2241).bind fun b=>
 let a:=(w64 (b-1))
 some a
def j3Q (n l:Int) (p:Tn59) (e:Tn53) (d:Tn30) (c:Tn70) (o:ByteArray) (b:Int) (a:(List Int)) (m:(List ByteArray)):Option ((Int×Int×Tn59×Tn53×Tn30×Tn70×ByteArray×Int×(List Int)×(List ByteArray)) ⊕ (Int ⊕ (Int×Tn59×Tn53×Tn30×Tn70×ByteArray×Int×(List Int)×(List ByteArray)))):=
 let i:=(Int.ofNat (List.length a))
 cond (decide (l<i)) (
 cond (inR l (List.length a)) (
 let j:=(List.getD a (Int.toNat l) 0)
 (jcb).bind fun g=>
 (j8s j 0 g).bind fun k=>
 cond (!k) (
 some (.inr (.inl 1))) (
 let f:=(w64 (l+1))
 some (.inl (n,f,p,e,d,c,o,b,a,m)))) none) (
 some (.inr (.inr (n,p,e,d,c,o,b,a,m))))
def j6D [LP] (g k:Int) (j:Tn59) (e:Tn53) (d:Tn30) (c:Tn70) (i:ByteArray) (a:Int) (b:(List Int)) (f:(List ByteArray)):Option (Int ⊕ (Int×Tn59×Tn53×Tn30×Tn70×ByteArray×Int×(List Int)×(List ByteArray))):=
 LP.lp (jlv (j3Q)) (g,k,j,e,d,c,i,a,b,f)
theorem jcw (g k j e d c i a b f):j6D g k j e d c i a b f=lpK (j3Q g k j e d c i a b f) (fun h=>j6D h.1 h.2.1 h.2.2.1 h.2.2.2.1 h.2.2.2.2.1 h.2.2.2.2.2.1 h.2.2.2.2.2.2.1 h.2.2.2.2.2.2.2.1 h.2.2.2.2.2.2.2.2.1 h.2.2.2.2.2.2.2.2.2):=j04 _ _
def j5n (n c:Int) (o:Tn59) (f:Tn53) (e:Tn30) (d:Tn70) (p:ByteArray) (l:Int) (a:(List Int)) (m:(List ByteArray)):Option ((Int×Int×Tn59×Tn53×Tn30×Tn70×ByteArray×Int×(List Int)×(List ByteArray)) ⊕ (Int ⊕ (Int×Tn59×Tn53×Tn30×Tn70×(List ByteArray)))):=
 let j:=(Int.ofNat (List.length a))
 cond (decide (c<j)) (
 cond (inR c (List.length a)) (
 let g:=(List.getD a (Int.toNat c) 0)
 let b:=(w64 (c-1))
 cond (inR b (List.length a)) (
 let k:=(List.getD a (Int.toNat b) 0)
 cond (decide (g≤k)) (
 some (.inr (.inl 6))) (
 let i:=(w64 (c+1))
 some (.inl (n,i,o,f,e,d,p,l,a,m)))) none) none) (
 some (.inr (.inr (n,o,f,e,d,m))))
def j6E [LP] (i f:Int) (k:Tn59) (e:Tn53) (d:Tn30) (c:Tn70) (j:ByteArray) (a:Int) (b:(List Int)) (g:(List ByteArray)):Option (Int ⊕ (Int×Tn59×Tn53×Tn30×Tn70×(List ByteArray))):=
 LP.lp (jlv (j5n)) (i,f,k,e,d,c,j,a,b,g)
theorem jir (i f k e d c j a b g):j6E i f k e d c j a b g=lpK (j5n i f k e d c j a b g) (fun h=>j6E h.1 h.2.1 h.2.2.1 h.2.2.2.1 h.2.2.2.2.1 h.2.2.2.2.2.1 h.2.2.2.2.2.2.1 h.2.2.2.2.2.2.2.1 h.2.2.2.2.2.2.2.2.1 h.2.2.2.2.2.2.2.2.2):=j04 _ _
def j3R [LP] (g:Int) (u:Tn59) (r:Tn53) (d:Tn30) (q:Tn70) (t:(List ByteArray)):Option ((Int×Tn59×Tn53×Tn30×Tn70×(List ByteArray)) ⊕ (Int ⊕ Unit)):=
 let k:=(Int.ofNat (List.length d))
 cond (decide (g<k)) (
 cond (inR g (List.length d)) (
 let a:=(List.getD d (Int.toNat g) (ByteArray.empty,(0,([]:(List Int)))))
 cond (decide (List.length t+List.length [a.1]≤j07)) (
 let e:(List ByteArray):=(t++[a.1])
 (jbS e g).bind fun f=>
 cond (f != 0) (
 some (.inr (.inl f))) (
 let i:=(Int.ofNat (List.length u))
 let n:=(w64 (i-1))
 (j8s a.2.1 0 n).bind fun l=>
 cond (!l) (
 some (.inr (.inl 3))) (
 let m:=(Int.ofNat (List.length a.2.2))
 cond (decide (m>64)) (
 some (.inr (.inl 5))) (
 (j6D g 0 u r d q a.1 a.2.1 a.2.2 e).bind fun p=>
 sumC p (fun v=>
 some (.inr (.inl v))) (fun b=>
 (j6E b.1 1 b.2.1 b.2.2.1 b.2.2.2.1 b.2.2.2.2.1 b.2.2.2.2.2.1 b.2.2.2.2.2.2.1 b.2.2.2.2.2.2.2.1 b.2.2.2.2.2.2.2.2).bind fun o=>
 sumC o (fun s=>
 some (.inr (.inl s))) (fun c=>
 let j:=(w64 (c.1+1))
 some (.inl (j,c.2.1,c.2.2.1,c.2.2.2.1,c.2.2.2.2.1,c.2.2.2.2.2)))))))) none) none) (
 some (.inr (.inr ())))
def j6F [LP] (e:Int) (f:Tn59) (c:Tn53) (b:Tn30) (a:Tn70) (d:(List ByteArray)):Option (Int ⊕ Unit):=
 LP.lp (unc6 (j3R)) (e,f,c,b,a,d)
theorem jcx (e f c b a d):j6F e f c b a d=lpK (j3R e f c b a d) (fun h=>j6F h.1 h.2.1 h.2.2.1 h.2.2.2.1 h.2.2.2.2.1 h.2.2.2.2.2):=j04 _ _
def jf9 [LP] (a:Tn76):Option (Int):=
 (j6F 0 a.1 a.2.1 a.2.2.1 a.2.2.2 ([]:(List ByteArray))).bind fun b=>
 sumC b (fun c=>
 some c) (fun d=>
 some 0)
def j63 (s:Int) (v:Tn59) (b:Tn53) (l:Tn30) (k:Tn70) (u:ByteArray) (f g c m i:Int) (a:(List Int)) (j:Tn2) (d e:Int):Option ((Int×Tn59×Tn53×Tn30×Tn70×ByteArray×Int×Int×Int×Int×Int×(List Int)×Tn2×Int×Int) ⊕ (Int ⊕ (Tn59×Tn53×Tn30×Tn70×ByteArray×Int×Int×Int×Int×Int×(List Int)×Tn2×Int×Int))):=
 let q:=(Int.ofNat (List.length a))
 cond (decide (s<q)) (
 cond (inR s (List.length a)) (
 let r:=(List.getD a (Int.toNat s) 0)
 let p:=(Int.ofNat (List.length b))
 let n:=(w64 (p-1))
 (j8s r 0 n).bind fun t=>
 cond (!t) (
 some (.inr (.inl 3))) (
 let o:=(w64 (s+1))
 some (.inl (o,v,b,l,k,u,f,g,c,m,i,a,j,d,e)))) none) (
 some (.inr (.inr (v,b,l,k,u,f,g,c,m,i,a,j,d,e))))
def jb3 [LP] (p:Int) (o:Tn59) (g:Tn53) (j:Tn30) (m:Tn70) (n:ByteArray) (l a b i k:Int) (c:(List Int)) (d:Tn2) (e f:Int):Option (Int ⊕ (Tn59×Tn53×Tn30×Tn70×ByteArray×Int×Int×Int×Int×Int×(List Int)×Tn2×Int×Int)):=
 LP.lp (jz5 (j63)) (p,o,g,j,m,n,l,a,b,i,k,c,d,e,f)
theorem jgF (p o g j m n l a b i k c d e f):jb3 p o g j m n l a b i k c d e f=lpK (j63 p o g j m n l a b i k c d e f) (fun h=>jb3 h.1 h.2.1 h.2.2.1 h.2.2.2.1 h.2.2.2.2.1 h.2.2.2.2.2.1 h.2.2.2.2.2.2.1 h.2.2.2.2.2.2.2.1 h.2.2.2.2.2.2.2.2.1 h.2.2.2.2.2.2.2.2.2.1 h.2.2.2.2.2.2.2.2.2.2.1 h.2.2.2.2.2.2.2.2.2.2.2.1 h.2.2.2.2.2.2.2.2.2.2.2.2.1 h.2.2.2.2.2.2.2.2.2.2.2.2.2.1 h.2.2.2.2.2.2.2.2.2.2.2.2.2.2):=j04 _ _
def jgG [LP] (b:Tn76) (a:Tn64):Option (Int):=
 let g:=(Int.ofNat (List.length b.1))
 let j:=(w64 (g-1))
 (j8s a.2.1 0 j).bind fun f=>
 cond (!f) (
 some 3) (
 (jcb).bind fun q=>
 (j8s a.2.2.1.1 1 q).bind fun m=>
 cond (!m) (
 some 1) (
 (j8s a.2.2.1.2 0 86399).bind fun l=>
 cond (!l) (
 some 1) (
 (j8s a.2.2.2.1 0 2).bind fun i=>
 cond (!i) (
 some 1) (
 (j8s a.2.2.2.2.1 1 400).bind fun k=>
 cond (!k) (
 some 1) (
 let r:=(Int.ofNat (List.length a.2.2.2.2.2.1))
 cond (r==0) (
 some 7) (
 let p:=(Int.ofNat (List.length a.2.2.2.2.2.1))
 cond (decide (p>12)) (
 some 5) (
 (jb3 0 b.1 b.2.1 b.2.2.1 b.2.2.2 a.1 a.2.1 a.2.2.1.1 a.2.2.1.2 a.2.2.2.1 a.2.2.2.2.1 a.2.2.2.2.2.1 a.2.2.2.2.2.2.1 a.2.2.2.2.2.2.2.1 a.2.2.2.2.2.2.2.2).bind fun v=>
 sumC v (fun w=>
 some w) (fun d=>
 (jex d.2.2.2.2.2.2.2.2.2.2.2.1).bind fun t=>
 cond (t != 0) (
 some 8) (
 (j8s d.2.2.2.2.2.2.2.2.2.2.2.2.2 0 2).bind fun u=>
 cond (!u) (
 some 1) (
 let n:=(Int.ofNat (List.length d.2.2.1))
 let o:=(w64 (n-1))
 cond (d.2.2.2.2.2.2.2.2.2.2.2.2.2 != 0) (
 (j8s d.2.2.2.2.2.2.2.2.2.2.2.2.1 0 o).bind fun s=>
 cond (!s) (
 some 3) (
 let e:Bool:=(cond (d.2.2.2.2.2.2.2.2.2.2.2.2.2==0) (d.2.2.2.2.2.2.2.2.2.2.2.2.1 != 0) false)
 cond e (
 some 1) (
 some 0))) (
 let c:Bool:=(cond (d.2.2.2.2.2.2.2.2.2.2.2.2.2==0) (d.2.2.2.2.2.2.2.2.2.2.2.2.1 != 0) false)
 cond c (
 some 1) (
 some 0))))))))))))
def jjB (d:Tn76) (a:Tn28):Option (Int):=
 let i:=(Int.ofNat (List.length d.2.1))
 (j8s a.1 0 2).bind fun f=>
 cond (!f) (
 some 1) (
 let e:=(w64 (i-1))
 (j8s a.2.1 0 e).bind fun j=>
 let k:=(w64 (i-1))
 cond (cond (!j) (cond (a.1 != 1) true (a.2.1 != (-1))) false) (
 cond ((!(a.1==2)) || !(!true)) (
 some 3) none) (
 cond (a.1==2) (
 (j8s a.2.2.1 0 k).bind fun g=>
 cond (!g) (
 some 3) (
 cond (cond (a.1 != 2) (a.2.2.1 != 0) false) (
 some 1) (
 cond (cond (a.1==2) (a.2.1==a.2.2.1) false) (
 some 4) (
 cond (decide (a.2.2.2.1<0)) (
 some 1) (
 cond (decide (a.2.2.2.2<0)) (
 some 1) (
 let l:=(w64 (Int.tdiv a.2.2.2.2 86400))
 (jcb).bind fun m=>
 cond (decide (l>m)) (
 some 1) (
 cond (decide (a.2.2.2.1≥a.2.2.2.2)) (
 some 6) (
 some 0)))))))) (
 cond (cond (a.1 != 2) (a.2.2.1 != 0) false) (
 some 1) (
 cond (cond (a.1==2) (a.2.1==a.2.2.1) false) (
 some 4) (
 cond (decide (a.2.2.2.1<0)) (
 some 1) (
 cond (decide (a.2.2.2.2<0)) (
 some 1) (
 let b:=(w64 (Int.tdiv a.2.2.2.2 86400))
 (jcb).bind fun c=>
 cond (decide (b>c)) (
 some 1) (
 cond (decide (a.2.2.2.1≥a.2.2.2.2)) (
 some 6) (
 some 0)))))))))
def j3S [LP] (r c:Int) (o:Tn59) (f:Tn53) (e:Tn30) (d:Tn70) (s:ByteArray) (b:Tn65) (l:Tn34) (q p:(List ByteArray)):Option ((Int×Int×Tn59×Tn53×Tn30×Tn70×ByteArray×Tn65×Tn34×(List ByteArray)×(List ByteArray)) ⊕ (Int ⊕ (Int×Tn59×Tn53×Tn30×Tn70×ByteArray×Tn65×Tn34×(List ByteArray)))):=
 let n:=(Int.ofNat (List.length b))
 cond (decide (c<n)) (
 cond (inR c (List.length b)) (
 let k:=(List.getD b (Int.toNat c) (ByteArray.empty,(0,((0,0),(0,(0,(([]:(List Int)),(([]:Tn2),(0,0)))))))))
 cond (decide (List.length p+List.length [k.1]≤j07)) (
 let g:(List ByteArray):=(p++[k.1])
 (jbS g c).bind fun j=>
 cond (j != 0) (
 some (.inr (.inl j))) (
 cond (inR c (List.length b)) (
 let a:=(List.getD b (Int.toNat c) (ByteArray.empty,(0,((0,0),(0,(0,(([]:(List Int)),(([]:Tn2),(0,0)))))))))
 (jgG (o,(f,(e,d))) (a.1,(a.2.1,((a.2.2.1.1,a.2.2.1.2),(a.2.2.2.1,(a.2.2.2.2.1,(a.2.2.2.2.2.1,(a.2.2.2.2.2.2.1,(a.2.2.2.2.2.2.2.1,a.2.2.2.2.2.2.2.2))))))))).bind fun i=>
 cond (i != 0) (
 some (.inr (.inl i))) (
 let m:=(w64 (c+1))
 some (.inl (r,m,o,f,e,d,s,b,l,q,g)))) none)) none) none) (
 some (.inr (.inr (r,o,f,e,d,s,b,l,q))))
def j6G [LP] (j f:Int) (l:Tn59) (e:Tn53) (d:Tn30) (c:Tn70) (k:ByteArray) (a:Tn65) (b:Tn34) (i g:(List ByteArray)):Option (Int ⊕ (Int×Tn59×Tn53×Tn30×Tn70×ByteArray×Tn65×Tn34×(List ByteArray))):=
 LP.lp (jrr (j3S)) (j,f,l,e,d,c,k,a,b,i,g)
theorem jcy (j f l e d c k a b i g):j6G j f l e d c k a b i g=lpK (j3S j f l e d c k a b i g) (fun h=>j6G h.1 h.2.1 h.2.2.1 h.2.2.2.1 h.2.2.2.2.1 h.2.2.2.2.2.1 h.2.2.2.2.2.2.1 h.2.2.2.2.2.2.2.1 h.2.2.2.2.2.2.2.2.1 h.2.2.2.2.2.2.2.2.2.1 h.2.2.2.2.2.2.2.2.2.2):=j04 _ _
def j3T (n f:Int) (l:Tn59) (e:Tn53) (d:Tn30) (c:Tn70) (o:ByteArray) (k:Tn65) (b:Tn34) (m:(List ByteArray)):Option ((Int×Int×Tn59×Tn53×Tn30×Tn70×ByteArray×Tn65×Tn34×(List ByteArray)) ⊕ (Int ⊕ (Int×Tn59×Tn53×Tn30×Tn70×(List ByteArray)))):=
 let j:=(Int.ofNat (List.length b))
 cond (decide (f<j)) (
 cond (inR f (List.length b)) (
 let a:=(List.getD b (Int.toNat f) (0,(0,(0,(0,0)))))
 (jjB (l,(e,(d,c))) (a.1,(a.2.1,(a.2.2.1,(a.2.2.2.1,a.2.2.2.2))))).bind fun g=>
 cond (g != 0) (
 some (.inr (.inl g))) (
 let i:=(w64 (f+1))
 some (.inl (n,i,l,e,d,c,o,k,b,m)))) none) (
 some (.inr (.inr (n,l,e,d,c,m))))
def j6H [LP] (i f:Int) (k:Tn59) (e:Tn53) (d:Tn30) (c:Tn70) (j:ByteArray) (a:Tn65) (b:Tn34) (g:(List ByteArray)):Option (Int ⊕ (Int×Tn59×Tn53×Tn30×Tn70×(List ByteArray))):=
 LP.lp (jlv (j3T)) (i,f,k,e,d,c,j,a,b,g)
theorem jcz (i f k e d c j a b g):j6H i f k e d c j a b g=lpK (j3T i f k e d c j a b g) (fun h=>j6H h.1 h.2.1 h.2.2.1 h.2.2.2.1 h.2.2.2.2.1 h.2.2.2.2.2.1 h.2.2.2.2.2.2.1 h.2.2.2.2.2.2.2.1 h.2.2.2.2.2.2.2.2.1 h.2.2.2.2.2.2.2.2.2):=j04 _ _
def j3U [LP] (g:Int) (t:Tn59) (p:Tn53) (o:Tn30) (d:Tn70) (r:(List ByteArray)):Option ((Int×Tn59×Tn53×Tn30×Tn70×(List ByteArray)) ⊕ (Int ⊕ Unit)):=
 let i:=(Int.ofNat (List.length d))
 cond (decide (g<i)) (
 cond (inR g (List.length d)) (
 let a:=(List.getD d (Int.toNat g) (ByteArray.empty,(([]:Tn65),([]:Tn34))))
 cond (decide (List.length r+List.length [a.1]≤j07)) (
 let f:(List ByteArray):=(r++[a.1])
 (jbS f g).bind fun e=>
 cond (e != 0) (
 some (.inr (.inl e))) (
 let k:=(Int.ofNat (List.length a.2.1))
 let j:=(Int.ofNat (List.length a.2.2))
 cond (cond (decide (k>6)) true (decide (j>48))) (
 some (.inr (.inl 5))) (
 (j6G g 0 t p o d a.1 a.2.1 a.2.2 f ([]:(List ByteArray))).bind fun n=>
 sumC n (fun s=>
 some (.inr (.inl s))) (fun b=>
 (j6H b.1 0 b.2.1 b.2.2.1 b.2.2.2.1 b.2.2.2.2.1 b.2.2.2.2.2.1 b.2.2.2.2.2.2.1 b.2.2.2.2.2.2.2.1 b.2.2.2.2.2.2.2.2).bind fun m=>
 sumC m (fun q=>
 some (.inr (.inl q))) (fun c=>
 let l:=(w64 (c.1+1))
 some (.inl (l,c.2.1,c.2.2.1,c.2.2.2.1,c.2.2.2.2.1,c.2.2.2.2.2))))))) none) none) (
 some (.inr (.inr ())))
def j6I [LP] (e:Int) (f:Tn59) (c:Tn53) (b:Tn30) (a:Tn70) (d:(List ByteArray)):Option (Int ⊕ Unit):=
 LP.lp (unc6 (j3U)) (e,f,c,b,a,d)
theorem jcA (e f c b a d):j6I e f c b a d=lpK (j3U e f c b a d) (fun h=>j6I h.1 h.2.1 h.2.2.1 h.2.2.2.1 h.2.2.2.2.1 h.2.2.2.2.2):=j04 _ _
def jfa [LP] (a:Tn76):Option (Int):=
 (j6I 0 a.1 a.2.1 a.2.2.1 a.2.2.2 ([]:(List ByteArray))).bind fun b=>
 sumC b (fun c=>
 some c) (fun d=>
 some 0)
def j8t [LP] (a:Tn76):Option (Int):=
 let k:=(Int.ofNat (List.length a.1))
 let g:=(Int.ofNat (List.length a.2.1))
 let j:=(Int.ofNat (List.length a.2.2.1))
 let f:Bool:=(cond (cond (decide (k>16)) true (decide (g>32))) true (decide (j>8)))
 let i:=(Int.ofNat (List.length a.2.2.2))
 cond (cond f true (decide (i>12))) (
 some 5) (
 (jmZ (a.1,(a.2.1,(a.2.2.1,a.2.2.2)))).bind fun b=>
 cond (b != 0) (
 some b) (
 (jkE (a.1,(a.2.1,(a.2.2.1,a.2.2.2)))).bind fun d=>
 cond (d != 0) (
 some d) (
 (jf9 (a.1,(a.2.1,(a.2.2.1,a.2.2.2)))).bind fun c=>
 cond (c != 0) (
 some c) (
 (jfa (a.1,(a.2.1,(a.2.2.1,a.2.2.2)))).bind fun e=>
 some e))))
def jpI (b:Tn76) (a:Int) (d:Tn34):Option (Tn76):=
 cond (decide (List.length ([]:Tn70)+List.length b.2.2.2≤j07)) (
 let c:Tn70:=(([]:Tn70)++b.2.2.2)
 cond (inR a (List.length c)) (
 let e:Tn70:=(List.set c (Int.toNat a) ((List.getD c (Int.toNat a) (ByteArray.empty,(([]:Tn65),([]:Tn34)))).1,((List.getD c (Int.toNat a) (ByteArray.empty,(([]:Tn65),([]:Tn34)))).2.1,d)))
 some (b.1,(b.2.1,(b.2.2.1,e)))) none) none
def jgH [LP] (b:Tn76) (a:Int) (d:Tn28):Option (Tn76×Int):=
 (j8t (b.1,(b.2.1,(b.2.2.1,b.2.2.2)))).bind fun j=>
 cond (j != 0) (
 some ((([]:Tn59),(([]:Tn53),(([]:Tn30),([]:Tn70)))),8)) (
 let k:=(Int.ofNat (List.length b.2.2.2))
 cond (cond (decide (a<0)) true (decide (a≥k))) (
 some ((([]:Tn59),(([]:Tn53),(([]:Tn30),([]:Tn70)))),3)) (
 cond (inR a (List.length b.2.2.2)) (
 let i:=(List.getD b.2.2.2 (Int.toNat a) (ByteArray.empty,(([]:Tn65),([]:Tn34))))
 cond (decide (List.length ([]:Tn34)+List.length i.2.2≤j07)) (
 let e:Tn34:=(([]:Tn34)++i.2.2)
 let g:Tn34:=[(d.1,(d.2.1,(d.2.2.1,(d.2.2.2.1,d.2.2.2.2))))]
 cond (decide (List.length e+List.length g≤j07)) (
 let l:Tn34:=(e++g)
 (jpI (b.1,(b.2.1,(b.2.2.1,b.2.2.2))) a l).bind fun c=>
 (j8t (c.1,(c.2.1,(c.2.2.1,c.2.2.2)))).bind fun f=>
 cond (f != 0) (
 some ((([]:Tn59),(([]:Tn53),(([]:Tn30),([]:Tn70)))),f)) (
 some ((c.1,(c.2.1,(c.2.2.1,c.2.2.2))),0))) none) none) none))
def j32 [LP] (l k:Int) (m:(List Int)) (f:Int) (g:Tn59) (c:Tn53) (d:Tn30) (e:Tn70):Option ((Int×Int×(List Int)×Int×Tn59×Tn53×Tn30×Tn70) ⊕ (((List Int)×Int×Tn59×Tn53×Tn30×Tn70))):=
 cond (decide (k>0)) (
 (j6S m f (g,(c,(d,e)))).bind fun a=>
 (jgH (g,(c,(d,e))) l (a.1.1,(a.1.2.1,(a.1.2.2.1,(a.1.2.2.2.1,a.1.2.2.2.2))))).bind fun b=>
 cond (b.2==0) (
 let j:=(w64 (k-1))
 some (.inl (l,j,a.2.1,a.2.2,b.1.1,b.1.2.1,b.1.2.2.1,b.1.2.2.2))) (
 let i:=(w64 (k-1))
 some (.inl (l,i,a.2.1,a.2.2,g,c,d,e)))) (
 some (.inr (m,f,g,c,d,e)))
def j4N [LP] (i g:Int) (f:(List Int)) (d:Int) (e:Tn59) (a:Tn53) (b:Tn30) (c:Tn70):Option (((List Int)×Int×Tn59×Tn53×Tn30×Tn70)):=
 LP.lp (unc8 (j32)) (i,g,f,d,e,a,b,c)
theorem ja1 (i g f d e a b c):j4N i g f d e a b c=lpK (j32 i g f d e a b c) (fun h=>j4N h.1 h.2.1 h.2.2.1 h.2.2.2.1 h.2.2.2.2.1 h.2.2.2.2.2.1 h.2.2.2.2.2.2.1 h.2.2.2.2.2.2.2):=j04 _ _
def jbl [LP] (f:(List Int)) (d:Int) (b:Tn76) (a e:Int):Option (Tn76×(List Int)×Int):=
 (j4N a e f d b.1 b.2.1 b.2.2.1 b.2.2.2).bind fun c=>
 some ((c.2.2.1,(c.2.2.2.1,(c.2.2.2.2.1,c.2.2.2.2.2))),c.1,c.2.1)
def jhz (b a:Int):Option (Int):=
 cond (!(a==0)) (
 let d:=(Int.tmod b a)
 let e:=(w64 (d+a))
 cond (!(a==0)) (
 let c:=(Int.tmod e a)
 some c) none) none
def jjC [LP] (b:Tn76) (a:Tn64):Option (Bool):=
 let f:Tn65:=[(a.1,(a.2.1,((a.2.2.1.1,a.2.2.1.2),(a.2.2.2.1,(a.2.2.2.2.1,(a.2.2.2.2.2.1,(a.2.2.2.2.2.2.1,(a.2.2.2.2.2.2.2.1,a.2.2.2.2.2.2.2.2))))))))]
 let c:Tn70:=[((ByteArray.mk #[97]),(f,([]:Tn34)))]
 (j8t (b.1,(b.2.1,(b.2.2.1,b.2.2.2)))).bind fun d=>
 cond (d==0) (
 (j8t (b.1,(b.2.1,(b.2.2.1,c)))).bind fun e=>
 some (e==0)) (
 some false)
def jgI [LP] (b:Tn57) (a:Tn64):Option (Int):=
 (j7t (b.1,(b.2.1,b.2.2))).bind fun i=>
 let g:Bool:=(cond (cond (i != 0) true (decide (a.2.2.1.1<1))) true (decide (a.2.2.1.1>100000)))
 let f:Bool:=(cond (cond g true (decide (a.2.2.1.2<0))) true (decide (a.2.2.1.2≥86400)))
 let c:Bool:=(cond (cond f true (decide (a.2.2.2.1<0))) true (decide (a.2.2.2.1>2)))
 let d:Bool:=(cond (cond c true (decide (a.2.2.2.2.1<1))) true (decide (a.2.2.2.2.1>400)))
 let e:=(Int.ofNat (List.length a.2.2.2.2.2.1))
 cond (cond d true (e==0)) (
 some 8) (
 some 0)
def jgJ (a:Int):Option (Bool):=
 (ja0 a (-2) 99422).bind fun b=>
 some b
def j4F (c:Int) (b1:ByteArray) (d:Int) (f:Tn47) (g a:Int) (b:Tn2):Option ((Int×ByteArray×Int×Tn47×Int×Int×Tn2) ⊕ ((Int×Int) ⊕ Unit)):=
 let a6:=(Int.ofNat (List.length b))
 cond (decide (c<a6)) (
 cond (decide (c≥0)) (
 cond (inR c (List.length b)) (
 let r:=(List.getD b (Int.toNat c) (0,0)).2
 cond (inR c (List.length b)) (
 let e:=(List.getD b (Int.toNat c) (0,0)).1
 let x:=(w64 (c+1))
 let a7:=(Int.ofNat (List.length b))
 cond (decide (x<a7)) (
 let n:=(w64 (c+1))
 cond (inR n (List.length b)) (
 let a2:=(List.getD b (Int.toNat n) (0,0)).1
 let a9:=(w64 (g*86400))
 let a8:=(w64 (a9+a))
 let j:=(w64 (a8-r))
 let q:Int:=(if j>e then j else e:Int)
 cond (decide (q<a2)) (
 some (.inr (.inl (q,0)))) (
 let v:=(w64 (c+1))
 some (.inl (v,b1,d,f,g,a,b)))) none) (
 let b0:=(w64 (g*86400))
 let a1:=(w64 (b0+a))
 let p:=(w64 (a1-r))
 let l:Int:=(if p>e then p else e:Int)
 cond (decide (l<8589934593)) (
 some (.inr (.inl (l,0)))) (
 let a4:=(w64 (c+1))
 some (.inl (a4,b1,d,f,g,a,b))))) none) none) (
 let a0:=(w64 (c+1))
 let y:=(Int.ofNat (List.length b))
 cond (decide (a0<y)) (
 let k:=(w64 (c+1))
 cond (inR k (List.length b)) (
 let z:=(List.getD b (Int.toNat k) (0,0)).1
 let t:=(w64 (g*86400))
 let a3:=(w64 (t+a))
 let o:=(w64 (a3-d))
 let m:Int:=(if o>0 then o else 0:Int)
 cond (decide (m<z)) (
 some (.inr (.inl (m,0)))) (
 let b2:=(w64 (c+1))
 some (.inl (b2,b1,d,f,g,a,b)))) none) (
 let u:=(w64 (g*86400))
 let w:=(w64 (u+a))
 let i:=(w64 (w-d))
 let s:Int:=(if i>0 then i else 0:Int)
 cond (decide (s<8589934593)) (
 some (.inr (.inl (s,0)))) (
 let a5:=(w64 (c+1))
 some (.inl (a5,b1,d,f,g,a,b)))))) (
 some (.inr (.inr ())))
def j5o [LP] (f:Int) (g:ByteArray) (a:Int) (b:Tn47) (d c:Int) (e:Tn2):Option ((Int×Int) ⊕ Unit):=
 LP.lp (unc7 (j4F)) (f,g,a,b,d,c,e)
theorem jcB (f g a b d c e):j5o f g a b d c e=lpK (j4F f g a b d c e) (fun h=>j5o h.1 h.2.1 h.2.2.1 h.2.2.2.1 h.2.2.2.2.1 h.2.2.2.2.2.1 h.2.2.2.2.2.2):=j04 _ _
def j5p [LP] (a:Tn57) (b:(Int×Int)):Option (Int×Int):=
 (j1H (a.1,(a.2.1,a.2.2))).bind fun c=>
 cond (c.2 != 0) (
 some (0,8)) (
 (ja0 b.2 0 86399).bind fun e=>
 cond (!e) (
 some (0,1)) (
 cond (decide (b.1<(-2))) (
 some (0,0)) (
 (jgJ b.1).bind fun d=>
 cond (!d) (
 some (0,10)) (
 (j5o (-1) a.1 a.2.1 a.2.2 b.1 b.2 c.1).bind fun f=>
 sumC f (fun g=>
 some (g.1,g.2)) (fun i=>
 some (0,10))))))
def j5q (c:Tn2) (g i a:Int):Option ((Tn2×Int×Int×Int) ⊕ (Int)):=
 let b:=(Int.ofNat (List.length c))
 cond ((inR a (List.length c)) || !(decide (a<b))) (
 let e:=(List.getD c (Int.toNat a) (0,0))
 cond (cond (decide (a<b)) (decide (e.1≤g)) false) (
 cond (inR a (List.length c)) (
 let f:=(List.getD c (Int.toNat a) (0,0))
 let d:=(w64 (a+1))
 some (.inl (c,g,f.2,d))) none) (
 some (.inr i))) none
def j9k [LP] (a:Tn2) (b d c:Int):Option (Int):=
 LP.lp (unc4 (j5q)) (a,b,d,c)
theorem jfY (a d c b):j9k a d c b=lpK (j5q a d c b) (fun h=>j9k h.1 h.2.1 h.2.2.1 h.2.2.2):=j04 _ _
def jhA [LP] (a:Tn57) (b:Tn2) (c:Int):Option (Int):=
 (j9k b c a.2.1 0).bind fun d=>
 some d
def jb4 [LP] (a:Tn57) (b:Int):Option (Int×Int):=
 (j1H (a.1,(a.2.1,a.2.2))).bind fun c=>
 cond (c.2 != 0) (
 some (0,8)) (
 (ja0 b 0 8589934592).bind fun d=>
 cond (!d) (
 some (0,1)) (
 (jhA (a.1,(a.2.1,a.2.2)) c.1 b).bind fun e=>
 some (e,0)))
def jjD (b a:Int):Option ((Int×Int)):=
 let g:=(w64 (b+a))
 let f:=(w64 (g+864000))
 let c:=(w64 (Int.tdiv f 86400))
 let d:=(w64 (c-10))
 let e:=(Int.tmod f 86400)
 some (d,e)
def j4d [LP] (a:Tn57) (b:Int):Option ((Int×Int)×Int):=
 (jb4 (a.1,(a.2.1,a.2.2)) b).bind fun c=>
 cond (c.2 != 0) (
 some ((0,0),c.2)) (
 (jjD b c.1).bind fun d=>
 some ((d.1,d.2),0))
def jb5 [LP] (b:Tn57) (a:Tn64) (d:Int):Option (Int×Bool):=
 cond (a.2.2.2.1==0) (
 (j5p (b.1,(b.2.1,b.2.2)) (a.2.2.1.1,a.2.2.1.2)).bind fun e=>
 let l:=(w64 (d*a.2.2.2.2.1))
 let i:=(w64 (l*3600))
 let m:=(w64 (e.1+i))
 let n:=(w64 (e.1+i))
 some (m,(cond (e.2==0) (decide (n≤8589934592)) false))) (
 let g:=(w64 (d*a.2.2.2.2.1))
 cond (a.2.2.2.1==2) (
 let o:=(w64 (g*7))
 let k:=(w64 (a.2.2.1.1+o))
 (j5p (b.1,(b.2.1,b.2.2)) (k,a.2.2.1.2)).bind fun j=>
 some (j.1,(j.2==0))) (
 let f:=(w64 (a.2.2.1.1+g))
 (j5p (b.1,(b.2.1,b.2.2)) (f,a.2.2.1.2)).bind fun c=>
 some (c.1,(c.2==0))))
def j64 [LP] (r l:Int) (q:ByteArray) (n:Int) (b:Tn47) (p:ByteArray) (j k c e d:Int) (i:(List Int)) (f:Tn2) (m g:Int):Option ((Int×Int×ByteArray×Int×Tn47×ByteArray×Int×Int×Int×Int×Int×(List Int)×Tn2×Int×Int) ⊕ (Int)):=
 cond (decide (l≥0)) (
 (jb5 (q,(n,b)) (p,(j,((k,c),(e,(d,(i,(f,(m,g)))))))) l).bind fun a=>
 cond (cond a.2 (decide (a.1≤r)) false) (
 some (.inr l)) (
 let o:=(w64 (l-1))
 some (.inl (r,o,q,n,b,p,j,k,c,e,d,i,f,m,g)))) (
 some (.inr l))
def j7u [LP] (p o:Int) (n:ByteArray) (l:Int) (a:Tn47) (m:ByteArray) (i j b d c:Int) (g:(List Int)) (e:Tn2) (k f:Int):Option (Int):=
 LP.lp (jz5 (j64)) (p,o,n,l,a,m,i,j,b,d,c,g,e,k,f)
theorem jgK (p o n l a m i j b d c g e k f):j7u p o n l a m i j b d c g e k f=lpK (j64 p o n l a m i j b d c g e k f) (fun h=>j7u h.1 h.2.1 h.2.2.1 h.2.2.2.1 h.2.2.2.2.1 h.2.2.2.2.2.1 h.2.2.2.2.2.2.1 h.2.2.2.2.2.2.2.1 h.2.2.2.2.2.2.2.2.1 h.2.2.2.2.2.2.2.2.2.1 h.2.2.2.2.2.2.2.2.2.2.1 h.2.2.2.2.2.2.2.2.2.2.2.1 h.2.2.2.2.2.2.2.2.2.2.2.2.1 h.2.2.2.2.2.2.2.2.2.2.2.2.2.1 h.2.2.2.2.2.2.2.2.2.2.2.2.2.2):=j04 _ _
def jgL [LP] (b:Tn57) (a:Tn64) (c:Int):Option (Int):=
 cond (a.2.2.2.1==0) (
 (j5p (b.1,(b.2.1,b.2.2)) (a.2.2.1.1,a.2.2.1.2)).bind fun e=>
 cond (cond (e.2==0) (decide (e.1≤c)) false) (
 let s:=(w64 (c-e.1))
 let k:=(w64 (3600*a.2.2.2.2.1))
 cond (!(k==0)) (
 let r:=(w64 (Int.tdiv s k))
 some r) none) (
 some (-1))) (
 (j4d (b.1,(b.2.1,b.2.2)) c).bind fun l=>
 cond (a.2.2.2.1==2) (
 let m:=(w64 (a.2.2.2.2.1*7))
 let o:=(w64 (l.1.1+2))
 let j:=(w64 (o-a.2.2.1.1))
 let q:Int:=(if 0>j then 0 else j:Int)
 cond (!(m==0)) (
 let p:=(w64 (Int.tdiv q m))
 (j7u c p b.1 b.2.1 b.2.2 a.1 a.2.1 a.2.2.1.1 a.2.2.1.2 a.2.2.2.1 a.2.2.2.2.1 a.2.2.2.2.2.1 a.2.2.2.2.2.2.1 a.2.2.2.2.2.2.2.1 a.2.2.2.2.2.2.2.2).bind fun t=>
 some t) none) (
 let f:=(w64 (l.1.1+2))
 let d:=(w64 (f-a.2.2.1.1))
 let g:Int:=(if 0>d then 0 else d:Int)
 cond (!(a.2.2.2.2.1==0)) (
 let i:=(w64 (Int.tdiv g a.2.2.2.2.1))
 (j7u c i b.1 b.2.1 b.2.2 a.1 a.2.1 a.2.2.1.1 a.2.2.1.2 a.2.2.2.1 a.2.2.2.2.1 a.2.2.2.2.2.1 a.2.2.2.2.2.2.1 a.2.2.2.2.2.2.2.1 a.2.2.2.2.2.2.2.2).bind fun n=>
 some n) none))
def jgM [LP] (b:Tn57) (a:Tn64) (c:Int):Option (Int×Int):=
 (jgI (b.1,(b.2.1,b.2.2)) (a.1,(a.2.1,((a.2.2.1.1,a.2.2.1.2),(a.2.2.2.1,(a.2.2.2.2.1,(a.2.2.2.2.2.1,(a.2.2.2.2.2.2.1,(a.2.2.2.2.2.2.2.1,a.2.2.2.2.2.2.2.2))))))))).bind fun d=>
 cond (d != 0) (
 some (0,8)) (
 cond (cond (decide (c<0)) true (decide (c>8589934592))) (
 some (0,1)) (
 (jgL (b.1,(b.2.1,b.2.2)) (a.1,(a.2.1,((a.2.2.1.1,a.2.2.1.2),(a.2.2.2.1,(a.2.2.2.2.1,(a.2.2.2.2.2.1,(a.2.2.2.2.2.2.1,(a.2.2.2.2.2.2.2.1,a.2.2.2.2.2.2.2.2)))))))) c).bind fun e=>
 some (e,0)))
def jhB (a:(Int×Int)):Option (Int):=
 (jf8 a.1).bind fun b=>
 let c:=(w64 (b*86400))
 let d:=(w64 (c+a.2))
 some d
def jcc [LP] (a:Tn57) (c:Int):Option (Int×Int):=
 (j4d (a.1,(a.2.1,a.2.2)) c).bind fun b=>
 cond (b.2 != 0) (
 some (0,b.2)) (
 (jhB (b.1.1,b.1.2)).bind fun d=>
 some (d,0))
def j5r (b:Tn2) (d c:Int):Option ((Tn2×Int×Int) ⊕ (Bool ⊕ Unit)):=
 let g:=(Int.ofNat (List.length b))
 cond (decide (c<g)) (
 cond (inR c (List.length b)) (
 let a:=(List.getD b (Int.toNat c) (0,0))
 cond ((inR c (List.length b)) || !(decide (d≥a.1))) (
 let e:=(List.getD b (Int.toNat c) (0,0))
 cond (cond (decide (d≥a.1)) (decide (d<e.2)) false) (
 some (.inr (.inl true))) (
 let f:=(w64 (c+1))
 some (.inl (b,d,f)))) none) none) (
 some (.inr (.inr ())))
def j9l [LP] (c:Tn2) (a b:Int):Option (Bool ⊕ Unit):=
 LP.lp (unc3 (j5r)) (c,a,b)
theorem jfZ (c a b):j9l c a b=lpK (j5r c a b) (fun h=>j9l h.1 h.2.1 h.2.2):=j04 _ _
def jhC [LP] (a:Tn2) (b:Int):Option (Bool):=
 (j9l a b 0).bind fun c=>
 sumC c (fun d=>
 some d) (fun e=>
 some false)
def jrs [LP] (a:Tn57) (b:Tn2) (d:Int):Option (Bool):=
 (jcc (a.1,(a.2.1,a.2.2)) d).bind fun c=>
 cond (c.2==0) (
 (jex b).bind fun f=>
 cond (f==0) (
 (jhC b c.1).bind fun e=>
 some e) (
 some false)) (
 some false)
def j6J (w:Int) (t:Bool) (b:Int) (v:ByteArray) (j k c d i:Int) (g:(List Int)) (e:Tn2) (l f:Int) (u:ByteArray) (m:Int) (a:(List Int)) (o n:Int):Option ((Int×Bool×Int×ByteArray×Int×Int×Int×Int×Int×(List Int)×Tn2×Int×Int×ByteArray×Int×(List Int)×Int×Int) ⊕ ((Int×Bool×ByteArray×Int×Int×Int×Int×Int×(List Int)×Tn2×Int×Int))):=
 let q:=(Int.ofNat (List.length a))
 cond (decide (b<q)) (
 cond t (
 let p:=(w64 (b+1))
 some (.inl (w,true,p,v,j,k,c,d,i,g,e,l,f,u,m,a,o,n))) (
 cond (inR b (List.length a)) (
 let r:=(List.getD a (Int.toNat b) 0)
 let s:=(w64 (b+1))
 some (.inl (w,(r==o),s,v,j,k,c,d,i,g,e,l,f,u,m,a,o,n))) none)) (
 some (.inr (w,t,v,j,k,c,d,i,g,e,l,f)))
def j8K [LP] (s:Int) (o:Bool) (n:Int) (r:ByteArray) (k l d f e:Int) (j:(List Int)) (g:Tn2) (m i:Int) (p:ByteArray) (b:Int) (a:(List Int)) (q c:Int):Option ((Int×Bool×ByteArray×Int×Int×Int×Int×Int×(List Int)×Tn2×Int×Int)):=
 LP.lp (jz6 (j6J)) (s,o,n,r,k,l,d,f,e,j,g,m,i,p,b,a,q,c)
theorem jhZ (s o q r k l d e j i f m g p b a n c):j8K s o q r k l d e j i f m g p b a n c=lpK (j6J s o q r k l d e j i f m g p b a n c) (fun h=>j8K h.1 h.2.1 h.2.2.1 h.2.2.2.1 h.2.2.2.2.1 h.2.2.2.2.2.1 h.2.2.2.2.2.2.1 h.2.2.2.2.2.2.2.1 h.2.2.2.2.2.2.2.2.1 h.2.2.2.2.2.2.2.2.2.1 h.2.2.2.2.2.2.2.2.2.2.1 h.2.2.2.2.2.2.2.2.2.2.2.1 h.2.2.2.2.2.2.2.2.2.2.2.2.1 h.2.2.2.2.2.2.2.2.2.2.2.2.2.1 h.2.2.2.2.2.2.2.2.2.2.2.2.2.2.1 h.2.2.2.2.2.2.2.2.2.2.2.2.2.2.2.1 h.2.2.2.2.2.2.2.2.2.2.2.2.2.2.2.2.1 h.2.2.2.2.2.2.2.2.2.2.2.2.2.2.2.2.2):=j04 _ _
def jfb [LP] (b:Tn76) (a:Tn64) (f:Int):Option (Int×Bool):=
 cond (inR a.2.1 (List.length b.1)) (
 let e:=(List.getD b.1 (Int.toNat a.2.1) (ByteArray.empty,(0,([]:Tn47))))
 (jgM (e.1,(e.2.1,e.2.2)) (a.1,(a.2.1,((a.2.2.1.1,a.2.2.1.2),(a.2.2.2.1,(a.2.2.2.2.1,(a.2.2.2.2.2.1,(a.2.2.2.2.2.2.1,(a.2.2.2.2.2.2.2.1,a.2.2.2.2.2.2.2.2)))))))) f).bind fun d=>
 let n:=(Int.ofNat (List.length a.2.2.2.2.2.2.1))
 cond (cond (d.2 != 0) true (decide (d.1<0))) (
 cond ((!(decide (n>0))) || !(!true)) (
 some (0,false)) none) (
 cond (decide (n>0)) (
 (jrs (e.1,(e.2.1,e.2.2)) a.2.2.2.2.2.2.1 f).bind fun p=>
 cond (!p) (
 some (0,false)) (
 cond (a.2.2.2.2.2.2.2.2==0) (
 some (d.1,true)) (
 cond (inR a.2.2.2.2.2.2.2.1 (List.length b.2.2.1)) (
 let i:=(List.getD b.2.2.1 (Int.toNat a.2.2.2.2.2.2.2.1) (ByteArray.empty,(0,([]:(List Int)))))
 cond (inR i.2.1 (List.length b.1)) (
 let l:=(List.getD b.1 (Int.toNat i.2.1) (ByteArray.empty,(0,([]:Tn47))))
 (j4d (l.1,(l.2.1,l.2.2)) f).bind fun m=>
 (j8K d.1 false 0 a.1 a.2.1 a.2.2.1.1 a.2.2.1.2 a.2.2.2.1 a.2.2.2.2.1 a.2.2.2.2.2.1 a.2.2.2.2.2.2.1 a.2.2.2.2.2.2.2.1 a.2.2.2.2.2.2.2.2 i.1 i.2.1 i.2.2 m.1.1 m.1.2).bind fun o=>
 some (o.1,(o.2.1==(o.2.2.2.2.2.2.2.2.2.2.2==2)))) none) none))) (
 cond (a.2.2.2.2.2.2.2.2==0) (
 some (d.1,true)) (
 cond (inR a.2.2.2.2.2.2.2.1 (List.length b.2.2.1)) (
 let c:=(List.getD b.2.2.1 (Int.toNat a.2.2.2.2.2.2.2.1) (ByteArray.empty,(0,([]:(List Int)))))
 cond (inR c.2.1 (List.length b.1)) (
 let g:=(List.getD b.1 (Int.toNat c.2.1) (ByteArray.empty,(0,([]:Tn47))))
 (j4d (g.1,(g.2.1,g.2.2)) f).bind fun k=>
 (j8K d.1 false 0 a.1 a.2.1 a.2.2.1.1 a.2.2.1.2 a.2.2.2.1 a.2.2.2.2.1 a.2.2.2.2.2.1 a.2.2.2.2.2.2.1 a.2.2.2.2.2.2.2.1 a.2.2.2.2.2.2.2.2 c.1 c.2.1 c.2.2 k.1.1 k.1.2).bind fun j=>
 some (j.1,(j.2.1==(j.2.2.2.2.2.2.2.2.2.2.2==2)))) none) none)))) none
def jn0 [LP] (b:Tn76) (a:Tn64) (c:Int):Option (Bool):=
 (jfb (b.1,(b.2.1,(b.2.2.1,b.2.2.2))) (a.1,(a.2.1,((a.2.2.1.1,a.2.2.1.2),(a.2.2.2.1,(a.2.2.2.2.1,(a.2.2.2.2.2.1,(a.2.2.2.2.2.2.1,(a.2.2.2.2.2.2.2.1,a.2.2.2.2.2.2.2.2)))))))) c).bind fun d=>
 some d.2
def jrt [LP] (b:Tn76) (a:Tn64) (c:Int):Option (Bool):=
 cond (cond (decide (c≥0)) (decide (c≤8589934592)) false) (
 (jjC (b.1,(b.2.1,(b.2.2.1,b.2.2.2))) (a.1,(a.2.1,((a.2.2.1.1,a.2.2.1.2),(a.2.2.2.1,(a.2.2.2.2.1,(a.2.2.2.2.2.1,(a.2.2.2.2.2.2.1,(a.2.2.2.2.2.2.2.1,a.2.2.2.2.2.2.2.2))))))))).bind fun e=>
 cond e (
 (jn0 (b.1,(b.2.1,(b.2.2.1,b.2.2.2))) (a.1,(a.2.1,((a.2.2.1.1,a.2.2.1.2),(a.2.2.2.1,(a.2.2.2.2.1,(a.2.2.2.2.2.1,(a.2.2.2.2.2.2.1,(a.2.2.2.2.2.2.2.1,a.2.2.2.2.2.2.2.2)))))))) c).bind fun d=>
 some d) (
 some false)) (
 some false)
def jn1 [LP] (b:Tn76) (a:Tn64) (f:Int):Option (Int):=
 (jfb (b.1,(b.2.1,(b.2.2.1,b.2.2.2))) (a.1,(a.2.1,((a.2.2.1.1,a.2.2.1.2),(a.2.2.2.1,(a.2.2.2.2.1,(a.2.2.2.2.2.1,(a.2.2.2.2.2.2.1,(a.2.2.2.2.2.2.2.1,a.2.2.2.2.2.2.2.2)))))))) f).bind fun c=>
 cond (!c.2) (
 some (-1)) (
 let e:=(Int.ofNat (List.length a.2.2.2.2.2.1))
 cond (!(e==0)) (
 let d:=(Int.tmod c.1 e)
 cond (inR d (List.length a.2.2.2.2.2.1)) (
 let g:=(List.getD a.2.2.2.2.2.1 (Int.toNat d) 0)
 some g) none) none)
def jey [LP] (b:Tn76) (a:Tn64) (c:Int):Option (Int):=
 (jrt (b.1,(b.2.1,(b.2.2.1,b.2.2.2))) (a.1,(a.2.1,((a.2.2.1.1,a.2.2.1.2),(a.2.2.2.1,(a.2.2.2.2.1,(a.2.2.2.2.2.1,(a.2.2.2.2.2.2.1,(a.2.2.2.2.2.2.2.1,a.2.2.2.2.2.2.2.2)))))))) c).bind fun e=>
 cond (!e) (
 some (-1)) (
 (jn1 (b.1,(b.2.1,(b.2.2.1,b.2.2.2))) (a.1,(a.2.1,((a.2.2.1.1,a.2.2.1.2),(a.2.2.2.1,(a.2.2.2.2.1,(a.2.2.2.2.2.1,(a.2.2.2.2.2.2.1,(a.2.2.2.2.2.2.2.1,a.2.2.2.2.2.2.2.2)))))))) c).bind fun d=>
 some d)
def j6K (i f e:Int) (k:ByteArray) (g:Tn65) (b:Tn34):Option ((Int×Int×Int×ByteArray×Tn65×Tn34) ⊕ (Bool ⊕ Unit)):=
 let d:=(Int.ofNat (List.length b))
 cond (decide (e<d)) (
 cond (inR e (List.length b)) (
 let a:=(List.getD b (Int.toNat e) (0,(0,(0,(0,0)))))
 let j:Bool:=(cond (cond (a.1==0) (a.2.1==i) false) (decide (a.2.2.2.1≤f)) false)
 cond (cond j (decide (f<a.2.2.2.2)) false) (
 some (.inr (.inl true))) (
 let c:=(w64 (e+1))
 some (.inl (i,f,c,k,g,b)))) none) (
 some (.inr (.inr ())))
def jcC [LP] (c f e:Int) (d:ByteArray) (b:Tn65) (a:Tn34):Option (Bool ⊕ Unit):=
 LP.lp (unc6 (j6K)) (c,f,e,d,b,a)
theorem ji0 (c f e d b a):jcC c f e d b a=lpK (j6K c f e d b a) (fun h=>jcC h.1 h.2.1 h.2.2.1 h.2.2.2.1 h.2.2.2.2.1 h.2.2.2.2.2):=j04 _ _
def jjE [LP] (b:Tn69) (a c:Int):Option (Bool):=
 (jcC a c 0 b.1 b.2.1 b.2.2).bind fun d=>
 sumC d (fun e=>
 some e) (fun f=>
 some false)
def j2z [LP] (a1 m z r t:Int) (n:(List Int)) (o:Int) (g:Tn65) (p d:Int) (v:Tn59) (j:Tn53) (l:Tn30) (i:Tn70) (q:ByteArray) (c:Tn65) (b:Tn34) (s e f:Int) (a0:Tn17):Option ((Int×Int×Int×Int×Int×(List Int)×Int×Tn65×Int×Int×Tn59×Tn53×Tn30×Tn70×ByteArray×Tn65×Tn34×Int×Int×Int×Tn17) ⊕ ((Int×Int×Int×Int×Int×(List Int)×Int×Tn59×Tn53×Tn30×Tn70×ByteArray×Tn65×Tn34×Int×Int×Int×Tn17))):=
 cond (decide (d<p)) (
 cond (inR d (List.length g)) (
 let a:=(List.getD g (Int.toNat d) (ByteArray.empty,(0,((0,0),(0,(0,(([]:(List Int)),(([]:Tn2),(0,0)))))))))
 (jey (v,(j,(l,i))) (a.1,(a.2.1,((a.2.2.1.1,a.2.2.1.2),(a.2.2.2.1,(a.2.2.2.2.1,(a.2.2.2.2.2.1,(a.2.2.2.2.2.2.1,(a.2.2.2.2.2.2.2.1,a.2.2.2.2.2.2.2.2)))))))) m).bind fun k=>
 cond (decide (k≥0)) (
 (jjE (q,(c,b)) k m).bind fun u=>
 cond (!u) (
 let y:=(w64 (d+1))
 some (.inl (a1,m,k,r,t,n,o,g,p,y,v,j,l,i,q,c,b,s,e,f,a0))) (
 let w:=(w64 (d+1))
 some (.inl (a1,m,z,r,t,n,o,g,p,w,v,j,l,i,q,c,b,s,e,f,a0)))) (
 let x:=(w64 (d+1))
 some (.inl (a1,m,z,r,t,n,o,g,p,x,v,j,l,i,q,c,b,s,e,f,a0)))) none) (
 some (.inr (a1,m,z,r,t,n,o,v,j,l,i,q,c,b,s,e,f,a0)))
def j3V [LP] (v p s o r:Int) (i:(List Int)) (k:Int) (f:Tn65) (m e:Int) (t:Tn59) (j:Tn53) (l:Tn30) (g:Tn70) (n:ByteArray) (b:Tn65) (a:Tn34) (q c d:Int) (u:Tn17):Option ((Int×Int×Int×Int×Int×(List Int)×Int×Tn59×Tn53×Tn30×Tn70×ByteArray×Tn65×Tn34×Int×Int×Int×Tn17)):=
 LP.lp (jz7 (j2z)) (v,p,s,o,r,i,k,f,m,e,t,j,l,g,n,b,a,q,c,d,u)
theorem j8Y (v p s o r i k f m e t j l g n b a q c d u):j3V v p s o r i k f m e t j l g n b a q c d u=lpK (j2z v p s o r i k f m e t j l g n b a q c d u) (fun h=>j3V h.1 h.2.1 h.2.2.1 h.2.2.2.1 h.2.2.2.2.1 h.2.2.2.2.2.1 h.2.2.2.2.2.2.1 h.2.2.2.2.2.2.2.1 h.2.2.2.2.2.2.2.2.1 h.2.2.2.2.2.2.2.2.2.1 h.2.2.2.2.2.2.2.2.2.2.1 h.2.2.2.2.2.2.2.2.2.2.2.1 h.2.2.2.2.2.2.2.2.2.2.2.2.1 h.2.2.2.2.2.2.2.2.2.2.2.2.2.1 h.2.2.2.2.2.2.2.2.2.2.2.2.2.2.1 h.2.2.2.2.2.2.2.2.2.2.2.2.2.2.2.1 h.2.2.2.2.2.2.2.2.2.2.2.2.2.2.2.2.1 h.2.2.2.2.2.2.2.2.2.2.2.2.2.2.2.2.2.1 h.2.2.2.2.2.2.2.2.2.2.2.2.2.2.2.2.2.2.1 h.2.2.2.2.2.2.2.2.2.2.2.2.2.2.2.2.2.2.2.1 h.2.2.2.2.2.2.2.2.2.2.2.2.2.2.2.2.2.2.2.2):=j04 _ _
def j2A (w o t q s:Int) (k:(List Int)) (m:Int) (g:Tn34) (i b:Int) (u:Tn59) (l:Tn53) (n:Tn30) (j:Tn70) (p:ByteArray) (d:Tn65) (c:Tn34) (r e f:Int) (v:Tn17):Option ((Int×Int×Int×Int×Int×(List Int)×Int×Tn34×Int×Int×Tn59×Tn53×Tn30×Tn70×ByteArray×Tn65×Tn34×Int×Int×Int×Tn17) ⊕ ((Int×Int×Int×Int×Int×(List Int)×Int×Tn59×Tn53×Tn30×Tn70×ByteArray×Tn65×Tn34×Int×Int×Int×Tn17))):=
 cond (decide (b<i)) (
 cond (inR b (List.length g)) (
 let a:=(List.getD g (Int.toNat b) (0,(0,(0,(0,0)))))
 cond (cond (decide (o<a.2.2.2.1)) true (decide (o≥a.2.2.2.2))) (
 let x:=(w64 (b+1))
 some (.inl (w,o,t,q,s,k,m,g,i,x,u,l,n,j,p,d,c,r,e,f,v))) (
 cond (a.1==1) (
 let a0:=(w64 (b+1))
 some (.inl (w,o,a.2.1,q,s,k,m,g,i,a0,u,l,n,j,p,d,c,r,e,f,v))) (
 cond (cond (a.1==2) (t==a.2.1) false) (
 let z:=(w64 (b+1))
 some (.inl (w,o,a.2.2.1,q,s,k,m,g,i,z,u,l,n,j,p,d,c,r,e,f,v))) (
 cond (cond (a.1==2) (t==a.2.2.1) false) (
 let a1:=(w64 (b+1))
 some (.inl (w,o,a.2.1,q,s,k,m,g,i,a1,u,l,n,j,p,d,c,r,e,f,v))) (
 let y:=(w64 (b+1))
 some (.inl (w,o,t,q,s,k,m,g,i,y,u,l,n,j,p,d,c,r,e,f,v))))))) none) (
 some (.inr (w,o,t,q,s,k,m,u,l,n,j,p,d,c,r,e,f,v)))
def j3W [LP] (v p s o r:Int) (i:(List Int)) (k:Int) (m:Tn34) (e f:Int) (t:Tn59) (j:Tn53) (l:Tn30) (g:Tn70) (n:ByteArray) (b:Tn65) (a:Tn34) (q c d:Int) (u:Tn17):Option ((Int×Int×Int×Int×Int×(List Int)×Int×Tn59×Tn53×Tn30×Tn70×ByteArray×Tn65×Tn34×Int×Int×Int×Tn17)):=
 LP.lp (jz7 (j2A)) (v,p,s,o,r,i,k,m,e,f,t,j,l,g,n,b,a,q,c,d,u)
theorem j8Z (v p s o r i k m e f t j l g n b a q c d u):j3W v p s o r i k m e f t j l g n b a q c d u=lpK (j2A v p s o r i k m e f t j l g n b a q c d u) (fun h=>j3W h.1 h.2.1 h.2.2.1 h.2.2.2.1 h.2.2.2.2.1 h.2.2.2.2.2.1 h.2.2.2.2.2.2.1 h.2.2.2.2.2.2.2.1 h.2.2.2.2.2.2.2.2.1 h.2.2.2.2.2.2.2.2.2.1 h.2.2.2.2.2.2.2.2.2.2.1 h.2.2.2.2.2.2.2.2.2.2.2.1 h.2.2.2.2.2.2.2.2.2.2.2.2.1 h.2.2.2.2.2.2.2.2.2.2.2.2.2.1 h.2.2.2.2.2.2.2.2.2.2.2.2.2.2.1 h.2.2.2.2.2.2.2.2.2.2.2.2.2.2.2.1 h.2.2.2.2.2.2.2.2.2.2.2.2.2.2.2.2.1 h.2.2.2.2.2.2.2.2.2.2.2.2.2.2.2.2.2.1 h.2.2.2.2.2.2.2.2.2.2.2.2.2.2.2.2.2.2.1 h.2.2.2.2.2.2.2.2.2.2.2.2.2.2.2.2.2.2.2.1 h.2.2.2.2.2.2.2.2.2.2.2.2.2.2.2.2.2.2.2.2):=j04 _ _
def j2B [LP] (w s t:Int) (g:(List Int)) (d:Int) (u:Tn59) (k:Tn53) (m:Tn30) (f:Tn70) (r:ByteArray) (c:Tn65) (e:Tn34) (x p q:Int) (v:Tn17):Option ((Int×Int×Int×(List Int)×Int×Tn59×Tn53×Tn30×Tn70×ByteArray×Tn65×Tn34×Int×Int×Int×Tn17) ⊕ (Bool ⊕ (Int×Int×Int×Tn59×Tn53×Tn30×Tn70×ByteArray×Tn65×Tn34×Tn17))):=
 cond (decide (d<3)) (
 cond (inR d 3) (
 let o:=(List.getD g (Int.toNat d) 0)
 let i:=(Int.ofNat (List.length c))
 (j3V w o (-1) s t g d c i 0 u k m f r c e x p q v).bind fun b=>
 let j:=(Int.ofNat (List.length b.2.2.2.2.2.2.2.2.2.2.2.2.2.1))
 (j3W b.1 b.2.1 b.2.2.1 b.2.2.2.1 b.2.2.2.2.1 b.2.2.2.2.2.1 b.2.2.2.2.2.2.1 b.2.2.2.2.2.2.2.2.2.2.2.2.2.1 j 0 b.2.2.2.2.2.2.2.1 b.2.2.2.2.2.2.2.2.1 b.2.2.2.2.2.2.2.2.2.1 b.2.2.2.2.2.2.2.2.2.2.1 b.2.2.2.2.2.2.2.2.2.2.2.1 b.2.2.2.2.2.2.2.2.2.2.2.2.1 b.2.2.2.2.2.2.2.2.2.2.2.2.2.1 b.2.2.2.2.2.2.2.2.2.2.2.2.2.2.1 b.2.2.2.2.2.2.2.2.2.2.2.2.2.2.2.1 b.2.2.2.2.2.2.2.2.2.2.2.2.2.2.2.2.1 b.2.2.2.2.2.2.2.2.2.2.2.2.2.2.2.2.2).bind fun a=>
 cond (a.2.2.1 != a.2.2.2.2.2.2.2.2.2.2.2.2.2.2.2.2.1) (
 some (.inr (.inl false))) (
 (j7L (a.2.2.2.2.2.2.2.1,(a.2.2.2.2.2.2.2.2.1,(a.2.2.2.2.2.2.2.2.2.1,a.2.2.2.2.2.2.2.2.2.2.1))) 0 a.2.1).bind fun n=>
 cond (n != a.2.2.1) (
 some (.inr (.inl false))) (
 let l:=(w64 (a.2.2.2.2.2.2.1+1))
 some (.inl (a.1,a.2.2.2.1,a.2.2.2.2.1,a.2.2.2.2.2.1,l,a.2.2.2.2.2.2.2.1,a.2.2.2.2.2.2.2.2.1,a.2.2.2.2.2.2.2.2.2.1,a.2.2.2.2.2.2.2.2.2.2.1,a.2.2.2.2.2.2.2.2.2.2.2.1,a.2.2.2.2.2.2.2.2.2.2.2.2.1,a.2.2.2.2.2.2.2.2.2.2.2.2.2.1,a.2.2.2.2.2.2.2.2.2.2.2.2.2.2.1,a.2.2.2.2.2.2.2.2.2.2.2.2.2.2.2.1,a.2.2.2.2.2.2.2.2.2.2.2.2.2.2.2.2.1,a.2.2.2.2.2.2.2.2.2.2.2.2.2.2.2.2.2))))) none) (
 some (.inr (.inr (w,s,t,u,k,m,f,r,c,e,v))))
def j33 [LP] (o n m:Int) (f:(List Int)) (g:Int) (p:Tn59) (e:Tn53) (i:Tn30) (j:Tn70) (k:ByteArray) (d:Tn65) (b:Tn34) (l a c:Int) (q:Tn17):Option (Bool ⊕ (Int×Int×Int×Tn59×Tn53×Tn30×Tn70×ByteArray×Tn65×Tn34×Tn17)):=
 LP.lp (jC1 (j2B)) (o,n,m,f,g,p,e,i,j,k,d,b,l,a,c,q)
theorem j90 (o n m f g p e i j k d b l a c q):j33 o n m f g p e i j k d b l a c q=lpK (j2B o n m f g p e i j k d b l a c q) (fun h=>j33 h.1 h.2.1 h.2.2.1 h.2.2.2.1 h.2.2.2.2.1 h.2.2.2.2.2.1 h.2.2.2.2.2.2.1 h.2.2.2.2.2.2.2.1 h.2.2.2.2.2.2.2.2.1 h.2.2.2.2.2.2.2.2.2.1 h.2.2.2.2.2.2.2.2.2.2.1 h.2.2.2.2.2.2.2.2.2.2.2.1 h.2.2.2.2.2.2.2.2.2.2.2.2.1 h.2.2.2.2.2.2.2.2.2.2.2.2.2.1 h.2.2.2.2.2.2.2.2.2.2.2.2.2.2.1 h.2.2.2.2.2.2.2.2.2.2.2.2.2.2.2):=j04 _ _
def j2C [LP] (a4 t e:Int) (a9:Tn59) (v:Tn53) (x:Tn30) (n:Tn70) (a5:ByteArray) (k:Tn65) (j:Tn34) (f:Tn17):Option ((Int×Int×Int×Tn59×Tn53×Tn30×Tn70×ByteArray×Tn65×Tn34×Tn17) ⊕ (Bool ⊕ Unit)):=
 cond (decide (e<t)) (
 cond (inR e (List.length f)) (
 let a:=(List.getD f (Int.toNat e) (0,(0,0))).1
 let b:=(List.getD f (Int.toNat e) (0,(0,0))).2.1
 let g:=(List.getD f (Int.toNat e) (0,(0,0))).2.2
 cond (decide (a≥b)) (
 some (.inr (.inl false))) (
 cond (decide (e>0)) (
 let l:=(w64 (e-1))
 cond (inR l (List.length f)) (
 let a3:=(List.getD f (Int.toNat l) (0,(0,0))).2.1
 cond (a != a3) (
 some (.inr (.inl false))) (
 let i:=(w64 (e-1))
 cond (inR i (List.length f)) (
 let q:=(List.getD f (Int.toNat i) (0,(0,0))).2.2
 cond (g==q) (
 some (.inr (.inl false))) (
 let a0:=(w64 (b-1))
 let p:=(w64 (b-a))
 (jhz a4 p).bind fun a2=>
 let u:=(w64 (a+a2))
 let y:(List Int):=[a,a0,u]
 (j33 a4 t e y 0 a9 v x n a5 k j a b g f).bind fun a7=>
 sumC a7 (fun a8=>
 some (.inr (.inl a8))) (fun d=>
 let z:=(w64 (d.2.2.1+1))
 some (.inl (d.1,d.2.1,z,d.2.2.2.1,d.2.2.2.2.1,d.2.2.2.2.2.1,d.2.2.2.2.2.2.1,d.2.2.2.2.2.2.2.1,d.2.2.2.2.2.2.2.2.1,d.2.2.2.2.2.2.2.2.2.1,d.2.2.2.2.2.2.2.2.2.2))))) none)) none) (
 let m:=(w64 (b-1))
 let r:=(w64 (b-a))
 (jhz a4 r).bind fun s=>
 let w:=(w64 (a+s))
 let o:(List Int):=[a,m,w]
 (j33 a4 t e o 0 a9 v x n a5 k j a b g f).bind fun a6=>
 sumC a6 (fun b0=>
 some (.inr (.inl b0))) (fun c=>
 let a1:=(w64 (c.2.2.1+1))
 some (.inl (c.1,c.2.1,a1,c.2.2.2.1,c.2.2.2.2.1,c.2.2.2.2.2.1,c.2.2.2.2.2.2.1,c.2.2.2.2.2.2.2.1,c.2.2.2.2.2.2.2.2.1,c.2.2.2.2.2.2.2.2.2.1,c.2.2.2.2.2.2.2.2.2.2)))))) none) (
 some (.inr (.inr ())))
def j3X [LP] (j i g:Int) (k:Tn59) (c:Tn53) (d:Tn30) (e:Tn70) (f:ByteArray) (b:Tn65) (a:Tn34) (l:Tn17):Option (Bool ⊕ Unit):=
 LP.lp (jrr (j2C)) (j,i,g,k,c,d,e,f,b,a,l)
theorem j91 (j i g k c d e f b a l):j3X j i g k c d e f b a l=lpK (j2C j i g k c d e f b a l) (fun h=>j3X h.1 h.2.1 h.2.2.1 h.2.2.2.1 h.2.2.2.2.1 h.2.2.2.2.2.1 h.2.2.2.2.2.2.1 h.2.2.2.2.2.2.2.1 h.2.2.2.2.2.2.2.2.1 h.2.2.2.2.2.2.2.2.2.1 h.2.2.2.2.2.2.2.2.2.2):=j04 _ _
def j9m [LP] (f:(List Int)) (m:Int):Option (Bool):=
 (jkA f).bind fun o=>
 cond (!o) (
 (jag).bind fun t=>
 some t) (
 (jmX f).bind fun k=>
 (j8D k.1 k.2 1).bind fun c=>
 (jbl c.2.1 c.2.2 (c.1.1,(c.1.2.1,(c.1.2.2.1,c.1.2.2.2))) 0 2).bind fun a=>
 (j60 a.2.1 a.2.2).bind fun d=>
 let j:=(w64 (d.1+777600))
 (j2o (a.1.1,(a.1.2.1,(a.1.2.2.1,a.1.2.2.2))) 0 d.1 j).bind fun b=>
 let e:=(Int.ofNat (List.length b.1))
 cond ((inR 0 (List.length b.1)) || !(!(cond (b.2 != 0) true (e==0)))) (
 let l:=(List.getD b.1 0 (0,(0,0))).1
 let s:=(Int.ofNat (List.length b.1))
 let i:=(w64 (s-1))
 cond ((inR i (List.length b.1)) || !(!(cond (cond (b.2 != 0) true (e==0)) true (l != d.1)))) (
 let r:=(List.getD b.1 (Int.toNat i) (0,(0,0))).2.1
 let q:Bool:=(cond (cond (cond (b.2 != 0) true (e==0)) true (l != d.1)) true (r != j))
 cond q (
 some false) (
 cond (inR 0 (List.length a.1.2.2.2)) (
 let g:=(List.getD a.1.2.2.2 0 (ByteArray.empty,(([]:Tn65),([]:Tn34))))
 let p:=(Int.ofNat (List.length b.1))
 (j3X m p 0 a.1.1 a.1.2.1 a.1.2.2.1 a.1.2.2.2 g.1 g.2.1 g.2.2 b.1).bind fun u=>
 sumC u (fun v=>
 some v) (fun w=>
 (jag).bind fun n=>
 some n)) none)) none) none)
end
end Go.Proofs.Pw
