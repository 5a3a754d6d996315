/- Plain functions, printed by a program out of the given code. -/
import Derived.Test.YtpbnnhakjhalaaaGreatECLD
open Go Go.Lft
set_option linter.unusedVariables false
namespace Go.Proofs.Pw
noncomputable section
abbrev Tn2:Type:=(List (Int×Int))
abbrev Tn4:Type:=(Int×(Int×Int))
abbrev Tn17:Type:=(List Tn4)
abbrev Tn15:Type:=(Int×Tn2)
abbrev Tn22:Type:=(ByteArray×(Int×(List Int)))
abbrev Tn23:Type:=(List Tn15)
abbrev Tn28:Type:=(Int×(Int×Tn4))
abbrev Tn30:Type:=(List Tn22)
abbrev Tn34:Type:=(List Tn28)
abbrev Tn43:Type:=(Int×(Int×Tn28))
abbrev Tn47:Type:=(List Tn43)
abbrev Tn49:Type:=(ByteArray×(Int×(Tn2×(Int×(Int×Bool)))))
abbrev Tn53:Type:=(List Tn49)
abbrev Tn57:Type:=(ByteArray×(Int×Tn47))
abbrev Tn59:Type:=(List Tn57)
abbrev Tn64:Type:=(ByteArray×(Int×((Int×Int)×(Int×(Int×((List Int)×(Tn2×(Int×Int))))))))
abbrev Tn65:Type:=(List Tn64)
abbrev Tn69:Type:=(ByteArray×(Tn65×Tn34))
abbrev Tn70:Type:=(List Tn69)
abbrev Tn76:Type:=(Tn59×(Tn53×(Tn30×Tn70)))
abbrev Tn78:Type:=(Tn76×Tn23)
abbrev unc2 {A0 A1 R:Type} (f:A0→A1→R) (h:A0×A1):R:=f h.1 h.2
abbrev unc3 {A0 A1 A2 R:Type} (f:A0→A1→A2→R) (h:A0×A1×A2):R:=f h.1 h.2.1 h.2.2
abbrev unc4 {A0 A1 A2 A3 R:Type} (f:A0→A1→A2→A3→R) (h:A0×A1×A2×A3):R:=f h.1 h.2.1 h.2.2.1 h.2.2.2
abbrev unc5 {A0 A1 A2 A3 A4 R:Type} (f:A0→A1→A2→A3→A4→R) (h:A0×A1×A2×A3×A4):R:=f h.1 h.2.1 h.2.2.1 h.2.2.2.1 h.2.2.2.2
abbrev unc6 {A0 A1 A2 A3 A4 A5 R:Type} (f:A0→A1→A2→A3→A4→A5→R) (h:A0×A1×A2×A3×A4×A5):R:=f h.1 h.2.1 h.2.2.1 h.2.2.2.1 h.2.2.2.2.1 h.2.2.2.2.2
abbrev unc7 {A0 A1 A2 A3 A4 A5 A6 R:Type} (f:A0→A1→A2→A3→A4→A5→A6→R) (h:A0×A1×A2×A3×A4×A5×A6):R:=f h.1 h.2.1 h.2.2.1 h.2.2.2.1 h.2.2.2.2.1 h.2.2.2.2.2.1 h.2.2.2.2.2.2
abbrev unc8 {A0 A1 A2 A3 A4 A5 A6 A7 R:Type} (f:A0→A1→A2→A3→A4→A5→A6→A7→R) (h:A0×A1×A2×A3×A4×A5×A6×A7):R:=f h.1 h.2.1 h.2.2.1 h.2.2.2.1 h.2.2.2.2.1 h.2.2.2.2.2.1 h.2.2.2.2.2.2.1 h.2.2.2.2.2.2.2
abbrev unc9 {A0 A1 A2 A3 A4 A5 A6 A7 A8 R:Type} (f:A0→A1→A2→A3→A4→A5→A6→A7→A8→R) (h:A0×A1×A2×A3×A4×A5×A6×A7×A8):R:=f h.1 h.2.1 h.2.2.1 h.2.2.2.1 h.2.2.2.2.1 h.2.2.2.2.2.1 h.2.2.2.2.2.2.1 h.2.2.2.2.2.2.2.1 h.2.2.2.2.2.2.2.2
abbrev jiY {A0 A1 A2 A3 A4 A5 A6 A7 A8 A9 R:Type} (f:A0→A1→A2→A3→A4→A5→A6→A7→A8→A9→R) (h:A0×A1×A2×A3×A4×A5×A6×A7×A8×A9):R:=f h.1 h.2.1 h.2.2.1 h.2.2.2.1 h.2.2.2.2.1 h.2.2.2.2.2.1 h.2.2.2.2.2.2.1 h.2.2.2.2.2.2.2.1 h.2.2.2.2.2.2.2.2.1 h.2.2.2.2.2.2.2.2.2
abbrev jpf {A0 A1 A2 A3 A4 A5 A6 A7 A8 A9 A10 R:Type} (f:A0→A1→A2→A3→A4→A5→A6→A7→A8→A9→A10→R) (h:A0×A1×A2×A3×A4×A5×A6×A7×A8×A9×A10):R:=f h.1 h.2.1 h.2.2.1 h.2.2.2.1 h.2.2.2.2.1 h.2.2.2.2.2.1 h.2.2.2.2.2.2.1 h.2.2.2.2.2.2.2.1 h.2.2.2.2.2.2.2.2.1 h.2.2.2.2.2.2.2.2.2.1 h.2.2.2.2.2.2.2.2.2.2
abbrev jud {A0 A1 A2 A3 A4 A5 A6 A7 A8 A9 A10 A11 R:Type} (f:A0→A1→A2→A3→A4→A5→A6→A7→A8→A9→A10→A11→R) (h:A0×A1×A2×A3×A4×A5×A6×A7×A8×A9×A10×A11):R:=f h.1 h.2.1 h.2.2.1 h.2.2.2.1 h.2.2.2.2.1 h.2.2.2.2.2.1 h.2.2.2.2.2.2.1 h.2.2.2.2.2.2.2.1 h.2.2.2.2.2.2.2.2.1 h.2.2.2.2.2.2.2.2.2.1 h.2.2.2.2.2.2.2.2.2.2.1 h.2.2.2.2.2.2.2.2.2.2.2
abbrev jue {A0 A1 A2 A3 A4 A5 A6 A7 A8 A9 A10 A11 A12 R:Type} (f:A0→A1→A2→A3→A4→A5→A6→A7→A8→A9→A10→A11→A12→R) (h:A0×A1×A2×A3×A4×A5×A6×A7×A8×A9×A10×A11×A12):R:=f h.1 h.2.1 h.2.2.1 h.2.2.2.1 h.2.2.2.2.1 h.2.2.2.2.2.1 h.2.2.2.2.2.2.1 h.2.2.2.2.2.2.2.1 h.2.2.2.2.2.2.2.2.1 h.2.2.2.2.2.2.2.2.2.1 h.2.2.2.2.2.2.2.2.2.2.1 h.2.2.2.2.2.2.2.2.2.2.2.1 h.2.2.2.2.2.2.2.2.2.2.2.2
abbrev jsb {A0 A1 A2 A3 A4 A5 A6 A7 A8 A9 A10 A11 A12 A13 R:Type} (f:A0→A1→A2→A3→A4→A5→A6→A7→A8→A9→A10→A11→A12→A13→R) (h:A0×A1×A2×A3×A4×A5×A6×A7×A8×A9×A10×A11×A12×A13):R:=f h.1 h.2.1 h.2.2.1 h.2.2.2.1 h.2.2.2.2.1 h.2.2.2.2.2.1 h.2.2.2.2.2.2.1 h.2.2.2.2.2.2.2.1 h.2.2.2.2.2.2.2.2.1 h.2.2.2.2.2.2.2.2.2.1 h.2.2.2.2.2.2.2.2.2.2.1 h.2.2.2.2.2.2.2.2.2.2.2.1 h.2.2.2.2.2.2.2.2.2.2.2.2.1 h.2.2.2.2.2.2.2.2.2.2.2.2.2
abbrev juf {A0 A1 A2 A3 A4 A5 A6 A7 A8 A9 A10 A11 A12 A13 A14 R:Type} (f:A0→A1→A2→A3→A4→A5→A6→A7→A8→A9→A10→A11→A12→A13→A14→R) (h:A0×A1×A2×A3×A4×A5×A6×A7×A8×A9×A10×A11×A12×A13×A14):R:=f h.1 h.2.1 h.2.2.1 h.2.2.2.1 h.2.2.2.2.1 h.2.2.2.2.2.1 h.2.2.2.2.2.2.1 h.2.2.2.2.2.2.2.1 h.2.2.2.2.2.2.2.2.1 h.2.2.2.2.2.2.2.2.2.1 h.2.2.2.2.2.2.2.2.2.2.1 h.2.2.2.2.2.2.2.2.2.2.2.1 h.2.2.2.2.2.2.2.2.2.2.2.2.1 h.2.2.2.2.2.2.2.2.2.2.2.2.2.1 h.2.2.2.2.2.2.2.2.2.2.2.2.2.2
abbrev jug {A0 A1 A2 A3 A4 A5 A6 A7 A8 A9 A10 A11 A12 A13 A14 A15 A16 A17 A18 A19 A20 A21 A22 A23 R:Type} (f:A0→A1→A2→A3→A4→A5→A6→A7→A8→A9→A10→A11→A12→A13→A14→A15→A16→A17→A18→A19→A20→A21→A22→A23→R) (h:A0×A1×A2×A3×A4×A5×A6×A7×A8×A9×A10×A11×A12×A13×A14×A15×A16×A17×A18×A19×A20×A21×A22×A23):R:=f h.1 h.2.1 h.2.2.1 h.2.2.2.1 h.2.2.2.2.1 h.2.2.2.2.2.1 h.2.2.2.2.2.2.1 h.2.2.2.2.2.2.2.1 h.2.2.2.2.2.2.2.2.1 h.2.2.2.2.2.2.2.2.2.1 h.2.2.2.2.2.2.2.2.2.2.1 h.2.2.2.2.2.2.2.2.2.2.2.1 h.2.2.2.2.2.2.2.2.2.2.2.2.1 h.2.2.2.2.2.2.2.2.2.2.2.2.2.1 h.2.2.2.2.2.2.2.2.2.2.2.2.2.2.1 h.2.2.2.2.2.2.2.2.2.2.2.2.2.2.2.1 h.2.2.2.2.2.2.2.2.2.2.2.2.2.2.2.2.1 h.2.2.2.2.2.2.2.2.2.2.2.2.2.2.2.2.2.1 h.2.2.2.2.2.2.2.2.2.2.2.2.2.2.2.2.2.2.1 h.2.2.2.2.2.2.2.2.2.2.2.2.2.2.2.2.2.2.2.1 h.2.2.2.2.2.2.2.2.2.2.2.2.2.2.2.2.2.2.2.2.1 h.2.2.2.2.2.2.2.2.2.2.2.2.2.2.2.2.2.2.2.2.2.1 h.2.2.2.2.2.2.2.2.2.2.2.2.2.2.2.2.2.2.2.2.2.2.1 h.2.2.2.2.2.2.2.2.2.2.2.2.2.2.2.2.2.2.2.2.2.2.2
def jgf (a:(List Int)):Option (Bool):=
 let b:=(Int.ofNat (List.length a))
 some (decide (b≤500))
def jid  : Option (Tn59×Tn53×Tn30×Tn70):=
 let g:Tn59:=[((ByteArray.mk #[122]),(0,([]:Tn47)))]
 let f:Tn53:=[((ByteArray.mk #[97]),(0,(([]:Tn2),(0,(0,false))))),((ByteArray.mk #[98]),(0,(([]:Tn2),(0,(0,false))))),((ByteArray.mk #[99]),(0,(([]:Tn2),(0,(0,false)))))]
 let e:(List Int):=[0,1]
 let a:(List Int):=[2]
 let d:Tn2:=[(0,86400)]
 let c:Tn65:=[((ByteArray.mk #[108,111,119]),(0,((4,0),(2,(1,(e,(([]:Tn2),(0,0)))))))),((ByteArray.mk #[116,111,112]),(0,((4,0),(2,(1,(a,(d,(0,0))))))))]
 let b:Tn70:=[((ByteArray.mk #[115]),(c,([]:Tn34)))]
 some (g,f,([]:Tn30),b)
def j8E (a:Tn57):Option (ByteArray):=
 some a.1
def j9q (a:Int):Option (Bool):=
 some (cond (decide (a≥97)) (decide (a≤122)) false)
def jeo (a:Int):Option (Bool):=
 some (cond (decide (a≥48)) (decide (a≤57)) false)
def j55 (f:ByteArray) (c b:Int):Option ((ByteArray×Int×Int) ⊕ (Bool ⊕ Unit)):=
 cond (decide (b<c)) (
 cond (inR b (ByteArray.size f)) (
 let a:=(j2t f b)
 (j9q a).bind fun i=>
 cond (!i) (
 (jeo a).bind fun d=>
 cond (cond (cond (!d) (a != 95) false) (a != 45) false) (
 some (.inr (.inl false))) (
 let g:=(w64 (b+1))
 some (.inl (f,c,g)))) (
 let e:=(w64 (b+1))
 some (.inl (f,c,e)))) none) (
 some (.inr (.inr ())))
def j4w [LP] (c:ByteArray) (b a:Int):Option (Bool ⊕ Unit):=
 LP.lp (unc3 (j55)) (c,b,a)
theorem jgP (c b a):j4w c b a=lpK (j55 c b a) (fun h=>j4w h.1 h.2.1 h.2.2):=j06 _ _
def j48 [LP] (a:ByteArray):Option (Bool):=
 let f:=(Int.ofNat (ByteArray.size a))
 let b:Bool:=(cond (ByteArray.toList a==ByteArray.toList ByteArray.empty) true (decide (f>24)))
 cond ((inR 0 (ByteArray.size a)) || !(!b)) (
 let c:=(j2t a 0)
 cond b (
 some false) (
 (j9q c).bind fun e=>
 cond (!e) (
 some false) (
 let d:=(Int.ofNat (ByteArray.size a))
 (j4w a d 0).bind fun g=>
 sumC g (fun i=>
 some i) (fun j=>
 some true)))) none
def j2A [LP] (b:ByteArray) (a:(List (ByteArray×Bool))):Option (Int×(List (ByteArray×Bool))):=
 (j48 b).bind fun d=>
 cond (!d) (
 some (2,a)) (
 cond (jcd false a b) (
 some (4,a)) (
 let c:(List (ByteArray×Bool)):=(jaU a b true)
 some (0,c)))
def j8F (a c b:Int):Option (Bool):=
 some (cond (decide (a≥c)) (decide (a≤b)) false)
def jcW (a:Tn43):Option (Int):=
 (j8F a.1 1970 2240).bind fun i=>
 cond (!i) (
 some 1) (
 (j8F a.2.1 a.1 2240).bind fun b=>
 cond (!b) (
 some 1) (
 (j8F a.2.2.1 1 12).bind fun c=>
 cond (!c) (
 some 1) (
 (j8F a.2.2.2.1 1 5).bind fun d=>
 cond (!d) (
 some 1) (
 (j8F a.2.2.2.2.1 0 6).bind fun e=>
 cond (!e) (
 some 1) (
 (j8F a.2.2.2.2.2.1 0 86399).bind fun g=>
 cond (!g) (
 some 1) (
 (j8F a.2.2.2.2.2.2 (-64800) 64800).bind fun f=>
 cond (!f) (
 some 1) (
 some 0)))))))
def jgg (a:Int):Option (Bool):=
 let d:=(Int.tmod a 4)
 let c:=(Int.tmod a 100)
 let b:=(Int.tmod a 400)
 some (cond (d==0) (cond (c != 0) true (b==0)) false)
def j5Q (c a:Int):Option (Int):=
 cond (cond (decide (a<1)) true (decide (a>12))) (
 some 0) (
 let f:(List Int):=[31,28,31,30,31,30,31,31,30,31,30,31]
 let j:(List Int):=(List.replicate 12 0)
 cond (a==2) (
 (jgg c).bind fun g=>
 cond g (
 some 29) (
 let e:=(w64 (a-1))
 cond (inR e 12) (
 let i:=(List.getD f (Int.toNat e) 0)
 some i) none)) (
 let b:=(w64 (a-1))
 cond (inR b 12) (
 let d:=(List.getD f (Int.toNat b) 0)
 some d) none))
def j9r (a:Tn4):Option (Bool):=
 cond (decide (a.1≥1970)) (
 cond (decide (a.1≤2240)) (
 cond (decide (a.2.2≥1)) (
 (j5Q a.1 a.2.1).bind fun b=>
 some (decide (a.2.2≤b))) (
 some false)) (
 some false)) (
 some false)
def j6A (b a:Int):Option (Int):=
 cond (!(a==0)) (
 let e:=(w64 (Int.tdiv b a))
 cond (!(a==0)) (
 let c:=(Int.tmod b a)
 cond (decide (c<0)) (
 let d:=(w64 (e-1))
 some d) (
 some e)) none) none
def j3R (a:Int):Option (Int):=
 let b:=(w64 (a-1))
 let k:=(w64 (a-1970))
 let l:=(w64 (365*k))
 (j6A b 4).bind fun g=>
 let c:=(w64 (l+g))
 (j6A b 100).bind fun f=>
 let e:=(w64 (c-f))
 (j6A b 400).bind fun d=>
 let j:=(w64 (e+d))
 let i:=(w64 (j-477))
 some i
def j31 (i e g a f:Int):Option ((Int×Int×Int×Int×Int) ⊕ (Int)):=
 cond (decide (e<a)) (
 (j5Q g e).bind fun c=>
 let d:=(w64 (i+c))
 let b:=(w64 (e+1))
 some (.inl (d,b,g,a,f))) (
 some (.inr i))
def j49 [LP] (d e c a b:Int):Option (Int):=
 LP.lp (unc5 (j31)) (d,e,c,a,b)
theorem jap (d e c a b):j49 d e c a b=lpK (j31 d e c a b) (fun h=>j49 h.1 h.2.1 h.2.2.1 h.2.2.2.1 h.2.2.2.2):=j06 _ _
def j5n [LP] (a:Tn4):Option (Int):=
 (j3R a.1).bind fun d=>
 let c:=(w64 (d+a.2.2))
 let b:=(w64 (c-1))
 (j49 b 1 a.1 a.2.1 a.2.2).bind fun e=>
 some e
def j4x (a:Int):Option (Int):=
 let c:=(Int.tmod a 7)
 let d:=(w64 (c+10))
 let b:=(Int.tmod d 7)
 some b
def j9s [LP] (c b d a:Int):Option (Int×Int):=
 (j9r (c,(b,1))).bind fun r=>
 let j:Bool:=(cond (cond (!r) true (decide (d<1))) true (decide (d>5)))
 let g:Bool:=(cond (cond j true (decide (a<0))) true (decide (a>6)))
 cond g (
 some (0,1)) (
 (j5n (c,(b,1))).bind fun e=>
 (j4x e).bind fun n=>
 let i:=(w64 (a-n))
 let m:=(w64 (i+7))
 let l:=(Int.tmod m 7)
 let q:=(w64 (e+l))
 let k:=(w64 (d-1))
 let t:=(w64 (7*k))
 let f:=(w64 (q+t))
 (j5Q c b).bind fun p=>
 let s:=(w64 (e+p))
 cond (decide (f≥s)) (
 let o:=(w64 (f-7))
 some (o,0)) (
 some (f,0)))
def j6B (a b:(Int×Int)):Option (Int):=
 let c:=(w64 (a.1-b.1))
 some c
def j0l (m p q b:Int) (a:Tn2):Option ((Int×Int×Int×Int×Tn2) ⊕ ((Int×Int×Int×Tn2))):=
 cond (decide (b>m)) (
 cond (inR b (List.length a)) (
 let d:=(List.getD a (Int.toNat b) (0,0))
 let i:=(w64 (b-1))
 cond (inR i (List.length a)) (
 let c:=(List.getD a (Int.toNat i) (0,0))
 (j6B (d.1,d.2) (c.1,c.2)).bind fun l=>
 cond (decide (l<0)) (
 let g:=(w64 (b-1))
 let k:=(w64 (b-1))
 cond (inR k (List.length a)) (
 let j:=(List.getD a (Int.toNat k) (0,0))
 cond (inR b (List.length a)) (
 let e:=(List.getD a (Int.toNat b) (0,0))
 cond (inR b (List.length a)) (
 let f:Tn2:=(List.set a (Int.toNat b) (j.1,j.2))
 cond (inR g (List.length f)) (
 let o:Tn2:=(List.set f (Int.toNat g) (e.1,e.2))
 let n:=(w64 (b-1))
 some (.inl (m,p,q,n,o))) none) none) none) none) (
 some (.inr (m,p,q,a)))) none) none) (
 some (.inr (m,p,q,a)))
def j0g [LP] (a c e d:Int) (b:Tn2):Option ((Int×Int×Int×Tn2)):=
 LP.lp (unc5 (j0l)) (a,c,e,d,b)
theorem j1F (a c e d b):j0g a c e d b=lpK (j0l a c e d b) (fun h=>j0g h.1 h.2.1 h.2.2.1 h.2.2.2.1 h.2.2.2.2):=j06 _ _
def j07 [LP] (f e c:Int) (d:Tn2):Option ((Int×Int×Int×Tn2) ⊕ (Tn2)):=
 cond (decide (c<e)) (
 (j0g f e c c d).bind fun a=>
 let b:=(w64 (a.2.2.1+1))
 some (.inl (a.1,a.2.1,b,a.2.2.2))) (
 some (.inr d))
def j0h [LP] (b a d:Int) (c:Tn2):Option (Tn2):=
 LP.lp (unc4 (j07)) (b,a,d,c)
theorem j0Q (a c d b):j0h a c d b=lpK (j07 a c d b) (fun h=>j0h h.1 h.2.1 h.2.2.1 h.2.2.2):=j06 _ _
def j0b [LP] (a:Tn2) (b c:Int):Option (Tn2):=
 let d:=(w64 (b+1))
 (j0h b c d a).bind fun e=>
 some e
def j0d [LP] (d e g c:Int) (f:Tn2):Option ((Int×Int×Int×Int×Tn2) ⊕ ((Int×Int×Int×Tn2))):=
 cond (decide (c≤d)) (
 (j0b f g c).bind fun a=>
 let b:=(w64 (c+e))
 some (.inl (d,e,c,b,a))) (
 some (.inr (d,e,g,f)))
def j0u [LP] (a c d e:Int) (b:Tn2):Option ((Int×Int×Int×Tn2)):=
 LP.lp (unc5 (j0d)) (a,c,d,e,b)
theorem j4E (a c d e b):j0u a c d e b=lpK (j0d a c d e b) (fun h=>j0u h.1 h.2.1 h.2.2.1 h.2.2.2.1 h.2.2.2.2):=j06 _ _
def j27 (a b c f:Int) (e:Tn2):Option ((Int×Int×Int×Int×Tn2) ⊕ ((Int×Int×Int×Tn2))):=
 cond (decide (f≤a)) (
 let d:=(w64 (c+b))
 none) (
 some (.inr (a,b,c,e)))
def j1w [LP] (a c d e:Int) (b:Tn2):Option ((Int×Int×Int×Tn2)):=
 LP.lp (unc5 (j27)) (a,c,d,e,b)
def j0e [LP] (f e:Int) (g:Tn2):Option ((Int×Int×Tn2) ⊕ (Tn2)):=
 cond (decide (e<f)) (
 let c:=(w64 (2*e))
 (j1w f e 0 c g).bind fun a=>
 let d:=(w64 (a.2.2.1+a.2.1))
 cond (decide (d<a.1)) (
 none) (
 let b:=(w64 (a.2.1*2))
 some (.inl (a.1,b,a.2.2.2)))) (
 some (.inr g))
def j0v [LP] (b a:Int) (c:Tn2):Option (Tn2):=
 LP.lp (unc3 (j0e)) (b,a,c)
theorem j4F (b a c):j0v b a c=lpK (j0e b a c) (fun h=>j0v h.1 h.2.1 h.2.2):=j06 _ _
def j0C [LP] (a:Tn2) (c:Int):Option (Tn2):=
 (j0u c 20 0 20 a).bind fun b=>
 (j0b b.2.2.2 b.2.2.1 b.1).bind fun d=>
 (j0v b.1 b.2.1 d).bind fun e=>
 some e
def j08 [LP] (a:Tn2):Option (Tn2):=
 let b:=(Int.ofNat (List.length a))
 (j0C a b).bind fun c=>
 some c
def j1V (n:Int) (d:Tn47) (l b:Int) (m:ByteArray) (e:Int) (f:Tn47):Option ((Int×Tn47×Int×Int×ByteArray×Int×Tn47) ⊕ (Int ⊕ (Int×ByteArray×Int×Tn47))):=
 cond (decide (b<l)) (
 cond (inR b (List.length d)) (
 let a:=(List.getD d (Int.toNat b) (0,(0,(0,(0,(0,(0,0)))))))
 (jcW (a.1,(a.2.1,(a.2.2.1,(a.2.2.2.1,(a.2.2.2.2.1,(a.2.2.2.2.2.1,a.2.2.2.2.2.2))))))).bind fun c=>
 cond (c != 0) (
 some (.inr (.inl c))) (
 let k:=(w64 (a.2.1-a.1))
 let j:=(w64 (k+1))
 let g:=(w64 (n+j))
 let i:=(w64 (b+1))
 some (.inl (g,d,l,i,m,e,f)))) none) (
 some (.inr (.inr (n,m,e,f))))
def j1Q [LP] (g:Int) (c:Tn47) (e d:Int) (f:ByteArray) (a:Int) (b:Tn47):Option (Int ⊕ (Int×ByteArray×Int×Tn47)):=
 LP.lp (unc7 (j1V)) (g,c,e,d,f,a,b)
theorem j7t (g c e d f a b):j1Q g c e d f a b=lpK (j1V g c e d f a b) (fun h=>j1Q h.1 h.2.1 h.2.2.1 h.2.2.2.1 h.2.2.2.2.1 h.2.2.2.2.2.1 h.2.2.2.2.2.2):=j06 _ _
def j0J [LP] (i:Int) (q:Tn47) (p o s b e g a c d:Int) (r:Tn2):Option ((Int×Tn47×Int×Int×Int×Int×Int×Int×Int×Int×Int×Tn2) ⊕ ((Tn47×Int×Int×Tn2))):=
 cond (decide (i≤b)) (
 (j9s i e g a).bind fun n=>
 let m:=(w64 (n.1*86400))
 let k:=(w64 (m+c))
 let f:Tn2:=[(k,d)]
 cond (decide (List.length r+List.length f≤j0a)) (
 let j:Tn2:=(r++f)
 let l:=(w64 (i+1))
 some (.inl (l,q,p,o,s,b,e,g,a,c,d,j))) none) (
 some (.inr (q,p,o,r)))
def j2u [LP] (i:Int) (l:Tn47) (k g j b e f a c d:Int) (m:Tn2):Option ((Tn47×Int×Int×Tn2)):=
 LP.lp (jud (j0J)) (i,l,k,g,j,b,e,f,a,c,d,m)
theorem j7u (i l k g j b e f a c d m):j2u i l k g j b e f a c d m=lpK (j0J i l k g j b e f a c d m) (fun h=>j2u h.1 h.2.1 h.2.2.1 h.2.2.2.1 h.2.2.2.2.1 h.2.2.2.2.2.1 h.2.2.2.2.2.2.1 h.2.2.2.2.2.2.2.1 h.2.2.2.2.2.2.2.2.1 h.2.2.2.2.2.2.2.2.2.1 h.2.2.2.2.2.2.2.2.2.2.1 h.2.2.2.2.2.2.2.2.2.2.2):=j06 _ _
def j0K [LP] (d:Tn47) (f c:Int) (g:Tn2):Option ((Tn47×Int×Int×Tn2) ⊕ (Tn2)):=
 cond (decide (c<f)) (
 cond (inR c (List.length d)) (
 let a:=(List.getD d (Int.toNat c) (0,(0,(0,(0,(0,(0,0)))))))
 (j2u a.1 d f c a.1 a.2.1 a.2.2.1 a.2.2.2.1 a.2.2.2.2.1 a.2.2.2.2.2.1 a.2.2.2.2.2.2 g).bind fun b=>
 let e:=(w64 (b.2.2.1+1))
 some (.inl (b.1,b.2.1,e,b.2.2.2))) none) (
 some (.inr g))
def j1R [LP] (b:Tn47) (c a:Int) (d:Tn2):Option (Tn2):=
 LP.lp (unc4 (j0K)) (b,c,a,d)
theorem j7v (c b a d):j1R c b a d=lpK (j0K c b a d) (fun h=>j1R h.1 h.2.1 h.2.2.1 h.2.2.2):=j06 _ _
def j2W [LP] (a:Tn57):Option (Tn2×Int):=
 (j8F a.2.1 (-64800) 64800).bind fun b=>
 cond (!b) (
 some (([]:Tn2),1)) (
 let d:=(Int.ofNat (List.length a.2.2))
 cond (decide (d>16)) (
 some (([]:Tn2),5)) (
 let e:=(Int.ofNat (List.length a.2.2))
 (j1Q 0 a.2.2 e 0 a.1 a.2.1 a.2.2).bind fun g=>
 sumC g (fun k=>
 some (([]:Tn2),k)) (fun i=>
 cond (decide (i.1>640)) (
 some (([]:Tn2),5)) (
 let f:=(Int.ofNat (List.length i.2.2.2))
 (j1R i.2.2.2 f 0 ([]:Tn2)).bind fun j=>
 (j08 j).bind fun c=>
 some (c,0)))))
def j1W (n m d:Int) (b i:Tn2):Option ((Int×Int×Int×Tn2×Tn2) ⊕ (Int ⊕ Tn2)):=
 cond (decide (d<m)) (
 cond (inR d (List.length i)) (
 let a:=(List.getD i (Int.toNat d) (0,0))
 cond (a.2==n) (
 let s:=(w64 (d+1))
 some (.inl (n,m,s,b,i))) (
 let c:=(w64 (a.1-n))
 let f:=(w64 (a.2-n))
 cond (cond (decide (f≥86400)) true (decide (f≤(-86400)))) (
 let r:=(Int.ofNat (List.length b))
 let t:=(Int.ofNat (List.length b))
 let l:=(w64 (t-1))
 cond ((inR l (List.length b)) || !((!true)&&(decide (r>0)))) (
 let p:=(List.getD b (Int.toNat l) (0,0)).1
 let x:=(w64 (p+604800))
 some (.inr (.inl 6))) none) (
 (j8F c 0 8589934592).bind fun g=>
 let k:=(Int.ofNat (List.length b))
 let o:=(Int.ofNat (List.length b))
 let j:=(w64 (o-1))
 cond ((inR j (List.length b)) || !((!(!g))&&(decide (k>0)))) (
 let w:=(List.getD b (Int.toNat j) (0,0)).1
 let u:=(w64 (w+604800))
 cond (cond (!g) true (cond (decide (k>0)) (decide (c<u)) false)) (
 some (.inr (.inl 6))) (
 let e:Tn2:=[(c,a.2)]
 cond (decide (List.length b+List.length e≤j0a)) (
 let v:Tn2:=(b++e)
 let q:=(w64 (d+1))
 some (.inl (a.2,m,q,v,i))) none)) none))) none) (
 some (.inr (.inr b)))
def j1S [LP] (e a c:Int) (d b:Tn2):Option (Int ⊕ Tn2):=
 LP.lp (unc5 (j1W)) (e,a,c,d,b)
theorem j7w (e a c d b):j1S e a c d b=lpK (j1W e a c d b) (fun h=>j1S h.1 h.2.1 h.2.2.1 h.2.2.2.1 h.2.2.2.2):=j06 _ _
def j1O [LP] (a:Tn57):Option (Tn2×Int):=
 (j2W (a.1,(a.2.1,a.2.2))).bind fun b=>
 cond (b.2 != 0) (
 some (([]:Tn2),b.2)) (
 let c:=(Int.ofNat (List.length b.1))
 (j1S a.2.1 c 0 ([]:Tn2) b.1).bind fun d=>
 sumC d (fun f=>
 some (([]:Tn2),f)) (fun e=>
 some (e,0)))
def j6N [LP] (a:Tn57):Option (Int):=
 (j1O (a.1,(a.2.1,a.2.2))).bind fun b=>
 some b.2
def j63 (a:Tn43):Option (Bool):=
 let b:=(Int.tmod a.2.2.2.2.2.2 60)
 some (b != 0)
def j0m (e:Tn47) (f b:Int):Option ((Tn47×Int×Int) ⊕ (Int ⊕ Unit)):=
 cond (decide (b<f)) (
 cond (inR b (List.length e)) (
 let a:=(List.getD e (Int.toNat b) (0,(0,(0,(0,(0,(0,0)))))))
 (j63 (a.1,(a.2.1,(a.2.2.1,(a.2.2.2.1,(a.2.2.2.2.1,(a.2.2.2.2.2.1,a.2.2.2.2.2.2))))))).bind fun c=>
 cond c (
 some (.inr (.inl b))) (
 let d:=(w64 (b+1))
 some (.inl (e,f,d)))) none) (
 some (.inr (.inr ())))
def j0j [LP] (a:Tn47) (b c:Int):Option (Int ⊕ Unit):=
 LP.lp (unc3 (j0m)) (a,b,c)
theorem j1H (a b c):j0j a b c=lpK (j0m a b c) (fun h=>j0j h.1 h.2.1 h.2.2):=j06 _ _
def j0r [LP] (a:Tn47):Option (Int):=
 let b:=(Int.ofNat (List.length a))
 (j0j a b 0).bind fun c=>
 sumC c (fun d=>
 some d) (fun e=>
 some (-1))
def j0k [LP] (a:Tn47):Option (Bool):=
 (j0r a).bind fun b=>
 some (decide (b≥0))
def j1X [LP] (a:Tn57):Option (Int):=
 (j6N (a.1,(a.2.1,a.2.2))).bind fun d=>
 let c:=(Int.tmod a.2.1 60)
 cond (cond (d != 0) true (c != 0)) (
 some 8) (
 (j0k a.2.2).bind fun b=>
 cond b (
 some 8) (
 some 0))
def j0y [LP] (e:Tn59) (i d:Int) (j:(List (ByteArray×Bool))):Option ((Tn59×Int×Int×(List (ByteArray×Bool))) ⊕ (Int ⊕ Unit)):=
 cond (decide (d<i)) (
 cond (inR d (List.length e)) (
 let a:=(List.getD e (Int.toNat d) (ByteArray.empty,(0,([]:Tn47))))
 (j8E (a.1,(a.2.1,a.2.2))).bind fun g=>
 (j2A g j).bind fun b=>
 cond (b.1 != 0) (
 some (.inr (.inl b.1))) (
 (j1X (a.1,(a.2.1,a.2.2))).bind fun c=>
 cond (c != 0) (
 some (.inr (.inl c))) (
 let f:=(w64 (d+1))
 some (.inl (e,i,f,b.2))))) none) (
 some (.inr (.inr ())))
def j0X [LP] (c:Tn59) (a b:Int) (d:(List (ByteArray×Bool))):Option (Int ⊕ Unit):=
 LP.lp (unc4 (j0y)) (c,a,b,d)
theorem j56 (a:Tn59) (b c:Int) (d:(List (ByteArray×Bool))):j0X a b c d=lpK (j0y a b c d) (fun h=>j0X h.1 h.2.1 h.2.2.1 h.2.2.2):=j06 _ _
def j1n [LP] (a:Tn59):Option (Int):=
 let c:(List (ByteArray×Bool)):=([]:(List (ByteArray×Bool)))
 let b:=(Int.ofNat (List.length a))
 (j0X a b 0 c).bind fun d=>
 sumC d (fun e=>
 some e) (fun f=>
 some 0)
def j1z (a b:Int):Option (Bool):=
 some (cond (decide (a≥0)) (decide (a<b)) false)
def j3B (g j:Tn2) (k b:Int):Option ((Tn2×Tn2×Int×Int) ⊕ (Int ⊕ Unit)):=
 cond (decide (b<k)) (
 cond (inR b (List.length j)) (
 let a:=(List.getD j (Int.toNat b) (0,0))
 let d:Bool:=(cond (cond (decide (a.1<0)) true (decide (a.1≥a.2))) true (decide (a.2>604800)))
 cond d (
 some (.inr (.inl 1))) (
 cond (decide (b>0)) (
 let c:=(w64 (b-1))
 cond (inR c (List.length g)) (
 let i:=(List.getD g (Int.toNat c) (0,0))
 cond (decide (a.1<i.2)) (
 some (.inr (.inl 6))) (
 let f:=(w64 (b+1))
 some (.inl (g,j,k,f)))) none) (
 let e:=(w64 (b+1))
 some (.inl (g,j,k,e))))) none) (
 some (.inr (.inr ())))
def j5R [LP] (b d:Tn2) (c a:Int):Option (Int ⊕ Unit):=
 LP.lp (unc4 (j3B)) (b,d,c,a)
theorem jcj (c d b a):j5R c d b a=lpK (j3B c d b a) (fun h=>j5R h.1 h.2.1 h.2.2.1 h.2.2.2):=j06 _ _
def j6O [LP] (a:Tn2):Option (Int):=
 let d:=(Int.ofNat (List.length a))
 cond (decide (d>14)) (
 some 5) (
 let b:=(Int.ofNat (List.length a))
 (j5R a a b 0).bind fun c=>
 sumC c (fun e=>
 some e) (fun f=>
 some 0))
def j5S (a c b:Int):Option (Bool):=
 some (cond (decide (a≥c)) (decide (a≤b)) false)
def j3C (a:Int):Option (Bool):=
 (j5S a 0 604800).bind fun c=>
 let b:=(Int.tmod a 3600)
 some (cond c (b==0) false)
def j1h [LP] (b:Tn76) (a:Tn49):Option (Int):=
 let f:=(Int.ofNat (List.length b.1))
 (j1z a.2.1 f).bind fun e=>
 cond (!e) (
 some 3) (
 (j6O a.2.2.1).bind fun c=>
 cond (c != 0) (
 some 8) (
 (j3C a.2.2.2.1).bind fun g=>
 cond (!g) (
 some 1) (
 (j3C a.2.2.2.2.1).bind fun d=>
 cond (!d) (
 some 1) (
 some 0))))
def j8G (a:Tn22):Option (ByteArray):=
 some a.1
def jaq (e c:Int):Option ((Int×Int) ⊕ (Int)):=
 let d:=(w64 (c+1))
 (j3R d).bind fun b=>
 cond (decide (b≤e)) (
 let a:=(w64 (c+1))
 some (.inl (e,a))) (
 some (.inr c))
def jbH [LP] (a b:Int):Option (Int):=
 LP.lp (unc2 (jaq)) (a,b)
def jba [LP] (a:Int):Option (Int):=
 (j6A a 366).bind fun c=>
 let d:=(w64 (1970+c))
 (jbH a d).bind fun b=>
 some b
def j94 (k l c b f a d:Int):Option ((Int×Int×Int×Int×Int×Int×Int) ⊕ ((Int×Int×Int×Int×Int×Int×Int))):=
 (j5Q f a).bind fun e=>
 cond (decide (k≥e)) (
 (j5Q f a).bind fun j=>
 let i:=(w64 (k-j))
 let g:=(w64 (a+1))
 some (.inl (i,l,c,b,f,g,d))) (
 some (.inr (k,l,c,b,f,a,d)))
def j9t [LP] (f g b a e d c:Int):Option ((Int×Int×Int×Int×Int×Int×Int)):=
 LP.lp (unc7 (j94)) (f,g,b,a,e,d,c)
def j5o [LP] (a:Int):Option (Tn4×Int):=
 (j3R 1970).bind fun i=>
 cond (decide (a<i)) (
 some ((0,(0,0)),1)) (
 (j3R 2241).bind fun e=>
 cond (decide (a≥e)) (
 some ((0,(0,0)),1)) (
 (jba a).bind fun b=>
 (j3R b).bind fun g=>
 let d:=(w64 (a-g))
 (j9t d 0 0 0 b 1 0).bind fun c=>
 let f:=(w64 (c.1+1))
 some ((c.2.2.2.2.1,(c.2.2.2.2.2.1,f)),0)))
def j0Y [LP] (a:Int):Option (Bool):=
 (j5o a).bind fun b=>
 some (b.2==0)
def j1q [LP] (a:Int):Option (Bool):=
 (j0Y a).bind fun b=>
 some (!b)
def j0s [LP] (e:(List Int)) (f a:Int):Option (((List Int)×Int×Int) ⊕ (Int ⊕ Unit)):=
 cond (decide (a<f)) (
 cond (inR a (List.length e)) (
 let b:=(List.getD e (Int.toNat a) 0)
 (j1q b).bind fun c=>
 cond c (
 some (.inr (.inl a))) (
 let d:=(w64 (a+1))
 some (.inl (e,f,d)))) none) (
 some (.inr (.inr ())))
def j16 [LP] (a:(List Int)) (b c:Int):Option (Int ⊕ Unit):=
 LP.lp (unc3 (j0s)) (a,b,c)
theorem j4s (a b c):j16 a b c=lpK (j0s a b c) (fun h=>j16 h.1 h.2.1 h.2.2):=j06 _ _
def j1r [LP] (a:(List Int)):Option (Int):=
 let b:=(Int.ofNat (List.length a))
 (j16 a b 0).bind fun c=>
 sumC c (fun d=>
 some d) (fun e=>
 some (-1))
def j17 [LP] (a:(List Int)):Option (Bool):=
 (j1r a).bind fun b=>
 some (decide (b≥0))
def j1k (d b:Int) (k:ByteArray) (e:Int) (a:(List Int)):Option ((Int×Int×ByteArray×Int×(List Int)) ⊕ (Int ⊕ Unit)):=
 cond (decide (b<d)) (
 cond (decide (b>0)) (
 cond (inR b (List.length a)) (
 let j:=(List.getD a (Int.toNat b) 0)
 let c:=(w64 (b-1))
 cond (inR c (List.length a)) (
 let g:=(List.getD a (Int.toNat c) 0)
 cond (decide (j≤g)) (
 some (.inr (.inl 6))) (
 let f:=(w64 (b+1))
 some (.inl (d,f,k,e,a)))) none) none) (
 let i:=(w64 (b+1))
 some (.inl (d,i,k,e,a)))) (
 some (.inr (.inr ())))
def j1s [LP] (c d:Int) (e:ByteArray) (b:Int) (a:(List Int)):Option (Int ⊕ Unit):=
 LP.lp (unc5 (j1k)) (c,d,e,b,a)
theorem j5p (c d e b a):j1s c d e b a=lpK (j1k c d e b a) (fun h=>j1s h.1 h.2.1 h.2.2.1 h.2.2.2.1 h.2.2.2.2):=j06 _ _
def j1c [LP] (b:Tn76) (a:Tn22):Option (Int):=
 let c:=(Int.ofNat (List.length b.1))
 (j1z a.2.1 c).bind fun d=>
 cond (!d) (
 some 3) (
 let g:=(Int.ofNat (List.length a.2.2))
 cond (decide (g>64)) (
 some 5) (
 (j17 a.2.2).bind fun f=>
 cond f (
 some 1) (
 let e:=(Int.ofNat (List.length a.2.2))
 (j1s e 0 a.1 a.2.1 a.2.2).bind fun i=>
 sumC i (fun j=>
 some j) (fun k=>
 some 0))))
def j3w [LP] (a:Tn22) (f:Tn59) (d:Tn53) (c:Tn30) (b:Tn70):Option (Int):=
 (j1c (f,(d,(c,b))) (a.1,(a.2.1,a.2.2))).bind fun e=>
 some e
def j0p [LP] (m:Tn59) (f:Tn53) (i:Tn30) (e:Tn70) (g:Tn30) (l d:Int) (n:(List (ByteArray×Bool))):Option ((Tn59×Tn53×Tn30×Tn70×Tn30×Int×Int×(List (ByteArray×Bool))) ⊕ (Int ⊕ Unit)):=
 cond (decide (d<l)) (
 cond (inR d (List.length g)) (
 let a:=(List.getD g (Int.toNat d) (ByteArray.empty,(0,([]:(List Int)))))
 (j8G (a.1,(a.2.1,a.2.2))).bind fun k=>
 (j2A k n).bind fun b=>
 cond (b.1 != 0) (
 some (.inr (.inl b.1))) (
 (j3w (a.1,(a.2.1,a.2.2)) m f i e).bind fun c=>
 cond (c != 0) (
 some (.inr (.inl c))) (
 let j:=(w64 (d+1))
 some (.inl (m,f,i,e,g,l,j,b.2))))) none) (
 some (.inr (.inr ())))
def j0F [LP] (i:Tn59) (b:Tn53) (c:Tn30) (a:Tn70) (d:Tn30) (e f:Int) (g:(List (ByteArray×Bool))):Option (Int ⊕ Unit):=
 LP.lp (unc8 (j0p)) (i,b,c,a,d,e,f,g)
theorem j3Y (i:Tn59) (b:Tn53) (c:Tn30) (a:Tn70) (d:Tn30) (e f:Int) (g:(List (ByteArray×Bool))):j0F i b c a d e f g=lpK (j0p i b c a d e f g) (fun h=>j0F h.1 h.2.1 h.2.2.1 h.2.2.2.1 h.2.2.2.2.1 h.2.2.2.2.2.1 h.2.2.2.2.2.2.1 h.2.2.2.2.2.2.2):=j06 _ _
def j0R [LP] (e:Tn30) (d:Tn59) (b:Tn53) (a:Tn30) (c:Tn70):Option (Int):=
 let g:(List (ByteArray×Bool)):=([]:(List (ByteArray×Bool)))
 let f:=(Int.ofNat (List.length e))
 (j0F d b a c e f 0 g).bind fun i=>
 sumC i (fun j=>
 some j) (fun k=>
 some 0)
def j8H (a:Tn69):Option (ByteArray):=
 some a.1
def j4a (a:Tn64):Option (ByteArray):=
 some a.1
def j5q (a:Int) (g:Tn59) (b:Tn53) (f:Tn30) (d:Tn70):Option (Bool):=
 let c:=(Int.ofNat (List.length b))
 (j1z a c).bind fun e=>
 some (!e)
def j0I (i:(List Int)) (j:Tn59) (c:Tn53) (a:Tn30) (b:Tn70) (k d:Int):Option (((List Int)×Tn59×Tn53×Tn30×Tn70×Int×Int) ⊕ (Int ⊕ Unit)):=
 cond (decide (d<k)) (
 cond (inR d (List.length i)) (
 let e:=(List.getD i (Int.toNat d) 0)
 (j5q e j c a b).bind fun f=>
 cond f (
 some (.inr (.inl d))) (
 let g:=(w64 (d+1))
 some (.inl (i,j,c,a,b,k,g)))) none) (
 some (.inr (.inr ())))
def j0L [LP] (e:(List Int)) (d:Tn59) (c:Tn53) (a:Tn30) (b:Tn70) (f g:Int):Option (Int ⊕ Unit):=
 LP.lp (unc7 (j0I)) (e,d,c,a,b,f,g)
theorem j3D (e d c a b f g):j0L e d c a b f g=lpK (j0I e d c a b f g) (fun h=>j0L h.1 h.2.1 h.2.2.1 h.2.2.2.1 h.2.2.2.2.1 h.2.2.2.2.2.1 h.2.2.2.2.2.2):=j06 _ _
def j18 [LP] (c:(List Int)) (e:Tn59) (d:Tn53) (b:Tn30) (a:Tn70):Option (Int):=
 let f:=(Int.ofNat (List.length c))
 (j0L c e d b a f 0).bind fun g=>
 sumC g (fun i=>
 some i) (fun j=>
 some (-1))
def j0M [LP] (d:(List Int)) (e:Tn59) (c:Tn53) (b:Tn30) (a:Tn70):Option (Bool):=
 (j18 d e c b a).bind fun f=>
 some (decide (f≥0))
def j1I [LP] (b:Tn76) (a:Tn64):Option (Int):=
 let n:=(Int.ofNat (List.length b.1))
 (j1z a.2.1 n).bind fun k=>
 cond (!k) (
 some 3) (
 cond (decide (a.2.2.1.1<1)) (
 some 1) (
 (j0Y a.2.2.1.1).bind fun m=>
 cond (!m) (
 some 1) (
 (j5S a.2.2.1.2 0 86399).bind fun o=>
 cond (!o) (
 some 1) (
 (j5S a.2.2.2.1 0 2).bind fun g=>
 cond (!g) (
 some 1) (
 (j5S a.2.2.2.2.1 1 400).bind fun c=>
 cond (!c) (
 some 1) (
 let p:=(Int.ofNat (List.length a.2.2.2.2.2.1))
 cond (p==0) (
 some 7) (
 let j:=(Int.ofNat (List.length a.2.2.2.2.2.1))
 cond (decide (j>12)) (
 some 5) (
 (j0M a.2.2.2.2.2.1 b.1 b.2.1 b.2.2.1 b.2.2.2).bind fun i=>
 cond i (
 some 3) (
 (j6O a.2.2.2.2.2.2.1).bind fun e=>
 cond (e != 0) (
 some 8) (
 (j5S a.2.2.2.2.2.2.2.2 0 2).bind fun f=>
 cond (!f) (
 some 1) (
 let d:=(Int.ofNat (List.length b.2.2.1))
 cond (a.2.2.2.2.2.2.2.2 != 0) (
 (j1z a.2.2.2.2.2.2.2.1 d).bind fun l=>
 cond (!l) (
 some 3) (
 cond (cond (a.2.2.2.2.2.2.2.2==0) (a.2.2.2.2.2.2.2.1 != 0) false) (
 some 1) (
 some 0))) (
 cond (cond (a.2.2.2.2.2.2.2.2==0) (a.2.2.2.2.2.2.2.1 != 0) false) (
 some 1) (
 some 0)))))))))))))
def j1t [LP] (a:Tn64) (f:Tn59) (d:Tn53) (c:Tn30) (b:Tn70):Option (Int):=
 (j1I (f,(d,(c,b))) (a.1,(a.2.1,((a.2.2.1.1,a.2.2.1.2),(a.2.2.2.1,(a.2.2.2.2.1,(a.2.2.2.2.2.1,(a.2.2.2.2.2.2.1,(a.2.2.2.2.2.2.2.1,a.2.2.2.2.2.2.2.2))))))))).bind fun e=>
 some e
def j0w [LP] (m:Tn59) (f:Tn53) (i:Tn30) (e:Tn70) (g:Tn65) (l d:Int) (n:(List (ByteArray×Bool))):Option ((Tn59×Tn53×Tn30×Tn70×Tn65×Int×Int×(List (ByteArray×Bool))) ⊕ (Int ⊕ Unit)):=
 cond (decide (d<l)) (
 cond (inR d (List.length g)) (
 let a:=(List.getD g (Int.toNat d) (ByteArray.empty,(0,((0,0),(0,(0,(([]:(List Int)),(([]:Tn2),(0,0)))))))))
 (j4a (a.1,(a.2.1,((a.2.2.1.1,a.2.2.1.2),(a.2.2.2.1,(a.2.2.2.2.1,(a.2.2.2.2.2.1,(a.2.2.2.2.2.2.1,(a.2.2.2.2.2.2.2.1,a.2.2.2.2.2.2.2.2))))))))).bind fun k=>
 (j2A k n).bind fun b=>
 cond (b.1 != 0) (
 some (.inr (.inl b.1))) (
 (j1t (a.1,(a.2.1,((a.2.2.1.1,a.2.2.1.2),(a.2.2.2.1,(a.2.2.2.2.1,(a.2.2.2.2.2.1,(a.2.2.2.2.2.2.1,(a.2.2.2.2.2.2.2.1,a.2.2.2.2.2.2.2.2)))))))) m f i e).bind fun c=>
 cond (c != 0) (
 some (.inr (.inl c))) (
 let j:=(w64 (d+1))
 some (.inl (m,f,i,e,g,l,j,b.2))))) none) (
 some (.inr (.inr ())))
def j0S [LP] (i:Tn59) (b:Tn53) (c:Tn30) (a:Tn70) (d:Tn65) (e f:Int) (g:(List (ByteArray×Bool))):Option (Int ⊕ Unit):=
 LP.lp (unc8 (j0w)) (i,b,c,a,d,e,f,g)
theorem j4G (i:Tn59) (b:Tn53) (c:Tn30) (a:Tn70) (d:Tn65) (e f:Int) (g:(List (ByteArray×Bool))):j0S i b c a d e f g=lpK (j0w i b c a d e f g) (fun h=>j0S h.1 h.2.1 h.2.2.1 h.2.2.2.1 h.2.2.2.2.1 h.2.2.2.2.2.1 h.2.2.2.2.2.2.1 h.2.2.2.2.2.2.2):=j06 _ _
def j1i [LP] (e:Tn65) (d:Tn59) (b:Tn53) (a:Tn30) (c:Tn70):Option (Int):=
 let g:(List (ByteArray×Bool)):=([]:(List (ByteArray×Bool)))
 let f:=(Int.ofNat (List.length e))
 (j0S d b a c e f 0 g).bind fun i=>
 sumC i (fun j=>
 some j) (fun k=>
 some 0)
def j1Y [LP] (g:Tn76) (a:Tn28):Option (Int):=
 let l:=(Int.ofNat (List.length g.2.1))
 (j5S a.1 0 2).bind fun j=>
 cond (!j) (
 some 1) (
 (j1z a.2.1 l).bind fun f=>
 cond (cond (!f) (!(cond (a.1==1) (a.2.1==(-1)) false)) false) (
 cond (cond (!f) (!(cond (a.1==1) (a.2.1==(-1)) false)) false) (
 some 3) (
 cond (cond (a.1 != 2) (a.2.2.1 != 0) false) (
 some 1) (
 cond (cond (a.1==2) (a.2.1==a.2.2.1) false) (
 some 4) (
 let k:=(w64 (Int.tdiv a.2.2.2.2 86400))
 cond (cond (decide (a.2.2.2.1<0)) true (decide (a.2.2.2.2<0))) (
 some 1) (
 (j0Y k).bind fun i=>
 cond (!i) (
 some 1) (
 cond (decide (a.2.2.2.1≥a.2.2.2.2)) (
 some 6) (
 some 0))))))) (
 cond (a.1==2) (
 (j1z a.2.2.1 l).bind fun m=>
 cond (!m) (
 some 3) (
 cond (cond (a.1 != 2) (a.2.2.1 != 0) false) (
 some 1) (
 cond (cond (a.1==2) (a.2.1==a.2.2.1) false) (
 some 4) (
 let d:=(w64 (Int.tdiv a.2.2.2.2 86400))
 cond (cond (decide (a.2.2.2.1<0)) true (decide (a.2.2.2.2<0))) (
 some 1) (
 (j0Y d).bind fun c=>
 cond (!c) (
 some 1) (
 cond (decide (a.2.2.2.1≥a.2.2.2.2)) (
 some 6) (
 some 0))))))) (
 cond (cond (a.1 != 2) (a.2.2.1 != 0) false) (
 some 1) (
 cond (cond (a.1==2) (a.2.1==a.2.2.1) false) (
 some 4) (
 let b:=(w64 (Int.tdiv a.2.2.2.2 86400))
 cond (cond (decide (a.2.2.2.1<0)) true (decide (a.2.2.2.2<0))) (
 some 1) (
 (j0Y b).bind fun e=>
 cond (!e) (
 some 1) (
 cond (decide (a.2.2.2.1≥a.2.2.2.2)) (
 some 6) (
 some 0))))))))
def j0B [LP] (d:Tn34) (j c:Int) (k:Tn59) (f:Tn53) (e:Tn30) (g:Tn70):Option ((Tn34×Int×Int×Tn59×Tn53×Tn30×Tn70) ⊕ (Int ⊕ Unit)):=
 cond (decide (c<j)) (
 cond (inR c (List.length d)) (
 let a:=(List.getD d (Int.toNat c) (0,(0,(0,(0,0)))))
 (j1Y (k,(f,(e,g))) (a.1,(a.2.1,(a.2.2.1,(a.2.2.2.1,a.2.2.2.2))))).bind fun b=>
 cond (b != 0) (
 some (.inr (.inl b))) (
 let i:=(w64 (c+1))
 some (.inl (d,j,i,k,f,e,g)))) none) (
 some (.inr (.inr ())))
def j1u [LP] (d:Tn34) (e f:Int) (g:Tn59) (b:Tn53) (a:Tn30) (c:Tn70):Option (Int ⊕ Unit):=
 LP.lp (unc7 (j0B)) (d,e,f,g,b,a,c)
theorem j5r (d e f g b a c):j1u d e f g b a c=lpK (j0B d e f g b a c) (fun h=>j1u h.1 h.2.1 h.2.2.1 h.2.2.2.1 h.2.2.2.2.1 h.2.2.2.2.2.1 h.2.2.2.2.2.2):=j06 _ _
def j1d [LP] (a:Tn76) (b:Tn69):Option (Int):=
 let d:=(Int.ofNat (List.length b.2.1))
 let e:=(Int.ofNat (List.length b.2.2))
 cond (cond (decide (d>6)) true (decide (e>48))) (
 some 5) (
 (j1i b.2.1 a.1 a.2.1 a.2.2.1 a.2.2.2).bind fun c=>
 cond (c != 0) (
 some c) (
 let f:=(Int.ofNat (List.length b.2.2))
 (j1u b.2.2 f 0 a.1 a.2.1 a.2.2.1 a.2.2.2).bind fun g=>
 sumC g (fun i=>
 some i) (fun j=>
 some 0)))
def j3x [LP] (a:Tn69) (f:Tn59) (d:Tn53) (c:Tn30) (b:Tn70):Option (Int):=
 (j1d (f,(d,(c,b))) (a.1,(a.2.1,a.2.2))).bind fun e=>
 some e
def j0q [LP] (m:Tn59) (f:Tn53) (i:Tn30) (e g:Tn70) (l d:Int) (n:(List (ByteArray×Bool))):Option ((Tn59×Tn53×Tn30×Tn70×Tn70×Int×Int×(List (ByteArray×Bool))) ⊕ (Int ⊕ Unit)):=
 cond (decide (d<l)) (
 cond (inR d (List.length g)) (
 let a:=(List.getD g (Int.toNat d) (ByteArray.empty,(([]:Tn65),([]:Tn34))))
 (j8H (a.1,(a.2.1,a.2.2))).bind fun k=>
 (j2A k n).bind fun b=>
 cond (b.1 != 0) (
 some (.inr (.inl b.1))) (
 (j3x (a.1,(a.2.1,a.2.2)) m f i e).bind fun c=>
 cond (c != 0) (
 some (.inr (.inl c))) (
 let j:=(w64 (d+1))
 some (.inl (m,f,i,e,g,l,j,b.2))))) none) (
 some (.inr (.inr ())))
def j0G [LP] (i:Tn59) (b:Tn53) (c:Tn30) (a d:Tn70) (e f:Int) (g:(List (ByteArray×Bool))):Option (Int ⊕ Unit):=
 LP.lp (unc8 (j0q)) (i,b,c,a,d,e,f,g)
theorem j3Z (i:Tn59) (b:Tn53) (c:Tn30) (a d:Tn70) (e f:Int) (g:(List (ByteArray×Bool))):j0G i b c a d e f g=lpK (j0q i b c a d e f g) (fun h=>j0G h.1 h.2.1 h.2.2.1 h.2.2.2.1 h.2.2.2.2.1 h.2.2.2.2.2.1 h.2.2.2.2.2.2.1 h.2.2.2.2.2.2.2):=j06 _ _
def j1g [LP] (e:Tn70) (d:Tn59) (b:Tn53) (a:Tn30) (c:Tn70):Option (Int):=
 let g:(List (ByteArray×Bool)):=([]:(List (ByteArray×Bool)))
 let f:=(Int.ofNat (List.length e))
 (j0G d b a c e f 0 g).bind fun i=>
 sumC i (fun j=>
 some j) (fun k=>
 some 0)
def j1e [LP] (g:Tn53) (i f:Int) (j:Tn59) (e:Tn53) (d:Tn30) (c:Tn70) (r:(List (ByteArray×Bool))):Option ((Tn53×Int×Int×Tn59×Tn53×Tn30×Tn70×(List (ByteArray×Bool))) ⊕ (Int ⊕ (Tn59×Tn53×Tn30×Tn70))):=
 cond (decide (f<i)) (
 cond (inR f (List.length g)) (
 let a:=(List.getD g (Int.toNat f) (ByteArray.empty,(0,(([]:Tn2),(0,(0,false))))))
 (j2A a.1 r).bind fun b=>
 let q:Bool:=(ByteArray.toList a.1==ByteArray.toList (ByteArray.mk #[110,111,98,111,100,121]))
 cond q (
 cond (2==0) (
 (j1h (j,(e,(d,c))) (a.1,(a.2.1,(a.2.2.1,(a.2.2.2.1,(a.2.2.2.2.1,a.2.2.2.2.2)))))).bind fun k=>
 cond (k != 0) (
 some (.inr (.inl k))) (
 let m:=(w64 (f+1))
 some (.inl (g,i,m,j,e,d,c,b.2)))) (
 cond (2 != 0) (
 some (.inr (.inl 2))) (
 let p:=(w64 (f+1))
 some (.inl (g,i,p,j,e,d,c,b.2))))) (
 cond (b.1==0) (
 (j1h (j,(e,(d,c))) (a.1,(a.2.1,(a.2.2.1,(a.2.2.2.1,(a.2.2.2.2.1,a.2.2.2.2.2)))))).bind fun l=>
 cond (l != 0) (
 some (.inr (.inl l))) (
 let n:=(w64 (f+1))
 some (.inl (g,i,n,j,e,d,c,b.2)))) (
 cond (b.1 != 0) (
 some (.inr (.inl b.1))) (
 let o:=(w64 (f+1))
 some (.inl (g,i,o,j,e,d,c,b.2)))))) none) (
 some (.inr (.inr (j,e,d,c))))
def j2X [LP] (e:Tn53) (f d:Int) (g:Tn59) (c:Tn53) (b:Tn30) (a:Tn70) (i:(List (ByteArray×Bool))):Option (Int ⊕ (Tn59×Tn53×Tn30×Tn70)):=
 LP.lp (unc8 (j1e)) (e,f,d,g,c,b,a,i)
theorem j9u (e:Tn53) (f d:Int) (g:Tn59) (c:Tn53) (b:Tn30) (a:Tn70) (i:(List (ByteArray×Bool))):j2X e f d g c b a i=lpK (j1e e f d g c b a i) (fun h=>j2X h.1 h.2.1 h.2.2.1 h.2.2.2.1 h.2.2.2.2.1 h.2.2.2.2.2.1 h.2.2.2.2.2.2.1 h.2.2.2.2.2.2.2):=j06 _ _
def j2z [LP] (a:Tn76):Option (Int):=
 let g:=(Int.ofNat (List.length a.1))
 let l:=(Int.ofNat (List.length a.2.1))
 let e:=(Int.ofNat (List.length a.2.2.1))
 let j:Bool:=(cond (cond (decide (g>16)) true (decide (l>32))) true (decide (e>8)))
 let m:=(Int.ofNat (List.length a.2.2.2))
 cond (cond j true (decide (m>12))) (
 some 5) (
 (j1n a.1).bind fun d=>
 cond (d != 0) (
 some d) (
 let f:(List (ByteArray×Bool)):=([]:(List (ByteArray×Bool)))
 let k:=(Int.ofNat (List.length a.2.1))
 (j2X a.2.1 k 0 a.1 a.2.1 a.2.2.1 a.2.2.2 f).bind fun n=>
 sumC n (fun o=>
 some o) (fun b=>
 (j0R b.2.2.1 b.1 b.2.1 b.2.2.1 b.2.2.2).bind fun c=>
 cond (c != 0) (
 some c) (
 (j1g b.2.2.2 b.1 b.2.1 b.2.2.1 b.2.2.2).bind fun i=>
 some i))))
def jbI (b:Tn76) (a:Int):Option (Bool):=
 let c:=(Int.ofNat (List.length b.2.2.2))
 some (cond (decide (a≥0)) (decide (a<c)) false)
def j1J (a:Tn59):Option (Tn59):=
 cond (decide (List.length ([]:List (Tn57))+List.length a≤j0a)) (
 some (([]:List (Tn57))++a)) none
def j1l (a:Tn53):Option (Tn53):=
 cond (decide (List.length ([]:List (Tn49))+List.length a≤j0a)) (
 some (([]:List (Tn49))++a)) none
def j11 (a:Tn30):Option (Tn30):=
 cond (decide (List.length ([]:List (Tn22))+List.length a≤j0a)) (
 some (([]:List (Tn22))++a)) none
def j12 (a:Tn70):Option (Tn70):=
 cond (decide (List.length ([]:List (Tn69))+List.length a≤j0a)) (
 some (([]:List (Tn69))++a)) none
def j13 (a:Tn47):Option (Tn47):=
 cond (decide (List.length ([]:List (Tn43))+List.length a≤j0a)) (
 some (([]:List (Tn43))++a)) none
def j0O (a:Tn2):Option (Tn2):=
 cond (decide (List.length ([]:List ((Int×Int)))+List.length a≤j0a)) (
 some (([]:List ((Int×Int)))++a)) none
def j32 (a:(List Int)):Option ((List Int)):=
 cond (decide (List.length ([]:List (Int))+List.length a≤j0a)) (
 some (([]:List (Int))++a)) none
def j14 (a:Tn65):Option (Tn65):=
 cond (decide (List.length ([]:List (Tn64))+List.length a≤j0a)) (
 some (([]:List (Tn64))++a)) none
def j1f (a:Tn34):Option (Tn34):=
 cond (decide (List.length ([]:List (Tn28))+List.length a≤j0a)) (
 some (([]:List (Tn28))++a)) none
def j4b (m d:Int) (e:ByteArray) (c:Tn65) (b:Tn34) (a:Tn59) (g:Tn53) (f:Tn30):Option ((Int×Int×ByteArray×Tn65×Tn34×Tn59×Tn53×Tn30) ⊕ ((ByteArray×Tn65×Tn34×Tn59×Tn53×Tn30))):=
 cond (decide (d<m)) (
 cond (inR d (List.length a)) (
 let l:=(List.getD a (Int.toNat d) (ByteArray.empty,(0,([]:Tn47)))).2.2
 (j13 l).bind fun i=>
 cond (inR d (List.length a)) (
 let k:Tn59:=(List.set a (Int.toNat d) ((List.getD a (Int.toNat d) (ByteArray.empty,(0,([]:Tn47)))).1,((List.getD a (Int.toNat d) (ByteArray.empty,(0,([]:Tn47)))).2.1,i)))
 let j:=(w64 (d+1))
 some (.inl (m,j,e,c,b,k,g,f))) none) none) (
 some (.inr (e,c,b,a,g,f)))
def j5s [LP] (g i:Int) (c:ByteArray) (b:Tn65) (a:Tn34) (f:Tn59) (e:Tn53) (d:Tn30):Option ((ByteArray×Tn65×Tn34×Tn59×Tn53×Tn30)):=
 LP.lp (unc8 (j4b)) (g,i,c,b,a,f,e,d)
theorem jcX (g i c b a f e d):j5s g i c b a f e d=lpK (j4b g i c b a f e d) (fun h=>j5s h.1 h.2.1 h.2.2.1 h.2.2.2.1 h.2.2.2.2.1 h.2.2.2.2.2.1 h.2.2.2.2.2.2.1 h.2.2.2.2.2.2.2):=j06 _ _
def j4c (m b:Int) (e:ByteArray) (d:Tn65) (c:Tn34) (g:Tn59) (a:Tn53) (f:Tn30):Option ((Int×Int×ByteArray×Tn65×Tn34×Tn59×Tn53×Tn30) ⊕ ((ByteArray×Tn65×Tn34×Tn59×Tn53×Tn30))):=
 cond (decide (b<m)) (
 cond (inR b (List.length a)) (
 let k:=(List.getD a (Int.toNat b) (ByteArray.empty,(0,(([]:Tn2),(0,(0,false)))))).2.2.1
 (j0O k).bind fun l=>
 cond (inR b (List.length a)) (
 let i:Tn53:=(List.set a (Int.toNat b) ((List.getD a (Int.toNat b) (ByteArray.empty,(0,(([]:Tn2),(0,(0,false)))))).1,((List.getD a (Int.toNat b) (ByteArray.empty,(0,(([]:Tn2),(0,(0,false)))))).2.1,(l,((List.getD a (Int.toNat b) (ByteArray.empty,(0,(([]:Tn2),(0,(0,false)))))).2.2.2.1,((List.getD a (Int.toNat b) (ByteArray.empty,(0,(([]:Tn2),(0,(0,false)))))).2.2.2.2.1,(List.getD a (Int.toNat b) (ByteArray.empty,(0,(([]:Tn2),(0,(0,false)))))).2.2.2.2.2))))))
 let j:=(w64 (b+1))
 some (.inl (m,j,e,d,c,g,i,f))) none) none) (
 some (.inr (e,d,c,g,a,f)))
def j5t [LP] (i g:Int) (c:ByteArray) (b:Tn65) (a:Tn34) (f:Tn59) (e:Tn53) (d:Tn30):Option ((ByteArray×Tn65×Tn34×Tn59×Tn53×Tn30)):=
 LP.lp (unc8 (j4c)) (i,g,c,b,a,f,e,d)
theorem jcY (i g c b a f e d):j5t i g c b a f e d=lpK (j4c i g c b a f e d) (fun h=>j5t h.1 h.2.1 h.2.2.1 h.2.2.2.1 h.2.2.2.2.1 h.2.2.2.2.2.1 h.2.2.2.2.2.2.1 h.2.2.2.2.2.2.2):=j06 _ _
def j4d (m d:Int) (e:ByteArray) (c:Tn65) (b:Tn34) (g:Tn59) (f:Tn53) (a:Tn30):Option ((Int×Int×ByteArray×Tn65×Tn34×Tn59×Tn53×Tn30) ⊕ ((ByteArray×Tn65×Tn34×Tn59×Tn53×Tn30))):=
 cond (decide (d<m)) (
 cond (inR d (List.length a)) (
 let k:=(List.getD a (Int.toNat d) (ByteArray.empty,(0,([]:(List Int))))).2.2
 (j32 k).bind fun i=>
 cond (inR d (List.length a)) (
 let j:Tn30:=(List.set a (Int.toNat d) ((List.getD a (Int.toNat d) (ByteArray.empty,(0,([]:(List Int))))).1,((List.getD a (Int.toNat d) (ByteArray.empty,(0,([]:(List Int))))).2.1,i)))
 let l:=(w64 (d+1))
 some (.inl (m,l,e,c,b,g,f,j))) none) none) (
 some (.inr (e,c,b,g,f,a)))
def j5u [LP] (i g:Int) (c:ByteArray) (b:Tn65) (a:Tn34) (f:Tn59) (e:Tn53) (d:Tn30):Option ((ByteArray×Tn65×Tn34×Tn59×Tn53×Tn30)):=
 LP.lp (unc8 (j4d)) (i,g,c,b,a,f,e,d)
theorem jcZ (i g c b a f e d):j5u i g c b a f e d=lpK (j4d i g c b a f e d) (fun h=>j5u h.1 h.2.1 h.2.2.1 h.2.2.2.1 h.2.2.2.2.1 h.2.2.2.2.2.1 h.2.2.2.2.2.2.1 h.2.2.2.2.2.2.2):=j06 _ _
def j4e (q r j b:Int) (e:ByteArray) (o:Tn59) (m:Tn53) (g:Tn30) (a:Tn65) (d:Tn34):Option ((Int×Int×Int×Int×ByteArray×Tn59×Tn53×Tn30×Tn65×Tn34) ⊕ ((Int×Int×ByteArray×Tn59×Tn53×Tn30×Tn65×Tn34))):=
 cond (decide (b<j)) (
 cond (inR b (List.length a)) (
 let l:=(List.getD a (Int.toNat b) (ByteArray.empty,(0,((0,0),(0,(0,(([]:(List Int)),(([]:Tn2),(0,0))))))))).2.2.2.2.2.1
 (j32 l).bind fun n=>
 cond (inR b (List.length a)) (
 let i:=(List.getD a (Int.toNat b) (ByteArray.empty,(0,((0,0),(0,(0,(([]:(List Int)),(([]:Tn2),(0,0))))))))).2.2.2.2.2.2.1
 (j0O i).bind fun f=>
 cond (inR b (List.length a)) (
 let c:Tn65:=(List.set a (Int.toNat b) ((List.getD a (Int.toNat b) (ByteArray.empty,(0,((0,0),(0,(0,(([]:(List Int)),(([]:Tn2),(0,0))))))))).1,((List.getD a (Int.toNat b) (ByteArray.empty,(0,((0,0),(0,(0,(([]:(List Int)),(([]:Tn2),(0,0))))))))).2.1,(((List.getD a (Int.toNat b) (ByteArray.empty,(0,((0,0),(0,(0,(([]:(List Int)),(([]:Tn2),(0,0))))))))).2.2.1.1,(List.getD a (Int.toNat b) (ByteArray.empty,(0,((0,0),(0,(0,(([]:(List Int)),(([]:Tn2),(0,0))))))))).2.2.1.2),((List.getD a (Int.toNat b) (ByteArray.empty,(0,((0,0),(0,(0,(([]:(List Int)),(([]:Tn2),(0,0))))))))).2.2.2.1,((List.getD a (Int.toNat b) (ByteArray.empty,(0,((0,0),(0,(0,(([]:(List Int)),(([]:Tn2),(0,0))))))))).2.2.2.2.1,(n,((List.getD a (Int.toNat b) (ByteArray.empty,(0,((0,0),(0,(0,(([]:(List Int)),(([]:Tn2),(0,0))))))))).2.2.2.2.2.2.1,((List.getD a (Int.toNat b) (ByteArray.empty,(0,((0,0),(0,(0,(([]:(List Int)),(([]:Tn2),(0,0))))))))).2.2.2.2.2.2.2.1,(List.getD a (Int.toNat b) (ByteArray.empty,(0,((0,0),(0,(0,(([]:(List Int)),(([]:Tn2),(0,0))))))))).2.2.2.2.2.2.2.2)))))))))
 cond (inR b (List.length c)) (
 let p:Tn65:=(List.set c (Int.toNat b) ((List.getD c (Int.toNat b) (ByteArray.empty,(0,((0,0),(0,(0,(([]:(List Int)),(([]:Tn2),(0,0))))))))).1,((List.getD c (Int.toNat b) (ByteArray.empty,(0,((0,0),(0,(0,(([]:(List Int)),(([]:Tn2),(0,0))))))))).2.1,(((List.getD c (Int.toNat b) (ByteArray.empty,(0,((0,0),(0,(0,(([]:(List Int)),(([]:Tn2),(0,0))))))))).2.2.1.1,(List.getD c (Int.toNat b) (ByteArray.empty,(0,((0,0),(0,(0,(([]:(List Int)),(([]:Tn2),(0,0))))))))).2.2.1.2),((List.getD c (Int.toNat b) (ByteArray.empty,(0,((0,0),(0,(0,(([]:(List Int)),(([]:Tn2),(0,0))))))))).2.2.2.1,((List.getD c (Int.toNat b) (ByteArray.empty,(0,((0,0),(0,(0,(([]:(List Int)),(([]:Tn2),(0,0))))))))).2.2.2.2.1,((List.getD c (Int.toNat b) (ByteArray.empty,(0,((0,0),(0,(0,(([]:(List Int)),(([]:Tn2),(0,0))))))))).2.2.2.2.2.1,(f,((List.getD c (Int.toNat b) (ByteArray.empty,(0,((0,0),(0,(0,(([]:(List Int)),(([]:Tn2),(0,0))))))))).2.2.2.2.2.2.2.1,(List.getD c (Int.toNat b) (ByteArray.empty,(0,((0,0),(0,(0,(([]:(List Int)),(([]:Tn2),(0,0))))))))).2.2.2.2.2.2.2.2)))))))))
 let k:=(w64 (b+1))
 some (.inl (q,r,j,k,e,o,m,g,p,d))) none) none) none) none) (
 some (.inr (q,r,e,o,m,g,a,d)))
def j4t [LP] (j k e g:Int) (c:ByteArray) (i:Tn59) (f:Tn53) (d:Tn30) (a:Tn65) (b:Tn34):Option ((Int×Int×ByteArray×Tn59×Tn53×Tn30×Tn65×Tn34)):=
 LP.lp (jiY (j4e)) (j,k,e,g,c,i,f,d,a,b)
theorem jd0 (j k e g c i f d a b):j4t j k e g c i f d a b=lpK (j4e j k e g c i f d a b) (fun h=>j4t h.1 h.2.1 h.2.2.1 h.2.2.2.1 h.2.2.2.2.1 h.2.2.2.2.2.1 h.2.2.2.2.2.2.1 h.2.2.2.2.2.2.2.1 h.2.2.2.2.2.2.2.2.1 h.2.2.2.2.2.2.2.2.2):=j06 _ _
def j9v [LP] (b:Tn76):Option (Tn59×Tn53×Tn30×ByteArray×Tn65×Tn34):=
 (j1J b.1).bind fun l=>
 (j1l b.2.1).bind fun s=>
 (j11 b.2.2.1).bind fun w=>
 (j12 b.2.2.2).bind fun m=>
 cond (Nat.beq (List.length m) 1) (
 let n:=(List.getD m 0 (ByteArray.empty,(([]:Tn65),([]:Tn34))))
 let v:=(Int.ofNat (List.length l))
 (j5s v 0 n.1 n.2.1 n.2.2 l s w).bind fun d=>
 let r:=(Int.ofNat (List.length d.2.2.2.2.1))
 (j5t r 0 d.1 d.2.1 d.2.2.1 d.2.2.2.1 d.2.2.2.2.1 d.2.2.2.2.2).bind fun c=>
 let t:=(Int.ofNat (List.length c.2.2.2.2.2))
 (j5u t 0 c.1 c.2.1 c.2.2.1 c.2.2.2.1 c.2.2.2.2.1 c.2.2.2.2.2).bind fun g=>
 (j14 g.2.1).bind fun k=>
 (j1f g.2.2.1).bind fun o=>
 let q:=(Int.ofNat (List.length k))
 (j4t 1 0 q 0 g.1 g.2.2.2.1 g.2.2.2.2.1 g.2.2.2.2.2 k o).bind fun a=>
 let e:=(w64 (a.2.1+1))
 cond (decide (e<a.1)) (
 cond (inR e 1) (
 (j14 a.2.2.2.2.2.2.1).bind fun f=>
 (j1f a.2.2.2.2.2.2.2).bind fun j=>
 let i:=(Int.ofNat (List.length f))
 (j4t a.1 e i 0 a.2.2.1 a.2.2.2.1 a.2.2.2.2.1 a.2.2.2.2.2.1 f j).bind fun p=>
 let u:=(w64 (p.2.1+1))
 none) none) (
 some (a.2.2.2.1,a.2.2.2.2.1,a.2.2.2.2.2.1,a.2.2.1,a.2.2.2.2.2.2.1,a.2.2.2.2.2.2.2))) none
def j88 [LP] (a:Tn76) (b:Int):Option (Int×Tn59×Tn53×Tn30×ByteArray×Tn65×Tn34):=
 (j2z (a.1,(a.2.1,(a.2.2.1,a.2.2.2)))).bind fun e=>
 cond (e != 0) (
 none) (
 (jbI (a.1,(a.2.1,(a.2.2.1,a.2.2.2))) b).bind fun d=>
 cond (!d) (
 none) (
 (j9v (a.1,(a.2.1,(a.2.2.1,a.2.2.2)))).bind fun c=>
 some (0,c.1,c.2.1,c.2.2.1,c.2.2.2.1,c.2.2.2.2.1,c.2.2.2.2.2)))
def j9k [LP] (d:Tn76) (b:Int) (c:Tn28):Option (Tn76×Int):=
 (j88 (d.1,(d.2.1,(d.2.2.1,d.2.2.2))) b).bind fun a=>
 cond (a.1 != 0) (
 some ((([]:Tn59),(([]:Tn53),(([]:Tn30),([]:Tn70)))),a.1)) (
 cond (inR b 1) (
 let f:Tn34:=[(c.1,(c.2.1,(c.2.2.1,(c.2.2.2.1,c.2.2.2.2))))]
 cond (decide (List.length a.2.2.2.2.2.2+List.length f≤j0a)) (
 let e:Tn34:=(a.2.2.2.2.2.2++f)
 (j2z (a.2.1,(a.2.2.1,(a.2.2.2.1,[(a.2.2.2.2.1,(a.2.2.2.2.2.1,e))])))).bind fun g=>
 cond (g != 0) (
 some ((([]:Tn59),(([]:Tn53),(([]:Tn30),([]:Tn70)))),g)) (
 some ((a.2.1,(a.2.2.1,(a.2.2.2.1,[(a.2.2.2.2.1,(a.2.2.2.2.2.1,e))]))),0))) none) none)
def j1A (a:Tn34) (b c:Int):Option (Int×Tn34):=
 let g:=(Int.ofNat (List.length a))
 cond (decide (0≤b)&&(decide (b≤c)&&(decide (c≤g)&&decide (g≤(Int.ofNat (List.length a)))))) (
 cond (b==c) (
 some ((Int.ofNat (List.length a)),a)) (
 let f:=(Int.ofNat (List.length a))
 cond (decide (0≤b)&&decide (b≤(Int.ofNat (List.length a)))) (
 cond (decide (0≤c)&&decide (c≤(Int.ofNat (List.length a)))) (
 cond (decide ((Int.toNat b)≤(Int.toNat c))) (
 let e:Tn34:=(List.take (Int.toNat b) a++(List.drop (Int.toNat c) a++List.drop ((Int.toNat b)+(List.length a-(Int.toNat c))) a))
 let d:=(Int.ofNat ((Int.toNat b)+(List.length a-(Int.toNat c))))
 cond (decide (0≤d)&&(decide (d≤f)&&decide (f=(Int.ofNat (List.length e))))) (
 let i:Tn34:=(List.take (Int.toNat d) e++List.replicate (List.length e-(Int.toNat d)) (0,(0,(0,(0,0)))))
 some ((Int.ofNat ((Int.toNat b)+(List.length a-(Int.toNat c)))),i)) none) none) none) none)) none
def j19 [LP] (d:Tn76) (b a:Int):Option (Tn76×Int):=
 (j88 (d.1,(d.2.1,(d.2.2.1,d.2.2.2))) b).bind fun c=>
 cond (c.1 != 0) (
 some ((([]:Tn59),(([]:Tn53),(([]:Tn30),([]:Tn70)))),c.1)) (
 cond (inR b 1) (
 let g:=(Int.ofNat (List.length c.2.2.2.2.2.2))
 cond (cond (decide (a<0)) true (decide (a≥g))) (
 some ((([]:Tn59),(([]:Tn53),(([]:Tn30),([]:Tn70)))),10)) (
 let f:=(w64 (a+1))
 (j1A c.2.2.2.2.2.2 a f).bind fun e=>
 let i:Tn34:=(List.take (Int.toNat e.1) e.2)
 some ((c.2.1,(c.2.2.1,(c.2.2.2.1,[(c.2.2.2.2.1,(c.2.2.2.2.2.1,i))]))),0))) none)
def jie [LP] (a:Tn57):Option (Tn15×Int):=
 (j1O (a.1,(a.2.1,a.2.2))).bind fun b=>
 some ((a.2.1,b.1),b.2)
def j3g [LP] (i:Tn59) (j d:Int) (g:Tn23):Option ((Tn59×Int×Int×Tn23) ⊕ (Tn23)):=
 cond (decide (d<j)) (
 cond (inR d (List.length i)) (
 let a:=(List.getD i (Int.toNat d) (ByteArray.empty,(0,([]:Tn47))))
 (jie (a.1,(a.2.1,a.2.2))).bind fun b=>
 let c:Tn23:=[(b.1.1,b.1.2)]
 cond (decide (List.length g+List.length c≤j0a)) (
 let e:Tn23:=(g++c)
 let f:=(w64 (d+1))
 some (.inl (i,j,f,e))) none) none) (
 some (.inr g))
def jaA [LP] (d:Tn59) (c a:Int) (b:Tn23):Option (Tn23):=
 LP.lp (unc4 (j3g)) (d,c,a,b)
def j9w [LP] (a:Tn59):Option (Tn23):=
 let c:=(Int.ofNat (List.length a))
 (jaA a c 0 ([]:Tn23)).bind fun b=>
 some b
def jd1 [LP] (a:Tn76):Option (Tn78):=
 (j9w a.1).bind fun b=>
 some ((a.1,(a.2.1,(a.2.2.1,a.2.2.2))),b)
def jif [LP] (a:Tn76):Option (Tn78×Bool):=
 (j2z (a.1,(a.2.1,(a.2.2.1,a.2.2.2)))).bind fun c=>
 cond (c != 0) (
 some (((([]:Tn59),(([]:Tn53),(([]:Tn30),([]:Tn70)))),([]:Tn23)),false)) (
 (jd1 (a.1,(a.2.1,(a.2.2.1,a.2.2.2)))).bind fun b=>
 some (((b.1.1,(b.1.2.1,(b.1.2.2.1,b.1.2.2.2))),b.2),true))
def j3h (a:Tn65):Option (Tn65):=
 some a
def jgh (a:Tn64):Option (Int):=
 cond (a.2.2.2.1==2) (
 let b:=(w64 (7*a.2.2.2.2.1))
 some b) (
 some a.2.2.2.2.1)
def j9x (a e:Int) (b:Tn2) (c:Int):Option (Bool):=
 cond (inR a (List.length b)) (
 let d:=(List.getD b (Int.toNat a) (0,0))
 some (decide (d.1>c))) none
def j9y (k:Int) (b:Tn2) (a i l:Int):Option ((Int×Tn2×Int×Int×Int) ⊕ (Int)):=
 cond (decide (i<l)) (
 let e:=(w64 (i+l))
 let d:Int:=(IntKind.wrap .u64 e)
 let f:Int:=(Int.fdiv d 2)
 let c:=(w64 f)
 (j9x c k b a).bind fun g=>
 cond (!g) (
 let j:=(w64 (c+1))
 some (.inl (k,b,a,j,l))) (
 some (.inl (k,b,a,i,c)))) (
 some (.inr i))
def jaB [LP] (c:Int) (b:Tn2) (a d e:Int):Option (Int):=
 LP.lp (unc5 (j9y)) (c,b,a,d,e)
def j9z [LP] (d c:Int) (b:Tn2) (a:Int):Option (Int):=
 (jaB c b a 0 d).bind fun e=>
 some e
def j3y [LP] (a:Tn15) (b:Int):Option (Int):=
 let c:=(Int.ofNat (List.length a.2))
 (j9z c a.1 a.2 b).bind fun d=>
 some d
def j5T (a:Tn15) (b:Int):Option (Int):=
 cond (b==0) (
 some a.1) (
 let c:=(w64 (b-1))
 cond (inR c (List.length a.2)) (
 let d:=(List.getD a.2 (Int.toNat c) (0,0))
 some d.2) none)
def j1L [LP] (l c i:Int) (a:Tn2) (j:Tn17):Option ((Int×Int×Int×Tn2×Tn17) ⊕ (Tn17)):=
 cond (decide (l<c)) (
 (j3y (i,a) l).bind fun b=>
 let p:=(Int.ofNat (List.length a))
 cond (decide (b<p)) (
 cond (inR b (List.length a)) (
 let d:=(List.getD a (Int.toNat b) (0,0))
 let f:Int:=(if d.1<c then d.1 else c:Int)
 (j5T (i,a) b).bind fun n=>
 let e:Tn17:=[(l,(f,n))]
 cond (decide (List.length j+List.length e≤j0a)) (
 let k:Tn17:=(j++e)
 some (.inl (f,c,i,a,k))) none) none) (
 (j5T (i,a) b).bind fun o=>
 let g:Tn17:=[(l,(c,o))]
 cond (decide (List.length j+List.length g≤j0a)) (
 let m:Tn17:=(j++g)
 some (.inl (c,c,i,a,m))) none)) (
 some (.inr j))
def j64 [LP] (c e b:Int) (a:Tn2) (d:Tn17):Option (Tn17):=
 LP.lp (unc5 (j1L)) (c,e,b,a,d)
def j4f [LP] (b:Tn15) (a c:Int):Option (Tn17):=
 (j64 a c b.1 b.2 ([]:Tn17)).bind fun d=>
 some d
def jgG (a:(Int×Int)):Option (Int):=
 let b:Int:=(if (-1048576)>a.1 then (-1048576) else a.1:Int)
 let e:Int:=(if 1048576<b then 1048576 else b:Int)
 let d:=(w64 (e*86400))
 let c:=(w64 (d+a.2))
 some c
def j6P (j d k e:Int) (f:Tn17):Option ((Int×Int×Int×Int×Tn17) ⊕ ((Int×Bool) ⊕ Unit)):=
 cond (decide (d<j)) (
 cond (inR d (List.length f)) (
 let a:=(List.getD f (Int.toNat d) (0,(0,0)))
 (jgG (k,e)).bind fun g=>
 let b:=(w64 (g-a.2.2))
 let c:Int:=(if b>a.1 then b else a.1:Int)
 cond (decide (c<a.2.1)) (
 some (.inr (.inl (c,true)))) (
 let i:=(w64 (d+1))
 some (.inl (j,i,k,e,f)))) none) (
 some (.inr (.inr ())))
def j6C [LP] (b d e a:Int) (c:Tn17):Option ((Int×Bool) ⊕ Unit):=
 LP.lp (unc5 (j6P)) (b,d,e,a,c)
def j3z [LP] (a:Tn15) (b:(Int×Int)):Option (Int×Bool):=
 (j4f (a.1,a.2) 0 8589934593).bind fun c=>
 let d:=(Int.ofNat (List.length c))
 (j6C d 0 b.1 b.2 c).bind fun e=>
 sumC e (fun f=>
 some (f.1,f.2)) (fun g=>
 some (0,false))
def j2Y [LP] (b:Tn15) (a:Tn64) (c:Int):Option (Int×Bool):=
 cond (decide (c>8589934592)) (
 some (0,false)) (
 cond (a.2.2.2.1 != 0) (
 (jgh (a.1,(a.2.1,((a.2.2.1.1,a.2.2.1.2),(a.2.2.2.1,(a.2.2.2.2.1,(a.2.2.2.2.2.1,(a.2.2.2.2.2.2.1,(a.2.2.2.2.2.2.2.1,a.2.2.2.2.2.2.2.2))))))))).bind fun k=>
 let g:=(w64 (c*k))
 let i:=(w64 (a.2.2.1.1+g))
 (j3z (b.1,b.2) (i,a.2.2.1.2)).bind fun f=>
 some (f.1,f.2)) (
 (j3z (b.1,b.2) (a.2.2.1.1,a.2.2.1.2)).bind fun e=>
 let j:=(w64 (3600*a.2.2.2.2.1))
 let l:=(w64 (j*c))
 let d:=(w64 (e.1+l))
 some (d,(cond e.2 (decide (d≤8589934592)) false))))
def j4g [LP] (a:Tn15) (b:Int):Option (Int):=
 (j3y (a.1,a.2) b).bind fun d=>
 (j5T (a.1,a.2) d).bind fun c=>
 some c
def jjT (a:Int):Option ((Int×Int)):=
 let e:=(w64 (Int.tdiv a 86400))
 let i:=(Int.tmod a 86400)
 cond (decide (i<0)) (
 let d:=(w64 (e-1))
 let f:=(w64 (d*86400))
 let g:=(w64 (a-f))
 some (d,g)) (
 let c:=(w64 (e*86400))
 let b:=(w64 (a-c))
 some (e,b))
def j2n [LP] (a:Tn15) (b:Int):Option ((Int×Int)):=
 (j4g (a.1,a.2) b).bind fun e=>
 let d:=(w64 (b+e))
 (jjT d).bind fun c=>
 some (c.1,c.2)
def j2B [LP] (q m n:Int) (c:Tn2) (p:ByteArray) (k j b a d:Int) (i:(List Int)) (g:Tn2) (e f:Int):Option ((Int×Int×Int×Tn2×ByteArray×Int×Int×Int×Int×Int×(List Int)×Tn2×Int×Int) ⊕ ((Int×Int×Int×Tn2×ByteArray×Int×Int×Int×Int×Int×(List Int)×Tn2×Int×Int))):=
 cond (decide (m>0)) (
 (j2Y (n,c) (p,(k,((j,b),(a,(d,(i,(g,(e,f)))))))) m).bind fun l=>
 cond (cond l.2 (decide (l.1≤q)) false) (
 some (.inr (q,m,n,c,p,k,j,b,a,d,i,g,e,f))) (
 let o:=(w64 (m-1))
 some (.inl (q,o,n,c,p,k,j,b,a,d,i,g,e,f)))) (
 some (.inr (q,m,n,c,p,k,j,b,a,d,i,g,e,f)))
def j8I [LP] (n o l:Int) (c:Tn2) (m:ByteArray) (k j b a d:Int) (i:(List Int)) (g:Tn2) (e f:Int):Option ((Int×Int×Int×Tn2×ByteArray×Int×Int×Int×Int×Int×(List Int)×Tn2×Int×Int)):=
 LP.lp (jsb (j2B)) (n,o,l,c,m,k,j,b,a,d,i,g,e,f)
def j2C [LP] (r o p:Int) (d:Tn2) (q:ByteArray) (l k c b e:Int) (j:(List Int)) (i:Tn2) (f g:Int):Option ((Int×Int×Int×Tn2×ByteArray×Int×Int×Int×Int×Int×(List Int)×Tn2×Int×Int) ⊕ (Int)):=
 let n:=(w64 (o+1))
 (j2Y (p,d) (q,(l,((k,c),(b,(e,(j,(i,(f,g)))))))) n).bind fun a=>
 cond (cond (!a.2) true (decide (a.1>r))) (
 some (.inr o)) (
 let m:=(w64 (o+1))
 some (.inl (r,m,p,d,q,l,k,c,b,e,j,i,f,g)))
def j8J [LP] (n o l:Int) (c:Tn2) (m:ByteArray) (k j b a d:Int) (i:(List Int)) (g:Tn2) (e f:Int):Option (Int):=
 LP.lp (jsb (j2C)) (n,o,l,c,m,k,j,b,a,d,i,g,e,f)
def j72 [LP] (c:Tn15) (a:Tn64) (d:Int):Option (Int):=
 (j2Y (c.1,c.2) (a.1,(a.2.1,((a.2.2.1.1,a.2.2.1.2),(a.2.2.2.1,(a.2.2.2.2.1,(a.2.2.2.2.2.1,(a.2.2.2.2.2.2.1,(a.2.2.2.2.2.2.2.1,a.2.2.2.2.2.2.2.2)))))))) 0).bind fun e=>
 cond (cond (!e.2) true (decide (e.1>d))) (
 some (-1)) (
 cond (a.2.2.2.1==0) (
 let m:=(w64 (d-e.1))
 let f:=(w64 (3600*a.2.2.2.2.1))
 cond (!(f==0)) (
 let k:=(w64 (Int.tdiv m f))
 some k) none) (
 (j2n (c.1,c.2) d).bind fun j=>
 let n:=(w64 (j.1-a.2.2.1.1))
 (jgh (a.1,(a.2.1,((a.2.2.1.1,a.2.2.1.2),(a.2.2.2.1,(a.2.2.2.2.1,(a.2.2.2.2.2.1,(a.2.2.2.2.2.2.1,(a.2.2.2.2.2.2.2.1,a.2.2.2.2.2.2.2.2))))))))).bind fun g=>
 cond (!(g==0)) (
 let i:=(w64 (Int.tdiv n g))
 let l:Int:=(if i>0 then i else 0:Int)
 (j8I d l c.1 c.2 a.1 a.2.1 a.2.2.1.1 a.2.2.1.2 a.2.2.2.1 a.2.2.2.2.1 a.2.2.2.2.2.1 a.2.2.2.2.2.2.1 a.2.2.2.2.2.2.2.1 a.2.2.2.2.2.2.2.2).bind fun b=>
 (j8J b.1 b.2.1 b.2.2.1 b.2.2.2.1 b.2.2.2.2.1 b.2.2.2.2.2.1 b.2.2.2.2.2.2.1 b.2.2.2.2.2.2.2.1 b.2.2.2.2.2.2.2.2.1 b.2.2.2.2.2.2.2.2.2.1 b.2.2.2.2.2.2.2.2.2.2.1 b.2.2.2.2.2.2.2.2.2.2.2.1 b.2.2.2.2.2.2.2.2.2.2.2.2.1 b.2.2.2.2.2.2.2.2.2.2.2.2.2).bind fun o=>
 some o) none))
def jfo (a:(Int×Int)):Option (Int):=
 (j4x a.1).bind fun b=>
 let c:=(w64 (b*86400))
 let d:=(w64 (c+a.2))
 some d
def jck (d:Int) (e:Tn2) (f c:Int):Option ((Int×Tn2×Int×Int) ⊕ (Bool ⊕ Unit)):=
 cond (decide (c<f)) (
 cond (inR c (List.length e)) (
 let a:=(List.getD e (Int.toNat c) (0,0))
 cond (cond (decide (a.1≤d)) (decide (d<a.2)) false) (
 some (.inr (.inl true))) (
 let b:=(w64 (c+1))
 some (.inl (d,e,f,b)))) none) (
 some (.inr (.inr ())))
def jep [LP] (b:Int) (c:Tn2) (d a:Int):Option (Bool ⊕ Unit):=
 LP.lp (unc4 (jck)) (b,c,d,a)
def jfp [LP] (a:Tn2) (b:Int):Option (Bool):=
 let d:=(Int.ofNat (List.length a))
 (jep b a d 0).bind fun c=>
 sumC c (fun e=>
 some e) (fun f=>
 some false)
def jbJ (a:Int):Option (Bool):=
 some (a != a)
def jgH (b a:Int):Option (Bool):=
 (jbJ b).bind fun d=>
 cond d (
 (jbJ a).bind fun c=>
 some (cond (!c) true (decide (b<a)))) (
 some (decide (b<a)))
def j8K (a:Int):Option (Bool):=
 some (a != a)
def j3i (b:(List Int)) (c l k m:Int):Option (((List Int)×Int×Int×Int×Int) ⊕ (((List Int)×Int×Int×Int))):=
 cond (decide (k<m)) (
 let j:=(w64 (k+m))
 let d:Int:=(IntKind.wrap .u64 j)
 let i:Int:=(Int.fdiv d 2)
 let a:=(w64 i)
 cond (inR a (List.length b)) (
 let e:=(List.getD b (Int.toNat a) 0)
 (jgH e c).bind fun g=>
 cond g (
 let f:=(w64 (a+1))
 some (.inl (b,c,l,f,m))) (
 some (.inl (b,c,l,k,a)))) none) (
 some (.inr (b,c,l,k)))
def j2D [LP] (b:(List Int)) (a c d e:Int):Option (((List Int)×Int×Int×Int)):=
 LP.lp (unc5 (j3i)) (b,a,c,d,e)
def j1a [LP] (d:(List Int)) (b:Int):Option (Int×Bool):=
 let e:=(Int.ofNat (List.length d))
 (j2D d b e 0 e).bind fun a=>
 cond ((inR a.2.2.2 (List.length a.1)) || !(decide (a.2.2.2<a.2.2.1))) (
 let c:=(List.getD a.1 (Int.toNat a.2.2.2) 0)
 cond ((inR a.2.2.2 (List.length a.1)) || !((decide (a.2.2.2<a.2.2.1))&&(!(c==a.2.1)))) (
 let f:=(List.getD a.1 (Int.toNat a.2.2.2) 0)
 cond (decide (a.2.2.2<a.2.2.1)) (
 cond (c==a.2.1) (
 some (a.2.2.2,true)) (
 (j8K f).bind fun i=>
 cond i (
 (j8K a.2.1).bind fun g=>
 some (a.2.2.2,g)) (
 some (a.2.2.2,false)))) (
 cond ((c==a.2.1) || !false) (
 some (a.2.2.2,false)) none)) none) none
def j89 [LP] (b:Tn78) (a:Tn64) (c:Int):Option (Int×Bool):=
 cond (cond (decide (c<0)) true (decide (c>8589934592))) (
 some (0,false)) (
 cond (inR a.2.1 (List.length b.2)) (
 let f:=(List.getD b.2 (Int.toNat a.2.1) (0,([]:Tn2)))
 (j72 (f.1,f.2) (a.1,(a.2.1,((a.2.2.1.1,a.2.2.1.2),(a.2.2.2.1,(a.2.2.2.2.1,(a.2.2.2.2.2.1,(a.2.2.2.2.2.2.1,(a.2.2.2.2.2.2.2.1,a.2.2.2.2.2.2.2.2)))))))) c).bind fun e=>
 cond (decide (e<0)) (
 some (0,false)) (
 let n:=(Int.ofNat (List.length a.2.2.2.2.2.2.1))
 cond (decide (n>0)) (
 (j2n (f.1,f.2) c).bind fun l=>
 (jfo (l.1,l.2)).bind fun p=>
 (jfp a.2.2.2.2.2.2.1 p).bind fun o=>
 cond (!o) (
 some (0,false)) (
 cond (a.2.2.2.2.2.2.2.2==0) (
 some (e,true)) (
 cond (inR a.2.2.2.2.2.2.2.1 (List.length b.1.2.2.1)) (
 let i:=(List.getD b.1.2.2.1 (Int.toNat a.2.2.2.2.2.2.2.1) (ByteArray.empty,(0,([]:(List Int)))))
 cond (inR i.2.1 (List.length b.2)) (
 let m:=(List.getD b.2 (Int.toNat i.2.1) (0,([]:Tn2)))
 (j2n (m.1,m.2) c).bind fun q=>
 (j1a i.2.2 q.1).bind fun r=>
 some (e,(r.2==(a.2.2.2.2.2.2.2.2==2)))) none) none))) (
 cond (a.2.2.2.2.2.2.2.2==0) (
 some (e,true)) (
 cond (inR a.2.2.2.2.2.2.2.1 (List.length b.1.2.2.1)) (
 let d:=(List.getD b.1.2.2.1 (Int.toNat a.2.2.2.2.2.2.2.1) (ByteArray.empty,(0,([]:(List Int)))))
 cond (inR d.2.1 (List.length b.2)) (
 let g:=(List.getD b.2 (Int.toNat d.2.1) (0,([]:Tn2)))
 (j2n (g.1,g.2) c).bind fun j=>
 (j1a d.2.2 j.1).bind fun k=>
 some (e,(k.2==(a.2.2.2.2.2.2.2.2==2)))) none) none)))) none)
def j4H [LP] (b:Tn78) (a:Tn64) (f:Int):Option (Int):=
 (j89 ((b.1.1,(b.1.2.1,(b.1.2.2.1,b.1.2.2.2))),b.2) (a.1,(a.2.1,((a.2.2.1.1,a.2.2.1.2),(a.2.2.2.1,(a.2.2.2.2.1,(a.2.2.2.2.2.1,(a.2.2.2.2.2.2.1,(a.2.2.2.2.2.2.2.1,a.2.2.2.2.2.2.2.2)))))))) f).bind fun c=>
 cond (!c.2) (
 some (-1)) (
 let d:=(Int.ofNat (List.length a.2.2.2.2.2.1))
 cond (!(d==0)) (
 let e:=(Int.tmod c.1 d)
 cond (inR e (List.length a.2.2.2.2.2.1)) (
 let g:=(List.getD a.2.2.2.2.2.1 (Int.toNat e) 0)
 some g) none) none)
def jfq (a:Tn28) (d c:Int):Option (Bool):=
 let b:Bool:=(cond (cond (a.1==0) (a.2.1==d) false) (decide (a.2.2.2.1≤c)) false)
 some (cond b (decide (c<a.2.2.2.2)) false)
def j2o (f:Tn34) (g b i c:Int):Option ((Tn34×Int×Int×Int×Int) ⊕ (Int ⊕ Unit)):=
 cond (decide (c<i)) (
 cond (inR c (List.length f)) (
 let a:=(List.getD f (Int.toNat c) (0,(0,(0,(0,0)))))
 (jfq (a.1,(a.2.1,(a.2.2.1,(a.2.2.2.1,a.2.2.2.2)))) g b).bind fun d=>
 cond d (
 some (.inr (.inl c))) (
 let e:=(w64 (c+1))
 some (.inl (f,g,b,i,e)))) none) (
 some (.inr (.inr ())))
def j1G [LP] (c:Tn34) (b a d e:Int):Option (Int ⊕ Unit):=
 LP.lp (unc5 (j2o)) (c,b,a,d,e)
def j0P [LP] (a:Tn34) (c b:Int):Option (Int):=
 let d:=(Int.ofNat (List.length a))
 (j1G a c b d 0).bind fun e=>
 sumC e (fun f=>
 some f) (fun g=>
 some (-1))
def j0H [LP] (b:Tn34) (c a:Int):Option (Bool):=
 (j0P b c a).bind fun d=>
 some (decide (d≥0))
def jbb [LP] (c:Tn69) (a b:Int):Option (Bool):=
 (j0H c.2.2 a b).bind fun d=>
 some d
def j2E [LP] (l:Int) (j:Tn65) (o:Tn59) (d:Tn53) (c:Tn30) (i:Tn70) (e:Tn23) (p:ByteArray) (g:Tn65) (f:Tn34) (n r q:Int):Option ((Int×Tn65×Tn59×Tn53×Tn30×Tn70×Tn23×ByteArray×Tn65×Tn34×Int×Int×Int) ⊕ ((Int×Int) ⊕ (Int×Int))):=
 cond (decide (l≤0)) (
 some (.inr (.inl (r,q)))) (
 cond (decide (l≤Int.ofNat (List.length j))) (
 let k:Int:=(l-1)
 let a:=(List.getD j (Int.toNat k) (ByteArray.empty,(0,((0,0),(0,(0,(([]:(List Int)),(([]:Tn2),(0,0)))))))))
 (j4H ((o,(d,(c,i))),e) (a.1,(a.2.1,((a.2.2.1.1,a.2.2.1.2),(a.2.2.2.1,(a.2.2.2.2.1,(a.2.2.2.2.2.1,(a.2.2.2.2.2.2.1,(a.2.2.2.2.2.2.2.1,a.2.2.2.2.2.2.2.2)))))))) n).bind fun b=>
 cond (decide (b<0)) (
 some (.inl ((l-1),j,o,d,c,i,e,p,g,f,n,r,q))) (
 (jbb (p,(g,f)) b n).bind fun m=>
 cond (!m) (
 some (.inr (.inr (k,b)))) (
 some (.inl ((l-1),j,o,d,c,i,e,p,g,f,n,r,q))))) none)
def j8L [LP] (j:Int) (g:Tn65) (i:Tn59) (b:Tn53) (a:Tn30) (f:Tn70) (c:Tn23) (k:ByteArray) (e:Tn65) (d:Tn34) (l n m:Int):Option ((Int×Int) ⊕ (Int×Int)):=
 LP.lp (jue (j2E)) (j,g,i,b,a,f,c,k,e,d,l,n,m)
def j73 [LP] (a:Tn78) (b:Tn69) (d:Int):Option (Int×Int):=
 (j3h b.2.1).bind fun c=>
 (j8L (Int.ofNat (List.length c)) c a.1.1 a.1.2.1 a.1.2.2.1 a.1.2.2.2 a.2 b.1 b.2.1 b.2.2 d 0 0).bind fun e=>
 sumC e (fun g=>
 some ((-1),(-1))) (fun f=>
 some (f.1,f.2))
def jig (a:Tn28) (b:Int):Option (Bool):=
 some (cond (decide (a.2.2.2.1≤b)) (decide (b<a.2.2.2.2)) false)
def jbc (f e:Int) (d:Tn34) (c b:Int):Option ((Int×Int×Tn34×Int×Int) ⊕ (Int)):=
 cond (decide (b<c)) (
 cond (inR b (List.length d)) (
 let a:=(List.getD d (Int.toNat b) (0,(0,(0,(0,0)))))
 (jig (a.1,(a.2.1,(a.2.2.1,(a.2.2.2.1,a.2.2.2.2)))) e).bind fun k=>
 cond (cond (!k) true (a.1==0)) (
 let j:=(w64 (b+1))
 some (.inl (f,e,d,c,j))) (
 cond (a.1==1) (
 let n:=(w64 (b+1))
 some (.inl (a.2.1,e,d,c,n))) (
 cond (a.1 != 2) (
 let l:=(w64 (b+1))
 some (.inl (f,e,d,c,l))) (
 cond (f==a.2.1) (
 let m:=(w64 (b+1))
 some (.inl (a.2.2.1,e,d,c,m))) (
 cond (f==a.2.2.1) (
 let g:=(w64 (b+1))
 some (.inl (a.2.1,e,d,c,g))) (
 let i:=(w64 (b+1))
 some (.inl (f,e,d,c,i)))))))) none) (
 some (.inr f))
def jd2 [LP] (c d:Int) (e:Tn34) (b a:Int):Option (Int):=
 LP.lp (unc5 (jbc)) (c,d,e,b,a)
def jd3 [LP] (b:Tn34) (a c:Int):Option (Int):=
 let d:=(Int.ofNat (List.length b))
 (jd2 a c b d 0).bind fun e=>
 some e
def jbd [LP] (a:Tn78) (b:Tn69) (c:Int):Option (Int):=
 cond (cond (decide (c<0)) true (decide (c>8589934592))) (
 some (-1)) (
 (j73 ((a.1.1,(a.1.2.1,(a.1.2.2.1,a.1.2.2.2))),a.2) (b.1,(b.2.1,b.2.2)) c).bind fun d=>
 (jd3 b.2.2 d.2 c).bind fun e=>
 some e)
def jar [LP] (a:Tn76) (b e:Int):Option (Int):=
 (jif (a.1,(a.2.1,(a.2.2.1,a.2.2.2)))).bind fun c=>
 cond (!c.2) (
 some (-1)) (
 (jbI (a.1,(a.2.1,(a.2.2.1,a.2.2.2))) b).bind fun f=>
 cond (!f) (
 some (-1)) (
 cond (inR b (List.length a.2.2.2)) (
 let d:=(List.getD a.2.2.2 (Int.toNat b) (ByteArray.empty,(([]:Tn65),([]:Tn34))))
 (jbd ((c.1.1.1,(c.1.1.2.1,(c.1.1.2.2.1,c.1.1.2.2.2))),c.1.2) (d.1,(d.2.1,d.2.2)) e).bind fun g=>
 some g) none))
def j6Q [LP]  : Option (Bool):=
 (jid).bind fun d=>
 (j9k (d.1,(d.2.1,(d.2.2.1,d.2.2.2))) 0 (2,(0,(1,(432000,518400))))).bind fun c=>
 (j9k (c.1.1,(c.1.2.1,(c.1.2.2.1,c.1.2.2.2))) 0 (1,(2,(0,(432000,475200))))).bind fun a=>
 (j19 (a.1.1,(a.1.2.1,(a.1.2.2.1,a.1.2.2.2))) 0 1).bind fun b=>
 (j19 (a.1.1,(a.1.2.1,(a.1.2.2.1,a.1.2.2.2))) 0 2).bind fun i=>
 let j:Bool:=(cond (cond (cond (c.2==0) (a.2==0) false) (b.2==0) false) (i.2==10) false)
 cond j (
 (jar (a.1.1,(a.1.2.1,(a.1.2.2.1,a.1.2.2.2))) 0 432000).bind fun k=>
 cond (k==2) (
 (jar (a.1.1,(a.1.2.1,(a.1.2.2.1,a.1.2.2.2))) 0 475200).bind fun e=>
 cond (e==1) (
 (jar (b.1.1,(b.1.2.1,(b.1.2.2.1,b.1.2.2.2))) 0 432000).bind fun g=>
 cond (g==1) (
 (jar (a.1.1,(a.1.2.1,(a.1.2.2.1,a.1.2.2.2))) 0 518400).bind fun f=>
 some (f==0)) (
 some false)) (
 some false)) (
 some false)) (
 some false)
def jih (a:(List Int)):Option ((List Int)×Int):=
 some (a,0)
def j03 (b:(List Int)) (a c:Int):Option (Int×(List Int)×Int):=
 let f:=(Int.ofNat (List.length b))
 cond (decide (a≥f)) (
 some (0,b,a)) (
 cond (decide (c<1)) (
 some (0,b,a)) (
 cond (inR a (List.length b)) (
 let i:=(List.getD b (Int.toNat a) 0)
 cond (!(c==0)) (
 let d:=(Int.tmod i c)
 let e:=(w64 (a+1))
 cond (decide (d<0)) (
 let g:=(w64 (d+c))
 some (g,b,e)) (
 some (d,b,e))) none) none))
def j0Z (d:(List Int)) (b:Int) (a:(List Int)):Option (Int×(List Int)×Int):=
 let f:=(Int.ofNat (List.length a))
 (j03 d b f).bind fun c=>
 cond (inR c.1 (List.length a)) (
 let e:=(List.getD a (Int.toNat c.1) 0)
 some (e,c.2.1,c.2.2)) none
def j3b (a0:(List Int)) (t:Int) (a:ByteArray):Option (Tn57×(List Int)×Int):=
 let b2:(List Int):=[0,4,(-20),22,48,(-47)]
 (j0Z a0 t b2).bind fun r=>
 (j03 r.2.1 r.2.2 2).bind fun x=>
 (j03 x.2.1 x.2.2 3).bind fun s=>
 let b6:=(w64 (x.1*s.1))
 let b3:=(w64 (r.1+b6))
 let c:=(w64 (900*b3))
 (j03 s.2.1 s.2.2 2).bind fun u=>
 let g:=(w64 (2025+u.1))
 (j03 u.2.1 u.2.2 4).bind fun b=>
 cond (b.1==1) (
 let b0:=(w64 (c+3600))
 let a5:Tn47:=[(2025,(g,(3,(5,(6,(7200,b0)))))),(2025,(g,(10,(5,(6,(10800,c))))))]
 some ((a,(c,a5)),b.2.1,b.2.2)) (
 cond (b.1==2) (
 (j03 b.2.1 b.2.2 4).bind fun n=>
 let a2:=(w64 (1+n.1))
 (j03 n.2.1 n.2.2 7).bind fun i=>
 (j03 i.2.1 i.2.2 24).bind fun q=>
 let b5:=(w64 (3600*q.1))
 (j03 q.2.1 q.2.2 8).bind fun l=>
 let b1:=(w64 (1+l.1))
 let b7:=(w64 (1800*b1))
 let a3:=(w64 (c+b7))
 (j03 l.2.1 l.2.2 2).bind fun p=>
 let a1:=(w64 (2+p.1))
 let a9:(List Int):=[2,3,5]
 (j0Z p.2.1 p.2.2 a9).bind fun w=>
 (j03 w.2.1 w.2.2 7).bind fun j=>
 (j03 j.2.1 j.2.2 24).bind fun m=>
 let a4:=(w64 (3600*m.1))
 let a7:Tn47:=[(2025,(g,(1,(a2,(i.1,(b5,a3)))))),(2025,(g,(a1,(w.1,(j.1,(a4,c))))))]
 some ((a,(c,a7)),m.2.1,m.2.2)) (
 cond (b.1==3) (
 let a8:(List Int):=[3600,(-3600),82800,(-82800),43200]
 (j0Z b.2.1 b.2.2 a8).bind fun f=>
 let o:=(w64 (c+f.1))
 cond (cond (decide (o>64800)) true (decide (o<(-64800)))) (
 (j03 f.2.1 f.2.2 7).bind fun k=>
 (j03 k.2.1 k.2.2 48).bind fun v=>
 let b4:=(w64 (1800*v.1))
 let a6:Tn47:=[(2026,(2026,(1,(2,(k.1,(b4,0))))))]
 some ((a,(c,a6)),v.2.1,v.2.2)) (
 (j03 f.2.1 f.2.2 7).bind fun d=>
 (j03 d.2.1 d.2.2 48).bind fun e=>
 let z:=(w64 (1800*e.1))
 let y:Tn47:=[(2026,(2026,(1,(2,(d.1,(z,o))))))]
 some ((a,(c,y)),e.2.1,e.2.2))) (
 some ((a,(c,([]:Tn47))),b.2.1,b.2.2))))
def jdD  : Option ((List ByteArray)):=
 let a:(List ByteArray):=[(ByteArray.mk #[97,100,97]),(ByteArray.mk #[98,111,98]),(ByteArray.mk #[99,108,101,111]),(ByteArray.mk #[100,97,110]),(ByteArray.mk #[101,118,101]),(ByteArray.mk #[102,97,121]),(ByteArray.mk #[103,117,115]),(ByteArray.mk #[104,97,108])]
 some a
def j0N (d:(List Int)) (b a:Int):Option (Bool×(List Int)×Int):=
 (j03 d b a).bind fun c=>
 let e:=(w64 (a-1))
 some ((c.1==e),c.2.1,c.2.2)
def j1M (r q:Int) (p:(List Int)) (g:Int) (m:Tn2):Option ((Int×Int×(List Int)×Int×Tn2) ⊕ (((List Int)×Int×Tn2))):=
 cond (decide (q>0)) (
 (j03 p g 30).bind fun b=>
 let i:=(w64 (3600*b.1))
 let j:=(w64 (r+i))
 (j03 b.2.1 b.2.2 2).bind fun c=>
 let k:=(w64 (60*c.1))
 let f:=(w64 (j+k))
 let n:(List Int):=[3600,28800,43200,86400,61,1]
 (j0Z c.2.1 c.2.2 n).bind fun a=>
 let d:=(w64 (f+a.1))
 cond (decide (d>604800)) (
 some (.inr (a.2.1,a.2.2,m))) (
 let e:Tn2:=[(f,d)]
 cond (decide (List.length m+List.length e≤j0a)) (
 let o:Tn2:=(m++e)
 let l:=(w64 (q-1))
 some (.inl (d,l,a.2.1,a.2.2,o))) none)) (
 some (.inr (p,g,m)))
def j42 [LP] (e c:Int) (b:(List Int)) (a:Int) (d:Tn2):Option (((List Int)×Int×Tn2)):=
 LP.lp (unc5 (j1M)) (e,c,b,a,d)
theorem j74 (e c b a d):j42 e c b a d=lpK (j1M e c b a d) (fun h=>j42 h.1 h.2.1 h.2.2.1 h.2.2.2.1 h.2.2.2.2):=j06 _ _
def j3e [LP] (d:(List Int)) (a:Int):Option (Tn2×(List Int)×Int):=
 (j03 d a 4).bind fun b=>
 (j42 0 b.1 b.2.1 b.2.2 ([]:Tn2)).bind fun c=>
 some (c.2.2,c.1,c.2.1)
def j2b (l:Int) (k:(List Int)) (f:Int) (b:Tn59):Option ((Int×(List Int)×Int×Tn59) ⊕ (((List Int)×Int×Tn59))):=
 cond (decide (l>0)) (
 let e:(List ByteArray):=[(ByteArray.mk #[104,101,114,101]),(ByteArray.mk #[116,104,101,114,101])]
 let d:=(Int.ofNat (List.length b))
 cond (inR d (List.length e)) (
 let g:=(List.getD e (Int.toNat d) ByteArray.empty)
 (j3b k f g).bind fun a=>
 let c:Tn59:=[(a.1.1,(a.1.2.1,a.1.2.2))]
 cond (decide (List.length b+List.length c≤j0a)) (
 let j:Tn59:=(b++c)
 let i:=(w64 (l-1))
 some (.inl (i,a.2.1,a.2.2,j))) none) none) (
 some (.inr (k,f,b)))
def j57 [LP] (c:Int) (d:(List Int)) (a:Int) (b:Tn59):Option (((List Int)×Int×Tn59)):=
 LP.lp (unc4 (j2b)) (c,d,a,b)
theorem j8a (d c b a):j57 d c b a=lpK (j2b d c b a) (fun h=>j57 h.1 h.2.1 h.2.2.1 h.2.2.2):=j06 _ _
def j2c [LP] (a4:Int) (a5:(List Int)) (q:Int) (j:Tn59) (b:Tn53):Option ((Int×(List Int)×Int×Tn59×Tn53) ⊕ (((List Int)×Int×Tn59×Tn53))):=
 cond (decide (a4>0)) (
 (jdD).bind fun m=>
 let p:=(Int.ofNat (List.length b))
 cond (inR p (List.length m)) (
 let n:=(List.getD m (Int.toNat p) ByteArray.empty)
 let z:=(Int.ofNat (List.length j))
 (j03 a5 q z).bind fun c=>
 (j0N c.2.1 c.2.2 3).bind fun d=>
 (j0N d.2.1 d.2.2 2).bind fun a=>
 cond a.1 (
 (j3e a.2.1 a.2.2).bind fun i=>
 let x:(List Int):=[0,40,100,12]
 (j0Z i.2.1 i.2.2 x).bind fun g=>
 let a3:=(w64 (3600*g.1))
 let y:(List Int):=[0,11,24,1]
 (j0Z g.2.1 g.2.2 y).bind fun f=>
 let a1:=(w64 (3600*f.1))
 let l:Tn53:=[(n,(c.1,(i.1,(a3,(a1,d.1)))))]
 cond (decide (List.length b+List.length l≤j0a)) (
 let r:Tn53:=(b++l)
 let a0:=(w64 (a4-1))
 some (.inl (a0,f.2.1,f.2.2,j,r))) none) (
 let s:(List Int):=[0,40,100,12]
 (j0Z a.2.1 a.2.2 s).bind fun e=>
 let a2:=(w64 (3600*e.1))
 let v:(List Int):=[0,11,24,1]
 (j0Z e.2.1 e.2.2 v).bind fun k=>
 let u:=(w64 (3600*k.1))
 let o:Tn53:=[(n,(c.1,(([]:Tn2),(a2,(u,d.1)))))]
 cond (decide (List.length b+List.length o≤j0a)) (
 let t:Tn53:=(b++o)
 let w:=(w64 (a4-1))
 some (.inl (w,k.2.1,k.2.2,j,t))) none)) none) (
 some (.inr (a5,q,j,b)))
def j58 [LP] (e:Int) (d:(List Int)) (b:Int) (a:Tn59) (c:Tn53):Option (((List Int)×Int×Tn59×Tn53)):=
 LP.lp (unc5 (j2c)) (e,d,b,a,c)
theorem j8b (e d b a c):j58 e d b a c=lpK (j2c e d b a c) (fun h=>j58 h.1 h.2.1 h.2.2.1 h.2.2.2.1 h.2.2.2.2):=j06 _ _
def j2d (q p n:Int) (m:(List Int)) (i:Int) (o:ByteArray) (d:Int) (f:Tn59) (j:Tn53) (g:Tn30) (c:(List Int)):Option ((Int×Int×Int×(List Int)×Int×ByteArray×Int×Tn59×Tn53×Tn30×(List Int)) ⊕ ((Int×(List Int)×Int×ByteArray×Int×Tn59×Tn53×Tn30×(List Int)))):=
 cond (decide (p>0)) (
 (j03 m i 6).bind fun b=>
 let l:=(w64 (1+b.1))
 let a:=(w64 (n+l))
 cond (decide (List.length c+List.length [a]≤j0a)) (
 let e:(List Int):=(c++[a])
 let k:=(w64 (p-1))
 some (.inl (q,k,a,b.2.1,b.2.2,o,d,f,j,g,e))) none) (
 some (.inr (q,m,i,o,d,f,j,g,c)))
def j59 [LP] (l k g:Int) (i:(List Int)) (d:Int) (j:ByteArray) (a:Int) (b:Tn59) (f:Tn53) (c:Tn30) (e:(List Int)):Option ((Int×(List Int)×Int×ByteArray×Int×Tn59×Tn53×Tn30×(List Int))):=
 LP.lp (jpf (j2d)) (l,k,g,i,d,j,a,b,f,c,e)
theorem j8c (l k g i d j a b f c e):j59 l k g i d j a b f c e=lpK (j2d l k g i d j a b f c e) (fun h=>j59 h.1 h.2.1 h.2.2.1 h.2.2.2.1 h.2.2.2.2.1 h.2.2.2.2.2.1 h.2.2.2.2.2.2.1 h.2.2.2.2.2.2.2.1 h.2.2.2.2.2.2.2.2.1 h.2.2.2.2.2.2.2.2.2.1 h.2.2.2.2.2.2.2.2.2.2):=j06 _ _
def j1B [LP] (n:Int) (m:(List Int)) (i:Int) (e:Tn59) (j:Tn53) (f:Tn30):Option ((Int×(List Int)×Int×Tn59×Tn53×Tn30) ⊕ (((List Int)×Int×Tn59×Tn53×Tn30))):=
 cond (decide (n>0)) (
 let l:=(Int.ofNat (List.length e))
 (j03 m i l).bind fun c=>
 (j03 c.2.1 c.2.2 4).bind fun b=>
 (j59 n b.1 20454 b.2.1 b.2.2 (ByteArray.mk #[100,97,121,115]) c.1 e j f ([]:(List Int))).bind fun a=>
 let d:Tn30:=[(a.2.2.2.1,(a.2.2.2.2.1,a.2.2.2.2.2.2.2.2))]
 cond (decide (List.length a.2.2.2.2.2.2.2.1+List.length d≤j0a)) (
 let g:Tn30:=(a.2.2.2.2.2.2.2.1++d)
 let k:=(w64 (a.1-1))
 some (.inl (k,a.2.1,a.2.2.1,a.2.2.2.2.2.1,a.2.2.2.2.2.2.1,g))) none) (
 some (.inr (m,i,e,j,f)))
def j5a [LP] (f:Int) (e:(List Int)) (c:Int) (a:Tn59) (d:Tn53) (b:Tn30):Option (((List Int)×Int×Tn59×Tn53×Tn30)):=
 LP.lp (unc6 (j1B)) (f,e,c,a,d,b)
theorem j5v (f e c a d b):j5a f e c a d b=lpK (j1B f e c a d b) (fun h=>j5a h.1 h.2.1 h.2.2.1 h.2.2.2.1 h.2.2.2.2.1 h.2.2.2.2.2):=j06 _ _
def j75 [LP] (i:(List Int)) (e:Int):Option (Tn76×(List Int)×Int):=
 (j03 i e 2).bind fun b=>
 let k:=(w64 (1+b.1))
 (j57 k b.2.1 b.2.2 ([]:Tn59)).bind fun g=>
 (j03 g.1 g.2.1 4).bind fun d=>
 let j:=(w64 (1+d.1))
 (j58 j d.2.1 d.2.2 g.2.2 ([]:Tn53)).bind fun f=>
 (j03 f.1 f.2.1 2).bind fun a=>
 (j5a a.1 a.2.1 a.2.2 f.2.2.1 f.2.2.2 ([]:Tn30)).bind fun c=>
 some ((c.2.2.1,(c.2.2.2.1,(c.2.2.2.2,([]:Tn70)))),c.1,c.2.1)
def j2e (a0:Int) (z:(List Int)) (g:Int) (a2:Tn59) (b:Tn53) (f:Tn30) (l:Tn70) (a1:ByteArray) (e n m u j i d:Int) (y:ByteArray) (t s o q r p k:Int) (c:(List Int)):Option ((Int×(List Int)×Int×Tn59×Tn53×Tn30×Tn70×ByteArray×Int×Int×Int×Int×Int×Int×Int×ByteArray×Int×Int×Int×Int×Int×Int×Int×(List Int)) ⊕ (((List Int)×Int×Tn59×Tn53×Tn30×Tn70×ByteArray×Int×Int×Int×Int×Int×Int×Int×ByteArray×Int×Int×Int×Int×Int×Int×Int×(List Int)))):=
 cond (decide (a0>0)) (
 let v:=(Int.ofNat (List.length b))
 (j03 z g v).bind fun a=>
 cond (decide (List.length c+List.length [a.1]≤j0a)) (
 let x:(List Int):=(c++[a.1])
 let w:=(w64 (a0-1))
 some (.inl (w,a.2.1,a.2.2,a2,b,f,l,a1,e,n,m,u,j,i,d,y,t,s,o,q,r,p,k,x))) none) (
 some (.inr (z,g,a2,b,f,l,a1,e,n,m,u,j,i,d,y,t,s,o,q,r,p,k,c)))
def j3E [LP] (w:Int) (v:(List Int)) (e:Int) (y:Tn59) (d:Tn53) (c:Tn30) (j:Tn70) (x:ByteArray) (b m l t g f a:Int) (u:ByteArray) (s r n p q o i:Int) (k:(List Int)):Option (((List Int)×Int×Tn59×Tn53×Tn30×Tn70×ByteArray×Int×Int×Int×Int×Int×Int×Int×ByteArray×Int×Int×Int×Int×Int×Int×Int×(List Int))):=
 LP.lp (jug (j2e)) (w,v,e,y,d,c,j,x,b,m,l,t,g,f,a,u,s,r,n,p,q,o,i,k)
theorem j8d (w v e y d c j x b m l t g f a u s r n p q o i k):j3E w v e y d c j x b m l t g f a u s r n p q o i k=lpK (j2e w v e y d c j x b m l t g f a u s r n p q o i k) (fun h=>j3E h.1 h.2.1 h.2.2.1 h.2.2.2.1 h.2.2.2.2.1 h.2.2.2.2.2.1 h.2.2.2.2.2.2.1 h.2.2.2.2.2.2.2.1 h.2.2.2.2.2.2.2.2.1 h.2.2.2.2.2.2.2.2.2.1 h.2.2.2.2.2.2.2.2.2.2.1 h.2.2.2.2.2.2.2.2.2.2.2.1 h.2.2.2.2.2.2.2.2.2.2.2.2.1 h.2.2.2.2.2.2.2.2.2.2.2.2.2.1 h.2.2.2.2.2.2.2.2.2.2.2.2.2.2.1 h.2.2.2.2.2.2.2.2.2.2.2.2.2.2.2.1 h.2.2.2.2.2.2.2.2.2.2.2.2.2.2.2.2.1 h.2.2.2.2.2.2.2.2.2.2.2.2.2.2.2.2.2.1 h.2.2.2.2.2.2.2.2.2.2.2.2.2.2.2.2.2.2.1 h.2.2.2.2.2.2.2.2.2.2.2.2.2.2.2.2.2.2.2.1 h.2.2.2.2.2.2.2.2.2.2.2.2.2.2.2.2.2.2.2.2.1 h.2.2.2.2.2.2.2.2.2.2.2.2.2.2.2.2.2.2.2.2.2.1 h.2.2.2.2.2.2.2.2.2.2.2.2.2.2.2.2.2.2.2.2.2.2.1 h.2.2.2.2.2.2.2.2.2.2.2.2.2.2.2.2.2.2.2.2.2.2.2):=j06 _ _
def j76 [LP] (b5:(List Int)) (a2:Int) (c:Tn76) (j:ByteArray):Option (Tn64×(List Int)×Int):=
 let c0:=(Int.ofNat (List.length c.1))
 (j03 b5 a2 c0).bind fun v=>
 (j03 v.2.1 v.2.2 6).bind fun a0=>
 let c2:=(w64 (20454+a0.1))
 let b4:=(w64 (c2-2))
 let b8:(List Int):=[0,32400,7200,9000,79200,1]
 (j0Z a0.2.1 a0.2.2 b8).bind fun x=>
 (j03 x.2.1 x.2.2 3).bind fun t=>
 (j03 t.2.1 t.2.2 2).bind fun r=>
 let c3:=(w64 (1+r.1))
 cond (t.1==0) (
 let c1:(List Int):=[6,8,12,24,23,49]
 (j0Z r.2.1 r.2.2 c1).bind fun y=>
 (j03 y.2.1 y.2.2 3).bind fun a1=>
 let c4:=(w64 (1+a1.1))
 (j3E c4 a1.2.1 a1.2.2 c.1 c.2.1 c.2.2.1 c.2.2.2 ByteArray.empty 0 0 0 0 0 0 0 j v.1 b4 x.1 t.1 y.1 0 0 ([]:(List Int))).bind fun b=>
 (j0N b.1 b.2.1 2).bind fun u=>
 cond u.1 (
 (j3e u.2.1 u.2.2).bind fun w=>
 (j0N w.2.1 w.2.2 4).bind fun s=>
 let b9:=(Int.ofNat (List.length b.2.2.2.2.1))
 cond (cond s.1 (decide (b9>0)) false) (
 let b7:=(Int.ofNat (List.length b.2.2.2.2.1))
 (j03 s.2.1 s.2.2 b7).bind fun a3=>
 (j03 a3.2.1 a3.2.2 2).bind fun z=>
 let b6:=(w64 (1+z.1))
 some ((b.2.2.2.2.2.2.2.2.2.2.2.2.2.2.1,(b.2.2.2.2.2.2.2.2.2.2.2.2.2.2.2.1,((b.2.2.2.2.2.2.2.2.2.2.2.2.2.2.2.2.1,b.2.2.2.2.2.2.2.2.2.2.2.2.2.2.2.2.2.1),(b.2.2.2.2.2.2.2.2.2.2.2.2.2.2.2.2.2.2.1,(b.2.2.2.2.2.2.2.2.2.2.2.2.2.2.2.2.2.2.2.1,(b.2.2.2.2.2.2.2.2.2.2.2.2.2.2.2.2.2.2.2.2.2.2,(w.1,(a3.1,b6)))))))),z.2.1,z.2.2)) (
 some ((b.2.2.2.2.2.2.2.2.2.2.2.2.2.2.1,(b.2.2.2.2.2.2.2.2.2.2.2.2.2.2.2.1,((b.2.2.2.2.2.2.2.2.2.2.2.2.2.2.2.2.1,b.2.2.2.2.2.2.2.2.2.2.2.2.2.2.2.2.2.1),(b.2.2.2.2.2.2.2.2.2.2.2.2.2.2.2.2.2.2.1,(b.2.2.2.2.2.2.2.2.2.2.2.2.2.2.2.2.2.2.2.1,(b.2.2.2.2.2.2.2.2.2.2.2.2.2.2.2.2.2.2.2.2.2.2,(w.1,(b.2.2.2.2.2.2.2.2.2.2.2.2.2.2.2.2.2.2.2.2.1,b.2.2.2.2.2.2.2.2.2.2.2.2.2.2.2.2.2.2.2.2.2.1)))))))),s.2.1,s.2.2))) (
 (j0N u.2.1 u.2.2 4).bind fun f=>
 let b1:=(Int.ofNat (List.length b.2.2.2.2.1))
 cond (cond f.1 (decide (b1>0)) false) (
 let a7:=(Int.ofNat (List.length b.2.2.2.2.1))
 (j03 f.2.1 f.2.2 a7).bind fun p=>
 (j03 p.2.1 p.2.2 2).bind fun l=>
 let b2:=(w64 (1+l.1))
 some ((b.2.2.2.2.2.2.2.2.2.2.2.2.2.2.1,(b.2.2.2.2.2.2.2.2.2.2.2.2.2.2.2.1,((b.2.2.2.2.2.2.2.2.2.2.2.2.2.2.2.2.1,b.2.2.2.2.2.2.2.2.2.2.2.2.2.2.2.2.2.1),(b.2.2.2.2.2.2.2.2.2.2.2.2.2.2.2.2.2.2.1,(b.2.2.2.2.2.2.2.2.2.2.2.2.2.2.2.2.2.2.2.1,(b.2.2.2.2.2.2.2.2.2.2.2.2.2.2.2.2.2.2.2.2.2.2,(([]:Tn2),(p.1,b2)))))))),l.2.1,l.2.2)) (
 some ((b.2.2.2.2.2.2.2.2.2.2.2.2.2.2.1,(b.2.2.2.2.2.2.2.2.2.2.2.2.2.2.2.1,((b.2.2.2.2.2.2.2.2.2.2.2.2.2.2.2.2.1,b.2.2.2.2.2.2.2.2.2.2.2.2.2.2.2.2.2.1),(b.2.2.2.2.2.2.2.2.2.2.2.2.2.2.2.2.2.2.1,(b.2.2.2.2.2.2.2.2.2.2.2.2.2.2.2.2.2.2.2.1,(b.2.2.2.2.2.2.2.2.2.2.2.2.2.2.2.2.2.2.2.2.2.2,(([]:Tn2),(b.2.2.2.2.2.2.2.2.2.2.2.2.2.2.2.2.2.2.2.2.1,b.2.2.2.2.2.2.2.2.2.2.2.2.2.2.2.2.2.2.2.2.2.1)))))))),f.2.1,f.2.2)))) (
 (j03 r.2.1 r.2.2 3).bind fun m=>
 let a6:=(w64 (1+m.1))
 (j3E a6 m.2.1 m.2.2 c.1 c.2.1 c.2.2.1 c.2.2.2 ByteArray.empty 0 0 0 0 0 0 0 j v.1 b4 x.1 t.1 c3 0 0 ([]:(List Int))).bind fun a=>
 (j0N a.1 a.2.1 2).bind fun e=>
 cond e.1 (
 (j3e e.2.1 e.2.2).bind fun i=>
 (j0N i.2.1 i.2.2 4).bind fun d=>
 let a8:=(Int.ofNat (List.length a.2.2.2.2.1))
 cond (cond d.1 (decide (a8>0)) false) (
 let b3:=(Int.ofNat (List.length a.2.2.2.2.1))
 (j03 d.2.1 d.2.2 b3).bind fun k=>
 (j03 k.2.1 k.2.2 2).bind fun o=>
 let a5:=(w64 (1+o.1))
 some ((a.2.2.2.2.2.2.2.2.2.2.2.2.2.2.1,(a.2.2.2.2.2.2.2.2.2.2.2.2.2.2.2.1,((a.2.2.2.2.2.2.2.2.2.2.2.2.2.2.2.2.1,a.2.2.2.2.2.2.2.2.2.2.2.2.2.2.2.2.2.1),(a.2.2.2.2.2.2.2.2.2.2.2.2.2.2.2.2.2.2.1,(a.2.2.2.2.2.2.2.2.2.2.2.2.2.2.2.2.2.2.2.1,(a.2.2.2.2.2.2.2.2.2.2.2.2.2.2.2.2.2.2.2.2.2.2,(i.1,(k.1,a5)))))))),o.2.1,o.2.2)) (
 some ((a.2.2.2.2.2.2.2.2.2.2.2.2.2.2.1,(a.2.2.2.2.2.2.2.2.2.2.2.2.2.2.2.1,((a.2.2.2.2.2.2.2.2.2.2.2.2.2.2.2.2.1,a.2.2.2.2.2.2.2.2.2.2.2.2.2.2.2.2.2.1),(a.2.2.2.2.2.2.2.2.2.2.2.2.2.2.2.2.2.2.1,(a.2.2.2.2.2.2.2.2.2.2.2.2.2.2.2.2.2.2.2.1,(a.2.2.2.2.2.2.2.2.2.2.2.2.2.2.2.2.2.2.2.2.2.2,(i.1,(a.2.2.2.2.2.2.2.2.2.2.2.2.2.2.2.2.2.2.2.2.1,a.2.2.2.2.2.2.2.2.2.2.2.2.2.2.2.2.2.2.2.2.2.1)))))))),d.2.1,d.2.2))) (
 (j0N e.2.1 e.2.2 4).bind fun g=>
 let a9:=(Int.ofNat (List.length a.2.2.2.2.1))
 cond (cond g.1 (decide (a9>0)) false) (
 let b0:=(Int.ofNat (List.length a.2.2.2.2.1))
 (j03 g.2.1 g.2.2 b0).bind fun q=>
 (j03 q.2.1 q.2.2 2).bind fun n=>
 let a4:=(w64 (1+n.1))
 some ((a.2.2.2.2.2.2.2.2.2.2.2.2.2.2.1,(a.2.2.2.2.2.2.2.2.2.2.2.2.2.2.2.1,((a.2.2.2.2.2.2.2.2.2.2.2.2.2.2.2.2.1,a.2.2.2.2.2.2.2.2.2.2.2.2.2.2.2.2.2.1),(a.2.2.2.2.2.2.2.2.2.2.2.2.2.2.2.2.2.2.1,(a.2.2.2.2.2.2.2.2.2.2.2.2.2.2.2.2.2.2.2.1,(a.2.2.2.2.2.2.2.2.2.2.2.2.2.2.2.2.2.2.2.2.2.2,(([]:Tn2),(q.1,a4)))))))),n.2.1,n.2.2)) (
 some ((a.2.2.2.2.2.2.2.2.2.2.2.2.2.2.1,(a.2.2.2.2.2.2.2.2.2.2.2.2.2.2.2.1,((a.2.2.2.2.2.2.2.2.2.2.2.2.2.2.2.2.1,a.2.2.2.2.2.2.2.2.2.2.2.2.2.2.2.2.2.1),(a.2.2.2.2.2.2.2.2.2.2.2.2.2.2.2.2.2.2.1,(a.2.2.2.2.2.2.2.2.2.2.2.2.2.2.2.2.2.2.2.1,(a.2.2.2.2.2.2.2.2.2.2.2.2.2.2.2.2.2.2.2.2.2.2,(([]:Tn2),(a.2.2.2.2.2.2.2.2.2.2.2.2.2.2.2.2.2.2.2.2.1,a.2.2.2.2.2.2.2.2.2.2.2.2.2.2.2.2.2.2.2.2.2.1)))))))),g.2.1,g.2.2))))
def j5U (e:(List Int)) (c:Int):Option (Int×(List Int)×Int):=
 (j03 e c 576).bind fun d=>
 let j:=(w64 (3600*d.1))
 let f:=(w64 (1767139200+j))
 (j0N d.2.1 d.2.2 3).bind fun a=>
 cond a.1 (
 let i:(List Int):=[(-1),1,1800,3599]
 (j0Z a.2.1 a.2.2 i).bind fun b=>
 let g:=(w64 (f+b.1))
 some (g,b.2.1,b.2.2)) (
 some (f,a.2.1,a.2.2))
def j4Z (n:(List Int)) (l:Int) (m:Tn76):Option (Tn28×(List Int)×Int):=
 let j:=(Int.ofNat (List.length m.2.1))
 (j03 n l 3).bind fun a=>
 (j03 a.2.1 a.2.2 j).bind fun e=>
 (j5U e.2.1 e.2.2).bind fun b=>
 let r:(List Int):=[3600,86400,7,259200,40000]
 (j0Z b.2.1 b.2.2 r).bind fun c=>
 let f:=(w64 (b.1+c.1))
 cond (a.1==2) (
 cond (decide (j<2)) (
 some ((0,(e.1,(0,(b.1,f)))),c.2.1,c.2.2)) (
 let p:=(w64 (e.1+1))
 let o:=(w64 (j-1))
 (j03 c.2.1 c.2.2 o).bind fun i=>
 let q:=(w64 (p+i.1))
 cond (!(j==0)) (
 let k:=(Int.tmod q j)
 cond (a.1==1) (
 (j0N i.2.1 i.2.2 4).bind fun g=>
 cond g.1 (
 some ((a.1,((-1),(k,(b.1,f)))),g.2.1,g.2.2)) (
 some ((a.1,(e.1,(k,(b.1,f)))),g.2.1,g.2.2))) (
 some ((a.1,(e.1,(k,(b.1,f)))),i.2.1,i.2.2))) none)) (
 cond (a.1==1) (
 (j0N c.2.1 c.2.2 4).bind fun d=>
 cond d.1 (
 some ((a.1,((-1),(0,(b.1,f)))),d.2.1,d.2.2)) (
 some ((a.1,(e.1,(0,(b.1,f)))),d.2.1,d.2.2))) (
 some ((a.1,(e.1,(0,(b.1,f)))),c.2.1,c.2.2)))
def j1Z [LP] (q r:Int) (o:(List Int)) (j:Int) (n:Tn59) (d:Tn53) (c:Tn30) (p:ByteArray) (e:Tn70) (b:Tn65):Option ((Int×Int×(List Int)×Int×Tn59×Tn53×Tn30×ByteArray×Tn70×Tn65) ⊕ ((Int×(List Int)×Int×Tn59×Tn53×Tn30×ByteArray×Tn70×Tn65))):=
 cond (decide (r>0)) (
 (jdD).bind fun g=>
 let f:=(Int.ofNat (List.length b))
 cond (inR f (List.length g)) (
 let l:=(List.getD g (Int.toNat f) ByteArray.empty)
 (j76 o j (n,(d,(c,e))) l).bind fun a=>
 let i:Tn65:=[(a.1.1,(a.1.2.1,((a.1.2.2.1.1,a.1.2.2.1.2),(a.1.2.2.2.1,(a.1.2.2.2.2.1,(a.1.2.2.2.2.2.1,(a.1.2.2.2.2.2.2.1,(a.1.2.2.2.2.2.2.2.1,a.1.2.2.2.2.2.2.2.2))))))))]
 cond (decide (List.length b+List.length i≤j0a)) (
 let k:Tn65:=(b++i)
 let m:=(w64 (r-1))
 some (.inl (q,m,a.2.1,a.2.2,n,d,c,p,e,k))) none) none) (
 some (.inr (q,o,j,n,d,c,p,e,b)))
def j3j [LP] (j k:Int) (f:(List Int)) (b:Int) (g:Tn59) (d:Tn53) (a:Tn30) (i:ByteArray) (e:Tn70) (c:Tn65):Option ((Int×(List Int)×Int×Tn59×Tn53×Tn30×ByteArray×Tn70×Tn65)):=
 LP.lp (jiY (j1Z)) (j,k,f,b,g,d,a,i,e,c)
theorem j7x (j k f b g d a i e c):j3j j k f b g d a i e c=lpK (j1Z j k f b g d a i e c) (fun h=>j3j h.1 h.2.1 h.2.2.1 h.2.2.2.1 h.2.2.2.2.1 h.2.2.2.2.2.1 h.2.2.2.2.2.2.1 h.2.2.2.2.2.2.2.1 h.2.2.2.2.2.2.2.2.1 h.2.2.2.2.2.2.2.2.2):=j06 _ _
def j20 (o p:Int) (m:(List Int)) (g:Int) (l:Tn59) (d:Tn53) (b:Tn30) (n:ByteArray) (e:Tn70) (i:Tn65) (c:Tn34):Option ((Int×Int×(List Int)×Int×Tn59×Tn53×Tn30×ByteArray×Tn70×Tn65×Tn34) ⊕ ((Int×(List Int)×Int×Tn59×Tn53×Tn30×ByteArray×Tn70×Tn65×Tn34))):=
 cond (decide (p>0)) (
 (j4Z m g (l,(d,(b,e)))).bind fun a=>
 let f:Tn34:=[(a.1.1,(a.1.2.1,(a.1.2.2.1,(a.1.2.2.2.1,a.1.2.2.2.2))))]
 cond (decide (List.length c+List.length f≤j0a)) (
 let j:Tn34:=(c++f)
 let k:=(w64 (p-1))
 some (.inl (o,k,a.2.1,a.2.2,l,d,b,n,e,i,j))) none) (
 some (.inr (o,m,g,l,d,b,n,e,i,c)))
def j4y [LP] (k l:Int) (g:(List Int)) (c:Int) (i:Tn59) (e:Tn53) (a:Tn30) (j:ByteArray) (f:Tn70) (d:Tn65) (b:Tn34):Option ((Int×(List Int)×Int×Tn59×Tn53×Tn30×ByteArray×Tn70×Tn65×Tn34)):=
 LP.lp (jpf (j20)) (k,l,g,c,i,e,a,j,f,d,b)
theorem j7y (k l g c i e a j f d b):j4y k l g c i e a j f d b=lpK (j20 k l g c i e a j f d b) (fun h=>j4y h.1 h.2.1 h.2.2.1 h.2.2.2.1 h.2.2.2.2.1 h.2.2.2.2.2.1 h.2.2.2.2.2.2.1 h.2.2.2.2.2.2.2.1 h.2.2.2.2.2.2.2.2.1 h.2.2.2.2.2.2.2.2.2.1 h.2.2.2.2.2.2.2.2.2.2):=j06 _ _
def j21 [LP] (s:Int) (q:(List Int)) (k:Int) (r:Tn59) (l:Tn53) (j:Tn30) (e:Tn70):Option ((Int×(List Int)×Int×Tn59×Tn53×Tn30×Tn70) ⊕ (((List Int)×Int×Tn59×Tn53×Tn30×Tn70))):=
 cond (decide (s>0)) (
 let i:(List ByteArray):=[(ByteArray.mk #[102,105,114,115,116]),(ByteArray.mk #[115,101,99,111,110,100]),(ByteArray.mk #[116,104,105,114,100])]
 let o:=(Int.ofNat (List.length e))
 let g:=(Int.tmod o 3)
 cond (inR g (List.length i)) (
 let p:=(List.getD i (Int.toNat g) ByteArray.empty)
 (j03 q k 4).bind fun c=>
 (j3j s c.1 c.2.1 c.2.2 r l j p e ([]:Tn65)).bind fun b=>
 (j03 b.2.1 b.2.2.1 4).bind fun d=>
 (j4y b.1 d.1 d.2.1 d.2.2 b.2.2.2.1 b.2.2.2.2.1 b.2.2.2.2.2.1 b.2.2.2.2.2.2.1 b.2.2.2.2.2.2.2.1 b.2.2.2.2.2.2.2.2 ([]:Tn34)).bind fun a=>
 let f:Tn70:=[(a.2.2.2.2.2.2.1,(a.2.2.2.2.2.2.2.2.1,a.2.2.2.2.2.2.2.2.2))]
 cond (decide (List.length a.2.2.2.2.2.2.2.1+List.length f≤j0a)) (
 let m:Tn70:=(a.2.2.2.2.2.2.2.1++f)
 let n:=(w64 (a.1-1))
 some (.inl (n,a.2.1,a.2.2.1,a.2.2.2.1,a.2.2.2.2.1,a.2.2.2.2.2.1,m))) none) none) (
 some (.inr (q,k,r,l,j,e)))
def j4z [LP] (g:Int) (e:(List Int)) (b:Int) (f:Tn59) (c:Tn53) (a:Tn30) (d:Tn70):Option (((List Int)×Int×Tn59×Tn53×Tn30×Tn70)):=
 LP.lp (unc7 (j21)) (g,e,b,f,c,a,d)
theorem j7z (g e b f c a d):j4z g e b f c a d=lpK (j21 g e b f c a d) (fun h=>j4z h.1 h.2.1 h.2.2.1 h.2.2.2.1 h.2.2.2.2.1 h.2.2.2.2.2.1 h.2.2.2.2.2.2):=j06 _ _
def j4I [LP] (e:(List Int)) (d f:Int):Option (Tn76×(List Int)×Int):=
 (j75 e d).bind fun a=>
 (j03 a.2.1 a.2.2 f).bind fun c=>
 let g:=(w64 (1+c.1))
 (j4z g c.2.1 c.2.2 a.1.1 a.1.2.1 a.1.2.2.1 ([]:Tn70)).bind fun b=>
 some ((b.2.2.1,(b.2.2.2.1,(b.2.2.2.2.1,b.2.2.2.2.2))),b.1,b.2.1)
def jii (a:Int):Option (Bool):=
 some (cond (decide (a≥48)) (decide (a≤57)) false)
def j4J (a:ByteArray) (b:Int):Option ((ByteArray×Int) ⊕ (Bool ⊕ Unit)):=
 let i:=(Int.ofNat (ByteArray.size a))
 cond (decide (b<i)) (
 cond (inR b (ByteArray.size a)) (
 let c:=(j2t a b)
 cond ((inR b (ByteArray.size a)) || !(!(decide (c<97)))) (
 let f:=(j2t a b)
 cond ((inR b (ByteArray.size a)) || !(cond (decide (c<97)) true (decide (f>122)))) (
 let k:=(j2t a b)
 cond (cond (decide (c<97)) true (decide (f>122))) (
 (jii k).bind fun d=>
 cond ((inR b (ByteArray.size a)) || !(!d)) (
 let e:=(j2t a b)
 cond ((inR b (ByteArray.size a)) || !(cond (!d) (e != 95) false)) (
 let g:=(j2t a b)
 cond (cond (cond (!d) (e != 95) false) (g != 45) false) (
 some (.inr (.inl false))) (
 let l:=(w64 (b+1))
 some (.inl (a,l)))) none) none) (
 cond ((inR b (ByteArray.size a)) || !false) (
 let n:=(j2t a b)
 cond ((inR b (ByteArray.size a)) || !false) (
 let m:=(j2t a b)
 let j:=(w64 (b+1))
 some (.inl (a,j))) none) none)) none) none) none) (
 some (.inr (.inr ())))
def j7M [LP] (a:ByteArray) (b:Int):Option (Bool ⊕ Unit):=
 LP.lp (unc2 (j4J)) (a,b)
theorem jdZ (a b):j7M a b=lpK (j4J a b) (fun h=>j7M h.1 h.2):=j06 _ _
def jho [LP] (a:ByteArray):Option (Bool):=
 let f:=(Int.ofNat (ByteArray.size a))
 let c:=(Int.ofNat (ByteArray.size a))
 cond ((inR 0 (ByteArray.size a)) || !(!(cond (decide (f<1)) true (decide (c>24))))) (
 let d:=(j2t a 0)
 let b:Bool:=(cond (cond (decide (f<1)) true (decide (c>24))) true (decide (d<97)))
 cond ((inR 0 (ByteArray.size a)) || !(!b)) (
 let e:=(j2t a 0)
 cond (cond b true (decide (e>122))) (
 some false) (
 (j7M a 0).bind fun g=>
 sumC g (fun i=>
 some i) (fun j=>
 some true))) none) none
def j4K (a:(List ByteArray)) (b e:Int):Option (((List ByteArray)×Int×Int) ⊕ (Int ⊕ Unit)):=
 cond (decide (e<b)) (
 cond (inR e (List.length a)) (
 let c:=(List.getD a (Int.toNat e) ByteArray.empty)
 cond (inR b (List.length a)) (
 let f:=(List.getD a (Int.toNat b) ByteArray.empty)
 cond (ByteArray.toList c==ByteArray.toList f) (
 some (.inr (.inl 4))) (
 let d:=(w64 (e+1))
 some (.inl (a,b,d)))) none) none) (
 some (.inr (.inr ())))
def j9A [LP] (a:(List ByteArray)) (c b:Int):Option (Int ⊕ Unit):=
 LP.lp (unc3 (j4K)) (a,c,b)
theorem je0 (a c b):j9A a c b=lpK (j4K a c b) (fun h=>j9A h.1 h.2.1 h.2.2):=j06 _ _
def j99 [LP] (b:(List ByteArray)) (a:Int):Option (Int):=
 cond (inR a (List.length b)) (
 let e:=(List.getD b (Int.toNat a) ByteArray.empty)
 (jho e).bind fun c=>
 cond (!c) (
 some 2) (
 (j9A b a 0).bind fun d=>
 sumC d (fun f=>
 some f) (fun g=>
 some 0))) none
def jbe (a c b:Int):Option (Bool):=
 some (cond (decide (a≥c)) (decide (a≤b)) false)
def jd4 (a:Tn43):Option (Bool):=
 (jbe a.1 1970 2240).bind fun i=>
 cond i (
 (jbe a.2.1 a.1 2240).bind fun e=>
 cond e (
 (jbe a.2.2.1 1 12).bind fun b=>
 cond b (
 (jbe a.2.2.2.1 1 5).bind fun g=>
 cond g (
 (jbe a.2.2.2.2.1 0 6).bind fun c=>
 cond c (
 (jbe a.2.2.2.2.2.1 0 86399).bind fun d=>
 cond d (
 (jbe a.2.2.2.2.2.2 (-64800) 64800).bind fun f=>
 some f) (
 some false)) (
 some false)) (
 some false)) (
 some false)) (
 some false)) (
 some false)
def j1j (a:Int):Option (Bool):=
 let d:=(Int.tmod a 4)
 let c:=(Int.tmod a 100)
 let b:=(Int.tmod a 400)
 some (cond (d==0) (cond (c != 0) true (b==0)) false)
def jbK (b a:Int):Option (Int):=
 cond (a==1) (
 cond (a==1) (
 some 31) (
 cond (a==4) (
 cond (a==4) (
 some 30) (
 cond (a==2) (
 (j1j b).bind fun a4=>
 cond a4 (
 some 29) (
 some 28)) (
 some 0))) (
 cond (a==6) (
 cond (a==6) (
 some 30) (
 cond (a==2) (
 (j1j b).bind fun w=>
 cond w (
 some 29) (
 some 28)) (
 some 0))) (
 cond (a==9) (
 cond (a==9) (
 some 30) (
 cond (a==2) (
 (j1j b).bind fun x=>
 cond x (
 some 29) (
 some 28)) (
 some 0))) (
 cond (a==11) (
 some 30) (
 cond (a==2) (
 (j1j b).bind fun a2=>
 cond a2 (
 some 29) (
 some 28)) (
 some 0))))))) (
 cond (a==3) (
 cond (a==3) (
 some 31) (
 cond (a==4) (
 cond (a==4) (
 some 30) (
 cond (a==2) (
 (j1j b).bind fun a0=>
 cond a0 (
 some 29) (
 some 28)) (
 some 0))) (
 cond (a==6) (
 cond (a==6) (
 some 30) (
 cond (a==2) (
 (j1j b).bind fun z=>
 cond z (
 some 29) (
 some 28)) (
 some 0))) (
 cond (a==9) (
 cond (a==9) (
 some 30) (
 cond (a==2) (
 (j1j b).bind fun a1=>
 cond a1 (
 some 29) (
 some 28)) (
 some 0))) (
 cond (a==11) (
 some 30) (
 cond (a==2) (
 (j1j b).bind fun v=>
 cond v (
 some 29) (
 some 28)) (
 some 0))))))) (
 cond (a==5) (
 cond (a==5) (
 some 31) (
 cond (a==4) (
 cond (a==4) (
 some 30) (
 cond (a==2) (
 (j1j b).bind fun y=>
 cond y (
 some 29) (
 some 28)) (
 some 0))) (
 cond (a==6) (
 cond (a==6) (
 some 30) (
 cond (a==2) (
 (j1j b).bind fun a3=>
 cond a3 (
 some 29) (
 some 28)) (
 some 0))) (
 cond (a==9) (
 cond (a==9) (
 some 30) (
 cond (a==2) (
 (j1j b).bind fun u=>
 cond u (
 some 29) (
 some 28)) (
 some 0))) (
 cond (a==11) (
 some 30) (
 cond (a==2) (
 (j1j b).bind fun k=>
 cond k (
 some 29) (
 some 28)) (
 some 0))))))) (
 cond (a==7) (
 cond (a==7) (
 some 31) (
 cond (a==4) (
 cond (a==4) (
 some 30) (
 cond (a==2) (
 (j1j b).bind fun j=>
 cond j (
 some 29) (
 some 28)) (
 some 0))) (
 cond (a==6) (
 cond (a==6) (
 some 30) (
 cond (a==2) (
 (j1j b).bind fun n=>
 cond n (
 some 29) (
 some 28)) (
 some 0))) (
 cond (a==9) (
 cond (a==9) (
 some 30) (
 cond (a==2) (
 (j1j b).bind fun g=>
 cond g (
 some 29) (
 some 28)) (
 some 0))) (
 cond (a==11) (
 some 30) (
 cond (a==2) (
 (j1j b).bind fun d=>
 cond d (
 some 29) (
 some 28)) (
 some 0))))))) (
 cond (a==8) (
 cond (a==8) (
 some 31) (
 cond (a==4) (
 cond (a==4) (
 some 30) (
 cond (a==2) (
 (j1j b).bind fun l=>
 cond l (
 some 29) (
 some 28)) (
 some 0))) (
 cond (a==6) (
 cond (a==6) (
 some 30) (
 cond (a==2) (
 (j1j b).bind fun f=>
 cond f (
 some 29) (
 some 28)) (
 some 0))) (
 cond (a==9) (
 cond (a==9) (
 some 30) (
 cond (a==2) (
 (j1j b).bind fun i=>
 cond i (
 some 29) (
 some 28)) (
 some 0))) (
 cond (a==11) (
 some 30) (
 cond (a==2) (
 (j1j b).bind fun e=>
 cond e (
 some 29) (
 some 28)) (
 some 0))))))) (
 cond (a==10) (
 cond (a==10) (
 some 31) (
 cond (a==4) (
 cond (a==4) (
 some 30) (
 cond (a==2) (
 (j1j b).bind fun q=>
 cond q (
 some 29) (
 some 28)) (
 some 0))) (
 cond (a==6) (
 cond (a==6) (
 some 30) (
 cond (a==2) (
 (j1j b).bind fun t=>
 cond t (
 some 29) (
 some 28)) (
 some 0))) (
 cond (a==9) (
 cond (a==9) (
 some 30) (
 cond (a==2) (
 (j1j b).bind fun p=>
 cond p (
 some 29) (
 some 28)) (
 some 0))) (
 cond (a==11) (
 some 30) (
 cond (a==2) (
 (j1j b).bind fun s=>
 cond s (
 some 29) (
 some 28)) (
 some 0))))))) (
 cond (a==12) (
 some 31) (
 cond (a==4) (
 cond (a==4) (
 some 30) (
 cond (a==2) (
 (j1j b).bind fun c=>
 cond c (
 some 29) (
 some 28)) (
 some 0))) (
 cond (a==6) (
 cond (a==6) (
 some 30) (
 cond (a==2) (
 (j1j b).bind fun m=>
 cond m (
 some 29) (
 some 28)) (
 some 0))) (
 cond (a==9) (
 cond (a==9) (
 some 30) (
 cond (a==2) (
 (j1j b).bind fun o=>
 cond o (
 some 29) (
 some 28)) (
 some 0))) (
 cond (a==11) (
 some 30) (
 cond (a==2) (
 (j1j b).bind fun r=>
 cond r (
 some 29) (
 some 28)) (
 some 0))))))))))))
def jfr (a:Tn4):Option (Bool):=
 cond (decide (a.1≥1970)) (
 cond (decide (a.1≤2240)) (
 cond (decide (a.2.1≥1)) (
 cond (decide (a.2.1≤12)) (
 cond (decide (a.2.2≥1)) (
 (jbK a.1 a.2.1).bind fun b=>
 some (decide (a.2.2≤b))) (
 some false)) (
 some false)) (
 some false)) (
 some false)) (
 some false)
def jfs (a:Int):Option (Int):=
 let m:=(w64 (a-1970))
 let k:=(w64 (m*365))
 let i:=(w64 (a-1969))
 let l:=(w64 (Int.tdiv i 4))
 let j:=(w64 (k+l))
 let b:=(w64 (a-1901))
 let g:=(w64 (Int.tdiv b 100))
 let e:=(w64 (j-g))
 let c:=(w64 (a-1601))
 let d:=(w64 (Int.tdiv c 400))
 let f:=(w64 (e+d))
 some f
def j5w (i g f a b:Int):Option ((Int×Int×Int×Int×Int) ⊕ ((Int×Int×Int×Int))):=
 cond (decide (g<a)) (
 (jbK f g).bind fun d=>
 let e:=(w64 (i+d))
 let c:=(w64 (g+1))
 some (.inl (e,c,f,a,b))) (
 some (.inr (i,f,a,b)))
def jdE [LP] (e d c a b:Int):Option ((Int×Int×Int×Int)):=
 LP.lp (unc5 (j5w)) (e,d,c,a,b)
theorem jft (e d c a b):jdE e d c a b=lpK (j5w e d c a b) (fun h=>jdE h.1 h.2.1 h.2.2.1 h.2.2.2.1 h.2.2.2.2):=j06 _ _
def jkx [LP] (a:Tn4):Option (Int×Int):=
 (jfr (a.1,(a.2.1,a.2.2))).bind fun f=>
 cond (!f) (
 some (0,1)) (
 (jfs a.1).bind fun d=>
 (jdE d 1 a.1 a.2.1 a.2.2).bind fun c=>
 let b:=(w64 (c.1+c.2.2.2))
 let e:=(w64 (b-1))
 some (e,0))
def jeq (a:Int):Option (Int):=
 let c:=(Int.tmod a 7)
 let d:=(w64 (c+10))
 let b:=(Int.tmod d 7)
 some b
def j5x (f e g i d a:Int):Option ((Int×Int×Int×Int×Int×Int) ⊕ ((Int×Int×Int×Int×Int))):=
 (jeq a).bind fun b=>
 cond (b != i) (
 let c:=(w64 (a+1))
 some (.inl (f,e,g,i,d,c))) (
 some (.inr (f,e,g,d,a)))
def jdF [LP] (d c e f a b:Int):Option ((Int×Int×Int×Int×Int)):=
 LP.lp (unc6 (j5x)) (d,c,e,f,a,b)
theorem jfu (d c e f a b):jdF d c e f a b=lpK (j5x d c e f a b) (fun h=>jdF h.1 h.2.1 h.2.2.1 h.2.2.2.1 h.2.2.2.2.1 h.2.2.2.2.2):=j06 _ _
def j5y (i g f a:Int):Option ((Int×Int×Int×Int) ⊕ (Int)):=
 let e:=(w64 (a+7))
 (jbK i g).bind fun b=>
 let d:=(w64 (f+b))
 cond (decide (e<d)) (
 let c:=(w64 (a+7))
 some (.inl (i,g,f,c))) (
 some (.inr a))
def jdG [LP] (c d a b:Int):Option (Int):=
 LP.lp (unc4 (j5y)) (c,d,a,b)
theorem jfv (d c a b):jdG d c a b=lpK (j5y d c a b) (fun h=>jdG h.1 h.2.1 h.2.2.1 h.2.2.2):=j06 _ _
def jky [LP] (f c b a:Int):Option (Int×Int):=
 (jkx (f,(c,1))).bind fun e=>
 let l:Bool:=(cond (cond (e.2 != 0) true (decide (b<1))) true (decide (b>5)))
 let g:Bool:=(cond (cond l true (decide (a<0))) true (decide (a>6)))
 cond g (
 some (0,1)) (
 (jdF f c b a e.1 e.1).bind fun d=>
 cond (decide (d.2.2.1<5)) (
 let k:=(w64 (d.2.2.1-1))
 let j:=(w64 (7*k))
 let i:=(w64 (d.2.2.2.2+j))
 some (i,0)) (
 (jdG d.1 d.2.1 d.2.2.2.1 d.2.2.2.2).bind fun m=>
 some (m,0)))
def j2f (i:Tn47) (k j d f a:Int) (c:Tn2):Option ((Tn47×Int×Int×Int×Int×Int×Tn2) ⊕ ((Tn47×Int×Int×Int×Int×Int×Tn2))):=
 cond (decide (d>0)) (
 let b:=(w64 (d-1))
 cond (inR b (List.length c)) (
 let e:=(List.getD c (Int.toNat b) (0,0)).1
 cond (decide (e>f)) (
 let g:=(w64 (d-1))
 some (.inl (i,k,j,g,f,a,c))) (
 some (.inr (i,k,j,d,f,a,c)))) none) (
 some (.inr (i,k,j,d,f,a,c)))
def j3F [LP] (b:Tn47) (f d g c a:Int) (e:Tn2):Option ((Tn47×Int×Int×Int×Int×Int×Tn2)):=
 LP.lp (unc7 (j2f)) (b,f,d,g,c,a,e)
theorem j8e (b f d g c a e):j3F b f d g c a e=lpK (j2f b f d g c a e) (fun h=>j3F h.1 h.2.1 h.2.2.1 h.2.2.2.1 h.2.2.2.2.1 h.2.2.2.2.2.1 h.2.2.2.2.2.2):=j06 _ _
def j2g [LP] (c:Tn47) (d u:Int) (v:Tn2):Option ((Tn47×Int×Int×Tn2) ⊕ ((Tn47×Int×Tn2))):=
 cond (inR d (List.length c)) (
 let m:=(List.getD c (Int.toNat d) (0,(0,(0,(0,(0,(0,0)))))))
 cond (decide (u≤m.2.1)) (
 cond (inR d (List.length c)) (
 let j:=(List.getD c (Int.toNat d) (0,(0,(0,(0,(0,(0,0)))))))
 cond (inR d (List.length c)) (
 let q:=(List.getD c (Int.toNat d) (0,(0,(0,(0,(0,(0,0)))))))
 cond (inR d (List.length c)) (
 let p:=(List.getD c (Int.toNat d) (0,(0,(0,(0,(0,(0,0)))))))
 (jky u j.2.2.1 q.2.2.2.1 p.2.2.2.2.1).bind fun l=>
 let s:=(w64 (l.1*86400))
 cond (inR d (List.length c)) (
 let k:=(List.getD c (Int.toNat d) (0,(0,(0,(0,(0,(0,0)))))))
 let r:=(w64 (s+k.2.2.2.2.2.1))
 cond (inR d (List.length c)) (
 let n:=(List.getD c (Int.toNat d) (0,(0,(0,(0,(0,(0,0)))))))
 let i:=(Int.ofNat (List.length v))
 (j3F c d u i r n.2.2.2.2.2.2 v).bind fun a=>
 let f:Tn2:=[(a.2.2.2.2.1,a.2.2.2.2.2.1)]
 cond (decide (List.length a.2.2.2.2.2.2+List.length f≤j0a)) (
 let b:Tn2:=(a.2.2.2.2.2.2++f)
 let e:=(w64 (a.2.2.2.1+1))
 cond (decide (0≤e)&&decide (e≤(Int.ofNat (List.length b)))) (
 cond (decide (0≤a.2.2.2.1)&&decide (a.2.2.2.1≤(Int.ofNat (List.length b)))) (
 let g:Tn2:=(over b (Int.toNat e) (List.drop (Int.toNat a.2.2.2.1) b))
 let w:=(Int.ofNat (min (List.length (List.drop (Int.toNat a.2.2.2.1) b)) (List.length b-(Int.toNat e))))
 cond (inR a.2.2.2.1 (List.length g)) (
 let t:Tn2:=(List.set g (Int.toNat a.2.2.2.1) (a.2.2.2.2.1,a.2.2.2.2.2.1))
 let o:=(w64 (a.2.2.1+1))
 some (.inl (a.1,a.2.1,o,t))) none) none) none) none) none) none) none) none) none) (
 some (.inr (c,d,v)))) none
def j5b [LP] (a:Tn47) (c b:Int) (d:Tn2):Option ((Tn47×Int×Tn2)):=
 LP.lp (unc4 (j2g)) (a,c,b,d)
theorem j8f (a d b c):j5b a d b c=lpK (j2g a d b c) (fun h=>j5b h.1 h.2.1 h.2.2.1 h.2.2.2):=j06 _ _
def j2h [LP] (b:Tn47) (f:Int) (g:Tn2):Option ((Tn47×Int×Tn2) ⊕ (Tn2)):=
 let e:=(Int.ofNat (List.length b))
 cond (decide (f<e)) (
 cond (inR f (List.length b)) (
 let c:=(List.getD b (Int.toNat f) (0,(0,(0,(0,(0,(0,0)))))))
 (j5b b f c.1 g).bind fun a=>
 let d:=(w64 (a.2.1+1))
 some (.inl (a.1,d,a.2.2))) none) (
 some (.inr g))
def j3G [LP] (a:Tn47) (b:Int) (c:Tn2):Option (Tn2):=
 LP.lp (unc3 (j2h)) (a,b,c)
theorem j8g (a b c):j3G a b c=lpK (j2h a b c) (fun h=>j3G h.1 h.2.1 h.2.2):=j06 _ _
def j77 [LP] (a:Tn47):Option (Tn2):=
 (j3G a 0 ([]:Tn2)).bind fun b=>
 some b
def j2i (o c:Int) (n:ByteArray) (d:Int) (b:Tn47):Option ((Int×Int×ByteArray×Int×Tn47) ⊕ (Int ⊕ (Int×ByteArray×Int×Tn47))):=
 let l:=(Int.ofNat (List.length b))
 cond (decide (c<l)) (
 cond (inR c (List.length b)) (
 let a:=(List.getD b (Int.toNat c) (0,(0,(0,(0,(0,(0,0)))))))
 (jd4 (a.1,(a.2.1,(a.2.2.1,(a.2.2.2.1,(a.2.2.2.2.1,(a.2.2.2.2.2.1,a.2.2.2.2.2.2))))))).bind fun e=>
 cond (!e) (
 some (.inr (.inl 1))) (
 cond (inR c (List.length b)) (
 let i:=(List.getD b (Int.toNat c) (0,(0,(0,(0,(0,(0,0)))))))
 cond (inR c (List.length b)) (
 let k:=(List.getD b (Int.toNat c) (0,(0,(0,(0,(0,(0,0)))))))
 let j:=(w64 (i.2.1-k.1))
 let f:=(w64 (j+1))
 let m:=(w64 (o+f))
 let g:=(w64 (c+1))
 some (.inl (m,g,n,d,b))) none) none)) none) (
 some (.inr (.inr (o,n,d,b))))
def j3H [LP] (e d:Int) (c:ByteArray) (a:Int) (b:Tn47):Option (Int ⊕ (Int×ByteArray×Int×Tn47)):=
 LP.lp (unc5 (j2i)) (e,d,c,a,b)
theorem j8h (e d c a b):j3H e d c a b=lpK (j2i e d c a b) (fun h=>j3H h.1 h.2.1 h.2.2.1 h.2.2.2.1 h.2.2.2.2):=j06 _ _
def j2j (s e:Int) (c d:Tn2):Option ((Int×Int×Tn2×Tn2) ⊕ (Int ⊕ Tn2)):=
 let w:=(Int.ofNat (List.length d))
 cond (decide (e<w)) (
 cond (inR e (List.length d)) (
 let t:=(List.getD d (Int.toNat e) (0,0)).2
 cond (t==s) (
 let v:=(w64 (e+1))
 some (.inl (s,v,c,d))) (
 cond (inR e (List.length d)) (
 let q:=(List.getD d (Int.toNat e) (0,0)).1
 let b:=(w64 (q-s))
 cond (inR e (List.length d)) (
 let a:=(List.getD d (Int.toNat e) (0,0)).2
 let y:=(w64 (a-s))
 (jbe y (-86399) 86399).bind fun r=>
 cond (!r) (
 some (.inr (.inl 6))) (
 (jbe b 0 8589934592).bind fun x=>
 cond (!x) (
 some (.inr (.inl 6))) (
 let o:=(Int.ofNat (List.length c))
 cond (decide (o>0)) (
 let k:=(Int.ofNat (List.length c))
 let f:=(w64 (k-1))
 cond (inR f (List.length c)) (
 let j:=(List.getD c (Int.toNat f) (0,0)).1
 let m:=(w64 (b-j))
 cond (decide (m<604800)) (
 some (.inr (.inl 6))) (
 let g:Tn2:=[(b,a)]
 cond (decide (List.length c+List.length g≤j0a)) (
 let l:Tn2:=(c++g)
 let p:=(w64 (e+1))
 some (.inl (a,p,l,d))) none)) none) (
 let i:Tn2:=[(b,a)]
 cond (decide (List.length c+List.length i≤j0a)) (
 let n:Tn2:=(c++i)
 let u:=(w64 (e+1))
 some (.inl (a,u,n,d))) none)))) none) none)) none) (
 some (.inr (.inr c)))
def j3I [LP] (d c:Int) (b a:Tn2):Option (Int ⊕ Tn2):=
 LP.lp (unc4 (j2j)) (d,c,b,a)
theorem j8i (d c a b):j3I d c a b=lpK (j2j d c a b) (fun h=>j3I h.1 h.2.1 h.2.2.1 h.2.2.2):=j06 _ _
def j4h [LP] (a:Tn57):Option (Tn2×Int):=
 (jbe a.2.1 (-64800) 64800).bind fun c=>
 cond (!c) (
 some (([]:Tn2),1)) (
 let e:=(Int.ofNat (List.length a.2.2))
 cond (decide (e>16)) (
 some (([]:Tn2),5)) (
 (j3H 0 0 a.1 a.2.1 a.2.2).bind fun g=>
 sumC g (fun k=>
 some (([]:Tn2),k)) (fun i=>
 cond (decide (i.1>640)) (
 some (([]:Tn2),5)) (
 (j77 i.2.2.2).bind fun b=>
 (j3I i.2.2.1 0 ([]:Tn2) b).bind fun j=>
 sumC j (fun f=>
 some (([]:Tn2),f)) (fun d=>
 some (d,0))))))
def j8j [LP] (a:Tn57):Option (Int):=
 (j4h (a.1,(a.2.1,a.2.2))).bind fun b=>
 some b.2
def j3k (i:Bool) (f:Int) (j:ByteArray) (g:Int) (a:Tn47):Option ((Bool×Int×ByteArray×Int×Tn47) ⊕ (Bool)):=
 let e:=(Int.ofNat (List.length a))
 cond (decide (f<e)) (
 cond ((inR f (List.length a)) || !i) (
 let d:=(List.getD a (Int.toNat f) (0,(0,(0,(0,(0,(0,0)))))))
 let c:=(Int.tmod d.2.2.2.2.2.2 60)
 let b:=(w64 (f+1))
 some (.inl ((cond i (c==0) false),b,j,g,a))) none) (
 some (.inr i))
def j6q [LP] (d:Bool) (e:Int) (c:ByteArray) (a:Int) (b:Tn47):Option (Bool):=
 LP.lp (unc5 (j3k)) (d,e,c,a,b)
theorem jbf (d e c a b):j6q d e c a b=lpK (j3k d e c a b) (fun h=>j6q h.1 h.2.1 h.2.2.1 h.2.2.2.1 h.2.2.2.2):=j06 _ _
def j9B [LP] (a:Tn57):Option (Bool):=
 let b:=(Int.tmod a.2.1 60)
 (j6q (b==0) 0 a.1 a.2.1 a.2.2).bind fun c=>
 some c
def j4i [LP] (c:Int) (d:Tn59) (m:Tn53) (o:Tn30) (l:Tn70) (p:(List ByteArray)):Option ((Int×Tn59×Tn53×Tn30×Tn70×(List ByteArray)) ⊕ (Int ⊕ Unit)):=
 let n:=(Int.ofNat (List.length d))
 cond (decide (c<n)) (
 cond (inR c (List.length d)) (
 let f:=(List.getD d (Int.toNat c) (ByteArray.empty,(0,([]:Tn47))))
 cond (decide (List.length p+List.length [f.1]≤j0a)) (
 let i:(List ByteArray):=(p++[f.1])
 (j99 i c).bind fun e=>
 cond (e != 0) (
 some (.inr (.inl e))) (
 cond (inR c (List.length d)) (
 let b:=(List.getD d (Int.toNat c) (ByteArray.empty,(0,([]:Tn47))))
 (j8j (b.1,(b.2.1,b.2.2))).bind fun g=>
 cond ((inR c (List.length d)) || !(!(g != 0))) (
 let a:=(List.getD d (Int.toNat c) (ByteArray.empty,(0,([]:Tn47))))
 cond (g != 0) (
 some (.inr (.inl 8))) (
 (j9B (a.1,(a.2.1,a.2.2))).bind fun j=>
 cond (!j) (
 some (.inr (.inl 8))) (
 let k:=(w64 (c+1))
 some (.inl (k,d,m,o,l,i))))) none) none)) none) none) (
 some (.inr (.inr ())))
def j8k [LP] (f:Int) (d:Tn59) (b:Tn53) (c:Tn30) (a:Tn70) (e:(List ByteArray)):Option (Int ⊕ Unit):=
 LP.lp (unc6 (j4i)) (f,d,b,c,a,e)
theorem jd5 (f d b c a e):j8k f d b c a e=lpK (j4i f d b c a e) (fun h=>j8k h.1 h.2.1 h.2.2.1 h.2.2.2.1 h.2.2.2.2.1 h.2.2.2.2.2):=j06 _ _
def jij [LP] (a:Tn76):Option (Int):=
 (j8k 0 a.1 a.2.1 a.2.2.1 a.2.2.2 ([]:(List ByteArray))).bind fun b=>
 sumC b (fun c=>
 some c) (fun d=>
 some 0)
def j6r (a c b:Int):Option (Bool):=
 some (cond (decide (a≥c)) (decide (a≤b)) false)
def j4j (a:Tn2) (b:Int):Option ((Tn2×Int) ⊕ (Int ⊕ Unit)):=
 let m:=(Int.ofNat (List.length a))
 cond (decide (b<m)) (
 cond (inR b (List.length a)) (
 let d:=(List.getD a (Int.toNat b) (0,0))
 cond (decide (d.1<0)) (
 some (.inr (.inl 1))) (
 cond (inR b (List.length a)) (
 let l:=(List.getD a (Int.toNat b) (0,0))
 cond (inR b (List.length a)) (
 let k:=(List.getD a (Int.toNat b) (0,0))
 cond (decide (l.1≥k.2)) (
 some (.inr (.inl 1))) (
 cond (inR b (List.length a)) (
 let i:=(List.getD a (Int.toNat b) (0,0))
 cond (decide (i.2>604800)) (
 some (.inr (.inl 1))) (
 cond (decide (b>0)) (
 cond (inR b (List.length a)) (
 let g:=(List.getD a (Int.toNat b) (0,0))
 let c:=(w64 (b-1))
 cond (inR c (List.length a)) (
 let j:=(List.getD a (Int.toNat c) (0,0))
 cond (decide (g.1<j.2)) (
 some (.inr (.inl 6))) (
 let e:=(w64 (b+1))
 some (.inl (a,e)))) none) none) (
 let f:=(w64 (b+1))
 some (.inl (a,f))))) none)) none) none)) none) (
 some (.inr (.inr ())))
def j8l [LP] (a:Tn2) (b:Int):Option (Int ⊕ Unit):=
 LP.lp (unc2 (j4j)) (a,b)
theorem jd6 (a b):j8l a b=lpK (j4j a b) (fun h=>j8l h.1 h.2):=j06 _ _
def jd7 [LP] (a:Tn2):Option (Int):=
 let c:=(Int.ofNat (List.length a))
 cond (decide (c>14)) (
 some 5) (
 (j8l a 0).bind fun b=>
 sumC b (fun d=>
 some d) (fun e=>
 some 0))
def jfw (a:Int):Option (Bool):=
 (j6r a 0 604800).bind fun c=>
 let b:=(Int.tmod a 3600)
 some (cond c (b==0) false)
def j3J [LP] (e:Int) (r:Tn59) (b:Tn53) (q:Tn30) (p:Tn70) (s:(List ByteArray)):Option ((Int×Tn59×Tn53×Tn30×Tn70×(List ByteArray)) ⊕ (Int ⊕ Unit)):=
 let n:=(Int.ofNat (List.length b))
 cond (decide (e<n)) (
 cond (inR e (List.length b)) (
 let a:=(List.getD b (Int.toNat e) (ByteArray.empty,(0,(([]:Tn2),(0,(0,false))))))
 cond (decide (List.length s+List.length [a.1]≤j0a)) (
 let c:(List ByteArray):=(s++[a.1])
 let l:Bool:=(ByteArray.toList a.1==ByteArray.toList (ByteArray.mk #[110,111,98,111,100,121]))
 cond l (
 some (.inr (.inl 2))) (
 (j99 c e).bind fun d=>
 cond (d != 0) (
 some (.inr (.inl d))) (
 let f:=(Int.ofNat (List.length r))
 let j:=(w64 (f-1))
 (j6r a.2.1 0 j).bind fun g=>
 cond (!g) (
 some (.inr (.inl 3))) (
 (jd7 a.2.2.1).bind fun i=>
 cond (i != 0) (
 some (.inr (.inl 8))) (
 (jfw a.2.2.2.1).bind fun o=>
 cond (!o) (
 some (.inr (.inl 1))) (
 (jfw a.2.2.2.2.1).bind fun k=>
 cond (!k) (
 some (.inr (.inl 1))) (
 let m:=(w64 (e+1))
 some (.inl (m,r,b,q,p,c))))))))) none) none) (
 some (.inr (.inr ())))
def j78 [LP] (f:Int) (d:Tn59) (b:Tn53) (c:Tn30) (a:Tn70) (e:(List ByteArray)):Option (Int ⊕ Unit):=
 LP.lp (unc6 (j3J)) (f,d,b,c,a,e)
theorem jcl (f d b c a e):j78 f d b c a e=lpK (j3J f d b c a e) (fun h=>j78 h.1 h.2.1 h.2.2.1 h.2.2.2.1 h.2.2.2.2.1 h.2.2.2.2.2):=j06 _ _
def jgi [LP] (a:Tn76):Option (Int):=
 (j78 0 a.1 a.2.1 a.2.2.1 a.2.2.2 ([]:(List ByteArray))).bind fun b=>
 sumC b (fun c=>
 some c) (fun d=>
 some 0)
def j9l  : Option (Int):=
 (jfs 2241).bind fun b=>
 let a:=(w64 (b-1))
 some a
def j2F (p l:Int) (m:Tn59) (c:Tn53) (e:Tn30) (b:Tn70) (n:ByteArray) (d:Int) (a:(List Int)) (o:(List ByteArray)):Option ((Int×Int×Tn59×Tn53×Tn30×Tn70×ByteArray×Int×(List Int)×(List ByteArray)) ⊕ (Int ⊕ (Int×Tn59×Tn53×Tn30×Tn70×ByteArray×Int×(List Int)×(List ByteArray)))):=
 let k:=(Int.ofNat (List.length a))
 cond (decide (l<k)) (
 cond (inR l (List.length a)) (
 let j:=(List.getD a (Int.toNat l) 0)
 (j9l).bind fun g=>
 (j6r j 0 g).bind fun i=>
 cond (!i) (
 some (.inr (.inl 1))) (
 let f:=(w64 (l+1))
 some (.inl (p,f,m,c,e,b,n,d,a,o)))) none) (
 some (.inr (.inr (p,m,c,e,b,n,d,a,o))))
def j4L [LP] (j k:Int) (f:Tn59) (c:Tn53) (e:Tn30) (b:Tn70) (g:ByteArray) (d:Int) (a:(List Int)) (i:(List ByteArray)):Option (Int ⊕ (Int×Tn59×Tn53×Tn30×Tn70×ByteArray×Int×(List Int)×(List ByteArray))):=
 LP.lp (jiY (j2F)) (j,k,f,c,e,b,g,d,a,i)
theorem j9C (j k f c e b g d a i):j4L j k f c e b g d a i=lpK (j2F j k f c e b g d a i) (fun h=>j4L h.1 h.2.1 h.2.2.1 h.2.2.2.1 h.2.2.2.2.1 h.2.2.2.2.2.1 h.2.2.2.2.2.2.1 h.2.2.2.2.2.2.2.1 h.2.2.2.2.2.2.2.2.1 h.2.2.2.2.2.2.2.2.2):=j06 _ _
def j3K (o e:Int) (m:Tn59) (d:Tn53) (f:Tn30) (c:Tn70) (p:ByteArray) (l:Int) (a:(List Int)) (n:(List ByteArray)):Option ((Int×Int×Tn59×Tn53×Tn30×Tn70×ByteArray×Int×(List Int)×(List ByteArray)) ⊕ (Int ⊕ (Int×Tn59×Tn53×Tn30×Tn70×(List ByteArray)))):=
 let i:=(Int.ofNat (List.length a))
 cond (decide (e<i)) (
 cond (inR e (List.length a)) (
 let j:=(List.getD a (Int.toNat e) 0)
 let b:=(w64 (e-1))
 cond (inR b (List.length a)) (
 let k:=(List.getD a (Int.toNat b) 0)
 cond (decide (j≤k)) (
 some (.inr (.inl 6))) (
 let g:=(w64 (e+1))
 some (.inl (o,g,m,d,f,c,p,l,a,n)))) none) none) (
 some (.inr (.inr (o,m,d,f,c,n))))
def j4M [LP] (k j:Int) (f:Tn59) (c:Tn53) (e:Tn30) (b:Tn70) (g:ByteArray) (d:Int) (a:(List Int)) (i:(List ByteArray)):Option (Int ⊕ (Int×Tn59×Tn53×Tn30×Tn70×(List ByteArray))):=
 LP.lp (jiY (j3K)) (k,j,f,c,e,b,g,d,a,i)
theorem jer (k j f c e b g d a i):j4M k j f c e b g d a i=lpK (j3K k j f c e b g d a i) (fun h=>j4M h.1 h.2.1 h.2.2.1 h.2.2.2.1 h.2.2.2.2.1 h.2.2.2.2.2.1 h.2.2.2.2.2.2.1 h.2.2.2.2.2.2.2.1 h.2.2.2.2.2.2.2.2.1 h.2.2.2.2.2.2.2.2.2):=j06 _ _
def j2G [LP] (g:Int) (s:Tn59) (q:Tn53) (d:Tn30) (o:Tn70) (v:(List ByteArray)):Option ((Int×Tn59×Tn53×Tn30×Tn70×(List ByteArray)) ⊕ (Int ⊕ Unit)):=
 let m:=(Int.ofNat (List.length d))
 cond (decide (g<m)) (
 cond (inR g (List.length d)) (
 let a:=(List.getD d (Int.toNat g) (ByteArray.empty,(0,([]:(List Int)))))
 cond (decide (List.length v+List.length [a.1]≤j0a)) (
 let f:(List ByteArray):=(v++[a.1])
 (j99 f g).bind fun e=>
 cond (e != 0) (
 some (.inr (.inl e))) (
 let k:=(Int.ofNat (List.length s))
 let n:=(w64 (k-1))
 (j6r a.2.1 0 n).bind fun l=>
 cond (!l) (
 some (.inr (.inl 3))) (
 let j:=(Int.ofNat (List.length a.2.2))
 cond (decide (j>64)) (
 some (.inr (.inl 5))) (
 (j4L g 0 s q d o a.1 a.2.1 a.2.2 f).bind fun r=>
 sumC r (fun u=>
 some (.inr (.inl u))) (fun b=>
 (j4M b.1 1 b.2.1 b.2.2.1 b.2.2.2.1 b.2.2.2.2.1 b.2.2.2.2.2.1 b.2.2.2.2.2.2.1 b.2.2.2.2.2.2.2.1 b.2.2.2.2.2.2.2.2).bind fun p=>
 sumC p (fun t=>
 some (.inr (.inl t))) (fun c=>
 let i:=(w64 (c.1+1))
 some (.inl (i,c.2.1,c.2.2.1,c.2.2.2.1,c.2.2.2.2.1,c.2.2.2.2.2)))))))) none) none) (
 some (.inr (.inr ())))
def j4N [LP] (f:Int) (d:Tn59) (b:Tn53) (c:Tn30) (a:Tn70) (e:(List ByteArray)):Option (Int ⊕ Unit):=
 LP.lp (unc6 (j2G)) (f,d,b,c,a,e)
theorem j9D (f d b c a e):j4N f d b c a e=lpK (j2G f d b c a e) (fun h=>j4N h.1 h.2.1 h.2.2.1 h.2.2.2.1 h.2.2.2.2.1 h.2.2.2.2.2):=j06 _ _
def jbL [LP] (a:Tn76):Option (Int):=
 (j4N 0 a.1 a.2.1 a.2.2.1 a.2.2.2 ([]:(List ByteArray))).bind fun b=>
 sumC b (fun c=>
 some c) (fun d=>
 some 0)
def j4k (p:Int) (u:Tn59) (b:Tn53) (d:Tn30) (l:Tn70) (v:ByteArray) (j c m i e:Int) (a:(List Int)) (k:Tn2) (f g:Int):Option ((Int×Tn59×Tn53×Tn30×Tn70×ByteArray×Int×Int×Int×Int×Int×(List Int)×Tn2×Int×Int) ⊕ (Int ⊕ (Tn59×Tn53×Tn30×Tn70×ByteArray×Int×Int×Int×Int×Int×(List Int)×Tn2×Int×Int))):=
 let o:=(Int.ofNat (List.length a))
 cond (decide (p<o)) (
 cond (inR p (List.length a)) (
 let s:=(List.getD a (Int.toNat p) 0)
 let t:=(Int.ofNat (List.length b))
 let r:=(w64 (t-1))
 (j6r s 0 r).bind fun n=>
 cond (!n) (
 some (.inr (.inl 3))) (
 let q:=(w64 (p+1))
 some (.inl (q,u,b,d,l,v,j,c,m,i,e,a,k,f,g)))) none) (
 some (.inr (.inr (u,b,d,l,v,j,c,m,i,e,a,k,f,g))))
def j8m [LP] (o:Int) (p:Tn59) (i:Tn53) (e:Tn30) (l:Tn70) (n:ByteArray) (d c k b f:Int) (a:(List Int)) (g:Tn2) (j m:Int):Option (Int ⊕ (Tn59×Tn53×Tn30×Tn70×ByteArray×Int×Int×Int×Int×Int×(List Int)×Tn2×Int×Int)):=
 LP.lp (juf (j4k)) (o,p,i,e,l,n,d,c,k,b,f,a,g,j,m)
theorem jd8 (o p i e l n d c k b f a g j m):j8m o p i e l n d c k b f a g j m=lpK (j4k o p i e l n d c k b f a g j m) (fun h=>j8m h.1 h.2.1 h.2.2.1 h.2.2.2.1 h.2.2.2.2.1 h.2.2.2.2.2.1 h.2.2.2.2.2.2.1 h.2.2.2.2.2.2.2.1 h.2.2.2.2.2.2.2.2.1 h.2.2.2.2.2.2.2.2.2.1 h.2.2.2.2.2.2.2.2.2.2.1 h.2.2.2.2.2.2.2.2.2.2.2.1 h.2.2.2.2.2.2.2.2.2.2.2.2.1 h.2.2.2.2.2.2.2.2.2.2.2.2.2.1 h.2.2.2.2.2.2.2.2.2.2.2.2.2.2):=j06 _ _
def jd9 [LP] (b:Tn76) (a:Tn64):Option (Int):=
 let k:=(Int.ofNat (List.length b.1))
 let o:=(w64 (k-1))
 (j6r a.2.1 0 o).bind fun t=>
 cond (!t) (
 some 3) (
 (j9l).bind fun p=>
 (j6r a.2.2.1.1 1 p).bind fun s=>
 cond (!s) (
 some 1) (
 (j6r a.2.2.1.2 0 86399).bind fun l=>
 cond (!l) (
 some 1) (
 (j6r a.2.2.2.1 0 2).bind fun r=>
 cond (!r) (
 some 1) (
 (j6r a.2.2.2.2.1 1 400).bind fun i=>
 cond (!i) (
 some 1) (
 let u:=(Int.ofNat (List.length a.2.2.2.2.2.1))
 cond (u==0) (
 some 7) (
 let n:=(Int.ofNat (List.length a.2.2.2.2.2.1))
 cond (decide (n>12)) (
 some 5) (
 (j8m 0 b.1 b.2.1 b.2.2.1 b.2.2.2 a.1 a.2.1 a.2.2.1.1 a.2.2.1.2 a.2.2.2.1 a.2.2.2.2.1 a.2.2.2.2.2.1 a.2.2.2.2.2.2.1 a.2.2.2.2.2.2.2.1 a.2.2.2.2.2.2.2.2).bind fun v=>
 sumC v (fun w=>
 some w) (fun d=>
 (jd7 d.2.2.2.2.2.2.2.2.2.2.2.1).bind fun g=>
 cond (g != 0) (
 some 8) (
 (j6r d.2.2.2.2.2.2.2.2.2.2.2.2.2 0 2).bind fun m=>
 cond (!m) (
 some 1) (
 let f:=(Int.ofNat (List.length d.2.2.1))
 let q:=(w64 (f-1))
 cond (d.2.2.2.2.2.2.2.2.2.2.2.2.2 != 0) (
 (j6r d.2.2.2.2.2.2.2.2.2.2.2.2.1 0 q).bind fun j=>
 cond (!j) (
 some 3) (
 let e:Bool:=(cond (d.2.2.2.2.2.2.2.2.2.2.2.2.2==0) (d.2.2.2.2.2.2.2.2.2.2.2.2.1 != 0) false)
 cond e (
 some 1) (
 some 0))) (
 let c:Bool:=(cond (d.2.2.2.2.2.2.2.2.2.2.2.2.2==0) (d.2.2.2.2.2.2.2.2.2.2.2.2.1 != 0) false)
 cond c (
 some 1) (
 some 0))))))))))))
def jfx (d:Tn76) (a:Tn28):Option (Int):=
 let l:=(Int.ofNat (List.length d.2.1))
 (j6r a.1 0 2).bind fun f=>
 cond (!f) (
 some 1) (
 let m:=(w64 (l-1))
 (j6r a.2.1 0 m).bind fun e=>
 let j:=(w64 (l-1))
 cond (cond (!e) (cond (a.1 != 1) true (a.2.1 != (-1))) false) (
 cond ((!(a.1==2)) || !(!true)) (
 some 3) none) (
 cond (a.1==2) (
 (j6r a.2.2.1 0 j).bind fun g=>
 cond (!g) (
 some 3) (
 cond (cond (a.1 != 2) (a.2.2.1 != 0) false) (
 some 1) (
 cond (cond (a.1==2) (a.2.1==a.2.2.1) false) (
 some 4) (
 cond (decide (a.2.2.2.1<0)) (
 some 1) (
 cond (decide (a.2.2.2.2<0)) (
 some 1) (
 let k:=(w64 (Int.tdiv a.2.2.2.2 86400))
 (j9l).bind fun i=>
 cond (decide (k>i)) (
 some 1) (
 cond (decide (a.2.2.2.1≥a.2.2.2.2)) (
 some 6) (
 some 0)))))))) (
 cond (cond (a.1 != 2) (a.2.2.1 != 0) false) (
 some 1) (
 cond (cond (a.1==2) (a.2.1==a.2.2.1) false) (
 some 4) (
 cond (decide (a.2.2.2.1<0)) (
 some 1) (
 cond (decide (a.2.2.2.2<0)) (
 some 1) (
 let c:=(w64 (Int.tdiv a.2.2.2.2 86400))
 (j9l).bind fun b=>
 cond (decide (c>b)) (
 some 1) (
 cond (decide (a.2.2.2.1≥a.2.2.2.2)) (
 some 6) (
 some 0)))))))))
def j2H [LP] (s e:Int) (o:Tn59) (d:Tn53) (f:Tn30) (c:Tn70) (q:ByteArray) (b:Tn65) (l:Tn34) (r p:(List ByteArray)):Option ((Int×Int×Tn59×Tn53×Tn30×Tn70×ByteArray×Tn65×Tn34×(List ByteArray)×(List ByteArray)) ⊕ (Int ⊕ (Int×Tn59×Tn53×Tn30×Tn70×ByteArray×Tn65×Tn34×(List ByteArray)))):=
 let n:=(Int.ofNat (List.length b))
 cond (decide (e<n)) (
 cond (inR e (List.length b)) (
 let j:=(List.getD b (Int.toNat e) (ByteArray.empty,(0,((0,0),(0,(0,(([]:(List Int)),(([]:Tn2),(0,0)))))))))
 cond (decide (List.length p+List.length [j.1]≤j0a)) (
 let g:(List ByteArray):=(p++[j.1])
 (j99 g e).bind fun k=>
 cond (k != 0) (
 some (.inr (.inl k))) (
 cond (inR e (List.length b)) (
 let a:=(List.getD b (Int.toNat e) (ByteArray.empty,(0,((0,0),(0,(0,(([]:(List Int)),(([]:Tn2),(0,0)))))))))
 (jd9 (o,(d,(f,c))) (a.1,(a.2.1,((a.2.2.1.1,a.2.2.1.2),(a.2.2.2.1,(a.2.2.2.2.1,(a.2.2.2.2.2.1,(a.2.2.2.2.2.2.1,(a.2.2.2.2.2.2.2.1,a.2.2.2.2.2.2.2.2))))))))).bind fun i=>
 cond (i != 0) (
 some (.inr (.inl i))) (
 let m:=(w64 (e+1))
 some (.inl (s,m,o,d,f,c,q,b,l,r,g)))) none)) none) none) (
 some (.inr (.inr (s,o,d,f,c,q,b,l,r))))
def j4O [LP] (l k:Int) (f:Tn59) (c:Tn53) (e:Tn30) (b:Tn70) (i:ByteArray) (d:Tn65) (a:Tn34) (j g:(List ByteArray)):Option (Int ⊕ (Int×Tn59×Tn53×Tn30×Tn70×ByteArray×Tn65×Tn34×(List ByteArray))):=
 LP.lp (jpf (j2H)) (l,k,f,c,e,b,i,d,a,j,g)
theorem j9E (l k f c e b i d a j g):j4O l k f c e b i d a j g=lpK (j2H l k f c e b i d a j g) (fun h=>j4O h.1 h.2.1 h.2.2.1 h.2.2.2.1 h.2.2.2.2.1 h.2.2.2.2.2.1 h.2.2.2.2.2.2.1 h.2.2.2.2.2.2.2.1 h.2.2.2.2.2.2.2.2.1 h.2.2.2.2.2.2.2.2.2.1 h.2.2.2.2.2.2.2.2.2.2):=j06 _ _
def j2I (n f:Int) (k:Tn59) (d:Tn53) (e:Tn30) (c:Tn70) (o:ByteArray) (l:Tn65) (b:Tn34) (m:(List ByteArray)):Option ((Int×Int×Tn59×Tn53×Tn30×Tn70×ByteArray×Tn65×Tn34×(List ByteArray)) ⊕ (Int ⊕ (Int×Tn59×Tn53×Tn30×Tn70×(List ByteArray)))):=
 let j:=(Int.ofNat (List.length b))
 cond (decide (f<j)) (
 cond (inR f (List.length b)) (
 let a:=(List.getD b (Int.toNat f) (0,(0,(0,(0,0)))))
 (jfx (k,(d,(e,c))) (a.1,(a.2.1,(a.2.2.1,(a.2.2.2.1,a.2.2.2.2))))).bind fun g=>
 cond (g != 0) (
 some (.inr (.inl g))) (
 let i:=(w64 (f+1))
 some (.inl (n,i,k,d,e,c,o,l,b,m)))) none) (
 some (.inr (.inr (n,k,d,e,c,m))))
def j4P [LP] (k f:Int) (g:Tn59) (c:Tn53) (e:Tn30) (b:Tn70) (i:ByteArray) (d:Tn65) (a:Tn34) (j:(List ByteArray)):Option (Int ⊕ (Int×Tn59×Tn53×Tn30×Tn70×(List ByteArray))):=
 LP.lp (jiY (j2I)) (k,f,g,c,e,b,i,d,a,j)
theorem j9F (k f g c e b i d a j):j4P k f g c e b i d a j=lpK (j2I k f g c e b i d a j) (fun h=>j4P h.1 h.2.1 h.2.2.1 h.2.2.2.1 h.2.2.2.2.1 h.2.2.2.2.2.1 h.2.2.2.2.2.2.1 h.2.2.2.2.2.2.2.1 h.2.2.2.2.2.2.2.2.1 h.2.2.2.2.2.2.2.2.2):=j06 _ _
def j2J [LP] (g:Int) (t:Tn59) (o:Tn53) (n:Tn30) (d:Tn70) (s:(List ByteArray)):Option ((Int×Tn59×Tn53×Tn30×Tn70×(List ByteArray)) ⊕ (Int ⊕ Unit)):=
 let j:=(Int.ofNat (List.length d))
 cond (decide (g<j)) (
 cond (inR g (List.length d)) (
 let a:=(List.getD d (Int.toNat g) (ByteArray.empty,(([]:Tn65),([]:Tn34))))
 cond (decide (List.length s+List.length [a.1]≤j0a)) (
 let f:(List ByteArray):=(s++[a.1])
 (j99 f g).bind fun e=>
 cond (e != 0) (
 some (.inr (.inl e))) (
 let i:=(Int.ofNat (List.length a.2.1))
 let k:=(Int.ofNat (List.length a.2.2))
 cond (cond (decide (i>6)) true (decide (k>48))) (
 some (.inr (.inl 5))) (
 (j4O g 0 t o n d a.1 a.2.1 a.2.2 f ([]:(List ByteArray))).bind fun p=>
 sumC p (fun r=>
 some (.inr (.inl r))) (fun b=>
 (j4P b.1 0 b.2.1 b.2.2.1 b.2.2.2.1 b.2.2.2.2.1 b.2.2.2.2.2.1 b.2.2.2.2.2.2.1 b.2.2.2.2.2.2.2.1 b.2.2.2.2.2.2.2.2).bind fun m=>
 sumC m (fun q=>
 some (.inr (.inl q))) (fun c=>
 let l:=(w64 (c.1+1))
 some (.inl (l,c.2.1,c.2.2.1,c.2.2.2.1,c.2.2.2.2.1,c.2.2.2.2.2))))))) none) none) (
 some (.inr (.inr ())))
def j4Q [LP] (f:Int) (d:Tn59) (b:Tn53) (c:Tn30) (a:Tn70) (e:(List ByteArray)):Option (Int ⊕ Unit):=
 LP.lp (unc6 (j2J)) (f,d,b,c,a,e)
theorem j9G (f d b c a e):j4Q f d b c a e=lpK (j2J f d b c a e) (fun h=>j4Q h.1 h.2.1 h.2.2.1 h.2.2.2.1 h.2.2.2.2.1 h.2.2.2.2.2):=j06 _ _
def jbM [LP] (a:Tn76):Option (Int):=
 (j4Q 0 a.1 a.2.1 a.2.2.1 a.2.2.2 ([]:(List ByteArray))).bind fun b=>
 sumC b (fun c=>
 some c) (fun d=>
 some 0)
def j9H [LP] (a:Tn76):Option (Int):=
 let k:=(Int.ofNat (List.length a.1))
 let j:=(Int.ofNat (List.length a.2.1))
 let e:=(Int.ofNat (List.length a.2.2.1))
 let i:Bool:=(cond (cond (decide (k>16)) true (decide (j>32))) true (decide (e>8)))
 let g:=(Int.ofNat (List.length a.2.2.2))
 cond (cond i true (decide (g>12))) (
 some 5) (
 (jij (a.1,(a.2.1,(a.2.2.1,a.2.2.2)))).bind fun d=>
 cond (d != 0) (
 some d) (
 (jgi (a.1,(a.2.1,(a.2.2.1,a.2.2.2)))).bind fun c=>
 cond (c != 0) (
 some c) (
 (jbL (a.1,(a.2.1,(a.2.2.1,a.2.2.2)))).bind fun b=>
 cond (b != 0) (
 some b) (
 (jbM (a.1,(a.2.1,(a.2.2.1,a.2.2.2)))).bind fun f=>
 some f))))
def jkz (b:Tn76) (a:Int) (d:Tn34):Option (Tn76):=
 cond (decide (List.length ([]:Tn70)+List.length b.2.2.2≤j0a)) (
 let c:Tn70:=(([]:Tn70)++b.2.2.2)
 cond (inR a (List.length c)) (
 let e:Tn70:=(List.set c (Int.toNat a) ((List.getD c (Int.toNat a) (ByteArray.empty,(([]:Tn65),([]:Tn34)))).1,((List.getD c (Int.toNat a) (ByteArray.empty,(([]:Tn65),([]:Tn34)))).2.1,d)))
 some (b.1,(b.2.1,(b.2.2.1,e)))) none) none
def jda [LP] (b:Tn76) (a:Int) (d:Tn28):Option (Tn76×Int):=
 (j9H (b.1,(b.2.1,(b.2.2.1,b.2.2.2)))).bind fun l=>
 cond (l != 0) (
 some ((([]:Tn59),(([]:Tn53),(([]:Tn30),([]:Tn70)))),8)) (
 let k:=(Int.ofNat (List.length b.2.2.2))
 cond (cond (decide (a<0)) true (decide (a≥k))) (
 some ((([]:Tn59),(([]:Tn53),(([]:Tn30),([]:Tn70)))),3)) (
 cond (inR a (List.length b.2.2.2)) (
 let g:=(List.getD b.2.2.2 (Int.toNat a) (ByteArray.empty,(([]:Tn65),([]:Tn34))))
 cond (decide (List.length ([]:Tn34)+List.length g.2.2≤j0a)) (
 let i:Tn34:=(([]:Tn34)++g.2.2)
 let e:Tn34:=[(d.1,(d.2.1,(d.2.2.1,(d.2.2.2.1,d.2.2.2.2))))]
 cond (decide (List.length i+List.length e≤j0a)) (
 let j:Tn34:=(i++e)
 (jkz (b.1,(b.2.1,(b.2.2.1,b.2.2.2))) a j).bind fun c=>
 (j9H (c.1,(c.2.1,(c.2.2.1,c.2.2.2)))).bind fun f=>
 cond (f != 0) (
 some ((([]:Tn59),(([]:Tn53),(([]:Tn30),([]:Tn70)))),f)) (
 some ((c.1,(c.2.1,(c.2.2.1,c.2.2.2))),0))) none) none) none))
def j22 [LP] (k l:Int) (m:(List Int)) (f:Int) (i:Tn59) (e:Tn53) (c:Tn30) (d:Tn70):Option ((Int×Int×(List Int)×Int×Tn59×Tn53×Tn30×Tn70) ⊕ (((List Int)×Int×Tn59×Tn53×Tn30×Tn70))):=
 cond (decide (l>0)) (
 (j4Z m f (i,(e,(c,d)))).bind fun a=>
 (jda (i,(e,(c,d))) k (a.1.1,(a.1.2.1,(a.1.2.2.1,(a.1.2.2.2.1,a.1.2.2.2.2))))).bind fun b=>
 cond (b.2==0) (
 let j:=(w64 (l-1))
 some (.inl (k,j,a.2.1,a.2.2,b.1.1,b.1.2.1,b.1.2.2.1,b.1.2.2.2))) (
 let g:=(w64 (l-1))
 some (.inl (k,g,a.2.1,a.2.2,i,e,c,d)))) (
 some (.inr (m,f,i,e,c,d)))
def j3l [LP] (f i:Int) (e:(List Int)) (c:Int) (g:Tn59) (d:Tn53) (a:Tn30) (b:Tn70):Option (((List Int)×Int×Tn59×Tn53×Tn30×Tn70)):=
 LP.lp (unc8 (j22)) (f,i,e,c,g,d,a,b)
theorem j7A (f i e c g d a b):j3l f i e c g d a b=lpK (j22 f i e c g d a b) (fun h=>j3l h.1 h.2.1 h.2.2.1 h.2.2.2.1 h.2.2.2.2.1 h.2.2.2.2.2.1 h.2.2.2.2.2.2.1 h.2.2.2.2.2.2.2):=j06 _ _
def j8M [LP] (f:(List Int)) (d:Int) (b:Tn76) (a e:Int):Option (Tn76×(List Int)×Int):=
 (j3l a e f d b.1 b.2.1 b.2.2.1 b.2.2.2).bind fun c=>
 some ((c.2.2.1,(c.2.2.2.1,(c.2.2.2.2.1,c.2.2.2.2.2))),c.1,c.2.1)
def jhp (b a:Int):Option (Int):=
 cond (!(a==0)) (
 let d:=(Int.tmod b a)
 let e:=(w64 (d+a))
 cond (!(a==0)) (
 let c:=(Int.tmod e a)
 some c) none) none
def j33 (e:Int) (m:ByteArray) (k:Int) (c:Tn47) (l:ByteArray) (j:Int) (d:Tn47):Option ((Int×ByteArray×Int×Tn47×ByteArray×Int×Tn47) ⊕ (Bool ⊕ Unit)):=
 let g:=(Int.ofNat (List.length c))
 cond (decide (e<g)) (
 cond (inR e (List.length c)) (
 let b:=(List.getD c (Int.toNat e) (0,(0,(0,(0,(0,(0,0)))))))
 cond (inR e (List.length d)) (
 let a:=(List.getD d (Int.toNat e) (0,(0,(0,(0,(0,(0,0)))))))
 let i:Bool:=(!((b.1==a.1)&&((b.2.1==a.2.1)&&((b.2.2.1==a.2.2.1)&&((b.2.2.2.1==a.2.2.2.1)&&((b.2.2.2.2.1==a.2.2.2.2.1)&&((b.2.2.2.2.2.1==a.2.2.2.2.2.1)&&(b.2.2.2.2.2.2==a.2.2.2.2.2.2))))))))
 cond i (
 some (.inr (.inl false))) (
 let f:=(w64 (e+1))
 some (.inl (f,m,k,c,l,j,d)))) none) none) (
 some (.inr (.inr ())))
def j5z [LP] (f:Int) (g:ByteArray) (d:Int) (c:Tn47) (e:ByteArray) (b:Int) (a:Tn47):Option (Bool ⊕ Unit):=
 LP.lp (unc7 (j33)) (f,g,d,c,e,b,a)
theorem jas (f g d c e b a):j5z f g d c e b a=lpK (j33 f g d c e b a) (fun h=>j5z h.1 h.2.1 h.2.2.1 h.2.2.2.1 h.2.2.2.2.1 h.2.2.2.2.2.1 h.2.2.2.2.2.2):=j06 _ _
def j8n [LP] (b a:Tn57):Option (Bool):=
 let e:=(Int.ofNat (List.length b.2.2))
 let d:=(Int.ofNat (List.length a.2.2))
 let c:Bool:=(cond (cond (!(ByteArray.toList b.1==ByteArray.toList a.1)) true (b.2.1 != a.2.1)) true (e != d))
 cond c (
 some false) (
 (j5z 0 b.1 b.2.1 b.2.2 a.1 a.2.1 a.2.2).bind fun f=>
 sumC f (fun g=>
 some g) (fun i=>
 some true))
def j2k (d g:Tn2) (c:Int):Option ((Tn2×Tn2×Int) ⊕ (Bool ⊕ Unit)):=
 let f:=(Int.ofNat (List.length d))
 cond (decide (c<f)) (
 cond (inR c (List.length d)) (
 let a:=(List.getD d (Int.toNat c) (0,0))
 cond (inR c (List.length g)) (
 let b:=(List.getD g (Int.toNat c) (0,0))
 cond (!((a.1==b.1)&&(a.2==b.2))) (
 some (.inr (.inl false))) (
 let e:=(w64 (c+1))
 some (.inl (d,g,e)))) none) none) (
 some (.inr (.inr ())))
def j3L [LP] (a c:Tn2) (b:Int):Option (Bool ⊕ Unit):=
 LP.lp (unc3 (j2k)) (a,c,b)
theorem j8o (a c b):j3L a c b=lpK (j2k a c b) (fun h=>j3L h.1 h.2.1 h.2.2):=j06 _ _
def j5A [LP] (b a:Tn2):Option (Bool):=
 let c:=(Int.ofNat (List.length b))
 let d:=(Int.ofNat (List.length a))
 cond (c != d) (
 some false) (
 (j3L b a 0).bind fun e=>
 sumC e (fun f=>
 some f) (fun g=>
 some true))
def j34 (b g:(List Int)) (a:Int):Option (((List Int)×(List Int)×Int) ⊕ (Bool ⊕ Unit)):=
 let e:=(Int.ofNat (List.length b))
 cond (decide (a<e)) (
 cond (inR a (List.length b)) (
 let c:=(List.getD b (Int.toNat a) 0)
 cond (inR a (List.length g)) (
 let f:=(List.getD g (Int.toNat a) 0)
 cond (c != f) (
 some (.inr (.inl false))) (
 let d:=(w64 (a+1))
 some (.inl (b,g,d)))) none) none) (
 some (.inr (.inr ())))
def j5B [LP] (a c:(List Int)) (b:Int):Option (Bool ⊕ Unit):=
 LP.lp (unc3 (j34)) (a,c,b)
theorem jat (a c b):j5B a c b=lpK (j34 a c b) (fun h=>j5B h.1 h.2.1 h.2.2):=j06 _ _
def j8p [LP] (b a:(List Int)):Option (Bool):=
 let c:=(Int.ofNat (List.length b))
 let d:=(Int.ofNat (List.length a))
 cond (c != d) (
 some false) (
 (j5B b a 0).bind fun e=>
 sumC e (fun f=>
 some f) (fun g=>
 some true))
def j79 [LP] (b a:Tn64):Option (Bool):=
 let f:Bool:=(cond (cond (ByteArray.toList b.1==ByteArray.toList a.1) (b.2.1==a.2.1) false) ((b.2.2.1.1==a.2.2.1.1)&&(b.2.2.1.2==a.2.2.1.2)) false)
 let c:Bool:=(cond (cond f (b.2.2.2.1==a.2.2.2.1) false) (b.2.2.2.2.1==a.2.2.2.2.1) false)
 cond c (
 (j8p b.2.2.2.2.2.1 a.2.2.2.2.2.1).bind fun d=>
 cond d (
 (j5A b.2.2.2.2.2.2.1 a.2.2.2.2.2.2.1).bind fun e=>
 let g:Bool:=(cond (cond e (b.2.2.2.2.2.2.2.1==a.2.2.2.2.2.2.2.1) false) (b.2.2.2.2.2.2.2.2==a.2.2.2.2.2.2.2.2) false)
 some g) (
 some false)) (
 some false)
def j23 [LP] (e:Int) (m:ByteArray) (c:Tn65) (g:Tn34) (l:ByteArray) (d:Tn65) (f:Tn34):Option ((Int×ByteArray×Tn65×Tn34×ByteArray×Tn65×Tn34) ⊕ (Bool ⊕ (ByteArray×Tn65×Tn34×ByteArray×Tn65×Tn34))):=
 let i:=(Int.ofNat (List.length c))
 cond (decide (e<i)) (
 cond (inR e (List.length c)) (
 let a:=(List.getD c (Int.toNat e) (ByteArray.empty,(0,((0,0),(0,(0,(([]:(List Int)),(([]:Tn2),(0,0)))))))))
 cond (inR e (List.length d)) (
 let b:=(List.getD d (Int.toNat e) (ByteArray.empty,(0,((0,0),(0,(0,(([]:(List Int)),(([]:Tn2),(0,0)))))))))
 (j79 (a.1,(a.2.1,((a.2.2.1.1,a.2.2.1.2),(a.2.2.2.1,(a.2.2.2.2.1,(a.2.2.2.2.2.1,(a.2.2.2.2.2.2.1,(a.2.2.2.2.2.2.2.1,a.2.2.2.2.2.2.2.2)))))))) (b.1,(b.2.1,((b.2.2.1.1,b.2.2.1.2),(b.2.2.2.1,(b.2.2.2.2.1,(b.2.2.2.2.2.1,(b.2.2.2.2.2.2.1,(b.2.2.2.2.2.2.2.1,b.2.2.2.2.2.2.2.2))))))))).bind fun j=>
 cond (!j) (
 some (.inr (.inl false))) (
 let k:=(w64 (e+1))
 some (.inl (k,m,c,g,l,d,f)))) none) none) (
 some (.inr (.inr (m,c,g,l,d,f))))
def j3m [LP] (f:Int) (g:ByteArray) (d:Tn65) (c:Tn34) (e:ByteArray) (b:Tn65) (a:Tn34):Option (Bool ⊕ (ByteArray×Tn65×Tn34×ByteArray×Tn65×Tn34)):=
 LP.lp (unc7 (j23)) (f,g,d,c,e,b,a)
theorem j7B (f g d c e b a):j3m f g d c e b a=lpK (j23 f g d c e b a) (fun h=>j3m h.1 h.2.1 h.2.2.1 h.2.2.2.1 h.2.2.2.2.1 h.2.2.2.2.2.1 h.2.2.2.2.2.2):=j06 _ _
def j24 (e:Int) (m:ByteArray) (k:Tn65) (c:Tn34) (l:ByteArray) (j:Tn65) (d:Tn34):Option ((Int×ByteArray×Tn65×Tn34×ByteArray×Tn65×Tn34) ⊕ (Bool ⊕ Unit)):=
 let g:=(Int.ofNat (List.length c))
 cond (decide (e<g)) (
 cond (inR e (List.length c)) (
 let b:=(List.getD c (Int.toNat e) (0,(0,(0,(0,0)))))
 cond (inR e (List.length d)) (
 let a:=(List.getD d (Int.toNat e) (0,(0,(0,(0,0)))))
 let i:Bool:=(!((b.1==a.1)&&((b.2.1==a.2.1)&&((b.2.2.1==a.2.2.1)&&((b.2.2.2.1==a.2.2.2.1)&&(b.2.2.2.2==a.2.2.2.2))))))
 cond i (
 some (.inr (.inl false))) (
 let f:=(w64 (e+1))
 some (.inl (f,m,k,c,l,j,d)))) none) none) (
 some (.inr (.inr ())))
def j3n [LP] (f:Int) (g:ByteArray) (d:Tn65) (c:Tn34) (e:ByteArray) (b:Tn65) (a:Tn34):Option (Bool ⊕ Unit):=
 LP.lp (unc7 (j24)) (f,g,d,c,e,b,a)
theorem j7C (f g d c e b a):j3n f g d c e b a=lpK (j24 f g d c e b a) (fun h=>j3n h.1 h.2.1 h.2.2.1 h.2.2.2.1 h.2.2.2.2.1 h.2.2.2.2.2.1 h.2.2.2.2.2.2):=j06 _ _
def j3A [LP] (b a:Tn69):Option (Bool):=
 let e:=(Int.ofNat (List.length b.2.1))
 let i:=(Int.ofNat (List.length a.2.1))
 let f:=(Int.ofNat (List.length b.2.2))
 let d:=(Int.ofNat (List.length a.2.2))
 let g:Bool:=(cond (cond (!(ByteArray.toList b.1==ByteArray.toList a.1)) true (e != i)) true (f != d))
 cond g (
 some false) (
 (j3m 0 b.1 b.2.1 b.2.2 a.1 a.2.1 a.2.2).bind fun k=>
 sumC k (fun n=>
 some n) (fun c=>
 (j3n 0 c.1 c.2.1 c.2.2.1 c.2.2.2.1 c.2.2.2.2.1 c.2.2.2.2.2).bind fun l=>
 sumC l (fun j=>
 some j) (fun m=>
 some true)))
def j4R [LP] (c:Int) (k:Tn59) (g:Tn53) (f:Tn30) (j:Tn70) (l:Tn59) (e:Tn53) (d:Tn30) (i:Tn70):Option ((Int×Tn59×Tn53×Tn30×Tn70×Tn59×Tn53×Tn30×Tn70) ⊕ (Bool ⊕ (Tn59×Tn53×Tn30×Tn70×Tn59×Tn53×Tn30×Tn70))):=
 let n:=(Int.ofNat (List.length k))
 cond (decide (c<n)) (
 cond (inR c (List.length k)) (
 let b:=(List.getD k (Int.toNat c) (ByteArray.empty,(0,([]:Tn47))))
 cond (inR c (List.length l)) (
 let a:=(List.getD l (Int.toNat c) (ByteArray.empty,(0,([]:Tn47))))
 (j8n (b.1,(b.2.1,b.2.2)) (a.1,(a.2.1,a.2.2))).bind fun o=>
 cond (!o) (
 some (.inr (.inl false))) (
 let m:=(w64 (c+1))
 some (.inl (m,k,g,f,j,l,e,d,i)))) none) none) (
 some (.inr (.inr (k,g,f,j,l,e,d,i))))
def j9I [LP] (i:Int) (j:Tn59) (d:Tn53) (c:Tn30) (f:Tn70) (g:Tn59) (b:Tn53) (a:Tn30) (e:Tn70):Option (Bool ⊕ (Tn59×Tn53×Tn30×Tn70×Tn59×Tn53×Tn30×Tn70)):=
 LP.lp (unc9 (j4R)) (i,j,d,c,f,g,b,a,e)
theorem je1 (i j d c f g b a e):j9I i j d c f g b a e=lpK (j4R i j d c f g b a e) (fun h=>j9I h.1 h.2.1 h.2.2.1 h.2.2.2.1 h.2.2.2.2.1 h.2.2.2.2.2.1 h.2.2.2.2.2.2.1 h.2.2.2.2.2.2.2.1 h.2.2.2.2.2.2.2.2):=j06 _ _
def j4S [LP] (e:Int) (q:Tn59) (c:Tn53) (i:Tn30) (l:Tn70) (o:Tn59) (d:Tn53) (f:Tn30) (j:Tn70):Option ((Int×Tn59×Tn53×Tn30×Tn70×Tn59×Tn53×Tn30×Tn70) ⊕ (Bool ⊕ (Tn59×Tn53×Tn30×Tn70×Tn59×Tn53×Tn30×Tn70))):=
 let m:=(Int.ofNat (List.length c))
 cond (decide (e<m)) (
 cond (inR e (List.length c)) (
 let a:=(List.getD c (Int.toNat e) (ByteArray.empty,(0,(([]:Tn2),(0,(0,false))))))
 cond (inR e (List.length d)) (
 let b:=(List.getD d (Int.toNat e) (ByteArray.empty,(0,(([]:Tn2),(0,(0,false))))))
 let p:Bool:=(cond (!(ByteArray.toList a.1==ByteArray.toList b.1)) true (a.2.1 != b.2.1))
 cond p (
 some (.inr (.inl false))) (
 (j5A a.2.2.1 b.2.2.1).bind fun k=>
 let g:Bool:=(cond (cond (!k) true (a.2.2.2.1 != b.2.2.2.1)) true (a.2.2.2.2.1 != b.2.2.2.2.1))
 cond (cond g true (!(a.2.2.2.2.2==b.2.2.2.2.2))) (
 some (.inr (.inl false))) (
 let n:=(w64 (e+1))
 some (.inl (n,q,c,i,l,o,d,f,j))))) none) none) (
 some (.inr (.inr (q,c,i,l,o,d,f,j))))
def j9J [LP] (i:Int) (j:Tn59) (e:Tn53) (c:Tn30) (f:Tn70) (g:Tn59) (b:Tn53) (a:Tn30) (d:Tn70):Option (Bool ⊕ (Tn59×Tn53×Tn30×Tn70×Tn59×Tn53×Tn30×Tn70)):=
 LP.lp (unc9 (j4S)) (i,j,e,c,f,g,b,a,d)
theorem je2 (i j e c f g b a d):j9J i j e c f g b a d=lpK (j4S i j e c f g b a d) (fun h=>j9J h.1 h.2.1 h.2.2.1 h.2.2.2.1 h.2.2.2.2.1 h.2.2.2.2.2.1 h.2.2.2.2.2.2.1 h.2.2.2.2.2.2.2.1 h.2.2.2.2.2.2.2.2):=j06 _ _
def j4T [LP] (e:Int) (p:Tn59) (g:Tn53) (b:Tn30) (m:Tn70) (o:Tn59) (f:Tn53) (d:Tn30) (l:Tn70):Option ((Int×Tn59×Tn53×Tn30×Tn70×Tn59×Tn53×Tn30×Tn70) ⊕ (Bool ⊕ (Tn59×Tn53×Tn30×Tn70×Tn59×Tn53×Tn30×Tn70))):=
 let i:=(Int.ofNat (List.length b))
 cond (decide (e<i)) (
 cond (inR e (List.length b)) (
 let c:=(List.getD b (Int.toNat e) (ByteArray.empty,(0,([]:(List Int)))))
 cond (inR e (List.length d)) (
 let a:=(List.getD d (Int.toNat e) (ByteArray.empty,(0,([]:(List Int)))))
 let n:Bool:=(cond (!(ByteArray.toList c.1==ByteArray.toList a.1)) true (c.2.1 != a.2.1))
 cond n (
 some (.inr (.inl false))) (
 (j8p c.2.2 a.2.2).bind fun k=>
 cond (!k) (
 some (.inr (.inl false))) (
 let j:=(w64 (e+1))
 some (.inl (j,p,g,b,m,o,f,d,l))))) none) none) (
 some (.inr (.inr (p,g,b,m,o,f,d,l))))
def j9K [LP] (i:Int) (j:Tn59) (d:Tn53) (c:Tn30) (f:Tn70) (g:Tn59) (b:Tn53) (a:Tn30) (e:Tn70):Option (Bool ⊕ (Tn59×Tn53×Tn30×Tn70×Tn59×Tn53×Tn30×Tn70)):=
 LP.lp (unc9 (j4T)) (i,j,d,c,f,g,b,a,e)
theorem je3 (i j d c f g b a e):j9K i j d c f g b a e=lpK (j4T i j d c f g b a e) (fun h=>j9K h.1 h.2.1 h.2.2.1 h.2.2.2.1 h.2.2.2.2.1 h.2.2.2.2.2.1 h.2.2.2.2.2.2.1 h.2.2.2.2.2.2.2.1 h.2.2.2.2.2.2.2.2):=j06 _ _
def j4U [LP] (c:Int) (o:Tn59) (m:Tn53) (l:Tn30) (d:Tn70) (n:Tn59) (k:Tn53) (j:Tn30) (e:Tn70):Option ((Int×Tn59×Tn53×Tn30×Tn70×Tn59×Tn53×Tn30×Tn70) ⊕ (Bool ⊕ Unit)):=
 let g:=(Int.ofNat (List.length d))
 cond (decide (c<g)) (
 cond (inR c (List.length d)) (
 let b:=(List.getD d (Int.toNat c) (ByteArray.empty,(([]:Tn65),([]:Tn34))))
 cond (inR c (List.length e)) (
 let a:=(List.getD e (Int.toNat c) (ByteArray.empty,(([]:Tn65),([]:Tn34))))
 (j3A (b.1,(b.2.1,b.2.2)) (a.1,(a.2.1,a.2.2))).bind fun i=>
 cond (!i) (
 some (.inr (.inl false))) (
 let f:=(w64 (c+1))
 some (.inl (f,o,m,l,d,n,k,j,e)))) none) none) (
 some (.inr (.inr ())))
def jbN [LP] (g:Int) (j:Tn59) (d:Tn53) (c:Tn30) (f:Tn70) (i:Tn59) (b:Tn53) (a:Tn30) (e:Tn70):Option (Bool ⊕ Unit):=
 LP.lp (unc9 (j4U)) (g,j,d,c,f,i,b,a,e)
theorem je4 (g j d c f i b a e):jbN g j d c f i b a e=lpK (j4U g j d c f i b a e) (fun h=>jbN h.1 h.2.1 h.2.2.1 h.2.2.2.1 h.2.2.2.2.1 h.2.2.2.2.2.1 h.2.2.2.2.2.2.1 h.2.2.2.2.2.2.2.1 h.2.2.2.2.2.2.2.2):=j06 _ _
def jfy [LP] (a b:Tn76):Option (Bool):=
 let m:=(Int.ofNat (List.length a.1))
 let p:=(Int.ofNat (List.length b.1))
 let j:=(Int.ofNat (List.length a.2.1))
 let g:=(Int.ofNat (List.length b.2.1))
 let o:=(Int.ofNat (List.length a.2.2.1))
 let l:=(Int.ofNat (List.length b.2.2.1))
 let f:=(Int.ofNat (List.length a.2.2.2))
 let q:=(Int.ofNat (List.length b.2.2.2))
 cond (cond (cond (cond (m != p) true (j != g)) true (o != l)) true (f != q)) (
 some false) (
 (j9I 0 a.1 a.2.1 a.2.2.1 a.2.2.2 b.1 b.2.1 b.2.2.1 b.2.2.2).bind fun u=>
 sumC u (fun w=>
 some w) (fun e=>
 (j9J 0 e.1 e.2.1 e.2.2.1 e.2.2.2.1 e.2.2.2.2.1 e.2.2.2.2.2.1 e.2.2.2.2.2.2.1 e.2.2.2.2.2.2.2).bind fun s=>
 sumC s (fun n=>
 some n) (fun c=>
 (j9K 0 c.1 c.2.1 c.2.2.1 c.2.2.2.1 c.2.2.2.2.1 c.2.2.2.2.2.1 c.2.2.2.2.2.2.1 c.2.2.2.2.2.2.2).bind fun t=>
 sumC t (fun i=>
 some i) (fun d=>
 (jbN 0 d.1 d.2.1 d.2.2.1 d.2.2.2.1 d.2.2.2.2.1 d.2.2.2.2.2.1 d.2.2.2.2.2.2.1 d.2.2.2.2.2.2.2).bind fun r=>
 sumC r (fun k=>
 some k) (fun v=>
 some true)))))
def j7N [LP] (i:(List Int)) (q:Int):Option (Bool):=
 (jgf i).bind fun x=>
 cond (!x) (
 (j6Q).bind fun a0=>
 some a0) (
 (jih i).bind fun k=>
 (j4I k.1 k.2 1).bind fun d=>
 (j8M d.2.1 d.2.2 (d.1.1,(d.1.2.1,(d.1.2.2.1,d.1.2.2.2))) 0 3).bind fun a=>
 cond (inR 0 (List.length a.1.2.2.2)) (
 let r:=(List.getD a.1.2.2.2 0 (ByteArray.empty,(([]:Tn65),([]:Tn34))))
 let c:=(Int.ofNat (List.length r.2.2))
 cond (decide (c<2)) (
 (j6Q).bind fun w=>
 some w) (
 let a2:=(w64 (c-1))
 (jhp q a2).bind fun l=>
 (j19 (a.1.1,(a.1.2.1,(a.1.2.2.1,a.1.2.2.2))) 0 l).bind fun e=>
 let v:=(w64 (c-2))
 (j19 (e.1.1,(e.1.2.1,(e.1.2.2.1,e.1.2.2.2))) 0 v).bind fun b=>
 let t:=(w64 (c-1))
 (j19 (a.1.1,(a.1.2.1,(a.1.2.2.1,a.1.2.2.2))) 0 t).bind fun f=>
 (j19 (f.1.1,(f.1.2.1,(f.1.2.2.1,f.1.2.2.2))) 0 l).bind fun g=>
 (j19 (a.1.1,(a.1.2.1,(a.1.2.2.1,a.1.2.2.2))) 0 c).bind fun a1=>
 let s:Bool:=(cond (cond (cond (e.2==0) (b.2==0) false) (f.2==0) false) (g.2==0) false)
 cond (cond s (a1.2==10) false) (
 (jfy (b.1.1,(b.1.2.1,(b.1.2.2.1,b.1.2.2.2))) (g.1.1,(g.1.2.1,(g.1.2.2.1,g.1.2.2.2)))).bind fun m=>
 cond ((inR 0 (List.length b.1.2.2.2)) || !m) (
 let u:=(List.getD b.1.2.2.2 0 (ByteArray.empty,(([]:Tn65),([]:Tn34))))
 let o:=(Int.ofNat (List.length u.2.2))
 let p:=(w64 (c-2))
 cond (cond m (o==p) false) (
 (j6Q).bind fun n=>
 some n) (
 some false)) none) (
 cond ((inR 0 (List.length b.1.2.2.2)) || !false) (
 let j:=(List.getD b.1.2.2.2 0 (ByteArray.empty,(([]:Tn65),([]:Tn34))))
 let z:=(Int.ofNat (List.length j.2.2))
 let y:=(w64 (c-2))
 some false) none))) none)
end
end Go.Proofs.Pw
