/- Plain functions, printed by a program out of the given code. -/
import Derived.Test.YtcegmhnnglcgeaaGreatFLS
open Go Go.Lft
set_option linter.unusedVariables false
namespace Go.Proofs.Pw
noncomputable section
abbrev Tn2:Type:=(List (Int×Int))
abbrev Tn1:Type:=(Int×(List Int))
abbrev Tn3:Type:=(Int×(Int×Int))
abbrev Tn15:Type:=(List Tn3)
abbrev Tn14:Type:=(Int×Tn2)
abbrev Tn20:Type:=(ByteArray×Tn1)
abbrev Tn22:Type:=(List Tn15)
abbrev Tn21:Type:=(List Tn14)
abbrev Tn25:Type:=(Int×(Int×Tn3))
abbrev Tn27:Type:=(List Tn20)
abbrev Tn31:Type:=(List Tn25)
abbrev Tn40:Type:=(Int×(Int×Tn25))
abbrev Tn44:Type:=(List Tn40)
abbrev Tn46:Type:=(ByteArray×(Int×(Tn2×(Int×(Int×Bool)))))
abbrev Tn50:Type:=(List Tn46)
abbrev Tn54:Type:=(ByteArray×(Int×Tn44))
abbrev Tn56:Type:=(List Tn54)
abbrev Tn61:Type:=(ByteArray×(Int×((Int×Int)×(Int×(Int×((List Int)×(Tn2×(Int×Int))))))))
abbrev Tn62:Type:=(List Tn61)
abbrev Tn66:Type:=(ByteArray×(Tn62×Tn31))
abbrev Tn67:Type:=(List Tn66)
abbrev Tn73:Type:=(Tn56×(Tn50×(Tn27×Tn67)))
abbrev Tn75:Type:=(Tn73×Tn21)
abbrev unc2 {A0 A1 R:Type} (f:A0→A1→R) (h:A0×A1):R:=f h.1 h.2
abbrev unc3 {A0 A1 A2 R:Type} (f:A0→A1→A2→R) (h:A0×A1×A2):R:=f h.1 h.2.1 h.2.2
abbrev unc4 {A0 A1 A2 A3 R:Type} (f:A0→A1→A2→A3→R) (h:A0×A1×A2×A3):R:=f h.1 h.2.1 h.2.2.1 h.2.2.2
abbrev unc5 {A0 A1 A2 A3 A4 R:Type} (f:A0→A1→A2→A3→A4→R) (h:A0×A1×A2×A3×A4):R:=f h.1 h.2.1 h.2.2.1 h.2.2.2.1 h.2.2.2.2
abbrev unc6 {A0 A1 A2 A3 A4 A5 R:Type} (f:A0→A1→A2→A3→A4→A5→R) (h:A0×A1×A2×A3×A4×A5):R:=f h.1 h.2.1 h.2.2.1 h.2.2.2.1 h.2.2.2.2.1 h.2.2.2.2.2
abbrev unc7 {A0 A1 A2 A3 A4 A5 A6 R:Type} (f:A0→A1→A2→A3→A4→A5→A6→R) (h:A0×A1×A2×A3×A4×A5×A6):R:=f h.1 h.2.1 h.2.2.1 h.2.2.2.1 h.2.2.2.2.1 h.2.2.2.2.2.1 h.2.2.2.2.2.2
abbrev unc8 {A0 A1 A2 A3 A4 A5 A6 A7 R:Type} (f:A0→A1→A2→A3→A4→A5→A6→A7→R) (h:A0×A1×A2×A3×A4×A5×A6×A7):R:=f h.1 h.2.1 h.2.2.1 h.2.2.2.1 h.2.2.2.2.1 h.2.2.2.2.2.1 h.2.2.2.2.2.2.1 h.2.2.2.2.2.2.2
abbrev unc9 {A0 A1 A2 A3 A4 A5 A6 A7 A8 R:Type} (f:A0→A1→A2→A3→A4→A5→A6→A7→A8→R) (h:A0×A1×A2×A3×A4×A5×A6×A7×A8):R:=f h.1 h.2.1 h.2.2.1 h.2.2.2.1 h.2.2.2.2.1 h.2.2.2.2.2.1 h.2.2.2.2.2.2.1 h.2.2.2.2.2.2.2.1 h.2.2.2.2.2.2.2.2
abbrev jqe {A0 A1 A2 A3 A4 A5 A6 A7 A8 A9 R:Type} (f:A0→A1→A2→A3→A4→A5→A6→A7→A8→A9→R) (h:A0×A1×A2×A3×A4×A5×A6×A7×A8×A9):R:=f h.1 h.2.1 h.2.2.1 h.2.2.2.1 h.2.2.2.2.1 h.2.2.2.2.2.1 h.2.2.2.2.2.2.1 h.2.2.2.2.2.2.2.1 h.2.2.2.2.2.2.2.2.1 h.2.2.2.2.2.2.2.2.2
abbrev jqf {A0 A1 A2 A3 A4 A5 A6 A7 A8 A9 A10 R:Type} (f:A0→A1→A2→A3→A4→A5→A6→A7→A8→A9→A10→R) (h:A0×A1×A2×A3×A4×A5×A6×A7×A8×A9×A10):R:=f h.1 h.2.1 h.2.2.1 h.2.2.2.1 h.2.2.2.2.1 h.2.2.2.2.2.1 h.2.2.2.2.2.2.1 h.2.2.2.2.2.2.2.1 h.2.2.2.2.2.2.2.2.1 h.2.2.2.2.2.2.2.2.2.1 h.2.2.2.2.2.2.2.2.2.2
abbrev jpB {A0 A1 A2 A3 A4 A5 A6 A7 A8 A9 A10 A11 R:Type} (f:A0→A1→A2→A3→A4→A5→A6→A7→A8→A9→A10→A11→R) (h:A0×A1×A2×A3×A4×A5×A6×A7×A8×A9×A10×A11):R:=f h.1 h.2.1 h.2.2.1 h.2.2.2.1 h.2.2.2.2.1 h.2.2.2.2.2.1 h.2.2.2.2.2.2.1 h.2.2.2.2.2.2.2.1 h.2.2.2.2.2.2.2.2.1 h.2.2.2.2.2.2.2.2.2.1 h.2.2.2.2.2.2.2.2.2.2.1 h.2.2.2.2.2.2.2.2.2.2.2
abbrev jq1 {A0 A1 A2 A3 A4 A5 A6 A7 A8 A9 A10 A11 A12 R:Type} (f:A0→A1→A2→A3→A4→A5→A6→A7→A8→A9→A10→A11→A12→R) (h:A0×A1×A2×A3×A4×A5×A6×A7×A8×A9×A10×A11×A12):R:=f h.1 h.2.1 h.2.2.1 h.2.2.2.1 h.2.2.2.2.1 h.2.2.2.2.2.1 h.2.2.2.2.2.2.1 h.2.2.2.2.2.2.2.1 h.2.2.2.2.2.2.2.2.1 h.2.2.2.2.2.2.2.2.2.1 h.2.2.2.2.2.2.2.2.2.2.1 h.2.2.2.2.2.2.2.2.2.2.2.1 h.2.2.2.2.2.2.2.2.2.2.2.2
abbrev jod {A0 A1 A2 A3 A4 A5 A6 A7 A8 A9 A10 A11 A12 A13 R:Type} (f:A0→A1→A2→A3→A4→A5→A6→A7→A8→A9→A10→A11→A12→A13→R) (h:A0×A1×A2×A3×A4×A5×A6×A7×A8×A9×A10×A11×A12×A13):R:=f h.1 h.2.1 h.2.2.1 h.2.2.2.1 h.2.2.2.2.1 h.2.2.2.2.2.1 h.2.2.2.2.2.2.1 h.2.2.2.2.2.2.2.1 h.2.2.2.2.2.2.2.2.1 h.2.2.2.2.2.2.2.2.2.1 h.2.2.2.2.2.2.2.2.2.2.1 h.2.2.2.2.2.2.2.2.2.2.2.1 h.2.2.2.2.2.2.2.2.2.2.2.2.1 h.2.2.2.2.2.2.2.2.2.2.2.2.2
abbrev jqg {A0 A1 A2 A3 A4 A5 A6 A7 A8 A9 A10 A11 A12 A13 A14 A15 A16 A17 A18 A19 R:Type} (f:A0→A1→A2→A3→A4→A5→A6→A7→A8→A9→A10→A11→A12→A13→A14→A15→A16→A17→A18→A19→R) (h:A0×A1×A2×A3×A4×A5×A6×A7×A8×A9×A10×A11×A12×A13×A14×A15×A16×A17×A18×A19):R:=f h.1 h.2.1 h.2.2.1 h.2.2.2.1 h.2.2.2.2.1 h.2.2.2.2.2.1 h.2.2.2.2.2.2.1 h.2.2.2.2.2.2.2.1 h.2.2.2.2.2.2.2.2.1 h.2.2.2.2.2.2.2.2.2.1 h.2.2.2.2.2.2.2.2.2.2.1 h.2.2.2.2.2.2.2.2.2.2.2.1 h.2.2.2.2.2.2.2.2.2.2.2.2.1 h.2.2.2.2.2.2.2.2.2.2.2.2.2.1 h.2.2.2.2.2.2.2.2.2.2.2.2.2.2.1 h.2.2.2.2.2.2.2.2.2.2.2.2.2.2.2.1 h.2.2.2.2.2.2.2.2.2.2.2.2.2.2.2.2.1 h.2.2.2.2.2.2.2.2.2.2.2.2.2.2.2.2.2.1 h.2.2.2.2.2.2.2.2.2.2.2.2.2.2.2.2.2.2.1 h.2.2.2.2.2.2.2.2.2.2.2.2.2.2.2.2.2.2.2
abbrev jqh {A0 A1 A2 A3 A4 A5 A6 A7 A8 A9 A10 A11 A12 A13 A14 A15 A16 A17 A18 A19 A20 A21 R:Type} (f:A0→A1→A2→A3→A4→A5→A6→A7→A8→A9→A10→A11→A12→A13→A14→A15→A16→A17→A18→A19→A20→A21→R) (h:A0×A1×A2×A3×A4×A5×A6×A7×A8×A9×A10×A11×A12×A13×A14×A15×A16×A17×A18×A19×A20×A21):R:=f h.1 h.2.1 h.2.2.1 h.2.2.2.1 h.2.2.2.2.1 h.2.2.2.2.2.1 h.2.2.2.2.2.2.1 h.2.2.2.2.2.2.2.1 h.2.2.2.2.2.2.2.2.1 h.2.2.2.2.2.2.2.2.2.1 h.2.2.2.2.2.2.2.2.2.2.1 h.2.2.2.2.2.2.2.2.2.2.2.1 h.2.2.2.2.2.2.2.2.2.2.2.2.1 h.2.2.2.2.2.2.2.2.2.2.2.2.2.1 h.2.2.2.2.2.2.2.2.2.2.2.2.2.2.1 h.2.2.2.2.2.2.2.2.2.2.2.2.2.2.2.1 h.2.2.2.2.2.2.2.2.2.2.2.2.2.2.2.2.1 h.2.2.2.2.2.2.2.2.2.2.2.2.2.2.2.2.2.1 h.2.2.2.2.2.2.2.2.2.2.2.2.2.2.2.2.2.2.1 h.2.2.2.2.2.2.2.2.2.2.2.2.2.2.2.2.2.2.2.1 h.2.2.2.2.2.2.2.2.2.2.2.2.2.2.2.2.2.2.2.2.1 h.2.2.2.2.2.2.2.2.2.2.2.2.2.2.2.2.2.2.2.2.2
def jeQ (b a:Int):Option (Int):=
 cond (!(a==0)) (
 let d:=(Int.tmod b a)
 let e:=(w64 (d+a))
 cond (!(a==0)) (
 let c:=(Int.tmod e a)
 some c) none) none
def j74 (c b:Int) (a:Bool):Option (Tn56×Tn50×Tn27×Tn67):=
 let j:Tn56:=[((ByteArray.mk #[122]),(0,([]:Tn44)))]
 let i:Tn2:=[(432000,435600)]
 let g:Tn50:=[((ByteArray.mk #[97]),(0,(i,(c,(b,a)))))]
 let f:(List Int):=[0]
 let d:Tn62:=[((ByteArray.mk #[108]),(0,((1,0),(1,(1,(f,(([]:Tn2),(0,0))))))))]
 let e:Tn67:=[((ByteArray.mk #[115]),(d,([]:Tn31)))]
 some (j,g,([]:Tn27),e)
def jc3 (a:Tn54):Option (ByteArray):=
 some a.1
def jdW (a:Int):Option (Bool):=
 some (cond (decide (a≥97)) (decide (a≤122)) false)
def jhn (a:Int):Option (Bool):=
 some (cond (decide (a≥48)) (decide (a≤57)) false)
def jaa (d:ByteArray) (c b:Int):Option ((ByteArray×Int×Int) ⊕ (Bool ⊕ Unit)):=
 cond (decide (b<c)) (
 cond (inR b (ByteArray.size d)) (
 let a:=(jft d b)
 (jdW a).bind fun i=>
 cond (!i) (
 (jhn a).bind fun g=>
 cond (cond (cond (!g) (a != 95) false) (a != 45) false) (
 some (.inr (.inl false))) (
 let f:=(w64 (b+1))
 some (.inl (d,c,f)))) (
 let e:=(w64 (b+1))
 some (.inl (d,c,e)))) none) (
 some (.inr (.inr ())))
def jbr [LP] (c:ByteArray) (b a:Int):Option (Bool ⊕ Unit):=
 LP.lp (unc3 (jaa)) (c,b,a)
def jaY [LP] (a:ByteArray):Option (Bool):=
 let g:=(Int.ofNat (ByteArray.size a))
 let b:Bool:=(cond (ByteArray.toList a==ByteArray.toList ByteArray.empty) true (decide (g>24)))
 cond ((inR 0 (ByteArray.size a)) || !(!b)) (
 let e:=(jft a 0)
 cond b (
 some false) (
 (jdW e).bind fun c=>
 cond (!c) (
 some false) (
 let d:=(Int.ofNat (ByteArray.size a))
 (jbr a d 0).bind fun f=>
 sumC f (fun i=>
 some i) (fun j=>
 some true)))) none
def j3i [LP] (b:ByteArray) (a:(List (ByteArray×Bool))):Option (Int×(List (ByteArray×Bool))):=
 (jaY b).bind fun d=>
 cond (!d) (
 some (2,a)) (
 cond (jaH false a b) (
 some (4,a)) (
 let c:(List (ByteArray×Bool)):=(jbW a b true)
 some (0,c)))
def jal (a b c:Int):Option (Bool):=
 some (cond (decide (a≥b)) (decide (a≤c)) false)
def jkE (a:Tn40):Option (Int):=
 (jal a.1 1970 2240).bind fun i=>
 cond (!i) (
 some 1) (
 (jal a.2.1 a.1 2240).bind fun d=>
 cond (!d) (
 some 1) (
 (jal a.2.2.1 1 12).bind fun g=>
 cond (!g) (
 some 1) (
 (jal a.2.2.2.1 1 5).bind fun c=>
 cond (!c) (
 some 1) (
 (jal a.2.2.2.2.1 0 6).bind fun b=>
 cond (!b) (
 some 1) (
 (jal a.2.2.2.2.2.1 0 86399).bind fun f=>
 cond (!f) (
 some 1) (
 (jal a.2.2.2.2.2.2 (-64800) 64800).bind fun e=>
 cond (!e) (
 some 1) (
 some 0)))))))
def jiS (a:Int):Option (Bool):=
 let d:=(Int.tmod a 4)
 let c:=(Int.tmod a 100)
 let b:=(Int.tmod a 400)
 some (cond (d==0) (cond (c != 0) true (b==0)) false)
def j8S (c a:Int):Option (Int):=
 cond (cond (decide (a<1)) true (decide (a>12))) (
 some 0) (
 let f:(List Int):=[31,28,31,30,31,30,31,31,30,31,30,31]
 let j:(List Int):=(List.replicate 12 0)
 cond (a==2) (
 (jiS c).bind fun i=>
 cond i (
 some 29) (
 let e:=(w64 (a-1))
 cond (inR e 12) (
 let g:=(List.getD f (Int.toNat e) 0)
 some g) none)) (
 let b:=(w64 (a-1))
 cond (inR b 12) (
 let d:=(List.getD f (Int.toNat b) 0)
 some d) none))
def jho (a:Tn3):Option (Bool):=
 cond (decide (a.1≥1970)) (
 cond (decide (a.1≤2240)) (
 cond (decide (a.2.2≥1)) (
 (j8S a.1 a.2.1).bind fun b=>
 some (decide (a.2.2≤b))) (
 some false)) (
 some false)) (
 some false)
def j90 (b a:Int):Option (Int):=
 cond (!(a==0)) (
 let d:=(w64 (Int.tdiv b a))
 cond (!(a==0)) (
 let c:=(Int.tmod b a)
 cond (decide (c<0)) (
 let e:=(w64 (d-1))
 some e) (
 some d)) none) none
def j75 (a:Int):Option (Int):=
 let b:=(w64 (a-1))
 let k:=(w64 (a-1970))
 let l:=(w64 (365*k))
 (j90 b 4).bind fun f=>
 let c:=(w64 (l+f))
 (j90 b 100).bind fun d=>
 let i:=(w64 (c-d))
 (j90 b 400).bind fun j=>
 let e:=(w64 (i+j))
 let g:=(w64 (e-477))
 some g
def j8m (i e g a f:Int):Option ((Int×Int×Int×Int×Int) ⊕ (Int)):=
 cond (decide (e<a)) (
 (j8S g e).bind fun d=>
 let b:=(w64 (i+d))
 let c:=(w64 (e+1))
 some (.inl (b,c,g,a,f))) (
 some (.inr i))
def j91 [LP] (d e c b a):=LP.lp (fun h=>j8m h.1 h.2.1 h.2.2.1 h.2.2.2.1 h.2.2.2.2) (d,e,c,b,a)
def j7y [LP] (a:Tn3):Option (Int):=
 (j75 a.1).bind fun d=>
 let c:=(w64 (d+a.2.2))
 let b:=(w64 (c-1))
 (j91 b 1 a.1 a.2.1 a.2.2).bind fun e=>
 some e
def jbs (a:Int):Option (Int):=
 let d:=(Int.tmod a 7)
 let b:=(w64 (d+10))
 let c:=(Int.tmod b 7)
 some c
def jcL [LP] (d b c a:Int):Option (Int×Int):=
 (jho (d,(b,1))).bind fun l=>
 let j:Bool:=(cond (cond (!l) true (decide (c<1))) true (decide (c>5)))
 let r:Bool:=(cond (cond j true (decide (a<0))) true (decide (a>6)))
 cond r (
 some (0,1)) (
 (j7y (d,(b,1))).bind fun e=>
 (jbs e).bind fun s=>
 let n:=(w64 (a-s))
 let g:=(w64 (n+7))
 let m:=(Int.tmod g 7)
 let k:=(w64 (e+m))
 let o:=(w64 (c-1))
 let p:=(w64 (7*o))
 let f:=(w64 (k+p))
 (j8S d b).bind fun i=>
 let q:=(w64 (e+i))
 cond (decide (f≥q)) (
 let t:=(w64 (f-7))
 some (t,0)) (
 some (f,0)))
def j92 (b a:(Int×Int)):Option (Int):=
 let c:=(w64 (b.1-a.1))
 some c
def j14 (r t u b:Int) (a:Tn2):Option ((Int×Int×Int×Int×Tn2) ⊕ ((Int×Int×Int×Tn2))):=
 cond (decide (b>r)) (
 cond (inR b (List.length a)) (
 let j:=(List.getD a (Int.toNat b) (0,0)).1
 let i:=(List.getD a (Int.toNat b) (0,0)).2
 let c:=(w64 (b-1))
 cond (inR c (List.length a)) (
 let q:=(List.getD a (Int.toNat c) (0,0)).1
 let s:=(List.getD a (Int.toNat c) (0,0)).2
 (j92 (j,i) (q,s)).bind fun m=>
 cond (decide (m<0)) (
 let e:=(w64 (b-1))
 let d:=(w64 (b-1))
 cond (inR d (List.length a)) (
 let p:=(List.getD a (Int.toNat d) (0,0)).1
 let k:=(List.getD a (Int.toNat d) (0,0)).2
 cond (inR b (List.length a)) (
 let g:=(List.getD a (Int.toNat b) (0,0)).1
 let l:=(List.getD a (Int.toNat b) (0,0)).2
 cond (inR b (List.length a)) (
 let f:Tn2:=(List.set a (Int.toNat b) (p,k))
 cond (inR e (List.length f)) (
 let n:Tn2:=(List.set f (Int.toNat e) (g,l))
 let o:=(w64 (b-1))
 some (.inl (r,t,u,o,n))) none) none) none) none) (
 some (.inr (r,t,u,a)))) none) none) (
 some (.inr (r,t,u,a)))
def j0G [LP] (a b e c:Int) (d:Tn2):Option ((Int×Int×Int×Tn2)):=
 LP.lp (unc5 (j14)) (a,b,e,c,d)
def j09 [LP] (f d c:Int) (e:Tn2):Option ((Int×Int×Int×Tn2) ⊕ (Tn2)):=
 cond (decide (c<d)) (
 (j0G f d c c e).bind fun a=>
 let b:=(w64 (a.2.2.1+1))
 some (.inl (a.1,a.2.1,b,a.2.2.2))) (
 some (.inr e))
def j0H [LP] (b a d:Int) (c:Tn2):Option (Tn2):=
 LP.lp (unc4 (j09)) (b,a,d,c)
def j0b [LP] (a:Tn2) (b c:Int):Option (Tn2):=
 let d:=(w64 (b+1))
 (j0H b c d a).bind fun e=>
 some e
def j0f [LP] (d e f c:Int) (g:Tn2):Option ((Int×Int×Int×Int×Tn2) ⊕ ((Int×Int×Int×Tn2))):=
 cond (decide (c≤d)) (
 (j0b g f c).bind fun a=>
 let b:=(w64 (c+e))
 some (.inl (d,e,c,b,a))) (
 some (.inr (d,e,f,g)))
def j15 [LP] (a d b e:Int) (c:Tn2):Option ((Int×Int×Int×Tn2)):=
 LP.lp (unc5 (j0f)) (a,d,b,e,c)
def j1M (a c b f:Int) (e:Tn2):Option ((Int×Int×Int×Int×Tn2) ⊕ ((Int×Int×Int×Tn2))):=
 cond (decide (f≤a)) (
 let d:=(w64 (b+c))
 none) (
 some (.inr (a,c,b,e)))
def j16 [LP] (a d b e:Int) (c:Tn2):Option ((Int×Int×Int×Tn2)):=
 LP.lp (unc5 (j1M)) (a,d,b,e,c)
def j0g [LP] (f e:Int) (g:Tn2):Option ((Int×Int×Tn2) ⊕ (Tn2)):=
 cond (decide (e<f)) (
 let b:=(w64 (2*e))
 (j16 f e 0 b g).bind fun a=>
 let c:=(w64 (a.2.2.1+a.2.1))
 cond (decide (c<a.1)) (
 none) (
 let d:=(w64 (a.2.1*2))
 some (.inl (a.1,d,a.2.2.2)))) (
 some (.inr g))
def j17 [LP] (b a:Int) (c:Tn2):Option (Tn2):=
 LP.lp (unc3 (j0g)) (b,a,c)
def j0q [LP] (a:Tn2) (c:Int):Option (Tn2):=
 (j15 c 20 0 20 a).bind fun b=>
 (j0b b.2.2.2 b.2.2.1 b.1).bind fun d=>
 (j17 b.1 b.2.1 d).bind fun e=>
 some e
def j07 [LP] (a:Tn2):Option (Tn2):=
 let c:=(Int.ofNat (List.length a))
 (j0q a c).bind fun b=>
 some b
def j69 (n:Int) (d:Tn44) (l c:Int) (m:ByteArray) (f:Int) (e:Tn44):Option ((Int×Tn44×Int×Int×ByteArray×Int×Tn44) ⊕ (Int ⊕ (Int×ByteArray×Int×Tn44))):=
 cond (decide (c<l)) (
 cond (inR c (List.length d)) (
 let a:=(List.getD d (Int.toNat c) (0,(0,(0,(0,(0,(0,0)))))))
 (jkE (a.1,(a.2.1,(a.2.2.1,(a.2.2.2.1,(a.2.2.2.2.1,(a.2.2.2.2.2.1,a.2.2.2.2.2.2))))))).bind fun b=>
 cond (b != 0) (
 some (.inr (.inl b))) (
 let j:=(w64 (a.2.1-a.1))
 let k:=(w64 (j+1))
 let i:=(w64 (n+k))
 let g:=(w64 (c+1))
 some (.inl (i,d,l,g,m,f,e)))) none) (
 some (.inr (.inr (n,m,f,e))))
def j5R [LP] (g:Int) (e:Tn44) (c d:Int) (f:ByteArray) (b:Int) (a:Tn44):Option (Int ⊕ (Int×ByteArray×Int×Tn44)):=
 LP.lp (unc7 (j69)) (g,e,c,d,f,b,a)
def j1x [LP] (i:Int) (o:Tn44) (q p s g f b d a c:Int) (r:Tn2):Option ((Int×Tn44×Int×Int×Int×Int×Int×Int×Int×Int×Int×Tn2) ⊕ ((Tn44×Int×Int×Tn2))):=
 cond (decide (i≤g)) (
 (jcL i f b d).bind fun l=>
 let m:=(w64 (l.1*86400))
 let j:=(w64 (m+a))
 let e:Tn2:=[(j,c)]
 cond (decide (List.length r+List.length e≤j0n)) (
 let k:Tn2:=(r++e)
 let n:=(w64 (i+1))
 some (.inl (n,o,q,p,s,g,f,b,d,a,c,k))) none) (
 some (.inr (o,q,p,r)))
def j5S [LP] (g:Int) (i:Tn44) (l k j f e b d a c:Int) (m:Tn2):Option ((Tn44×Int×Int×Tn2)):=
 LP.lp (jpB (j1x)) (g,i,l,k,j,f,e,b,d,a,c,m)
def j1y [LP] (d:Tn44) (f c:Int) (g:Tn2):Option ((Tn44×Int×Int×Tn2) ⊕ (Tn2)):=
 cond (decide (c<f)) (
 cond (inR c (List.length d)) (
 let a:=(List.getD d (Int.toNat c) (0,(0,(0,(0,(0,(0,0)))))))
 (j5S a.1 d f c a.1 a.2.1 a.2.2.1 a.2.2.2.1 a.2.2.2.2.1 a.2.2.2.2.2.1 a.2.2.2.2.2.2 g).bind fun b=>
 let e:=(w64 (b.2.2.1+1))
 some (.inl (b.1,b.2.1,e,b.2.2.2))) none) (
 some (.inr g))
def j5T [LP] (c:Tn44) (b a:Int) (d:Tn2):Option (Tn2):=
 LP.lp (unc4 (j1y)) (c,b,a,d)
def j4k [LP] (a:Tn54):Option (Tn2×Int):=
 (jal a.2.1 (-64800) 64800).bind fun e=>
 cond (!e) (
 some (([]:Tn2),1)) (
 let c:=(Int.ofNat (List.length a.2.2))
 cond (decide (c>16)) (
 some (([]:Tn2),5)) (
 let d:=(Int.ofNat (List.length a.2.2))
 (j5R 0 a.2.2 d 0 a.1 a.2.1 a.2.2).bind fun i=>
 sumC i (fun k=>
 some (([]:Tn2),k)) (fun j=>
 cond (decide (j.1>640)) (
 some (([]:Tn2),5)) (
 let b:=(Int.ofNat (List.length j.2.2.2))
 (j5T j.2.2.2 b 0 ([]:Tn2)).bind fun g=>
 (j07 g).bind fun f=>
 some (f,0)))))
def j6a (v m c:Int) (a e:Tn2):Option ((Int×Int×Int×Tn2×Tn2) ⊕ (Int ⊕ Tn2)):=
 cond (decide (c<m)) (
 cond (inR c (List.length e)) (
 let t:=(List.getD e (Int.toNat c) (0,0)).1
 let b:=(List.getD e (Int.toNat c) (0,0)).2
 cond (b==v) (
 let r:=(w64 (c+1))
 some (.inl (v,m,r,a,e))) (
 let d:=(w64 (t-v))
 let g:=(w64 (b-v))
 cond (cond (decide (g≥86400)) true (decide (g≤(-86400)))) (
 let n:=(Int.ofNat (List.length a))
 let w:=(Int.ofNat (List.length a))
 let l:=(w64 (w-1))
 cond ((inR l (List.length a)) || !((!true)&&(decide (n>0)))) (
 let q:=(List.getD a (Int.toNat l) (0,0)).1
 let y:=(w64 (q+604800))
 some (.inr (.inl 6))) none) (
 (jal d 0 8589934592).bind fun f=>
 let i:=(Int.ofNat (List.length a))
 let u:=(Int.ofNat (List.length a))
 let k:=(w64 (u-1))
 cond ((inR k (List.length a)) || !((!(!f))&&(decide (i>0)))) (
 let x:=(List.getD a (Int.toNat k) (0,0)).1
 let s:=(w64 (x+604800))
 cond (cond (!f) true (cond (decide (i>0)) (decide (d<s)) false)) (
 some (.inr (.inl 6))) (
 let j:Tn2:=[(d,b)]
 cond (decide (List.length a+List.length j≤j0n)) (
 let p:Tn2:=(a++j)
 let o:=(w64 (c+1))
 some (.inl (b,m,o,p,e))) none)) none))) none) (
 some (.inr (.inr a)))
def j5U [LP] (d c a:Int) (e b:Tn2):Option (Int ⊕ Tn2):=
 LP.lp (unc5 (j6a)) (d,c,a,e,b)
def j3e [LP] (a:Tn54):Option (Tn2×Int):=
 (j4k (a.1,(a.2.1,a.2.2))).bind fun b=>
 cond (b.2 != 0) (
 some (([]:Tn2),b.2)) (
 let c:=(Int.ofNat (List.length b.1))
 (j5U a.2.1 c 0 ([]:Tn2) b.1).bind fun d=>
 sumC d (fun e=>
 some (([]:Tn2),e)) (fun f=>
 some (f,0)))
def jaZ [LP] (a:Tn54):Option (Int):=
 (j3e (a.1,(a.2.1,a.2.2))).bind fun b=>
 some b.2
def j8n (a:Tn40):Option (Bool):=
 let b:=(Int.tmod a.2.2.2.2.2.2 60)
 some (b != 0)
def j1e (e:Tn44) (f b:Int):Option ((Tn44×Int×Int) ⊕ (Int ⊕ Unit)):=
 cond (decide (b<f)) (
 cond (inR b (List.length e)) (
 let a:=(List.getD e (Int.toNat b) (0,(0,(0,(0,(0,(0,0)))))))
 (j8n (a.1,(a.2.1,(a.2.2.1,(a.2.2.2.1,(a.2.2.2.2.1,(a.2.2.2.2.2.1,a.2.2.2.2.2.2))))))).bind fun d=>
 cond d (
 some (.inr (.inl b))) (
 let c:=(w64 (b+1))
 some (.inl (e,f,c)))) none) (
 some (.inr (.inr ())))
def j0L [LP] (a:Tn44) (b c:Int):Option (Int ⊕ Unit):=
 LP.lp (unc3 (j1e)) (a,b,c)
def j0j [LP] (a:Tn44):Option (Int):=
 let b:=(Int.ofNat (List.length a))
 (j0L a b 0).bind fun c=>
 sumC c (fun d=>
 some d) (fun e=>
 some (-1))
def j0d [LP] (a:Tn44):Option (Bool):=
 (j0j a).bind fun b=>
 some (decide (b≥0))
def j3N [LP] (a:Tn54):Option (Int):=
 (jaZ (a.1,(a.2.1,a.2.2))).bind fun c=>
 let d:=(Int.tmod a.2.1 60)
 cond (cond (c != 0) true (d != 0)) (
 some 8) (
 (j0d a.2.2).bind fun b=>
 cond b (
 some 8) (
 some 0))
def j0S [LP] (e:Tn56) (i c:Int) (j:(List (ByteArray×Bool))):Option ((Tn56×Int×Int×(List (ByteArray×Bool))) ⊕ (Int ⊕ Unit)):=
 cond (decide (c<i)) (
 cond (inR c (List.length e)) (
 let a:=(List.getD e (Int.toNat c) (ByteArray.empty,(0,([]:Tn44))))
 (jc3 (a.1,(a.2.1,a.2.2))).bind fun g=>
 (j3i g j).bind fun b=>
 cond (b.1 != 0) (
 some (.inr (.inl b.1))) (
 (j3N (a.1,(a.2.1,a.2.2))).bind fun d=>
 cond (d != 0) (
 some (.inr (.inl d))) (
 let f:=(w64 (c+1))
 some (.inl (e,i,f,b.2))))) none) (
 some (.inr (.inr ())))
def j3y [LP] (c:Tn56) (a b:Int) (d:(List (ByteArray×Bool))):Option (Int ⊕ Unit):=
 LP.lp (unc4 (j0S)) (c,a,b,d)
def j1Z [LP] (a:Tn56):Option (Int):=
 let b:(List (ByteArray×Bool)):=([]:(List (ByteArray×Bool)))
 let c:=(Int.ofNat (List.length a))
 (j3y a c 0 b).bind fun d=>
 sumC d (fun e=>
 some e) (fun f=>
 some 0)
def j3j (a b:Int):Option (Bool):=
 some (cond (decide (a≥0)) (decide (a<b)) false)
def jab (e j:Tn2) (k b:Int):Option ((Tn2×Tn2×Int×Int) ⊕ (Int ⊕ Unit)):=
 cond (decide (b<k)) (
 cond (inR b (List.length j)) (
 let a:=(List.getD j (Int.toNat b) (0,0))
 let d:Bool:=(cond (cond (decide (a.1<0)) true (decide (a.1≥a.2))) true (decide (a.2>604800)))
 cond d (
 some (.inr (.inl 1))) (
 cond (decide (b>0)) (
 let c:=(w64 (b-1))
 cond (inR c (List.length e)) (
 let g:=(List.getD e (Int.toNat c) (0,0))
 cond (decide (a.1<g.2)) (
 some (.inr (.inl 6))) (
 let i:=(w64 (b+1))
 some (.inl (e,j,k,i)))) none) (
 let f:=(w64 (b+1))
 some (.inl (e,j,k,f))))) none) (
 some (.inr (.inr ())))
def jbt [LP] (b d:Tn2) (c a:Int):Option (Int ⊕ Unit):=
 LP.lp (unc4 (jab)) (b,d,c,a)
def j8T [LP] (a:Tn2):Option (Int):=
 let b:=(Int.ofNat (List.length a))
 cond (decide (b>14)) (
 some 5) (
 let d:=(Int.ofNat (List.length a))
 (jbt a a d 0).bind fun c=>
 sumC c (fun e=>
 some e) (fun f=>
 some 0))
def j76 (a b c:Int):Option (Bool):=
 some (cond (decide (a≥b)) (decide (a≤c)) false)
def jbu (a:Int):Option (Bool):=
 (j76 a 0 604800).bind fun b=>
 let c:=(Int.tmod a 3600)
 some (cond b (c==0) false)
def j22 [LP] (b:Tn73) (a:Tn46):Option (Int):=
 let g:=(Int.ofNat (List.length b.1))
 (j3j a.2.1 g).bind fun d=>
 cond (!d) (
 some 3) (
 (j8T a.2.2.1).bind fun f=>
 cond (f != 0) (
 some 8) (
 (jbu a.2.2.2.1).bind fun c=>
 cond (!c) (
 some 1) (
 (jbu a.2.2.2.2.1).bind fun e=>
 cond (!e) (
 some 1) (
 some 0))))
def jc4 (a:Tn20):Option (ByteArray):=
 some a.1
def jac (e b:Int):Option ((Int×Int) ⊕ (Int)):=
 let c:=(w64 (b+1))
 (j75 c).bind fun d=>
 cond (decide (d≤e)) (
 let a:=(w64 (b+1))
 some (.inl (e,a))) (
 some (.inr b))
def jbv [LP] (b a:Int):Option (Int):=
 LP.lp (unc2 (jac)) (b,a)
def jb0 [LP] (a:Int):Option (Int):=
 (j90 a 366).bind fun b=>
 let c:=(w64 (1970+b))
 (jbv a c).bind fun d=>
 some d
def j8o (k l c b e a d:Int):Option ((Int×Int×Int×Int×Int×Int×Int) ⊕ ((Int×Int×Int×Int×Int×Int×Int))):=
 (j8S e a).bind fun f=>
 cond (decide (k≥f)) (
 (j8S e a).bind fun j=>
 let g:=(w64 (k-j))
 let i:=(w64 (a+1))
 some (.inl (g,l,c,b,e,i,d))) (
 some (.inr (k,l,c,b,e,a,d)))
def j93 [LP] (e g c a f b d:Int):Option ((Int×Int×Int×Int×Int×Int×Int)):=
 LP.lp (unc7 (j8o)) (e,g,c,a,f,b,d)
def j7z [LP] (a:Int):Option (Tn3×Int):=
 (j75 1970).bind fun i=>
 cond (decide (a<i)) (
 some ((0,(0,0)),1)) (
 (j75 2241).bind fun g=>
 cond (decide (a≥g)) (
 some ((0,(0,0)),1)) (
 (jb0 a).bind fun b=>
 (j75 b).bind fun f=>
 let d:=(w64 (a-f))
 (j93 d 0 0 0 b 1 0).bind fun c=>
 let e:=(w64 (c.1+1))
 some ((c.2.2.2.2.1,(c.2.2.2.2.2.1,e)),0)))
def j47 [LP] (a:Int):Option (Bool):=
 (j7z a).bind fun b=>
 some (b.2==0)
def j1z [LP] (a:Int):Option (Bool):=
 (j47 a).bind fun b=>
 some (!b)
def j0F [LP] (e:(List Int)) (f a:Int):Option (((List Int)×Int×Int) ⊕ (Int ⊕ Unit)):=
 cond (decide (a<f)) (
 cond (inR a (List.length e)) (
 let d:=(List.getD e (Int.toNat a) 0)
 (j1z d).bind fun c=>
 cond c (
 some (.inr (.inl a))) (
 let b:=(w64 (a+1))
 some (.inl (e,f,b)))) none) (
 some (.inr (.inr ())))
def j2V [LP] (a:(List Int)) (b c:Int):Option (Int ⊕ Unit):=
 LP.lp (unc3 (j0F)) (a,b,c)
def j1A [LP] (a:(List Int)):Option (Int):=
 let b:=(Int.ofNat (List.length a))
 (j2V a b 0).bind fun c=>
 sumC c (fun d=>
 some d) (fun e=>
 some (-1))
def j18 [LP] (a:(List Int)):Option (Bool):=
 (j1A a).bind fun b=>
 some (decide (b≥0))
def j4l (d b:Int) (k:ByteArray) (e:Int) (a:(List Int)):Option ((Int×Int×ByteArray×Int×(List Int)) ⊕ (Int ⊕ Unit)):=
 cond (decide (b<d)) (
 cond (decide (b>0)) (
 cond (inR b (List.length a)) (
 let f:=(List.getD a (Int.toNat b) 0)
 let c:=(w64 (b-1))
 cond (inR c (List.length a)) (
 let g:=(List.getD a (Int.toNat c) 0)
 cond (decide (f≤g)) (
 some (.inr (.inl 6))) (
 let j:=(w64 (b+1))
 some (.inl (d,j,k,e,a)))) none) none) (
 let i:=(w64 (b+1))
 some (.inl (d,i,k,e,a)))) (
 some (.inr (.inr ())))
def j3O [LP] (d c:Int) (e:ByteArray) (b:Int) (a:(List Int)):Option (Int ⊕ Unit):=
 LP.lp (unc5 (j4l)) (d,c,e,b,a)
def j2c [LP] (b:Tn73) (a:Tn20):Option (Int):=
 let c:=(Int.ofNat (List.length b.1))
 (j3j a.2.1 c).bind fun e=>
 cond (!e) (
 some 3) (
 let d:=(Int.ofNat (List.length a.2.2))
 cond (decide (d>64)) (
 some 5) (
 (j18 a.2.2).bind fun g=>
 cond g (
 some 1) (
 let f:=(Int.ofNat (List.length a.2.2))
 (j3O f 0 a.1 a.2.1 a.2.2).bind fun i=>
 sumC i (fun j=>
 some j) (fun k=>
 some 0))))
def j4m [LP] (a:Tn20) (e:Tn56) (b:Tn50) (c:Tn27) (d:Tn67):Option (Int):=
 (j2c (e,(b,(c,d))) (a.1,(a.2.1,a.2.2))).bind fun f=>
 some f
def j0x [LP] (m:Tn56) (f:Tn50) (i:Tn27) (e:Tn67) (g:Tn27) (l c:Int) (n:(List (ByteArray×Bool))):Option ((Tn56×Tn50×Tn27×Tn67×Tn27×Int×Int×(List (ByteArray×Bool))) ⊕ (Int ⊕ Unit)):=
 cond (decide (c<l)) (
 cond (inR c (List.length g)) (
 let a:=(List.getD g (Int.toNat c) (ByteArray.empty,(0,([]:(List Int)))))
 (jc4 (a.1,(a.2.1,a.2.2))).bind fun k=>
 (j3i k n).bind fun b=>
 cond (b.1 != 0) (
 some (.inr (.inl b.1))) (
 (j4m (a.1,(a.2.1,a.2.2)) m f i e).bind fun d=>
 cond (d != 0) (
 some (.inr (.inl d))) (
 let j:=(w64 (c+1))
 some (.inl (m,f,i,e,g,l,j,b.2))))) none) (
 some (.inr (.inr ())))
def j2u [LP] (g:Tn56) (b:Tn50) (c:Tn27) (a:Tn67) (f:Tn27) (e d:Int) (i:(List (ByteArray×Bool))):Option (Int ⊕ Unit):=
 LP.lp (unc8 (j0x)) (g,b,c,a,f,e,d,i)
def j1j [LP] (e:Tn27) (d:Tn56) (a:Tn50) (c:Tn27) (b:Tn67):Option (Int):=
 let f:(List (ByteArray×Bool)):=([]:(List (ByteArray×Bool)))
 let g:=(Int.ofNat (List.length e))
 (j2u d a c b e g 0 f).bind fun i=>
 sumC i (fun j=>
 some j) (fun k=>
 some 0)
def jc5 (a:Tn66):Option (ByteArray):=
 some a.1
def j6b (a:Tn61):Option (ByteArray):=
 some a.1
def j7A (a:Int) (g:Tn56) (b:Tn50) (d:Tn27) (e:Tn67):Option (Bool):=
 let c:=(Int.ofNat (List.length b))
 (j3j a c).bind fun f=>
 some (!f)
def j2W (i:(List Int)) (j:Tn56) (b:Tn50) (c:Tn27) (a:Tn67) (k d:Int):Option (((List Int)×Tn56×Tn50×Tn27×Tn67×Int×Int) ⊕ (Int ⊕ Unit)):=
 cond (decide (d<k)) (
 cond (inR d (List.length i)) (
 let g:=(List.getD i (Int.toNat d) 0)
 (j7A g j b c a).bind fun f=>
 cond f (
 some (.inr (.inl d))) (
 let e:=(w64 (d+1))
 some (.inl (i,j,b,c,a,k,e)))) none) (
 some (.inr (.inr ())))
def j2d [LP] (e:(List Int)) (d:Tn56) (b:Tn50) (c:Tn27) (a:Tn67) (f g:Int):Option (Int ⊕ Unit):=
 LP.lp (unc7 (j2W)) (e,d,b,c,a,f,g)
def j19 [LP] (d:(List Int)) (e:Tn56) (c:Tn50) (b:Tn27) (a:Tn67):Option (Int):=
 let f:=(Int.ofNat (List.length d))
 (j2d d e c b a f 0).bind fun g=>
 sumC g (fun i=>
 some i) (fun j=>
 some (-1))
def j0T [LP] (d:(List Int)) (e:Tn56) (c:Tn50) (b:Tn27) (a:Tn67):Option (Bool):=
 (j19 d e c b a).bind fun f=>
 some (decide (f≥0))
def j3k [LP] (b:Tn73) (a:Tn61):Option (Int):=
 let p:=(Int.ofNat (List.length b.1))
 (j3j a.2.1 p).bind fun e=>
 cond (!e) (
 some 3) (
 cond (decide (a.2.2.1.1<1)) (
 some 1) (
 (j47 a.2.2.1.1).bind fun l=>
 cond (!l) (
 some 1) (
 (j76 a.2.2.1.2 0 86399).bind fun g=>
 cond (!g) (
 some 1) (
 (j76 a.2.2.2.1 0 2).bind fun k=>
 cond (!k) (
 some 1) (
 (j76 a.2.2.2.2.1 1 400).bind fun m=>
 cond (!m) (
 some 1) (
 let d:=(Int.ofNat (List.length a.2.2.2.2.2.1))
 cond (d==0) (
 some 7) (
 let c:=(Int.ofNat (List.length a.2.2.2.2.2.1))
 cond (decide (c>12)) (
 some 5) (
 (j0T a.2.2.2.2.2.1 b.1 b.2.1 b.2.2.1 b.2.2.2).bind fun o=>
 cond o (
 some 3) (
 (j8T a.2.2.2.2.2.2.1).bind fun f=>
 cond (f != 0) (
 some 8) (
 (j76 a.2.2.2.2.2.2.2.2 0 2).bind fun i=>
 cond (!i) (
 some 1) (
 let n:=(Int.ofNat (List.length b.2.2.1))
 cond (a.2.2.2.2.2.2.2.2 != 0) (
 (j3j a.2.2.2.2.2.2.2.1 n).bind fun j=>
 cond (!j) (
 some 3) (
 cond (cond (a.2.2.2.2.2.2.2.2==0) (a.2.2.2.2.2.2.2.1 != 0) false) (
 some 1) (
 some 0))) (
 cond (cond (a.2.2.2.2.2.2.2.2==0) (a.2.2.2.2.2.2.2.1 != 0) false) (
 some 1) (
 some 0)))))))))))))
def j1B [LP] (a:Tn61) (e:Tn56) (b:Tn50) (c:Tn27) (d:Tn67):Option (Int):=
 (j3k (e,(b,(c,d))) (a.1,(a.2.1,((a.2.2.1.1,a.2.2.1.2),(a.2.2.2.1,(a.2.2.2.2.1,(a.2.2.2.2.2.1,(a.2.2.2.2.2.2.1,(a.2.2.2.2.2.2.2.1,a.2.2.2.2.2.2.2.2))))))))).bind fun f=>
 some f
def j0M [LP] (m:Tn56) (f:Tn50) (i:Tn27) (e:Tn67) (g:Tn62) (l c:Int) (n:(List (ByteArray×Bool))):Option ((Tn56×Tn50×Tn27×Tn67×Tn62×Int×Int×(List (ByteArray×Bool))) ⊕ (Int ⊕ Unit)):=
 cond (decide (c<l)) (
 cond (inR c (List.length g)) (
 let a:=(List.getD g (Int.toNat c) (ByteArray.empty,(0,((0,0),(0,(0,(([]:(List Int)),(([]:Tn2),(0,0)))))))))
 (j6b (a.1,(a.2.1,((a.2.2.1.1,a.2.2.1.2),(a.2.2.2.1,(a.2.2.2.2.1,(a.2.2.2.2.2.1,(a.2.2.2.2.2.2.1,(a.2.2.2.2.2.2.2.1,a.2.2.2.2.2.2.2.2))))))))).bind fun k=>
 (j3i k n).bind fun b=>
 cond (b.1 != 0) (
 some (.inr (.inl b.1))) (
 (j1B (a.1,(a.2.1,((a.2.2.1.1,a.2.2.1.2),(a.2.2.2.1,(a.2.2.2.2.1,(a.2.2.2.2.2.1,(a.2.2.2.2.2.2.1,(a.2.2.2.2.2.2.2.1,a.2.2.2.2.2.2.2.2)))))))) m f i e).bind fun d=>
 cond (d != 0) (
 some (.inr (.inl d))) (
 let j:=(w64 (c+1))
 some (.inl (m,f,i,e,g,l,j,b.2))))) none) (
 some (.inr (.inr ())))
def j38 [LP] (g:Tn56) (b:Tn50) (c:Tn27) (a:Tn67) (f:Tn62) (e d:Int) (i:(List (ByteArray×Bool))):Option (Int ⊕ Unit):=
 LP.lp (unc8 (j0M)) (g,b,c,a,f,e,d,i)
def j1O [LP] (e:Tn62) (d:Tn56) (a:Tn50) (c:Tn27) (b:Tn67):Option (Int):=
 let f:(List (ByteArray×Bool)):=([]:(List (ByteArray×Bool)))
 let g:=(Int.ofNat (List.length e))
 (j38 d a c b e g 0 f).bind fun i=>
 sumC i (fun j=>
 some j) (fun k=>
 some 0)
def j3P [LP] (g:Tn73) (a:Tn25):Option (Int):=
 let j:=(Int.ofNat (List.length g.2.1))
 (j76 a.1 0 2).bind fun l=>
 cond (!l) (
 some 1) (
 (j3j a.2.1 j).bind fun f=>
 cond (cond (!f) (!(cond (a.1==1) (a.2.1==(-1)) false)) false) (
 cond (cond (!f) (!(cond (a.1==1) (a.2.1==(-1)) false)) false) (
 some 3) (
 cond (cond (a.1 != 2) (a.2.2.1 != 0) false) (
 some 1) (
 cond (cond (a.1==2) (a.2.1==a.2.2.1) false) (
 some 4) (
 let k:=(w64 (Int.tdiv a.2.2.2.2 86400))
 cond (cond (decide (a.2.2.2.1<0)) true (decide (a.2.2.2.2<0))) (
 some 1) (
 (j47 k).bind fun i=>
 cond (!i) (
 some 1) (
 cond (decide (a.2.2.2.1≥a.2.2.2.2)) (
 some 6) (
 some 0))))))) (
 cond (a.1==2) (
 (j3j a.2.2.1 j).bind fun m=>
 cond (!m) (
 some 3) (
 cond (cond (a.1 != 2) (a.2.2.1 != 0) false) (
 some 1) (
 cond (cond (a.1==2) (a.2.1==a.2.2.1) false) (
 some 4) (
 let c:=(w64 (Int.tdiv a.2.2.2.2 86400))
 cond (cond (decide (a.2.2.2.1<0)) true (decide (a.2.2.2.2<0))) (
 some 1) (
 (j47 c).bind fun d=>
 cond (!d) (
 some 1) (
 cond (decide (a.2.2.2.1≥a.2.2.2.2)) (
 some 6) (
 some 0))))))) (
 cond (cond (a.1 != 2) (a.2.2.1 != 0) false) (
 some 1) (
 cond (cond (a.1==2) (a.2.1==a.2.2.1) false) (
 some 4) (
 let b:=(w64 (Int.tdiv a.2.2.2.2 86400))
 cond (cond (decide (a.2.2.2.1<0)) true (decide (a.2.2.2.2<0))) (
 some 1) (
 (j47 b).bind fun e=>
 cond (!e) (
 some 1) (
 cond (decide (a.2.2.2.1≥a.2.2.2.2)) (
 some 6) (
 some 0))))))))
def j0W [LP] (e:Tn31) (j b:Int) (k:Tn56) (g:Tn50) (d:Tn27) (f:Tn67):Option ((Tn31×Int×Int×Tn56×Tn50×Tn27×Tn67) ⊕ (Int ⊕ Unit)):=
 cond (decide (b<j)) (
 cond (inR b (List.length e)) (
 let a:=(List.getD e (Int.toNat b) (0,(0,(0,(0,0)))))
 (j3P (k,(g,(d,f))) (a.1,(a.2.1,(a.2.2.1,(a.2.2.2.1,a.2.2.2.2))))).bind fun c=>
 cond (c != 0) (
 some (.inr (.inl c))) (
 let i:=(w64 (b+1))
 some (.inl (e,j,i,k,g,d,f)))) none) (
 some (.inr (.inr ())))
def j3Q [LP] (f:Tn31) (e d:Int) (g:Tn56) (c:Tn50) (a:Tn27) (b:Tn67):Option (Int ⊕ Unit):=
 LP.lp (unc7 (j0W)) (f,e,d,g,c,a,b)
def j2e [LP] (a:Tn73) (b:Tn66):Option (Int):=
 let d:=(Int.ofNat (List.length b.2.1))
 let e:=(Int.ofNat (List.length b.2.2))
 cond (cond (decide (d>6)) true (decide (e>48))) (
 some 5) (
 (j1O b.2.1 a.1 a.2.1 a.2.2.1 a.2.2.2).bind fun c=>
 cond (c != 0) (
 some c) (
 let f:=(Int.ofNat (List.length b.2.2))
 (j3Q b.2.2 f 0 a.1 a.2.1 a.2.2.1 a.2.2.2).bind fun g=>
 sumC g (fun i=>
 some i) (fun j=>
 some 0)))
def j4n [LP] (a:Tn66) (e:Tn56) (b:Tn50) (c:Tn27) (d:Tn67):Option (Int):=
 (j2e (e,(b,(c,d))) (a.1,(a.2.1,a.2.2))).bind fun f=>
 some f
def j0y [LP] (m:Tn56) (f:Tn50) (i:Tn27) (e g:Tn67) (l c:Int) (n:(List (ByteArray×Bool))):Option ((Tn56×Tn50×Tn27×Tn67×Tn67×Int×Int×(List (ByteArray×Bool))) ⊕ (Int ⊕ Unit)):=
 cond (decide (c<l)) (
 cond (inR c (List.length g)) (
 let a:=(List.getD g (Int.toNat c) (ByteArray.empty,(([]:Tn62),([]:Tn31))))
 (jc5 (a.1,(a.2.1,a.2.2))).bind fun k=>
 (j3i k n).bind fun b=>
 cond (b.1 != 0) (
 some (.inr (.inl b.1))) (
 (j4n (a.1,(a.2.1,a.2.2)) m f i e).bind fun d=>
 cond (d != 0) (
 some (.inr (.inl d))) (
 let j:=(w64 (c+1))
 some (.inl (m,f,i,e,g,l,j,b.2))))) none) (
 some (.inr (.inr ())))
def j2v [LP] (g:Tn56) (b:Tn50) (c:Tn27) (a f:Tn67) (e d:Int) (i:(List (ByteArray×Bool))):Option (Int ⊕ Unit):=
 LP.lp (unc8 (j0y)) (g,b,c,a,f,e,d,i)
def j1k [LP] (e:Tn67) (d:Tn56) (a:Tn50) (c:Tn27) (b:Tn67):Option (Int):=
 let f:(List (ByteArray×Bool)):=([]:(List (ByteArray×Bool)))
 let g:=(Int.ofNat (List.length e))
 (j2v d a c b e g 0 f).bind fun i=>
 sumC i (fun j=>
 some j) (fun k=>
 some 0)
def j2f [LP] (g:Tn50) (i f:Int) (j:Tn56) (e:Tn50) (d:Tn27) (c:Tn67) (r:(List (ByteArray×Bool))):Option ((Tn50×Int×Int×Tn56×Tn50×Tn27×Tn67×(List (ByteArray×Bool))) ⊕ (Int ⊕ (Tn56×Tn50×Tn27×Tn67))):=
 cond (decide (f<i)) (
 cond (inR f (List.length g)) (
 let a:=(List.getD g (Int.toNat f) (ByteArray.empty,(0,(([]:Tn2),(0,(0,false))))))
 (j3i a.1 r).bind fun b=>
 let q:Bool:=(ByteArray.toList a.1==ByteArray.toList (ByteArray.mk #[110,111,98,111,100,121]))
 cond q (
 cond (2==0) (
 (j22 (j,(e,(d,c))) (a.1,(a.2.1,(a.2.2.1,(a.2.2.2.1,(a.2.2.2.2.1,a.2.2.2.2.2)))))).bind fun l=>
 cond (l != 0) (
 some (.inr (.inl l))) (
 let m:=(w64 (f+1))
 some (.inl (g,i,m,j,e,d,c,b.2)))) (
 cond (2 != 0) (
 some (.inr (.inl 2))) (
 let p:=(w64 (f+1))
 some (.inl (g,i,p,j,e,d,c,b.2))))) (
 cond (b.1==0) (
 (j22 (j,(e,(d,c))) (a.1,(a.2.1,(a.2.2.1,(a.2.2.2.1,(a.2.2.2.2.1,a.2.2.2.2.2)))))).bind fun k=>
 cond (k != 0) (
 some (.inr (.inl k))) (
 let n:=(w64 (f+1))
 some (.inl (g,i,n,j,e,d,c,b.2)))) (
 cond (b.1 != 0) (
 some (.inr (.inl b.1))) (
 let o:=(w64 (f+1))
 some (.inl (g,i,o,j,e,d,c,b.2)))))) none) (
 some (.inr (.inr (j,e,d,c))))
def j7U [LP] (d:Tn50) (f e:Int) (g:Tn56) (c:Tn50) (b:Tn27) (a:Tn67) (i:(List (ByteArray×Bool))):Option (Int ⊕ (Tn56×Tn50×Tn27×Tn67)):=
 LP.lp (unc8 (j2f)) (d,f,e,g,c,b,a,i)
def j6o [LP] (a:Tn73):Option (Int):=
 let e:=(Int.ofNat (List.length a.1))
 let j:=(Int.ofNat (List.length a.2.1))
 let f:=(Int.ofNat (List.length a.2.2.1))
 let k:Bool:=(cond (cond (decide (e>16)) true (decide (j>32))) true (decide (f>8)))
 let l:=(Int.ofNat (List.length a.2.2.2))
 cond (cond k true (decide (l>12))) (
 some 5) (
 (j1Z a.1).bind fun c=>
 cond (c != 0) (
 some c) (
 let m:(List (ByteArray×Bool)):=([]:(List (ByteArray×Bool)))
 let i:=(Int.ofNat (List.length a.2.1))
 (j7U a.2.1 i 0 a.1 a.2.1 a.2.2.1 a.2.2.2 m).bind fun n=>
 sumC n (fun o=>
 some o) (fun b=>
 (j1j b.2.2.1 b.1 b.2.1 b.2.2.1 b.2.2.2).bind fun d=>
 cond (d != 0) (
 some d) (
 (j1k b.2.2.2 b.1 b.2.1 b.2.2.1 b.2.2.2).bind fun g=>
 some g))))
def jhp [LP] (a:Tn54):Option (Tn14×Int):=
 (j3e (a.1,(a.2.1,a.2.2))).bind fun b=>
 some ((a.2.1,b.1),b.2)
def j2X [LP] (i:Tn56) (j d:Int) (g:Tn21):Option ((Tn56×Int×Int×Tn21) ⊕ (Tn21)):=
 cond (decide (d<j)) (
 cond (inR d (List.length i)) (
 let a:=(List.getD i (Int.toNat d) (ByteArray.empty,(0,([]:Tn44))))
 (jhp (a.1,(a.2.1,a.2.2))).bind fun c=>
 let b:Tn21:=[(c.1.1,c.1.2)]
 cond (decide (List.length g+List.length b≤j0n)) (
 let f:Tn21:=(g++b)
 let e:=(w64 (d+1))
 some (.inl (i,j,e,f))) none) none) (
 some (.inr g))
def jam [LP] (d:Tn56) (b a:Int) (c:Tn21):Option (Tn21):=
 LP.lp (unc4 (j2X)) (d,b,a,c)
def j94 [LP] (a:Tn56):Option (Tn21):=
 let b:=(Int.ofNat (List.length a))
 (jam a b 0 ([]:Tn21)).bind fun c=>
 some c
def jcM [LP] (a:Tn73):Option (Tn75):=
 (j94 a.1).bind fun b=>
 some ((a.1,(a.2.1,(a.2.2.1,a.2.2.2))),b)
def jfJ [LP] (a:Tn73):Option (Tn75×Bool):=
 (j6o (a.1,(a.2.1,(a.2.2.1,a.2.2.2)))).bind fun c=>
 cond (c != 0) (
 some (((([]:Tn56),(([]:Tn50),(([]:Tn27),([]:Tn67)))),([]:Tn21)),false)) (
 (jcM (a.1,(a.2.1,(a.2.2.1,a.2.2.2)))).bind fun b=>
 some (((b.1.1,(b.1.2.1,(b.1.2.2.1,b.1.2.2.2))),b.2),true))
def jfK (a b:Int):Option (Bool):=
 let d:Bool:=(cond (cond (decide (a≥0)) (decide (a≤8589934592)) false) (decide (b≥a)) false)
 let c:=(w64 (b-a))
 let e:Bool:=(cond (cond d (decide (b≤8589934592)) false) (decide (c≤34560000)) false)
 some e
def j5V [LP] (c:Tn73) (b d e:Int):Option (Tn75×Int):=
 (jfJ (c.1,(c.2.1,(c.2.2.1,c.2.2.2)))).bind fun a=>
 cond (!a.2) (
 some (((a.1.1.1,(a.1.1.2.1,(a.1.1.2.2.1,a.1.1.2.2.2))),a.1.2),8)) (
 let g:=(Int.ofNat (List.length c.2.1))
 cond (cond (decide (b<0)) true (decide (b≥g))) (
 some (((a.1.1.1,(a.1.1.2.1,(a.1.1.2.2.1,a.1.1.2.2.2))),a.1.2),3)) (
 (jfK d e).bind fun f=>
 cond (!f) (
 some (((a.1.1.1,(a.1.1.2.1,(a.1.1.2.2.1,a.1.1.2.2.2))),a.1.2),1)) (
 some (((a.1.1.1,(a.1.1.2.1,(a.1.1.2.2.1,a.1.1.2.2.2))),a.1.2),0))))
def j8p (a:(List Int)):Option ((List Int)):=
 cond (decide (List.length ([]:List (Int))+List.length a≤j0n)) (
 some (([]:List (Int))++a)) none
def jcN (a b c:Int):Option (Bool):=
 some (cond (decide (a≤b)) true (decide (a≥c)))
def j2Y (g b i c:Int) (a:(List Int)):Option ((Int×Int×Int×Int×(List Int)) ⊕ (Tn1 ⊕ (List Int))):=
 cond (decide (c<i)) (
 cond (inR c (List.length a)) (
 let f:=(List.getD a (Int.toNat c) 0)
 (jcN f g b).bind fun e=>
 cond e (
 some (.inr (.inl (c,a)))) (
 let d:=(w64 (c+1))
 some (.inl (g,b,i,d,a)))) none) (
 some (.inr (.inr a)))
def j2g [LP] (b a c e:Int) (d:(List Int)):Option (Tn1 ⊕ (List Int)):=
 LP.lp (unc5 (j2Y)) (b,a,c,e,d)
def j1a [LP] (b:(List Int)) (c a:Int):Option Tn1:=
 let d:=(Int.ofNat (List.length b))
 (j2g c a d 0 b).bind fun e=>
 sumC e (fun f=>
 some (f.1,f.2)) (fun g=>
 some ((-1),g))
def j3l (m b d e:Int) (a:(List Int)):Option ((Int×Int×Int×Int×(List Int)) ⊕ (Tn1)):=
 let i:=(Int.ofNat (List.length a))
 cond (decide (e<i)) (
 cond (inR e (List.length a)) (
 let c:=(List.getD a (Int.toNat e) 0)
 (jcN c m b).bind fun j=>
 cond (!j) (
 cond (inR d (List.length a)) (
 let l:(List Int):=(List.set a (Int.toNat d) c)
 let g:=(w64 (d+1))
 let f:=(w64 (e+1))
 some (.inl (m,b,g,f,l))) none) (
 let k:=(w64 (e+1))
 some (.inl (m,b,d,k,a)))) none) (
 some (.inr (d,a)))
def j2J [LP] (c a b e:Int) (d:(List Int)):Option (Tn1):=
 LP.lp (unc5 (j3l)) (c,a,b,e,d)
def j1o [LP] (e:(List Int)) (d a:Int):Option Tn1:=
 (j1a e d a).bind fun c=>
 cond (c.1==(-1)) (
 some ((Int.ofNat (List.length c.2)),c.2)) (
 let g:=(w64 (c.1+1))
 (j2J d a c.1 g c.2).bind fun b=>
 cond (decide (0≤b.1)&&decide (b.1≤(Int.ofNat (List.length b.2)))) (
 let f:(List Int):=(List.take (Int.toNat b.1) b.2++List.replicate (List.length b.2-(Int.toNat b.1)) 0)
 cond (decide (0≤b.1)&&decide (b.1≤(Int.ofNat (List.length f)))) (
 some ((Int.ofNat (Int.toNat b.1)),f)) none) none)
def jcO (a:Int):Option (Int):=
 cond (decide (a≥4294967296)) (
 let m:Int:=(Int.fdiv a 4294967296)
 cond (decide (m≥65536)) (
 let l:Int:=(Int.fdiv m 65536)
 let b4:=(w64 (32+16))
 cond (decide (l≥256)) (
 let b7:Int:=(Int.fdiv l 256)
 let b6:=(w64 (b4+8))
 let b3:Int:=(IntKind.wrap .u8 b7)
 cond (inR b3 (ByteArray.size (ByteArray.mk #[0,1,2,2,3,3,3,3,4,4,4,4,4,4,4,4,5,5,5,5,5,5,5,5,5,5,5,5,5,5,5,5,6,6,6,6,6,6,6,6,6,6,6,6,6,6,6,6,6,6,6,6,6,6,6,6,6,6,6,6,6,6,6,6,7,7,7,7,7,7,7,7,7,7,7,7,7,7,7,7,7,7,7,7,7,7,7,7,7,7,7,7,7,7,7,7,7,7,7,7,7,7,7,7,7,7,7,7,7,7,7,7,7,7,7,7,7,7,7,7,7,7,7,7,7,7,7,7,8,8,8,8,8,8,8,8,8,8,8,8,8,8,8,8,8,8,8,8,8,8,8,8,8,8,8,8,8,8,8,8,8,8,8,8,8,8,8,8,8,8,8,8,8,8,8,8,8,8,8,8,8,8,8,8,8,8,8,8,8,8,8,8,8,8,8,8,8,8,8,8,8,8,8,8,8,8,8,8,8,8,8,8,8,8,8,8,8,8,8,8,8,8,8,8,8,8,8,8,8,8,8,8,8,8,8,8,8,8,8,8,8,8,8,8,8,8,8,8,8,8,8,8,8,8,8,8]))) (
 let b8:=(jft (ByteArray.mk #[0,1,2,2,3,3,3,3,4,4,4,4,4,4,4,4,5,5,5,5,5,5,5,5,5,5,5,5,5,5,5,5,6,6,6,6,6,6,6,6,6,6,6,6,6,6,6,6,6,6,6,6,6,6,6,6,6,6,6,6,6,6,6,6,7,7,7,7,7,7,7,7,7,7,7,7,7,7,7,7,7,7,7,7,7,7,7,7,7,7,7,7,7,7,7,7,7,7,7,7,7,7,7,7,7,7,7,7,7,7,7,7,7,7,7,7,7,7,7,7,7,7,7,7,7,7,7,7,8,8,8,8,8,8,8,8,8,8,8,8,8,8,8,8,8,8,8,8,8,8,8,8,8,8,8,8,8,8,8,8,8,8,8,8,8,8,8,8,8,8,8,8,8,8,8,8,8,8,8,8,8,8,8,8,8,8,8,8,8,8,8,8,8,8,8,8,8,8,8,8,8,8,8,8,8,8,8,8,8,8,8,8,8,8,8,8,8,8,8,8,8,8,8,8,8,8,8,8,8,8,8,8,8,8,8,8,8,8,8,8,8,8,8,8,8,8,8,8,8,8,8,8,8,8,8,8]) b3)
 let b9:=(w64 (b6+(w64 b8)))
 some b9) none) (
 let k:Int:=(IntKind.wrap .u8 l)
 cond (inR k (ByteArray.size (ByteArray.mk #[0,1,2,2,3,3,3,3,4,4,4,4,4,4,4,4,5,5,5,5,5,5,5,5,5,5,5,5,5,5,5,5,6,6,6,6,6,6,6,6,6,6,6,6,6,6,6,6,6,6,6,6,6,6,6,6,6,6,6,6,6,6,6,6,7,7,7,7,7,7,7,7,7,7,7,7,7,7,7,7,7,7,7,7,7,7,7,7,7,7,7,7,7,7,7,7,7,7,7,7,7,7,7,7,7,7,7,7,7,7,7,7,7,7,7,7,7,7,7,7,7,7,7,7,7,7,7,7,8,8,8,8,8,8,8,8,8,8,8,8,8,8,8,8,8,8,8,8,8,8,8,8,8,8,8,8,8,8,8,8,8,8,8,8,8,8,8,8,8,8,8,8,8,8,8,8,8,8,8,8,8,8,8,8,8,8,8,8,8,8,8,8,8,8,8,8,8,8,8,8,8,8,8,8,8,8,8,8,8,8,8,8,8,8,8,8,8,8,8,8,8,8,8,8,8,8,8,8,8,8,8,8,8,8,8,8,8,8,8,8,8,8,8,8,8,8,8,8,8,8,8,8,8,8,8,8]))) (
 let a9:=(jft (ByteArray.mk #[0,1,2,2,3,3,3,3,4,4,4,4,4,4,4,4,5,5,5,5,5,5,5,5,5,5,5,5,5,5,5,5,6,6,6,6,6,6,6,6,6,6,6,6,6,6,6,6,6,6,6,6,6,6,6,6,6,6,6,6,6,6,6,6,7,7,7,7,7,7,7,7,7,7,7,7,7,7,7,7,7,7,7,7,7,7,7,7,7,7,7,7,7,7,7,7,7,7,7,7,7,7,7,7,7,7,7,7,7,7,7,7,7,7,7,7,7,7,7,7,7,7,7,7,7,7,7,7,8,8,8,8,8,8,8,8,8,8,8,8,8,8,8,8,8,8,8,8,8,8,8,8,8,8,8,8,8,8,8,8,8,8,8,8,8,8,8,8,8,8,8,8,8,8,8,8,8,8,8,8,8,8,8,8,8,8,8,8,8,8,8,8,8,8,8,8,8,8,8,8,8,8,8,8,8,8,8,8,8,8,8,8,8,8,8,8,8,8,8,8,8,8,8,8,8,8,8,8,8,8,8,8,8,8,8,8,8,8,8,8,8,8,8,8,8,8,8,8,8,8,8,8,8,8,8,8]) k)
 let b5:=(w64 a9)
 let a2:=(w64 (b4+b5))
 some a2) none)) (
 cond (decide (m≥256)) (
 let p:Int:=(Int.fdiv m 256)
 let a0:=(w64 (32+8))
 let e:Int:=(IntKind.wrap .u8 p)
 cond (inR e (ByteArray.size (ByteArray.mk #[0,1,2,2,3,3,3,3,4,4,4,4,4,4,4,4,5,5,5,5,5,5,5,5,5,5,5,5,5,5,5,5,6,6,6,6,6,6,6,6,6,6,6,6,6,6,6,6,6,6,6,6,6,6,6,6,6,6,6,6,6,6,6,6,7,7,7,7,7,7,7,7,7,7,7,7,7,7,7,7,7,7,7,7,7,7,7,7,7,7,7,7,7,7,7,7,7,7,7,7,7,7,7,7,7,7,7,7,7,7,7,7,7,7,7,7,7,7,7,7,7,7,7,7,7,7,7,7,8,8,8,8,8,8,8,8,8,8,8,8,8,8,8,8,8,8,8,8,8,8,8,8,8,8,8,8,8,8,8,8,8,8,8,8,8,8,8,8,8,8,8,8,8,8,8,8,8,8,8,8,8,8,8,8,8,8,8,8,8,8,8,8,8,8,8,8,8,8,8,8,8,8,8,8,8,8,8,8,8,8,8,8,8,8,8,8,8,8,8,8,8,8,8,8,8,8,8,8,8,8,8,8,8,8,8,8,8,8,8,8,8,8,8,8,8,8,8,8,8,8,8,8,8,8,8,8]))) (
 let a1:=(jft (ByteArray.mk #[0,1,2,2,3,3,3,3,4,4,4,4,4,4,4,4,5,5,5,5,5,5,5,5,5,5,5,5,5,5,5,5,6,6,6,6,6,6,6,6,6,6,6,6,6,6,6,6,6,6,6,6,6,6,6,6,6,6,6,6,6,6,6,6,7,7,7,7,7,7,7,7,7,7,7,7,7,7,7,7,7,7,7,7,7,7,7,7,7,7,7,7,7,7,7,7,7,7,7,7,7,7,7,7,7,7,7,7,7,7,7,7,7,7,7,7,7,7,7,7,7,7,7,7,7,7,7,7,8,8,8,8,8,8,8,8,8,8,8,8,8,8,8,8,8,8,8,8,8,8,8,8,8,8,8,8,8,8,8,8,8,8,8,8,8,8,8,8,8,8,8,8,8,8,8,8,8,8,8,8,8,8,8,8,8,8,8,8,8,8,8,8,8,8,8,8,8,8,8,8,8,8,8,8,8,8,8,8,8,8,8,8,8,8,8,8,8,8,8,8,8,8,8,8,8,8,8,8,8,8,8,8,8,8,8,8,8,8,8,8,8,8,8,8,8,8,8,8,8,8,8,8,8,8,8,8]) e)
 let w:=(w64 a1)
 let v:=(w64 (a0+w))
 some v) none) (
 let c:Int:=(IntKind.wrap .u8 m)
 cond (inR c (ByteArray.size (ByteArray.mk #[0,1,2,2,3,3,3,3,4,4,4,4,4,4,4,4,5,5,5,5,5,5,5,5,5,5,5,5,5,5,5,5,6,6,6,6,6,6,6,6,6,6,6,6,6,6,6,6,6,6,6,6,6,6,6,6,6,6,6,6,6,6,6,6,7,7,7,7,7,7,7,7,7,7,7,7,7,7,7,7,7,7,7,7,7,7,7,7,7,7,7,7,7,7,7,7,7,7,7,7,7,7,7,7,7,7,7,7,7,7,7,7,7,7,7,7,7,7,7,7,7,7,7,7,7,7,7,7,8,8,8,8,8,8,8,8,8,8,8,8,8,8,8,8,8,8,8,8,8,8,8,8,8,8,8,8,8,8,8,8,8,8,8,8,8,8,8,8,8,8,8,8,8,8,8,8,8,8,8,8,8,8,8,8,8,8,8,8,8,8,8,8,8,8,8,8,8,8,8,8,8,8,8,8,8,8,8,8,8,8,8,8,8,8,8,8,8,8,8,8,8,8,8,8,8,8,8,8,8,8,8,8,8,8,8,8,8,8,8,8,8,8,8,8,8,8,8,8,8,8,8,8,8,8,8,8]))) (
 let y:=(jft (ByteArray.mk #[0,1,2,2,3,3,3,3,4,4,4,4,4,4,4,4,5,5,5,5,5,5,5,5,5,5,5,5,5,5,5,5,6,6,6,6,6,6,6,6,6,6,6,6,6,6,6,6,6,6,6,6,6,6,6,6,6,6,6,6,6,6,6,6,7,7,7,7,7,7,7,7,7,7,7,7,7,7,7,7,7,7,7,7,7,7,7,7,7,7,7,7,7,7,7,7,7,7,7,7,7,7,7,7,7,7,7,7,7,7,7,7,7,7,7,7,7,7,7,7,7,7,7,7,7,7,7,7,8,8,8,8,8,8,8,8,8,8,8,8,8,8,8,8,8,8,8,8,8,8,8,8,8,8,8,8,8,8,8,8,8,8,8,8,8,8,8,8,8,8,8,8,8,8,8,8,8,8,8,8,8,8,8,8,8,8,8,8,8,8,8,8,8,8,8,8,8,8,8,8,8,8,8,8,8,8,8,8,8,8,8,8,8,8,8,8,8,8,8,8,8,8,8,8,8,8,8,8,8,8,8,8,8,8,8,8,8,8,8,8,8,8,8,8,8,8,8,8,8,8,8,8,8,8,8,8]) c)
 let a6:=(w64 y)
 let t:=(w64 (32+a6))
 some t) none))) (
 cond (decide (a≥65536)) (
 let b:Int:=(Int.fdiv a 65536)
 let j:=(w64 (0+16))
 cond (decide (b≥256)) (
 let x:Int:=(Int.fdiv b 256)
 let b0:=(w64 (j+8))
 let f:Int:=(IntKind.wrap .u8 x)
 cond (inR f (ByteArray.size (ByteArray.mk #[0,1,2,2,3,3,3,3,4,4,4,4,4,4,4,4,5,5,5,5,5,5,5,5,5,5,5,5,5,5,5,5,6,6,6,6,6,6,6,6,6,6,6,6,6,6,6,6,6,6,6,6,6,6,6,6,6,6,6,6,6,6,6,6,7,7,7,7,7,7,7,7,7,7,7,7,7,7,7,7,7,7,7,7,7,7,7,7,7,7,7,7,7,7,7,7,7,7,7,7,7,7,7,7,7,7,7,7,7,7,7,7,7,7,7,7,7,7,7,7,7,7,7,7,7,7,7,7,8,8,8,8,8,8,8,8,8,8,8,8,8,8,8,8,8,8,8,8,8,8,8,8,8,8,8,8,8,8,8,8,8,8,8,8,8,8,8,8,8,8,8,8,8,8,8,8,8,8,8,8,8,8,8,8,8,8,8,8,8,8,8,8,8,8,8,8,8,8,8,8,8,8,8,8,8,8,8,8,8,8,8,8,8,8,8,8,8,8,8,8,8,8,8,8,8,8,8,8,8,8,8,8,8,8,8,8,8,8,8,8,8,8,8,8,8,8,8,8,8,8,8,8,8,8,8,8]))) (
 let s:=(jft (ByteArray.mk #[0,1,2,2,3,3,3,3,4,4,4,4,4,4,4,4,5,5,5,5,5,5,5,5,5,5,5,5,5,5,5,5,6,6,6,6,6,6,6,6,6,6,6,6,6,6,6,6,6,6,6,6,6,6,6,6,6,6,6,6,6,6,6,6,7,7,7,7,7,7,7,7,7,7,7,7,7,7,7,7,7,7,7,7,7,7,7,7,7,7,7,7,7,7,7,7,7,7,7,7,7,7,7,7,7,7,7,7,7,7,7,7,7,7,7,7,7,7,7,7,7,7,7,7,7,7,7,7,8,8,8,8,8,8,8,8,8,8,8,8,8,8,8,8,8,8,8,8,8,8,8,8,8,8,8,8,8,8,8,8,8,8,8,8,8,8,8,8,8,8,8,8,8,8,8,8,8,8,8,8,8,8,8,8,8,8,8,8,8,8,8,8,8,8,8,8,8,8,8,8,8,8,8,8,8,8,8,8,8,8,8,8,8,8,8,8,8,8,8,8,8,8,8,8,8,8,8,8,8,8,8,8,8,8,8,8,8,8,8,8,8,8,8,8,8,8,8,8,8,8,8,8,8,8,8,8]) f)
 let z:=(w64 s)
 let r:=(w64 (b0+z))
 some r) none) (
 let d:Int:=(IntKind.wrap .u8 b)
 cond (inR d (ByteArray.size (ByteArray.mk #[0,1,2,2,3,3,3,3,4,4,4,4,4,4,4,4,5,5,5,5,5,5,5,5,5,5,5,5,5,5,5,5,6,6,6,6,6,6,6,6,6,6,6,6,6,6,6,6,6,6,6,6,6,6,6,6,6,6,6,6,6,6,6,6,7,7,7,7,7,7,7,7,7,7,7,7,7,7,7,7,7,7,7,7,7,7,7,7,7,7,7,7,7,7,7,7,7,7,7,7,7,7,7,7,7,7,7,7,7,7,7,7,7,7,7,7,7,7,7,7,7,7,7,7,7,7,7,7,8,8,8,8,8,8,8,8,8,8,8,8,8,8,8,8,8,8,8,8,8,8,8,8,8,8,8,8,8,8,8,8,8,8,8,8,8,8,8,8,8,8,8,8,8,8,8,8,8,8,8,8,8,8,8,8,8,8,8,8,8,8,8,8,8,8,8,8,8,8,8,8,8,8,8,8,8,8,8,8,8,8,8,8,8,8,8,8,8,8,8,8,8,8,8,8,8,8,8,8,8,8,8,8,8,8,8,8,8,8,8,8,8,8,8,8,8,8,8,8,8,8,8,8,8,8,8,8]))) (
 let b1:=(jft (ByteArray.mk #[0,1,2,2,3,3,3,3,4,4,4,4,4,4,4,4,5,5,5,5,5,5,5,5,5,5,5,5,5,5,5,5,6,6,6,6,6,6,6,6,6,6,6,6,6,6,6,6,6,6,6,6,6,6,6,6,6,6,6,6,6,6,6,6,7,7,7,7,7,7,7,7,7,7,7,7,7,7,7,7,7,7,7,7,7,7,7,7,7,7,7,7,7,7,7,7,7,7,7,7,7,7,7,7,7,7,7,7,7,7,7,7,7,7,7,7,7,7,7,7,7,7,7,7,7,7,7,7,8,8,8,8,8,8,8,8,8,8,8,8,8,8,8,8,8,8,8,8,8,8,8,8,8,8,8,8,8,8,8,8,8,8,8,8,8,8,8,8,8,8,8,8,8,8,8,8,8,8,8,8,8,8,8,8,8,8,8,8,8,8,8,8,8,8,8,8,8,8,8,8,8,8,8,8,8,8,8,8,8,8,8,8,8,8,8,8,8,8,8,8,8,8,8,8,8,8,8,8,8,8,8,8,8,8,8,8,8,8,8,8,8,8,8,8,8,8,8,8,8,8,8,8,8,8,8,8]) d)
 let n:=(w64 b1)
 let o:=(w64 (j+n))
 some o) none)) (
 cond (decide (a≥256)) (
 let a5:Int:=(Int.fdiv a 256)
 let u:=(w64 (0+8))
 let i:Int:=(IntKind.wrap .u8 a5)
 cond (inR i (ByteArray.size (ByteArray.mk #[0,1,2,2,3,3,3,3,4,4,4,4,4,4,4,4,5,5,5,5,5,5,5,5,5,5,5,5,5,5,5,5,6,6,6,6,6,6,6,6,6,6,6,6,6,6,6,6,6,6,6,6,6,6,6,6,6,6,6,6,6,6,6,6,7,7,7,7,7,7,7,7,7,7,7,7,7,7,7,7,7,7,7,7,7,7,7,7,7,7,7,7,7,7,7,7,7,7,7,7,7,7,7,7,7,7,7,7,7,7,7,7,7,7,7,7,7,7,7,7,7,7,7,7,7,7,7,7,8,8,8,8,8,8,8,8,8,8,8,8,8,8,8,8,8,8,8,8,8,8,8,8,8,8,8,8,8,8,8,8,8,8,8,8,8,8,8,8,8,8,8,8,8,8,8,8,8,8,8,8,8,8,8,8,8,8,8,8,8,8,8,8,8,8,8,8,8,8,8,8,8,8,8,8,8,8,8,8,8,8,8,8,8,8,8,8,8,8,8,8,8,8,8,8,8,8,8,8,8,8,8,8,8,8,8,8,8,8,8,8,8,8,8,8,8,8,8,8,8,8,8,8,8,8,8,8]))) (
 let a3:=(jft (ByteArray.mk #[0,1,2,2,3,3,3,3,4,4,4,4,4,4,4,4,5,5,5,5,5,5,5,5,5,5,5,5,5,5,5,5,6,6,6,6,6,6,6,6,6,6,6,6,6,6,6,6,6,6,6,6,6,6,6,6,6,6,6,6,6,6,6,6,7,7,7,7,7,7,7,7,7,7,7,7,7,7,7,7,7,7,7,7,7,7,7,7,7,7,7,7,7,7,7,7,7,7,7,7,7,7,7,7,7,7,7,7,7,7,7,7,7,7,7,7,7,7,7,7,7,7,7,7,7,7,7,7,8,8,8,8,8,8,8,8,8,8,8,8,8,8,8,8,8,8,8,8,8,8,8,8,8,8,8,8,8,8,8,8,8,8,8,8,8,8,8,8,8,8,8,8,8,8,8,8,8,8,8,8,8,8,8,8,8,8,8,8,8,8,8,8,8,8,8,8,8,8,8,8,8,8,8,8,8,8,8,8,8,8,8,8,8,8,8,8,8,8,8,8,8,8,8,8,8,8,8,8,8,8,8,8,8,8,8,8,8,8,8,8,8,8,8,8,8,8,8,8,8,8,8,8,8,8,8,8]) i)
 let b2:=(w64 a3)
 let q:=(w64 (u+b2))
 some q) none) (
 let g:Int:=(IntKind.wrap .u8 a)
 cond (inR g (ByteArray.size (ByteArray.mk #[0,1,2,2,3,3,3,3,4,4,4,4,4,4,4,4,5,5,5,5,5,5,5,5,5,5,5,5,5,5,5,5,6,6,6,6,6,6,6,6,6,6,6,6,6,6,6,6,6,6,6,6,6,6,6,6,6,6,6,6,6,6,6,6,7,7,7,7,7,7,7,7,7,7,7,7,7,7,7,7,7,7,7,7,7,7,7,7,7,7,7,7,7,7,7,7,7,7,7,7,7,7,7,7,7,7,7,7,7,7,7,7,7,7,7,7,7,7,7,7,7,7,7,7,7,7,7,7,8,8,8,8,8,8,8,8,8,8,8,8,8,8,8,8,8,8,8,8,8,8,8,8,8,8,8,8,8,8,8,8,8,8,8,8,8,8,8,8,8,8,8,8,8,8,8,8,8,8,8,8,8,8,8,8,8,8,8,8,8,8,8,8,8,8,8,8,8,8,8,8,8,8,8,8,8,8,8,8,8,8,8,8,8,8,8,8,8,8,8,8,8,8,8,8,8,8,8,8,8,8,8,8,8,8,8,8,8,8,8,8,8,8,8,8,8,8,8,8,8,8,8,8,8,8,8,8]))) (
 let a8:=(jft (ByteArray.mk #[0,1,2,2,3,3,3,3,4,4,4,4,4,4,4,4,5,5,5,5,5,5,5,5,5,5,5,5,5,5,5,5,6,6,6,6,6,6,6,6,6,6,6,6,6,6,6,6,6,6,6,6,6,6,6,6,6,6,6,6,6,6,6,6,7,7,7,7,7,7,7,7,7,7,7,7,7,7,7,7,7,7,7,7,7,7,7,7,7,7,7,7,7,7,7,7,7,7,7,7,7,7,7,7,7,7,7,7,7,7,7,7,7,7,7,7,7,7,7,7,7,7,7,7,7,7,7,7,8,8,8,8,8,8,8,8,8,8,8,8,8,8,8,8,8,8,8,8,8,8,8,8,8,8,8,8,8,8,8,8,8,8,8,8,8,8,8,8,8,8,8,8,8,8,8,8,8,8,8,8,8,8,8,8,8,8,8,8,8,8,8,8,8,8,8,8,8,8,8,8,8,8,8,8,8,8,8,8,8,8,8,8,8,8,8,8,8,8,8,8,8,8,8,8,8,8,8,8,8,8,8,8,8,8,8,8,8,8,8,8,8,8,8,8,8,8,8,8,8,8,8,8,8,8,8,8]) g)
 let a4:=(w64 a8)
 let a7:=(w64 (0+a4))
 some a7) none)))
def jeR (a:Int):Option (Int):=
 (jcO a).bind fun b=>
 some b
def jbw (a:Int):Option (Bool):=
 some (a != a)
def jcP (b a:Int):Option (Bool):=
 (jbw b).bind fun d=>
 cond d (
 (jbw a).bind fun c=>
 some (cond (!c) true (decide (b<a)))) (
 some (decide (b<a)))
def j2h (g p q b:Int) (a:(List Int)):Option ((Int×Int×Int×Int×(List Int)) ⊕ ((Int×Int×Int×(List Int)))):=
 cond (decide (b>g)) (
 cond (inR b (List.length a)) (
 let k:=(List.getD a (Int.toNat b) 0)
 let e:=(w64 (b-1))
 cond (inR e (List.length a)) (
 let m:=(List.getD a (Int.toNat e) 0)
 (jcP k m).bind fun i=>
 cond i (
 let c:=(w64 (b-1))
 let f:=(w64 (b-1))
 cond (inR f (List.length a)) (
 let j:=(List.getD a (Int.toNat f) 0)
 cond (inR b (List.length a)) (
 let n:=(List.getD a (Int.toNat b) 0)
 cond (inR b (List.length a)) (
 let d:(List Int):=(List.set a (Int.toNat b) j)
 cond (inR c (List.length d)) (
 let l:(List Int):=(List.set d (Int.toNat c) n)
 let o:=(w64 (b-1))
 some (.inl (g,p,q,o,l))) none) none) none) none) (
 some (.inr (g,p,q,a)))) none) none) (
 some (.inr (g,p,q,a)))
def j1H [LP] (a b e c:Int) (d:(List Int)):Option ((Int×Int×Int×(List Int))):=
 LP.lp (unc5 (j2h)) (a,b,e,c,d)
def j0l [LP] (f d c:Int) (e:(List Int)):Option ((Int×Int×Int×(List Int)) ⊕ ((List Int))):=
 cond (decide (c<d)) (
 (j1H f d c c e).bind fun a=>
 let b:=(w64 (a.2.2.1+1))
 some (.inl (a.1,a.2.1,b,a.2.2.2))) (
 some (.inr e))
def j1I [LP] (b a d:Int) (c:(List Int)):Option ((List Int)):=
 LP.lp (unc4 (j0l)) (b,a,d,c)
def j0N [LP] (a:(List Int)) (b c:Int):Option ((List Int)):=
 let d:=(w64 (b+1))
 (j1I b c d a).bind fun e=>
 some e
def j0B [LP] (c d e:Int) (g i:Bool) (f:(List Int)):Option ((Int×Int×Int×Bool×Bool×(List Int)) ⊕ ((List Int))):=
 let a:=(w64 (d-c))
 cond (decide (a≤12)) (
 (j0N f c d).bind fun b=>
 some (.inr b)) (
 cond (e==0) (
 none) (
 cond (!g) (
 none) (
 none)))
def j2K [LP] (b c a:Int) (f d:Bool) (e:(List Int)):Option ((List Int)):=
 LP.lp (unc6 (j0B)) (b,c,a,f,d,e)
def j1p [LP] (b:(List Int)) (d c a:Int):Option ((List Int)):=
 (j2K d c a true true b).bind fun e=>
 some e
def j2Z [LP] (a:(List Int)):Option ((List Int)):=
 let c:=(Int.ofNat (List.length a))
 let e:Int:=(IntKind.wrap .u64 c)
 (jeR e).bind fun d=>
 (j1p a 0 c d).bind fun b=>
 some b
def j43 (e b c:Int) (a:(List Int)):Option ((Int×Int×Int×(List Int)) ⊕ (Tn1)):=
 let f:=(Int.ofNat (List.length a-(Int.toNat b)))
 cond (decide (c<f)) (
 cond (inR c (List.length a-(Int.toNat b))) (
 let j:=(List.getD a ((Int.toNat b)+(Int.toNat c)) 0)
 let d:=(w64 (c-1))
 cond (inR d (List.length a-(Int.toNat b))) (
 let g:=(List.getD a ((Int.toNat b)+(Int.toNat d)) 0)
 cond (j != g) (
 cond (inR c (List.length a-(Int.toNat b))) (
 let l:=(List.getD a ((Int.toNat b)+(Int.toNat c)) 0)
 cond (inR e (List.length a)) (
 let n:(List Int):=(List.set a (Int.toNat e) l)
 let m:=(w64 (e+1))
 let i:=(w64 (c+1))
 some (.inl (m,(Int.ofNat (Int.toNat b)),i,n))) none) none) (
 let k:=(w64 (c+1))
 some (.inl (e,(Int.ofNat (Int.toNat b)),k,a)))) none) none) (
 some (.inr (e,a)))
def j3z [LP] (a d b:Int) (c:(List Int)):Option (Tn1):=
 LP.lp (unc4 (j43)) (a,d,b,c)
def j0U [LP] (b:Int) (c:(List Int)):Option (Tn1 ⊕ (Tn1 ⊕ (List Int))):=
 let f:=(Int.ofNat (List.length c))
 cond (decide (b<f)) (
 cond (inR b (List.length c)) (
 let i:=(List.getD c (Int.toNat b) 0)
 let d:=(w64 (b-1))
 cond (inR d (List.length c)) (
 let g:=(List.getD c (Int.toNat d) 0)
 cond (i==g) (
 cond (decide (0≤b)&&decide (b≤(Int.ofNat (List.length c)))) (
 (j3z b (Int.ofNat (Int.toNat b)) 1 c).bind fun a=>
 cond (decide (0≤a.1)&&decide (a.1≤(Int.ofNat (List.length a.2)))) (
 let e:(List Int):=(List.take (Int.toNat a.1) a.2++List.replicate (List.length a.2-(Int.toNat a.1)) 0)
 cond (decide (0≤a.1)&&decide (a.1≤(Int.ofNat (List.length e)))) (
 some (.inr (.inl ((Int.ofNat (Int.toNat a.1)),e)))) none) none) none) (
 let j:=(w64 (b+1))
 some (.inl (j,c)))) none) none) (
 some (.inr (.inr c)))
def j3A [LP] (a:Int) (b:(List Int)):Option (Tn1 ⊕ (List Int)):=
 LP.lp (unc2 (j0U)) (a,b)
def j20 [LP] (a:(List Int)):Option Tn1:=
 let b:=(Int.ofNat (List.length a))
 cond (decide (b<2)) (
 some ((Int.ofNat (List.length a)),a)) (
 (j3A 1 a).bind fun c=>
 sumC c (fun d=>
 some ((Int.ofNat (Int.toNat d.1)),d.2)) (fun e=>
 some ((Int.ofNat (List.length e)),e)))
def jb1 [LP] (f:(List Int)) (b a:Int):Option ((List Int)):=
 (j8p f).bind fun k=>
 (j1o k b a).bind fun c=>
 let g:(List Int):=(List.take (Int.toNat c.1) c.2)
 (j2Z g).bind fun i=>
 (j20 i).bind fun e=>
 let d:(List Int):=(List.take (Int.toNat e.1) e.2)
 cond (decide (List.length d+List.length [a]≤j0n)) (
 let j:(List Int):=(d++[a])
 some j) none
def j30 (a:Tn62):Option (Tn62):=
 some a
def jfL (a:Tn61):Option (Int):=
 cond (a.2.2.2.1==2) (
 let b:=(w64 (7*a.2.2.2.2.1))
 some b) (
 some a.2.2.2.2.1)
def j95 (a e:Int) (b:Tn2) (d:Int):Option (Bool):=
 cond (inR a (List.length b)) (
 let c:=(List.getD b (Int.toNat a) (0,0))
 some (decide (c.1>d))) none
def j96 (k:Int) (a:Tn2) (b d l:Int):Option ((Int×Tn2×Int×Int×Int) ⊕ (Int)):=
 cond (decide (d<l)) (
 let i:=(w64 (d+l))
 let j:Int:=(IntKind.wrap .u64 i)
 let e:Int:=(Int.fdiv j 2)
 let c:=(w64 e)
 (j95 c k a b).bind fun g=>
 cond (!g) (
 let f:=(w64 (c+1))
 some (.inl (k,a,b,f,l))) (
 some (.inl (k,a,b,d,c)))) (
 some (.inr d))
def jan [LP] (d:Int) (a:Tn2) (b c e:Int):Option (Int):=
 LP.lp (unc5 (j96)) (d,a,b,c,e)
def j97 [LP] (d c:Int) (a:Tn2) (b:Int):Option (Int):=
 (jan c a b 0 d).bind fun e=>
 some e
def j3f [LP] (a:Tn14) (b:Int):Option (Int):=
 let c:=(Int.ofNat (List.length a.2))
 (j97 c a.1 a.2 b).bind fun d=>
 some d
def j4W (a:Tn14) (b:Int):Option (Int):=
 cond (b==0) (
 some a.1) (
 let c:=(w64 (b-1))
 cond (inR c (List.length a.2)) (
 let d:=(List.getD a.2 (Int.toNat c) (0,0))
 some d.2) none)
def j1q [LP] (k c i:Int) (a:Tn2) (j:Tn15):Option ((Int×Int×Int×Tn2×Tn15) ⊕ (Tn15)):=
 cond (decide (k<c)) (
 (j3f (i,a) k).bind fun b=>
 let o:=(Int.ofNat (List.length a))
 cond (decide (b<o)) (
 cond (inR b (List.length a)) (
 let f:=(List.getD a (Int.toNat b) (0,0))
 let g:Int:=(if f.1<c then f.1 else c:Int)
 (j4W (i,a) b).bind fun p=>
 let d:Tn15:=[(k,(g,p))]
 cond (decide (List.length j+List.length d≤j0n)) (
 let n:Tn15:=(j++d)
 some (.inl (g,c,i,a,n))) none) none) (
 (j4W (i,a) b).bind fun m=>
 let e:Tn15:=[(k,(c,m))]
 cond (decide (List.length j+List.length e≤j0n)) (
 let l:Tn15:=(j++e)
 some (.inl (c,c,i,a,l))) none)) (
 some (.inr j))
def j5b [LP] (b d c:Int) (a:Tn2) (e:Tn15):Option (Tn15):=
 LP.lp (unc5 (j1q)) (b,d,c,a,e)
def j23 [LP] (b:Tn14) (a c:Int):Option (Tn15):=
 (j5b a c b.1 b.2 ([]:Tn15)).bind fun d=>
 some d
def jg8 (a:(Int×Int)):Option (Int):=
 let b:Int:=(if (-1048576)>a.1 then (-1048576) else a.1:Int)
 let e:Int:=(if 1048576<b then 1048576 else b:Int)
 let d:=(w64 (e*86400))
 let c:=(w64 (d+a.2))
 some c
def j6c (l a m f:Int) (b:Tn15):Option ((Int×Int×Int×Int×Tn15) ⊕ ((Int×Bool) ⊕ Unit)):=
 cond (decide (a<l)) (
 cond (inR a (List.length b)) (
 let e:=(List.getD b (Int.toNat a) (0,(0,0))).1
 let k:=(List.getD b (Int.toNat a) (0,(0,0))).2.1
 let g:=(List.getD b (Int.toNat a) (0,(0,0))).2.2
 (jg8 (m,f)).bind fun j=>
 let c:=(w64 (j-g))
 let d:Int:=(if c>e then c else e:Int)
 cond (decide (d<k)) (
 some (.inr (.inl (d,true)))) (
 let i:=(w64 (a+1))
 some (.inl (l,i,m,f,b)))) none) (
 some (.inr (.inr ())))
def j5W [LP] (b d e a:Int) (c:Tn15):Option ((Int×Bool) ⊕ Unit):=
 LP.lp (unc5 (j6c)) (b,d,e,a,c)
def j3g [LP] (b:Tn14) (a:(Int×Int)):Option (Int×Bool):=
 (j23 (b.1,b.2) 0 8589934593).bind fun c=>
 let d:=(Int.ofNat (List.length c))
 (j5W d 0 a.1 a.2 c).bind fun e=>
 sumC e (fun f=>
 some (f.1,f.2)) (fun g=>
 some (0,false))
def j1s [LP] (b:Tn14) (a:Tn61) (c:Int):Option (Int×Bool):=
 cond (decide (c>8589934592)) (
 some (0,false)) (
 cond (a.2.2.2.1 != 0) (
 (jfL (a.1,(a.2.1,((a.2.2.1.1,a.2.2.1.2),(a.2.2.2.1,(a.2.2.2.2.1,(a.2.2.2.2.2.1,(a.2.2.2.2.2.2.1,(a.2.2.2.2.2.2.2.1,a.2.2.2.2.2.2.2.2))))))))).bind fun l=>
 let i:=(w64 (c*l))
 let k:=(w64 (a.2.2.1.1+i))
 (j3g (b.1,b.2) (k,a.2.2.1.2)).bind fun d=>
 some (d.1,d.2)) (
 (j3g (b.1,b.2) (a.2.2.1.1,a.2.2.1.2)).bind fun e=>
 let j:=(w64 (3600*a.2.2.2.2.1))
 let g:=(w64 (j*c))
 let f:=(w64 (e.1+g))
 some (f,(cond e.2 (decide (f≤8589934592)) false))))
def j44 (a:Tn2):Option (Tn2):=
 cond (decide (List.length ([]:List ((Int×Int)))+List.length a≤j0n)) (
 some (([]:List ((Int×Int)))++a)) none
def jbx (a:(Int×Int)):Option (Bool):=
 some (decide (a.2≤a.1))
def j1W (g b:Int) (a:Tn2):Option ((Int×Int×Tn2) ⊕ (Tn14 ⊕ Tn2)):=
 cond (decide (b<g)) (
 cond (inR b (List.length a)) (
 let d:=(List.getD a (Int.toNat b) (0,0)).1
 let f:=(List.getD a (Int.toNat b) (0,0)).2
 (jbx (d,f)).bind fun e=>
 cond e (
 some (.inr (.inl (b,a)))) (
 let c:=(w64 (b+1))
 some (.inl (g,c,a)))) none) (
 some (.inr (.inr a)))
def j1n [LP] (a c:Int) (b:Tn2):Option (Tn14 ⊕ Tn2):=
 LP.lp (unc3 (j1W)) (a,c,b)
def j0z [LP] (a:Tn2):Option Tn14:=
 let b:=(Int.ofNat (List.length a))
 (j1n b 0 a).bind fun c=>
 sumC c (fun d=>
 some (d.1,d.2)) (fun e=>
 some ((-1),e))
def j1P (e d:Int) (a:Tn2):Option ((Int×Int×Tn2) ⊕ (Tn14)):=
 let i:=(Int.ofNat (List.length a))
 cond (decide (d<i)) (
 cond (inR d (List.length a)) (
 let b:=(List.getD a (Int.toNat d) (0,0)).1
 let c:=(List.getD a (Int.toNat d) (0,0)).2
 (jbx (b,c)).bind fun j=>
 cond (!j) (
 cond (inR e (List.length a)) (
 let l:Tn2:=(List.set a (Int.toNat e) (b,c))
 let g:=(w64 (e+1))
 let f:=(w64 (d+1))
 some (.inl (g,f,l))) none) (
 let k:=(w64 (d+1))
 some (.inl (e,k,a)))) none) (
 some (.inr (e,a)))
def j1h [LP] (b a:Int) (c:Tn2):Option (Tn14):=
 LP.lp (unc3 (j1P)) (b,a,c)
def j0t [LP] (c:Tn2):Option Tn14:=
 (j0z c).bind fun b=>
 cond (b.1==(-1)) (
 some ((Int.ofNat (List.length b.2)),b.2)) (
 let e:=(w64 (b.1+1))
 (j1h b.1 e b.2).bind fun a=>
 cond (decide (0≤a.1)&&decide (a.1≤(Int.ofNat (List.length a.2)))) (
 let d:Tn2:=(List.take (Int.toNat a.1) a.2++List.replicate (List.length a.2-(Int.toNat a.1)) (0,0))
 cond (decide (0≤a.1)&&decide (a.1≤(Int.ofNat (List.length d)))) (
 some ((Int.ofNat (Int.toNat a.1)),d)) none) none)
def j8B (b a:(Int×Int)):Option (Int):=
 let c:=(w64 (b.1-a.1))
 some c
def j1f (a:Tn2):Option (Tn2):=
 jlv ((.pair (.int .i64) (.int .i64))) (fun c b=>(j8B c b).getD 0) a
def jad (l d:Int) (a e:Tn2):Option ((Int×Int×Tn2×Tn2) ⊕ (Tn2)):=
 cond (decide (d<l)) (
 cond (inR d (List.length e)) (
 let g:=(List.getD e (Int.toNat d) (0,0)).1
 let c:=(List.getD e (Int.toNat d) (0,0)).2
 let b:=(Int.ofNat (List.length a))
 cond (decide (b>0)) (
 let m:=(w64 (b-1))
 cond (inR m (List.length a)) (
 let o:=(List.getD a (Int.toNat m) (0,0)).2
 cond (decide (g≤o)) (
 let f:=(w64 (b-1))
 let j:=(w64 (b-1))
 cond (inR j (List.length a)) (
 let i:=(List.getD a (Int.toNat j) (0,0)).2
 let s:Int:=(if c>i then c else i:Int)
 cond (inR f (List.length a)) (
 let q:Tn2:=(List.set a (Int.toNat f) ((List.getD a (Int.toNat f) (0,0)).1,s))
 let r:=(w64 (d+1))
 some (.inl (l,r,q,e))) none) none) (
 let k:Tn2:=[(g,c)]
 cond (decide (List.length a+List.length k≤j0n)) (
 let u:Tn2:=(a++k)
 let p:=(w64 (d+1))
 some (.inl (l,p,u,e))) none)) none) (
 let n:Tn2:=[(g,c)]
 cond (decide (List.length a+List.length n≤j0n)) (
 let t:Tn2:=(a++n)
 let v:=(w64 (d+1))
 some (.inl (l,v,t,e))) none)) none) (
 some (.inr a))
def jby [LP] (a b:Int) (d c:Tn2):Option (Tn2):=
 LP.lp (unc4 (jad)) (a,b,d,c)
def j4w [LP] (c:Tn2):Option (Tn2):=
 (j44 c).bind fun f=>
 (j0t f).bind fun b=>
 let e:Tn2:=(List.take (Int.toNat b.1) b.2)
 (j1f e).bind fun a=>
 let d:=(Int.ofNat (List.length a))
 (jby d 0 ([]:Tn2) a).bind fun g=>
 some g
def j8q (u:Tn2) (j s r:Int) (k:Tn2) (p i b a c:Int) (t:Tn2) (q:Tn15):Option ((Tn2×Int×Int×Int×Tn2×Int×Int×Int×Int×Int×Tn2×Tn15) ⊕ ((Tn2×Int×Int×Int×Int×Int×Int×Tn2×Tn15))):=
 cond (decide (i<p)) (
 cond (inR i (List.length k)) (
 let f:=(List.getD k (Int.toNat i) (0,0))
 let d:=(w64 (j+f.1))
 let l:Int:=(if d>b then d else b:Int)
 let g:=(w64 (j+f.2))
 let m:Int:=(if g<a then g else a:Int)
 let e:Tn2:=[(l,m)]
 cond (decide (List.length t+List.length e≤j0n)) (
 let n:Tn2:=(t++e)
 let o:=(w64 (i+1))
 some (.inl (u,j,s,r,k,p,o,b,a,c,n,q))) none) none) (
 some (.inr (u,j,s,r,b,a,c,t,q)))
def j98 [LP] (l:Tn2) (i g f:Int) (d:Tn2) (c k j b a:Int) (m:Tn2) (e:Tn15):Option ((Tn2×Int×Int×Int×Int×Int×Int×Tn2×Tn15)):=
 LP.lp (jpB (j8q)) (l,i,g,f,d,c,k,j,b,a,m,e)
def j2B [LP] (c:Tn2) (k j i m b d:Int) (l:Tn2) (g:Tn15):Option ((Tn2×Int×Int×Int×Int×Int×Int×Tn2×Tn15) ⊕ ((Tn2×Int×Int×Tn2×Tn15))):=
 cond (decide (k<b)) (
 let f:=(Int.ofNat (List.length c))
 (j98 c k j i c f 0 m b d l g).bind fun a=>
 let e:=(w64 (a.2.1+604800))
 some (.inl (a.1,e,a.2.2.1,a.2.2.2.1,a.2.2.2.2.1,a.2.2.2.2.2.1,a.2.2.2.2.2.2.1,a.2.2.2.2.2.2.2.1,a.2.2.2.2.2.2.2.2))) (
 some (.inr (c,j,i,l,g)))
def j99 [LP] (i:Tn2) (f e d g b a:Int) (j:Tn2) (c:Tn15):Option ((Tn2×Int×Int×Tn2×Tn15)):=
 LP.lp (unc9 (j2B)) (i,f,e,d,g,b,a,j,c)
def j2C [LP] (q:Tn2) (o b:Int) (p:Tn2) (d:Tn15):Option ((Tn2×Int×Int×Tn2×Tn15) ⊕ (Tn2)):=
 cond (decide (b<o)) (
 cond (inR b (List.length d)) (
 let f:=(List.getD d (Int.toNat b) (0,(0,0))).1
 let i:=(List.getD d (Int.toNat b) (0,(0,0))).2.1
 let c:=(List.getD d (Int.toNat b) (0,(0,0))).2.2
 let n:=(w64 (f+c))
 let e:=(w64 (n-(-259200)))
 let j:=(Int.tmod e 604800)
 let l:=(w64 (e-j))
 let k:=(w64 (l+(-259200)))
 let m:=(w64 (k-c))
 (j99 q m o b f i c p d).bind fun a=>
 let g:=(w64 (a.2.2.1+1))
 some (.inl (a.1,a.2.1,g,a.2.2.2.1,a.2.2.2.2))) none) (
 some (.inr p))
def j9a [LP] (d:Tn2) (c b:Int) (e:Tn2) (a:Tn15):Option (Tn2):=
 LP.lp (unc5 (j2C)) (d,c,b,e,a)
def j3m [LP] (b:Tn14) (e:Tn2) (a c:Int):Option (Tn2):=
 (j23 (b.1,b.2) a c).bind fun d=>
 let f:=(Int.ofNat (List.length d))
 (j9a e f 0 ([]:Tn2) d).bind fun i=>
 (j4w i).bind fun g=>
 some g
def j6W (s r:Int) (j:(List Int)) (u f:Int) (w:ByteArray) (i:Int) (k:(List Int)) (g b c:Int) (v:Tn2) (t:Tn15):Option ((Int×Int×(List Int)×Int×Int×ByteArray×Int×(List Int)×Int×Int×Int×Tn2×Tn15) ⊕ ((Int×Int×ByteArray×Int×(List Int)×Tn2×Tn15))):=
 cond (decide (f<u)) (
 cond (inR f (List.length j)) (
 let o:=(List.getD j (Int.toNat f) 0)
 let n:=(w64 (o*86400))
 let a:=(w64 (n-c))
 let p:Int:=(if a>g then a else g:Int)
 let e:=(w64 (a+86400))
 let q:Int:=(if e<b then e else b:Int)
 let d:Tn2:=[(p,q)]
 cond (decide (List.length v+List.length d≤j0n)) (
 let m:Tn2:=(v++d)
 let l:=(w64 (f+1))
 some (.inl (s,r,j,u,l,w,i,k,g,b,c,m,t))) none) none) (
 some (.inr (s,r,w,i,k,v,t)))
def j77 [LP] (e i:Int) (j:(List Int)) (l g:Int) (n:ByteArray) (d:Int) (c:(List Int)) (k b a:Int) (m:Tn2) (f:Tn15):Option ((Int×Int×ByteArray×Int×(List Int)×Tn2×Tn15)):=
 LP.lp (jq1 (j6W)) (e,i,j,l,g,n,d,c,k,b,a,m,f)
def j21 [LP] (k b:Int) (n:ByteArray) (l:Int) (d:(List Int)) (m:Tn2) (c:Tn15):Option ((Int×Int×ByteArray×Int×(List Int)×Tn2×Tn15) ⊕ (Tn2)):=
 cond (decide (b<k)) (
 cond (inR b (List.length c)) (
 let g:=(List.getD c (Int.toNat b) (0,(0,0))).1
 let j:=(List.getD c (Int.toNat b) (0,(0,0))).2.1
 let f:=(List.getD c (Int.toNat b) (0,(0,0))).2.2
 let i:=(Int.ofNat (List.length d))
 (j77 k b d i 0 n l d g j f m c).bind fun a=>
 let e:=(w64 (a.2.1+1))
 some (.inl (a.1,e,a.2.2.1,a.2.2.2.1,a.2.2.2.2.1,a.2.2.2.2.2.1,a.2.2.2.2.2.2))) none) (
 some (.inr m))
def j78 [LP] (c e:Int) (f:ByteArray) (b:Int) (a:(List Int)) (g:Tn2) (d:Tn15):Option (Tn2):=
 LP.lp (unc7 (j21)) (c,e,f,b,a,g,d)
def j2R [LP] (c:Tn75) (a:Tn20) (b d:Int):Option (Tn2):=
 cond (inR a.2.1 (List.length c.2)) (
 let e:=(List.getD c.2 (Int.toNat a.2.1) (0,([]:Tn2)))
 (j23 (e.1,e.2) b d).bind fun f=>
 let g:=(Int.ofNat (List.length f))
 (j78 g 0 a.1 a.2.1 a.2.2 ([]:Tn2) f).bind fun j=>
 (j4w j).bind fun i=>
 some i) none
def j8r (b:Tn2) (c:Int) (d:Tn2) (f e g a:Int) (l:Tn2):Option ((Tn2×Int×Tn2×Int×Int×Int×Int×Tn2) ⊕ ((Tn2×Int×Tn2×Int×Int×Int×Int×Tn2))):=
 let i:=(Int.ofNat (List.length b))
 cond (decide (c<i)) (
 cond (inR c (List.length b)) (
 let k:=(List.getD b (Int.toNat c) (0,0))
 cond (decide (k.2≤g)) (
 let j:=(w64 (c+1))
 some (.inl (b,j,d,f,e,g,a,l))) (
 some (.inr (b,c,d,f,e,g,a,l)))) none) (
 some (.inr (b,c,d,f,e,g,a,l)))
def j9b [LP] (f:Tn2) (i:Int) (b:Tn2) (d c e a:Int) (g:Tn2):Option ((Tn2×Int×Tn2×Int×Int×Int×Int×Tn2)):=
 LP.lp (unc8 (j8r)) (f,i,b,d,c,e,a,g)
def j8s (b:Tn2) (r d a:Int) (e:Tn2) (i k m c:Int) (l:Tn2):Option ((Tn2×Int×Int×Int×Tn2×Int×Int×Int×Int×Tn2) ⊕ ((Tn2×Int×Int×Tn2×Int×Int×Int×Int×Tn2))):=
 let v:=(Int.ofNat (List.length b))
 cond (decide (a<v)) (
 cond (inR a (List.length b)) (
 let n:=(List.getD b (Int.toNat a) (0,0))
 cond (decide (n.1<c)) (
 cond (inR a (List.length b)) (
 let s:=(List.getD b (Int.toNat a) (0,0))
 cond (decide (d<s.1)) (
 cond (inR a (List.length b)) (
 let t:=(List.getD b (Int.toNat a) (0,0))
 let f:Tn2:=[(d,t.1)]
 cond (decide (List.length l+List.length f≤j0n)) (
 let q:Tn2:=(l++f)
 cond (inR a (List.length b)) (
 let g:=(List.getD b (Int.toNat a) (0,0))
 let u:Int:=(if g.2>d then g.2 else d:Int)
 let o:=(w64 (a+1))
 some (.inl (b,r,u,o,e,i,k,m,c,q))) none) none) none) (
 cond (inR a (List.length b)) (
 let j:=(List.getD b (Int.toNat a) (0,0))
 let w:Int:=(if j.2>d then j.2 else d:Int)
 let p:=(w64 (a+1))
 some (.inl (b,r,w,p,e,i,k,m,c,l))) none)) none) (
 some (.inr (b,r,d,e,i,k,m,c,l)))) none) (
 some (.inr (b,r,d,e,i,k,m,c,l)))
def j9c [LP] (g:Tn2) (k j d:Int) (b:Tn2) (e c f a:Int) (i:Tn2):Option ((Tn2×Int×Int×Tn2×Int×Int×Int×Int×Tn2)):=
 LP.lp (jqe (j8s)) (g,k,j,d,b,e,c,f,a,i)
def j2D [LP] (m:Tn2) (n:Int) (f:Tn2) (k e:Int) (l:Tn2):Option ((Tn2×Int×Tn2×Int×Int×Tn2) ⊕ (Tn2)):=
 cond (decide (e<k)) (
 cond (inR e (List.length f)) (
 let d:=(List.getD f (Int.toNat e) (0,0))
 (j9b m n f k e d.1 d.2 l).bind fun b=>
 (j9c b.1 b.2.1 b.2.2.2.2.2.1 b.2.1 b.2.2.1 b.2.2.2.1 b.2.2.2.2.1 b.2.2.2.2.2.1 b.2.2.2.2.2.2.1 b.2.2.2.2.2.2.2).bind fun a=>
 cond (decide (a.2.2.1<a.2.2.2.2.2.2.2.1)) (
 let c:Tn2:=[(a.2.2.1,a.2.2.2.2.2.2.2.1)]
 cond (decide (List.length a.2.2.2.2.2.2.2.2+List.length c≤j0n)) (
 let i:Tn2:=(a.2.2.2.2.2.2.2.2++c)
 let g:=(w64 (a.2.2.2.2.2.1+1))
 some (.inl (a.1,a.2.1,a.2.2.2.1,a.2.2.2.2.1,g,i))) none) (
 let j:=(w64 (a.2.2.2.2.2.1+1))
 some (.inl (a.1,a.2.1,a.2.2.2.1,a.2.2.2.2.1,j,a.2.2.2.2.2.2.2.2)))) none) (
 some (.inr l))
def j9d [LP] (d:Tn2) (f:Int) (a:Tn2) (c b:Int) (e:Tn2):Option (Tn2):=
 LP.lp (unc6 (j2D)) (d,f,a,c,b,e)
def j3n [LP] (a b:Tn2):Option (Tn2):=
 let c:=(Int.ofNat (List.length a))
 (j9d b 0 a c 0 ([]:Tn2)).bind fun d=>
 some d
def j9e (a c:Tn2) (b d:Int) (n:Tn2):Option ((Tn2×Tn2×Int×Int×Tn2) ⊕ (Tn2)):=
 let x:=(Int.ofNat (List.length a))
 let s:=(Int.ofNat (List.length c))
 cond (cond (decide (b<x)) (decide (d<s)) false) (
 cond (inR b (List.length a)) (
 let k:=(List.getD a (Int.toNat b) (0,0))
 cond (inR d (List.length c)) (
 let i:=(List.getD c (Int.toNat d) (0,0))
 let j:Int:=(if i.1>k.1 then i.1 else k.1:Int)
 cond (inR b (List.length a)) (
 let f:=(List.getD a (Int.toNat b) (0,0))
 cond (inR d (List.length c)) (
 let g:=(List.getD c (Int.toNat d) (0,0))
 let l:Int:=(if g.2<f.2 then g.2 else f.2:Int)
 cond (decide (j<l)) (
 let m:Tn2:=[(j,l)]
 cond (decide (List.length n+List.length m≤j0n)) (
 let e:Tn2:=(n++m)
 cond (inR b (List.length a)) (
 let q:=(List.getD a (Int.toNat b) (0,0))
 cond (inR d (List.length c)) (
 let u:=(List.getD c (Int.toNat d) (0,0))
 cond (decide (q.2<u.2)) (
 let v:=(w64 (b+1))
 some (.inl (a,c,v,d,e))) (
 let w:=(w64 (d+1))
 some (.inl (a,c,b,w,e)))) none) none) none) (
 cond (inR b (List.length a)) (
 let r:=(List.getD a (Int.toNat b) (0,0))
 cond (inR d (List.length c)) (
 let o:=(List.getD c (Int.toNat d) (0,0))
 cond (decide (r.2<o.2)) (
 let p:=(w64 (b+1))
 some (.inl (a,c,p,d,n))) (
 let t:=(w64 (d+1))
 some (.inl (a,c,b,t,n)))) none) none)) none) none) none) none) (
 some (.inr n))
def jao [LP] (b a:Tn2) (e d:Int) (c:Tn2):Option (Tn2):=
 LP.lp (unc5 (j9e)) (b,a,e,d,c)
def j3B [LP] (b a:Tn2):Option (Tn2):=
 (jao b a 0 0 ([]:Tn2)).bind fun c=>
 some c
def j4H [LP] (a:Tn75) (b:Tn61) (d c:Int):Option (Tn2):=
 cond (inR b.2.1 (List.length a.2)) (
 let s:=(List.getD a.2 (Int.toNat b.2.1) (0,([]:Tn2)))
 (j1s (s.1,s.2) (b.1,(b.2.1,((b.2.2.1.1,b.2.2.1.2),(b.2.2.2.1,(b.2.2.2.2.1,(b.2.2.2.2.2.1,(b.2.2.2.2.2.2.1,(b.2.2.2.2.2.2.2.1,b.2.2.2.2.2.2.2.2)))))))) 0).bind fun i=>
 cond (cond (cond (!i.2) true (decide (i.1≥c))) true (decide (d≥c))) (
 some ([]:Tn2)) (
 let e:Int:=(if i.1>d then i.1 else d:Int)
 let k:Tn2:=[(e,c)]
 let u:=(Int.ofNat (List.length b.2.2.2.2.2.2.1))
 cond (decide (u>0)) (
 cond (inR b.2.1 (List.length a.2)) (
 let r:=(List.getD a.2 (Int.toNat b.2.1) (0,([]:Tn2)))
 (j3m (r.1,r.2) b.2.2.2.2.2.2.1 e c).bind fun l=>
 cond (b.2.2.2.2.2.2.2.2==1) (
 cond (inR b.2.2.2.2.2.2.2.1 (List.length a.1.2.2.1)) (
 let m:=(List.getD a.1.2.2.1 (Int.toNat b.2.2.2.2.2.2.2.1) (ByteArray.empty,(0,([]:(List Int)))))
 (j2R ((a.1.1,(a.1.2.1,(a.1.2.2.1,a.1.2.2.2))),a.2) (m.1,(m.2.1,m.2.2)) e c).bind fun t=>
 (j3n l t).bind fun v=>
 some v) none) (
 cond (b.2.2.2.2.2.2.2.2==2) (
 cond (inR b.2.2.2.2.2.2.2.1 (List.length a.1.2.2.1)) (
 let j:=(List.getD a.1.2.2.1 (Int.toNat b.2.2.2.2.2.2.2.1) (ByteArray.empty,(0,([]:(List Int)))))
 (j2R ((a.1.1,(a.1.2.1,(a.1.2.2.1,a.1.2.2.2))),a.2) (j.1,(j.2.1,j.2.2)) e c).bind fun w=>
 (j3B l w).bind fun x=>
 some x) none) (
 some l))) none) (
 cond (b.2.2.2.2.2.2.2.2==1) (
 cond (inR b.2.2.2.2.2.2.2.1 (List.length a.1.2.2.1)) (
 let g:=(List.getD a.1.2.2.1 (Int.toNat b.2.2.2.2.2.2.2.1) (ByteArray.empty,(0,([]:(List Int)))))
 (j2R ((a.1.1,(a.1.2.1,(a.1.2.2.1,a.1.2.2.2))),a.2) (g.1,(g.2.1,g.2.2)) e c).bind fun q=>
 (j3n k q).bind fun n=>
 some n) none) (
 cond (b.2.2.2.2.2.2.2.2==2) (
 cond (inR b.2.2.2.2.2.2.2.1 (List.length a.1.2.2.1)) (
 let f:=(List.getD a.1.2.2.1 (Int.toNat b.2.2.2.2.2.2.2.1) (ByteArray.empty,(0,([]:(List Int)))))
 (j2R ((a.1.1,(a.1.2.1,(a.1.2.2.1,a.1.2.2.2))),a.2) (f.1,(f.2.1,f.2.2)) e c).bind fun o=>
 (j3B k o).bind fun p=>
 some p) none) (
 some k))))) none
def j3R [LP] (a:Tn14) (b:Int):Option (Int):=
 (j3f (a.1,a.2) b).bind fun d=>
 (j4W (a.1,a.2) d).bind fun c=>
 some c
def jiT (a:Int):Option ((Int×Int)):=
 let e:=(w64 (Int.tdiv a 86400))
 let i:=(Int.tmod a 86400)
 cond (decide (i<0)) (
 let d:=(w64 (e-1))
 let g:=(w64 (d*86400))
 let f:=(w64 (a-g))
 some (d,f)) (
 let b:=(w64 (e*86400))
 let c:=(w64 (a-b))
 some (e,c))
def j2w [LP] (b:Tn14) (a:Int):Option ((Int×Int)):=
 (j3R (b.1,b.2) a).bind fun e=>
 let d:=(w64 (a+e))
 (jiT d).bind fun c=>
 some (c.1,c.2)
def j2i [LP] (q m p:Int) (i:Tn2) (n:ByteArray) (c j e f b:Int) (g:(List Int)) (a:Tn2) (k d:Int):Option ((Int×Int×Int×Tn2×ByteArray×Int×Int×Int×Int×Int×(List Int)×Tn2×Int×Int) ⊕ ((Int×Int×Int×Tn2×ByteArray×Int×Int×Int×Int×Int×(List Int)×Tn2×Int×Int))):=
 cond (decide (m>0)) (
 (j1s (p,i) (n,(c,((j,e),(f,(b,(g,(a,(k,d)))))))) m).bind fun l=>
 cond (cond l.2 (decide (l.1≤q)) false) (
 some (.inr (q,m,p,i,n,c,j,e,f,b,g,a,k,d))) (
 let o:=(w64 (m-1))
 some (.inl (q,o,p,i,n,c,j,e,f,b,g,a,k,d)))) (
 some (.inr (q,m,p,i,n,c,j,e,f,b,g,a,k,d)))
def j7V [LP] (n o m:Int) (i:Tn2) (l:ByteArray) (c j e f b:Int) (g:(List Int)) (a:Tn2) (k d:Int):Option ((Int×Int×Int×Tn2×ByteArray×Int×Int×Int×Int×Int×(List Int)×Tn2×Int×Int)):=
 LP.lp (jod (j2i)) (n,o,m,i,l,c,j,e,f,b,g,a,k,d)
def j2j [LP] (r o q:Int) (j:Tn2) (p:ByteArray) (d k f g c:Int) (i:(List Int)) (b:Tn2) (l e:Int):Option ((Int×Int×Int×Tn2×ByteArray×Int×Int×Int×Int×Int×(List Int)×Tn2×Int×Int) ⊕ (Int)):=
 let m:=(w64 (o+1))
 (j1s (q,j) (p,(d,((k,f),(g,(c,(i,(b,(l,e)))))))) m).bind fun a=>
 cond (cond (!a.2) true (decide (a.1>r))) (
 some (.inr o)) (
 let n:=(w64 (o+1))
 some (.inl (r,n,q,j,p,d,k,f,g,c,i,b,l,e)))
def j7W [LP] (n o m:Int) (i:Tn2) (l:ByteArray) (c j e f b:Int) (g:(List Int)) (a:Tn2) (k d:Int):Option (Int):=
 LP.lp (jod (j2j)) (n,o,m,i,l,c,j,e,f,b,g,a,k,d)
def j6p [LP] (c:Tn14) (a:Tn61) (d:Int):Option (Int):=
 (j1s (c.1,c.2) (a.1,(a.2.1,((a.2.2.1.1,a.2.2.1.2),(a.2.2.2.1,(a.2.2.2.2.1,(a.2.2.2.2.2.1,(a.2.2.2.2.2.2.1,(a.2.2.2.2.2.2.2.1,a.2.2.2.2.2.2.2.2)))))))) 0).bind fun e=>
 cond (cond (!e.2) true (decide (e.1>d))) (
 some (-1)) (
 cond (a.2.2.2.1==0) (
 let j:=(w64 (d-e.1))
 let f:=(w64 (3600*a.2.2.2.2.1))
 cond (!(f==0)) (
 let m:=(w64 (Int.tdiv j f))
 some m) none) (
 (j2w (c.1,c.2) d).bind fun l=>
 let k:=(w64 (l.1-a.2.2.1.1))
 (jfL (a.1,(a.2.1,((a.2.2.1.1,a.2.2.1.2),(a.2.2.2.1,(a.2.2.2.2.1,(a.2.2.2.2.2.1,(a.2.2.2.2.2.2.1,(a.2.2.2.2.2.2.2.1,a.2.2.2.2.2.2.2.2))))))))).bind fun i=>
 cond (!(i==0)) (
 let g:=(w64 (Int.tdiv k i))
 let n:Int:=(if g>0 then g else 0:Int)
 (j7V d n c.1 c.2 a.1 a.2.1 a.2.2.1.1 a.2.2.1.2 a.2.2.2.1 a.2.2.2.2.1 a.2.2.2.2.2.1 a.2.2.2.2.2.2.1 a.2.2.2.2.2.2.2.1 a.2.2.2.2.2.2.2.2).bind fun b=>
 (j7W b.1 b.2.1 b.2.2.1 b.2.2.2.1 b.2.2.2.2.1 b.2.2.2.2.2.1 b.2.2.2.2.2.2.1 b.2.2.2.2.2.2.2.1 b.2.2.2.2.2.2.2.2.1 b.2.2.2.2.2.2.2.2.2.1 b.2.2.2.2.2.2.2.2.2.2.1 b.2.2.2.2.2.2.2.2.2.2.2.1 b.2.2.2.2.2.2.2.2.2.2.2.2.1 b.2.2.2.2.2.2.2.2.2.2.2.2.2).bind fun o=>
 some o) none))
def jae (f:Tn15) (m e:Int) (b:Tn15):Option ((Tn15×Int×Int×Tn15) ⊕ (Tn15)):=
 cond (decide (e<m)) (
 cond (inR e (List.length f)) (
 let a:=(List.getD f (Int.toNat e) (0,(0,0)))
 cond (decide (a.2.1≤a.1)) (
 let v:=(w64 (e+1))
 some (.inl (f,m,v,b))) (
 let d:=(Int.ofNat (List.length b))
 cond (decide (d>0)) (
 let j:=(w64 (d-1))
 cond (inR j (List.length b)) (
 let w:=(List.getD b (Int.toNat j) (0,(0,0))).2.1
 cond (w==a.1) (
 let l:=(w64 (d-1))
 cond (inR l (List.length b)) (
 let q:=(List.getD b (Int.toNat l) (0,(0,0))).2.2
 cond (q==a.2.2) (
 let c:=(w64 (d-1))
 cond (inR c (List.length b)) (
 let x:Tn15:=(List.set b (Int.toNat c) ((List.getD b (Int.toNat c) (0,(0,0))).1,(a.2.1,(List.getD b (Int.toNat c) (0,(0,0))).2.2)))
 let s:=(w64 (e+1))
 some (.inl (f,m,s,x))) none) (
 let g:Tn15:=[(a.1,(a.2.1,a.2.2))]
 cond (decide (List.length b+List.length g≤j0n)) (
 let p:Tn15:=(b++g)
 let r:=(w64 (e+1))
 some (.inl (f,m,r,p))) none)) none) (
 let i:Tn15:=[(a.1,(a.2.1,a.2.2))]
 cond (decide (List.length b+List.length i≤j0n)) (
 let t:Tn15:=(b++i)
 let o:=(w64 (e+1))
 some (.inl (f,m,o,t))) none)) none) (
 let k:Tn15:=[(a.1,(a.2.1,a.2.2))]
 cond (decide (List.length b+List.length k≤j0n)) (
 let u:Tn15:=(b++k)
 let n:=(w64 (e+1))
 some (.inl (f,m,n,u))) none))) none) (
 some (.inr b))
def jbz [LP] (b:Tn15) (d a:Int) (c:Tn15):Option (Tn15):=
 LP.lp (unc4 (jae)) (b,d,a,c)
def j79 [LP] (a:Tn15):Option (Tn15):=
 let b:=(Int.ofNat (List.length a))
 (jbz a b 0 ([]:Tn15)).bind fun c=>
 some c
def j1l [LP] (b6 o b1 x a1 a4:Int) (a7:ByteArray) (i l j g f:Int) (a:(List Int)) (k:Tn2) (e m p:Int) (c:Tn2) (b2 b:Int) (z:Tn15) (a6:Tn2):Option ((Int×Int×Int×Int×Int×Int×ByteArray×Int×Int×Int×Int×Int×(List Int)×Tn2×Int×Int×Int×Tn2×Int×Int×Tn15×Tn2) ⊕ ((Int×Int×Int×Int×Int×Int×ByteArray×Int×Int×Int×Int×Int×(List Int)×Tn2×Int×Int×Int×Tn2×Tn15×Tn2))):=
 cond (decide (o<b)) (
 cond (decide (o≥x)) (
 (j6p (p,c) (a7,(i,((l,j),(g,(f,(a,(k,(e,m)))))))) o).bind fun d=>
 let b7:=(w64 (d+1))
 (j1s (p,c) (a7,(i,((l,j),(g,(f,(a,(k,(e,m)))))))) b7).bind fun n=>
 cond (!n.2) (
 let a5:Int:=(if 8589934593<b then 8589934593 else b:Int)
 let a3:=(Int.ofNat (List.length a))
 cond (!(a3==0)) (
 let a0:=(Int.tmod d a3)
 cond (inR a0 (List.length a)) (
 let b5:=(List.getD a (Int.toNat a0) 0)
 let a2:Tn15:=[(o,(a5,b5))]
 cond (decide (List.length z+List.length a2≤j0n)) (
 let b4:Tn15:=(z++a2)
 some (.inl (b6,a5,d,8589934593,a1,a4,a7,i,l,j,g,f,a,k,e,m,p,c,b2,b,b4,a6))) none) none) none) (
 let u:Int:=(if n.1<b then n.1 else b:Int)
 let r:=(Int.ofNat (List.length a))
 cond (!(r==0)) (
 let y:=(Int.tmod d r)
 cond (inR y (List.length a)) (
 let a9:=(List.getD a (Int.toNat y) 0)
 let s:Tn15:=[(o,(u,a9))]
 cond (decide (List.length z+List.length s≤j0n)) (
 let a8:Tn15:=(z++s)
 some (.inl (b6,u,d,n.1,a1,a4,a7,i,l,j,g,f,a,k,e,m,p,c,b2,b,a8,a6))) none) none) none)) (
 let t:Int:=(if x<b then x else b:Int)
 let w:=(Int.ofNat (List.length a))
 cond (!(w==0)) (
 let q:=(Int.tmod b1 w)
 cond (inR q (List.length a)) (
 let b3:=(List.getD a (Int.toNat q) 0)
 let v:Tn15:=[(o,(t,b3))]
 cond (decide (List.length z+List.length v≤j0n)) (
 let b0:Tn15:=(z++v)
 some (.inl (b6,t,b1,x,a1,a4,a7,i,l,j,g,f,a,k,e,m,p,c,b2,b,b0,a6))) none) none) none)) (
 some (.inr (b6,o,b1,x,a1,a4,a7,i,l,j,g,f,a,k,e,m,p,c,z,a6)))
def j4I [LP] (v m p s o q:Int) (w:ByteArray) (f j g e d:Int) (l:(List Int)) (i:Tn2) (c k n:Int) (a:Tn2) (r b:Int) (u:Tn15) (t:Tn2):Option ((Int×Int×Int×Int×Int×Int×ByteArray×Int×Int×Int×Int×Int×(List Int)×Tn2×Int×Int×Int×Tn2×Tn15×Tn2)):=
 LP.lp (jqh (j1l)) (v,m,p,s,o,q,w,f,j,g,e,d,l,i,c,k,n,a,r,b,u,t)
def j1m [LP] (y k x z l c:Int) (a0:ByteArray) (q t r p o:Int) (v:(List Int)) (s:Tn2) (m u w:Int) (f:Tn2) (n:Tn15) (e:Tn2):Option ((Int×Int×Int×Int×Int×Int×ByteArray×Int×Int×Int×Int×Int×(List Int)×Tn2×Int×Int×Int×Tn2×Tn15×Tn2) ⊕ ((Int×Int×Tn15))):=
 cond (decide (c<l)) (
 cond (inR c (List.length e)) (
 let b:=(List.getD e (Int.toNat c) (0,0)).1
 let g:=(List.getD e (Int.toNat c) (0,0)).2
 let d:Tn15:=[(k,(b,(-1)))]
 cond (decide (List.length n+List.length d≤j0n)) (
 let i:Tn15:=(n++d)
 (j4I y b x z l c a0 q t r p o v s m u w f b g i e).bind fun a=>
 let j:=(w64 (a.2.2.2.2.2.1+1))
 some (.inl (a.1,a.2.1,a.2.2.1,a.2.2.2.1,a.2.2.2.2.1,j,a.2.2.2.2.2.2.1,a.2.2.2.2.2.2.2.1,a.2.2.2.2.2.2.2.2.1,a.2.2.2.2.2.2.2.2.2.1,a.2.2.2.2.2.2.2.2.2.2.1,a.2.2.2.2.2.2.2.2.2.2.2.1,a.2.2.2.2.2.2.2.2.2.2.2.2.1,a.2.2.2.2.2.2.2.2.2.2.2.2.2.1,a.2.2.2.2.2.2.2.2.2.2.2.2.2.2.1,a.2.2.2.2.2.2.2.2.2.2.2.2.2.2.2.1,a.2.2.2.2.2.2.2.2.2.2.2.2.2.2.2.2.1,a.2.2.2.2.2.2.2.2.2.2.2.2.2.2.2.2.2.1,a.2.2.2.2.2.2.2.2.2.2.2.2.2.2.2.2.2.2.1,a.2.2.2.2.2.2.2.2.2.2.2.2.2.2.2.2.2.2.2))) none) none) (
 some (.inr (y,k,n)))
def j4J [LP] (t l o q n p:Int) (u:ByteArray) (e i f d c:Int) (k:(List Int)) (g:Tn2) (b j m:Int) (a:Tn2) (s:Tn15) (r:Tn2):Option ((Int×Int×Tn15)):=
 LP.lp (jqg (j1m)) (t,l,o,q,n,p,u,e,i,f,d,c,k,g,b,j,m,a,s,r)
def j3o [LP] (b:Tn75) (a:Tn61) (c d:Int):Option (Tn15):=
 cond (inR a.2.1 (List.length b.2)) (
 let g:=(List.getD b.2 (Int.toNat a.2.1) (0,([]:Tn2)))
 (j4H ((b.1.1,(b.1.2.1,(b.1.2.2.1,b.1.2.2.2))),b.2) (a.1,(a.2.1,((a.2.2.1.1,a.2.2.1.2),(a.2.2.2.1,(a.2.2.2.2.1,(a.2.2.2.2.2.1,(a.2.2.2.2.2.2.1,(a.2.2.2.2.2.2.2.1,a.2.2.2.2.2.2.2.2)))))))) c d).bind fun i=>
 let l:=(Int.ofNat (List.length i))
 (j4J d c (-1) (-1) l 0 a.1 a.2.1 a.2.2.1.1 a.2.2.1.2 a.2.2.2.1 a.2.2.2.2.1 a.2.2.2.2.2.1 a.2.2.2.2.2.2.1 a.2.2.2.2.2.2.2.1 a.2.2.2.2.2.2.2.2 g.1 g.2 ([]:Tn15) i).bind fun e=>
 let f:Tn15:=[(e.2.1,(e.1,(-1)))]
 cond (decide (List.length e.2.2+List.length f≤j0n)) (
 let j:Tn15:=(e.2.2++f)
 (j79 j).bind fun k=>
 some k) none) none
def j8t (k:Int) (f:Tn31) (d b:Int) (e:Tn2):Option ((Int×Tn31×Int×Int×Tn2) ⊕ (Tn2)):=
 cond (decide (b<d)) (
 cond (inR b (List.length f)) (
 let a:=(List.getD f (Int.toNat b) (0,(0,(0,(0,0)))))
 cond (cond (a.1==0) (a.2.1==k) false) (
 let c:Tn2:=[(a.2.2.2.1,a.2.2.2.2)]
 cond (decide (List.length e+List.length c≤j0n)) (
 let i:Tn2:=(e++c)
 let g:=(w64 (b+1))
 some (.inl (k,f,d,g,i))) none) (
 let j:=(w64 (b+1))
 some (.inl (k,f,d,j,e)))) none) (
 some (.inr e))
def j9f [LP] (c:Int) (e:Tn31) (b a:Int) (d:Tn2):Option (Tn2):=
 LP.lp (unc5 (j8t)) (c,e,b,a,d)
def j7B [LP] (b:Tn66) (a:Int):Option (Tn2):=
 let d:=(Int.ofNat (List.length b.2.2))
 (j9f a b.2.2 d 0 ([]:Tn2)).bind fun e=>
 (j4w e).bind fun c=>
 some c
def j7C (n:Tn15) (o m l a:Int) (r:ByteArray) (e:Tn62) (d:Tn31) (t p f:Int) (s:Tn21) (q:Tn15) (c:Tn2):Option ((Tn15×Int×Int×Int×Int×ByteArray×Tn62×Tn31×Int×Int×Int×Tn21×Tn15×Tn2) ⊕ ((Tn15×Int×Int×ByteArray×Tn62×Tn31×Tn21×Tn15))):=
 cond (decide (a<l)) (
 cond (inR a (List.length c)) (
 let j:=(List.getD c (Int.toNat a) (0,0)).1
 let g:=(List.getD c (Int.toNat a) (0,0)).2
 let b:Tn15:=[(j,(g,f))]
 cond (decide (List.length q+List.length b≤j0n)) (
 let i:Tn15:=(q++b)
 let k:=(w64 (a+1))
 some (.inl (n,o,m,l,k,r,e,d,t,p,f,s,i,c))) none) none) (
 some (.inr (n,o,m,r,e,d,s,q)))
def j5M [LP] (g:Tn15) (f k e i:Int) (m:ByteArray) (d:Tn62) (c:Tn31) (l a b:Int) (n:Tn21) (o:Tn15) (j:Tn2):Option ((Tn15×Int×Int×ByteArray×Tn62×Tn31×Tn21×Tn15)):=
 LP.lp (jod (j7C)) (g,f,k,e,i,m,d,c,l,a,b,n,o,j)
def j2k [LP] (g:Tn15) (k d:Int) (w:ByteArray) (f:Tn62) (e:Tn31) (l:Tn21) (t:Tn15):Option ((Tn15×Int×Int×ByteArray×Tn62×Tn31×Tn21×Tn15) ⊕ (Tn15)):=
 cond (decide (d<k)) (
 cond (inR d (List.length g)) (
 let a:=(List.getD g (Int.toNat d) (0,(0,0)))
 cond (decide (a.2.2<0)) (
 let v:=(w64 (d+1))
 some (.inl (g,k,v,w,f,e,l,t))) (
 let z:Tn2:=(jaH ([]:Tn2) l a.2.2)
 cond (!(jew l a.2.2)) (
 (j7B (w,(f,e)) a.2.2).bind fun r=>
 let m:Tn21:=(jbW l a.2.2 r)
 let o:Tn2:=[(a.1,a.2.1)]
 let n:Tn2:=(jaH ([]:Tn2) m a.2.2)
 (j3n o n).bind fun j=>
 let y:=(Int.ofNat (List.length j))
 (j5M g k d y 0 w f e a.1 a.2.1 a.2.2 m t j).bind fun b=>
 let s:=(w64 (b.2.2.1+1))
 some (.inl (b.1,b.2.1,s,b.2.2.2.1,b.2.2.2.2.1,b.2.2.2.2.2.1,b.2.2.2.2.2.2.1,b.2.2.2.2.2.2.2))) (
 let q:Tn2:=[(a.1,a.2.1)]
 let x:Tn2:=(jaH ([]:Tn2) l a.2.2)
 (j3n q x).bind fun i=>
 let u:=(Int.ofNat (List.length i))
 (j5M g k d u 0 w f e a.1 a.2.1 a.2.2 l t i).bind fun c=>
 let p:=(w64 (c.2.2.1+1))
 some (.inl (c.1,c.2.1,p,c.2.2.2.1,c.2.2.2.2.1,c.2.2.2.2.2.1,c.2.2.2.2.2.2.1,c.2.2.2.2.2.2.2))))) none) (
 some (.inr t))
def j7X [LP] (d:Tn15) (c e:Int) (f:ByteArray) (b:Tn62) (a:Tn31) (g:Tn21) (i:Tn15):Option (Tn15):=
 LP.lp (unc8 (j2k)) (d,c,e,f,b,a,g,i)
def j6q [LP] (a:Tn66) (b:Tn15):Option (Tn15):=
 let d:Tn21:=([]:Tn21)
 let c:=(Int.ofNat (List.length b))
 (j7X b c 0 a.1 a.2.1 a.2.2 d ([]:Tn15)).bind fun e=>
 some e
def j8u (a:Tn15) (c:Tn2) (b d:Int) (n:Tn15):Option ((Tn15×Tn2×Int×Int×Tn15) ⊕ (Tn15)):=
 let y:=(Int.ofNat (List.length a))
 let u:=(Int.ofNat (List.length c))
 cond (cond (decide (b<y)) (decide (d<u)) false) (
 cond (inR b (List.length a)) (
 let k:=(List.getD a (Int.toNat b) (0,(0,0)))
 cond (inR d (List.length c)) (
 let g:=(List.getD c (Int.toNat d) (0,0))
 let i:Int:=(if g.1>k.1 then g.1 else k.1:Int)
 cond (inR b (List.length a)) (
 let e:=(List.getD a (Int.toNat b) (0,(0,0)))
 cond (inR d (List.length c)) (
 let f:=(List.getD c (Int.toNat d) (0,0))
 let m:Int:=(if f.2<e.2.1 then f.2 else e.2.1:Int)
 cond (inR b (List.length a)) (
 let t:=(List.getD a (Int.toNat b) (0,(0,0)))
 cond (decide (i<m)) (
 let l:Tn15:=[(i,(m,t.2.2))]
 cond (decide (List.length n+List.length l≤j0n)) (
 let j:Tn15:=(n++l)
 cond (inR b (List.length a)) (
 let w:=(List.getD a (Int.toNat b) (0,(0,0)))
 cond (inR d (List.length c)) (
 let x:=(List.getD c (Int.toNat d) (0,0))
 cond (decide (w.2.1<x.2)) (
 let r:=(w64 (b+1))
 some (.inl (a,c,r,d,j))) (
 let s:=(w64 (d+1))
 some (.inl (a,c,b,s,j)))) none) none) none) (
 cond (inR b (List.length a)) (
 let p:=(List.getD a (Int.toNat b) (0,(0,0)))
 cond (inR d (List.length c)) (
 let q:=(List.getD c (Int.toNat d) (0,0))
 cond (decide (p.2.1<q.2)) (
 let v:=(w64 (b+1))
 some (.inl (a,c,v,d,n))) (
 let o:=(w64 (d+1))
 some (.inl (a,c,b,o,n)))) none) none)) none) none) none) none) none) (
 some (.inr n))
def j9g [LP] (b:Tn15) (a:Tn2) (e d:Int) (c:Tn15):Option (Tn15):=
 LP.lp (unc5 (j8u)) (b,a,e,d,c)
def j7D [LP] (b:Tn15) (a:Tn2):Option (Tn15):=
 (j9g b a 0 0 ([]:Tn15)).bind fun c=>
 some c
def j9h (g:Tn15) (i e:Int) (f:Tn2):Option ((Tn15×Int×Int×Tn2) ⊕ (Tn2)):=
 cond (decide (e<i)) (
 cond (inR e (List.length g)) (
 let a:=(List.getD g (Int.toNat e) (0,(0,0)))
 let b:Tn2:=[(a.1,a.2.1)]
 cond (decide (List.length f+List.length b≤j0n)) (
 let c:Tn2:=(f++b)
 let d:=(w64 (e+1))
 some (.inl (g,i,d,c))) none) none) (
 some (.inr f))
def jap [LP] (a:Tn15) (b d:Int) (c:Tn2):Option (Tn2):=
 LP.lp (unc4 (j9h)) (a,b,d,c)
def j9i [LP] (a:Tn15):Option (Tn2):=
 let c:=(Int.ofNat (List.length a))
 (jap a c 0 ([]:Tn2)).bind fun d=>
 (j4w d).bind fun b=>
 some b
def j48 (b a:Tn3):Option (Int):=
 let c:=(w64 (b.1-a.1))
 some c
def j0D (a:Tn15):Option (Tn15):=
 jlv ((.pair (.int .i64) (.pair (.int .i64) (.int .i64)))) (fun c b=>(j48 c b).getD 0) a
def j1C [LP] (r:Int) (e:Tn62) (v:Tn56) (k:Tn50) (g:Tn27) (f:Tn67) (l:Tn21) (w:ByteArray) (i:Tn62) (j:Tn31) (u t:Int) (d:Tn2) (c:Tn15):Option ((Int×Tn62×Tn56×Tn50×Tn27×Tn67×Tn21×ByteArray×Tn62×Tn31×Int×Int×Tn2×Tn15) ⊕ ((Tn2×Tn15))):=
 cond (decide (r≤0)) (
 some (.inr (d,c))) (
 cond (decide (r≤Int.ofNat (List.length e))) (
 let n:Int:=(r-1)
 let a:=(List.getD e (Int.toNat n) (ByteArray.empty,(0,((0,0),(0,(0,(([]:(List Int)),(([]:Tn2),(0,0)))))))))
 (j3o ((v,(k,(g,f))),l) (a.1,(a.2.1,((a.2.2.1.1,a.2.2.1.2),(a.2.2.2.1,(a.2.2.2.2.1,(a.2.2.2.2.2.1,(a.2.2.2.2.2.2.1,(a.2.2.2.2.2.2.2.1,a.2.2.2.2.2.2.2.2)))))))) u t).bind fun p=>
 (j6q (w,(i,j)) p).bind fun s=>
 (j7D s d).bind fun b=>
 cond (decide (List.length c+List.length b≤j0n)) (
 let q:Tn15:=(c++b)
 (j9i b).bind fun o=>
 (j3n d o).bind fun m=>
 some (.inl ((r-1),e,v,k,g,f,l,w,i,j,u,t,m,q))) none) none)
def j5X [LP] (n:Int) (j:Tn62) (k:Tn56) (e:Tn50) (i:Tn27) (f:Tn67) (g:Tn21) (m:ByteArray) (d:Tn62) (c:Tn31) (o l:Int) (b:Tn2) (a:Tn15):Option ((Tn2×Tn15)):=
 LP.lp (jod (j1C)) (n,j,k,e,i,f,g,m,d,c,o,l,b,a)
def j6d (j b:Int) (d:Tn2) (a:Tn15):Option ((Int×Int×Tn2×Tn15) ⊕ (Tn15)):=
 cond (decide (b<j)) (
 cond (inR b (List.length d)) (
 let i:=(List.getD d (Int.toNat b) (0,0)).1
 let e:=(List.getD d (Int.toNat b) (0,0)).2
 let c:Tn15:=[(i,(e,(-1)))]
 cond (decide (List.length a+List.length c≤j0n)) (
 let f:Tn15:=(a++c)
 let g:=(w64 (b+1))
 some (.inl (j,g,d,f))) none) none) (
 some (.inr a))
def j5Y [LP] (d c:Int) (b:Tn2) (a:Tn15):Option (Tn15):=
 LP.lp (unc4 (j6d)) (d,c,b,a)
def j4o [LP] (b:Tn75) (c:Tn66) (a d:Int):Option (Tn15):=
 cond (decide (a≥d)) (
 some ([]:Tn15)) (
 let g:Tn2:=[(a,d)]
 (j30 c.2.1).bind fun e=>
 (j5X (Int.ofNat (List.length e)) e b.1.1 b.1.2.1 b.1.2.2.1 b.1.2.2.2 b.2 c.1 c.2.1 c.2.2 a d g ([]:Tn15)).bind fun f=>
 let k:=(Int.ofNat (List.length f.1))
 (j5Y k 0 f.1 f.2).bind fun l=>
 (j0D l).bind fun j=>
 (j79 j).bind fun i=>
 some i)
def j7Y (a:Int):Option (Bool):=
 some (a != a)
def j31 (b:(List Int)) (c l g m:Int):Option (((List Int)×Int×Int×Int×Int) ⊕ (((List Int)×Int×Int×Int))):=
 cond (decide (g<m)) (
 let e:=(w64 (g+m))
 let k:Int:=(IntKind.wrap .u64 e)
 let f:Int:=(Int.fdiv k 2)
 let a:=(w64 f)
 cond (inR a (List.length b)) (
 let i:=(List.getD b (Int.toNat a) 0)
 (jcP i c).bind fun j=>
 cond j (
 let d:=(w64 (a+1))
 some (.inl (b,c,l,d,m))) (
 some (.inl (b,c,l,g,a)))) none) (
 some (.inr (b,c,l,g)))
def j2l [LP] (b:(List Int)) (a d c e:Int):Option (((List Int)×Int×Int×Int)):=
 LP.lp (unc5 (j31)) (b,a,d,c,e)
def j1b [LP] (d:(List Int)) (b:Int):Option (Int×Bool):=
 let e:=(Int.ofNat (List.length d))
 (j2l d b e 0 e).bind fun a=>
 cond ((inR a.2.2.2 (List.length a.1)) || !(decide (a.2.2.2<a.2.2.1))) (
 let c:=(List.getD a.1 (Int.toNat a.2.2.2) 0)
 cond ((inR a.2.2.2 (List.length a.1)) || !((decide (a.2.2.2<a.2.2.1))&&(!(c==a.2.1)))) (
 let i:=(List.getD a.1 (Int.toNat a.2.2.2) 0)
 cond (decide (a.2.2.2<a.2.2.1)) (
 cond (c==a.2.1) (
 some (a.2.2.2,true)) (
 (j7Y i).bind fun g=>
 cond g (
 (j7Y a.2.1).bind fun f=>
 some (a.2.2.2,f)) (
 some (a.2.2.2,false)))) (
 cond ((c==a.2.1) || !false) (
 some (a.2.2.2,false)) none)) none) none
def jhq (b:Tn25) (a:Int):Option (Bool):=
 some (cond (decide (b.2.2.2.1≤a)) (decide (a<b.2.2.2.2)) false)
def jb2 (f e:Int) (d:Tn31) (c b:Int):Option ((Int×Int×Tn31×Int×Int) ⊕ (Int)):=
 cond (decide (b<c)) (
 cond (inR b (List.length d)) (
 let a:=(List.getD d (Int.toNat b) (0,(0,(0,(0,0)))))
 (jhq (a.1,(a.2.1,(a.2.2.1,(a.2.2.2.1,a.2.2.2.2)))) e).bind fun j=>
 cond (cond (!j) true (a.1==0)) (
 let k:=(w64 (b+1))
 some (.inl (f,e,d,c,k))) (
 cond (a.1==1) (
 let n:=(w64 (b+1))
 some (.inl (a.2.1,e,d,c,n))) (
 cond (a.1 != 2) (
 let l:=(w64 (b+1))
 some (.inl (f,e,d,c,l))) (
 cond (f==a.2.1) (
 let m:=(w64 (b+1))
 some (.inl (a.2.2.1,e,d,c,m))) (
 cond (f==a.2.2.1) (
 let g:=(w64 (b+1))
 some (.inl (a.2.1,e,d,c,g))) (
 let i:=(w64 (b+1))
 some (.inl (f,e,d,c,i)))))))) none) (
 some (.inr f))
def jcQ [LP] (c d:Int) (e:Tn31) (b a:Int):Option (Int):=
 LP.lp (unc5 (jb2)) (c,d,e,b,a)
def jcR [LP] (b:Tn31) (a c:Int):Option (Int):=
 let d:=(Int.ofNat (List.length b))
 (jcQ a c b d 0).bind fun e=>
 some e
def j6r (s p:Int) (f:Tn31) (n c:Int) (q:Tn56) (g:Tn50) (k:Tn27) (i:Tn67) (j:Tn21) (r:ByteArray) (e:Tn62) (d:Tn31) (o:(List Int)):Option ((Int×Int×Tn31×Int×Int×Tn56×Tn50×Tn27×Tn67×Tn21×ByteArray×Tn62×Tn31×(List Int)) ⊕ ((Int×Int×Tn56×Tn50×Tn27×Tn67×Tn21×ByteArray×Tn62×Tn31×(List Int)))):=
 cond (decide (c<n)) (
 cond (inR c (List.length f)) (
 let b:=(List.getD f (Int.toNat c) (0,(0,(0,(0,0)))))
 let a:(List Int):=[b.2.2.2.1,b.2.2.2.2]
 cond (decide (List.length o+List.length a≤j0n)) (
 let l:(List Int):=(o++a)
 let m:=(w64 (c+1))
 some (.inl (s,p,f,n,m,q,g,k,i,j,r,e,d,l))) none) none) (
 some (.inr (s,p,q,g,k,i,j,r,e,d,o)))
def j6s [LP] (o k:Int) (j:Tn31) (g i:Int) (l:Tn56) (c:Tn50) (f:Tn27) (d:Tn67) (e:Tn21) (n:ByteArray) (b:Tn62) (a:Tn31) (m:(List Int)):Option ((Int×Int×Tn56×Tn50×Tn27×Tn67×Tn21×ByteArray×Tn62×Tn31×(List Int))):=
 LP.lp (jod (j6r)) (o,k,j,g,i,l,c,f,d,e,n,b,a,m)
def j1Q [LP] (j k q r:Int) (t:ByteArray) (l:Tn62) (b:Tn31) (s a e:Int) (g:(List Int)) (i p:Tn15):Option ((Int×Int×Int×Int×ByteArray×Tn62×Tn31×Int×Int×Int×(List Int)×Tn15×Tn15) ⊕ ((Int×Int×ByteArray×Tn62×Tn31×(List Int)×Tn15×Tn15))):=
 cond (decide (k<a)) (
 cond (inR j (List.length g)) (
 let c:=(List.getD g (Int.toNat j) 0)
 let f:Int:=(if c<a then c else a:Int)
 (jcR b e k).bind fun o=>
 let d:Tn15:=[(k,(f,o))]
 cond (decide (List.length i+List.length d≤j0n)) (
 let m:Tn15:=(i++d)
 let n:=(w64 (j+1))
 some (.inl (n,f,q,r,t,l,b,s,a,e,g,m,p))) none) none) (
 some (.inr (q,r,t,l,b,g,i,p)))
def j6t [LP] (l m i g:Int) (n:ByteArray) (d:Tn62) (c:Tn31) (f a b:Int) (k:(List Int)) (j e:Tn15):Option ((Int×Int×ByteArray×Tn62×Tn31×(List Int)×Tn15×Tn15)):=
 LP.lp (jq1 (j1Q)) (l,m,i,g,n,d,c,f,a,b,k,j,e)
def j1R [LP] (k b:Int) (p:ByteArray) (o:Tn62) (n:Tn31) (m:(List Int)) (l d:Tn15):Option ((Int×Int×ByteArray×Tn62×Tn31×(List Int)×Tn15×Tn15) ⊕ (Tn15)):=
 cond (decide (b<k)) (
 cond (inR b (List.length d)) (
 let c:=(List.getD d (Int.toNat b) (0,(0,0))).1
 let i:=(List.getD d (Int.toNat b) (0,(0,0))).2.1
 let f:=(List.getD d (Int.toNat b) (0,(0,0))).2.2
 let g:=(w64 (c+1))
 (j1b m g).bind fun j=>
 (j6t j.1 c k b p o n c i f m l d).bind fun a=>
 let e:=(w64 (a.2.1+1))
 some (.inl (a.1,e,a.2.2.1,a.2.2.2.1,a.2.2.2.2.1,a.2.2.2.2.2.1,a.2.2.2.2.2.2.1,a.2.2.2.2.2.2.2))) none) (
 some (.inr l))
def j6u [LP] (e d:Int) (i:ByteArray) (b:Tn62) (a:Tn31) (g:(List Int)) (f c:Tn15):Option (Tn15):=
 LP.lp (unc8 (j1R)) (e,d,i,b,a,g,f,c)
def j3S [LP] (b:Tn75) (c:Tn66) (d e:Int):Option (Tn15):=
 let g:=(Int.ofNat (List.length c.2.2))
 (j6s d e c.2.2 g 0 b.1.1 b.1.2.1 b.1.2.2.1 b.1.2.2.2 b.2 c.1 c.2.1 c.2.2 ([]:(List Int))).bind fun a=>
 (jb1 a.2.2.2.2.2.2.2.2.2.2 a.1 a.2.1).bind fun k=>
 (j4o ((a.2.2.1,(a.2.2.2.1,(a.2.2.2.2.1,a.2.2.2.2.2.1))),a.2.2.2.2.2.2.1) (a.2.2.2.2.2.2.2.1,(a.2.2.2.2.2.2.2.2.1,a.2.2.2.2.2.2.2.2.2.1)) a.1 a.2.1).bind fun f=>
 let i:=(Int.ofNat (List.length f))
 (j6u i 0 a.2.2.2.2.2.2.2.1 a.2.2.2.2.2.2.2.2.1 a.2.2.2.2.2.2.2.2.2.1 k ([]:Tn15) f).bind fun l=>
 (j79 l).bind fun j=>
 some j
def j6X (j:Int) (i:Tn15) (k b:Int) (d:Tn2):Option ((Int×Tn15×Int×Int×Tn2) ⊕ (Tn2)):=
 cond (decide (b<k)) (
 cond (inR b (List.length i)) (
 let a:=(List.getD i (Int.toNat b) (0,(0,0)))
 cond (a.2.2==j) (
 let c:Tn2:=[(a.1,a.2.1)]
 cond (decide (List.length d+List.length c≤j0n)) (
 let e:Tn2:=(d++c)
 let g:=(w64 (b+1))
 some (.inl (j,i,k,g,e))) none) (
 let f:=(w64 (b+1))
 some (.inl (j,i,k,f,d)))) none) (
 some (.inr d))
def j7a [LP] (b:Int) (e:Tn15) (d a:Int) (c:Tn2):Option (Tn2):=
 LP.lp (unc5 (j6X)) (b,e,d,a,c)
def j5z [LP] (b:Tn15) (a:Int):Option (Tn2):=
 let e:=(Int.ofNat (List.length b))
 (j7a a b e 0 ([]:Tn2)).bind fun d=>
 (j4w d).bind fun c=>
 some c
def j2m [LP] (q s p:Int) (k:Tn67) (o b:Int) (r:Tn56) (f:Tn50) (j:Tn27) (g:Tn67) (i:Tn21) (e:Tn2):Option ((Int×Int×Int×Tn67×Int×Int×Tn56×Tn50×Tn27×Tn67×Tn21×Tn2) ⊕ (Int ⊕ Tn2)):=
 cond (decide (b<o)) (
 cond (inR b (List.length k)) (
 let a:=(List.getD k (Int.toNat b) (ByteArray.empty,(([]:Tn62),([]:Tn31))))
 (j3S ((r,(f,(j,g))),i) (a.1,(a.2.1,a.2.2)) s p).bind fun c=>
 let l:=(Int.ofNat (List.length c))
 cond (decide (l>16384)) (
 some (.inr (.inl 5))) (
 (j5z c q).bind fun d=>
 cond (decide (List.length e+List.length d≤j0n)) (
 let n:Tn2:=(e++d)
 let m:=(w64 (b+1))
 some (.inl (q,s,p,k,o,m,r,f,j,g,i,n))) none)) none) (
 some (.inr (.inr e)))
def j7Z [LP] (k m j:Int) (i:Tn67) (g f:Int) (l:Tn56) (a:Tn50) (d:Tn27) (b:Tn67) (c:Tn21) (e:Tn2):Option (Int ⊕ Tn2):=
 LP.lp (jpB (j2m)) (k,m,j,i,g,f,l,a,d,b,c,e)
def j4X [LP] (a:Tn75) (b c d:Int):Option (Tn2×Int):=
 let f:=(Int.ofNat (List.length a.1.2.2.2))
 (j7Z b c d a.1.2.2.2 f 0 a.1.1 a.1.2.1 a.1.2.2.1 a.1.2.2.2 a.2 ([]:Tn2)).bind fun i=>
 sumC i (fun j=>
 some (([]:Tn2),j)) (fun k=>
 (j4w k).bind fun e=>
 let g:=(Int.ofNat (List.length e))
 cond (decide (g>4096)) (
 some (([]:Tn2),5)) (
 some (e,0)))
def j6v (c d:Tn15) (q p b a:Int) (o:Tn31):Option ((Tn15×Tn15×Int×Int×Int×Int×Tn31) ⊕ (Tn31)):=
 let a1:=(Int.ofNat (List.length c))
 let x:=(Int.ofNat (List.length d))
 cond (cond (decide (b<a1)) (decide (a<x)) false) (
 cond (inR b (List.length c)) (
 let j:=(List.getD c (Int.toNat b) (0,(0,0)))
 cond (inR a (List.length d)) (
 let f:=(List.getD d (Int.toNat a) (0,(0,0)))
 let k:Int:=(if f.1>j.1 then f.1 else j.1:Int)
 cond (inR b (List.length c)) (
 let i:=(List.getD c (Int.toNat b) (0,(0,0)))
 cond (inR a (List.length d)) (
 let g:=(List.getD d (Int.toNat a) (0,(0,0)))
 let l:Int:=(if g.2.1<i.2.1 then g.2.1 else i.2.1:Int)
 cond (inR b (List.length c)) (
 let e:=(List.getD c (Int.toNat b) (0,(0,0)))
 cond ((inR a (List.length d)) || !(decide (e.2.2≥0))) (
 let a2:=(List.getD d (Int.toNat a) (0,(0,0)))
 let r:Bool:=(cond (cond (decide (e.2.2≥0)) (e.2.2==a2.2.2) false) (decide (k<l)) false)
 cond r (
 let n:Tn31:=[(e.2.2,(q,(p,(k,l))))]
 cond (decide (List.length o+List.length n≤j0n)) (
 let m:Tn31:=(o++n)
 cond (inR b (List.length c)) (
 let s:=(List.getD c (Int.toNat b) (0,(0,0)))
 cond (inR a (List.length d)) (
 let y:=(List.getD d (Int.toNat a) (0,(0,0)))
 cond (decide (s.2.1<y.2.1)) (
 let z:=(w64 (b+1))
 some (.inl (c,d,q,p,z,a,m))) (
 let u:=(w64 (a+1))
 some (.inl (c,d,q,p,b,u,m)))) none) none) none) (
 cond (inR b (List.length c)) (
 let w:=(List.getD c (Int.toNat b) (0,(0,0)))
 cond (inR a (List.length d)) (
 let t:=(List.getD d (Int.toNat a) (0,(0,0)))
 cond (decide (w.2.1<t.2.1)) (
 let v:=(w64 (b+1))
 some (.inl (c,d,q,p,v,a,o))) (
 let a0:=(w64 (a+1))
 some (.inl (c,d,q,p,b,a0,o)))) none) none)) none) none) none) none) none) none) (
 some (.inr o))
def j6w [LP] (e d:Tn15) (f c b a:Int) (g:Tn31):Option (Tn31):=
 LP.lp (unc7 (j6v)) (e,d,f,c,b,a,g)
def j4K [LP] (a b:Tn15) (d c:Int):Option (Tn31):=
 (j6w a b d c 0 0 ([]:Tn31)).bind fun e=>
 some e
def j9j (b a:Tn25):Option (Int):=
 let c:=(w64 (b.2.2.2.1-a.2.2.2.1))
 some c
def j1D (a1 a5 a6 b:Int) (a:Tn31):Option ((Int×Int×Int×Int×Tn31) ⊕ ((Int×Int×Int×Tn31))):=
 cond (decide (b>a1)) (
 cond (inR b (List.length a)) (
 let o:=(List.getD a (Int.toNat b) (0,(0,(0,(0,0))))).1
 let s:=(List.getD a (Int.toNat b) (0,(0,(0,(0,0))))).2.1
 let v:=(List.getD a (Int.toNat b) (0,(0,(0,(0,0))))).2.2.1
 let m:=(List.getD a (Int.toNat b) (0,(0,(0,(0,0))))).2.2.2.1
 let z:=(List.getD a (Int.toNat b) (0,(0,(0,(0,0))))).2.2.2.2
 let c:=(w64 (b-1))
 cond (inR c (List.length a)) (
 let j:=(List.getD a (Int.toNat c) (0,(0,(0,(0,0))))).1
 let a2:=(List.getD a (Int.toNat c) (0,(0,(0,(0,0))))).2.1
 let r:=(List.getD a (Int.toNat c) (0,(0,(0,(0,0))))).2.2.1
 let a3:=(List.getD a (Int.toNat c) (0,(0,(0,(0,0))))).2.2.2.1
 let g:=(List.getD a (Int.toNat c) (0,(0,(0,(0,0))))).2.2.2.2
 (j9j (o,(s,(v,(m,z)))) (j,(a2,(r,(a3,g))))).bind fun u=>
 cond (decide (u<0)) (
 let e:=(w64 (b-1))
 let d:=(w64 (b-1))
 cond (inR d (List.length a)) (
 let n:=(List.getD a (Int.toNat d) (0,(0,(0,(0,0))))).1
 let p:=(List.getD a (Int.toNat d) (0,(0,(0,(0,0))))).2.1
 let l:=(List.getD a (Int.toNat d) (0,(0,(0,(0,0))))).2.2.1
 let y:=(List.getD a (Int.toNat d) (0,(0,(0,(0,0))))).2.2.2.1
 let k:=(List.getD a (Int.toNat d) (0,(0,(0,(0,0))))).2.2.2.2
 cond (inR b (List.length a)) (
 let a0:=(List.getD a (Int.toNat b) (0,(0,(0,(0,0))))).1
 let i:=(List.getD a (Int.toNat b) (0,(0,(0,(0,0))))).2.1
 let t:=(List.getD a (Int.toNat b) (0,(0,(0,(0,0))))).2.2.1
 let a4:=(List.getD a (Int.toNat b) (0,(0,(0,(0,0))))).2.2.2.1
 let q:=(List.getD a (Int.toNat b) (0,(0,(0,(0,0))))).2.2.2.2
 cond (inR b (List.length a)) (
 let f:Tn31:=(List.set a (Int.toNat b) (n,(p,(l,(y,k)))))
 cond (inR e (List.length f)) (
 let w:Tn31:=(List.set f (Int.toNat e) (a0,(i,(t,(a4,q)))))
 let x:=(w64 (b-1))
 some (.inl (a1,a5,a6,x,w))) none) none) none) none) (
 some (.inr (a1,a5,a6,a)))) none) none) (
 some (.inr (a1,a5,a6,a)))
def j0Z [LP] (a b e c:Int) (d:Tn31):Option ((Int×Int×Int×Tn31)):=
 LP.lp (unc5 (j1D)) (a,b,e,c,d)
def j0e [LP] (f d c:Int) (e:Tn31):Option ((Int×Int×Int×Tn31) ⊕ (Tn31)):=
 cond (decide (c<d)) (
 (j0Z f d c c e).bind fun a=>
 let b:=(w64 (a.2.2.1+1))
 some (.inl (a.1,a.2.1,b,a.2.2.2))) (
 some (.inr e))
def j10 [LP] (b a d:Int) (c:Tn31):Option (Tn31):=
 LP.lp (unc4 (j0e)) (b,a,d,c)
def j0i [LP] (a:Tn31) (b c:Int):Option (Tn31):=
 let d:=(w64 (b+1))
 (j10 b c d a).bind fun e=>
 some e
def j0o [LP] (d e f c:Int) (g:Tn31):Option ((Int×Int×Int×Int×Tn31) ⊕ ((Int×Int×Int×Tn31))):=
 cond (decide (c≤d)) (
 (j0i g f c).bind fun a=>
 let b:=(w64 (c+e))
 some (.inl (d,e,c,b,a))) (
 some (.inr (d,e,f,g)))
def j1S [LP] (a d b e:Int) (c:Tn31):Option ((Int×Int×Int×Tn31)):=
 LP.lp (unc5 (j0o)) (a,d,b,e,c)
def j2s (a c b f:Int) (e:Tn31):Option ((Int×Int×Int×Int×Tn31) ⊕ ((Int×Int×Int×Tn31))):=
 cond (decide (f≤a)) (
 let d:=(w64 (b+c))
 none) (
 some (.inr (a,c,b,e)))
def j1T [LP] (a d b e:Int) (c:Tn31):Option ((Int×Int×Int×Tn31)):=
 LP.lp (unc5 (j2s)) (a,d,b,e,c)
def j0p [LP] (f e:Int) (g:Tn31):Option ((Int×Int×Tn31) ⊕ (Tn31)):=
 cond (decide (e<f)) (
 let b:=(w64 (2*e))
 (j1T f e 0 b g).bind fun a=>
 let c:=(w64 (a.2.2.1+a.2.1))
 cond (decide (c<a.1)) (
 none) (
 let d:=(w64 (a.2.1*2))
 some (.inl (a.1,d,a.2.2.2)))) (
 some (.inr g))
def j1U [LP] (b a:Int) (c:Tn31):Option (Tn31):=
 LP.lp (unc3 (j0p)) (b,a,c)
def j0V [LP] (a:Tn31) (c:Int):Option (Tn31):=
 (j1S c 20 0 20 a).bind fun b=>
 (j0i b.2.2.2 b.2.2.1 b.1).bind fun d=>
 (j1U b.1 b.2.1 d).bind fun e=>
 some e
def j0k [LP] (a:Tn31):Option (Tn31):=
 let c:=(Int.ofNat (List.length a))
 (j0V a c).bind fun b=>
 some b
def j1E [LP] (p q:Int) (g:Tn67) (n c:Int) (o:Tn56) (f:Tn50) (d:Tn27) (j:Tn67) (e:Tn21) (i:Tn22):Option ((Int×Int×Tn67×Int×Int×Tn56×Tn50×Tn27×Tn67×Tn21×Tn22) ⊕ (Int ⊕ Tn22)):=
 cond (decide (c<n)) (
 cond (inR c (List.length g)) (
 let b:=(List.getD g (Int.toNat c) (ByteArray.empty,(([]:Tn62),([]:Tn31))))
 (j3S ((o,(f,(d,j))),e) (b.1,(b.2.1,b.2.2)) p q).bind fun a=>
 let k:=(Int.ofNat (List.length a))
 cond (decide (k>16384)) (
 some (.inr (.inl 5))) (
 cond (decide (List.length i+List.length [a]≤j0n)) (
 let l:Tn22:=(i++[a])
 let m:=(w64 (c+1))
 some (.inl (p,q,g,n,m,o,f,d,j,e,l))) none)) none) (
 some (.inr (.inr i)))
def j5Z [LP] (k l:Int) (g:Tn67) (e f:Int) (j:Tn56) (c:Tn50) (a:Tn27) (d:Tn67) (b:Tn21) (i:Tn22):Option (Int ⊕ Tn22):=
 LP.lp (jqf (j1E)) (k,l,g,e,f,j,c,a,d,b,i)
def j1F [LP] (c b m l:Int) (a:Tn22) (e:Tn31):Option ((Int×Int×Int×Int×Tn22×Tn31) ⊕ ((Int×Int×Tn22×Tn31))):=
 let k:=(Int.ofNat (List.length a))
 cond (decide (b<k)) (
 cond (inR c (List.length a)) (
 let g:=(List.getD a (Int.toNat c) ([]:Tn15))
 cond (inR b (List.length a)) (
 let j:=(List.getD a (Int.toNat b) ([]:Tn15))
 (j4K g j c b).bind fun d=>
 cond (decide (List.length e+List.length d≤j0n)) (
 let f:Tn31:=(e++d)
 let i:=(w64 (b+1))
 some (.inl (c,i,m,l,a,f))) none) none) none) (
 some (.inr (m,l,a,e)))
def j60 [LP] (b e d c:Int) (f:Tn22) (a:Tn31):Option ((Int×Int×Tn22×Tn31)):=
 LP.lp (unc6 (j1F)) (b,e,d,c,f,a)
def j1G [LP] (f b:Int) (g:Tn22) (e:Tn31):Option ((Int×Int×Tn22×Tn31) ⊕ (Tn31)):=
 cond (decide (b<f)) (
 let d:=(w64 (b+1))
 (j60 b d f b g e).bind fun a=>
 let c:=(w64 (a.2.1+1))
 some (.inl (a.1,c,a.2.2.1,a.2.2.2))) (
 some (.inr e))
def j61 [LP] (d c:Int) (b:Tn22) (a:Tn31):Option (Tn31):=
 LP.lp (unc4 (j1G)) (d,c,b,a)
def j4p [LP] (a:Tn73) (c d:Int):Option (Tn31×Int):=
 (jfJ (a.1,(a.2.1,(a.2.2.1,a.2.2.2)))).bind fun b=>
 cond (!b.2) (
 some (([]:Tn31),8)) (
 (jfK c d).bind fun f=>
 cond (!f) (
 some (([]:Tn31),1)) (
 let e:=(Int.ofNat (List.length a.2.2.2))
 (j5Z c d a.2.2.2 e 0 b.1.1.1 b.1.1.2.1 b.1.1.2.2.1 b.1.1.2.2.2 b.1.2 ([]:Tn22)).bind fun l=>
 sumC l (fun n=>
 some (([]:Tn31),n)) (fun m=>
 let i:=(Int.ofNat (List.length m))
 (j61 i 0 m ([]:Tn31)).bind fun j=>
 let k:=(Int.ofNat (List.length j))
 cond (decide (k>16384)) (
 some (([]:Tn31),5)) (
 (j0k j).bind fun g=>
 some (g,0)))))
def j7E (e m:Int) (l:Tn2) (n d:Int):Option ((Int×Int×Tn2×Int×Int) ⊕ (Int)):=
 cond (decide (d<n)) (
 cond (inR d (List.length l)) (
 let a:=(List.getD l (Int.toNat d) (0,0))
 let f:Int:=(if e<a.2 then e else a.2:Int)
 let b:=(w64 (e-604800))
 let g:Int:=(if b>a.1 then b else a.1:Int)
 let c:=(w64 (f-g))
 let k:Int:=(if c>0 then c else 0:Int)
 let i:=(w64 (m+k))
 let j:=(w64 (d+1))
 some (.inl (e,i,l,n,j))) none) (
 some (.inr m))
def j80 [LP] (c b:Int) (e:Tn2) (d a:Int):Option (Int):=
 LP.lp (unc5 (j7E)) (c,b,e,d,a)
def j4Y [LP] (a:Tn2) (b:Int):Option (Int):=
 let c:=(Int.ofNat (List.length a))
 (j80 b 0 a c 0).bind fun d=>
 some d
def j8v (n:Tn2) (m o l:Int) (d:Tn2) (j c:Int) (k:(List Int)):Option ((Tn2×Int×Int×Int×Tn2×Int×Int×(List Int)) ⊕ ((Tn2×Int×Int×Int×(List Int)))):=
 cond (decide (c<j)) (
 cond (inR c (List.length d)) (
 let a:=(List.getD d (Int.toNat c) (0,0))
 let g:=(w64 (a.1+604800))
 let i:=(w64 (a.2+604800))
 let b:(List Int):=[a.1,a.2,g,i]
 cond (decide (List.length k+List.length b≤j0n)) (
 let f:(List Int):=(k++b)
 let e:=(w64 (c+1))
 some (.inl (n,m,o,l,d,j,e,f))) none) none) (
 some (.inr (n,m,o,l,k)))
def j9k [LP] (f:Tn2) (e g d:Int) (c:Tn2) (a b:Int) (i:(List Int)):Option ((Tn2×Int×Int×Int×(List Int))):=
 LP.lp (unc8 (j8v)) (f,e,g,d,c,a,b,i)
def j2E [LP] (k:Tn2) (g q i b:Int) (f c:(List Int)):Option ((Tn2×Int×Int×Int×Int×(List Int)×(List Int)) ⊕ ((List Int))):=
 cond (decide (b<i)) (
 cond (inR b (List.length c)) (
 let a:=(List.getD c (Int.toNat b) 0)
 (j4Y k q).bind fun e=>
 (j4Y k a).bind fun m=>
 cond (cond (decide (e≤g)) (decide (m>g)) false) (
 let n:=(w64 (q+g))
 let o:=(w64 (n-e))
 let d:=(w64 (o+1))
 cond (decide (List.length f+List.length [d]≤j0n)) (
 let j:(List Int):=(f++[d])
 let l:=(w64 (b+1))
 some (.inl (k,g,a,i,l,j,c))) none) (
 let p:=(w64 (b+1))
 some (.inl (k,g,a,i,p,f,c)))) none) (
 some (.inr f))
def j9l [LP] (g:Tn2) (f c d b:Int) (e a:(List Int)):Option ((List Int)):=
 LP.lp (unc7 (j2E)) (g,f,c,d,b,e,a)
def j7F [LP] (a:Tn2) (c b e:Int):Option ((List Int)):=
 let g:=(Int.ofNat (List.length a))
 (j9k a c b e a g 0 ([]:(List Int))).bind fun d=>
 (jb1 d.2.2.2.2 d.2.2.1 d.2.2.2.1).bind fun f=>
 let i:=(Int.ofNat (List.length f))
 (j9l d.1 d.2.1 d.2.2.1 i 0 ([]:(List Int)) f).bind fun j=>
 some j
def j8w (a:Tn2) (m b:Int) (g:(List Int)):Option ((Tn2×Int×Int×(List Int)) ⊕ ((List Int))):=
 let n:=(Int.ofNat (List.length a))
 cond (decide (b<n)) (
 cond (inR b (List.length a)) (
 let i:=(List.getD a (Int.toNat b) (0,0))
 let d:=(w64 (b-1))
 cond (inR d (List.length a)) (
 let e:=(List.getD a (Int.toNat d) (0,0))
 let f:=(w64 (i.1-e.2))
 cond (decide (f<m)) (
 cond (inR b (List.length a)) (
 let c:=(List.getD a (Int.toNat b) (0,0))
 cond (decide (List.length g+List.length [c.1]≤j0n)) (
 let k:(List Int):=(g++[c.1])
 let j:=(w64 (b+1))
 some (.inl (a,m,j,k))) none) none) (
 let l:=(w64 (b+1))
 some (.inl (a,m,l,g)))) none) none) (
 some (.inr g))
def j9m [LP] (a:Tn2) (c d:Int) (b:(List Int)):Option ((List Int)):=
 LP.lp (unc4 (j8w)) (a,c,d,b)
def j6e [LP] (b:Tn2) (a:Int):Option ((List Int)):=
 (j9m b a 1 ([]:(List Int))).bind fun c=>
 some c
def j32 (b:Tn75) (a:Int):Option (Tn14):=
 cond (inR a (List.length b.2)) (
 let c:=(List.getD b.2 (Int.toNat a) (0,([]:Tn2)))
 some (c.1,c.2)) none
def j7G (f:Tn2) (g d:Int) (e:(List Int)):Option ((Tn2×Int×Int×(List Int)) ⊕ ((List Int))):=
 cond (decide (d<g)) (
 cond (inR d (List.length f)) (
 let a:=(List.getD f (Int.toNat d) (0,0))
 cond (decide (List.length e+List.length [a.1]≤j0n)) (
 let b:(List Int):=(e++[a.1])
 let c:=(w64 (d+1))
 some (.inl (f,g,c,b))) none) none) (
 some (.inr e))
def j81 [LP] (a:Tn2) (b d:Int) (c:(List Int)):Option ((List Int)):=
 LP.lp (unc4 (j7G)) (a,b,d,c)
def j3p [LP] (a:Tn2):Option ((List Int)):=
 let b:=(Int.ofNat (List.length a))
 (j81 a b 0 ([]:(List Int))).bind fun c=>
 some c
def jaf (b a:Tn3):Option (Int):=
 cond (b.2.2 != a.2.2) (
 let c:=(w64 (b.2.2-a.2.2))
 some c) (
 cond (b.1 != a.1) (
 let d:=(w64 (b.1-a.1))
 some d) (
 let e:=(w64 (b.2.1-a.2.1))
 some e))
def j00 (a:Tn15):Option (Tn15):=
 jlv ((.pair (.int .i64) (.pair (.int .i64) (.int .i64)))) (fun c b=>(jaf c b).getD 0) a
def j1g (e b c:Int) (a:Tn15):Option ((Int×Int×Int×Tn15) ⊕ ((Int×Tn15))):=
 let i:=(Int.ofNat (List.length a-(Int.toNat b)))
 cond (decide (c<i)) (
 cond (inR c (List.length a-(Int.toNat b))) (
 let j:=(List.getD a ((Int.toNat b)+(Int.toNat c)) (0,(0,0))).1
 let q:=(List.getD a ((Int.toNat b)+(Int.toNat c)) (0,(0,0))).2.1
 let p:=(List.getD a ((Int.toNat b)+(Int.toNat c)) (0,(0,0))).2.2
 let d:=(w64 (c-1))
 cond (inR d (List.length a-(Int.toNat b))) (
 let g:=(List.getD a ((Int.toNat b)+(Int.toNat d)) (0,(0,0))).1
 let f:=(List.getD a ((Int.toNat b)+(Int.toNat d)) (0,(0,0))).2.1
 let k:=(List.getD a ((Int.toNat b)+(Int.toNat d)) (0,(0,0))).2.2
 cond (!((j==g)&&((q==f)&&(p==k)))) (
 cond (inR c (List.length a-(Int.toNat b))) (
 let l:=(List.getD a ((Int.toNat b)+(Int.toNat c)) (0,(0,0))).1
 let s:=(List.getD a ((Int.toNat b)+(Int.toNat c)) (0,(0,0))).2.1
 let o:=(List.getD a ((Int.toNat b)+(Int.toNat c)) (0,(0,0))).2.2
 cond (inR e (List.length a)) (
 let t:Tn15:=(List.set a (Int.toNat e) (l,(s,o)))
 let n:=(w64 (e+1))
 let m:=(w64 (c+1))
 some (.inl (n,(Int.ofNat (Int.toNat b)),m,t))) none) none) (
 let r:=(w64 (c+1))
 some (.inl (e,(Int.ofNat (Int.toNat b)),r,a)))) none) none) (
 some (.inr (e,a)))
def j0O [LP] (a d b:Int) (c:Tn15):Option ((Int×Tn15)):=
 LP.lp (unc4 (j1g)) (a,d,b,c)
def j0a [LP] (d:Int) (b:Tn15):Option ((Int×Tn15) ⊕ ((Int×Tn15) ⊕ Tn15)):=
 let j:=(Int.ofNat (List.length b))
 cond (decide (d<j)) (
 cond (inR d (List.length b)) (
 let f:=(List.getD b (Int.toNat d) (0,(0,0))).1
 let g:=(List.getD b (Int.toNat d) (0,(0,0))).2.1
 let l:=(List.getD b (Int.toNat d) (0,(0,0))).2.2
 let c:=(w64 (d-1))
 cond (inR c (List.length b)) (
 let m:=(List.getD b (Int.toNat c) (0,(0,0))).1
 let k:=(List.getD b (Int.toNat c) (0,(0,0))).2.1
 let i:=(List.getD b (Int.toNat c) (0,(0,0))).2.2
 cond ((f==m)&&((g==k)&&(l==i))) (
 cond (decide (0≤d)&&decide (d≤(Int.ofNat (List.length b)))) (
 (j0O d (Int.ofNat (Int.toNat d)) 1 b).bind fun a=>
 cond (decide (0≤a.1)&&decide (a.1≤(Int.ofNat (List.length a.2)))) (
 let e:Tn15:=(List.take (Int.toNat a.1) a.2++List.replicate (List.length a.2-(Int.toNat a.1)) (0,(0,0)))
 cond (decide (0≤a.1)&&decide (a.1≤(Int.ofNat (List.length e)))) (
 some (.inr (.inl ((Int.ofNat (Int.toNat a.1)),e)))) none) none) none) (
 let n:=(w64 (d+1))
 some (.inl (n,b)))) none) none) (
 some (.inr (.inr b)))
def j0P [LP] (a:Int) (b:Tn15):Option ((Int×Tn15) ⊕ Tn15):=
 LP.lp (unc2 (j0a)) (a,b)
def j02 [LP] (a:Tn15):Option (Int×Tn15):=
 let b:=(Int.ofNat (List.length a))
 cond (decide (b<2)) (
 some ((Int.ofNat (List.length a)),a)) (
 (j0P 1 a).bind fun c=>
 sumC c (fun d=>
 some ((Int.ofNat (Int.toNat d.1)),d.2)) (fun e=>
 some ((Int.ofNat (List.length e)),e)))
def j5A (g c a:Int) (d:(List (List Int))) (b:Tn31):Option ((Int×Int×Int×(List (List Int))×Tn31) ⊕ ((Int×(List (List Int))))):=
 cond (decide (a<c)) (
 cond (inR a (List.length b)) (
 let f:=(List.getD b (Int.toNat a) (0,(0,(0,(0,0))))).1
 let m:=(List.getD b (Int.toNat a) (0,(0,(0,(0,0))))).2.1
 let j:=(List.getD b (Int.toNat a) (0,(0,(0,(0,0))))).2.2.1
 let k:=(List.getD b (Int.toNat a) (0,(0,(0,(0,0))))).2.2.2.1
 let l:=(List.getD b (Int.toNat a) (0,(0,(0,(0,0))))).2.2.2.2
 cond (f==g) (
 let i:=(List.getD d 3 ([]:(List Int)))
 none) (
 let e:=(w64 (a+1))
 some (.inl (g,c,e,d,b)))) none) (
 some (.inr (g,d)))
def j0v [LP] (e a c:Int) (d:(List (List Int))) (b:Tn31):Option ((Int×(List (List Int)))):=
 LP.lp (unc5 (j5A)) (e,a,c,d,b)
def j5B (m l:Int) (g:(List (List Int))) (i:Int) (c:(List Int)) (d a:Int) (e:Tn15):Option ((Int×Int×(List (List Int))×Int×(List Int)×Int×Int×Tn15) ⊕ ((Int×(List (List Int))×Int×Tn15))):=
 cond (decide (a<d)) (
 cond (inR a (List.length c)) (
 let f:=(List.getD c (Int.toNat a) 0)
 let b:Tn15:=[(l,(m,f))]
 cond (decide (List.length e+List.length b≤j0n)) (
 let k:Tn15:=(e++b)
 let j:=(w64 (a+1))
 some (.inl (m,l,g,i,c,d,j,k))) none) none) (
 some (.inr (m,g,i,e)))
def j5c [LP] (i g:Int) (d:(List (List Int))) (e:Int) (b:(List Int)) (a c:Int) (f:Tn15):Option ((Int×(List (List Int))×Int×Tn15)):=
 LP.lp (unc8 (j5B)) (i,g,d,e,b,a,c,f)
def j1r [LP] (i:Int) (f:(List (List Int))) (a:Int) (g:Tn15):Option ((Int×(List (List Int))×Int×Tn15) ⊕ (Tn15)):=
 cond (decide (a<4)) (
 cond (inR a 4) (
 let c:=(List.getD f (Int.toNat a) ([]:(List Int)))
 let d:=(Int.ofNat (List.length c))
 (j5c i a f a c d 0 g).bind fun b=>
 let e:=(w64 (b.2.2.1+1))
 some (.inl (b.1,b.2.1,e,b.2.2.2))) none) (
 some (.inr g))
def j0w [LP] (d:Int) (b:(List (List Int))) (a:Int) (c:Tn15):Option (Tn15):=
 LP.lp (unc4 (j1r)) (d,b,a,c)
def j08 [LP] (g:Tn73) (a c f:Int):Option (Tn15×Int):=
 (j5V (g.1,(g.2.1,(g.2.2.1,g.2.2.2))) a c f).bind fun b=>
 cond (b.2 != 0) (
 some (([]:Tn15),b.2)) (
 (j4X ((b.1.1.1,(b.1.1.2.1,(b.1.1.2.2.1,b.1.1.2.2.2))),b.1.2) a c f).bind fun i=>
 cond (i.2 != 0) (
 some (([]:Tn15),i.2)) (
 (j4p (g.1,(g.2.1,(g.2.2.1,g.2.2.2))) c f).bind fun e=>
 cond (e.2 != 0) (
 some (([]:Tn15),e.2)) (
 cond (inR a (List.length g.2.1)) (
 let d:=(List.getD g.2.1 (Int.toNat a) (ByteArray.empty,(0,(([]:Tn2),(0,(0,false))))))
 let a2:(List (List Int)):=[([]:(List Int)),([]:(List Int)),([]:(List Int)),([]:(List Int))]
 let i0:(List (List Int)):=(List.replicate 4 ([]:(List Int)))
 cond (d.2.2.2.1 != 0) (
 (j7F i.1 d.2.2.2.1 c f).bind fun g4=>
 let f1:(List (List Int)):=(List.set a2 0 g4)
 cond (d.2.2.2.2.1 != 0) (
 (j6e i.1 d.2.2.2.2.1).bind fun g1=>
 let g2:(List (List Int)):=(List.set f1 1 g1)
 cond (!d.2.2.2.2.2) (
 (j32 ((b.1.1.1,(b.1.1.2.1,(b.1.1.2.2.1,b.1.1.2.2.2))),b.1.2) d.2.1).bind fun e6=>
 (j3m (e6.1,e6.2) d.2.2.1 c f).bind fun g7=>
 (j3B i.1 g7).bind fun e5=>
 let g5:=(Int.ofNat (List.length e5))
 cond (decide (g5>4096)) (
 some (([]:Tn15),5)) (
 (j3p e5).bind fun g3=>
 let g8:(List (List Int)):=(List.set g2 2 g3)
 let f8:=(Int.ofNat (List.length e.1))
 (j0v a f8 0 g8 e.1).bind fun g6=>
 (j0w g6.1 g6.2 0 ([]:Tn15)).bind fun g9=>
 (j00 g9).bind fun e7=>
 (j02 e7).bind fun b9=>
 let c5:Tn15:=(List.take (Int.toNat b9.1) b9.2)
 let f5:=(Int.ofNat (List.length c5))
 cond (decide (f5>16384)) (
 some (([]:Tn15),5)) (
 some (c5,0)))) (
 let c6:=(Int.ofNat (List.length e.1))
 (j0v a c6 0 g2 e.1).bind fun c1=>
 (j0w c1.1 c1.2 0 ([]:Tn15)).bind fun f0=>
 (j00 f0).bind fun c7=>
 (j02 c7).bind fun n=>
 let m:Tn15:=(List.take (Int.toNat n.1) n.2)
 let c0:=(Int.ofNat (List.length m))
 cond (decide (c0>16384)) (
 some (([]:Tn15),5)) (
 some (m,0)))) (
 cond (!d.2.2.2.2.2) (
 (j32 ((b.1.1.1,(b.1.1.2.1,(b.1.1.2.2.1,b.1.1.2.2.2))),b.1.2) d.2.1).bind fun y=>
 (j3m (y.1,y.2) d.2.2.1 c f).bind fun e2=>
 (j3B i.1 e2).bind fun a3=>
 let e1:=(Int.ofNat (List.length a3))
 cond (decide (e1>4096)) (
 some (([]:Tn15),5)) (
 (j3p a3).bind fun d9=>
 let f9:(List (List Int)):=(List.set f1 2 d9)
 let d1:=(Int.ofNat (List.length e.1))
 (j0v a d1 0 f9 e.1).bind fun b6=>
 (j0w b6.1 b6.2 0 ([]:Tn15)).bind fun f4=>
 (j00 f4).bind fun a5=>
 (j02 a5).bind fun w=>
 let q:Tn15:=(List.take (Int.toNat w.1) w.2)
 let a9:=(Int.ofNat (List.length q))
 cond (decide (a9>16384)) (
 some (([]:Tn15),5)) (
 some (q,0)))) (
 let d4:=(Int.ofNat (List.length e.1))
 (j0v a d4 0 f1 e.1).bind fun a7=>
 (j0w a7.1 a7.2 0 ([]:Tn15)).bind fun g0=>
 (j00 g0).bind fun a6=>
 (j02 a6).bind fun l=>
 let u:Tn15:=(List.take (Int.toNat l.1) l.2)
 let a8:=(Int.ofNat (List.length u))
 cond (decide (a8>16384)) (
 some (([]:Tn15),5)) (
 some (u,0))))) (
 cond (d.2.2.2.2.1 != 0) (
 (j6e i.1 d.2.2.2.2.1).bind fun d8=>
 let c9:(List (List Int)):=(List.set a2 1 d8)
 cond (!d.2.2.2.2.2) (
 (j32 ((b.1.1.1,(b.1.1.2.1,(b.1.1.2.2.1,b.1.1.2.2.2))),b.1.2) d.2.1).bind fun a1=>
 (j3m (a1.1,a1.2) d.2.2.1 c f).bind fun d7=>
 (j3B i.1 d7).bind fun a0=>
 let e0:=(Int.ofNat (List.length a0))
 cond (decide (e0>4096)) (
 some (([]:Tn15),5)) (
 (j3p a0).bind fun d6=>
 let f3:(List (List Int)):=(List.set c9 2 d6)
 let d2:=(Int.ofNat (List.length e.1))
 (j0v a d2 0 f3 e.1).bind fun b1=>
 (j0w b1.1 b1.2 0 ([]:Tn15)).bind fun f7=>
 (j00 f7).bind fun c8=>
 (j02 c8).bind fun k=>
 let r:Tn15:=(List.take (Int.toNat k.1) k.2)
 let b8:=(Int.ofNat (List.length r))
 cond (decide (b8>16384)) (
 some (([]:Tn15),5)) (
 some (r,0)))) (
 let b4:=(Int.ofNat (List.length e.1))
 (j0v a b4 0 c9 e.1).bind fun c3=>
 (j0w c3.1 c3.2 0 ([]:Tn15)).bind fun f2=>
 (j00 f2).bind fun c4=>
 (j02 c4).bind fun t=>
 let o:Tn15:=(List.take (Int.toNat t.1) t.2)
 let b7:=(Int.ofNat (List.length o))
 cond (decide (b7>16384)) (
 some (([]:Tn15),5)) (
 some (o,0)))) (
 cond (!d.2.2.2.2.2) (
 (j32 ((b.1.1.1,(b.1.1.2.1,(b.1.1.2.2.1,b.1.1.2.2.2))),b.1.2) d.2.1).bind fun z=>
 (j3m (z.1,z.2) d.2.2.1 c f).bind fun e4=>
 (j3B i.1 e4).bind fun x=>
 let d5:=(Int.ofNat (List.length x))
 cond (decide (d5>4096)) (
 some (([]:Tn15),5)) (
 (j3p x).bind fun e3=>
 let e8:(List (List Int)):=(List.set a2 2 e3)
 let c2:=(Int.ofNat (List.length e.1))
 (j0v a c2 0 e8 e.1).bind fun d0=>
 (j0w d0.1 d0.2 0 ([]:Tn15)).bind fun f6=>
 (j00 f6).bind fun b3=>
 (j02 b3).bind fun s=>
 let p:Tn15:=(List.take (Int.toNat s.1) s.2)
 let b2:=(Int.ofNat (List.length p))
 cond (decide (b2>16384)) (
 some (([]:Tn15),5)) (
 some (p,0)))) (
 let d3:=(Int.ofNat (List.length e.1))
 (j0v a d3 0 a2 e.1).bind fun a4=>
 (j0w a4.1 a4.2 0 ([]:Tn15)).bind fun e9=>
 (j00 e9).bind fun b5=>
 (j02 b5).bind fun v=>
 let j:Tn15:=(List.take (Int.toNat v.1) v.2)
 let b0:=(Int.ofNat (List.length j))
 cond (decide (b0>16384)) (
 some (([]:Tn15),5)) (
 some (j,0)))))) none)))
def j6x [LP] (d:Tn73) (a c e:Int):Option (Tn2×Int):=
 (j5V (d.1,(d.2.1,(d.2.2.1,d.2.2.2))) a c e).bind fun b=>
 cond (b.2 != 0) (
 some (([]:Tn2),b.2)) (
 (j4X ((b.1.1.1,(b.1.1.2.1,(b.1.1.2.2.1,b.1.1.2.2.2))),b.1.2) a c e).bind fun f=>
 some (f.1,f.2))
def jbA (a:(Int×Int)):Option (Int):=
 (jbs a.1).bind fun b=>
 let d:=(w64 (b*86400))
 let c:=(w64 (d+a.2))
 some c
def jc6 (d:Int) (e:Tn2) (f c:Int):Option ((Int×Tn2×Int×Int) ⊕ (Bool ⊕ Unit)):=
 cond (decide (c<f)) (
 cond (inR c (List.length e)) (
 let a:=(List.getD e (Int.toNat c) (0,0))
 cond (cond (decide (a.1≤d)) (decide (d<a.2)) false) (
 some (.inr (.inl true))) (
 let b:=(w64 (c+1))
 some (.inl (d,e,f,b)))) none) (
 some (.inr (.inr ())))
def jdX [LP] (c:Int) (b:Tn2) (d a:Int):Option (Bool ⊕ Unit):=
 LP.lp (unc4 (jc6)) (c,b,d,a)
def jdm [LP] (a:Tn2) (b:Int):Option (Bool):=
 let c:=(Int.ofNat (List.length a))
 (jdX b a c 0).bind fun d=>
 sumC d (fun e=>
 some e) (fun f=>
 some false)
def j3h [LP] (c:Tn73) (b d:Int) (f:Bool):Option (Bool):=
 (j5V (c.1,(c.2.1,(c.2.2.1,c.2.2.2))) b d d).bind fun a=>
 cond (a.2 != 0) (
 some false) (
 cond (inR b (List.length c.2.1)) (
 let e:=(List.getD c.2.1 (Int.toNat b) (ByteArray.empty,(0,(([]:Tn2),(0,(0,false))))))
 cond f (
 cond e.2.2.2.2.2 (
 some true) (
 (j32 ((a.1.1.1,(a.1.1.2.1,(a.1.1.2.2.1,a.1.1.2.2.2))),a.1.2) e.2.1).bind fun m=>
 (j2w (m.1,m.2) d).bind fun l=>
 (jbA (l.1,l.2)).bind fun o=>
 (jdm e.2.2.1 o).bind fun n=>
 some (!n))) (
 (j32 ((a.1.1.1,(a.1.1.2.1,(a.1.1.2.2.1,a.1.1.2.2.2))),a.1.2) e.2.1).bind fun g=>
 (j2w (g.1,g.2) d).bind fun i=>
 (jbA (i.1,i.2)).bind fun k=>
 (jdm e.2.2.1 k).bind fun j=>
 some (!j))) none)
def j8U [LP]  : Option (Bool):=
 (j74 144000 39600 false).bind fun a=>
 (j08 (a.1,(a.2.1,(a.2.2.1,a.2.2.2))) 0 86400 286400).bind fun b=>
 let v:Tn31:=[(0,(0,(0,(90000,126000))))]
 cond (inR 0 (List.length a.2.2.2)) (
 let k:Tn67:=(List.set a.2.2.2 0 ((List.getD a.2.2.2 0 (ByteArray.empty,(([]:Tn62),([]:Tn31)))).1,((List.getD a.2.2.2 0 (ByteArray.empty,(([]:Tn62),([]:Tn31)))).2.1,v)))
 (j08 (a.1,(a.2.1,(a.2.2.1,k))) 0 86400 172800).bind fun c=>
 (j6x (a.1,(a.2.1,(a.2.2.1,k))) 0 86400 172800).bind fun m=>
 let q:=(Int.ofNat (List.length b.1))
 let l:Bool:=(cond (cond (cond (b.2==0) (c.2==0) false) (m.2==0) false) (q==2) false)
 cond ((inR 0 (List.length b.1)) || !l) (
 let r:=(List.getD b.1 0 (0,(0,0))).1
 let f:=(List.getD b.1 0 (0,(0,0))).2.1
 let e:=(List.getD b.1 0 (0,(0,0))).2.2
 let p:Bool:=(cond l ((r==2)&&((f==0)&&(e==172800))) false)
 cond ((inR 1 (List.length b.1)) || !p) (
 let u:=(List.getD b.1 1 (0,(0,0))).1
 let d:=(List.getD b.1 1 (0,(0,0))).2.1
 let i:=(List.getD b.1 1 (0,(0,0))).2.2
 let n:Bool:=(cond p ((u==0)&&((d==0)&&(i==230401))) false)
 let o:=(Int.ofNat (List.length c.1))
 cond ((inR 0 (List.length c.1)) || !(cond n (o==1) false)) (
 let y:=(List.getD c.1 0 (0,(0,0))).1
 let j:=(List.getD c.1 0 (0,(0,0))).2.1
 let g:=(List.getD c.1 0 (0,(0,0))).2.2
 let s:Bool:=(cond (cond n (o==1) false) ((y==1)&&((j==0)&&(g==126000))) false)
 let w:=(Int.ofNat (List.length m.1))
 cond (cond s (w==2) false) (
 (j3h (a.1,(a.2.1,(a.2.2.1,k))) 0 86400 false).bind fun t=>
 cond t (
 (j3h (a.1,(a.2.1,(a.2.2.1,k))) 0 172800 true).bind fun x=>
 some (!x)) (
 some false)) (
 some false)) none) none) none) none
def j7b [LP] (p:Int):Option (Bool):=
 (jeQ p 100).bind fun a9=>
 let g:=(w64 (1+a9))
 let b7:=(w64 (g*3600))
 (j74 b7 0 true).bind fun a=>
 let b9:=(w64 (g*3600))
 let a6:=(w64 (86400+b9))
 (j08 (a.1,(a.2.1,(a.2.2.1,a.2.2.2))) 0 86400 a6).bind fun q=>
 let a5:=(w64 (g*3600))
 let b5:=(w64 (86400+a5))
 let b2:=(w64 (b5+1))
 (j08 (a.1,(a.2.1,(a.2.2.1,a.2.2.2))) 0 86400 b2).bind fun d=>
 (jeQ p 24).bind fun b6=>
 let f:=(w64 (1+b6))
 let b1:=(w64 (f*3600))
 (j74 0 b1 true).bind fun b=>
 let a8:=(w64 (f*3600))
 let a7:=(w64 (90000+a8))
 let b8:Tn31:=[(0,(0,(0,(90000,a7))))]
 cond (inR 0 (List.length b.2.2.2)) (
 let c1:Tn67:=(List.set b.2.2.2 0 ((List.getD b.2.2.2 0 (ByteArray.empty,(([]:Tn62),([]:Tn31)))).1,((List.getD b.2.2.2 0 (ByteArray.empty,(([]:Tn62),([]:Tn31)))).2.1,b8)))
 let b3:=(w64 (f*3600))
 (j74 0 b3 true).bind fun c=>
 let b0:=(w64 (f*3600))
 let b4:=(w64 (90000+b0))
 let c0:Tn31:=[(0,(0,(0,(90001,b4))))]
 cond (inR 0 (List.length c.2.2.2)) (
 let z:Tn67:=(List.set c.2.2.2 0 ((List.getD c.2.2.2 0 (ByteArray.empty,(([]:Tn62),([]:Tn31)))).1,((List.getD c.2.2.2 0 (ByteArray.empty,(([]:Tn62),([]:Tn31)))).2.1,c0)))
 (j08 (b.1,(b.2.1,(b.2.2.1,c1))) 0 86400 259200).bind fun u=>
 (j08 (c.1,(c.2.1,(c.2.2.1,z))) 0 86400 259200).bind fun e=>
 let t:Bool:=(cond (cond (cond (q.2==0) (d.2==0) false) (u.2==0) false) (e.2==0) false)
 let r:=(Int.ofNat (List.length q.1))
 let s:=(Int.ofNat (List.length d.1))
 cond ((inR 0 (List.length d.1)) || !(cond (cond t (r==0) false) (s==1) false)) (
 let w:=(List.getD d.1 0 (0,(0,0))).1
 let i:=(List.getD d.1 0 (0,(0,0))).2.1
 let l:=(List.getD d.1 0 (0,(0,0))).2.2
 let a4:=(w64 (g*3600))
 let y:=(w64 (86400+a4))
 let a0:=(w64 (y+1))
 let o:Bool:=(cond (cond (cond t (r==0) false) (s==1) false) ((w==0)&&((i==0)&&(l==a0))) false)
 let k:=(Int.ofNat (List.length u.1))
 let m:=(Int.ofNat (List.length e.1))
 cond ((inR 0 (List.length e.1)) || !(cond (cond o (k==0) false) (m==1) false)) (
 let a2:=(List.getD e.1 0 (0,(0,0))).1
 let j:=(List.getD e.1 0 (0,(0,0))).2.1
 let n:=(List.getD e.1 0 (0,(0,0))).2.2
 let a1:=(w64 (f*3600))
 let v:=(w64 (90000+a1))
 let a3:Bool:=(cond (cond (cond o (k==0) false) (m==1) false) ((a2==1)&&((j==0)&&(n==v))) false)
 cond a3 (
 (j8U).bind fun x=>
 some x) (
 some false)) none) none) none) none
end
end Go.Proofs.Pw
