/- Plain functions, printed by a program out of the given code. -/
import Derived.Test.YtpbnnhakjhalaaaGreatESLD
open Go Go.Lft
set_option linter.unusedVariables false
namespace Go.Proofs.Pw
noncomputable section
abbrev Tn2:Type:=(List (Int×Int))
abbrev Tn4:Type:=(Int×(Int×Int))
abbrev Tn17:Type:=(List Tn4)
abbrev Tn15:Type:=(Int×Tn2)
abbrev Tn22:Type:=(ByteArray×(Int×(List Int)))
abbrev Tn23:Type:=(List Tn15)
abbrev Tn28:Type:=(Int×(Int×Tn4))
abbrev Tn30:Type:=(List Tn22)
abbrev Tn34:Type:=(List Tn28)
abbrev Tn43:Type:=(Int×(Int×Tn28))
abbrev Tn47:Type:=(List Tn43)
abbrev Tn49:Type:=(ByteArray×(Int×(Tn2×(Int×(Int×Bool)))))
abbrev Tn53:Type:=(List Tn49)
abbrev Tn57:Type:=(ByteArray×(Int×Tn47))
abbrev Tn59:Type:=(List Tn57)
abbrev Tn64:Type:=(ByteArray×(Int×((Int×Int)×(Int×(Int×((List Int)×(Tn2×(Int×Int))))))))
abbrev Tn65:Type:=(List Tn64)
abbrev Tn69:Type:=(ByteArray×(Tn65×Tn34))
abbrev Tn70:Type:=(List Tn69)
abbrev Tn76:Type:=(Tn59×(Tn53×(Tn30×Tn70)))
abbrev Tn78:Type:=(Tn76×Tn23)
abbrev unc2 {A0 A1 R:Type} (f:A0→A1→R) (h:A0×A1):R:=f h.1 h.2
abbrev unc3 {A0 A1 A2 R:Type} (f:A0→A1→A2→R) (h:A0×A1×A2):R:=f h.1 h.2.1 h.2.2
abbrev unc4 {A0 A1 A2 A3 R:Type} (f:A0→A1→A2→A3→R) (h:A0×A1×A2×A3):R:=f h.1 h.2.1 h.2.2.1 h.2.2.2
abbrev unc5 {A0 A1 A2 A3 A4 R:Type} (f:A0→A1→A2→A3→A4→R) (h:A0×A1×A2×A3×A4):R:=f h.1 h.2.1 h.2.2.1 h.2.2.2.1 h.2.2.2.2
abbrev unc6 {A0 A1 A2 A3 A4 A5 R:Type} (f:A0→A1→A2→A3→A4→A5→R) (h:A0×A1×A2×A3×A4×A5):R:=f h.1 h.2.1 h.2.2.1 h.2.2.2.1 h.2.2.2.2.1 h.2.2.2.2.2
abbrev unc7 {A0 A1 A2 A3 A4 A5 A6 R:Type} (f:A0→A1→A2→A3→A4→A5→A6→R) (h:A0×A1×A2×A3×A4×A5×A6):R:=f h.1 h.2.1 h.2.2.1 h.2.2.2.1 h.2.2.2.2.1 h.2.2.2.2.2.1 h.2.2.2.2.2.2
abbrev unc8 {A0 A1 A2 A3 A4 A5 A6 A7 R:Type} (f:A0→A1→A2→A3→A4→A5→A6→A7→R) (h:A0×A1×A2×A3×A4×A5×A6×A7):R:=f h.1 h.2.1 h.2.2.1 h.2.2.2.1 h.2.2.2.2.1 h.2.2.2.2.2.1 h.2.2.2.2.2.2.1 h.2.2.2.2.2.2.2
abbrev jpP {A0 A1 A2 A3 A4 A5 A6 A7 A8 A9 R:Type} (f:A0→A1→A2→A3→A4→A5→A6→A7→A8→A9→R) (h:A0×A1×A2×A3×A4×A5×A6×A7×A8×A9):R:=f h.1 h.2.1 h.2.2.1 h.2.2.2.1 h.2.2.2.2.1 h.2.2.2.2.2.1 h.2.2.2.2.2.2.1 h.2.2.2.2.2.2.2.1 h.2.2.2.2.2.2.2.2.1 h.2.2.2.2.2.2.2.2.2
abbrev jpQ {A0 A1 A2 A3 A4 A5 A6 A7 A8 A9 A10 R:Type} (f:A0→A1→A2→A3→A4→A5→A6→A7→A8→A9→A10→R) (h:A0×A1×A2×A3×A4×A5×A6×A7×A8×A9×A10):R:=f h.1 h.2.1 h.2.2.1 h.2.2.2.1 h.2.2.2.2.1 h.2.2.2.2.2.1 h.2.2.2.2.2.2.1 h.2.2.2.2.2.2.2.1 h.2.2.2.2.2.2.2.2.1 h.2.2.2.2.2.2.2.2.2.1 h.2.2.2.2.2.2.2.2.2.2
abbrev jrQ {A0 A1 A2 A3 A4 A5 A6 A7 A8 A9 A10 A11 R:Type} (f:A0→A1→A2→A3→A4→A5→A6→A7→A8→A9→A10→A11→R) (h:A0×A1×A2×A3×A4×A5×A6×A7×A8×A9×A10×A11):R:=f h.1 h.2.1 h.2.2.1 h.2.2.2.1 h.2.2.2.2.1 h.2.2.2.2.2.1 h.2.2.2.2.2.2.1 h.2.2.2.2.2.2.2.1 h.2.2.2.2.2.2.2.2.1 h.2.2.2.2.2.2.2.2.2.1 h.2.2.2.2.2.2.2.2.2.2.1 h.2.2.2.2.2.2.2.2.2.2.2
abbrev jrR {A0 A1 A2 A3 A4 A5 A6 A7 A8 A9 A10 A11 A12 R:Type} (f:A0→A1→A2→A3→A4→A5→A6→A7→A8→A9→A10→A11→A12→R) (h:A0×A1×A2×A3×A4×A5×A6×A7×A8×A9×A10×A11×A12):R:=f h.1 h.2.1 h.2.2.1 h.2.2.2.1 h.2.2.2.2.1 h.2.2.2.2.2.1 h.2.2.2.2.2.2.1 h.2.2.2.2.2.2.2.1 h.2.2.2.2.2.2.2.2.1 h.2.2.2.2.2.2.2.2.2.1 h.2.2.2.2.2.2.2.2.2.2.1 h.2.2.2.2.2.2.2.2.2.2.2.1 h.2.2.2.2.2.2.2.2.2.2.2.2
abbrev jpR {A0 A1 A2 A3 A4 A5 A6 A7 A8 A9 A10 A11 A12 A13 R:Type} (f:A0→A1→A2→A3→A4→A5→A6→A7→A8→A9→A10→A11→A12→A13→R) (h:A0×A1×A2×A3×A4×A5×A6×A7×A8×A9×A10×A11×A12×A13):R:=f h.1 h.2.1 h.2.2.1 h.2.2.2.1 h.2.2.2.2.1 h.2.2.2.2.2.1 h.2.2.2.2.2.2.1 h.2.2.2.2.2.2.2.1 h.2.2.2.2.2.2.2.2.1 h.2.2.2.2.2.2.2.2.2.1 h.2.2.2.2.2.2.2.2.2.2.1 h.2.2.2.2.2.2.2.2.2.2.2.1 h.2.2.2.2.2.2.2.2.2.2.2.2.1 h.2.2.2.2.2.2.2.2.2.2.2.2.2
abbrev jrS {A0 A1 A2 A3 A4 A5 A6 A7 A8 A9 A10 A11 A12 A13 A14 A15 A16 A17 A18 R:Type} (f:A0→A1→A2→A3→A4→A5→A6→A7→A8→A9→A10→A11→A12→A13→A14→A15→A16→A17→A18→R) (h:A0×A1×A2×A3×A4×A5×A6×A7×A8×A9×A10×A11×A12×A13×A14×A15×A16×A17×A18):R:=f h.1 h.2.1 h.2.2.1 h.2.2.2.1 h.2.2.2.2.1 h.2.2.2.2.2.1 h.2.2.2.2.2.2.1 h.2.2.2.2.2.2.2.1 h.2.2.2.2.2.2.2.2.1 h.2.2.2.2.2.2.2.2.2.1 h.2.2.2.2.2.2.2.2.2.2.1 h.2.2.2.2.2.2.2.2.2.2.2.1 h.2.2.2.2.2.2.2.2.2.2.2.2.1 h.2.2.2.2.2.2.2.2.2.2.2.2.2.1 h.2.2.2.2.2.2.2.2.2.2.2.2.2.2.1 h.2.2.2.2.2.2.2.2.2.2.2.2.2.2.2.1 h.2.2.2.2.2.2.2.2.2.2.2.2.2.2.2.2.1 h.2.2.2.2.2.2.2.2.2.2.2.2.2.2.2.2.2.1 h.2.2.2.2.2.2.2.2.2.2.2.2.2.2.2.2.2.2
abbrev jrT {A0 A1 A2 A3 A4 A5 A6 A7 A8 A9 A10 A11 A12 A13 A14 A15 A16 A17 A18 A19 A20 A21 A22 A23 R:Type} (f:A0→A1→A2→A3→A4→A5→A6→A7→A8→A9→A10→A11→A12→A13→A14→A15→A16→A17→A18→A19→A20→A21→A22→A23→R) (h:A0×A1×A2×A3×A4×A5×A6×A7×A8×A9×A10×A11×A12×A13×A14×A15×A16×A17×A18×A19×A20×A21×A22×A23):R:=f h.1 h.2.1 h.2.2.1 h.2.2.2.1 h.2.2.2.2.1 h.2.2.2.2.2.1 h.2.2.2.2.2.2.1 h.2.2.2.2.2.2.2.1 h.2.2.2.2.2.2.2.2.1 h.2.2.2.2.2.2.2.2.2.1 h.2.2.2.2.2.2.2.2.2.2.1 h.2.2.2.2.2.2.2.2.2.2.2.1 h.2.2.2.2.2.2.2.2.2.2.2.2.1 h.2.2.2.2.2.2.2.2.2.2.2.2.2.1 h.2.2.2.2.2.2.2.2.2.2.2.2.2.2.1 h.2.2.2.2.2.2.2.2.2.2.2.2.2.2.2.1 h.2.2.2.2.2.2.2.2.2.2.2.2.2.2.2.2.1 h.2.2.2.2.2.2.2.2.2.2.2.2.2.2.2.2.2.1 h.2.2.2.2.2.2.2.2.2.2.2.2.2.2.2.2.2.2.1 h.2.2.2.2.2.2.2.2.2.2.2.2.2.2.2.2.2.2.2.1 h.2.2.2.2.2.2.2.2.2.2.2.2.2.2.2.2.2.2.2.2.1 h.2.2.2.2.2.2.2.2.2.2.2.2.2.2.2.2.2.2.2.2.2.1 h.2.2.2.2.2.2.2.2.2.2.2.2.2.2.2.2.2.2.2.2.2.2.1 h.2.2.2.2.2.2.2.2.2.2.2.2.2.2.2.2.2.2.2.2.2.2.2
def jew (a:(List Int)):Option (Bool):=
 let b:=(Int.ofNat (List.length a))
 some (decide (b≤500))
def jgm  : Option (Tn59×Tn53×Tn30×Tn70):=
 let f:Tn59:=[((ByteArray.mk #[122]),(0,([]:Tn47)))]
 let g:Tn53:=[((ByteArray.mk #[97]),(0,(([]:Tn2),(0,(0,false))))),((ByteArray.mk #[98]),(0,(([]:Tn2),(0,(0,false))))),((ByteArray.mk #[99]),(0,(([]:Tn2),(0,(0,false)))))]
 let e:(List Int):=[0,1]
 let c:(List Int):=[2]
 let d:Tn2:=[(0,86400)]
 let b:Tn65:=[((ByteArray.mk #[108,111,119]),(0,((4,0),(2,(1,(e,(([]:Tn2),(0,0)))))))),((ByteArray.mk #[116,111,112]),(0,((4,0),(2,(1,(c,(d,(0,0))))))))]
 let a:Tn70:=[((ByteArray.mk #[115]),(b,([]:Tn34)))]
 some (f,g,([]:Tn30),a)
def j82 (a:Tn57):Option (ByteArray):=
 some a.1
def jcO (a:Int):Option (Bool):=
 some (cond (decide (a≥97)) (decide (a≤122)) false)
def jgn (a:Int):Option (Bool):=
 some (cond (decide (a≥48)) (decide (a≤57)) false)
def j9x (i:ByteArray) (c b:Int):Option ((ByteArray×Int×Int) ⊕ (Bool ⊕ Unit)):=
 cond (decide (b<c)) (
 cond (inR b (ByteArray.size i)) (
 let a:=(jne i b)
 (jcO a).bind fun e=>
 cond (!e) (
 (jgn a).bind fun f=>
 cond (cond (cond (!f) (a != 95) false) (a != 45) false) (
 some (.inr (.inl false))) (
 let d:=(w64 (b+1))
 some (.inl (i,c,d)))) (
 let g:=(w64 (b+1))
 some (.inl (i,c,g)))) none) (
 some (.inr (.inr ())))
def jaF [LP] (c:ByteArray) (b a:Int):Option (Bool ⊕ Unit):=
 LP.lp (unc3 (j9x)) (c,b,a)
def j5t [LP] (a:ByteArray):Option (Bool):=
 let f:=(Int.ofNat (ByteArray.size a))
 let b:Bool:=(cond (ByteArray.toList a==ByteArray.toList ByteArray.empty) true (decide (f>24)))
 cond ((inR 0 (ByteArray.size a)) || !(!b)) (
 let e:=(jne a 0)
 cond b (
 some false) (
 (jcO e).bind fun d=>
 cond (!d) (
 some false) (
 let c:=(Int.ofNat (ByteArray.size a))
 (jaF a c 0).bind fun g=>
 sumC g (fun i=>
 some i) (fun j=>
 some true)))) none
def j2N [LP] (b:ByteArray) (a:(List (ByteArray×Bool))):Option (Int×(List (ByteArray×Bool))):=
 (j5t b).bind fun d=>
 cond (!d) (
 some (2,a)) (
 cond (jb0 false a b) (
 some (4,a)) (
 let c:(List (ByteArray×Bool)):=(j9U a b true)
 some (0,c)))
def j83 (a b c:Int):Option (Bool):=
 some (cond (decide (a≥b)) (decide (a≤c)) false)
def jbH (a:Tn43):Option (Int):=
 (j83 a.1 1970 2240).bind fun i=>
 cond (!i) (
 some 1) (
 (j83 a.2.1 a.1 2240).bind fun f=>
 cond (!f) (
 some 1) (
 (j83 a.2.2.1 1 12).bind fun d=>
 cond (!d) (
 some 1) (
 (j83 a.2.2.2.1 1 5).bind fun c=>
 cond (!c) (
 some 1) (
 (j83 a.2.2.2.2.1 0 6).bind fun g=>
 cond (!g) (
 some 1) (
 (j83 a.2.2.2.2.2.1 0 86399).bind fun b=>
 cond (!b) (
 some 1) (
 (j83 a.2.2.2.2.2.2 (-64800) 64800).bind fun e=>
 cond (!e) (
 some 1) (
 some 0)))))))
def jex (a:Int):Option (Bool):=
 let d:=(Int.tmod a 4)
 let c:=(Int.tmod a 100)
 let b:=(Int.tmod a 400)
 some (cond (d==0) (cond (c != 0) true (b==0)) false)
def j5u (c a:Int):Option (Int):=
 cond (cond (decide (a<1)) true (decide (a>12))) (
 some 0) (
 let f:(List Int):=[31,28,31,30,31,30,31,31,30,31,30,31]
 let j:(List Int):=(List.replicate 12 0)
 cond (a==2) (
 (jex c).bind fun i=>
 cond i (
 some 29) (
 let e:=(w64 (a-1))
 cond (inR e 12) (
 let g:=(List.getD f (Int.toNat e) 0)
 some g) none)) (
 let b:=(w64 (a-1))
 cond (inR b 12) (
 let d:=(List.getD f (Int.toNat b) 0)
 some d) none))
def j8G (a:Tn4):Option (Bool):=
 cond (decide (a.1≥1970)) (
 cond (decide (a.1≤2240)) (
 cond (decide (a.2.2≥1)) (
 (j5u a.1 a.2.1).bind fun b=>
 some (decide (a.2.2≤b))) (
 some false)) (
 some false)) (
 some false)
def j67 (b a:Int):Option (Int):=
 cond (!(a==0)) (
 let c:=(w64 (Int.tdiv b a))
 cond (!(a==0)) (
 let d:=(Int.tmod b a)
 cond (decide (d<0)) (
 let e:=(w64 (c-1))
 some e) (
 some c)) none) none
def j3O (a:Int):Option (Int):=
 let b:=(w64 (a-1))
 let l:=(w64 (a-1970))
 let k:=(w64 (365*l))
 (j67 b 4).bind fun g=>
 let e:=(w64 (k+g))
 (j67 b 100).bind fun i=>
 let j:=(w64 (e-i))
 (j67 b 400).bind fun d=>
 let f:=(w64 (j+d))
 let c:=(w64 (f-477))
 some c
def j35 (i e g a f:Int):Option ((Int×Int×Int×Int×Int) ⊕ (Int)):=
 cond (decide (e<a)) (
 (j5u g e).bind fun b=>
 let d:=(w64 (i+b))
 let c:=(w64 (e+1))
 some (.inl (d,c,g,a,f))) (
 some (.inr i))
def j46 [LP] (e c d a b:Int):Option (Int):=
 LP.lp (unc5 (j35)) (e,c,d,a,b)
theorem j9y (e c d a b):j46 e c d a b=lpK (j35 e c d a b) (fun h=>j46 h.1 h.2.1 h.2.2.1 h.2.2.2.1 h.2.2.2.2):=j09 _ _
def j54 [LP] (a:Tn4):Option (Int):=
 (j3O a.1).bind fun e=>
 let c:=(w64 (e+a.2.2))
 let b:=(w64 (c-1))
 (j46 b 1 a.1 a.2.1 a.2.2).bind fun d=>
 some d
def j4q (a:Int):Option (Int):=
 let c:=(Int.tmod a 7)
 let d:=(w64 (c+10))
 let b:=(Int.tmod d 7)
 some b
def j8H [LP] (d b c a:Int):Option (Int×Int):=
 (j8G (d,(b,1))).bind fun i=>
 let t:Bool:=(cond (cond (!i) true (decide (c<1))) true (decide (c>5)))
 let p:Bool:=(cond (cond t true (decide (a<0))) true (decide (a>6)))
 cond p (
 some (0,1)) (
 (j54 (d,(b,1))).bind fun e=>
 (j4q e).bind fun s=>
 let q:=(w64 (a-s))
 let r:=(w64 (q+7))
 let g:=(Int.tmod r 7)
 let k:=(w64 (e+g))
 let l:=(w64 (c-1))
 let n:=(w64 (7*l))
 let f:=(w64 (k+n))
 (j5u d b).bind fun j=>
 let m:=(w64 (e+j))
 cond (decide (f≥m)) (
 let o:=(w64 (f-7))
 some (o,0)) (
 some (f,0)))
def j68 (a b:(Int×Int)):Option (Int):=
 let c:=(w64 (a.1-b.1))
 some c
def j0i (n q p b:Int) (a:Tn2):Option ((Int×Int×Int×Int×Tn2) ⊕ ((Int×Int×Int×Tn2))):=
 cond (decide (b>n)) (
 cond (inR b (List.length a)) (
 let j:=(List.getD a (Int.toNat b) (0,0))
 let e:=(w64 (b-1))
 cond (inR e (List.length a)) (
 let f:=(List.getD a (Int.toNat e) (0,0))
 (j68 (j.1,j.2) (f.1,f.2)).bind fun l=>
 cond (decide (l<0)) (
 let i:=(w64 (b-1))
 let k:=(w64 (b-1))
 cond (inR k (List.length a)) (
 let c:=(List.getD a (Int.toNat k) (0,0))
 cond (inR b (List.length a)) (
 let g:=(List.getD a (Int.toNat b) (0,0))
 cond (inR b (List.length a)) (
 let d:Tn2:=(List.set a (Int.toNat b) (c.1,c.2))
 cond (inR i (List.length d)) (
 let o:Tn2:=(List.set d (Int.toNat i) (g.1,g.2))
 let m:=(w64 (b-1))
 some (.inl (n,q,p,m,o))) none) none) none) none) (
 some (.inr (n,q,p,a)))) none) none) (
 some (.inr (n,q,p,a)))
def j0e [LP] (e b a c:Int) (d:Tn2):Option ((Int×Int×Int×Tn2)):=
 LP.lp (unc5 (j0i)) (e,b,a,c,d)
theorem j1S (e b a c d):j0e e b a c d=lpK (j0i e b a c d) (fun h=>j0e h.1 h.2.1 h.2.2.1 h.2.2.2.1 h.2.2.2.2):=j09 _ _
def j06 [LP] (f d c:Int) (e:Tn2):Option ((Int×Int×Int×Tn2) ⊕ (Tn2)):=
 cond (decide (c<d)) (
 (j0e f d c c e).bind fun a=>
 let b:=(w64 (a.2.2.1+1))
 some (.inl (a.1,a.2.1,b,a.2.2.2))) (
 some (.inr e))
def j0f [LP] (d c b:Int) (a:Tn2):Option (Tn2):=
 LP.lp (unc4 (j06)) (d,c,b,a)
theorem j0X (d b a c):j0f d b a c=lpK (j06 d b a c) (fun h=>j0f h.1 h.2.1 h.2.2.1 h.2.2.2):=j09 _ _
def j0a [LP] (a:Tn2) (b c:Int):Option (Tn2):=
 let d:=(w64 (b+1))
 (j0f b c d a).bind fun e=>
 some e
def j0c [LP] (e d g b:Int) (f:Tn2):Option ((Int×Int×Int×Int×Tn2) ⊕ ((Int×Int×Int×Tn2))):=
 cond (decide (b≤e)) (
 (j0a f g b).bind fun a=>
 let c:=(w64 (b+d))
 some (.inl (e,d,b,c,a))) (
 some (.inr (e,d,g,f)))
def j0v [LP] (e a d b:Int) (c:Tn2):Option ((Int×Int×Int×Tn2)):=
 LP.lp (unc5 (j0c)) (e,a,d,b,c)
theorem j4x (e a d b c):j0v e a d b c=lpK (j0c e a d b c) (fun h=>j0v h.1 h.2.1 h.2.2.1 h.2.2.2.1 h.2.2.2.2):=j09 _ _
def j2k (c a b e:Int) (f:Tn2):Option ((Int×Int×Int×Int×Tn2) ⊕ ((Int×Int×Int×Tn2))):=
 cond (decide (e≤c)) (
 let d:=(w64 (b+a))
 none) (
 some (.inr (c,a,b,f)))
def j1I [LP] (e a d b:Int) (c:Tn2):Option ((Int×Int×Int×Tn2)):=
 LP.lp (unc5 (j2k)) (e,a,d,b,c)
def j0d [LP] (g e:Int) (f:Tn2):Option ((Int×Int×Tn2) ⊕ (Tn2)):=
 cond (decide (e<g)) (
 let d:=(w64 (2*e))
 (j1I g e 0 d f).bind fun a=>
 let b:=(w64 (a.2.2.1+a.2.1))
 cond (decide (b<a.1)) (
 none) (
 let c:=(w64 (a.2.1*2))
 some (.inl (a.1,c,a.2.2.2)))) (
 some (.inr f))
def j0w [LP] (c b:Int) (a:Tn2):Option (Tn2):=
 LP.lp (unc3 (j0d)) (c,b,a)
theorem j4y (c b a):j0w c b a=lpK (j0d c b a) (fun h=>j0w h.1 h.2.1 h.2.2):=j09 _ _
def j0I [LP] (a:Tn2) (c:Int):Option (Tn2):=
 (j0v c 20 0 20 a).bind fun b=>
 (j0a b.2.2.2 b.2.2.1 b.1).bind fun d=>
 (j0w b.1 b.2.1 d).bind fun e=>
 some e
def j07 [LP] (a:Tn2):Option (Tn2):=
 let c:=(Int.ofNat (List.length a))
 (j0I a c).bind fun b=>
 some b
def j2b (m:Int) (d:Tn47) (l c:Int) (n:ByteArray) (e:Int) (f:Tn47):Option ((Int×Tn47×Int×Int×ByteArray×Int×Tn47) ⊕ (Int ⊕ (Int×ByteArray×Int×Tn47))):=
 cond (decide (c<l)) (
 cond (inR c (List.length d)) (
 let a:=(List.getD d (Int.toNat c) (0,(0,(0,(0,(0,(0,0)))))))
 (jbH (a.1,(a.2.1,(a.2.2.1,(a.2.2.2.1,(a.2.2.2.2.1,(a.2.2.2.2.2.1,a.2.2.2.2.2.2))))))).bind fun b=>
 cond (b != 0) (
 some (.inr (.inl b))) (
 let g:=(w64 (a.2.1-a.1))
 let k:=(w64 (g+1))
 let i:=(w64 (m+k))
 let j:=(w64 (c+1))
 some (.inl (i,d,l,j,n,e,f)))) none) (
 some (.inr (.inr (m,n,e,f))))
def j24 [LP] (f:Int) (c:Tn47) (d e:Int) (g:ByteArray) (a:Int) (b:Tn47):Option (Int ⊕ (Int×ByteArray×Int×Tn47)):=
 LP.lp (unc7 (j2b)) (f,c,d,e,g,a,b)
theorem j70 (f c d e g a b):j24 f c d e g a b=lpK (j2b f c d e g a b) (fun h=>j24 h.1 h.2.1 h.2.2.1 h.2.2.2.1 h.2.2.2.2.1 h.2.2.2.2.2.1 h.2.2.2.2.2.2):=j09 _ _
def j0Q [LP] (i:Int) (q:Tn47) (o p s b d c g f e:Int) (r:Tn2):Option ((Int×Tn47×Int×Int×Int×Int×Int×Int×Int×Int×Int×Tn2) ⊕ ((Tn47×Int×Int×Tn2))):=
 cond (decide (i≤b)) (
 (j8H i d c g).bind fun m=>
 let j:=(w64 (m.1*86400))
 let k:=(w64 (j+f))
 let a:Tn2:=[(k,e)]
 cond (decide (List.length r+List.length a≤j0l)) (
 let n:Tn2:=(r++a)
 let l:=(w64 (i+1))
 some (.inl (l,q,o,p,s,b,d,c,g,f,e,n))) none) (
 some (.inr (q,o,p,r)))
def j2E [LP] (j:Int) (k:Tn47) (g i l a c b f e d:Int) (m:Tn2):Option ((Tn47×Int×Int×Tn2)):=
 LP.lp (jrQ (j0Q)) (j,k,g,i,l,a,c,b,f,e,d,m)
theorem j71 (j k g i l a c b f e d m):j2E j k g i l a c b f e d m=lpK (j0Q j k g i l a c b f e d m) (fun h=>j2E h.1 h.2.1 h.2.2.1 h.2.2.2.1 h.2.2.2.2.1 h.2.2.2.2.2.1 h.2.2.2.2.2.2.1 h.2.2.2.2.2.2.2.1 h.2.2.2.2.2.2.2.2.1 h.2.2.2.2.2.2.2.2.2.1 h.2.2.2.2.2.2.2.2.2.2.1 h.2.2.2.2.2.2.2.2.2.2.2):=j09 _ _
def j0R [LP] (d:Tn47) (f c:Int) (g:Tn2):Option ((Tn47×Int×Int×Tn2) ⊕ (Tn2)):=
 cond (decide (c<f)) (
 cond (inR c (List.length d)) (
 let a:=(List.getD d (Int.toNat c) (0,(0,(0,(0,(0,(0,0)))))))
 (j2E a.1 d f c a.1 a.2.1 a.2.2.1 a.2.2.2.1 a.2.2.2.2.1 a.2.2.2.2.2.1 a.2.2.2.2.2.2 g).bind fun b=>
 let e:=(w64 (b.2.2.1+1))
 some (.inl (b.1,b.2.1,e,b.2.2.2))) none) (
 some (.inr g))
def j25 [LP] (a:Tn47) (b c:Int) (d:Tn2):Option (Tn2):=
 LP.lp (unc4 (j0R)) (a,b,c,d)
theorem j72 (b c a d):j25 b c a d=lpK (j0R b c a d) (fun h=>j25 h.1 h.2.1 h.2.2.1 h.2.2.2):=j09 _ _
def j30 [LP] (a:Tn57):Option (Tn2×Int):=
 (j83 a.2.1 (-64800) 64800).bind fun e=>
 cond (!e) (
 some (([]:Tn2),1)) (
 let f:=(Int.ofNat (List.length a.2.2))
 cond (decide (f>16)) (
 some (([]:Tn2),5)) (
 let b:=(Int.ofNat (List.length a.2.2))
 (j24 0 a.2.2 b 0 a.1 a.2.1 a.2.2).bind fun j=>
 sumC j (fun k=>
 some (([]:Tn2),k)) (fun i=>
 cond (decide (i.1>640)) (
 some (([]:Tn2),5)) (
 let d:=(Int.ofNat (List.length i.2.2.2))
 (j25 i.2.2.2 d 0 ([]:Tn2)).bind fun g=>
 (j07 g).bind fun c=>
 some (c,0)))))
def j2c (w m d:Int) (b g:Tn2):Option ((Int×Int×Int×Tn2×Tn2) ⊕ (Int ⊕ Tn2)):=
 cond (decide (d<m)) (
 cond (inR d (List.length g)) (
 let a:=(List.getD g (Int.toNat d) (0,0))
 cond (a.2==w) (
 let t:=(w64 (d+1))
 some (.inl (w,m,t,b,g))) (
 let c:=(w64 (a.1-w))
 let l:=(w64 (a.2-w))
 cond (cond (decide (l≥86400)) true (decide (l≤(-86400)))) (
 let r:=(Int.ofNat (List.length b))
 let n:=(Int.ofNat (List.length b))
 let k:=(w64 (n-1))
 cond ((inR k (List.length b)) || !((!true)&&(decide (r>0)))) (
 let o:=(List.getD b (Int.toNat k) (0,0)).1
 let x:=(w64 (o+604800))
 some (.inr (.inl 6))) none) (
 (j83 c 0 8589934592).bind fun e=>
 let j:=(Int.ofNat (List.length b))
 let q:=(Int.ofNat (List.length b))
 let f:=(w64 (q-1))
 cond ((inR f (List.length b)) || !((!(!e))&&(decide (j>0)))) (
 let s:=(List.getD b (Int.toNat f) (0,0)).1
 let u:=(w64 (s+604800))
 cond (cond (!e) true (cond (decide (j>0)) (decide (c<u)) false)) (
 some (.inr (.inl 6))) (
 let i:Tn2:=[(c,a.2)]
 cond (decide (List.length b+List.length i≤j0l)) (
 let p:Tn2:=(b++i)
 let v:=(w64 (d+1))
 some (.inl (a.2,m,v,p,g))) none)) none))) none) (
 some (.inr (.inr b)))
def j26 [LP] (e b c:Int) (d a:Tn2):Option (Int ⊕ Tn2):=
 LP.lp (unc5 (j2c)) (e,b,c,d,a)
theorem j73 (e b c d a):j26 e b c d a=lpK (j2c e b c d a) (fun h=>j26 h.1 h.2.1 h.2.2.1 h.2.2.2.1 h.2.2.2.2):=j09 _ _
def j1M [LP] (a:Tn57):Option (Tn2×Int):=
 (j30 (a.1,(a.2.1,a.2.2))).bind fun b=>
 cond (b.2 != 0) (
 some (([]:Tn2),b.2)) (
 let c:=(Int.ofNat (List.length b.1))
 (j26 a.2.1 c 0 ([]:Tn2) b.1).bind fun d=>
 sumC d (fun f=>
 some (([]:Tn2),f)) (fun e=>
 some (e,0)))
def j6k [LP] (a:Tn57):Option (Int):=
 (j1M (a.1,(a.2.1,a.2.2))).bind fun b=>
 some b.2
def j5G (a:Tn43):Option (Bool):=
 let b:=(Int.tmod a.2.2.2.2.2.2 60)
 some (b != 0)
def j0k (e:Tn47) (f b:Int):Option ((Tn47×Int×Int) ⊕ (Int ⊕ Unit)):=
 cond (decide (b<f)) (
 cond (inR b (List.length e)) (
 let a:=(List.getD e (Int.toNat b) (0,(0,(0,(0,(0,(0,0)))))))
 (j5G (a.1,(a.2.1,(a.2.2.1,(a.2.2.2.1,(a.2.2.2.2.1,(a.2.2.2.2.2.1,a.2.2.2.2.2.2))))))).bind fun c=>
 cond c (
 some (.inr (.inl b))) (
 let d:=(w64 (b+1))
 some (.inl (e,f,d)))) none) (
 some (.inr (.inr ())))
def j0g [LP] (c:Tn47) (a b:Int):Option (Int ⊕ Unit):=
 LP.lp (unc3 (j0k)) (c,a,b)
theorem j1V (c a b):j0g c a b=lpK (j0k c a b) (fun h=>j0g h.1 h.2.1 h.2.2):=j09 _ _
def j0p [LP] (a:Tn47):Option (Int):=
 let b:=(Int.ofNat (List.length a))
 (j0g a b 0).bind fun c=>
 sumC c (fun d=>
 some d) (fun e=>
 some (-1))
def j0h [LP] (a:Tn47):Option (Bool):=
 (j0p a).bind fun b=>
 some (decide (b≥0))
def j2d [LP] (a:Tn57):Option (Int):=
 (j6k (a.1,(a.2.1,a.2.2))).bind fun d=>
 let c:=(Int.tmod a.2.1 60)
 cond (cond (d != 0) true (c != 0)) (
 some 8) (
 (j0h a.2.2).bind fun b=>
 cond b (
 some 8) (
 some 0))
def j0A [LP] (e:Tn59) (i c:Int) (j:(List (ByteArray×Bool))):Option ((Tn59×Int×Int×(List (ByteArray×Bool))) ⊕ (Int ⊕ Unit)):=
 cond (decide (c<i)) (
 cond (inR c (List.length e)) (
 let a:=(List.getD e (Int.toNat c) (ByteArray.empty,(0,([]:Tn47))))
 (j82 (a.1,(a.2.1,a.2.2))).bind fun f=>
 (j2N f j).bind fun b=>
 cond (b.1 != 0) (
 some (.inr (.inl b.1))) (
 (j2d (a.1,(a.2.1,a.2.2))).bind fun d=>
 cond (d != 0) (
 some (.inr (.inl d))) (
 let g:=(w64 (c+1))
 some (.inl (e,i,g,b.2))))) none) (
 some (.inr (.inr ())))
def j14 [LP] (b:Tn59) (a c:Int) (d:(List (ByteArray×Bool))):Option (Int ⊕ Unit):=
 LP.lp (unc4 (j0A)) (b,a,c,d)
theorem j4M (b:Tn59) (c a:Int) (d:(List (ByteArray×Bool))):j14 b c a d=lpK (j0A b c a d) (fun h=>j14 h.1 h.2.1 h.2.2.1 h.2.2.2):=j09 _ _
def j1A [LP] (a:Tn59):Option (Int):=
 let b:(List (ByteArray×Bool)):=([]:(List (ByteArray×Bool)))
 let c:=(Int.ofNat (List.length a))
 (j14 a c 0 b).bind fun d=>
 sumC d (fun e=>
 some e) (fun f=>
 some 0)
def j1O (a b:Int):Option (Bool):=
 some (cond (decide (a≥0)) (decide (a<b)) false)
def j3B (i f:Tn2) (k b:Int):Option ((Tn2×Tn2×Int×Int) ⊕ (Int ⊕ Unit)):=
 cond (decide (b<k)) (
 cond (inR b (List.length f)) (
 let a:=(List.getD f (Int.toNat b) (0,0))
 let e:Bool:=(cond (cond (decide (a.1<0)) true (decide (a.1≥a.2))) true (decide (a.2>604800)))
 cond e (
 some (.inr (.inl 1))) (
 cond (decide (b>0)) (
 let c:=(w64 (b-1))
 cond (inR c (List.length i)) (
 let j:=(List.getD i (Int.toNat c) (0,0))
 cond (decide (a.1<j.2)) (
 some (.inr (.inl 6))) (
 let d:=(w64 (b+1))
 some (.inl (i,f,k,d)))) none) (
 let g:=(w64 (b+1))
 some (.inl (i,f,k,g))))) none) (
 some (.inr (.inr ())))
def j5v [LP] (c b:Tn2) (d a:Int):Option (Int ⊕ Unit):=
 LP.lp (unc4 (j3B)) (c,b,d,a)
theorem jb6 (d b c a):j5v d b c a=lpK (j3B d b c a) (fun h=>j5v h.1 h.2.1 h.2.2.1 h.2.2.2):=j09 _ _
def j6l [LP] (a:Tn2):Option (Int):=
 let d:=(Int.ofNat (List.length a))
 cond (decide (d>14)) (
 some 5) (
 let b:=(Int.ofNat (List.length a))
 (j5v a a b 0).bind fun c=>
 sumC c (fun e=>
 some e) (fun f=>
 some 0))
def j5w (a b c:Int):Option (Bool):=
 some (cond (decide (a≥b)) (decide (a≤c)) false)
def j4r (a:Int):Option (Bool):=
 (j5w a 0 604800).bind fun b=>
 let c:=(Int.tmod a 3600)
 some (cond b (c==0) false)
def j1p [LP] (b:Tn76) (a:Tn49):Option (Int):=
 let f:=(Int.ofNat (List.length b.1))
 (j1O a.2.1 f).bind fun g=>
 cond (!g) (
 some 3) (
 (j6l a.2.2.1).bind fun d=>
 cond (d != 0) (
 some 8) (
 (j4r a.2.2.2.1).bind fun c=>
 cond (!c) (
 some 1) (
 (j4r a.2.2.2.2.1).bind fun e=>
 cond (!e) (
 some 1) (
 some 0))))
def j84 (a:Tn22):Option (ByteArray):=
 some a.1
def j9z (e c:Int):Option ((Int×Int) ⊕ (Int)):=
 let b:=(w64 (c+1))
 (j3O b).bind fun d=>
 cond (decide (d≤e)) (
 let a:=(w64 (c+1))
 some (.inl (e,a))) (
 some (.inr c))
def jaG [LP] (b a:Int):Option (Int):=
 LP.lp (unc2 (j9z)) (b,a)
def jaa [LP] (a:Int):Option (Int):=
 (j67 a 366).bind fun d=>
 let b:=(w64 (1970+d))
 (jaG a b).bind fun c=>
 some c
def j8m (k l b c f a d:Int):Option ((Int×Int×Int×Int×Int×Int×Int) ⊕ ((Int×Int×Int×Int×Int×Int×Int))):=
 (j5u f a).bind fun e=>
 cond (decide (k≥e)) (
 (j5u f a).bind fun j=>
 let i:=(w64 (k-j))
 let g:=(w64 (a+1))
 some (.inl (i,l,b,c,f,g,d))) (
 some (.inr (k,l,b,c,f,a,d)))
def j8I [LP] (g f b c e a d:Int):Option ((Int×Int×Int×Int×Int×Int×Int)):=
 LP.lp (unc7 (j8m)) (g,f,b,c,e,a,d)
def j6m [LP] (a:Int):Option (Tn4×Int):=
 (j3O 1970).bind fun i=>
 cond (decide (a<i)) (
 some ((0,(0,0)),1)) (
 (j3O 2241).bind fun g=>
 cond (decide (a≥g)) (
 some ((0,(0,0)),1)) (
 (jaa a).bind fun b=>
 (j3O b).bind fun d=>
 let f:=(w64 (a-d))
 (j8I f 0 0 0 b 1 0).bind fun c=>
 let e:=(w64 (c.1+1))
 some ((c.2.2.2.2.1,(c.2.2.2.2.2.1,e)),0)))
def j1q [LP] (a:Int):Option (Bool):=
 (j6m a).bind fun b=>
 some (b.2==0)
def j1D [LP] (a:Int):Option (Bool):=
 (j1q a).bind fun b=>
 some (!b)
def j0s [LP] (e:(List Int)) (f a:Int):Option (((List Int)×Int×Int) ⊕ (Int ⊕ Unit)):=
 cond (decide (a<f)) (
 cond (inR a (List.length e)) (
 let d:=(List.getD e (Int.toNat a) 0)
 (j1D d).bind fun b=>
 cond b (
 some (.inr (.inl a))) (
 let c:=(w64 (a+1))
 some (.inl (e,f,c)))) none) (
 some (.inr (.inr ())))
def j1d [LP] (c:(List Int)) (a b:Int):Option (Int ⊕ Unit):=
 LP.lp (unc3 (j0s)) (c,a,b)
theorem j4m (c a b):j1d c a b=lpK (j0s c a b) (fun h=>j1d h.1 h.2.1 h.2.2):=j09 _ _
def j1E [LP] (a:(List Int)):Option (Int):=
 let b:=(Int.ofNat (List.length a))
 (j1d a b 0).bind fun c=>
 sumC c (fun d=>
 some d) (fun e=>
 some (-1))
def j1e [LP] (a:(List Int)):Option (Bool):=
 (j1E a).bind fun b=>
 some (decide (b≥0))
def j1u (e b:Int) (k:ByteArray) (d:Int) (a:(List Int)):Option ((Int×Int×ByteArray×Int×(List Int)) ⊕ (Int ⊕ Unit)):=
 cond (decide (b<e)) (
 cond (decide (b>0)) (
 cond (inR b (List.length a)) (
 let g:=(List.getD a (Int.toNat b) 0)
 let c:=(w64 (b-1))
 cond (inR c (List.length a)) (
 let i:=(List.getD a (Int.toNat c) 0)
 cond (decide (g≤i)) (
 some (.inr (.inl 6))) (
 let f:=(w64 (b+1))
 some (.inl (e,f,k,d,a)))) none) none) (
 let j:=(w64 (b+1))
 some (.inl (e,j,k,d,a)))) (
 some (.inr (.inr ())))
def j1F [LP] (d c:Int) (e:ByteArray) (a:Int) (b:(List Int)):Option (Int ⊕ Unit):=
 LP.lp (unc5 (j1u)) (d,c,e,a,b)
theorem j55 (d c e a b):j1F d c e a b=lpK (j1u d c e a b) (fun h=>j1F h.1 h.2.1 h.2.2.1 h.2.2.2.1 h.2.2.2.2):=j09 _ _
def j1h [LP] (b:Tn76) (a:Tn22):Option (Int):=
 let e:=(Int.ofNat (List.length b.1))
 (j1O a.2.1 e).bind fun g=>
 cond (!g) (
 some 3) (
 let f:=(Int.ofNat (List.length a.2.2))
 cond (decide (f>64)) (
 some 5) (
 (j1e a.2.2).bind fun d=>
 cond d (
 some 1) (
 let c:=(Int.ofNat (List.length a.2.2))
 (j1F c 0 a.1 a.2.1 a.2.2).bind fun i=>
 sumC i (fun j=>
 some j) (fun k=>
 some 0))))
def j3x [LP] (a:Tn22) (e:Tn59) (b:Tn53) (c:Tn30) (d:Tn70):Option (Int):=
 (j1h (e,(b,(c,d))) (a.1,(a.2.1,a.2.2))).bind fun f=>
 some f
def j0n [LP] (m:Tn59) (e:Tn53) (i:Tn30) (f:Tn70) (g:Tn30) (l c:Int) (n:(List (ByteArray×Bool))):Option ((Tn59×Tn53×Tn30×Tn70×Tn30×Int×Int×(List (ByteArray×Bool))) ⊕ (Int ⊕ Unit)):=
 cond (decide (c<l)) (
 cond (inR c (List.length g)) (
 let a:=(List.getD g (Int.toNat c) (ByteArray.empty,(0,([]:(List Int)))))
 (j84 (a.1,(a.2.1,a.2.2))).bind fun j=>
 (j2N j n).bind fun b=>
 cond (b.1 != 0) (
 some (.inr (.inl b.1))) (
 (j3x (a.1,(a.2.1,a.2.2)) m e i f).bind fun d=>
 cond (d != 0) (
 some (.inr (.inl d))) (
 let k:=(w64 (c+1))
 some (.inl (m,e,i,f,g,l,k,b.2))))) none) (
 some (.inr (.inr ())))
def j0L [LP] (g:Tn59) (a:Tn53) (c:Tn30) (b:Tn70) (e:Tn30) (f d:Int) (i:(List (ByteArray×Bool))):Option (Int ⊕ Unit):=
 LP.lp (unc8 (j0n)) (g,a,c,b,e,f,d,i)
theorem j3W (g:Tn59) (a:Tn53) (c:Tn30) (b:Tn70) (e:Tn30) (f d:Int) (i:(List (ByteArray×Bool))):j0L g a c b e f d i=lpK (j0n g a c b e f d i) (fun h=>j0L h.1 h.2.1 h.2.2.1 h.2.2.2.1 h.2.2.2.2.1 h.2.2.2.2.2.1 h.2.2.2.2.2.2.1 h.2.2.2.2.2.2.2):=j09 _ _
def j0Y [LP] (e:Tn30) (d:Tn59) (c:Tn53) (a:Tn30) (b:Tn70):Option (Int):=
 let f:(List (ByteArray×Bool)):=([]:(List (ByteArray×Bool)))
 let g:=(Int.ofNat (List.length e))
 (j0L d c a b e g 0 f).bind fun i=>
 sumC i (fun j=>
 some j) (fun k=>
 some 0)
def j85 (a:Tn69):Option (ByteArray):=
 some a.1
def j47 (a:Tn64):Option (ByteArray):=
 some a.1
def j56 (b:Int) (g:Tn59) (a:Tn53) (d:Tn30) (f:Tn70):Option (Bool):=
 let c:=(Int.ofNat (List.length a))
 (j1O b c).bind fun e=>
 some (!e)
def j0P (i:(List Int)) (k:Tn59) (b:Tn53) (d:Tn30) (c:Tn70) (j a:Int):Option (((List Int)×Tn59×Tn53×Tn30×Tn70×Int×Int) ⊕ (Int ⊕ Unit)):=
 cond (decide (a<j)) (
 cond (inR a (List.length i)) (
 let g:=(List.getD i (Int.toNat a) 0)
 (j56 g k b d c).bind fun e=>
 cond e (
 some (.inr (.inl a))) (
 let f:=(w64 (a+1))
 some (.inl (i,k,b,d,c,j,f)))) none) (
 some (.inr (.inr ())))
def j0S [LP] (d:(List Int)) (g:Tn59) (a:Tn53) (c:Tn30) (b:Tn70) (f e:Int):Option (Int ⊕ Unit):=
 LP.lp (unc7 (j0P)) (d,g,a,c,b,f,e)
theorem j3C (d g a c b f e):j0S d g a c b f e=lpK (j0P d g a c b f e) (fun h=>j0S h.1 h.2.1 h.2.2.1 h.2.2.2.1 h.2.2.2.2.1 h.2.2.2.2.2.1 h.2.2.2.2.2.2):=j09 _ _
def j1f [LP] (d:(List Int)) (e:Tn59) (c:Tn53) (b:Tn30) (a:Tn70):Option (Int):=
 let f:=(Int.ofNat (List.length d))
 (j0S d e c b a f 0).bind fun g=>
 sumC g (fun i=>
 some i) (fun j=>
 some (-1))
def j0T [LP] (e:(List Int)) (d:Tn59) (c:Tn53) (b:Tn30) (a:Tn70):Option (Bool):=
 (j1f e d c b a).bind fun f=>
 some (decide (f≥0))
def j1W [LP] (b:Tn76) (a:Tn64):Option (Int):=
 let n:=(Int.ofNat (List.length b.1))
 (j1O a.2.1 n).bind fun p=>
 cond (!p) (
 some 3) (
 cond (decide (a.2.2.1.1<1)) (
 some 1) (
 (j1q a.2.2.1.1).bind fun g=>
 cond (!g) (
 some 1) (
 (j5w a.2.2.1.2 0 86399).bind fun i=>
 cond (!i) (
 some 1) (
 (j5w a.2.2.2.1 0 2).bind fun c=>
 cond (!c) (
 some 1) (
 (j5w a.2.2.2.2.1 1 400).bind fun m=>
 cond (!m) (
 some 1) (
 let f:=(Int.ofNat (List.length a.2.2.2.2.2.1))
 cond (f==0) (
 some 7) (
 let o:=(Int.ofNat (List.length a.2.2.2.2.2.1))
 cond (decide (o>12)) (
 some 5) (
 (j0T a.2.2.2.2.2.1 b.1 b.2.1 b.2.2.1 b.2.2.2).bind fun l=>
 cond l (
 some 3) (
 (j6l a.2.2.2.2.2.2.1).bind fun j=>
 cond (j != 0) (
 some 8) (
 (j5w a.2.2.2.2.2.2.2.2 0 2).bind fun e=>
 cond (!e) (
 some 1) (
 let d:=(Int.ofNat (List.length b.2.2.1))
 cond (a.2.2.2.2.2.2.2.2 != 0) (
 (j1O a.2.2.2.2.2.2.2.1 d).bind fun k=>
 cond (!k) (
 some 3) (
 cond (cond (a.2.2.2.2.2.2.2.2==0) (a.2.2.2.2.2.2.2.1 != 0) false) (
 some 1) (
 some 0))) (
 cond (cond (a.2.2.2.2.2.2.2.2==0) (a.2.2.2.2.2.2.2.1 != 0) false) (
 some 1) (
 some 0)))))))))))))
def j1G [LP] (a:Tn64) (e:Tn59) (b:Tn53) (c:Tn30) (d:Tn70):Option (Int):=
 (j1W (e,(b,(c,d))) (a.1,(a.2.1,((a.2.2.1.1,a.2.2.1.2),(a.2.2.2.1,(a.2.2.2.2.1,(a.2.2.2.2.2.1,(a.2.2.2.2.2.2.1,(a.2.2.2.2.2.2.2.1,a.2.2.2.2.2.2.2.2))))))))).bind fun f=>
 some f
def j0x [LP] (m:Tn59) (e:Tn53) (i:Tn30) (f:Tn70) (g:Tn65) (l c:Int) (n:(List (ByteArray×Bool))):Option ((Tn59×Tn53×Tn30×Tn70×Tn65×Int×Int×(List (ByteArray×Bool))) ⊕ (Int ⊕ Unit)):=
 cond (decide (c<l)) (
 cond (inR c (List.length g)) (
 let a:=(List.getD g (Int.toNat c) (ByteArray.empty,(0,((0,0),(0,(0,(([]:(List Int)),(([]:Tn2),(0,0)))))))))
 (j47 (a.1,(a.2.1,((a.2.2.1.1,a.2.2.1.2),(a.2.2.2.1,(a.2.2.2.2.1,(a.2.2.2.2.2.1,(a.2.2.2.2.2.2.1,(a.2.2.2.2.2.2.2.1,a.2.2.2.2.2.2.2.2))))))))).bind fun j=>
 (j2N j n).bind fun b=>
 cond (b.1 != 0) (
 some (.inr (.inl b.1))) (
 (j1G (a.1,(a.2.1,((a.2.2.1.1,a.2.2.1.2),(a.2.2.2.1,(a.2.2.2.2.1,(a.2.2.2.2.2.1,(a.2.2.2.2.2.2.1,(a.2.2.2.2.2.2.2.1,a.2.2.2.2.2.2.2.2)))))))) m e i f).bind fun d=>
 cond (d != 0) (
 some (.inr (.inl d))) (
 let k:=(w64 (c+1))
 some (.inl (m,e,i,f,g,l,k,b.2))))) none) (
 some (.inr (.inr ())))
def j0Z [LP] (g:Tn59) (a:Tn53) (c:Tn30) (b:Tn70) (e:Tn65) (f d:Int) (i:(List (ByteArray×Bool))):Option (Int ⊕ Unit):=
 LP.lp (unc8 (j0x)) (g,a,c,b,e,f,d,i)
theorem j4z (g:Tn59) (a:Tn53) (c:Tn30) (b:Tn70) (e:Tn65) (f d:Int) (i:(List (ByteArray×Bool))):j0Z g a c b e f d i=lpK (j0x g a c b e f d i) (fun h=>j0Z h.1 h.2.1 h.2.2.1 h.2.2.2.1 h.2.2.2.2.1 h.2.2.2.2.2.1 h.2.2.2.2.2.2.1 h.2.2.2.2.2.2.2):=j09 _ _
def j1r [LP] (e:Tn65) (d:Tn59) (c:Tn53) (a:Tn30) (b:Tn70):Option (Int):=
 let f:(List (ByteArray×Bool)):=([]:(List (ByteArray×Bool)))
 let g:=(Int.ofNat (List.length e))
 (j0Z d c a b e g 0 f).bind fun i=>
 sumC i (fun j=>
 some j) (fun k=>
 some 0)
def j2e [LP] (g:Tn76) (a:Tn28):Option (Int):=
 let j:=(Int.ofNat (List.length g.2.1))
 (j5w a.1 0 2).bind fun m=>
 cond (!m) (
 some 1) (
 (j1O a.2.1 j).bind fun f=>
 cond (cond (!f) (!(cond (a.1==1) (a.2.1==(-1)) false)) false) (
 cond (cond (!f) (!(cond (a.1==1) (a.2.1==(-1)) false)) false) (
 some 3) (
 cond (cond (a.1 != 2) (a.2.2.1 != 0) false) (
 some 1) (
 cond (cond (a.1==2) (a.2.1==a.2.2.1) false) (
 some 4) (
 let l:=(w64 (Int.tdiv a.2.2.2.2 86400))
 cond (cond (decide (a.2.2.2.1<0)) true (decide (a.2.2.2.2<0))) (
 some 1) (
 (j1q l).bind fun i=>
 cond (!i) (
 some 1) (
 cond (decide (a.2.2.2.1≥a.2.2.2.2)) (
 some 6) (
 some 0))))))) (
 cond (a.1==2) (
 (j1O a.2.2.1 j).bind fun k=>
 cond (!k) (
 some 3) (
 cond (cond (a.1 != 2) (a.2.2.1 != 0) false) (
 some 1) (
 cond (cond (a.1==2) (a.2.1==a.2.2.1) false) (
 some 4) (
 let e:=(w64 (Int.tdiv a.2.2.2.2 86400))
 cond (cond (decide (a.2.2.2.1<0)) true (decide (a.2.2.2.2<0))) (
 some 1) (
 (j1q e).bind fun c=>
 cond (!c) (
 some 1) (
 cond (decide (a.2.2.2.1≥a.2.2.2.2)) (
 some 6) (
 some 0))))))) (
 cond (cond (a.1 != 2) (a.2.2.1 != 0) false) (
 some 1) (
 cond (cond (a.1==2) (a.2.1==a.2.2.1) false) (
 some 4) (
 let b:=(w64 (Int.tdiv a.2.2.2.2 86400))
 cond (cond (decide (a.2.2.2.1<0)) true (decide (a.2.2.2.2<0))) (
 some 1) (
 (j1q b).bind fun d=>
 cond (!d) (
 some 1) (
 cond (decide (a.2.2.2.1≥a.2.2.2.2)) (
 some 6) (
 some 0))))))))
def j0F [LP] (g:Tn34) (j b:Int) (k:Tn59) (e:Tn53) (f:Tn30) (d:Tn70):Option ((Tn34×Int×Int×Tn59×Tn53×Tn30×Tn70) ⊕ (Int ⊕ Unit)):=
 cond (decide (b<j)) (
 cond (inR b (List.length g)) (
 let a:=(List.getD g (Int.toNat b) (0,(0,(0,(0,0)))))
 (j2e (k,(e,(f,d))) (a.1,(a.2.1,(a.2.2.1,(a.2.2.2.1,a.2.2.2.2))))).bind fun c=>
 cond (c != 0) (
 some (.inr (.inl c))) (
 let i:=(w64 (b+1))
 some (.inl (g,j,i,k,e,f,d)))) none) (
 some (.inr (.inr ())))
def j1H [LP] (f:Tn34) (d e:Int) (g:Tn59) (b:Tn53) (c:Tn30) (a:Tn70):Option (Int ⊕ Unit):=
 LP.lp (unc7 (j0F)) (f,d,e,g,b,c,a)
theorem j57 (f d e g b c a):j1H f d e g b c a=lpK (j0F f d e g b c a) (fun h=>j1H h.1 h.2.1 h.2.2.1 h.2.2.2.1 h.2.2.2.2.1 h.2.2.2.2.2.1 h.2.2.2.2.2.2):=j09 _ _
def j1i [LP] (a:Tn76) (b:Tn69):Option (Int):=
 let e:=(Int.ofNat (List.length b.2.1))
 let d:=(Int.ofNat (List.length b.2.2))
 cond (cond (decide (e>6)) true (decide (d>48))) (
 some 5) (
 (j1r b.2.1 a.1 a.2.1 a.2.2.1 a.2.2.2).bind fun c=>
 cond (c != 0) (
 some c) (
 let f:=(Int.ofNat (List.length b.2.2))
 (j1H b.2.2 f 0 a.1 a.2.1 a.2.2.1 a.2.2.2).bind fun g=>
 sumC g (fun i=>
 some i) (fun j=>
 some 0)))
def j3y [LP] (a:Tn69) (e:Tn59) (b:Tn53) (c:Tn30) (d:Tn70):Option (Int):=
 (j1i (e,(b,(c,d))) (a.1,(a.2.1,a.2.2))).bind fun f=>
 some f
def j0o [LP] (m:Tn59) (e:Tn53) (i:Tn30) (f g:Tn70) (l c:Int) (n:(List (ByteArray×Bool))):Option ((Tn59×Tn53×Tn30×Tn70×Tn70×Int×Int×(List (ByteArray×Bool))) ⊕ (Int ⊕ Unit)):=
 cond (decide (c<l)) (
 cond (inR c (List.length g)) (
 let a:=(List.getD g (Int.toNat c) (ByteArray.empty,(([]:Tn65),([]:Tn34))))
 (j85 (a.1,(a.2.1,a.2.2))).bind fun j=>
 (j2N j n).bind fun b=>
 cond (b.1 != 0) (
 some (.inr (.inl b.1))) (
 (j3y (a.1,(a.2.1,a.2.2)) m e i f).bind fun d=>
 cond (d != 0) (
 some (.inr (.inl d))) (
 let k:=(w64 (c+1))
 some (.inl (m,e,i,f,g,l,k,b.2))))) none) (
 some (.inr (.inr ())))
def j0M [LP] (g:Tn59) (a:Tn53) (c:Tn30) (b e:Tn70) (f d:Int) (i:(List (ByteArray×Bool))):Option (Int ⊕ Unit):=
 LP.lp (unc8 (j0o)) (g,a,c,b,e,f,d,i)
theorem j3X (g:Tn59) (a:Tn53) (c:Tn30) (b e:Tn70) (f d:Int) (i:(List (ByteArray×Bool))):j0M g a c b e f d i=lpK (j0o g a c b e f d i) (fun h=>j0M h.1 h.2.1 h.2.2.1 h.2.2.2.1 h.2.2.2.2.1 h.2.2.2.2.2.1 h.2.2.2.2.2.2.1 h.2.2.2.2.2.2.2):=j09 _ _
def j1o [LP] (e:Tn70) (d:Tn59) (c:Tn53) (a:Tn30) (b:Tn70):Option (Int):=
 let f:(List (ByteArray×Bool)):=([]:(List (ByteArray×Bool)))
 let g:=(Int.ofNat (List.length e))
 (j0M d c a b e g 0 f).bind fun i=>
 sumC i (fun j=>
 some j) (fun k=>
 some 0)
def j1j [LP] (g:Tn53) (i f:Int) (j:Tn59) (e:Tn53) (c:Tn30) (d:Tn70) (r:(List (ByteArray×Bool))):Option ((Tn53×Int×Int×Tn59×Tn53×Tn30×Tn70×(List (ByteArray×Bool))) ⊕ (Int ⊕ (Tn59×Tn53×Tn30×Tn70))):=
 cond (decide (f<i)) (
 cond (inR f (List.length g)) (
 let a:=(List.getD g (Int.toNat f) (ByteArray.empty,(0,(([]:Tn2),(0,(0,false))))))
 (j2N a.1 r).bind fun b=>
 let q:Bool:=(ByteArray.toList a.1==ByteArray.toList (ByteArray.mk #[110,111,98,111,100,121]))
 cond q (
 cond (2==0) (
 (j1p (j,(e,(c,d))) (a.1,(a.2.1,(a.2.2.1,(a.2.2.2.1,(a.2.2.2.2.1,a.2.2.2.2.2)))))).bind fun k=>
 cond (k != 0) (
 some (.inr (.inl k))) (
 let o:=(w64 (f+1))
 some (.inl (g,i,o,j,e,c,d,b.2)))) (
 cond (2 != 0) (
 some (.inr (.inl 2))) (
 let n:=(w64 (f+1))
 some (.inl (g,i,n,j,e,c,d,b.2))))) (
 cond (b.1==0) (
 (j1p (j,(e,(c,d))) (a.1,(a.2.1,(a.2.2.1,(a.2.2.2.1,(a.2.2.2.2.1,a.2.2.2.2.2)))))).bind fun l=>
 cond (l != 0) (
 some (.inr (.inl l))) (
 let m:=(w64 (f+1))
 some (.inl (g,i,m,j,e,c,d,b.2)))) (
 cond (b.1 != 0) (
 some (.inr (.inl b.1))) (
 let p:=(w64 (f+1))
 some (.inl (g,i,p,j,e,c,d,b.2)))))) none) (
 some (.inr (.inr (j,e,c,d))))
def j31 [LP] (e:Tn53) (f d:Int) (i:Tn59) (c:Tn53) (a:Tn30) (b:Tn70) (g:(List (ByteArray×Bool))):Option (Int ⊕ (Tn59×Tn53×Tn30×Tn70)):=
 LP.lp (unc8 (j1j)) (e,f,d,i,c,a,b,g)
theorem j8J (e:Tn53) (f d:Int) (i:Tn59) (c:Tn53) (a:Tn30) (b:Tn70) (g:(List (ByteArray×Bool))):j31 e f d i c a b g=lpK (j1j e f d i c a b g) (fun h=>j31 h.1 h.2.1 h.2.2.1 h.2.2.2.1 h.2.2.2.2.1 h.2.2.2.2.2.1 h.2.2.2.2.2.2.1 h.2.2.2.2.2.2.2):=j09 _ _
def j21 [LP] (a:Tn76):Option (Int):=
 let k:=(Int.ofNat (List.length a.1))
 let j:=(Int.ofNat (List.length a.2.1))
 let f:=(Int.ofNat (List.length a.2.2.1))
 let e:Bool:=(cond (cond (decide (k>16)) true (decide (j>32))) true (decide (f>8)))
 let l:=(Int.ofNat (List.length a.2.2.2))
 cond (cond e true (decide (l>12))) (
 some 5) (
 (j1A a.1).bind fun c=>
 cond (c != 0) (
 some c) (
 let i:(List (ByteArray×Bool)):=([]:(List (ByteArray×Bool)))
 let g:=(Int.ofNat (List.length a.2.1))
 (j31 a.2.1 g 0 a.1 a.2.1 a.2.2.1 a.2.2.2 i).bind fun n=>
 sumC n (fun o=>
 some o) (fun b=>
 (j0Y b.2.2.1 b.1 b.2.1 b.2.2.1 b.2.2.2).bind fun d=>
 cond (d != 0) (
 some d) (
 (j1o b.2.2.2 b.1 b.2.1 b.2.2.1 b.2.2.2).bind fun m=>
 some m))))
def j8K (b:Tn76) (a:Int):Option (Bool):=
 let c:=(Int.ofNat (List.length b.2.2.2))
 some (cond (decide (a≥0)) (decide (a<c)) false)
def j1X (a:Tn59):Option (Tn59):=
 cond (decide (List.length ([]:List (Tn57))+List.length a≤j0l)) (
 some (([]:List (Tn57))++a)) none
def j1x (a:Tn53):Option (Tn53):=
 cond (decide (List.length ([]:List (Tn49))+List.length a≤j0l)) (
 some (([]:List (Tn49))++a)) none
def j17 (a:Tn30):Option (Tn30):=
 cond (decide (List.length ([]:List (Tn22))+List.length a≤j0l)) (
 some (([]:List (Tn22))++a)) none
def j18 (a:Tn70):Option (Tn70):=
 cond (decide (List.length ([]:List (Tn69))+List.length a≤j0l)) (
 some (([]:List (Tn69))++a)) none
def j19 (a:Tn47):Option (Tn47):=
 cond (decide (List.length ([]:List (Tn43))+List.length a≤j0l)) (
 some (([]:List (Tn43))++a)) none
def j0W (a:Tn2):Option (Tn2):=
 cond (decide (List.length ([]:List ((Int×Int)))+List.length a≤j0l)) (
 some (([]:List ((Int×Int)))++a)) none
def j36 (a:(List Int)):Option ((List Int)):=
 cond (decide (List.length ([]:List (Int))+List.length a≤j0l)) (
 some (([]:List (Int))++a)) none
def j1a (a:Tn65):Option (Tn65):=
 cond (decide (List.length ([]:List (Tn64))+List.length a≤j0l)) (
 some (([]:List (Tn64))++a)) none
def j1k (a:Tn34):Option (Tn34):=
 cond (decide (List.length ([]:List (Tn28))+List.length a≤j0l)) (
 some (([]:List (Tn28))++a)) none
def j48 (m d:Int) (e:ByteArray) (b:Tn65) (c:Tn34) (a:Tn59) (f:Tn53) (g:Tn30):Option ((Int×Int×ByteArray×Tn65×Tn34×Tn59×Tn53×Tn30) ⊕ ((ByteArray×Tn65×Tn34×Tn59×Tn53×Tn30))):=
 cond (decide (d<m)) (
 cond (inR d (List.length a)) (
 let j:=(List.getD a (Int.toNat d) (ByteArray.empty,(0,([]:Tn47)))).2.2
 (j19 j).bind fun l=>
 cond (inR d (List.length a)) (
 let k:Tn59:=(List.set a (Int.toNat d) ((List.getD a (Int.toNat d) (ByteArray.empty,(0,([]:Tn47)))).1,((List.getD a (Int.toNat d) (ByteArray.empty,(0,([]:Tn47)))).2.1,l)))
 let i:=(w64 (d+1))
 some (.inl (m,i,e,b,c,k,f,g))) none) none) (
 some (.inr (e,b,c,a,f,g)))
def j58 [LP] (i g:Int) (c:ByteArray) (a:Tn65) (b:Tn34) (d:Tn59) (e:Tn53) (f:Tn30):Option ((ByteArray×Tn65×Tn34×Tn59×Tn53×Tn30)):=
 LP.lp (unc8 (j48)) (i,g,c,a,b,d,e,f)
theorem jbI (i g c a b d e f):j58 i g c a b d e f=lpK (j48 i g c a b d e f) (fun h=>j58 h.1 h.2.1 h.2.2.1 h.2.2.2.1 h.2.2.2.2.1 h.2.2.2.2.2.1 h.2.2.2.2.2.2.1 h.2.2.2.2.2.2.2):=j09 _ _
def j49 (m b:Int) (e:ByteArray) (c:Tn65) (d:Tn34) (g:Tn59) (a:Tn53) (f:Tn30):Option ((Int×Int×ByteArray×Tn65×Tn34×Tn59×Tn53×Tn30) ⊕ ((ByteArray×Tn65×Tn34×Tn59×Tn53×Tn30))):=
 cond (decide (b<m)) (
 cond (inR b (List.length a)) (
 let j:=(List.getD a (Int.toNat b) (ByteArray.empty,(0,(([]:Tn2),(0,(0,false)))))).2.2.1
 (j0W j).bind fun i=>
 cond (inR b (List.length a)) (
 let l:Tn53:=(List.set a (Int.toNat b) ((List.getD a (Int.toNat b) (ByteArray.empty,(0,(([]:Tn2),(0,(0,false)))))).1,((List.getD a (Int.toNat b) (ByteArray.empty,(0,(([]:Tn2),(0,(0,false)))))).2.1,(i,((List.getD a (Int.toNat b) (ByteArray.empty,(0,(([]:Tn2),(0,(0,false)))))).2.2.2.1,((List.getD a (Int.toNat b) (ByteArray.empty,(0,(([]:Tn2),(0,(0,false)))))).2.2.2.2.1,(List.getD a (Int.toNat b) (ByteArray.empty,(0,(([]:Tn2),(0,(0,false)))))).2.2.2.2.2))))))
 let k:=(w64 (b+1))
 some (.inl (m,k,e,c,d,g,l,f))) none) none) (
 some (.inr (e,c,d,g,a,f)))
def j59 [LP] (g i:Int) (c:ByteArray) (a:Tn65) (b:Tn34) (f:Tn59) (d:Tn53) (e:Tn30):Option ((ByteArray×Tn65×Tn34×Tn59×Tn53×Tn30)):=
 LP.lp (unc8 (j49)) (g,i,c,a,b,f,d,e)
theorem jbJ (g i c a b f d e):j59 g i c a b f d e=lpK (j49 g i c a b f d e) (fun h=>j59 h.1 h.2.1 h.2.2.1 h.2.2.2.1 h.2.2.2.2.1 h.2.2.2.2.2.1 h.2.2.2.2.2.2.1 h.2.2.2.2.2.2.2):=j09 _ _
def j4a (m d:Int) (e:ByteArray) (b:Tn65) (c:Tn34) (g:Tn59) (f:Tn53) (a:Tn30):Option ((Int×Int×ByteArray×Tn65×Tn34×Tn59×Tn53×Tn30) ⊕ ((ByteArray×Tn65×Tn34×Tn59×Tn53×Tn30))):=
 cond (decide (d<m)) (
 cond (inR d (List.length a)) (
 let i:=(List.getD a (Int.toNat d) (ByteArray.empty,(0,([]:(List Int))))).2.2
 (j36 i).bind fun j=>
 cond (inR d (List.length a)) (
 let k:Tn30:=(List.set a (Int.toNat d) ((List.getD a (Int.toNat d) (ByteArray.empty,(0,([]:(List Int))))).1,((List.getD a (Int.toNat d) (ByteArray.empty,(0,([]:(List Int))))).2.1,j)))
 let l:=(w64 (d+1))
 some (.inl (m,l,e,b,c,g,f,k))) none) none) (
 some (.inr (e,b,c,g,f,a)))
def j5a [LP] (i g:Int) (c:ByteArray) (a:Tn65) (b:Tn34) (f:Tn59) (d:Tn53) (e:Tn30):Option ((ByteArray×Tn65×Tn34×Tn59×Tn53×Tn30)):=
 LP.lp (unc8 (j4a)) (i,g,c,a,b,f,d,e)
theorem jbK (i g c a b f d e):j5a i g c a b f d e=lpK (j4a i g c a b f d e) (fun h=>j5a h.1 h.2.1 h.2.2.1 h.2.2.2.1 h.2.2.2.2.1 h.2.2.2.2.2.1 h.2.2.2.2.2.2.1 h.2.2.2.2.2.2.2):=j09 _ _
def j4b (r q i b:Int) (e:ByteArray) (o:Tn59) (k:Tn53) (l:Tn30) (a:Tn65) (d:Tn34):Option ((Int×Int×Int×Int×ByteArray×Tn59×Tn53×Tn30×Tn65×Tn34) ⊕ ((Int×Int×ByteArray×Tn59×Tn53×Tn30×Tn65×Tn34))):=
 cond (decide (b<i)) (
 cond (inR b (List.length a)) (
 let f:=(List.getD a (Int.toNat b) (ByteArray.empty,(0,((0,0),(0,(0,(([]:(List Int)),(([]:Tn2),(0,0))))))))).2.2.2.2.2.1
 (j36 f).bind fun g=>
 cond (inR b (List.length a)) (
 let j:=(List.getD a (Int.toNat b) (ByteArray.empty,(0,((0,0),(0,(0,(([]:(List Int)),(([]:Tn2),(0,0))))))))).2.2.2.2.2.2.1
 (j0W j).bind fun m=>
 cond (inR b (List.length a)) (
 let c:Tn65:=(List.set a (Int.toNat b) ((List.getD a (Int.toNat b) (ByteArray.empty,(0,((0,0),(0,(0,(([]:(List Int)),(([]:Tn2),(0,0))))))))).1,((List.getD a (Int.toNat b) (ByteArray.empty,(0,((0,0),(0,(0,(([]:(List Int)),(([]:Tn2),(0,0))))))))).2.1,(((List.getD a (Int.toNat b) (ByteArray.empty,(0,((0,0),(0,(0,(([]:(List Int)),(([]:Tn2),(0,0))))))))).2.2.1.1,(List.getD a (Int.toNat b) (ByteArray.empty,(0,((0,0),(0,(0,(([]:(List Int)),(([]:Tn2),(0,0))))))))).2.2.1.2),((List.getD a (Int.toNat b) (ByteArray.empty,(0,((0,0),(0,(0,(([]:(List Int)),(([]:Tn2),(0,0))))))))).2.2.2.1,((List.getD a (Int.toNat b) (ByteArray.empty,(0,((0,0),(0,(0,(([]:(List Int)),(([]:Tn2),(0,0))))))))).2.2.2.2.1,(g,((List.getD a (Int.toNat b) (ByteArray.empty,(0,((0,0),(0,(0,(([]:(List Int)),(([]:Tn2),(0,0))))))))).2.2.2.2.2.2.1,((List.getD a (Int.toNat b) (ByteArray.empty,(0,((0,0),(0,(0,(([]:(List Int)),(([]:Tn2),(0,0))))))))).2.2.2.2.2.2.2.1,(List.getD a (Int.toNat b) (ByteArray.empty,(0,((0,0),(0,(0,(([]:(List Int)),(([]:Tn2),(0,0))))))))).2.2.2.2.2.2.2.2)))))))))
 cond (inR b (List.length c)) (
 let p:Tn65:=(List.set c (Int.toNat b) ((List.getD c (Int.toNat b) (ByteArray.empty,(0,((0,0),(0,(0,(([]:(List Int)),(([]:Tn2),(0,0))))))))).1,((List.getD c (Int.toNat b) (ByteArray.empty,(0,((0,0),(0,(0,(([]:(List Int)),(([]:Tn2),(0,0))))))))).2.1,(((List.getD c (Int.toNat b) (ByteArray.empty,(0,((0,0),(0,(0,(([]:(List Int)),(([]:Tn2),(0,0))))))))).2.2.1.1,(List.getD c (Int.toNat b) (ByteArray.empty,(0,((0,0),(0,(0,(([]:(List Int)),(([]:Tn2),(0,0))))))))).2.2.1.2),((List.getD c (Int.toNat b) (ByteArray.empty,(0,((0,0),(0,(0,(([]:(List Int)),(([]:Tn2),(0,0))))))))).2.2.2.1,((List.getD c (Int.toNat b) (ByteArray.empty,(0,((0,0),(0,(0,(([]:(List Int)),(([]:Tn2),(0,0))))))))).2.2.2.2.1,((List.getD c (Int.toNat b) (ByteArray.empty,(0,((0,0),(0,(0,(([]:(List Int)),(([]:Tn2),(0,0))))))))).2.2.2.2.2.1,(m,((List.getD c (Int.toNat b) (ByteArray.empty,(0,((0,0),(0,(0,(([]:(List Int)),(([]:Tn2),(0,0))))))))).2.2.2.2.2.2.2.1,(List.getD c (Int.toNat b) (ByteArray.empty,(0,((0,0),(0,(0,(([]:(List Int)),(([]:Tn2),(0,0))))))))).2.2.2.2.2.2.2.2)))))))))
 let n:=(w64 (b+1))
 some (.inl (r,q,i,n,e,o,k,l,p,d))) none) none) none) none) (
 some (.inr (r,q,e,o,k,l,a,d)))
def j4n [LP] (k j d g:Int) (c:ByteArray) (i:Tn59) (e:Tn53) (f:Tn30) (b:Tn65) (a:Tn34):Option ((Int×Int×ByteArray×Tn59×Tn53×Tn30×Tn65×Tn34)):=
 LP.lp (jpP (j4b)) (k,j,d,g,c,i,e,f,b,a)
theorem jbL (k j d g c i e f b a):j4n k j d g c i e f b a=lpK (j4b k j d g c i e f b a) (fun h=>j4n h.1 h.2.1 h.2.2.1 h.2.2.2.1 h.2.2.2.2.1 h.2.2.2.2.2.1 h.2.2.2.2.2.2.1 h.2.2.2.2.2.2.2.1 h.2.2.2.2.2.2.2.2.1 h.2.2.2.2.2.2.2.2.2):=j09 _ _
def j8L [LP] (b:Tn76):Option (Tn59×Tn53×Tn30×ByteArray×Tn65×Tn34):=
 (j1X b.1).bind fun l=>
 (j1x b.2.1).bind fun t=>
 (j17 b.2.2.1).bind fun r=>
 (j18 b.2.2.2).bind fun m=>
 cond (Nat.beq (List.length m) 1) (
 let q:=(List.getD m 0 (ByteArray.empty,(([]:Tn65),([]:Tn34))))
 let v:=(Int.ofNat (List.length l))
 (j58 v 0 q.1 q.2.1 q.2.2 l t r).bind fun d=>
 let s:=(Int.ofNat (List.length d.2.2.2.2.1))
 (j59 s 0 d.1 d.2.1 d.2.2.1 d.2.2.2.1 d.2.2.2.2.1 d.2.2.2.2.2).bind fun c=>
 let w:=(Int.ofNat (List.length c.2.2.2.2.2))
 (j5a w 0 c.1 c.2.1 c.2.2.1 c.2.2.2.1 c.2.2.2.2.1 c.2.2.2.2.2).bind fun g=>
 (j1a g.2.1).bind fun k=>
 (j1k g.2.2.1).bind fun n=>
 let o:=(Int.ofNat (List.length k))
 (j4n 1 0 o 0 g.1 g.2.2.2.1 g.2.2.2.2.1 g.2.2.2.2.2 k n).bind fun a=>
 let e:=(w64 (a.2.1+1))
 cond (decide (e<a.1)) (
 cond (inR e 1) (
 (j1a a.2.2.2.2.2.2.1).bind fun f=>
 (j1k a.2.2.2.2.2.2.2).bind fun j=>
 let i:=(Int.ofNat (List.length f))
 (j4n a.1 e i 0 a.2.2.1 a.2.2.2.1 a.2.2.2.2.1 a.2.2.2.2.2.1 f j).bind fun p=>
 let u:=(w64 (p.2.1+1))
 none) none) (
 some (a.2.2.2.1,a.2.2.2.2.1,a.2.2.2.2.2.1,a.2.2.1,a.2.2.2.2.2.2.1,a.2.2.2.2.2.2.2))) none
def j7E [LP] (a:Tn76) (b:Int):Option (Int×Tn59×Tn53×Tn30×ByteArray×Tn65×Tn34):=
 (j21 (a.1,(a.2.1,(a.2.2.1,a.2.2.2)))).bind fun e=>
 cond (e != 0) (
 none) (
 (j8K (a.1,(a.2.1,(a.2.2.1,a.2.2.2))) b).bind fun d=>
 cond (!d) (
 none) (
 (j8L (a.1,(a.2.1,(a.2.2.1,a.2.2.2)))).bind fun c=>
 some (0,c.1,c.2.1,c.2.2.1,c.2.2.2.1,c.2.2.2.2.1,c.2.2.2.2.2)))
def j2U [LP] (d:Tn76) (b:Int) (c:Tn28):Option (Tn76×Int):=
 (j7E (d.1,(d.2.1,(d.2.2.1,d.2.2.2))) b).bind fun a=>
 cond (a.1 != 0) (
 some ((([]:Tn59),(([]:Tn53),(([]:Tn30),([]:Tn70)))),a.1)) (
 cond (inR b 1) (
 let f:Tn34:=[(c.1,(c.2.1,(c.2.2.1,(c.2.2.2.1,c.2.2.2.2))))]
 cond (decide (List.length a.2.2.2.2.2.2+List.length f≤j0l)) (
 let g:Tn34:=(a.2.2.2.2.2.2++f)
 (j21 (a.2.1,(a.2.2.1,(a.2.2.2.1,[(a.2.2.2.2.1,(a.2.2.2.2.2.1,g))])))).bind fun e=>
 cond (e != 0) (
 some ((([]:Tn59),(([]:Tn53),(([]:Tn30),([]:Tn70)))),e)) (
 some ((a.2.1,(a.2.2.1,(a.2.2.2.1,[(a.2.2.2.2.1,(a.2.2.2.2.2.1,g))]))),0))) none) none)
def j4c (a:Tn34) (b c:Int):Option (Int×Tn34):=
 let g:=(Int.ofNat (List.length a))
 cond (decide (0≤b)&&(decide (b≤c)&&(decide (c≤g)&&decide (g≤(Int.ofNat (List.length a)))))) (
 cond (b==c) (
 some ((Int.ofNat (List.length a)),a)) (
 let f:=(Int.ofNat (List.length a))
 cond (decide (0≤b)&&decide (b≤(Int.ofNat (List.length a)))) (
 cond (decide (0≤c)&&decide (c≤(Int.ofNat (List.length a)))) (
 cond (decide ((Int.toNat b)≤(Int.toNat c))) (
 let e:Tn34:=(List.take (Int.toNat b) a++(List.drop (Int.toNat c) a++List.drop ((Int.toNat b)+(List.length a-(Int.toNat c))) a))
 let d:=(Int.ofNat ((Int.toNat b)+(List.length a-(Int.toNat c))))
 cond (decide (0≤d)&&(decide (d≤f)&&decide (f=(Int.ofNat (List.length e))))) (
 let i:Tn34:=(List.take (Int.toNat d) e++List.replicate (List.length e-(Int.toNat d)) (0,(0,(0,(0,0)))))
 some ((Int.ofNat ((Int.toNat b)+(List.length a-(Int.toNat c)))),i)) none) none) none) none)) none
def j7g [LP] (d:Tn76) (b a:Int):Option (Tn76×Int):=
 (j7E (d.1,(d.2.1,(d.2.2.1,d.2.2.2))) b).bind fun c=>
 cond (c.1 != 0) (
 some ((([]:Tn59),(([]:Tn53),(([]:Tn30),([]:Tn70)))),c.1)) (
 cond (inR b 1) (
 let g:=(Int.ofNat (List.length c.2.2.2.2.2.2))
 cond (cond (decide (a<0)) true (decide (a≥g))) (
 some ((([]:Tn59),(([]:Tn53),(([]:Tn30),([]:Tn70)))),10)) (
 let f:=(w64 (a+1))
 (j4c c.2.2.2.2.2.2 a f).bind fun e=>
 let i:Tn34:=(List.take (Int.toNat e.1) e.2)
 some ((c.2.1,(c.2.2.1,(c.2.2.2.1,[(c.2.2.2.2.1,(c.2.2.2.2.2.1,i))]))),0))) none)
def jbM [LP] (a:Tn57):Option (Tn15×Int):=
 (j1M (a.1,(a.2.1,a.2.2))).bind fun b=>
 some ((a.2.1,b.1),b.2)
def j1J [LP] (i:Tn59) (j d:Int) (g:Tn23):Option ((Tn59×Int×Int×Tn23) ⊕ (Tn23)):=
 cond (decide (d<j)) (
 cond (inR d (List.length i)) (
 let a:=(List.getD i (Int.toNat d) (ByteArray.empty,(0,([]:Tn47))))
 (jbM (a.1,(a.2.1,a.2.2))).bind fun c=>
 let b:Tn23:=[(c.1.1,c.1.2)]
 cond (decide (List.length g+List.length b≤j0l)) (
 let f:Tn23:=(g++b)
 let e:=(w64 (d+1))
 some (.inl (i,j,e,f))) none) none) (
 some (.inr g))
def j3P [LP] (b:Tn59) (d a:Int) (c:Tn23):Option (Tn23):=
 LP.lp (unc4 (j1J)) (b,d,a,c)
theorem jab (c d a b):j3P c d a b=lpK (j1J c d a b) (fun h=>j3P h.1 h.2.1 h.2.2.1 h.2.2.2):=j09 _ _
def j7h [LP] (a:Tn59):Option (Tn23):=
 let b:=(Int.ofNat (List.length a))
 (j3P a b 0 ([]:Tn23)).bind fun c=>
 some c
def j8M [LP] (a:Tn76):Option (Tn78):=
 (j7h a.1).bind fun b=>
 some ((a.1,(a.2.1,(a.2.2.1,a.2.2.2))),b)
def jcP [LP] (a:Tn76):Option (Tn78×Bool):=
 (j21 (a.1,(a.2.1,(a.2.2.1,a.2.2.2)))).bind fun c=>
 cond (c != 0) (
 some (((([]:Tn59),(([]:Tn53),(([]:Tn30),([]:Tn70)))),([]:Tn23)),false)) (
 (j8M (a.1,(a.2.1,(a.2.2.1,a.2.2.2)))).bind fun b=>
 some (((b.1.1,(b.1.2.1,(b.1.2.2.1,b.1.2.2.2))),b.2),true))
def j27 (a:Tn65):Option (Tn65):=
 some a
def j7i (a:Tn64):Option (Int):=
 cond (a.2.2.2.1==2) (
 let b:=(w64 (7*a.2.2.2.2.1))
 some b) (
 some a.2.2.2.2.1)
def j69 (a e:Int) (b:Tn2) (d:Int):Option (Bool):=
 cond (inR a (List.length b)) (
 let c:=(List.getD b (Int.toNat a) (0,0))
 some (decide (c.1>d))) none
def j2F (l:Int) (a:Tn2) (b i k:Int):Option ((Int×Tn2×Int×Int×Int) ⊕ (Int)):=
 cond (decide (i<k)) (
 let j:=(w64 (i+k))
 let e:Int:=(IntKind.wrap .u64 j)
 let f:Int:=(Int.fdiv e 2)
 let c:=(w64 f)
 (j69 c l a b).bind fun g=>
 cond (!g) (
 let d:=(w64 (c+1))
 some (.inl (l,a,b,d,k))) (
 some (.inl (l,a,b,i,c)))) (
 some (.inr i))
def j4G [LP] (d:Int) (a:Tn2) (b e c:Int):Option (Int):=
 LP.lp (unc5 (j2F)) (d,a,b,e,c)
theorem jac (d a b e c):j4G d a b e c=lpK (j2F d a b e c) (fun h=>j4G h.1 h.2.1 h.2.2.1 h.2.2.2.1 h.2.2.2.2):=j09 _ _
def j7j [LP] (d c:Int) (b:Tn2) (a:Int):Option (Int):=
 (j4G c b a 0 d).bind fun e=>
 some e
def j2z [LP] (a:Tn15) (b:Int):Option (Int):=
 let d:=(Int.ofNat (List.length a.2))
 (j7j d a.1 a.2 b).bind fun c=>
 some c
def j3k (a:Tn15) (b:Int):Option (Int):=
 cond (b==0) (
 some a.1) (
 let c:=(w64 (b-1))
 cond (inR c (List.length a.2)) (
 let d:=(List.getD a.2 (Int.toNat c) (0,0))
 some d.2) none)
def j0N [LP] (o c j:Int) (a:Tn2) (i:Tn17):Option ((Int×Int×Int×Tn2×Tn17) ⊕ (Tn17)):=
 cond (decide (o<c)) (
 (j2z (j,a) o).bind fun b=>
 let k:=(Int.ofNat (List.length a))
 cond (decide (b<k)) (
 cond (inR b (List.length a)) (
 let f:=(List.getD a (Int.toNat b) (0,0))
 let e:Int:=(if f.1<c then f.1 else c:Int)
 (j3k (j,a) b).bind fun n=>
 let d:Tn17:=[(o,(e,n))]
 cond (decide (List.length i+List.length d≤j0l)) (
 let l:Tn17:=(i++d)
 some (.inl (e,c,j,a,l))) none) none) (
 (j3k (j,a) b).bind fun p=>
 let g:Tn17:=[(o,(c,p))]
 cond (decide (List.length i+List.length g≤j0l)) (
 let m:Tn17:=(i++g)
 some (.inl (c,c,j,a,m))) none)) (
 some (.inr i))
def j1U [LP] (c b e:Int) (a:Tn2) (d:Tn17):Option (Tn17):=
 LP.lp (unc5 (j0N)) (c,b,e,a,d)
theorem j6z (c b e a d):j1U c b e a d=lpK (j0N c b e a d) (fun h=>j1U h.1 h.2.1 h.2.2.1 h.2.2.2.1 h.2.2.2.2):=j09 _ _
def j2G [LP] (b:Tn15) (a c:Int):Option (Tn17):=
 (j1U a c b.1 b.2 ([]:Tn17)).bind fun d=>
 some d
def j3f (a:(Int×Int)):Option (Int):=
 let c:Int:=(if (-1048576)>a.1 then (-1048576) else a.1:Int)
 let e:Int:=(if 1048576<c then 1048576 else c:Int)
 let d:=(w64 (e*86400))
 let b:=(w64 (d+a.2))
 some b
def j1g (j d k e:Int) (f:Tn17):Option ((Int×Int×Int×Int×Tn17) ⊕ ((Int×Bool) ⊕ Unit)):=
 cond (decide (d<j)) (
 cond (inR d (List.length f)) (
 let a:=(List.getD f (Int.toNat d) (0,(0,0)))
 (j3f (k,e)).bind fun i=>
 let c:=(w64 (i-a.2.2))
 let b:Int:=(if c>a.1 then c else a.1:Int)
 cond (decide (b<a.2.1)) (
 some (.inr (.inl (b,true)))) (
 let g:=(w64 (d+1))
 some (.inl (j,g,k,e,f)))) none) (
 some (.inr (.inr ())))
def j28 [LP] (b c e a:Int) (d:Tn17):Option ((Int×Bool) ⊕ Unit):=
 LP.lp (unc5 (j1g)) (b,c,e,a,d)
theorem j3p (b c e a d):j28 b c e a d=lpK (j1g b c e a d) (fun h=>j28 h.1 h.2.1 h.2.2.1 h.2.2.2.1 h.2.2.2.2):=j09 _ _
def j1v [LP] (a:Tn15) (b:(Int×Int)):Option (Int×Bool):=
 (j2G (a.1,a.2) 0 8589934593).bind fun c=>
 let d:=(Int.ofNat (List.length c))
 (j28 d 0 b.1 b.2 c).bind fun e=>
 sumC e (fun f=>
 some (f.1,f.2)) (fun g=>
 some (0,false))
def j1c [LP] (b:Tn15) (a:Tn64) (c:Int):Option (Int×Bool):=
 cond (decide (c>8589934592)) (
 some (0,false)) (
 cond (a.2.2.2.1 != 0) (
 (j7i (a.1,(a.2.1,((a.2.2.1.1,a.2.2.1.2),(a.2.2.2.1,(a.2.2.2.2.1,(a.2.2.2.2.2.1,(a.2.2.2.2.2.2.1,(a.2.2.2.2.2.2.2.1,a.2.2.2.2.2.2.2.2))))))))).bind fun l=>
 let g:=(w64 (c*l))
 let j:=(w64 (a.2.2.1.1+g))
 (j1v (b.1,b.2) (j,a.2.2.1.2)).bind fun e=>
 some (e.1,e.2)) (
 (j1v (b.1,b.2) (a.2.2.1.1,a.2.2.1.2)).bind fun f=>
 let k:=(w64 (3600*a.2.2.2.2.1))
 let i:=(w64 (k*c))
 let d:=(w64 (f.1+i))
 some (d,(cond f.2 (decide (d≤8589934592)) false))))
def j2H [LP] (a:Tn15) (b:Int):Option (Int):=
 (j2z (a.1,a.2) b).bind fun d=>
 (j3k (a.1,a.2) d).bind fun c=>
 some c
def jca (a:Int):Option ((Int×Int)):=
 let e:=(w64 (Int.tdiv a 86400))
 let i:=(Int.tmod a 86400)
 cond (decide (i<0)) (
 let d:=(w64 (e-1))
 let g:=(w64 (d*86400))
 let f:=(w64 (a-g))
 some (d,f)) (
 let c:=(w64 (e*86400))
 let b:=(w64 (a-c))
 some (e,b))
def j0y [LP] (a:Tn15) (b:Int):Option ((Int×Int)):=
 (j2H (a.1,a.2) b).bind fun e=>
 let d:=(w64 (b+e))
 (jca d).bind fun c=>
 some (c.1,c.2)
def j1l [LP] (p m q:Int) (i:Tn2) (o:ByteArray) (b k c g f:Int) (j:(List Int)) (e:Tn2) (d a:Int):Option ((Int×Int×Int×Tn2×ByteArray×Int×Int×Int×Int×Int×(List Int)×Tn2×Int×Int) ⊕ ((Int×Int×Int×Tn2×ByteArray×Int×Int×Int×Int×Int×(List Int)×Tn2×Int×Int))):=
 cond (decide (m>0)) (
 (j1c (q,i) (o,(b,((k,c),(g,(f,(j,(e,(d,a)))))))) m).bind fun l=>
 cond (cond l.2 (decide (l.1≤p)) false) (
 some (.inr (p,m,q,i,o,b,k,c,g,f,j,e,d,a))) (
 let n:=(w64 (m-1))
 some (.inl (p,n,q,i,o,b,k,c,g,f,j,e,d,a)))) (
 some (.inr (p,m,q,i,o,b,k,c,g,f,j,e,d,a)))
def j3z [LP] (m n o:Int) (i:Tn2) (l:ByteArray) (b k c g f:Int) (j:(List Int)) (e:Tn2) (d a:Int):Option ((Int×Int×Int×Tn2×ByteArray×Int×Int×Int×Int×Int×(List Int)×Tn2×Int×Int)):=
 LP.lp (jpR (j1l)) (m,n,o,i,l,b,k,c,g,f,j,e,d,a)
theorem j8N (m n o i l b k c g f j e d a):j3z m n o i l b k c g f j e d a=lpK (j1l m n o i l b k c g f j e d a) (fun h=>j3z h.1 h.2.1 h.2.2.1 h.2.2.2.1 h.2.2.2.2.1 h.2.2.2.2.2.1 h.2.2.2.2.2.2.1 h.2.2.2.2.2.2.2.1 h.2.2.2.2.2.2.2.2.1 h.2.2.2.2.2.2.2.2.2.1 h.2.2.2.2.2.2.2.2.2.2.1 h.2.2.2.2.2.2.2.2.2.2.2.1 h.2.2.2.2.2.2.2.2.2.2.2.2.1 h.2.2.2.2.2.2.2.2.2.2.2.2.2):=j09 _ _
def j1K [LP] (q o r:Int) (j:Tn2) (p:ByteArray) (c l d i g:Int) (k:(List Int)) (f:Tn2) (e b:Int):Option ((Int×Int×Int×Tn2×ByteArray×Int×Int×Int×Int×Int×(List Int)×Tn2×Int×Int) ⊕ (Int)):=
 let m:=(w64 (o+1))
 (j1c (r,j) (p,(c,((l,d),(i,(g,(k,(f,(e,b)))))))) m).bind fun a=>
 cond (cond (!a.2) true (decide (a.1>q))) (
 some (.inr o)) (
 let n:=(w64 (o+1))
 some (.inl (q,n,r,j,p,c,l,d,i,g,k,f,e,b)))
def j3A [LP] (m n o:Int) (i:Tn2) (l:ByteArray) (b k c g f:Int) (j:(List Int)) (e:Tn2) (d a:Int):Option (Int):=
 LP.lp (jpR (j1K)) (m,n,o,i,l,b,k,c,g,f,j,e,d,a)
theorem jcQ (m n o i l b k c g f j e d a):j3A m n o i l b k c g f j e d a=lpK (j1K m n o i l b k c g f j e d a) (fun h=>j3A h.1 h.2.1 h.2.2.1 h.2.2.2.1 h.2.2.2.2.1 h.2.2.2.2.2.1 h.2.2.2.2.2.2.1 h.2.2.2.2.2.2.2.1 h.2.2.2.2.2.2.2.2.1 h.2.2.2.2.2.2.2.2.2.1 h.2.2.2.2.2.2.2.2.2.2.1 h.2.2.2.2.2.2.2.2.2.2.2.1 h.2.2.2.2.2.2.2.2.2.2.2.2.1 h.2.2.2.2.2.2.2.2.2.2.2.2.2):=j09 _ _
def j22 [LP] (c:Tn15) (a:Tn64) (d:Int):Option (Int):=
 (j1c (c.1,c.2) (a.1,(a.2.1,((a.2.2.1.1,a.2.2.1.2),(a.2.2.2.1,(a.2.2.2.2.1,(a.2.2.2.2.2.1,(a.2.2.2.2.2.2.1,(a.2.2.2.2.2.2.2.1,a.2.2.2.2.2.2.2.2)))))))) 0).bind fun e=>
 cond (cond (!e.2) true (decide (e.1>d))) (
 some (-1)) (
 cond (a.2.2.2.1==0) (
 let l:=(w64 (d-e.1))
 let f:=(w64 (3600*a.2.2.2.2.1))
 cond (!(f==0)) (
 let j:=(w64 (Int.tdiv l f))
 some j) none) (
 (j0y (c.1,c.2) d).bind fun m=>
 let n:=(w64 (m.1-a.2.2.1.1))
 (j7i (a.1,(a.2.1,((a.2.2.1.1,a.2.2.1.2),(a.2.2.2.1,(a.2.2.2.2.1,(a.2.2.2.2.2.1,(a.2.2.2.2.2.2.1,(a.2.2.2.2.2.2.2.1,a.2.2.2.2.2.2.2.2))))))))).bind fun i=>
 cond (!(i==0)) (
 let g:=(w64 (Int.tdiv n i))
 let k:Int:=(if g>0 then g else 0:Int)
 (j3z d k c.1 c.2 a.1 a.2.1 a.2.2.1.1 a.2.2.1.2 a.2.2.2.1 a.2.2.2.2.1 a.2.2.2.2.2.1 a.2.2.2.2.2.2.1 a.2.2.2.2.2.2.2.1 a.2.2.2.2.2.2.2.2).bind fun b=>
 (j3A b.1 b.2.1 b.2.2.1 b.2.2.2.1 b.2.2.2.2.1 b.2.2.2.2.2.1 b.2.2.2.2.2.2.1 b.2.2.2.2.2.2.2.1 b.2.2.2.2.2.2.2.2.1 b.2.2.2.2.2.2.2.2.2.1 b.2.2.2.2.2.2.2.2.2.2.1 b.2.2.2.2.2.2.2.2.2.2.2.1 b.2.2.2.2.2.2.2.2.2.2.2.2.1 b.2.2.2.2.2.2.2.2.2.2.2.2.2).bind fun o=>
 some o) none))
def j39 (a:(Int×Int)):Option (Int):=
 (j4q a.1).bind fun c=>
 let b:=(w64 (c*86400))
 let d:=(w64 (b+a.2))
 some d
def j4A (e:Int) (d:Tn2) (f b:Int):Option ((Int×Tn2×Int×Int) ⊕ (Bool ⊕ Unit)):=
 cond (decide (b<f)) (
 cond (inR b (List.length d)) (
 let a:=(List.getD d (Int.toNat b) (0,0))
 cond (cond (decide (a.1≤e)) (decide (e<a.2)) false) (
 some (.inr (.inl true))) (
 let c:=(w64 (b+1))
 some (.inl (e,d,f,c)))) none) (
 some (.inr (.inr ())))
def j7k [LP] (c:Int) (a:Tn2) (b d:Int):Option (Bool ⊕ Unit):=
 LP.lp (unc4 (j4A)) (c,a,b,d)
theorem jcv (d c a b):j7k d c a b=lpK (j4A d c a b) (fun h=>j7k h.1 h.2.1 h.2.2.1 h.2.2.2):=j09 _ _
def jaH [LP] (a:Tn2) (b:Int):Option (Bool):=
 let c:=(Int.ofNat (List.length a))
 (j7k b a c 0).bind fun d=>
 sumC d (fun e=>
 some e) (fun f=>
 some false)
def j8t (a:Int):Option (Bool):=
 some (a != a)
def j9A (a b:Int):Option (Bool):=
 (j8t a).bind fun d=>
 cond d (
 (j8t b).bind fun c=>
 some (cond (!c) true (decide (a<b)))) (
 some (decide (a<b)))
def j66 (a:Int):Option (Bool):=
 some (a != a)
def j1s (b:(List Int)) (g l f m:Int):Option (((List Int)×Int×Int×Int×Int) ⊕ (((List Int)×Int×Int×Int))):=
 cond (decide (f<m)) (
 let k:=(w64 (f+m))
 let i:Int:=(IntKind.wrap .u64 k)
 let d:Int:=(Int.fdiv i 2)
 let a:=(w64 d)
 cond (inR a (List.length b)) (
 let j:=(List.getD b (Int.toNat a) 0)
 (j9A j g).bind fun e=>
 cond e (
 let c:=(w64 (a+1))
 some (.inl (b,g,l,c,m))) (
 some (.inl (b,g,l,f,a)))) none) (
 some (.inr (b,g,l,f)))
def j0U [LP] (e:(List Int)) (d a c b:Int):Option (((List Int)×Int×Int×Int)):=
 LP.lp (unc5 (j1s)) (e,d,a,c,b)
theorem j6A (e d a c b):j0U e d a c b=lpK (j1s e d a c b) (fun h=>j0U h.1 h.2.1 h.2.2.1 h.2.2.2.1 h.2.2.2.2):=j09 _ _
def j0C [LP] (d:(List Int)) (b:Int):Option (Int×Bool):=
 let e:=(Int.ofNat (List.length d))
 (j0U d b e 0 e).bind fun a=>
 cond ((inR a.2.2.2 (List.length a.1)) || !(decide (a.2.2.2<a.2.2.1))) (
 let c:=(List.getD a.1 (Int.toNat a.2.2.2) 0)
 cond ((inR a.2.2.2 (List.length a.1)) || !((decide (a.2.2.2<a.2.2.1))&&(!(c==a.2.1)))) (
 let g:=(List.getD a.1 (Int.toNat a.2.2.2) 0)
 cond (decide (a.2.2.2<a.2.2.1)) (
 cond (c==a.2.1) (
 some (a.2.2.2,true)) (
 (j66 g).bind fun i=>
 cond i (
 (j66 a.2.1).bind fun f=>
 some (a.2.2.2,f)) (
 some (a.2.2.2,false)))) (
 cond ((c==a.2.1) || !false) (
 some (a.2.2.2,false)) none)) none) none
def j3g [LP] (b:Tn78) (a:Tn64) (c:Int):Option (Int×Bool):=
 cond (cond (decide (c<0)) true (decide (c>8589934592))) (
 some (0,false)) (
 cond (inR a.2.1 (List.length b.2)) (
 let f:=(List.getD b.2 (Int.toNat a.2.1) (0,([]:Tn2)))
 (j22 (f.1,f.2) (a.1,(a.2.1,((a.2.2.1.1,a.2.2.1.2),(a.2.2.2.1,(a.2.2.2.2.1,(a.2.2.2.2.2.1,(a.2.2.2.2.2.2.1,(a.2.2.2.2.2.2.2.1,a.2.2.2.2.2.2.2.2)))))))) c).bind fun e=>
 cond (decide (e<0)) (
 some (0,false)) (
 let o:=(Int.ofNat (List.length a.2.2.2.2.2.2.1))
 cond (decide (o>0)) (
 (j0y (f.1,f.2) c).bind fun l=>
 (j39 (l.1,l.2)).bind fun n=>
 (jaH a.2.2.2.2.2.2.1 n).bind fun r=>
 cond (!r) (
 some (0,false)) (
 cond (a.2.2.2.2.2.2.2.2==0) (
 some (e,true)) (
 cond (inR a.2.2.2.2.2.2.2.1 (List.length b.1.2.2.1)) (
 let i:=(List.getD b.1.2.2.1 (Int.toNat a.2.2.2.2.2.2.2.1) (ByteArray.empty,(0,([]:(List Int)))))
 cond (inR i.2.1 (List.length b.2)) (
 let m:=(List.getD b.2 (Int.toNat i.2.1) (0,([]:Tn2)))
 (j0y (m.1,m.2) c).bind fun p=>
 (j0C i.2.2 p.1).bind fun q=>
 some (e,(q.2==(a.2.2.2.2.2.2.2.2==2)))) none) none))) (
 cond (a.2.2.2.2.2.2.2.2==0) (
 some (e,true)) (
 cond (inR a.2.2.2.2.2.2.2.1 (List.length b.1.2.2.1)) (
 let d:=(List.getD b.1.2.2.1 (Int.toNat a.2.2.2.2.2.2.2.1) (ByteArray.empty,(0,([]:(List Int)))))
 cond (inR d.2.1 (List.length b.2)) (
 let g:=(List.getD b.2 (Int.toNat d.2.1) (0,([]:Tn2)))
 (j0y (g.1,g.2) c).bind fun j=>
 (j0C d.2.2 j.1).bind fun k=>
 some (e,(k.2==(a.2.2.2.2.2.2.2.2==2)))) none) none)))) none)
def j1w [LP] (b:Tn78) (a:Tn64) (f:Int):Option (Int):=
 (j3g ((b.1.1,(b.1.2.1,(b.1.2.2.1,b.1.2.2.2))),b.2) (a.1,(a.2.1,((a.2.2.1.1,a.2.2.1.2),(a.2.2.2.1,(a.2.2.2.2.1,(a.2.2.2.2.2.1,(a.2.2.2.2.2.2.1,(a.2.2.2.2.2.2.2.1,a.2.2.2.2.2.2.2.2)))))))) f).bind fun e=>
 cond (!e.2) (
 some (-1)) (
 let c:=(Int.ofNat (List.length a.2.2.2.2.2.1))
 cond (!(c==0)) (
 let d:=(Int.tmod e.1 c)
 cond (inR d (List.length a.2.2.2.2.2.1)) (
 let g:=(List.getD a.2.2.2.2.2.1 (Int.toNat d) 0)
 some g) none) none)
def jaI (a:Tn28) (d c:Int):Option (Bool):=
 let b:Bool:=(cond (cond (a.1==0) (a.2.1==d) false) (decide (a.2.2.2.1≤c)) false)
 some (cond b (decide (c<a.2.2.2.2)) false)
def j0G (f:Tn34) (i c g b:Int):Option ((Tn34×Int×Int×Int×Int) ⊕ (Int ⊕ Unit)):=
 cond (decide (b<g)) (
 cond (inR b (List.length f)) (
 let a:=(List.getD f (Int.toNat b) (0,(0,(0,(0,0)))))
 (jaI (a.1,(a.2.1,(a.2.2.1,(a.2.2.2.1,a.2.2.2.2)))) i c).bind fun d=>
 cond d (
 some (.inr (.inl b))) (
 let e:=(w64 (b+1))
 some (.inl (f,i,c,g,e)))) none) (
 some (.inr (.inr ())))
def j0q [LP] (e:Tn34) (d a c b:Int):Option (Int ⊕ Unit):=
 LP.lp (unc5 (j0G)) (e,d,a,c,b)
theorem j2M (e d a c b):j0q e d a c b=lpK (j0G e d a c b) (fun h=>j0q h.1 h.2.1 h.2.2.1 h.2.2.2.1 h.2.2.2.2):=j09 _ _
def j0J [LP] (b:Tn34) (c a:Int):Option (Int):=
 let d:=(Int.ofNat (List.length b))
 (j0q b c a d 0).bind fun e=>
 sumC e (fun f=>
 some f) (fun g=>
 some (-1))
def j0D [LP] (c:Tn34) (b a:Int):Option (Bool):=
 (j0J c b a).bind fun d=>
 some (decide (d≥0))
def j7l [LP] (c:Tn69) (a b:Int):Option (Bool):=
 (j0D c.2.2 a b).bind fun d=>
 some d
def j1m [LP] (l:Int) (j:Tn65) (r:Tn59) (f:Tn53) (g:Tn30) (e:Tn70) (d:Tn23) (o:ByteArray) (c:Tn65) (i:Tn34) (m q p:Int):Option ((Int×Tn65×Tn59×Tn53×Tn30×Tn70×Tn23×ByteArray×Tn65×Tn34×Int×Int×Int) ⊕ ((Int×Int) ⊕ (Int×Int))):=
 cond (decide (l≤0)) (
 some (.inr (.inl (q,p)))) (
 cond (decide (l≤Int.ofNat (List.length j))) (
 let k:Int:=(l-1)
 let a:=(List.getD j (Int.toNat k) (ByteArray.empty,(0,((0,0),(0,(0,(([]:(List Int)),(([]:Tn2),(0,0)))))))))
 (j1w ((r,(f,(g,e))),d) (a.1,(a.2.1,((a.2.2.1.1,a.2.2.1.2),(a.2.2.2.1,(a.2.2.2.2.1,(a.2.2.2.2.2.1,(a.2.2.2.2.2.2.1,(a.2.2.2.2.2.2.2.1,a.2.2.2.2.2.2.2.2)))))))) m).bind fun b=>
 cond (decide (b<0)) (
 some (.inl ((l-1),j,r,f,g,e,d,o,c,i,m,q,p))) (
 (j7l (o,(c,i)) b m).bind fun n=>
 cond (!n) (
 some (.inr (.inr (k,b)))) (
 some (.inl ((l-1),j,r,f,g,e,d,o,c,i,m,q,p))))) none)
def j32 [LP] (i:Int) (g:Tn65) (n:Tn59) (d:Tn53) (e:Tn30) (c:Tn70) (b:Tn23) (k:ByteArray) (a:Tn65) (f:Tn34) (j m l:Int):Option ((Int×Int) ⊕ (Int×Int)):=
 LP.lp (jrR (j1m)) (i,g,n,d,e,c,b,k,a,f,j,m,l)
theorem j8O (i g n d e c b k a f j m l):j32 i g n d e c b k a f j m l=lpK (j1m i g n d e c b k a f j m l) (fun h=>j32 h.1 h.2.1 h.2.2.1 h.2.2.2.1 h.2.2.2.2.1 h.2.2.2.2.2.1 h.2.2.2.2.2.2.1 h.2.2.2.2.2.2.2.1 h.2.2.2.2.2.2.2.2.1 h.2.2.2.2.2.2.2.2.2.1 h.2.2.2.2.2.2.2.2.2.2.1 h.2.2.2.2.2.2.2.2.2.2.2.1 h.2.2.2.2.2.2.2.2.2.2.2.2):=j09 _ _
def j3a [LP] (a:Tn78) (b:Tn69) (d:Int):Option (Int×Int):=
 (j27 b.2.1).bind fun c=>
 (j32 (Int.ofNat (List.length c)) c a.1.1 a.1.2.1 a.1.2.2.1 a.1.2.2.2 a.2 b.1 b.2.1 b.2.2 d 0 0).bind fun e=>
 sumC e (fun g=>
 some ((-1),(-1))) (fun f=>
 some (f.1,f.2))
def jcR (a:Tn28) (b:Int):Option (Bool):=
 some (cond (decide (a.2.2.2.1≤b)) (decide (b<a.2.2.2.2)) false)
def j4d (f e:Int) (d:Tn34) (c b:Int):Option ((Int×Int×Tn34×Int×Int) ⊕ (Int)):=
 cond (decide (b<c)) (
 cond (inR b (List.length d)) (
 let a:=(List.getD d (Int.toNat b) (0,(0,(0,(0,0)))))
 (jcR (a.1,(a.2.1,(a.2.2.1,(a.2.2.2.1,a.2.2.2.2)))) e).bind fun l=>
 cond (cond (!l) true (a.1==0)) (
 let j:=(w64 (b+1))
 some (.inl (f,e,d,c,j))) (
 cond (a.1==1) (
 let n:=(w64 (b+1))
 some (.inl (a.2.1,e,d,c,n))) (
 cond (a.1 != 2) (
 let m:=(w64 (b+1))
 some (.inl (f,e,d,c,m))) (
 cond (f==a.2.1) (
 let k:=(w64 (b+1))
 some (.inl (a.2.2.1,e,d,c,k))) (
 cond (f==a.2.2.1) (
 let g:=(w64 (b+1))
 some (.inl (a.2.1,e,d,c,g))) (
 let i:=(w64 (b+1))
 some (.inl (f,e,d,c,i)))))))) none) (
 some (.inr f))
def j5b [LP] (e c:Int) (d:Tn34) (b a:Int):Option (Int):=
 LP.lp (unc5 (j4d)) (e,c,d,b,a)
theorem jbN (e c d b a):j5b e c d b a=lpK (j4d e c d b a) (fun h=>j5b h.1 h.2.1 h.2.2.1 h.2.2.2.1 h.2.2.2.2):=j09 _ _
def jad [LP] (b:Tn34) (a c:Int):Option (Int):=
 let d:=(Int.ofNat (List.length b))
 (j5b a c b d 0).bind fun e=>
 some e
def j6n [LP] (a:Tn78) (c:Tn69) (b:Int):Option (Int):=
 cond (cond (decide (b<0)) true (decide (b>8589934592))) (
 some (-1)) (
 (j3a ((a.1.1,(a.1.2.1,(a.1.2.2.1,a.1.2.2.2))),a.2) (c.1,(c.2.1,c.2.2)) b).bind fun d=>
 (jad c.2.2 d.2 b).bind fun e=>
 some e)
def j4N [LP] (a:Tn76) (b e:Int):Option (Int):=
 (jcP (a.1,(a.2.1,(a.2.2.1,a.2.2.2)))).bind fun c=>
 cond (!c.2) (
 some (-1)) (
 (j8K (a.1,(a.2.1,(a.2.2.1,a.2.2.2))) b).bind fun f=>
 cond (!f) (
 some (-1)) (
 cond (inR b (List.length a.2.2.2)) (
 let d:=(List.getD a.2.2.2 (Int.toNat b) (ByteArray.empty,(([]:Tn65),([]:Tn34))))
 (j6n ((c.1.1.1,(c.1.1.2.1,(c.1.1.2.2.1,c.1.1.2.2.2))),c.1.2) (d.1,(d.2.1,d.2.2)) e).bind fun g=>
 some g) none))
def j6o [LP]  : Option (Bool):=
 (jgm).bind fun d=>
 (j2U (d.1,(d.2.1,(d.2.2.1,d.2.2.2))) 0 (2,(0,(1,(432000,518400))))).bind fun c=>
 (j2U (c.1.1,(c.1.2.1,(c.1.2.2.1,c.1.2.2.2))) 0 (1,(2,(0,(432000,475200))))).bind fun a=>
 (j7g (a.1.1,(a.1.2.1,(a.1.2.2.1,a.1.2.2.2))) 0 1).bind fun b=>
 (j7g (a.1.1,(a.1.2.1,(a.1.2.2.1,a.1.2.2.2))) 0 2).bind fun i=>
 let j:Bool:=(cond (cond (cond (c.2==0) (a.2==0) false) (b.2==0) false) (i.2==10) false)
 cond j (
 (j4N (a.1.1,(a.1.2.1,(a.1.2.2.1,a.1.2.2.2))) 0 432000).bind fun f=>
 cond (f==2) (
 (j4N (a.1.1,(a.1.2.1,(a.1.2.2.1,a.1.2.2.2))) 0 475200).bind fun k=>
 cond (k==1) (
 (j4N (b.1.1,(b.1.2.1,(b.1.2.2.1,b.1.2.2.2))) 0 432000).bind fun e=>
 cond (e==1) (
 (j4N (a.1.1,(a.1.2.1,(a.1.2.2.1,a.1.2.2.2))) 0 518400).bind fun g=>
 some (g==0)) (
 some false)) (
 some false)) (
 some false)) (
 some false)
def jgo (a:(List Int)):Option ((List Int)×Int):=
 some (a,0)
def j02 (b:(List Int)) (a c:Int):Option (Int×(List Int)×Int):=
 let i:=(Int.ofNat (List.length b))
 cond (decide (a≥i)) (
 some (0,b,a)) (
 cond (decide (c<1)) (
 some (0,b,a)) (
 cond (inR a (List.length b)) (
 let g:=(List.getD b (Int.toNat a) 0)
 cond (!(c==0)) (
 let d:=(Int.tmod g c)
 let e:=(w64 (a+1))
 cond (decide (d<0)) (
 let f:=(w64 (d+c))
 some (f,b,e)) (
 some (d,b,e))) none) none))
def j15 (d:(List Int)) (b:Int) (a:(List Int)):Option (Int×(List Int)×Int):=
 let f:=(Int.ofNat (List.length a))
 (j02 d b f).bind fun c=>
 cond (inR c.1 (List.length a)) (
 let e:=(List.getD a (Int.toNat c.1) 0)
 some (e,c.2.1,c.2.2)) none
def j3h (a0:(List Int)) (o:Int) (a:ByteArray):Option (Tn57×(List Int)×Int):=
 let b7:(List Int):=[0,4,(-20),22,48,(-47)]
 (j15 a0 o b7).bind fun l=>
 (j02 l.2.1 l.2.2 2).bind fun p=>
 (j02 p.2.1 p.2.2 3).bind fun n=>
 let b3:=(w64 (p.1*n.1))
 let a9:=(w64 (l.1+b3))
 let c:=(w64 (900*a9))
 (j02 n.2.1 n.2.2 2).bind fun t=>
 let g:=(w64 (2025+t.1))
 (j02 t.2.1 t.2.2 4).bind fun b=>
 cond (b.1==1) (
 let b0:=(w64 (c+3600))
 let b1:Tn47:=[(2025,(g,(3,(5,(6,(7200,b0)))))),(2025,(g,(10,(5,(6,(10800,c))))))]
 some ((a,(c,b1)),b.2.1,b.2.2)) (
 cond (b.1==2) (
 (j02 b.2.1 b.2.2 4).bind fun j=>
 let a2:=(w64 (1+j.1))
 (j02 j.2.1 j.2.2 7).bind fun x=>
 (j02 x.2.1 x.2.2 24).bind fun q=>
 let b4:=(w64 (3600*q.1))
 (j02 q.2.1 q.2.2 8).bind fun k=>
 let b6:=(w64 (1+k.1))
 let a7:=(w64 (1800*b6))
 let b5:=(w64 (c+a7))
 (j02 k.2.1 k.2.2 2).bind fun r=>
 let a1:=(w64 (2+r.1))
 let b2:(List Int):=[2,3,5]
 (j15 r.2.1 r.2.2 b2).bind fun i=>
 (j02 i.2.1 i.2.2 7).bind fun s=>
 (j02 s.2.1 s.2.2 24).bind fun v=>
 let a5:=(w64 (3600*v.1))
 let a3:Tn47:=[(2025,(g,(1,(a2,(x.1,(b4,b5)))))),(2025,(g,(a1,(i.1,(s.1,(a5,c))))))]
 some ((a,(c,a3)),v.2.1,v.2.2)) (
 cond (b.1==3) (
 let a6:(List Int):=[3600,(-3600),82800,(-82800),43200]
 (j15 b.2.1 b.2.2 a6).bind fun f=>
 let w:=(w64 (c+f.1))
 cond (cond (decide (w>64800)) true (decide (w<(-64800)))) (
 (j02 f.2.1 f.2.2 7).bind fun m=>
 (j02 m.2.1 m.2.2 48).bind fun u=>
 let a8:=(w64 (1800*u.1))
 let a4:Tn47:=[(2026,(2026,(1,(2,(m.1,(a8,0))))))]
 some ((a,(c,a4)),u.2.1,u.2.2)) (
 (j02 f.2.1 f.2.2 7).bind fun d=>
 (j02 d.2.1 d.2.2 48).bind fun e=>
 let z:=(w64 (1800*e.1))
 let y:Tn47:=[(2026,(2026,(1,(2,(d.1,(z,w))))))]
 some ((a,(c,y)),e.2.1,e.2.2))) (
 some ((a,(c,([]:Tn47))),b.2.1,b.2.2))))
def jcb  : Option ((List ByteArray)):=
 let a:(List ByteArray):=[(ByteArray.mk #[97,100,97]),(ByteArray.mk #[98,111,98]),(ByteArray.mk #[99,108,101,111]),(ByteArray.mk #[100,97,110]),(ByteArray.mk #[101,118,101]),(ByteArray.mk #[102,97,121]),(ByteArray.mk #[103,117,115]),(ByteArray.mk #[104,97,108])]
 some a
def j0V (c:(List Int)) (a b:Int):Option (Bool×(List Int)×Int):=
 (j02 c a b).bind fun d=>
 let e:=(w64 (b-1))
 some ((d.1==e),d.2.1,d.2.2)
def j1Z (r q:Int) (p:(List Int)) (g:Int) (i:Tn2):Option ((Int×Int×(List Int)×Int×Tn2) ⊕ (((List Int)×Int×Tn2))):=
 cond (decide (q>0)) (
 (j02 p g 30).bind fun c=>
 let j:=(w64 (3600*c.1))
 let l:=(w64 (r+j))
 (j02 c.2.1 c.2.2 2).bind fun b=>
 let k:=(w64 (60*b.1))
 let f:=(w64 (l+k))
 let o:(List Int):=[3600,28800,43200,86400,61,1]
 (j15 b.2.1 b.2.2 o).bind fun a=>
 let d:=(w64 (f+a.1))
 cond (decide (d>604800)) (
 some (.inr (a.2.1,a.2.2,i))) (
 let e:Tn2:=[(f,d)]
 cond (decide (List.length i+List.length e≤j0l)) (
 let m:Tn2:=(i++e)
 let n:=(w64 (q-1))
 some (.inl (d,n,a.2.1,a.2.2,m))) none)) (
 some (.inr (p,g,i)))
def j40 [LP] (c e:Int) (d:(List Int)) (a:Int) (b:Tn2):Option (((List Int)×Int×Tn2)):=
 LP.lp (unc5 (j1Z)) (c,e,d,a,b)
theorem j6B (c e d a b):j40 c e d a b=lpK (j1Z c e d a b) (fun h=>j40 h.1 h.2.1 h.2.2.1 h.2.2.2.1 h.2.2.2.2):=j09 _ _
def j3l [LP] (b:(List Int)) (a:Int):Option (Tn2×(List Int)×Int):=
 (j02 b a 4).bind fun c=>
 (j40 0 c.1 c.2.1 c.2.2 ([]:Tn2)).bind fun d=>
 some (d.2.2,d.1,d.2.1)
def j2o (k:Int) (l:(List Int)) (f:Int) (b:Tn59):Option ((Int×(List Int)×Int×Tn59) ⊕ (((List Int)×Int×Tn59))):=
 cond (decide (k>0)) (
 let c:(List ByteArray):=[(ByteArray.mk #[104,101,114,101]),(ByteArray.mk #[116,104,101,114,101])]
 let d:=(Int.ofNat (List.length b))
 cond (inR d (List.length c)) (
 let j:=(List.getD c (Int.toNat d) ByteArray.empty)
 (j3h l f j).bind fun a=>
 let e:Tn59:=[(a.1.1,(a.1.2.1,a.1.2.2))]
 cond (decide (List.length b+List.length e≤j0l)) (
 let i:Tn59:=(b++e)
 let g:=(w64 (k-1))
 some (.inl (g,a.2.1,a.2.2,i))) none) none) (
 some (.inr (l,f,b)))
def j4O [LP] (d:Int) (c:(List Int)) (b:Int) (a:Tn59):Option (((List Int)×Int×Tn59)):=
 LP.lp (unc4 (j2o)) (d,c,b,a)
theorem j7F (c d a b):j4O c d a b=lpK (j2o c d a b) (fun h=>j4O h.1 h.2.1 h.2.2.1 h.2.2.2):=j09 _ _
def j2p [LP] (a4:Int) (a5:(List Int)) (q:Int) (f:Tn59) (b:Tn53):Option ((Int×(List Int)×Int×Tn59×Tn53) ⊕ (((List Int)×Int×Tn59×Tn53))):=
 cond (decide (a4>0)) (
 (jcb).bind fun o=>
 let p:=(Int.ofNat (List.length b))
 cond (inR p (List.length o)) (
 let l:=(List.getD o (Int.toNat p) ByteArray.empty)
 let w:=(Int.ofNat (List.length f))
 (j02 a5 q w).bind fun c=>
 (j0V c.2.1 c.2.2 3).bind fun d=>
 (j0V d.2.1 d.2.2 2).bind fun a=>
 cond a.1 (
 (j3l a.2.1 a.2.2).bind fun j=>
 let y:(List Int):=[0,40,100,12]
 (j15 j.2.1 j.2.2 y).bind fun g=>
 let a1:=(w64 (3600*g.1))
 let t:(List Int):=[0,11,24,1]
 (j15 g.2.1 g.2.2 t).bind fun k=>
 let z:=(w64 (3600*k.1))
 let n:Tn53:=[(l,(c.1,(j.1,(a1,(z,d.1)))))]
 cond (decide (List.length b+List.length n≤j0l)) (
 let a2:Tn53:=(b++n)
 let s:=(w64 (a4-1))
 some (.inl (s,k.2.1,k.2.2,f,a2))) none) (
 let a3:(List Int):=[0,40,100,12]
 (j15 a.2.1 a.2.2 a3).bind fun e=>
 let r:=(w64 (3600*e.1))
 let v:(List Int):=[0,11,24,1]
 (j15 e.2.1 e.2.2 v).bind fun i=>
 let a0:=(w64 (3600*i.1))
 let m:Tn53:=[(l,(c.1,(([]:Tn2),(r,(a0,d.1)))))]
 cond (decide (List.length b+List.length m≤j0l)) (
 let u:Tn53:=(b++m)
 let x:=(w64 (a4-1))
 some (.inl (x,i.2.1,i.2.2,f,u))) none)) none) (
 some (.inr (a5,q,f,b)))
def j4P [LP] (e:Int) (d:(List Int)) (a:Int) (b:Tn59) (c:Tn53):Option (((List Int)×Int×Tn59×Tn53)):=
 LP.lp (unc5 (j2p)) (e,d,a,b,c)
theorem j7G (e d a b c):j4P e d a b c=lpK (j2p e d a b c) (fun h=>j4P h.1 h.2.1 h.2.2.1 h.2.2.2.1 h.2.2.2.2):=j09 _ _
def j2q (p n q:Int) (o:(List Int)) (d:Int) (m:ByteArray) (e:Int) (f:Tn59) (j:Tn53) (g:Tn30) (c:(List Int)):Option ((Int×Int×Int×(List Int)×Int×ByteArray×Int×Tn59×Tn53×Tn30×(List Int)) ⊕ ((Int×(List Int)×Int×ByteArray×Int×Tn59×Tn53×Tn30×(List Int)))):=
 cond (decide (n>0)) (
 (j02 o d 6).bind fun b=>
 let l:=(w64 (1+b.1))
 let a:=(w64 (q+l))
 cond (decide (List.length c+List.length [a]≤j0l)) (
 let i:(List Int):=(c++[a])
 let k:=(w64 (n-1))
 some (.inl (p,k,a,b.2.1,b.2.2,m,e,f,j,g,i))) none) (
 some (.inr (p,o,d,m,e,f,j,g,c)))
def j4Q [LP] (l j g:Int) (k:(List Int)) (a:Int) (i:ByteArray) (b:Int) (c:Tn59) (f:Tn53) (d:Tn30) (e:(List Int)):Option ((Int×(List Int)×Int×ByteArray×Int×Tn59×Tn53×Tn30×(List Int))):=
 LP.lp (jpQ (j2q)) (l,j,g,k,a,i,b,c,f,d,e)
theorem j7H (l j g k a i b c f d e):j4Q l j g k a i b c f d e=lpK (j2q l j g k a i b c f d e) (fun h=>j4Q h.1 h.2.1 h.2.2.1 h.2.2.2.1 h.2.2.2.2.1 h.2.2.2.2.2.1 h.2.2.2.2.2.2.1 h.2.2.2.2.2.2.2.1 h.2.2.2.2.2.2.2.2.1 h.2.2.2.2.2.2.2.2.2.1 h.2.2.2.2.2.2.2.2.2.2):=j09 _ _
def j1P [LP] (n:Int) (m:(List Int)) (f:Int) (e:Tn59) (j:Tn53) (i:Tn30):Option ((Int×(List Int)×Int×Tn59×Tn53×Tn30) ⊕ (((List Int)×Int×Tn59×Tn53×Tn30))):=
 cond (decide (n>0)) (
 let l:=(Int.ofNat (List.length e))
 (j02 m f l).bind fun c=>
 (j02 c.2.1 c.2.2 4).bind fun b=>
 (j4Q n b.1 20454 b.2.1 b.2.2 (ByteArray.mk #[100,97,121,115]) c.1 e j i ([]:(List Int))).bind fun a=>
 let d:Tn30:=[(a.2.2.2.1,(a.2.2.2.2.1,a.2.2.2.2.2.2.2.2))]
 cond (decide (List.length a.2.2.2.2.2.2.2.1+List.length d≤j0l)) (
 let g:Tn30:=(a.2.2.2.2.2.2.2.1++d)
 let k:=(w64 (a.1-1))
 some (.inl (k,a.2.1,a.2.2.1,a.2.2.2.2.2.1,a.2.2.2.2.2.2.1,g))) none) (
 some (.inr (m,f,e,j,i)))
def j4R [LP] (f:Int) (e:(List Int)) (a:Int) (b:Tn59) (d:Tn53) (c:Tn30):Option (((List Int)×Int×Tn59×Tn53×Tn30)):=
 LP.lp (unc6 (j1P)) (f,e,a,b,d,c)
theorem j5c (f e a b d c):j4R f e a b d c=lpK (j1P f e a b d c) (fun h=>j4R h.1 h.2.1 h.2.2.1 h.2.2.2.1 h.2.2.2.2.1 h.2.2.2.2.2):=j09 _ _
def j6C [LP] (g:(List Int)) (b:Int):Option (Tn76×(List Int)×Int):=
 (j02 g b 2).bind fun c=>
 let k:=(w64 (1+c.1))
 (j4O k c.2.1 c.2.2 ([]:Tn59)).bind fun i=>
 (j02 i.1 i.2.1 4).bind fun d=>
 let j:=(w64 (1+d.1))
 (j4P j d.2.1 d.2.2 i.2.2 ([]:Tn53)).bind fun f=>
 (j02 f.1 f.2.1 2).bind fun a=>
 (j4R a.1 a.2.1 a.2.2 f.2.2.1 f.2.2.2 ([]:Tn30)).bind fun e=>
 some ((e.2.2.1,(e.2.2.2.1,(e.2.2.2.2,([]:Tn70)))),e.1,e.2.1)
def j2r (a2:Int) (a1:(List Int)) (o:Int) (z:Tn59) (b:Tn53) (l:Tn30) (p:Tn70) (y:ByteArray) (e k t n g j i:Int) (a0:ByteArray) (d s u m q f r:Int) (c:(List Int)):Option ((Int×(List Int)×Int×Tn59×Tn53×Tn30×Tn70×ByteArray×Int×Int×Int×Int×Int×Int×Int×ByteArray×Int×Int×Int×Int×Int×Int×Int×(List Int)) ⊕ (((List Int)×Int×Tn59×Tn53×Tn30×Tn70×ByteArray×Int×Int×Int×Int×Int×Int×Int×ByteArray×Int×Int×Int×Int×Int×Int×Int×(List Int)))):=
 cond (decide (a2>0)) (
 let x:=(Int.ofNat (List.length b))
 (j02 a1 o x).bind fun a=>
 cond (decide (List.length c+List.length [a.1]≤j0l)) (
 let v:(List Int):=(c++[a.1])
 let w:=(w64 (a2-1))
 some (.inl (w,a.2.1,a.2.2,z,b,l,p,y,e,k,t,n,g,j,i,a0,d,s,u,m,q,f,r,v))) none) (
 some (.inr (a1,o,z,b,l,p,y,e,k,t,n,g,j,i,a0,d,s,u,m,q,f,r,c)))
def j3D [LP] (y:Int) (x:(List Int)) (n:Int) (v:Tn59) (b:Tn53) (k:Tn30) (o:Tn70) (u:ByteArray) (c j s m e g f:Int) (w:ByteArray) (a r t l p d q:Int) (i:(List Int)):Option (((List Int)×Int×Tn59×Tn53×Tn30×Tn70×ByteArray×Int×Int×Int×Int×Int×Int×Int×ByteArray×Int×Int×Int×Int×Int×Int×Int×(List Int))):=
 LP.lp (jrT (j2r)) (y,x,n,v,b,k,o,u,c,j,s,m,e,g,f,w,a,r,t,l,p,d,q,i)
theorem j7I (y x n v b k o u c j s m e g f w a r t l p d q i):j3D y x n v b k o u c j s m e g f w a r t l p d q i=lpK (j2r y x n v b k o u c j s m e g f w a r t l p d q i) (fun h=>j3D h.1 h.2.1 h.2.2.1 h.2.2.2.1 h.2.2.2.2.1 h.2.2.2.2.2.1 h.2.2.2.2.2.2.1 h.2.2.2.2.2.2.2.1 h.2.2.2.2.2.2.2.2.1 h.2.2.2.2.2.2.2.2.2.1 h.2.2.2.2.2.2.2.2.2.2.1 h.2.2.2.2.2.2.2.2.2.2.2.1 h.2.2.2.2.2.2.2.2.2.2.2.2.1 h.2.2.2.2.2.2.2.2.2.2.2.2.2.1 h.2.2.2.2.2.2.2.2.2.2.2.2.2.2.1 h.2.2.2.2.2.2.2.2.2.2.2.2.2.2.2.1 h.2.2.2.2.2.2.2.2.2.2.2.2.2.2.2.2.1 h.2.2.2.2.2.2.2.2.2.2.2.2.2.2.2.2.2.1 h.2.2.2.2.2.2.2.2.2.2.2.2.2.2.2.2.2.2.1 h.2.2.2.2.2.2.2.2.2.2.2.2.2.2.2.2.2.2.2.1 h.2.2.2.2.2.2.2.2.2.2.2.2.2.2.2.2.2.2.2.2.1 h.2.2.2.2.2.2.2.2.2.2.2.2.2.2.2.2.2.2.2.2.2.1 h.2.2.2.2.2.2.2.2.2.2.2.2.2.2.2.2.2.2.2.2.2.2.1 h.2.2.2.2.2.2.2.2.2.2.2.2.2.2.2.2.2.2.2.2.2.2.2):=j09 _ _
def j6D [LP] (b5:(List Int)) (a2:Int) (c:Tn76) (j:ByteArray):Option (Tn64×(List Int)×Int):=
 let b7:=(Int.ofNat (List.length c.1))
 (j02 b5 a2 b7).bind fun w=>
 (j02 w.2.1 w.2.2 6).bind fun z=>
 let b9:=(w64 (20454+z.1))
 let b4:=(w64 (b9-2))
 let c4:(List Int):=[0,32400,7200,9000,79200,1]
 (j15 z.2.1 z.2.2 c4).bind fun x=>
 (j02 x.2.1 x.2.2 3).bind fun s=>
 (j02 s.2.1 s.2.2 2).bind fun r=>
 let c2:=(w64 (1+r.1))
 cond (s.1==0) (
 let c3:(List Int):=[6,8,12,24,23,49]
 (j15 r.2.1 r.2.2 c3).bind fun y=>
 (j02 y.2.1 y.2.2 3).bind fun a3=>
 let c0:=(w64 (1+a3.1))
 (j3D c0 a3.2.1 a3.2.2 c.1 c.2.1 c.2.2.1 c.2.2.2 ByteArray.empty 0 0 0 0 0 0 0 j w.1 b4 x.1 s.1 y.1 0 0 ([]:(List Int))).bind fun b=>
 (j0V b.1 b.2.1 2).bind fun t=>
 cond t.1 (
 (j3l t.2.1 t.2.2).bind fun v=>
 (j0V v.2.1 v.2.2 4).bind fun u=>
 let b8:=(Int.ofNat (List.length b.2.2.2.2.1))
 cond (cond u.1 (decide (b8>0)) false) (
 let b6:=(Int.ofNat (List.length b.2.2.2.2.1))
 (j02 u.2.1 u.2.2 b6).bind fun a0=>
 (j02 a0.2.1 a0.2.2 2).bind fun a1=>
 let c1:=(w64 (1+a1.1))
 some ((b.2.2.2.2.2.2.2.2.2.2.2.2.2.2.1,(b.2.2.2.2.2.2.2.2.2.2.2.2.2.2.2.1,((b.2.2.2.2.2.2.2.2.2.2.2.2.2.2.2.2.1,b.2.2.2.2.2.2.2.2.2.2.2.2.2.2.2.2.2.1),(b.2.2.2.2.2.2.2.2.2.2.2.2.2.2.2.2.2.2.1,(b.2.2.2.2.2.2.2.2.2.2.2.2.2.2.2.2.2.2.2.1,(b.2.2.2.2.2.2.2.2.2.2.2.2.2.2.2.2.2.2.2.2.2.2,(v.1,(a0.1,c1)))))))),a1.2.1,a1.2.2)) (
 some ((b.2.2.2.2.2.2.2.2.2.2.2.2.2.2.1,(b.2.2.2.2.2.2.2.2.2.2.2.2.2.2.2.1,((b.2.2.2.2.2.2.2.2.2.2.2.2.2.2.2.2.1,b.2.2.2.2.2.2.2.2.2.2.2.2.2.2.2.2.2.1),(b.2.2.2.2.2.2.2.2.2.2.2.2.2.2.2.2.2.2.1,(b.2.2.2.2.2.2.2.2.2.2.2.2.2.2.2.2.2.2.2.1,(b.2.2.2.2.2.2.2.2.2.2.2.2.2.2.2.2.2.2.2.2.2.2,(v.1,(b.2.2.2.2.2.2.2.2.2.2.2.2.2.2.2.2.2.2.2.2.1,b.2.2.2.2.2.2.2.2.2.2.2.2.2.2.2.2.2.2.2.2.2.1)))))))),u.2.1,u.2.2))) (
 (j0V t.2.1 t.2.2 4).bind fun g=>
 let a7:=(Int.ofNat (List.length b.2.2.2.2.1))
 cond (cond g.1 (decide (a7>0)) false) (
 let a6:=(Int.ofNat (List.length b.2.2.2.2.1))
 (j02 g.2.1 g.2.2 a6).bind fun m=>
 (j02 m.2.1 m.2.2 2).bind fun o=>
 let a8:=(w64 (1+o.1))
 some ((b.2.2.2.2.2.2.2.2.2.2.2.2.2.2.1,(b.2.2.2.2.2.2.2.2.2.2.2.2.2.2.2.1,((b.2.2.2.2.2.2.2.2.2.2.2.2.2.2.2.2.1,b.2.2.2.2.2.2.2.2.2.2.2.2.2.2.2.2.2.1),(b.2.2.2.2.2.2.2.2.2.2.2.2.2.2.2.2.2.2.1,(b.2.2.2.2.2.2.2.2.2.2.2.2.2.2.2.2.2.2.2.1,(b.2.2.2.2.2.2.2.2.2.2.2.2.2.2.2.2.2.2.2.2.2.2,(([]:Tn2),(m.1,a8)))))))),o.2.1,o.2.2)) (
 some ((b.2.2.2.2.2.2.2.2.2.2.2.2.2.2.1,(b.2.2.2.2.2.2.2.2.2.2.2.2.2.2.2.1,((b.2.2.2.2.2.2.2.2.2.2.2.2.2.2.2.2.1,b.2.2.2.2.2.2.2.2.2.2.2.2.2.2.2.2.2.1),(b.2.2.2.2.2.2.2.2.2.2.2.2.2.2.2.2.2.2.1,(b.2.2.2.2.2.2.2.2.2.2.2.2.2.2.2.2.2.2.2.1,(b.2.2.2.2.2.2.2.2.2.2.2.2.2.2.2.2.2.2.2.2.2.2,(([]:Tn2),(b.2.2.2.2.2.2.2.2.2.2.2.2.2.2.2.2.2.2.2.2.1,b.2.2.2.2.2.2.2.2.2.2.2.2.2.2.2.2.2.2.2.2.2.1)))))))),g.2.1,g.2.2)))) (
 (j02 r.2.1 r.2.2 3).bind fun p=>
 let a9:=(w64 (1+p.1))
 (j3D a9 p.2.1 p.2.2 c.1 c.2.1 c.2.2.1 c.2.2.2 ByteArray.empty 0 0 0 0 0 0 0 j w.1 b4 x.1 s.1 c2 0 0 ([]:(List Int))).bind fun a=>
 (j0V a.1 a.2.1 2).bind fun f=>
 cond f.1 (
 (j3l f.2.1 f.2.2).bind fun i=>
 (j0V i.2.1 i.2.2 4).bind fun e=>
 let a4:=(Int.ofNat (List.length a.2.2.2.2.1))
 cond (cond e.1 (decide (a4>0)) false) (
 let a5:=(Int.ofNat (List.length a.2.2.2.2.1))
 (j02 e.2.1 e.2.2 a5).bind fun l=>
 (j02 l.2.1 l.2.2 2).bind fun q=>
 let b1:=(w64 (1+q.1))
 some ((a.2.2.2.2.2.2.2.2.2.2.2.2.2.2.1,(a.2.2.2.2.2.2.2.2.2.2.2.2.2.2.2.1,((a.2.2.2.2.2.2.2.2.2.2.2.2.2.2.2.2.1,a.2.2.2.2.2.2.2.2.2.2.2.2.2.2.2.2.2.1),(a.2.2.2.2.2.2.2.2.2.2.2.2.2.2.2.2.2.2.1,(a.2.2.2.2.2.2.2.2.2.2.2.2.2.2.2.2.2.2.2.1,(a.2.2.2.2.2.2.2.2.2.2.2.2.2.2.2.2.2.2.2.2.2.2,(i.1,(l.1,b1)))))))),q.2.1,q.2.2)) (
 some ((a.2.2.2.2.2.2.2.2.2.2.2.2.2.2.1,(a.2.2.2.2.2.2.2.2.2.2.2.2.2.2.2.1,((a.2.2.2.2.2.2.2.2.2.2.2.2.2.2.2.2.1,a.2.2.2.2.2.2.2.2.2.2.2.2.2.2.2.2.2.1),(a.2.2.2.2.2.2.2.2.2.2.2.2.2.2.2.2.2.2.1,(a.2.2.2.2.2.2.2.2.2.2.2.2.2.2.2.2.2.2.2.1,(a.2.2.2.2.2.2.2.2.2.2.2.2.2.2.2.2.2.2.2.2.2.2,(i.1,(a.2.2.2.2.2.2.2.2.2.2.2.2.2.2.2.2.2.2.2.2.1,a.2.2.2.2.2.2.2.2.2.2.2.2.2.2.2.2.2.2.2.2.2.1)))))))),e.2.1,e.2.2))) (
 (j0V f.2.1 f.2.2 4).bind fun d=>
 let b0:=(Int.ofNat (List.length a.2.2.2.2.1))
 cond (cond d.1 (decide (b0>0)) false) (
 let b2:=(Int.ofNat (List.length a.2.2.2.2.1))
 (j02 d.2.1 d.2.2 b2).bind fun n=>
 (j02 n.2.1 n.2.2 2).bind fun k=>
 let b3:=(w64 (1+k.1))
 some ((a.2.2.2.2.2.2.2.2.2.2.2.2.2.2.1,(a.2.2.2.2.2.2.2.2.2.2.2.2.2.2.2.1,((a.2.2.2.2.2.2.2.2.2.2.2.2.2.2.2.2.1,a.2.2.2.2.2.2.2.2.2.2.2.2.2.2.2.2.2.1),(a.2.2.2.2.2.2.2.2.2.2.2.2.2.2.2.2.2.2.1,(a.2.2.2.2.2.2.2.2.2.2.2.2.2.2.2.2.2.2.2.1,(a.2.2.2.2.2.2.2.2.2.2.2.2.2.2.2.2.2.2.2.2.2.2,(([]:Tn2),(n.1,b3)))))))),k.2.1,k.2.2)) (
 some ((a.2.2.2.2.2.2.2.2.2.2.2.2.2.2.1,(a.2.2.2.2.2.2.2.2.2.2.2.2.2.2.2.1,((a.2.2.2.2.2.2.2.2.2.2.2.2.2.2.2.2.1,a.2.2.2.2.2.2.2.2.2.2.2.2.2.2.2.2.2.1),(a.2.2.2.2.2.2.2.2.2.2.2.2.2.2.2.2.2.2.1,(a.2.2.2.2.2.2.2.2.2.2.2.2.2.2.2.2.2.2.2.1,(a.2.2.2.2.2.2.2.2.2.2.2.2.2.2.2.2.2.2.2.2.2.2,(([]:Tn2),(a.2.2.2.2.2.2.2.2.2.2.2.2.2.2.2.2.2.2.2.2.1,a.2.2.2.2.2.2.2.2.2.2.2.2.2.2.2.2.2.2.2.2.2.1)))))))),d.2.1,d.2.2))))
def j4e (d:(List Int)) (b:Int):Option (Int×(List Int)×Int):=
 (j02 d b 576).bind fun e=>
 let j:=(w64 (3600*e.1))
 let f:=(w64 (1767139200+j))
 (j0V e.2.1 e.2.2 3).bind fun a=>
 cond a.1 (
 let g:(List Int):=[(-1),1,1800,3599]
 (j15 a.2.1 a.2.2 g).bind fun c=>
 let i:=(w64 (f+c.1))
 some (i,c.2.1,c.2.2)) (
 some (f,a.2.1,a.2.2))
def j7t (m:(List Int)) (l:Int) (n:Tn76):Option (Tn28×(List Int)×Int):=
 let j:=(Int.ofNat (List.length n.2.1))
 (j02 m l 3).bind fun a=>
 (j02 a.2.1 a.2.2 j).bind fun e=>
 (j4e e.2.1 e.2.2).bind fun b=>
 let o:(List Int):=[3600,86400,7,259200,40000]
 (j15 b.2.1 b.2.2 o).bind fun c=>
 let f:=(w64 (b.1+c.1))
 cond (a.1==2) (
 cond (decide (j<2)) (
 some ((0,(e.1,(0,(b.1,f)))),c.2.1,c.2.2)) (
 let p:=(w64 (e.1+1))
 let q:=(w64 (j-1))
 (j02 c.2.1 c.2.2 q).bind fun i=>
 let r:=(w64 (p+i.1))
 cond (!(j==0)) (
 let k:=(Int.tmod r j)
 cond (a.1==1) (
 (j0V i.2.1 i.2.2 4).bind fun g=>
 cond g.1 (
 some ((a.1,((-1),(k,(b.1,f)))),g.2.1,g.2.2)) (
 some ((a.1,(e.1,(k,(b.1,f)))),g.2.1,g.2.2))) (
 some ((a.1,(e.1,(k,(b.1,f)))),i.2.1,i.2.2))) none)) (
 cond (a.1==1) (
 (j0V c.2.1 c.2.2 4).bind fun d=>
 cond d.1 (
 some ((a.1,((-1),(0,(b.1,f)))),d.2.1,d.2.2)) (
 some ((a.1,(e.1,(0,(b.1,f)))),d.2.1,d.2.2))) (
 some ((a.1,(e.1,(0,(b.1,f)))),c.2.1,c.2.2)))
def j2f [LP] (o p:Int) (r:(List Int)) (j:Int) (n:Tn59) (e:Tn53) (d:Tn30) (q:ByteArray) (c:Tn70) (b:Tn65):Option ((Int×Int×(List Int)×Int×Tn59×Tn53×Tn30×ByteArray×Tn70×Tn65) ⊕ ((Int×(List Int)×Int×Tn59×Tn53×Tn30×ByteArray×Tn70×Tn65))):=
 cond (decide (p>0)) (
 (jcb).bind fun i=>
 let f:=(Int.ofNat (List.length b))
 cond (inR f (List.length i)) (
 let l:=(List.getD i (Int.toNat f) ByteArray.empty)
 (j6D r j (n,(e,(d,c))) l).bind fun a=>
 let g:Tn65:=[(a.1.1,(a.1.2.1,((a.1.2.2.1.1,a.1.2.2.1.2),(a.1.2.2.2.1,(a.1.2.2.2.2.1,(a.1.2.2.2.2.2.1,(a.1.2.2.2.2.2.2.1,(a.1.2.2.2.2.2.2.2.1,a.1.2.2.2.2.2.2.2.2))))))))]
 cond (decide (List.length b+List.length g≤j0l)) (
 let m:Tn65:=(b++g)
 let k:=(w64 (p-1))
 some (.inl (o,k,a.2.1,a.2.2,n,e,d,q,c,m))) none) none) (
 some (.inr (o,r,j,n,e,d,q,c,b)))
def j3n [LP] (f i:Int) (k:(List Int)) (b:Int) (g:Tn59) (e:Tn53) (c:Tn30) (j:ByteArray) (a:Tn70) (d:Tn65):Option ((Int×(List Int)×Int×Tn59×Tn53×Tn30×ByteArray×Tn70×Tn65)):=
 LP.lp (jpP (j2f)) (f,i,k,b,g,e,c,j,a,d)
theorem j74 (f i k b g e c j a d):j3n f i k b g e c j a d=lpK (j2f f i k b g e c j a d) (fun h=>j3n h.1 h.2.1 h.2.2.1 h.2.2.2.1 h.2.2.2.2.1 h.2.2.2.2.2.1 h.2.2.2.2.2.2.1 h.2.2.2.2.2.2.2.1 h.2.2.2.2.2.2.2.2.1 h.2.2.2.2.2.2.2.2.2):=j09 _ _
def j2g (m n:Int) (p:(List Int)) (g:Int) (l:Tn59) (e:Tn53) (c:Tn30) (o:ByteArray) (b:Tn70) (i:Tn65) (d:Tn34):Option ((Int×Int×(List Int)×Int×Tn59×Tn53×Tn30×ByteArray×Tn70×Tn65×Tn34) ⊕ ((Int×(List Int)×Int×Tn59×Tn53×Tn30×ByteArray×Tn70×Tn65×Tn34))):=
 cond (decide (n>0)) (
 (j7t p g (l,(e,(c,b)))).bind fun a=>
 let f:Tn34:=[(a.1.1,(a.1.2.1,(a.1.2.2.1,(a.1.2.2.2.1,a.1.2.2.2.2))))]
 cond (decide (List.length d+List.length f≤j0l)) (
 let k:Tn34:=(d++f)
 let j:=(w64 (n-1))
 some (.inl (m,j,a.2.1,a.2.2,l,e,c,o,b,i,k))) none) (
 some (.inr (m,p,g,l,e,c,o,b,i,d)))
def j4s [LP] (g j:Int) (l:(List Int)) (b:Int) (i:Tn59) (f:Tn53) (c:Tn30) (k:ByteArray) (a:Tn70) (e:Tn65) (d:Tn34):Option ((Int×(List Int)×Int×Tn59×Tn53×Tn30×ByteArray×Tn70×Tn65×Tn34)):=
 LP.lp (jpQ (j2g)) (g,j,l,b,i,f,c,k,a,e,d)
theorem j75 (g j l b i f c k a e d):j4s g j l b i f c k a e d=lpK (j2g g j l b i f c k a e d) (fun h=>j4s h.1 h.2.1 h.2.2.1 h.2.2.2.1 h.2.2.2.2.1 h.2.2.2.2.2.1 h.2.2.2.2.2.2.1 h.2.2.2.2.2.2.2.1 h.2.2.2.2.2.2.2.2.1 h.2.2.2.2.2.2.2.2.2.1 h.2.2.2.2.2.2.2.2.2.2):=j09 _ _
def j2h [LP] (q:Int) (s:(List Int)) (j:Int) (r:Tn59) (l:Tn53) (k:Tn30) (e:Tn70):Option ((Int×(List Int)×Int×Tn59×Tn53×Tn30×Tn70) ⊕ (((List Int)×Int×Tn59×Tn53×Tn30×Tn70))):=
 cond (decide (q>0)) (
 let f:(List ByteArray):=[(ByteArray.mk #[102,105,114,115,116]),(ByteArray.mk #[115,101,99,111,110,100]),(ByteArray.mk #[116,104,105,114,100])]
 let m:=(Int.ofNat (List.length e))
 let i:=(Int.tmod m 3)
 cond (inR i (List.length f)) (
 let p:=(List.getD f (Int.toNat i) ByteArray.empty)
 (j02 s j 4).bind fun d=>
 (j3n q d.1 d.2.1 d.2.2 r l k p e ([]:Tn65)).bind fun b=>
 (j02 b.2.1 b.2.2.1 4).bind fun c=>
 (j4s b.1 c.1 c.2.1 c.2.2 b.2.2.2.1 b.2.2.2.2.1 b.2.2.2.2.2.1 b.2.2.2.2.2.2.1 b.2.2.2.2.2.2.2.1 b.2.2.2.2.2.2.2.2 ([]:Tn34)).bind fun a=>
 let g:Tn70:=[(a.2.2.2.2.2.2.1,(a.2.2.2.2.2.2.2.2.1,a.2.2.2.2.2.2.2.2.2))]
 cond (decide (List.length a.2.2.2.2.2.2.2.1+List.length g≤j0l)) (
 let n:Tn70:=(a.2.2.2.2.2.2.2.1++g)
 let o:=(w64 (a.1-1))
 some (.inl (o,a.2.1,a.2.2.1,a.2.2.2.1,a.2.2.2.2.1,a.2.2.2.2.2.1,n))) none) none) (
 some (.inr (s,j,r,l,k,e)))
def j4t [LP] (e:Int) (g:(List Int)) (b:Int) (f:Tn59) (d:Tn53) (c:Tn30) (a:Tn70):Option (((List Int)×Int×Tn59×Tn53×Tn30×Tn70)):=
 LP.lp (unc7 (j2h)) (e,g,b,f,d,c,a)
theorem j76 (e g b f d c a):j4t e g b f d c a=lpK (j2h e g b f d c a) (fun h=>j4t h.1 h.2.1 h.2.2.1 h.2.2.2.1 h.2.2.2.2.1 h.2.2.2.2.2.1 h.2.2.2.2.2.2):=j09 _ _
def j4B [LP] (e:(List Int)) (c f:Int):Option (Tn76×(List Int)×Int):=
 (j6C e c).bind fun a=>
 (j02 a.2.1 a.2.2 f).bind fun d=>
 let g:=(w64 (1+d.1))
 (j4t g d.2.1 d.2.2 a.1.1 a.1.2.1 a.1.2.2.1 ([]:Tn70)).bind fun b=>
 some ((b.2.2.1,(b.2.2.2.1,(b.2.2.2.2.1,b.2.2.2.2.2))),b.1,b.2.1)
def j2s [LP] (u:Int) (z:Tn59) (i:Tn53) (l:Tn30) (n:Tn70) (x:Tn59) (j:Tn53) (p:Tn30) (m:Tn70) (v:Tn59) (b:Tn53) (g:Tn30) (e:Tn70) (w:Tn59) (d:Tn53) (c:Tn30) (f:Tn70) (y:(List Int)) (r:Int):Option ((Int×Tn59×Tn53×Tn30×Tn70×Tn59×Tn53×Tn30×Tn70×Tn59×Tn53×Tn30×Tn70×Tn59×Tn53×Tn30×Tn70×(List Int)×Int) ⊕ (Bool ⊕ Unit)):=
 cond (decide (u<8)) (
 (j4e y r).bind fun a=>
 (j4N (w,(d,(c,f))) 0 a.1).bind fun q=>
 (j4N (z,(i,(l,n))) 0 a.1).bind fun t=>
 cond (q != t) (
 some (.inr (.inl false))) (
 (j4N (x,(j,(p,m))) 0 a.1).bind fun o=>
 (j4N (v,(b,(g,e))) 0 a.1).bind fun k=>
 cond (o != k) (
 some (.inr (.inl false))) (
 let s:=(w64 (u+1))
 some (.inl (s,z,i,l,n,x,j,p,m,v,b,g,e,w,d,c,f,a.2.1,a.2.2))))) (
 some (.inr (.inr ())))
def j4S [LP] (o:Int) (t:Tn59) (i:Tn53) (k:Tn30) (m:Tn70) (s:Tn59) (j:Tn53) (n:Tn30) (l:Tn70) (q:Tn59) (b:Tn53) (g:Tn30) (e:Tn70) (r:Tn59) (d:Tn53) (c:Tn30) (f:Tn70) (p:(List Int)) (a:Int):Option (Bool ⊕ Unit):=
 LP.lp (jrS (j2s)) (o,t,i,k,m,s,j,n,l,q,b,g,e,r,d,c,f,p,a)
theorem j7J (o t i k m s j n l q b g e r d c f p a):j4S o t i k m s j n l q b g e r d c f p a=lpK (j2s o t i k m s j n l q b g e r d c f p a) (fun h=>j4S h.1 h.2.1 h.2.2.1 h.2.2.2.1 h.2.2.2.2.1 h.2.2.2.2.2.1 h.2.2.2.2.2.2.1 h.2.2.2.2.2.2.2.1 h.2.2.2.2.2.2.2.2.1 h.2.2.2.2.2.2.2.2.2.1 h.2.2.2.2.2.2.2.2.2.2.1 h.2.2.2.2.2.2.2.2.2.2.2.1 h.2.2.2.2.2.2.2.2.2.2.2.2.1 h.2.2.2.2.2.2.2.2.2.2.2.2.2.1 h.2.2.2.2.2.2.2.2.2.2.2.2.2.2.1 h.2.2.2.2.2.2.2.2.2.2.2.2.2.2.2.1 h.2.2.2.2.2.2.2.2.2.2.2.2.2.2.2.2.1 h.2.2.2.2.2.2.2.2.2.2.2.2.2.2.2.2.2.1 h.2.2.2.2.2.2.2.2.2.2.2.2.2.2.2.2.2.2):=j09 _ _
def j8P [LP] (i:(List Int)):Option (Bool):=
 (jew i).bind fun t=>
 cond (!t) (
 (j6o).bind fun p=>
 some p) (
 (jgo i).bind fun j=>
 (j4B j.1 j.2 1).bind fun a=>
 let r:=(Int.ofNat (List.length a.1.2.1))
 cond (decide (r<2)) (
 (j6o).bind fun n=>
 some n) (
 let u:=(Int.ofNat (List.length a.1.2.1))
 (j02 a.2.1 a.2.2 u).bind fun c=>
 let o:=(w64 (c.1+1))
 let s:=(Int.ofNat (List.length a.1.2.1))
 let q:=(w64 (s-1))
 (j02 c.2.1 c.2.2 q).bind fun f=>
 let m:=(w64 (o+f.1))
 let k:=(Int.ofNat (List.length a.1.2.1))
 cond (!(k==0)) (
 let g:=(Int.tmod m k)
 (j2U (a.1.1,(a.1.2.1,(a.1.2.2.1,a.1.2.2.2))) 0 (2,(c.1,(g,(1767225600,1768953600))))).bind fun b=>
 (j2U (a.1.1,(a.1.2.1,(a.1.2.2.1,a.1.2.2.2))) 0 (2,(g,(c.1,(1767225600,1768953600))))).bind fun e=>
 (j2U (b.1.1,(b.1.2.1,(b.1.2.2.1,b.1.2.2.2))) 0 (2,(c.1,(g,(1767225600,1768953600))))).bind fun d=>
 cond (cond (cond (b.2 != 0) true (e.2 != 0)) true (d.2 != 0)) (
 some false) (
 (j4S 0 a.1.1 a.1.2.1 a.1.2.2.1 a.1.2.2.2 b.1.1 b.1.2.1 b.1.2.2.1 b.1.2.2.2 e.1.1 e.1.2.1 e.1.2.2.1 e.1.2.2.2 d.1.1 d.1.2.1 d.1.2.2.1 d.1.2.2.2 f.2.1 f.2.2).bind fun v=>
 sumC v (fun w=>
 some w) (fun x=>
 (j6o).bind fun l=>
 some l))) none))
def jae (a b c:Int):Option (Bool):=
 some (cond (decide (a≥b)) (decide (a≤c)) false)
def jbO (a:Tn43):Option (Bool):=
 (jae a.1 1970 2240).bind fun i=>
 cond i (
 (jae a.2.1 a.1 2240).bind fun g=>
 cond g (
 (jae a.2.2.1 1 12).bind fun e=>
 cond e (
 (jae a.2.2.2.1 1 5).bind fun c=>
 cond c (
 (jae a.2.2.2.2.1 0 6).bind fun f=>
 cond f (
 (jae a.2.2.2.2.2.1 0 86399).bind fun d=>
 cond d (
 (jae a.2.2.2.2.2.2 (-64800) 64800).bind fun b=>
 some b) (
 some false)) (
 some false)) (
 some false)) (
 some false)) (
 some false)) (
 some false)
def j1t (a:Int):Option (Bool):=
 let d:=(Int.tmod a 4)
 let c:=(Int.tmod a 100)
 let b:=(Int.tmod a 400)
 some (cond (d==0) (cond (c != 0) true (b==0)) false)
def jaJ (b a:Int):Option (Int):=
 cond (a==1) (
 cond (a==1) (
 some 31) (
 cond (a==4) (
 cond (a==4) (
 some 30) (
 cond (a==2) (
 (j1t b).bind fun a4=>
 cond a4 (
 some 29) (
 some 28)) (
 some 0))) (
 cond (a==6) (
 cond (a==6) (
 some 30) (
 cond (a==2) (
 (j1t b).bind fun x=>
 cond x (
 some 29) (
 some 28)) (
 some 0))) (
 cond (a==9) (
 cond (a==9) (
 some 30) (
 cond (a==2) (
 (j1t b).bind fun v=>
 cond v (
 some 29) (
 some 28)) (
 some 0))) (
 cond (a==11) (
 some 30) (
 cond (a==2) (
 (j1t b).bind fun a1=>
 cond a1 (
 some 29) (
 some 28)) (
 some 0))))))) (
 cond (a==3) (
 cond (a==3) (
 some 31) (
 cond (a==4) (
 cond (a==4) (
 some 30) (
 cond (a==2) (
 (j1t b).bind fun w=>
 cond w (
 some 29) (
 some 28)) (
 some 0))) (
 cond (a==6) (
 cond (a==6) (
 some 30) (
 cond (a==2) (
 (j1t b).bind fun z=>
 cond z (
 some 29) (
 some 28)) (
 some 0))) (
 cond (a==9) (
 cond (a==9) (
 some 30) (
 cond (a==2) (
 (j1t b).bind fun a0=>
 cond a0 (
 some 29) (
 some 28)) (
 some 0))) (
 cond (a==11) (
 some 30) (
 cond (a==2) (
 (j1t b).bind fun a3=>
 cond a3 (
 some 29) (
 some 28)) (
 some 0))))))) (
 cond (a==5) (
 cond (a==5) (
 some 31) (
 cond (a==4) (
 cond (a==4) (
 some 30) (
 cond (a==2) (
 (j1t b).bind fun a2=>
 cond a2 (
 some 29) (
 some 28)) (
 some 0))) (
 cond (a==6) (
 cond (a==6) (
 some 30) (
 cond (a==2) (
 (j1t b).bind fun y=>
 cond y (
 some 29) (
 some 28)) (
 some 0))) (
 cond (a==9) (
 cond (a==9) (
 some 30) (
 cond (a==2) (
 (j1t b).bind fun c=>
 cond c (
 some 29) (
 some 28)) (
 some 0))) (
 cond (a==11) (
 some 30) (
 cond (a==2) (
 (j1t b).bind fun r=>
 cond r (
 some 29) (
 some 28)) (
 some 0))))))) (
 cond (a==7) (
 cond (a==7) (
 some 31) (
 cond (a==4) (
 cond (a==4) (
 some 30) (
 cond (a==2) (
 (j1t b).bind fun q=>
 cond q (
 some 29) (
 some 28)) (
 some 0))) (
 cond (a==6) (
 cond (a==6) (
 some 30) (
 cond (a==2) (
 (j1t b).bind fun d=>
 cond d (
 some 29) (
 some 28)) (
 some 0))) (
 cond (a==9) (
 cond (a==9) (
 some 30) (
 cond (a==2) (
 (j1t b).bind fun e=>
 cond e (
 some 29) (
 some 28)) (
 some 0))) (
 cond (a==11) (
 some 30) (
 cond (a==2) (
 (j1t b).bind fun i=>
 cond i (
 some 29) (
 some 28)) (
 some 0))))))) (
 cond (a==8) (
 cond (a==8) (
 some 31) (
 cond (a==4) (
 cond (a==4) (
 some 30) (
 cond (a==2) (
 (j1t b).bind fun p=>
 cond p (
 some 29) (
 some 28)) (
 some 0))) (
 cond (a==6) (
 cond (a==6) (
 some 30) (
 cond (a==2) (
 (j1t b).bind fun t=>
 cond t (
 some 29) (
 some 28)) (
 some 0))) (
 cond (a==9) (
 cond (a==9) (
 some 30) (
 cond (a==2) (
 (j1t b).bind fun j=>
 cond j (
 some 29) (
 some 28)) (
 some 0))) (
 cond (a==11) (
 some 30) (
 cond (a==2) (
 (j1t b).bind fun m=>
 cond m (
 some 29) (
 some 28)) (
 some 0))))))) (
 cond (a==10) (
 cond (a==10) (
 some 31) (
 cond (a==4) (
 cond (a==4) (
 some 30) (
 cond (a==2) (
 (j1t b).bind fun f=>
 cond f (
 some 29) (
 some 28)) (
 some 0))) (
 cond (a==6) (
 cond (a==6) (
 some 30) (
 cond (a==2) (
 (j1t b).bind fun k=>
 cond k (
 some 29) (
 some 28)) (
 some 0))) (
 cond (a==9) (
 cond (a==9) (
 some 30) (
 cond (a==2) (
 (j1t b).bind fun u=>
 cond u (
 some 29) (
 some 28)) (
 some 0))) (
 cond (a==11) (
 some 30) (
 cond (a==2) (
 (j1t b).bind fun l=>
 cond l (
 some 29) (
 some 28)) (
 some 0))))))) (
 cond (a==12) (
 some 31) (
 cond (a==4) (
 cond (a==4) (
 some 30) (
 cond (a==2) (
 (j1t b).bind fun n=>
 cond n (
 some 29) (
 some 28)) (
 some 0))) (
 cond (a==6) (
 cond (a==6) (
 some 30) (
 cond (a==2) (
 (j1t b).bind fun s=>
 cond s (
 some 29) (
 some 28)) (
 some 0))) (
 cond (a==9) (
 cond (a==9) (
 some 30) (
 cond (a==2) (
 (j1t b).bind fun o=>
 cond o (
 some 29) (
 some 28)) (
 some 0))) (
 cond (a==11) (
 some 30) (
 cond (a==2) (
 (j1t b).bind fun g=>
 cond g (
 some 29) (
 some 28)) (
 some 0))))))))))))
def jdO (a:Tn4):Option (Bool):=
 cond (decide (a.1≥1970)) (
 cond (decide (a.1≤2240)) (
 cond (decide (a.2.1≥1)) (
 cond (decide (a.2.1≤12)) (
 cond (decide (a.2.2≥1)) (
 (jaJ a.1 a.2.1).bind fun b=>
 some (decide (a.2.2≤b))) (
 some false)) (
 some false)) (
 some false)) (
 some false)) (
 some false)
def jfx (a:Int):Option (Int):=
 let m:=(w64 (a-1970))
 let i:=(w64 (m*365))
 let l:=(w64 (a-1969))
 let j:=(w64 (Int.tdiv l 4))
 let k:=(w64 (i+j))
 let e:=(w64 (a-1901))
 let g:=(w64 (Int.tdiv e 100))
 let c:=(w64 (k-g))
 let b:=(w64 (a-1601))
 let d:=(w64 (Int.tdiv b 400))
 let f:=(w64 (c+d))
 some f
def j5d (i g f a b:Int):Option ((Int×Int×Int×Int×Int) ⊕ ((Int×Int×Int×Int))):=
 cond (decide (g<a)) (
 (jaJ f g).bind fun d=>
 let c:=(w64 (i+d))
 let e:=(w64 (g+1))
 some (.inl (c,e,f,a,b))) (
 some (.inr (i,f,a,b)))
def jcc [LP] (c e d a b:Int):Option ((Int×Int×Int×Int)):=
 LP.lp (unc5 (j5d)) (c,e,d,a,b)
theorem jdP (c e d a b):jcc c e d a b=lpK (j5d c e d a b) (fun h=>jcc h.1 h.2.1 h.2.2.1 h.2.2.2.1 h.2.2.2.2):=j09 _ _
def jiB [LP] (a:Tn4):Option (Int×Int):=
 (jdO (a.1,(a.2.1,a.2.2))).bind fun f=>
 cond (!f) (
 some (0,1)) (
 (jfx a.1).bind fun e=>
 (jcc e 1 a.1 a.2.1 a.2.2).bind fun c=>
 let d:=(w64 (c.1+c.2.2.2))
 let b:=(w64 (d-1))
 some (b,0))
def jcS (a:Int):Option (Int):=
 let c:=(Int.tmod a 7)
 let d:=(w64 (c+10))
 let b:=(Int.tmod d 7)
 some b
def j5e (i g e f d a:Int):Option ((Int×Int×Int×Int×Int×Int) ⊕ ((Int×Int×Int×Int×Int))):=
 (jcS a).bind fun b=>
 cond (b != f) (
 let c:=(w64 (a+1))
 some (.inl (i,g,e,f,d,c))) (
 some (.inr (i,g,e,d,a)))
def jcd [LP] (f e c d b a:Int):Option ((Int×Int×Int×Int×Int)):=
 LP.lp (unc6 (j5e)) (f,e,c,d,b,a)
theorem jdQ (f e c d b a):jcd f e c d b a=lpK (j5e f e c d b a) (fun h=>jcd h.1 h.2.1 h.2.2.1 h.2.2.2.1 h.2.2.2.2.1 h.2.2.2.2.2):=j09 _ _
def j5f (i g f a:Int):Option ((Int×Int×Int×Int) ⊕ (Int)):=
 let e:=(w64 (a+7))
 (jaJ i g).bind fun d=>
 let c:=(w64 (f+d))
 cond (decide (e<c)) (
 let b:=(w64 (a+7))
 some (.inl (i,g,f,b))) (
 some (.inr a))
def jce [LP] (c d b a:Int):Option (Int):=
 LP.lp (unc4 (j5f)) (c,d,b,a)
theorem jdR (d c b a):jce d c b a=lpK (j5f d c b a) (fun h=>jce h.1 h.2.1 h.2.2.1 h.2.2.2):=j09 _ _
def jiC [LP] (f c b a:Int):Option (Int×Int):=
 (jiB (f,(c,1))).bind fun e=>
 let l:Bool:=(cond (cond (e.2 != 0) true (decide (b<1))) true (decide (b>5)))
 let g:Bool:=(cond (cond l true (decide (a<0))) true (decide (a>6)))
 cond g (
 some (0,1)) (
 (jcd f c b a e.1 e.1).bind fun d=>
 cond (decide (d.2.2.1<5)) (
 let k:=(w64 (d.2.2.1-1))
 let i:=(w64 (7*k))
 let j:=(w64 (d.2.2.2.2+i))
 some (j,0)) (
 (jce d.1 d.2.1 d.2.2.2.1 d.2.2.2.2).bind fun m=>
 some (m,0)))
def j2t (k:Tn47) (i j d e a:Int) (c:Tn2):Option ((Tn47×Int×Int×Int×Int×Int×Tn2) ⊕ ((Tn47×Int×Int×Int×Int×Int×Tn2))):=
 cond (decide (d>0)) (
 let b:=(w64 (d-1))
 cond (inR b (List.length c)) (
 let g:=(List.getD c (Int.toNat b) (0,0)).1
 cond (decide (g>e)) (
 let f:=(w64 (d-1))
 some (.inl (k,i,j,f,e,a,c))) (
 some (.inr (k,i,j,d,e,a,c)))) none) (
 some (.inr (k,i,j,d,e,a,c)))
def j3E [LP] (g:Tn47) (d f e c a:Int) (b:Tn2):Option ((Tn47×Int×Int×Int×Int×Int×Tn2)):=
 LP.lp (unc7 (j2t)) (g,d,f,e,c,a,b)
theorem j7K (g d f e c a b):j3E g d f e c a b=lpK (j2t g d f e c a b) (fun h=>j3E h.1 h.2.1 h.2.2.1 h.2.2.2.1 h.2.2.2.2.1 h.2.2.2.2.2.1 h.2.2.2.2.2.2):=j09 _ _
def j2u [LP] (c:Tn47) (d u:Int) (v:Tn2):Option ((Tn47×Int×Int×Tn2) ⊕ ((Tn47×Int×Tn2))):=
 cond (inR d (List.length c)) (
 let o:=(List.getD c (Int.toNat d) (0,(0,(0,(0,(0,(0,0)))))))
 cond (decide (u≤o.2.1)) (
 cond (inR d (List.length c)) (
 let n:=(List.getD c (Int.toNat d) (0,(0,(0,(0,(0,(0,0)))))))
 cond (inR d (List.length c)) (
 let m:=(List.getD c (Int.toNat d) (0,(0,(0,(0,(0,(0,0)))))))
 cond (inR d (List.length c)) (
 let l:=(List.getD c (Int.toNat d) (0,(0,(0,(0,(0,(0,0)))))))
 (jiC u n.2.2.1 m.2.2.2.1 l.2.2.2.2.1).bind fun i=>
 let j:=(w64 (i.1*86400))
 cond (inR d (List.length c)) (
 let k:=(List.getD c (Int.toNat d) (0,(0,(0,(0,(0,(0,0)))))))
 let p:=(w64 (j+k.2.2.2.2.2.1))
 cond (inR d (List.length c)) (
 let s:=(List.getD c (Int.toNat d) (0,(0,(0,(0,(0,(0,0)))))))
 let q:=(Int.ofNat (List.length v))
 (j3E c d u q p s.2.2.2.2.2.2 v).bind fun a=>
 let g:Tn2:=[(a.2.2.2.2.1,a.2.2.2.2.2.1)]
 cond (decide (List.length a.2.2.2.2.2.2+List.length g≤j0l)) (
 let b:Tn2:=(a.2.2.2.2.2.2++g)
 let e:=(w64 (a.2.2.2.1+1))
 cond (decide (0≤e)&&decide (e≤(Int.ofNat (List.length b)))) (
 cond (decide (0≤a.2.2.2.1)&&decide (a.2.2.2.1≤(Int.ofNat (List.length b)))) (
 let f:Tn2:=(over b (Int.toNat e) (List.drop (Int.toNat a.2.2.2.1) b))
 let w:=(Int.ofNat (min (List.length (List.drop (Int.toNat a.2.2.2.1) b)) (List.length b-(Int.toNat e))))
 cond (inR a.2.2.2.1 (List.length f)) (
 let t:Tn2:=(List.set f (Int.toNat a.2.2.2.1) (a.2.2.2.2.1,a.2.2.2.2.2.1))
 let r:=(w64 (a.2.2.1+1))
 some (.inl (a.1,a.2.1,r,t))) none) none) none) none) none) none) none) none) none) (
 some (.inr (c,d,v)))) none
def j4T [LP] (c:Tn47) (d a:Int) (b:Tn2):Option ((Tn47×Int×Tn2)):=
 LP.lp (unc4 (j2u)) (c,d,a,b)
theorem j7L (d b c a):j4T d b c a=lpK (j2u d b c a) (fun h=>j4T h.1 h.2.1 h.2.2.1 h.2.2.2):=j09 _ _
def j2v [LP] (f:Tn47) (b:Int) (g:Tn2):Option ((Tn47×Int×Tn2) ⊕ (Tn2)):=
 let c:=(Int.ofNat (List.length f))
 cond (decide (b<c)) (
 cond (inR b (List.length f)) (
 let e:=(List.getD f (Int.toNat b) (0,(0,(0,(0,(0,(0,0)))))))
 (j4T f b e.1 g).bind fun a=>
 let d:=(w64 (a.2.1+1))
 some (.inl (a.1,d,a.2.2))) none) (
 some (.inr g))
def j3F [LP] (b:Tn47) (c:Int) (a:Tn2):Option (Tn2):=
 LP.lp (unc3 (j2v)) (b,c,a)
theorem j7M (b c a):j3F b c a=lpK (j2v b c a) (fun h=>j3F h.1 h.2.1 h.2.2):=j09 _ _
def j6E [LP] (a:Tn47):Option (Tn2):=
 (j3F a 0 ([]:Tn2)).bind fun b=>
 some b
def j2w (n c:Int) (o:ByteArray) (d:Int) (b:Tn47):Option ((Int×Int×ByteArray×Int×Tn47) ⊕ (Int ⊕ (Int×ByteArray×Int×Tn47))):=
 let k:=(Int.ofNat (List.length b))
 cond (decide (c<k)) (
 cond (inR c (List.length b)) (
 let a:=(List.getD b (Int.toNat c) (0,(0,(0,(0,(0,(0,0)))))))
 (jbO (a.1,(a.2.1,(a.2.2.1,(a.2.2.2.1,(a.2.2.2.2.1,(a.2.2.2.2.2.1,a.2.2.2.2.2.2))))))).bind fun l=>
 cond (!l) (
 some (.inr (.inl 1))) (
 cond (inR c (List.length b)) (
 let j:=(List.getD b (Int.toNat c) (0,(0,(0,(0,(0,(0,0)))))))
 cond (inR c (List.length b)) (
 let g:=(List.getD b (Int.toNat c) (0,(0,(0,(0,(0,(0,0)))))))
 let f:=(w64 (j.2.1-g.1))
 let m:=(w64 (f+1))
 let i:=(w64 (n+m))
 let e:=(w64 (c+1))
 some (.inl (i,e,o,d,b))) none) none)) none) (
 some (.inr (.inr (n,o,d,b))))
def j3G [LP] (c e:Int) (d:ByteArray) (a:Int) (b:Tn47):Option (Int ⊕ (Int×ByteArray×Int×Tn47)):=
 LP.lp (unc5 (j2w)) (c,e,d,a,b)
theorem j7N (c e d a b):j3G c e d a b=lpK (j2w c e d a b) (fun h=>j3G h.1 h.2.1 h.2.2.1 h.2.2.2.1 h.2.2.2.2):=j09 _ _
def j2x (w e:Int) (c d:Tn2):Option ((Int×Int×Tn2×Tn2) ⊕ (Int ⊕ Tn2)):=
 let u:=(Int.ofNat (List.length d))
 cond (decide (e<u)) (
 cond (inR e (List.length d)) (
 let y:=(List.getD d (Int.toNat e) (0,0)).2
 cond (y==w) (
 let s:=(w64 (e+1))
 some (.inl (w,s,c,d))) (
 cond (inR e (List.length d)) (
 let t:=(List.getD d (Int.toNat e) (0,0)).1
 let b:=(w64 (t-w))
 cond (inR e (List.length d)) (
 let a:=(List.getD d (Int.toNat e) (0,0)).2
 let q:=(w64 (a-w))
 (jae q (-86399) 86399).bind fun r=>
 cond (!r) (
 some (.inr (.inl 6))) (
 (jae b 0 8589934592).bind fun p=>
 cond (!p) (
 some (.inr (.inl 6))) (
 let v:=(Int.ofNat (List.length c))
 cond (decide (v>0)) (
 let m:=(Int.ofNat (List.length c))
 let f:=(w64 (m-1))
 cond (inR f (List.length c)) (
 let l:=(List.getD c (Int.toNat f) (0,0)).1
 let j:=(w64 (b-l))
 cond (decide (j<604800)) (
 some (.inr (.inl 6))) (
 let i:Tn2:=[(b,a)]
 cond (decide (List.length c+List.length i≤j0l)) (
 let k:Tn2:=(c++i)
 let o:=(w64 (e+1))
 some (.inl (a,o,k,d))) none)) none) (
 let g:Tn2:=[(b,a)]
 cond (decide (List.length c+List.length g≤j0l)) (
 let n:Tn2:=(c++g)
 let x:=(w64 (e+1))
 some (.inl (a,x,n,d))) none)))) none) none)) none) (
 some (.inr (.inr c)))
def j3H [LP] (b d:Int) (a c:Tn2):Option (Int ⊕ Tn2):=
 LP.lp (unc4 (j2x)) (b,d,a,c)
theorem j7O (a b c d):j3H a b c d=lpK (j2x a b c d) (fun h=>j3H h.1 h.2.1 h.2.2.1 h.2.2.2):=j09 _ _
def j6F [LP] (a:Tn57):Option (Tn2×Int):=
 (jae a.2.1 (-64800) 64800).bind fun e=>
 cond (!e) (
 some (([]:Tn2),1)) (
 let d:=(Int.ofNat (List.length a.2.2))
 cond (decide (d>16)) (
 some (([]:Tn2),5)) (
 (j3G 0 0 a.1 a.2.1 a.2.2).bind fun j=>
 sumC j (fun k=>
 some (([]:Tn2),k)) (fun i=>
 cond (decide (i.1>640)) (
 some (([]:Tn2),5)) (
 (j6E i.2.2.2).bind fun b=>
 (j3H i.2.2.1 0 ([]:Tn2) b).bind fun g=>
 sumC g (fun c=>
 some (([]:Tn2),c)) (fun f=>
 some (f,0))))))
end
end Go.Proofs.Pw
