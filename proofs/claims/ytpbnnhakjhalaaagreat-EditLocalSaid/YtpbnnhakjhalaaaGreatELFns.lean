/- Plain functions, printed by a program out of the given code. -/
import Derived.Test.YtpbnnhakjhalaaaGreatELLD
open Go Go.Lft
set_option linter.unusedVariables false
namespace Go.Proofs.Pw
noncomputable section
abbrev Tn2:Type:=(List (Int×Int))
abbrev Tn4:Type:=(Int×(Int×Int))
abbrev Tn17:Type:=(List Tn4)
abbrev Tn15:Type:=(Int×Tn2)
abbrev Tn22:Type:=(ByteArray×(Int×(List Int)))
abbrev Tn23:Type:=(List Tn15)
abbrev Tn28:Type:=(Int×(Int×Tn4))
abbrev Tn30:Type:=(List Tn22)
abbrev Tn34:Type:=(List Tn28)
abbrev Tn43:Type:=(Int×(Int×Tn28))
abbrev Tn47:Type:=(List Tn43)
abbrev Tn49:Type:=(ByteArray×(Int×(Tn2×(Int×(Int×Bool)))))
abbrev Tn53:Type:=(List Tn49)
abbrev Tn57:Type:=(ByteArray×(Int×Tn47))
abbrev Tn59:Type:=(List Tn57)
abbrev Tn64:Type:=(ByteArray×(Int×((Int×Int)×(Int×(Int×((List Int)×(Tn2×(Int×Int))))))))
abbrev Tn65:Type:=(List Tn64)
abbrev Tn69:Type:=(ByteArray×(Tn65×Tn34))
abbrev Tn70:Type:=(List Tn69)
abbrev Tn76:Type:=(Tn59×(Tn53×(Tn30×Tn70)))
abbrev Tn78:Type:=(Tn76×Tn23)
abbrev unc2 {A0 A1 R:Type} (f:A0→A1→R) (h:A0×A1):R:=f h.1 h.2
abbrev unc3 {A0 A1 A2 R:Type} (f:A0→A1→A2→R) (h:A0×A1×A2):R:=f h.1 h.2.1 h.2.2
abbrev unc4 {A0 A1 A2 A3 R:Type} (f:A0→A1→A2→A3→R) (h:A0×A1×A2×A3):R:=f h.1 h.2.1 h.2.2.1 h.2.2.2
abbrev unc5 {A0 A1 A2 A3 A4 R:Type} (f:A0→A1→A2→A3→A4→R) (h:A0×A1×A2×A3×A4):R:=f h.1 h.2.1 h.2.2.1 h.2.2.2.1 h.2.2.2.2
abbrev unc6 {A0 A1 A2 A3 A4 A5 R:Type} (f:A0→A1→A2→A3→A4→A5→R) (h:A0×A1×A2×A3×A4×A5):R:=f h.1 h.2.1 h.2.2.1 h.2.2.2.1 h.2.2.2.2.1 h.2.2.2.2.2
abbrev unc7 {A0 A1 A2 A3 A4 A5 A6 R:Type} (f:A0→A1→A2→A3→A4→A5→A6→R) (h:A0×A1×A2×A3×A4×A5×A6):R:=f h.1 h.2.1 h.2.2.1 h.2.2.2.1 h.2.2.2.2.1 h.2.2.2.2.2.1 h.2.2.2.2.2.2
abbrev unc8 {A0 A1 A2 A3 A4 A5 A6 A7 R:Type} (f:A0→A1→A2→A3→A4→A5→A6→A7→R) (h:A0×A1×A2×A3×A4×A5×A6×A7):R:=f h.1 h.2.1 h.2.2.1 h.2.2.2.1 h.2.2.2.2.1 h.2.2.2.2.2.1 h.2.2.2.2.2.2.1 h.2.2.2.2.2.2.2
abbrev unc9 {A0 A1 A2 A3 A4 A5 A6 A7 A8 R:Type} (f:A0→A1→A2→A3→A4→A5→A6→A7→A8→R) (h:A0×A1×A2×A3×A4×A5×A6×A7×A8):R:=f h.1 h.2.1 h.2.2.1 h.2.2.2.1 h.2.2.2.2.1 h.2.2.2.2.2.1 h.2.2.2.2.2.2.1 h.2.2.2.2.2.2.2.1 h.2.2.2.2.2.2.2.2
abbrev jqK {A0 A1 A2 A3 A4 A5 A6 A7 A8 A9 R:Type} (f:A0→A1→A2→A3→A4→A5→A6→A7→A8→A9→R) (h:A0×A1×A2×A3×A4×A5×A6×A7×A8×A9):R:=f h.1 h.2.1 h.2.2.1 h.2.2.2.1 h.2.2.2.2.1 h.2.2.2.2.2.1 h.2.2.2.2.2.2.1 h.2.2.2.2.2.2.2.1 h.2.2.2.2.2.2.2.2.1 h.2.2.2.2.2.2.2.2.2
abbrev jqL {A0 A1 A2 A3 A4 A5 A6 A7 A8 A9 A10 R:Type} (f:A0→A1→A2→A3→A4→A5→A6→A7→A8→A9→A10→R) (h:A0×A1×A2×A3×A4×A5×A6×A7×A8×A9×A10):R:=f h.1 h.2.1 h.2.2.1 h.2.2.2.1 h.2.2.2.2.1 h.2.2.2.2.2.1 h.2.2.2.2.2.2.1 h.2.2.2.2.2.2.2.1 h.2.2.2.2.2.2.2.2.1 h.2.2.2.2.2.2.2.2.2.1 h.2.2.2.2.2.2.2.2.2.2
abbrev jsU {A0 A1 A2 A3 A4 A5 A6 A7 A8 A9 A10 A11 R:Type} (f:A0→A1→A2→A3→A4→A5→A6→A7→A8→A9→A10→A11→R) (h:A0×A1×A2×A3×A4×A5×A6×A7×A8×A9×A10×A11):R:=f h.1 h.2.1 h.2.2.1 h.2.2.2.1 h.2.2.2.2.1 h.2.2.2.2.2.1 h.2.2.2.2.2.2.1 h.2.2.2.2.2.2.2.1 h.2.2.2.2.2.2.2.2.1 h.2.2.2.2.2.2.2.2.2.1 h.2.2.2.2.2.2.2.2.2.2.1 h.2.2.2.2.2.2.2.2.2.2.2
abbrev jsV {A0 A1 A2 A3 A4 A5 A6 A7 A8 A9 A10 A11 A12 R:Type} (f:A0→A1→A2→A3→A4→A5→A6→A7→A8→A9→A10→A11→A12→R) (h:A0×A1×A2×A3×A4×A5×A6×A7×A8×A9×A10×A11×A12):R:=f h.1 h.2.1 h.2.2.1 h.2.2.2.1 h.2.2.2.2.1 h.2.2.2.2.2.1 h.2.2.2.2.2.2.1 h.2.2.2.2.2.2.2.1 h.2.2.2.2.2.2.2.2.1 h.2.2.2.2.2.2.2.2.2.1 h.2.2.2.2.2.2.2.2.2.2.1 h.2.2.2.2.2.2.2.2.2.2.2.1 h.2.2.2.2.2.2.2.2.2.2.2.2
abbrev jqM {A0 A1 A2 A3 A4 A5 A6 A7 A8 A9 A10 A11 A12 A13 R:Type} (f:A0→A1→A2→A3→A4→A5→A6→A7→A8→A9→A10→A11→A12→A13→R) (h:A0×A1×A2×A3×A4×A5×A6×A7×A8×A9×A10×A11×A12×A13):R:=f h.1 h.2.1 h.2.2.1 h.2.2.2.1 h.2.2.2.2.1 h.2.2.2.2.2.1 h.2.2.2.2.2.2.1 h.2.2.2.2.2.2.2.1 h.2.2.2.2.2.2.2.2.1 h.2.2.2.2.2.2.2.2.2.1 h.2.2.2.2.2.2.2.2.2.2.1 h.2.2.2.2.2.2.2.2.2.2.2.1 h.2.2.2.2.2.2.2.2.2.2.2.2.1 h.2.2.2.2.2.2.2.2.2.2.2.2.2
abbrev jsW {A0 A1 A2 A3 A4 A5 A6 A7 A8 A9 A10 A11 A12 A13 A14 R:Type} (f:A0→A1→A2→A3→A4→A5→A6→A7→A8→A9→A10→A11→A12→A13→A14→R) (h:A0×A1×A2×A3×A4×A5×A6×A7×A8×A9×A10×A11×A12×A13×A14):R:=f h.1 h.2.1 h.2.2.1 h.2.2.2.1 h.2.2.2.2.1 h.2.2.2.2.2.1 h.2.2.2.2.2.2.1 h.2.2.2.2.2.2.2.1 h.2.2.2.2.2.2.2.2.1 h.2.2.2.2.2.2.2.2.2.1 h.2.2.2.2.2.2.2.2.2.2.1 h.2.2.2.2.2.2.2.2.2.2.2.1 h.2.2.2.2.2.2.2.2.2.2.2.2.1 h.2.2.2.2.2.2.2.2.2.2.2.2.2.1 h.2.2.2.2.2.2.2.2.2.2.2.2.2.2
abbrev jsX {A0 A1 A2 A3 A4 A5 A6 A7 A8 A9 A10 A11 A12 A13 A14 A15 A16 A17 A18 A19 A20 A21 A22 A23 R:Type} (f:A0→A1→A2→A3→A4→A5→A6→A7→A8→A9→A10→A11→A12→A13→A14→A15→A16→A17→A18→A19→A20→A21→A22→A23→R) (h:A0×A1×A2×A3×A4×A5×A6×A7×A8×A9×A10×A11×A12×A13×A14×A15×A16×A17×A18×A19×A20×A21×A22×A23):R:=f h.1 h.2.1 h.2.2.1 h.2.2.2.1 h.2.2.2.2.1 h.2.2.2.2.2.1 h.2.2.2.2.2.2.1 h.2.2.2.2.2.2.2.1 h.2.2.2.2.2.2.2.2.1 h.2.2.2.2.2.2.2.2.2.1 h.2.2.2.2.2.2.2.2.2.2.1 h.2.2.2.2.2.2.2.2.2.2.2.1 h.2.2.2.2.2.2.2.2.2.2.2.2.1 h.2.2.2.2.2.2.2.2.2.2.2.2.2.1 h.2.2.2.2.2.2.2.2.2.2.2.2.2.2.1 h.2.2.2.2.2.2.2.2.2.2.2.2.2.2.2.1 h.2.2.2.2.2.2.2.2.2.2.2.2.2.2.2.2.1 h.2.2.2.2.2.2.2.2.2.2.2.2.2.2.2.2.2.1 h.2.2.2.2.2.2.2.2.2.2.2.2.2.2.2.2.2.2.1 h.2.2.2.2.2.2.2.2.2.2.2.2.2.2.2.2.2.2.2.1 h.2.2.2.2.2.2.2.2.2.2.2.2.2.2.2.2.2.2.2.2.1 h.2.2.2.2.2.2.2.2.2.2.2.2.2.2.2.2.2.2.2.2.2.1 h.2.2.2.2.2.2.2.2.2.2.2.2.2.2.2.2.2.2.2.2.2.2.1 h.2.2.2.2.2.2.2.2.2.2.2.2.2.2.2.2.2.2.2.2.2.2.2
def jfg (a:(List Int)):Option (Bool):=
 let b:=(Int.ofNat (List.length a))
 some (decide (b≤500))
def jh6  : Option (Tn59×Tn53×Tn30×Tn70):=
 let g:Tn59:=[((ByteArray.mk #[122]),(0,([]:Tn47)))]
 let f:Tn53:=[((ByteArray.mk #[97]),(0,(([]:Tn2),(0,(0,false))))),((ByteArray.mk #[98]),(0,(([]:Tn2),(0,(0,false))))),((ByteArray.mk #[99]),(0,(([]:Tn2),(0,(0,false)))))]
 let a:(List Int):=[0,1]
 let b:(List Int):=[2]
 let c:Tn2:=[(0,86400)]
 let d:Tn65:=[((ByteArray.mk #[108,111,119]),(0,((4,0),(2,(1,(a,(([]:Tn2),(0,0)))))))),((ByteArray.mk #[116,111,112]),(0,((4,0),(2,(1,(b,(c,(0,0))))))))]
 let e:Tn70:=[((ByteArray.mk #[115]),(d,([]:Tn34)))]
 some (g,f,([]:Tn30),e)
def j8v (a:Tn57):Option (ByteArray):=
 some a.1
def jdv (a:Int):Option (Bool):=
 some (cond (decide (a≥97)) (decide (a≤122)) false)
def jh7 (a:Int):Option (Bool):=
 some (cond (decide (a≥48)) (decide (a≤57)) false)
def ja1 (d:ByteArray) (c b:Int):Option ((ByteArray×Int×Int) ⊕ (Bool ⊕ Unit)):=
 cond (decide (b<c)) (
 cond (inR b (ByteArray.size d)) (
 let a:=(jo4 d b)
 (jdv a).bind fun f=>
 cond (!f) (
 (jh7 a).bind fun i=>
 cond (cond (cond (!i) (a != 95) false) (a != 45) false) (
 some (.inr (.inl false))) (
 let g:=(w64 (b+1))
 some (.inl (d,c,g)))) (
 let e:=(w64 (b+1))
 some (.inl (d,c,e)))) none) (
 some (.inr (.inr ())))
def jbe [LP] (c:ByteArray) (a b:Int):Option (Bool ⊕ Unit):=
 LP.lp (unc3 (ja1)) (c,a,b)
def j5R [LP] (a:ByteArray):Option (Bool):=
 let g:=(Int.ofNat (ByteArray.size a))
 let b:Bool:=(cond (ByteArray.toList a==ByteArray.toList ByteArray.empty) true (decide (g>24)))
 cond ((inR 0 (ByteArray.size a)) || !(!b)) (
 let e:=(jo4 a 0)
 cond b (
 some false) (
 (jdv e).bind fun d=>
 cond (!d) (
 some false) (
 let c:=(Int.ofNat (ByteArray.size a))
 (jbe a c 0).bind fun f=>
 sumC f (fun i=>
 some i) (fun j=>
 some true)))) none
def j2T [LP] (b:ByteArray) (a:(List (ByteArray×Bool))):Option (Int×(List (ByteArray×Bool))):=
 (j5R b).bind fun d=>
 cond (!d) (
 some (2,a)) (
 cond (jbA false a b) (
 some (4,a)) (
 let c:(List (ByteArray×Bool)):=(jar a b true)
 some (0,c)))
def j8w (a c b:Int):Option (Bool):=
 some (cond (decide (a≥c)) (decide (a≤b)) false)
def jch (a:Tn43):Option (Int):=
 (j8w a.1 1970 2240).bind fun i=>
 cond (!i) (
 some 1) (
 (j8w a.2.1 a.1 2240).bind fun b=>
 cond (!b) (
 some 1) (
 (j8w a.2.2.1 1 12).bind fun g=>
 cond (!g) (
 some 1) (
 (j8w a.2.2.2.1 1 5).bind fun e=>
 cond (!e) (
 some 1) (
 (j8w a.2.2.2.2.1 0 6).bind fun c=>
 cond (!c) (
 some 1) (
 (j8w a.2.2.2.2.2.1 0 86399).bind fun d=>
 cond (!d) (
 some 1) (
 (j8w a.2.2.2.2.2.2 (-64800) 64800).bind fun f=>
 cond (!f) (
 some 1) (
 some 0)))))))
def jfh (a:Int):Option (Bool):=
 let c:=(Int.tmod a 4)
 let d:=(Int.tmod a 100)
 let b:=(Int.tmod a 400)
 some (cond (c==0) (cond (d != 0) true (b==0)) false)
def j5S (c a:Int):Option (Int):=
 cond (cond (decide (a<1)) true (decide (a>12))) (
 some 0) (
 let e:(List Int):=[31,28,31,30,31,30,31,31,30,31,30,31]
 let j:(List Int):=(List.replicate 12 0)
 cond (a==2) (
 (jfh c).bind fun i=>
 cond i (
 some 29) (
 let f:=(w64 (a-1))
 cond (inR f 12) (
 let g:=(List.getD e (Int.toNat f) 0)
 some g) none)) (
 let b:=(w64 (a-1))
 cond (inR b 12) (
 let d:=(List.getD e (Int.toNat b) 0)
 some d) none))
def j99 (a:Tn4):Option (Bool):=
 cond (decide (a.1≥1970)) (
 cond (decide (a.1≤2240)) (
 cond (decide (a.2.2≥1)) (
 (j5S a.1 a.2.1).bind fun b=>
 some (decide (a.2.2≤b))) (
 some false)) (
 some false)) (
 some false)
def j6x (b a:Int):Option (Int):=
 cond (!(a==0)) (
 let c:=(w64 (Int.tdiv b a))
 cond (!(a==0)) (
 let d:=(Int.tmod b a)
 cond (decide (d<0)) (
 let e:=(w64 (c-1))
 some e) (
 some c)) none) none
def j40 (a:Int):Option (Int):=
 let b:=(w64 (a-1))
 let l:=(w64 (a-1970))
 let k:=(w64 (365*l))
 (j6x b 4).bind fun c=>
 let f:=(w64 (k+c))
 (j6x b 100).bind fun i=>
 let g:=(w64 (f-i))
 (j6x b 400).bind fun j=>
 let d:=(w64 (g+j))
 let e:=(w64 (d-477))
 some e
def j39 (g e i a f:Int):Option ((Int×Int×Int×Int×Int) ⊕ (Int)):=
 cond (decide (e<a)) (
 (j5S i e).bind fun b=>
 let d:=(w64 (g+b))
 let c:=(w64 (e+1))
 some (.inl (d,c,i,a,f))) (
 some (.inr g))
def j4j [LP] (c e d a b:Int):Option (Int):=
 LP.lp (unc5 (j39)) (c,e,d,a,b)
theorem ja2 (c e d a b):j4j c e d a b=lpK (j39 c e d a b) (fun h=>j4j h.1 h.2.1 h.2.2.1 h.2.2.2.1 h.2.2.2.2):=j06 _ _
def j5n [LP] (a:Tn4):Option (Int):=
 (j40 a.1).bind fun e=>
 let b:=(w64 (e+a.2.2))
 let c:=(w64 (b-1))
 (j4j c 1 a.1 a.2.1 a.2.2).bind fun d=>
 some d
def j4C (a:Int):Option (Int):=
 let b:=(Int.tmod a 7)
 let c:=(w64 (b+10))
 let d:=(Int.tmod c 7)
 some d
def j9a [LP] (c b d a:Int):Option (Int×Int):=
 (j99 (c,(b,1))).bind fun n=>
 let s:Bool:=(cond (cond (!n) true (decide (d<1))) true (decide (d>5)))
 let q:Bool:=(cond (cond s true (decide (a<0))) true (decide (a>6)))
 cond q (
 some (0,1)) (
 (j5n (c,(b,1))).bind fun e=>
 (j4C e).bind fun j=>
 let p:=(w64 (a-j))
 let l:=(w64 (p+7))
 let o:=(Int.tmod l 7)
 let g:=(w64 (e+o))
 let r:=(w64 (d-1))
 let i:=(w64 (7*r))
 let f:=(w64 (g+i))
 (j5S c b).bind fun k=>
 let m:=(w64 (e+k))
 cond (decide (f≥m)) (
 let t:=(w64 (f-7))
 some (t,0)) (
 some (f,0)))
def j6y (a b:(Int×Int)):Option (Int):=
 let c:=(w64 (a.1-b.1))
 some c
def j0k (l p q b:Int) (a:Tn2):Option ((Int×Int×Int×Int×Tn2) ⊕ ((Int×Int×Int×Tn2))):=
 cond (decide (b>l)) (
 cond (inR b (List.length a)) (
 let e:=(List.getD a (Int.toNat b) (0,0))
 let g:=(w64 (b-1))
 cond (inR g (List.length a)) (
 let d:=(List.getD a (Int.toNat g) (0,0))
 (j6y (e.1,e.2) (d.1,d.2)).bind fun n=>
 cond (decide (n<0)) (
 let i:=(w64 (b-1))
 let k:=(w64 (b-1))
 cond (inR k (List.length a)) (
 let j:=(List.getD a (Int.toNat k) (0,0))
 cond (inR b (List.length a)) (
 let f:=(List.getD a (Int.toNat b) (0,0))
 cond (inR b (List.length a)) (
 let c:Tn2:=(List.set a (Int.toNat b) (j.1,j.2))
 cond (inR i (List.length c)) (
 let o:Tn2:=(List.set c (Int.toNat i) (f.1,f.2))
 let m:=(w64 (b-1))
 some (.inl (l,p,q,m,o))) none) none) none) none) (
 some (.inr (l,p,q,a)))) none) none) (
 some (.inr (l,p,q,a)))
def j0f [LP] (a c d e:Int) (b:Tn2):Option ((Int×Int×Int×Tn2)):=
 LP.lp (unc5 (j0k)) (a,c,d,e,b)
theorem j1V (a c d e b):j0f a c d e b=lpK (j0k a c d e b) (fun h=>j0f h.1 h.2.1 h.2.2.1 h.2.2.2.1 h.2.2.2.2):=j06 _ _
def j07 [LP] (f e c:Int) (d:Tn2):Option ((Int×Int×Int×Tn2) ⊕ (Tn2)):=
 cond (decide (c<e)) (
 (j0f f e c c d).bind fun a=>
 let b:=(w64 (a.2.2.1+1))
 some (.inl (a.1,a.2.1,b,a.2.2.2))) (
 some (.inr d))
def j0g [LP] (a d c:Int) (b:Tn2):Option (Tn2):=
 LP.lp (unc4 (j07)) (a,d,c,b)
theorem j0W (a c d b):j0g a c d b=lpK (j07 a c d b) (fun h=>j0g h.1 h.2.1 h.2.2.1 h.2.2.2):=j06 _ _
def j0a [LP] (a:Tn2) (b c:Int):Option (Tn2):=
 let d:=(w64 (b+1))
 (j0g b c d a).bind fun e=>
 some e
def j0d [LP] (d e f c:Int) (g:Tn2):Option ((Int×Int×Int×Int×Tn2) ⊕ ((Int×Int×Int×Tn2))):=
 cond (decide (c≤d)) (
 (j0a g f c).bind fun b=>
 let a:=(w64 (c+e))
 some (.inl (d,e,c,a,b))) (
 some (.inr (d,e,f,g)))
def j0v [LP] (a e b d:Int) (c:Tn2):Option ((Int×Int×Int×Tn2)):=
 LP.lp (unc5 (j0d)) (a,e,b,d,c)
theorem j4K (a e b d c):j0v a e b d c=lpK (j0d a e b d c) (fun h=>j0v h.1 h.2.1 h.2.2.1 h.2.2.2.1 h.2.2.2.2):=j06 _ _
def j2p (a c b f:Int) (e:Tn2):Option ((Int×Int×Int×Int×Tn2) ⊕ ((Int×Int×Int×Tn2))):=
 cond (decide (f≤a)) (
 let d:=(w64 (b+c))
 none) (
 some (.inr (a,c,b,e)))
def j1H [LP] (a e b d:Int) (c:Tn2):Option ((Int×Int×Int×Tn2)):=
 LP.lp (unc5 (j2p)) (a,e,b,d,c)
def j0e [LP] (f e:Int) (g:Tn2):Option ((Int×Int×Tn2) ⊕ (Tn2)):=
 cond (decide (e<f)) (
 let d:=(w64 (2*e))
 (j1H f e 0 d g).bind fun a=>
 let c:=(w64 (a.2.2.1+a.2.1))
 cond (decide (c<a.1)) (
 none) (
 let b:=(w64 (a.2.1*2))
 some (.inl (a.1,b,a.2.2.2)))) (
 some (.inr g))
def j0w [LP] (a c:Int) (b:Tn2):Option (Tn2):=
 LP.lp (unc3 (j0e)) (a,c,b)
theorem j4L (a c b):j0w a c b=lpK (j0e a c b) (fun h=>j0w h.1 h.2.1 h.2.2):=j06 _ _
def j0H [LP] (a:Tn2) (c:Int):Option (Tn2):=
 (j0v c 20 0 20 a).bind fun b=>
 (j0a b.2.2.2 b.2.2.1 b.1).bind fun d=>
 (j0w b.1 b.2.1 d).bind fun e=>
 some e
def j08 [LP] (a:Tn2):Option (Tn2):=
 let c:=(Int.ofNat (List.length a))
 (j0H a c).bind fun b=>
 some b
def j2d (n:Int) (e:Tn47) (l b:Int) (m:ByteArray) (f:Int) (d:Tn47):Option ((Int×Tn47×Int×Int×ByteArray×Int×Tn47) ⊕ (Int ⊕ (Int×ByteArray×Int×Tn47))):=
 cond (decide (b<l)) (
 cond (inR b (List.length e)) (
 let a:=(List.getD e (Int.toNat b) (0,(0,(0,(0,(0,(0,0)))))))
 (jch (a.1,(a.2.1,(a.2.2.1,(a.2.2.2.1,(a.2.2.2.2.1,(a.2.2.2.2.2.1,a.2.2.2.2.2.2))))))).bind fun c=>
 cond (c != 0) (
 some (.inr (.inl c))) (
 let g:=(w64 (a.2.1-a.1))
 let k:=(w64 (g+1))
 let i:=(w64 (n+k))
 let j:=(w64 (b+1))
 some (.inl (i,e,l,j,m,f,d)))) none) (
 some (.inr (.inr (n,m,f,d))))
def j26 [LP] (g:Int) (d:Tn47) (e c:Int) (f:ByteArray) (b:Int) (a:Tn47):Option (Int ⊕ (Int×ByteArray×Int×Tn47)):=
 LP.lp (unc7 (j2d)) (g,d,e,c,f,b,a)
theorem j7n (g d e c f b a):j26 g d e c f b a=lpK (j2d g d e c f b a) (fun h=>j26 h.1 h.2.1 h.2.2.1 h.2.2.2.1 h.2.2.2.2.1 h.2.2.2.2.2.1 h.2.2.2.2.2.2):=j06 _ _
def j0P [LP] (i:Int) (q:Tn47) (o p s g c d b f a:Int) (r:Tn2):Option ((Int×Tn47×Int×Int×Int×Int×Int×Int×Int×Int×Int×Tn2) ⊕ ((Tn47×Int×Int×Tn2))):=
 cond (decide (i≤g)) (
 (j9a i c d b).bind fun k=>
 let n:=(w64 (k.1*86400))
 let l:=(w64 (n+f))
 let e:Tn2:=[(l,a)]
 cond (decide (List.length r+List.length e≤j0m)) (
 let m:Tn2:=(r++e)
 let j:=(w64 (i+1))
 some (.inl (j,q,o,p,s,g,c,d,b,f,a,m))) none) (
 some (.inr (q,o,p,r)))
def j2K [LP] (l:Int) (j:Tn47) (g i k f c d b e a:Int) (m:Tn2):Option ((Tn47×Int×Int×Tn2)):=
 LP.lp (jsU (j0P)) (l,j,g,i,k,f,c,d,b,e,a,m)
theorem j7o (l j g i k f c d b e a m):j2K l j g i k f c d b e a m=lpK (j0P l j g i k f c d b e a m) (fun h=>j2K h.1 h.2.1 h.2.2.1 h.2.2.2.1 h.2.2.2.2.1 h.2.2.2.2.2.1 h.2.2.2.2.2.2.1 h.2.2.2.2.2.2.2.1 h.2.2.2.2.2.2.2.2.1 h.2.2.2.2.2.2.2.2.2.1 h.2.2.2.2.2.2.2.2.2.2.1 h.2.2.2.2.2.2.2.2.2.2.2):=j06 _ _
def j0Q [LP] (d:Tn47) (f c:Int) (g:Tn2):Option ((Tn47×Int×Int×Tn2) ⊕ (Tn2)):=
 cond (decide (c<f)) (
 cond (inR c (List.length d)) (
 let a:=(List.getD d (Int.toNat c) (0,(0,(0,(0,(0,(0,0)))))))
 (j2K a.1 d f c a.1 a.2.1 a.2.2.1 a.2.2.2.1 a.2.2.2.2.1 a.2.2.2.2.2.1 a.2.2.2.2.2.2 g).bind fun b=>
 let e:=(w64 (b.2.2.1+1))
 some (.inl (b.1,b.2.1,e,b.2.2.2))) none) (
 some (.inr g))
def j27 [LP] (c:Tn47) (a b:Int) (d:Tn2):Option (Tn2):=
 LP.lp (unc4 (j0Q)) (c,a,b,d)
theorem j7p (c a b d):j27 c a b d=lpK (j0Q c a b d) (fun h=>j27 h.1 h.2.1 h.2.2.1 h.2.2.2):=j06 _ _
def j34 [LP] (a:Tn57):Option (Tn2×Int):=
 (j8w a.2.1 (-64800) 64800).bind fun d=>
 cond (!d) (
 some (([]:Tn2),1)) (
 let b:=(Int.ofNat (List.length a.2.2))
 cond (decide (b>16)) (
 some (([]:Tn2),5)) (
 let f:=(Int.ofNat (List.length a.2.2))
 (j26 0 a.2.2 f 0 a.1 a.2.1 a.2.2).bind fun i=>
 sumC i (fun k=>
 some (([]:Tn2),k)) (fun g=>
 cond (decide (g.1>640)) (
 some (([]:Tn2),5)) (
 let c:=(Int.ofNat (List.length g.2.2.2))
 (j27 g.2.2.2 c 0 ([]:Tn2)).bind fun j=>
 (j08 j).bind fun e=>
 some (e,0)))))
def j2e (t m d:Int) (b j:Tn2):Option ((Int×Int×Int×Tn2×Tn2) ⊕ (Int ⊕ Tn2)):=
 cond (decide (d<m)) (
 cond (inR d (List.length j)) (
 let a:=(List.getD j (Int.toNat d) (0,0))
 cond (a.2==t) (
 let p:=(w64 (d+1))
 some (.inl (t,m,p,b,j))) (
 let c:=(w64 (a.1-t))
 let l:=(w64 (a.2-t))
 cond (cond (decide (l≥86400)) true (decide (l≤(-86400)))) (
 let n:=(Int.ofNat (List.length b))
 let s:=(Int.ofNat (List.length b))
 let f:=(w64 (s-1))
 cond ((inR f (List.length b)) || !((!true)&&(decide (n>0)))) (
 let w:=(List.getD b (Int.toNat f) (0,0)).1
 let x:=(w64 (w+604800))
 some (.inr (.inl 6))) none) (
 (j8w c 0 8589934592).bind fun g=>
 let k:=(Int.ofNat (List.length b))
 let u:=(Int.ofNat (List.length b))
 let e:=(w64 (u-1))
 cond ((inR e (List.length b)) || !((!(!g))&&(decide (k>0)))) (
 let q:=(List.getD b (Int.toNat e) (0,0)).1
 let o:=(w64 (q+604800))
 cond (cond (!g) true (cond (decide (k>0)) (decide (c<o)) false)) (
 some (.inr (.inl 6))) (
 let i:Tn2:=[(c,a.2)]
 cond (decide (List.length b+List.length i≤j0m)) (
 let v:Tn2:=(b++i)
 let r:=(w64 (d+1))
 some (.inl (a.2,m,r,v,j))) none)) none))) none) (
 some (.inr (.inr b)))
def j28 [LP] (d b c:Int) (e a:Tn2):Option (Int ⊕ Tn2):=
 LP.lp (unc5 (j2e)) (d,b,c,e,a)
theorem j7q (d b c e a):j28 d b c e a=lpK (j2e d b c e a) (fun h=>j28 h.1 h.2.1 h.2.2.1 h.2.2.2.1 h.2.2.2.2):=j06 _ _
def j1L [LP] (a:Tn57):Option (Tn2×Int):=
 (j34 (a.1,(a.2.1,a.2.2))).bind fun b=>
 cond (b.2 != 0) (
 some (([]:Tn2),b.2)) (
 let c:=(Int.ofNat (List.length b.1))
 (j28 a.2.1 c 0 ([]:Tn2) b.1).bind fun d=>
 sumC d (fun f=>
 some (([]:Tn2),f)) (fun e=>
 some (e,0)))
def j6J [LP] (a:Tn57):Option (Int):=
 (j1L (a.1,(a.2.1,a.2.2))).bind fun b=>
 some b.2
def j64 (a:Tn43):Option (Bool):=
 let b:=(Int.tmod a.2.2.2.2.2.2 60)
 some (b != 0)
def j0l (e:Tn47) (f b:Int):Option ((Tn47×Int×Int) ⊕ (Int ⊕ Unit)):=
 cond (decide (b<f)) (
 cond (inR b (List.length e)) (
 let a:=(List.getD e (Int.toNat b) (0,(0,(0,(0,(0,(0,0)))))))
 (j64 (a.1,(a.2.1,(a.2.2.1,(a.2.2.2.1,(a.2.2.2.2.1,(a.2.2.2.2.2.1,a.2.2.2.2.2.2))))))).bind fun d=>
 cond d (
 some (.inr (.inl b))) (
 let c:=(w64 (b+1))
 some (.inl (e,f,c)))) none) (
 some (.inr (.inr ())))
def j0h [LP] (a:Tn47) (c b:Int):Option (Int ⊕ Unit):=
 LP.lp (unc3 (j0l)) (a,c,b)
theorem j1X (a c b):j0h a c b=lpK (j0l a c b) (fun h=>j0h h.1 h.2.1 h.2.2):=j06 _ _
def j0r [LP] (a:Tn47):Option (Int):=
 let c:=(Int.ofNat (List.length a))
 (j0h a c 0).bind fun b=>
 sumC b (fun d=>
 some d) (fun e=>
 some (-1))
def j0i [LP] (a:Tn47):Option (Bool):=
 (j0r a).bind fun b=>
 some (decide (b≥0))
def j2f [LP] (a:Tn57):Option (Int):=
 (j6J (a.1,(a.2.1,a.2.2))).bind fun c=>
 let d:=(Int.tmod a.2.1 60)
 cond (cond (c != 0) true (d != 0)) (
 some 8) (
 (j0i a.2.2).bind fun b=>
 cond b (
 some 8) (
 some 0))
def j0A [LP] (e:Tn59) (i d:Int) (j:(List (ByteArray×Bool))):Option ((Tn59×Int×Int×(List (ByteArray×Bool))) ⊕ (Int ⊕ Unit)):=
 cond (decide (d<i)) (
 cond (inR d (List.length e)) (
 let a:=(List.getD e (Int.toNat d) (ByteArray.empty,(0,([]:Tn47))))
 (j8v (a.1,(a.2.1,a.2.2))).bind fun f=>
 (j2T f j).bind fun b=>
 cond (b.1 != 0) (
 some (.inr (.inl b.1))) (
 (j2f (a.1,(a.2.1,a.2.2))).bind fun c=>
 cond (c != 0) (
 some (.inr (.inl c))) (
 let g:=(w64 (d+1))
 some (.inl (e,i,g,b.2))))) none) (
 some (.inr (.inr ())))
def j14 [LP] (c:Tn59) (a b:Int) (d:(List (ByteArray×Bool))):Option (Int ⊕ Unit):=
 LP.lp (unc4 (j0A)) (c,a,b,d)
theorem j55 (c:Tn59) (a b:Int) (d:(List (ByteArray×Bool))):j14 c a b d=lpK (j0A c a b d) (fun h=>j14 h.1 h.2.1 h.2.2.1 h.2.2.2):=j06 _ _
def j1z [LP] (a:Tn59):Option (Int):=
 let b:(List (ByteArray×Bool)):=([]:(List (ByteArray×Bool)))
 let c:=(Int.ofNat (List.length a))
 (j14 a c 0 b).bind fun d=>
 sumC d (fun e=>
 some e) (fun f=>
 some 0)
def j1O (a b:Int):Option (Bool):=
 some (cond (decide (a≥0)) (decide (a<b)) false)
def j3L (e i:Tn2) (k b:Int):Option ((Tn2×Tn2×Int×Int) ⊕ (Int ⊕ Unit)):=
 cond (decide (b<k)) (
 cond (inR b (List.length i)) (
 let a:=(List.getD i (Int.toNat b) (0,0))
 let d:Bool:=(cond (cond (decide (a.1<0)) true (decide (a.1≥a.2))) true (decide (a.2>604800)))
 cond d (
 some (.inr (.inl 1))) (
 cond (decide (b>0)) (
 let c:=(w64 (b-1))
 cond (inR c (List.length e)) (
 let j:=(List.getD e (Int.toNat c) (0,0))
 cond (decide (a.1<j.2)) (
 some (.inr (.inl 6))) (
 let g:=(w64 (b+1))
 some (.inl (e,i,k,g)))) none) (
 let f:=(w64 (b+1))
 some (.inl (e,i,k,f))))) none) (
 some (.inr (.inr ())))
def j5T [LP] (b c:Tn2) (d a:Int):Option (Int ⊕ Unit):=
 LP.lp (unc4 (j3L)) (b,c,d,a)
theorem jbG (b c d a):j5T b c d a=lpK (j3L b c d a) (fun h=>j5T h.1 h.2.1 h.2.2.1 h.2.2.2):=j06 _ _
def j6K [LP] (a:Tn2):Option (Int):=
 let c:=(Int.ofNat (List.length a))
 cond (decide (c>14)) (
 some 5) (
 let d:=(Int.ofNat (List.length a))
 (j5T a a d 0).bind fun b=>
 sumC b (fun e=>
 some e) (fun f=>
 some 0))
def j5U (a c b:Int):Option (Bool):=
 some (cond (decide (a≥c)) (decide (a≤b)) false)
def j4D (a:Int):Option (Bool):=
 (j5U a 0 604800).bind fun b=>
 let c:=(Int.tmod a 3600)
 some (cond b (c==0) false)
def j1q [LP] (b:Tn76) (a:Tn49):Option (Int):=
 let d:=(Int.ofNat (List.length b.1))
 (j1O a.2.1 d).bind fun c=>
 cond (!c) (
 some 3) (
 (j6K a.2.2.1).bind fun g=>
 cond (g != 0) (
 some 8) (
 (j4D a.2.2.2.1).bind fun e=>
 cond (!e) (
 some 1) (
 (j4D a.2.2.2.2.1).bind fun f=>
 cond (!f) (
 some 1) (
 some 0))))
def j8x (a:Tn22):Option (ByteArray):=
 some a.1
def ja3 (e c:Int):Option ((Int×Int) ⊕ (Int)):=
 let b:=(w64 (c+1))
 (j40 b).bind fun d=>
 cond (decide (d≤e)) (
 let a:=(w64 (c+1))
 some (.inl (e,a))) (
 some (.inr c))
def jbf [LP] (a b:Int):Option (Int):=
 LP.lp (unc2 (ja3)) (a,b)
def jaH [LP] (a:Int):Option (Int):=
 (j6x a 366).bind fun c=>
 let d:=(w64 (1970+c))
 (jbf a d).bind fun b=>
 some b
def j8Q (k l d b j a c:Int):Option ((Int×Int×Int×Int×Int×Int×Int) ⊕ ((Int×Int×Int×Int×Int×Int×Int))):=
 (j5S j a).bind fun e=>
 cond (decide (k≥e)) (
 (j5S j a).bind fun i=>
 let f:=(w64 (k-i))
 let g:=(w64 (a+1))
 some (.inl (f,l,d,b,j,g,c))) (
 some (.inr (k,l,d,b,j,a,c)))
def j9b [LP] (g e d b f a c:Int):Option ((Int×Int×Int×Int×Int×Int×Int)):=
 LP.lp (unc7 (j8Q)) (g,e,d,b,f,a,c)
def j5o [LP] (a:Int):Option (Tn4×Int):=
 (j40 1970).bind fun i=>
 cond (decide (a<i)) (
 some ((0,(0,0)),1)) (
 (j40 2241).bind fun d=>
 cond (decide (a≥d)) (
 some ((0,(0,0)),1)) (
 (jaH a).bind fun b=>
 (j40 b).bind fun f=>
 let g:=(w64 (a-f))
 (j9b g 0 0 0 b 1 0).bind fun c=>
 let e:=(w64 (c.1+1))
 some ((c.2.2.2.2.1,(c.2.2.2.2.2.1,e)),0)))
def j1e [LP] (a:Int):Option (Bool):=
 (j5o a).bind fun b=>
 some (b.2==0)
def j1C [LP] (a:Int):Option (Bool):=
 (j1e a).bind fun b=>
 some (!b)
def j0t [LP] (e:(List Int)) (f a:Int):Option (((List Int)×Int×Int) ⊕ (Int ⊕ Unit)):=
 cond (decide (a<f)) (
 cond (inR a (List.length e)) (
 let c:=(List.getD e (Int.toNat a) 0)
 (j1C c).bind fun d=>
 cond d (
 some (.inr (.inl a))) (
 let b:=(w64 (a+1))
 some (.inl (e,f,b)))) none) (
 some (.inr (.inr ())))
def j1f [LP] (a:(List Int)) (c b:Int):Option (Int ⊕ Unit):=
 LP.lp (unc3 (j0t)) (a,c,b)
theorem j4y (a c b):j1f a c b=lpK (j0t a c b) (fun h=>j1f h.1 h.2.1 h.2.2):=j06 _ _
def j1D [LP] (a:(List Int)):Option (Int):=
 let c:=(Int.ofNat (List.length a))
 (j1f a c 0).bind fun b=>
 sumC b (fun d=>
 some d) (fun e=>
 some (-1))
def j1g [LP] (a:(List Int)):Option (Bool):=
 (j1D a).bind fun b=>
 some (decide (b≥0))
def j1u (d b:Int) (k:ByteArray) (e:Int) (a:(List Int)):Option ((Int×Int×ByteArray×Int×(List Int)) ⊕ (Int ⊕ Unit)):=
 cond (decide (b<d)) (
 cond (decide (b>0)) (
 cond (inR b (List.length a)) (
 let f:=(List.getD a (Int.toNat b) 0)
 let c:=(w64 (b-1))
 cond (inR c (List.length a)) (
 let g:=(List.getD a (Int.toNat c) 0)
 cond (decide (f≤g)) (
 some (.inr (.inl 6))) (
 let j:=(w64 (b+1))
 some (.inl (d,j,k,e,a)))) none) none) (
 let i:=(w64 (b+1))
 some (.inl (d,i,k,e,a)))) (
 some (.inr (.inr ())))
def j1E [LP] (c d:Int) (e:ByteArray) (a:Int) (b:(List Int)):Option (Int ⊕ Unit):=
 LP.lp (unc5 (j1u)) (c,d,e,a,b)
theorem j5p (c d e a b):j1E c d e a b=lpK (j1u c d e a b) (fun h=>j1E h.1 h.2.1 h.2.2.1 h.2.2.2.1 h.2.2.2.2):=j06 _ _
def j1j [LP] (b:Tn76) (a:Tn22):Option (Int):=
 let f:=(Int.ofNat (List.length b.1))
 (j1O a.2.1 f).bind fun d=>
 cond (!d) (
 some 3) (
 let e:=(Int.ofNat (List.length a.2.2))
 cond (decide (e>64)) (
 some 5) (
 (j1g a.2.2).bind fun g=>
 cond g (
 some 1) (
 let c:=(Int.ofNat (List.length a.2.2))
 (j1E c 0 a.1 a.2.1 a.2.2).bind fun i=>
 sumC i (fun j=>
 some j) (fun k=>
 some 0))))
def j3G [LP] (a:Tn22) (e:Tn59) (b:Tn53) (d:Tn30) (c:Tn70):Option (Int):=
 (j1j (e,(b,(d,c))) (a.1,(a.2.1,a.2.2))).bind fun f=>
 some f
def j0p [LP] (m:Tn59) (e:Tn53) (f:Tn30) (g:Tn70) (i:Tn30) (l d:Int) (n:(List (ByteArray×Bool))):Option ((Tn59×Tn53×Tn30×Tn70×Tn30×Int×Int×(List (ByteArray×Bool))) ⊕ (Int ⊕ Unit)):=
 cond (decide (d<l)) (
 cond (inR d (List.length i)) (
 let a:=(List.getD i (Int.toNat d) (ByteArray.empty,(0,([]:(List Int)))))
 (j8x (a.1,(a.2.1,a.2.2))).bind fun j=>
 (j2T j n).bind fun b=>
 cond (b.1 != 0) (
 some (.inr (.inl b.1))) (
 (j3G (a.1,(a.2.1,a.2.2)) m e f g).bind fun c=>
 cond (c != 0) (
 some (.inr (.inl c))) (
 let k:=(w64 (d+1))
 some (.inl (m,e,f,g,i,l,k,b.2))))) none) (
 some (.inr (.inr ())))
def j0L [LP] (i:Tn59) (a:Tn53) (b:Tn30) (c:Tn70) (f:Tn30) (d e:Int) (g:(List (ByteArray×Bool))):Option (Int ⊕ Unit):=
 LP.lp (unc8 (j0p)) (i,a,b,c,f,d,e,g)
theorem j49 (i:Tn59) (a:Tn53) (b:Tn30) (c:Tn70) (f:Tn30) (d e:Int) (g:(List (ByteArray×Bool))):j0L i a b c f d e g=lpK (j0p i a b c f d e g) (fun h=>j0L h.1 h.2.1 h.2.2.1 h.2.2.2.1 h.2.2.2.2.1 h.2.2.2.2.2.1 h.2.2.2.2.2.2.1 h.2.2.2.2.2.2.2):=j06 _ _
def j0X [LP] (e:Tn30) (d:Tn59) (c:Tn53) (b:Tn30) (a:Tn70):Option (Int):=
 let f:(List (ByteArray×Bool)):=([]:(List (ByteArray×Bool)))
 let g:=(Int.ofNat (List.length e))
 (j0L d c b a e g 0 f).bind fun i=>
 sumC i (fun j=>
 some j) (fun k=>
 some 0)
def j8y (a:Tn69):Option (ByteArray):=
 some a.1
def j4k (a:Tn64):Option (ByteArray):=
 some a.1
def j5q (b:Int) (g:Tn59) (a:Tn53) (f:Tn30) (e:Tn70):Option (Bool):=
 let c:=(Int.ofNat (List.length a))
 (j1O b c).bind fun d=>
 some (!d)
def j0O (i:(List Int)) (j:Tn59) (b:Tn53) (a:Tn30) (d:Tn70) (k c:Int):Option (((List Int)×Tn59×Tn53×Tn30×Tn70×Int×Int) ⊕ (Int ⊕ Unit)):=
 cond (decide (c<k)) (
 cond (inR c (List.length i)) (
 let f:=(List.getD i (Int.toNat c) 0)
 (j5q f j b a d).bind fun g=>
 cond g (
 some (.inr (.inl c))) (
 let e:=(w64 (c+1))
 some (.inl (i,j,b,a,d,k,e)))) none) (
 some (.inr (.inr ())))
def j0R [LP] (e:(List Int)) (d:Tn59) (b:Tn53) (a:Tn30) (c:Tn70) (f g:Int):Option (Int ⊕ Unit):=
 LP.lp (unc7 (j0O)) (e,d,b,a,c,f,g)
theorem j3M (e d b a c f g):j0R e d b a c f g=lpK (j0O e d b a c f g) (fun h=>j0R h.1 h.2.1 h.2.2.1 h.2.2.2.1 h.2.2.2.2.1 h.2.2.2.2.2.1 h.2.2.2.2.2.2):=j06 _ _
def j1h [LP] (a:(List Int)) (e:Tn59) (d:Tn53) (c:Tn30) (b:Tn70):Option (Int):=
 let g:=(Int.ofNat (List.length a))
 (j0R a e d c b g 0).bind fun f=>
 sumC f (fun i=>
 some i) (fun j=>
 some (-1))
def j0S [LP] (d:(List Int)) (e:Tn59) (c:Tn53) (b:Tn30) (a:Tn70):Option (Bool):=
 (j1h d e c b a).bind fun f=>
 some (decide (f≥0))
def j1Y [LP] (b:Tn76) (a:Tn64):Option (Int):=
 let f:=(Int.ofNat (List.length b.1))
 (j1O a.2.1 f).bind fun d=>
 cond (!d) (
 some 3) (
 cond (decide (a.2.2.1.1<1)) (
 some 1) (
 (j1e a.2.2.1.1).bind fun n=>
 cond (!n) (
 some 1) (
 (j5U a.2.2.1.2 0 86399).bind fun e=>
 cond (!e) (
 some 1) (
 (j5U a.2.2.2.1 0 2).bind fun g=>
 cond (!g) (
 some 1) (
 (j5U a.2.2.2.2.1 1 400).bind fun i=>
 cond (!i) (
 some 1) (
 let l:=(Int.ofNat (List.length a.2.2.2.2.2.1))
 cond (l==0) (
 some 7) (
 let c:=(Int.ofNat (List.length a.2.2.2.2.2.1))
 cond (decide (c>12)) (
 some 5) (
 (j0S a.2.2.2.2.2.1 b.1 b.2.1 b.2.2.1 b.2.2.2).bind fun o=>
 cond o (
 some 3) (
 (j6K a.2.2.2.2.2.2.1).bind fun m=>
 cond (m != 0) (
 some 8) (
 (j5U a.2.2.2.2.2.2.2.2 0 2).bind fun p=>
 cond (!p) (
 some 1) (
 let k:=(Int.ofNat (List.length b.2.2.1))
 cond (a.2.2.2.2.2.2.2.2 != 0) (
 (j1O a.2.2.2.2.2.2.2.1 k).bind fun j=>
 cond (!j) (
 some 3) (
 cond (cond (a.2.2.2.2.2.2.2.2==0) (a.2.2.2.2.2.2.2.1 != 0) false) (
 some 1) (
 some 0))) (
 cond (cond (a.2.2.2.2.2.2.2.2==0) (a.2.2.2.2.2.2.2.1 != 0) false) (
 some 1) (
 some 0)))))))))))))
def j1F [LP] (a:Tn64) (e:Tn59) (b:Tn53) (d:Tn30) (c:Tn70):Option (Int):=
 (j1Y (e,(b,(d,c))) (a.1,(a.2.1,((a.2.2.1.1,a.2.2.1.2),(a.2.2.2.1,(a.2.2.2.2.1,(a.2.2.2.2.2.1,(a.2.2.2.2.2.2.1,(a.2.2.2.2.2.2.2.1,a.2.2.2.2.2.2.2.2))))))))).bind fun f=>
 some f
def j0x [LP] (m:Tn59) (e:Tn53) (f:Tn30) (g:Tn70) (i:Tn65) (l d:Int) (n:(List (ByteArray×Bool))):Option ((Tn59×Tn53×Tn30×Tn70×Tn65×Int×Int×(List (ByteArray×Bool))) ⊕ (Int ⊕ Unit)):=
 cond (decide (d<l)) (
 cond (inR d (List.length i)) (
 let a:=(List.getD i (Int.toNat d) (ByteArray.empty,(0,((0,0),(0,(0,(([]:(List Int)),(([]:Tn2),(0,0)))))))))
 (j4k (a.1,(a.2.1,((a.2.2.1.1,a.2.2.1.2),(a.2.2.2.1,(a.2.2.2.2.1,(a.2.2.2.2.2.1,(a.2.2.2.2.2.2.1,(a.2.2.2.2.2.2.2.1,a.2.2.2.2.2.2.2.2))))))))).bind fun j=>
 (j2T j n).bind fun b=>
 cond (b.1 != 0) (
 some (.inr (.inl b.1))) (
 (j1F (a.1,(a.2.1,((a.2.2.1.1,a.2.2.1.2),(a.2.2.2.1,(a.2.2.2.2.1,(a.2.2.2.2.2.1,(a.2.2.2.2.2.2.1,(a.2.2.2.2.2.2.2.1,a.2.2.2.2.2.2.2.2)))))))) m e f g).bind fun c=>
 cond (c != 0) (
 some (.inr (.inl c))) (
 let k:=(w64 (d+1))
 some (.inl (m,e,f,g,i,l,k,b.2))))) none) (
 some (.inr (.inr ())))
def j0Y [LP] (i:Tn59) (a:Tn53) (b:Tn30) (c:Tn70) (f:Tn65) (d e:Int) (g:(List (ByteArray×Bool))):Option (Int ⊕ Unit):=
 LP.lp (unc8 (j0x)) (i,a,b,c,f,d,e,g)
theorem j4M (i:Tn59) (a:Tn53) (b:Tn30) (c:Tn70) (f:Tn65) (d e:Int) (g:(List (ByteArray×Bool))):j0Y i a b c f d e g=lpK (j0x i a b c f d e g) (fun h=>j0Y h.1 h.2.1 h.2.2.1 h.2.2.2.1 h.2.2.2.2.1 h.2.2.2.2.2.1 h.2.2.2.2.2.2.1 h.2.2.2.2.2.2.2):=j06 _ _
def j1r [LP] (e:Tn65) (d:Tn59) (c:Tn53) (b:Tn30) (a:Tn70):Option (Int):=
 let f:(List (ByteArray×Bool)):=([]:(List (ByteArray×Bool)))
 let g:=(Int.ofNat (List.length e))
 (j0Y d c b a e g 0 f).bind fun i=>
 sumC i (fun j=>
 some j) (fun k=>
 some 0)
def j2g [LP] (g:Tn76) (a:Tn28):Option (Int):=
 let j:=(Int.ofNat (List.length g.2.1))
 (j5U a.1 0 2).bind fun i=>
 cond (!i) (
 some 1) (
 (j1O a.2.1 j).bind fun f=>
 cond (cond (!f) (!(cond (a.1==1) (a.2.1==(-1)) false)) false) (
 cond (cond (!f) (!(cond (a.1==1) (a.2.1==(-1)) false)) false) (
 some 3) (
 cond (cond (a.1 != 2) (a.2.2.1 != 0) false) (
 some 1) (
 cond (cond (a.1==2) (a.2.1==a.2.2.1) false) (
 some 4) (
 let m:=(w64 (Int.tdiv a.2.2.2.2 86400))
 cond (cond (decide (a.2.2.2.1<0)) true (decide (a.2.2.2.2<0))) (
 some 1) (
 (j1e m).bind fun k=>
 cond (!k) (
 some 1) (
 cond (decide (a.2.2.2.1≥a.2.2.2.2)) (
 some 6) (
 some 0))))))) (
 cond (a.1==2) (
 (j1O a.2.2.1 j).bind fun l=>
 cond (!l) (
 some 3) (
 cond (cond (a.1 != 2) (a.2.2.1 != 0) false) (
 some 1) (
 cond (cond (a.1==2) (a.2.1==a.2.2.1) false) (
 some 4) (
 let c:=(w64 (Int.tdiv a.2.2.2.2 86400))
 cond (cond (decide (a.2.2.2.1<0)) true (decide (a.2.2.2.2<0))) (
 some 1) (
 (j1e c).bind fun d=>
 cond (!d) (
 some 1) (
 cond (decide (a.2.2.2.1≥a.2.2.2.2)) (
 some 6) (
 some 0))))))) (
 cond (cond (a.1 != 2) (a.2.2.1 != 0) false) (
 some 1) (
 cond (cond (a.1==2) (a.2.1==a.2.2.1) false) (
 some 4) (
 let e:=(w64 (Int.tdiv a.2.2.2.2 86400))
 cond (cond (decide (a.2.2.2.1<0)) true (decide (a.2.2.2.2<0))) (
 some 1) (
 (j1e e).bind fun b=>
 cond (!b) (
 some 1) (
 cond (decide (a.2.2.2.1≥a.2.2.2.2)) (
 some 6) (
 some 0))))))))
def j0F [LP] (f:Tn34) (j c:Int) (k:Tn59) (g:Tn53) (d:Tn30) (e:Tn70):Option ((Tn34×Int×Int×Tn59×Tn53×Tn30×Tn70) ⊕ (Int ⊕ Unit)):=
 cond (decide (c<j)) (
 cond (inR c (List.length f)) (
 let a:=(List.getD f (Int.toNat c) (0,(0,(0,(0,0)))))
 (j2g (k,(g,(d,e))) (a.1,(a.2.1,(a.2.2.1,(a.2.2.2.1,a.2.2.2.2))))).bind fun b=>
 cond (b != 0) (
 some (.inr (.inl b))) (
 let i:=(w64 (c+1))
 some (.inl (f,j,i,k,g,d,e)))) none) (
 some (.inr (.inr ())))
def j1G [LP] (d:Tn34) (f e:Int) (g:Tn59) (c:Tn53) (a:Tn30) (b:Tn70):Option (Int ⊕ Unit):=
 LP.lp (unc7 (j0F)) (d,f,e,g,c,a,b)
theorem j5r (d f e g c a b):j1G d f e g c a b=lpK (j0F d f e g c a b) (fun h=>j1G h.1 h.2.1 h.2.2.1 h.2.2.2.1 h.2.2.2.2.1 h.2.2.2.2.2.1 h.2.2.2.2.2.2):=j06 _ _
def j1k [LP] (a:Tn76) (b:Tn69):Option (Int):=
 let f:=(Int.ofNat (List.length b.2.1))
 let e:=(Int.ofNat (List.length b.2.2))
 cond (cond (decide (f>6)) true (decide (e>48))) (
 some 5) (
 (j1r b.2.1 a.1 a.2.1 a.2.2.1 a.2.2.2).bind fun c=>
 cond (c != 0) (
 some c) (
 let d:=(Int.ofNat (List.length b.2.2))
 (j1G b.2.2 d 0 a.1 a.2.1 a.2.2.1 a.2.2.2).bind fun g=>
 sumC g (fun i=>
 some i) (fun j=>
 some 0)))
def j3H [LP] (a:Tn69) (e:Tn59) (b:Tn53) (d:Tn30) (c:Tn70):Option (Int):=
 (j1k (e,(b,(d,c))) (a.1,(a.2.1,a.2.2))).bind fun f=>
 some f
def j0q [LP] (m:Tn59) (e:Tn53) (f:Tn30) (g i:Tn70) (l d:Int) (n:(List (ByteArray×Bool))):Option ((Tn59×Tn53×Tn30×Tn70×Tn70×Int×Int×(List (ByteArray×Bool))) ⊕ (Int ⊕ Unit)):=
 cond (decide (d<l)) (
 cond (inR d (List.length i)) (
 let a:=(List.getD i (Int.toNat d) (ByteArray.empty,(([]:Tn65),([]:Tn34))))
 (j8y (a.1,(a.2.1,a.2.2))).bind fun j=>
 (j2T j n).bind fun b=>
 cond (b.1 != 0) (
 some (.inr (.inl b.1))) (
 (j3H (a.1,(a.2.1,a.2.2)) m e f g).bind fun c=>
 cond (c != 0) (
 some (.inr (.inl c))) (
 let k:=(w64 (d+1))
 some (.inl (m,e,f,g,i,l,k,b.2))))) none) (
 some (.inr (.inr ())))
def j0M [LP] (i:Tn59) (a:Tn53) (b:Tn30) (c f:Tn70) (d e:Int) (g:(List (ByteArray×Bool))):Option (Int ⊕ Unit):=
 LP.lp (unc8 (j0q)) (i,a,b,c,f,d,e,g)
theorem j4a (i:Tn59) (a:Tn53) (b:Tn30) (c f:Tn70) (d e:Int) (g:(List (ByteArray×Bool))):j0M i a b c f d e g=lpK (j0q i a b c f d e g) (fun h=>j0M h.1 h.2.1 h.2.2.1 h.2.2.2.1 h.2.2.2.2.1 h.2.2.2.2.2.1 h.2.2.2.2.2.2.1 h.2.2.2.2.2.2.2):=j06 _ _
def j1p [LP] (e:Tn70) (d:Tn59) (c:Tn53) (b:Tn30) (a:Tn70):Option (Int):=
 let f:(List (ByteArray×Bool)):=([]:(List (ByteArray×Bool)))
 let g:=(Int.ofNat (List.length e))
 (j0M d c b a e g 0 f).bind fun i=>
 sumC i (fun j=>
 some j) (fun k=>
 some 0)
def j1l [LP] (g:Tn53) (i f:Int) (j:Tn59) (d:Tn53) (e:Tn30) (c:Tn70) (r:(List (ByteArray×Bool))):Option ((Tn53×Int×Int×Tn59×Tn53×Tn30×Tn70×(List (ByteArray×Bool))) ⊕ (Int ⊕ (Tn59×Tn53×Tn30×Tn70))):=
 cond (decide (f<i)) (
 cond (inR f (List.length g)) (
 let a:=(List.getD g (Int.toNat f) (ByteArray.empty,(0,(([]:Tn2),(0,(0,false))))))
 (j2T a.1 r).bind fun b=>
 let q:Bool:=(ByteArray.toList a.1==ByteArray.toList (ByteArray.mk #[110,111,98,111,100,121]))
 cond q (
 cond (2==0) (
 (j1q (j,(d,(e,c))) (a.1,(a.2.1,(a.2.2.1,(a.2.2.2.1,(a.2.2.2.2.1,a.2.2.2.2.2)))))).bind fun k=>
 cond (k != 0) (
 some (.inr (.inl k))) (
 let o:=(w64 (f+1))
 some (.inl (g,i,o,j,d,e,c,b.2)))) (
 cond (2 != 0) (
 some (.inr (.inl 2))) (
 let p:=(w64 (f+1))
 some (.inl (g,i,p,j,d,e,c,b.2))))) (
 cond (b.1==0) (
 (j1q (j,(d,(e,c))) (a.1,(a.2.1,(a.2.2.1,(a.2.2.2.1,(a.2.2.2.2.1,a.2.2.2.2.2)))))).bind fun l=>
 cond (l != 0) (
 some (.inr (.inl l))) (
 let n:=(w64 (f+1))
 some (.inl (g,i,n,j,d,e,c,b.2)))) (
 cond (b.1 != 0) (
 some (.inr (.inl b.1))) (
 let m:=(w64 (f+1))
 some (.inl (g,i,m,j,d,e,c,b.2)))))) none) (
 some (.inr (.inr (j,d,e,c))))
def j35 [LP] (e:Tn53) (d f:Int) (g:Tn59) (b:Tn53) (c:Tn30) (a:Tn70) (i:(List (ByteArray×Bool))):Option (Int ⊕ (Tn59×Tn53×Tn30×Tn70)):=
 LP.lp (unc8 (j1l)) (e,d,f,g,b,c,a,i)
theorem j9c (e:Tn53) (d f:Int) (g:Tn59) (b:Tn53) (c:Tn30) (a:Tn70) (i:(List (ByteArray×Bool))):j35 e d f g b c a i=lpK (j1l e d f g b c a i) (fun h=>j35 h.1 h.2.1 h.2.2.1 h.2.2.2.1 h.2.2.2.2.1 h.2.2.2.2.2.1 h.2.2.2.2.2.2.1 h.2.2.2.2.2.2.2):=j06 _ _
def j23 [LP] (a:Tn76):Option (Int):=
 let i:=(Int.ofNat (List.length a.1))
 let g:=(Int.ofNat (List.length a.2.1))
 let l:=(Int.ofNat (List.length a.2.2.1))
 let m:Bool:=(cond (cond (decide (i>16)) true (decide (g>32))) true (decide (l>8)))
 let f:=(Int.ofNat (List.length a.2.2.2))
 cond (cond m true (decide (f>12))) (
 some 5) (
 (j1z a.1).bind fun c=>
 cond (c != 0) (
 some c) (
 let k:(List (ByteArray×Bool)):=([]:(List (ByteArray×Bool)))
 let e:=(Int.ofNat (List.length a.2.1))
 (j35 a.2.1 e 0 a.1 a.2.1 a.2.2.1 a.2.2.2 k).bind fun n=>
 sumC n (fun o=>
 some o) (fun b=>
 (j0X b.2.2.1 b.1 b.2.1 b.2.2.1 b.2.2.2).bind fun d=>
 cond (d != 0) (
 some d) (
 (j1p b.2.2.2 b.1 b.2.1 b.2.2.1 b.2.2.2).bind fun j=>
 some j))))
def j7F (b:Tn76) (a:Int):Option (Bool):=
 let c:=(Int.ofNat (List.length b.2.2.2))
 some (cond (decide (a≥0)) (decide (a<c)) false)
def j1Z (a:Tn59):Option (Tn59):=
 cond (decide (List.length ([]:List (Tn57))+List.length a≤j0m)) (
 some (([]:List (Tn57))++a)) none
def j1x (a:Tn53):Option (Tn53):=
 cond (decide (List.length ([]:List (Tn49))+List.length a≤j0m)) (
 some (([]:List (Tn49))++a)) none
def j17 (a:Tn30):Option (Tn30):=
 cond (decide (List.length ([]:List (Tn22))+List.length a≤j0m)) (
 some (([]:List (Tn22))++a)) none
def j18 (a:Tn70):Option (Tn70):=
 cond (decide (List.length ([]:List (Tn69))+List.length a≤j0m)) (
 some (([]:List (Tn69))++a)) none
def j19 (a:Tn47):Option (Tn47):=
 cond (decide (List.length ([]:List (Tn43))+List.length a≤j0m)) (
 some (([]:List (Tn43))++a)) none
def j0V (a:Tn2):Option (Tn2):=
 cond (decide (List.length ([]:List ((Int×Int)))+List.length a≤j0m)) (
 some (([]:List ((Int×Int)))++a)) none
def j3a (a:(List Int)):Option ((List Int)):=
 cond (decide (List.length ([]:List (Int))+List.length a≤j0m)) (
 some (([]:List (Int))++a)) none
def j1a (a:Tn65):Option (Tn65):=
 cond (decide (List.length ([]:List (Tn64))+List.length a≤j0m)) (
 some (([]:List (Tn64))++a)) none
def j1m (a:Tn34):Option (Tn34):=
 cond (decide (List.length ([]:List (Tn28))+List.length a≤j0m)) (
 some (([]:List (Tn28))++a)) none
def j4l (m d:Int) (e:ByteArray) (c:Tn65) (b:Tn34) (a:Tn59) (g:Tn53) (f:Tn30):Option ((Int×Int×ByteArray×Tn65×Tn34×Tn59×Tn53×Tn30) ⊕ ((ByteArray×Tn65×Tn34×Tn59×Tn53×Tn30))):=
 cond (decide (d<m)) (
 cond (inR d (List.length a)) (
 let j:=(List.getD a (Int.toNat d) (ByteArray.empty,(0,([]:Tn47)))).2.2
 (j19 j).bind fun k=>
 cond (inR d (List.length a)) (
 let l:Tn59:=(List.set a (Int.toNat d) ((List.getD a (Int.toNat d) (ByteArray.empty,(0,([]:Tn47)))).1,((List.getD a (Int.toNat d) (ByteArray.empty,(0,([]:Tn47)))).2.1,k)))
 let i:=(w64 (d+1))
 some (.inl (m,i,e,c,b,l,g,f))) none) none) (
 some (.inr (e,c,b,a,g,f)))
def j5s [LP] (g i:Int) (c:ByteArray) (b:Tn65) (a:Tn34) (e:Tn59) (f:Tn53) (d:Tn30):Option ((ByteArray×Tn65×Tn34×Tn59×Tn53×Tn30)):=
 LP.lp (unc8 (j4l)) (g,i,c,b,a,e,f,d)
theorem jci (g i c b a e f d):j5s g i c b a e f d=lpK (j4l g i c b a e f d) (fun h=>j5s h.1 h.2.1 h.2.2.1 h.2.2.2.1 h.2.2.2.2.1 h.2.2.2.2.2.1 h.2.2.2.2.2.2.1 h.2.2.2.2.2.2.2):=j06 _ _
def j4m (m b:Int) (e:ByteArray) (d:Tn65) (c:Tn34) (g:Tn59) (a:Tn53) (f:Tn30):Option ((Int×Int×ByteArray×Tn65×Tn34×Tn59×Tn53×Tn30) ⊕ ((ByteArray×Tn65×Tn34×Tn59×Tn53×Tn30))):=
 cond (decide (b<m)) (
 cond (inR b (List.length a)) (
 let k:=(List.getD a (Int.toNat b) (ByteArray.empty,(0,(([]:Tn2),(0,(0,false)))))).2.2.1
 (j0V k).bind fun j=>
 cond (inR b (List.length a)) (
 let l:Tn53:=(List.set a (Int.toNat b) ((List.getD a (Int.toNat b) (ByteArray.empty,(0,(([]:Tn2),(0,(0,false)))))).1,((List.getD a (Int.toNat b) (ByteArray.empty,(0,(([]:Tn2),(0,(0,false)))))).2.1,(j,((List.getD a (Int.toNat b) (ByteArray.empty,(0,(([]:Tn2),(0,(0,false)))))).2.2.2.1,((List.getD a (Int.toNat b) (ByteArray.empty,(0,(([]:Tn2),(0,(0,false)))))).2.2.2.2.1,(List.getD a (Int.toNat b) (ByteArray.empty,(0,(([]:Tn2),(0,(0,false)))))).2.2.2.2.2))))))
 let i:=(w64 (b+1))
 some (.inl (m,i,e,d,c,g,l,f))) none) none) (
 some (.inr (e,d,c,g,a,f)))
def j5t [LP] (i g:Int) (c:ByteArray) (b:Tn65) (a:Tn34) (e:Tn59) (f:Tn53) (d:Tn30):Option ((ByteArray×Tn65×Tn34×Tn59×Tn53×Tn30)):=
 LP.lp (unc8 (j4m)) (i,g,c,b,a,e,f,d)
theorem jcj (i g c b a e f d):j5t i g c b a e f d=lpK (j4m i g c b a e f d) (fun h=>j5t h.1 h.2.1 h.2.2.1 h.2.2.2.1 h.2.2.2.2.1 h.2.2.2.2.2.1 h.2.2.2.2.2.2.1 h.2.2.2.2.2.2.2):=j06 _ _
def j4n (m d:Int) (e:ByteArray) (c:Tn65) (b:Tn34) (f:Tn59) (g:Tn53) (a:Tn30):Option ((Int×Int×ByteArray×Tn65×Tn34×Tn59×Tn53×Tn30) ⊕ ((ByteArray×Tn65×Tn34×Tn59×Tn53×Tn30))):=
 cond (decide (d<m)) (
 cond (inR d (List.length a)) (
 let i:=(List.getD a (Int.toNat d) (ByteArray.empty,(0,([]:(List Int))))).2.2
 (j3a i).bind fun l=>
 cond (inR d (List.length a)) (
 let k:Tn30:=(List.set a (Int.toNat d) ((List.getD a (Int.toNat d) (ByteArray.empty,(0,([]:(List Int))))).1,((List.getD a (Int.toNat d) (ByteArray.empty,(0,([]:(List Int))))).2.1,l)))
 let j:=(w64 (d+1))
 some (.inl (m,j,e,c,b,f,g,k))) none) none) (
 some (.inr (e,c,b,f,g,a)))
def j5u [LP] (i g:Int) (c:ByteArray) (b:Tn65) (a:Tn34) (e:Tn59) (f:Tn53) (d:Tn30):Option ((ByteArray×Tn65×Tn34×Tn59×Tn53×Tn30)):=
 LP.lp (unc8 (j4n)) (i,g,c,b,a,e,f,d)
theorem jck (i g c b a e f d):j5u i g c b a e f d=lpK (j4n i g c b a e f d) (fun h=>j5u h.1 h.2.1 h.2.2.1 h.2.2.2.1 h.2.2.2.2.1 h.2.2.2.2.2.1 h.2.2.2.2.2.2.1 h.2.2.2.2.2.2.2):=j06 _ _
def j4o (q r l b:Int) (e:ByteArray) (j:Tn59) (n:Tn53) (f:Tn30) (a:Tn65) (d:Tn34):Option ((Int×Int×Int×Int×ByteArray×Tn59×Tn53×Tn30×Tn65×Tn34) ⊕ ((Int×Int×ByteArray×Tn59×Tn53×Tn30×Tn65×Tn34))):=
 cond (decide (b<l)) (
 cond (inR b (List.length a)) (
 let m:=(List.getD a (Int.toNat b) (ByteArray.empty,(0,((0,0),(0,(0,(([]:(List Int)),(([]:Tn2),(0,0))))))))).2.2.2.2.2.1
 (j3a m).bind fun g=>
 cond (inR b (List.length a)) (
 let k:=(List.getD a (Int.toNat b) (ByteArray.empty,(0,((0,0),(0,(0,(([]:(List Int)),(([]:Tn2),(0,0))))))))).2.2.2.2.2.2.1
 (j0V k).bind fun i=>
 cond (inR b (List.length a)) (
 let c:Tn65:=(List.set a (Int.toNat b) ((List.getD a (Int.toNat b) (ByteArray.empty,(0,((0,0),(0,(0,(([]:(List Int)),(([]:Tn2),(0,0))))))))).1,((List.getD a (Int.toNat b) (ByteArray.empty,(0,((0,0),(0,(0,(([]:(List Int)),(([]:Tn2),(0,0))))))))).2.1,(((List.getD a (Int.toNat b) (ByteArray.empty,(0,((0,0),(0,(0,(([]:(List Int)),(([]:Tn2),(0,0))))))))).2.2.1.1,(List.getD a (Int.toNat b) (ByteArray.empty,(0,((0,0),(0,(0,(([]:(List Int)),(([]:Tn2),(0,0))))))))).2.2.1.2),((List.getD a (Int.toNat b) (ByteArray.empty,(0,((0,0),(0,(0,(([]:(List Int)),(([]:Tn2),(0,0))))))))).2.2.2.1,((List.getD a (Int.toNat b) (ByteArray.empty,(0,((0,0),(0,(0,(([]:(List Int)),(([]:Tn2),(0,0))))))))).2.2.2.2.1,(g,((List.getD a (Int.toNat b) (ByteArray.empty,(0,((0,0),(0,(0,(([]:(List Int)),(([]:Tn2),(0,0))))))))).2.2.2.2.2.2.1,((List.getD a (Int.toNat b) (ByteArray.empty,(0,((0,0),(0,(0,(([]:(List Int)),(([]:Tn2),(0,0))))))))).2.2.2.2.2.2.2.1,(List.getD a (Int.toNat b) (ByteArray.empty,(0,((0,0),(0,(0,(([]:(List Int)),(([]:Tn2),(0,0))))))))).2.2.2.2.2.2.2.2)))))))))
 cond (inR b (List.length c)) (
 let p:Tn65:=(List.set c (Int.toNat b) ((List.getD c (Int.toNat b) (ByteArray.empty,(0,((0,0),(0,(0,(([]:(List Int)),(([]:Tn2),(0,0))))))))).1,((List.getD c (Int.toNat b) (ByteArray.empty,(0,((0,0),(0,(0,(([]:(List Int)),(([]:Tn2),(0,0))))))))).2.1,(((List.getD c (Int.toNat b) (ByteArray.empty,(0,((0,0),(0,(0,(([]:(List Int)),(([]:Tn2),(0,0))))))))).2.2.1.1,(List.getD c (Int.toNat b) (ByteArray.empty,(0,((0,0),(0,(0,(([]:(List Int)),(([]:Tn2),(0,0))))))))).2.2.1.2),((List.getD c (Int.toNat b) (ByteArray.empty,(0,((0,0),(0,(0,(([]:(List Int)),(([]:Tn2),(0,0))))))))).2.2.2.1,((List.getD c (Int.toNat b) (ByteArray.empty,(0,((0,0),(0,(0,(([]:(List Int)),(([]:Tn2),(0,0))))))))).2.2.2.2.1,((List.getD c (Int.toNat b) (ByteArray.empty,(0,((0,0),(0,(0,(([]:(List Int)),(([]:Tn2),(0,0))))))))).2.2.2.2.2.1,(i,((List.getD c (Int.toNat b) (ByteArray.empty,(0,((0,0),(0,(0,(([]:(List Int)),(([]:Tn2),(0,0))))))))).2.2.2.2.2.2.2.1,(List.getD c (Int.toNat b) (ByteArray.empty,(0,((0,0),(0,(0,(([]:(List Int)),(([]:Tn2),(0,0))))))))).2.2.2.2.2.2.2.2)))))))))
 let o:=(w64 (b+1))
 some (.inl (q,r,l,o,e,j,n,f,p,d))) none) none) none) none) (
 some (.inr (q,r,e,j,n,f,a,d)))
def j4z [LP] (j k f g:Int) (c:ByteArray) (e:Tn59) (i:Tn53) (d:Tn30) (a:Tn65) (b:Tn34):Option ((Int×Int×ByteArray×Tn59×Tn53×Tn30×Tn65×Tn34)):=
 LP.lp (jqK (j4o)) (j,k,f,g,c,e,i,d,a,b)
theorem jcl (j k f g c e i d a b):j4z j k f g c e i d a b=lpK (j4o j k f g c e i d a b) (fun h=>j4z h.1 h.2.1 h.2.2.1 h.2.2.2.1 h.2.2.2.2.1 h.2.2.2.2.2.1 h.2.2.2.2.2.2.1 h.2.2.2.2.2.2.2.1 h.2.2.2.2.2.2.2.2.1 h.2.2.2.2.2.2.2.2.2):=j06 _ _
def j9d [LP] (b:Tn76):Option (Tn59×Tn53×Tn30×ByteArray×Tn65×Tn34):=
 (j1Z b.1).bind fun m=>
 (j1x b.2.1).bind fun s=>
 (j17 b.2.2.1).bind fun t=>
 (j18 b.2.2.2).bind fun l=>
 cond (Nat.beq (List.length l) 1) (
 let o:=(List.getD l 0 (ByteArray.empty,(([]:Tn65),([]:Tn34))))
 let r:=(Int.ofNat (List.length m))
 (j5s r 0 o.1 o.2.1 o.2.2 m s t).bind fun e=>
 let u:=(Int.ofNat (List.length e.2.2.2.2.1))
 (j5t u 0 e.1 e.2.1 e.2.2.1 e.2.2.2.1 e.2.2.2.2.1 e.2.2.2.2.2).bind fun c=>
 let v:=(Int.ofNat (List.length c.2.2.2.2.2))
 (j5u v 0 c.1 c.2.1 c.2.2.1 c.2.2.2.1 c.2.2.2.2.1 c.2.2.2.2.2).bind fun g=>
 (j1a g.2.1).bind fun k=>
 (j1m g.2.2.1).bind fun p=>
 let n:=(Int.ofNat (List.length k))
 (j4z 1 0 n 0 g.1 g.2.2.2.1 g.2.2.2.2.1 g.2.2.2.2.2 k p).bind fun a=>
 let d:=(w64 (a.2.1+1))
 cond (decide (d<a.1)) (
 cond (inR d 1) (
 (j1a a.2.2.2.2.2.2.1).bind fun f=>
 (j1m a.2.2.2.2.2.2.2).bind fun i=>
 let j:=(Int.ofNat (List.length f))
 (j4z a.1 d j 0 a.2.2.1 a.2.2.2.1 a.2.2.2.2.1 a.2.2.2.2.2.1 f i).bind fun q=>
 let w:=(w64 (q.2.1+1))
 none) none) (
 some (a.2.2.2.1,a.2.2.2.2.1,a.2.2.2.2.2.1,a.2.2.1,a.2.2.2.2.2.2.1,a.2.2.2.2.2.2.2))) none
def j84 [LP] (a:Tn76) (b:Int):Option (Int×Tn59×Tn53×Tn30×ByteArray×Tn65×Tn34):=
 (j23 (a.1,(a.2.1,(a.2.2.1,a.2.2.2)))).bind fun e=>
 cond (e != 0) (
 none) (
 (j7F (a.1,(a.2.1,(a.2.2.1,a.2.2.2))) b).bind fun d=>
 cond (!d) (
 none) (
 (j9d (a.1,(a.2.1,(a.2.2.1,a.2.2.2)))).bind fun c=>
 some (0,c.1,c.2.1,c.2.2.1,c.2.2.2.1,c.2.2.2.2.1,c.2.2.2.2.2)))
def j4X [LP] (d:Tn76) (b:Int) (c:Tn28):Option (Tn76×Int):=
 (j84 (d.1,(d.2.1,(d.2.2.1,d.2.2.2))) b).bind fun a=>
 cond (a.1 != 0) (
 some ((([]:Tn59),(([]:Tn53),(([]:Tn30),([]:Tn70)))),a.1)) (
 cond (inR b 1) (
 let g:Tn34:=[(c.1,(c.2.1,(c.2.2.1,(c.2.2.2.1,c.2.2.2.2))))]
 cond (decide (List.length a.2.2.2.2.2.2+List.length g≤j0m)) (
 let e:Tn34:=(a.2.2.2.2.2.2++g)
 (j23 (a.2.1,(a.2.2.1,(a.2.2.2.1,[(a.2.2.2.2.1,(a.2.2.2.2.2.1,e))])))).bind fun f=>
 cond (f != 0) (
 some ((([]:Tn59),(([]:Tn53),(([]:Tn30),([]:Tn70)))),f)) (
 some ((a.2.1,(a.2.2.1,(a.2.2.2.1,[(a.2.2.2.2.1,(a.2.2.2.2.2.1,e))]))),0))) none) none)
def j1P (a:Tn34) (c b:Int):Option (Int×Tn34):=
 let g:=(Int.ofNat (List.length a))
 cond (decide (0≤c)&&(decide (c≤b)&&(decide (b≤g)&&decide (g≤(Int.ofNat (List.length a)))))) (
 cond (c==b) (
 some ((Int.ofNat (List.length a)),a)) (
 let f:=(Int.ofNat (List.length a))
 cond (decide (0≤c)&&decide (c≤(Int.ofNat (List.length a)))) (
 cond (decide (0≤b)&&decide (b≤(Int.ofNat (List.length a)))) (
 cond (decide ((Int.toNat c)≤(Int.toNat b))) (
 let e:Tn34:=(List.take (Int.toNat c) a++(List.drop (Int.toNat b) a++List.drop ((Int.toNat c)+(List.length a-(Int.toNat b))) a))
 let d:=(Int.ofNat ((Int.toNat c)+(List.length a-(Int.toNat b))))
 cond (decide (0≤d)&&(decide (d≤f)&&decide (f=(Int.ofNat (List.length e))))) (
 let i:Tn34:=(List.take (Int.toNat d) e++List.replicate (List.length e-(Int.toNat d)) (0,(0,(0,(0,0)))))
 some ((Int.ofNat ((Int.toNat c)+(List.length a-(Int.toNat b)))),i)) none) none) none) none)) none
def j41 [LP] (d:Tn76) (b a:Int):Option (Tn76×Int):=
 (j84 (d.1,(d.2.1,(d.2.2.1,d.2.2.2))) b).bind fun c=>
 cond (c.1 != 0) (
 some ((([]:Tn59),(([]:Tn53),(([]:Tn30),([]:Tn70)))),c.1)) (
 cond (inR b 1) (
 let g:=(Int.ofNat (List.length c.2.2.2.2.2.2))
 cond (cond (decide (a<0)) true (decide (a≥g))) (
 some ((([]:Tn59),(([]:Tn53),(([]:Tn30),([]:Tn70)))),10)) (
 let i:=(w64 (a+1))
 (j1P c.2.2.2.2.2.2 a i).bind fun e=>
 let f:Tn34:=(List.take (Int.toNat e.1) e.2)
 some ((c.2.1,(c.2.2.1,(c.2.2.2.1,[(c.2.2.2.2.1,(c.2.2.2.2.2.1,f))]))),0))) none)
def jcm [LP] (a:Tn57):Option (Tn15×Int):=
 (j1L (a.1,(a.2.1,a.2.2))).bind fun b=>
 some ((a.2.1,b.1),b.2)
def j1I [LP] (g:Tn59) (j b:Int) (i:Tn23):Option ((Tn59×Int×Int×Tn23) ⊕ (Tn23)):=
 cond (decide (b<j)) (
 cond (inR b (List.length g)) (
 let a:=(List.getD g (Int.toNat b) (ByteArray.empty,(0,([]:Tn47))))
 (jcm (a.1,(a.2.1,a.2.2))).bind fun d=>
 let c:Tn23:=[(d.1.1,d.1.2)]
 cond (decide (List.length i+List.length c≤j0m)) (
 let f:Tn23:=(i++c)
 let e:=(w64 (b+1))
 some (.inl (g,j,e,f))) none) none) (
 some (.inr i))
def j42 [LP] (c:Tn59) (d a:Int) (b:Tn23):Option (Tn23):=
 LP.lp (unc4 (j1I)) (c,d,a,b)
theorem jaI (b c a d):j42 b c a d=lpK (j1I b c a d) (fun h=>j42 h.1 h.2.1 h.2.2.1 h.2.2.2):=j06 _ _
def j7G [LP] (a:Tn59):Option (Tn23):=
 let c:=(Int.ofNat (List.length a))
 (j42 a c 0 ([]:Tn23)).bind fun b=>
 some b
def j9e [LP] (a:Tn76):Option (Tn78):=
 (j7G a.1).bind fun b=>
 some ((a.1,(a.2.1,(a.2.2.1,a.2.2.2))),b)
def jdw [LP] (a:Tn76):Option (Tn78×Bool):=
 (j23 (a.1,(a.2.1,(a.2.2.1,a.2.2.2)))).bind fun c=>
 cond (c != 0) (
 some (((([]:Tn59),(([]:Tn53),(([]:Tn30),([]:Tn70)))),([]:Tn23)),false)) (
 (j9e (a.1,(a.2.1,(a.2.2.1,a.2.2.2)))).bind fun b=>
 some (((b.1.1,(b.1.2.1,(b.1.2.2.1,b.1.2.2.2))),b.2),true))
def j29 (a:Tn65):Option (Tn65):=
 some a
def j7H (a:Tn64):Option (Int):=
 cond (a.2.2.2.1==2) (
 let b:=(w64 (7*a.2.2.2.2.1))
 some b) (
 some a.2.2.2.2.1)
def j6z (b e:Int) (a:Tn2) (c:Int):Option (Bool):=
 cond (inR b (List.length a)) (
 let d:=(List.getD a (Int.toNat b) (0,0))
 some (decide (d.1>c))) none
def j2L (k:Int) (b:Tn2) (a j l:Int):Option ((Int×Tn2×Int×Int×Int) ⊕ (Int)):=
 cond (decide (j<l)) (
 let i:=(w64 (j+l))
 let e:Int:=(IntKind.wrap .u64 i)
 let d:Int:=(Int.fdiv e 2)
 let c:=(w64 d)
 (j6z c k b a).bind fun g=>
 cond (!g) (
 let f:=(w64 (c+1))
 some (.inl (k,b,a,f,l))) (
 some (.inl (k,b,a,j,c)))) (
 some (.inr j))
def j4Y [LP] (c:Int) (b:Tn2) (a d e:Int):Option (Int):=
 LP.lp (unc5 (j2L)) (c,b,a,d,e)
theorem jaJ (c b a d e):j4Y c b a d e=lpK (j2L c b a d e) (fun h=>j4Y h.1 h.2.1 h.2.2.1 h.2.2.2.1 h.2.2.2.2):=j06 _ _
def j7I [LP] (d c:Int) (b:Tn2) (a:Int):Option (Int):=
 (j4Y c b a 0 d).bind fun e=>
 some e
def j2G [LP] (a:Tn15) (b:Int):Option (Int):=
 let c:=(Int.ofNat (List.length a.2))
 (j7I c a.1 a.2 b).bind fun d=>
 some d
def j3q (a:Tn15) (b:Int):Option (Int):=
 cond (b==0) (
 some a.1) (
 let c:=(w64 (b-1))
 cond (inR c (List.length a.2)) (
 let d:=(List.getD a.2 (Int.toNat c) (0,0))
 some d.2) none)
def j0N [LP] (k c j:Int) (a:Tn2) (i:Tn17):Option ((Int×Int×Int×Tn2×Tn17) ⊕ (Tn17)):=
 cond (decide (k<c)) (
 (j2G (j,a) k).bind fun b=>
 let o:=(Int.ofNat (List.length a))
 cond (decide (b<o)) (
 cond (inR b (List.length a)) (
 let e:=(List.getD a (Int.toNat b) (0,0))
 let f:Int:=(if e.1<c then e.1 else c:Int)
 (j3q (j,a) b).bind fun l=>
 let g:Tn17:=[(k,(f,l))]
 cond (decide (List.length i+List.length g≤j0m)) (
 let n:Tn17:=(i++g)
 some (.inl (f,c,j,a,n))) none) none) (
 (j3q (j,a) b).bind fun p=>
 let d:Tn17:=[(k,(c,p))]
 cond (decide (List.length i+List.length d≤j0m)) (
 let m:Tn17:=(i++d)
 some (.inl (c,c,j,a,m))) none)) (
 some (.inr i))
def j1W [LP] (c d e:Int) (a:Tn2) (b:Tn17):Option (Tn17):=
 LP.lp (unc5 (j0N)) (c,d,e,a,b)
theorem j6V (c d e a b):j1W c d e a b=lpK (j0N c d e a b) (fun h=>j1W h.1 h.2.1 h.2.2.1 h.2.2.2.1 h.2.2.2.2):=j06 _ _
def j2M [LP] (b:Tn15) (a c:Int):Option (Tn17):=
 (j1W a c b.1 b.2 ([]:Tn17)).bind fun d=>
 some d
def j3l (a:(Int×Int)):Option (Int):=
 let c:Int:=(if (-1048576)>a.1 then (-1048576) else a.1:Int)
 let d:Int:=(if 1048576<c then 1048576 else c:Int)
 let e:=(w64 (d*86400))
 let b:=(w64 (e+a.2))
 some b
def j1i (j c k f:Int) (e:Tn17):Option ((Int×Int×Int×Int×Tn17) ⊕ ((Int×Bool) ⊕ Unit)):=
 cond (decide (c<j)) (
 cond (inR c (List.length e)) (
 let a:=(List.getD e (Int.toNat c) (0,(0,0)))
 (j3l (k,f)).bind fun g=>
 let b:=(w64 (g-a.2.2))
 let d:Int:=(if b>a.1 then b else a.1:Int)
 cond (decide (d<a.2.1)) (
 some (.inr (.inl (d,true)))) (
 let i:=(w64 (c+1))
 some (.inl (j,i,k,f,e)))) none) (
 some (.inr (.inr ())))
def j2a [LP] (d c e a:Int) (b:Tn17):Option ((Int×Bool) ⊕ Unit):=
 LP.lp (unc5 (j1i)) (d,c,e,a,b)
theorem j3y (d c e a b):j2a d c e a b=lpK (j1i d c e a b) (fun h=>j2a h.1 h.2.1 h.2.2.1 h.2.2.2.1 h.2.2.2.2):=j06 _ _
def j1v [LP] (a:Tn15) (b:(Int×Int)):Option (Int×Bool):=
 (j2M (a.1,a.2) 0 8589934593).bind fun c=>
 let d:=(Int.ofNat (List.length c))
 (j2a d 0 b.1 b.2 c).bind fun e=>
 sumC e (fun f=>
 some (f.1,f.2)) (fun g=>
 some (0,false))
def j1d [LP] (b:Tn15) (a:Tn64) (c:Int):Option (Int×Bool):=
 cond (decide (c>8589934592)) (
 some (0,false)) (
 cond (a.2.2.2.1 != 0) (
 (j7H (a.1,(a.2.1,((a.2.2.1.1,a.2.2.1.2),(a.2.2.2.1,(a.2.2.2.2.1,(a.2.2.2.2.2.1,(a.2.2.2.2.2.2.1,(a.2.2.2.2.2.2.2.1,a.2.2.2.2.2.2.2.2))))))))).bind fun j=>
 let k:=(w64 (c*j))
 let l:=(w64 (a.2.2.1.1+k))
 (j1v (b.1,b.2) (l,a.2.2.1.2)).bind fun f=>
 some (f.1,f.2)) (
 (j1v (b.1,b.2) (a.2.2.1.1,a.2.2.1.2)).bind fun d=>
 let g:=(w64 (3600*a.2.2.2.2.1))
 let i:=(w64 (g*c))
 let e:=(w64 (d.1+i))
 some (e,(cond d.2 (decide (e≤8589934592)) false))))
def j2N [LP] (a:Tn15) (b:Int):Option (Int):=
 (j2G (a.1,a.2) b).bind fun d=>
 (j3q (a.1,a.2) d).bind fun c=>
 some c
def jcM (a:Int):Option ((Int×Int)):=
 let e:=(w64 (Int.tdiv a 86400))
 let i:=(Int.tmod a 86400)
 cond (decide (i<0)) (
 let d:=(w64 (e-1))
 let g:=(w64 (d*86400))
 let f:=(w64 (a-g))
 some (d,f)) (
 let c:=(w64 (e*86400))
 let b:=(w64 (a-c))
 some (e,b))
def j0y [LP] (a:Tn15) (b:Int):Option ((Int×Int)):=
 (j2N (a.1,a.2) b).bind fun e=>
 let d:=(w64 (b+e))
 (jcM d).bind fun c=>
 some (c.1,c.2)
def j1n [LP] (n m o:Int) (d:Tn2) (q:ByteArray) (b f e a g:Int) (k:(List Int)) (i:Tn2) (j c:Int):Option ((Int×Int×Int×Tn2×ByteArray×Int×Int×Int×Int×Int×(List Int)×Tn2×Int×Int) ⊕ ((Int×Int×Int×Tn2×ByteArray×Int×Int×Int×Int×Int×(List Int)×Tn2×Int×Int))):=
 cond (decide (m>0)) (
 (j1d (o,d) (q,(b,((f,e),(a,(g,(k,(i,(j,c)))))))) m).bind fun l=>
 cond (cond l.2 (decide (l.1≤n)) false) (
 some (.inr (n,m,o,d,q,b,f,e,a,g,k,i,j,c))) (
 let p:=(w64 (m-1))
 some (.inl (n,p,o,d,q,b,f,e,a,g,k,i,j,c)))) (
 some (.inr (n,m,o,d,q,b,f,e,a,g,k,i,j,c)))
def j3I [LP] (l n m:Int) (d:Tn2) (o:ByteArray) (b f e a g:Int) (k:(List Int)) (i:Tn2) (j c:Int):Option ((Int×Int×Int×Tn2×ByteArray×Int×Int×Int×Int×Int×(List Int)×Tn2×Int×Int)):=
 LP.lp (jqM (j1n)) (l,n,m,d,o,b,f,e,a,g,k,i,j,c)
theorem j9f (l n m d o b f e a g k i j c):j3I l n m d o b f e a g k i j c=lpK (j1n l n m d o b f e a g k i j c) (fun h=>j3I h.1 h.2.1 h.2.2.1 h.2.2.2.1 h.2.2.2.2.1 h.2.2.2.2.2.1 h.2.2.2.2.2.2.1 h.2.2.2.2.2.2.2.1 h.2.2.2.2.2.2.2.2.1 h.2.2.2.2.2.2.2.2.2.1 h.2.2.2.2.2.2.2.2.2.2.1 h.2.2.2.2.2.2.2.2.2.2.2.1 h.2.2.2.2.2.2.2.2.2.2.2.2.1 h.2.2.2.2.2.2.2.2.2.2.2.2.2):=j06 _ _
def j1J [LP] (p o q:Int) (e:Tn2) (r:ByteArray) (c g f b i:Int) (l:(List Int)) (j:Tn2) (k d:Int):Option ((Int×Int×Int×Tn2×ByteArray×Int×Int×Int×Int×Int×(List Int)×Tn2×Int×Int) ⊕ (Int)):=
 let n:=(w64 (o+1))
 (j1d (q,e) (r,(c,((g,f),(b,(i,(l,(j,(k,d)))))))) n).bind fun a=>
 cond (cond (!a.2) true (decide (a.1>p))) (
 some (.inr o)) (
 let m:=(w64 (o+1))
 some (.inl (p,m,q,e,r,c,g,f,b,i,l,j,k,d)))
def j3J [LP] (l n m:Int) (d:Tn2) (o:ByteArray) (b f e a g:Int) (k:(List Int)) (i:Tn2) (j c:Int):Option (Int):=
 LP.lp (jqM (j1J)) (l,n,m,d,o,b,f,e,a,g,k,i,j,c)
theorem jdx (l n m d o b f e a g k i j c):j3J l n m d o b f e a g k i j c=lpK (j1J l n m d o b f e a g k i j c) (fun h=>j3J h.1 h.2.1 h.2.2.1 h.2.2.2.1 h.2.2.2.2.1 h.2.2.2.2.2.1 h.2.2.2.2.2.2.1 h.2.2.2.2.2.2.2.1 h.2.2.2.2.2.2.2.2.1 h.2.2.2.2.2.2.2.2.2.1 h.2.2.2.2.2.2.2.2.2.2.1 h.2.2.2.2.2.2.2.2.2.2.2.1 h.2.2.2.2.2.2.2.2.2.2.2.2.1 h.2.2.2.2.2.2.2.2.2.2.2.2.2):=j06 _ _
def j24 [LP] (c:Tn15) (a:Tn64) (d:Int):Option (Int):=
 (j1d (c.1,c.2) (a.1,(a.2.1,((a.2.2.1.1,a.2.2.1.2),(a.2.2.2.1,(a.2.2.2.2.1,(a.2.2.2.2.2.1,(a.2.2.2.2.2.2.1,(a.2.2.2.2.2.2.2.1,a.2.2.2.2.2.2.2.2)))))))) 0).bind fun e=>
 cond (cond (!e.2) true (decide (e.1>d))) (
 some (-1)) (
 cond (a.2.2.2.1==0) (
 let l:=(w64 (d-e.1))
 let f:=(w64 (3600*a.2.2.2.2.1))
 cond (!(f==0)) (
 let n:=(w64 (Int.tdiv l f))
 some n) none) (
 (j0y (c.1,c.2) d).bind fun j=>
 let k:=(w64 (j.1-a.2.2.1.1))
 (j7H (a.1,(a.2.1,((a.2.2.1.1,a.2.2.1.2),(a.2.2.2.1,(a.2.2.2.2.1,(a.2.2.2.2.2.1,(a.2.2.2.2.2.2.1,(a.2.2.2.2.2.2.2.1,a.2.2.2.2.2.2.2.2))))))))).bind fun g=>
 cond (!(g==0)) (
 let i:=(w64 (Int.tdiv k g))
 let m:Int:=(if i>0 then i else 0:Int)
 (j3I d m c.1 c.2 a.1 a.2.1 a.2.2.1.1 a.2.2.1.2 a.2.2.2.1 a.2.2.2.2.1 a.2.2.2.2.2.1 a.2.2.2.2.2.2.1 a.2.2.2.2.2.2.2.1 a.2.2.2.2.2.2.2.2).bind fun b=>
 (j3J b.1 b.2.1 b.2.2.1 b.2.2.2.1 b.2.2.2.2.1 b.2.2.2.2.2.1 b.2.2.2.2.2.2.1 b.2.2.2.2.2.2.2.1 b.2.2.2.2.2.2.2.2.1 b.2.2.2.2.2.2.2.2.2.1 b.2.2.2.2.2.2.2.2.2.2.1 b.2.2.2.2.2.2.2.2.2.2.2.1 b.2.2.2.2.2.2.2.2.2.2.2.2.1 b.2.2.2.2.2.2.2.2.2.2.2.2.2).bind fun o=>
 some o) none))
def j3f (a:(Int×Int)):Option (Int):=
 (j4C a.1).bind fun c=>
 let d:=(w64 (c*86400))
 let b:=(w64 (d+a.2))
 some b
def j4N (d:Int) (e:Tn2) (f c:Int):Option ((Int×Tn2×Int×Int) ⊕ (Bool ⊕ Unit)):=
 cond (decide (c<f)) (
 cond (inR c (List.length e)) (
 let a:=(List.getD e (Int.toNat c) (0,0))
 cond (cond (decide (a.1≤d)) (decide (d<a.2)) false) (
 some (.inr (.inl true))) (
 let b:=(w64 (c+1))
 some (.inl (d,e,f,b)))) none) (
 some (.inr (.inr ())))
def j7J [LP] (b:Int) (a:Tn2) (c d:Int):Option (Bool ⊕ Unit):=
 LP.lp (unc4 (j4N)) (b,a,c,d)
theorem jd7 (a b c d):j7J a b c d=lpK (j4N a b c d) (fun h=>j7J h.1 h.2.1 h.2.2.1 h.2.2.2):=j06 _ _
def jbg [LP] (a:Tn2) (b:Int):Option (Bool):=
 let d:=(Int.ofNat (List.length a))
 (j7J b a d 0).bind fun c=>
 sumC c (fun e=>
 some e) (fun f=>
 some false)
def j8W (a:Int):Option (Bool):=
 some (a != a)
def ja4 (b a:Int):Option (Bool):=
 (j8W b).bind fun d=>
 cond d (
 (j8W a).bind fun c=>
 some (cond (!c) true (decide (b<a)))) (
 some (decide (b<a)))
def j6v (a:Int):Option (Bool):=
 some (a != a)
def j1s (b:(List Int)) (c m d l:Int):Option (((List Int)×Int×Int×Int×Int) ⊕ (((List Int)×Int×Int×Int))):=
 cond (decide (d<l)) (
 let g:=(w64 (d+l))
 let i:Int:=(IntKind.wrap .u64 g)
 let e:Int:=(Int.fdiv i 2)
 let a:=(w64 e)
 cond (inR a (List.length b)) (
 let k:=(List.getD b (Int.toNat a) 0)
 (ja4 k c).bind fun j=>
 cond j (
 let f:=(w64 (a+1))
 some (.inl (b,c,m,f,l))) (
 some (.inl (b,c,m,d,a)))) none) (
 some (.inr (b,c,m,d)))
def j0T [LP] (b:(List Int)) (a e c d:Int):Option (((List Int)×Int×Int×Int)):=
 LP.lp (unc5 (j1s)) (b,a,e,c,d)
theorem j6W (b a e c d):j0T b a e c d=lpK (j1s b a e c d) (fun h=>j0T h.1 h.2.1 h.2.2.1 h.2.2.2.1 h.2.2.2.2):=j06 _ _
def j0C [LP] (c:(List Int)) (b:Int):Option (Int×Bool):=
 let e:=(Int.ofNat (List.length c))
 (j0T c b e 0 e).bind fun a=>
 cond ((inR a.2.2.2 (List.length a.1)) || !(decide (a.2.2.2<a.2.2.1))) (
 let d:=(List.getD a.1 (Int.toNat a.2.2.2) 0)
 cond ((inR a.2.2.2 (List.length a.1)) || !((decide (a.2.2.2<a.2.2.1))&&(!(d==a.2.1)))) (
 let g:=(List.getD a.1 (Int.toNat a.2.2.2) 0)
 cond (decide (a.2.2.2<a.2.2.1)) (
 cond (d==a.2.1) (
 some (a.2.2.2,true)) (
 (j6v g).bind fun f=>
 cond f (
 (j6v a.2.1).bind fun i=>
 some (a.2.2.2,i)) (
 some (a.2.2.2,false)))) (
 cond ((d==a.2.1) || !false) (
 some (a.2.2.2,false)) none)) none) none
def j3m [LP] (b:Tn78) (a:Tn64) (c:Int):Option (Int×Bool):=
 cond (cond (decide (c<0)) true (decide (c>8589934592))) (
 some (0,false)) (
 cond (inR a.2.1 (List.length b.2)) (
 let g:=(List.getD b.2 (Int.toNat a.2.1) (0,([]:Tn2)))
 (j24 (g.1,g.2) (a.1,(a.2.1,((a.2.2.1.1,a.2.2.1.2),(a.2.2.2.1,(a.2.2.2.2.1,(a.2.2.2.2.2.1,(a.2.2.2.2.2.2.1,(a.2.2.2.2.2.2.2.1,a.2.2.2.2.2.2.2.2)))))))) c).bind fun e=>
 cond (decide (e<0)) (
 some (0,false)) (
 let n:=(Int.ofNat (List.length a.2.2.2.2.2.2.1))
 cond (decide (n>0)) (
 (j0y (g.1,g.2) c).bind fun l=>
 (j3f (l.1,l.2)).bind fun p=>
 (jbg a.2.2.2.2.2.2.1 p).bind fun o=>
 cond (!o) (
 some (0,false)) (
 cond (a.2.2.2.2.2.2.2.2==0) (
 some (e,true)) (
 cond (inR a.2.2.2.2.2.2.2.1 (List.length b.1.2.2.1)) (
 let i:=(List.getD b.1.2.2.1 (Int.toNat a.2.2.2.2.2.2.2.1) (ByteArray.empty,(0,([]:(List Int)))))
 cond (inR i.2.1 (List.length b.2)) (
 let m:=(List.getD b.2 (Int.toNat i.2.1) (0,([]:Tn2)))
 (j0y (m.1,m.2) c).bind fun q=>
 (j0C i.2.2 q.1).bind fun r=>
 some (e,(r.2==(a.2.2.2.2.2.2.2.2==2)))) none) none))) (
 cond (a.2.2.2.2.2.2.2.2==0) (
 some (e,true)) (
 cond (inR a.2.2.2.2.2.2.2.1 (List.length b.1.2.2.1)) (
 let d:=(List.getD b.1.2.2.1 (Int.toNat a.2.2.2.2.2.2.2.1) (ByteArray.empty,(0,([]:(List Int)))))
 cond (inR d.2.1 (List.length b.2)) (
 let f:=(List.getD b.2 (Int.toNat d.2.1) (0,([]:Tn2)))
 (j0y (f.1,f.2) c).bind fun j=>
 (j0C d.2.2 j.1).bind fun k=>
 some (e,(k.2==(a.2.2.2.2.2.2.2.2==2)))) none) none)))) none)
def j1w [LP] (b:Tn78) (a:Tn64) (f:Int):Option (Int):=
 (j3m ((b.1.1,(b.1.2.1,(b.1.2.2.1,b.1.2.2.2))),b.2) (a.1,(a.2.1,((a.2.2.1.1,a.2.2.1.2),(a.2.2.2.1,(a.2.2.2.2.1,(a.2.2.2.2.2.1,(a.2.2.2.2.2.2.1,(a.2.2.2.2.2.2.2.1,a.2.2.2.2.2.2.2.2)))))))) f).bind fun c=>
 cond (!c.2) (
 some (-1)) (
 let d:=(Int.ofNat (List.length a.2.2.2.2.2.1))
 cond (!(d==0)) (
 let e:=(Int.tmod c.1 d)
 cond (inR e (List.length a.2.2.2.2.2.1)) (
 let g:=(List.getD a.2.2.2.2.2.1 (Int.toNat e) 0)
 some g) none) none)
def jbh (a:Tn28) (d b:Int):Option (Bool):=
 let c:Bool:=(cond (cond (a.1==0) (a.2.1==d) false) (decide (a.2.2.2.1≤b)) false)
 some (cond c (decide (b<a.2.2.2.2)) false)
def j0G (f:Tn34) (g b i c:Int):Option ((Tn34×Int×Int×Int×Int) ⊕ (Int ⊕ Unit)):=
 cond (decide (c<i)) (
 cond (inR c (List.length f)) (
 let a:=(List.getD f (Int.toNat c) (0,(0,(0,(0,0)))))
 (jbh (a.1,(a.2.1,(a.2.2.1,(a.2.2.2.1,a.2.2.2.2)))) g b).bind fun e=>
 cond e (
 some (.inr (.inl c))) (
 let d:=(w64 (c+1))
 some (.inl (f,g,b,i,d)))) none) (
 some (.inr (.inr ())))
def j0s [LP] (c:Tn34) (b a d e:Int):Option (Int ⊕ Unit):=
 LP.lp (unc5 (j0G)) (c,b,a,d,e)
theorem j2S (c b a d e):j0s c b a d e=lpK (j0G c b a d e) (fun h=>j0s h.1 h.2.1 h.2.2.1 h.2.2.2.1 h.2.2.2.2):=j06 _ _
def j0J [LP] (a:Tn34) (c b:Int):Option (Int):=
 let e:=(Int.ofNat (List.length a))
 (j0s a c b e 0).bind fun d=>
 sumC d (fun f=>
 some f) (fun g=>
 some (-1))
def j0D [LP] (b:Tn34) (c a:Int):Option (Bool):=
 (j0J b c a).bind fun d=>
 some (decide (d≥0))
def j7K [LP] (b:Tn69) (a c:Int):Option (Bool):=
 (j0D b.2.2 a c).bind fun d=>
 some d
def j1o [LP] (l:Int) (k:Tn65) (q:Tn59) (e:Tn53) (g:Tn30) (i:Tn70) (c:Tn23) (r:ByteArray) (d:Tn65) (f:Tn34) (m o p:Int):Option ((Int×Tn65×Tn59×Tn53×Tn30×Tn70×Tn23×ByteArray×Tn65×Tn34×Int×Int×Int) ⊕ ((Int×Int) ⊕ (Int×Int))):=
 cond (decide (l≤0)) (
 some (.inr (.inl (o,p)))) (
 cond (decide (l≤Int.ofNat (List.length k))) (
 let j:Int:=(l-1)
 let a:=(List.getD k (Int.toNat j) (ByteArray.empty,(0,((0,0),(0,(0,(([]:(List Int)),(([]:Tn2),(0,0)))))))))
 (j1w ((q,(e,(g,i))),c) (a.1,(a.2.1,((a.2.2.1.1,a.2.2.1.2),(a.2.2.2.1,(a.2.2.2.2.1,(a.2.2.2.2.2.1,(a.2.2.2.2.2.2.1,(a.2.2.2.2.2.2.2.1,a.2.2.2.2.2.2.2.2)))))))) m).bind fun b=>
 cond (decide (b<0)) (
 some (.inl ((l-1),k,q,e,g,i,c,r,d,f,m,o,p))) (
 (j7K (r,(d,f)) b m).bind fun n=>
 cond (!n) (
 some (.inr (.inr (j,b)))) (
 some (.inl ((l-1),k,q,e,g,i,c,r,d,f,m,o,p))))) none)
def j36 [LP] (l:Int) (g:Tn65) (m:Tn59) (c:Tn53) (e:Tn30) (f:Tn70) (a:Tn23) (n:ByteArray) (b:Tn65) (d:Tn34) (k i j:Int):Option ((Int×Int) ⊕ (Int×Int)):=
 LP.lp (jsV (j1o)) (l,g,m,c,e,f,a,n,b,d,k,i,j)
theorem j9g (l g m c e f a n b d k i j):j36 l g m c e f a n b d k i j=lpK (j1o l g m c e f a n b d k i j) (fun h=>j36 h.1 h.2.1 h.2.2.1 h.2.2.2.1 h.2.2.2.2.1 h.2.2.2.2.2.1 h.2.2.2.2.2.2.1 h.2.2.2.2.2.2.2.1 h.2.2.2.2.2.2.2.2.1 h.2.2.2.2.2.2.2.2.2.1 h.2.2.2.2.2.2.2.2.2.2.1 h.2.2.2.2.2.2.2.2.2.2.2.1 h.2.2.2.2.2.2.2.2.2.2.2.2):=j06 _ _
def j3g [LP] (a:Tn78) (b:Tn69) (d:Int):Option (Int×Int):=
 (j29 b.2.1).bind fun c=>
 (j36 (Int.ofNat (List.length c)) c a.1.1 a.1.2.1 a.1.2.2.1 a.1.2.2.2 a.2 b.1 b.2.1 b.2.2 d 0 0).bind fun e=>
 sumC e (fun g=>
 some ((-1),(-1))) (fun f=>
 some (f.1,f.2))
def jdy (b:Tn28) (a:Int):Option (Bool):=
 some (cond (decide (b.2.2.2.1≤a)) (decide (a<b.2.2.2.2)) false)
def j4p (f e:Int) (d:Tn34) (c b:Int):Option ((Int×Int×Tn34×Int×Int) ⊕ (Int)):=
 cond (decide (b<c)) (
 cond (inR b (List.length d)) (
 let a:=(List.getD d (Int.toNat b) (0,(0,(0,(0,0)))))
 (jdy (a.1,(a.2.1,(a.2.2.1,(a.2.2.2.1,a.2.2.2.2)))) e).bind fun k=>
 cond (cond (!k) true (a.1==0)) (
 let n:=(w64 (b+1))
 some (.inl (f,e,d,c,n))) (
 cond (a.1==1) (
 let m:=(w64 (b+1))
 some (.inl (a.2.1,e,d,c,m))) (
 cond (a.1 != 2) (
 let l:=(w64 (b+1))
 some (.inl (f,e,d,c,l))) (
 cond (f==a.2.1) (
 let j:=(w64 (b+1))
 some (.inl (a.2.2.1,e,d,c,j))) (
 cond (f==a.2.2.1) (
 let g:=(w64 (b+1))
 some (.inl (a.2.1,e,d,c,g))) (
 let i:=(w64 (b+1))
 some (.inl (f,e,d,c,i)))))))) none) (
 some (.inr f))
def j5v [LP] (c d:Int) (e:Tn34) (a b:Int):Option (Int):=
 LP.lp (unc5 (j4p)) (c,d,e,a,b)
theorem jcn (c d e a b):j5v c d e a b=lpK (j4p c d e a b) (fun h=>j5v h.1 h.2.1 h.2.2.1 h.2.2.2.1 h.2.2.2.2):=j06 _ _
def jaK [LP] (b:Tn34) (a c:Int):Option (Int):=
 let d:=(Int.ofNat (List.length b))
 (j5v a c b d 0).bind fun e=>
 some e
def j5V [LP] (a:Tn78) (c:Tn69) (b:Int):Option (Int):=
 cond (cond (decide (b<0)) true (decide (b>8589934592))) (
 some (-1)) (
 (j3g ((a.1.1,(a.1.2.1,(a.1.2.2.1,a.1.2.2.2))),a.2) (c.1,(c.2.1,c.2.2)) b).bind fun d=>
 (jaK c.2.2 d.2 b).bind fun e=>
 some e)
def j56 [LP] (b:Tn76) (a e:Int):Option (Int):=
 (jdw (b.1,(b.2.1,(b.2.2.1,b.2.2.2)))).bind fun c=>
 cond (!c.2) (
 some (-1)) (
 (j7F (b.1,(b.2.1,(b.2.2.1,b.2.2.2))) a).bind fun g=>
 cond (!g) (
 some (-1)) (
 cond (inR a (List.length b.2.2.2)) (
 let d:=(List.getD b.2.2.2 (Int.toNat a) (ByteArray.empty,(([]:Tn65),([]:Tn34))))
 (j5V ((c.1.1.1,(c.1.1.2.1,(c.1.1.2.2.1,c.1.1.2.2.2))),c.1.2) (d.1,(d.2.1,d.2.2)) e).bind fun f=>
 some f) none))
def j7L [LP]  : Option (Bool):=
 (jh6).bind fun d=>
 (j4X (d.1,(d.2.1,(d.2.2.1,d.2.2.2))) 0 (2,(0,(1,(432000,518400))))).bind fun b=>
 (j4X (b.1.1,(b.1.2.1,(b.1.2.2.1,b.1.2.2.2))) 0 (1,(2,(0,(432000,475200))))).bind fun a=>
 (j41 (a.1.1,(a.1.2.1,(a.1.2.2.1,a.1.2.2.2))) 0 1).bind fun c=>
 (j41 (a.1.1,(a.1.2.1,(a.1.2.2.1,a.1.2.2.2))) 0 2).bind fun k=>
 let e:Bool:=(cond (cond (cond (b.2==0) (a.2==0) false) (c.2==0) false) (k.2==10) false)
 cond e (
 (j56 (a.1.1,(a.1.2.1,(a.1.2.2.1,a.1.2.2.2))) 0 432000).bind fun f=>
 cond (f==2) (
 (j56 (a.1.1,(a.1.2.1,(a.1.2.2.1,a.1.2.2.2))) 0 475200).bind fun j=>
 cond (j==1) (
 (j56 (c.1.1,(c.1.2.1,(c.1.2.2.1,c.1.2.2.2))) 0 432000).bind fun g=>
 cond (g==1) (
 (j56 (a.1.1,(a.1.2.1,(a.1.2.2.1,a.1.2.2.2))) 0 518400).bind fun i=>
 some (i==0)) (
 some false)) (
 some false)) (
 some false)) (
 some false)
def jh8 (a:(List Int)):Option ((List Int)×Int):=
 some (a,0)
def j03 (b:(List Int)) (a c:Int):Option (Int×(List Int)×Int):=
 let g:=(Int.ofNat (List.length b))
 cond (decide (a≥g)) (
 some (0,b,a)) (
 cond (decide (c<1)) (
 some (0,b,a)) (
 cond (inR a (List.length b)) (
 let f:=(List.getD b (Int.toNat a) 0)
 cond (!(c==0)) (
 let d:=(Int.tmod f c)
 let e:=(w64 (a+1))
 cond (decide (d<0)) (
 let i:=(w64 (d+c))
 some (i,b,e)) (
 some (d,b,e))) none) none))
def j15 (d:(List Int)) (b:Int) (a:(List Int)):Option (Int×(List Int)×Int):=
 let f:=(Int.ofNat (List.length a))
 (j03 d b f).bind fun c=>
 cond (inR c.1 (List.length a)) (
 let e:=(List.getD a (Int.toNat c.1) 0)
 some (e,c.2.1,c.2.2)) none
def j3n (a0:(List Int)) (i:Int) (a:ByteArray):Option (Tn57×(List Int)×Int):=
 let a9:(List Int):=[0,4,(-20),22,48,(-47)]
 (j15 a0 i a9).bind fun v=>
 (j03 v.2.1 v.2.2 2).bind fun u=>
 (j03 u.2.1 u.2.2 3).bind fun l=>
 let a4:=(w64 (u.1*l.1))
 let b6:=(w64 (v.1+a4))
 let c:=(w64 (900*b6))
 (j03 l.2.1 l.2.2 2).bind fun o=>
 let g:=(w64 (2025+o.1))
 (j03 o.2.1 o.2.2 4).bind fun b=>
 cond (b.1==1) (
 let a2:=(w64 (c+3600))
 let b7:Tn47:=[(2025,(g,(3,(5,(6,(7200,a2)))))),(2025,(g,(10,(5,(6,(10800,c))))))]
 some ((a,(c,b7)),b.2.1,b.2.2)) (
 cond (b.1==2) (
 (j03 b.2.1 b.2.2 4).bind fun w=>
 let b3:=(w64 (1+w.1))
 (j03 w.2.1 w.2.2 7).bind fun q=>
 (j03 q.2.1 q.2.2 24).bind fun r=>
 let a3:=(w64 (3600*r.1))
 (j03 r.2.1 r.2.2 8).bind fun x=>
 let a5:=(w64 (1+x.1))
 let a6:=(w64 (1800*a5))
 let b4:=(w64 (c+a6))
 (j03 x.2.1 x.2.2 2).bind fun j=>
 let b0:=(w64 (2+j.1))
 let a8:(List Int):=[2,3,5]
 (j15 j.2.1 j.2.2 a8).bind fun s=>
 (j03 s.2.1 s.2.2 7).bind fun t=>
 (j03 t.2.1 t.2.2 24).bind fun p=>
 let b1:=(w64 (3600*p.1))
 let b5:Tn47:=[(2025,(g,(1,(b3,(q.1,(a3,b4)))))),(2025,(g,(b0,(s.1,(t.1,(b1,c))))))]
 some ((a,(c,b5)),p.2.1,p.2.2)) (
 cond (b.1==3) (
 let b2:(List Int):=[3600,(-3600),82800,(-82800),43200]
 (j15 b.2.1 b.2.2 b2).bind fun f=>
 let m:=(w64 (c+f.1))
 cond (cond (decide (m>64800)) true (decide (m<(-64800)))) (
 (j03 f.2.1 f.2.2 7).bind fun k=>
 (j03 k.2.1 k.2.2 48).bind fun n=>
 let a1:=(w64 (1800*n.1))
 let a7:Tn47:=[(2026,(2026,(1,(2,(k.1,(a1,0))))))]
 some ((a,(c,a7)),n.2.1,n.2.2)) (
 (j03 f.2.1 f.2.2 7).bind fun d=>
 (j03 d.2.1 d.2.2 48).bind fun e=>
 let z:=(w64 (1800*e.1))
 let y:Tn47:=[(2026,(2026,(1,(2,(d.1,(z,m))))))]
 some ((a,(c,y)),e.2.1,e.2.2))) (
 some ((a,(c,([]:Tn47))),b.2.1,b.2.2))))
def jcN  : Option ((List ByteArray)):=
 let a:(List ByteArray):=[(ByteArray.mk #[97,100,97]),(ByteArray.mk #[98,111,98]),(ByteArray.mk #[99,108,101,111]),(ByteArray.mk #[100,97,110]),(ByteArray.mk #[101,118,101]),(ByteArray.mk #[102,97,121]),(ByteArray.mk #[103,117,115]),(ByteArray.mk #[104,97,108])]
 some a
def j0U (c:(List Int)) (a b:Int):Option (Bool×(List Int)×Int):=
 (j03 c a b).bind fun d=>
 let e:=(w64 (b-1))
 some ((d.1==e),d.2.1,d.2.2)
def j21 (r q:Int) (p:(List Int)) (g:Int) (n:Tn2):Option ((Int×Int×(List Int)×Int×Tn2) ⊕ (((List Int)×Int×Tn2))):=
 cond (decide (q>0)) (
 (j03 p g 30).bind fun d=>
 let o:=(w64 (3600*d.1))
 let m:=(w64 (r+o))
 (j03 d.2.1 d.2.2 2).bind fun b=>
 let l:=(w64 (60*b.1))
 let e:=(w64 (m+l))
 let i:(List Int):=[3600,28800,43200,86400,61,1]
 (j15 b.2.1 b.2.2 i).bind fun a=>
 let c:=(w64 (e+a.1))
 cond (decide (c>604800)) (
 some (.inr (a.2.1,a.2.2,n))) (
 let f:Tn2:=[(e,c)]
 cond (decide (List.length n+List.length f≤j0m)) (
 let k:Tn2:=(n++f)
 let j:=(w64 (q-1))
 some (.inl (c,j,a.2.1,a.2.2,k))) none)) (
 some (.inr (p,g,n)))
def j4d [LP] (b e:Int) (c:(List Int)) (a:Int) (d:Tn2):Option (((List Int)×Int×Tn2)):=
 LP.lp (unc5 (j21)) (b,e,c,a,d)
theorem j6X (b e c a d):j4d b e c a d=lpK (j21 b e c a d) (fun h=>j4d h.1 h.2.1 h.2.2.1 h.2.2.2.1 h.2.2.2.2):=j06 _ _
def j3r [LP] (b:(List Int)) (a:Int):Option (Tn2×(List Int)×Int):=
 (j03 b a 4).bind fun c=>
 (j4d 0 c.1 c.2.1 c.2.2 ([]:Tn2)).bind fun d=>
 some (d.2.2,d.1,d.2.1)
def j2t (l:Int) (k:(List Int)) (f:Int) (b:Tn59):Option ((Int×(List Int)×Int×Tn59) ⊕ (((List Int)×Int×Tn59))):=
 cond (decide (l>0)) (
 let d:(List ByteArray):=[(ByteArray.mk #[104,101,114,101]),(ByteArray.mk #[116,104,101,114,101])]
 let e:=(Int.ofNat (List.length b))
 cond (inR e (List.length d)) (
 let g:=(List.getD d (Int.toNat e) ByteArray.empty)
 (j3n k f g).bind fun a=>
 let c:Tn59:=[(a.1.1,(a.1.2.1,a.1.2.2))]
 cond (decide (List.length b+List.length c≤j0m)) (
 let i:Tn59:=(b++c)
 let j:=(w64 (l-1))
 some (.inl (j,a.2.1,a.2.2,i))) none) none) (
 some (.inr (k,f,b)))
def j57 [LP] (c:Int) (d:(List Int)) (b:Int) (a:Tn59):Option (((List Int)×Int×Tn59)):=
 LP.lp (unc4 (j2t)) (c,d,b,a)
theorem j85 (d c a b):j57 d c a b=lpK (j2t d c a b) (fun h=>j57 h.1 h.2.1 h.2.2.1 h.2.2.2):=j06 _ _
def j2u [LP] (a4:Int) (a5:(List Int)) (q:Int) (f:Tn59) (b:Tn53):Option ((Int×(List Int)×Int×Tn59×Tn53) ⊕ (((List Int)×Int×Tn59×Tn53))):=
 cond (decide (a4>0)) (
 (jcN).bind fun n=>
 let o:=(Int.ofNat (List.length b))
 cond (inR o (List.length n)) (
 let l:=(List.getD n (Int.toNat o) ByteArray.empty)
 let y:=(Int.ofNat (List.length f))
 (j03 a5 q y).bind fun c=>
 (j0U c.2.1 c.2.2 3).bind fun d=>
 (j0U d.2.1 d.2.2 2).bind fun a=>
 cond a.1 (
 (j3r a.2.1 a.2.2).bind fun j=>
 let s:(List Int):=[0,40,100,12]
 (j15 j.2.1 j.2.2 s).bind fun i=>
 let w:=(w64 (3600*i.1))
 let t:(List Int):=[0,11,24,1]
 (j15 i.2.1 i.2.2 t).bind fun k=>
 let a2:=(w64 (3600*k.1))
 let p:Tn53:=[(l,(c.1,(j.1,(w,(a2,d.1)))))]
 cond (decide (List.length b+List.length p≤j0m)) (
 let x:Tn53:=(b++p)
 let v:=(w64 (a4-1))
 some (.inl (v,k.2.1,k.2.2,f,x))) none) (
 let z:(List Int):=[0,40,100,12]
 (j15 a.2.1 a.2.2 z).bind fun g=>
 let u:=(w64 (3600*g.1))
 let a0:(List Int):=[0,11,24,1]
 (j15 g.2.1 g.2.2 a0).bind fun e=>
 let a3:=(w64 (3600*e.1))
 let m:Tn53:=[(l,(c.1,(([]:Tn2),(u,(a3,d.1)))))]
 cond (decide (List.length b+List.length m≤j0m)) (
 let a1:Tn53:=(b++m)
 let r:=(w64 (a4-1))
 some (.inl (r,e.2.1,e.2.2,f,a1))) none)) none) (
 some (.inr (a5,q,f,b)))
def j58 [LP] (e:Int) (d:(List Int)) (a:Int) (c:Tn59) (b:Tn53):Option (((List Int)×Int×Tn59×Tn53)):=
 LP.lp (unc5 (j2u)) (e,d,a,c,b)
theorem j86 (e d a c b):j58 e d a c b=lpK (j2u e d a c b) (fun h=>j58 h.1 h.2.1 h.2.2.1 h.2.2.2.1 h.2.2.2.2):=j06 _ _
def j2v (n p m:Int) (o:(List Int)) (e:Int) (q:ByteArray) (d:Int) (i:Tn59) (j:Tn53) (f:Tn30) (c:(List Int)):Option ((Int×Int×Int×(List Int)×Int×ByteArray×Int×Tn59×Tn53×Tn30×(List Int)) ⊕ ((Int×(List Int)×Int×ByteArray×Int×Tn59×Tn53×Tn30×(List Int)))):=
 cond (decide (p>0)) (
 (j03 o e 6).bind fun a=>
 let l:=(w64 (1+a.1))
 let b:=(w64 (m+l))
 cond (decide (List.length c+List.length [b]≤j0m)) (
 let g:(List Int):=(c++[b])
 let k:=(w64 (p-1))
 some (.inl (n,k,b,a.2.1,a.2.2,q,d,i,j,f,g))) none) (
 some (.inr (n,o,e,q,d,i,j,f,c)))
def j59 [LP] (i k g:Int) (j:(List Int)) (b:Int) (l:ByteArray) (a:Int) (d:Tn59) (f:Tn53) (c:Tn30) (e:(List Int)):Option ((Int×(List Int)×Int×ByteArray×Int×Tn59×Tn53×Tn30×(List Int))):=
 LP.lp (jqL (j2v)) (i,k,g,j,b,l,a,d,f,c,e)
theorem j87 (i k g j b l a d f c e):j59 i k g j b l a d f c e=lpK (j2v i k g j b l a d f c e) (fun h=>j59 h.1 h.2.1 h.2.2.1 h.2.2.2.1 h.2.2.2.2.1 h.2.2.2.2.2.1 h.2.2.2.2.2.2.1 h.2.2.2.2.2.2.2.1 h.2.2.2.2.2.2.2.2.1 h.2.2.2.2.2.2.2.2.2.1 h.2.2.2.2.2.2.2.2.2.2):=j06 _ _
def j1Q [LP] (m:Int) (n:(List Int)) (f:Int) (e:Tn59) (j:Tn53) (g:Tn30):Option ((Int×(List Int)×Int×Tn59×Tn53×Tn30) ⊕ (((List Int)×Int×Tn59×Tn53×Tn30))):=
 cond (decide (m>0)) (
 let l:=(Int.ofNat (List.length e))
 (j03 n f l).bind fun b=>
 (j03 b.2.1 b.2.2 4).bind fun c=>
 (j59 m c.1 20454 c.2.1 c.2.2 (ByteArray.mk #[100,97,121,115]) b.1 e j g ([]:(List Int))).bind fun a=>
 let d:Tn30:=[(a.2.2.2.1,(a.2.2.2.2.1,a.2.2.2.2.2.2.2.2))]
 cond (decide (List.length a.2.2.2.2.2.2.2.1+List.length d≤j0m)) (
 let i:Tn30:=(a.2.2.2.2.2.2.2.1++d)
 let k:=(w64 (a.1-1))
 some (.inl (k,a.2.1,a.2.2.1,a.2.2.2.2.2.1,a.2.2.2.2.2.2.1,i))) none) (
 some (.inr (n,f,e,j,g)))
def j5a [LP] (e:Int) (f:(List Int)) (a:Int) (d:Tn59) (c:Tn53) (b:Tn30):Option (((List Int)×Int×Tn59×Tn53×Tn30)):=
 LP.lp (unc6 (j1Q)) (e,f,a,d,c,b)
theorem j5w (e f a d c b):j5a e f a d c b=lpK (j1Q e f a d c b) (fun h=>j5a h.1 h.2.1 h.2.2.1 h.2.2.2.1 h.2.2.2.2.1 h.2.2.2.2.2):=j06 _ _
def j6Y [LP] (i:(List Int)) (b:Int):Option (Tn76×(List Int)×Int):=
 (j03 i b 2).bind fun a=>
 let k:=(w64 (1+a.1))
 (j57 k a.2.1 a.2.2 ([]:Tn59)).bind fun g=>
 (j03 g.1 g.2.1 4).bind fun c=>
 let j:=(w64 (1+c.1))
 (j58 j c.2.1 c.2.2 g.2.2 ([]:Tn53)).bind fun f=>
 (j03 f.1 f.2.1 2).bind fun d=>
 (j5a d.1 d.2.1 d.2.2 f.2.2.1 f.2.2.2 ([]:Tn30)).bind fun e=>
 some ((e.2.2.1,(e.2.2.2.1,(e.2.2.2.2,([]:Tn70)))),e.1,e.2.1)
def j2w (a1:Int) (y:(List Int)) (f:Int) (a2:Tn59) (c:Tn53) (m:Tn30) (t:Tn70) (z:ByteArray) (s p d q j n k:Int) (a0:ByteArray) (u i o l e g r:Int) (b:(List Int)):Option ((Int×(List Int)×Int×Tn59×Tn53×Tn30×Tn70×ByteArray×Int×Int×Int×Int×Int×Int×Int×ByteArray×Int×Int×Int×Int×Int×Int×Int×(List Int)) ⊕ (((List Int)×Int×Tn59×Tn53×Tn30×Tn70×ByteArray×Int×Int×Int×Int×Int×Int×Int×ByteArray×Int×Int×Int×Int×Int×Int×Int×(List Int)))):=
 cond (decide (a1>0)) (
 let x:=(Int.ofNat (List.length c))
 (j03 y f x).bind fun a=>
 cond (decide (List.length b+List.length [a.1]≤j0m)) (
 let v:(List Int):=(b++[a.1])
 let w:=(w64 (a1-1))
 some (.inl (w,a.2.1,a.2.2,a2,c,m,t,z,s,p,d,q,j,n,k,a0,u,i,o,l,e,g,r,v))) none) (
 some (.inr (y,f,a2,c,m,t,z,s,p,d,q,j,n,k,a0,u,i,o,l,e,g,r,b)))
def j3N [LP] (x:Int) (u:(List Int)) (c:Int) (y:Tn59) (m:Tn53) (j:Tn30) (s:Tn70) (v:ByteArray) (r o a p f l g:Int) (w:ByteArray) (t e n i b d q:Int) (k:(List Int)):Option (((List Int)×Int×Tn59×Tn53×Tn30×Tn70×ByteArray×Int×Int×Int×Int×Int×Int×Int×ByteArray×Int×Int×Int×Int×Int×Int×Int×(List Int))):=
 LP.lp (jsX (j2w)) (x,u,c,y,m,j,s,v,r,o,a,p,f,l,g,w,t,e,n,i,b,d,q,k)
theorem j88 (x u c y m j s v r o a p f l g w t e n i b d q k):j3N x u c y m j s v r o a p f l g w t e n i b d q k=lpK (j2w x u c y m j s v r o a p f l g w t e n i b d q k) (fun h=>j3N h.1 h.2.1 h.2.2.1 h.2.2.2.1 h.2.2.2.2.1 h.2.2.2.2.2.1 h.2.2.2.2.2.2.1 h.2.2.2.2.2.2.2.1 h.2.2.2.2.2.2.2.2.1 h.2.2.2.2.2.2.2.2.2.1 h.2.2.2.2.2.2.2.2.2.2.1 h.2.2.2.2.2.2.2.2.2.2.2.1 h.2.2.2.2.2.2.2.2.2.2.2.2.1 h.2.2.2.2.2.2.2.2.2.2.2.2.2.1 h.2.2.2.2.2.2.2.2.2.2.2.2.2.2.1 h.2.2.2.2.2.2.2.2.2.2.2.2.2.2.2.1 h.2.2.2.2.2.2.2.2.2.2.2.2.2.2.2.2.1 h.2.2.2.2.2.2.2.2.2.2.2.2.2.2.2.2.2.1 h.2.2.2.2.2.2.2.2.2.2.2.2.2.2.2.2.2.2.1 h.2.2.2.2.2.2.2.2.2.2.2.2.2.2.2.2.2.2.2.1 h.2.2.2.2.2.2.2.2.2.2.2.2.2.2.2.2.2.2.2.2.1 h.2.2.2.2.2.2.2.2.2.2.2.2.2.2.2.2.2.2.2.2.2.1 h.2.2.2.2.2.2.2.2.2.2.2.2.2.2.2.2.2.2.2.2.2.2.1 h.2.2.2.2.2.2.2.2.2.2.2.2.2.2.2.2.2.2.2.2.2.2.2):=j06 _ _
def j6Z [LP] (b5:(List Int)) (y:Int) (c:Tn76) (j:ByteArray):Option (Tn64×(List Int)×Int):=
 let c1:=(Int.ofNat (List.length c.1))
 (j03 b5 y c1).bind fun w=>
 (j03 w.2.1 w.2.2 6).bind fun a1=>
 let c3:=(w64 (20454+a1.1))
 let b4:=(w64 (c3-2))
 let c0:(List Int):=[0,32400,7200,9000,79200,1]
 (j15 a1.2.1 a1.2.2 c0).bind fun v=>
 (j03 v.2.1 v.2.2 3).bind fun s=>
 (j03 s.2.1 s.2.2 2).bind fun u=>
 let b6:=(w64 (1+u.1))
 cond (s.1==0) (
 let c4:(List Int):=[6,8,12,24,23,49]
 (j15 u.2.1 u.2.2 c4).bind fun z=>
 (j03 z.2.1 z.2.2 3).bind fun a3=>
 let b8:=(w64 (1+a3.1))
 (j3N b8 a3.2.1 a3.2.2 c.1 c.2.1 c.2.2.1 c.2.2.2 ByteArray.empty 0 0 0 0 0 0 0 j w.1 b4 v.1 s.1 z.1 0 0 ([]:(List Int))).bind fun b=>
 (j0U b.1 b.2.1 2).bind fun t=>
 cond t.1 (
 (j3r t.2.1 t.2.2).bind fun x=>
 (j0U x.2.1 x.2.2 4).bind fun r=>
 let b7:=(Int.ofNat (List.length b.2.2.2.2.1))
 cond (cond r.1 (decide (b7>0)) false) (
 let c2:=(Int.ofNat (List.length b.2.2.2.2.1))
 (j03 r.2.1 r.2.2 c2).bind fun a0=>
 (j03 a0.2.1 a0.2.2 2).bind fun a2=>
 let b9:=(w64 (1+a2.1))
 some ((b.2.2.2.2.2.2.2.2.2.2.2.2.2.2.1,(b.2.2.2.2.2.2.2.2.2.2.2.2.2.2.2.1,((b.2.2.2.2.2.2.2.2.2.2.2.2.2.2.2.2.1,b.2.2.2.2.2.2.2.2.2.2.2.2.2.2.2.2.2.1),(b.2.2.2.2.2.2.2.2.2.2.2.2.2.2.2.2.2.2.1,(b.2.2.2.2.2.2.2.2.2.2.2.2.2.2.2.2.2.2.2.1,(b.2.2.2.2.2.2.2.2.2.2.2.2.2.2.2.2.2.2.2.2.2.2,(x.1,(a0.1,b9)))))))),a2.2.1,a2.2.2)) (
 some ((b.2.2.2.2.2.2.2.2.2.2.2.2.2.2.1,(b.2.2.2.2.2.2.2.2.2.2.2.2.2.2.2.1,((b.2.2.2.2.2.2.2.2.2.2.2.2.2.2.2.2.1,b.2.2.2.2.2.2.2.2.2.2.2.2.2.2.2.2.2.1),(b.2.2.2.2.2.2.2.2.2.2.2.2.2.2.2.2.2.2.1,(b.2.2.2.2.2.2.2.2.2.2.2.2.2.2.2.2.2.2.2.1,(b.2.2.2.2.2.2.2.2.2.2.2.2.2.2.2.2.2.2.2.2.2.2,(x.1,(b.2.2.2.2.2.2.2.2.2.2.2.2.2.2.2.2.2.2.2.2.1,b.2.2.2.2.2.2.2.2.2.2.2.2.2.2.2.2.2.2.2.2.2.1)))))))),r.2.1,r.2.2))) (
 (j0U t.2.1 t.2.2 4).bind fun f=>
 let a8:=(Int.ofNat (List.length b.2.2.2.2.1))
 cond (cond f.1 (decide (a8>0)) false) (
 let a4:=(Int.ofNat (List.length b.2.2.2.2.1))
 (j03 f.2.1 f.2.2 a4).bind fun q=>
 (j03 q.2.1 q.2.2 2).bind fun k=>
 let a7:=(w64 (1+k.1))
 some ((b.2.2.2.2.2.2.2.2.2.2.2.2.2.2.1,(b.2.2.2.2.2.2.2.2.2.2.2.2.2.2.2.1,((b.2.2.2.2.2.2.2.2.2.2.2.2.2.2.2.2.1,b.2.2.2.2.2.2.2.2.2.2.2.2.2.2.2.2.2.1),(b.2.2.2.2.2.2.2.2.2.2.2.2.2.2.2.2.2.2.1,(b.2.2.2.2.2.2.2.2.2.2.2.2.2.2.2.2.2.2.2.1,(b.2.2.2.2.2.2.2.2.2.2.2.2.2.2.2.2.2.2.2.2.2.2,(([]:Tn2),(q.1,a7)))))))),k.2.1,k.2.2)) (
 some ((b.2.2.2.2.2.2.2.2.2.2.2.2.2.2.1,(b.2.2.2.2.2.2.2.2.2.2.2.2.2.2.2.1,((b.2.2.2.2.2.2.2.2.2.2.2.2.2.2.2.2.1,b.2.2.2.2.2.2.2.2.2.2.2.2.2.2.2.2.2.1),(b.2.2.2.2.2.2.2.2.2.2.2.2.2.2.2.2.2.2.1,(b.2.2.2.2.2.2.2.2.2.2.2.2.2.2.2.2.2.2.2.1,(b.2.2.2.2.2.2.2.2.2.2.2.2.2.2.2.2.2.2.2.2.2.2,(([]:Tn2),(b.2.2.2.2.2.2.2.2.2.2.2.2.2.2.2.2.2.2.2.2.1,b.2.2.2.2.2.2.2.2.2.2.2.2.2.2.2.2.2.2.2.2.2.1)))))))),f.2.1,f.2.2)))) (
 (j03 u.2.1 u.2.2 3).bind fun l=>
 let b2:=(w64 (1+l.1))
 (j3N b2 l.2.1 l.2.2 c.1 c.2.1 c.2.2.1 c.2.2.2 ByteArray.empty 0 0 0 0 0 0 0 j w.1 b4 v.1 s.1 b6 0 0 ([]:(List Int))).bind fun a=>
 (j0U a.1 a.2.1 2).bind fun g=>
 cond g.1 (
 (j3r g.2.1 g.2.2).bind fun i=>
 (j0U i.2.1 i.2.2 4).bind fun e=>
 let b3:=(Int.ofNat (List.length a.2.2.2.2.1))
 cond (cond e.1 (decide (b3>0)) false) (
 let a5:=(Int.ofNat (List.length a.2.2.2.2.1))
 (j03 e.2.1 e.2.2 a5).bind fun n=>
 (j03 n.2.1 n.2.2 2).bind fun o=>
 let a9:=(w64 (1+o.1))
 some ((a.2.2.2.2.2.2.2.2.2.2.2.2.2.2.1,(a.2.2.2.2.2.2.2.2.2.2.2.2.2.2.2.1,((a.2.2.2.2.2.2.2.2.2.2.2.2.2.2.2.2.1,a.2.2.2.2.2.2.2.2.2.2.2.2.2.2.2.2.2.1),(a.2.2.2.2.2.2.2.2.2.2.2.2.2.2.2.2.2.2.1,(a.2.2.2.2.2.2.2.2.2.2.2.2.2.2.2.2.2.2.2.1,(a.2.2.2.2.2.2.2.2.2.2.2.2.2.2.2.2.2.2.2.2.2.2,(i.1,(n.1,a9)))))))),o.2.1,o.2.2)) (
 some ((a.2.2.2.2.2.2.2.2.2.2.2.2.2.2.1,(a.2.2.2.2.2.2.2.2.2.2.2.2.2.2.2.1,((a.2.2.2.2.2.2.2.2.2.2.2.2.2.2.2.2.1,a.2.2.2.2.2.2.2.2.2.2.2.2.2.2.2.2.2.1),(a.2.2.2.2.2.2.2.2.2.2.2.2.2.2.2.2.2.2.1,(a.2.2.2.2.2.2.2.2.2.2.2.2.2.2.2.2.2.2.2.1,(a.2.2.2.2.2.2.2.2.2.2.2.2.2.2.2.2.2.2.2.2.2.2,(i.1,(a.2.2.2.2.2.2.2.2.2.2.2.2.2.2.2.2.2.2.2.2.1,a.2.2.2.2.2.2.2.2.2.2.2.2.2.2.2.2.2.2.2.2.2.1)))))))),e.2.1,e.2.2))) (
 (j0U g.2.1 g.2.2 4).bind fun d=>
 let a6:=(Int.ofNat (List.length a.2.2.2.2.1))
 cond (cond d.1 (decide (a6>0)) false) (
 let b1:=(Int.ofNat (List.length a.2.2.2.2.1))
 (j03 d.2.1 d.2.2 b1).bind fun m=>
 (j03 m.2.1 m.2.2 2).bind fun p=>
 let b0:=(w64 (1+p.1))
 some ((a.2.2.2.2.2.2.2.2.2.2.2.2.2.2.1,(a.2.2.2.2.2.2.2.2.2.2.2.2.2.2.2.1,((a.2.2.2.2.2.2.2.2.2.2.2.2.2.2.2.2.1,a.2.2.2.2.2.2.2.2.2.2.2.2.2.2.2.2.2.1),(a.2.2.2.2.2.2.2.2.2.2.2.2.2.2.2.2.2.2.1,(a.2.2.2.2.2.2.2.2.2.2.2.2.2.2.2.2.2.2.2.1,(a.2.2.2.2.2.2.2.2.2.2.2.2.2.2.2.2.2.2.2.2.2.2,(([]:Tn2),(m.1,b0)))))))),p.2.1,p.2.2)) (
 some ((a.2.2.2.2.2.2.2.2.2.2.2.2.2.2.1,(a.2.2.2.2.2.2.2.2.2.2.2.2.2.2.2.1,((a.2.2.2.2.2.2.2.2.2.2.2.2.2.2.2.2.1,a.2.2.2.2.2.2.2.2.2.2.2.2.2.2.2.2.2.1),(a.2.2.2.2.2.2.2.2.2.2.2.2.2.2.2.2.2.2.1,(a.2.2.2.2.2.2.2.2.2.2.2.2.2.2.2.2.2.2.2.1,(a.2.2.2.2.2.2.2.2.2.2.2.2.2.2.2.2.2.2.2.2.2.2,(([]:Tn2),(a.2.2.2.2.2.2.2.2.2.2.2.2.2.2.2.2.2.2.2.2.1,a.2.2.2.2.2.2.2.2.2.2.2.2.2.2.2.2.2.2.2.2.2.1)))))))),d.2.1,d.2.2))))
def j2h (d:(List Int)) (a:Int):Option (Int×(List Int)×Int):=
 (j03 d a 576).bind fun e=>
 let j:=(w64 (3600*e.1))
 let i:=(w64 (1767139200+j))
 (j0U e.2.1 e.2.2 3).bind fun b=>
 cond b.1 (
 let f:(List Int):=[(-1),1,1800,3599]
 (j15 b.2.1 b.2.2 f).bind fun c=>
 let g:=(w64 (i+c.1))
 some (g,c.2.1,c.2.2)) (
 some (i,b.2.1,b.2.2))
def j4Z (m:(List Int)) (j:Int) (n:Tn76):Option (Tn28×(List Int)×Int):=
 let k:=(Int.ofNat (List.length n.2.1))
 (j03 m j 3).bind fun a=>
 (j03 a.2.1 a.2.2 k).bind fun e=>
 (j2h e.2.1 e.2.2).bind fun b=>
 let p:(List Int):=[3600,86400,7,259200,40000]
 (j15 b.2.1 b.2.2 p).bind fun c=>
 let f:=(w64 (b.1+c.1))
 cond (a.1==2) (
 cond (decide (k<2)) (
 some ((0,(e.1,(0,(b.1,f)))),c.2.1,c.2.2)) (
 let o:=(w64 (e.1+1))
 let r:=(w64 (k-1))
 (j03 c.2.1 c.2.2 r).bind fun g=>
 let q:=(w64 (o+g.1))
 cond (!(k==0)) (
 let l:=(Int.tmod q k)
 cond (a.1==1) (
 (j0U g.2.1 g.2.2 4).bind fun i=>
 cond i.1 (
 some ((a.1,((-1),(l,(b.1,f)))),i.2.1,i.2.2)) (
 some ((a.1,(e.1,(l,(b.1,f)))),i.2.1,i.2.2))) (
 some ((a.1,(e.1,(l,(b.1,f)))),g.2.1,g.2.2))) none)) (
 cond (a.1==1) (
 (j0U c.2.1 c.2.2 4).bind fun d=>
 cond d.1 (
 some ((a.1,((-1),(0,(b.1,f)))),d.2.1,d.2.2)) (
 some ((a.1,(e.1,(0,(b.1,f)))),d.2.1,d.2.2))) (
 some ((a.1,(e.1,(0,(b.1,f)))),c.2.1,c.2.2)))
def j2i [LP] (r q:Int) (o:(List Int)) (j:Int) (n:Tn59) (d:Tn53) (e:Tn30) (p:ByteArray) (c:Tn70) (b:Tn65):Option ((Int×Int×(List Int)×Int×Tn59×Tn53×Tn30×ByteArray×Tn70×Tn65) ⊕ ((Int×(List Int)×Int×Tn59×Tn53×Tn30×ByteArray×Tn70×Tn65))):=
 cond (decide (q>0)) (
 (jcN).bind fun f=>
 let g:=(Int.ofNat (List.length b))
 cond (inR g (List.length f)) (
 let m:=(List.getD f (Int.toNat g) ByteArray.empty)
 (j6Z o j (n,(d,(e,c))) m).bind fun a=>
 let i:Tn65:=[(a.1.1,(a.1.2.1,((a.1.2.2.1.1,a.1.2.2.1.2),(a.1.2.2.2.1,(a.1.2.2.2.2.1,(a.1.2.2.2.2.2.1,(a.1.2.2.2.2.2.2.1,(a.1.2.2.2.2.2.2.2.1,a.1.2.2.2.2.2.2.2.2))))))))]
 cond (decide (List.length b+List.length i≤j0m)) (
 let l:Tn65:=(b++i)
 let k:=(w64 (q-1))
 some (.inl (r,k,a.2.1,a.2.2,n,d,e,p,c,l))) none) none) (
 some (.inr (r,o,j,n,d,e,p,c,b)))
def j3t [LP] (k j:Int) (f:(List Int)) (c:Int) (i:Tn59) (b:Tn53) (d:Tn30) (g:ByteArray) (a:Tn70) (e:Tn65):Option ((Int×(List Int)×Int×Tn59×Tn53×Tn30×ByteArray×Tn70×Tn65)):=
 LP.lp (jqK (j2i)) (k,j,f,c,i,b,d,g,a,e)
theorem j7r (k j f c i b d g a e):j3t k j f c i b d g a e=lpK (j2i k j f c i b d g a e) (fun h=>j3t h.1 h.2.1 h.2.2.1 h.2.2.2.1 h.2.2.2.2.1 h.2.2.2.2.2.1 h.2.2.2.2.2.2.1 h.2.2.2.2.2.2.2.1 h.2.2.2.2.2.2.2.2.1 h.2.2.2.2.2.2.2.2.2):=j06 _ _
def j2j (p o:Int) (m:(List Int)) (g:Int) (l:Tn59) (c:Tn53) (e:Tn30) (n:ByteArray) (b:Tn70) (i:Tn65) (d:Tn34):Option ((Int×Int×(List Int)×Int×Tn59×Tn53×Tn30×ByteArray×Tn70×Tn65×Tn34) ⊕ ((Int×(List Int)×Int×Tn59×Tn53×Tn30×ByteArray×Tn70×Tn65×Tn34))):=
 cond (decide (o>0)) (
 (j4Z m g (l,(c,(e,b)))).bind fun a=>
 let f:Tn34:=[(a.1.1,(a.1.2.1,(a.1.2.2.1,(a.1.2.2.2.1,a.1.2.2.2.2))))]
 cond (decide (List.length d+List.length f≤j0m)) (
 let k:Tn34:=(d++f)
 let j:=(w64 (o-1))
 some (.inl (p,j,a.2.1,a.2.2,l,c,e,n,b,i,k))) none) (
 some (.inr (p,m,g,l,c,e,n,b,i,d)))
def j4E [LP] (l k:Int) (g:(List Int)) (d:Int) (j:Tn59) (b:Tn53) (e:Tn30) (i:ByteArray) (a:Tn70) (f:Tn65) (c:Tn34):Option ((Int×(List Int)×Int×Tn59×Tn53×Tn30×ByteArray×Tn70×Tn65×Tn34)):=
 LP.lp (jqL (j2j)) (l,k,g,d,j,b,e,i,a,f,c)
theorem j7s (l k g d j b e i a f c):j4E l k g d j b e i a f c=lpK (j2j l k g d j b e i a f c) (fun h=>j4E h.1 h.2.1 h.2.2.1 h.2.2.2.1 h.2.2.2.2.1 h.2.2.2.2.2.1 h.2.2.2.2.2.2.1 h.2.2.2.2.2.2.2.1 h.2.2.2.2.2.2.2.2.1 h.2.2.2.2.2.2.2.2.2.1 h.2.2.2.2.2.2.2.2.2.2):=j06 _ _
def j2k [LP] (s:Int) (q:(List Int)) (k:Int) (r:Tn59) (j:Tn53) (l:Tn30) (e:Tn70):Option ((Int×(List Int)×Int×Tn59×Tn53×Tn30×Tn70) ⊕ (((List Int)×Int×Tn59×Tn53×Tn30×Tn70))):=
 cond (decide (s>0)) (
 let i:(List ByteArray):=[(ByteArray.mk #[102,105,114,115,116]),(ByteArray.mk #[115,101,99,111,110,100]),(ByteArray.mk #[116,104,105,114,100])]
 let m:=(Int.ofNat (List.length e))
 let f:=(Int.tmod m 3)
 cond (inR f (List.length i)) (
 let n:=(List.getD i (Int.toNat f) ByteArray.empty)
 (j03 q k 4).bind fun c=>
 (j3t s c.1 c.2.1 c.2.2 r j l n e ([]:Tn65)).bind fun b=>
 (j03 b.2.1 b.2.2.1 4).bind fun d=>
 (j4E b.1 d.1 d.2.1 d.2.2 b.2.2.2.1 b.2.2.2.2.1 b.2.2.2.2.2.1 b.2.2.2.2.2.2.1 b.2.2.2.2.2.2.2.1 b.2.2.2.2.2.2.2.2 ([]:Tn34)).bind fun a=>
 let g:Tn70:=[(a.2.2.2.2.2.2.1,(a.2.2.2.2.2.2.2.2.1,a.2.2.2.2.2.2.2.2.2))]
 cond (decide (List.length a.2.2.2.2.2.2.2.1+List.length g≤j0m)) (
 let p:Tn70:=(a.2.2.2.2.2.2.2.1++g)
 let o:=(w64 (a.1-1))
 some (.inl (o,a.2.1,a.2.2.1,a.2.2.2.1,a.2.2.2.2.1,a.2.2.2.2.2.1,p))) none) none) (
 some (.inr (q,k,r,j,l,e)))
def j4F [LP] (g:Int) (e:(List Int)) (c:Int) (f:Tn59) (b:Tn53) (d:Tn30) (a:Tn70):Option (((List Int)×Int×Tn59×Tn53×Tn30×Tn70)):=
 LP.lp (unc7 (j2k)) (g,e,c,f,b,d,a)
theorem j7t (g e c f b d a):j4F g e c f b d a=lpK (j2k g e c f b d a) (fun h=>j4F h.1 h.2.1 h.2.2.1 h.2.2.2.1 h.2.2.2.2.1 h.2.2.2.2.2.1 h.2.2.2.2.2.2):=j06 _ _
def j4O [LP] (e:(List Int)) (c f:Int):Option (Tn76×(List Int)×Int):=
 (j6Y e c).bind fun a=>
 (j03 a.2.1 a.2.2 f).bind fun d=>
 let g:=(w64 (1+d.1))
 (j4F g d.2.1 d.2.2 a.1.1 a.1.2.1 a.1.2.2.1 ([]:Tn70)).bind fun b=>
 some ((b.2.2.1,(b.2.2.2.1,(b.2.2.2.2.1,b.2.2.2.2.2))),b.1,b.2.1)
def j3b (e:Int) (l:ByteArray) (k:Int) (c:Tn47) (m:ByteArray) (j:Int) (d:Tn47):Option ((Int×ByteArray×Int×Tn47×ByteArray×Int×Tn47) ⊕ (Bool ⊕ Unit)):=
 let f:=(Int.ofNat (List.length c))
 cond (decide (e<f)) (
 cond (inR e (List.length c)) (
 let a:=(List.getD c (Int.toNat e) (0,(0,(0,(0,(0,(0,0)))))))
 cond (inR e (List.length d)) (
 let b:=(List.getD d (Int.toNat e) (0,(0,(0,(0,(0,(0,0)))))))
 let i:Bool:=(!((a.1==b.1)&&((a.2.1==b.2.1)&&((a.2.2.1==b.2.2.1)&&((a.2.2.2.1==b.2.2.2.1)&&((a.2.2.2.2.1==b.2.2.2.2.1)&&((a.2.2.2.2.2.1==b.2.2.2.2.2.1)&&(a.2.2.2.2.2.2==b.2.2.2.2.2.2))))))))
 cond i (
 some (.inr (.inl false))) (
 let g:=(w64 (e+1))
 some (.inl (g,l,k,c,m,j,d)))) none) none) (
 some (.inr (.inr ())))
def j5x [LP] (g:Int) (e:ByteArray) (d:Int) (c:Tn47) (f:ByteArray) (b:Int) (a:Tn47):Option (Bool ⊕ Unit):=
 LP.lp (unc7 (j3b)) (g,e,d,c,f,b,a)
theorem ja5 (g e d c f b a):j5x g e d c f b a=lpK (j3b g e d c f b a) (fun h=>j5x h.1 h.2.1 h.2.2.1 h.2.2.2.1 h.2.2.2.2.1 h.2.2.2.2.2.1 h.2.2.2.2.2.2):=j06 _ _
def j89 [LP] (a b:Tn57):Option (Bool):=
 let c:=(Int.ofNat (List.length a.2.2))
 let e:=(Int.ofNat (List.length b.2.2))
 let d:Bool:=(cond (cond (!(ByteArray.toList a.1==ByteArray.toList b.1)) true (a.2.1 != b.2.1)) true (c != e))
 cond d (
 some false) (
 (j5x 0 a.1 a.2.1 a.2.2 b.1 b.2.1 b.2.2).bind fun f=>
 sumC f (fun g=>
 some g) (fun i=>
 some true))
def j2x (f g:Tn2) (c:Int):Option ((Tn2×Tn2×Int) ⊕ (Bool ⊕ Unit)):=
 let e:=(Int.ofNat (List.length f))
 cond (decide (c<e)) (
 cond (inR c (List.length f)) (
 let b:=(List.getD f (Int.toNat c) (0,0))
 cond (inR c (List.length g)) (
 let a:=(List.getD g (Int.toNat c) (0,0))
 cond (!((b.1==a.1)&&(b.2==a.2))) (
 some (.inr (.inl false))) (
 let d:=(w64 (c+1))
 some (.inl (f,g,d)))) none) none) (
 some (.inr (.inr ())))
def j3O [LP] (a b:Tn2) (c:Int):Option (Bool ⊕ Unit):=
 LP.lp (unc3 (j2x)) (a,b,c)
theorem j8a (a b c):j3O a b c=lpK (j2x a b c) (fun h=>j3O h.1 h.2.1 h.2.2):=j06 _ _
def j5y [LP] (a b:Tn2):Option (Bool):=
 let e:=(Int.ofNat (List.length a))
 let d:=(Int.ofNat (List.length b))
 cond (e != d) (
 some false) (
 (j3O a b 0).bind fun c=>
 sumC c (fun f=>
 some f) (fun g=>
 some true))
def j3c (d g:(List Int)) (a:Int):Option (((List Int)×(List Int)×Int) ⊕ (Bool ⊕ Unit)):=
 let c:=(Int.ofNat (List.length d))
 cond (decide (a<c)) (
 cond (inR a (List.length d)) (
 let f:=(List.getD d (Int.toNat a) 0)
 cond (inR a (List.length g)) (
 let e:=(List.getD g (Int.toNat a) 0)
 cond (f != e) (
 some (.inr (.inl false))) (
 let b:=(w64 (a+1))
 some (.inl (d,g,b)))) none) none) (
 some (.inr (.inr ())))
def j5z [LP] (a b:(List Int)) (c:Int):Option (Bool ⊕ Unit):=
 LP.lp (unc3 (j3c)) (a,b,c)
theorem ja6 (a b c):j5z a b c=lpK (j3c a b c) (fun h=>j5z h.1 h.2.1 h.2.2):=j06 _ _
def j8b [LP] (a b:(List Int)):Option (Bool):=
 let e:=(Int.ofNat (List.length a))
 let d:=(Int.ofNat (List.length b))
 cond (e != d) (
 some false) (
 (j5z a b 0).bind fun c=>
 sumC c (fun f=>
 some f) (fun g=>
 some true))
def j70 [LP] (a b:Tn64):Option (Bool):=
 let g:Bool:=(cond (cond (ByteArray.toList a.1==ByteArray.toList b.1) (a.2.1==b.2.1) false) ((a.2.2.1.1==b.2.2.1.1)&&(a.2.2.1.2==b.2.2.1.2)) false)
 let f:Bool:=(cond (cond g (a.2.2.2.1==b.2.2.2.1) false) (a.2.2.2.2.1==b.2.2.2.2.1) false)
 cond f (
 (j8b a.2.2.2.2.2.1 b.2.2.2.2.2.1).bind fun d=>
 cond d (
 (j5y a.2.2.2.2.2.2.1 b.2.2.2.2.2.2.1).bind fun e=>
 let c:Bool:=(cond (cond e (a.2.2.2.2.2.2.2.1==b.2.2.2.2.2.2.2.1) false) (a.2.2.2.2.2.2.2.2==b.2.2.2.2.2.2.2.2) false)
 some c) (
 some false)) (
 some false)
def j2l [LP] (e:Int) (l:ByteArray) (c:Tn65) (g:Tn34) (m:ByteArray) (d:Tn65) (f:Tn34):Option ((Int×ByteArray×Tn65×Tn34×ByteArray×Tn65×Tn34) ⊕ (Bool ⊕ (ByteArray×Tn65×Tn34×ByteArray×Tn65×Tn34))):=
 let k:=(Int.ofNat (List.length c))
 cond (decide (e<k)) (
 cond (inR e (List.length c)) (
 let a:=(List.getD c (Int.toNat e) (ByteArray.empty,(0,((0,0),(0,(0,(([]:(List Int)),(([]:Tn2),(0,0)))))))))
 cond (inR e (List.length d)) (
 let b:=(List.getD d (Int.toNat e) (ByteArray.empty,(0,((0,0),(0,(0,(([]:(List Int)),(([]:Tn2),(0,0)))))))))
 (j70 (a.1,(a.2.1,((a.2.2.1.1,a.2.2.1.2),(a.2.2.2.1,(a.2.2.2.2.1,(a.2.2.2.2.2.1,(a.2.2.2.2.2.2.1,(a.2.2.2.2.2.2.2.1,a.2.2.2.2.2.2.2.2)))))))) (b.1,(b.2.1,((b.2.2.1.1,b.2.2.1.2),(b.2.2.2.1,(b.2.2.2.2.1,(b.2.2.2.2.2.1,(b.2.2.2.2.2.2.1,(b.2.2.2.2.2.2.2.1,b.2.2.2.2.2.2.2.2))))))))).bind fun i=>
 cond (!i) (
 some (.inr (.inl false))) (
 let j:=(w64 (e+1))
 some (.inl (j,l,c,g,m,d,f)))) none) none) (
 some (.inr (.inr (l,c,g,m,d,f))))
def j3u [LP] (g:Int) (e:ByteArray) (d:Tn65) (c:Tn34) (f:ByteArray) (b:Tn65) (a:Tn34):Option (Bool ⊕ (ByteArray×Tn65×Tn34×ByteArray×Tn65×Tn34)):=
 LP.lp (unc7 (j2l)) (g,e,d,c,f,b,a)
theorem j7u (g e d c f b a):j3u g e d c f b a=lpK (j2l g e d c f b a) (fun h=>j3u h.1 h.2.1 h.2.2.1 h.2.2.2.1 h.2.2.2.2.1 h.2.2.2.2.2.1 h.2.2.2.2.2.2):=j06 _ _
def j2m (e:Int) (l:ByteArray) (k:Tn65) (c:Tn34) (m:ByteArray) (j:Tn65) (d:Tn34):Option ((Int×ByteArray×Tn65×Tn34×ByteArray×Tn65×Tn34) ⊕ (Bool ⊕ Unit)):=
 let i:=(Int.ofNat (List.length c))
 cond (decide (e<i)) (
 cond (inR e (List.length c)) (
 let a:=(List.getD c (Int.toNat e) (0,(0,(0,(0,0)))))
 cond (inR e (List.length d)) (
 let b:=(List.getD d (Int.toNat e) (0,(0,(0,(0,0)))))
 let f:Bool:=(!((a.1==b.1)&&((a.2.1==b.2.1)&&((a.2.2.1==b.2.2.1)&&((a.2.2.2.1==b.2.2.2.1)&&(a.2.2.2.2==b.2.2.2.2))))))
 cond f (
 some (.inr (.inl false))) (
 let g:=(w64 (e+1))
 some (.inl (g,l,k,c,m,j,d)))) none) none) (
 some (.inr (.inr ())))
def j3v [LP] (g:Int) (e:ByteArray) (c:Tn65) (b:Tn34) (f:ByteArray) (a:Tn65) (d:Tn34):Option (Bool ⊕ Unit):=
 LP.lp (unc7 (j2m)) (g,e,c,b,f,a,d)
theorem j7v (g e c b f a d):j3v g e c b f a d=lpK (j2m g e c b f a d) (fun h=>j3v h.1 h.2.1 h.2.2.1 h.2.2.2.1 h.2.2.2.2.1 h.2.2.2.2.2.1 h.2.2.2.2.2.2):=j06 _ _
def j3K [LP] (a b:Tn69):Option (Bool):=
 let d:=(Int.ofNat (List.length a.2.1))
 let f:=(Int.ofNat (List.length b.2.1))
 let j:=(Int.ofNat (List.length a.2.2))
 let i:=(Int.ofNat (List.length b.2.2))
 let e:Bool:=(cond (cond (!(ByteArray.toList a.1==ByteArray.toList b.1)) true (d != f)) true (j != i))
 cond e (
 some false) (
 (j3u 0 a.1 a.2.1 a.2.2 b.1 b.2.1 b.2.2).bind fun k=>
 sumC k (fun n=>
 some n) (fun c=>
 (j3v 0 c.1 c.2.1 c.2.2.1 c.2.2.2.1 c.2.2.2.2.1 c.2.2.2.2.2).bind fun l=>
 sumC l (fun g=>
 some g) (fun m=>
 some true)))
def j4P [LP] (c:Int) (d:Tn59) (j:Tn53) (g:Tn30) (i:Tn70) (o:Tn59) (f:Tn53) (e:Tn30) (k:Tn70):Option ((Int×Tn59×Tn53×Tn30×Tn70×Tn59×Tn53×Tn30×Tn70) ⊕ (Bool ⊕ (Tn59×Tn53×Tn30×Tn70×Tn59×Tn53×Tn30×Tn70))):=
 let l:=(Int.ofNat (List.length d))
 cond (decide (c<l)) (
 cond (inR c (List.length d)) (
 let a:=(List.getD d (Int.toNat c) (ByteArray.empty,(0,([]:Tn47))))
 cond (inR c (List.length o)) (
 let b:=(List.getD o (Int.toNat c) (ByteArray.empty,(0,([]:Tn47))))
 (j89 (a.1,(a.2.1,a.2.2)) (b.1,(b.2.1,b.2.2))).bind fun m=>
 cond (!m) (
 some (.inr (.inl false))) (
 let n:=(w64 (c+1))
 some (.inl (n,d,j,g,i,o,f,e,k)))) none) none) (
 some (.inr (.inr (d,j,g,i,o,f,e,k))))
def j9h [LP] (j:Int) (g:Tn59) (e:Tn53) (c:Tn30) (d:Tn70) (i:Tn59) (b:Tn53) (a:Tn30) (f:Tn70):Option (Bool ⊕ (Tn59×Tn53×Tn30×Tn70×Tn59×Tn53×Tn30×Tn70)):=
 LP.lp (unc9 (j4P)) (j,g,e,c,d,i,b,a,f)
theorem jd8 (j g e c d i b a f):j9h j g e c d i b a f=lpK (j4P j g e c d i b a f) (fun h=>j9h h.1 h.2.1 h.2.2.1 h.2.2.2.1 h.2.2.2.2.1 h.2.2.2.2.2.1 h.2.2.2.2.2.2.1 h.2.2.2.2.2.2.2.1 h.2.2.2.2.2.2.2.2):=j06 _ _
def j4Q [LP] (e:Int) (o:Tn59) (c:Tn53) (g:Tn30) (j:Tn70) (q:Tn59) (d:Tn53) (l:Tn30) (f:Tn70):Option ((Int×Tn59×Tn53×Tn30×Tn70×Tn59×Tn53×Tn30×Tn70) ⊕ (Bool ⊕ (Tn59×Tn53×Tn30×Tn70×Tn59×Tn53×Tn30×Tn70))):=
 let m:=(Int.ofNat (List.length c))
 cond (decide (e<m)) (
 cond (inR e (List.length c)) (
 let b:=(List.getD c (Int.toNat e) (ByteArray.empty,(0,(([]:Tn2),(0,(0,false))))))
 cond (inR e (List.length d)) (
 let a:=(List.getD d (Int.toNat e) (ByteArray.empty,(0,(([]:Tn2),(0,(0,false))))))
 let p:Bool:=(cond (!(ByteArray.toList b.1==ByteArray.toList a.1)) true (b.2.1 != a.2.1))
 cond p (
 some (.inr (.inl false))) (
 (j5y b.2.2.1 a.2.2.1).bind fun i=>
 let k:Bool:=(cond (cond (!i) true (b.2.2.2.1 != a.2.2.2.1)) true (b.2.2.2.2.1 != a.2.2.2.2.1))
 cond (cond k true (!(b.2.2.2.2.2==a.2.2.2.2.2))) (
 some (.inr (.inl false))) (
 let n:=(w64 (e+1))
 some (.inl (n,o,c,g,j,q,d,l,f))))) none) none) (
 some (.inr (.inr (o,c,g,j,q,d,l,f))))
def j9i [LP] (j:Int) (g:Tn59) (e:Tn53) (c:Tn30) (d:Tn70) (i:Tn59) (b:Tn53) (f:Tn30) (a:Tn70):Option (Bool ⊕ (Tn59×Tn53×Tn30×Tn70×Tn59×Tn53×Tn30×Tn70)):=
 LP.lp (unc9 (j4Q)) (j,g,e,c,d,i,b,f,a)
theorem jd9 (j g e c d i b f a):j9i j g e c d i b f a=lpK (j4Q j g e c d i b f a) (fun h=>j9i h.1 h.2.1 h.2.2.1 h.2.2.2.1 h.2.2.2.2.1 h.2.2.2.2.2.1 h.2.2.2.2.2.2.1 h.2.2.2.2.2.2.2.1 h.2.2.2.2.2.2.2.2):=j06 _ _
def j4R [LP] (e:Int) (o:Tn59) (l:Tn53) (b:Tn30) (k:Tn70) (p:Tn59) (i:Tn53) (d:Tn30) (m:Tn70):Option ((Int×Tn59×Tn53×Tn30×Tn70×Tn59×Tn53×Tn30×Tn70) ⊕ (Bool ⊕ (Tn59×Tn53×Tn30×Tn70×Tn59×Tn53×Tn30×Tn70))):=
 let g:=(Int.ofNat (List.length b))
 cond (decide (e<g)) (
 cond (inR e (List.length b)) (
 let c:=(List.getD b (Int.toNat e) (ByteArray.empty,(0,([]:(List Int)))))
 cond (inR e (List.length d)) (
 let a:=(List.getD d (Int.toNat e) (ByteArray.empty,(0,([]:(List Int)))))
 let n:Bool:=(cond (!(ByteArray.toList c.1==ByteArray.toList a.1)) true (c.2.1 != a.2.1))
 cond n (
 some (.inr (.inl false))) (
 (j8b c.2.2 a.2.2).bind fun f=>
 cond (!f) (
 some (.inr (.inl false))) (
 let j:=(w64 (e+1))
 some (.inl (j,o,l,b,k,p,i,d,m))))) none) none) (
 some (.inr (.inr (o,l,b,k,p,i,d,m))))
def j9j [LP] (j:Int) (g:Tn59) (d:Tn53) (b:Tn30) (c:Tn70) (i:Tn59) (a:Tn53) (e:Tn30) (f:Tn70):Option (Bool ⊕ (Tn59×Tn53×Tn30×Tn70×Tn59×Tn53×Tn30×Tn70)):=
 LP.lp (unc9 (j4R)) (j,g,d,b,c,i,a,e,f)
theorem jda (j g d b c i a e f):j9j j g d b c i a e f=lpK (j4R j g d b c i a e f) (fun h=>j9j h.1 h.2.1 h.2.2.1 h.2.2.2.1 h.2.2.2.2.1 h.2.2.2.2.2.1 h.2.2.2.2.2.2.1 h.2.2.2.2.2.2.2.1 h.2.2.2.2.2.2.2.2):=j06 _ _
def j4S [LP] (c:Int) (n:Tn59) (l:Tn53) (k:Tn30) (d:Tn70) (o:Tn59) (j:Tn53) (m:Tn30) (e:Tn70):Option ((Int×Tn59×Tn53×Tn30×Tn70×Tn59×Tn53×Tn30×Tn70) ⊕ (Bool ⊕ Unit)):=
 let i:=(Int.ofNat (List.length d))
 cond (decide (c<i)) (
 cond (inR c (List.length d)) (
 let a:=(List.getD d (Int.toNat c) (ByteArray.empty,(([]:Tn65),([]:Tn34))))
 cond (inR c (List.length e)) (
 let b:=(List.getD e (Int.toNat c) (ByteArray.empty,(([]:Tn65),([]:Tn34))))
 (j3K (a.1,(a.2.1,a.2.2)) (b.1,(b.2.1,b.2.2))).bind fun f=>
 cond (!f) (
 some (.inr (.inl false))) (
 let g:=(w64 (c+1))
 some (.inl (g,n,l,k,d,o,j,m,e)))) none) none) (
 some (.inr (.inr ())))
def jbi [LP] (g:Int) (i:Tn59) (d:Tn53) (b:Tn30) (c:Tn70) (j:Tn59) (a:Tn53) (e:Tn30) (f:Tn70):Option (Bool ⊕ Unit):=
 LP.lp (unc9 (j4S)) (g,i,d,b,c,j,a,e,f)
theorem jdb (g i d b c j a e f):jbi g i d b c j a e f=lpK (j4S g i d b c j a e f) (fun h=>jbi h.1 h.2.1 h.2.2.1 h.2.2.2.1 h.2.2.2.2.1 h.2.2.2.2.2.1 h.2.2.2.2.2.2.1 h.2.2.2.2.2.2.2.1 h.2.2.2.2.2.2.2.2):=j06 _ _
def jew [LP] (a b:Tn76):Option (Bool):=
 let o:=(Int.ofNat (List.length a.1))
 let i:=(Int.ofNat (List.length b.1))
 let l:=(Int.ofNat (List.length a.2.1))
 let q:=(Int.ofNat (List.length b.2.1))
 let n:=(Int.ofNat (List.length a.2.2.1))
 let k:=(Int.ofNat (List.length b.2.2.1))
 let m:=(Int.ofNat (List.length a.2.2.2))
 let f:=(Int.ofNat (List.length b.2.2.2))
 cond (cond (cond (cond (o != i) true (l != q)) true (n != k)) true (m != f)) (
 some false) (
 (j9h 0 a.1 a.2.1 a.2.2.1 a.2.2.2 b.1 b.2.1 b.2.2.1 b.2.2.2).bind fun t=>
 sumC t (fun w=>
 some w) (fun e=>
 (j9i 0 e.1 e.2.1 e.2.2.1 e.2.2.2.1 e.2.2.2.2.1 e.2.2.2.2.2.1 e.2.2.2.2.2.2.1 e.2.2.2.2.2.2.2).bind fun r=>
 sumC r (fun p=>
 some p) (fun c=>
 (j9j 0 c.1 c.2.1 c.2.2.1 c.2.2.2.1 c.2.2.2.2.1 c.2.2.2.2.2.1 c.2.2.2.2.2.2.1 c.2.2.2.2.2.2.2).bind fun s=>
 sumC s (fun g=>
 some g) (fun d=>
 (jbi 0 d.1 d.2.1 d.2.2.1 d.2.2.2.1 d.2.2.2.2.1 d.2.2.2.2.2.1 d.2.2.2.2.2.2.1 d.2.2.2.2.2.2.2).bind fun u=>
 sumC u (fun j=>
 some j) (fun v=>
 some true)))))
def j2y [LP] (r:(List Int)) (f:Int) (v:Tn59) (k:Tn53) (j:Tn30) (o:Tn70) (t c e i l:Int) (u:Tn59) (n:Tn53) (m:Tn30) (g:Tn70):Option (((List Int)×Int×Tn59×Tn53×Tn30×Tn70×Int×Int×Int×Int×Int×Tn59×Tn53×Tn30×Tn70) ⊕ (Bool ⊕ Unit)):=
 cond (decide (f<8)) (
 cond (inR f 8) (
 let d:=(List.getD r (Int.toNat f) 0)
 (j56 (v,(k,(j,o))) 0 d).bind fun a=>
 (j56 (u,(n,(m,g))) 0 d).bind fun b=>
 cond (cond (decide (d<i)) true (decide (d≥l))) (
 cond (a != b) (
 some (.inr (.inl false))) (
 let p:=(w64 (f+1))
 some (.inl (r,p,v,k,j,o,t,c,e,i,l,u,n,m,g)))) (
 cond (cond (t==1) (b != c) false) (
 some (.inr (.inl false))) (
 let s:Bool:=(cond (cond (a==c) (b != e) false) true (cond (a==e) (b != c) false))
 let w:Bool:=(cond s true (cond (cond (a != c) (a != e) false) (b != a) false))
 cond (cond (t==2) w false) (
 some (.inr (.inl false))) (
 let q:=(w64 (f+1))
 some (.inl (r,q,v,k,j,o,t,c,e,i,l,u,n,m,g)))))) none) (
 some (.inr (.inr ())))
def j3P [LP] (l:(List Int)) (m:Int) (p:Tn59) (a:Tn53) (j:Tn30) (f:Tn70) (o b k g e:Int) (n:Tn59) (d:Tn53) (i:Tn30) (c:Tn70):Option (Bool ⊕ Unit):=
 LP.lp (jsW (j2y)) (l,m,p,a,j,f,o,b,k,g,e,n,d,i,c)
theorem j8c (l m p a j f o b k g e n d i c):j3P l m p a j f o b k g e n d i c=lpK (j2y l m p a j f o b k g e n d i c) (fun h=>j3P h.1 h.2.1 h.2.2.1 h.2.2.2.1 h.2.2.2.2.1 h.2.2.2.2.2.1 h.2.2.2.2.2.2.1 h.2.2.2.2.2.2.2.1 h.2.2.2.2.2.2.2.2.1 h.2.2.2.2.2.2.2.2.2.1 h.2.2.2.2.2.2.2.2.2.2.1 h.2.2.2.2.2.2.2.2.2.2.2.1 h.2.2.2.2.2.2.2.2.2.2.2.2.1 h.2.2.2.2.2.2.2.2.2.2.2.2.2.1 h.2.2.2.2.2.2.2.2.2.2.2.2.2.2):=j06 _ _
def j9k [LP] (e:(List Int)):Option (Bool):=
 (jfg e).bind fun m=>
 cond (!m) (
 (j7L).bind fun q=>
 some q) (
 (jh8 e).bind fun j=>
 (j4O j.1 j.2 1).bind fun a=>
 (j4Z a.2.1 a.2.2 (a.1.1,(a.1.2.1,(a.1.2.2.1,a.1.2.2.2)))).bind fun b=>
 (j4X (a.1.1,(a.1.2.1,(a.1.2.2.1,a.1.2.2.2))) 0 (b.1.1,(b.1.2.1,(b.1.2.2.1,(b.1.2.2.2.1,b.1.2.2.2.2))))).bind fun c=>
 let v:=(Int.ofNat (List.length c.1.2.2.2))
 cond (cond (c.2 != 0) true (v != 1)) (
 some false) (
 cond (inR 0 (List.length c.1.2.2.2)) (
 let s:=(List.getD c.1.2.2.2 0 (ByteArray.empty,(([]:Tn65),([]:Tn34))))
 let u:=(Int.ofNat (List.length s.2.2))
 let l:=(w64 (u-1))
 (j41 (c.1.1,(c.1.2.1,(c.1.2.2.1,c.1.2.2.2))) 0 l).bind fun d=>
 cond (d.2 != 0) (
 some false) (
 (jew (d.1.1,(d.1.2.1,(d.1.2.2.1,d.1.2.2.2))) (a.1.1,(a.1.2.1,(a.1.2.2.1,a.1.2.2.2)))).bind fun n=>
 cond (!n) (
 some false) (
 let t:=(w64 (b.1.2.2.2.1-1))
 let r:=(w64 (b.1.2.2.2.2-1))
 (j2h b.2.1 b.2.2).bind fun f=>
 (j2h f.2.1 f.2.2).bind fun g=>
 (j2h g.2.1 g.2.2).bind fun i=>
 (j2h i.2.1 i.2.2).bind fun p=>
 let o:(List Int):=[t,b.1.2.2.2.1,r,b.1.2.2.2.2,f.1,g.1,i.1,p.1]
 (j3P o 0 a.1.1 a.1.2.1 a.1.2.2.1 a.1.2.2.2 b.1.1 b.1.2.1 b.1.2.2.1 b.1.2.2.2.1 b.1.2.2.2.2 c.1.1 c.1.2.1 c.1.2.2.1 c.1.2.2.2).bind fun w=>
 sumC w (fun x=>
 some x) (fun y=>
 (j7L).bind fun k=>
 some k)))) none))
def jaL (a c b:Int):Option (Bool):=
 some (cond (decide (a≥c)) (decide (a≤b)) false)
def jco (a:Tn43):Option (Bool):=
 (jaL a.1 1970 2240).bind fun i=>
 cond i (
 (jaL a.2.1 a.1 2240).bind fun c=>
 cond c (
 (jaL a.2.2.1 1 12).bind fun g=>
 cond g (
 (jaL a.2.2.2.1 1 5).bind fun e=>
 cond e (
 (jaL a.2.2.2.2.1 0 6).bind fun f=>
 cond f (
 (jaL a.2.2.2.2.2.1 0 86399).bind fun b=>
 cond b (
 (jaL a.2.2.2.2.2.2 (-64800) 64800).bind fun d=>
 some d) (
 some false)) (
 some false)) (
 some false)) (
 some false)) (
 some false)) (
 some false)
def j1t (a:Int):Option (Bool):=
 let c:=(Int.tmod a 4)
 let d:=(Int.tmod a 100)
 let b:=(Int.tmod a 400)
 some (cond (c==0) (cond (d != 0) true (b==0)) false)
def jbj (b a:Int):Option (Int):=
 cond (a==1) (
 cond (a==1) (
 some 31) (
 cond (a==4) (
 cond (a==4) (
 some 30) (
 cond (a==2) (
 (j1t b).bind fun a4=>
 cond a4 (
 some 29) (
 some 28)) (
 some 0))) (
 cond (a==6) (
 cond (a==6) (
 some 30) (
 cond (a==2) (
 (j1t b).bind fun z=>
 cond z (
 some 29) (
 some 28)) (
 some 0))) (
 cond (a==9) (
 cond (a==9) (
 some 30) (
 cond (a==2) (
 (j1t b).bind fun y=>
 cond y (
 some 29) (
 some 28)) (
 some 0))) (
 cond (a==11) (
 some 30) (
 cond (a==2) (
 (j1t b).bind fun v=>
 cond v (
 some 29) (
 some 28)) (
 some 0))))))) (
 cond (a==3) (
 cond (a==3) (
 some 31) (
 cond (a==4) (
 cond (a==4) (
 some 30) (
 cond (a==2) (
 (j1t b).bind fun x=>
 cond x (
 some 29) (
 some 28)) (
 some 0))) (
 cond (a==6) (
 cond (a==6) (
 some 30) (
 cond (a==2) (
 (j1t b).bind fun w=>
 cond w (
 some 29) (
 some 28)) (
 some 0))) (
 cond (a==9) (
 cond (a==9) (
 some 30) (
 cond (a==2) (
 (j1t b).bind fun a0=>
 cond a0 (
 some 29) (
 some 28)) (
 some 0))) (
 cond (a==11) (
 some 30) (
 cond (a==2) (
 (j1t b).bind fun a2=>
 cond a2 (
 some 29) (
 some 28)) (
 some 0))))))) (
 cond (a==5) (
 cond (a==5) (
 some 31) (
 cond (a==4) (
 cond (a==4) (
 some 30) (
 cond (a==2) (
 (j1t b).bind fun a3=>
 cond a3 (
 some 29) (
 some 28)) (
 some 0))) (
 cond (a==6) (
 cond (a==6) (
 some 30) (
 cond (a==2) (
 (j1t b).bind fun a1=>
 cond a1 (
 some 29) (
 some 28)) (
 some 0))) (
 cond (a==9) (
 cond (a==9) (
 some 30) (
 cond (a==2) (
 (j1t b).bind fun n=>
 cond n (
 some 29) (
 some 28)) (
 some 0))) (
 cond (a==11) (
 some 30) (
 cond (a==2) (
 (j1t b).bind fun m=>
 cond m (
 some 29) (
 some 28)) (
 some 0))))))) (
 cond (a==7) (
 cond (a==7) (
 some 31) (
 cond (a==4) (
 cond (a==4) (
 some 30) (
 cond (a==2) (
 (j1t b).bind fun k=>
 cond k (
 some 29) (
 some 28)) (
 some 0))) (
 cond (a==6) (
 cond (a==6) (
 some 30) (
 cond (a==2) (
 (j1t b).bind fun u=>
 cond u (
 some 29) (
 some 28)) (
 some 0))) (
 cond (a==9) (
 cond (a==9) (
 some 30) (
 cond (a==2) (
 (j1t b).bind fun r=>
 cond r (
 some 29) (
 some 28)) (
 some 0))) (
 cond (a==11) (
 some 30) (
 cond (a==2) (
 (j1t b).bind fun l=>
 cond l (
 some 29) (
 some 28)) (
 some 0))))))) (
 cond (a==8) (
 cond (a==8) (
 some 31) (
 cond (a==4) (
 cond (a==4) (
 some 30) (
 cond (a==2) (
 (j1t b).bind fun p=>
 cond p (
 some 29) (
 some 28)) (
 some 0))) (
 cond (a==6) (
 cond (a==6) (
 some 30) (
 cond (a==2) (
 (j1t b).bind fun t=>
 cond t (
 some 29) (
 some 28)) (
 some 0))) (
 cond (a==9) (
 cond (a==9) (
 some 30) (
 cond (a==2) (
 (j1t b).bind fun i=>
 cond i (
 some 29) (
 some 28)) (
 some 0))) (
 cond (a==11) (
 some 30) (
 cond (a==2) (
 (j1t b).bind fun f=>
 cond f (
 some 29) (
 some 28)) (
 some 0))))))) (
 cond (a==10) (
 cond (a==10) (
 some 31) (
 cond (a==4) (
 cond (a==4) (
 some 30) (
 cond (a==2) (
 (j1t b).bind fun o=>
 cond o (
 some 29) (
 some 28)) (
 some 0))) (
 cond (a==6) (
 cond (a==6) (
 some 30) (
 cond (a==2) (
 (j1t b).bind fun d=>
 cond d (
 some 29) (
 some 28)) (
 some 0))) (
 cond (a==9) (
 cond (a==9) (
 some 30) (
 cond (a==2) (
 (j1t b).bind fun s=>
 cond s (
 some 29) (
 some 28)) (
 some 0))) (
 cond (a==11) (
 some 30) (
 cond (a==2) (
 (j1t b).bind fun e=>
 cond e (
 some 29) (
 some 28)) (
 some 0))))))) (
 cond (a==12) (
 some 31) (
 cond (a==4) (
 cond (a==4) (
 some 30) (
 cond (a==2) (
 (j1t b).bind fun g=>
 cond g (
 some 29) (
 some 28)) (
 some 0))) (
 cond (a==6) (
 cond (a==6) (
 some 30) (
 cond (a==2) (
 (j1t b).bind fun j=>
 cond j (
 some 29) (
 some 28)) (
 some 0))) (
 cond (a==9) (
 cond (a==9) (
 some 30) (
 cond (a==2) (
 (j1t b).bind fun c=>
 cond c (
 some 29) (
 some 28)) (
 some 0))) (
 cond (a==11) (
 some 30) (
 cond (a==2) (
 (j1t b).bind fun q=>
 cond q (
 some 29) (
 some 28)) (
 some 0))))))))))))
def jex (a:Tn4):Option (Bool):=
 cond (decide (a.1≥1970)) (
 cond (decide (a.1≤2240)) (
 cond (decide (a.2.1≥1)) (
 cond (decide (a.2.1≤12)) (
 cond (decide (a.2.2≥1)) (
 (jbj a.1 a.2.1).bind fun b=>
 some (decide (a.2.2≤b))) (
 some false)) (
 some false)) (
 some false)) (
 some false)) (
 some false)
def jgi (a:Int):Option (Int):=
 let j:=(w64 (a-1970))
 let l:=(w64 (j*365))
 let m:=(w64 (a-1969))
 let i:=(w64 (Int.tdiv m 4))
 let k:=(w64 (l+i))
 let f:=(w64 (a-1901))
 let b:=(w64 (Int.tdiv f 100))
 let g:=(w64 (k-b))
 let c:=(w64 (a-1601))
 let e:=(w64 (Int.tdiv c 400))
 let d:=(w64 (g+e))
 some d
def j5A (i g f a b:Int):Option ((Int×Int×Int×Int×Int) ⊕ ((Int×Int×Int×Int))):=
 cond (decide (g<a)) (
 (jbj f g).bind fun c=>
 let e:=(w64 (i+c))
 let d:=(w64 (g+1))
 some (.inl (e,d,f,a,b))) (
 some (.inr (i,f,a,b)))
def jcO [LP] (d e c a b:Int):Option ((Int×Int×Int×Int)):=
 LP.lp (unc5 (j5A)) (d,e,c,a,b)
theorem jey (d e c a b):jcO d e c a b=lpK (j5A d e c a b) (fun h=>jcO h.1 h.2.1 h.2.2.1 h.2.2.2.1 h.2.2.2.2):=j06 _ _
def jjm [LP] (a:Tn4):Option (Int×Int):=
 (jex (a.1,(a.2.1,a.2.2))).bind fun f=>
 cond (!f) (
 some (0,1)) (
 (jgi a.1).bind fun d=>
 (jcO d 1 a.1 a.2.1 a.2.2).bind fun c=>
 let e:=(w64 (c.1+c.2.2.2))
 let b:=(w64 (e-1))
 some (b,0))
def jdz (a:Int):Option (Int):=
 let b:=(Int.tmod a 7)
 let c:=(w64 (b+10))
 let d:=(Int.tmod c 7)
 some d
def j5B (f e g i d a:Int):Option ((Int×Int×Int×Int×Int×Int) ⊕ ((Int×Int×Int×Int×Int))):=
 (jdz a).bind fun b=>
 cond (b != i) (
 let c:=(w64 (a+1))
 some (.inl (f,e,g,i,d,c))) (
 some (.inr (f,e,g,d,a)))
def jcP [LP] (d c e f a b:Int):Option ((Int×Int×Int×Int×Int)):=
 LP.lp (unc6 (j5B)) (d,c,e,f,a,b)
theorem jez (d c e f a b):jcP d c e f a b=lpK (j5B d c e f a b) (fun h=>jcP h.1 h.2.1 h.2.2.1 h.2.2.2.1 h.2.2.2.2.1 h.2.2.2.2.2):=j06 _ _
def j5C (i g f a:Int):Option ((Int×Int×Int×Int) ⊕ (Int)):=
 let c:=(w64 (a+7))
 (jbj i g).bind fun e=>
 let d:=(w64 (f+e))
 cond (decide (c<d)) (
 let b:=(w64 (a+7))
 some (.inl (i,g,f,b))) (
 some (.inr a))
def jcQ [LP] (c d b a:Int):Option (Int):=
 LP.lp (unc4 (j5C)) (c,d,b,a)
theorem jeA (d c a b):jcQ d c a b=lpK (j5C d c a b) (fun h=>jcQ h.1 h.2.1 h.2.2.1 h.2.2.2):=j06 _ _
def jjn [LP] (e c b a:Int):Option (Int×Int):=
 (jjm (e,(c,1))).bind fun f=>
 let g:Bool:=(cond (cond (f.2 != 0) true (decide (b<1))) true (decide (b>5)))
 let l:Bool:=(cond (cond g true (decide (a<0))) true (decide (a>6)))
 cond l (
 some (0,1)) (
 (jcP e c b a f.1 f.1).bind fun d=>
 cond (decide (d.2.2.1<5)) (
 let k:=(w64 (d.2.2.1-1))
 let i:=(w64 (7*k))
 let j:=(w64 (d.2.2.2.2+i))
 some (j,0)) (
 (jcQ d.1 d.2.1 d.2.2.2.1 d.2.2.2.2).bind fun m=>
 some (m,0)))
def j2z (i:Tn47) (j k d g a:Int) (c:Tn2):Option ((Tn47×Int×Int×Int×Int×Int×Tn2) ⊕ ((Tn47×Int×Int×Int×Int×Int×Tn2))):=
 cond (decide (d>0)) (
 let b:=(w64 (d-1))
 cond (inR b (List.length c)) (
 let f:=(List.getD c (Int.toNat b) (0,0)).1
 cond (decide (f>g)) (
 let e:=(w64 (d-1))
 some (.inl (i,j,k,e,g,a,c))) (
 some (.inr (i,j,k,d,g,a,c)))) none) (
 some (.inr (i,j,k,d,g,a,c)))
def j3Q [LP] (b:Tn47) (e f d g a:Int) (c:Tn2):Option ((Tn47×Int×Int×Int×Int×Int×Tn2)):=
 LP.lp (unc7 (j2z)) (b,e,f,d,g,a,c)
theorem j8d (b e f d g a c):j3Q b e f d g a c=lpK (j2z b e f d g a c) (fun h=>j3Q h.1 h.2.1 h.2.2.1 h.2.2.2.1 h.2.2.2.2.1 h.2.2.2.2.2.1 h.2.2.2.2.2.2):=j06 _ _
def j2A [LP] (d:Tn47) (c t:Int) (v:Tn2):Option ((Tn47×Int×Int×Tn2) ⊕ ((Tn47×Int×Tn2))):=
 cond (inR c (List.length d)) (
 let q:=(List.getD d (Int.toNat c) (0,(0,(0,(0,(0,(0,0)))))))
 cond (decide (t≤q.2.1)) (
 cond (inR c (List.length d)) (
 let l:=(List.getD d (Int.toNat c) (0,(0,(0,(0,(0,(0,0)))))))
 cond (inR c (List.length d)) (
 let s:=(List.getD d (Int.toNat c) (0,(0,(0,(0,(0,(0,0)))))))
 cond (inR c (List.length d)) (
 let o:=(List.getD d (Int.toNat c) (0,(0,(0,(0,(0,(0,0)))))))
 (jjn t l.2.2.1 s.2.2.2.1 o.2.2.2.2.1).bind fun k=>
 let n:=(w64 (k.1*86400))
 cond (inR c (List.length d)) (
 let i:=(List.getD d (Int.toNat c) (0,(0,(0,(0,(0,(0,0)))))))
 let j:=(w64 (n+i.2.2.2.2.2.1))
 cond (inR c (List.length d)) (
 let m:=(List.getD d (Int.toNat c) (0,(0,(0,(0,(0,(0,0)))))))
 let p:=(Int.ofNat (List.length v))
 (j3Q d c t p j m.2.2.2.2.2.2 v).bind fun a=>
 let g:Tn2:=[(a.2.2.2.2.1,a.2.2.2.2.2.1)]
 cond (decide (List.length a.2.2.2.2.2.2+List.length g≤j0m)) (
 let b:Tn2:=(a.2.2.2.2.2.2++g)
 let e:=(w64 (a.2.2.2.1+1))
 cond (decide (0≤e)&&decide (e≤(Int.ofNat (List.length b)))) (
 cond (decide (0≤a.2.2.2.1)&&decide (a.2.2.2.1≤(Int.ofNat (List.length b)))) (
 let f:Tn2:=(over b (Int.toNat e) (List.drop (Int.toNat a.2.2.2.1) b))
 let w:=(Int.ofNat (min (List.length (List.drop (Int.toNat a.2.2.2.1) b)) (List.length b-(Int.toNat e))))
 cond (inR a.2.2.2.1 (List.length f)) (
 let u:Tn2:=(List.set f (Int.toNat a.2.2.2.1) (a.2.2.2.2.1,a.2.2.2.2.2.1))
 let r:=(w64 (a.2.2.1+1))
 some (.inl (a.1,a.2.1,r,u))) none) none) none) none) none) none) none) none) none) (
 some (.inr (d,c,v)))) none
def j5b [LP] (a:Tn47) (c d:Int) (b:Tn2):Option ((Tn47×Int×Tn2)):=
 LP.lp (unc4 (j2A)) (a,c,d,b)
theorem j8e (b a d c):j5b b a d c=lpK (j2A b a d c) (fun h=>j5b h.1 h.2.1 h.2.2.1 h.2.2.2):=j06 _ _
def j2B [LP] (c:Tn47) (b:Int) (g:Tn2):Option ((Tn47×Int×Tn2) ⊕ (Tn2)):=
 let e:=(Int.ofNat (List.length c))
 cond (decide (b<e)) (
 cond (inR b (List.length c)) (
 let f:=(List.getD c (Int.toNat b) (0,(0,(0,(0,(0,(0,0)))))))
 (j5b c b f.1 g).bind fun a=>
 let d:=(w64 (a.2.1+1))
 some (.inl (a.1,d,a.2.2))) none) (
 some (.inr g))
def j3R [LP] (a:Tn47) (c:Int) (b:Tn2):Option (Tn2):=
 LP.lp (unc3 (j2B)) (a,c,b)
theorem j8f (a c b):j3R a c b=lpK (j2B a c b) (fun h=>j3R h.1 h.2.1 h.2.2):=j06 _ _
def j71 [LP] (a:Tn47):Option (Tn2):=
 (j3R a 0 ([]:Tn2)).bind fun b=>
 some b
def j2C (o c:Int) (n:ByteArray) (d:Int) (b:Tn47):Option ((Int×Int×ByteArray×Int×Tn47) ⊕ (Int ⊕ (Int×ByteArray×Int×Tn47))):=
 let m:=(Int.ofNat (List.length b))
 cond (decide (c<m)) (
 cond (inR c (List.length b)) (
 let a:=(List.getD b (Int.toNat c) (0,(0,(0,(0,(0,(0,0)))))))
 (jco (a.1,(a.2.1,(a.2.2.1,(a.2.2.2.1,(a.2.2.2.2.1,(a.2.2.2.2.2.1,a.2.2.2.2.2.2))))))).bind fun i=>
 cond (!i) (
 some (.inr (.inl 1))) (
 cond (inR c (List.length b)) (
 let e:=(List.getD b (Int.toNat c) (0,(0,(0,(0,(0,(0,0)))))))
 cond (inR c (List.length b)) (
 let f:=(List.getD b (Int.toNat c) (0,(0,(0,(0,(0,(0,0)))))))
 let g:=(w64 (e.2.1-f.1))
 let k:=(w64 (g+1))
 let l:=(w64 (o+k))
 let j:=(w64 (c+1))
 some (.inl (l,j,n,d,b))) none) none)) none) (
 some (.inr (.inr (o,n,d,b))))
def j3S [LP] (d e:Int) (c:ByteArray) (a:Int) (b:Tn47):Option (Int ⊕ (Int×ByteArray×Int×Tn47)):=
 LP.lp (unc5 (j2C)) (d,e,c,a,b)
theorem j8g (d e c a b):j3S d e c a b=lpK (j2C d e c a b) (fun h=>j3S h.1 h.2.1 h.2.2.1 h.2.2.2.1 h.2.2.2.2):=j06 _ _
def j2D (q e:Int) (c d:Tn2):Option ((Int×Int×Tn2×Tn2) ⊕ (Int ⊕ Tn2)):=
 let v:=(Int.ofNat (List.length d))
 cond (decide (e<v)) (
 cond (inR e (List.length d)) (
 let s:=(List.getD d (Int.toNat e) (0,0)).2
 cond (s==q) (
 let y:=(w64 (e+1))
 some (.inl (q,y,c,d))) (
 cond (inR e (List.length d)) (
 let x:=(List.getD d (Int.toNat e) (0,0)).1
 let b:=(w64 (x-q))
 cond (inR e (List.length d)) (
 let a:=(List.getD d (Int.toNat e) (0,0)).2
 let p:=(w64 (a-q))
 (jaL p (-86399) 86399).bind fun t=>
 cond (!t) (
 some (.inr (.inl 6))) (
 (jaL b 0 8589934592).bind fun o=>
 cond (!o) (
 some (.inr (.inl 6))) (
 let r:=(Int.ofNat (List.length c))
 cond (decide (r>0)) (
 let l:=(Int.ofNat (List.length c))
 let i:=(w64 (l-1))
 cond (inR i (List.length c)) (
 let k:=(List.getD c (Int.toNat i) (0,0)).1
 let n:=(w64 (b-k))
 cond (decide (n<604800)) (
 some (.inr (.inl 6))) (
 let g:Tn2:=[(b,a)]
 cond (decide (List.length c+List.length g≤j0m)) (
 let j:Tn2:=(c++g)
 let w:=(w64 (e+1))
 some (.inl (a,w,j,d))) none)) none) (
 let f:Tn2:=[(b,a)]
 cond (decide (List.length c+List.length f≤j0m)) (
 let m:Tn2:=(c++f)
 let u:=(w64 (e+1))
 some (.inl (a,u,m,d))) none)))) none) none)) none) (
 some (.inr (.inr c)))
def j3T [LP] (c d:Int) (b a:Tn2):Option (Int ⊕ Tn2):=
 LP.lp (unc4 (j2D)) (c,d,b,a)
theorem j8h (b c d a):j3T b c d a=lpK (j2D b c d a) (fun h=>j3T h.1 h.2.1 h.2.2.1 h.2.2.2):=j06 _ _
def j72 [LP] (a:Tn57):Option (Tn2×Int):=
 (jaL a.2.1 (-64800) 64800).bind fun f=>
 cond (!f) (
 some (([]:Tn2),1)) (
 let c:=(Int.ofNat (List.length a.2.2))
 cond (decide (c>16)) (
 some (([]:Tn2),5)) (
 (j3S 0 0 a.1 a.2.1 a.2.2).bind fun i=>
 sumC i (fun k=>
 some (([]:Tn2),k)) (fun g=>
 cond (decide (g.1>640)) (
 some (([]:Tn2),5)) (
 (j71 g.2.2.2).bind fun d=>
 (j3T g.2.2.1 0 ([]:Tn2) d).bind fun j=>
 sumC j (fun b=>
 some (([]:Tn2),b)) (fun e=>
 some (e,0))))))
end
end Go.Proofs.Pw
