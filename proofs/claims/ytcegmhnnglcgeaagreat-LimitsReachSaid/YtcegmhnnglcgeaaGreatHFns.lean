/- Plain functions, printed by a program out of the given code. -/
import Derived.Test.YtcegmhnnglcgeaaGreatHLS
open Go Go.Lft
set_option linter.unusedVariables false
namespace Go.Proofs.Pw
noncomputable section
abbrev Tn2:Type:=(List (Int×Int))
abbrev Tn1:Type:=(Int×(List Int))
abbrev Tn3:Type:=(Int×(Int×Int))
abbrev Tn15:Type:=(List Tn3)
abbrev Tn14:Type:=(Int×Tn2)
abbrev Tn20:Type:=(ByteArray×Tn1)
abbrev Tn22:Type:=(List Tn15)
abbrev Tn21:Type:=(List Tn14)
abbrev Tn25:Type:=(Int×(Int×Tn3))
abbrev Tn27:Type:=(List Tn20)
abbrev Tn31:Type:=(List Tn25)
abbrev Tn40:Type:=(Int×(Int×Tn25))
abbrev Tn44:Type:=(List Tn40)
abbrev Tn46:Type:=(ByteArray×(Int×(Tn2×(Int×(Int×Bool)))))
abbrev Tn50:Type:=(List Tn46)
abbrev Tn54:Type:=(ByteArray×(Int×Tn44))
abbrev Tn56:Type:=(List Tn54)
abbrev Tn61:Type:=(ByteArray×(Int×((Int×Int)×(Int×(Int×((List Int)×(Tn2×(Int×Int))))))))
abbrev Tn62:Type:=(List Tn61)
abbrev Tn66:Type:=(ByteArray×(Tn62×Tn31))
abbrev Tn67:Type:=(List Tn66)
abbrev Tn73:Type:=(Tn56×(Tn50×(Tn27×Tn67)))
abbrev Tn75:Type:=(Tn73×Tn21)
abbrev unc2 {A0 A1 R:Type} (f:A0→A1→R) (h:A0×A1):R:=f h.1 h.2
abbrev unc3 {A0 A1 A2 R:Type} (f:A0→A1→A2→R) (h:A0×A1×A2):R:=f h.1 h.2.1 h.2.2
abbrev unc4 {A0 A1 A2 A3 R:Type} (f:A0→A1→A2→A3→R) (h:A0×A1×A2×A3):R:=f h.1 h.2.1 h.2.2.1 h.2.2.2
abbrev unc5 {A0 A1 A2 A3 A4 R:Type} (f:A0→A1→A2→A3→A4→R) (h:A0×A1×A2×A3×A4):R:=f h.1 h.2.1 h.2.2.1 h.2.2.2.1 h.2.2.2.2
abbrev unc6 {A0 A1 A2 A3 A4 A5 R:Type} (f:A0→A1→A2→A3→A4→A5→R) (h:A0×A1×A2×A3×A4×A5):R:=f h.1 h.2.1 h.2.2.1 h.2.2.2.1 h.2.2.2.2.1 h.2.2.2.2.2
abbrev unc7 {A0 A1 A2 A3 A4 A5 A6 R:Type} (f:A0→A1→A2→A3→A4→A5→A6→R) (h:A0×A1×A2×A3×A4×A5×A6):R:=f h.1 h.2.1 h.2.2.1 h.2.2.2.1 h.2.2.2.2.1 h.2.2.2.2.2.1 h.2.2.2.2.2.2
abbrev unc8 {A0 A1 A2 A3 A4 A5 A6 A7 R:Type} (f:A0→A1→A2→A3→A4→A5→A6→A7→R) (h:A0×A1×A2×A3×A4×A5×A6×A7):R:=f h.1 h.2.1 h.2.2.1 h.2.2.2.1 h.2.2.2.2.1 h.2.2.2.2.2.1 h.2.2.2.2.2.2.1 h.2.2.2.2.2.2.2
abbrev jwh {A0 A1 A2 A3 A4 A5 A6 A7 A8 A9 A10 R:Type} (f:A0→A1→A2→A3→A4→A5→A6→A7→A8→A9→A10→R) (h:A0×A1×A2×A3×A4×A5×A6×A7×A8×A9×A10):R:=f h.1 h.2.1 h.2.2.1 h.2.2.2.1 h.2.2.2.2.1 h.2.2.2.2.2.1 h.2.2.2.2.2.2.1 h.2.2.2.2.2.2.2.1 h.2.2.2.2.2.2.2.2.1 h.2.2.2.2.2.2.2.2.2.1 h.2.2.2.2.2.2.2.2.2.2
abbrev jwi {A0 A1 A2 A3 A4 A5 A6 A7 A8 A9 A10 A11 R:Type} (f:A0→A1→A2→A3→A4→A5→A6→A7→A8→A9→A10→A11→R) (h:A0×A1×A2×A3×A4×A5×A6×A7×A8×A9×A10×A11):R:=f h.1 h.2.1 h.2.2.1 h.2.2.2.1 h.2.2.2.2.1 h.2.2.2.2.2.1 h.2.2.2.2.2.2.1 h.2.2.2.2.2.2.2.1 h.2.2.2.2.2.2.2.2.1 h.2.2.2.2.2.2.2.2.2.1 h.2.2.2.2.2.2.2.2.2.2.1 h.2.2.2.2.2.2.2.2.2.2.2
abbrev jwj {A0 A1 A2 A3 A4 A5 A6 A7 A8 A9 A10 A11 A12 R:Type} (f:A0→A1→A2→A3→A4→A5→A6→A7→A8→A9→A10→A11→A12→R) (h:A0×A1×A2×A3×A4×A5×A6×A7×A8×A9×A10×A11×A12):R:=f h.1 h.2.1 h.2.2.1 h.2.2.2.1 h.2.2.2.2.1 h.2.2.2.2.2.1 h.2.2.2.2.2.2.1 h.2.2.2.2.2.2.2.1 h.2.2.2.2.2.2.2.2.1 h.2.2.2.2.2.2.2.2.2.1 h.2.2.2.2.2.2.2.2.2.2.1 h.2.2.2.2.2.2.2.2.2.2.2.1 h.2.2.2.2.2.2.2.2.2.2.2.2
abbrev jvJ {A0 A1 A2 A3 A4 A5 A6 A7 A8 A9 A10 A11 A12 A13 R:Type} (f:A0→A1→A2→A3→A4→A5→A6→A7→A8→A9→A10→A11→A12→A13→R) (h:A0×A1×A2×A3×A4×A5×A6×A7×A8×A9×A10×A11×A12×A13):R:=f h.1 h.2.1 h.2.2.1 h.2.2.2.1 h.2.2.2.2.1 h.2.2.2.2.2.1 h.2.2.2.2.2.2.1 h.2.2.2.2.2.2.2.1 h.2.2.2.2.2.2.2.2.1 h.2.2.2.2.2.2.2.2.2.1 h.2.2.2.2.2.2.2.2.2.2.1 h.2.2.2.2.2.2.2.2.2.2.2.1 h.2.2.2.2.2.2.2.2.2.2.2.2.1 h.2.2.2.2.2.2.2.2.2.2.2.2.2
def jiN (a:(List Int)):Option (Bool):=
 let b:=(Int.ofNat (List.length a))
 some (decide (b≤500))
def jkL (c b:Int) (a:Bool):Option (Tn56×Tn50×Tn27×Tn67):=
 let j:Tn56:=[((ByteArray.mk #[122]),(0,([]:Tn44)))]
 let g:Tn2:=[(432000,435600)]
 let e:Tn50:=[((ByteArray.mk #[97]),(0,(g,(c,(b,a)))))]
 let i:(List Int):=[0]
 let d:Tn62:=[((ByteArray.mk #[108]),(0,((1,0),(1,(1,(i,(([]:Tn2),(0,0))))))))]
 let f:Tn67:=[((ByteArray.mk #[115]),(d,([]:Tn31)))]
 some (j,e,([]:Tn27),f)
def jab (a:Tn54):Option (ByteArray):=
 some a.1
def jgK (a:Int):Option (Bool):=
 some (cond (decide (a≥97)) (decide (a≤122)) false)
def jkM (a:Int):Option (Bool):=
 some (cond (decide (a≥48)) (decide (a≤57)) false)
def jcs (d:ByteArray) (c b:Int):Option ((ByteArray×Int×Int) ⊕ (Bool ⊕ Unit)):=
 cond (decide (b<c)) (
 cond (inR b (ByteArray.size d)) (
 let a:=(jix d b)
 (jgK a).bind fun f=>
 cond (!f) (
 (jkM a).bind fun g=>
 cond (cond (cond (!g) (a != 95) false) (a != 45) false) (
 some (.inr (.inl false))) (
 let e:=(w64 (b+1))
 some (.inl (d,c,e)))) (
 let i:=(w64 (b+1))
 some (.inl (d,c,i)))) none) (
 some (.inr (.inr ())))
def jdU [LP] (c a b):=LP.lp (fun h=>jcs h.1 h.2.1 h.2.2) (c,a,b)
def j7W [LP] (a:ByteArray):Option (Bool):=
 let g:=(Int.ofNat (ByteArray.size a))
 let b:Bool:=(cond (ByteArray.toList a==ByteArray.toList ByteArray.empty) true (decide (g>24)))
 cond ((inR 0 (ByteArray.size a)) || !(!b)) (
 let c:=(jix a 0)
 cond b (
 some false) (
 (jgK c).bind fun e=>
 cond (!e) (
 some false) (
 let d:=(Int.ofNat (ByteArray.size a))
 (jdU a d 0).bind fun f=>
 sumC f (fun i=>
 some i) (fun j=>
 some true)))) none
def j3e [LP] (b:ByteArray) (a:(List (ByteArray×Bool))):Option (Int×(List (ByteArray×Bool))):=
 (j7W b).bind fun d=>
 cond (!d) (
 some (2,a)) (
 cond (jbe false a b) (
 some (4,a)) (
 let c:(List (ByteArray×Bool)):=(jcm a b true)
 some (0,c)))
def jac (a c b:Int):Option (Bool):=
 some (cond (decide (a≥c)) (decide (a≤b)) false)
def jfe (a:Tn40):Option (Int):=
 (jac a.1 1970 2240).bind fun i=>
 cond (!i) (
 some 1) (
 (jac a.2.1 a.1 2240).bind fun g=>
 cond (!g) (
 some 1) (
 (jac a.2.2.1 1 12).bind fun d=>
 cond (!d) (
 some 1) (
 (jac a.2.2.2.1 1 5).bind fun b=>
 cond (!b) (
 some 1) (
 (jac a.2.2.2.2.1 0 6).bind fun e=>
 cond (!e) (
 some 1) (
 (jac a.2.2.2.2.2.1 0 86399).bind fun c=>
 cond (!c) (
 some 1) (
 (jac a.2.2.2.2.2.2 (-64800) 64800).bind fun f=>
 cond (!f) (
 some 1) (
 some 0)))))))
def jiO (a:Int):Option (Bool):=
 let c:=(Int.tmod a 4)
 let d:=(Int.tmod a 100)
 let b:=(Int.tmod a 400)
 some (cond (c==0) (cond (d != 0) true (b==0)) false)
def j6z (c a:Int):Option (Int):=
 cond (cond (decide (a<1)) true (decide (a>12))) (
 some 0) (
 let f:(List Int):=[31,28,31,30,31,30,31,31,30,31,30,31]
 let j:(List Int):=(List.replicate 12 0)
 cond (a==2) (
 (jiO c).bind fun i=>
 cond i (
 some 29) (
 let e:=(w64 (a-1))
 cond (inR e 12) (
 let g:=(List.getD f (Int.toNat e) 0)
 some g) none)) (
 let b:=(w64 (a-1))
 cond (inR b 12) (
 let d:=(List.getD f (Int.toNat b) 0)
 some d) none))
def jbi (a:Tn3):Option (Bool):=
 cond (decide (a.1≥1970)) (
 cond (decide (a.1≤2240)) (
 cond (decide (a.2.2≥1)) (
 (j6z a.1 a.2.1).bind fun b=>
 some (decide (a.2.2≤b))) (
 some false)) (
 some false)) (
 some false)
def j7B (b a:Int):Option (Int):=
 cond (!(a==0)) (
 let c:=(w64 (Int.tdiv b a))
 cond (!(a==0)) (
 let e:=(Int.tmod b a)
 cond (decide (e<0)) (
 let d:=(w64 (c-1))
 some d) (
 some c)) none) none
def j69 (a:Int):Option (Int):=
 let b:=(w64 (a-1))
 let l:=(w64 (a-1970))
 let k:=(w64 (365*l))
 (j7B b 4).bind fun f=>
 let j:=(w64 (k+f))
 (j7B b 100).bind fun i=>
 let e:=(w64 (j-i))
 (j7B b 400).bind fun g=>
 let d:=(w64 (e+g))
 let c:=(w64 (d-477))
 some c
def j3B (g f i a e:Int):Option ((Int×Int×Int×Int×Int) ⊕ (Int)):=
 cond (decide (f<a)) (
 (j6z i f).bind fun d=>
 let c:=(w64 (g+d))
 let b:=(w64 (f+1))
 some (.inl (c,b,i,a,e))) (
 some (.inr g))
def j53 [LP] (c e d b a):=LP.lp (fun h=>j3B h.1 h.2.1 h.2.2.1 h.2.2.2.1 h.2.2.2.2) (c,e,d,b,a)
theorem jct (c e d b a):j53 c e d b a=lpK (j3B c e d b a) (fun h=>j53 h.1 h.2.1 h.2.2.1 h.2.2.2.1 h.2.2.2.2):=j0h _ _
def j6a [LP] (a:Tn3):Option (Int):=
 (j69 a.1).bind fun e=>
 let b:=(w64 (e+a.2.2))
 let c:=(w64 (b-1))
 (j53 c 1 a.1 a.2.1 a.2.2).bind fun d=>
 some d
def j5p (a:Int):Option (Int):=
 let c:=(Int.tmod a 7)
 let d:=(w64 (c+10))
 let b:=(Int.tmod d 7)
 some b
def jbj [LP] (d b c a:Int):Option (Int×Int):=
 (jbi (d,(b,1))).bind fun i=>
 let p:Bool:=(cond (cond (!i) true (decide (c<1))) true (decide (c>5)))
 let k:Bool:=(cond (cond p true (decide (a<0))) true (decide (a>6)))
 cond k (
 some (0,1)) (
 (j6a (d,(b,1))).bind fun f=>
 (j5p f).bind fun g=>
 let r:=(w64 (a-g))
 let s:=(w64 (r+7))
 let j:=(Int.tmod s 7)
 let q:=(w64 (f+j))
 let o:=(w64 (c-1))
 let l:=(w64 (7*o))
 let e:=(w64 (q+l))
 (j6z d b).bind fun n=>
 let t:=(w64 (f+n))
 cond (decide (e≥t)) (
 let m:=(w64 (e-7))
 some (m,0)) (
 some (e,0)))
def j7C (a b:(Int×Int)):Option (Int):=
 let c:=(w64 (a.1-b.1))
 some c
def j0n (i u t b:Int) (a:Tn2):Option ((Int×Int×Int×Int×Tn2) ⊕ ((Int×Int×Int×Tn2))):=
 cond (decide (b>i)) (
 cond (inR b (List.length a)) (
 let j:=(List.getD a (Int.toNat b) (0,0)).1
 let l:=(List.getD a (Int.toNat b) (0,0)).2
 let d:=(w64 (b-1))
 cond (inR d (List.length a)) (
 let n:=(List.getD a (Int.toNat d) (0,0)).1
 let m:=(List.getD a (Int.toNat d) (0,0)).2
 (j7C (j,l) (n,m)).bind fun g=>
 cond (decide (g<0)) (
 let f:=(w64 (b-1))
 let c:=(w64 (b-1))
 cond (inR c (List.length a)) (
 let k:=(List.getD a (Int.toNat c) (0,0)).1
 let o:=(List.getD a (Int.toNat c) (0,0)).2
 cond (inR b (List.length a)) (
 let s:=(List.getD a (Int.toNat b) (0,0)).1
 let r:=(List.getD a (Int.toNat b) (0,0)).2
 cond (inR b (List.length a)) (
 let e:Tn2:=(List.set a (Int.toNat b) (k,o))
 cond (inR f (List.length e)) (
 let q:Tn2:=(List.set e (Int.toNat f) (s,r))
 let p:=(w64 (b-1))
 some (.inl (i,u,t,p,q))) none) none) none) none) (
 some (.inr (i,u,t,a)))) none) none) (
 some (.inr (i,u,t,a)))
def j0i [LP] (d c e a b):=LP.lp (fun h=>j0n h.1 h.2.1 h.2.2.1 h.2.2.2.1 h.2.2.2.2) (d,c,e,a,b)
theorem j1Z (d c e a b):j0i d c e a b=lpK (j0n d c e a b) (fun h=>j0i h.1 h.2.1 h.2.2.1 h.2.2.2.1 h.2.2.2.2):=j0h _ _
def j08 [LP] (f e c:Int) (d:Tn2):Option ((Int×Int×Int×Tn2) ⊕ (Tn2)):=
 cond (decide (c<e)) (
 (j0i f e c c d).bind fun a=>
 let b:=(w64 (a.2.2.1+1))
 some (.inl (a.1,a.2.1,b,a.2.2.2))) (
 some (.inr d))
def j0j [LP] (c b d a):=LP.lp (fun h=>j08 h.1 h.2.1 h.2.2.1 h.2.2.2) (c,b,d,a)
theorem j13 (c b d a):j0j c b d a=lpK (j08 c b d a) (fun h=>j0j h.1 h.2.1 h.2.2.1 h.2.2.2):=j0h _ _
def j0b [LP] (a:Tn2) (b c:Int):Option (Tn2):=
 let d:=(w64 (b+1))
 (j0j b c d a).bind fun e=>
 some e
def j0e [LP] (e d g b:Int) (f:Tn2):Option ((Int×Int×Int×Int×Tn2) ⊕ ((Int×Int×Int×Tn2))):=
 cond (decide (b≤e)) (
 (j0b f g b).bind fun c=>
 let a:=(w64 (b+d))
 some (.inl (e,d,b,a,c))) (
 some (.inr (e,d,g,f)))
def j0u [LP] (d a c e b):=LP.lp (fun h=>j0e h.1 h.2.1 h.2.2.1 h.2.2.2.1 h.2.2.2.2) (d,a,c,e,b)
theorem j5F (d a c e b):j0u d a c e b=lpK (j0e d a c e b) (fun h=>j0u h.1 h.2.1 h.2.2.1 h.2.2.2.1 h.2.2.2.2):=j0h _ _
def j2E (c a b f:Int) (e:Tn2):Option ((Int×Int×Int×Int×Tn2) ⊕ ((Int×Int×Int×Tn2))):=
 cond (decide (f≤c)) (
 let d:=(w64 (b+a))
 none) (
 some (.inr (c,a,b,e)))
def j1M [LP] (d a c e:Int) (b:Tn2):Option ((Int×Int×Int×Tn2)):=
 LP.lp (unc5 (j2E)) (d,a,c,e,b)
def j0f [LP] (g e:Int) (f:Tn2):Option ((Int×Int×Tn2) ⊕ (Tn2)):=
 cond (decide (e<g)) (
 let b:=(w64 (2*e))
 (j1M g e 0 b f).bind fun a=>
 let c:=(w64 (a.2.2.1+a.2.1))
 cond (decide (c<a.1)) (
 none) (
 let d:=(w64 (a.2.1*2))
 some (.inl (a.1,d,a.2.2.2)))) (
 some (.inr f))
def j0v [LP] (c a b):=LP.lp (fun h=>j0f h.1 h.2.1 h.2.2) (c,a,b)
theorem j5G (c a b):j0v c a b=lpK (j0f c a b) (fun h=>j0v h.1 h.2.1 h.2.2):=j0h _ _
def j0C [LP] (a:Tn2) (c:Int):Option (Tn2):=
 (j0u c 20 0 20 a).bind fun b=>
 (j0b b.2.2.2 b.2.2.1 b.1).bind fun d=>
 (j0v b.1 b.2.1 d).bind fun e=>
 some e
def j0a [LP] (a:Tn2):Option (Tn2):=
 let b:=(Int.ofNat (List.length a))
 (j0C a b).bind fun c=>
 some c
def j2m (n:Int) (e:Tn44) (l c:Int) (m:ByteArray) (f:Int) (d:Tn44):Option ((Int×Tn44×Int×Int×ByteArray×Int×Tn44) ⊕ (Int ⊕ (Int×ByteArray×Int×Tn44))):=
 cond (decide (c<l)) (
 cond (inR c (List.length e)) (
 let a:=(List.getD e (Int.toNat c) (0,(0,(0,(0,(0,(0,0)))))))
 (jfe (a.1,(a.2.1,(a.2.2.1,(a.2.2.2.1,(a.2.2.2.2.1,(a.2.2.2.2.2.1,a.2.2.2.2.2.2))))))).bind fun b=>
 cond (b != 0) (
 some (.inr (.inl b))) (
 let g:=(w64 (a.2.1-a.1))
 let k:=(w64 (g+1))
 let j:=(w64 (n+k))
 let i:=(w64 (c+1))
 some (.inl (j,e,l,i,m,f,d)))) none) (
 some (.inr (.inr (n,m,f,d))))
def j2h [LP] (g c d e f b a):=LP.lp (fun h=>j2m h.1 h.2.1 h.2.2.1 h.2.2.2.1 h.2.2.2.2.1 h.2.2.2.2.2.1 h.2.2.2.2.2.2) (g,c,d,e,f,b,a)
theorem j8R (g c d e f b a):j2h g c d e f b a=lpK (j2m g c d e f b a) (fun h=>j2h h.1 h.2.1 h.2.2.1 h.2.2.2.1 h.2.2.2.2.1 h.2.2.2.2.2.1 h.2.2.2.2.2.2):=j0h _ _
def j0U [LP] (i:Int) (p:Tn44) (o q s a d f c g b:Int) (r:Tn2):Option ((Int×Tn44×Int×Int×Int×Int×Int×Int×Int×Int×Int×Tn2) ⊕ ((Tn44×Int×Int×Tn2))):=
 cond (decide (i≤a)) (
 (jbj i d f c).bind fun n=>
 let j:=(w64 (n.1*86400))
 let l:=(w64 (j+g))
 let e:Tn2:=[(l,b)]
 cond (decide (List.length r+List.length e≤j0d)) (
 let k:Tn2:=(r++e)
 let m:=(w64 (i+1))
 some (.inl (m,p,o,q,s,a,d,f,c,g,b,k))) none) (
 some (.inr (p,o,q,r)))
def j32 [LP] (i k j l g a d e c f b m):=LP.lp (fun h=>j0U h.1 h.2.1 h.2.2.1 h.2.2.2.1 h.2.2.2.2.1 h.2.2.2.2.2.1 h.2.2.2.2.2.2.1 h.2.2.2.2.2.2.2.1 h.2.2.2.2.2.2.2.2.1 h.2.2.2.2.2.2.2.2.2.1 h.2.2.2.2.2.2.2.2.2.2.1 h.2.2.2.2.2.2.2.2.2.2.2) (i,k,j,l,g,a,d,e,c,f,b,m)
theorem j8S (i k j l g a d e c f b m):j32 i k j l g a d e c f b m=lpK (j0U i k j l g a d e c f b m) (fun h=>j32 h.1 h.2.1 h.2.2.1 h.2.2.2.1 h.2.2.2.2.1 h.2.2.2.2.2.1 h.2.2.2.2.2.2.1 h.2.2.2.2.2.2.2.1 h.2.2.2.2.2.2.2.2.1 h.2.2.2.2.2.2.2.2.2.1 h.2.2.2.2.2.2.2.2.2.2.1 h.2.2.2.2.2.2.2.2.2.2.2):=j0h _ _
def j0V [LP] (d:Tn44) (f c:Int) (g:Tn2):Option ((Tn44×Int×Int×Tn2) ⊕ (Tn2)):=
 cond (decide (c<f)) (
 cond (inR c (List.length d)) (
 let a:=(List.getD d (Int.toNat c) (0,(0,(0,(0,(0,(0,0)))))))
 (j32 a.1 d f c a.1 a.2.1 a.2.2.1 a.2.2.2.1 a.2.2.2.2.1 a.2.2.2.2.2.1 a.2.2.2.2.2.2 g).bind fun b=>
 let e:=(w64 (b.2.2.1+1))
 some (.inl (b.1,b.2.1,e,b.2.2.2))) none) (
 some (.inr g))
def j2i [LP] (b a c d):=LP.lp (fun h=>j0V h.1 h.2.1 h.2.2.1 h.2.2.2) (b,a,c,d)
theorem j8T (b a c d):j2i b a c d=lpK (j0V b a c d) (fun h=>j2i h.1 h.2.1 h.2.2.1 h.2.2.2):=j0h _ _
def j3v [LP] (a:Tn54):Option (Tn2×Int):=
 (jac a.2.1 (-64800) 64800).bind fun d=>
 cond (!d) (
 some (([]:Tn2),1)) (
 let c:=(Int.ofNat (List.length a.2.2))
 cond (decide (c>16)) (
 some (([]:Tn2),5)) (
 let f:=(Int.ofNat (List.length a.2.2))
 (j2h 0 a.2.2 f 0 a.1 a.2.1 a.2.2).bind fun j=>
 sumC j (fun k=>
 some (([]:Tn2),k)) (fun i=>
 cond (decide (i.1>640)) (
 some (([]:Tn2),5)) (
 let b:=(Int.ofNat (List.length i.2.2.2))
 (j2i i.2.2.2 b 0 ([]:Tn2)).bind fun g=>
 (j0a g).bind fun e=>
 some (e,0)))))
def j2n (o m c:Int) (a e:Tn2):Option ((Int×Int×Int×Tn2×Tn2) ⊕ (Int ⊕ Tn2)):=
 cond (decide (c<m)) (
 cond (inR c (List.length e)) (
 let r:=(List.getD e (Int.toNat c) (0,0)).1
 let b:=(List.getD e (Int.toNat c) (0,0)).2
 cond (b==o) (
 let v:=(w64 (c+1))
 some (.inl (o,m,v,a,e))) (
 let d:=(w64 (r-o))
 let i:=(w64 (b-o))
 cond (cond (decide (i≥86400)) true (decide (i≤(-86400)))) (
 let p:=(Int.ofNat (List.length a))
 let t:=(Int.ofNat (List.length a))
 let f:=(w64 (t-1))
 cond ((inR f (List.length a)) || !((!true)&&(decide (p>0)))) (
 let n:=(List.getD a (Int.toNat f) (0,0)).1
 let y:=(w64 (n+604800))
 some (.inr (.inl 6))) none) (
 (jac d 0 8589934592).bind fun j=>
 let g:=(Int.ofNat (List.length a))
 let w:=(Int.ofNat (List.length a))
 let l:=(w64 (w-1))
 cond ((inR l (List.length a)) || !((!(!j))&&(decide (g>0)))) (
 let q:=(List.getD a (Int.toNat l) (0,0)).1
 let s:=(w64 (q+604800))
 cond (cond (!j) true (cond (decide (g>0)) (decide (d<s)) false)) (
 some (.inr (.inl 6))) (
 let k:Tn2:=[(d,b)]
 cond (decide (List.length a+List.length k≤j0d)) (
 let x:Tn2:=(a++k)
 let u:=(w64 (c+1))
 some (.inl (b,m,u,x,e))) none)) none))) none) (
 some (.inr (.inr a)))
def j2j [LP] (e a b d c):=LP.lp (fun h=>j2n h.1 h.2.1 h.2.2.1 h.2.2.2.1 h.2.2.2.2) (e,a,b,d,c)
theorem j8U (e a b d c):j2j e a b d c=lpK (j2n e a b d c) (fun h=>j2j h.1 h.2.1 h.2.2.1 h.2.2.2.1 h.2.2.2.2):=j0h _ _
def j1S [LP] (a:Tn54):Option (Tn2×Int):=
 (j3v (a.1,(a.2.1,a.2.2))).bind fun b=>
 cond (b.2 != 0) (
 some (([]:Tn2),b.2)) (
 let c:=(Int.ofNat (List.length b.1))
 (j2j a.2.1 c 0 ([]:Tn2) b.1).bind fun d=>
 sumC d (fun f=>
 some (([]:Tn2),f)) (fun e=>
 some (e,0)))
def j7X [LP] (a:Tn54):Option (Int):=
 (j1S (a.1,(a.2.1,a.2.2))).bind fun b=>
 some b.2
def j6T (a:Tn40):Option (Bool):=
 let b:=(Int.tmod a.2.2.2.2.2.2 60)
 some (b != 0)
def j0o (e:Tn44) (f b:Int):Option ((Tn44×Int×Int) ⊕ (Int ⊕ Unit)):=
 cond (decide (b<f)) (
 cond (inR b (List.length e)) (
 let a:=(List.getD e (Int.toNat b) (0,(0,(0,(0,(0,(0,0)))))))
 (j6T (a.1,(a.2.1,(a.2.2.1,(a.2.2.2.1,(a.2.2.2.2.1,(a.2.2.2.2.2.1,a.2.2.2.2.2.2))))))).bind fun c=>
 cond c (
 some (.inr (.inl b))) (
 let d:=(w64 (b+1))
 some (.inl (e,f,d)))) none) (
 some (.inr (.inr ())))
def j0l [LP] (b a c):=LP.lp (fun h=>j0o h.1 h.2.1 h.2.2) (b,a,c)
theorem j24 (b a c):j0l b a c=lpK (j0o b a c) (fun h=>j0l h.1 h.2.1 h.2.2):=j0h _ _
def j0s [LP] (a:Tn44):Option (Int):=
 let c:=(Int.ofNat (List.length a))
 (j0l a c 0).bind fun b=>
 sumC b (fun d=>
 some d) (fun e=>
 some (-1))
def j0m [LP] (a:Tn44):Option (Bool):=
 (j0s a).bind fun b=>
 some (decide (b≥0))
def j2o [LP] (a:Tn54):Option (Int):=
 (j7X (a.1,(a.2.1,a.2.2))).bind fun d=>
 let c:=(Int.tmod a.2.1 60)
 cond (cond (d != 0) true (c != 0)) (
 some 8) (
 (j0m a.2.2).bind fun b=>
 cond b (
 some 8) (
 some 0))
def j0y [LP] (e:Tn56) (i d:Int) (j:(List (ByteArray×Bool))):Option ((Tn56×Int×Int×(List (ByteArray×Bool))) ⊕ (Int ⊕ Unit)):=
 cond (decide (d<i)) (
 cond (inR d (List.length e)) (
 let a:=(List.getD e (Int.toNat d) (ByteArray.empty,(0,([]:Tn44))))
 (jab (a.1,(a.2.1,a.2.2))).bind fun f=>
 (j3e f j).bind fun b=>
 cond (b.1 != 0) (
 some (.inr (.inl b.1))) (
 (j2o (a.1,(a.2.1,a.2.2))).bind fun c=>
 cond (c != 0) (
 some (.inr (.inl c))) (
 let g:=(w64 (d+1))
 some (.inl (e,i,g,b.2))))) none) (
 some (.inr (.inr ())))
def j1a [LP] (a:Tn56) (b c:Int) (d:(List (ByteArray×Bool))):Option (Int ⊕ Unit):=
 LP.lp (fun h=>j0y h.1 h.2.1 h.2.2.1 h.2.2.2) (a,b,c,d)
theorem j5Z (a:Tn56) (b c:Int) (d:(List (ByteArray×Bool))):j1a a b c d=lpK (j0y a b c d) (fun h=>j1a h.1 h.2.1 h.2.2.1 h.2.2.2):=j0h _ _
def j1A [LP] (a:Tn56):Option (Int):=
 let c:(List (ByteArray×Bool)):=([]:(List (ByteArray×Bool)))
 let b:=(Int.ofNat (List.length a))
 (j1a a b 0 c).bind fun d=>
 sumC d (fun e=>
 some e) (fun f=>
 some 0)
def j1V (a b:Int):Option (Bool):=
 some (cond (decide (a≥0)) (decide (a<b)) false)
def j4n (d f:Tn2) (k b:Int):Option ((Tn2×Tn2×Int×Int) ⊕ (Int ⊕ Unit)):=
 cond (decide (b<k)) (
 cond (inR b (List.length f)) (
 let a:=(List.getD f (Int.toNat b) (0,0))
 let i:Bool:=(cond (cond (decide (a.1<0)) true (decide (a.1≥a.2))) true (decide (a.2>604800)))
 cond i (
 some (.inr (.inl 1))) (
 cond (decide (b>0)) (
 let c:=(w64 (b-1))
 cond (inR c (List.length d)) (
 let j:=(List.getD d (Int.toNat c) (0,0))
 cond (decide (a.1<j.2)) (
 some (.inr (.inl 6))) (
 let g:=(w64 (b+1))
 some (.inl (d,f,k,g)))) none) (
 let e:=(w64 (b+1))
 some (.inl (d,f,k,e))))) none) (
 some (.inr (.inr ())))
def j6A [LP] (b d c a):=LP.lp (fun h=>j4n h.1 h.2.1 h.2.2.1 h.2.2.2) (b,d,c,a)
theorem jey (b d c a):j6A b d c a=lpK (j4n b d c a) (fun h=>j6A h.1 h.2.1 h.2.2.1 h.2.2.2):=j0h _ _
def j7Y [LP] (a:Tn2):Option (Int):=
 let b:=(Int.ofNat (List.length a))
 cond (decide (b>14)) (
 some 5) (
 let d:=(Int.ofNat (List.length a))
 (j6A a a d 0).bind fun c=>
 sumC c (fun e=>
 some e) (fun f=>
 some 0))
def j6B (a c b:Int):Option (Bool):=
 some (cond (decide (a≥c)) (decide (a≤b)) false)
def j5q (a:Int):Option (Bool):=
 (j6B a 0 604800).bind fun c=>
 let b:=(Int.tmod a 3600)
 some (cond c (b==0) false)
def j1u [LP] (b:Tn73) (a:Tn46):Option (Int):=
 let e:=(Int.ofNat (List.length b.1))
 (j1V a.2.1 e).bind fun g=>
 cond (!g) (
 some 3) (
 (j7Y a.2.2.1).bind fun d=>
 cond (d != 0) (
 some 8) (
 (j5q a.2.2.2.1).bind fun f=>
 cond (!f) (
 some 1) (
 (j5q a.2.2.2.2.1).bind fun c=>
 cond (!c) (
 some 1) (
 some 0))))
def jad (a:Tn20):Option (ByteArray):=
 some a.1
def jcu (e b:Int):Option ((Int×Int) ⊕ (Int)):=
 let d:=(w64 (b+1))
 (j69 d).bind fun c=>
 cond (decide (c≤e)) (
 let a:=(w64 (b+1))
 some (.inl (e,a))) (
 some (.inr b))
def jdV [LP] (b a:Int):Option (Int):=
 LP.lp (unc2 (jcu)) (b,a)
def jdk [LP] (a:Int):Option (Int):=
 (j7B a 366).bind fun c=>
 let b:=(w64 (1970+c))
 (jdV a b).bind fun d=>
 some d
def jaH (k l b d f a c:Int):Option ((Int×Int×Int×Int×Int×Int×Int) ⊕ ((Int×Int×Int×Int×Int×Int×Int))):=
 (j6z f a).bind fun g=>
 cond (decide (k≥g)) (
 (j6z f a).bind fun i=>
 let j:=(w64 (k-i))
 let e:=(w64 (a+1))
 some (.inl (j,l,b,d,f,e,c))) (
 some (.inr (k,l,b,d,f,a,c)))
def jbk [LP] (f e a d g c b:Int):Option ((Int×Int×Int×Int×Int×Int×Int)):=
 LP.lp (unc7 (jaH)) (f,e,a,d,g,c,b)
def j9G [LP] (a:Int):Option (Tn3×Int):=
 (j69 1970).bind fun i=>
 cond (decide (a<i)) (
 some ((0,(0,0)),1)) (
 (j69 2241).bind fun g=>
 cond (decide (a≥g)) (
 some ((0,(0,0)),1)) (
 (jdk a).bind fun b=>
 (j69 b).bind fun f=>
 let d:=(w64 (a-f))
 (jbk d 0 0 0 b 1 0).bind fun c=>
 let e:=(w64 (c.1+1))
 some ((c.2.2.2.2.1,(c.2.2.2.2.2.1,e)),0)))
def j22 [LP] (a:Int):Option (Bool):=
 (j9G a).bind fun b=>
 some (b.2==0)
def j1F [LP] (a:Int):Option (Bool):=
 (j22 a).bind fun b=>
 some (!b)
def j0t [LP] (e:(List Int)) (f a:Int):Option (((List Int)×Int×Int) ⊕ (Int ⊕ Unit)):=
 cond (decide (a<f)) (
 cond (inR a (List.length e)) (
 let b:=(List.getD e (Int.toNat a) 0)
 (j1F b).bind fun c=>
 cond c (
 some (.inr (.inl a))) (
 let d:=(w64 (a+1))
 some (.inl (e,f,d)))) none) (
 some (.inr (.inr ())))
def j1g [LP] (b a c):=LP.lp (fun h=>j0t h.1 h.2.1 h.2.2) (b,a,c)
theorem j5j (b a c):j1g b a c=lpK (j0t b a c) (fun h=>j1g h.1 h.2.1 h.2.2):=j0h _ _
def j1G [LP] (a:(List Int)):Option (Int):=
 let c:=(Int.ofNat (List.length a))
 (j1g a c 0).bind fun b=>
 sumC b (fun d=>
 some d) (fun e=>
 some (-1))
def j1h [LP] (a:(List Int)):Option (Bool):=
 (j1G a).bind fun b=>
 some (decide (b≥0))
def j1x (d b:Int) (k:ByteArray) (e:Int) (a:(List Int)):Option ((Int×Int×ByteArray×Int×(List Int)) ⊕ (Int ⊕ Unit)):=
 cond (decide (b<d)) (
 cond (decide (b>0)) (
 cond (inR b (List.length a)) (
 let g:=(List.getD a (Int.toNat b) 0)
 let c:=(w64 (b-1))
 cond (inR c (List.length a)) (
 let j:=(List.getD a (Int.toNat c) 0)
 cond (decide (g≤j)) (
 some (.inr (.inl 6))) (
 let i:=(w64 (b+1))
 some (.inl (d,i,k,e,a)))) none) none) (
 let f:=(w64 (b+1))
 some (.inl (d,f,k,e,a)))) (
 some (.inr (.inr ())))
def j1H [LP] (c d e b a):=LP.lp (fun h=>j1x h.1 h.2.1 h.2.2.1 h.2.2.2.1 h.2.2.2.2) (c,d,e,b,a)
theorem j6b (c d e b a):j1H c d e b a=lpK (j1x c d e b a) (fun h=>j1H h.1 h.2.1 h.2.2.1 h.2.2.2.1 h.2.2.2.2):=j0h _ _
def j1o [LP] (b:Tn73) (a:Tn20):Option (Int):=
 let f:=(Int.ofNat (List.length b.1))
 (j1V a.2.1 f).bind fun g=>
 cond (!g) (
 some 3) (
 let c:=(Int.ofNat (List.length a.2.2))
 cond (decide (c>64)) (
 some 5) (
 (j1h a.2.2).bind fun e=>
 cond e (
 some 1) (
 let d:=(Int.ofNat (List.length a.2.2))
 (j1H d 0 a.1 a.2.1 a.2.2).bind fun i=>
 sumC i (fun j=>
 some j) (fun k=>
 some 0))))
def j4k [LP] (a:Tn20) (e:Tn56) (c:Tn50) (d:Tn27) (b:Tn67):Option (Int):=
 (j1o (e,(c,(d,b))) (a.1,(a.2.1,a.2.2))).bind fun f=>
 some f
def j0q [LP] (m:Tn56) (e:Tn50) (f:Tn27) (i:Tn67) (g:Tn27) (l d:Int) (n:(List (ByteArray×Bool))):Option ((Tn56×Tn50×Tn27×Tn67×Tn27×Int×Int×(List (ByteArray×Bool))) ⊕ (Int ⊕ Unit)):=
 cond (decide (d<l)) (
 cond (inR d (List.length g)) (
 let a:=(List.getD g (Int.toNat d) (ByteArray.empty,(0,([]:(List Int)))))
 (jad (a.1,(a.2.1,a.2.2))).bind fun j=>
 (j3e j n).bind fun b=>
 cond (b.1 != 0) (
 some (.inr (.inl b.1))) (
 (j4k (a.1,(a.2.1,a.2.2)) m e f i).bind fun c=>
 cond (c != 0) (
 some (.inr (.inl c))) (
 let k:=(w64 (d+1))
 some (.inl (m,e,f,i,g,l,k,b.2))))) none) (
 some (.inr (.inr ())))
def j0K [LP] (g:Tn56) (a:Tn50) (b:Tn27) (c:Tn67) (d:Tn27) (e f:Int) (i:(List (ByteArray×Bool))):Option (Int ⊕ Unit):=
 LP.lp (fun h=>j0q h.1 h.2.1 h.2.2.1 h.2.2.2.1 h.2.2.2.2.1 h.2.2.2.2.2.1 h.2.2.2.2.2.2.1 h.2.2.2.2.2.2.2) (g,a,b,c,d,e,f,i)
theorem j4U (g:Tn56) (a:Tn50) (b:Tn27) (c:Tn67) (d:Tn27) (e f:Int) (i:(List (ByteArray×Bool))):j0K g a b c d e f i=lpK (j0q g a b c d e f i) (fun h=>j0K h.1 h.2.1 h.2.2.1 h.2.2.2.1 h.2.2.2.2.1 h.2.2.2.2.2.1 h.2.2.2.2.2.2.1 h.2.2.2.2.2.2.2):=j0h _ _
def j14 [LP] (e:Tn27) (d:Tn56) (a:Tn50) (b:Tn27) (c:Tn67):Option (Int):=
 let g:(List (ByteArray×Bool)):=([]:(List (ByteArray×Bool)))
 let f:=(Int.ofNat (List.length e))
 (j0K d a b c e f 0 g).bind fun i=>
 sumC i (fun j=>
 some j) (fun k=>
 some 0)
def jae (a:Tn66):Option (ByteArray):=
 some a.1
def j54 (a:Tn61):Option (ByteArray):=
 some a.1
def j6c (a:Int) (g:Tn56) (b:Tn50) (e:Tn27) (c:Tn67):Option (Bool):=
 let d:=(Int.ofNat (List.length b))
 (j1V a d).bind fun f=>
 some (!f)
def j0S (i:(List Int)) (k:Tn56) (d:Tn50) (a:Tn27) (b:Tn67) (j c:Int):Option (((List Int)×Tn56×Tn50×Tn27×Tn67×Int×Int) ⊕ (Int ⊕ Unit)):=
 cond (decide (c<j)) (
 cond (inR c (List.length i)) (
 let e:=(List.getD i (Int.toNat c) 0)
 (j6c e k d a b).bind fun f=>
 cond f (
 some (.inr (.inl c))) (
 let g:=(w64 (c+1))
 some (.inl (i,k,d,a,b,j,g)))) none) (
 some (.inr (.inr ())))
def j0W [LP] (d f c a b e g):=LP.lp (fun h=>j0S h.1 h.2.1 h.2.2.1 h.2.2.2.1 h.2.2.2.2.1 h.2.2.2.2.2.1 h.2.2.2.2.2.2) (d,f,c,a,b,e,g)
theorem j4o (d f c a b e g):j0W d f c a b e g=lpK (j0S d f c a b e g) (fun h=>j0W h.1 h.2.1 h.2.2.1 h.2.2.2.1 h.2.2.2.2.1 h.2.2.2.2.2.1 h.2.2.2.2.2.2):=j0h _ _
def j1i [LP] (c:(List Int)) (e:Tn56) (b:Tn50) (d:Tn27) (a:Tn67):Option (Int):=
 let g:=(Int.ofNat (List.length c))
 (j0W c e b d a g 0).bind fun f=>
 sumC f (fun i=>
 some i) (fun j=>
 some (-1))
def j0X [LP] (d:(List Int)) (e:Tn56) (b:Tn50) (c:Tn27) (a:Tn67):Option (Bool):=
 (j1i d e b c a).bind fun f=>
 some (decide (f≥0))
def j25 [LP] (b:Tn73) (a:Tn61):Option (Int):=
 let m:=(Int.ofNat (List.length b.1))
 (j1V a.2.1 m).bind fun n=>
 cond (!n) (
 some 3) (
 cond (decide (a.2.2.1.1<1)) (
 some 1) (
 (j22 a.2.2.1.1).bind fun k=>
 cond (!k) (
 some 1) (
 (j6B a.2.2.1.2 0 86399).bind fun f=>
 cond (!f) (
 some 1) (
 (j6B a.2.2.2.1 0 2).bind fun e=>
 cond (!e) (
 some 1) (
 (j6B a.2.2.2.2.1 1 400).bind fun j=>
 cond (!j) (
 some 1) (
 let c:=(Int.ofNat (List.length a.2.2.2.2.2.1))
 cond (c==0) (
 some 7) (
 let l:=(Int.ofNat (List.length a.2.2.2.2.2.1))
 cond (decide (l>12)) (
 some 5) (
 (j0X a.2.2.2.2.2.1 b.1 b.2.1 b.2.2.1 b.2.2.2).bind fun o=>
 cond o (
 some 3) (
 (j7Y a.2.2.2.2.2.2.1).bind fun g=>
 cond (g != 0) (
 some 8) (
 (j6B a.2.2.2.2.2.2.2.2 0 2).bind fun i=>
 cond (!i) (
 some 1) (
 let d:=(Int.ofNat (List.length b.2.2.1))
 cond (a.2.2.2.2.2.2.2.2 != 0) (
 (j1V a.2.2.2.2.2.2.2.1 d).bind fun p=>
 cond (!p) (
 some 3) (
 cond (cond (a.2.2.2.2.2.2.2.2==0) (a.2.2.2.2.2.2.2.1 != 0) false) (
 some 1) (
 some 0))) (
 cond (cond (a.2.2.2.2.2.2.2.2==0) (a.2.2.2.2.2.2.2.1 != 0) false) (
 some 1) (
 some 0)))))))))))))
def j1I [LP] (a:Tn61) (e:Tn56) (c:Tn50) (d:Tn27) (b:Tn67):Option (Int):=
 (j25 (e,(c,(d,b))) (a.1,(a.2.1,((a.2.2.1.1,a.2.2.1.2),(a.2.2.2.1,(a.2.2.2.2.1,(a.2.2.2.2.2.1,(a.2.2.2.2.2.2.1,(a.2.2.2.2.2.2.2.1,a.2.2.2.2.2.2.2.2))))))))).bind fun f=>
 some f
def j0w [LP] (m:Tn56) (e:Tn50) (f:Tn27) (i:Tn67) (g:Tn62) (l d:Int) (n:(List (ByteArray×Bool))):Option ((Tn56×Tn50×Tn27×Tn67×Tn62×Int×Int×(List (ByteArray×Bool))) ⊕ (Int ⊕ Unit)):=
 cond (decide (d<l)) (
 cond (inR d (List.length g)) (
 let a:=(List.getD g (Int.toNat d) (ByteArray.empty,(0,((0,0),(0,(0,(([]:(List Int)),(([]:Tn2),(0,0)))))))))
 (j54 (a.1,(a.2.1,((a.2.2.1.1,a.2.2.1.2),(a.2.2.2.1,(a.2.2.2.2.1,(a.2.2.2.2.2.1,(a.2.2.2.2.2.2.1,(a.2.2.2.2.2.2.2.1,a.2.2.2.2.2.2.2.2))))))))).bind fun j=>
 (j3e j n).bind fun b=>
 cond (b.1 != 0) (
 some (.inr (.inl b.1))) (
 (j1I (a.1,(a.2.1,((a.2.2.1.1,a.2.2.1.2),(a.2.2.2.1,(a.2.2.2.2.1,(a.2.2.2.2.2.1,(a.2.2.2.2.2.2.1,(a.2.2.2.2.2.2.2.1,a.2.2.2.2.2.2.2.2)))))))) m e f i).bind fun c=>
 cond (c != 0) (
 some (.inr (.inl c))) (
 let k:=(w64 (d+1))
 some (.inl (m,e,f,i,g,l,k,b.2))))) none) (
 some (.inr (.inr ())))
def j15 [LP] (g:Tn56) (a:Tn50) (b:Tn27) (c:Tn67) (d:Tn62) (e f:Int) (i:(List (ByteArray×Bool))):Option (Int ⊕ Unit):=
 LP.lp (fun h=>j0w h.1 h.2.1 h.2.2.1 h.2.2.2.1 h.2.2.2.2.1 h.2.2.2.2.2.1 h.2.2.2.2.2.2.1 h.2.2.2.2.2.2.2) (g,a,b,c,d,e,f,i)
theorem j5H (g:Tn56) (a:Tn50) (b:Tn27) (c:Tn67) (d:Tn62) (e f:Int) (i:(List (ByteArray×Bool))):j15 g a b c d e f i=lpK (j0w g a b c d e f i) (fun h=>j15 h.1 h.2.1 h.2.2.1 h.2.2.2.1 h.2.2.2.2.1 h.2.2.2.2.2.1 h.2.2.2.2.2.2.1 h.2.2.2.2.2.2.2):=j0h _ _
def j1v [LP] (e:Tn62) (d:Tn56) (a:Tn50) (b:Tn27) (c:Tn67):Option (Int):=
 let g:(List (ByteArray×Bool)):=([]:(List (ByteArray×Bool)))
 let f:=(Int.ofNat (List.length e))
 (j15 d a b c e f 0 g).bind fun i=>
 sumC i (fun j=>
 some j) (fun k=>
 some 0)
def j2p [LP] (g:Tn73) (a:Tn25):Option (Int):=
 let i:=(Int.ofNat (List.length g.2.1))
 (j6B a.1 0 2).bind fun m=>
 cond (!m) (
 some 1) (
 (j1V a.2.1 i).bind fun f=>
 cond (cond (!f) (!(cond (a.1==1) (a.2.1==(-1)) false)) false) (
 cond (cond (!f) (!(cond (a.1==1) (a.2.1==(-1)) false)) false) (
 some 3) (
 cond (cond (a.1 != 2) (a.2.2.1 != 0) false) (
 some 1) (
 cond (cond (a.1==2) (a.2.1==a.2.2.1) false) (
 some 4) (
 let l:=(w64 (Int.tdiv a.2.2.2.2 86400))
 cond (cond (decide (a.2.2.2.1<0)) true (decide (a.2.2.2.2<0))) (
 some 1) (
 (j22 l).bind fun k=>
 cond (!k) (
 some 1) (
 cond (decide (a.2.2.2.1≥a.2.2.2.2)) (
 some 6) (
 some 0))))))) (
 cond (a.1==2) (
 (j1V a.2.2.1 i).bind fun j=>
 cond (!j) (
 some 3) (
 cond (cond (a.1 != 2) (a.2.2.1 != 0) false) (
 some 1) (
 cond (cond (a.1==2) (a.2.1==a.2.2.1) false) (
 some 4) (
 let e:=(w64 (Int.tdiv a.2.2.2.2 86400))
 cond (cond (decide (a.2.2.2.1<0)) true (decide (a.2.2.2.2<0))) (
 some 1) (
 (j22 e).bind fun b=>
 cond (!b) (
 some 1) (
 cond (decide (a.2.2.2.1≥a.2.2.2.2)) (
 some 6) (
 some 0))))))) (
 cond (cond (a.1 != 2) (a.2.2.1 != 0) false) (
 some 1) (
 cond (cond (a.1==2) (a.2.1==a.2.2.1) false) (
 some 4) (
 let d:=(w64 (Int.tdiv a.2.2.2.2 86400))
 cond (cond (decide (a.2.2.2.1<0)) true (decide (a.2.2.2.2<0))) (
 some 1) (
 (j22 d).bind fun c=>
 cond (!c) (
 some 1) (
 cond (decide (a.2.2.2.1≥a.2.2.2.2)) (
 some 6) (
 some 0))))))))
def j0B [LP] (d:Tn31) (j b:Int) (k:Tn56) (e:Tn50) (g:Tn27) (f:Tn67):Option ((Tn31×Int×Int×Tn56×Tn50×Tn27×Tn67) ⊕ (Int ⊕ Unit)):=
 cond (decide (b<j)) (
 cond (inR b (List.length d)) (
 let a:=(List.getD d (Int.toNat b) (0,(0,(0,(0,0)))))
 (j2p (k,(e,(g,f))) (a.1,(a.2.1,(a.2.2.1,(a.2.2.2.1,a.2.2.2.2))))).bind fun c=>
 cond (c != 0) (
 some (.inr (.inl c))) (
 let i:=(w64 (b+1))
 some (.inl (d,j,i,k,e,g,f)))) none) (
 some (.inr (.inr ())))
def j1J [LP] (d e f g a c b):=LP.lp (fun h=>j0B h.1 h.2.1 h.2.2.1 h.2.2.2.1 h.2.2.2.2.1 h.2.2.2.2.2.1 h.2.2.2.2.2.2) (d,e,f,g,a,c,b)
theorem j6d (d e f g a c b):j1J d e f g a c b=lpK (j0B d e f g a c b) (fun h=>j1J h.1 h.2.1 h.2.2.1 h.2.2.2.1 h.2.2.2.2.1 h.2.2.2.2.2.1 h.2.2.2.2.2.2):=j0h _ _
def j1p [LP] (a:Tn73) (b:Tn66):Option (Int):=
 let f:=(Int.ofNat (List.length b.2.1))
 let d:=(Int.ofNat (List.length b.2.2))
 cond (cond (decide (f>6)) true (decide (d>48))) (
 some 5) (
 (j1v b.2.1 a.1 a.2.1 a.2.2.1 a.2.2.2).bind fun c=>
 cond (c != 0) (
 some c) (
 let e:=(Int.ofNat (List.length b.2.2))
 (j1J b.2.2 e 0 a.1 a.2.1 a.2.2.1 a.2.2.2).bind fun g=>
 sumC g (fun i=>
 some i) (fun j=>
 some 0)))
def j4l [LP] (a:Tn66) (e:Tn56) (c:Tn50) (d:Tn27) (b:Tn67):Option (Int):=
 (j1p (e,(c,(d,b))) (a.1,(a.2.1,a.2.2))).bind fun f=>
 some f
def j0r [LP] (m:Tn56) (e:Tn50) (f:Tn27) (i g:Tn67) (l d:Int) (n:(List (ByteArray×Bool))):Option ((Tn56×Tn50×Tn27×Tn67×Tn67×Int×Int×(List (ByteArray×Bool))) ⊕ (Int ⊕ Unit)):=
 cond (decide (d<l)) (
 cond (inR d (List.length g)) (
 let a:=(List.getD g (Int.toNat d) (ByteArray.empty,(([]:Tn62),([]:Tn31))))
 (jae (a.1,(a.2.1,a.2.2))).bind fun j=>
 (j3e j n).bind fun b=>
 cond (b.1 != 0) (
 some (.inr (.inl b.1))) (
 (j4l (a.1,(a.2.1,a.2.2)) m e f i).bind fun c=>
 cond (c != 0) (
 some (.inr (.inl c))) (
 let k:=(w64 (d+1))
 some (.inl (m,e,f,i,g,l,k,b.2))))) none) (
 some (.inr (.inr ())))
def j0L [LP] (g:Tn56) (a:Tn50) (b:Tn27) (c d:Tn67) (e f:Int) (i:(List (ByteArray×Bool))):Option (Int ⊕ Unit):=
 LP.lp (fun h=>j0r h.1 h.2.1 h.2.2.1 h.2.2.2.1 h.2.2.2.2.1 h.2.2.2.2.2.1 h.2.2.2.2.2.2.1 h.2.2.2.2.2.2.2) (g,a,b,c,d,e,f,i)
theorem j4V (g:Tn56) (a:Tn50) (b:Tn27) (c d:Tn67) (e f:Int) (i:(List (ByteArray×Bool))):j0L g a b c d e f i=lpK (j0r g a b c d e f i) (fun h=>j0L h.1 h.2.1 h.2.2.1 h.2.2.2.1 h.2.2.2.2.1 h.2.2.2.2.2.1 h.2.2.2.2.2.2.1 h.2.2.2.2.2.2.2):=j0h _ _
def j1t [LP] (e:Tn67) (d:Tn56) (a:Tn50) (b:Tn27) (c:Tn67):Option (Int):=
 let g:(List (ByteArray×Bool)):=([]:(List (ByteArray×Bool)))
 let f:=(Int.ofNat (List.length e))
 (j0L d a b c e f 0 g).bind fun i=>
 sumC i (fun j=>
 some j) (fun k=>
 some 0)
def j1q [LP] (g:Tn50) (i f:Int) (j:Tn56) (d:Tn50) (c:Tn27) (e:Tn67) (r:(List (ByteArray×Bool))):Option ((Tn50×Int×Int×Tn56×Tn50×Tn27×Tn67×(List (ByteArray×Bool))) ⊕ (Int ⊕ (Tn56×Tn50×Tn27×Tn67))):=
 cond (decide (f<i)) (
 cond (inR f (List.length g)) (
 let a:=(List.getD g (Int.toNat f) (ByteArray.empty,(0,(([]:Tn2),(0,(0,false))))))
 (j3e a.1 r).bind fun b=>
 let q:Bool:=(ByteArray.toList a.1==ByteArray.toList (ByteArray.mk #[110,111,98,111,100,121]))
 cond q (
 cond (2==0) (
 (j1u (j,(d,(c,e))) (a.1,(a.2.1,(a.2.2.1,(a.2.2.2.1,(a.2.2.2.2.1,a.2.2.2.2.2)))))).bind fun k=>
 cond (k != 0) (
 some (.inr (.inl k))) (
 let o:=(w64 (f+1))
 some (.inl (g,i,o,j,d,c,e,b.2)))) (
 cond (2 != 0) (
 some (.inr (.inl 2))) (
 let p:=(w64 (f+1))
 some (.inl (g,i,p,j,d,c,e,b.2))))) (
 cond (b.1==0) (
 (j1u (j,(d,(c,e))) (a.1,(a.2.1,(a.2.2.1,(a.2.2.2.1,(a.2.2.2.2.1,a.2.2.2.2.2)))))).bind fun l=>
 cond (l != 0) (
 some (.inr (.inl l))) (
 let m:=(w64 (f+1))
 some (.inl (g,i,m,j,d,c,e,b.2)))) (
 cond (b.1 != 0) (
 some (.inr (.inl b.1))) (
 let n:=(w64 (f+1))
 some (.inl (g,i,n,j,d,c,e,b.2)))))) none) (
 some (.inr (.inr (j,d,c,e))))
def j3w [LP] (f:Tn50) (d e:Int) (g:Tn56) (b:Tn50) (a:Tn27) (c:Tn67) (i:(List (ByteArray×Bool))):Option (Int ⊕ (Tn56×Tn50×Tn27×Tn67)):=
 LP.lp (fun h=>j1q h.1 h.2.1 h.2.2.1 h.2.2.2.1 h.2.2.2.2.1 h.2.2.2.2.2.1 h.2.2.2.2.2.2.1 h.2.2.2.2.2.2.2) (f,d,e,g,b,a,c,i)
theorem jbl (f:Tn50) (d e:Int) (g:Tn56) (b:Tn50) (a:Tn27) (c:Tn67) (i:(List (ByteArray×Bool))):j3w f d e g b a c i=lpK (j1q f d e g b a c i) (fun h=>j3w h.1 h.2.1 h.2.2.1 h.2.2.2.1 h.2.2.2.2.1 h.2.2.2.2.2.1 h.2.2.2.2.2.2.1 h.2.2.2.2.2.2.2):=j0h _ _
def j4p [LP] (a:Tn73):Option (Int):=
 let m:=(Int.ofNat (List.length a.1))
 let f:=(Int.ofNat (List.length a.2.1))
 let j:=(Int.ofNat (List.length a.2.2.1))
 let l:Bool:=(cond (cond (decide (m>16)) true (decide (f>32))) true (decide (j>8)))
 let g:=(Int.ofNat (List.length a.2.2.2))
 cond (cond l true (decide (g>12))) (
 some 5) (
 (j1A a.1).bind fun d=>
 cond (d != 0) (
 some d) (
 let e:(List (ByteArray×Bool)):=([]:(List (ByteArray×Bool)))
 let i:=(Int.ofNat (List.length a.2.1))
 (j3w a.2.1 i 0 a.1 a.2.1 a.2.2.1 a.2.2.2 e).bind fun n=>
 sumC n (fun o=>
 some o) (fun b=>
 (j14 b.2.2.1 b.1 b.2.1 b.2.2.1 b.2.2.2).bind fun c=>
 cond (c != 0) (
 some c) (
 (j1t b.2.2.2 b.1 b.2.1 b.2.2.1 b.2.2.2).bind fun k=>
 some k))))
def jff [LP] (a:Tn54):Option (Tn14×Int):=
 (j1S (a.1,(a.2.1,a.2.2))).bind fun b=>
 some ((a.2.1,b.1),b.2)
def j1N [LP] (i:Tn56) (j b:Int) (g:Tn21):Option ((Tn56×Int×Int×Tn21) ⊕ (Tn21)):=
 cond (decide (b<j)) (
 cond (inR b (List.length i)) (
 let a:=(List.getD i (Int.toNat b) (ByteArray.empty,(0,([]:Tn44))))
 (jff (a.1,(a.2.1,a.2.2))).bind fun c=>
 let d:Tn21:=[(c.1.1,c.1.2)]
 cond (decide (List.length g+List.length d≤j0d)) (
 let e:Tn21:=(g++d)
 let f:=(w64 (b+1))
 some (.inl (i,j,f,e))) none) none) (
 some (.inr g))
def j4K [LP] (d b a c):=LP.lp (fun h=>j1N h.1 h.2.1 h.2.2.1 h.2.2.2) (d,b,a,c)
theorem jdl (d b a c):j4K d b a c=lpK (j1N d b a c) (fun h=>j4K h.1 h.2.1 h.2.2.1 h.2.2.2):=j0h _ _
def j97 [LP] (a:Tn56):Option (Tn21):=
 let b:=(Int.ofNat (List.length a))
 (j4K a b 0 ([]:Tn21)).bind fun c=>
 some c
def jbm [LP] (a:Tn73):Option (Tn75):=
 (j97 a.1).bind fun b=>
 some ((a.1,(a.2.1,(a.2.2.1,a.2.2.2))),b)
def jfg [LP] (a:Tn73):Option (Tn75×Bool):=
 (j4p (a.1,(a.2.1,(a.2.2.1,a.2.2.2)))).bind fun c=>
 cond (c != 0) (
 some (((([]:Tn56),(([]:Tn50),(([]:Tn27),([]:Tn67)))),([]:Tn21)),false)) (
 (jbm (a.1,(a.2.1,(a.2.2.1,a.2.2.2)))).bind fun b=>
 some (((b.1.1,(b.1.2.1,(b.1.2.2.1,b.1.2.2.2))),b.2),true))
def jfZ (a b:Int):Option (Bool):=
 let c:Bool:=(cond (cond (decide (a≥0)) (decide (a≤8589934592)) false) (decide (b≥a)) false)
 let e:=(w64 (b-a))
 let d:Bool:=(cond (cond c (decide (b≤8589934592)) false) (decide (e≤34560000)) false)
 some d
def j43 [LP] (c:Tn73) (b d e:Int):Option (Tn75×Int):=
 (jfg (c.1,(c.2.1,(c.2.2.1,c.2.2.2)))).bind fun a=>
 cond (!a.2) (
 some (((a.1.1.1,(a.1.1.2.1,(a.1.1.2.2.1,a.1.1.2.2.2))),a.1.2),8)) (
 let g:=(Int.ofNat (List.length c.2.1))
 cond (cond (decide (b<0)) true (decide (b≥g))) (
 some (((a.1.1.1,(a.1.1.2.1,(a.1.1.2.2.1,a.1.1.2.2.2))),a.1.2),3)) (
 (jfZ d e).bind fun f=>
 cond (!f) (
 some (((a.1.1.1,(a.1.1.2.1,(a.1.1.2.2.1,a.1.1.2.2.2))),a.1.2),1)) (
 some (((a.1.1.1,(a.1.1.2.1,(a.1.1.2.2.1,a.1.1.2.2.2))),a.1.2),0))))
def jaI (a:(List Int)):Option ((List Int)):=
 cond (decide (List.length ([]:List (Int))+List.length a≤j0d)) (
 some (([]:List (Int))++a)) none
def jfh (a b c:Int):Option (Bool):=
 some (cond (decide (a≤b)) true (decide (a≥c)))
def j44 (i c g b:Int) (a:(List Int)):Option ((Int×Int×Int×Int×(List Int)) ⊕ (Tn1 ⊕ (List Int))):=
 cond (decide (b<g)) (
 cond (inR b (List.length a)) (
 let d:=(List.getD a (Int.toNat b) 0)
 (jfh d i c).bind fun e=>
 cond e (
 some (.inr (.inl (b,a)))) (
 let f:=(w64 (b+1))
 some (.inl (i,c,g,f,a)))) none) (
 some (.inr (.inr a)))
def j3f [LP] (d a c e:Int) (b:(List Int)):Option (Tn1 ⊕ (List Int)):=
 LP.lp (unc5 (j44)) (d,a,c,e,b)
def j1O [LP] (b:(List Int)) (c a:Int):Option Tn1:=
 let e:=(Int.ofNat (List.length b))
 (j3f c a e 0 b).bind fun d=>
 sumC d (fun f=>
 some (f.1,f.2)) (fun g=>
 some ((-1),g))
def j4q (m b e d:Int) (a:(List Int)):Option ((Int×Int×Int×Int×(List Int)) ⊕ (Tn1)):=
 let k:=(Int.ofNat (List.length a))
 cond (decide (d<k)) (
 cond (inR d (List.length a)) (
 let c:=(List.getD a (Int.toNat d) 0)
 (jfh c m b).bind fun g=>
 cond (!g) (
 cond (inR e (List.length a)) (
 let l:(List Int):=(List.set a (Int.toNat e) c)
 let i:=(w64 (e+1))
 let j:=(w64 (d+1))
 some (.inl (m,b,i,j,l))) none) (
 let f:=(w64 (d+1))
 some (.inl (m,b,e,f,a)))) none) (
 some (.inr (e,a)))
def j3K [LP] (e a c b:Int) (d:(List Int)):Option (Tn1):=
 LP.lp (unc5 (j4q)) (e,a,c,b,d)
def j27 [LP] (e:(List Int)) (d a:Int):Option Tn1:=
 (j1O e d a).bind fun c=>
 cond (c.1==(-1)) (
 some ((Int.ofNat (List.length c.2)),c.2)) (
 let f:=(w64 (c.1+1))
 (j3K d a c.1 f c.2).bind fun b=>
 cond (decide (0≤b.1)&&decide (b.1≤(Int.ofNat (List.length b.2)))) (
 let g:(List Int):=(List.take (Int.toNat b.1) b.2++List.replicate (List.length b.2-(Int.toNat b.1)) 0)
 cond (decide (0≤b.1)&&decide (b.1≤(Int.ofNat (List.length g)))) (
 some ((Int.ofNat (Int.toNat b.1)),g)) none) none)
def jfi (a:Int):Option (Int):=
 cond (decide (a≥4294967296)) (
 let l:Int:=(Int.fdiv a 4294967296)
 cond (decide (l≥65536)) (
 let m:Int:=(Int.fdiv l 65536)
 let b4:=(w64 (32+16))
 cond (decide (m≥256)) (
 let b9:Int:=(Int.fdiv m 256)
 let b5:=(w64 (b4+8))
 let b3:Int:=(IntKind.wrap .u8 b9)
 cond (inR b3 (ByteArray.size (ByteArray.mk #[0,1,2,2,3,3,3,3,4,4,4,4,4,4,4,4,5,5,5,5,5,5,5,5,5,5,5,5,5,5,5,5,6,6,6,6,6,6,6,6,6,6,6,6,6,6,6,6,6,6,6,6,6,6,6,6,6,6,6,6,6,6,6,6,7,7,7,7,7,7,7,7,7,7,7,7,7,7,7,7,7,7,7,7,7,7,7,7,7,7,7,7,7,7,7,7,7,7,7,7,7,7,7,7,7,7,7,7,7,7,7,7,7,7,7,7,7,7,7,7,7,7,7,7,7,7,7,7,8,8,8,8,8,8,8,8,8,8,8,8,8,8,8,8,8,8,8,8,8,8,8,8,8,8,8,8,8,8,8,8,8,8,8,8,8,8,8,8,8,8,8,8,8,8,8,8,8,8,8,8,8,8,8,8,8,8,8,8,8,8,8,8,8,8,8,8,8,8,8,8,8,8,8,8,8,8,8,8,8,8,8,8,8,8,8,8,8,8,8,8,8,8,8,8,8,8,8,8,8,8,8,8,8,8,8,8,8,8,8,8,8,8,8,8,8,8,8,8,8,8,8,8,8,8,8,8]))) (
 let b7:=(jix (ByteArray.mk #[0,1,2,2,3,3,3,3,4,4,4,4,4,4,4,4,5,5,5,5,5,5,5,5,5,5,5,5,5,5,5,5,6,6,6,6,6,6,6,6,6,6,6,6,6,6,6,6,6,6,6,6,6,6,6,6,6,6,6,6,6,6,6,6,7,7,7,7,7,7,7,7,7,7,7,7,7,7,7,7,7,7,7,7,7,7,7,7,7,7,7,7,7,7,7,7,7,7,7,7,7,7,7,7,7,7,7,7,7,7,7,7,7,7,7,7,7,7,7,7,7,7,7,7,7,7,7,7,8,8,8,8,8,8,8,8,8,8,8,8,8,8,8,8,8,8,8,8,8,8,8,8,8,8,8,8,8,8,8,8,8,8,8,8,8,8,8,8,8,8,8,8,8,8,8,8,8,8,8,8,8,8,8,8,8,8,8,8,8,8,8,8,8,8,8,8,8,8,8,8,8,8,8,8,8,8,8,8,8,8,8,8,8,8,8,8,8,8,8,8,8,8,8,8,8,8,8,8,8,8,8,8,8,8,8,8,8,8,8,8,8,8,8,8,8,8,8,8,8,8,8,8,8,8,8,8]) b3)
 let b8:=(w64 (b5+(w64 b7)))
 some b8) none) (
 let k:Int:=(IntKind.wrap .u8 m)
 cond (inR k (ByteArray.size (ByteArray.mk #[0,1,2,2,3,3,3,3,4,4,4,4,4,4,4,4,5,5,5,5,5,5,5,5,5,5,5,5,5,5,5,5,6,6,6,6,6,6,6,6,6,6,6,6,6,6,6,6,6,6,6,6,6,6,6,6,6,6,6,6,6,6,6,6,7,7,7,7,7,7,7,7,7,7,7,7,7,7,7,7,7,7,7,7,7,7,7,7,7,7,7,7,7,7,7,7,7,7,7,7,7,7,7,7,7,7,7,7,7,7,7,7,7,7,7,7,7,7,7,7,7,7,7,7,7,7,7,7,8,8,8,8,8,8,8,8,8,8,8,8,8,8,8,8,8,8,8,8,8,8,8,8,8,8,8,8,8,8,8,8,8,8,8,8,8,8,8,8,8,8,8,8,8,8,8,8,8,8,8,8,8,8,8,8,8,8,8,8,8,8,8,8,8,8,8,8,8,8,8,8,8,8,8,8,8,8,8,8,8,8,8,8,8,8,8,8,8,8,8,8,8,8,8,8,8,8,8,8,8,8,8,8,8,8,8,8,8,8,8,8,8,8,8,8,8,8,8,8,8,8,8,8,8,8,8,8]))) (
 let a5:=(jix (ByteArray.mk #[0,1,2,2,3,3,3,3,4,4,4,4,4,4,4,4,5,5,5,5,5,5,5,5,5,5,5,5,5,5,5,5,6,6,6,6,6,6,6,6,6,6,6,6,6,6,6,6,6,6,6,6,6,6,6,6,6,6,6,6,6,6,6,6,7,7,7,7,7,7,7,7,7,7,7,7,7,7,7,7,7,7,7,7,7,7,7,7,7,7,7,7,7,7,7,7,7,7,7,7,7,7,7,7,7,7,7,7,7,7,7,7,7,7,7,7,7,7,7,7,7,7,7,7,7,7,7,7,8,8,8,8,8,8,8,8,8,8,8,8,8,8,8,8,8,8,8,8,8,8,8,8,8,8,8,8,8,8,8,8,8,8,8,8,8,8,8,8,8,8,8,8,8,8,8,8,8,8,8,8,8,8,8,8,8,8,8,8,8,8,8,8,8,8,8,8,8,8,8,8,8,8,8,8,8,8,8,8,8,8,8,8,8,8,8,8,8,8,8,8,8,8,8,8,8,8,8,8,8,8,8,8,8,8,8,8,8,8,8,8,8,8,8,8,8,8,8,8,8,8,8,8,8,8,8,8]) k)
 let b6:=(w64 a5)
 let v:=(w64 (b4+b6))
 some v) none)) (
 cond (decide (l≥256)) (
 let r:Int:=(Int.fdiv l 256)
 let a2:=(w64 (32+8))
 let g:Int:=(IntKind.wrap .u8 r)
 cond (inR g (ByteArray.size (ByteArray.mk #[0,1,2,2,3,3,3,3,4,4,4,4,4,4,4,4,5,5,5,5,5,5,5,5,5,5,5,5,5,5,5,5,6,6,6,6,6,6,6,6,6,6,6,6,6,6,6,6,6,6,6,6,6,6,6,6,6,6,6,6,6,6,6,6,7,7,7,7,7,7,7,7,7,7,7,7,7,7,7,7,7,7,7,7,7,7,7,7,7,7,7,7,7,7,7,7,7,7,7,7,7,7,7,7,7,7,7,7,7,7,7,7,7,7,7,7,7,7,7,7,7,7,7,7,7,7,7,7,8,8,8,8,8,8,8,8,8,8,8,8,8,8,8,8,8,8,8,8,8,8,8,8,8,8,8,8,8,8,8,8,8,8,8,8,8,8,8,8,8,8,8,8,8,8,8,8,8,8,8,8,8,8,8,8,8,8,8,8,8,8,8,8,8,8,8,8,8,8,8,8,8,8,8,8,8,8,8,8,8,8,8,8,8,8,8,8,8,8,8,8,8,8,8,8,8,8,8,8,8,8,8,8,8,8,8,8,8,8,8,8,8,8,8,8,8,8,8,8,8,8,8,8,8,8,8,8]))) (
 let b0:=(jix (ByteArray.mk #[0,1,2,2,3,3,3,3,4,4,4,4,4,4,4,4,5,5,5,5,5,5,5,5,5,5,5,5,5,5,5,5,6,6,6,6,6,6,6,6,6,6,6,6,6,6,6,6,6,6,6,6,6,6,6,6,6,6,6,6,6,6,6,6,7,7,7,7,7,7,7,7,7,7,7,7,7,7,7,7,7,7,7,7,7,7,7,7,7,7,7,7,7,7,7,7,7,7,7,7,7,7,7,7,7,7,7,7,7,7,7,7,7,7,7,7,7,7,7,7,7,7,7,7,7,7,7,7,8,8,8,8,8,8,8,8,8,8,8,8,8,8,8,8,8,8,8,8,8,8,8,8,8,8,8,8,8,8,8,8,8,8,8,8,8,8,8,8,8,8,8,8,8,8,8,8,8,8,8,8,8,8,8,8,8,8,8,8,8,8,8,8,8,8,8,8,8,8,8,8,8,8,8,8,8,8,8,8,8,8,8,8,8,8,8,8,8,8,8,8,8,8,8,8,8,8,8,8,8,8,8,8,8,8,8,8,8,8,8,8,8,8,8,8,8,8,8,8,8,8,8,8,8,8,8,8]) g)
 let s:=(w64 b0)
 let o:=(w64 (a2+s))
 some o) none) (
 let d:Int:=(IntKind.wrap .u8 l)
 cond (inR d (ByteArray.size (ByteArray.mk #[0,1,2,2,3,3,3,3,4,4,4,4,4,4,4,4,5,5,5,5,5,5,5,5,5,5,5,5,5,5,5,5,6,6,6,6,6,6,6,6,6,6,6,6,6,6,6,6,6,6,6,6,6,6,6,6,6,6,6,6,6,6,6,6,7,7,7,7,7,7,7,7,7,7,7,7,7,7,7,7,7,7,7,7,7,7,7,7,7,7,7,7,7,7,7,7,7,7,7,7,7,7,7,7,7,7,7,7,7,7,7,7,7,7,7,7,7,7,7,7,7,7,7,7,7,7,7,7,8,8,8,8,8,8,8,8,8,8,8,8,8,8,8,8,8,8,8,8,8,8,8,8,8,8,8,8,8,8,8,8,8,8,8,8,8,8,8,8,8,8,8,8,8,8,8,8,8,8,8,8,8,8,8,8,8,8,8,8,8,8,8,8,8,8,8,8,8,8,8,8,8,8,8,8,8,8,8,8,8,8,8,8,8,8,8,8,8,8,8,8,8,8,8,8,8,8,8,8,8,8,8,8,8,8,8,8,8,8,8,8,8,8,8,8,8,8,8,8,8,8,8,8,8,8,8,8]))) (
 let a9:=(jix (ByteArray.mk #[0,1,2,2,3,3,3,3,4,4,4,4,4,4,4,4,5,5,5,5,5,5,5,5,5,5,5,5,5,5,5,5,6,6,6,6,6,6,6,6,6,6,6,6,6,6,6,6,6,6,6,6,6,6,6,6,6,6,6,6,6,6,6,6,7,7,7,7,7,7,7,7,7,7,7,7,7,7,7,7,7,7,7,7,7,7,7,7,7,7,7,7,7,7,7,7,7,7,7,7,7,7,7,7,7,7,7,7,7,7,7,7,7,7,7,7,7,7,7,7,7,7,7,7,7,7,7,7,8,8,8,8,8,8,8,8,8,8,8,8,8,8,8,8,8,8,8,8,8,8,8,8,8,8,8,8,8,8,8,8,8,8,8,8,8,8,8,8,8,8,8,8,8,8,8,8,8,8,8,8,8,8,8,8,8,8,8,8,8,8,8,8,8,8,8,8,8,8,8,8,8,8,8,8,8,8,8,8,8,8,8,8,8,8,8,8,8,8,8,8,8,8,8,8,8,8,8,8,8,8,8,8,8,8,8,8,8,8,8,8,8,8,8,8,8,8,8,8,8,8,8,8,8,8,8,8]) d)
 let p:=(w64 a9)
 let a6:=(w64 (32+p))
 some a6) none))) (
 cond (decide (a≥65536)) (
 let b:Int:=(Int.fdiv a 65536)
 let i:=(w64 (0+16))
 cond (decide (b≥256)) (
 let t:Int:=(Int.fdiv b 256)
 let y:=(w64 (i+8))
 let j:Int:=(IntKind.wrap .u8 t)
 cond (inR j (ByteArray.size (ByteArray.mk #[0,1,2,2,3,3,3,3,4,4,4,4,4,4,4,4,5,5,5,5,5,5,5,5,5,5,5,5,5,5,5,5,6,6,6,6,6,6,6,6,6,6,6,6,6,6,6,6,6,6,6,6,6,6,6,6,6,6,6,6,6,6,6,6,7,7,7,7,7,7,7,7,7,7,7,7,7,7,7,7,7,7,7,7,7,7,7,7,7,7,7,7,7,7,7,7,7,7,7,7,7,7,7,7,7,7,7,7,7,7,7,7,7,7,7,7,7,7,7,7,7,7,7,7,7,7,7,7,8,8,8,8,8,8,8,8,8,8,8,8,8,8,8,8,8,8,8,8,8,8,8,8,8,8,8,8,8,8,8,8,8,8,8,8,8,8,8,8,8,8,8,8,8,8,8,8,8,8,8,8,8,8,8,8,8,8,8,8,8,8,8,8,8,8,8,8,8,8,8,8,8,8,8,8,8,8,8,8,8,8,8,8,8,8,8,8,8,8,8,8,8,8,8,8,8,8,8,8,8,8,8,8,8,8,8,8,8,8,8,8,8,8,8,8,8,8,8,8,8,8,8,8,8,8,8,8]))) (
 let n:=(jix (ByteArray.mk #[0,1,2,2,3,3,3,3,4,4,4,4,4,4,4,4,5,5,5,5,5,5,5,5,5,5,5,5,5,5,5,5,6,6,6,6,6,6,6,6,6,6,6,6,6,6,6,6,6,6,6,6,6,6,6,6,6,6,6,6,6,6,6,6,7,7,7,7,7,7,7,7,7,7,7,7,7,7,7,7,7,7,7,7,7,7,7,7,7,7,7,7,7,7,7,7,7,7,7,7,7,7,7,7,7,7,7,7,7,7,7,7,7,7,7,7,7,7,7,7,7,7,7,7,7,7,7,7,8,8,8,8,8,8,8,8,8,8,8,8,8,8,8,8,8,8,8,8,8,8,8,8,8,8,8,8,8,8,8,8,8,8,8,8,8,8,8,8,8,8,8,8,8,8,8,8,8,8,8,8,8,8,8,8,8,8,8,8,8,8,8,8,8,8,8,8,8,8,8,8,8,8,8,8,8,8,8,8,8,8,8,8,8,8,8,8,8,8,8,8,8,8,8,8,8,8,8,8,8,8,8,8,8,8,8,8,8,8,8,8,8,8,8,8,8,8,8,8,8,8,8,8,8,8,8,8]) j)
 let x:=(w64 n)
 let a7:=(w64 (y+x))
 some a7) none) (
 let e:Int:=(IntKind.wrap .u8 b)
 cond (inR e (ByteArray.size (ByteArray.mk #[0,1,2,2,3,3,3,3,4,4,4,4,4,4,4,4,5,5,5,5,5,5,5,5,5,5,5,5,5,5,5,5,6,6,6,6,6,6,6,6,6,6,6,6,6,6,6,6,6,6,6,6,6,6,6,6,6,6,6,6,6,6,6,6,7,7,7,7,7,7,7,7,7,7,7,7,7,7,7,7,7,7,7,7,7,7,7,7,7,7,7,7,7,7,7,7,7,7,7,7,7,7,7,7,7,7,7,7,7,7,7,7,7,7,7,7,7,7,7,7,7,7,7,7,7,7,7,7,8,8,8,8,8,8,8,8,8,8,8,8,8,8,8,8,8,8,8,8,8,8,8,8,8,8,8,8,8,8,8,8,8,8,8,8,8,8,8,8,8,8,8,8,8,8,8,8,8,8,8,8,8,8,8,8,8,8,8,8,8,8,8,8,8,8,8,8,8,8,8,8,8,8,8,8,8,8,8,8,8,8,8,8,8,8,8,8,8,8,8,8,8,8,8,8,8,8,8,8,8,8,8,8,8,8,8,8,8,8,8,8,8,8,8,8,8,8,8,8,8,8,8,8,8,8,8,8]))) (
 let a0:=(jix (ByteArray.mk #[0,1,2,2,3,3,3,3,4,4,4,4,4,4,4,4,5,5,5,5,5,5,5,5,5,5,5,5,5,5,5,5,6,6,6,6,6,6,6,6,6,6,6,6,6,6,6,6,6,6,6,6,6,6,6,6,6,6,6,6,6,6,6,6,7,7,7,7,7,7,7,7,7,7,7,7,7,7,7,7,7,7,7,7,7,7,7,7,7,7,7,7,7,7,7,7,7,7,7,7,7,7,7,7,7,7,7,7,7,7,7,7,7,7,7,7,7,7,7,7,7,7,7,7,7,7,7,7,8,8,8,8,8,8,8,8,8,8,8,8,8,8,8,8,8,8,8,8,8,8,8,8,8,8,8,8,8,8,8,8,8,8,8,8,8,8,8,8,8,8,8,8,8,8,8,8,8,8,8,8,8,8,8,8,8,8,8,8,8,8,8,8,8,8,8,8,8,8,8,8,8,8,8,8,8,8,8,8,8,8,8,8,8,8,8,8,8,8,8,8,8,8,8,8,8,8,8,8,8,8,8,8,8,8,8,8,8,8,8,8,8,8,8,8,8,8,8,8,8,8,8,8,8,8,8,8]) e)
 let b1:=(w64 a0)
 let a4:=(w64 (i+b1))
 some a4) none)) (
 cond (decide (a≥256)) (
 let a8:Int:=(Int.fdiv a 256)
 let b2:=(w64 (0+8))
 let c:Int:=(IntKind.wrap .u8 a8)
 cond (inR c (ByteArray.size (ByteArray.mk #[0,1,2,2,3,3,3,3,4,4,4,4,4,4,4,4,5,5,5,5,5,5,5,5,5,5,5,5,5,5,5,5,6,6,6,6,6,6,6,6,6,6,6,6,6,6,6,6,6,6,6,6,6,6,6,6,6,6,6,6,6,6,6,6,7,7,7,7,7,7,7,7,7,7,7,7,7,7,7,7,7,7,7,7,7,7,7,7,7,7,7,7,7,7,7,7,7,7,7,7,7,7,7,7,7,7,7,7,7,7,7,7,7,7,7,7,7,7,7,7,7,7,7,7,7,7,7,7,8,8,8,8,8,8,8,8,8,8,8,8,8,8,8,8,8,8,8,8,8,8,8,8,8,8,8,8,8,8,8,8,8,8,8,8,8,8,8,8,8,8,8,8,8,8,8,8,8,8,8,8,8,8,8,8,8,8,8,8,8,8,8,8,8,8,8,8,8,8,8,8,8,8,8,8,8,8,8,8,8,8,8,8,8,8,8,8,8,8,8,8,8,8,8,8,8,8,8,8,8,8,8,8,8,8,8,8,8,8,8,8,8,8,8,8,8,8,8,8,8,8,8,8,8,8,8,8]))) (
 let a3:=(jix (ByteArray.mk #[0,1,2,2,3,3,3,3,4,4,4,4,4,4,4,4,5,5,5,5,5,5,5,5,5,5,5,5,5,5,5,5,6,6,6,6,6,6,6,6,6,6,6,6,6,6,6,6,6,6,6,6,6,6,6,6,6,6,6,6,6,6,6,6,7,7,7,7,7,7,7,7,7,7,7,7,7,7,7,7,7,7,7,7,7,7,7,7,7,7,7,7,7,7,7,7,7,7,7,7,7,7,7,7,7,7,7,7,7,7,7,7,7,7,7,7,7,7,7,7,7,7,7,7,7,7,7,7,8,8,8,8,8,8,8,8,8,8,8,8,8,8,8,8,8,8,8,8,8,8,8,8,8,8,8,8,8,8,8,8,8,8,8,8,8,8,8,8,8,8,8,8,8,8,8,8,8,8,8,8,8,8,8,8,8,8,8,8,8,8,8,8,8,8,8,8,8,8,8,8,8,8,8,8,8,8,8,8,8,8,8,8,8,8,8,8,8,8,8,8,8,8,8,8,8,8,8,8,8,8,8,8,8,8,8,8,8,8,8,8,8,8,8,8,8,8,8,8,8,8,8,8,8,8,8,8]) c)
 let a1:=(w64 a3)
 let w:=(w64 (b2+a1))
 some w) none) (
 let f:Int:=(IntKind.wrap .u8 a)
 cond (inR f (ByteArray.size (ByteArray.mk #[0,1,2,2,3,3,3,3,4,4,4,4,4,4,4,4,5,5,5,5,5,5,5,5,5,5,5,5,5,5,5,5,6,6,6,6,6,6,6,6,6,6,6,6,6,6,6,6,6,6,6,6,6,6,6,6,6,6,6,6,6,6,6,6,7,7,7,7,7,7,7,7,7,7,7,7,7,7,7,7,7,7,7,7,7,7,7,7,7,7,7,7,7,7,7,7,7,7,7,7,7,7,7,7,7,7,7,7,7,7,7,7,7,7,7,7,7,7,7,7,7,7,7,7,7,7,7,7,8,8,8,8,8,8,8,8,8,8,8,8,8,8,8,8,8,8,8,8,8,8,8,8,8,8,8,8,8,8,8,8,8,8,8,8,8,8,8,8,8,8,8,8,8,8,8,8,8,8,8,8,8,8,8,8,8,8,8,8,8,8,8,8,8,8,8,8,8,8,8,8,8,8,8,8,8,8,8,8,8,8,8,8,8,8,8,8,8,8,8,8,8,8,8,8,8,8,8,8,8,8,8,8,8,8,8,8,8,8,8,8,8,8,8,8,8,8,8,8,8,8,8,8,8,8,8,8]))) (
 let q:=(jix (ByteArray.mk #[0,1,2,2,3,3,3,3,4,4,4,4,4,4,4,4,5,5,5,5,5,5,5,5,5,5,5,5,5,5,5,5,6,6,6,6,6,6,6,6,6,6,6,6,6,6,6,6,6,6,6,6,6,6,6,6,6,6,6,6,6,6,6,6,7,7,7,7,7,7,7,7,7,7,7,7,7,7,7,7,7,7,7,7,7,7,7,7,7,7,7,7,7,7,7,7,7,7,7,7,7,7,7,7,7,7,7,7,7,7,7,7,7,7,7,7,7,7,7,7,7,7,7,7,7,7,7,7,8,8,8,8,8,8,8,8,8,8,8,8,8,8,8,8,8,8,8,8,8,8,8,8,8,8,8,8,8,8,8,8,8,8,8,8,8,8,8,8,8,8,8,8,8,8,8,8,8,8,8,8,8,8,8,8,8,8,8,8,8,8,8,8,8,8,8,8,8,8,8,8,8,8,8,8,8,8,8,8,8,8,8,8,8,8,8,8,8,8,8,8,8,8,8,8,8,8,8,8,8,8,8,8,8,8,8,8,8,8,8,8,8,8,8,8,8,8,8,8,8,8,8,8,8,8,8,8]) f)
 let z:=(w64 q)
 let u:=(w64 (0+z))
 some u) none)))
def jhK (a:Int):Option (Int):=
 (jfi a).bind fun b=>
 some b
def jdW (a:Int):Option (Bool):=
 some (a != a)
def jfj (a b:Int):Option (Bool):=
 (jdW a).bind fun d=>
 cond d (
 (jdW b).bind fun c=>
 some (cond (!c) true (decide (a<b)))) (
 some (decide (a<b)))
def j3g (n q p b:Int) (a:(List Int)):Option ((Int×Int×Int×Int×(List Int)) ⊕ ((Int×Int×Int×(List Int)))):=
 cond (decide (b>n)) (
 cond (inR b (List.length a)) (
 let o:=(List.getD a (Int.toNat b) 0)
 let c:=(w64 (b-1))
 cond (inR c (List.length a)) (
 let l:=(List.getD a (Int.toNat c) 0)
 (jfj o l).bind fun j=>
 cond j (
 let d:=(w64 (b-1))
 let f:=(w64 (b-1))
 cond (inR f (List.length a)) (
 let m:=(List.getD a (Int.toNat f) 0)
 cond (inR b (List.length a)) (
 let g:=(List.getD a (Int.toNat b) 0)
 cond (inR b (List.length a)) (
 let e:(List Int):=(List.set a (Int.toNat b) m)
 cond (inR d (List.length e)) (
 let i:(List Int):=(List.set e (Int.toNat d) g)
 let k:=(w64 (b-1))
 some (.inl (n,q,p,k,i))) none) none) none) none) (
 some (.inr (n,q,p,a)))) none) none) (
 some (.inr (n,q,p,a)))
def j2y [LP] (e c a d:Int) (b:(List Int)):Option ((Int×Int×Int×(List Int))):=
 LP.lp (unc5 (j3g)) (e,c,a,d,b)
def j0G [LP] (f e c:Int) (d:(List Int)):Option ((Int×Int×Int×(List Int)) ⊕ ((List Int))):=
 cond (decide (c<e)) (
 (j2y f e c c d).bind fun a=>
 let b:=(w64 (a.2.2.1+1))
 some (.inl (a.1,a.2.1,b,a.2.2.2))) (
 some (.inr d))
def j2z [LP] (c a d:Int) (b:(List Int)):Option ((List Int)):=
 LP.lp (unc4 (j0G)) (c,a,d,b)
def j1j [LP] (a:(List Int)) (b c:Int):Option ((List Int)):=
 let e:=(w64 (b+1))
 (j2z b c e a).bind fun d=>
 some d
def j17 [LP] (d c e:Int) (g i:Bool) (f:(List Int)):Option ((Int×Int×Int×Bool×Bool×(List Int)) ⊕ ((List Int))):=
 let b:=(w64 (c-d))
 cond (decide (b≤12)) (
 (j1j f d c).bind fun a=>
 some (.inr a)) (
 cond (e==0) (
 none) (
 cond (!g) (
 none) (
 none)))
def j3L [LP] (e d a:Int) (f b:Bool) (c:(List Int)):Option ((List Int)):=
 LP.lp (unc6 (j17)) (e,d,a,f,b,c)
def j28 [LP] (b:(List Int)) (d c a:Int):Option ((List Int)):=
 (j3L d c a true true b).bind fun e=>
 some e
def j45 [LP] (a:(List Int)):Option ((List Int)):=
 let c:=(Int.ofNat (List.length a))
 let d:Int:=(IntKind.wrap .u64 c)
 (jhK d).bind fun e=>
 (j28 a 0 c e).bind fun b=>
 some b
def j5k (e b c:Int) (a:(List Int)):Option ((Int×Int×Int×(List Int)) ⊕ (Tn1)):=
 let f:=(Int.ofNat (List.length a-(Int.toNat b)))
 cond (decide (c<f)) (
 cond (inR c (List.length a-(Int.toNat b))) (
 let l:=(List.getD a ((Int.toNat b)+(Int.toNat c)) 0)
 let d:=(w64 (c-1))
 cond (inR d (List.length a-(Int.toNat b))) (
 let g:=(List.getD a ((Int.toNat b)+(Int.toNat d)) 0)
 cond (l != g) (
 cond (inR c (List.length a-(Int.toNat b))) (
 let i:=(List.getD a ((Int.toNat b)+(Int.toNat c)) 0)
 cond (inR e (List.length a)) (
 let n:(List Int):=(List.set a (Int.toNat e) i)
 let j:=(w64 (e+1))
 let m:=(w64 (c+1))
 some (.inl (j,(Int.ofNat (Int.toNat b)),m,n))) none) none) (
 let k:=(w64 (c+1))
 some (.inl (e,(Int.ofNat (Int.toNat b)),k,a)))) none) none) (
 some (.inr (e,a)))
def j4L [LP] (b c d:Int) (a:(List Int)):Option (Tn1):=
 LP.lp (unc4 (j5k)) (b,c,d,a)
def j1r [LP] (b:Int) (c:(List Int)):Option (Tn1 ⊕ (Tn1 ⊕ (List Int))):=
 let f:=(Int.ofNat (List.length c))
 cond (decide (b<f)) (
 cond (inR b (List.length c)) (
 let i:=(List.getD c (Int.toNat b) 0)
 let d:=(w64 (b-1))
 cond (inR d (List.length c)) (
 let j:=(List.getD c (Int.toNat d) 0)
 cond (i==j) (
 cond (decide (0≤b)&&decide (b≤(Int.ofNat (List.length c)))) (
 (j4L b (Int.ofNat (Int.toNat b)) 1 c).bind fun a=>
 cond (decide (0≤a.1)&&decide (a.1≤(Int.ofNat (List.length a.2)))) (
 let e:(List Int):=(List.take (Int.toNat a.1) a.2++List.replicate (List.length a.2-(Int.toNat a.1)) 0)
 cond (decide (0≤a.1)&&decide (a.1≤(Int.ofNat (List.length e)))) (
 some (.inr (.inl ((Int.ofNat (Int.toNat a.1)),e)))) none) none) none) (
 let g:=(w64 (b+1))
 some (.inl (g,c)))) none) none) (
 some (.inr (.inr c)))
def j4M [LP] (b:Int) (a:(List Int)):Option (Tn1 ⊕ (List Int)):=
 LP.lp (unc2 (j1r)) (b,a)
def j30 [LP] (a:(List Int)):Option Tn1:=
 let c:=(Int.ofNat (List.length a))
 cond (decide (c<2)) (
 some ((Int.ofNat (List.length a)),a)) (
 (j4M 1 a).bind fun b=>
 sumC b (fun e=>
 some ((Int.ofNat (Int.toNat e.1)),e.2)) (fun d=>
 some ((Int.ofNat (List.length d)),d)))
def jdm [LP] (f:(List Int)) (b a:Int):Option ((List Int)):=
 (jaI f).bind fun k=>
 (j27 k b a).bind fun d=>
 let j:(List Int):=(List.take (Int.toNat d.1) d.2)
 (j45 j).bind fun i=>
 (j30 i).bind fun e=>
 let c:(List Int):=(List.take (Int.toNat e.1) e.2)
 cond (decide (List.length c+List.length [a]≤j0d)) (
 let g:(List Int):=(c++[a])
 some g) none
def j46 (a:Tn62):Option (Tn62):=
 some a
def jiP (a:Tn61):Option (Int):=
 cond (a.2.2.2.1==2) (
 let b:=(w64 (7*a.2.2.2.2.1))
 some b) (
 some a.2.2.2.2.1)
def j7D (b e:Int) (a:Tn2) (d:Int):Option (Bool):=
 cond (inR b (List.length a)) (
 let c:=(List.getD a (Int.toNat b) (0,0))
 some (decide (c.1>d))) none
def j33 (l:Int) (b:Tn2) (a e k:Int):Option ((Int×Tn2×Int×Int×Int) ⊕ (Int)):=
 cond (decide (e<k)) (
 let f:=(w64 (e+k))
 let d:Int:=(IntKind.wrap .u64 f)
 let i:Int:=(Int.fdiv d 2)
 let c:=(w64 i)
 (j7D c l b a).bind fun g=>
 cond (!g) (
 let j:=(w64 (c+1))
 some (.inl (l,b,a,j,k))) (
 some (.inl (l,b,a,e,c)))) (
 some (.inr e))
def j5R [LP] (e b a d c):=LP.lp (fun h=>j33 h.1 h.2.1 h.2.2.1 h.2.2.2.1 h.2.2.2.2) (e,b,a,d,c)
theorem jdn (e b a d c):j5R e b a d c=lpK (j33 e b a d c) (fun h=>j5R h.1 h.2.1 h.2.2.1 h.2.2.2.1 h.2.2.2.2):=j0h _ _
def j98 [LP] (c d:Int) (a:Tn2) (b:Int):Option (Int):=
 (j5R d a b 0 c).bind fun e=>
 some e
def j2W [LP] (a:Tn14) (b:Int):Option (Int):=
 let c:=(Int.ofNat (List.length a.2))
 (j98 c a.1 a.2 b).bind fun d=>
 some d
def j3W (a:Tn14) (b:Int):Option (Int):=
 cond (b==0) (
 some a.1) (
 let c:=(w64 (b-1))
 cond (inR c (List.length a.2)) (
 let d:=(List.getD a.2 (Int.toNat c) (0,0))
 some d.2) none)
def j29 [LP] (n c i:Int) (a:Tn2) (j:Tn15):Option ((Int×Int×Int×Tn2×Tn15) ⊕ (Tn15)):=
 cond (decide (n<c)) (
 (j2W (i,a) n).bind fun b=>
 let l:=(Int.ofNat (List.length a))
 cond (decide (b<l)) (
 cond (inR b (List.length a)) (
 let g:=(List.getD a (Int.toNat b) (0,0))
 let e:Int:=(if g.1<c then g.1 else c:Int)
 (j3W (i,a) b).bind fun o=>
 let d:Tn15:=[(n,(e,o))]
 cond (decide (List.length j+List.length d≤j0d)) (
 let p:Tn15:=(j++d)
 some (.inl (e,c,i,a,p))) none) none) (
 (j3W (i,a) b).bind fun m=>
 let f:Tn15:=[(n,(c,m))]
 cond (decide (List.length j+List.length f≤j0d)) (
 let k:Tn15:=(j++f)
 some (.inl (c,c,i,a,k))) none)) (
 some (.inr j))
def j6U [LP] (d b c a e):=LP.lp (fun h=>j29 h.1 h.2.1 h.2.2.1 h.2.2.2.1 h.2.2.2.2) (d,b,c,a,e)
def j34 [LP] (b:Tn14) (a c:Int):Option (Tn15):=
 (j6U a c b.1 b.2 ([]:Tn15)).bind fun d=>
 some d
def jjm (a:(Int×Int)):Option (Int):=
 let b:Int:=(if (-1048576)>a.1 then (-1048576) else a.1:Int)
 let d:Int:=(if 1048576<b then 1048576 else b:Int)
 let e:=(w64 (d*86400))
 let c:=(w64 (e+a.2))
 some c
def j7Z (l a m f:Int) (b:Tn15):Option ((Int×Int×Int×Int×Tn15) ⊕ ((Int×Bool) ⊕ Unit)):=
 cond (decide (a<l)) (
 cond (inR a (List.length b)) (
 let c:=(List.getD b (Int.toNat a) (0,(0,0))).1
 let j:=(List.getD b (Int.toNat a) (0,(0,0))).2.1
 let g:=(List.getD b (Int.toNat a) (0,(0,0))).2.2
 (jjm (m,f)).bind fun i=>
 let d:=(w64 (i-g))
 let e:Int:=(if d>c then d else c:Int)
 cond (decide (e<j)) (
 some (.inr (.inl (e,true)))) (
 let k:=(w64 (a+1))
 some (.inl (l,k,m,f,b)))) none) (
 some (.inr (.inr ())))
def j7E [LP] (c b e a d):=LP.lp (fun h=>j7Z h.1 h.2.1 h.2.2.1 h.2.2.2.1 h.2.2.2.2) (c,b,e,a,d)
def j4m [LP] (b:Tn14) (a:(Int×Int)):Option (Int×Bool):=
 (j34 (b.1,b.2) 0 8589934593).bind fun c=>
 let d:=(Int.ofNat (List.length c))
 (j7E d 0 a.1 a.2 c).bind fun e=>
 sumC e (fun f=>
 some (f.1,f.2)) (fun g=>
 some (0,false))
def j2e [LP] (b:Tn14) (a:Tn61) (c:Int):Option (Int×Bool):=
 cond (decide (c>8589934592)) (
 some (0,false)) (
 cond (a.2.2.2.1 != 0) (
 (jiP (a.1,(a.2.1,((a.2.2.1.1,a.2.2.1.2),(a.2.2.2.1,(a.2.2.2.2.1,(a.2.2.2.2.2.1,(a.2.2.2.2.2.2.1,(a.2.2.2.2.2.2.2.1,a.2.2.2.2.2.2.2.2))))))))).bind fun j=>
 let g:=(w64 (c*j))
 let l:=(w64 (a.2.2.1.1+g))
 (j4m (b.1,b.2) (l,a.2.2.1.2)).bind fun d=>
 some (d.1,d.2)) (
 (j4m (b.1,b.2) (a.2.2.1.1,a.2.2.1.2)).bind fun f=>
 let i:=(w64 (3600*a.2.2.2.2.1))
 let k:=(w64 (i*c))
 let e:=(w64 (f.1+k))
 some (e,(cond f.2 (decide (e≤8589934592)) false))))
def j5l (a:Tn2):Option (Tn2):=
 cond (decide (List.length ([]:List ((Int×Int)))+List.length a≤j0d)) (
 some (([]:List ((Int×Int)))++a)) none
def jdX (a:(Int×Int)):Option (Bool):=
 some (decide (a.2≤a.1))
def j2X (g b:Int) (a:Tn2):Option ((Int×Int×Tn2) ⊕ (Tn14 ⊕ Tn2)):=
 cond (decide (b<g)) (
 cond (inR b (List.length a)) (
 let e:=(List.getD a (Int.toNat b) (0,0)).1
 let c:=(List.getD a (Int.toNat b) (0,0)).2
 (jdX (e,c)).bind fun d=>
 cond d (
 some (.inr (.inl (b,a)))) (
 let f:=(w64 (b+1))
 some (.inl (g,f,a)))) none) (
 some (.inr (.inr a)))
def j23 [LP] (b c a):=LP.lp (fun h=>j2X h.1 h.2.1 h.2.2) (b,c,a)
def j12 [LP] (a:Tn2):Option Tn14:=
 let c:=(Int.ofNat (List.length a))
 (j23 c 0 a).bind fun b=>
 sumC b (fun d=>
 some (d.1,d.2)) (fun e=>
 some ((-1),e))
def j2G (e d:Int) (a:Tn2):Option ((Int×Int×Tn2) ⊕ (Tn14)):=
 let k:=(Int.ofNat (List.length a))
 cond (decide (d<k)) (
 cond (inR d (List.length a)) (
 let c:=(List.getD a (Int.toNat d) (0,0)).1
 let b:=(List.getD a (Int.toNat d) (0,0)).2
 (jdX (c,b)).bind fun g=>
 cond (!g) (
 cond (inR e (List.length a)) (
 let l:Tn2:=(List.set a (Int.toNat e) (c,b))
 let i:=(w64 (e+1))
 let j:=(w64 (d+1))
 some (.inl (i,j,l))) none) (
 let f:=(w64 (d+1))
 some (.inl (e,f,a)))) none) (
 some (.inr (e,a)))
def j1W [LP] (c a b):=LP.lp (fun h=>j2G h.1 h.2.1 h.2.2) (c,a,b)
def j0T [LP] (c:Tn2):Option Tn14:=
 (j12 c).bind fun b=>
 cond (b.1==(-1)) (
 some ((Int.ofNat (List.length b.2)),b.2)) (
 let d:=(w64 (b.1+1))
 (j1W b.1 d b.2).bind fun a=>
 cond (decide (0≤a.1)&&decide (a.1≤(Int.ofNat (List.length a.2)))) (
 let e:Tn2:=(List.take (Int.toNat a.1) a.2++List.replicate (List.length a.2-(Int.toNat a.1)) (0,0))
 cond (decide (0≤a.1)&&decide (a.1≤(Int.ofNat (List.length e)))) (
 some ((Int.ofNat (Int.toNat a.1)),e)) none) none)
def jaW (a b:(Int×Int)):Option (Int):=
 let c:=(w64 (a.1-b.1))
 some c
def j1T (a:Tn2):Option (Tn2):=
 jpE ((.pair (.int .i64) (.int .i64))) (fun b c=>(jaW b c).getD 0) a
def jcv (m d:Int) (a e:Tn2):Option ((Int×Int×Tn2×Tn2) ⊕ (Tn2)):=
 cond (decide (d<m)) (
 cond (inR d (List.length e)) (
 let g:=(List.getD e (Int.toNat d) (0,0)).1
 let c:=(List.getD e (Int.toNat d) (0,0)).2
 let b:=(Int.ofNat (List.length a))
 cond (decide (b>0)) (
 let n:=(w64 (b-1))
 cond (inR n (List.length a)) (
 let o:=(List.getD a (Int.toNat n) (0,0)).2
 cond (decide (g≤o)) (
 let f:=(w64 (b-1))
 let k:=(w64 (b-1))
 cond (inR k (List.length a)) (
 let i:=(List.getD a (Int.toNat k) (0,0)).2
 let u:Int:=(if c>i then c else i:Int)
 cond (inR f (List.length a)) (
 let t:Tn2:=(List.set a (Int.toNat f) ((List.getD a (Int.toNat f) (0,0)).1,u))
 let r:=(w64 (d+1))
 some (.inl (m,r,t,e))) none) none) (
 let l:Tn2:=[(g,c)]
 cond (decide (List.length a+List.length l≤j0d)) (
 let q:Tn2:=(a++l)
 let v:=(w64 (d+1))
 some (.inl (m,v,q,e))) none)) none) (
 let j:Tn2:=[(g,c)]
 cond (decide (List.length a+List.length j≤j0d)) (
 let p:Tn2:=(a++j)
 let s:=(w64 (d+1))
 some (.inl (m,s,p,e))) none)) none) (
 some (.inr a))
def jdY [LP] (a b d c):=LP.lp (fun h=>jcv h.1 h.2.1 h.2.2.1 h.2.2.2) (a,b,d,c)
def j5S [LP] (c:Tn2):Option (Tn2):=
 (j5l c).bind fun g=>
 (j0T g).bind fun b=>
 let e:Tn2:=(List.take (Int.toNat b.1) b.2)
 (j1T e).bind fun a=>
 let d:=(Int.ofNat (List.length a))
 (jdY d 0 ([]:Tn2) a).bind fun f=>
 some f
def jaJ (u:Tn2) (f p q:Int) (k:Tn2) (s j i a d:Int) (t:Tn2) (r:Tn15):Option ((Tn2×Int×Int×Int×Tn2×Int×Int×Int×Int×Int×Tn2×Tn15) ⊕ ((Tn2×Int×Int×Int×Int×Int×Int×Tn2×Tn15))):=
 cond (decide (j<s)) (
 cond (inR j (List.length k)) (
 let e:=(List.getD k (Int.toNat j) (0,0))
 let g:=(w64 (f+e.1))
 let m:Int:=(if g>i then g else i:Int)
 let b:=(w64 (f+e.2))
 let l:Int:=(if b<a then b else a:Int)
 let c:Tn2:=[(m,l)]
 cond (decide (List.length t+List.length c≤j0d)) (
 let n:Tn2:=(t++c)
 let o:=(w64 (j+1))
 some (.inl (u,f,p,q,k,s,o,i,a,d,n,r))) none) none) (
 some (.inr (u,f,p,q,i,a,d,t,r)))
def jbn [LP] (m g d c k j i e b a l f):=LP.lp (fun h=>jaJ h.1 h.2.1 h.2.2.1 h.2.2.2.1 h.2.2.2.2.1 h.2.2.2.2.2.1 h.2.2.2.2.2.2.1 h.2.2.2.2.2.2.2.1 h.2.2.2.2.2.2.2.2.1 h.2.2.2.2.2.2.2.2.2.1 h.2.2.2.2.2.2.2.2.2.2.1 h.2.2.2.2.2.2.2.2.2.2.2) (m,g,d,c,k,j,i,e,b,a,l,f)
def j3C [LP] (d:Tn2) (k i g l b f:Int) (m:Tn2) (j:Tn15):Option ((Tn2×Int×Int×Int×Int×Int×Int×Tn2×Tn15) ⊕ ((Tn2×Int×Int×Tn2×Tn15))):=
 cond (decide (k<b)) (
 let e:=(Int.ofNat (List.length d))
 (jbn d k i g d e 0 l b f m j).bind fun a=>
 let c:=(w64 (a.2.1+604800))
 some (.inl (a.1,c,a.2.2.1,a.2.2.2.1,a.2.2.2.2.1,a.2.2.2.2.2.1,a.2.2.2.2.2.2.1,a.2.2.2.2.2.2.2.1,a.2.2.2.2.2.2.2.2))) (
 some (.inr (d,i,g,m,j)))
def jbo [LP] (j g d c e b a i f):=LP.lp (fun h=>j3C h.1 h.2.1 h.2.2.1 h.2.2.2.1 h.2.2.2.2.1 h.2.2.2.2.2.1 h.2.2.2.2.2.2.1 h.2.2.2.2.2.2.2.1 h.2.2.2.2.2.2.2.2) (j,g,d,c,e,b,a,i,f)
def j3D [LP] (q:Tn2) (o b:Int) (p:Tn2) (d:Tn15):Option ((Tn2×Int×Int×Tn2×Tn15) ⊕ (Tn2)):=
 cond (decide (b<o)) (
 cond (inR b (List.length d)) (
 let e:=(List.getD d (Int.toNat b) (0,(0,0))).1
 let l:=(List.getD d (Int.toNat b) (0,(0,0))).2.1
 let c:=(List.getD d (Int.toNat b) (0,(0,0))).2.2
 let i:=(w64 (e+c))
 let f:=(w64 (i-(-259200)))
 let k:=(Int.tmod f 604800)
 let m:=(w64 (f-k))
 let g:=(w64 (m+(-259200)))
 let n:=(w64 (g-c))
 (jbo q n o b e l c p d).bind fun a=>
 let j:=(w64 (a.2.2.1+1))
 some (.inl (a.1,a.2.1,j,a.2.2.2.1,a.2.2.2.2))) none) (
 some (.inr p))
def jbp [LP] (e b a d c):=LP.lp (fun h=>j3D h.1 h.2.1 h.2.2.1 h.2.2.2.1 h.2.2.2.2) (e,b,a,d,c)
def j4r [LP] (b:Tn14) (e:Tn2) (a c:Int):Option (Tn2):=
 (j34 (b.1,b.2) a c).bind fun d=>
 let g:=(Int.ofNat (List.length d))
 (jbp e g 0 ([]:Tn2) d).bind fun i=>
 (j5S i).bind fun f=>
 some f
def j8V (r t:Int) (g:(List Int)) (u e:Int) (w:ByteArray) (j:Int) (i:(List Int)) (k b f:Int) (v:Tn2) (s:Tn15):Option ((Int×Int×(List Int)×Int×Int×ByteArray×Int×(List Int)×Int×Int×Int×Tn2×Tn15) ⊕ ((Int×Int×ByteArray×Int×(List Int)×Tn2×Tn15))):=
 cond (decide (e<u)) (
 cond (inR e (List.length g)) (
 let m:=(List.getD g (Int.toNat e) 0)
 let o:=(w64 (m*86400))
 let a:=(w64 (o-f))
 let n:Int:=(if a>k then a else k:Int)
 let c:=(w64 (a+86400))
 let l:Int:=(if c<b then c else b:Int)
 let d:Tn2:=[(n,l)]
 cond (decide (List.length v+List.length d≤j0d)) (
 let q:Tn2:=(v++d)
 let p:=(w64 (e+1))
 some (.inl (r,t,g,u,p,w,j,i,k,b,f,q,s))) none) none) (
 some (.inr (r,t,w,j,i,v,s)))
def j99 [LP] (f i k l j n d c e b a m g):=LP.lp (fun h=>j8V h.1 h.2.1 h.2.2.1 h.2.2.2.1 h.2.2.2.2.1 h.2.2.2.2.2.1 h.2.2.2.2.2.2.1 h.2.2.2.2.2.2.2.1 h.2.2.2.2.2.2.2.2.1 h.2.2.2.2.2.2.2.2.2.1 h.2.2.2.2.2.2.2.2.2.2.1 h.2.2.2.2.2.2.2.2.2.2.2.1 h.2.2.2.2.2.2.2.2.2.2.2.2) (f,i,k,l,j,n,d,c,e,b,a,m,g)
def j31 [LP] (k b:Int) (n:ByteArray) (l:Int) (d:(List Int)) (m:Tn2) (c:Tn15):Option ((Int×Int×ByteArray×Int×(List Int)×Tn2×Tn15) ⊕ (Tn2)):=
 cond (decide (b<k)) (
 cond (inR b (List.length c)) (
 let i:=(List.getD c (Int.toNat b) (0,(0,0))).1
 let j:=(List.getD c (Int.toNat b) (0,(0,0))).2.1
 let f:=(List.getD c (Int.toNat b) (0,(0,0))).2.2
 let g:=(Int.ofNat (List.length d))
 (j99 k b d g 0 n l d i j f m c).bind fun a=>
 let e:=(w64 (a.2.1+1))
 some (.inl (a.1,e,a.2.2.1,a.2.2.2.1,a.2.2.2.2.1,a.2.2.2.2.2.1,a.2.2.2.2.2.2))) none) (
 some (.inr m))
def j9a [LP] (c e g b a f d):=LP.lp (fun h=>j31 h.1 h.2.1 h.2.2.1 h.2.2.2.1 h.2.2.2.2.1 h.2.2.2.2.2.1 h.2.2.2.2.2.2) (c,e,g,b,a,f,d)
def j3T [LP] (c:Tn75) (a:Tn20) (b d:Int):Option (Tn2):=
 cond (inR a.2.1 (List.length c.2)) (
 let e:=(List.getD c.2 (Int.toNat a.2.1) (0,([]:Tn2)))
 (j34 (e.1,e.2) b d).bind fun f=>
 let i:=(Int.ofNat (List.length f))
 (j9a i 0 a.1 a.2.1 a.2.2 ([]:Tn2) f).bind fun j=>
 (j5S j).bind fun g=>
 some g) none
def jaK (c:Tn2) (b:Int) (e:Tn2) (d f k a:Int) (l:Tn2):Option ((Tn2×Int×Tn2×Int×Int×Int×Int×Tn2) ⊕ ((Tn2×Int×Tn2×Int×Int×Int×Int×Tn2))):=
 let j:=(Int.ofNat (List.length c))
 cond (decide (b<j)) (
 cond (inR b (List.length c)) (
 let i:=(List.getD c (Int.toNat b) (0,0))
 cond (decide (i.2≤k)) (
 let g:=(w64 (b+1))
 some (.inl (c,g,e,d,f,k,a,l))) (
 some (.inr (c,b,e,d,f,k,a,l)))) none) (
 some (.inr (c,b,e,d,f,k,a,l)))
def jbq [LP] (g e c b d i a f):=LP.lp (fun h=>jaK h.1 h.2.1 h.2.2.1 h.2.2.2.1 h.2.2.2.2.1 h.2.2.2.2.2.1 h.2.2.2.2.2.2.1 h.2.2.2.2.2.2.2) (g,e,c,b,d,i,a,f)
def jaL (b:Tn2) (r d a:Int) (f:Tn2) (e i o c:Int) (l:Tn2):Option ((Tn2×Int×Int×Int×Tn2×Int×Int×Int×Int×Tn2) ⊕ ((Tn2×Int×Int×Tn2×Int×Int×Int×Int×Tn2))):=
 let u:=(Int.ofNat (List.length b))
 cond (decide (a<u)) (
 cond (inR a (List.length b)) (
 let m:=(List.getD b (Int.toNat a) (0,0))
 cond (decide (m.1<c)) (
 cond (inR a (List.length b)) (
 let n:=(List.getD b (Int.toNat a) (0,0))
 cond (decide (d<n.1)) (
 cond (inR a (List.length b)) (
 let w:=(List.getD b (Int.toNat a) (0,0))
 let j:Tn2:=[(d,w.1)]
 cond (decide (List.length l+List.length j≤j0d)) (
 let q:Tn2:=(l++j)
 cond (inR a (List.length b)) (
 let k:=(List.getD b (Int.toNat a) (0,0))
 let v:Int:=(if k.2>d then k.2 else d:Int)
 let p:=(w64 (a+1))
 some (.inl (b,r,v,p,f,e,i,o,c,q))) none) none) none) (
 cond (inR a (List.length b)) (
 let g:=(List.getD b (Int.toNat a) (0,0))
 let s:Int:=(if g.2>d then g.2 else d:Int)
 let t:=(w64 (a+1))
 some (.inl (b,r,s,t,f,e,i,o,c,l))) none)) none) (
 some (.inr (b,r,d,f,e,i,o,c,l)))) none) (
 some (.inr (b,r,d,f,e,i,o,c,l)))
def jbr [LP] (j f g e c b d k a i):=LP.lp (fun h=>jaL h.1 h.2.1 h.2.2.1 h.2.2.2.1 h.2.2.2.2.1 h.2.2.2.2.2.1 h.2.2.2.2.2.2.1 h.2.2.2.2.2.2.2.1 h.2.2.2.2.2.2.2.2.1 h.2.2.2.2.2.2.2.2.2) (j,f,g,e,c,b,d,k,a,i)
def j3E [LP] (n:Tn2) (m:Int) (f:Tn2) (k c:Int) (l:Tn2):Option ((Tn2×Int×Tn2×Int×Int×Tn2) ⊕ (Tn2)):=
 cond (decide (c<k)) (
 cond (inR c (List.length f)) (
 let d:=(List.getD f (Int.toNat c) (0,0))
 (jbq n m f k c d.1 d.2 l).bind fun b=>
 (jbr b.1 b.2.1 b.2.2.2.2.2.1 b.2.1 b.2.2.1 b.2.2.2.1 b.2.2.2.2.1 b.2.2.2.2.2.1 b.2.2.2.2.2.2.1 b.2.2.2.2.2.2.2).bind fun a=>
 cond (decide (a.2.2.1<a.2.2.2.2.2.2.2.1)) (
 let e:Tn2:=[(a.2.2.1,a.2.2.2.2.2.2.2.1)]
 cond (decide (List.length a.2.2.2.2.2.2.2.2+List.length e≤j0d)) (
 let g:Tn2:=(a.2.2.2.2.2.2.2.2++e)
 let j:=(w64 (a.2.2.2.2.2.1+1))
 some (.inl (a.1,a.2.1,a.2.2.2.1,a.2.2.2.2.1,j,g))) none) (
 let i:=(w64 (a.2.2.2.2.2.1+1))
 some (.inl (a.1,a.2.1,a.2.2.2.1,a.2.2.2.2.1,i,a.2.2.2.2.2.2.2.2)))) none) (
 some (.inr l))
def jbs [LP] (f d b a c e):=LP.lp (fun h=>j3E h.1 h.2.1 h.2.2.1 h.2.2.2.1 h.2.2.2.2.1 h.2.2.2.2.2) (f,d,b,a,c,e)
def j4s [LP] (a b:Tn2):Option (Tn2):=
 let c:=(Int.ofNat (List.length a))
 (jbs b 0 a c 0 ([]:Tn2)).bind fun d=>
 some d
def jbt (d b:Tn2) (c a:Int) (n:Tn2):Option ((Tn2×Tn2×Int×Int×Tn2) ⊕ (Tn2)):=
 let r:=(Int.ofNat (List.length d))
 let q:=(Int.ofNat (List.length b))
 cond (cond (decide (c<r)) (decide (a<q)) false) (
 cond (inR c (List.length d)) (
 let l:=(List.getD d (Int.toNat c) (0,0))
 cond (inR a (List.length b)) (
 let g:=(List.getD b (Int.toNat a) (0,0))
 let f:Int:=(if g.1>l.1 then g.1 else l.1:Int)
 cond (inR c (List.length d)) (
 let e:=(List.getD d (Int.toNat c) (0,0))
 cond (inR a (List.length b)) (
 let i:=(List.getD b (Int.toNat a) (0,0))
 let k:Int:=(if i.2<e.2 then i.2 else e.2:Int)
 cond (decide (f<k)) (
 let j:Tn2:=[(f,k)]
 cond (decide (List.length n+List.length j≤j0d)) (
 let m:Tn2:=(n++j)
 cond (inR c (List.length d)) (
 let v:=(List.getD d (Int.toNat c) (0,0))
 cond (inR a (List.length b)) (
 let t:=(List.getD b (Int.toNat a) (0,0))
 cond (decide (v.2<t.2)) (
 let x:=(w64 (c+1))
 some (.inl (d,b,x,a,m))) (
 let p:=(w64 (a+1))
 some (.inl (d,b,c,p,m)))) none) none) none) (
 cond (inR c (List.length d)) (
 let w:=(List.getD d (Int.toNat c) (0,0))
 cond (inR a (List.length b)) (
 let u:=(List.getD b (Int.toNat a) (0,0))
 cond (decide (w.2<u.2)) (
 let o:=(w64 (c+1))
 some (.inl (d,b,o,a,n))) (
 let s:=(w64 (a+1))
 some (.inl (d,b,c,s,n)))) none) none)) none) none) none) none) (
 some (.inr n))
def jcH [LP] (b d a e c):=LP.lp (fun h=>jbt h.1 h.2.1 h.2.2.1 h.2.2.2.1 h.2.2.2.2) (b,d,a,e,c)
def j4N [LP] (a b:Tn2):Option (Tn2):=
 (jcH a b 0 0 ([]:Tn2)).bind fun c=>
 some c
def j6e [LP] (a:Tn75) (b:Tn61) (d c:Int):Option (Tn2):=
 cond (inR b.2.1 (List.length a.2)) (
 let r:=(List.getD a.2 (Int.toNat b.2.1) (0,([]:Tn2)))
 (j2e (r.1,r.2) (b.1,(b.2.1,((b.2.2.1.1,b.2.2.1.2),(b.2.2.2.1,(b.2.2.2.2.1,(b.2.2.2.2.2.1,(b.2.2.2.2.2.2.1,(b.2.2.2.2.2.2.2.1,b.2.2.2.2.2.2.2.2)))))))) 0).bind fun i=>
 cond (cond (cond (!i.2) true (decide (i.1≥c))) true (decide (d≥c))) (
 some ([]:Tn2)) (
 let e:Int:=(if i.1>d then i.1 else d:Int)
 let m:Tn2:=[(e,c)]
 let x:=(Int.ofNat (List.length b.2.2.2.2.2.2.1))
 cond (decide (x>0)) (
 cond (inR b.2.1 (List.length a.2)) (
 let s:=(List.getD a.2 (Int.toNat b.2.1) (0,([]:Tn2)))
 (j4r (s.1,s.2) b.2.2.2.2.2.2.1 e c).bind fun k=>
 cond (b.2.2.2.2.2.2.2.2==1) (
 cond (inR b.2.2.2.2.2.2.2.1 (List.length a.1.2.2.1)) (
 let j:=(List.getD a.1.2.2.1 (Int.toNat b.2.2.2.2.2.2.2.1) (ByteArray.empty,(0,([]:(List Int)))))
 (j3T ((a.1.1,(a.1.2.1,(a.1.2.2.1,a.1.2.2.2))),a.2) (j.1,(j.2.1,j.2.2)) e c).bind fun w=>
 (j4s k w).bind fun t=>
 some t) none) (
 cond (b.2.2.2.2.2.2.2.2==2) (
 cond (inR b.2.2.2.2.2.2.2.1 (List.length a.1.2.2.1)) (
 let l:=(List.getD a.1.2.2.1 (Int.toNat b.2.2.2.2.2.2.2.1) (ByteArray.empty,(0,([]:(List Int)))))
 (j3T ((a.1.1,(a.1.2.1,(a.1.2.2.1,a.1.2.2.2))),a.2) (l.1,(l.2.1,l.2.2)) e c).bind fun u=>
 (j4N k u).bind fun v=>
 some v) none) (
 some k))) none) (
 cond (b.2.2.2.2.2.2.2.2==1) (
 cond (inR b.2.2.2.2.2.2.2.1 (List.length a.1.2.2.1)) (
 let g:=(List.getD a.1.2.2.1 (Int.toNat b.2.2.2.2.2.2.2.1) (ByteArray.empty,(0,([]:(List Int)))))
 (j3T ((a.1.1,(a.1.2.1,(a.1.2.2.1,a.1.2.2.2))),a.2) (g.1,(g.2.1,g.2.2)) e c).bind fun o=>
 (j4s m o).bind fun n=>
 some n) none) (
 cond (b.2.2.2.2.2.2.2.2==2) (
 cond (inR b.2.2.2.2.2.2.2.1 (List.length a.1.2.2.1)) (
 let f:=(List.getD a.1.2.2.1 (Int.toNat b.2.2.2.2.2.2.2.1) (ByteArray.empty,(0,([]:(List Int)))))
 (j3T ((a.1.1,(a.1.2.1,(a.1.2.2.1,a.1.2.2.2))),a.2) (f.1,(f.2.1,f.2.2)) e c).bind fun p=>
 (j4N m p).bind fun q=>
 some q) none) (
 some m))))) none
def j35 [LP] (a:Tn14) (b:Int):Option (Int):=
 (j2W (a.1,a.2) b).bind fun c=>
 (j3W (a.1,a.2) c).bind fun d=>
 some d
def jg0 (a:Int):Option ((Int×Int)):=
 let e:=(w64 (Int.tdiv a 86400))
 let i:=(Int.tmod a 86400)
 cond (decide (i<0)) (
 let d:=(w64 (e-1))
 let g:=(w64 (d*86400))
 let f:=(w64 (a-g))
 some (d,f)) (
 let c:=(w64 (e*86400))
 let b:=(w64 (a-c))
 some (e,b))
def j0P [LP] (b:Tn14) (a:Int):Option ((Int×Int)):=
 (j35 (b.1,b.2) a).bind fun e=>
 let d:=(w64 (a+e))
 (jg0 d).bind fun c=>
 some (c.1,c.2)
def j3h [LP] (p m o:Int) (k:Tn2) (n:ByteArray) (j c a g d:Int) (b:(List Int)) (e:Tn2) (i f:Int):Option ((Int×Int×Int×Tn2×ByteArray×Int×Int×Int×Int×Int×(List Int)×Tn2×Int×Int) ⊕ ((Int×Int×Int×Tn2×ByteArray×Int×Int×Int×Int×Int×(List Int)×Tn2×Int×Int))):=
 cond (decide (m>0)) (
 (j2e (o,k) (n,(j,((c,a),(g,(d,(b,(e,(i,f)))))))) m).bind fun l=>
 cond (cond l.2 (decide (l.1≤p)) false) (
 some (.inr (p,m,o,k,n,j,c,a,g,d,b,e,i,f))) (
 let q:=(w64 (m-1))
 some (.inl (p,q,o,k,n,j,c,a,g,d,b,e,i,f)))) (
 some (.inr (p,m,o,k,n,j,c,a,g,d,b,e,i,f)))
def jaf [LP] (o l n k m j c a g d b e i f):=LP.lp (fun h=>j3h h.1 h.2.1 h.2.2.1 h.2.2.2.1 h.2.2.2.2.1 h.2.2.2.2.2.1 h.2.2.2.2.2.2.1 h.2.2.2.2.2.2.2.1 h.2.2.2.2.2.2.2.2.1 h.2.2.2.2.2.2.2.2.2.1 h.2.2.2.2.2.2.2.2.2.2.1 h.2.2.2.2.2.2.2.2.2.2.2.1 h.2.2.2.2.2.2.2.2.2.2.2.2.1 h.2.2.2.2.2.2.2.2.2.2.2.2.2) (o,l,n,k,m,j,c,a,g,d,b,e,i,f)
def j3i [LP] (r o q:Int) (l:Tn2) (p:ByteArray) (k d b i e:Int) (c:(List Int)) (f:Tn2) (j g:Int):Option ((Int×Int×Int×Tn2×ByteArray×Int×Int×Int×Int×Int×(List Int)×Tn2×Int×Int) ⊕ (Int)):=
 let m:=(w64 (o+1))
 (j2e (q,l) (p,(k,((d,b),(i,(e,(c,(f,(j,g)))))))) m).bind fun a=>
 cond (cond (!a.2) true (decide (a.1>r))) (
 some (.inr o)) (
 let n:=(w64 (o+1))
 some (.inl (r,n,q,l,p,k,d,b,i,e,c,f,j,g)))
def jag [LP] (o l n k m j c a g d b e i f):=LP.lp (fun h=>j3i h.1 h.2.1 h.2.2.1 h.2.2.2.1 h.2.2.2.2.1 h.2.2.2.2.2.1 h.2.2.2.2.2.2.1 h.2.2.2.2.2.2.2.1 h.2.2.2.2.2.2.2.2.1 h.2.2.2.2.2.2.2.2.2.1 h.2.2.2.2.2.2.2.2.2.2.1 h.2.2.2.2.2.2.2.2.2.2.2.1 h.2.2.2.2.2.2.2.2.2.2.2.2.1 h.2.2.2.2.2.2.2.2.2.2.2.2.2) (o,l,n,k,m,j,c,a,g,d,b,e,i,f)
def j8b [LP] (c:Tn14) (a:Tn61) (d:Int):Option (Int):=
 (j2e (c.1,c.2) (a.1,(a.2.1,((a.2.2.1.1,a.2.2.1.2),(a.2.2.2.1,(a.2.2.2.2.1,(a.2.2.2.2.2.1,(a.2.2.2.2.2.2.1,(a.2.2.2.2.2.2.2.1,a.2.2.2.2.2.2.2.2)))))))) 0).bind fun e=>
 cond (cond (!e.2) true (decide (e.1>d))) (
 some (-1)) (
 cond (a.2.2.2.1==0) (
 let n:=(w64 (d-e.1))
 let i:=(w64 (3600*a.2.2.2.2.1))
 cond (!(i==0)) (
 let l:=(w64 (Int.tdiv n i))
 some l) none) (
 (j0P (c.1,c.2) d).bind fun j=>
 let k:=(w64 (j.1-a.2.2.1.1))
 (jiP (a.1,(a.2.1,((a.2.2.1.1,a.2.2.1.2),(a.2.2.2.1,(a.2.2.2.2.1,(a.2.2.2.2.2.1,(a.2.2.2.2.2.2.1,(a.2.2.2.2.2.2.2.1,a.2.2.2.2.2.2.2.2))))))))).bind fun g=>
 cond (!(g==0)) (
 let f:=(w64 (Int.tdiv k g))
 let m:Int:=(if f>0 then f else 0:Int)
 (jaf d m c.1 c.2 a.1 a.2.1 a.2.2.1.1 a.2.2.1.2 a.2.2.2.1 a.2.2.2.2.1 a.2.2.2.2.2.1 a.2.2.2.2.2.2.1 a.2.2.2.2.2.2.2.1 a.2.2.2.2.2.2.2.2).bind fun b=>
 (jag b.1 b.2.1 b.2.2.1 b.2.2.2.1 b.2.2.2.2.1 b.2.2.2.2.2.1 b.2.2.2.2.2.2.1 b.2.2.2.2.2.2.2.1 b.2.2.2.2.2.2.2.2.1 b.2.2.2.2.2.2.2.2.2.1 b.2.2.2.2.2.2.2.2.2.2.1 b.2.2.2.2.2.2.2.2.2.2.2.1 b.2.2.2.2.2.2.2.2.2.2.2.2.1 b.2.2.2.2.2.2.2.2.2.2.2.2.2).bind fun o=>
 some o) none))
def jcw (f:Tn15) (m e:Int) (b:Tn15):Option ((Tn15×Int×Int×Tn15) ⊕ (Tn15)):=
 cond (decide (e<m)) (
 cond (inR e (List.length f)) (
 let a:=(List.getD f (Int.toNat e) (0,(0,0)))
 cond (decide (a.2.1≤a.1)) (
 let p:=(w64 (e+1))
 some (.inl (f,m,p,b))) (
 let d:=(Int.ofNat (List.length b))
 cond (decide (d>0)) (
 let i:=(w64 (d-1))
 cond (inR i (List.length b)) (
 let t:=(List.getD b (Int.toNat i) (0,(0,0))).2.1
 cond (t==a.1) (
 let j:=(w64 (d-1))
 cond (inR j (List.length b)) (
 let r:=(List.getD b (Int.toNat j) (0,(0,0))).2.2
 cond (r==a.2.2) (
 let c:=(w64 (d-1))
 cond (inR c (List.length b)) (
 let x:Tn15:=(List.set b (Int.toNat c) ((List.getD b (Int.toNat c) (0,(0,0))).1,(a.2.1,(List.getD b (Int.toNat c) (0,(0,0))).2.2)))
 let w:=(w64 (e+1))
 some (.inl (f,m,w,x))) none) (
 let k:Tn15:=[(a.1,(a.2.1,a.2.2))]
 cond (decide (List.length b+List.length k≤j0d)) (
 let u:Tn15:=(b++k)
 let s:=(w64 (e+1))
 some (.inl (f,m,s,u))) none)) none) (
 let l:Tn15:=[(a.1,(a.2.1,a.2.2))]
 cond (decide (List.length b+List.length l≤j0d)) (
 let q:Tn15:=(b++l)
 let n:=(w64 (e+1))
 some (.inl (f,m,n,q))) none)) none) (
 let g:Tn15:=[(a.1,(a.2.1,a.2.2))]
 cond (decide (List.length b+List.length g≤j0d)) (
 let v:Tn15:=(b++g)
 let o:=(w64 (e+1))
 some (.inl (f,m,o,v))) none))) none) (
 some (.inr b))
def jdZ [LP] (b d a c):=LP.lp (fun h=>jcw h.1 h.2.1 h.2.2.1 h.2.2.2) (b,d,a,c)
def j9b [LP] (a:Tn15):Option (Tn15):=
 let c:=(Int.ofNat (List.length a))
 (jdZ a c 0 ([]:Tn15)).bind fun b=>
 some b
def j20 [LP] (b4 o a8 w a6 a0:Int) (a7:ByteArray) (j g i m f:Int) (a:(List Int)) (k:Tn2) (l e p:Int) (c:Tn2) (b3 b:Int) (z:Tn15) (a4:Tn2):Option ((Int×Int×Int×Int×Int×Int×ByteArray×Int×Int×Int×Int×Int×(List Int)×Tn2×Int×Int×Int×Tn2×Int×Int×Tn15×Tn2) ⊕ ((Int×Int×Int×Int×Int×Int×ByteArray×Int×Int×Int×Int×Int×(List Int)×Tn2×Int×Int×Int×Tn2×Tn15×Tn2))):=
 cond (decide (o<b)) (
 cond (decide (o≥w)) (
 (j8b (p,c) (a7,(j,((g,i),(m,(f,(a,(k,(l,e)))))))) o).bind fun d=>
 let b5:=(w64 (d+1))
 (j2e (p,c) (a7,(j,((g,i),(m,(f,(a,(k,(l,e)))))))) b5).bind fun n=>
 cond (!n.2) (
 let a5:Int:=(if 8589934593<b then 8589934593 else b:Int)
 let a1:=(Int.ofNat (List.length a))
 cond (!(a1==0)) (
 let a2:=(Int.tmod d a1)
 cond (inR a2 (List.length a)) (
 let b6:=(List.getD a (Int.toNat a2) 0)
 let a3:Tn15:=[(o,(a5,b6))]
 cond (decide (List.length z+List.length a3≤j0d)) (
 let b7:Tn15:=(z++a3)
 some (.inl (b4,a5,d,8589934593,a6,a0,a7,j,g,i,m,f,a,k,l,e,p,c,b3,b,b7,a4))) none) none) none) (
 let v:Int:=(if n.1<b then n.1 else b:Int)
 let q:=(Int.ofNat (List.length a))
 cond (!(q==0)) (
 let s:=(Int.tmod d q)
 cond (inR s (List.length a)) (
 let b0:=(List.getD a (Int.toNat s) 0)
 let t:Tn15:=[(o,(v,b0))]
 cond (decide (List.length z+List.length t≤j0d)) (
 let a9:Tn15:=(z++t)
 some (.inl (b4,v,d,n.1,a6,a0,a7,j,g,i,m,f,a,k,l,e,p,c,b3,b,a9,a4))) none) none) none)) (
 let y:Int:=(if w<b then w else b:Int)
 let x:=(Int.ofNat (List.length a))
 cond (!(x==0)) (
 let u:=(Int.tmod a8 x)
 cond (inR u (List.length a)) (
 let b1:=(List.getD a (Int.toNat u) 0)
 let r:Tn15:=[(o,(y,b1))]
 cond (decide (List.length z+List.length r≤j0d)) (
 let b2:Tn15:=(z++r)
 some (.inl (b4,y,a8,w,a6,a0,a7,j,g,i,m,f,a,k,l,e,p,c,b3,b,b2,a4))) none) none) none)) (
 some (.inr (b4,o,a8,w,a6,a0,a7,j,g,i,m,f,a,k,l,e,p,c,z,a4)))
def j6f [LP] (u m n r t o v i e g l d f j k c p a s b w q):=LP.lp (fun h=>j20 h.1 h.2.1 h.2.2.1 h.2.2.2.1 h.2.2.2.2.1 h.2.2.2.2.2.1 h.2.2.2.2.2.2.1 h.2.2.2.2.2.2.2.1 h.2.2.2.2.2.2.2.2.1 h.2.2.2.2.2.2.2.2.2.1 h.2.2.2.2.2.2.2.2.2.2.1 h.2.2.2.2.2.2.2.2.2.2.2.1 h.2.2.2.2.2.2.2.2.2.2.2.2.1 h.2.2.2.2.2.2.2.2.2.2.2.2.2.1 h.2.2.2.2.2.2.2.2.2.2.2.2.2.2.1 h.2.2.2.2.2.2.2.2.2.2.2.2.2.2.2.1 h.2.2.2.2.2.2.2.2.2.2.2.2.2.2.2.2.1 h.2.2.2.2.2.2.2.2.2.2.2.2.2.2.2.2.2.1 h.2.2.2.2.2.2.2.2.2.2.2.2.2.2.2.2.2.2.1 h.2.2.2.2.2.2.2.2.2.2.2.2.2.2.2.2.2.2.2.1 h.2.2.2.2.2.2.2.2.2.2.2.2.2.2.2.2.2.2.2.2.1 h.2.2.2.2.2.2.2.2.2.2.2.2.2.2.2.2.2.2.2.2.2) (u,m,n,r,t,o,v,i,e,g,l,d,f,j,k,c,p,a,s,b,w,q)
def j21 [LP] (w k x z l c:Int) (a0:ByteArray) (r o q v n:Int) (p:(List Int)) (s:Tn2) (u m y:Int) (f:Tn2) (t:Tn15) (e:Tn2):Option ((Int×Int×Int×Int×Int×Int×ByteArray×Int×Int×Int×Int×Int×(List Int)×Tn2×Int×Int×Int×Tn2×Tn15×Tn2) ⊕ ((Int×Int×Tn15))):=
 cond (decide (c<l)) (
 cond (inR c (List.length e)) (
 let b:=(List.getD e (Int.toNat c) (0,0)).1
 let g:=(List.getD e (Int.toNat c) (0,0)).2
 let d:Tn15:=[(k,(b,(-1)))]
 cond (decide (List.length t+List.length d≤j0d)) (
 let i:Tn15:=(t++d)
 (j6f w b x z l c a0 r o q v n p s u m y f b g i e).bind fun a=>
 let j:=(w64 (a.2.2.2.2.2.1+1))
 some (.inl (a.1,a.2.1,a.2.2.1,a.2.2.2.1,a.2.2.2.2.1,j,a.2.2.2.2.2.2.1,a.2.2.2.2.2.2.2.1,a.2.2.2.2.2.2.2.2.1,a.2.2.2.2.2.2.2.2.2.1,a.2.2.2.2.2.2.2.2.2.2.1,a.2.2.2.2.2.2.2.2.2.2.2.1,a.2.2.2.2.2.2.2.2.2.2.2.2.1,a.2.2.2.2.2.2.2.2.2.2.2.2.2.1,a.2.2.2.2.2.2.2.2.2.2.2.2.2.2.1,a.2.2.2.2.2.2.2.2.2.2.2.2.2.2.2.1,a.2.2.2.2.2.2.2.2.2.2.2.2.2.2.2.2.1,a.2.2.2.2.2.2.2.2.2.2.2.2.2.2.2.2.2.1,a.2.2.2.2.2.2.2.2.2.2.2.2.2.2.2.2.2.2.1,a.2.2.2.2.2.2.2.2.2.2.2.2.2.2.2.2.2.2.2))) none) none) (
 some (.inr (w,k,t)))
def j6g [LP] (s l m q r n t g d f k c e i j b o a u p):=LP.lp (fun h=>j21 h.1 h.2.1 h.2.2.1 h.2.2.2.1 h.2.2.2.2.1 h.2.2.2.2.2.1 h.2.2.2.2.2.2.1 h.2.2.2.2.2.2.2.1 h.2.2.2.2.2.2.2.2.1 h.2.2.2.2.2.2.2.2.2.1 h.2.2.2.2.2.2.2.2.2.2.1 h.2.2.2.2.2.2.2.2.2.2.2.1 h.2.2.2.2.2.2.2.2.2.2.2.2.1 h.2.2.2.2.2.2.2.2.2.2.2.2.2.1 h.2.2.2.2.2.2.2.2.2.2.2.2.2.2.1 h.2.2.2.2.2.2.2.2.2.2.2.2.2.2.2.1 h.2.2.2.2.2.2.2.2.2.2.2.2.2.2.2.2.1 h.2.2.2.2.2.2.2.2.2.2.2.2.2.2.2.2.2.1 h.2.2.2.2.2.2.2.2.2.2.2.2.2.2.2.2.2.2.1 h.2.2.2.2.2.2.2.2.2.2.2.2.2.2.2.2.2.2.2) (s,l,m,q,r,n,t,g,d,f,k,c,e,i,j,b,o,a,u,p)
def j4t [LP] (b:Tn75) (a:Tn61) (c d:Int):Option (Tn15):=
 cond (inR a.2.1 (List.length b.2)) (
 let f:=(List.getD b.2 (Int.toNat a.2.1) (0,([]:Tn2)))
 (j6e ((b.1.1,(b.1.2.1,(b.1.2.2.1,b.1.2.2.2))),b.2) (a.1,(a.2.1,((a.2.2.1.1,a.2.2.1.2),(a.2.2.2.1,(a.2.2.2.2.1,(a.2.2.2.2.2.1,(a.2.2.2.2.2.2.1,(a.2.2.2.2.2.2.2.1,a.2.2.2.2.2.2.2.2)))))))) c d).bind fun g=>
 let k:=(Int.ofNat (List.length g))
 (j6g d c (-1) (-1) k 0 a.1 a.2.1 a.2.2.1.1 a.2.2.1.2 a.2.2.2.1 a.2.2.2.2.1 a.2.2.2.2.2.1 a.2.2.2.2.2.2.1 a.2.2.2.2.2.2.2.1 a.2.2.2.2.2.2.2.2 f.1 f.2 ([]:Tn15) g).bind fun e=>
 let i:Tn15:=[(e.2.1,(e.1,(-1)))]
 cond (decide (List.length e.2.2+List.length i≤j0d)) (
 let l:Tn15:=(e.2.2++i)
 (j9b l).bind fun j=>
 some j) none) none
def jaM (k:Int) (f:Tn31) (d b:Int) (i:Tn2):Option ((Int×Tn31×Int×Int×Tn2) ⊕ (Tn2)):=
 cond (decide (b<d)) (
 cond (inR b (List.length f)) (
 let a:=(List.getD f (Int.toNat b) (0,(0,(0,(0,0)))))
 cond (cond (a.1==0) (a.2.1==k) false) (
 let c:Tn2:=[(a.2.2.2.1,a.2.2.2.2)]
 cond (decide (List.length i+List.length c≤j0d)) (
 let j:Tn2:=(i++c)
 let e:=(w64 (b+1))
 some (.inl (k,f,d,e,j))) none) (
 let g:=(w64 (b+1))
 some (.inl (k,f,d,g,i)))) none) (
 some (.inr i))
def jbu [LP] (e c b a d):=LP.lp (fun h=>jaM h.1 h.2.1 h.2.2.1 h.2.2.2.1 h.2.2.2.2) (e,c,b,a,d)
def j9H [LP] (b:Tn66) (a:Int):Option (Tn2):=
 let c:=(Int.ofNat (List.length b.2.2))
 (jbu a b.2.2 c 0 ([]:Tn2)).bind fun e=>
 (j5S e).bind fun d=>
 some d
def j9I (n:Tn15) (o m l a:Int) (r:ByteArray) (e:Tn62) (f:Tn31) (t p d:Int) (s:Tn21) (q:Tn15) (b:Tn2):Option ((Tn15×Int×Int×Int×Int×ByteArray×Tn62×Tn31×Int×Int×Int×Tn21×Tn15×Tn2) ⊕ ((Tn15×Int×Int×ByteArray×Tn62×Tn31×Tn21×Tn15))):=
 cond (decide (a<l)) (
 cond (inR a (List.length b)) (
 let k:=(List.getD b (Int.toNat a) (0,0)).1
 let j:=(List.getD b (Int.toNat a) (0,0)).2
 let c:Tn15:=[(k,(j,d))]
 cond (decide (List.length q+List.length c≤j0d)) (
 let i:Tn15:=(q++c)
 let g:=(w64 (a+1))
 some (.inl (n,o,m,l,g,r,e,f,t,p,d,s,i,b))) none) none) (
 some (.inr (n,o,m,r,e,f,s,q)))
def j7v [LP] (g k i f j l b d o c a n m e):=LP.lp (fun h=>j9I h.1 h.2.1 h.2.2.1 h.2.2.2.1 h.2.2.2.2.1 h.2.2.2.2.2.1 h.2.2.2.2.2.2.1 h.2.2.2.2.2.2.2.1 h.2.2.2.2.2.2.2.2.1 h.2.2.2.2.2.2.2.2.2.1 h.2.2.2.2.2.2.2.2.2.2.1 h.2.2.2.2.2.2.2.2.2.2.2.1 h.2.2.2.2.2.2.2.2.2.2.2.2.1 h.2.2.2.2.2.2.2.2.2.2.2.2.2) (g,k,i,f,j,l,b,d,o,c,a,n,m,e)
def j3j [LP] (g:Tn15) (k d:Int) (o:ByteArray) (e:Tn62) (f:Tn31) (l:Tn21) (x:Tn15):Option ((Tn15×Int×Int×ByteArray×Tn62×Tn31×Tn21×Tn15) ⊕ (Tn15)):=
 cond (decide (d<k)) (
 cond (inR d (List.length g)) (
 let a:=(List.getD g (Int.toNat d) (0,(0,0)))
 cond (decide (a.2.2<0)) (
 let w:=(w64 (d+1))
 some (.inl (g,k,w,o,e,f,l,x))) (
 let z:Tn2:=(jbe ([]:Tn2) l a.2.2)
 cond (!(jhq l a.2.2)) (
 (j9H (o,(e,f)) a.2.2).bind fun v=>
 let m:Tn21:=(jcm l a.2.2 v)
 let p:Tn2:=[(a.1,a.2.1)]
 let s:Tn2:=(jbe ([]:Tn2) m a.2.2)
 (j4s p s).bind fun i=>
 let t:=(Int.ofNat (List.length i))
 (j7v g k d t 0 o e f a.1 a.2.1 a.2.2 m x i).bind fun c=>
 let y:=(w64 (c.2.2.1+1))
 some (.inl (c.1,c.2.1,y,c.2.2.2.1,c.2.2.2.2.1,c.2.2.2.2.2.1,c.2.2.2.2.2.2.1,c.2.2.2.2.2.2.2))) (
 let r:Tn2:=[(a.1,a.2.1)]
 let q:Tn2:=(jbe ([]:Tn2) l a.2.2)
 (j4s r q).bind fun j=>
 let n:=(Int.ofNat (List.length j))
 (j7v g k d n 0 o e f a.1 a.2.1 a.2.2 l x j).bind fun b=>
 let u:=(w64 (b.2.2.1+1))
 some (.inl (b.1,b.2.1,u,b.2.2.2.1,b.2.2.2.2.1,b.2.2.2.2.2.1,b.2.2.2.2.2.2.1,b.2.2.2.2.2.2.2))))) none) (
 some (.inr x))
def jah [LP] (c e d f a b i g):=LP.lp (fun h=>j3j h.1 h.2.1 h.2.2.1 h.2.2.2.1 h.2.2.2.2.1 h.2.2.2.2.2.1 h.2.2.2.2.2.2.1 h.2.2.2.2.2.2.2) (c,e,d,f,a,b,i,g)
def j8c [LP] (a:Tn66) (b:Tn15):Option (Tn15):=
 let d:Tn21:=([]:Tn21)
 let c:=(Int.ofNat (List.length b))
 (jah b c 0 a.1 a.2.1 a.2.2 d ([]:Tn15)).bind fun e=>
 some e
def jaN (b:Tn15) (d:Tn2) (a c:Int) (n:Tn15):Option ((Tn15×Tn2×Int×Int×Tn15) ⊕ (Tn15)):=
 let u:=(Int.ofNat (List.length b))
 let p:=(Int.ofNat (List.length d))
 cond (cond (decide (a<u)) (decide (c<p)) false) (
 cond (inR a (List.length b)) (
 let m:=(List.getD b (Int.toNat a) (0,(0,0)))
 cond (inR c (List.length d)) (
 let g:=(List.getD d (Int.toNat c) (0,0))
 let f:Int:=(if g.1>m.1 then g.1 else m.1:Int)
 cond (inR a (List.length b)) (
 let e:=(List.getD b (Int.toNat a) (0,(0,0)))
 cond (inR c (List.length d)) (
 let i:=(List.getD d (Int.toNat c) (0,0))
 let k:Int:=(if i.2<e.2.1 then i.2 else e.2.1:Int)
 cond (inR a (List.length b)) (
 let v:=(List.getD b (Int.toNat a) (0,(0,0)))
 cond (decide (f<k)) (
 let j:Tn15:=[(f,(k,v.2.2))]
 cond (decide (List.length n+List.length j≤j0d)) (
 let l:Tn15:=(n++j)
 cond (inR a (List.length b)) (
 let w:=(List.getD b (Int.toNat a) (0,(0,0)))
 cond (inR c (List.length d)) (
 let y:=(List.getD d (Int.toNat c) (0,0))
 cond (decide (w.2.1<y.2)) (
 let t:=(w64 (a+1))
 some (.inl (b,d,t,c,l))) (
 let q:=(w64 (c+1))
 some (.inl (b,d,a,q,l)))) none) none) none) (
 cond (inR a (List.length b)) (
 let x:=(List.getD b (Int.toNat a) (0,(0,0)))
 cond (inR c (List.length d)) (
 let o:=(List.getD d (Int.toNat c) (0,0))
 cond (decide (x.2.1<o.2)) (
 let s:=(w64 (a+1))
 some (.inl (b,d,s,c,n))) (
 let r:=(w64 (c+1))
 some (.inl (b,d,a,r,n)))) none) none)) none) none) none) none) none) (
 some (.inr n))
def jbv [LP] (b d a e c):=LP.lp (fun h=>jaN h.1 h.2.1 h.2.2.1 h.2.2.2.1 h.2.2.2.2) (b,d,a,e,c)
def j9J [LP] (b:Tn15) (a:Tn2):Option (Tn15):=
 (jbv b a 0 0 ([]:Tn15)).bind fun c=>
 some c
def jbw (f:Tn15) (i e:Int) (g:Tn2):Option ((Tn15×Int×Int×Tn2) ⊕ (Tn2)):=
 cond (decide (e<i)) (
 cond (inR e (List.length f)) (
 let b:=(List.getD f (Int.toNat e) (0,(0,0)))
 let a:Tn2:=[(b.1,b.2.1)]
 cond (decide (List.length g+List.length a≤j0d)) (
 let d:Tn2:=(g++a)
 let c:=(w64 (e+1))
 some (.inl (f,i,c,d))) none) none) (
 some (.inr g))
def jcI [LP] (a b d c):=LP.lp (fun h=>jbw h.1 h.2.1 h.2.2.1 h.2.2.2) (a,b,d,c)
def jbx [LP] (a:Tn15):Option (Tn2):=
 let c:=(Int.ofNat (List.length a))
 (jcI a c 0 ([]:Tn2)).bind fun d=>
 (j5S d).bind fun b=>
 some b
def j5r (a b:Tn3):Option (Int):=
 let c:=(w64 (a.1-b.1))
 some c
def j19 (a:Tn15):Option (Tn15):=
 jpE ((.pair (.int .i64) (.pair (.int .i64) (.int .i64)))) (fun b c=>(j5r b c).getD 0) a
def j2q [LP] (p:Int) (l:Tn62) (w:Tn56) (e:Tn50) (j:Tn27) (f:Tn67) (g:Tn21) (v:ByteArray) (k:Tn62) (i:Tn31) (t u:Int) (d:Tn2) (b:Tn15):Option ((Int×Tn62×Tn56×Tn50×Tn27×Tn67×Tn21×ByteArray×Tn62×Tn31×Int×Int×Tn2×Tn15) ⊕ ((Tn2×Tn15))):=
 cond (decide (p≤0)) (
 some (.inr (d,b))) (
 cond (decide (p≤Int.ofNat (List.length l))) (
 let m:Int:=(p-1)
 let a:=(List.getD l (Int.toNat m) (ByteArray.empty,(0,((0,0),(0,(0,(([]:(List Int)),(([]:Tn2),(0,0)))))))))
 (j4t ((w,(e,(j,f))),g) (a.1,(a.2.1,((a.2.2.1.1,a.2.2.1.2),(a.2.2.2.1,(a.2.2.2.2.1,(a.2.2.2.2.2.1,(a.2.2.2.2.2.2.1,(a.2.2.2.2.2.2.2.1,a.2.2.2.2.2.2.2.2)))))))) t u).bind fun q=>
 (j8c (v,(k,i)) q).bind fun o=>
 (j9J o d).bind fun c=>
 cond (decide (List.length b+List.length c≤j0d)) (
 let n:Tn15:=(b++c)
 (jbx c).bind fun s=>
 (j4s d s).bind fun r=>
 some (.inl ((p-1),l,w,e,j,f,g,v,k,i,t,u,r,n))) none) none)
def j7F [LP] (n:Int) (j:Tn62) (m:Tn56) (i:Tn50) (f:Tn27) (e:Tn67) (g:Tn21) (o:ByteArray) (d:Tn62) (b:Tn31) (k l:Int) (c:Tn2) (a:Tn15):Option ((Tn2×Tn15)):=
 LP.lp (jvJ (j2q)) (n,j,m,i,f,e,g,o,d,b,k,l,c,a)
def j80 (j b:Int) (c:Tn2) (a:Tn15):Option ((Int×Int×Tn2×Tn15) ⊕ (Tn15)):=
 cond (decide (b<j)) (
 cond (inR b (List.length c)) (
 let i:=(List.getD c (Int.toNat b) (0,0)).1
 let f:=(List.getD c (Int.toNat b) (0,0)).2
 let d:Tn15:=[(i,(f,(-1)))]
 cond (decide (List.length a+List.length d≤j0d)) (
 let g:Tn15:=(a++d)
 let e:=(w64 (b+1))
 some (.inl (j,e,c,g))) none) none) (
 some (.inr a))
def j7G [LP] (c d:Int) (b:Tn2) (a:Tn15):Option (Tn15):=
 LP.lp (unc4 (j80)) (c,d,b,a)
def j5I [LP] (b:Tn75) (c:Tn66) (a d:Int):Option (Tn15):=
 cond (decide (a≥d)) (
 some ([]:Tn15)) (
 let i:Tn2:=[(a,d)]
 (j46 c.2.1).bind fun e=>
 (j7F (Int.ofNat (List.length e)) e b.1.1 b.1.2.1 b.1.2.2.1 b.1.2.2.2 b.2 c.1 c.2.1 c.2.2 a d i ([]:Tn15)).bind fun f=>
 let k:=(Int.ofNat (List.length f.1))
 (j7G k 0 f.1 f.2).bind fun l=>
 (j19 l).bind fun j=>
 (j9b j).bind fun g=>
 some g)
def jai (a:Int):Option (Bool):=
 some (a != a)
def j47 (b:(List Int)) (g l f m:Int):Option (((List Int)×Int×Int×Int×Int) ⊕ (((List Int)×Int×Int×Int))):=
 cond (decide (f<m)) (
 let j:=(w64 (f+m))
 let d:Int:=(IntKind.wrap .u64 j)
 let e:Int:=(Int.fdiv d 2)
 let a:=(w64 e)
 cond (inR a (List.length b)) (
 let i:=(List.getD b (Int.toNat a) 0)
 (jfj i g).bind fun c=>
 cond c (
 let k:=(w64 (a+1))
 some (.inl (b,g,l,k,m))) (
 some (.inl (b,g,l,f,a)))) none) (
 some (.inr (b,g,l,f)))
def j3k [LP] (b d a c e):=LP.lp (fun h=>j47 h.1 h.2.1 h.2.2.1 h.2.2.2.1 h.2.2.2.2) (b,d,a,c,e)
def j1P [LP] (c:(List Int)) (b:Int):Option (Int×Bool):=
 let e:=(Int.ofNat (List.length c))
 (j3k c b e 0 e).bind fun a=>
 cond ((inR a.2.2.2 (List.length a.1)) || !(decide (a.2.2.2<a.2.2.1))) (
 let d:=(List.getD a.1 (Int.toNat a.2.2.2) 0)
 cond ((inR a.2.2.2 (List.length a.1)) || !((decide (a.2.2.2<a.2.2.1))&&(!(d==a.2.1)))) (
 let g:=(List.getD a.1 (Int.toNat a.2.2.2) 0)
 cond (decide (a.2.2.2<a.2.2.1)) (
 cond (d==a.2.1) (
 some (a.2.2.2,true)) (
 (jai g).bind fun f=>
 cond f (
 (jai a.2.1).bind fun i=>
 some (a.2.2.2,i)) (
 some (a.2.2.2,false)))) (
 cond ((d==a.2.1) || !false) (
 some (a.2.2.2,false)) none)) none) none
def jkN (a:Tn25) (b:Int):Option (Bool):=
 some (cond (decide (a.2.2.2.1≤b)) (decide (b<a.2.2.2.2)) false)
def jdo (f e:Int) (d:Tn31) (c b:Int):Option ((Int×Int×Tn31×Int×Int) ⊕ (Int)):=
 cond (decide (b<c)) (
 cond (inR b (List.length d)) (
 let a:=(List.getD d (Int.toNat b) (0,(0,(0,(0,0)))))
 (jkN (a.1,(a.2.1,(a.2.2.1,(a.2.2.2.1,a.2.2.2.2)))) e).bind fun n=>
 cond (cond (!n) true (a.1==0)) (
 let j:=(w64 (b+1))
 some (.inl (f,e,d,c,j))) (
 cond (a.1==1) (
 let k:=(w64 (b+1))
 some (.inl (a.2.1,e,d,c,k))) (
 cond (a.1 != 2) (
 let l:=(w64 (b+1))
 some (.inl (f,e,d,c,l))) (
 cond (f==a.2.1) (
 let m:=(w64 (b+1))
 some (.inl (a.2.2.1,e,d,c,m))) (
 cond (f==a.2.2.1) (
 let g:=(w64 (b+1))
 some (.inl (a.2.1,e,d,c,g))) (
 let i:=(w64 (b+1))
 some (.inl (f,e,d,c,i)))))))) none) (
 some (.inr f))
def jfk [LP] (e d c b a):=LP.lp (fun h=>jdo h.1 h.2.1 h.2.2.1 h.2.2.2.1 h.2.2.2.2) (e,d,c,b,a)
def jfl [LP] (b:Tn31) (a c:Int):Option (Int):=
 let d:=(Int.ofNat (List.length b))
 (jfk a c b d 0).bind fun e=>
 some e
def j8d (r p:Int) (f:Tn31) (n b:Int) (q:Tn56) (k:Tn50) (i:Tn27) (g:Tn67) (j:Tn21) (s:ByteArray) (e:Tn62) (d:Tn31) (o:(List Int)):Option ((Int×Int×Tn31×Int×Int×Tn56×Tn50×Tn27×Tn67×Tn21×ByteArray×Tn62×Tn31×(List Int)) ⊕ ((Int×Int×Tn56×Tn50×Tn27×Tn67×Tn21×ByteArray×Tn62×Tn31×(List Int)))):=
 cond (decide (b<n)) (
 cond (inR b (List.length f)) (
 let c:=(List.getD f (Int.toNat b) (0,(0,(0,(0,0)))))
 let a:(List Int):=[c.2.2.2.1,c.2.2.2.2]
 cond (decide (List.length o+List.length a≤j0d)) (
 let l:(List Int):=(o++a)
 let m:=(w64 (b+1))
 some (.inl (r,p,f,n,m,q,k,i,g,j,s,e,d,l))) none) none) (
 some (.inr (r,p,q,k,i,g,j,s,e,d,o)))
def j8e [LP] (m k:Int) (g:Tn31) (j i:Int) (l:Tn56) (f:Tn50) (d:Tn27) (c:Tn67) (e:Tn21) (o:ByteArray) (b:Tn62) (a:Tn31) (n:(List Int)):Option ((Int×Int×Tn56×Tn50×Tn27×Tn67×Tn21×ByteArray×Tn62×Tn31×(List Int))):=
 LP.lp (jvJ (j8d)) (m,k,g,j,i,l,f,d,c,e,o,b,a,n)
def j2H [LP] (j l q r:Int) (s:ByteArray) (k:Tn62) (b:Tn31) (t a g:Int) (c:(List Int)) (i p:Tn15):Option ((Int×Int×Int×Int×ByteArray×Tn62×Tn31×Int×Int×Int×(List Int)×Tn15×Tn15) ⊕ ((Int×Int×ByteArray×Tn62×Tn31×(List Int)×Tn15×Tn15))):=
 cond (decide (l<a)) (
 cond (inR j (List.length c)) (
 let d:=(List.getD c (Int.toNat j) 0)
 let e:Int:=(if d<a then d else a:Int)
 (jfl b g l).bind fun m=>
 let f:Tn15:=[(l,(e,m))]
 cond (decide (List.length i+List.length f≤j0d)) (
 let n:Tn15:=(i++f)
 let o:=(w64 (j+1))
 some (.inl (o,e,q,r,s,k,b,t,a,g,c,n,p))) none) none) (
 some (.inr (q,r,s,k,b,c,i,p)))
def j8f [LP] (j f k m:Int) (n:ByteArray) (d:Tn62) (c:Tn31) (g b a:Int) (e:(List Int)) (l i:Tn15):Option ((Int×Int×ByteArray×Tn62×Tn31×(List Int)×Tn15×Tn15)):=
 LP.lp (jwj (j2H)) (j,f,k,m,n,d,c,g,b,a,e,l,i)
def j2I [LP] (l b:Int) (p:ByteArray) (o:Tn62) (n:Tn31) (k:(List Int)) (m d:Tn15):Option ((Int×Int×ByteArray×Tn62×Tn31×(List Int)×Tn15×Tn15) ⊕ (Tn15)):=
 cond (decide (b<l)) (
 cond (inR b (List.length d)) (
 let c:=(List.getD d (Int.toNat b) (0,(0,0))).1
 let g:=(List.getD d (Int.toNat b) (0,(0,0))).2.1
 let j:=(List.getD d (Int.toNat b) (0,(0,0))).2.2
 let e:=(w64 (c+1))
 (j1P k e).bind fun f=>
 (j8f f.1 c l b p o n c g j k m d).bind fun a=>
 let i:=(w64 (a.2.1+1))
 some (.inl (a.1,i,a.2.2.1,a.2.2.2.1,a.2.2.2.2.1,a.2.2.2.2.2.1,a.2.2.2.2.2.2.1,a.2.2.2.2.2.2.2))) none) (
 some (.inr m))
def j8g [LP] (e g:Int) (i:ByteArray) (b:Tn62) (a:Tn31) (c:(List Int)) (f d:Tn15):Option (Tn15):=
 LP.lp (unc8 (j2I)) (e,g,i,b,a,c,f,d)
def j55 [LP] (c:Tn75) (b:Tn66) (d e:Int):Option (Tn15):=
 let k:=(Int.ofNat (List.length b.2.2))
 (j8e d e b.2.2 k 0 c.1.1 c.1.2.1 c.1.2.2.1 c.1.2.2.2 c.2 b.1 b.2.1 b.2.2 ([]:(List Int))).bind fun a=>
 (jdm a.2.2.2.2.2.2.2.2.2.2 a.1 a.2.1).bind fun j=>
 (j5I ((a.2.2.1,(a.2.2.2.1,(a.2.2.2.2.1,a.2.2.2.2.2.1))),a.2.2.2.2.2.2.1) (a.2.2.2.2.2.2.2.1,(a.2.2.2.2.2.2.2.2.1,a.2.2.2.2.2.2.2.2.2.1)) a.1 a.2.1).bind fun f=>
 let i:=(Int.ofNat (List.length f))
 (j8g i 0 a.2.2.2.2.2.2.2.1 a.2.2.2.2.2.2.2.2.1 a.2.2.2.2.2.2.2.2.2.1 j ([]:Tn15) f).bind fun l=>
 (j9b l).bind fun g=>
 some g
def j8W (k:Int) (g:Tn15) (j b:Int) (f:Tn2):Option ((Int×Tn15×Int×Int×Tn2) ⊕ (Tn2)):=
 cond (decide (b<j)) (
 cond (inR b (List.length g)) (
 let a:=(List.getD g (Int.toNat b) (0,(0,0)))
 cond (a.2.2==k) (
 let c:Tn2:=[(a.1,a.2.1)]
 cond (decide (List.length f+List.length c≤j0d)) (
 let d:Tn2:=(f++c)
 let e:=(w64 (b+1))
 some (.inl (k,g,j,e,d))) none) (
 let i:=(w64 (b+1))
 some (.inl (k,g,j,i,f)))) none) (
 some (.inr f))
def j9c [LP] (d:Int) (e:Tn15) (b a:Int) (c:Tn2):Option (Tn2):=
 LP.lp (unc5 (j8W)) (d,e,b,a,c)
def j7i [LP] (b:Tn15) (a:Int):Option (Tn2):=
 let e:=(Int.ofNat (List.length b))
 (j9c a b e 0 ([]:Tn2)).bind fun d=>
 (j5S d).bind fun c=>
 some c
def j3l [LP] (s r p:Int) (e:Tn67) (o b:Int) (q:Tn56) (k:Tn50) (i:Tn27) (f:Tn67) (j:Tn21) (g:Tn2):Option ((Int×Int×Int×Tn67×Int×Int×Tn56×Tn50×Tn27×Tn67×Tn21×Tn2) ⊕ (Int ⊕ Tn2)):=
 cond (decide (b<o)) (
 cond (inR b (List.length e)) (
 let a:=(List.getD e (Int.toNat b) (ByteArray.empty,(([]:Tn62),([]:Tn31))))
 (j55 ((q,(k,(i,f))),j) (a.1,(a.2.1,a.2.2)) r p).bind fun c=>
 let n:=(Int.ofNat (List.length c))
 cond (decide (n>16384)) (
 some (.inr (.inl 5))) (
 (j7i c s).bind fun d=>
 cond (decide (List.length g+List.length d≤j0d)) (
 let m:Tn2:=(g++d)
 let l:=(w64 (b+1))
 some (.inl (s,r,p,e,o,l,q,k,i,f,j,m))) none)) none) (
 some (.inr (.inr g)))
def jaj [LP] (m l j:Int) (e:Tn67) (f i:Int) (k:Tn56) (d:Tn50) (b:Tn27) (a:Tn67) (c:Tn21) (g:Tn2):Option (Int ⊕ Tn2):=
 LP.lp (jwi (j3l)) (m,l,j,e,f,i,k,d,b,a,c,g)
def j6C [LP] (a:Tn75) (b c d:Int):Option (Tn2×Int):=
 let g:=(Int.ofNat (List.length a.1.2.2.2))
 (jaj b c d a.1.2.2.2 g 0 a.1.1 a.1.2.1 a.1.2.2.1 a.1.2.2.2 a.2 ([]:Tn2)).bind fun i=>
 sumC i (fun k=>
 some (([]:Tn2),k)) (fun j=>
 (j5S j).bind fun e=>
 let f:=(Int.ofNat (List.length e))
 cond (decide (f>4096)) (
 some (([]:Tn2),5)) (
 some (e,0)))
def j8h (d c:Tn15) (p o b a:Int) (q:Tn31):Option ((Tn15×Tn15×Int×Int×Int×Int×Tn31) ⊕ (Tn31)):=
 let y:=(Int.ofNat (List.length d))
 let z:=(Int.ofNat (List.length c))
 cond (cond (decide (b<y)) (decide (a<z)) false) (
 cond (inR b (List.length d)) (
 let i:=(List.getD d (Int.toNat b) (0,(0,0)))
 cond (inR a (List.length c)) (
 let f:=(List.getD c (Int.toNat a) (0,(0,0)))
 let l:Int:=(if f.1>i.1 then f.1 else i.1:Int)
 cond (inR b (List.length d)) (
 let j:=(List.getD d (Int.toNat b) (0,(0,0)))
 cond (inR a (List.length c)) (
 let m:=(List.getD c (Int.toNat a) (0,(0,0)))
 let k:Int:=(if m.2.1<j.2.1 then m.2.1 else j.2.1:Int)
 cond (inR b (List.length d)) (
 let e:=(List.getD d (Int.toNat b) (0,(0,0)))
 cond ((inR a (List.length c)) || !(decide (e.2.2≥0))) (
 let x:=(List.getD c (Int.toNat a) (0,(0,0)))
 let a0:Bool:=(cond (cond (decide (e.2.2≥0)) (e.2.2==x.2.2) false) (decide (l<k)) false)
 cond a0 (
 let g:Tn31:=[(e.2.2,(p,(o,(l,k))))]
 cond (decide (List.length q+List.length g≤j0d)) (
 let n:Tn31:=(q++g)
 cond (inR b (List.length d)) (
 let w:=(List.getD d (Int.toNat b) (0,(0,0)))
 cond (inR a (List.length c)) (
 let s:=(List.getD c (Int.toNat a) (0,(0,0)))
 cond (decide (w.2.1<s.2.1)) (
 let t:=(w64 (b+1))
 some (.inl (d,c,p,o,t,a,n))) (
 let r:=(w64 (a+1))
 some (.inl (d,c,p,o,b,r,n)))) none) none) none) (
 cond (inR b (List.length d)) (
 let a1:=(List.getD d (Int.toNat b) (0,(0,0)))
 cond (inR a (List.length c)) (
 let u:=(List.getD c (Int.toNat a) (0,(0,0)))
 cond (decide (a1.2.1<u.2.1)) (
 let v:=(w64 (b+1))
 some (.inl (d,c,p,o,v,a,q))) (
 let a2:=(w64 (a+1))
 some (.inl (d,c,p,o,b,a2,q)))) none) none)) none) none) none) none) none) none) (
 some (.inr q))
def j8i [LP] (d g:Tn15) (e c b a:Int) (f:Tn31):Option (Tn31):=
 LP.lp (unc7 (j8h)) (d,g,e,c,b,a,f)
def j6h [LP] (a c:Tn15) (b d:Int):Option (Tn31):=
 (j8i a c b d 0 0 ([]:Tn31)).bind fun e=>
 some e
def jby (a b:Tn25):Option (Int):=
 let c:=(w64 (a.2.2.2.1-b.2.2.2.1))
 some c
def j2r (l a6 a5 b:Int) (a:Tn31):Option ((Int×Int×Int×Int×Tn31) ⊕ ((Int×Int×Int×Tn31))):=
 cond (decide (b>l)) (
 cond (inR b (List.length a)) (
 let r:=(List.getD a (Int.toNat b) (0,(0,(0,(0,0))))).1
 let s:=(List.getD a (Int.toNat b) (0,(0,(0,(0,0))))).2.1
 let v:=(List.getD a (Int.toNat b) (0,(0,(0,(0,0))))).2.2.1
 let a3:=(List.getD a (Int.toNat b) (0,(0,(0,(0,0))))).2.2.2.1
 let u:=(List.getD a (Int.toNat b) (0,(0,(0,(0,0))))).2.2.2.2
 let d:=(w64 (b-1))
 cond (inR d (List.length a)) (
 let x:=(List.getD a (Int.toNat d) (0,(0,(0,(0,0))))).1
 let a0:=(List.getD a (Int.toNat d) (0,(0,(0,(0,0))))).2.1
 let o:=(List.getD a (Int.toNat d) (0,(0,(0,(0,0))))).2.2.1
 let a2:=(List.getD a (Int.toNat d) (0,(0,(0,(0,0))))).2.2.2.1
 let z:=(List.getD a (Int.toNat d) (0,(0,(0,(0,0))))).2.2.2.2
 (jby (r,(s,(v,(a3,u)))) (x,(a0,(o,(a2,z))))).bind fun k=>
 cond (decide (k<0)) (
 let f:=(w64 (b-1))
 let c:=(w64 (b-1))
 cond (inR c (List.length a)) (
 let g:=(List.getD a (Int.toNat c) (0,(0,(0,(0,0))))).1
 let n:=(List.getD a (Int.toNat c) (0,(0,(0,(0,0))))).2.1
 let j:=(List.getD a (Int.toNat c) (0,(0,(0,(0,0))))).2.2.1
 let q:=(List.getD a (Int.toNat c) (0,(0,(0,(0,0))))).2.2.2.1
 let a4:=(List.getD a (Int.toNat c) (0,(0,(0,(0,0))))).2.2.2.2
 cond (inR b (List.length a)) (
 let i:=(List.getD a (Int.toNat b) (0,(0,(0,(0,0))))).1
 let y:=(List.getD a (Int.toNat b) (0,(0,(0,(0,0))))).2.1
 let p:=(List.getD a (Int.toNat b) (0,(0,(0,(0,0))))).2.2.1
 let t:=(List.getD a (Int.toNat b) (0,(0,(0,(0,0))))).2.2.2.1
 let m:=(List.getD a (Int.toNat b) (0,(0,(0,(0,0))))).2.2.2.2
 cond (inR b (List.length a)) (
 let e:Tn31:=(List.set a (Int.toNat b) (g,(n,(j,(q,a4)))))
 cond (inR f (List.length e)) (
 let a1:Tn31:=(List.set e (Int.toNat f) (i,(y,(p,(t,m)))))
 let w:=(w64 (b-1))
 some (.inl (l,a6,a5,w,a1))) none) none) none) none) (
 some (.inr (l,a6,a5,a)))) none) none) (
 some (.inr (l,a6,a5,a)))
def j1C [LP] (d c e a:Int) (b:Tn31):Option ((Int×Int×Int×Tn31)):=
 LP.lp (unc5 (j2r)) (d,c,e,a,b)
def j0x [LP] (f e c:Int) (d:Tn31):Option ((Int×Int×Int×Tn31) ⊕ (Tn31)):=
 cond (decide (c<e)) (
 (j1C f e c c d).bind fun a=>
 let b:=(w64 (a.2.2.1+1))
 some (.inl (a.1,a.2.1,b,a.2.2.2))) (
 some (.inr d))
def j1D [LP] (c a d:Int) (b:Tn31):Option (Tn31):=
 LP.lp (unc4 (j0x)) (c,a,d,b)
def j0A [LP] (a:Tn31) (b c:Int):Option (Tn31):=
 let d:=(w64 (b+1))
 (j1D b c d a).bind fun e=>
 some e
def j0I [LP] (e d g b:Int) (f:Tn31):Option ((Int×Int×Int×Int×Tn31) ⊕ ((Int×Int×Int×Tn31))):=
 cond (decide (b≤e)) (
 (j0A f g b).bind fun c=>
 let a:=(w64 (b+d))
 some (.inl (e,d,b,a,c))) (
 some (.inr (e,d,g,f)))
def j2J [LP] (d a c e:Int) (b:Tn31):Option ((Int×Int×Int×Tn31)):=
 LP.lp (unc5 (j0I)) (d,a,c,e,b)
def j3r (c a b f:Int) (e:Tn31):Option ((Int×Int×Int×Int×Tn31) ⊕ ((Int×Int×Int×Tn31))):=
 cond (decide (f≤c)) (
 let d:=(w64 (b+a))
 none) (
 some (.inr (c,a,b,e)))
def j2K [LP] (d a c e:Int) (b:Tn31):Option ((Int×Int×Int×Tn31)):=
 LP.lp (unc5 (j3r)) (d,a,c,e,b)
def j0J [LP] (g e:Int) (f:Tn31):Option ((Int×Int×Tn31) ⊕ (Tn31)):=
 cond (decide (e<g)) (
 let b:=(w64 (2*e))
 (j2K g e 0 b f).bind fun a=>
 let c:=(w64 (a.2.2.1+a.2.1))
 cond (decide (c<a.1)) (
 none) (
 let d:=(w64 (a.2.1*2))
 some (.inl (a.1,d,a.2.2.2)))) (
 some (.inr f))
def j2L [LP] (c a:Int) (b:Tn31):Option (Tn31):=
 LP.lp (unc3 (j0J)) (c,a,b)
def j1s [LP] (a:Tn31) (c:Int):Option (Tn31):=
 (j2J c 20 0 20 a).bind fun b=>
 (j0A b.2.2.2 b.2.2.1 b.1).bind fun d=>
 (j2L b.1 b.2.1 d).bind fun e=>
 some e
def j0D [LP] (a:Tn31):Option (Tn31):=
 let b:=(Int.ofNat (List.length a))
 (j1s a b).bind fun c=>
 some c
def j2s [LP] (p o:Int) (j:Tn67) (n c:Int) (q:Tn56) (i:Tn50) (d:Tn27) (g:Tn67) (e:Tn21) (f:Tn22):Option ((Int×Int×Tn67×Int×Int×Tn56×Tn50×Tn27×Tn67×Tn21×Tn22) ⊕ (Int ⊕ Tn22)):=
 cond (decide (c<n)) (
 cond (inR c (List.length j)) (
 let b:=(List.getD j (Int.toNat c) (ByteArray.empty,(([]:Tn62),([]:Tn31))))
 (j55 ((q,(i,(d,g))),e) (b.1,(b.2.1,b.2.2)) p o).bind fun a=>
 let l:=(Int.ofNat (List.length a))
 cond (decide (l>16384)) (
 some (.inr (.inl 5))) (
 cond (decide (List.length f+List.length [a]≤j0d)) (
 let k:Tn22:=(f++[a])
 let m:=(w64 (c+1))
 some (.inl (p,o,j,n,m,q,i,d,g,e,k))) none)) none) (
 some (.inr (.inr f)))
def j7H [LP] (k j:Int) (i:Tn67) (g e:Int) (l:Tn56) (d:Tn50) (a:Tn27) (c:Tn67) (b:Tn21) (f:Tn22):Option (Int ⊕ Tn22):=
 LP.lp (jwh (j2s)) (k,j,i,g,e,l,d,a,c,b,f)
def j2t [LP] (d b m l:Int) (a:Tn22) (e:Tn31):Option ((Int×Int×Int×Int×Tn22×Tn31) ⊕ ((Int×Int×Tn22×Tn31))):=
 let i:=(Int.ofNat (List.length a))
 cond (decide (b<i)) (
 cond (inR d (List.length a)) (
 let j:=(List.getD a (Int.toNat d) ([]:Tn15))
 cond (inR b (List.length a)) (
 let f:=(List.getD a (Int.toNat b) ([]:Tn15))
 (j6h j f d b).bind fun c=>
 cond (decide (List.length e+List.length c≤j0d)) (
 let g:Tn31:=(e++c)
 let k:=(w64 (b+1))
 some (.inl (d,k,m,l,a,g))) none) none) none) (
 some (.inr (m,l,a,e)))
def j7I [LP] (e c d b:Int) (a:Tn22) (f:Tn31):Option ((Int×Int×Tn22×Tn31)):=
 LP.lp (unc6 (j2t)) (e,c,d,b,a,f)
def j2u [LP] (e b:Int) (g:Tn22) (f:Tn31):Option ((Int×Int×Tn22×Tn31) ⊕ (Tn31)):=
 cond (decide (b<e)) (
 let d:=(w64 (b+1))
 (j7I b d e b g f).bind fun a=>
 let c:=(w64 (a.2.1+1))
 some (.inl (a.1,c,a.2.2.1,a.2.2.2))) (
 some (.inr f))
def j7J [LP] (c a:Int) (b:Tn22) (d:Tn31):Option (Tn31):=
 LP.lp (unc4 (j2u)) (c,a,b,d)
def j5J [LP] (a:Tn73) (b d:Int):Option (Tn31×Int):=
 (jfg (a.1,(a.2.1,(a.2.2.1,a.2.2.2)))).bind fun c=>
 cond (!c.2) (
 some (([]:Tn31),8)) (
 (jfZ b d).bind fun e=>
 cond (!e) (
 some (([]:Tn31),1)) (
 let k:=(Int.ofNat (List.length a.2.2.2))
 (j7H b d a.2.2.2 k 0 c.1.1.1 c.1.1.2.1 c.1.1.2.2.1 c.1.1.2.2.2 c.1.2 ([]:Tn22)).bind fun l=>
 sumC l (fun n=>
 some (([]:Tn31),n)) (fun m=>
 let j:=(Int.ofNat (List.length m))
 (j7J j 0 m ([]:Tn31)).bind fun g=>
 let f:=(Int.ofNat (List.length g))
 cond (decide (f>16384)) (
 some (([]:Tn31),5)) (
 (j0D g).bind fun i=>
 some (i,0)))))
def j9K (i n:Int) (l:Tn2) (m c:Int):Option ((Int×Int×Tn2×Int×Int) ⊕ (Int)):=
 cond (decide (c<m)) (
 cond (inR c (List.length l)) (
 let a:=(List.getD l (Int.toNat c) (0,0))
 let k:Int:=(if i<a.2 then i else a.2:Int)
 let b:=(w64 (i-604800))
 let e:Int:=(if b>a.1 then b else a.1:Int)
 let d:=(w64 (k-e))
 let g:Int:=(if d>0 then d else 0:Int)
 let f:=(w64 (n+g))
 let j:=(w64 (c+1))
 some (.inl (i,f,l,m,j))) none) (
 some (.inr n))
def jak [LP] (d c:Int) (e:Tn2) (b a:Int):Option (Int):=
 LP.lp (unc5 (j9K)) (d,c,e,b,a)
def j6D [LP] (a:Tn2) (b:Int):Option (Int):=
 let c:=(Int.ofNat (List.length a))
 (jak b 0 a c 0).bind fun d=>
 some d
def jaO (m:Tn2) (o n l:Int) (d:Tn2) (j b:Int) (k:(List Int)):Option ((Tn2×Int×Int×Int×Tn2×Int×Int×(List Int)) ⊕ ((Tn2×Int×Int×Int×(List Int)))):=
 cond (decide (b<j)) (
 cond (inR b (List.length d)) (
 let a:=(List.getD d (Int.toNat b) (0,0))
 let f:=(w64 (a.1+604800))
 let g:=(w64 (a.2+604800))
 let c:(List Int):=[a.1,a.2,f,g]
 cond (decide (List.length k+List.length c≤j0d)) (
 let e:(List Int):=(k++c)
 let i:=(w64 (b+1))
 some (.inl (m,o,n,l,d,j,i,e))) none) none) (
 some (.inr (m,o,n,l,k)))
def jbz [LP] (e:Tn2) (i f d:Int) (a:Tn2) (c b:Int) (g:(List Int)):Option ((Tn2×Int×Int×Int×(List Int))):=
 LP.lp (unc8 (jaO)) (e,i,f,d,a,c,b,g)
def j3F [LP] (j:Tn2) (g q i b:Int) (c d:(List Int)):Option ((Tn2×Int×Int×Int×Int×(List Int)×(List Int)) ⊕ ((List Int))):=
 cond (decide (b<i)) (
 cond (inR b (List.length d)) (
 let a:=(List.getD d (Int.toNat b) 0)
 (j6D j q).bind fun f=>
 (j6D j a).bind fun n=>
 cond (cond (decide (f≤g)) (decide (n>g)) false) (
 let o:=(w64 (q+g))
 let k:=(w64 (o-f))
 let e:=(w64 (k+1))
 cond (decide (List.length c+List.length [e]≤j0d)) (
 let m:(List Int):=(c++[e])
 let p:=(w64 (b+1))
 some (.inl (j,g,a,i,p,m,d))) none) (
 let l:=(w64 (b+1))
 some (.inl (j,g,a,i,l,c,d)))) none) (
 some (.inr c))
def jbA [LP] (f:Tn2) (g c e d:Int) (a b:(List Int)):Option ((List Int)):=
 LP.lp (unc7 (j3F)) (f,g,c,e,d,a,b)
def j9L [LP] (a:Tn2) (d c e:Int):Option ((List Int)):=
 let g:=(Int.ofNat (List.length a))
 (jbz a d c e a g 0 ([]:(List Int))).bind fun b=>
 (jdm b.2.2.2.2 b.2.2.1 b.2.2.2.1).bind fun f=>
 let i:=(Int.ofNat (List.length f))
 (jbA b.1 b.2.1 b.2.2.1 i 0 ([]:(List Int)) f).bind fun j=>
 some j
def jaP (a:Tn2) (n b:Int) (j:(List Int)):Option ((Tn2×Int×Int×(List Int)) ⊕ ((List Int))):=
 let m:=(Int.ofNat (List.length a))
 cond (decide (b<m)) (
 cond (inR b (List.length a)) (
 let i:=(List.getD a (Int.toNat b) (0,0))
 let c:=(w64 (b-1))
 cond (inR c (List.length a)) (
 let k:=(List.getD a (Int.toNat c) (0,0))
 let g:=(w64 (i.1-k.2))
 cond (decide (g<n)) (
 cond (inR b (List.length a)) (
 let d:=(List.getD a (Int.toNat b) (0,0))
 cond (decide (List.length j+List.length [d.1]≤j0d)) (
 let l:(List Int):=(j++[d.1])
 let f:=(w64 (b+1))
 some (.inl (a,n,f,l))) none) none) (
 let e:=(w64 (b+1))
 some (.inl (a,n,e,j)))) none) none) (
 some (.inr j))
def jbB [LP] (d:Tn2) (b a:Int) (c:(List Int)):Option ((List Int)):=
 LP.lp (unc4 (jaP)) (d,b,a,c)
def j81 [LP] (b:Tn2) (a:Int):Option ((List Int)):=
 (jbB b a 1 ([]:(List Int))).bind fun c=>
 some c
def j2a (b:Tn75) (a:Int):Option (Tn14):=
 cond (inR a (List.length b.2)) (
 let c:=(List.getD b.2 (Int.toNat a) (0,([]:Tn2)))
 some (c.1,c.2)) none
def j9M (e:Tn2) (g b:Int) (f:(List Int)):Option ((Tn2×Int×Int×(List Int)) ⊕ ((List Int))):=
 cond (decide (b<g)) (
 cond (inR b (List.length e)) (
 let a:=(List.getD e (Int.toNat b) (0,0))
 cond (decide (List.length f+List.length [a.1]≤j0d)) (
 let c:(List Int):=(f++[a.1])
 let d:=(w64 (b+1))
 some (.inl (e,g,d,c))) none) none) (
 some (.inr f))
def jal [LP] (a:Tn2) (b d:Int) (c:(List Int)):Option ((List Int)):=
 LP.lp (unc4 (j9M)) (a,b,d,c)
def j4u [LP] (a:Tn2):Option ((List Int)):=
 let b:=(Int.ofNat (List.length a))
 (jal a b 0 ([]:(List Int))).bind fun c=>
 some c
def jcx (a b:Tn3):Option (Int):=
 cond (a.2.2 != b.2.2) (
 let c:=(w64 (a.2.2-b.2.2))
 some c) (
 cond (a.1 != b.1) (
 let e:=(w64 (a.1-b.1))
 some e) (
 let d:=(w64 (a.2.1-b.2.1))
 some d))
def j04 (a:Tn15):Option (Tn15):=
 jpE ((.pair (.int .i64) (.pair (.int .i64) (.int .i64)))) (fun b c=>(jcx b c).getD 0) a
def j1U (e b c:Int) (a:Tn15):Option ((Int×Int×Int×Tn15) ⊕ ((Int×Tn15))):=
 let g:=(Int.ofNat (List.length a-(Int.toNat b)))
 cond (decide (c<g)) (
 cond (inR c (List.length a-(Int.toNat b))) (
 let l:=(List.getD a ((Int.toNat b)+(Int.toNat c)) (0,(0,0))).1
 let p:=(List.getD a ((Int.toNat b)+(Int.toNat c)) (0,(0,0))).2.1
 let i:=(List.getD a ((Int.toNat b)+(Int.toNat c)) (0,(0,0))).2.2
 let d:=(w64 (c-1))
 cond (inR d (List.length a-(Int.toNat b))) (
 let s:=(List.getD a ((Int.toNat b)+(Int.toNat d)) (0,(0,0))).1
 let j:=(List.getD a ((Int.toNat b)+(Int.toNat d)) (0,(0,0))).2.1
 let o:=(List.getD a ((Int.toNat b)+(Int.toNat d)) (0,(0,0))).2.2
 cond (!((l==s)&&((p==j)&&(i==o)))) (
 cond (inR c (List.length a-(Int.toNat b))) (
 let q:=(List.getD a ((Int.toNat b)+(Int.toNat c)) (0,(0,0))).1
 let k:=(List.getD a ((Int.toNat b)+(Int.toNat c)) (0,(0,0))).2.1
 let f:=(List.getD a ((Int.toNat b)+(Int.toNat c)) (0,(0,0))).2.2
 cond (inR e (List.length a)) (
 let t:Tn15:=(List.set a (Int.toNat e) (q,(k,f)))
 let r:=(w64 (e+1))
 let n:=(w64 (c+1))
 some (.inl (r,(Int.ofNat (Int.toNat b)),n,t))) none) none) (
 let m:=(w64 (c+1))
 some (.inl (e,(Int.ofNat (Int.toNat b)),m,a)))) none) none) (
 some (.inr (e,a)))
def j1k [LP] (b c d:Int) (a:Tn15):Option ((Int×Tn15)):=
 LP.lp (unc4 (j1U)) (b,c,d,a)
def j0p [LP] (d:Int) (b:Tn15):Option ((Int×Tn15) ⊕ ((Int×Tn15) ⊕ Tn15)):=
 let g:=(Int.ofNat (List.length b))
 cond (decide (d<g)) (
 cond (inR d (List.length b)) (
 let m:=(List.getD b (Int.toNat d) (0,(0,0))).1
 let k:=(List.getD b (Int.toNat d) (0,(0,0))).2.1
 let f:=(List.getD b (Int.toNat d) (0,(0,0))).2.2
 let c:=(w64 (d-1))
 cond (inR c (List.length b)) (
 let i:=(List.getD b (Int.toNat c) (0,(0,0))).1
 let l:=(List.getD b (Int.toNat c) (0,(0,0))).2.1
 let n:=(List.getD b (Int.toNat c) (0,(0,0))).2.2
 cond ((m==i)&&((k==l)&&(f==n))) (
 cond (decide (0≤d)&&decide (d≤(Int.ofNat (List.length b)))) (
 (j1k d (Int.ofNat (Int.toNat d)) 1 b).bind fun a=>
 cond (decide (0≤a.1)&&decide (a.1≤(Int.ofNat (List.length a.2)))) (
 let e:Tn15:=(List.take (Int.toNat a.1) a.2++List.replicate (List.length a.2-(Int.toNat a.1)) (0,(0,0)))
 cond (decide (0≤a.1)&&decide (a.1≤(Int.ofNat (List.length e)))) (
 some (.inr (.inl ((Int.ofNat (Int.toNat a.1)),e)))) none) none) none) (
 let j:=(w64 (d+1))
 some (.inl (j,b)))) none) none) (
 some (.inr (.inr b)))
def j1l [LP] (b:Int) (a:Tn15):Option ((Int×Tn15) ⊕ Tn15):=
 LP.lp (unc2 (j0p)) (b,a)
def j05 [LP] (a:Tn15):Option (Int×Tn15):=
 let c:=(Int.ofNat (List.length a))
 cond (decide (c<2)) (
 some ((Int.ofNat (List.length a)),a)) (
 (j1l 1 a).bind fun b=>
 sumC b (fun e=>
 some ((Int.ofNat (Int.toNat e.1)),e.2)) (fun d=>
 some ((Int.ofNat (List.length d)),d)))
def j7j (g f a:Int) (d:(List (List Int))) (b:Tn31):Option ((Int×Int×Int×(List (List Int))×Tn31) ⊕ ((Int×(List (List Int))))):=
 cond (decide (a<f)) (
 cond (inR a (List.length b)) (
 let e:=(List.getD b (Int.toNat a) (0,(0,(0,(0,0))))).1
 let i:=(List.getD b (Int.toNat a) (0,(0,(0,(0,0))))).2.1
 let j:=(List.getD b (Int.toNat a) (0,(0,(0,(0,0))))).2.2.1
 let l:=(List.getD b (Int.toNat a) (0,(0,(0,(0,0))))).2.2.2.1
 let m:=(List.getD b (Int.toNat a) (0,(0,(0,(0,0))))).2.2.2.2
 cond (e==g) (
 let k:=(List.getD d 3 ([]:(List Int)))
 none) (
 let c:=(w64 (a+1))
 some (.inl (g,f,c,d,b)))) none) (
 some (.inr (g,d)))
def j0Z [LP] (e b c:Int) (d:(List (List Int))) (a:Tn31):Option ((Int×(List (List Int)))):=
 LP.lp (unc5 (j7j)) (e,b,c,d,a)
def j7k (m l:Int) (d:(List (List Int))) (j:Int) (c:(List Int)) (k a:Int) (f:Tn15):Option ((Int×Int×(List (List Int))×Int×(List Int)×Int×Int×Tn15) ⊕ ((Int×(List (List Int))×Int×Tn15))):=
 cond (decide (a<k)) (
 cond (inR a (List.length c)) (
 let i:=(List.getD c (Int.toNat a) 0)
 let b:Tn15:=[(l,(m,i))]
 cond (decide (List.length f+List.length b≤j0d)) (
 let g:Tn15:=(f++b)
 let e:=(w64 (a+1))
 some (.inl (m,l,d,j,c,k,e,g))) none) none) (
 some (.inr (m,d,j,f)))
def j6V [LP] (i f:Int) (a:(List (List Int))) (c:Int) (d:(List Int)) (e b:Int) (g:Tn15):Option ((Int×(List (List Int))×Int×Tn15)):=
 LP.lp (unc8 (j7k)) (i,f,a,c,d,e,b,g)
def j2b [LP] (i:Int) (e:(List (List Int))) (a:Int) (g:Tn15):Option ((Int×(List (List Int))×Int×Tn15) ⊕ (Tn15)):=
 cond (decide (a<4)) (
 cond (inR a 4) (
 let c:=(List.getD e (Int.toNat a) ([]:(List Int)))
 let f:=(Int.ofNat (List.length c))
 (j6V i a e a c f 0 g).bind fun b=>
 let d:=(w64 (b.2.2.1+1))
 some (.inl (b.1,b.2.1,d,b.2.2.2))) none) (
 some (.inr g))
def j10 [LP] (d:Int) (a:(List (List Int))) (b:Int) (c:Tn15):Option (Tn15):=
 LP.lp (unc4 (j2b)) (d,a,b,c)
def j3X [LP] (g:Tn73) (a c f:Int):Option (Tn15×Int):=
 (j43 (g.1,(g.2.1,(g.2.2.1,g.2.2.2))) a c f).bind fun b=>
 cond (b.2 != 0) (
 some (([]:Tn15),b.2)) (
 (j6C ((b.1.1.1,(b.1.1.2.1,(b.1.1.2.2.1,b.1.1.2.2.2))),b.1.2) a c f).bind fun i=>
 cond (i.2 != 0) (
 some (([]:Tn15),i.2)) (
 (j5J (g.1,(g.2.1,(g.2.2.1,g.2.2.2))) c f).bind fun d=>
 cond (d.2 != 0) (
 some (([]:Tn15),d.2)) (
 cond (inR a (List.length g.2.1)) (
 let e:=(List.getD g.2.1 (Int.toNat a) (ByteArray.empty,(0,(([]:Tn2),(0,(0,false))))))
 let a1:(List (List Int)):=[([]:(List Int)),([]:(List Int)),([]:(List Int)),([]:(List Int))]
 let i0:(List (List Int)):=(List.replicate 4 ([]:(List Int)))
 cond (e.2.2.2.1 != 0) (
 (j9L i.1 e.2.2.2.1 c f).bind fun g2=>
 let f7:(List (List Int)):=(List.set a1 0 g2)
 cond (e.2.2.2.2.1 != 0) (
 (j81 i.1 e.2.2.2.2.1).bind fun g3=>
 let g5:(List (List Int)):=(List.set f7 1 g3)
 cond (!e.2.2.2.2.2) (
 (j2a ((b.1.1.1,(b.1.1.2.1,(b.1.1.2.2.1,b.1.1.2.2.2))),b.1.2) e.2.1).bind fun e6=>
 (j4r (e6.1,e6.2) e.2.2.1 c f).bind fun g7=>
 (j4N i.1 g7).bind fun e5=>
 let g6:=(Int.ofNat (List.length e5))
 cond (decide (g6>4096)) (
 some (([]:Tn15),5)) (
 (j4u e5).bind fun g1=>
 let g8:(List (List Int)):=(List.set g5 2 g1)
 let f0:=(Int.ofNat (List.length d.1))
 (j0Z a f0 0 g8 d.1).bind fun g4=>
 (j10 g4.1 g4.2 0 ([]:Tn15)).bind fun g9=>
 (j04 g9).bind fun f6=>
 (j05 f6).bind fun b3=>
 let a5:Tn15:=(List.take (Int.toNat b3.1) b3.2)
 let e7:=(Int.ofNat (List.length a5))
 cond (decide (e7>16384)) (
 some (([]:Tn15),5)) (
 some (a5,0)))) (
 let c7:=(Int.ofNat (List.length d.1))
 (j0Z a c7 0 g5 d.1).bind fun c8=>
 (j10 c8.1 c8.2 0 ([]:Tn15)).bind fun f3=>
 (j04 f3).bind fun b0=>
 (j05 b0).bind fun u=>
 let l:Tn15:=(List.take (Int.toNat u.1) u.2)
 let c5:=(Int.ofNat (List.length l))
 cond (decide (c5>16384)) (
 some (([]:Tn15),5)) (
 some (l,0)))) (
 cond (!e.2.2.2.2.2) (
 (j2a ((b.1.1.1,(b.1.1.2.1,(b.1.1.2.2.1,b.1.1.2.2.2))),b.1.2) e.2.1).bind fun z=>
 (j4r (z.1,z.2) e.2.2.1 c f).bind fun d7=>
 (j4N i.1 d7).bind fun a2=>
 let d6:=(Int.ofNat (List.length a2))
 cond (decide (d6>4096)) (
 some (([]:Tn15),5)) (
 (j4u a2).bind fun e1=>
 let f8:(List (List Int)):=(List.set f7 2 e1)
 let b7:=(Int.ofNat (List.length d.1))
 (j0Z a b7 0 f8 d.1).bind fun a9=>
 (j10 a9.1 a9.2 0 ([]:Tn15)).bind fun e8=>
 (j04 e8).bind fun b6=>
 (j05 b6).bind fun r=>
 let k:Tn15:=(List.take (Int.toNat r.1) r.2)
 let a7:=(Int.ofNat (List.length k))
 cond (decide (a7>16384)) (
 some (([]:Tn15),5)) (
 some (k,0)))) (
 let a4:=(Int.ofNat (List.length d.1))
 (j0Z a a4 0 f7 d.1).bind fun c6=>
 (j10 c6.1 c6.2 0 ([]:Tn15)).bind fun f9=>
 (j04 f9).bind fun b4=>
 (j05 b4).bind fun o=>
 let q:Tn15:=(List.take (Int.toNat o.1) o.2)
 let c0:=(Int.ofNat (List.length q))
 cond (decide (c0>16384)) (
 some (([]:Tn15),5)) (
 some (q,0))))) (
 cond (e.2.2.2.2.1 != 0) (
 (j81 i.1 e.2.2.2.2.1).bind fun e3=>
 let c1:(List (List Int)):=(List.set a1 1 e3)
 cond (!e.2.2.2.2.2) (
 (j2a ((b.1.1.1,(b.1.1.2.1,(b.1.1.2.2.1,b.1.1.2.2.2))),b.1.2) e.2.1).bind fun y=>
 (j4r (y.1,y.2) e.2.2.1 c f).bind fun d9=>
 (j4N i.1 d9).bind fun a0=>
 let e4:=(Int.ofNat (List.length a0))
 cond (decide (e4>4096)) (
 some (([]:Tn15),5)) (
 (j4u a0).bind fun e2=>
 let g0:(List (List Int)):=(List.set c1 2 e2)
 let d4:=(Int.ofNat (List.length d.1))
 (j0Z a d4 0 g0 d.1).bind fun b1=>
 (j10 b1.1 b1.2 0 ([]:Tn15)).bind fun f5=>
 (j04 f5).bind fun a8=>
 (j05 a8).bind fun v=>
 let t:Tn15:=(List.take (Int.toNat v.1) v.2)
 let b9:=(Int.ofNat (List.length t))
 cond (decide (b9>16384)) (
 some (([]:Tn15),5)) (
 some (t,0)))) (
 let d3:=(Int.ofNat (List.length d.1))
 (j0Z a d3 0 c1 d.1).bind fun d0=>
 (j10 d0.1 d0.2 0 ([]:Tn15)).bind fun f1=>
 (j04 f1).bind fun c2=>
 (j05 c2).bind fun p=>
 let s:Tn15:=(List.take (Int.toNat p.1) p.2)
 let d2:=(Int.ofNat (List.length s))
 cond (decide (d2>16384)) (
 some (([]:Tn15),5)) (
 some (s,0)))) (
 cond (!e.2.2.2.2.2) (
 (j2a ((b.1.1.1,(b.1.1.2.1,(b.1.1.2.2.1,b.1.1.2.2.2))),b.1.2) e.2.1).bind fun x=>
 (j4r (x.1,x.2) e.2.2.1 c f).bind fun d8=>
 (j4N i.1 d8).bind fun a3=>
 let d5:=(Int.ofNat (List.length a3))
 cond (decide (d5>4096)) (
 some (([]:Tn15),5)) (
 (j4u a3).bind fun e0=>
 let f2:(List (List Int)):=(List.set a1 2 e0)
 let b8:=(Int.ofNat (List.length d.1))
 (j0Z a b8 0 f2 d.1).bind fun c3=>
 (j10 c3.1 c3.2 0 ([]:Tn15)).bind fun f4=>
 (j04 f4).bind fun d1=>
 (j05 d1).bind fun n=>
 let m:Tn15:=(List.take (Int.toNat n.1) n.2)
 let c9:=(Int.ofNat (List.length m))
 cond (decide (c9>16384)) (
 some (([]:Tn15),5)) (
 some (m,0)))) (
 let b2:=(Int.ofNat (List.length d.1))
 (j0Z a b2 0 a1 d.1).bind fun b5=>
 (j10 b5.1 b5.2 0 ([]:Tn15)).bind fun e9=>
 (j04 e9).bind fun a6=>
 (j05 a6).bind fun j=>
 let w:Tn15:=(List.take (Int.toNat j.1) j.2)
 let c4:=(Int.ofNat (List.length w))
 cond (decide (c4>16384)) (
 some (([]:Tn15),5)) (
 some (w,0)))))) none)))
def j8j [LP] (d:Tn73) (a c e:Int):Option (Tn2×Int):=
 (j43 (d.1,(d.2.1,(d.2.2.1,d.2.2.2))) a c e).bind fun b=>
 cond (b.2 != 0) (
 some (([]:Tn2),b.2)) (
 (j6C ((b.1.1.1,(b.1.1.2.1,(b.1.1.2.2.1,b.1.1.2.2.2))),b.1.2) a c e).bind fun f=>
 some (f.1,f.2))
def j3M (a:(Int×Int)):Option (Int):=
 (j5p a.1).bind fun d=>
 let c:=(w64 (d*86400))
 let b:=(w64 (c+a.2))
 some b
def j5K (e:Int) (d:Tn2) (f b:Int):Option ((Int×Tn2×Int×Int) ⊕ (Bool ⊕ Unit)):=
 cond (decide (b<f)) (
 cond (inR b (List.length d)) (
 let a:=(List.getD d (Int.toNat b) (0,0))
 cond (cond (decide (a.1≤e)) (decide (e<a.2)) false) (
 some (.inr (.inl true))) (
 let c:=(w64 (b+1))
 some (.inl (e,d,f,c)))) none) (
 some (.inr (.inr ())))
def j9d [LP] (c b d a):=LP.lp (fun h=>j5K h.1 h.2.1 h.2.2.1 h.2.2.2) (c,b,d,a)
theorem jgo (c b d a):j9d c b d a=lpK (j5K c b d a) (fun h=>j9d h.1 h.2.1 h.2.2.1 h.2.2.2):=j0h _ _
def jcy [LP] (a:Tn2) (b:Int):Option (Bool):=
 let c:=(Int.ofNat (List.length a))
 (j9d b a c 0).bind fun d=>
 sumC d (fun e=>
 some e) (fun f=>
 some false)
def j0F [LP] (c:Tn73) (a d:Int) (f:Bool):Option (Bool):=
 (j43 (c.1,(c.2.1,(c.2.2.1,c.2.2.2))) a d d).bind fun b=>
 cond (b.2 != 0) (
 some false) (
 cond (inR a (List.length c.2.1)) (
 let e:=(List.getD c.2.1 (Int.toNat a) (ByteArray.empty,(0,(([]:Tn2),(0,(0,false))))))
 cond f (
 cond e.2.2.2.2.2 (
 some true) (
 (j2a ((b.1.1.1,(b.1.1.2.1,(b.1.1.2.2.1,b.1.1.2.2.2))),b.1.2) e.2.1).bind fun l=>
 (j0P (l.1,l.2) d).bind fun m=>
 (j3M (m.1,m.2)).bind fun n=>
 (jcy e.2.2.1 n).bind fun o=>
 some (!o))) (
 (j2a ((b.1.1.1,(b.1.1.2.1,(b.1.1.2.2.1,b.1.1.2.2.2))),b.1.2) e.2.1).bind fun g=>
 (j0P (g.1,g.2) d).bind fun i=>
 (j3M (i.1,i.2)).bind fun j=>
 (jcy e.2.2.1 j).bind fun k=>
 some (!k))) none)
def j9e [LP]  : Option (Bool):=
 (jkL 144000 39600 false).bind fun a=>
 (j3X (a.1,(a.2.1,(a.2.2.1,a.2.2.2))) 0 86400 286400).bind fun b=>
 let t:Tn31:=[(0,(0,(0,(90000,126000))))]
 cond (inR 0 (List.length a.2.2.2)) (
 let d:Tn67:=(List.set a.2.2.2 0 ((List.getD a.2.2.2 0 (ByteArray.empty,(([]:Tn62),([]:Tn31)))).1,((List.getD a.2.2.2 0 (ByteArray.empty,(([]:Tn62),([]:Tn31)))).2.1,t)))
 (j3X (a.1,(a.2.1,(a.2.2.1,d))) 0 86400 172800).bind fun c=>
 (j8j (a.1,(a.2.1,(a.2.2.1,d))) 0 86400 172800).bind fun l=>
 let y:=(Int.ofNat (List.length b.1))
 let p:Bool:=(cond (cond (cond (b.2==0) (c.2==0) false) (l.2==0) false) (y==2) false)
 cond ((inR 0 (List.length b.1)) || !p) (
 let q:=(List.getD b.1 0 (0,(0,0))).1
 let i:=(List.getD b.1 0 (0,(0,0))).2.1
 let e:=(List.getD b.1 0 (0,(0,0))).2.2
 let n:Bool:=(cond p ((q==2)&&((i==0)&&(e==172800))) false)
 cond ((inR 1 (List.length b.1)) || !n) (
 let x:=(List.getD b.1 1 (0,(0,0))).1
 let f:=(List.getD b.1 1 (0,(0,0))).2.1
 let g:=(List.getD b.1 1 (0,(0,0))).2.2
 let o:Bool:=(cond n ((x==0)&&((f==0)&&(g==230401))) false)
 let m:=(Int.ofNat (List.length c.1))
 cond ((inR 0 (List.length c.1)) || !(cond o (m==1) false)) (
 let s:=(List.getD c.1 0 (0,(0,0))).1
 let j:=(List.getD c.1 0 (0,(0,0))).2.1
 let k:=(List.getD c.1 0 (0,(0,0))).2.2
 let w:Bool:=(cond (cond o (m==1) false) ((s==1)&&((j==0)&&(k==126000))) false)
 let r:=(Int.ofNat (List.length l.1))
 cond (cond w (r==2) false) (
 (j0F (a.1,(a.2.1,(a.2.2.1,d))) 0 86400 false).bind fun v=>
 cond v (
 (j0F (a.1,(a.2.1,(a.2.2.1,d))) 0 172800 true).bind fun u=>
 some (!u)) (
 some false)) (
 some false)) none) none) none) none
def jkO (a:(List Int)):Option ((List Int)×Int):=
 some (a,0)
def j02 (b:(List Int)) (a c:Int):Option (Int×(List Int)×Int):=
 let g:=(Int.ofNat (List.length b))
 cond (decide (a≥g)) (
 some (0,b,a)) (
 cond (decide (c<1)) (
 some (0,b,a)) (
 cond (inR a (List.length b)) (
 let f:=(List.getD b (Int.toNat a) 0)
 cond (!(c==0)) (
 let d:=(Int.tmod f c)
 let e:=(w64 (a+1))
 cond (decide (d<0)) (
 let i:=(w64 (d+c))
 some (i,b,e)) (
 some (d,b,e))) none) none))
def j1b (d:(List Int)) (b:Int) (a:(List Int)):Option (Int×(List Int)×Int):=
 let f:=(Int.ofNat (List.length a))
 (j02 d b f).bind fun c=>
 cond (inR c.1 (List.length a)) (
 let e:=(List.getD a (Int.toNat c.1) 0)
 some (e,c.2.1,c.2.2)) none
def j3U (a0:(List Int)) (i:Int) (a:ByteArray):Option (Tn54×(List Int)×Int):=
 let b0:(List Int):=[0,4,(-20),22,48,(-47)]
 (j1b a0 i b0).bind fun v=>
 (j02 v.2.1 v.2.2 2).bind fun k=>
 (j02 k.2.1 k.2.2 3).bind fun m=>
 let b5:=(w64 (k.1*m.1))
 let a8:=(w64 (v.1+b5))
 let c:=(w64 (900*a8))
 (j02 m.2.1 m.2.2 2).bind fun u=>
 let g:=(w64 (2025+u.1))
 (j02 u.2.1 u.2.2 4).bind fun b=>
 cond (b.1==1) (
 let b2:=(w64 (c+3600))
 let b1:Tn44:=[(2025,(g,(3,(5,(6,(7200,b2)))))),(2025,(g,(10,(5,(6,(10800,c))))))]
 some ((a,(c,b1)),b.2.1,b.2.2)) (
 cond (b.1==2) (
 (j02 b.2.1 b.2.2 4).bind fun t=>
 let a6:=(w64 (1+t.1))
 (j02 t.2.1 t.2.2 7).bind fun o=>
 (j02 o.2.1 o.2.2 24).bind fun p=>
 let a2:=(w64 (3600*p.1))
 (j02 p.2.1 p.2.2 8).bind fun n=>
 let a1:=(w64 (1+n.1))
 let b7:=(w64 (1800*a1))
 let b4:=(w64 (c+b7))
 (j02 n.2.1 n.2.2 2).bind fun q=>
 let a3:=(w64 (2+q.1))
 let a9:(List Int):=[2,3,5]
 (j1b q.2.1 q.2.2 a9).bind fun s=>
 (j02 s.2.1 s.2.2 7).bind fun x=>
 (j02 x.2.1 x.2.2 24).bind fun j=>
 let b3:=(w64 (3600*j.1))
 let a4:Tn44:=[(2025,(g,(1,(a6,(o.1,(a2,b4)))))),(2025,(g,(a3,(s.1,(x.1,(b3,c))))))]
 some ((a,(c,a4)),j.2.1,j.2.2)) (
 cond (b.1==3) (
 let a7:(List Int):=[3600,(-3600),82800,(-82800),43200]
 (j1b b.2.1 b.2.2 a7).bind fun f=>
 let r:=(w64 (c+f.1))
 cond (cond (decide (r>64800)) true (decide (r<(-64800)))) (
 (j02 f.2.1 f.2.2 7).bind fun l=>
 (j02 l.2.1 l.2.2 48).bind fun w=>
 let a5:=(w64 (1800*w.1))
 let b6:Tn44:=[(2026,(2026,(1,(2,(l.1,(a5,0))))))]
 some ((a,(c,b6)),w.2.1,w.2.2)) (
 (j02 f.2.1 f.2.2 7).bind fun e=>
 (j02 e.2.1 e.2.2 48).bind fun d=>
 let y:=(w64 (1800*d.1))
 let z:Tn44:=[(2026,(2026,(1,(2,(e.1,(y,r))))))]
 some ((a,(c,z)),d.2.1,d.2.2))) (
 some ((a,(c,([]:Tn44))),b.2.1,b.2.2))))
def jg1  : Option ((List ByteArray)):=
 let a:(List ByteArray):=[(ByteArray.mk #[97,100,97]),(ByteArray.mk #[98,111,98]),(ByteArray.mk #[99,108,101,111]),(ByteArray.mk #[100,97,110]),(ByteArray.mk #[101,118,101]),(ByteArray.mk #[102,97,121]),(ByteArray.mk #[103,117,115]),(ByteArray.mk #[104,97,108])]
 some a
def j11 (c:(List Int)) (a b:Int):Option (Bool×(List Int)×Int):=
 (j02 c a b).bind fun d=>
 let e:=(w64 (b-1))
 some ((d.1==e),d.2.1,d.2.2)
def j2c (r p:Int) (q:(List Int)) (g:Int) (m:Tn2):Option ((Int×Int×(List Int)×Int×Tn2) ⊕ (((List Int)×Int×Tn2))):=
 cond (decide (p>0)) (
 (j02 q g 30).bind fun c=>
 let n:=(w64 (3600*c.1))
 let i:=(w64 (r+n))
 (j02 c.2.1 c.2.2 2).bind fun d=>
 let o:=(w64 (60*d.1))
 let e:=(w64 (i+o))
 let j:(List Int):=[3600,28800,43200,86400,61,1]
 (j1b d.2.1 d.2.2 j).bind fun a=>
 let b:=(w64 (e+a.1))
 cond (decide (b>604800)) (
 some (.inr (a.2.1,a.2.2,m))) (
 let f:Tn2:=[(e,b)]
 cond (decide (List.length m+List.length f≤j0d)) (
 let k:Tn2:=(m++f)
 let l:=(w64 (p-1))
 some (.inl (b,l,a.2.1,a.2.2,k))) none)) (
 some (.inr (q,g,m)))
def j4X [LP] (e b c a d):=LP.lp (fun h=>j2c h.1 h.2.1 h.2.2.1 h.2.2.2.1 h.2.2.2.2) (e,b,c,a,d)
theorem j8k (e b c a d):j4X e b c a d=lpK (j2c e b c a d) (fun h=>j4X h.1 h.2.1 h.2.2.1 h.2.2.2.1 h.2.2.2.2):=j0h _ _
def j3Y [LP] (b:(List Int)) (a:Int):Option (Tn2×(List Int)×Int):=
 (j02 b a 4).bind fun d=>
 (j4X 0 d.1 d.2.1 d.2.2 ([]:Tn2)).bind fun c=>
 some (c.2.2,c.1,c.2.1)
def j2M (l:Int) (k:(List Int)) (f:Int) (b:Tn56):Option ((Int×(List Int)×Int×Tn56) ⊕ (((List Int)×Int×Tn56))):=
 cond (decide (l>0)) (
 let e:(List ByteArray):=[(ByteArray.mk #[104,101,114,101]),(ByteArray.mk #[116,104,101,114,101])]
 let d:=(Int.ofNat (List.length b))
 cond (inR d (List.length e)) (
 let j:=(List.getD e (Int.toNat d) ByteArray.empty)
 (j3U k f j).bind fun a=>
 let c:Tn56:=[(a.1.1,(a.1.2.1,a.1.2.2))]
 cond (decide (List.length b+List.length c≤j0d)) (
 let g:Tn56:=(b++c)
 let i:=(w64 (l-1))
 some (.inl (i,a.2.1,a.2.2,g))) none) none) (
 some (.inr (k,f,b)))
def j60 [LP] (d c a b):=LP.lp (fun h=>j2M h.1 h.2.1 h.2.2.1 h.2.2.2) (d,c,a,b)
theorem j9N (d c a b):j60 d c a b=lpK (j2M d c a b) (fun h=>j60 h.1 h.2.1 h.2.2.1 h.2.2.2):=j0h _ _
def j2N [LP] (a4:Int) (a5:(List Int)) (q:Int) (g:Tn56) (b:Tn50):Option ((Int×(List Int)×Int×Tn56×Tn50) ⊕ (((List Int)×Int×Tn56×Tn50))):=
 cond (decide (a4>0)) (
 (jg1).bind fun o=>
 let n:=(Int.ofNat (List.length b))
 cond (inR n (List.length o)) (
 let p:=(List.getD o (Int.toNat n) ByteArray.empty)
 let r:=(Int.ofNat (List.length g))
 (j02 a5 q r).bind fun c=>
 (j11 c.2.1 c.2.2 3).bind fun d=>
 (j11 d.2.1 d.2.2 2).bind fun a=>
 cond a.1 (
 (j3Y a.2.1 a.2.2).bind fun e=>
 let y:(List Int):=[0,40,100,12]
 (j1b e.2.1 e.2.2 y).bind fun i=>
 let s:=(w64 (3600*i.1))
 let w:(List Int):=[0,11,24,1]
 (j1b i.2.1 i.2.2 w).bind fun j=>
 let z:=(w64 (3600*j.1))
 let l:Tn50:=[(p,(c.1,(e.1,(s,(z,d.1)))))]
 cond (decide (List.length b+List.length l≤j0d)) (
 let u:Tn50:=(b++l)
 let x:=(w64 (a4-1))
 some (.inl (x,j.2.1,j.2.2,g,u))) none) (
 let a1:(List Int):=[0,40,100,12]
 (j1b a.2.1 a.2.2 a1).bind fun f=>
 let a0:=(w64 (3600*f.1))
 let t:(List Int):=[0,11,24,1]
 (j1b f.2.1 f.2.2 t).bind fun k=>
 let a2:=(w64 (3600*k.1))
 let m:Tn50:=[(p,(c.1,(([]:Tn2),(a0,(a2,d.1)))))]
 cond (decide (List.length b+List.length m≤j0d)) (
 let a3:Tn50:=(b++m)
 let v:=(w64 (a4-1))
 some (.inl (v,k.2.1,k.2.2,g,a3))) none)) none) (
 some (.inr (a5,q,g,b)))
def j61 [LP] (d e a c b):=LP.lp (fun h=>j2N h.1 h.2.1 h.2.2.1 h.2.2.2.1 h.2.2.2.2) (d,e,a,c,b)
theorem j9O (d e a c b):j61 d e a c b=lpK (j2N d e a c b) (fun h=>j61 h.1 h.2.1 h.2.2.1 h.2.2.2.1 h.2.2.2.2):=j0h _ _
def j2O (o m p:Int) (n:(List Int)) (e:Int) (q:ByteArray) (i:Int) (j:Tn56) (g:Tn50) (d:Tn27) (c:(List Int)):Option ((Int×Int×Int×(List Int)×Int×ByteArray×Int×Tn56×Tn50×Tn27×(List Int)) ⊕ ((Int×(List Int)×Int×ByteArray×Int×Tn56×Tn50×Tn27×(List Int)))):=
 cond (decide (m>0)) (
 (j02 n e 6).bind fun a=>
 let k:=(w64 (1+a.1))
 let b:=(w64 (p+k))
 cond (decide (List.length c+List.length [b]≤j0d)) (
 let f:(List Int):=(c++[b])
 let l:=(w64 (m-1))
 some (.inl (o,l,b,a.2.1,a.2.2,q,i,j,g,d,f))) none) (
 some (.inr (o,n,e,q,i,j,g,d,c)))
def j62 [LP] (k i g j b l d f c a e):=LP.lp (fun h=>j2O h.1 h.2.1 h.2.2.1 h.2.2.2.1 h.2.2.2.2.1 h.2.2.2.2.2.1 h.2.2.2.2.2.2.1 h.2.2.2.2.2.2.2.1 h.2.2.2.2.2.2.2.2.1 h.2.2.2.2.2.2.2.2.2.1 h.2.2.2.2.2.2.2.2.2.2) (k,i,g,j,b,l,d,f,c,a,e)
theorem j9P (k i g j b l d f c a e):j62 k i g j b l d f c a e=lpK (j2O k i g j b l d f c a e) (fun h=>j62 h.1 h.2.1 h.2.2.1 h.2.2.2.1 h.2.2.2.2.1 h.2.2.2.2.2.1 h.2.2.2.2.2.2.1 h.2.2.2.2.2.2.2.1 h.2.2.2.2.2.2.2.2.1 h.2.2.2.2.2.2.2.2.2.1 h.2.2.2.2.2.2.2.2.2.2):=j0h _ _
def j1X [LP] (n:Int) (m:(List Int)) (g:Int) (e:Tn56) (j:Tn50) (f:Tn27):Option ((Int×(List Int)×Int×Tn56×Tn50×Tn27) ⊕ (((List Int)×Int×Tn56×Tn50×Tn27))):=
 cond (decide (n>0)) (
 let k:=(Int.ofNat (List.length e))
 (j02 m g k).bind fun b=>
 (j02 b.2.1 b.2.2 4).bind fun c=>
 (j62 n c.1 20454 c.2.1 c.2.2 (ByteArray.mk #[100,97,121,115]) b.1 e j f ([]:(List Int))).bind fun a=>
 let d:Tn27:=[(a.2.2.2.1,(a.2.2.2.2.1,a.2.2.2.2.2.2.2.2))]
 cond (decide (List.length a.2.2.2.2.2.2.2.1+List.length d≤j0d)) (
 let i:Tn27:=(a.2.2.2.2.2.2.2.1++d)
 let l:=(w64 (a.1-1))
 some (.inl (l,a.2.1,a.2.2.1,a.2.2.2.2.2.1,a.2.2.2.2.2.2.1,i))) none) (
 some (.inr (m,g,e,j,f)))
def j63 [LP] (f e b d c a):=LP.lp (fun h=>j1X h.1 h.2.1 h.2.2.1 h.2.2.2.1 h.2.2.2.2.1 h.2.2.2.2.2) (f,e,b,d,c,a)
theorem j6i (f e b d c a):j63 f e b d c a=lpK (j1X f e b d c a) (fun h=>j63 h.1 h.2.1 h.2.2.1 h.2.2.2.1 h.2.2.2.2.1 h.2.2.2.2.2):=j0h _ _
def j8l [LP] (g:(List Int)) (a:Int):Option (Tn73×(List Int)×Int):=
 (j02 g a 2).bind fun e=>
 let k:=(w64 (1+e.1))
 (j60 k e.2.1 e.2.2 ([]:Tn56)).bind fun i=>
 (j02 i.1 i.2.1 4).bind fun c=>
 let j:=(w64 (1+c.1))
 (j61 j c.2.1 c.2.2 i.2.2 ([]:Tn50)).bind fun f=>
 (j02 f.1 f.2.1 2).bind fun b=>
 (j63 b.1 b.2.1 b.2.2 f.2.2.1 f.2.2.2 ([]:Tn27)).bind fun d=>
 some ((d.2.2.1,(d.2.2.2.1,(d.2.2.2.2,([]:Tn67)))),d.1,d.2.1)
def j2P (z:Int) (y:(List Int)) (d:Int) (a2:Tn56) (b:Tn50) (k:Tn27) (f:Tn67) (a0:ByteArray) (p l e i s g o:Int) (a1:ByteArray) (m r j t q n u:Int) (c:(List Int)):Option ((Int×(List Int)×Int×Tn56×Tn50×Tn27×Tn67×ByteArray×Int×Int×Int×Int×Int×Int×Int×ByteArray×Int×Int×Int×Int×Int×Int×Int×(List Int)) ⊕ (((List Int)×Int×Tn56×Tn50×Tn27×Tn67×ByteArray×Int×Int×Int×Int×Int×Int×Int×ByteArray×Int×Int×Int×Int×Int×Int×Int×(List Int)))):=
 cond (decide (z>0)) (
 let v:=(Int.ofNat (List.length b))
 (j02 y d v).bind fun a=>
 cond (decide (List.length c+List.length [a.1]≤j0d)) (
 let x:(List Int):=(c++[a.1])
 let w:=(w64 (z-1))
 some (.inl (w,a.2.1,a.2.2,a2,b,k,f,a0,p,l,e,i,s,g,o,a1,m,r,j,t,q,n,u,x))) none) (
 some (.inr (y,d,a2,b,k,f,a0,p,l,e,i,s,g,o,a1,m,r,j,t,q,n,u,c)))
def j4v [LP] (v u a y c j d w o k b g r e n x l q i s p m t f):=LP.lp (fun h=>j2P h.1 h.2.1 h.2.2.1 h.2.2.2.1 h.2.2.2.2.1 h.2.2.2.2.2.1 h.2.2.2.2.2.2.1 h.2.2.2.2.2.2.2.1 h.2.2.2.2.2.2.2.2.1 h.2.2.2.2.2.2.2.2.2.1 h.2.2.2.2.2.2.2.2.2.2.1 h.2.2.2.2.2.2.2.2.2.2.2.1 h.2.2.2.2.2.2.2.2.2.2.2.2.1 h.2.2.2.2.2.2.2.2.2.2.2.2.2.1 h.2.2.2.2.2.2.2.2.2.2.2.2.2.2.1 h.2.2.2.2.2.2.2.2.2.2.2.2.2.2.2.1 h.2.2.2.2.2.2.2.2.2.2.2.2.2.2.2.2.1 h.2.2.2.2.2.2.2.2.2.2.2.2.2.2.2.2.2.1 h.2.2.2.2.2.2.2.2.2.2.2.2.2.2.2.2.2.2.1 h.2.2.2.2.2.2.2.2.2.2.2.2.2.2.2.2.2.2.2.1 h.2.2.2.2.2.2.2.2.2.2.2.2.2.2.2.2.2.2.2.2.1 h.2.2.2.2.2.2.2.2.2.2.2.2.2.2.2.2.2.2.2.2.2.1 h.2.2.2.2.2.2.2.2.2.2.2.2.2.2.2.2.2.2.2.2.2.2.1 h.2.2.2.2.2.2.2.2.2.2.2.2.2.2.2.2.2.2.2.2.2.2.2) (v,u,a,y,c,j,d,w,o,k,b,g,r,e,n,x,l,q,i,s,p,m,t,f)
theorem j9Q (v u a y c j d w o k b g r e n x l q i s p m t f):j4v v u a y c j d w o k b g r e n x l q i s p m t f=lpK (j2P v u a y c j d w o k b g r e n x l q i s p m t f) (fun h=>j4v h.1 h.2.1 h.2.2.1 h.2.2.2.1 h.2.2.2.2.1 h.2.2.2.2.2.1 h.2.2.2.2.2.2.1 h.2.2.2.2.2.2.2.1 h.2.2.2.2.2.2.2.2.1 h.2.2.2.2.2.2.2.2.2.1 h.2.2.2.2.2.2.2.2.2.2.1 h.2.2.2.2.2.2.2.2.2.2.2.1 h.2.2.2.2.2.2.2.2.2.2.2.2.1 h.2.2.2.2.2.2.2.2.2.2.2.2.2.1 h.2.2.2.2.2.2.2.2.2.2.2.2.2.2.1 h.2.2.2.2.2.2.2.2.2.2.2.2.2.2.2.1 h.2.2.2.2.2.2.2.2.2.2.2.2.2.2.2.2.1 h.2.2.2.2.2.2.2.2.2.2.2.2.2.2.2.2.2.1 h.2.2.2.2.2.2.2.2.2.2.2.2.2.2.2.2.2.2.1 h.2.2.2.2.2.2.2.2.2.2.2.2.2.2.2.2.2.2.2.1 h.2.2.2.2.2.2.2.2.2.2.2.2.2.2.2.2.2.2.2.2.1 h.2.2.2.2.2.2.2.2.2.2.2.2.2.2.2.2.2.2.2.2.2.1 h.2.2.2.2.2.2.2.2.2.2.2.2.2.2.2.2.2.2.2.2.2.2.1 h.2.2.2.2.2.2.2.2.2.2.2.2.2.2.2.2.2.2.2.2.2.2.2):=j0h _ _
def j8m [LP] (b5:(List Int)) (y:Int) (c:Tn73) (j:ByteArray):Option (Tn61×(List Int)×Int):=
 let c4:=(Int.ofNat (List.length c.1))
 (j02 b5 y c4).bind fun v=>
 (j02 v.2.1 v.2.2 6).bind fun z=>
 let b9:=(w64 (20454+z.1))
 let b4:=(w64 (b9-2))
 let c0:(List Int):=[0,32400,7200,9000,79200,1]
 (j1b z.2.1 z.2.2 c0).bind fun x=>
 (j02 x.2.1 x.2.2 3).bind fun t=>
 (j02 t.2.1 t.2.2 2).bind fun u=>
 let b7:=(w64 (1+u.1))
 cond (t.1==0) (
 let c1:(List Int):=[6,8,12,24,23,49]
 (j1b u.2.1 u.2.2 c1).bind fun a1=>
 (j02 a1.2.1 a1.2.2 3).bind fun a0=>
 let b6:=(w64 (1+a0.1))
 (j4v b6 a0.2.1 a0.2.2 c.1 c.2.1 c.2.2.1 c.2.2.2 ByteArray.empty 0 0 0 0 0 0 0 j v.1 b4 x.1 t.1 a1.1 0 0 ([]:(List Int))).bind fun b=>
 (j11 b.1 b.2.1 2).bind fun r=>
 cond r.1 (
 (j3Y r.2.1 r.2.2).bind fun w=>
 (j11 w.2.1 w.2.2 4).bind fun s=>
 let c3:=(Int.ofNat (List.length b.2.2.2.2.1))
 cond (cond s.1 (decide (c3>0)) false) (
 let c2:=(Int.ofNat (List.length b.2.2.2.2.1))
 (j02 s.2.1 s.2.2 c2).bind fun a3=>
 (j02 a3.2.1 a3.2.2 2).bind fun a2=>
 let b8:=(w64 (1+a2.1))
 some ((b.2.2.2.2.2.2.2.2.2.2.2.2.2.2.1,(b.2.2.2.2.2.2.2.2.2.2.2.2.2.2.2.1,((b.2.2.2.2.2.2.2.2.2.2.2.2.2.2.2.2.1,b.2.2.2.2.2.2.2.2.2.2.2.2.2.2.2.2.2.1),(b.2.2.2.2.2.2.2.2.2.2.2.2.2.2.2.2.2.2.1,(b.2.2.2.2.2.2.2.2.2.2.2.2.2.2.2.2.2.2.2.1,(b.2.2.2.2.2.2.2.2.2.2.2.2.2.2.2.2.2.2.2.2.2.2,(w.1,(a3.1,b8)))))))),a2.2.1,a2.2.2)) (
 some ((b.2.2.2.2.2.2.2.2.2.2.2.2.2.2.1,(b.2.2.2.2.2.2.2.2.2.2.2.2.2.2.2.1,((b.2.2.2.2.2.2.2.2.2.2.2.2.2.2.2.2.1,b.2.2.2.2.2.2.2.2.2.2.2.2.2.2.2.2.2.1),(b.2.2.2.2.2.2.2.2.2.2.2.2.2.2.2.2.2.2.1,(b.2.2.2.2.2.2.2.2.2.2.2.2.2.2.2.2.2.2.2.1,(b.2.2.2.2.2.2.2.2.2.2.2.2.2.2.2.2.2.2.2.2.2.2,(w.1,(b.2.2.2.2.2.2.2.2.2.2.2.2.2.2.2.2.2.2.2.2.1,b.2.2.2.2.2.2.2.2.2.2.2.2.2.2.2.2.2.2.2.2.2.1)))))))),s.2.1,s.2.2))) (
 (j11 r.2.1 r.2.2 4).bind fun g=>
 let a5:=(Int.ofNat (List.length b.2.2.2.2.1))
 cond (cond g.1 (decide (a5>0)) false) (
 let a7:=(Int.ofNat (List.length b.2.2.2.2.1))
 (j02 g.2.1 g.2.2 a7).bind fun k=>
 (j02 k.2.1 k.2.2 2).bind fun l=>
 let a9:=(w64 (1+l.1))
 some ((b.2.2.2.2.2.2.2.2.2.2.2.2.2.2.1,(b.2.2.2.2.2.2.2.2.2.2.2.2.2.2.2.1,((b.2.2.2.2.2.2.2.2.2.2.2.2.2.2.2.2.1,b.2.2.2.2.2.2.2.2.2.2.2.2.2.2.2.2.2.1),(b.2.2.2.2.2.2.2.2.2.2.2.2.2.2.2.2.2.2.1,(b.2.2.2.2.2.2.2.2.2.2.2.2.2.2.2.2.2.2.2.1,(b.2.2.2.2.2.2.2.2.2.2.2.2.2.2.2.2.2.2.2.2.2.2,(([]:Tn2),(k.1,a9)))))))),l.2.1,l.2.2)) (
 some ((b.2.2.2.2.2.2.2.2.2.2.2.2.2.2.1,(b.2.2.2.2.2.2.2.2.2.2.2.2.2.2.2.1,((b.2.2.2.2.2.2.2.2.2.2.2.2.2.2.2.2.1,b.2.2.2.2.2.2.2.2.2.2.2.2.2.2.2.2.2.1),(b.2.2.2.2.2.2.2.2.2.2.2.2.2.2.2.2.2.2.1,(b.2.2.2.2.2.2.2.2.2.2.2.2.2.2.2.2.2.2.2.1,(b.2.2.2.2.2.2.2.2.2.2.2.2.2.2.2.2.2.2.2.2.2.2,(([]:Tn2),(b.2.2.2.2.2.2.2.2.2.2.2.2.2.2.2.2.2.2.2.2.1,b.2.2.2.2.2.2.2.2.2.2.2.2.2.2.2.2.2.2.2.2.2.1)))))))),g.2.1,g.2.2)))) (
 (j02 u.2.1 u.2.2 3).bind fun n=>
 let b3:=(w64 (1+n.1))
 (j4v b3 n.2.1 n.2.2 c.1 c.2.1 c.2.2.1 c.2.2.2 ByteArray.empty 0 0 0 0 0 0 0 j v.1 b4 x.1 t.1 b7 0 0 ([]:(List Int))).bind fun a=>
 (j11 a.1 a.2.1 2).bind fun f=>
 cond f.1 (
 (j3Y f.2.1 f.2.2).bind fun i=>
 (j11 i.2.1 i.2.2 4).bind fun e=>
 let a4:=(Int.ofNat (List.length a.2.2.2.2.1))
 cond (cond e.1 (decide (a4>0)) false) (
 let b0:=(Int.ofNat (List.length a.2.2.2.2.1))
 (j02 e.2.1 e.2.2 b0).bind fun m=>
 (j02 m.2.1 m.2.2 2).bind fun q=>
 let a8:=(w64 (1+q.1))
 some ((a.2.2.2.2.2.2.2.2.2.2.2.2.2.2.1,(a.2.2.2.2.2.2.2.2.2.2.2.2.2.2.2.1,((a.2.2.2.2.2.2.2.2.2.2.2.2.2.2.2.2.1,a.2.2.2.2.2.2.2.2.2.2.2.2.2.2.2.2.2.1),(a.2.2.2.2.2.2.2.2.2.2.2.2.2.2.2.2.2.2.1,(a.2.2.2.2.2.2.2.2.2.2.2.2.2.2.2.2.2.2.2.1,(a.2.2.2.2.2.2.2.2.2.2.2.2.2.2.2.2.2.2.2.2.2.2,(i.1,(m.1,a8)))))))),q.2.1,q.2.2)) (
 some ((a.2.2.2.2.2.2.2.2.2.2.2.2.2.2.1,(a.2.2.2.2.2.2.2.2.2.2.2.2.2.2.2.1,((a.2.2.2.2.2.2.2.2.2.2.2.2.2.2.2.2.1,a.2.2.2.2.2.2.2.2.2.2.2.2.2.2.2.2.2.1),(a.2.2.2.2.2.2.2.2.2.2.2.2.2.2.2.2.2.2.1,(a.2.2.2.2.2.2.2.2.2.2.2.2.2.2.2.2.2.2.2.1,(a.2.2.2.2.2.2.2.2.2.2.2.2.2.2.2.2.2.2.2.2.2.2,(i.1,(a.2.2.2.2.2.2.2.2.2.2.2.2.2.2.2.2.2.2.2.2.1,a.2.2.2.2.2.2.2.2.2.2.2.2.2.2.2.2.2.2.2.2.2.1)))))))),e.2.1,e.2.2))) (
 (j11 f.2.1 f.2.2 4).bind fun d=>
 let a6:=(Int.ofNat (List.length a.2.2.2.2.1))
 cond (cond d.1 (decide (a6>0)) false) (
 let b2:=(Int.ofNat (List.length a.2.2.2.2.1))
 (j02 d.2.1 d.2.2 b2).bind fun o=>
 (j02 o.2.1 o.2.2 2).bind fun p=>
 let b1:=(w64 (1+p.1))
 some ((a.2.2.2.2.2.2.2.2.2.2.2.2.2.2.1,(a.2.2.2.2.2.2.2.2.2.2.2.2.2.2.2.1,((a.2.2.2.2.2.2.2.2.2.2.2.2.2.2.2.2.1,a.2.2.2.2.2.2.2.2.2.2.2.2.2.2.2.2.2.1),(a.2.2.2.2.2.2.2.2.2.2.2.2.2.2.2.2.2.2.1,(a.2.2.2.2.2.2.2.2.2.2.2.2.2.2.2.2.2.2.2.1,(a.2.2.2.2.2.2.2.2.2.2.2.2.2.2.2.2.2.2.2.2.2.2,(([]:Tn2),(o.1,b1)))))))),p.2.1,p.2.2)) (
 some ((a.2.2.2.2.2.2.2.2.2.2.2.2.2.2.1,(a.2.2.2.2.2.2.2.2.2.2.2.2.2.2.2.1,((a.2.2.2.2.2.2.2.2.2.2.2.2.2.2.2.2.1,a.2.2.2.2.2.2.2.2.2.2.2.2.2.2.2.2.2.1),(a.2.2.2.2.2.2.2.2.2.2.2.2.2.2.2.2.2.2.1,(a.2.2.2.2.2.2.2.2.2.2.2.2.2.2.2.2.2.2.2.1,(a.2.2.2.2.2.2.2.2.2.2.2.2.2.2.2.2.2.2.2.2.2.2,(([]:Tn2),(a.2.2.2.2.2.2.2.2.2.2.2.2.2.2.2.2.2.2.2.2.1,a.2.2.2.2.2.2.2.2.2.2.2.2.2.2.2.2.2.2.2.2.2.1)))))))),d.2.1,d.2.2))))
def j56 (d:(List Int)) (a:Int):Option (Int×(List Int)×Int):=
 (j02 d a 576).bind fun e=>
 let j:=(w64 (3600*e.1))
 let i:=(w64 (1767139200+j))
 (j11 e.2.1 e.2.2 3).bind fun c=>
 cond c.1 (
 let g:(List Int):=[(-1),1,1800,3599]
 (j1b c.2.1 c.2.2 g).bind fun b=>
 let f:=(w64 (i+b.1))
 some (f,b.2.1,b.2.2)) (
 some (i,c.2.1,c.2.2))
def j9w (m:(List Int)) (j:Int) (n:Tn73):Option (Tn25×(List Int)×Int):=
 let l:=(Int.ofNat (List.length n.2.1))
 (j02 m j 3).bind fun a=>
 (j02 a.2.1 a.2.2 l).bind fun e=>
 (j56 e.2.1 e.2.2).bind fun b=>
 let o:(List Int):=[3600,86400,7,259200,40000]
 (j1b b.2.1 b.2.2 o).bind fun c=>
 let f:=(w64 (b.1+c.1))
 cond (a.1==2) (
 cond (decide (l<2)) (
 some ((0,(e.1,(0,(b.1,f)))),c.2.1,c.2.2)) (
 let p:=(w64 (e.1+1))
 let q:=(w64 (l-1))
 (j02 c.2.1 c.2.2 q).bind fun g=>
 let r:=(w64 (p+g.1))
 cond (!(l==0)) (
 let k:=(Int.tmod r l)
 cond (a.1==1) (
 (j11 g.2.1 g.2.2 4).bind fun i=>
 cond i.1 (
 some ((a.1,((-1),(k,(b.1,f)))),i.2.1,i.2.2)) (
 some ((a.1,(e.1,(k,(b.1,f)))),i.2.1,i.2.2))) (
 some ((a.1,(e.1,(k,(b.1,f)))),g.2.1,g.2.2))) none)) (
 cond (a.1==1) (
 (j11 c.2.1 c.2.2 4).bind fun d=>
 cond d.1 (
 some ((a.1,((-1),(0,(b.1,f)))),d.2.1,d.2.2)) (
 some ((a.1,(e.1,(0,(b.1,f)))),d.2.1,d.2.2))) (
 some ((a.1,(e.1,(0,(b.1,f)))),c.2.1,c.2.2)))
def j2v [LP] (o r:Int) (q:(List Int)) (j:Int) (n:Tn56) (d:Tn50) (c:Tn27) (p:ByteArray) (e:Tn67) (b:Tn62):Option ((Int×Int×(List Int)×Int×Tn56×Tn50×Tn27×ByteArray×Tn67×Tn62) ⊕ ((Int×(List Int)×Int×Tn56×Tn50×Tn27×ByteArray×Tn67×Tn62))):=
 cond (decide (r>0)) (
 (jg1).bind fun g=>
 let f:=(Int.ofNat (List.length b))
 cond (inR f (List.length g)) (
 let m:=(List.getD g (Int.toNat f) ByteArray.empty)
 (j8m q j (n,(d,(c,e))) m).bind fun a=>
 let i:Tn62:=[(a.1.1,(a.1.2.1,((a.1.2.2.1.1,a.1.2.2.1.2),(a.1.2.2.2.1,(a.1.2.2.2.2.1,(a.1.2.2.2.2.2.1,(a.1.2.2.2.2.2.2.1,(a.1.2.2.2.2.2.2.2.1,a.1.2.2.2.2.2.2.2.2))))))))]
 cond (decide (List.length b+List.length i≤j0d)) (
 let l:Tn62:=(b++i)
 let k:=(w64 (r-1))
 some (.inl (o,k,a.2.1,a.2.2,n,d,c,p,e,l))) none) none) (
 some (.inr (o,q,j,n,d,c,p,e,b)))
def j48 [LP] (f j i d k b a g c e):=LP.lp (fun h=>j2v h.1 h.2.1 h.2.2.1 h.2.2.2.1 h.2.2.2.2.1 h.2.2.2.2.2.1 h.2.2.2.2.2.2.1 h.2.2.2.2.2.2.2.1 h.2.2.2.2.2.2.2.2.1 h.2.2.2.2.2.2.2.2.2) (f,j,i,d,k,b,a,g,c,e)
theorem j8X (f j i d k b a g c e):j48 f j i d k b a g c e=lpK (j2v f j i d k b a g c e) (fun h=>j48 h.1 h.2.1 h.2.2.1 h.2.2.2.1 h.2.2.2.2.1 h.2.2.2.2.2.1 h.2.2.2.2.2.2.1 h.2.2.2.2.2.2.2.1 h.2.2.2.2.2.2.2.2.1 h.2.2.2.2.2.2.2.2.2):=j0h _ _
def j2w (m n:Int) (o:(List Int)) (g:Int) (l:Tn56) (c:Tn50) (b:Tn27) (p:ByteArray) (d:Tn67) (i:Tn62) (e:Tn31):Option ((Int×Int×(List Int)×Int×Tn56×Tn50×Tn27×ByteArray×Tn67×Tn62×Tn31) ⊕ ((Int×(List Int)×Int×Tn56×Tn50×Tn27×ByteArray×Tn67×Tn62×Tn31))):=
 cond (decide (n>0)) (
 (j9w o g (l,(c,(b,d)))).bind fun a=>
 let f:Tn31:=[(a.1.1,(a.1.2.1,(a.1.2.2.1,(a.1.2.2.2.1,a.1.2.2.2.2))))]
 cond (decide (List.length e+List.length f≤j0d)) (
 let j:Tn31:=(e++f)
 let k:=(w64 (n-1))
 some (.inl (m,k,a.2.1,a.2.2,l,c,b,p,d,i,j))) none) (
 some (.inr (m,o,g,l,c,b,p,d,i,e)))
def j5s [LP] (g i j d l b a k c f e):=LP.lp (fun h=>j2w h.1 h.2.1 h.2.2.1 h.2.2.2.1 h.2.2.2.2.1 h.2.2.2.2.2.1 h.2.2.2.2.2.2.1 h.2.2.2.2.2.2.2.1 h.2.2.2.2.2.2.2.2.1 h.2.2.2.2.2.2.2.2.2.1 h.2.2.2.2.2.2.2.2.2.2) (g,i,j,d,l,b,a,k,c,f,e)
theorem j8Y (g i j d l b a k c f e):j5s g i j d l b a k c f e=lpK (j2w g i j d l b a k c f e) (fun h=>j5s h.1 h.2.1 h.2.2.1 h.2.2.2.1 h.2.2.2.2.1 h.2.2.2.2.2.1 h.2.2.2.2.2.2.1 h.2.2.2.2.2.2.2.1 h.2.2.2.2.2.2.2.2.1 h.2.2.2.2.2.2.2.2.2.1 h.2.2.2.2.2.2.2.2.2.2):=j0h _ _
def j2x [LP] (q:Int) (r:(List Int)) (l:Int) (s:Tn56) (k:Tn50) (j:Tn27) (e:Tn67):Option ((Int×(List Int)×Int×Tn56×Tn50×Tn27×Tn67) ⊕ (((List Int)×Int×Tn56×Tn50×Tn27×Tn67))):=
 cond (decide (q>0)) (
 let i:(List ByteArray):=[(ByteArray.mk #[102,105,114,115,116]),(ByteArray.mk #[115,101,99,111,110,100]),(ByteArray.mk #[116,104,105,114,100])]
 let o:=(Int.ofNat (List.length e))
 let f:=(Int.tmod o 3)
 cond (inR f (List.length i)) (
 let n:=(List.getD i (Int.toNat f) ByteArray.empty)
 (j02 r l 4).bind fun d=>
 (j48 q d.1 d.2.1 d.2.2 s k j n e ([]:Tn62)).bind fun b=>
 (j02 b.2.1 b.2.2.1 4).bind fun c=>
 (j5s b.1 c.1 c.2.1 c.2.2 b.2.2.2.1 b.2.2.2.2.1 b.2.2.2.2.2.1 b.2.2.2.2.2.2.1 b.2.2.2.2.2.2.2.1 b.2.2.2.2.2.2.2.2 ([]:Tn31)).bind fun a=>
 let g:Tn67:=[(a.2.2.2.2.2.2.1,(a.2.2.2.2.2.2.2.2.1,a.2.2.2.2.2.2.2.2.2))]
 cond (decide (List.length a.2.2.2.2.2.2.2.1+List.length g≤j0d)) (
 let m:Tn67:=(a.2.2.2.2.2.2.2.1++g)
 let p:=(w64 (a.1-1))
 some (.inl (p,a.2.1,a.2.2.1,a.2.2.2.1,a.2.2.2.2.1,a.2.2.2.2.2.1,m))) none) none) (
 some (.inr (r,l,s,k,j,e)))
def j5t [LP] (e f d g b a c):=LP.lp (fun h=>j2x h.1 h.2.1 h.2.2.1 h.2.2.2.1 h.2.2.2.2.1 h.2.2.2.2.2.1 h.2.2.2.2.2.2) (e,f,d,g,b,a,c)
theorem j8Z (e f d g b a c):j5t e f d g b a c=lpK (j2x e f d g b a c) (fun h=>j5t h.1 h.2.1 h.2.2.1 h.2.2.2.1 h.2.2.2.2.1 h.2.2.2.2.2.1 h.2.2.2.2.2.2):=j0h _ _
def j7w [LP] (e:(List Int)) (c f:Int):Option (Tn73×(List Int)×Int):=
 (j8l e c).bind fun a=>
 (j02 a.2.1 a.2.2 f).bind fun d=>
 let g:=(w64 (1+d.1))
 (j5t g d.2.1 d.2.2 a.1.1 a.1.2.1 a.1.2.2.1 ([]:Tn67)).bind fun b=>
 some ((b.2.2.1,(b.2.2.2.1,(b.2.2.2.2.1,b.2.2.2.2.2))),b.1,b.2.1)
def jk7 (b a:Int):Option (Int):=
 cond (!(a==0)) (
 let d:=(Int.tmod b a)
 let e:=(w64 (d+a))
 cond (!(a==0)) (
 let c:=(Int.tmod e a)
 some c) none) none
def jcz (a c b:Int):Option (Bool):=
 some (cond (decide (a≥c)) (decide (a≤b)) false)
def jfm (a:Tn40):Option (Bool):=
 (jcz a.1 1970 2240).bind fun i=>
 cond i (
 (jcz a.2.1 a.1 2240).bind fun g=>
 cond g (
 (jcz a.2.2.1 1 12).bind fun e=>
 cond e (
 (jcz a.2.2.2.1 1 5).bind fun f=>
 cond f (
 (jcz a.2.2.2.2.1 0 6).bind fun d=>
 cond d (
 (jcz a.2.2.2.2.2.1 0 86399).bind fun b=>
 cond b (
 (jcz a.2.2.2.2.2.2 (-64800) 64800).bind fun c=>
 some c) (
 some false)) (
 some false)) (
 some false)) (
 some false)) (
 some false)) (
 some false)
def j1w (a:Int):Option (Bool):=
 let c:=(Int.tmod a 4)
 let d:=(Int.tmod a 100)
 let b:=(Int.tmod a 400)
 some (cond (c==0) (cond (d != 0) true (b==0)) false)
def je0 (b a:Int):Option (Int):=
 cond (a==1) (
 cond (a==1) (
 some 31) (
 cond (a==4) (
 cond (a==4) (
 some 30) (
 cond (a==2) (
 (j1w b).bind fun a4=>
 cond a4 (
 some 29) (
 some 28)) (
 some 0))) (
 cond (a==6) (
 cond (a==6) (
 some 30) (
 cond (a==2) (
 (j1w b).bind fun a1=>
 cond a1 (
 some 29) (
 some 28)) (
 some 0))) (
 cond (a==9) (
 cond (a==9) (
 some 30) (
 cond (a==2) (
 (j1w b).bind fun v=>
 cond v (
 some 29) (
 some 28)) (
 some 0))) (
 cond (a==11) (
 some 30) (
 cond (a==2) (
 (j1w b).bind fun a2=>
 cond a2 (
 some 29) (
 some 28)) (
 some 0))))))) (
 cond (a==3) (
 cond (a==3) (
 some 31) (
 cond (a==4) (
 cond (a==4) (
 some 30) (
 cond (a==2) (
 (j1w b).bind fun w=>
 cond w (
 some 29) (
 some 28)) (
 some 0))) (
 cond (a==6) (
 cond (a==6) (
 some 30) (
 cond (a==2) (
 (j1w b).bind fun a0=>
 cond a0 (
 some 29) (
 some 28)) (
 some 0))) (
 cond (a==9) (
 cond (a==9) (
 some 30) (
 cond (a==2) (
 (j1w b).bind fun y=>
 cond y (
 some 29) (
 some 28)) (
 some 0))) (
 cond (a==11) (
 some 30) (
 cond (a==2) (
 (j1w b).bind fun z=>
 cond z (
 some 29) (
 some 28)) (
 some 0))))))) (
 cond (a==5) (
 cond (a==5) (
 some 31) (
 cond (a==4) (
 cond (a==4) (
 some 30) (
 cond (a==2) (
 (j1w b).bind fun a3=>
 cond a3 (
 some 29) (
 some 28)) (
 some 0))) (
 cond (a==6) (
 cond (a==6) (
 some 30) (
 cond (a==2) (
 (j1w b).bind fun x=>
 cond x (
 some 29) (
 some 28)) (
 some 0))) (
 cond (a==9) (
 cond (a==9) (
 some 30) (
 cond (a==2) (
 (j1w b).bind fun u=>
 cond u (
 some 29) (
 some 28)) (
 some 0))) (
 cond (a==11) (
 some 30) (
 cond (a==2) (
 (j1w b).bind fun e=>
 cond e (
 some 29) (
 some 28)) (
 some 0))))))) (
 cond (a==7) (
 cond (a==7) (
 some 31) (
 cond (a==4) (
 cond (a==4) (
 some 30) (
 cond (a==2) (
 (j1w b).bind fun r=>
 cond r (
 some 29) (
 some 28)) (
 some 0))) (
 cond (a==6) (
 cond (a==6) (
 some 30) (
 cond (a==2) (
 (j1w b).bind fun p=>
 cond p (
 some 29) (
 some 28)) (
 some 0))) (
 cond (a==9) (
 cond (a==9) (
 some 30) (
 cond (a==2) (
 (j1w b).bind fun o=>
 cond o (
 some 29) (
 some 28)) (
 some 0))) (
 cond (a==11) (
 some 30) (
 cond (a==2) (
 (j1w b).bind fun l=>
 cond l (
 some 29) (
 some 28)) (
 some 0))))))) (
 cond (a==8) (
 cond (a==8) (
 some 31) (
 cond (a==4) (
 cond (a==4) (
 some 30) (
 cond (a==2) (
 (j1w b).bind fun g=>
 cond g (
 some 29) (
 some 28)) (
 some 0))) (
 cond (a==6) (
 cond (a==6) (
 some 30) (
 cond (a==2) (
 (j1w b).bind fun k=>
 cond k (
 some 29) (
 some 28)) (
 some 0))) (
 cond (a==9) (
 cond (a==9) (
 some 30) (
 cond (a==2) (
 (j1w b).bind fun m=>
 cond m (
 some 29) (
 some 28)) (
 some 0))) (
 cond (a==11) (
 some 30) (
 cond (a==2) (
 (j1w b).bind fun f=>
 cond f (
 some 29) (
 some 28)) (
 some 0))))))) (
 cond (a==10) (
 cond (a==10) (
 some 31) (
 cond (a==4) (
 cond (a==4) (
 some 30) (
 cond (a==2) (
 (j1w b).bind fun t=>
 cond t (
 some 29) (
 some 28)) (
 some 0))) (
 cond (a==6) (
 cond (a==6) (
 some 30) (
 cond (a==2) (
 (j1w b).bind fun i=>
 cond i (
 some 29) (
 some 28)) (
 some 0))) (
 cond (a==9) (
 cond (a==9) (
 some 30) (
 cond (a==2) (
 (j1w b).bind fun n=>
 cond n (
 some 29) (
 some 28)) (
 some 0))) (
 cond (a==11) (
 some 30) (
 cond (a==2) (
 (j1w b).bind fun s=>
 cond s (
 some 29) (
 some 28)) (
 some 0))))))) (
 cond (a==12) (
 some 31) (
 cond (a==4) (
 cond (a==4) (
 some 30) (
 cond (a==2) (
 (j1w b).bind fun q=>
 cond q (
 some 29) (
 some 28)) (
 some 0))) (
 cond (a==6) (
 cond (a==6) (
 some 30) (
 cond (a==2) (
 (j1w b).bind fun j=>
 cond j (
 some 29) (
 some 28)) (
 some 0))) (
 cond (a==9) (
 cond (a==9) (
 some 30) (
 cond (a==2) (
 (j1w b).bind fun c=>
 cond c (
 some 29) (
 some 28)) (
 some 0))) (
 cond (a==11) (
 some 30) (
 cond (a==2) (
 (j1w b).bind fun d=>
 cond d (
 some 29) (
 some 28)) (
 some 0))))))))))))
def jhL (a:Tn3):Option (Bool):=
 cond (decide (a.1≥1970)) (
 cond (decide (a.1≤2240)) (
 cond (decide (a.2.1≥1)) (
 cond (decide (a.2.1≤12)) (
 cond (decide (a.2.2≥1)) (
 (je0 a.1 a.2.1).bind fun b=>
 some (decide (a.2.2≤b))) (
 some false)) (
 some false)) (
 some false)) (
 some false)) (
 some false)
def jk8 (a:Int):Option (Int):=
 let l:=(w64 (a-1970))
 let j:=(w64 (l*365))
 let k:=(w64 (a-1969))
 let i:=(w64 (Int.tdiv k 4))
 let m:=(w64 (j+i))
 let f:=(w64 (a-1901))
 let e:=(w64 (Int.tdiv f 100))
 let g:=(w64 (m-e))
 let c:=(w64 (a-1601))
 let b:=(w64 (Int.tdiv c 400))
 let d:=(w64 (g+b))
 some d
def j6j (i g f a b:Int):Option ((Int×Int×Int×Int×Int) ⊕ ((Int×Int×Int×Int))):=
 cond (decide (g<a)) (
 (je0 f g).bind fun e=>
 let d:=(w64 (i+e))
 let c:=(w64 (g+1))
 some (.inl (d,c,f,a,b))) (
 some (.inr (i,f,a,b)))
def jg2 [LP] (e d c b a):=LP.lp (fun h=>j6j h.1 h.2.1 h.2.2.1 h.2.2.2.1 h.2.2.2.2) (e,d,c,b,a)
theorem jhM (e d c b a):jg2 e d c b a=lpK (j6j e d c b a) (fun h=>jg2 h.1 h.2.1 h.2.2.1 h.2.2.2.1 h.2.2.2.2):=j0h _ _
def jn9 [LP] (a:Tn3):Option (Int×Int):=
 (jhL (a.1,(a.2.1,a.2.2))).bind fun f=>
 cond (!f) (
 some (0,1)) (
 (jk8 a.1).bind fun e=>
 (jg2 e 1 a.1 a.2.1 a.2.2).bind fun d=>
 let b:=(w64 (d.1+d.2.2.2))
 let c:=(w64 (b-1))
 some (c,0))
def je1 (a:Int):Option (Int):=
 let c:=(Int.tmod a 7)
 let d:=(w64 (c+10))
 let b:=(Int.tmod d 7)
 some b
def j6k (f i g e d a:Int):Option ((Int×Int×Int×Int×Int×Int) ⊕ ((Int×Int×Int×Int×Int))):=
 (je1 a).bind fun b=>
 cond (b != e) (
 let c:=(w64 (a+1))
 some (.inl (f,i,g,e,d,c))) (
 some (.inr (f,i,g,d,a)))
def jg3 [LP] (d f e c b a):=LP.lp (fun h=>j6k h.1 h.2.1 h.2.2.1 h.2.2.2.1 h.2.2.2.2.1 h.2.2.2.2.2) (d,f,e,c,b,a)
theorem jhN (d f e c b a):jg3 d f e c b a=lpK (j6k d f e c b a) (fun h=>jg3 h.1 h.2.1 h.2.2.1 h.2.2.2.1 h.2.2.2.2.1 h.2.2.2.2.2):=j0h _ _
def j6l (g i f a:Int):Option ((Int×Int×Int×Int) ⊕ (Int)):=
 let d:=(w64 (a+7))
 (je0 g i).bind fun e=>
 let c:=(w64 (f+e))
 cond (decide (d<c)) (
 let b:=(w64 (a+7))
 some (.inl (g,i,f,b))) (
 some (.inr a))
def jg4 [LP] (c d b a):=LP.lp (fun h=>j6l h.1 h.2.1 h.2.2.1 h.2.2.2) (c,d,b,a)
theorem jhO (c d b a):jg4 c d b a=lpK (j6l c d b a) (fun h=>jg4 h.1 h.2.1 h.2.2.1 h.2.2.2):=j0h _ _
def jna [LP] (f c b a:Int):Option (Int×Int):=
 (jn9 (f,(c,1))).bind fun e=>
 let l:Bool:=(cond (cond (e.2 != 0) true (decide (b<1))) true (decide (b>5)))
 let i:Bool:=(cond (cond l true (decide (a<0))) true (decide (a>6)))
 cond i (
 some (0,1)) (
 (jg3 f c b a e.1 e.1).bind fun d=>
 cond (decide (d.2.2.1<5)) (
 let g:=(w64 (d.2.2.1-1))
 let j:=(w64 (7*g))
 let k:=(w64 (d.2.2.2.2+j))
 some (k,0)) (
 (jg4 d.1 d.2.1 d.2.2.2.1 d.2.2.2.2).bind fun m=>
 some (m,0)))
def j2Q (i:Tn44) (k j c g a:Int) (d:Tn2):Option ((Tn44×Int×Int×Int×Int×Int×Tn2) ⊕ ((Tn44×Int×Int×Int×Int×Int×Tn2))):=
 cond (decide (c>0)) (
 let b:=(w64 (c-1))
 cond (inR b (List.length d)) (
 let e:=(List.getD d (Int.toNat b) (0,0)).1
 cond (decide (e>g)) (
 let f:=(w64 (c-1))
 some (.inl (i,k,j,f,g,a,d))) (
 some (.inr (i,k,j,c,g,a,d)))) none) (
 some (.inr (i,k,j,c,g,a,d)))
def j4w [LP] (b e d c g a f):=LP.lp (fun h=>j2Q h.1 h.2.1 h.2.2.1 h.2.2.2.1 h.2.2.2.2.1 h.2.2.2.2.2.1 h.2.2.2.2.2.2) (b,e,d,c,g,a,f)
theorem j9R (b e d c g a f):j4w b e d c g a f=lpK (j2Q b e d c g a f) (fun h=>j4w h.1 h.2.1 h.2.2.1 h.2.2.2.1 h.2.2.2.2.1 h.2.2.2.2.2.1 h.2.2.2.2.2.2):=j0h _ _
def j2R [LP] (c:Tn44) (d v:Int) (t:Tn2):Option ((Tn44×Int×Int×Tn2) ⊕ ((Tn44×Int×Tn2))):=
 cond (inR d (List.length c)) (
 let o:=(List.getD c (Int.toNat d) (0,(0,(0,(0,(0,(0,0)))))))
 cond (decide (v≤o.2.1)) (
 cond (inR d (List.length c)) (
 let n:=(List.getD c (Int.toNat d) (0,(0,(0,(0,(0,(0,0)))))))
 cond (inR d (List.length c)) (
 let j:=(List.getD c (Int.toNat d) (0,(0,(0,(0,(0,(0,0)))))))
 cond (inR d (List.length c)) (
 let k:=(List.getD c (Int.toNat d) (0,(0,(0,(0,(0,(0,0)))))))
 (jna v n.2.2.1 j.2.2.2.1 k.2.2.2.2.1).bind fun m=>
 let i:=(w64 (m.1*86400))
 cond (inR d (List.length c)) (
 let q:=(List.getD c (Int.toNat d) (0,(0,(0,(0,(0,(0,0)))))))
 let p:=(w64 (i+q.2.2.2.2.2.1))
 cond (inR d (List.length c)) (
 let l:=(List.getD c (Int.toNat d) (0,(0,(0,(0,(0,(0,0)))))))
 let r:=(Int.ofNat (List.length t))
 (j4w c d v r p l.2.2.2.2.2.2 t).bind fun a=>
 let g:Tn2:=[(a.2.2.2.2.1,a.2.2.2.2.2.1)]
 cond (decide (List.length a.2.2.2.2.2.2+List.length g≤j0d)) (
 let b:Tn2:=(a.2.2.2.2.2.2++g)
 let e:=(w64 (a.2.2.2.1+1))
 cond (decide (0≤e)&&decide (e≤(Int.ofNat (List.length b)))) (
 cond (decide (0≤a.2.2.2.1)&&decide (a.2.2.2.1≤(Int.ofNat (List.length b)))) (
 let f:Tn2:=(over b (Int.toNat e) (List.drop (Int.toNat a.2.2.2.1) b))
 let w:=(Int.ofNat (min (List.length (List.drop (Int.toNat a.2.2.2.1) b)) (List.length b-(Int.toNat e))))
 cond (inR a.2.2.2.1 (List.length f)) (
 let u:Tn2:=(List.set f (Int.toNat a.2.2.2.1) (a.2.2.2.2.1,a.2.2.2.2.2.1))
 let s:=(w64 (a.2.2.1+1))
 some (.inl (a.1,a.2.1,s,u))) none) none) none) none) none) none) none) none) none) (
 some (.inr (c,d,t)))) none
def j64 [LP] (a d b c):=LP.lp (fun h=>j2R h.1 h.2.1 h.2.2.1 h.2.2.2) (a,d,b,c)
theorem j9S (a d b c):j64 a d b c=lpK (j2R a d b c) (fun h=>j64 h.1 h.2.1 h.2.2.1 h.2.2.2):=j0h _ _
def j2S [LP] (b:Tn44) (f:Int) (g:Tn2):Option ((Tn44×Int×Tn2) ⊕ (Tn2)):=
 let d:=(Int.ofNat (List.length b))
 cond (decide (f<d)) (
 cond (inR f (List.length b)) (
 let c:=(List.getD b (Int.toNat f) (0,(0,(0,(0,(0,(0,0)))))))
 (j64 b f c.1 g).bind fun a=>
 let e:=(w64 (a.2.1+1))
 some (.inl (a.1,e,a.2.2))) none) (
 some (.inr g))
def j4x [LP] (b c a):=LP.lp (fun h=>j2S h.1 h.2.1 h.2.2) (b,c,a)
theorem j9T (b c a):j4x b c a=lpK (j2S b c a) (fun h=>j4x h.1 h.2.1 h.2.2):=j0h _ _
def j8n [LP] (a:Tn44):Option (Tn2):=
 (j4x a 0 ([]:Tn2)).bind fun b=>
 some b
def j2T (o c:Int) (n:ByteArray) (d:Int) (a:Tn44):Option ((Int×Int×ByteArray×Int×Tn44) ⊕ (Int ⊕ (Int×ByteArray×Int×Tn44))):=
 let e:=(Int.ofNat (List.length a))
 cond (decide (c<e)) (
 cond (inR c (List.length a)) (
 let b:=(List.getD a (Int.toNat c) (0,(0,(0,(0,(0,(0,0)))))))
 (jfm (b.1,(b.2.1,(b.2.2.1,(b.2.2.2.1,(b.2.2.2.2.1,(b.2.2.2.2.2.1,b.2.2.2.2.2.2))))))).bind fun j=>
 cond (!j) (
 some (.inr (.inl 1))) (
 cond (inR c (List.length a)) (
 let k:=(List.getD a (Int.toNat c) (0,(0,(0,(0,(0,(0,0)))))))
 cond (inR c (List.length a)) (
 let g:=(List.getD a (Int.toNat c) (0,(0,(0,(0,(0,(0,0)))))))
 let f:=(w64 (k.2.1-g.1))
 let i:=(w64 (f+1))
 let m:=(w64 (o+i))
 let l:=(w64 (c+1))
 some (.inl (m,l,n,d,a))) none) none)) none) (
 some (.inr (.inr (o,n,d,a))))
def j4y [LP] (e d c b a):=LP.lp (fun h=>j2T h.1 h.2.1 h.2.2.1 h.2.2.2.1 h.2.2.2.2) (e,d,c,b,a)
theorem j9U (e d c b a):j4y e d c b a=lpK (j2T e d c b a) (fun h=>j4y h.1 h.2.1 h.2.2.1 h.2.2.2.1 h.2.2.2.2):=j0h _ _
def j2U (s d:Int) (e c:Tn2):Option ((Int×Int×Tn2×Tn2) ⊕ (Int ⊕ Tn2)):=
 let v:=(Int.ofNat (List.length c))
 cond (decide (d<v)) (
 cond (inR d (List.length c)) (
 let p:=(List.getD c (Int.toNat d) (0,0)).2
 cond (p==s) (
 let u:=(w64 (d+1))
 some (.inl (s,u,e,c))) (
 cond (inR d (List.length c)) (
 let r:=(List.getD c (Int.toNat d) (0,0)).1
 let b:=(w64 (r-s))
 cond (inR d (List.length c)) (
 let a:=(List.getD c (Int.toNat d) (0,0)).2
 let x:=(w64 (a-s))
 (jcz x (-86399) 86399).bind fun w=>
 cond (!w) (
 some (.inr (.inl 6))) (
 (jcz b 0 8589934592).bind fun y=>
 cond (!y) (
 some (.inr (.inl 6))) (
 let t:=(Int.ofNat (List.length e))
 cond (decide (t>0)) (
 let m:=(Int.ofNat (List.length e))
 let f:=(w64 (m-1))
 cond (inR f (List.length e)) (
 let n:=(List.getD e (Int.toNat f) (0,0)).1
 let j:=(w64 (b-n))
 cond (decide (j<604800)) (
 some (.inr (.inl 6))) (
 let g:Tn2:=[(b,a)]
 cond (decide (List.length e+List.length g≤j0d)) (
 let l:Tn2:=(e++g)
 let q:=(w64 (d+1))
 some (.inl (a,q,l,c))) none)) none) (
 let i:Tn2:=[(b,a)]
 cond (decide (List.length e+List.length i≤j0d)) (
 let k:Tn2:=(e++i)
 let o:=(w64 (d+1))
 some (.inl (a,o,k,c))) none)))) none) none)) none) (
 some (.inr (.inr e)))
def j4z [LP] (c a b d):=LP.lp (fun h=>j2U h.1 h.2.1 h.2.2.1 h.2.2.2) (c,a,b,d)
theorem j9V (c a b d):j4z c a b d=lpK (j2U c a b d) (fun h=>j4z h.1 h.2.1 h.2.2.1 h.2.2.2):=j0h _ _
def j57 [LP] (a:Tn54):Option (Tn2×Int):=
 (jcz a.2.1 (-64800) 64800).bind fun e=>
 cond (!e) (
 some (([]:Tn2),1)) (
 let c:=(Int.ofNat (List.length a.2.2))
 cond (decide (c>16)) (
 some (([]:Tn2),5)) (
 (j4y 0 0 a.1 a.2.1 a.2.2).bind fun j=>
 sumC j (fun k=>
 some (([]:Tn2),k)) (fun i=>
 cond (decide (i.1>640)) (
 some (([]:Tn2),5)) (
 (j8n i.2.2.2).bind fun f=>
 (j4z i.2.2.1 0 ([]:Tn2) f).bind fun g=>
 sumC g (fun b=>
 some (([]:Tn2),b)) (fun d=>
 some (d,0))))))
def j4A (c:Tn2) (g i a:Int):Option ((Tn2×Int×Int×Int) ⊕ (Int)):=
 let b:=(Int.ofNat (List.length c))
 cond ((inR a (List.length c)) || !(decide (a<b))) (
 let f:=(List.getD c (Int.toNat a) (0,0))
 cond (cond (decide (a<b)) (decide (f.1≤g)) false) (
 cond (inR a (List.length c)) (
 let d:=(List.getD c (Int.toNat a) (0,0))
 let e:=(w64 (a+1))
 some (.inl (c,g,d.2,e))) none) (
 some (.inr i))) none
def j8o [LP] (c a b d):=LP.lp (fun h=>j4A h.1 h.2.1 h.2.2.1 h.2.2.2) (c,a,b,d)
theorem jez (c a b d):j8o c a b d=lpK (j4A c a b d) (fun h=>j8o h.1 h.2.1 h.2.2.1 h.2.2.2):=j0h _ _
def jg5 [LP] (a:Tn54) (b:Tn2) (c:Int):Option (Int):=
 (j8o b c a.2.1 0).bind fun d=>
 some d
def j9W [LP] (a:Tn54) (b:Int):Option (Int×Int):=
 (j57 (a.1,(a.2.1,a.2.2))).bind fun c=>
 cond (c.2 != 0) (
 some (0,8)) (
 (jcz b 0 8589934592).bind fun d=>
 cond (!d) (
 some (0,1)) (
 (jg5 (a.1,(a.2.1,a.2.2)) c.1 b).bind fun e=>
 some (e,0)))
def jhP (b a:Int):Option ((Int×Int)):=
 let g:=(w64 (b+a))
 let e:=(w64 (g+864000))
 let f:=(w64 (Int.tdiv e 86400))
 let d:=(w64 (f-10))
 let c:=(Int.tmod e 86400)
 some (d,c)
def j9f [LP] (a:Tn54) (b:Int):Option ((Int×Int)×Int):=
 (j9W (a.1,(a.2.1,a.2.2)) b).bind fun c=>
 cond (c.2 != 0) (
 some ((0,0),c.2)) (
 (jhP b c.1).bind fun d=>
 some ((d.1,d.2),0))
def jg6 (a:(Int×Int)):Option (Int):=
 (je1 a.1).bind fun d=>
 let c:=(w64 (d*86400))
 let b:=(w64 (c+a.2))
 some b
def jdp [LP] (a:Tn54) (c:Int):Option (Int×Int):=
 (j9f (a.1,(a.2.1,a.2.2)) c).bind fun b=>
 cond (b.2 != 0) (
 some (0,b.2)) (
 (jg6 (b.1.1,b.1.2)).bind fun d=>
 some (d,0))
def j2d (n o l k:Int) (i:Bool) (f:Tn2) (j b:Int) (m:Tn56) (c:Tn50) (d:Tn27) (e:Tn67):Option ((Int×Int×Int×Int×Bool×Tn2×Int×Int×Tn56×Tn50×Tn27×Tn67) ⊕ ((Int×Int×Int×Bool×Tn56×Tn50×Tn27×Tn67))):=
 cond (decide (b<j)) (
 cond (inR b (List.length f)) (
 let a:=(List.getD f (Int.toNat b) (0,0))
 let g:=(w64 (b+1))
 some (.inl (n,o,l,k,(cond i true (cond (decide (a.1≤l)) (decide (l<a.2)) false)),f,j,g,m,c,d,e))) none) (
 some (.inr (n,o,k,i,m,c,d,e)))
def j3G [LP] (l m j i d f e g k a b c):=LP.lp (fun h=>j2d h.1 h.2.1 h.2.2.1 h.2.2.2.1 h.2.2.2.2.1 h.2.2.2.2.2.1 h.2.2.2.2.2.2.1 h.2.2.2.2.2.2.2.1 h.2.2.2.2.2.2.2.2.1 h.2.2.2.2.2.2.2.2.2.1 h.2.2.2.2.2.2.2.2.2.2.1 h.2.2.2.2.2.2.2.2.2.2.2) (l,m,j,i,d,f,e,g,k,a,b,c)
theorem j8p (l m j i d f e g k a b c):j3G l m j i d f e g k a b c=lpK (j2d l m j i d f e g k a b c) (fun h=>j3G h.1 h.2.1 h.2.2.1 h.2.2.2.1 h.2.2.2.2.1 h.2.2.2.2.2.1 h.2.2.2.2.2.2.1 h.2.2.2.2.2.2.2.1 h.2.2.2.2.2.2.2.2.1 h.2.2.2.2.2.2.2.2.2.1 h.2.2.2.2.2.2.2.2.2.2.1 h.2.2.2.2.2.2.2.2.2.2.2):=j0h _ _
def j9g [LP] (d:(List Int)) (n:Int):Option (Bool):=
 (jiN d).bind fun r=>
 cond (!r) (
 (j9e).bind fun q=>
 some q) (
 (jkO d).bind fun j=>
 (j7w j.1 j.2 1).bind fun b=>
 let w:=(Int.ofNat (List.length b.1.2.1))
 (j02 b.2.1 b.2.2 w).bind fun c=>
 (j56 c.2.1 c.2.2).bind fun s=>
 (jk7 n 7200).bind fun y=>
 let i:=(w64 (s.1+y))
 cond (inR c.1 (List.length b.1.2.1)) (
 let f:=(List.getD b.1.2.1 (Int.toNat c.1) (ByteArray.empty,(0,(([]:Tn2),(0,(0,false))))))
 cond (inR f.2.1 (List.length b.1.1)) (
 let e:=(List.getD b.1.1 (Int.toNat f.2.1) (ByteArray.empty,(0,([]:Tn44))))
 (jdp (e.1,(e.2.1,e.2.2)) i).bind fun g=>
 cond (inR c.1 (List.length b.1.2.1)) (
 let k:=(List.getD b.1.2.1 (Int.toNat c.1) (ByteArray.empty,(0,(([]:Tn2),(0,(0,false))))))
 let p:=(Int.ofNat (List.length k.2.2.1))
 (j3G c.1 i g.1 g.2 false k.2.2.1 p 0 b.1.1 b.1.2.1 b.1.2.2.1 b.1.2.2.2).bind fun a=>
 cond (a.2.2.1==0) (
 (j0F (a.2.2.2.2.1,(a.2.2.2.2.2.1,(a.2.2.2.2.2.2.1,a.2.2.2.2.2.2.2))) a.1 a.2.1 false).bind fun v=>
 cond (v==(!a.2.2.2.1)) (
 (j0F (a.2.2.2.2.1,(a.2.2.2.2.2.1,(a.2.2.2.2.2.2.1,a.2.2.2.2.2.2.2))) a.1 a.2.1 true).bind fun u=>
 cond ((inR a.1 (List.length a.2.2.2.2.2.1)) || !(true&&(!(!a.2.2.2.1)))) (
 let x:=(List.getD a.2.2.2.2.2.1 (Int.toNat a.1) (ByteArray.empty,(0,(([]:Tn2),(0,(0,false))))))
 let m:=(Int.ofNat (List.length a.2.2.2.2.2.1))
 cond (u==(cond (!a.2.2.2.1) true x.2.2.2.2.2)) (
 (j0F (a.2.2.2.2.1,(a.2.2.2.2.2.1,(a.2.2.2.2.2.2.1,a.2.2.2.2.2.2.2))) m a.2.1 true).bind fun o=>
 cond (!o) (
 (j9e).bind fun l=>
 some l) (
 some false)) (
 some false)) none) (
 cond ((inR a.1 (List.length a.2.2.2.2.2.1)) || !(false&&(!(!a.2.2.2.1)))) (
 let a1:=(List.getD a.2.2.2.2.2.1 (Int.toNat a.1) (ByteArray.empty,(0,(([]:Tn2),(0,(0,false))))))
 let z:=(Int.ofNat (List.length a.2.2.2.2.2.1))
 some false) none)) (
 cond ((inR a.1 (List.length a.2.2.2.2.2.1)) || !(false&&(!(!a.2.2.2.1)))) (
 let a0:=(List.getD a.2.2.2.2.2.1 (Int.toNat a.1) (ByteArray.empty,(0,(([]:Tn2),(0,(0,false))))))
 let t:=(Int.ofNat (List.length a.2.2.2.2.2.1))
 some false) none)) none) none) none)
end
end Go.Proofs.Pw
