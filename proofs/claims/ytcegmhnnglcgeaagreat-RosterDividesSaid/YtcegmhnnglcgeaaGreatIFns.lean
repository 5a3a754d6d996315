/- Plain functions, printed by a program out of the given code. -/
import Derived.Test.YtcegmhnnglcgeaaGreatILS
open Go Go.Lft
set_option linter.unusedVariables false
namespace Go.Proofs.Pw
noncomputable section
abbrev Tn2:Type:=(List (Int×Int))
abbrev Tn1:Type:=(Int×(List Int))
abbrev Tn3:Type:=(Int×(Int×Int))
abbrev Tn15:Type:=(List Tn3)
abbrev Tn14:Type:=(Int×Tn2)
abbrev Tn20:Type:=(ByteArray×Tn1)
abbrev Tn21:Type:=(List Tn14)
abbrev Tn25:Type:=(Int×(Int×Tn3))
abbrev Tn27:Type:=(List Tn20)
abbrev Tn31:Type:=(List Tn25)
abbrev Tn40:Type:=(Int×(Int×Tn25))
abbrev Tn44:Type:=(List Tn40)
abbrev Tn46:Type:=(ByteArray×(Int×(Tn2×(Int×(Int×Bool)))))
abbrev Tn50:Type:=(List Tn46)
abbrev Tn54:Type:=(ByteArray×(Int×Tn44))
abbrev Tn56:Type:=(List Tn54)
abbrev Tn61:Type:=(ByteArray×(Int×((Int×Int)×(Int×(Int×((List Int)×(Tn2×(Int×Int))))))))
abbrev Tn62:Type:=(List Tn61)
abbrev Tn66:Type:=(ByteArray×(Tn62×Tn31))
abbrev Tn67:Type:=(List Tn66)
abbrev Tn73:Type:=(Tn56×(Tn50×(Tn27×Tn67)))
abbrev Tn75:Type:=(Tn73×Tn21)
abbrev unc2 {A0 A1 R:Type} (f:A0→A1→R) (h:A0×A1):R:=f h.1 h.2
abbrev unc3 {A0 A1 A2 R:Type} (f:A0→A1→A2→R) (h:A0×A1×A2):R:=f h.1 h.2.1 h.2.2
abbrev unc5 {A0 A1 A2 A3 A4 R:Type} (f:A0→A1→A2→A3→A4→R) (h:A0×A1×A2×A3×A4):R:=f h.1 h.2.1 h.2.2.1 h.2.2.2.1 h.2.2.2.2
abbrev unc7 {A0 A1 A2 A3 A4 A5 A6 R:Type} (f:A0→A1→A2→A3→A4→A5→A6→R) (h:A0×A1×A2×A3×A4×A5×A6):R:=f h.1 h.2.1 h.2.2.1 h.2.2.2.1 h.2.2.2.2.1 h.2.2.2.2.2.1 h.2.2.2.2.2.2
abbrev jyr {A0 A1 A2 A3 A4 A5 A6 A7 A8 A9 A10 A11 A12 A13 A14 A15 A16 A17 R:Type} (f:A0→A1→A2→A3→A4→A5→A6→A7→A8→A9→A10→A11→A12→A13→A14→A15→A16→A17→R) (h:A0×A1×A2×A3×A4×A5×A6×A7×A8×A9×A10×A11×A12×A13×A14×A15×A16×A17):R:=f h.1 h.2.1 h.2.2.1 h.2.2.2.1 h.2.2.2.2.1 h.2.2.2.2.2.1 h.2.2.2.2.2.2.1 h.2.2.2.2.2.2.2.1 h.2.2.2.2.2.2.2.2.1 h.2.2.2.2.2.2.2.2.2.1 h.2.2.2.2.2.2.2.2.2.2.1 h.2.2.2.2.2.2.2.2.2.2.2.1 h.2.2.2.2.2.2.2.2.2.2.2.2.1 h.2.2.2.2.2.2.2.2.2.2.2.2.2.1 h.2.2.2.2.2.2.2.2.2.2.2.2.2.2.1 h.2.2.2.2.2.2.2.2.2.2.2.2.2.2.2.1 h.2.2.2.2.2.2.2.2.2.2.2.2.2.2.2.2.1 h.2.2.2.2.2.2.2.2.2.2.2.2.2.2.2.2.2
def jhV (a:(List Int)):Option (Bool):=
 let b:=(Int.ofNat (List.length a))
 some (decide (b≤500))
def jk0  : Option (Tn56×Tn50×Tn27×Tn67):=
 let g:Tn56:=[((ByteArray.mk #[122]),(0,([]:Tn44)))]
 let f:Tn50:=[((ByteArray.mk #[97]),(0,(([]:Tn2),(0,(0,false))))),((ByteArray.mk #[98]),(0,(([]:Tn2),(0,(0,false))))),((ByteArray.mk #[99]),(0,(([]:Tn2),(0,(0,false)))))]
 let d:(List Int):=[0,1]
 let b:(List Int):=[2]
 let c:Tn2:=[(0,86400)]
 let a:Tn62:=[((ByteArray.mk #[108,111,119]),(0,((4,0),(2,(1,(d,(([]:Tn2),(0,0)))))))),((ByteArray.mk #[116,111,112]),(0,((4,0),(2,(1,(b,(c,(0,0))))))))]
 let e:Tn67:=[((ByteArray.mk #[115]),(a,([]:Tn31)))]
 some (g,f,([]:Tn27),e)
def jgX  : Option (Tn73):=
 (jk0).bind fun a=>
 let b:Tn31:=[(2,(0,(1,(432000,518400)))),(1,(2,(0,(432000,475200))))]
 cond (inR 0 (List.length a.2.2.2)) (
 let c:Tn67:=(List.set a.2.2.2 0 ((List.getD a.2.2.2 0 (ByteArray.empty,(([]:Tn62),([]:Tn31)))).1,((List.getD a.2.2.2 0 (ByteArray.empty,(([]:Tn62),([]:Tn31)))).2.1,b)))
 some (a.1,(a.2.1,(a.2.2.1,c)))) none
def jaa (a:Tn54):Option (ByteArray):=
 some a.1
def jg1 (a:Int):Option (Bool):=
 some (cond (decide (a≥97)) (decide (a≤122)) false)
def jk1 (a:Int):Option (Bool):=
 some (cond (decide (a≥48)) (decide (a≤57)) false)
def jc4 (i:ByteArray) (c b:Int):Option ((ByteArray×Int×Int) ⊕ (Bool ⊕ Unit)):=
 cond (decide (b<c)) (
 cond (inR b (ByteArray.size i)) (
 let a:=(jhE i b)
 (jg1 a).bind fun f=>
 cond (!f) (
 (jk1 a).bind fun d=>
 cond (cond (cond (!d) (a != 95) false) (a != 45) false) (
 some (.inr (.inl false))) (
 let g:=(w64 (b+1))
 some (.inl (i,c,g)))) (
 let e:=(w64 (b+1))
 some (.inl (i,c,e)))) none) (
 some (.inr (.inr ())))
def jds [LP] (c a b):=LP.lp (fun h=>jc4 h.1 h.2.1 h.2.2) (c,a,b)
def j8c [LP] (a:ByteArray):Option (Bool):=
 let f:=(Int.ofNat (ByteArray.size a))
 let b:Bool:=(cond (ByteArray.toList a==ByteArray.toList ByteArray.empty) true (decide (f>24)))
 cond ((inR 0 (ByteArray.size a)) || !(!b)) (
 let c:=(jhE a 0)
 cond b (
 some false) (
 (jg1 c).bind fun d=>
 cond (!d) (
 some false) (
 let e:=(Int.ofNat (ByteArray.size a))
 (jds a e 0).bind fun g=>
 sumC g (fun i=>
 some i) (fun j=>
 some true)))) none
def j3L [LP] (b:ByteArray) (a:(List (ByteArray×Bool))):Option (Int×(List (ByteArray×Bool))):=
 (j8c b).bind fun c=>
 cond (!c) (
 some (2,a)) (
 cond (j63 false a b) (
 some (4,a)) (
 let d:(List (ByteArray×Bool)):=(j7d a b true)
 some (0,d)))
def jab (a c b:Int):Option (Bool):=
 some (cond (decide (a≥c)) (decide (a≤b)) false)
def jeD (a:Tn40):Option (Int):=
 (jab a.1 1970 2240).bind fun i=>
 cond (!i) (
 some 1) (
 (jab a.2.1 a.1 2240).bind fun e=>
 cond (!e) (
 some 1) (
 (jab a.2.2.1 1 12).bind fun d=>
 cond (!d) (
 some 1) (
 (jab a.2.2.2.1 1 5).bind fun c=>
 cond (!c) (
 some 1) (
 (jab a.2.2.2.2.1 0 6).bind fun b=>
 cond (!b) (
 some 1) (
 (jab a.2.2.2.2.2.1 0 86399).bind fun g=>
 cond (!g) (
 some 1) (
 (jab a.2.2.2.2.2.2 (-64800) 64800).bind fun f=>
 cond (!f) (
 some 1) (
 some 0)))))))
def jhW (a:Int):Option (Bool):=
 let d:=(Int.tmod a 4)
 let c:=(Int.tmod a 100)
 let b:=(Int.tmod a 400)
 some (cond (d==0) (cond (c != 0) true (b==0)) false)
def j6Y (c a:Int):Option (Int):=
 cond (cond (decide (a<1)) true (decide (a>12))) (
 some 0) (
 let f:(List Int):=[31,28,31,30,31,30,31,31,30,31,30,31]
 let j:(List Int):=(List.replicate 12 0)
 cond (a==2) (
 (jhW c).bind fun g=>
 cond g (
 some 29) (
 let e:=(w64 (a-1))
 cond (inR e 12) (
 let i:=(List.getD f (Int.toNat e) 0)
 some i) none)) (
 let b:=(w64 (a-1))
 cond (inR b 12) (
 let d:=(List.getD f (Int.toNat b) 0)
 some d) none))
def jb4 (a:Tn3):Option (Bool):=
 cond (decide (a.1≥1970)) (
 cond (decide (a.1≤2240)) (
 cond (decide (a.2.2≥1)) (
 (j6Y a.1 a.2.1).bind fun b=>
 some (decide (a.2.2≤b))) (
 some false)) (
 some false)) (
 some false)
def j7Z (b a:Int):Option (Int):=
 cond (!(a==0)) (
 let d:=(w64 (Int.tdiv b a))
 cond (!(a==0)) (
 let c:=(Int.tmod b a)
 cond (decide (c<0)) (
 let e:=(w64 (d-1))
 some e) (
 some d)) none) none
def j5a (a:Int):Option (Int):=
 let b:=(w64 (a-1))
 let l:=(w64 (a-1970))
 let k:=(w64 (365*l))
 (j7Z b 4).bind fun e=>
 let c:=(w64 (k+e))
 (j7Z b 100).bind fun j=>
 let d:=(w64 (c-j))
 (j7Z b 400).bind fun g=>
 let i:=(w64 (d+g))
 let f:=(w64 (i-477))
 some f
def j49 (g e i a f:Int):Option ((Int×Int×Int×Int×Int) ⊕ (Int)):=
 cond (decide (e<a)) (
 (j6Y i e).bind fun d=>
 let b:=(w64 (g+d))
 let c:=(w64 (e+1))
 some (.inl (b,c,i,a,f))) (
 some (.inr g))
def j5s [LP] (d c e b a):=LP.lp (fun h=>j49 h.1 h.2.1 h.2.2.1 h.2.2.2.1 h.2.2.2.2) (d,c,e,b,a)
theorem jc5 (d c e b a):j5s d c e b a=lpK (j49 d c e b a) (fun h=>j5s h.1 h.2.1 h.2.2.1 h.2.2.2.1 h.2.2.2.2):=j05 _ _
def j6E [LP] (a:Tn3):Option (Int):=
 (j5a a.1).bind fun d=>
 let c:=(w64 (d+a.2.2))
 let b:=(w64 (c-1))
 (j5s b 1 a.1 a.2.1 a.2.2).bind fun e=>
 some e
def j6Z (a:Int):Option (Int):=
 let c:=(Int.tmod a 7)
 let b:=(w64 (c+10))
 let d:=(Int.tmod b 7)
 some d
def jb5 [LP] (c b d a:Int):Option (Int×Int):=
 (jb4 (c,(b,1))).bind fun p=>
 let l:Bool:=(cond (cond (!p) true (decide (d<1))) true (decide (d>5)))
 let o:Bool:=(cond (cond l true (decide (a<0))) true (decide (a>6)))
 cond o (
 some (0,1)) (
 (j6E (c,(b,1))).bind fun e=>
 (j6Z e).bind fun g=>
 let s:=(w64 (a-g))
 let i:=(w64 (s+7))
 let n:=(Int.tmod i 7)
 let q:=(w64 (e+n))
 let r:=(w64 (d-1))
 let t:=(w64 (7*r))
 let f:=(w64 (q+t))
 (j6Y c b).bind fun m=>
 let k:=(w64 (e+m))
 cond (decide (f≥k)) (
 let j:=(w64 (f-7))
 some (j,0)) (
 some (f,0)))
def j80 (a b:(Int×Int)):Option (Int):=
 let c:=(w64 (a.1-b.1))
 some c
def j0p (s u t b:Int) (a:Tn2):Option ((Int×Int×Int×Int×Tn2) ⊕ ((Int×Int×Int×Tn2))):=
 cond (decide (b>s)) (
 cond (inR b (List.length a)) (
 let j:=(List.getD a (Int.toNat b) (0,0)).1
 let l:=(List.getD a (Int.toNat b) (0,0)).2
 let c:=(w64 (b-1))
 cond (inR c (List.length a)) (
 let r:=(List.getD a (Int.toNat c) (0,0)).1
 let o:=(List.getD a (Int.toNat c) (0,0)).2
 (j80 (j,l) (r,o)).bind fun n=>
 cond (decide (n<0)) (
 let f:=(w64 (b-1))
 let d:=(w64 (b-1))
 cond (inR d (List.length a)) (
 let m:=(List.getD a (Int.toNat d) (0,0)).1
 let k:=(List.getD a (Int.toNat d) (0,0)).2
 cond (inR b (List.length a)) (
 let i:=(List.getD a (Int.toNat b) (0,0)).1
 let q:=(List.getD a (Int.toNat b) (0,0)).2
 cond (inR b (List.length a)) (
 let e:Tn2:=(List.set a (Int.toNat b) (m,k))
 cond (inR f (List.length e)) (
 let g:Tn2:=(List.set e (Int.toNat f) (i,q))
 let p:=(w64 (b-1))
 some (.inl (s,u,t,p,g))) none) none) none) none) (
 some (.inr (s,u,t,a)))) none) none) (
 some (.inr (s,u,t,a)))
def j0k [LP] (e b d a c):=LP.lp (fun h=>j0p h.1 h.2.1 h.2.2.1 h.2.2.2.1 h.2.2.2.2) (e,b,d,a,c)
theorem j2C (e b d a c):j0k e b d a c=lpK (j0p e b d a c) (fun h=>j0k h.1 h.2.1 h.2.2.1 h.2.2.2.1 h.2.2.2.2):=j05 _ _
def j08 [LP] (f d c:Int) (e:Tn2):Option ((Int×Int×Int×Tn2) ⊕ (Tn2)):=
 cond (decide (c<d)) (
 (j0k f d c c e).bind fun a=>
 let b:=(w64 (a.2.2.1+1))
 some (.inl (a.1,a.2.1,b,a.2.2.2))) (
 some (.inr e))
def j0l [LP] (d a c b):=LP.lp (fun h=>j08 h.1 h.2.1 h.2.2.1 h.2.2.2) (d,a,c,b)
theorem j1l (d a c b):j0l d a c b=lpK (j08 d a c b) (fun h=>j0l h.1 h.2.1 h.2.2.1 h.2.2.2):=j05 _ _
def j0d [LP] (a:Tn2) (b c:Int):Option (Tn2):=
 let d:=(w64 (b+1))
 (j0l b c d a).bind fun e=>
 some e
def j0f [LP] (e d f c:Int) (g:Tn2):Option ((Int×Int×Int×Int×Tn2) ⊕ ((Int×Int×Int×Tn2))):=
 cond (decide (c≤e)) (
 (j0d g f c).bind fun b=>
 let a:=(w64 (c+d))
 some (.inl (e,d,c,a,b))) (
 some (.inr (e,d,f,g)))
def j0A [LP] (e b a d c):=LP.lp (fun h=>j0f h.1 h.2.1 h.2.2.1 h.2.2.2.1 h.2.2.2.2) (e,b,a,d,c)
theorem j65 (e b a d c):j0A e b a d c=lpK (j0f e b a d c) (fun h=>j0A h.1 h.2.1 h.2.2.1 h.2.2.2.1 h.2.2.2.2):=j05 _ _
def j39 (c b a f:Int) (e:Tn2):Option ((Int×Int×Int×Int×Tn2) ⊕ ((Int×Int×Int×Tn2))):=
 cond (decide (f≤c)) (
 let d:=(w64 (a+b))
 none) (
 some (.inr (c,b,a,e)))
def j2n [LP] (e b a d:Int) (c:Tn2):Option ((Int×Int×Int×Tn2)):=
 LP.lp (unc5 (j39)) (e,b,a,d,c)
def j0g [LP] (g e:Int) (f:Tn2):Option ((Int×Int×Tn2) ⊕ (Tn2)):=
 cond (decide (e<g)) (
 let c:=(w64 (2*e))
 (j2n g e 0 c f).bind fun a=>
 let b:=(w64 (a.2.2.1+a.2.1))
 cond (decide (b<a.1)) (
 none) (
 let d:=(w64 (a.2.1*2))
 some (.inl (a.1,d,a.2.2.2)))) (
 some (.inr f))
def j0B [LP] (c a b):=LP.lp (fun h=>j0g h.1 h.2.1 h.2.2) (c,a,b)
theorem j66 (c a b):j0B c a b=lpK (j0g c a b) (fun h=>j0B h.1 h.2.1 h.2.2):=j05 _ _
def j0P [LP] (a:Tn2) (c:Int):Option (Tn2):=
 (j0A c 20 0 20 a).bind fun b=>
 (j0d b.2.2.2 b.2.2.1 b.1).bind fun d=>
 (j0B b.1 b.2.1 d).bind fun e=>
 some e
def j0b [LP] (a:Tn2):Option (Tn2):=
 let b:=(Int.ofNat (List.length a))
 (j0P a b).bind fun c=>
 some c
def j2Z (m:Int) (d:Tn44) (l c:Int) (n:ByteArray) (f:Int) (e:Tn44):Option ((Int×Tn44×Int×Int×ByteArray×Int×Tn44) ⊕ (Int ⊕ (Int×ByteArray×Int×Tn44))):=
 cond (decide (c<l)) (
 cond (inR c (List.length d)) (
 let a:=(List.getD d (Int.toNat c) (0,(0,(0,(0,(0,(0,0)))))))
 (jeD (a.1,(a.2.1,(a.2.2.1,(a.2.2.2.1,(a.2.2.2.2.1,(a.2.2.2.2.2.1,a.2.2.2.2.2.2))))))).bind fun b=>
 cond (b != 0) (
 some (.inr (.inl b))) (
 let g:=(w64 (a.2.1-a.1))
 let i:=(w64 (g+1))
 let j:=(w64 (m+i))
 let k:=(w64 (c+1))
 some (.inl (j,d,l,k,n,f,e)))) none) (
 some (.inr (.inr (m,n,f,e))))
def j2Q [LP] (f c e d g b a):=LP.lp (fun h=>j2Z h.1 h.2.1 h.2.2.1 h.2.2.2.1 h.2.2.2.2.1 h.2.2.2.2.2.1 h.2.2.2.2.2.2) (f,c,e,d,g,b,a)
theorem j92 (f c e d g b a):j2Q f c e d g b a=lpK (j2Z f c e d g b a) (fun h=>j2Q h.1 h.2.1 h.2.2.1 h.2.2.2.1 h.2.2.2.2.1 h.2.2.2.2.2.1 h.2.2.2.2.2.2):=j05 _ _
def j1c [LP] (i:Int) (p:Tn44) (q o s e g b a c d:Int) (r:Tn2):Option ((Int×Tn44×Int×Int×Int×Int×Int×Int×Int×Int×Int×Tn2) ⊕ ((Tn44×Int×Int×Tn2))):=
 cond (decide (i≤e)) (
 (jb5 i g b a).bind fun k=>
 let l:=(w64 (k.1*86400))
 let j:=(w64 (l+c))
 let f:Tn2:=[(j,d)]
 cond (decide (List.length r+List.length f≤j07)) (
 let m:Tn2:=(r++f)
 let n:=(w64 (i+1))
 some (.inl (n,p,q,o,s,e,g,b,a,c,d,m))) none) (
 some (.inr (p,q,o,r)))
def j3t [LP] (i k l g j e f b a c d m):=LP.lp (fun h=>j1c h.1 h.2.1 h.2.2.1 h.2.2.2.1 h.2.2.2.2.1 h.2.2.2.2.2.1 h.2.2.2.2.2.2.1 h.2.2.2.2.2.2.2.1 h.2.2.2.2.2.2.2.2.1 h.2.2.2.2.2.2.2.2.2.1 h.2.2.2.2.2.2.2.2.2.2.1 h.2.2.2.2.2.2.2.2.2.2.2) (i,k,l,g,j,e,f,b,a,c,d,m)
theorem j93 (i k l g j e f b a c d m):j3t i k l g j e f b a c d m=lpK (j1c i k l g j e f b a c d m) (fun h=>j3t h.1 h.2.1 h.2.2.1 h.2.2.2.1 h.2.2.2.2.1 h.2.2.2.2.2.1 h.2.2.2.2.2.2.1 h.2.2.2.2.2.2.2.1 h.2.2.2.2.2.2.2.2.1 h.2.2.2.2.2.2.2.2.2.1 h.2.2.2.2.2.2.2.2.2.2.1 h.2.2.2.2.2.2.2.2.2.2.2):=j05 _ _
def j1d [LP] (d:Tn44) (f c:Int) (g:Tn2):Option ((Tn44×Int×Int×Tn2) ⊕ (Tn2)):=
 cond (decide (c<f)) (
 cond (inR c (List.length d)) (
 let a:=(List.getD d (Int.toNat c) (0,(0,(0,(0,(0,(0,0)))))))
 (j3t a.1 d f c a.1 a.2.1 a.2.2.1 a.2.2.2.1 a.2.2.2.2.1 a.2.2.2.2.2.1 a.2.2.2.2.2.2 g).bind fun b=>
 let e:=(w64 (b.2.2.1+1))
 some (.inl (b.1,b.2.1,e,b.2.2.2))) none) (
 some (.inr g))
def j2R [LP] (b c a d):=LP.lp (fun h=>j1d h.1 h.2.1 h.2.2.1 h.2.2.2) (b,c,a,d)
theorem j94 (b c a d):j2R b c a d=lpK (j1d b c a d) (fun h=>j2R h.1 h.2.1 h.2.2.1 h.2.2.2):=j05 _ _
def j41 [LP] (a:Tn54):Option (Tn2×Int):=
 (jab a.2.1 (-64800) 64800).bind fun b=>
 cond (!b) (
 some (([]:Tn2),1)) (
 let d:=(Int.ofNat (List.length a.2.2))
 cond (decide (d>16)) (
 some (([]:Tn2),5)) (
 let e:=(Int.ofNat (List.length a.2.2))
 (j2Q 0 a.2.2 e 0 a.1 a.2.1 a.2.2).bind fun i=>
 sumC i (fun k=>
 some (([]:Tn2),k)) (fun j=>
 cond (decide (j.1>640)) (
 some (([]:Tn2),5)) (
 let f:=(Int.ofNat (List.length j.2.2.2))
 (j2R j.2.2.2 f 0 ([]:Tn2)).bind fun g=>
 (j0b g).bind fun c=>
 some (c,0)))))
def j30 (q m c:Int) (a e:Tn2):Option ((Int×Int×Int×Tn2×Tn2) ⊕ (Int ⊕ Tn2)):=
 cond (decide (c<m)) (
 cond (inR c (List.length e)) (
 let o:=(List.getD e (Int.toNat c) (0,0)).1
 let b:=(List.getD e (Int.toNat c) (0,0)).2
 cond (b==q) (
 let v:=(w64 (c+1))
 some (.inl (q,m,v,a,e))) (
 let d:=(w64 (o-q))
 let l:=(w64 (b-q))
 cond (cond (decide (l≥86400)) true (decide (l≤(-86400)))) (
 let t:=(Int.ofNat (List.length a))
 let r:=(Int.ofNat (List.length a))
 let j:=(w64 (r-1))
 cond ((inR j (List.length a)) || !((!true)&&(decide (t>0)))) (
 let p:=(List.getD a (Int.toNat j) (0,0)).1
 let y:=(w64 (p+604800))
 some (.inr (.inl 6))) none) (
 (jab d 0 8589934592).bind fun g=>
 let i:=(Int.ofNat (List.length a))
 let w:=(Int.ofNat (List.length a))
 let k:=(w64 (w-1))
 cond ((inR k (List.length a)) || !((!(!g))&&(decide (i>0)))) (
 let n:=(List.getD a (Int.toNat k) (0,0)).1
 let u:=(w64 (n+604800))
 cond (cond (!g) true (cond (decide (i>0)) (decide (d<u)) false)) (
 some (.inr (.inl 6))) (
 let f:Tn2:=[(d,b)]
 cond (decide (List.length a+List.length f≤j07)) (
 let x:Tn2:=(a++f)
 let s:=(w64 (c+1))
 some (.inl (b,m,s,x,e))) none)) none))) none) (
 some (.inr (.inr a)))
def j2S [LP] (d a c e b):=LP.lp (fun h=>j30 h.1 h.2.1 h.2.2.1 h.2.2.2.1 h.2.2.2.2) (d,a,c,e,b)
theorem j95 (d a c e b):j2S d a c e b=lpK (j30 d a c e b) (fun h=>j2S h.1 h.2.1 h.2.2.1 h.2.2.2.1 h.2.2.2.2):=j05 _ _
def j2v [LP] (a:Tn54):Option (Tn2×Int):=
 (j41 (a.1,(a.2.1,a.2.2))).bind fun b=>
 cond (b.2 != 0) (
 some (([]:Tn2),b.2)) (
 let c:=(Int.ofNat (List.length b.1))
 (j2S a.2.1 c 0 ([]:Tn2) b.1).bind fun d=>
 sumC d (fun e=>
 some (([]:Tn2),e)) (fun f=>
 some (f,0)))
def j8d [LP] (a:Tn54):Option (Int):=
 (j2v (a.1,(a.2.1,a.2.2))).bind fun b=>
 some b.2
def j7g (a:Tn40):Option (Bool):=
 let b:=(Int.tmod a.2.2.2.2.2.2 60)
 some (b != 0)
def j0r (e:Tn44) (f b:Int):Option ((Tn44×Int×Int) ⊕ (Int ⊕ Unit)):=
 cond (decide (b<f)) (
 cond (inR b (List.length e)) (
 let a:=(List.getD e (Int.toNat b) (0,(0,(0,(0,(0,(0,0)))))))
 (j7g (a.1,(a.2.1,(a.2.2.1,(a.2.2.2.1,(a.2.2.2.2.1,(a.2.2.2.2.2.1,a.2.2.2.2.2.2))))))).bind fun c=>
 cond c (
 some (.inr (.inl b))) (
 let d:=(w64 (b+1))
 some (.inl (e,f,d)))) none) (
 some (.inr (.inr ())))
def j0n [LP] (c b a):=LP.lp (fun h=>j0r h.1 h.2.1 h.2.2) (c,b,a)
theorem j2G (c b a):j0n c b a=lpK (j0r c b a) (fun h=>j0n h.1 h.2.1 h.2.2):=j05 _ _
def j0u [LP] (a:Tn44):Option (Int):=
 let c:=(Int.ofNat (List.length a))
 (j0n a c 0).bind fun b=>
 sumC b (fun d=>
 some d) (fun e=>
 some (-1))
def j0o [LP] (a:Tn44):Option (Bool):=
 (j0u a).bind fun b=>
 some (decide (b≥0))
def j31 [LP] (a:Tn54):Option (Int):=
 (j8d (a.1,(a.2.1,a.2.2))).bind fun c=>
 let d:=(Int.tmod a.2.1 60)
 cond (cond (c != 0) true (d != 0)) (
 some 8) (
 (j0o a.2.2).bind fun b=>
 cond b (
 some 8) (
 some 0))
def j0F [LP] (e:Tn56) (i d:Int) (j:(List (ByteArray×Bool))):Option ((Tn56×Int×Int×(List (ByteArray×Bool))) ⊕ (Int ⊕ Unit)):=
 cond (decide (d<i)) (
 cond (inR d (List.length e)) (
 let a:=(List.getD e (Int.toNat d) (ByteArray.empty,(0,([]:Tn44))))
 (jaa (a.1,(a.2.1,a.2.2))).bind fun g=>
 (j3L g j).bind fun b=>
 cond (b.1 != 0) (
 some (.inr (.inl b.1))) (
 (j31 (a.1,(a.2.1,a.2.2))).bind fun c=>
 cond (c != 0) (
 some (.inr (.inl c))) (
 let f:=(w64 (d+1))
 some (.inl (e,i,f,b.2))))) none) (
 some (.inr (.inr ())))
def j1w [LP] (a:Tn56) (b c:Int) (d:(List (ByteArray×Bool))):Option (Int ⊕ Unit):=
 LP.lp (fun h=>j0F h.1 h.2.1 h.2.2.1 h.2.2.2) (a,b,c,d)
theorem j6p (a:Tn56) (b c:Int) (d:(List (ByteArray×Bool))):j1w a b c d=lpK (j0F a b c d) (fun h=>j1w h.1 h.2.1 h.2.2.1 h.2.2.2):=j05 _ _
def j2c [LP] (a:Tn56):Option (Int):=
 let c:(List (ByteArray×Bool)):=([]:(List (ByteArray×Bool)))
 let b:=(Int.ofNat (List.length a))
 (j1w a b 0 c).bind fun d=>
 sumC d (fun e=>
 some e) (fun f=>
 some 0)
def j2w (a b:Int):Option (Bool):=
 some (cond (decide (a≥0)) (decide (a<b)) false)
def j4S (e j:Tn2) (k b:Int):Option ((Tn2×Tn2×Int×Int) ⊕ (Int ⊕ Unit)):=
 cond (decide (b<k)) (
 cond (inR b (List.length j)) (
 let a:=(List.getD j (Int.toNat b) (0,0))
 let i:Bool:=(cond (cond (decide (a.1<0)) true (decide (a.1≥a.2))) true (decide (a.2>604800)))
 cond i (
 some (.inr (.inl 1))) (
 cond (decide (b>0)) (
 let c:=(w64 (b-1))
 cond (inR c (List.length e)) (
 let g:=(List.getD e (Int.toNat c) (0,0))
 cond (decide (a.1<g.2)) (
 some (.inr (.inl 6))) (
 let d:=(w64 (b+1))
 some (.inl (e,j,k,d)))) none) (
 let f:=(w64 (b+1))
 some (.inl (e,j,k,f))))) none) (
 some (.inr (.inr ())))
def j70 [LP] (c d b a):=LP.lp (fun h=>j4S h.1 h.2.1 h.2.2.1 h.2.2.2) (c,d,b,a)
theorem jdZ (c d b a):j70 c d b a=lpK (j4S c d b a) (fun h=>j70 h.1 h.2.1 h.2.2.1 h.2.2.2):=j05 _ _
def j8e [LP] (a:Tn2):Option (Int):=
 let b:=(Int.ofNat (List.length a))
 cond (decide (b>14)) (
 some 5) (
 let c:=(Int.ofNat (List.length a))
 (j70 a a c 0).bind fun d=>
 sumC d (fun e=>
 some e) (fun f=>
 some 0))
def j71 (a c b:Int):Option (Bool):=
 some (cond (decide (a≥c)) (decide (a≤b)) false)
def j5Q (a:Int):Option (Bool):=
 (j71 a 0 604800).bind fun b=>
 let c:=(Int.tmod a 3600)
 some (cond b (c==0) false)
def j1Y [LP] (b:Tn73) (a:Tn46):Option (Int):=
 let c:=(Int.ofNat (List.length b.1))
 (j2w a.2.1 c).bind fun g=>
 cond (!g) (
 some 3) (
 (j8e a.2.2.1).bind fun e=>
 cond (e != 0) (
 some 8) (
 (j5Q a.2.2.2.1).bind fun f=>
 cond (!f) (
 some 1) (
 (j5Q a.2.2.2.2.1).bind fun d=>
 cond (!d) (
 some 1) (
 some 0))))
def jac (a:Tn20):Option (ByteArray):=
 some a.1
def jc6 (e d:Int):Option ((Int×Int) ⊕ (Int)):=
 let b:=(w64 (d+1))
 (j5a b).bind fun c=>
 cond (decide (c≤e)) (
 let a:=(w64 (d+1))
 some (.inl (e,a))) (
 some (.inr d))
def jdt [LP] (b a:Int):Option (Int):=
 LP.lp (unc2 (jc6)) (b,a)
def jcW [LP] (a:Int):Option (Int):=
 (j7Z a 366).bind fun b=>
 let c:=(w64 (1970+b))
 (jdt a c).bind fun d=>
 some d
def jax (k l b d j a c:Int):Option ((Int×Int×Int×Int×Int×Int×Int) ⊕ ((Int×Int×Int×Int×Int×Int×Int))):=
 (j6Y j a).bind fun e=>
 cond (decide (k≥e)) (
 (j6Y j a).bind fun f=>
 let i:=(w64 (k-f))
 let g:=(w64 (a+1))
 some (.inl (i,l,b,d,j,g,c))) (
 some (.inr (k,l,b,d,j,a,c)))
def jb6 [LP] (e f a c g d b:Int):Option ((Int×Int×Int×Int×Int×Int×Int)):=
 LP.lp (unc7 (jax)) (e,f,a,c,g,d,b)
def j6F [LP] (a:Int):Option (Tn3×Int):=
 (j5a 1970).bind fun i=>
 cond (decide (a<i)) (
 some ((0,(0,0)),1)) (
 (j5a 2241).bind fun f=>
 cond (decide (a≥f)) (
 some ((0,(0,0)),1)) (
 (jcW a).bind fun b=>
 (j5a b).bind fun e=>
 let d:=(w64 (a-e))
 (jb6 d 0 0 0 b 1 0).bind fun c=>
 let g:=(w64 (c.1+1))
 some ((c.2.2.2.2.1,(c.2.2.2.2.2.1,g)),0)))
def j1H [LP] (a:Int):Option (Bool):=
 (j6F a).bind fun b=>
 some (b.2==0)
def j2h [LP] (a:Int):Option (Bool):=
 (j1H a).bind fun b=>
 some (!b)
def j0y [LP] (e:(List Int)) (f a:Int):Option (((List Int)×Int×Int) ⊕ (Int ⊕ Unit)):=
 cond (decide (a<f)) (
 cond (inR a (List.length e)) (
 let b:=(List.getD e (Int.toNat a) 0)
 (j2h b).bind fun c=>
 cond c (
 some (.inr (.inl a))) (
 let d:=(w64 (a+1))
 some (.inl (e,f,d)))) none) (
 some (.inr (.inr ())))
def j1I [LP] (c b a):=LP.lp (fun h=>j0y h.1 h.2.1 h.2.2) (c,b,a)
theorem j5K (c b a):j1I c b a=lpK (j0y c b a) (fun h=>j1I h.1 h.2.1 h.2.2):=j05 _ _
def j2i [LP] (a:(List Int)):Option (Int):=
 let c:=(Int.ofNat (List.length a))
 (j1I a c 0).bind fun b=>
 sumC b (fun d=>
 some d) (fun e=>
 some (-1))
def j1J [LP] (a:(List Int)):Option (Bool):=
 (j2i a).bind fun b=>
 some (decide (b≥0))
def j22 (e b:Int) (k:ByteArray) (d:Int) (a:(List Int)):Option ((Int×Int×ByteArray×Int×(List Int)) ⊕ (Int ⊕ Unit)):=
 cond (decide (b<e)) (
 cond (decide (b>0)) (
 cond (inR b (List.length a)) (
 let i:=(List.getD a (Int.toNat b) 0)
 let c:=(w64 (b-1))
 cond (inR c (List.length a)) (
 let j:=(List.getD a (Int.toNat c) 0)
 cond (decide (i≤j)) (
 some (.inr (.inl 6))) (
 let f:=(w64 (b+1))
 some (.inl (e,f,k,d,a)))) none) none) (
 let g:=(w64 (b+1))
 some (.inl (e,g,k,d,a)))) (
 some (.inr (.inr ())))
def j2j [LP] (d c e b a):=LP.lp (fun h=>j22 h.1 h.2.1 h.2.2.1 h.2.2.2.1 h.2.2.2.2) (d,c,e,b,a)
theorem j6G (d c e b a):j2j d c e b a=lpK (j22 d c e b a) (fun h=>j2j h.1 h.2.1 h.2.2.1 h.2.2.2.1 h.2.2.2.2):=j05 _ _
def j1Q [LP] (b:Tn73) (a:Tn20):Option (Int):=
 let c:=(Int.ofNat (List.length b.1))
 (j2w a.2.1 c).bind fun e=>
 cond (!e) (
 some 3) (
 let d:=(Int.ofNat (List.length a.2.2))
 cond (decide (d>64)) (
 some 5) (
 (j1J a.2.2).bind fun f=>
 cond f (
 some 1) (
 let g:=(Int.ofNat (List.length a.2.2))
 (j2j g 0 a.1 a.2.1 a.2.2).bind fun i=>
 sumC i (fun j=>
 some j) (fun k=>
 some 0))))
def j4N [LP] (a:Tn20) (e:Tn56) (d:Tn50) (b:Tn27) (c:Tn67):Option (Int):=
 (j1Q (e,(d,(b,c))) (a.1,(a.2.1,a.2.2))).bind fun f=>
 some f
def j0s [LP] (m:Tn56) (f:Tn50) (g:Tn27) (i:Tn67) (e:Tn27) (l d:Int) (n:(List (ByteArray×Bool))):Option ((Tn56×Tn50×Tn27×Tn67×Tn27×Int×Int×(List (ByteArray×Bool))) ⊕ (Int ⊕ Unit)):=
 cond (decide (d<l)) (
 cond (inR d (List.length e)) (
 let a:=(List.getD e (Int.toNat d) (ByteArray.empty,(0,([]:(List Int)))))
 (jac (a.1,(a.2.1,a.2.2))).bind fun k=>
 (j3L k n).bind fun b=>
 cond (b.1 != 0) (
 some (.inr (.inl b.1))) (
 (j4N (a.1,(a.2.1,a.2.2)) m f g i).bind fun c=>
 cond (c != 0) (
 some (.inr (.inl c))) (
 let j:=(w64 (d+1))
 some (.inl (m,f,g,i,e,l,j,b.2))))) none) (
 some (.inr (.inr ())))
def j11 [LP] (g:Tn56) (a:Tn50) (b:Tn27) (c:Tn67) (d:Tn27) (e f:Int) (i:(List (ByteArray×Bool))):Option (Int ⊕ Unit):=
 LP.lp (fun h=>j0s h.1 h.2.1 h.2.2.1 h.2.2.2.1 h.2.2.2.2.1 h.2.2.2.2.2.1 h.2.2.2.2.2.2.1 h.2.2.2.2.2.2.2) (g,a,b,c,d,e,f,i)
theorem j5k (g:Tn56) (a:Tn50) (b:Tn27) (c:Tn67) (d:Tn27) (e f:Int) (i:(List (ByteArray×Bool))):j11 g a b c d e f i=lpK (j0s g a b c d e f i) (fun h=>j11 h.1 h.2.1 h.2.2.1 h.2.2.2.1 h.2.2.2.2.1 h.2.2.2.2.2.1 h.2.2.2.2.2.2.1 h.2.2.2.2.2.2.2):=j05 _ _
def j1m [LP] (e:Tn27) (d:Tn56) (a:Tn50) (c:Tn27) (b:Tn67):Option (Int):=
 let g:(List (ByteArray×Bool)):=([]:(List (ByteArray×Bool)))
 let f:=(Int.ofNat (List.length e))
 (j11 d a c b e f 0 g).bind fun i=>
 sumC i (fun j=>
 some j) (fun k=>
 some 0)
def jad (a:Tn66):Option (ByteArray):=
 some a.1
def j5t (a:Tn61):Option (ByteArray):=
 some a.1
def j6H (a:Int) (g:Tn56) (b:Tn50) (c:Tn27) (e:Tn67):Option (Bool):=
 let f:=(Int.ofNat (List.length b))
 (j2w a f).bind fun d=>
 some (!d)
def j19 (i:(List Int)) (k:Tn56) (a:Tn50) (b:Tn27) (c:Tn67) (j d:Int):Option (((List Int)×Tn56×Tn50×Tn27×Tn67×Int×Int) ⊕ (Int ⊕ Unit)):=
 cond (decide (d<j)) (
 cond (inR d (List.length i)) (
 let e:=(List.getD i (Int.toNat d) 0)
 (j6H e k a b c).bind fun f=>
 cond f (
 some (.inr (.inl d))) (
 let g:=(w64 (d+1))
 some (.inl (i,k,a,b,c,j,g)))) none) (
 some (.inr (.inr ())))
def j1e [LP] (e g a b c d f):=LP.lp (fun h=>j19 h.1 h.2.1 h.2.2.1 h.2.2.2.1 h.2.2.2.2.1 h.2.2.2.2.2.1 h.2.2.2.2.2.2) (e,g,a,b,c,d,f)
theorem j4T (e g a b c d f):j1e e g a b c d f=lpK (j19 e g a b c d f) (fun h=>j1e h.1 h.2.1 h.2.2.1 h.2.2.2.1 h.2.2.2.2.1 h.2.2.2.2.2.1 h.2.2.2.2.2.2):=j05 _ _
def j1K [LP] (b:(List Int)) (e:Tn56) (a:Tn50) (c:Tn27) (d:Tn67):Option (Int):=
 let g:=(Int.ofNat (List.length b))
 (j1e b e a c d g 0).bind fun f=>
 sumC f (fun i=>
 some i) (fun j=>
 some (-1))
def j1f [LP] (d:(List Int)) (e:Tn56) (a:Tn50) (b:Tn27) (c:Tn67):Option (Bool):=
 (j1K d e a b c).bind fun f=>
 some (decide (f≥0))
def j2H [LP] (b:Tn73) (a:Tn61):Option (Int):=
 let c:=(Int.ofNat (List.length b.1))
 (j2w a.2.1 c).bind fun k=>
 cond (!k) (
 some 3) (
 cond (decide (a.2.2.1.1<1)) (
 some 1) (
 (j1H a.2.2.1.1).bind fun n=>
 cond (!n) (
 some 1) (
 (j71 a.2.2.1.2 0 86399).bind fun j=>
 cond (!j) (
 some 1) (
 (j71 a.2.2.2.1 0 2).bind fun g=>
 cond (!g) (
 some 1) (
 (j71 a.2.2.2.2.1 1 400).bind fun m=>
 cond (!m) (
 some 1) (
 let o:=(Int.ofNat (List.length a.2.2.2.2.2.1))
 cond (o==0) (
 some 7) (
 let l:=(Int.ofNat (List.length a.2.2.2.2.2.1))
 cond (decide (l>12)) (
 some 5) (
 (j1f a.2.2.2.2.2.1 b.1 b.2.1 b.2.2.1 b.2.2.2).bind fun e=>
 cond e (
 some 3) (
 (j8e a.2.2.2.2.2.2.1).bind fun p=>
 cond (p != 0) (
 some 8) (
 (j71 a.2.2.2.2.2.2.2.2 0 2).bind fun i=>
 cond (!i) (
 some 1) (
 let f:=(Int.ofNat (List.length b.2.2.1))
 cond (a.2.2.2.2.2.2.2.2 != 0) (
 (j2w a.2.2.2.2.2.2.2.1 f).bind fun d=>
 cond (!d) (
 some 3) (
 cond (cond (a.2.2.2.2.2.2.2.2==0) (a.2.2.2.2.2.2.2.1 != 0) false) (
 some 1) (
 some 0))) (
 cond (cond (a.2.2.2.2.2.2.2.2==0) (a.2.2.2.2.2.2.2.1 != 0) false) (
 some 1) (
 some 0)))))))))))))
def j2k [LP] (a:Tn61) (e:Tn56) (d:Tn50) (b:Tn27) (c:Tn67):Option (Int):=
 (j2H (e,(d,(b,c))) (a.1,(a.2.1,((a.2.2.1.1,a.2.2.1.2),(a.2.2.2.1,(a.2.2.2.2.1,(a.2.2.2.2.2.1,(a.2.2.2.2.2.2.1,(a.2.2.2.2.2.2.2.1,a.2.2.2.2.2.2.2.2))))))))).bind fun f=>
 some f
def j0C [LP] (m:Tn56) (f:Tn50) (g:Tn27) (i:Tn67) (e:Tn62) (l d:Int) (n:(List (ByteArray×Bool))):Option ((Tn56×Tn50×Tn27×Tn67×Tn62×Int×Int×(List (ByteArray×Bool))) ⊕ (Int ⊕ Unit)):=
 cond (decide (d<l)) (
 cond (inR d (List.length e)) (
 let a:=(List.getD e (Int.toNat d) (ByteArray.empty,(0,((0,0),(0,(0,(([]:(List Int)),(([]:Tn2),(0,0)))))))))
 (j5t (a.1,(a.2.1,((a.2.2.1.1,a.2.2.1.2),(a.2.2.2.1,(a.2.2.2.2.1,(a.2.2.2.2.2.1,(a.2.2.2.2.2.2.1,(a.2.2.2.2.2.2.2.1,a.2.2.2.2.2.2.2.2))))))))).bind fun k=>
 (j3L k n).bind fun b=>
 cond (b.1 != 0) (
 some (.inr (.inl b.1))) (
 (j2k (a.1,(a.2.1,((a.2.2.1.1,a.2.2.1.2),(a.2.2.2.1,(a.2.2.2.2.1,(a.2.2.2.2.2.1,(a.2.2.2.2.2.2.1,(a.2.2.2.2.2.2.2.1,a.2.2.2.2.2.2.2.2)))))))) m f g i).bind fun c=>
 cond (c != 0) (
 some (.inr (.inl c))) (
 let j:=(w64 (d+1))
 some (.inl (m,f,g,i,e,l,j,b.2))))) none) (
 some (.inr (.inr ())))
def j1n [LP] (g:Tn56) (a:Tn50) (b:Tn27) (c:Tn67) (d:Tn62) (e f:Int) (i:(List (ByteArray×Bool))):Option (Int ⊕ Unit):=
 LP.lp (fun h=>j0C h.1 h.2.1 h.2.2.1 h.2.2.2.1 h.2.2.2.2.1 h.2.2.2.2.2.1 h.2.2.2.2.2.2.1 h.2.2.2.2.2.2.2) (g,a,b,c,d,e,f,i)
theorem j67 (g:Tn56) (a:Tn50) (b:Tn27) (c:Tn67) (d:Tn62) (e f:Int) (i:(List (ByteArray×Bool))):j1n g a b c d e f i=lpK (j0C g a b c d e f i) (fun h=>j1n h.1 h.2.1 h.2.2.1 h.2.2.2.1 h.2.2.2.2.1 h.2.2.2.2.2.1 h.2.2.2.2.2.2.1 h.2.2.2.2.2.2.2):=j05 _ _
def j1Z [LP] (e:Tn62) (d:Tn56) (a:Tn50) (c:Tn27) (b:Tn67):Option (Int):=
 let g:(List (ByteArray×Bool)):=([]:(List (ByteArray×Bool)))
 let f:=(Int.ofNat (List.length e))
 (j1n d a c b e f 0 g).bind fun i=>
 sumC i (fun j=>
 some j) (fun k=>
 some 0)
def j32 [LP] (g:Tn73) (a:Tn25):Option (Int):=
 let i:=(Int.ofNat (List.length g.2.1))
 (j71 a.1 0 2).bind fun l=>
 cond (!l) (
 some 1) (
 (j2w a.2.1 i).bind fun f=>
 cond (cond (!f) (!(cond (a.1==1) (a.2.1==(-1)) false)) false) (
 cond (cond (!f) (!(cond (a.1==1) (a.2.1==(-1)) false)) false) (
 some 3) (
 cond (cond (a.1 != 2) (a.2.2.1 != 0) false) (
 some 1) (
 cond (cond (a.1==2) (a.2.1==a.2.2.1) false) (
 some 4) (
 let k:=(w64 (Int.tdiv a.2.2.2.2 86400))
 cond (cond (decide (a.2.2.2.1<0)) true (decide (a.2.2.2.2<0))) (
 some 1) (
 (j1H k).bind fun m=>
 cond (!m) (
 some 1) (
 cond (decide (a.2.2.2.1≥a.2.2.2.2)) (
 some 6) (
 some 0))))))) (
 cond (a.1==2) (
 (j2w a.2.2.1 i).bind fun j=>
 cond (!j) (
 some 3) (
 cond (cond (a.1 != 2) (a.2.2.1 != 0) false) (
 some 1) (
 cond (cond (a.1==2) (a.2.1==a.2.2.1) false) (
 some 4) (
 let b:=(w64 (Int.tdiv a.2.2.2.2 86400))
 cond (cond (decide (a.2.2.2.1<0)) true (decide (a.2.2.2.2<0))) (
 some 1) (
 (j1H b).bind fun c=>
 cond (!c) (
 some 1) (
 cond (decide (a.2.2.2.1≥a.2.2.2.2)) (
 some 6) (
 some 0))))))) (
 cond (cond (a.1 != 2) (a.2.2.1 != 0) false) (
 some 1) (
 cond (cond (a.1==2) (a.2.1==a.2.2.1) false) (
 some 4) (
 let e:=(w64 (Int.tdiv a.2.2.2.2 86400))
 cond (cond (decide (a.2.2.2.1<0)) true (decide (a.2.2.2.2<0))) (
 some 1) (
 (j1H e).bind fun d=>
 cond (!d) (
 some 1) (
 cond (decide (a.2.2.2.1≥a.2.2.2.2)) (
 some 6) (
 some 0))))))))
def j0L [LP] (d:Tn31) (j b:Int) (k:Tn56) (e:Tn50) (g:Tn27) (f:Tn67):Option ((Tn31×Int×Int×Tn56×Tn50×Tn27×Tn67) ⊕ (Int ⊕ Unit)):=
 cond (decide (b<j)) (
 cond (inR b (List.length d)) (
 let a:=(List.getD d (Int.toNat b) (0,(0,(0,(0,0)))))
 (j32 (k,(e,(g,f))) (a.1,(a.2.1,(a.2.2.1,(a.2.2.2.1,a.2.2.2.2))))).bind fun c=>
 cond (c != 0) (
 some (.inr (.inl c))) (
 let i:=(w64 (b+1))
 some (.inl (d,j,i,k,e,g,f)))) none) (
 some (.inr (.inr ())))
def j2l [LP] (e f d g a c b):=LP.lp (fun h=>j0L h.1 h.2.1 h.2.2.1 h.2.2.2.1 h.2.2.2.2.1 h.2.2.2.2.2.1 h.2.2.2.2.2.2) (e,f,d,g,a,c,b)
theorem j6I (e f d g a c b):j2l e f d g a c b=lpK (j0L e f d g a c b) (fun h=>j2l h.1 h.2.1 h.2.2.1 h.2.2.2.1 h.2.2.2.2.1 h.2.2.2.2.2.1 h.2.2.2.2.2.2):=j05 _ _
def j1R [LP] (a:Tn73) (b:Tn66):Option (Int):=
 let d:=(Int.ofNat (List.length b.2.1))
 let f:=(Int.ofNat (List.length b.2.2))
 cond (cond (decide (d>6)) true (decide (f>48))) (
 some 5) (
 (j1Z b.2.1 a.1 a.2.1 a.2.2.1 a.2.2.2).bind fun c=>
 cond (c != 0) (
 some c) (
 let e:=(Int.ofNat (List.length b.2.2))
 (j2l b.2.2 e 0 a.1 a.2.1 a.2.2.1 a.2.2.2).bind fun g=>
 sumC g (fun i=>
 some i) (fun j=>
 some 0)))
def j4O [LP] (a:Tn66) (e:Tn56) (d:Tn50) (b:Tn27) (c:Tn67):Option (Int):=
 (j1R (e,(d,(b,c))) (a.1,(a.2.1,a.2.2))).bind fun f=>
 some f
def j0t [LP] (m:Tn56) (f:Tn50) (g:Tn27) (i e:Tn67) (l d:Int) (n:(List (ByteArray×Bool))):Option ((Tn56×Tn50×Tn27×Tn67×Tn67×Int×Int×(List (ByteArray×Bool))) ⊕ (Int ⊕ Unit)):=
 cond (decide (d<l)) (
 cond (inR d (List.length e)) (
 let a:=(List.getD e (Int.toNat d) (ByteArray.empty,(([]:Tn62),([]:Tn31))))
 (jad (a.1,(a.2.1,a.2.2))).bind fun k=>
 (j3L k n).bind fun b=>
 cond (b.1 != 0) (
 some (.inr (.inl b.1))) (
 (j4O (a.1,(a.2.1,a.2.2)) m f g i).bind fun c=>
 cond (c != 0) (
 some (.inr (.inl c))) (
 let j:=(w64 (d+1))
 some (.inl (m,f,g,i,e,l,j,b.2))))) none) (
 some (.inr (.inr ())))
def j12 [LP] (g:Tn56) (a:Tn50) (b:Tn27) (c d:Tn67) (e f:Int) (i:(List (ByteArray×Bool))):Option (Int ⊕ Unit):=
 LP.lp (fun h=>j0t h.1 h.2.1 h.2.2.1 h.2.2.2.1 h.2.2.2.2.1 h.2.2.2.2.2.1 h.2.2.2.2.2.2.1 h.2.2.2.2.2.2.2) (g,a,b,c,d,e,f,i)
theorem j5l (g:Tn56) (a:Tn50) (b:Tn27) (c d:Tn67) (e f:Int) (i:(List (ByteArray×Bool))):j12 g a b c d e f i=lpK (j0t g a b c d e f i) (fun h=>j12 h.1 h.2.1 h.2.2.1 h.2.2.2.1 h.2.2.2.2.1 h.2.2.2.2.2.1 h.2.2.2.2.2.2.1 h.2.2.2.2.2.2.2):=j05 _ _
def j1X [LP] (e:Tn67) (d:Tn56) (a:Tn50) (c:Tn27) (b:Tn67):Option (Int):=
 let g:(List (ByteArray×Bool)):=([]:(List (ByteArray×Bool)))
 let f:=(Int.ofNat (List.length e))
 (j12 d a c b e f 0 g).bind fun i=>
 sumC i (fun j=>
 some j) (fun k=>
 some 0)
def j1S [LP] (g:Tn50) (i f:Int) (j:Tn56) (e:Tn50) (d:Tn27) (c:Tn67) (r:(List (ByteArray×Bool))):Option ((Tn50×Int×Int×Tn56×Tn50×Tn27×Tn67×(List (ByteArray×Bool))) ⊕ (Int ⊕ (Tn56×Tn50×Tn27×Tn67))):=
 cond (decide (f<i)) (
 cond (inR f (List.length g)) (
 let a:=(List.getD g (Int.toNat f) (ByteArray.empty,(0,(([]:Tn2),(0,(0,false))))))
 (j3L a.1 r).bind fun b=>
 let q:Bool:=(ByteArray.toList a.1==ByteArray.toList (ByteArray.mk #[110,111,98,111,100,121]))
 cond q (
 cond (2==0) (
 (j1Y (j,(e,(d,c))) (a.1,(a.2.1,(a.2.2.1,(a.2.2.2.1,(a.2.2.2.2.1,a.2.2.2.2.2)))))).bind fun l=>
 cond (l != 0) (
 some (.inr (.inl l))) (
 let m:=(w64 (f+1))
 some (.inl (g,i,m,j,e,d,c,b.2)))) (
 cond (2 != 0) (
 some (.inr (.inl 2))) (
 let n:=(w64 (f+1))
 some (.inl (g,i,n,j,e,d,c,b.2))))) (
 cond (b.1==0) (
 (j1Y (j,(e,(d,c))) (a.1,(a.2.1,(a.2.2.1,(a.2.2.2.1,(a.2.2.2.2.1,a.2.2.2.2.2)))))).bind fun k=>
 cond (k != 0) (
 some (.inr (.inl k))) (
 let o:=(w64 (f+1))
 some (.inl (g,i,o,j,e,d,c,b.2)))) (
 cond (b.1 != 0) (
 some (.inr (.inl b.1))) (
 let p:=(w64 (f+1))
 some (.inl (g,i,p,j,e,d,c,b.2)))))) none) (
 some (.inr (.inr (j,e,d,c))))
def j42 [LP] (e:Tn50) (d f:Int) (i:Tn56) (c:Tn50) (b:Tn27) (a:Tn67) (g:(List (ByteArray×Bool))):Option (Int ⊕ (Tn56×Tn50×Tn27×Tn67)):=
 LP.lp (fun h=>j1S h.1 h.2.1 h.2.2.1 h.2.2.2.1 h.2.2.2.2.1 h.2.2.2.2.2.1 h.2.2.2.2.2.2.1 h.2.2.2.2.2.2.2) (e,d,f,i,c,b,a,g)
theorem jb7 (e:Tn50) (d f:Int) (i:Tn56) (c:Tn50) (b:Tn27) (a:Tn67) (g:(List (ByteArray×Bool))):j42 e d f i c b a g=lpK (j1S e d f i c b a g) (fun h=>j42 h.1 h.2.1 h.2.2.1 h.2.2.2.1 h.2.2.2.2.1 h.2.2.2.2.2.1 h.2.2.2.2.2.2.1 h.2.2.2.2.2.2.2):=j05 _ _
def j4U [LP] (a:Tn73):Option (Int):=
 let e:=(Int.ofNat (List.length a.1))
 let g:=(Int.ofNat (List.length a.2.1))
 let f:=(Int.ofNat (List.length a.2.2.1))
 let l:Bool:=(cond (cond (decide (e>16)) true (decide (g>32))) true (decide (f>8)))
 let i:=(Int.ofNat (List.length a.2.2.2))
 cond (cond l true (decide (i>12))) (
 some 5) (
 (j2c a.1).bind fun c=>
 cond (c != 0) (
 some c) (
 let k:(List (ByteArray×Bool)):=([]:(List (ByteArray×Bool)))
 let m:=(Int.ofNat (List.length a.2.1))
 (j42 a.2.1 m 0 a.1 a.2.1 a.2.2.1 a.2.2.2 k).bind fun n=>
 sumC n (fun o=>
 some o) (fun b=>
 (j1m b.2.2.1 b.1 b.2.1 b.2.2.1 b.2.2.2).bind fun d=>
 cond (d != 0) (
 some d) (
 (j1X b.2.2.2 b.1 b.2.1 b.2.2.1 b.2.2.2).bind fun j=>
 some j))))
def jeE [LP] (a:Tn54):Option (Tn14×Int):=
 (j2v (a.1,(a.2.1,a.2.2))).bind fun b=>
 some ((a.2.1,b.1),b.2)
def j2o [LP] (i:Tn56) (j c:Int) (g:Tn21):Option ((Tn56×Int×Int×Tn21) ⊕ (Tn21)):=
 cond (decide (c<j)) (
 cond (inR c (List.length i)) (
 let a:=(List.getD i (Int.toNat c) (ByteArray.empty,(0,([]:Tn44))))
 (jeE (a.1,(a.2.1,a.2.2))).bind fun d=>
 let b:Tn21:=[(d.1.1,d.1.2)]
 cond (decide (List.length g+List.length b≤j07)) (
 let e:Tn21:=(g++b)
 let f:=(w64 (c+1))
 some (.inl (i,j,f,e))) none) none) (
 some (.inr g))
def j5b [LP] (d b a c):=LP.lp (fun h=>j2o h.1 h.2.1 h.2.2.1 h.2.2.2) (d,b,a,c)
theorem jcX (d b a c):j5b d b a c=lpK (j2o d b a c) (fun h=>j5b h.1 h.2.1 h.2.2.1 h.2.2.2):=j05 _ _
def j9i [LP] (a:Tn56):Option (Tn21):=
 let c:=(Int.ofNat (List.length a))
 (j5b a c 0 ([]:Tn21)).bind fun b=>
 some b
def jb8 [LP] (a:Tn73):Option (Tn75):=
 (j9i a.1).bind fun b=>
 some ((a.1,(a.2.1,(a.2.2.1,a.2.2.2))),b)
def jdu [LP] (a:Tn73):Option (Tn75×Bool):=
 (j4U (a.1,(a.2.1,(a.2.2.1,a.2.2.2)))).bind fun c=>
 cond (c != 0) (
 some (((([]:Tn56),(([]:Tn50),(([]:Tn27),([]:Tn67)))),([]:Tn21)),false)) (
 (jb8 (a.1,(a.2.1,(a.2.2.1,a.2.2.2)))).bind fun b=>
 some (((b.1.1,(b.1.2.1,(b.1.2.2.1,b.1.2.2.2))),b.2),true))
def jb9 (b:Tn73) (a:Int):Option (Bool):=
 let c:=(Int.ofNat (List.length b.2.2.2))
 some (cond (decide (a≥0)) (decide (a<c)) false)
def jhX (a b:Int):Option (Bool):=
 let c:Bool:=(cond (cond (decide (a≥0)) (decide (a≤8589934592)) false) (decide (b≥a)) false)
 let d:=(w64 (b-a))
 let e:Bool:=(cond (cond c (decide (b≤8589934592)) false) (decide (d≤34560000)) false)
 some e
def j5R [LP] (b:Tn73) (c d e:Int):Option (Tn75×Int):=
 (jdu (b.1,(b.2.1,(b.2.2.1,b.2.2.2)))).bind fun a=>
 cond (!a.2) (
 some (((a.1.1.1,(a.1.1.2.1,(a.1.1.2.2.1,a.1.1.2.2.2))),a.1.2),8)) (
 (jb9 (b.1,(b.2.1,(b.2.2.1,b.2.2.2))) c).bind fun g=>
 cond (!g) (
 some (((a.1.1.1,(a.1.1.2.1,(a.1.1.2.2.1,a.1.1.2.2.2))),a.1.2),3)) (
 (jhX d e).bind fun f=>
 cond (!f) (
 some (((a.1.1.1,(a.1.1.2.1,(a.1.1.2.2.1,a.1.1.2.2.2))),a.1.2),1)) (
 some (((a.1.1.1,(a.1.1.2.1,(a.1.1.2.2.1,a.1.1.2.2.2))),a.1.2),0))))
def j7h (a:(List Int)):Option ((List Int)):=
 cond (decide (List.length ([]:List (Int))+List.length a≤j07)) (
 some (([]:List (Int))++a)) none
def j9T (a b c:Int):Option (Bool):=
 some (cond (decide (a≤b)) true (decide (a≥c)))
def j1a (i a g c:Int) (b:(List Int)):Option ((Int×Int×Int×Int×(List Int)) ⊕ (Tn1 ⊕ (List Int))):=
 cond (decide (c<g)) (
 cond (inR c (List.length b)) (
 let d:=(List.getD b (Int.toNat c) 0)
 (j9T d i a).bind fun e=>
 cond e (
 some (.inr (.inl (c,b)))) (
 let f:=(w64 (c+1))
 some (.inl (i,a,g,f,b)))) none) (
 some (.inr (.inr b)))
def j0Y [LP] (e a b d c):=LP.lp (fun h=>j1a h.1 h.2.1 h.2.2.1 h.2.2.2.1 h.2.2.2.2) (e,a,b,d,c)
theorem j4V (e a b d c):j0Y e a b d c=lpK (j1a e a b d c) (fun h=>j0Y h.1 h.2.1 h.2.2.1 h.2.2.2.1 h.2.2.2.2):=j05 _ _
def j1L [LP] (b:(List Int)) (c a:Int):Option Tn1:=
 let e:=(Int.ofNat (List.length b))
 (j0Y c a e 0 b).bind fun d=>
 sumC d (fun f=>
 some (f.1,f.2)) (fun g=>
 some ((-1),g))
def j1r (m a d e:Int) (b:(List Int)):Option ((Int×Int×Int×Int×(List Int)) ⊕ (Tn1)):=
 let k:=(Int.ofNat (List.length b))
 cond (decide (e<k)) (
 cond (inR e (List.length b)) (
 let c:=(List.getD b (Int.toNat e) 0)
 (j9T c m a).bind fun g=>
 cond (!g) (
 cond (inR d (List.length b)) (
 let l:(List Int):=(List.set b (Int.toNat d) c)
 let j:=(w64 (d+1))
 let i:=(w64 (e+1))
 some (.inl (m,a,j,i,l))) none) (
 let f:=(w64 (e+1))
 some (.inl (m,a,d,f,b)))) none) (
 some (.inr (d,b)))
def j1C [LP] (e a b c d):=LP.lp (fun h=>j1r h.1 h.2.1 h.2.2.1 h.2.2.2.1 h.2.2.2.2) (e,a,b,c,d)
theorem j5u (e a b c d):j1C e a b c d=lpK (j1r e a b c d) (fun h=>j1C h.1 h.2.1 h.2.2.1 h.2.2.2.1 h.2.2.2.2):=j05 _ _
def j1x [LP] (e:(List Int)) (d a:Int):Option Tn1:=
 (j1L e d a).bind fun c=>
 cond (c.1==(-1)) (
 some ((Int.ofNat (List.length c.2)),c.2)) (
 let g:=(w64 (c.1+1))
 (j1C d a c.1 g c.2).bind fun b=>
 cond (decide (0≤b.1)&&decide (b.1≤(Int.ofNat (List.length b.2)))) (
 let f:(List Int):=(List.take (Int.toNat b.1) b.2++List.replicate (List.length b.2-(Int.toNat b.1)) 0)
 cond (decide (0≤b.1)&&decide (b.1≤(Int.ofNat (List.length f)))) (
 some ((Int.ofNat (Int.toNat b.1)),f)) none) none)
def jeF (a:Int):Option (Int):=
 cond (decide (a≥4294967296)) (
 let m:Int:=(Int.fdiv a 4294967296)
 cond (decide (m≥65536)) (
 let l:Int:=(Int.fdiv m 65536)
 let b3:=(w64 (32+16))
 cond (decide (l≥256)) (
 let b5:Int:=(Int.fdiv l 256)
 let b6:=(w64 (b3+8))
 let b4:Int:=(IntKind.wrap .u8 b5)
 cond (inR b4 (ByteArray.size (ByteArray.mk #[0,1,2,2,3,3,3,3,4,4,4,4,4,4,4,4,5,5,5,5,5,5,5,5,5,5,5,5,5,5,5,5,6,6,6,6,6,6,6,6,6,6,6,6,6,6,6,6,6,6,6,6,6,6,6,6,6,6,6,6,6,6,6,6,7,7,7,7,7,7,7,7,7,7,7,7,7,7,7,7,7,7,7,7,7,7,7,7,7,7,7,7,7,7,7,7,7,7,7,7,7,7,7,7,7,7,7,7,7,7,7,7,7,7,7,7,7,7,7,7,7,7,7,7,7,7,7,7,8,8,8,8,8,8,8,8,8,8,8,8,8,8,8,8,8,8,8,8,8,8,8,8,8,8,8,8,8,8,8,8,8,8,8,8,8,8,8,8,8,8,8,8,8,8,8,8,8,8,8,8,8,8,8,8,8,8,8,8,8,8,8,8,8,8,8,8,8,8,8,8,8,8,8,8,8,8,8,8,8,8,8,8,8,8,8,8,8,8,8,8,8,8,8,8,8,8,8,8,8,8,8,8,8,8,8,8,8,8,8,8,8,8,8,8,8,8,8,8,8,8,8,8,8,8,8,8]))) (
 let b8:=(jhE (ByteArray.mk #[0,1,2,2,3,3,3,3,4,4,4,4,4,4,4,4,5,5,5,5,5,5,5,5,5,5,5,5,5,5,5,5,6,6,6,6,6,6,6,6,6,6,6,6,6,6,6,6,6,6,6,6,6,6,6,6,6,6,6,6,6,6,6,6,7,7,7,7,7,7,7,7,7,7,7,7,7,7,7,7,7,7,7,7,7,7,7,7,7,7,7,7,7,7,7,7,7,7,7,7,7,7,7,7,7,7,7,7,7,7,7,7,7,7,7,7,7,7,7,7,7,7,7,7,7,7,7,7,8,8,8,8,8,8,8,8,8,8,8,8,8,8,8,8,8,8,8,8,8,8,8,8,8,8,8,8,8,8,8,8,8,8,8,8,8,8,8,8,8,8,8,8,8,8,8,8,8,8,8,8,8,8,8,8,8,8,8,8,8,8,8,8,8,8,8,8,8,8,8,8,8,8,8,8,8,8,8,8,8,8,8,8,8,8,8,8,8,8,8,8,8,8,8,8,8,8,8,8,8,8,8,8,8,8,8,8,8,8,8,8,8,8,8,8,8,8,8,8,8,8,8,8,8,8,8,8]) b4)
 let b7:=(w64 (b6+(w64 b8)))
 some b7) none) (
 let g:Int:=(IntKind.wrap .u8 l)
 cond (inR g (ByteArray.size (ByteArray.mk #[0,1,2,2,3,3,3,3,4,4,4,4,4,4,4,4,5,5,5,5,5,5,5,5,5,5,5,5,5,5,5,5,6,6,6,6,6,6,6,6,6,6,6,6,6,6,6,6,6,6,6,6,6,6,6,6,6,6,6,6,6,6,6,6,7,7,7,7,7,7,7,7,7,7,7,7,7,7,7,7,7,7,7,7,7,7,7,7,7,7,7,7,7,7,7,7,7,7,7,7,7,7,7,7,7,7,7,7,7,7,7,7,7,7,7,7,7,7,7,7,7,7,7,7,7,7,7,7,8,8,8,8,8,8,8,8,8,8,8,8,8,8,8,8,8,8,8,8,8,8,8,8,8,8,8,8,8,8,8,8,8,8,8,8,8,8,8,8,8,8,8,8,8,8,8,8,8,8,8,8,8,8,8,8,8,8,8,8,8,8,8,8,8,8,8,8,8,8,8,8,8,8,8,8,8,8,8,8,8,8,8,8,8,8,8,8,8,8,8,8,8,8,8,8,8,8,8,8,8,8,8,8,8,8,8,8,8,8,8,8,8,8,8,8,8,8,8,8,8,8,8,8,8,8,8,8]))) (
 let n:=(jhE (ByteArray.mk #[0,1,2,2,3,3,3,3,4,4,4,4,4,4,4,4,5,5,5,5,5,5,5,5,5,5,5,5,5,5,5,5,6,6,6,6,6,6,6,6,6,6,6,6,6,6,6,6,6,6,6,6,6,6,6,6,6,6,6,6,6,6,6,6,7,7,7,7,7,7,7,7,7,7,7,7,7,7,7,7,7,7,7,7,7,7,7,7,7,7,7,7,7,7,7,7,7,7,7,7,7,7,7,7,7,7,7,7,7,7,7,7,7,7,7,7,7,7,7,7,7,7,7,7,7,7,7,7,8,8,8,8,8,8,8,8,8,8,8,8,8,8,8,8,8,8,8,8,8,8,8,8,8,8,8,8,8,8,8,8,8,8,8,8,8,8,8,8,8,8,8,8,8,8,8,8,8,8,8,8,8,8,8,8,8,8,8,8,8,8,8,8,8,8,8,8,8,8,8,8,8,8,8,8,8,8,8,8,8,8,8,8,8,8,8,8,8,8,8,8,8,8,8,8,8,8,8,8,8,8,8,8,8,8,8,8,8,8,8,8,8,8,8,8,8,8,8,8,8,8,8,8,8,8,8,8]) g)
 let b9:=(w64 n)
 let a9:=(w64 (b3+b9))
 some a9) none)) (
 cond (decide (m≥256)) (
 let q:Int:=(Int.fdiv m 256)
 let a6:=(w64 (32+8))
 let f:Int:=(IntKind.wrap .u8 q)
 cond (inR f (ByteArray.size (ByteArray.mk #[0,1,2,2,3,3,3,3,4,4,4,4,4,4,4,4,5,5,5,5,5,5,5,5,5,5,5,5,5,5,5,5,6,6,6,6,6,6,6,6,6,6,6,6,6,6,6,6,6,6,6,6,6,6,6,6,6,6,6,6,6,6,6,6,7,7,7,7,7,7,7,7,7,7,7,7,7,7,7,7,7,7,7,7,7,7,7,7,7,7,7,7,7,7,7,7,7,7,7,7,7,7,7,7,7,7,7,7,7,7,7,7,7,7,7,7,7,7,7,7,7,7,7,7,7,7,7,7,8,8,8,8,8,8,8,8,8,8,8,8,8,8,8,8,8,8,8,8,8,8,8,8,8,8,8,8,8,8,8,8,8,8,8,8,8,8,8,8,8,8,8,8,8,8,8,8,8,8,8,8,8,8,8,8,8,8,8,8,8,8,8,8,8,8,8,8,8,8,8,8,8,8,8,8,8,8,8,8,8,8,8,8,8,8,8,8,8,8,8,8,8,8,8,8,8,8,8,8,8,8,8,8,8,8,8,8,8,8,8,8,8,8,8,8,8,8,8,8,8,8,8,8,8,8,8,8]))) (
 let u:=(jhE (ByteArray.mk #[0,1,2,2,3,3,3,3,4,4,4,4,4,4,4,4,5,5,5,5,5,5,5,5,5,5,5,5,5,5,5,5,6,6,6,6,6,6,6,6,6,6,6,6,6,6,6,6,6,6,6,6,6,6,6,6,6,6,6,6,6,6,6,6,7,7,7,7,7,7,7,7,7,7,7,7,7,7,7,7,7,7,7,7,7,7,7,7,7,7,7,7,7,7,7,7,7,7,7,7,7,7,7,7,7,7,7,7,7,7,7,7,7,7,7,7,7,7,7,7,7,7,7,7,7,7,7,7,8,8,8,8,8,8,8,8,8,8,8,8,8,8,8,8,8,8,8,8,8,8,8,8,8,8,8,8,8,8,8,8,8,8,8,8,8,8,8,8,8,8,8,8,8,8,8,8,8,8,8,8,8,8,8,8,8,8,8,8,8,8,8,8,8,8,8,8,8,8,8,8,8,8,8,8,8,8,8,8,8,8,8,8,8,8,8,8,8,8,8,8,8,8,8,8,8,8,8,8,8,8,8,8,8,8,8,8,8,8,8,8,8,8,8,8,8,8,8,8,8,8,8,8,8,8,8,8]) f)
 let s:=(w64 u)
 let b1:=(w64 (a6+s))
 some b1) none) (
 let c:Int:=(IntKind.wrap .u8 m)
 cond (inR c (ByteArray.size (ByteArray.mk #[0,1,2,2,3,3,3,3,4,4,4,4,4,4,4,4,5,5,5,5,5,5,5,5,5,5,5,5,5,5,5,5,6,6,6,6,6,6,6,6,6,6,6,6,6,6,6,6,6,6,6,6,6,6,6,6,6,6,6,6,6,6,6,6,7,7,7,7,7,7,7,7,7,7,7,7,7,7,7,7,7,7,7,7,7,7,7,7,7,7,7,7,7,7,7,7,7,7,7,7,7,7,7,7,7,7,7,7,7,7,7,7,7,7,7,7,7,7,7,7,7,7,7,7,7,7,7,7,8,8,8,8,8,8,8,8,8,8,8,8,8,8,8,8,8,8,8,8,8,8,8,8,8,8,8,8,8,8,8,8,8,8,8,8,8,8,8,8,8,8,8,8,8,8,8,8,8,8,8,8,8,8,8,8,8,8,8,8,8,8,8,8,8,8,8,8,8,8,8,8,8,8,8,8,8,8,8,8,8,8,8,8,8,8,8,8,8,8,8,8,8,8,8,8,8,8,8,8,8,8,8,8,8,8,8,8,8,8,8,8,8,8,8,8,8,8,8,8,8,8,8,8,8,8,8,8]))) (
 let b0:=(jhE (ByteArray.mk #[0,1,2,2,3,3,3,3,4,4,4,4,4,4,4,4,5,5,5,5,5,5,5,5,5,5,5,5,5,5,5,5,6,6,6,6,6,6,6,6,6,6,6,6,6,6,6,6,6,6,6,6,6,6,6,6,6,6,6,6,6,6,6,6,7,7,7,7,7,7,7,7,7,7,7,7,7,7,7,7,7,7,7,7,7,7,7,7,7,7,7,7,7,7,7,7,7,7,7,7,7,7,7,7,7,7,7,7,7,7,7,7,7,7,7,7,7,7,7,7,7,7,7,7,7,7,7,7,8,8,8,8,8,8,8,8,8,8,8,8,8,8,8,8,8,8,8,8,8,8,8,8,8,8,8,8,8,8,8,8,8,8,8,8,8,8,8,8,8,8,8,8,8,8,8,8,8,8,8,8,8,8,8,8,8,8,8,8,8,8,8,8,8,8,8,8,8,8,8,8,8,8,8,8,8,8,8,8,8,8,8,8,8,8,8,8,8,8,8,8,8,8,8,8,8,8,8,8,8,8,8,8,8,8,8,8,8,8,8,8,8,8,8,8,8,8,8,8,8,8,8,8,8,8,8,8]) c)
 let t:=(w64 b0)
 let x:=(w64 (32+t))
 some x) none))) (
 cond (decide (a≥65536)) (
 let b:Int:=(Int.fdiv a 65536)
 let k:=(w64 (0+16))
 cond (decide (b≥256)) (
 let p:Int:=(Int.fdiv b 256)
 let a7:=(w64 (k+8))
 let i:Int:=(IntKind.wrap .u8 p)
 cond (inR i (ByteArray.size (ByteArray.mk #[0,1,2,2,3,3,3,3,4,4,4,4,4,4,4,4,5,5,5,5,5,5,5,5,5,5,5,5,5,5,5,5,6,6,6,6,6,6,6,6,6,6,6,6,6,6,6,6,6,6,6,6,6,6,6,6,6,6,6,6,6,6,6,6,7,7,7,7,7,7,7,7,7,7,7,7,7,7,7,7,7,7,7,7,7,7,7,7,7,7,7,7,7,7,7,7,7,7,7,7,7,7,7,7,7,7,7,7,7,7,7,7,7,7,7,7,7,7,7,7,7,7,7,7,7,7,7,7,8,8,8,8,8,8,8,8,8,8,8,8,8,8,8,8,8,8,8,8,8,8,8,8,8,8,8,8,8,8,8,8,8,8,8,8,8,8,8,8,8,8,8,8,8,8,8,8,8,8,8,8,8,8,8,8,8,8,8,8,8,8,8,8,8,8,8,8,8,8,8,8,8,8,8,8,8,8,8,8,8,8,8,8,8,8,8,8,8,8,8,8,8,8,8,8,8,8,8,8,8,8,8,8,8,8,8,8,8,8,8,8,8,8,8,8,8,8,8,8,8,8,8,8,8,8,8,8]))) (
 let a3:=(jhE (ByteArray.mk #[0,1,2,2,3,3,3,3,4,4,4,4,4,4,4,4,5,5,5,5,5,5,5,5,5,5,5,5,5,5,5,5,6,6,6,6,6,6,6,6,6,6,6,6,6,6,6,6,6,6,6,6,6,6,6,6,6,6,6,6,6,6,6,6,7,7,7,7,7,7,7,7,7,7,7,7,7,7,7,7,7,7,7,7,7,7,7,7,7,7,7,7,7,7,7,7,7,7,7,7,7,7,7,7,7,7,7,7,7,7,7,7,7,7,7,7,7,7,7,7,7,7,7,7,7,7,7,7,8,8,8,8,8,8,8,8,8,8,8,8,8,8,8,8,8,8,8,8,8,8,8,8,8,8,8,8,8,8,8,8,8,8,8,8,8,8,8,8,8,8,8,8,8,8,8,8,8,8,8,8,8,8,8,8,8,8,8,8,8,8,8,8,8,8,8,8,8,8,8,8,8,8,8,8,8,8,8,8,8,8,8,8,8,8,8,8,8,8,8,8,8,8,8,8,8,8,8,8,8,8,8,8,8,8,8,8,8,8,8,8,8,8,8,8,8,8,8,8,8,8,8,8,8,8,8,8]) i)
 let a0:=(w64 a3)
 let z:=(w64 (a7+a0))
 some z) none) (
 let j:Int:=(IntKind.wrap .u8 b)
 cond (inR j (ByteArray.size (ByteArray.mk #[0,1,2,2,3,3,3,3,4,4,4,4,4,4,4,4,5,5,5,5,5,5,5,5,5,5,5,5,5,5,5,5,6,6,6,6,6,6,6,6,6,6,6,6,6,6,6,6,6,6,6,6,6,6,6,6,6,6,6,6,6,6,6,6,7,7,7,7,7,7,7,7,7,7,7,7,7,7,7,7,7,7,7,7,7,7,7,7,7,7,7,7,7,7,7,7,7,7,7,7,7,7,7,7,7,7,7,7,7,7,7,7,7,7,7,7,7,7,7,7,7,7,7,7,7,7,7,7,8,8,8,8,8,8,8,8,8,8,8,8,8,8,8,8,8,8,8,8,8,8,8,8,8,8,8,8,8,8,8,8,8,8,8,8,8,8,8,8,8,8,8,8,8,8,8,8,8,8,8,8,8,8,8,8,8,8,8,8,8,8,8,8,8,8,8,8,8,8,8,8,8,8,8,8,8,8,8,8,8,8,8,8,8,8,8,8,8,8,8,8,8,8,8,8,8,8,8,8,8,8,8,8,8,8,8,8,8,8,8,8,8,8,8,8,8,8,8,8,8,8,8,8,8,8,8,8]))) (
 let a5:=(jhE (ByteArray.mk #[0,1,2,2,3,3,3,3,4,4,4,4,4,4,4,4,5,5,5,5,5,5,5,5,5,5,5,5,5,5,5,5,6,6,6,6,6,6,6,6,6,6,6,6,6,6,6,6,6,6,6,6,6,6,6,6,6,6,6,6,6,6,6,6,7,7,7,7,7,7,7,7,7,7,7,7,7,7,7,7,7,7,7,7,7,7,7,7,7,7,7,7,7,7,7,7,7,7,7,7,7,7,7,7,7,7,7,7,7,7,7,7,7,7,7,7,7,7,7,7,7,7,7,7,7,7,7,7,8,8,8,8,8,8,8,8,8,8,8,8,8,8,8,8,8,8,8,8,8,8,8,8,8,8,8,8,8,8,8,8,8,8,8,8,8,8,8,8,8,8,8,8,8,8,8,8,8,8,8,8,8,8,8,8,8,8,8,8,8,8,8,8,8,8,8,8,8,8,8,8,8,8,8,8,8,8,8,8,8,8,8,8,8,8,8,8,8,8,8,8,8,8,8,8,8,8,8,8,8,8,8,8,8,8,8,8,8,8,8,8,8,8,8,8,8,8,8,8,8,8,8,8,8,8,8,8]) j)
 let r:=(w64 a5)
 let a8:=(w64 (k+r))
 some a8) none)) (
 cond (decide (a≥256)) (
 let a1:Int:=(Int.fdiv a 256)
 let w:=(w64 (0+8))
 let d:Int:=(IntKind.wrap .u8 a1)
 cond (inR d (ByteArray.size (ByteArray.mk #[0,1,2,2,3,3,3,3,4,4,4,4,4,4,4,4,5,5,5,5,5,5,5,5,5,5,5,5,5,5,5,5,6,6,6,6,6,6,6,6,6,6,6,6,6,6,6,6,6,6,6,6,6,6,6,6,6,6,6,6,6,6,6,6,7,7,7,7,7,7,7,7,7,7,7,7,7,7,7,7,7,7,7,7,7,7,7,7,7,7,7,7,7,7,7,7,7,7,7,7,7,7,7,7,7,7,7,7,7,7,7,7,7,7,7,7,7,7,7,7,7,7,7,7,7,7,7,7,8,8,8,8,8,8,8,8,8,8,8,8,8,8,8,8,8,8,8,8,8,8,8,8,8,8,8,8,8,8,8,8,8,8,8,8,8,8,8,8,8,8,8,8,8,8,8,8,8,8,8,8,8,8,8,8,8,8,8,8,8,8,8,8,8,8,8,8,8,8,8,8,8,8,8,8,8,8,8,8,8,8,8,8,8,8,8,8,8,8,8,8,8,8,8,8,8,8,8,8,8,8,8,8,8,8,8,8,8,8,8,8,8,8,8,8,8,8,8,8,8,8,8,8,8,8,8,8]))) (
 let o:=(jhE (ByteArray.mk #[0,1,2,2,3,3,3,3,4,4,4,4,4,4,4,4,5,5,5,5,5,5,5,5,5,5,5,5,5,5,5,5,6,6,6,6,6,6,6,6,6,6,6,6,6,6,6,6,6,6,6,6,6,6,6,6,6,6,6,6,6,6,6,6,7,7,7,7,7,7,7,7,7,7,7,7,7,7,7,7,7,7,7,7,7,7,7,7,7,7,7,7,7,7,7,7,7,7,7,7,7,7,7,7,7,7,7,7,7,7,7,7,7,7,7,7,7,7,7,7,7,7,7,7,7,7,7,7,8,8,8,8,8,8,8,8,8,8,8,8,8,8,8,8,8,8,8,8,8,8,8,8,8,8,8,8,8,8,8,8,8,8,8,8,8,8,8,8,8,8,8,8,8,8,8,8,8,8,8,8,8,8,8,8,8,8,8,8,8,8,8,8,8,8,8,8,8,8,8,8,8,8,8,8,8,8,8,8,8,8,8,8,8,8,8,8,8,8,8,8,8,8,8,8,8,8,8,8,8,8,8,8,8,8,8,8,8,8,8,8,8,8,8,8,8,8,8,8,8,8,8,8,8,8,8,8]) d)
 let a4:=(w64 o)
 let a2:=(w64 (w+a4))
 some a2) none) (
 let e:Int:=(IntKind.wrap .u8 a)
 cond (inR e (ByteArray.size (ByteArray.mk #[0,1,2,2,3,3,3,3,4,4,4,4,4,4,4,4,5,5,5,5,5,5,5,5,5,5,5,5,5,5,5,5,6,6,6,6,6,6,6,6,6,6,6,6,6,6,6,6,6,6,6,6,6,6,6,6,6,6,6,6,6,6,6,6,7,7,7,7,7,7,7,7,7,7,7,7,7,7,7,7,7,7,7,7,7,7,7,7,7,7,7,7,7,7,7,7,7,7,7,7,7,7,7,7,7,7,7,7,7,7,7,7,7,7,7,7,7,7,7,7,7,7,7,7,7,7,7,7,8,8,8,8,8,8,8,8,8,8,8,8,8,8,8,8,8,8,8,8,8,8,8,8,8,8,8,8,8,8,8,8,8,8,8,8,8,8,8,8,8,8,8,8,8,8,8,8,8,8,8,8,8,8,8,8,8,8,8,8,8,8,8,8,8,8,8,8,8,8,8,8,8,8,8,8,8,8,8,8,8,8,8,8,8,8,8,8,8,8,8,8,8,8,8,8,8,8,8,8,8,8,8,8,8,8,8,8,8,8,8,8,8,8,8,8,8,8,8,8,8,8,8,8,8,8,8,8]))) (
 let b2:=(jhE (ByteArray.mk #[0,1,2,2,3,3,3,3,4,4,4,4,4,4,4,4,5,5,5,5,5,5,5,5,5,5,5,5,5,5,5,5,6,6,6,6,6,6,6,6,6,6,6,6,6,6,6,6,6,6,6,6,6,6,6,6,6,6,6,6,6,6,6,6,7,7,7,7,7,7,7,7,7,7,7,7,7,7,7,7,7,7,7,7,7,7,7,7,7,7,7,7,7,7,7,7,7,7,7,7,7,7,7,7,7,7,7,7,7,7,7,7,7,7,7,7,7,7,7,7,7,7,7,7,7,7,7,7,8,8,8,8,8,8,8,8,8,8,8,8,8,8,8,8,8,8,8,8,8,8,8,8,8,8,8,8,8,8,8,8,8,8,8,8,8,8,8,8,8,8,8,8,8,8,8,8,8,8,8,8,8,8,8,8,8,8,8,8,8,8,8,8,8,8,8,8,8,8,8,8,8,8,8,8,8,8,8,8,8,8,8,8,8,8,8,8,8,8,8,8,8,8,8,8,8,8,8,8,8,8,8,8,8,8,8,8,8,8,8,8,8,8,8,8,8,8,8,8,8,8,8,8,8,8,8,8]) e)
 let y:=(w64 b2)
 let v:=(w64 (0+y))
 some v) none)))
def jdv (a:Int):Option (Int):=
 (jeF a).bind fun b=>
 some b
def jaG (a:Int):Option (Bool):=
 some (a != a)
def j9U (a b:Int):Option (Bool):=
 (jaG a).bind fun c=>
 cond c (
 (jaG b).bind fun d=>
 some (cond (!d) true (decide (a<b)))) (
 some (decide (a<b)))
def j0Z (o p q b:Int) (a:(List Int)):Option ((Int×Int×Int×Int×(List Int)) ⊕ ((Int×Int×Int×(List Int)))):=
 cond (decide (b>o)) (
 cond (inR b (List.length a)) (
 let j:=(List.getD a (Int.toNat b) 0)
 let c:=(w64 (b-1))
 cond (inR c (List.length a)) (
 let m:=(List.getD a (Int.toNat c) 0)
 (j9U j m).bind fun l=>
 cond l (
 let d:=(w64 (b-1))
 let e:=(w64 (b-1))
 cond (inR e (List.length a)) (
 let n:=(List.getD a (Int.toNat e) 0)
 cond (inR b (List.length a)) (
 let g:=(List.getD a (Int.toNat b) 0)
 cond (inR b (List.length a)) (
 let f:(List Int):=(List.set a (Int.toNat b) n)
 cond (inR d (List.length f)) (
 let i:(List Int):=(List.set f (Int.toNat d) g)
 let k:=(w64 (b-1))
 some (.inl (o,p,q,k,i))) none) none) none) none) (
 some (.inr (o,p,q,a)))) none) none) (
 some (.inr (o,p,q,a)))
def j0U [LP] (e b c a d):=LP.lp (fun h=>j0Z h.1 h.2.1 h.2.2.1 h.2.2.2.1 h.2.2.2.2) (e,b,c,a,d)
theorem j4a (e b c a d):j0U e b c a d=lpK (j0Z e b c a d) (fun h=>j0U h.1 h.2.1 h.2.2.1 h.2.2.2.1 h.2.2.2.2):=j05 _ _
def j0h [LP] (f d c:Int) (e:(List Int)):Option ((Int×Int×Int×(List Int)) ⊕ ((List Int))):=
 cond (decide (c<d)) (
 (j0U f d c c e).bind fun a=>
 let b:=(w64 (a.2.2.1+1))
 some (.inl (a.1,a.2.1,b,a.2.2.2))) (
 some (.inr e))
def j0V [LP] (d a b c):=LP.lp (fun h=>j0h h.1 h.2.1 h.2.2.1 h.2.2.2) (d,a,b,c)
theorem j2D (d a b c):j0V d a b c=lpK (j0h d a b c) (fun h=>j0V h.1 h.2.1 h.2.2.1 h.2.2.2):=j05 _ _
def j0S [LP] (a:(List Int)) (b c:Int):Option ((List Int)):=
 let d:=(w64 (b+1))
 (j0V b c d a).bind fun e=>
 some e
def j0H [LP] (d c f:Int) (g i:Bool) (e:(List Int)):Option ((Int×Int×Int×Bool×Bool×(List Int)) ⊕ ((List Int))):=
 let a:=(w64 (c-d))
 cond (decide (a≤12)) (
 (j0S e d c).bind fun b=>
 some (.inr b)) (
 cond (f==0) (
 none) (
 cond (!g) (
 none) (
 none)))
def j2f [LP] (f b d e a c):=LP.lp (fun h=>j0H h.1 h.2.1 h.2.2.1 h.2.2.2.1 h.2.2.2.2.1 h.2.2.2.2.2) (f,b,d,e,a,c)
theorem j9j (f b d e a c):j2f f b d e a c=lpK (j0H f b d e a c) (fun h=>j2f h.1 h.2.1 h.2.2.1 h.2.2.2.1 h.2.2.2.2.1 h.2.2.2.2.2):=j05 _ _
def j1y [LP] (b:(List Int)) (c d a:Int):Option ((List Int)):=
 (j2f c d a true true b).bind fun e=>
 some e
def j2T [LP] (a:(List Int)):Option ((List Int)):=
 let b:=(Int.ofNat (List.length a))
 let d:Int:=(IntKind.wrap .u64 b)
 (jdv d).bind fun e=>
 (j1y a 0 b e).bind fun c=>
 some c
def j1T (e b c:Int) (a:(List Int)):Option ((Int×Int×Int×(List Int)) ⊕ (Tn1)):=
 let m:=(Int.ofNat (List.length a-(Int.toNat b)))
 cond (decide (c<m)) (
 cond (inR c (List.length a-(Int.toNat b))) (
 let f:=(List.getD a ((Int.toNat b)+(Int.toNat c)) 0)
 let d:=(w64 (c-1))
 cond (inR d (List.length a-(Int.toNat b))) (
 let k:=(List.getD a ((Int.toNat b)+(Int.toNat d)) 0)
 cond (f != k) (
 cond (inR c (List.length a-(Int.toNat b))) (
 let j:=(List.getD a ((Int.toNat b)+(Int.toNat c)) 0)
 cond (inR e (List.length a)) (
 let n:(List Int):=(List.set a (Int.toNat e) j)
 let i:=(w64 (e+1))
 let g:=(w64 (c+1))
 some (.inl (i,(Int.ofNat (Int.toNat b)),g,n))) none) none) (
 let l:=(w64 (c+1))
 some (.inl (e,(Int.ofNat (Int.toNat b)),l,a)))) none) none) (
 some (.inr (e,a)))
def j1z [LP] (d b a c):=LP.lp (fun h=>j1T h.1 h.2.1 h.2.2.1 h.2.2.2) (d,b,a,c)
theorem j6q (d b a c):j1z d b a c=lpK (j1T d b a c) (fun h=>j1z h.1 h.2.1 h.2.2.1 h.2.2.2):=j05 _ _
def j0G [LP] (c:Int) (b:(List Int)):Option (Tn1 ⊕ (Tn1 ⊕ (List Int))):=
 let i:=(Int.ofNat (List.length b))
 cond (decide (c<i)) (
 cond (inR c (List.length b)) (
 let j:=(List.getD b (Int.toNat c) 0)
 let d:=(w64 (c-1))
 cond (inR d (List.length b)) (
 let g:=(List.getD b (Int.toNat d) 0)
 cond (j==g) (
 cond (decide (0≤c)&&decide (c≤(Int.ofNat (List.length b)))) (
 (j1z c (Int.ofNat (Int.toNat c)) 1 b).bind fun a=>
 cond (decide (0≤a.1)&&decide (a.1≤(Int.ofNat (List.length a.2)))) (
 let e:(List Int):=(List.take (Int.toNat a.1) a.2++List.replicate (List.length a.2-(Int.toNat a.1)) 0)
 cond (decide (0≤a.1)&&decide (a.1≤(Int.ofNat (List.length e)))) (
 some (.inr (.inl ((Int.ofNat (Int.toNat a.1)),e)))) none) none) none) (
 let f:=(w64 (c+1))
 some (.inl (f,b)))) none) none) (
 some (.inr (.inr b)))
def j0T [LP] (b a):=LP.lp (fun h=>j0G h.1 h.2) (b,a)
theorem j6r (b a):j0T b a=lpK (j0G b a) (fun h=>j0T h.1 h.2):=j05 _ _
def j2d [LP] (a:(List Int)):Option Tn1:=
 let c:=(Int.ofNat (List.length a))
 cond (decide (c<2)) (
 some ((Int.ofNat (List.length a)),a)) (
 (j0T 1 a).bind fun b=>
 sumC b (fun d=>
 some ((Int.ofNat (Int.toNat d.1)),d.2)) (fun e=>
 some ((Int.ofNat (List.length e)),e)))
def jba [LP] (f:(List Int)) (b a:Int):Option ((List Int)):=
 (j7h f).bind fun k=>
 (j1x k b a).bind fun e=>
 let g:(List Int):=(List.take (Int.toNat e.1) e.2)
 (j2T g).bind fun j=>
 (j2d j).bind fun d=>
 let c:(List Int):=(List.take (Int.toNat d.1) d.2)
 cond (decide (List.length c+List.length [a]≤j07)) (
 let i:(List Int):=(c++[a])
 some i) none
def j1b (a:Tn62):Option (Tn62):=
 some a
def j9k (a:Tn61):Option (Int):=
 cond (a.2.2.2.1==2) (
 let b:=(w64 (7*a.2.2.2.2.1))
 some b) (
 some a.2.2.2.2.1)
def j81 (a e:Int) (b:Tn2) (d:Int):Option (Bool):=
 cond (inR a (List.length b)) (
 let c:=(List.getD b (Int.toNat a) (0,0))
 some (decide (c.1>d))) none
def j3u (l:Int) (a:Tn2) (b d k:Int):Option ((Int×Tn2×Int×Int×Int) ⊕ (Int)):=
 cond (decide (d<k)) (
 let g:=(w64 (d+k))
 let e:Int:=(IntKind.wrap .u64 g)
 let i:Int:=(Int.fdiv e 2)
 let c:=(w64 i)
 (j81 c l a b).bind fun f=>
 cond (!f) (
 let j:=(w64 (c+1))
 some (.inl (l,a,b,j,k))) (
 some (.inl (l,a,b,d,c)))) (
 some (.inr d))
def j6g [LP] (e a b c d):=LP.lp (fun h=>j3u h.1 h.2.1 h.2.2.1 h.2.2.2.1 h.2.2.2.2) (e,a,b,c,d)
theorem jcY (e a b c d):j6g e a b c d=lpK (j3u e a b c d) (fun h=>j6g h.1 h.2.1 h.2.2.1 h.2.2.2.1 h.2.2.2.2):=j05 _ _
def j9l [LP] (c d:Int) (a:Tn2) (b:Int):Option (Int):=
 (j6g d a b 0 c).bind fun e=>
 some e
def j3m [LP] (a:Tn14) (b:Int):Option (Int):=
 let c:=(Int.ofNat (List.length a.2))
 (j9l c a.1 a.2 b).bind fun d=>
 some d
def j4r (a:Tn14) (b:Int):Option (Int):=
 cond (b==0) (
 some a.1) (
 let c:=(w64 (b-1))
 cond (inR c (List.length a.2)) (
 let d:=(List.getD a.2 (Int.toNat c) (0,0))
 some d.2) none)
def j0q [LP] (p c i:Int) (a:Tn2) (j:Tn15):Option ((Int×Int×Int×Tn2×Tn15) ⊕ (Tn15)):=
 cond (decide (p<c)) (
 (j3m (i,a) p).bind fun b=>
 let l:=(Int.ofNat (List.length a))
 cond (decide (b<l)) (
 cond (inR b (List.length a)) (
 let e:=(List.getD a (Int.toNat b) (0,0))
 let f:Int:=(if e.1<c then e.1 else c:Int)
 (j4r (i,a) b).bind fun m=>
 let g:Tn15:=[(p,(f,m))]
 cond (decide (List.length j+List.length g≤j07)) (
 let n:Tn15:=(j++g)
 some (.inl (f,c,i,a,n))) none) none) (
 (j4r (i,a) b).bind fun o=>
 let d:Tn15:=[(p,(c,o))]
 cond (decide (List.length j+List.length d≤j07)) (
 let k:Tn15:=(j++d)
 some (.inl (c,c,i,a,k))) none)) (
 some (.inr j))
def j27 [LP] (e c b a d):=LP.lp (fun h=>j0q h.1 h.2.1 h.2.2.1 h.2.2.2.1 h.2.2.2.2) (e,c,b,a,d)
theorem j2x (e c b a d):j27 e c b a d=lpK (j0q e c b a d) (fun h=>j27 h.1 h.2.1 h.2.2.1 h.2.2.2.1 h.2.2.2.2):=j05 _ _
def j1q [LP] (b:Tn14) (a c:Int):Option (Tn15):=
 (j27 a c b.1 b.2 ([]:Tn15)).bind fun d=>
 some d
def j4n (a:(Int×Int)):Option (Int):=
 let c:Int:=(if (-1048576)>a.1 then (-1048576) else a.1:Int)
 let d:Int:=(if 1048576<c then 1048576 else c:Int)
 let e:=(w64 (d*86400))
 let b:=(w64 (e+a.2))
 some b
def j1M (l a m f:Int) (b:Tn15):Option ((Int×Int×Int×Int×Tn15) ⊕ ((Int×Bool) ⊕ Unit)):=
 cond (decide (a<l)) (
 cond (inR a (List.length b)) (
 let c:=(List.getD b (Int.toNat a) (0,(0,0))).1
 let k:=(List.getD b (Int.toNat a) (0,(0,0))).2.1
 let i:=(List.getD b (Int.toNat a) (0,(0,0))).2.2
 (j4n (m,f)).bind fun g=>
 let d:=(w64 (g-i))
 let e:Int:=(if d>c then d else c:Int)
 cond (decide (e<k)) (
 some (.inr (.inl (e,true)))) (
 let j:=(w64 (a+1))
 some (.inl (l,j,m,f,b)))) none) (
 some (.inr (.inr ())))
def j2U [LP] (c d e a b):=LP.lp (fun h=>j1M h.1 h.2.1 h.2.2.1 h.2.2.2.1 h.2.2.2.2) (c,d,e,a,b)
theorem j4E (c d e a b):j2U c d e a b=lpK (j1M c d e a b) (fun h=>j2U h.1 h.2.1 h.2.2.1 h.2.2.2.1 h.2.2.2.2):=j05 _ _
def j23 [LP] (a:Tn14) (b:(Int×Int)):Option (Int×Bool):=
 (j1q (a.1,a.2) 0 8589934593).bind fun c=>
 let d:=(Int.ofNat (List.length c))
 (j2U d 0 b.1 b.2 c).bind fun e=>
 sumC e (fun f=>
 some (f.1,f.2)) (fun g=>
 some (0,false))
def j0M [LP] (b:Tn14) (a:Tn61) (c:Int):Option (Int×Bool):=
 cond (decide (c>8589934592)) (
 some (0,false)) (
 cond (a.2.2.2.1 != 0) (
 (j9k (a.1,(a.2.1,((a.2.2.1.1,a.2.2.1.2),(a.2.2.2.1,(a.2.2.2.2.1,(a.2.2.2.2.2.1,(a.2.2.2.2.2.2.1,(a.2.2.2.2.2.2.2.1,a.2.2.2.2.2.2.2.2))))))))).bind fun j=>
 let k:=(w64 (c*j))
 let i:=(w64 (a.2.2.1.1+k))
 (j23 (b.1,b.2) (i,a.2.2.1.2)).bind fun d=>
 some (d.1,d.2)) (
 (j23 (b.1,b.2) (a.2.2.1.1,a.2.2.1.2)).bind fun e=>
 let l:=(w64 (3600*a.2.2.2.2.1))
 let g:=(w64 (l*c))
 let f:=(w64 (e.1+g))
 some (f,(cond e.2 (decide (f≤8589934592)) false))))
def j3M (a:Tn2):Option (Tn2):=
 cond (decide (List.length ([]:List ((Int×Int)))+List.length a≤j07)) (
 some (([]:List ((Int×Int)))++a)) none
def j8r (a:(Int×Int)):Option (Bool):=
 some (decide (a.2≤a.1))
def j0N (g b:Int) (a:Tn2):Option ((Int×Int×Tn2) ⊕ (Tn14 ⊕ Tn2)):=
 cond (decide (b<g)) (
 cond (inR b (List.length a)) (
 let c:=(List.getD a (Int.toNat b) (0,0)).1
 let d:=(List.getD a (Int.toNat b) (0,0)).2
 (j8r (c,d)).bind fun e=>
 cond e (
 some (.inr (.inl (b,a)))) (
 let f:=(w64 (b+1))
 some (.inl (g,f,a)))) none) (
 some (.inr (.inr a)))
def j0w [LP] (c b a):=LP.lp (fun h=>j0N h.1 h.2.1 h.2.2) (c,b,a)
theorem j3F (c b a):j0w c b a=lpK (j0N c b a) (fun h=>j0w h.1 h.2.1 h.2.2):=j05 _ _
def j0W [LP] (a:Tn2):Option Tn14:=
 let c:=(Int.ofNat (List.length a))
 (j0w c 0 a).bind fun b=>
 sumC b (fun d=>
 some (d.1,d.2)) (fun e=>
 some ((-1),e))
def j0I (e d:Int) (a:Tn2):Option ((Int×Int×Tn2) ⊕ (Tn14)):=
 let k:=(Int.ofNat (List.length a))
 cond (decide (d<k)) (
 cond (inR d (List.length a)) (
 let b:=(List.getD a (Int.toNat d) (0,0)).1
 let c:=(List.getD a (Int.toNat d) (0,0)).2
 (j8r (b,c)).bind fun g=>
 cond (!g) (
 cond (inR e (List.length a)) (
 let l:Tn2:=(List.set a (Int.toNat e) (b,c))
 let j:=(w64 (e+1))
 let i:=(w64 (d+1))
 some (.inl (j,i,l))) none) (
 let f:=(w64 (d+1))
 some (.inl (e,f,a)))) none) (
 some (.inr (e,a)))
def j0E [LP] (c b a):=LP.lp (fun h=>j0I h.1 h.2.1 h.2.2) (c,b,a)
theorem j3p (c b a):j0E c b a=lpK (j0I c b a) (fun h=>j0E h.1 h.2.1 h.2.2):=j05 _ _
def j0z [LP] (c:Tn2):Option Tn14:=
 (j0W c).bind fun b=>
 cond (b.1==(-1)) (
 some ((Int.ofNat (List.length b.2)),b.2)) (
 let e:=(w64 (b.1+1))
 (j0E b.1 e b.2).bind fun a=>
 cond (decide (0≤a.1)&&decide (a.1≤(Int.ofNat (List.length a.2)))) (
 let d:Tn2:=(List.take (Int.toNat a.1) a.2++List.replicate (List.length a.2-(Int.toNat a.1)) (0,0))
 cond (decide (0≤a.1)&&decide (a.1≤(Int.ofNat (List.length d)))) (
 some ((Int.ofNat (Int.toNat a.1)),d)) none) none)
def j72 (a b:(Int×Int)):Option (Int):=
 let c:=(w64 (a.1-b.1))
 some c
def j1j (a:Tn2):Option (Tn2):=
 jo9 ((.pair (.int .i64) (.int .i64))) (fun b c=>(j72 b c).getD 0) a
def j3W (k d:Int) (a e:Tn2):Option ((Int×Int×Tn2×Tn2) ⊕ (Tn2)):=
 cond (decide (d<k)) (
 cond (inR d (List.length e)) (
 let f:=(List.getD e (Int.toNat d) (0,0)).1
 let c:=(List.getD e (Int.toNat d) (0,0)).2
 let b:=(Int.ofNat (List.length a))
 cond (decide (b>0)) (
 let i:=(w64 (b-1))
 cond (inR i (List.length a)) (
 let t:=(List.getD a (Int.toNat i) (0,0)).2
 cond (decide (f≤t)) (
 let g:=(w64 (b-1))
 let l:=(w64 (b-1))
 cond (inR l (List.length a)) (
 let j:=(List.getD a (Int.toNat l) (0,0)).2
 let u:Int:=(if c>j then c else j:Int)
 cond (inR g (List.length a)) (
 let r:Tn2:=(List.set a (Int.toNat g) ((List.getD a (Int.toNat g) (0,0)).1,u))
 let v:=(w64 (d+1))
 some (.inl (k,v,r,e))) none) none) (
 let m:Tn2:=[(f,c)]
 cond (decide (List.length a+List.length m≤j07)) (
 let p:Tn2:=(a++m)
 let o:=(w64 (d+1))
 some (.inl (k,o,p,e))) none)) none) (
 let n:Tn2:=[(f,c)]
 cond (decide (List.length a+List.length n≤j07)) (
 let q:Tn2:=(a++n)
 let s:=(w64 (d+1))
 some (.inl (k,s,q,e))) none)) none) (
 some (.inr a))
def j5S [LP] (b c d a):=LP.lp (fun h=>j3W h.1 h.2.1 h.2.2.1 h.2.2.2) (b,c,d,a)
theorem jae (b c d a):j5S b c d a=lpK (j3W b c d a) (fun h=>j5S h.1 h.2.1 h.2.2.1 h.2.2.2):=j05 _ _
def j5v [LP] (c:Tn2):Option (Tn2):=
 (j3M c).bind fun f=>
 (j0z f).bind fun b=>
 let d:Tn2:=(List.take (Int.toNat b.1) b.2)
 (j1j d).bind fun a=>
 let e:=(Int.ofNat (List.length a))
 (j5S e 0 ([]:Tn2) a).bind fun g=>
 some g
def j4b (u:Tn2) (g r p:Int) (k:Tn2) (s f e a d:Int) (t:Tn2) (q:Tn15):Option ((Tn2×Int×Int×Int×Tn2×Int×Int×Int×Int×Int×Tn2×Tn15) ⊕ ((Tn2×Int×Int×Int×Int×Int×Int×Tn2×Tn15))):=
 cond (decide (f<s)) (
 cond (inR f (List.length k)) (
 let b:=(List.getD k (Int.toNat f) (0,0))
 let c:=(w64 (g+b.1))
 let l:Int:=(if c>e then c else e:Int)
 let j:=(w64 (g+b.2))
 let n:Int:=(if j<a then j else a:Int)
 let i:Tn2:=[(l,n)]
 cond (decide (List.length t+List.length i≤j07)) (
 let m:Tn2:=(t++i)
 let o:=(w64 (f+1))
 some (.inl (u,g,r,p,k,s,o,e,a,d,m,q))) none) none) (
 some (.inr (u,g,r,p,e,a,d,t,q)))
def j5w [LP] (m d e j g f k i a b l c):=LP.lp (fun h=>j4b h.1 h.2.1 h.2.2.1 h.2.2.2.1 h.2.2.2.2.1 h.2.2.2.2.2.1 h.2.2.2.2.2.2.1 h.2.2.2.2.2.2.2.1 h.2.2.2.2.2.2.2.2.1 h.2.2.2.2.2.2.2.2.2.1 h.2.2.2.2.2.2.2.2.2.2.1 h.2.2.2.2.2.2.2.2.2.2.2) (m,d,e,j,g,f,k,i,a,b,l,c)
theorem jc7 (m d e j g f k i a b l c):j5w m d e j g f k i a b l c=lpK (j4b m d e j g f k i a b l c) (fun h=>j5w h.1 h.2.1 h.2.2.1 h.2.2.2.1 h.2.2.2.2.1 h.2.2.2.2.2.1 h.2.2.2.2.2.2.1 h.2.2.2.2.2.2.2.1 h.2.2.2.2.2.2.2.2.1 h.2.2.2.2.2.2.2.2.2.1 h.2.2.2.2.2.2.2.2.2.2.1 h.2.2.2.2.2.2.2.2.2.2.2):=j05 _ _
def j28 [LP] (f:Tn2) (g i j m b e:Int) (l:Tn2) (k:Tn15):Option ((Tn2×Int×Int×Int×Int×Int×Int×Tn2×Tn15) ⊕ ((Tn2×Int×Int×Tn2×Tn15))):=
 cond (decide (g<b)) (
 let c:=(Int.ofNat (List.length f))
 (j5w f g i j f c 0 m b e l k).bind fun a=>
 let d:=(w64 (a.2.1+604800))
 some (.inl (a.1,d,a.2.2.1,a.2.2.2.1,a.2.2.2.2.1,a.2.2.2.2.2.1,a.2.2.2.2.2.2.1,a.2.2.2.2.2.2.2.1,a.2.2.2.2.2.2.2.2))) (
 some (.inr (f,i,j,l,k)))
def j5x [LP] (j c d f e a b i g):=LP.lp (fun h=>j28 h.1 h.2.1 h.2.2.1 h.2.2.2.1 h.2.2.2.2.1 h.2.2.2.2.2.1 h.2.2.2.2.2.2.1 h.2.2.2.2.2.2.2.1 h.2.2.2.2.2.2.2.2) (j,c,d,f,e,a,b,i,g)
theorem jc8 (j c d f e a b i g):j5x j c d f e a b i g=lpK (j28 j c d f e a b i g) (fun h=>j5x h.1 h.2.1 h.2.2.1 h.2.2.2.1 h.2.2.2.2.1 h.2.2.2.2.2.1 h.2.2.2.2.2.2.1 h.2.2.2.2.2.2.2.1 h.2.2.2.2.2.2.2.2):=j05 _ _
def j29 [LP] (q:Tn2) (o b:Int) (p:Tn2) (d:Tn15):Option ((Tn2×Int×Int×Tn2×Tn15) ⊕ (Tn2)):=
 cond (decide (b<o)) (
 cond (inR b (List.length d)) (
 let f:=(List.getD d (Int.toNat b) (0,(0,0))).1
 let n:=(List.getD d (Int.toNat b) (0,(0,0))).2.1
 let c:=(List.getD d (Int.toNat b) (0,(0,0))).2.2
 let k:=(w64 (f+c))
 let e:=(w64 (k-(-259200)))
 let j:=(Int.tmod e 604800)
 let i:=(w64 (e-j))
 let l:=(w64 (i+(-259200)))
 let g:=(w64 (l-c))
 (j5x q g o b f n c p d).bind fun a=>
 let m:=(w64 (a.2.2.1+1))
 some (.inl (a.1,a.2.1,m,a.2.2.2.1,a.2.2.2.2))) none) (
 some (.inr p))
def j5y [LP] (e a b d c):=LP.lp (fun h=>j29 h.1 h.2.1 h.2.2.1 h.2.2.2.1 h.2.2.2.2) (e,a,b,d,c)
theorem jc9 (e a b d c):j5y e a b d c=lpK (j29 e a b d c) (fun h=>j5y h.1 h.2.1 h.2.2.1 h.2.2.2.1 h.2.2.2.2):=j05 _ _
def j3N [LP] (b:Tn14) (e:Tn2) (a c:Int):Option (Tn2):=
 (j1q (b.1,b.2) a c).bind fun d=>
 let f:=(Int.ofNat (List.length d))
 (j5y e f 0 ([]:Tn2) d).bind fun i=>
 (j5v i).bind fun g=>
 some g
def j3q (u s:Int) (j:(List Int)) (r d:Int) (w:ByteArray) (k:Int) (i:(List Int)) (g b c:Int) (v:Tn2) (t:Tn15):Option ((Int×Int×(List Int)×Int×Int×ByteArray×Int×(List Int)×Int×Int×Int×Tn2×Tn15) ⊕ ((Int×Int×ByteArray×Int×(List Int)×Tn2×Tn15))):=
 cond (decide (d<r)) (
 cond (inR d (List.length j)) (
 let o:=(List.getD j (Int.toNat d) 0)
 let n:=(w64 (o*86400))
 let a:=(w64 (n-c))
 let q:Int:=(if a>g then a else g:Int)
 let e:=(w64 (a+86400))
 let m:Int:=(if e<b then e else b:Int)
 let f:Tn2:=[(q,m)]
 cond (decide (List.length v+List.length f≤j07)) (
 let p:Tn2:=(v++f)
 let l:=(w64 (d+1))
 some (.inl (u,s,j,r,l,w,k,i,g,b,c,p,t))) none) none) (
 some (.inr (u,s,w,k,i,v,t)))
def j3v [LP] (l i f g e n d c j a b m k):=LP.lp (fun h=>j3q h.1 h.2.1 h.2.2.1 h.2.2.2.1 h.2.2.2.2.1 h.2.2.2.2.2.1 h.2.2.2.2.2.2.1 h.2.2.2.2.2.2.2.1 h.2.2.2.2.2.2.2.2.1 h.2.2.2.2.2.2.2.2.2.1 h.2.2.2.2.2.2.2.2.2.2.1 h.2.2.2.2.2.2.2.2.2.2.2.1 h.2.2.2.2.2.2.2.2.2.2.2.2) (l,i,f,g,e,n,d,c,j,a,b,m,k)
theorem jay (l i f g e n d c j a b m k):j3v l i f g e n d c j a b m k=lpK (j3q l i f g e n d c j a b m k) (fun h=>j3v h.1 h.2.1 h.2.2.1 h.2.2.2.1 h.2.2.2.2.1 h.2.2.2.2.2.1 h.2.2.2.2.2.2.1 h.2.2.2.2.2.2.2.1 h.2.2.2.2.2.2.2.2.1 h.2.2.2.2.2.2.2.2.2.1 h.2.2.2.2.2.2.2.2.2.2.1 h.2.2.2.2.2.2.2.2.2.2.2.1 h.2.2.2.2.2.2.2.2.2.2.2.2):=j05 _ _
def j1F [LP] (k b:Int) (n:ByteArray) (l:Int) (d:(List Int)) (m:Tn2) (c:Tn15):Option ((Int×Int×ByteArray×Int×(List Int)×Tn2×Tn15) ⊕ (Tn2)):=
 cond (decide (b<k)) (
 cond (inR b (List.length c)) (
 let j:=(List.getD c (Int.toNat b) (0,(0,0))).1
 let e:=(List.getD c (Int.toNat b) (0,(0,0))).2.1
 let f:=(List.getD c (Int.toNat b) (0,(0,0))).2.2
 let g:=(Int.ofNat (List.length d))
 (j3v k b d g 0 n l d j e f m c).bind fun a=>
 let i:=(w64 (a.2.1+1))
 some (.inl (a.1,i,a.2.2.1,a.2.2.2.1,a.2.2.2.2.1,a.2.2.2.2.2.1,a.2.2.2.2.2.2))) none) (
 some (.inr m))
def j3w [LP] (c d g b a f e):=LP.lp (fun h=>j1F h.1 h.2.1 h.2.2.1 h.2.2.2.1 h.2.2.2.2.1 h.2.2.2.2.2.1 h.2.2.2.2.2.2) (c,d,g,b,a,f,e)
theorem jaz (c d g b a f e):j3w c d g b a f e=lpK (j1F c d g b a f e) (fun h=>j3w h.1 h.2.1 h.2.2.1 h.2.2.2.1 h.2.2.2.2.1 h.2.2.2.2.2.1 h.2.2.2.2.2.2):=j05 _ _
def j1P [LP] (c:Tn75) (a:Tn20) (b d:Int):Option (Tn2):=
 cond (inR a.2.1 (List.length c.2)) (
 let e:=(List.getD c.2 (Int.toNat a.2.1) (0,([]:Tn2)))
 (j1q (e.1,e.2) b d).bind fun f=>
 let i:=(Int.ofNat (List.length f))
 (j3w i 0 a.1 a.2.1 a.2.2 ([]:Tn2) f).bind fun j=>
 (j5v j).bind fun g=>
 some g) none
def j4c (c:Tn2) (b:Int) (e:Tn2) (f d j a:Int) (l:Tn2):Option ((Tn2×Int×Tn2×Int×Int×Int×Int×Tn2) ⊕ ((Tn2×Int×Tn2×Int×Int×Int×Int×Tn2))):=
 let g:=(Int.ofNat (List.length c))
 cond (decide (b<g)) (
 cond (inR b (List.length c)) (
 let i:=(List.getD c (Int.toNat b) (0,0))
 cond (decide (i.2≤j)) (
 let k:=(w64 (b+1))
 some (.inl (c,k,e,f,d,j,a,l))) (
 some (.inr (c,b,e,f,d,j,a,l)))) none) (
 some (.inr (c,b,e,f,d,j,a,l)))
def j5z [LP] (i g c d b f a e):=LP.lp (fun h=>j4c h.1 h.2.1 h.2.2.1 h.2.2.2.1 h.2.2.2.2.1 h.2.2.2.2.2.1 h.2.2.2.2.2.2.1 h.2.2.2.2.2.2.2) (i,g,c,d,b,f,a,e)
theorem jca (i g c d b f a e):j5z i g c d b f a e=lpK (j4c i g c d b f a e) (fun h=>j5z h.1 h.2.1 h.2.2.1 h.2.2.2.1 h.2.2.2.2.1 h.2.2.2.2.2.1 h.2.2.2.2.2.2.1 h.2.2.2.2.2.2.2):=j05 _ _
def j4d (b:Tn2) (p d a:Int) (j:Tn2) (e g o c:Int) (l:Tn2):Option ((Tn2×Int×Int×Int×Tn2×Int×Int×Int×Int×Tn2) ⊕ ((Tn2×Int×Int×Tn2×Int×Int×Int×Int×Tn2))):=
 let q:=(Int.ofNat (List.length b))
 cond (decide (a<q)) (
 cond (inR a (List.length b)) (
 let s:=(List.getD b (Int.toNat a) (0,0))
 cond (decide (s.1<c)) (
 cond (inR a (List.length b)) (
 let u:=(List.getD b (Int.toNat a) (0,0))
 cond (decide (d<u.1)) (
 cond (inR a (List.length b)) (
 let n:=(List.getD b (Int.toNat a) (0,0))
 let f:Tn2:=[(d,n.1)]
 cond (decide (List.length l+List.length f≤j07)) (
 let r:Tn2:=(l++f)
 cond (inR a (List.length b)) (
 let k:=(List.getD b (Int.toNat a) (0,0))
 let v:Int:=(if k.2>d then k.2 else d:Int)
 let w:=(w64 (a+1))
 some (.inl (b,p,v,w,j,e,g,o,c,r))) none) none) none) (
 cond (inR a (List.length b)) (
 let i:=(List.getD b (Int.toNat a) (0,0))
 let m:Int:=(if i.2>d then i.2 else d:Int)
 let t:=(w64 (a+1))
 some (.inl (b,p,m,t,j,e,g,o,c,l))) none)) none) (
 some (.inr (b,p,d,j,e,g,o,c,l)))) none) (
 some (.inr (b,p,d,j,e,g,o,c,l)))
def j4w [LP] (k j f e c d b i a g):=LP.lp (fun h=>j4d h.1 h.2.1 h.2.2.1 h.2.2.2.1 h.2.2.2.2.1 h.2.2.2.2.2.1 h.2.2.2.2.2.2.1 h.2.2.2.2.2.2.2.1 h.2.2.2.2.2.2.2.2.1 h.2.2.2.2.2.2.2.2.2) (k,j,f,e,c,d,b,i,a,g)
theorem jcb (k j f e c d b i a g):j4w k j f e c d b i a g=lpK (j4d k j f e c d b i a g) (fun h=>j4w h.1 h.2.1 h.2.2.1 h.2.2.2.1 h.2.2.2.2.1 h.2.2.2.2.2.1 h.2.2.2.2.2.2.1 h.2.2.2.2.2.2.2.1 h.2.2.2.2.2.2.2.2.1 h.2.2.2.2.2.2.2.2.2):=j05 _ _
def j2a [LP] (n:Tn2) (m:Int) (f:Tn2) (k e:Int) (l:Tn2):Option ((Tn2×Int×Tn2×Int×Int×Tn2) ⊕ (Tn2)):=
 cond (decide (e<k)) (
 cond (inR e (List.length f)) (
 let c:=(List.getD f (Int.toNat e) (0,0))
 (j5z n m f k e c.1 c.2 l).bind fun b=>
 (j4w b.1 b.2.1 b.2.2.2.2.2.1 b.2.1 b.2.2.1 b.2.2.2.1 b.2.2.2.2.1 b.2.2.2.2.2.1 b.2.2.2.2.2.2.1 b.2.2.2.2.2.2.2).bind fun a=>
 cond (decide (a.2.2.1<a.2.2.2.2.2.2.2.1)) (
 let d:Tn2:=[(a.2.2.1,a.2.2.2.2.2.2.2.1)]
 cond (decide (List.length a.2.2.2.2.2.2.2.2+List.length d≤j07)) (
 let i:Tn2:=(a.2.2.2.2.2.2.2.2++d)
 let j:=(w64 (a.2.2.2.2.2.1+1))
 some (.inl (a.1,a.2.1,a.2.2.2.1,a.2.2.2.2.1,j,i))) none) (
 let g:=(w64 (a.2.2.2.2.2.1+1))
 some (.inl (a.1,a.2.1,a.2.2.2.1,a.2.2.2.2.1,g,a.2.2.2.2.2.2.2.2)))) none) (
 some (.inr l))
def j3O [LP] (f e b c a d):=LP.lp (fun h=>j2a h.1 h.2.1 h.2.2.1 h.2.2.2.1 h.2.2.2.2.1 h.2.2.2.2.2) (f,e,b,c,a,d)
theorem jcc (f e b c a d):j3O f e b c a d=lpK (j2a f e b c a d) (fun h=>j3O h.1 h.2.1 h.2.2.1 h.2.2.2.1 h.2.2.2.2.1 h.2.2.2.2.2):=j05 _ _
def j2p [LP] (a b:Tn2):Option (Tn2):=
 let c:=(Int.ofNat (List.length a))
 (j3O b 0 a c 0 ([]:Tn2)).bind fun d=>
 some d
def j5T (c d:Tn2) (a b:Int) (n:Tn2):Option ((Tn2×Tn2×Int×Int×Tn2) ⊕ (Tn2)):=
 let w:=(Int.ofNat (List.length c))
 let o:=(Int.ofNat (List.length d))
 cond (cond (decide (a<w)) (decide (b<o)) false) (
 cond (inR a (List.length c)) (
 let g:=(List.getD c (Int.toNat a) (0,0))
 cond (inR b (List.length d)) (
 let f:=(List.getD d (Int.toNat b) (0,0))
 let k:Int:=(if f.1>g.1 then f.1 else g.1:Int)
 cond (inR a (List.length c)) (
 let l:=(List.getD c (Int.toNat a) (0,0))
 cond (inR b (List.length d)) (
 let m:=(List.getD d (Int.toNat b) (0,0))
 let j:Int:=(if m.2<l.2 then m.2 else l.2:Int)
 cond (decide (k<j)) (
 let i:Tn2:=[(k,j)]
 cond (decide (List.length n+List.length i≤j07)) (
 let e:Tn2:=(n++i)
 cond (inR a (List.length c)) (
 let u:=(List.getD c (Int.toNat a) (0,0))
 cond (inR b (List.length d)) (
 let t:=(List.getD d (Int.toNat b) (0,0))
 cond (decide (u.2<t.2)) (
 let q:=(w64 (a+1))
 some (.inl (c,d,q,b,e))) (
 let x:=(w64 (b+1))
 some (.inl (c,d,a,x,e)))) none) none) none) (
 cond (inR a (List.length c)) (
 let s:=(List.getD c (Int.toNat a) (0,0))
 cond (inR b (List.length d)) (
 let v:=(List.getD d (Int.toNat b) (0,0))
 cond (decide (s.2<v.2)) (
 let r:=(w64 (a+1))
 some (.inl (c,d,r,b,n))) (
 let p:=(w64 (b+1))
 some (.inl (c,d,a,p,n)))) none) none)) none) none) none) none) (
 some (.inr n))
def j3H [LP] (d e c a b):=LP.lp (fun h=>j5T h.1 h.2.1 h.2.2.1 h.2.2.2.1 h.2.2.2.2) (d,e,c,a,b)
theorem jhY (d e c a b):j3H d e c a b=lpK (j5T d e c a b) (fun h=>j3H h.1 h.2.1 h.2.2.1 h.2.2.2.1 h.2.2.2.2):=j05 _ _
def j6J [LP] (a b:Tn2):Option (Tn2):=
 (j3H a b 0 0 ([]:Tn2)).bind fun c=>
 some c
def j3P [LP] (a:Tn75) (b:Tn61) (d c:Int):Option (Tn2):=
 cond (inR b.2.1 (List.length a.2)) (
 let s:=(List.getD a.2 (Int.toNat b.2.1) (0,([]:Tn2)))
 (j0M (s.1,s.2) (b.1,(b.2.1,((b.2.2.1.1,b.2.2.1.2),(b.2.2.2.1,(b.2.2.2.2.1,(b.2.2.2.2.2.1,(b.2.2.2.2.2.2.1,(b.2.2.2.2.2.2.2.1,b.2.2.2.2.2.2.2.2)))))))) 0).bind fun i=>
 cond (cond (cond (!i.2) true (decide (i.1≥c))) true (decide (d≥c))) (
 some ([]:Tn2)) (
 let e:Int:=(if i.1>d then i.1 else d:Int)
 let l:Tn2:=[(e,c)]
 let w:=(Int.ofNat (List.length b.2.2.2.2.2.2.1))
 cond (decide (w>0)) (
 cond (inR b.2.1 (List.length a.2)) (
 let r:=(List.getD a.2 (Int.toNat b.2.1) (0,([]:Tn2)))
 (j3N (r.1,r.2) b.2.2.2.2.2.2.1 e c).bind fun k=>
 cond (b.2.2.2.2.2.2.2.2==1) (
 cond (inR b.2.2.2.2.2.2.2.1 (List.length a.1.2.2.1)) (
 let m:=(List.getD a.1.2.2.1 (Int.toNat b.2.2.2.2.2.2.2.1) (ByteArray.empty,(0,([]:(List Int)))))
 (j1P ((a.1.1,(a.1.2.1,(a.1.2.2.1,a.1.2.2.2))),a.2) (m.1,(m.2.1,m.2.2)) e c).bind fun x=>
 (j2p k x).bind fun u=>
 some u) none) (
 cond (b.2.2.2.2.2.2.2.2==2) (
 cond (inR b.2.2.2.2.2.2.2.1 (List.length a.1.2.2.1)) (
 let j:=(List.getD a.1.2.2.1 (Int.toNat b.2.2.2.2.2.2.2.1) (ByteArray.empty,(0,([]:(List Int)))))
 (j1P ((a.1.1,(a.1.2.1,(a.1.2.2.1,a.1.2.2.2))),a.2) (j.1,(j.2.1,j.2.2)) e c).bind fun t=>
 (j6J k t).bind fun v=>
 some v) none) (
 some k))) none) (
 cond (b.2.2.2.2.2.2.2.2==1) (
 cond (inR b.2.2.2.2.2.2.2.1 (List.length a.1.2.2.1)) (
 let f:=(List.getD a.1.2.2.1 (Int.toNat b.2.2.2.2.2.2.2.1) (ByteArray.empty,(0,([]:(List Int)))))
 (j1P ((a.1.1,(a.1.2.1,(a.1.2.2.1,a.1.2.2.2))),a.2) (f.1,(f.2.1,f.2.2)) e c).bind fun p=>
 (j2p l p).bind fun n=>
 some n) none) (
 cond (b.2.2.2.2.2.2.2.2==2) (
 cond (inR b.2.2.2.2.2.2.2.1 (List.length a.1.2.2.1)) (
 let g:=(List.getD a.1.2.2.1 (Int.toNat b.2.2.2.2.2.2.2.1) (ByteArray.empty,(0,([]:(List Int)))))
 (j1P ((a.1.1,(a.1.2.1,(a.1.2.2.1,a.1.2.2.2))),a.2) (g.1,(g.2.1,g.2.2)) e c).bind fun o=>
 (j6J l o).bind fun q=>
 some q) none) (
 some l))))) none
def j3x [LP] (a:Tn14) (b:Int):Option (Int):=
 (j3m (a.1,a.2) b).bind fun c=>
 (j4r (a.1,a.2) c).bind fun d=>
 some d
def jfh (a:Int):Option ((Int×Int)):=
 let e:=(w64 (Int.tdiv a 86400))
 let i:=(Int.tmod a 86400)
 cond (decide (i<0)) (
 let d:=(w64 (e-1))
 let f:=(w64 (d*86400))
 let g:=(w64 (a-f))
 some (d,g)) (
 let c:=(w64 (e*86400))
 let b:=(w64 (a-c))
 some (e,b))
def j0v [LP] (a:Tn14) (b:Int):Option ((Int×Int)):=
 (j3x (a.1,a.2) b).bind fun d=>
 let e:=(w64 (b+d))
 (jfh e).bind fun c=>
 some (c.1,c.2)
def j1U [LP] (p m o:Int) (d:Tn2) (q:ByteArray) (k a b c e:Int) (i:(List Int)) (j:Tn2) (f g:Int):Option ((Int×Int×Int×Tn2×ByteArray×Int×Int×Int×Int×Int×(List Int)×Tn2×Int×Int) ⊕ ((Int×Int×Int×Tn2×ByteArray×Int×Int×Int×Int×Int×(List Int)×Tn2×Int×Int))):=
 cond (decide (m>0)) (
 (j0M (o,d) (q,(k,((a,b),(c,(e,(i,(j,(f,g)))))))) m).bind fun l=>
 cond (cond l.2 (decide (l.1≤p)) false) (
 some (.inr (p,m,o,d,q,k,a,b,c,e,i,j,f,g))) (
 let n:=(w64 (m-1))
 some (.inl (p,n,o,d,q,k,a,b,c,e,i,j,f,g)))) (
 some (.inr (p,m,o,d,q,k,a,b,c,e,i,j,f,g)))
def j4P [LP] (n l m d o k a b c e i j f g):=LP.lp (fun h=>j1U h.1 h.2.1 h.2.2.1 h.2.2.2.1 h.2.2.2.2.1 h.2.2.2.2.2.1 h.2.2.2.2.2.2.1 h.2.2.2.2.2.2.2.1 h.2.2.2.2.2.2.2.2.1 h.2.2.2.2.2.2.2.2.2.1 h.2.2.2.2.2.2.2.2.2.2.1 h.2.2.2.2.2.2.2.2.2.2.2.1 h.2.2.2.2.2.2.2.2.2.2.2.2.1 h.2.2.2.2.2.2.2.2.2.2.2.2.2) (n,l,m,d,o,k,a,b,c,e,i,j,f,g)
theorem jbb (n l m d o k a b c e i j f g):j4P n l m d o k a b c e i j f g=lpK (j1U n l m d o k a b c e i j f g) (fun h=>j4P h.1 h.2.1 h.2.2.1 h.2.2.2.1 h.2.2.2.2.1 h.2.2.2.2.2.1 h.2.2.2.2.2.2.1 h.2.2.2.2.2.2.2.1 h.2.2.2.2.2.2.2.2.1 h.2.2.2.2.2.2.2.2.2.1 h.2.2.2.2.2.2.2.2.2.2.1 h.2.2.2.2.2.2.2.2.2.2.2.1 h.2.2.2.2.2.2.2.2.2.2.2.2.1 h.2.2.2.2.2.2.2.2.2.2.2.2.2):=j05 _ _
def j2q [LP] (q o p:Int) (e:Tn2) (r:ByteArray) (l b c d f:Int) (j:(List Int)) (k:Tn2) (g i:Int):Option ((Int×Int×Int×Tn2×ByteArray×Int×Int×Int×Int×Int×(List Int)×Tn2×Int×Int) ⊕ (Int)):=
 let m:=(w64 (o+1))
 (j0M (p,e) (r,(l,((b,c),(d,(f,(j,(k,(g,i)))))))) m).bind fun a=>
 cond (cond (!a.2) true (decide (a.1>q))) (
 some (.inr o)) (
 let n:=(w64 (o+1))
 some (.inl (q,n,p,e,r,l,b,c,d,f,j,k,g,i)))
def j4Q [LP] (n l m d o k a b c e i j f g):=LP.lp (fun h=>j2q h.1 h.2.1 h.2.2.1 h.2.2.2.1 h.2.2.2.2.1 h.2.2.2.2.2.1 h.2.2.2.2.2.2.1 h.2.2.2.2.2.2.2.1 h.2.2.2.2.2.2.2.2.1 h.2.2.2.2.2.2.2.2.2.1 h.2.2.2.2.2.2.2.2.2.2.1 h.2.2.2.2.2.2.2.2.2.2.2.1 h.2.2.2.2.2.2.2.2.2.2.2.2.1 h.2.2.2.2.2.2.2.2.2.2.2.2.2) (n,l,m,d,o,k,a,b,c,e,i,j,f,g)
theorem jg2 (n l m d o k a b c e i j f g):j4Q n l m d o k a b c e i j f g=lpK (j2q n l m d o k a b c e i j f g) (fun h=>j4Q h.1 h.2.1 h.2.2.1 h.2.2.2.1 h.2.2.2.2.1 h.2.2.2.2.2.1 h.2.2.2.2.2.2.1 h.2.2.2.2.2.2.2.1 h.2.2.2.2.2.2.2.2.1 h.2.2.2.2.2.2.2.2.2.1 h.2.2.2.2.2.2.2.2.2.2.1 h.2.2.2.2.2.2.2.2.2.2.2.1 h.2.2.2.2.2.2.2.2.2.2.2.2.1 h.2.2.2.2.2.2.2.2.2.2.2.2.2):=j05 _ _
def j20 [LP] (c:Tn14) (a:Tn61) (d:Int):Option (Int):=
 (j0M (c.1,c.2) (a.1,(a.2.1,((a.2.2.1.1,a.2.2.1.2),(a.2.2.2.1,(a.2.2.2.2.1,(a.2.2.2.2.2.1,(a.2.2.2.2.2.2.1,(a.2.2.2.2.2.2.2.1,a.2.2.2.2.2.2.2.2)))))))) 0).bind fun e=>
 cond (cond (!e.2) true (decide (e.1>d))) (
 some (-1)) (
 cond (a.2.2.2.1==0) (
 let k:=(w64 (d-e.1))
 let g:=(w64 (3600*a.2.2.2.2.1))
 cond (!(g==0)) (
 let n:=(w64 (Int.tdiv k g))
 some n) none) (
 (j0v (c.1,c.2) d).bind fun m=>
 let j:=(w64 (m.1-a.2.2.1.1))
 (j9k (a.1,(a.2.1,((a.2.2.1.1,a.2.2.1.2),(a.2.2.2.1,(a.2.2.2.2.1,(a.2.2.2.2.2.1,(a.2.2.2.2.2.2.1,(a.2.2.2.2.2.2.2.1,a.2.2.2.2.2.2.2.2))))))))).bind fun f=>
 cond (!(f==0)) (
 let i:=(w64 (Int.tdiv j f))
 let l:Int:=(if i>0 then i else 0:Int)
 (j4P d l c.1 c.2 a.1 a.2.1 a.2.2.1.1 a.2.2.1.2 a.2.2.2.1 a.2.2.2.2.1 a.2.2.2.2.2.1 a.2.2.2.2.2.2.1 a.2.2.2.2.2.2.2.1 a.2.2.2.2.2.2.2.2).bind fun b=>
 (j4Q b.1 b.2.1 b.2.2.1 b.2.2.2.1 b.2.2.2.2.1 b.2.2.2.2.2.1 b.2.2.2.2.2.2.1 b.2.2.2.2.2.2.2.1 b.2.2.2.2.2.2.2.2.1 b.2.2.2.2.2.2.2.2.2.1 b.2.2.2.2.2.2.2.2.2.2.1 b.2.2.2.2.2.2.2.2.2.2.2.1 b.2.2.2.2.2.2.2.2.2.2.2.2.1 b.2.2.2.2.2.2.2.2.2.2.2.2.2).bind fun o=>
 some o) none))
def j4W (f:Tn15) (m e:Int) (b:Tn15):Option ((Tn15×Int×Int×Tn15) ⊕ (Tn15)):=
 cond (decide (e<m)) (
 cond (inR e (List.length f)) (
 let a:=(List.getD f (Int.toNat e) (0,(0,0)))
 cond (decide (a.2.1≤a.1)) (
 let w:=(w64 (e+1))
 some (.inl (f,m,w,b))) (
 let d:=(Int.ofNat (List.length b))
 cond (decide (d>0)) (
 let i:=(w64 (d-1))
 cond (inR i (List.length b)) (
 let u:=(List.getD b (Int.toNat i) (0,(0,0))).2.1
 cond (u==a.1) (
 let j:=(w64 (d-1))
 cond (inR j (List.length b)) (
 let v:=(List.getD b (Int.toNat j) (0,(0,0))).2.2
 cond (v==a.2.2) (
 let c:=(w64 (d-1))
 cond (inR c (List.length b)) (
 let x:Tn15:=(List.set b (Int.toNat c) ((List.getD b (Int.toNat c) (0,(0,0))).1,(a.2.1,(List.getD b (Int.toNat c) (0,(0,0))).2.2)))
 let p:=(w64 (e+1))
 some (.inl (f,m,p,x))) none) (
 let k:Tn15:=[(a.1,(a.2.1,a.2.2))]
 cond (decide (List.length b+List.length k≤j07)) (
 let t:Tn15:=(b++k)
 let r:=(w64 (e+1))
 some (.inl (f,m,r,t))) none)) none) (
 let g:Tn15:=[(a.1,(a.2.1,a.2.2))]
 cond (decide (List.length b+List.length g≤j07)) (
 let q:Tn15:=(b++g)
 let n:=(w64 (e+1))
 some (.inl (f,m,n,q))) none)) none) (
 let l:Tn15:=[(a.1,(a.2.1,a.2.2))]
 cond (decide (List.length b+List.length l≤j07)) (
 let s:Tn15:=(b++l)
 let o:=(w64 (e+1))
 some (.inl (f,m,o,s))) none))) none) (
 some (.inr b))
def j4X [LP] (b d a c):=LP.lp (fun h=>j4W h.1 h.2.1 h.2.2.1 h.2.2.2) (b,d,a,c)
theorem je0 (b d a c):j4X b d a c=lpK (j4W b d a c) (fun h=>j4X h.1 h.2.1 h.2.2.1 h.2.2.2):=j05 _ _
def j6h [LP] (a:Tn15):Option (Tn15):=
 let b:=(Int.ofNat (List.length a))
 (j4X a b 0 ([]:Tn15)).bind fun c=>
 some c
def j1o [LP] (b6 o a8 v a4 a2:Int) (a7:ByteArray) (m f k g l:Int) (a:(List Int)) (j:Tn2) (i e p:Int) (c:Tn2) (b3 b:Int) (z:Tn15) (a6:Tn2):Option ((Int×Int×Int×Int×Int×Int×ByteArray×Int×Int×Int×Int×Int×(List Int)×Tn2×Int×Int×Int×Tn2×Int×Int×Tn15×Tn2) ⊕ ((Int×Int×Int×Int×Int×Int×ByteArray×Int×Int×Int×Int×Int×(List Int)×Tn2×Int×Int×Int×Tn2×Tn15×Tn2))):=
 cond (decide (o<b)) (
 cond (decide (o≥v)) (
 (j20 (p,c) (a7,(m,((f,k),(g,(l,(a,(j,(i,e)))))))) o).bind fun d=>
 let b4:=(w64 (d+1))
 (j0M (p,c) (a7,(m,((f,k),(g,(l,(a,(j,(i,e)))))))) b4).bind fun n=>
 cond (!n.2) (
 let a3:Int:=(if 8589934593<b then 8589934593 else b:Int)
 let a5:=(Int.ofNat (List.length a))
 cond (!(a5==0)) (
 let a1:=(Int.tmod d a5)
 cond (inR a1 (List.length a)) (
 let b5:=(List.getD a (Int.toNat a1) 0)
 let a0:Tn15:=[(o,(a3,b5))]
 cond (decide (List.length z+List.length a0≤j07)) (
 let b7:Tn15:=(z++a0)
 some (.inl (b6,a3,d,8589934593,a4,a2,a7,m,f,k,g,l,a,j,i,e,p,c,b3,b,b7,a6))) none) none) none) (
 let t:Int:=(if n.1<b then n.1 else b:Int)
 let r:=(Int.ofNat (List.length a))
 cond (!(r==0)) (
 let s:=(Int.tmod d r)
 cond (inR s (List.length a)) (
 let a9:=(List.getD a (Int.toNat s) 0)
 let w:Tn15:=[(o,(t,a9))]
 cond (decide (List.length z+List.length w≤j07)) (
 let b1:Tn15:=(z++w)
 some (.inl (b6,t,d,n.1,a4,a2,a7,m,f,k,g,l,a,j,i,e,p,c,b3,b,b1,a6))) none) none) none)) (
 let u:Int:=(if v<b then v else b:Int)
 let q:=(Int.ofNat (List.length a))
 cond (!(q==0)) (
 let y:=(Int.tmod a8 q)
 cond (inR y (List.length a)) (
 let b0:=(List.getD a (Int.toNat y) 0)
 let x:Tn15:=[(o,(u,b0))]
 cond (decide (List.length z+List.length x≤j07)) (
 let b2:Tn15:=(z++x)
 some (.inl (b6,u,a8,v,a4,a2,a7,m,f,k,g,l,a,j,i,e,p,c,b3,b,b2,a6))) none) none) none)) (
 some (.inr (b6,o,a8,v,a4,a2,a7,m,f,k,g,l,a,j,i,e,p,c,z,a6)))
def j2r [LP] (v s m p o n w l e j f k c i g d q a t b u r):=LP.lp (fun h=>j1o h.1 h.2.1 h.2.2.1 h.2.2.2.1 h.2.2.2.2.1 h.2.2.2.2.2.1 h.2.2.2.2.2.2.1 h.2.2.2.2.2.2.2.1 h.2.2.2.2.2.2.2.2.1 h.2.2.2.2.2.2.2.2.2.1 h.2.2.2.2.2.2.2.2.2.2.1 h.2.2.2.2.2.2.2.2.2.2.2.1 h.2.2.2.2.2.2.2.2.2.2.2.2.1 h.2.2.2.2.2.2.2.2.2.2.2.2.2.1 h.2.2.2.2.2.2.2.2.2.2.2.2.2.2.1 h.2.2.2.2.2.2.2.2.2.2.2.2.2.2.2.1 h.2.2.2.2.2.2.2.2.2.2.2.2.2.2.2.2.1 h.2.2.2.2.2.2.2.2.2.2.2.2.2.2.2.2.2.1 h.2.2.2.2.2.2.2.2.2.2.2.2.2.2.2.2.2.2.1 h.2.2.2.2.2.2.2.2.2.2.2.2.2.2.2.2.2.2.2.1 h.2.2.2.2.2.2.2.2.2.2.2.2.2.2.2.2.2.2.2.2.1 h.2.2.2.2.2.2.2.2.2.2.2.2.2.2.2.2.2.2.2.2.2) (v,s,m,p,o,n,w,l,e,j,f,k,c,i,g,d,q,a,t,b,u,r)
theorem jcZ (v s m p o n w l e j f k c i g d q a t b u r):j2r v s m p o n w l e j f k c i g d q a t b u r=lpK (j1o v s m p o n w l e j f k c i g d q a t b u r) (fun h=>j2r h.1 h.2.1 h.2.2.1 h.2.2.2.1 h.2.2.2.2.1 h.2.2.2.2.2.1 h.2.2.2.2.2.2.1 h.2.2.2.2.2.2.2.1 h.2.2.2.2.2.2.2.2.1 h.2.2.2.2.2.2.2.2.2.1 h.2.2.2.2.2.2.2.2.2.2.1 h.2.2.2.2.2.2.2.2.2.2.2.1 h.2.2.2.2.2.2.2.2.2.2.2.2.1 h.2.2.2.2.2.2.2.2.2.2.2.2.2.1 h.2.2.2.2.2.2.2.2.2.2.2.2.2.2.1 h.2.2.2.2.2.2.2.2.2.2.2.2.2.2.2.1 h.2.2.2.2.2.2.2.2.2.2.2.2.2.2.2.2.1 h.2.2.2.2.2.2.2.2.2.2.2.2.2.2.2.2.2.1 h.2.2.2.2.2.2.2.2.2.2.2.2.2.2.2.2.2.2.1 h.2.2.2.2.2.2.2.2.2.2.2.2.2.2.2.2.2.2.2.1 h.2.2.2.2.2.2.2.2.2.2.2.2.2.2.2.2.2.2.2.2.1 h.2.2.2.2.2.2.2.2.2.2.2.2.2.2.2.2.2.2.2.2.2):=j05 _ _
def j13 [LP] (y l w x k c:Int) (a0:ByteArray) (v p t q u:Int) (n:(List Int)) (s:Tn2) (r o z:Int) (i:Tn2) (m:Tn15) (d:Tn2):Option ((Int×Int×Int×Int×Int×Int×ByteArray×Int×Int×Int×Int×Int×(List Int)×Tn2×Int×Int×Int×Tn2×Tn15×Tn2) ⊕ ((Int×Int×Tn15))):=
 cond (decide (c<k)) (
 cond (inR c (List.length d)) (
 let b:=(List.getD d (Int.toNat c) (0,0)).1
 let f:=(List.getD d (Int.toNat c) (0,0)).2
 let e:Tn15:=[(l,(b,(-1)))]
 cond (decide (List.length m+List.length e≤j07)) (
 let j:Tn15:=(m++e)
 (j2r y b w x k c a0 v p t q u n s r o z i b f j d).bind fun a=>
 let g:=(w64 (a.2.2.2.2.2.1+1))
 some (.inl (a.1,a.2.1,a.2.2.1,a.2.2.2.1,a.2.2.2.2.1,g,a.2.2.2.2.2.2.1,a.2.2.2.2.2.2.2.1,a.2.2.2.2.2.2.2.2.1,a.2.2.2.2.2.2.2.2.2.1,a.2.2.2.2.2.2.2.2.2.2.1,a.2.2.2.2.2.2.2.2.2.2.2.1,a.2.2.2.2.2.2.2.2.2.2.2.2.1,a.2.2.2.2.2.2.2.2.2.2.2.2.2.1,a.2.2.2.2.2.2.2.2.2.2.2.2.2.2.1,a.2.2.2.2.2.2.2.2.2.2.2.2.2.2.2.1,a.2.2.2.2.2.2.2.2.2.2.2.2.2.2.2.2.1,a.2.2.2.2.2.2.2.2.2.2.2.2.2.2.2.2.2.1,a.2.2.2.2.2.2.2.2.2.2.2.2.2.2.2.2.2.2.1,a.2.2.2.2.2.2.2.2.2.2.2.2.2.2.2.2.2.2.2))) none) none) (
 some (.inr (y,l,m)))
def j2s [LP] (t r l o n m u k d i e j b g f c p a s q):=LP.lp (fun h=>j13 h.1 h.2.1 h.2.2.1 h.2.2.2.1 h.2.2.2.2.1 h.2.2.2.2.2.1 h.2.2.2.2.2.2.1 h.2.2.2.2.2.2.2.1 h.2.2.2.2.2.2.2.2.1 h.2.2.2.2.2.2.2.2.2.1 h.2.2.2.2.2.2.2.2.2.2.1 h.2.2.2.2.2.2.2.2.2.2.2.1 h.2.2.2.2.2.2.2.2.2.2.2.2.1 h.2.2.2.2.2.2.2.2.2.2.2.2.2.1 h.2.2.2.2.2.2.2.2.2.2.2.2.2.2.1 h.2.2.2.2.2.2.2.2.2.2.2.2.2.2.2.1 h.2.2.2.2.2.2.2.2.2.2.2.2.2.2.2.2.1 h.2.2.2.2.2.2.2.2.2.2.2.2.2.2.2.2.2.1 h.2.2.2.2.2.2.2.2.2.2.2.2.2.2.2.2.2.2.1 h.2.2.2.2.2.2.2.2.2.2.2.2.2.2.2.2.2.2.2) (t,r,l,o,n,m,u,k,d,i,e,j,b,g,f,c,p,a,s,q)
theorem j8f (t r l o n m u k d i e j b g f c p a s q):j2s t r l o n m u k d i e j b g f c p a s q=lpK (j13 t r l o n m u k d i e j b g f c p a s q) (fun h=>j2s h.1 h.2.1 h.2.2.1 h.2.2.2.1 h.2.2.2.2.1 h.2.2.2.2.2.1 h.2.2.2.2.2.2.1 h.2.2.2.2.2.2.2.1 h.2.2.2.2.2.2.2.2.1 h.2.2.2.2.2.2.2.2.2.1 h.2.2.2.2.2.2.2.2.2.2.1 h.2.2.2.2.2.2.2.2.2.2.2.1 h.2.2.2.2.2.2.2.2.2.2.2.2.1 h.2.2.2.2.2.2.2.2.2.2.2.2.2.1 h.2.2.2.2.2.2.2.2.2.2.2.2.2.2.1 h.2.2.2.2.2.2.2.2.2.2.2.2.2.2.2.1 h.2.2.2.2.2.2.2.2.2.2.2.2.2.2.2.2.1 h.2.2.2.2.2.2.2.2.2.2.2.2.2.2.2.2.2.1 h.2.2.2.2.2.2.2.2.2.2.2.2.2.2.2.2.2.2.1 h.2.2.2.2.2.2.2.2.2.2.2.2.2.2.2.2.2.2.2):=j05 _ _
def j16 [LP] (b:Tn75) (a:Tn61) (c d:Int):Option (Tn15):=
 cond (inR a.2.1 (List.length b.2)) (
 let i:=(List.getD b.2 (Int.toNat a.2.1) (0,([]:Tn2)))
 (j3P ((b.1.1,(b.1.2.1,(b.1.2.2.1,b.1.2.2.2))),b.2) (a.1,(a.2.1,((a.2.2.1.1,a.2.2.1.2),(a.2.2.2.1,(a.2.2.2.2.1,(a.2.2.2.2.2.1,(a.2.2.2.2.2.2.1,(a.2.2.2.2.2.2.2.1,a.2.2.2.2.2.2.2.2)))))))) c d).bind fun f=>
 let k:=(Int.ofNat (List.length f))
 (j2s d c (-1) (-1) k 0 a.1 a.2.1 a.2.2.1.1 a.2.2.1.2 a.2.2.2.1 a.2.2.2.2.1 a.2.2.2.2.2.1 a.2.2.2.2.2.2.1 a.2.2.2.2.2.2.2.1 a.2.2.2.2.2.2.2.2 i.1 i.2 ([]:Tn15) f).bind fun e=>
 let g:Tn15:=[(e.2.1,(e.1,(-1)))]
 cond (decide (List.length e.2.2+List.length g≤j07)) (
 let j:Tn15:=(e.2.2++g)
 (j6h j).bind fun l=>
 some l) none) none
def j4e (k:Int) (e:Tn31) (d b:Int) (i:Tn2):Option ((Int×Tn31×Int×Int×Tn2) ⊕ (Tn2)):=
 cond (decide (b<d)) (
 cond (inR b (List.length e)) (
 let a:=(List.getD e (Int.toNat b) (0,(0,(0,(0,0)))))
 cond (cond (a.1==0) (a.2.1==k) false) (
 let c:Tn2:=[(a.2.2.2.1,a.2.2.2.2)]
 cond (decide (List.length i+List.length c≤j07)) (
 let j:Tn2:=(i++c)
 let f:=(w64 (b+1))
 some (.inl (k,e,d,f,j))) none) (
 let g:=(w64 (b+1))
 some (.inl (k,e,d,g,i)))) none) (
 some (.inr i))
def j4x [LP] (e c b a d):=LP.lp (fun h=>j4e h.1 h.2.1 h.2.2.1 h.2.2.2.1 h.2.2.2.2) (e,c,b,a,d)
theorem jcd (e c b a d):j4x e c b a d=lpK (j4e e c b a d) (fun h=>j4x h.1 h.2.1 h.2.2.1 h.2.2.2.1 h.2.2.2.2):=j05 _ _
def j4o [LP] (b:Tn66) (a:Int):Option (Tn2):=
 let c:=(Int.ofNat (List.length b.2.2))
 (j4x a b.2.2 c 0 ([]:Tn2)).bind fun e=>
 (j5v e).bind fun d=>
 some d
def j3Q (n:Tn15) (l o m a:Int) (s:ByteArray) (d:Tn62) (f:Tn31) (t p e:Int) (r:Tn21) (q:Tn15) (c:Tn2):Option ((Tn15×Int×Int×Int×Int×ByteArray×Tn62×Tn31×Int×Int×Int×Tn21×Tn15×Tn2) ⊕ ((Tn15×Int×Int×ByteArray×Tn62×Tn31×Tn21×Tn15))):=
 cond (decide (a<m)) (
 cond (inR a (List.length c)) (
 let i:=(List.getD c (Int.toNat a) (0,0)).1
 let g:=(List.getD c (Int.toNat a) (0,0)).2
 let b:Tn15:=[(i,(g,e))]
 cond (decide (List.length q+List.length b≤j07)) (
 let j:Tn15:=(q++b)
 let k:=(w64 (a+1))
 some (.inl (n,l,o,m,k,s,d,f,t,p,e,r,j,c))) none) none) (
 some (.inr (n,l,o,s,d,f,r,q)))
def j2N [LP] (e j g k i m b d n a c l o f):=LP.lp (fun h=>j3Q h.1 h.2.1 h.2.2.1 h.2.2.2.1 h.2.2.2.2.1 h.2.2.2.2.2.1 h.2.2.2.2.2.2.1 h.2.2.2.2.2.2.2.1 h.2.2.2.2.2.2.2.2.1 h.2.2.2.2.2.2.2.2.2.1 h.2.2.2.2.2.2.2.2.2.2.1 h.2.2.2.2.2.2.2.2.2.2.2.1 h.2.2.2.2.2.2.2.2.2.2.2.2.1 h.2.2.2.2.2.2.2.2.2.2.2.2.2) (e,j,g,k,i,m,b,d,n,a,c,l,o,f)
theorem jbc (e j g k i m b d n a c l o f):j2N e j g k i m b d n a c l o f=lpK (j3Q e j g k i m b d n a c l o f) (fun h=>j2N h.1 h.2.1 h.2.2.1 h.2.2.2.1 h.2.2.2.2.1 h.2.2.2.2.2.1 h.2.2.2.2.2.2.1 h.2.2.2.2.2.2.2.1 h.2.2.2.2.2.2.2.2.1 h.2.2.2.2.2.2.2.2.2.1 h.2.2.2.2.2.2.2.2.2.2.1 h.2.2.2.2.2.2.2.2.2.2.2.1 h.2.2.2.2.2.2.2.2.2.2.2.2.1 h.2.2.2.2.2.2.2.2.2.2.2.2.2):=j05 _ _
def j1V [LP] (g:Tn15) (i d:Int) (s:ByteArray) (e:Tn62) (f:Tn31) (l:Tn21) (u:Tn15):Option ((Tn15×Int×Int×ByteArray×Tn62×Tn31×Tn21×Tn15) ⊕ (Tn15)):=
 cond (decide (d<i)) (
 cond (inR d (List.length g)) (
 let a:=(List.getD g (Int.toNat d) (0,(0,0)))
 cond (decide (a.2.2<0)) (
 let r:=(w64 (d+1))
 some (.inl (g,i,r,s,e,f,l,u))) (
 let z:Tn2:=(j63 ([]:Tn2) l a.2.2)
 cond (!(j7F l a.2.2)) (
 (j4o (s,(e,f)) a.2.2).bind fun x=>
 let m:Tn21:=(j7d l a.2.2 x)
 let n:Tn2:=[(a.1,a.2.1)]
 let w:Tn2:=(j63 ([]:Tn2) m a.2.2)
 (j2p n w).bind fun k=>
 let y:=(Int.ofNat (List.length k))
 (j2N g i d y 0 s e f a.1 a.2.1 a.2.2 m u k).bind fun c=>
 let p:=(w64 (c.2.2.1+1))
 some (.inl (c.1,c.2.1,p,c.2.2.2.1,c.2.2.2.2.1,c.2.2.2.2.2.1,c.2.2.2.2.2.2.1,c.2.2.2.2.2.2.2))) (
 let o:Tn2:=[(a.1,a.2.1)]
 let q:Tn2:=(j63 ([]:Tn2) l a.2.2)
 (j2p o q).bind fun j=>
 let v:=(Int.ofNat (List.length j))
 (j2N g i d v 0 s e f a.1 a.2.1 a.2.2 l u j).bind fun b=>
 let t:=(w64 (b.2.2.1+1))
 some (.inl (b.1,b.2.1,t,b.2.2.2.1,b.2.2.2.2.1,b.2.2.2.2.2.1,b.2.2.2.2.2.2.1,b.2.2.2.2.2.2.2))))) none) (
 some (.inr u))
def j3n [LP] (c e d g a b f i):=LP.lp (fun h=>j1V h.1 h.2.1 h.2.2.1 h.2.2.2.1 h.2.2.2.2.1 h.2.2.2.2.2.1 h.2.2.2.2.2.2.1 h.2.2.2.2.2.2.2) (c,e,d,g,a,b,f,i)
theorem jbd (c e d g a b f i):j3n c e d g a b f i=lpK (j1V c e d g a b f i) (fun h=>j3n h.1 h.2.1 h.2.2.1 h.2.2.2.1 h.2.2.2.2.1 h.2.2.2.2.2.1 h.2.2.2.2.2.2.1 h.2.2.2.2.2.2.2):=j05 _ _
def j4Y [LP] (a:Tn66) (b:Tn15):Option (Tn15):=
 let d:Tn21:=([]:Tn21)
 let c:=(Int.ofNat (List.length b))
 (j3n b c 0 a.1 a.2.1 a.2.2 d ([]:Tn15)).bind fun e=>
 some e
def j5n (b:Tn15) (d:Tn2) (a c:Int) (n:Tn15):Option ((Tn15×Tn2×Int×Int×Tn15) ⊕ (Tn15)):=
 let y:=(Int.ofNat (List.length b))
 let p:=(Int.ofNat (List.length d))
 cond (cond (decide (a<y)) (decide (c<p)) false) (
 cond (inR a (List.length b)) (
 let f:=(List.getD b (Int.toNat a) (0,(0,0)))
 cond (inR c (List.length d)) (
 let e:=(List.getD d (Int.toNat c) (0,0))
 let i:Int:=(if e.1>f.1 then e.1 else f.1:Int)
 cond (inR a (List.length b)) (
 let j:=(List.getD b (Int.toNat a) (0,(0,0)))
 cond (inR c (List.length d)) (
 let l:=(List.getD d (Int.toNat c) (0,0))
 let g:Int:=(if l.2<j.2.1 then l.2 else j.2.1:Int)
 cond (inR a (List.length b)) (
 let o:=(List.getD b (Int.toNat a) (0,(0,0)))
 cond (decide (i<g)) (
 let k:Tn15:=[(i,(g,o.2.2))]
 cond (decide (List.length n+List.length k≤j07)) (
 let m:Tn15:=(n++k)
 cond (inR a (List.length b)) (
 let u:=(List.getD b (Int.toNat a) (0,(0,0)))
 cond (inR c (List.length d)) (
 let q:=(List.getD d (Int.toNat c) (0,0))
 cond (decide (u.2.1<q.2)) (
 let t:=(w64 (a+1))
 some (.inl (b,d,t,c,m))) (
 let v:=(w64 (c+1))
 some (.inl (b,d,a,v,m)))) none) none) none) (
 cond (inR a (List.length b)) (
 let x:=(List.getD b (Int.toNat a) (0,(0,0)))
 cond (inR c (List.length d)) (
 let s:=(List.getD d (Int.toNat c) (0,0))
 cond (decide (x.2.1<s.2)) (
 let w:=(w64 (a+1))
 some (.inl (b,d,w,c,n))) (
 let r:=(w64 (c+1))
 some (.inl (b,d,a,r,n)))) none) none)) none) none) none) none) none) (
 some (.inr n))
def j3c [LP] (d e c a b):=LP.lp (fun h=>j5n h.1 h.2.1 h.2.2.1 h.2.2.2.1 h.2.2.2.2) (d,e,c,a,b)
theorem jgY (d e c a b):j3c d e c a b=lpK (j5n d e c a b) (fun h=>j3c h.1 h.2.1 h.2.2.1 h.2.2.2.1 h.2.2.2.2):=j05 _ _
def j6K [LP] (b:Tn15) (a:Tn2):Option (Tn15):=
 (j3c b a 0 0 ([]:Tn15)).bind fun c=>
 some c
def j4y (f:Tn15) (i e:Int) (g:Tn2):Option ((Tn15×Int×Int×Tn2) ⊕ (Tn2)):=
 cond (decide (e<i)) (
 cond (inR e (List.length f)) (
 let b:=(List.getD f (Int.toNat e) (0,(0,0)))
 let a:Tn2:=[(b.1,b.2.1)]
 cond (decide (List.length g+List.length a≤j07)) (
 let c:Tn2:=(g++a)
 let d:=(w64 (e+1))
 some (.inl (f,i,d,c))) none) none) (
 some (.inr g))
def j5c [LP] (b a d c):=LP.lp (fun h=>j4y h.1 h.2.1 h.2.2.1 h.2.2.2) (b,a,d,c)
theorem jd0 (b a d c):j5c b a d c=lpK (j4y b a d c) (fun h=>j5c h.1 h.2.1 h.2.2.1 h.2.2.2):=j05 _ _
def j6L [LP] (a:Tn15):Option (Tn2):=
 let d:=(Int.ofNat (List.length a))
 (j5c a d 0 ([]:Tn2)).bind fun c=>
 (j5v c).bind fun b=>
 some b
def j3y (a b:Tn3):Option (Int):=
 let c:=(w64 (a.1-b.1))
 some c
def j0K (a:Tn15):Option (Tn15):=
 jo9 ((.pair (.int .i64) (.pair (.int .i64) (.int .i64)))) (fun b c=>(j3y b c).getD 0) a
def j1g [LP] (q:Int) (g:Tn62) (v:Tn56) (f:Tn50) (k:Tn27) (j:Tn67) (e:Tn21) (u:ByteArray) (l:Tn62) (i:Tn31) (t w:Int) (d:Tn2) (b:Tn15):Option ((Int×Tn62×Tn56×Tn50×Tn27×Tn67×Tn21×ByteArray×Tn62×Tn31×Int×Int×Tn2×Tn15) ⊕ ((Tn2×Tn15))):=
 cond (decide (q≤0)) (
 some (.inr (d,b))) (
 cond (decide (q≤Int.ofNat (List.length g))) (
 let m:Int:=(q-1)
 let a:=(List.getD g (Int.toNat m) (ByteArray.empty,(0,((0,0),(0,(0,(([]:(List Int)),(([]:Tn2),(0,0)))))))))
 (j16 ((v,(f,(k,j))),e) (a.1,(a.2.1,((a.2.2.1.1,a.2.2.1.2),(a.2.2.2.1,(a.2.2.2.2.1,(a.2.2.2.2.2.1,(a.2.2.2.2.2.2.1,(a.2.2.2.2.2.2.2.1,a.2.2.2.2.2.2.2.2)))))))) t w).bind fun r=>
 (j4Y (u,(l,i)) r).bind fun s=>
 (j6K s d).bind fun c=>
 cond (decide (List.length b+List.length c≤j07)) (
 let p:Tn15:=(b++c)
 (j6L c).bind fun o=>
 (j2p d o).bind fun n=>
 some (.inl ((q-1),g,v,f,k,j,e,u,l,i,t,w,n,p))) none) none)
def j2V [LP] (n j o i e d f k c b m l g a):=LP.lp (fun h=>j1g h.1 h.2.1 h.2.2.1 h.2.2.2.1 h.2.2.2.2.1 h.2.2.2.2.2.1 h.2.2.2.2.2.2.1 h.2.2.2.2.2.2.2.1 h.2.2.2.2.2.2.2.2.1 h.2.2.2.2.2.2.2.2.2.1 h.2.2.2.2.2.2.2.2.2.2.1 h.2.2.2.2.2.2.2.2.2.2.2.1 h.2.2.2.2.2.2.2.2.2.2.2.2.1 h.2.2.2.2.2.2.2.2.2.2.2.2.2) (n,j,o,i,e,d,f,k,c,b,m,l,g,a)
theorem j96 (n j o i e d f k c b m l g a):j2V n j o i e d f k c b m l g a=lpK (j1g n j o i e d f k c b m l g a) (fun h=>j2V h.1 h.2.1 h.2.2.1 h.2.2.2.1 h.2.2.2.2.1 h.2.2.2.2.2.1 h.2.2.2.2.2.2.1 h.2.2.2.2.2.2.2.1 h.2.2.2.2.2.2.2.2.1 h.2.2.2.2.2.2.2.2.2.1 h.2.2.2.2.2.2.2.2.2.2.1 h.2.2.2.2.2.2.2.2.2.2.2.1 h.2.2.2.2.2.2.2.2.2.2.2.2.1 h.2.2.2.2.2.2.2.2.2.2.2.2.2):=j05 _ _
def j33 (j b:Int) (c:Tn2) (a:Tn15):Option ((Int×Int×Tn2×Tn15) ⊕ (Tn15)):=
 cond (decide (b<j)) (
 cond (inR b (List.length c)) (
 let e:=(List.getD c (Int.toNat b) (0,0)).1
 let f:=(List.getD c (Int.toNat b) (0,0)).2
 let d:Tn15:=[(e,(f,(-1)))]
 cond (decide (List.length a+List.length d≤j07)) (
 let g:Tn15:=(a++d)
 let i:=(w64 (b+1))
 some (.inl (j,i,c,g))) none) none) (
 some (.inr a))
def j2W [LP] (c d b a):=LP.lp (fun h=>j33 h.1 h.2.1 h.2.2.1 h.2.2.2) (c,d,b,a)
theorem j97 (c d b a):j2W c d b a=lpK (j33 c d b a) (fun h=>j2W h.1 h.2.1 h.2.2.1 h.2.2.2):=j05 _ _
def j2O [LP] (b:Tn75) (d:Tn66) (a c:Int):Option (Tn15):=
 cond (decide (a≥c)) (
 some ([]:Tn15)) (
 let j:Tn2:=[(a,c)]
 (j1b d.2.1).bind fun e=>
 (j2V (Int.ofNat (List.length e)) e b.1.1 b.1.2.1 b.1.2.2.1 b.1.2.2.2 b.2 d.1 d.2.1 d.2.2 a c j ([]:Tn15)).bind fun f=>
 let g:=(Int.ofNat (List.length f.1))
 (j2W g 0 f.1 f.2).bind fun l=>
 (j0K l).bind fun i=>
 (j6h i).bind fun k=>
 some k)
def j68 (a:Int):Option (Bool):=
 some (a != a)
def j21 (b:(List Int)) (j l d m:Int):Option (((List Int)×Int×Int×Int×Int) ⊕ (((List Int)×Int×Int×Int))):=
 cond (decide (d<m)) (
 let k:=(w64 (d+m))
 let i:Int:=(IntKind.wrap .u64 k)
 let c:Int:=(Int.fdiv i 2)
 let a:=(w64 c)
 cond (inR a (List.length b)) (
 let f:=(List.getD b (Int.toNat a) 0)
 (j9U f j).bind fun g=>
 cond g (
 let e:=(w64 (a+1))
 some (.inl (b,j,l,e,m))) (
 some (.inl (b,j,l,d,a)))) none) (
 some (.inr (b,j,l,d)))
def j1h [LP] (c e b a d):=LP.lp (fun h=>j21 h.1 h.2.1 h.2.2.1 h.2.2.2.1 h.2.2.2.2) (c,e,b,a,d)
theorem j8s (c e b a d):j1h c e b a d=lpK (j21 c e b a d) (fun h=>j1h h.1 h.2.1 h.2.2.1 h.2.2.2.1 h.2.2.2.2):=j05 _ _
def j0j [LP] (c:(List Int)) (b:Int):Option (Int×Bool):=
 let e:=(Int.ofNat (List.length c))
 (j1h c b e 0 e).bind fun a=>
 cond ((inR a.2.2.2 (List.length a.1)) || !(decide (a.2.2.2<a.2.2.1))) (
 let d:=(List.getD a.1 (Int.toNat a.2.2.2) 0)
 cond ((inR a.2.2.2 (List.length a.1)) || !((decide (a.2.2.2<a.2.2.1))&&(!(d==a.2.1)))) (
 let f:=(List.getD a.1 (Int.toNat a.2.2.2) 0)
 cond (decide (a.2.2.2<a.2.2.1)) (
 cond (d==a.2.1) (
 some (a.2.2.2,true)) (
 (j68 f).bind fun i=>
 cond i (
 (j68 a.2.1).bind fun g=>
 some (a.2.2.2,g)) (
 some (a.2.2.2,false)))) (
 cond ((d==a.2.1) || !false) (
 some (a.2.2.2,false)) none)) none) none
def jg3 (a:Tn25) (b:Int):Option (Bool):=
 some (cond (decide (a.2.2.2.1≤b)) (decide (b<a.2.2.2.2)) false)
def j5A (f e:Int) (d:Tn31) (c b:Int):Option ((Int×Int×Tn31×Int×Int) ⊕ (Int)):=
 cond (decide (b<c)) (
 cond (inR b (List.length d)) (
 let a:=(List.getD d (Int.toNat b) (0,(0,(0,(0,0)))))
 (jg3 (a.1,(a.2.1,(a.2.2.1,(a.2.2.2.1,a.2.2.2.2)))) e).bind fun m=>
 cond (cond (!m) true (a.1==0)) (
 let k:=(w64 (b+1))
 some (.inl (f,e,d,c,k))) (
 cond (a.1==1) (
 let n:=(w64 (b+1))
 some (.inl (a.2.1,e,d,c,n))) (
 cond (a.1 != 2) (
 let l:=(w64 (b+1))
 some (.inl (f,e,d,c,l))) (
 cond (f==a.2.1) (
 let j:=(w64 (b+1))
 some (.inl (a.2.2.1,e,d,c,j))) (
 cond (f==a.2.2.1) (
 let g:=(w64 (b+1))
 some (.inl (a.2.1,e,d,c,g))) (
 let i:=(w64 (b+1))
 some (.inl (f,e,d,c,i)))))))) none) (
 some (.inr f))
def j4Z [LP] (e d c b a):=LP.lp (fun h=>j5A h.1 h.2.1 h.2.2.1 h.2.2.2.1 h.2.2.2.2) (e,d,c,b,a)
theorem jeG (e d c b a):j4Z e d c b a=lpK (j5A e d c b a) (fun h=>j4Z h.1 h.2.1 h.2.2.1 h.2.2.2.1 h.2.2.2.2):=j05 _ _
def j7I [LP] (b:Tn31) (a c:Int):Option (Int):=
 let d:=(Int.ofNat (List.length b))
 (j4Z a c b d 0).bind fun e=>
 some e
def j3d (p q:Int) (j:Tn31) (n a:Int) (s:Tn56) (k:Tn50) (g:Tn27) (f:Tn67) (i:Tn21) (r:ByteArray) (e:Tn62) (d:Tn31) (o:(List Int)):Option ((Int×Int×Tn31×Int×Int×Tn56×Tn50×Tn27×Tn67×Tn21×ByteArray×Tn62×Tn31×(List Int)) ⊕ ((Int×Int×Tn56×Tn50×Tn27×Tn67×Tn21×ByteArray×Tn62×Tn31×(List Int)))):=
 cond (decide (a<n)) (
 cond (inR a (List.length j)) (
 let b:=(List.getD j (Int.toNat a) (0,(0,(0,(0,0)))))
 let c:(List Int):=[b.2.2.2.1,b.2.2.2.2]
 cond (decide (List.length o+List.length c≤j07)) (
 let m:(List Int):=(o++c)
 let l:=(w64 (a+1))
 some (.inl (p,q,j,n,l,s,k,g,f,i,r,e,d,m))) none) none) (
 some (.inr (p,q,s,k,g,f,i,r,e,d,o)))
def j3e [LP] (l m j i g o f d c e n b a k):=LP.lp (fun h=>j3d h.1 h.2.1 h.2.2.1 h.2.2.2.1 h.2.2.2.2.1 h.2.2.2.2.2.1 h.2.2.2.2.2.2.1 h.2.2.2.2.2.2.2.1 h.2.2.2.2.2.2.2.2.1 h.2.2.2.2.2.2.2.2.2.1 h.2.2.2.2.2.2.2.2.2.2.1 h.2.2.2.2.2.2.2.2.2.2.2.1 h.2.2.2.2.2.2.2.2.2.2.2.2.1 h.2.2.2.2.2.2.2.2.2.2.2.2.2) (l,m,j,i,g,o,f,d,c,e,n,b,a,k)
theorem j9V (l m j i g o f d c e n b a k):j3e l m j i g o f d c e n b a k=lpK (j3d l m j i g o f d c e n b a k) (fun h=>j3e h.1 h.2.1 h.2.2.1 h.2.2.2.1 h.2.2.2.2.1 h.2.2.2.2.2.1 h.2.2.2.2.2.2.1 h.2.2.2.2.2.2.2.1 h.2.2.2.2.2.2.2.2.1 h.2.2.2.2.2.2.2.2.2.1 h.2.2.2.2.2.2.2.2.2.2.1 h.2.2.2.2.2.2.2.2.2.2.2.1 h.2.2.2.2.2.2.2.2.2.2.2.2.1 h.2.2.2.2.2.2.2.2.2.2.2.2.2):=j05 _ _
def j1s [LP] (i j q p:Int) (s:ByteArray) (l:Tn62) (b:Tn31) (t a f:Int) (d:(List Int)) (k r:Tn15):Option ((Int×Int×Int×Int×ByteArray×Tn62×Tn31×Int×Int×Int×(List Int)×Tn15×Tn15) ⊕ ((Int×Int×ByteArray×Tn62×Tn31×(List Int)×Tn15×Tn15))):=
 cond (decide (j<a)) (
 cond (inR i (List.length d)) (
 let e:=(List.getD d (Int.toNat i) 0)
 let c:Int:=(if e<a then e else a:Int)
 (j7I b f j).bind fun m=>
 let g:Tn15:=[(j,(c,m))]
 cond (decide (List.length k+List.length g≤j07)) (
 let n:Tn15:=(k++g)
 let o:=(w64 (i+1))
 some (.inl (o,c,q,p,s,l,b,t,a,f,d,n,r))) none) none) (
 some (.inr (q,p,s,l,b,d,k,r)))
def j3X [LP] (m g i k n d c f a b l e j):=LP.lp (fun h=>j1s h.1 h.2.1 h.2.2.1 h.2.2.2.1 h.2.2.2.2.1 h.2.2.2.2.2.1 h.2.2.2.2.2.2.1 h.2.2.2.2.2.2.2.1 h.2.2.2.2.2.2.2.2.1 h.2.2.2.2.2.2.2.2.2.1 h.2.2.2.2.2.2.2.2.2.2.1 h.2.2.2.2.2.2.2.2.2.2.2.1 h.2.2.2.2.2.2.2.2.2.2.2.2) (m,g,i,k,n,d,c,f,a,b,l,e,j)
theorem j9W (m g i k n d c f a b l e j):j3X m g i k n d c f a b l e j=lpK (j1s m g i k n d c f a b l e j) (fun h=>j3X h.1 h.2.1 h.2.2.1 h.2.2.2.1 h.2.2.2.2.1 h.2.2.2.2.2.1 h.2.2.2.2.2.2.1 h.2.2.2.2.2.2.2.1 h.2.2.2.2.2.2.2.2.1 h.2.2.2.2.2.2.2.2.2.1 h.2.2.2.2.2.2.2.2.2.2.1 h.2.2.2.2.2.2.2.2.2.2.2.1 h.2.2.2.2.2.2.2.2.2.2.2.2):=j05 _ _
def j1t [LP] (l b:Int) (p:ByteArray) (o:Tn62) (n:Tn31) (m:(List Int)) (k d:Tn15):Option ((Int×Int×ByteArray×Tn62×Tn31×(List Int)×Tn15×Tn15) ⊕ (Tn15)):=
 cond (decide (b<l)) (
 cond (inR b (List.length d)) (
 let c:=(List.getD d (Int.toNat b) (0,(0,0))).1
 let f:=(List.getD d (Int.toNat b) (0,(0,0))).2.1
 let g:=(List.getD d (Int.toNat b) (0,(0,0))).2.2
 let i:=(w64 (c+1))
 (j0j m i).bind fun j=>
 (j3X j.1 c l b p o n c f g m k d).bind fun a=>
 let e:=(w64 (a.2.1+1))
 some (.inl (a.1,e,a.2.2.1,a.2.2.2.1,a.2.2.2.2.1,a.2.2.2.2.2.1,a.2.2.2.2.2.2.1,a.2.2.2.2.2.2.2))) none) (
 some (.inr k))
def j3f [LP] (d f i b a g c e):=LP.lp (fun h=>j1t h.1 h.2.1 h.2.2.1 h.2.2.2.1 h.2.2.2.2.1 h.2.2.2.2.2.1 h.2.2.2.2.2.2.1 h.2.2.2.2.2.2.2) (d,f,i,b,a,g,c,e)
theorem j9X (d f i b a g c e):j3f d f i b a g c e=lpK (j1t d f i b a g c e) (fun h=>j3f h.1 h.2.1 h.2.2.1 h.2.2.2.1 h.2.2.2.2.1 h.2.2.2.2.2.1 h.2.2.2.2.2.2.1 h.2.2.2.2.2.2.2):=j05 _ _
def j3g [LP] (c:Tn75) (b:Tn66) (d e:Int):Option (Tn15):=
 let i:=(Int.ofNat (List.length b.2.2))
 (j3e d e b.2.2 i 0 c.1.1 c.1.2.1 c.1.2.2.1 c.1.2.2.2 c.2 b.1 b.2.1 b.2.2 ([]:(List Int))).bind fun a=>
 (jba a.2.2.2.2.2.2.2.2.2.2 a.1 a.2.1).bind fun k=>
 (j2O ((a.2.2.1,(a.2.2.2.1,(a.2.2.2.2.1,a.2.2.2.2.2.1))),a.2.2.2.2.2.2.1) (a.2.2.2.2.2.2.2.1,(a.2.2.2.2.2.2.2.2.1,a.2.2.2.2.2.2.2.2.2.1)) a.1 a.2.1).bind fun f=>
 let g:=(Int.ofNat (List.length f))
 (j3f g 0 a.2.2.2.2.2.2.2.1 a.2.2.2.2.2.2.2.2.1 a.2.2.2.2.2.2.2.2.2.1 k ([]:Tn15) f).bind fun l=>
 (j6h l).bind fun j=>
 some j
def j2L [LP] (b:Tn73) (a d e:Int):Option (Tn15×Int):=
 (j5R (b.1,(b.2.1,(b.2.2.1,b.2.2.2))) a d e).bind fun c=>
 cond (c.2 != 0) (
 some (([]:Tn15),c.2)) (
 cond (inR a (List.length b.2.2.2)) (
 let f:=(List.getD b.2.2.2 (Int.toNat a) (ByteArray.empty,(([]:Tn62),([]:Tn31))))
 (j3g ((c.1.1.1,(c.1.1.2.1,(c.1.1.2.2.1,c.1.1.2.2.2))),c.1.2) (f.1,(f.2.1,f.2.2)) d e).bind fun g=>
 let i:=(Int.ofNat (List.length g))
 cond (decide (i>16384)) (
 some (([]:Tn15),5)) (
 some (g,0))) none)
def jcn (a:Tn15):Option (Tn15):=
 some a
def j98 (d:Int) (b a:Tn15):Option ((Int×Tn15×Tn15) ⊕ (Tn15)):=
 cond (decide (Int.ofNat (List.length b)≤d)) (
 some (.inr a)) (
 cond (decide (1≤d)) (
 let i:=(List.getD b (Int.toNat d) (0,(0,0))).1
 let f:=(List.getD b (Int.toNat (d-1)) (0,(0,0))).2.2
 let e:=(List.getD b (Int.toNat d) (0,(0,0))).2.2
 let c:Tn15:=[(i,(f,e))]
 cond (decide (List.length a+List.length c≤j07)) (
 let g:Tn15:=(a++c)
 some (.inl ((d+1),b,g))) none) none)
def j9m [LP] (c:Int) (b a:Tn15):Option (Tn15):=
 LP.lp (unc3 (j98)) (c,b,a)
def j7J [LP] (b:Tn73) (a c e:Int):Option (Tn15×Int):=
 (j2L (b.1,(b.2.1,(b.2.2.1,b.2.2.2))) a c e).bind fun d=>
 cond (d.2 != 0) (
 some (([]:Tn15),d.2)) (
 (jcn d.1).bind fun f=>
 (j9m 1 f ([]:Tn15)).bind fun g=>
 some (g,0))
def j3I (a:(Int×Int)):Option (Int):=
 (j6Z a.1).bind fun b=>
 let c:=(w64 (b*86400))
 let d:=(w64 (c+a.2))
 some d
def j69 (e:Int) (d:Tn2) (f b:Int):Option ((Int×Tn2×Int×Int) ⊕ (Bool ⊕ Unit)):=
 cond (decide (b<f)) (
 cond (inR b (List.length d)) (
 let a:=(List.getD d (Int.toNat b) (0,0))
 cond (cond (decide (a.1≤e)) (decide (e<a.2)) false) (
 some (.inr (.inl true))) (
 let c:=(w64 (b+1))
 some (.inl (e,d,f,c)))) none) (
 some (.inr (.inr ())))
def j9n [LP] (d b c a):=LP.lp (fun h=>j69 h.1 h.2.1 h.2.2.1 h.2.2.2) (d,b,c,a)
theorem jfF (d b c a):j9n d b c a=lpK (j69 d b c a) (fun h=>j9n h.1 h.2.1 h.2.2.1 h.2.2.2):=j05 _ _
def jdw [LP] (a:Tn2) (b:Int):Option (Bool):=
 let c:=(Int.ofNat (List.length a))
 (j9n b a c 0).bind fun d=>
 sumC d (fun e=>
 some e) (fun f=>
 some false)
def j4p [LP] (b:Tn75) (a:Tn61) (c:Int):Option (Int×Bool):=
 cond (cond (decide (c<0)) true (decide (c>8589934592))) (
 some (0,false)) (
 cond (inR a.2.1 (List.length b.2)) (
 let g:=(List.getD b.2 (Int.toNat a.2.1) (0,([]:Tn2)))
 (j20 (g.1,g.2) (a.1,(a.2.1,((a.2.2.1.1,a.2.2.1.2),(a.2.2.2.1,(a.2.2.2.2.1,(a.2.2.2.2.2.1,(a.2.2.2.2.2.2.1,(a.2.2.2.2.2.2.2.1,a.2.2.2.2.2.2.2.2)))))))) c).bind fun e=>
 cond (decide (e<0)) (
 some (0,false)) (
 let o:=(Int.ofNat (List.length a.2.2.2.2.2.2.1))
 cond (decide (o>0)) (
 (j0v (g.1,g.2) c).bind fun m=>
 (j3I (m.1,m.2)).bind fun r=>
 (jdw a.2.2.2.2.2.2.1 r).bind fun p=>
 cond (!p) (
 some (0,false)) (
 cond (a.2.2.2.2.2.2.2.2==0) (
 some (e,true)) (
 cond (inR a.2.2.2.2.2.2.2.1 (List.length b.1.2.2.1)) (
 let i:=(List.getD b.1.2.2.1 (Int.toNat a.2.2.2.2.2.2.2.1) (ByteArray.empty,(0,([]:(List Int)))))
 cond (inR i.2.1 (List.length b.2)) (
 let l:=(List.getD b.2 (Int.toNat i.2.1) (0,([]:Tn2)))
 (j0v (l.1,l.2) c).bind fun n=>
 (j0j i.2.2 n.1).bind fun q=>
 some (e,(q.2==(a.2.2.2.2.2.2.2.2==2)))) none) none))) (
 cond (a.2.2.2.2.2.2.2.2==0) (
 some (e,true)) (
 cond (inR a.2.2.2.2.2.2.2.1 (List.length b.1.2.2.1)) (
 let d:=(List.getD b.1.2.2.1 (Int.toNat a.2.2.2.2.2.2.2.1) (ByteArray.empty,(0,([]:(List Int)))))
 cond (inR d.2.1 (List.length b.2)) (
 let f:=(List.getD b.2 (Int.toNat d.2.1) (0,([]:Tn2)))
 (j0v (f.1,f.2) c).bind fun k=>
 (j0j d.2.2 k.1).bind fun j=>
 some (e,(j.2==(a.2.2.2.2.2.2.2.2==2)))) none) none)))) none)
def j24 [LP] (b:Tn75) (a:Tn61) (f:Int):Option (Int):=
 (j4p ((b.1.1,(b.1.2.1,(b.1.2.2.1,b.1.2.2.2))),b.2) (a.1,(a.2.1,((a.2.2.1.1,a.2.2.1.2),(a.2.2.2.1,(a.2.2.2.2.1,(a.2.2.2.2.2.1,(a.2.2.2.2.2.2.1,(a.2.2.2.2.2.2.2.1,a.2.2.2.2.2.2.2.2)))))))) f).bind fun e=>
 cond (!e.2) (
 some (-1)) (
 let d:=(Int.ofNat (List.length a.2.2.2.2.2.1))
 cond (!(d==0)) (
 let c:=(Int.tmod e.1 d)
 cond (inR c (List.length a.2.2.2.2.2.1)) (
 let g:=(List.getD a.2.2.2.2.2.1 (Int.toNat c) 0)
 some g) none) none)
def jdx (a:Tn25) (d c:Int):Option (Bool):=
 let b:Bool:=(cond (cond (a.1==0) (a.2.1==d) false) (decide (a.2.2.2.1≤c)) false)
 some (cond b (decide (c<a.2.2.2.2)) false)
def j0O (f:Tn31) (i b g c:Int):Option ((Tn31×Int×Int×Int×Int) ⊕ (Int ⊕ Unit)):=
 cond (decide (c<g)) (
 cond (inR c (List.length f)) (
 let a:=(List.getD f (Int.toNat c) (0,(0,(0,(0,0)))))
 (jdx (a.1,(a.2.1,(a.2.2.1,(a.2.2.2.1,a.2.2.2.2)))) i b).bind fun d=>
 cond d (
 some (.inr (.inl c))) (
 let e:=(w64 (c+1))
 some (.inl (f,i,b,g,e)))) none) (
 some (.inr (.inr ())))
def j0x [LP] (c e a b d):=LP.lp (fun h=>j0O h.1 h.2.1 h.2.2.1 h.2.2.2.1 h.2.2.2.2) (c,e,a,b,d)
theorem j3G (c e a b d):j0x c e a b d=lpK (j0O c e a b d) (fun h=>j0x h.1 h.2.1 h.2.2.1 h.2.2.2.1 h.2.2.2.2):=j05 _ _
def j0X [LP] (b:Tn31) (c a:Int):Option (Int):=
 let e:=(Int.ofNat (List.length b))
 (j0x b c a e 0).bind fun d=>
 sumC d (fun f=>
 some f) (fun g=>
 some (-1))
def j0J [LP] (b:Tn31) (c a:Int):Option (Bool):=
 (j0X b c a).bind fun d=>
 some (decide (d≥0))
def j9o [LP] (b:Tn66) (a c:Int):Option (Bool):=
 (j0J b.2.2 a c).bind fun d=>
 some d
def j1W [LP] (l:Int) (j:Tn62) (o:Tn56) (f:Tn50) (c:Tn27) (d:Tn67) (g:Tn21) (r:ByteArray) (i:Tn62) (e:Tn31) (m q p:Int):Option ((Int×Tn62×Tn56×Tn50×Tn27×Tn67×Tn21×ByteArray×Tn62×Tn31×Int×Int×Int) ⊕ ((Int×Int) ⊕ (Int×Int))):=
 cond (decide (l≤0)) (
 some (.inr (.inl (q,p)))) (
 cond (decide (l≤Int.ofNat (List.length j))) (
 let k:Int:=(l-1)
 let a:=(List.getD j (Int.toNat k) (ByteArray.empty,(0,((0,0),(0,(0,(([]:(List Int)),(([]:Tn2),(0,0)))))))))
 (j24 ((o,(f,(c,d))),g) (a.1,(a.2.1,((a.2.2.1.1,a.2.2.1.2),(a.2.2.2.1,(a.2.2.2.2.1,(a.2.2.2.2.2.1,(a.2.2.2.2.2.2.1,(a.2.2.2.2.2.2.2.1,a.2.2.2.2.2.2.2.2)))))))) m).bind fun b=>
 cond (decide (b<0)) (
 some (.inl ((l-1),j,o,f,c,d,g,r,i,e,m,q,p))) (
 (j9o (r,(i,e)) b m).bind fun n=>
 cond (!n) (
 some (.inr (.inr (k,b)))) (
 some (.inl ((l-1),j,o,f,c,d,g,r,i,e,m,q,p))))) none)
def j43 [LP] (m g j d a b e n f c i l k):=LP.lp (fun h=>j1W h.1 h.2.1 h.2.2.1 h.2.2.2.1 h.2.2.2.2.1 h.2.2.2.2.2.1 h.2.2.2.2.2.2.1 h.2.2.2.2.2.2.2.1 h.2.2.2.2.2.2.2.2.1 h.2.2.2.2.2.2.2.2.2.1 h.2.2.2.2.2.2.2.2.2.2.1 h.2.2.2.2.2.2.2.2.2.2.2.1 h.2.2.2.2.2.2.2.2.2.2.2.2) (m,g,j,d,a,b,e,n,f,c,i,l,k)
theorem jbe (m g j d a b e n f c i l k):j43 m g j d a b e n f c i l k=lpK (j1W m g j d a b e n f c i l k) (fun h=>j43 h.1 h.2.1 h.2.2.1 h.2.2.2.1 h.2.2.2.2.1 h.2.2.2.2.2.1 h.2.2.2.2.2.2.1 h.2.2.2.2.2.2.2.1 h.2.2.2.2.2.2.2.2.1 h.2.2.2.2.2.2.2.2.2.1 h.2.2.2.2.2.2.2.2.2.2.1 h.2.2.2.2.2.2.2.2.2.2.2.1 h.2.2.2.2.2.2.2.2.2.2.2.2):=j05 _ _
def j3h [LP] (a:Tn75) (b:Tn66) (d:Int):Option (Int×Int):=
 (j1b b.2.1).bind fun c=>
 (j43 (Int.ofNat (List.length c)) c a.1.1 a.1.2.1 a.1.2.2.1 a.1.2.2.2 a.2 b.1 b.2.1 b.2.2 d 0 0).bind fun e=>
 sumC e (fun g=>
 some ((-1),(-1))) (fun f=>
 some (f.1,f.2))
def j5B [LP] (a:Tn75) (c:Tn66) (b:Int):Option (Int):=
 cond (cond (decide (b<0)) true (decide (b>8589934592))) (
 some (-1)) (
 (j3h ((a.1.1,(a.1.2.1,(a.1.2.2.1,a.1.2.2.2))),a.2) (c.1,(c.2.1,c.2.2)) b).bind fun e=>
 (j7I c.2.2 e.2 b).bind fun d=>
 some d)
def jbf (b t q:Int) (a:Tn15) (u:Tn56) (m:Tn50) (g:Tn27) (o:Tn67) (s n i v:Int) (r:Tn56) (k:Tn50) (j:Tn27) (l:Tn67) (f:Tn21) (p:Tn15):Option ((Int×Int×Int×Tn15×Tn56×Tn50×Tn27×Tn67×Int×Int×Int×Int×Tn56×Tn50×Tn27×Tn67×Tn21×Tn15) ⊕ ((Int×Int×Tn56×Tn50×Tn27×Tn67×Int×Int×Int×Int×Tn56×Tn50×Tn27×Tn67×Tn21×Tn15) ⊕ (Int×Int×Int×Int))):=
 cond (decide (Int.ofNat (List.length a)≤b)) (
 some (.inr (.inl (t,q,u,m,g,o,s,n,i,v,r,k,j,l,f,p)))) (
 cond (decide (1≤b)) (
 let e:=(List.getD a (Int.toNat b) (0,(0,0))).1
 let c:=(List.getD a (Int.toNat (b-1)) (0,(0,0))).2.2
 let d:=(List.getD a (Int.toNat b) (0,(0,0))).2.2
 some (.inr (.inr (e,c,d,0)))) none)
def jco [LP] (r s l:Int) (m:Tn15) (n:Tn56) (f:Tn50) (a:Tn27) (d:Tn67) (q j c o:Int) (p:Tn56) (b:Tn50) (e:Tn27) (g:Tn67) (i:Tn21) (k:Tn15):Option ((Int×Int×Tn56×Tn50×Tn27×Tn67×Int×Int×Int×Int×Tn56×Tn50×Tn27×Tn67×Tn21×Tn15) ⊕ (Int×Int×Int×Int)):=
 LP.lp (jyr (jbf)) (r,s,l,m,n,f,a,d,q,j,c,o,p,b,e,g,i,k)
def jbg [LP] (b:Tn73) (a d:Int):Option (Tn3×Int):=
 (j5R (b.1,(b.2.1,(b.2.2.1,b.2.2.2))) a d d).bind fun c=>
 cond (c.2 != 0) (
 some ((0,(0,0)),c.2)) (
 let l:=(w64 (d+34560000))
 let j:Int:=(if 8589934592<l then 8589934592 else l:Int)
 cond (inR a (List.length b.2.2.2)) (
 let g:=(List.getD b.2.2.2 (Int.toNat a) (ByteArray.empty,(([]:Tn62),([]:Tn31))))
 (j3g ((c.1.1.1,(c.1.1.2.1,(c.1.1.2.2.1,c.1.1.2.2.2))),c.1.2) (g.1,(g.2.1,g.2.2)) d j).bind fun i=>
 (jcn i).bind fun m=>
 (jco 1 a j m b.1 b.2.1 b.2.2.1 b.2.2.2 0 0 0 0 c.1.1.1 c.1.1.2.1 c.1.1.2.2.1 c.1.1.2.2.2 c.1.2 i).bind fun r=>
 sumC r (fun e=>
 let o:=(Int.ofNat (List.length e.2.2.2.2.2.2.2.2.2.2.2.2.2.2.2))
 cond (decide (o>0)) (
 cond (inR e.1 (List.length e.2.2.2.2.2.1)) (
 let f:=(List.getD e.2.2.2.2.2.1 (Int.toNat e.1) (ByteArray.empty,(([]:Tn62),([]:Tn31))))
 (j5B ((e.2.2.2.2.2.2.2.2.2.2.1,(e.2.2.2.2.2.2.2.2.2.2.2.1,(e.2.2.2.2.2.2.2.2.2.2.2.2.1,e.2.2.2.2.2.2.2.2.2.2.2.2.2.1))),e.2.2.2.2.2.2.2.2.2.2.2.2.2.2.1) (f.1,(f.2.1,f.2.2)) e.2.1).bind fun k=>
 cond (inR 0 (List.length e.2.2.2.2.2.2.2.2.2.2.2.2.2.2.2)) (
 let p:=(List.getD e.2.2.2.2.2.2.2.2.2.2.2.2.2.2.2 0 (0,(0,0))).2.2
 cond (k != p) (
 cond (inR 0 (List.length e.2.2.2.2.2.2.2.2.2.2.2.2.2.2.2)) (
 let n:=(List.getD e.2.2.2.2.2.2.2.2.2.2.2.2.2.2.2 0 (0,(0,0))).2.2
 some ((e.2.1,(n,k)),0)) none) (
 some ((0,(0,0)),10))) none) none) (
 some ((0,(0,0)),10))) (fun q=>
 some ((q.1,(q.2.1,q.2.2.1)),q.2.2.2))) none)
def j3r (k:Int) (i:Tn15) (j b:Int) (e:Tn2):Option ((Int×Tn15×Int×Int×Tn2) ⊕ (Tn2)):=
 cond (decide (b<j)) (
 cond (inR b (List.length i)) (
 let a:=(List.getD i (Int.toNat b) (0,(0,0)))
 cond (a.2.2==k) (
 let c:Tn2:=[(a.1,a.2.1)]
 cond (decide (List.length e+List.length c≤j07)) (
 let f:Tn2:=(e++c)
 let d:=(w64 (b+1))
 some (.inl (k,i,j,d,f))) none) (
 let g:=(w64 (b+1))
 some (.inl (k,i,j,g,e)))) none) (
 some (.inr e))
def j3z [LP] (e d b a c):=LP.lp (fun h=>j3r h.1 h.2.1 h.2.2.1 h.2.2.2.1 h.2.2.2.2) (e,d,b,a,c)
theorem jaA (e d b a c):j3z e d b a c=lpK (j3r e d b a c) (fun h=>j3z h.1 h.2.1 h.2.2.1 h.2.2.2.1 h.2.2.2.2):=j05 _ _
def j6i [LP] (b:Tn15) (a:Int):Option (Tn2):=
 let d:=(Int.ofNat (List.length b))
 (j3z a b d 0 ([]:Tn2)).bind fun e=>
 (j5v e).bind fun c=>
 some c
def j50 [LP] (b:Tn73) (a c d f:Int):Option (Tn2×Int):=
 (j2L (b.1,(b.2.1,(b.2.2.1,b.2.2.2))) a d f).bind fun e=>
 cond (e.2 != 0) (
 some (([]:Tn2),e.2)) (
 (j6i e.1 c).bind fun g=>
 let i:=(Int.ofNat (List.length g))
 cond (decide (i>4096)) (
 some (([]:Tn2),5)) (
 some (g,0)))
def j2I [LP] (o:Int) (e:Tn67) (l b:Int) (n:Tn56) (i:Tn50) (d:Tn27) (g:Tn67) (f:Tn21) (m:(List Int)):Option ((Int×Tn67×Int×Int×Tn56×Tn50×Tn27×Tn67×Tn21×(List Int)) ⊕ ((List Int))):=
 cond (decide (b<l)) (
 cond (inR b (List.length e)) (
 let a:=(List.getD e (Int.toNat b) (ByteArray.empty,(([]:Tn62),([]:Tn31))))
 (j5B ((n,(i,(d,g))),f) (a.1,(a.2.1,a.2.2)) o).bind fun c=>
 cond (decide (List.length m+List.length [c]≤j07)) (
 let j:(List Int):=(m++[c])
 let k:=(w64 (b+1))
 some (.inl (o,e,l,k,n,i,d,g,f,j))) none) none) (
 some (.inr m))
def j5U [LP] (k f e g j d a c b i):=LP.lp (fun h=>j2I h.1 h.2.1 h.2.2.1 h.2.2.2.1 h.2.2.2.2.1 h.2.2.2.2.2.1 h.2.2.2.2.2.2.1 h.2.2.2.2.2.2.2.1 h.2.2.2.2.2.2.2.2.1 h.2.2.2.2.2.2.2.2.2) (k,f,e,g,j,d,a,c,b,i)
theorem je1 (k f e g j d a c b i):j5U k f e g j d a c b i=lpK (j2I k f e g j d a c b i) (fun h=>j5U h.1 h.2.1 h.2.2.1 h.2.2.2.1 h.2.2.2.2.1 h.2.2.2.2.2.1 h.2.2.2.2.2.2.1 h.2.2.2.2.2.2.2.1 h.2.2.2.2.2.2.2.2.1 h.2.2.2.2.2.2.2.2.2):=j05 _ _
def j73 [LP] (a:Tn73) (c:Int):Option ((List Int)):=
 (jdu (a.1,(a.2.1,(a.2.2.1,a.2.2.2)))).bind fun b=>
 cond (!b.2) (
 some ([]:(List Int))) (
 let d:=(Int.ofNat (List.length a.2.2.2))
 (j5U c a.2.2.2 d 0 b.1.1.1 b.1.1.2.1 b.1.1.2.2.1 b.1.1.2.2.2 b.1.2 ([]:(List Int))).bind fun e=>
 some e)
def jfi [LP] (a:Tn73) (b e:Int):Option (Int):=
 (jdu (a.1,(a.2.1,(a.2.2.1,a.2.2.2)))).bind fun c=>
 cond (!c.2) (
 some (-1)) (
 (jb9 (a.1,(a.2.1,(a.2.2.1,a.2.2.2))) b).bind fun f=>
 cond (!f) (
 some (-1)) (
 cond (inR b (List.length a.2.2.2)) (
 let d:=(List.getD a.2.2.2 (Int.toNat b) (ByteArray.empty,(([]:Tn62),([]:Tn31))))
 (j5B ((c.1.1.1,(c.1.1.2.1,(c.1.1.2.2.1,c.1.1.2.2.2))),c.1.2) (d.1,(d.2.1,d.2.2)) e).bind fun g=>
 some g) none))
def j5C [LP] (b:Tn73) (a c:Int):Option (Int):=
 (jfi (b.1,(b.2.1,(b.2.2.1,b.2.2.2))) a c).bind fun d=>
 some d
def j9p [LP]  : Option (Bool):=
 (jgX).bind fun a=>
 (j7J (a.1,(a.2.1,(a.2.2.1,a.2.2.2))) 0 432000 518400).bind fun b=>
 (jbg (a.1,(a.2.1,(a.2.2.1,a.2.2.2))) 0 432000).bind fun c=>
 (j2L (a.1,(a.2.1,(a.2.2.1,a.2.2.2))) 0 432000 518400).bind fun j=>
 (j50 (a.1,(a.2.1,(a.2.2.1,a.2.2.2))) 0 2 432000 518400).bind fun k=>
 (j73 (a.1,(a.2.1,(a.2.2.1,a.2.2.2))) 432000).bind fun d=>
 cond (b.2==0) (
 cond (c.2==0) (
 cond (j.2==0) (
 cond (k.2==0) (
 let q:=(Int.ofNat (List.length b.1))
 cond (q==1) (
 cond (inR 0 (List.length b.1)) (
 let m:=(List.getD b.1 0 (0,(0,0))).1
 let f:=(List.getD b.1 0 (0,(0,0))).2.1
 let e:=(List.getD b.1 0 (0,(0,0))).2.2
 cond ((m==475200)&&((f==2)&&(e==1))) (
 cond (inR 0 (List.length b.1)) (
 let p:=(List.getD b.1 0 (0,(0,0))).1
 let i:=(List.getD b.1 0 (0,(0,0))).2.1
 let g:=(List.getD b.1 0 (0,(0,0))).2.2
 cond ((c.1.1==p)&&((c.1.2.1==i)&&(c.1.2.2==g))) (
 let o:=(Int.ofNat (List.length j.1))
 cond (o==2) (
 let r:=(Int.ofNat (List.length k.1))
 cond (r==1) (
 let l:=(Int.ofNat (List.length d))
 cond (l==1) (
 cond (inR 0 (List.length d)) (
 let n:=(List.getD d 0 0)
 cond (n==2) (
 (j5C (a.1,(a.2.1,(a.2.2.1,a.2.2.2))) 0 432000).bind fun s=>
 some (s==2)) (
 some false)) none) (
 some false)) (
 some false)) (
 some false)) (
 some false)) none) (
 some false)) none) (
 some false)) (
 some false)) (
 some false)) (
 some false)) (
 some false)
def jk2 (a:(List Int)):Option ((List Int)×Int):=
 some (a,0)
def j04 (b:(List Int)) (a c:Int):Option (Int×(List Int)×Int):=
 let g:=(Int.ofNat (List.length b))
 cond (decide (a≥g)) (
 some (0,b,a)) (
 cond (decide (c<1)) (
 some (0,b,a)) (
 cond (inR a (List.length b)) (
 let f:=(List.getD b (Int.toNat a) 0)
 cond (!(c==0)) (
 let d:=(Int.tmod f c)
 let e:=(w64 (a+1))
 cond (decide (d<0)) (
 let i:=(w64 (d+c))
 some (i,b,e)) (
 some (d,b,e))) none) none))
def j1A (d:(List Int)) (b:Int) (a:(List Int)):Option (Int×(List Int)×Int):=
 let f:=(Int.ofNat (List.length a))
 (j04 d b f).bind fun c=>
 cond (inR c.1 (List.length a)) (
 let e:=(List.getD a (Int.toNat c.1) 0)
 some (e,c.2.1,c.2.2)) none
def j4q (a0:(List Int)) (r:Int) (a:ByteArray):Option (Tn54×(List Int)×Int):=
 let a8:(List Int):=[0,4,(-20),22,48,(-47)]
 (j1A a0 r a8).bind fun m=>
 (j04 m.2.1 m.2.2 2).bind fun q=>
 (j04 q.2.1 q.2.2 3).bind fun v=>
 let b2:=(w64 (q.1*v.1))
 let b5:=(w64 (m.1+b2))
 let c:=(w64 (900*b5))
 (j04 v.2.1 v.2.2 2).bind fun j=>
 let g:=(w64 (2025+j.1))
 (j04 j.2.1 j.2.2 4).bind fun b=>
 cond (b.1==1) (
 let a5:=(w64 (c+3600))
 let b1:Tn44:=[(2025,(g,(3,(5,(6,(7200,a5)))))),(2025,(g,(10,(5,(6,(10800,c))))))]
 some ((a,(c,b1)),b.2.1,b.2.2)) (
 cond (b.1==2) (
 (j04 b.2.1 b.2.2 4).bind fun n=>
 let a9:=(w64 (1+n.1))
 (j04 n.2.1 n.2.2 7).bind fun k=>
 (j04 k.2.1 k.2.2 24).bind fun i=>
 let b6:=(w64 (3600*i.1))
 (j04 i.2.1 i.2.2 8).bind fun x=>
 let b4:=(w64 (1+x.1))
 let a6:=(w64 (1800*b4))
 let a1:=(w64 (c+a6))
 (j04 x.2.1 x.2.2 2).bind fun u=>
 let a4:=(w64 (2+u.1))
 let a3:(List Int):=[2,3,5]
 (j1A u.2.1 u.2.2 a3).bind fun l=>
 (j04 l.2.1 l.2.2 7).bind fun o=>
 (j04 o.2.1 o.2.2 24).bind fun w=>
 let b7:=(w64 (3600*w.1))
 let b0:Tn44:=[(2025,(g,(1,(a9,(k.1,(b6,a1)))))),(2025,(g,(a4,(l.1,(o.1,(b7,c))))))]
 some ((a,(c,b0)),w.2.1,w.2.2)) (
 cond (b.1==3) (
 let a7:(List Int):=[3600,(-3600),82800,(-82800),43200]
 (j1A b.2.1 b.2.2 a7).bind fun f=>
 let p:=(w64 (c+f.1))
 cond (cond (decide (p>64800)) true (decide (p<(-64800)))) (
 (j04 f.2.1 f.2.2 7).bind fun s=>
 (j04 s.2.1 s.2.2 48).bind fun t=>
 let b3:=(w64 (1800*t.1))
 let a2:Tn44:=[(2026,(2026,(1,(2,(s.1,(b3,0))))))]
 some ((a,(c,a2)),t.2.1,t.2.2)) (
 (j04 f.2.1 f.2.2 7).bind fun d=>
 (j04 d.2.1 d.2.2 48).bind fun e=>
 let z:=(w64 (1800*e.1))
 let y:Tn44:=[(2026,(2026,(1,(2,(d.1,(z,p))))))]
 some ((a,(c,y)),e.2.1,e.2.2))) (
 some ((a,(c,([]:Tn44))),b.2.1,b.2.2))))
def jfj  : Option ((List ByteArray)):=
 let a:(List ByteArray):=[(ByteArray.mk #[97,100,97]),(ByteArray.mk #[98,111,98]),(ByteArray.mk #[99,108,101,111]),(ByteArray.mk #[100,97,110]),(ByteArray.mk #[101,118,101]),(ByteArray.mk #[102,97,121]),(ByteArray.mk #[103,117,115]),(ByteArray.mk #[104,97,108])]
 some a
def j1k (c:(List Int)) (a b:Int):Option (Bool×(List Int)×Int):=
 (j04 c a b).bind fun d=>
 let e:=(w64 (b-1))
 some ((d.1==e),d.2.1,d.2.2)
def j2M (r p:Int) (q:(List Int)) (g:Int) (o:Tn2):Option ((Int×Int×(List Int)×Int×Tn2) ⊕ (((List Int)×Int×Tn2))):=
 cond (decide (p>0)) (
 (j04 q g 30).bind fun d=>
 let l:=(w64 (3600*d.1))
 let i:=(w64 (r+l))
 (j04 d.2.1 d.2.2 2).bind fun c=>
 let k:=(w64 (60*c.1))
 let e:=(w64 (i+k))
 let j:(List Int):=[3600,28800,43200,86400,61,1]
 (j1A c.2.1 c.2.2 j).bind fun a=>
 let b:=(w64 (e+a.1))
 cond (decide (b>604800)) (
 some (.inr (a.2.1,a.2.2,o))) (
 let f:Tn2:=[(e,b)]
 cond (decide (List.length o+List.length f≤j07)) (
 let m:Tn2:=(o++f)
 let n:=(w64 (p-1))
 some (.inl (b,n,a.2.1,a.2.2,m))) none)) (
 some (.inr (q,g,o)))
def j5o [LP] (c b d a e):=LP.lp (fun h=>j2M h.1 h.2.1 h.2.2.1 h.2.2.2.1 h.2.2.2.2) (c,b,d,a,e)
theorem j8t (c b d a e):j5o c b d a e=lpK (j2M c b d a e) (fun h=>j5o h.1 h.2.1 h.2.2.1 h.2.2.2.1 h.2.2.2.2):=j05 _ _
def j4s [LP] (b:(List Int)) (a:Int):Option (Tn2×(List Int)×Int):=
 (j04 b a 4).bind fun d=>
 (j5o 0 d.1 d.2.1 d.2.2 ([]:Tn2)).bind fun c=>
 some (c.2.2,c.1,c.2.1)
def j3i (k:Int) (l:(List Int)) (f:Int) (b:Tn56):Option ((Int×(List Int)×Int×Tn56) ⊕ (((List Int)×Int×Tn56))):=
 cond (decide (k>0)) (
 let d:(List ByteArray):=[(ByteArray.mk #[104,101,114,101]),(ByteArray.mk #[116,104,101,114,101])]
 let c:=(Int.ofNat (List.length b))
 cond (inR c (List.length d)) (
 let g:=(List.getD d (Int.toNat c) ByteArray.empty)
 (j4q l f g).bind fun a=>
 let e:Tn56:=[(a.1.1,(a.1.2.1,a.1.2.2))]
 cond (decide (List.length b+List.length e≤j07)) (
 let i:Tn56:=(b++e)
 let j:=(w64 (k-1))
 some (.inl (j,a.2.1,a.2.2,i))) none) none) (
 some (.inr (l,f,b)))
def j6s [LP] (c d a b):=LP.lp (fun h=>j3i h.1 h.2.1 h.2.2.1 h.2.2.2) (c,d,a,b)
theorem j9Y (c d a b):j6s c d a b=lpK (j3i c d a b) (fun h=>j6s h.1 h.2.1 h.2.2.1 h.2.2.2):=j05 _ _
def j3j [LP] (a4:Int) (a5:(List Int)) (q:Int) (e:Tn56) (b:Tn50):Option ((Int×(List Int)×Int×Tn56×Tn50) ⊕ (((List Int)×Int×Tn56×Tn50))):=
 cond (decide (a4>0)) (
 (jfj).bind fun p=>
 let n:=(Int.ofNat (List.length b))
 cond (inR n (List.length p)) (
 let l:=(List.getD p (Int.toNat n) ByteArray.empty)
 let t:=(Int.ofNat (List.length e))
 (j04 a5 q t).bind fun d=>
 (j1k d.2.1 d.2.2 3).bind fun c=>
 (j1k c.2.1 c.2.2 2).bind fun a=>
 cond a.1 (
 (j4s a.2.1 a.2.2).bind fun j=>
 let w:(List Int):=[0,40,100,12]
 (j1A j.2.1 j.2.2 w).bind fun k=>
 let y:=(w64 (3600*k.1))
 let v:(List Int):=[0,11,24,1]
 (j1A k.2.1 k.2.2 v).bind fun i=>
 let a0:=(w64 (3600*i.1))
 let o:Tn50:=[(l,(d.1,(j.1,(y,(a0,c.1)))))]
 cond (decide (List.length b+List.length o≤j07)) (
 let s:Tn50:=(b++o)
 let x:=(w64 (a4-1))
 some (.inl (x,i.2.1,i.2.2,e,s))) none) (
 let a1:(List Int):=[0,40,100,12]
 (j1A a.2.1 a.2.2 a1).bind fun f=>
 let z:=(w64 (3600*f.1))
 let a2:(List Int):=[0,11,24,1]
 (j1A f.2.1 f.2.2 a2).bind fun g=>
 let u:=(w64 (3600*g.1))
 let m:Tn50:=[(l,(d.1,(([]:Tn2),(z,(u,c.1)))))]
 cond (decide (List.length b+List.length m≤j07)) (
 let a3:Tn50:=(b++m)
 let r:=(w64 (a4-1))
 some (.inl (r,g.2.1,g.2.2,e,a3))) none)) none) (
 some (.inr (a5,q,e,b)))
def j6t [LP] (d e a b c):=LP.lp (fun h=>j3j h.1 h.2.1 h.2.2.1 h.2.2.2.1 h.2.2.2.2) (d,e,a,b,c)
theorem j9Z (d e a b c):j6t d e a b c=lpK (j3j d e a b c) (fun h=>j6t h.1 h.2.1 h.2.2.1 h.2.2.2.1 h.2.2.2.2):=j05 _ _
def j3k (n m q:Int) (p:(List Int)) (e:Int) (o:ByteArray) (d:Int) (f:Tn56) (j:Tn50) (i:Tn27) (c:(List Int)):Option ((Int×Int×Int×(List Int)×Int×ByteArray×Int×Tn56×Tn50×Tn27×(List Int)) ⊕ ((Int×(List Int)×Int×ByteArray×Int×Tn56×Tn50×Tn27×(List Int)))):=
 cond (decide (m>0)) (
 (j04 p e 6).bind fun a=>
 let k:=(w64 (1+a.1))
 let b:=(w64 (q+k))
 cond (decide (List.length c+List.length [b]≤j07)) (
 let g:(List Int):=(c++[b])
 let l:=(w64 (m-1))
 some (.inl (n,l,b,a.2.1,a.2.2,o,d,f,j,i,g))) none) (
 some (.inr (n,p,e,o,d,f,j,i,c)))
def j6u [LP] (j i g l b k a c f d e):=LP.lp (fun h=>j3k h.1 h.2.1 h.2.2.1 h.2.2.2.1 h.2.2.2.2.1 h.2.2.2.2.2.1 h.2.2.2.2.2.2.1 h.2.2.2.2.2.2.2.1 h.2.2.2.2.2.2.2.2.1 h.2.2.2.2.2.2.2.2.2.1 h.2.2.2.2.2.2.2.2.2.2) (j,i,g,l,b,k,a,c,f,d,e)
theorem ja0 (j i g l b k a c f d e):j6u j i g l b k a c f d e=lpK (j3k j i g l b k a c f d e) (fun h=>j6u h.1 h.2.1 h.2.2.1 h.2.2.2.1 h.2.2.2.2.1 h.2.2.2.2.2.1 h.2.2.2.2.2.2.1 h.2.2.2.2.2.2.2.1 h.2.2.2.2.2.2.2.2.1 h.2.2.2.2.2.2.2.2.2.1 h.2.2.2.2.2.2.2.2.2.2):=j05 _ _
def j2y [LP] (m:Int) (n:(List Int)) (f:Int) (e:Tn56) (j:Tn50) (i:Tn27):Option ((Int×(List Int)×Int×Tn56×Tn50×Tn27) ⊕ (((List Int)×Int×Tn56×Tn50×Tn27))):=
 cond (decide (m>0)) (
 let l:=(Int.ofNat (List.length e))
 (j04 n f l).bind fun c=>
 (j04 c.2.1 c.2.2 4).bind fun b=>
 (j6u m b.1 20454 b.2.1 b.2.2 (ByteArray.mk #[100,97,121,115]) c.1 e j i ([]:(List Int))).bind fun a=>
 let d:Tn27:=[(a.2.2.2.1,(a.2.2.2.2.1,a.2.2.2.2.2.2.2.2))]
 cond (decide (List.length a.2.2.2.2.2.2.2.1+List.length d≤j07)) (
 let g:Tn27:=(a.2.2.2.2.2.2.2.1++d)
 let k:=(w64 (a.1-1))
 some (.inl (k,a.2.1,a.2.2.1,a.2.2.2.2.2.1,a.2.2.2.2.2.2.1,g))) none) (
 some (.inr (n,f,e,j,i)))
def j6v [LP] (e f a b d c):=LP.lp (fun h=>j2y h.1 h.2.1 h.2.2.1 h.2.2.2.1 h.2.2.2.2.1 h.2.2.2.2.2) (e,f,a,b,d,c)
theorem j6M (e f a b d c):j6v e f a b d c=lpK (j2y e f a b d c) (fun h=>j6v h.1 h.2.1 h.2.2.1 h.2.2.2.1 h.2.2.2.2.1 h.2.2.2.2.2):=j05 _ _
def j8u [LP] (g:(List Int)) (a:Int):Option (Tn73×(List Int)×Int):=
 (j04 g a 2).bind fun d=>
 let j:=(w64 (1+d.1))
 (j6s j d.2.1 d.2.2 ([]:Tn56)).bind fun i=>
 (j04 i.1 i.2.1 4).bind fun b=>
 let k:=(w64 (1+b.1))
 (j6t k b.2.1 b.2.2 i.2.2 ([]:Tn50)).bind fun f=>
 (j04 f.1 f.2.1 2).bind fun e=>
 (j6v e.1 e.2.1 e.2.2 f.2.2.1 f.2.2.2 ([]:Tn27)).bind fun c=>
 some ((c.2.2.1,(c.2.2.2.1,(c.2.2.2.2,([]:Tn67)))),c.1,c.2.1)
def j3l (z:Int) (a2:(List Int)) (r:Int) (a0:Tn56) (b:Tn50) (n:Tn27) (m:Tn67) (y:ByteArray) (p j k g q l u:Int) (a1:ByteArray) (t o d f i e s:Int) (c:(List Int)):Option ((Int×(List Int)×Int×Tn56×Tn50×Tn27×Tn67×ByteArray×Int×Int×Int×Int×Int×Int×Int×ByteArray×Int×Int×Int×Int×Int×Int×Int×(List Int)) ⊕ (((List Int)×Int×Tn56×Tn50×Tn27×Tn67×ByteArray×Int×Int×Int×Int×Int×Int×Int×ByteArray×Int×Int×Int×Int×Int×Int×Int×(List Int)))):=
 cond (decide (z>0)) (
 let v:=(Int.ofNat (List.length b))
 (j04 a2 r v).bind fun a=>
 cond (decide (List.length c+List.length [a.1]≤j07)) (
 let w:(List Int):=(c++[a.1])
 let x:=(w64 (z-1))
 some (.inl (x,a.2.1,a.2.2,a0,b,n,m,y,p,j,k,g,q,l,u,a1,t,o,d,f,i,e,s,w))) none) (
 some (.inr (a2,r,a0,b,n,m,y,p,j,k,g,q,l,u,a1,t,o,d,f,i,e,s,c)))
def j51 [LP] (v y q w c m l u o g i e p k t x s n a d f b r j):=LP.lp (fun h=>j3l h.1 h.2.1 h.2.2.1 h.2.2.2.1 h.2.2.2.2.1 h.2.2.2.2.2.1 h.2.2.2.2.2.2.1 h.2.2.2.2.2.2.2.1 h.2.2.2.2.2.2.2.2.1 h.2.2.2.2.2.2.2.2.2.1 h.2.2.2.2.2.2.2.2.2.2.1 h.2.2.2.2.2.2.2.2.2.2.2.1 h.2.2.2.2.2.2.2.2.2.2.2.2.1 h.2.2.2.2.2.2.2.2.2.2.2.2.2.1 h.2.2.2.2.2.2.2.2.2.2.2.2.2.2.1 h.2.2.2.2.2.2.2.2.2.2.2.2.2.2.2.1 h.2.2.2.2.2.2.2.2.2.2.2.2.2.2.2.2.1 h.2.2.2.2.2.2.2.2.2.2.2.2.2.2.2.2.2.1 h.2.2.2.2.2.2.2.2.2.2.2.2.2.2.2.2.2.2.1 h.2.2.2.2.2.2.2.2.2.2.2.2.2.2.2.2.2.2.2.1 h.2.2.2.2.2.2.2.2.2.2.2.2.2.2.2.2.2.2.2.2.1 h.2.2.2.2.2.2.2.2.2.2.2.2.2.2.2.2.2.2.2.2.2.1 h.2.2.2.2.2.2.2.2.2.2.2.2.2.2.2.2.2.2.2.2.2.2.1 h.2.2.2.2.2.2.2.2.2.2.2.2.2.2.2.2.2.2.2.2.2.2.2) (v,y,q,w,c,m,l,u,o,g,i,e,p,k,t,x,s,n,a,d,f,b,r,j)
theorem ja1 (v y q w c m l u o g i e p k t x s n a d f b r j):j51 v y q w c m l u o g i e p k t x s n a d f b r j=lpK (j3l v y q w c m l u o g i e p k t x s n a d f b r j) (fun h=>j51 h.1 h.2.1 h.2.2.1 h.2.2.2.1 h.2.2.2.2.1 h.2.2.2.2.2.1 h.2.2.2.2.2.2.1 h.2.2.2.2.2.2.2.1 h.2.2.2.2.2.2.2.2.1 h.2.2.2.2.2.2.2.2.2.1 h.2.2.2.2.2.2.2.2.2.2.1 h.2.2.2.2.2.2.2.2.2.2.2.1 h.2.2.2.2.2.2.2.2.2.2.2.2.1 h.2.2.2.2.2.2.2.2.2.2.2.2.2.1 h.2.2.2.2.2.2.2.2.2.2.2.2.2.2.1 h.2.2.2.2.2.2.2.2.2.2.2.2.2.2.2.1 h.2.2.2.2.2.2.2.2.2.2.2.2.2.2.2.2.1 h.2.2.2.2.2.2.2.2.2.2.2.2.2.2.2.2.2.1 h.2.2.2.2.2.2.2.2.2.2.2.2.2.2.2.2.2.2.1 h.2.2.2.2.2.2.2.2.2.2.2.2.2.2.2.2.2.2.2.1 h.2.2.2.2.2.2.2.2.2.2.2.2.2.2.2.2.2.2.2.2.1 h.2.2.2.2.2.2.2.2.2.2.2.2.2.2.2.2.2.2.2.2.2.1 h.2.2.2.2.2.2.2.2.2.2.2.2.2.2.2.2.2.2.2.2.2.2.1 h.2.2.2.2.2.2.2.2.2.2.2.2.2.2.2.2.2.2.2.2.2.2.2):=j05 _ _
def j8v [LP] (b5:(List Int)) (a1:Int) (c:Tn73) (j:ByteArray):Option (Tn61×(List Int)×Int):=
 let b6:=(Int.ofNat (List.length c.1))
 (j04 b5 a1 b6).bind fun x=>
 (j04 x.2.1 x.2.2 6).bind fun a2=>
 let c4:=(w64 (20454+a2.1))
 let b4:=(w64 (c4-2))
 let b7:(List Int):=[0,32400,7200,9000,79200,1]
 (j1A a2.2.1 a2.2.2 b7).bind fun v=>
 (j04 v.2.1 v.2.2 3).bind fun u=>
 (j04 u.2.1 u.2.2 2).bind fun r=>
 let c2:=(w64 (1+r.1))
 cond (u.1==0) (
 let c1:(List Int):=[6,8,12,24,23,49]
 (j1A r.2.1 r.2.2 c1).bind fun y=>
 (j04 y.2.1 y.2.2 3).bind fun z=>
 let c3:=(w64 (1+z.1))
 (j51 c3 z.2.1 z.2.2 c.1 c.2.1 c.2.2.1 c.2.2.2 ByteArray.empty 0 0 0 0 0 0 0 j x.1 b4 v.1 u.1 y.1 0 0 ([]:(List Int))).bind fun b=>
 (j1k b.1 b.2.1 2).bind fun t=>
 cond t.1 (
 (j4s t.2.1 t.2.2).bind fun w=>
 (j1k w.2.1 w.2.2 4).bind fun s=>
 let b9:=(Int.ofNat (List.length b.2.2.2.2.1))
 cond (cond s.1 (decide (b9>0)) false) (
 let b8:=(Int.ofNat (List.length b.2.2.2.2.1))
 (j04 s.2.1 s.2.2 b8).bind fun a0=>
 (j04 a0.2.1 a0.2.2 2).bind fun a3=>
 let c0:=(w64 (1+a3.1))
 some ((b.2.2.2.2.2.2.2.2.2.2.2.2.2.2.1,(b.2.2.2.2.2.2.2.2.2.2.2.2.2.2.2.1,((b.2.2.2.2.2.2.2.2.2.2.2.2.2.2.2.2.1,b.2.2.2.2.2.2.2.2.2.2.2.2.2.2.2.2.2.1),(b.2.2.2.2.2.2.2.2.2.2.2.2.2.2.2.2.2.2.1,(b.2.2.2.2.2.2.2.2.2.2.2.2.2.2.2.2.2.2.2.1,(b.2.2.2.2.2.2.2.2.2.2.2.2.2.2.2.2.2.2.2.2.2.2,(w.1,(a0.1,c0)))))))),a3.2.1,a3.2.2)) (
 some ((b.2.2.2.2.2.2.2.2.2.2.2.2.2.2.1,(b.2.2.2.2.2.2.2.2.2.2.2.2.2.2.2.1,((b.2.2.2.2.2.2.2.2.2.2.2.2.2.2.2.2.1,b.2.2.2.2.2.2.2.2.2.2.2.2.2.2.2.2.2.1),(b.2.2.2.2.2.2.2.2.2.2.2.2.2.2.2.2.2.2.1,(b.2.2.2.2.2.2.2.2.2.2.2.2.2.2.2.2.2.2.2.1,(b.2.2.2.2.2.2.2.2.2.2.2.2.2.2.2.2.2.2.2.2.2.2,(w.1,(b.2.2.2.2.2.2.2.2.2.2.2.2.2.2.2.2.2.2.2.2.1,b.2.2.2.2.2.2.2.2.2.2.2.2.2.2.2.2.2.2.2.2.2.1)))))))),s.2.1,s.2.2))) (
 (j1k t.2.1 t.2.2 4).bind fun d=>
 let a9:=(Int.ofNat (List.length b.2.2.2.2.1))
 cond (cond d.1 (decide (a9>0)) false) (
 let b3:=(Int.ofNat (List.length b.2.2.2.2.1))
 (j04 d.2.1 d.2.2 b3).bind fun o=>
 (j04 o.2.1 o.2.2 2).bind fun q=>
 let a4:=(w64 (1+q.1))
 some ((b.2.2.2.2.2.2.2.2.2.2.2.2.2.2.1,(b.2.2.2.2.2.2.2.2.2.2.2.2.2.2.2.1,((b.2.2.2.2.2.2.2.2.2.2.2.2.2.2.2.2.1,b.2.2.2.2.2.2.2.2.2.2.2.2.2.2.2.2.2.1),(b.2.2.2.2.2.2.2.2.2.2.2.2.2.2.2.2.2.2.1,(b.2.2.2.2.2.2.2.2.2.2.2.2.2.2.2.2.2.2.2.1,(b.2.2.2.2.2.2.2.2.2.2.2.2.2.2.2.2.2.2.2.2.2.2,(([]:Tn2),(o.1,a4)))))))),q.2.1,q.2.2)) (
 some ((b.2.2.2.2.2.2.2.2.2.2.2.2.2.2.1,(b.2.2.2.2.2.2.2.2.2.2.2.2.2.2.2.1,((b.2.2.2.2.2.2.2.2.2.2.2.2.2.2.2.2.1,b.2.2.2.2.2.2.2.2.2.2.2.2.2.2.2.2.2.1),(b.2.2.2.2.2.2.2.2.2.2.2.2.2.2.2.2.2.2.1,(b.2.2.2.2.2.2.2.2.2.2.2.2.2.2.2.2.2.2.2.1,(b.2.2.2.2.2.2.2.2.2.2.2.2.2.2.2.2.2.2.2.2.2.2,(([]:Tn2),(b.2.2.2.2.2.2.2.2.2.2.2.2.2.2.2.2.2.2.2.2.1,b.2.2.2.2.2.2.2.2.2.2.2.2.2.2.2.2.2.2.2.2.2.1)))))))),d.2.1,d.2.2)))) (
 (j04 r.2.1 r.2.2 3).bind fun k=>
 let a7:=(w64 (1+k.1))
 (j51 a7 k.2.1 k.2.2 c.1 c.2.1 c.2.2.1 c.2.2.2 ByteArray.empty 0 0 0 0 0 0 0 j x.1 b4 v.1 u.1 c2 0 0 ([]:(List Int))).bind fun a=>
 (j1k a.1 a.2.1 2).bind fun f=>
 cond f.1 (
 (j4s f.2.1 f.2.2).bind fun i=>
 (j1k i.2.1 i.2.2 4).bind fun e=>
 let b0:=(Int.ofNat (List.length a.2.2.2.2.1))
 cond (cond e.1 (decide (b0>0)) false) (
 let a8:=(Int.ofNat (List.length a.2.2.2.2.1))
 (j04 e.2.1 e.2.2 a8).bind fun p=>
 (j04 p.2.1 p.2.2 2).bind fun l=>
 let a6:=(w64 (1+l.1))
 some ((a.2.2.2.2.2.2.2.2.2.2.2.2.2.2.1,(a.2.2.2.2.2.2.2.2.2.2.2.2.2.2.2.1,((a.2.2.2.2.2.2.2.2.2.2.2.2.2.2.2.2.1,a.2.2.2.2.2.2.2.2.2.2.2.2.2.2.2.2.2.1),(a.2.2.2.2.2.2.2.2.2.2.2.2.2.2.2.2.2.2.1,(a.2.2.2.2.2.2.2.2.2.2.2.2.2.2.2.2.2.2.2.1,(a.2.2.2.2.2.2.2.2.2.2.2.2.2.2.2.2.2.2.2.2.2.2,(i.1,(p.1,a6)))))))),l.2.1,l.2.2)) (
 some ((a.2.2.2.2.2.2.2.2.2.2.2.2.2.2.1,(a.2.2.2.2.2.2.2.2.2.2.2.2.2.2.2.1,((a.2.2.2.2.2.2.2.2.2.2.2.2.2.2.2.2.1,a.2.2.2.2.2.2.2.2.2.2.2.2.2.2.2.2.2.1),(a.2.2.2.2.2.2.2.2.2.2.2.2.2.2.2.2.2.2.1,(a.2.2.2.2.2.2.2.2.2.2.2.2.2.2.2.2.2.2.2.1,(a.2.2.2.2.2.2.2.2.2.2.2.2.2.2.2.2.2.2.2.2.2.2,(i.1,(a.2.2.2.2.2.2.2.2.2.2.2.2.2.2.2.2.2.2.2.2.1,a.2.2.2.2.2.2.2.2.2.2.2.2.2.2.2.2.2.2.2.2.2.1)))))))),e.2.1,e.2.2))) (
 (j1k f.2.1 f.2.2 4).bind fun g=>
 let a5:=(Int.ofNat (List.length a.2.2.2.2.1))
 cond (cond g.1 (decide (a5>0)) false) (
 let b2:=(Int.ofNat (List.length a.2.2.2.2.1))
 (j04 g.2.1 g.2.2 b2).bind fun n=>
 (j04 n.2.1 n.2.2 2).bind fun m=>
 let b1:=(w64 (1+m.1))
 some ((a.2.2.2.2.2.2.2.2.2.2.2.2.2.2.1,(a.2.2.2.2.2.2.2.2.2.2.2.2.2.2.2.1,((a.2.2.2.2.2.2.2.2.2.2.2.2.2.2.2.2.1,a.2.2.2.2.2.2.2.2.2.2.2.2.2.2.2.2.2.1),(a.2.2.2.2.2.2.2.2.2.2.2.2.2.2.2.2.2.2.1,(a.2.2.2.2.2.2.2.2.2.2.2.2.2.2.2.2.2.2.2.1,(a.2.2.2.2.2.2.2.2.2.2.2.2.2.2.2.2.2.2.2.2.2.2,(([]:Tn2),(n.1,b1)))))))),m.2.1,m.2.2)) (
 some ((a.2.2.2.2.2.2.2.2.2.2.2.2.2.2.1,(a.2.2.2.2.2.2.2.2.2.2.2.2.2.2.2.1,((a.2.2.2.2.2.2.2.2.2.2.2.2.2.2.2.2.1,a.2.2.2.2.2.2.2.2.2.2.2.2.2.2.2.2.2.1),(a.2.2.2.2.2.2.2.2.2.2.2.2.2.2.2.2.2.2.1,(a.2.2.2.2.2.2.2.2.2.2.2.2.2.2.2.2.2.2.2.1,(a.2.2.2.2.2.2.2.2.2.2.2.2.2.2.2.2.2.2.2.2.2.2,(([]:Tn2),(a.2.2.2.2.2.2.2.2.2.2.2.2.2.2.2.2.2.2.2.2.1,a.2.2.2.2.2.2.2.2.2.2.2.2.2.2.2.2.2.2.2.2.2.1)))))))),g.2.1,g.2.2))))
def j5D (d:(List Int)) (a:Int):Option (Int×(List Int)×Int):=
 (j04 d a 576).bind fun e=>
 let j:=(w64 (3600*e.1))
 let i:=(w64 (1767139200+j))
 (j1k e.2.1 e.2.2 3).bind fun b=>
 cond b.1 (
 let g:(List Int):=[(-1),1,1800,3599]
 (j1A b.2.1 b.2.2 g).bind fun c=>
 let f:=(w64 (i+c.1))
 some (f,c.2.1,c.2.2)) (
 some (i,b.2.1,b.2.2))
def j9G (m:(List Int)) (j:Int) (n:Tn73):Option (Tn25×(List Int)×Int):=
 let l:=(Int.ofNat (List.length n.2.1))
 (j04 m j 3).bind fun a=>
 (j04 a.2.1 a.2.2 l).bind fun e=>
 (j5D e.2.1 e.2.2).bind fun b=>
 let o:(List Int):=[3600,86400,7,259200,40000]
 (j1A b.2.1 b.2.2 o).bind fun d=>
 let f:=(w64 (b.1+d.1))
 cond (a.1==2) (
 cond (decide (l<2)) (
 some ((0,(e.1,(0,(b.1,f)))),d.2.1,d.2.2)) (
 let p:=(w64 (e.1+1))
 let r:=(w64 (l-1))
 (j04 d.2.1 d.2.2 r).bind fun g=>
 let q:=(w64 (p+g.1))
 cond (!(l==0)) (
 let k:=(Int.tmod q l)
 cond (a.1==1) (
 (j1k g.2.1 g.2.2 4).bind fun i=>
 cond i.1 (
 some ((a.1,((-1),(k,(b.1,f)))),i.2.1,i.2.2)) (
 some ((a.1,(e.1,(k,(b.1,f)))),i.2.1,i.2.2))) (
 some ((a.1,(e.1,(k,(b.1,f)))),g.2.1,g.2.2))) none)) (
 cond (a.1==1) (
 (j1k d.2.1 d.2.2 4).bind fun c=>
 cond c.1 (
 some ((a.1,((-1),(0,(b.1,f)))),c.2.1,c.2.2)) (
 some ((a.1,(e.1,(0,(b.1,f)))),c.2.1,c.2.2))) (
 some ((a.1,(e.1,(0,(b.1,f)))),d.2.1,d.2.2)))
def j34 [LP] (p r:Int) (q:(List Int)) (j:Int) (n:Tn56) (e:Tn50) (c:Tn27) (o:ByteArray) (d:Tn67) (b:Tn62):Option ((Int×Int×(List Int)×Int×Tn56×Tn50×Tn27×ByteArray×Tn67×Tn62) ⊕ ((Int×(List Int)×Int×Tn56×Tn50×Tn27×ByteArray×Tn67×Tn62))):=
 cond (decide (r>0)) (
 (jfj).bind fun i=>
 let f:=(Int.ofNat (List.length b))
 cond (inR f (List.length i)) (
 let m:=(List.getD i (Int.toNat f) ByteArray.empty)
 (j8v q j (n,(e,(c,d))) m).bind fun a=>
 let g:Tn62:=[(a.1.1,(a.1.2.1,((a.1.2.2.1.1,a.1.2.2.1.2),(a.1.2.2.2.1,(a.1.2.2.2.2.1,(a.1.2.2.2.2.2.1,(a.1.2.2.2.2.2.2.1,(a.1.2.2.2.2.2.2.2.1,a.1.2.2.2.2.2.2.2.2))))))))]
 cond (decide (List.length b+List.length g≤j07)) (
 let l:Tn62:=(b++g)
 let k:=(w64 (r-1))
 some (.inl (p,k,a.2.1,a.2.2,n,e,c,o,d,l))) none) none) (
 some (.inr (p,q,j,n,e,c,o,d,b)))
def j4z [LP] (g k i b j e a f d c):=LP.lp (fun h=>j34 h.1 h.2.1 h.2.2.1 h.2.2.2.1 h.2.2.2.2.1 h.2.2.2.2.2.1 h.2.2.2.2.2.2.1 h.2.2.2.2.2.2.2.1 h.2.2.2.2.2.2.2.2.1 h.2.2.2.2.2.2.2.2.2) (g,k,i,b,j,e,a,f,d,c)
theorem j99 (g k i b j e a f d c):j4z g k i b j e a f d c=lpK (j34 g k i b j e a f d c) (fun h=>j4z h.1 h.2.1 h.2.2.1 h.2.2.2.1 h.2.2.2.2.1 h.2.2.2.2.2.1 h.2.2.2.2.2.2.1 h.2.2.2.2.2.2.2.1 h.2.2.2.2.2.2.2.2.1 h.2.2.2.2.2.2.2.2.2):=j05 _ _
def j35 (o m:Int) (p:(List Int)) (g:Int) (l:Tn56) (e:Tn50) (b:Tn27) (n:ByteArray) (d:Tn67) (i:Tn62) (c:Tn31):Option ((Int×Int×(List Int)×Int×Tn56×Tn50×Tn27×ByteArray×Tn67×Tn62×Tn31) ⊕ ((Int×(List Int)×Int×Tn56×Tn50×Tn27×ByteArray×Tn67×Tn62×Tn31))):=
 cond (decide (m>0)) (
 (j9G p g (l,(e,(b,d)))).bind fun a=>
 let f:Tn31:=[(a.1.1,(a.1.2.1,(a.1.2.2.1,(a.1.2.2.2.1,a.1.2.2.2.2))))]
 cond (decide (List.length c+List.length f≤j07)) (
 let j:Tn31:=(c++f)
 let k:=(w64 (m-1))
 some (.inl (o,k,a.2.1,a.2.2,l,e,b,n,d,i,j))) none) (
 some (.inr (o,p,g,l,e,b,n,d,i,c)))
def j5V [LP] (j g k b l f a i e c d):=LP.lp (fun h=>j35 h.1 h.2.1 h.2.2.1 h.2.2.2.1 h.2.2.2.2.1 h.2.2.2.2.2.1 h.2.2.2.2.2.2.1 h.2.2.2.2.2.2.2.1 h.2.2.2.2.2.2.2.2.1 h.2.2.2.2.2.2.2.2.2.1 h.2.2.2.2.2.2.2.2.2.2) (j,g,k,b,l,f,a,i,e,c,d)
theorem j9a (j g k b l f a i e c d):j5V j g k b l f a i e c d=lpK (j35 j g k b l f a i e c d) (fun h=>j5V h.1 h.2.1 h.2.2.1 h.2.2.2.1 h.2.2.2.2.1 h.2.2.2.2.2.1 h.2.2.2.2.2.2.1 h.2.2.2.2.2.2.2.1 h.2.2.2.2.2.2.2.2.1 h.2.2.2.2.2.2.2.2.2.1 h.2.2.2.2.2.2.2.2.2.2):=j05 _ _
def j36 [LP] (q:Int) (r:(List Int)) (k:Int) (s:Tn56) (l:Tn50) (j:Tn27) (e:Tn67):Option ((Int×(List Int)×Int×Tn56×Tn50×Tn27×Tn67) ⊕ (((List Int)×Int×Tn56×Tn50×Tn27×Tn67))):=
 cond (decide (q>0)) (
 let i:(List ByteArray):=[(ByteArray.mk #[102,105,114,115,116]),(ByteArray.mk #[115,101,99,111,110,100]),(ByteArray.mk #[116,104,105,114,100])]
 let o:=(Int.ofNat (List.length e))
 let g:=(Int.tmod o 3)
 cond (inR g (List.length i)) (
 let n:=(List.getD i (Int.toNat g) ByteArray.empty)
 (j04 r k 4).bind fun c=>
 (j4z q c.1 c.2.1 c.2.2 s l j n e ([]:Tn62)).bind fun b=>
 (j04 b.2.1 b.2.2.1 4).bind fun d=>
 (j5V b.1 d.1 d.2.1 d.2.2 b.2.2.2.1 b.2.2.2.2.1 b.2.2.2.2.2.1 b.2.2.2.2.2.2.1 b.2.2.2.2.2.2.2.1 b.2.2.2.2.2.2.2.2 ([]:Tn31)).bind fun a=>
 let f:Tn67:=[(a.2.2.2.2.2.2.1,(a.2.2.2.2.2.2.2.2.1,a.2.2.2.2.2.2.2.2.2))]
 cond (decide (List.length a.2.2.2.2.2.2.2.1+List.length f≤j07)) (
 let m:Tn67:=(a.2.2.2.2.2.2.2.1++f)
 let p:=(w64 (a.1-1))
 some (.inl (p,a.2.1,a.2.2.1,a.2.2.2.1,a.2.2.2.2.1,a.2.2.2.2.2.1,m))) none) none) (
 some (.inr (r,k,s,l,j,e)))
def j5W [LP] (e f b g d a c):=LP.lp (fun h=>j36 h.1 h.2.1 h.2.2.1 h.2.2.2.1 h.2.2.2.2.1 h.2.2.2.2.2.1 h.2.2.2.2.2.2) (e,f,b,g,d,a,c)
theorem j9b (e f b g d a c):j5W e f b g d a c=lpK (j36 e f b g d a c) (fun h=>j5W h.1 h.2.1 h.2.2.1 h.2.2.2.1 h.2.2.2.2.1 h.2.2.2.2.2.1 h.2.2.2.2.2.2):=j05 _ _
def j7U [LP] (e:(List Int)) (c f:Int):Option (Tn73×(List Int)×Int):=
 (j8u e c).bind fun a=>
 (j04 a.2.1 a.2.2 f).bind fun d=>
 let g:=(w64 (1+d.1))
 (j5W g d.2.1 d.2.2 a.1.1 a.1.2.1 a.1.2.2.1 ([]:Tn67)).bind fun b=>
 some ((b.2.2.1,(b.2.2.2.1,(b.2.2.2.2.1,b.2.2.2.2.2))),b.1,b.2.1)
def jjk (b a:Int):Option (Int):=
 cond (!(a==0)) (
 let e:=(Int.tmod b a)
 let d:=(w64 (e+a))
 cond (!(a==0)) (
 let c:=(Int.tmod d a)
 some c) none) none
def j5E (b:Tn2) (a:Int):Option ((Tn2×Int) ⊕ (Bool ⊕ Unit)):=
 let m:=(Int.ofNat (List.length b))
 cond (decide (a<m)) (
 cond (inR a (List.length b)) (
 let f:=(List.getD b (Int.toNat a) (0,0))
 cond (decide (f.1<0)) (
 some (.inr (.inl false))) (
 cond (inR a (List.length b)) (
 let e:=(List.getD b (Int.toNat a) (0,0))
 cond (inR a (List.length b)) (
 let j:=(List.getD b (Int.toNat a) (0,0))
 cond (decide (e.1≥j.2)) (
 some (.inr (.inl false))) (
 cond (inR a (List.length b)) (
 let l:=(List.getD b (Int.toNat a) (0,0))
 cond (decide (l.2>8589934592)) (
 some (.inr (.inl false))) (
 cond (decide (a>0)) (
 cond (inR a (List.length b)) (
 let d:=(List.getD b (Int.toNat a) (0,0))
 let c:=(w64 (a-1))
 cond (inR c (List.length b)) (
 let g:=(List.getD b (Int.toNat c) (0,0))
 cond (decide (d.1≤g.2)) (
 some (.inr (.inl false))) (
 let k:=(w64 (a+1))
 some (.inl (b,k)))) none) none) (
 let i:=(w64 (a+1))
 some (.inl (b,i))))) none)) none) none)) none) (
 some (.inr (.inr ())))
def jce [LP] (b a):=LP.lp (fun h=>j5E h.1 h.2) (b,a)
theorem jeH (b a):jce b a=lpK (j5E b a) (fun h=>jce h.1 h.2):=j05 _ _
def jd1 [LP] (a:Tn2):Option (Bool):=
 let b:=(Int.ofNat (List.length a))
 cond (decide (b>4096)) (
 some false) (
 (jce a 0).bind fun c=>
 sumC c (fun d=>
 some d) (fun e=>
 some true))
def j52 [LP] (a:Tn2) (j b:Int):Option ((Tn2×Int×Int) ⊕ (Int)):=
 let k:=(Int.ofNat (List.length a))
 cond (decide (b<k)) (
 (jd1 a).bind fun g=>
 cond g (
 cond (inR b (List.length a)) (
 let i:=(List.getD a (Int.toNat b) (0,0))
 cond (inR b (List.length a)) (
 let d:=(List.getD a (Int.toNat b) (0,0))
 let c:=(w64 (i.2-d.1))
 let f:=(w64 (j+c))
 let e:=(w64 (b+1))
 some (.inl (a,f,e))) none) none) (
 some (.inr j))) (
 some (.inr j))
def jaH [LP] (c b a):=LP.lp (fun h=>j52 h.1 h.2.1 h.2.2) (c,b,a)
theorem je2 (c b a):jaH c b a=lpK (j52 c b a) (fun h=>jaH h.1 h.2.1 h.2.2):=j05 _ _
def jfk [LP] (a:Tn2):Option (Int):=
 (jaH a 0 0).bind fun b=>
 some b
def j6N (b:Tn2) (g c i:Int):Option ((Tn2×Int×Int×Int) ⊕ ((Tn2×Int×Int))):=
 cond (decide (c<i)) (
 let d:=(w64 (c+i))
 let a:=(w64 (Int.tdiv d 2))
 cond (inR a (List.length b)) (
 let e:=(List.getD b (Int.toNat a) (0,0))
 cond (decide (e.2≤g)) (
 let f:=(w64 (a+1))
 some (.inl (b,g,f,i))) (
 some (.inl (b,g,c,a)))) none) (
 some (.inr (b,g,c)))
def jfl [LP] (c d a b):=LP.lp (fun h=>j6N h.1 h.2.1 h.2.2.1 h.2.2.2) (c,d,a,b)
theorem jgZ (c d a b):jfl c d a b=lpK (j6N c d a b) (fun h=>jfl h.1 h.2.1 h.2.2.1 h.2.2.2):=j05 _ _
def jpq [LP] (b:Tn2) (d:Int):Option (Bool):=
 let f:=(Int.ofNat (List.length b))
 (jfl b d 0 f).bind fun a=>
 let c:=(Int.ofNat (List.length a.1))
 cond ((inR a.2.2 (List.length a.1)) || !(decide (a.2.2<c))) (
 let e:=(List.getD a.1 (Int.toNat a.2.2) (0,0))
 some (cond (decide (a.2.2<c)) (decide (e.1≤a.2.1)) false)) none
def jmC [LP] (a:Tn2) (b:Int):Option (Bool):=
 (jd1 a).bind fun d=>
 cond d (
 (jpq a b).bind fun c=>
 some c) (
 some false)
def j2t [LP] (i m j v k e:Int) (g:Tn56) (a:Tn50) (c:Tn27) (d:Tn67):Option ((Int×Int×Int×Int×Int×Int×Tn56×Tn50×Tn27×Tn67) ⊕ (Bool ⊕ (Int×Int×Int×Int×Tn56×Tn50×Tn27×Tn67))):=
 let n:=(Int.ofNat (List.length a))
 cond (decide (e<n)) (
 let q:=(w64 (m+604800))
 (j50 (g,(a,(c,d))) i e m q).bind fun b=>
 cond (b.2 != 0) (
 some (.inr (.inl false))) (
 (jd1 b.1).bind fun t=>
 cond (!t) (
 some (.inr (.inl false))) (
 (jfk b.1).bind fun o=>
 let f:=(w64 (v+o))
 (jmC b.1 j).bind fun p=>
 cond p (
 let s:=(w64 (k+1))
 (j5C (g,(a,(c,d))) i j).bind fun l=>
 cond (l != e) (
 some (.inr (.inl false))) (
 let u:=(w64 (e+1))
 some (.inl (i,m,j,f,s,u,g,a,c,d)))) (
 let r:=(w64 (e+1))
 some (.inl (i,m,j,f,k,r,g,a,c,d)))))) (
 some (.inr (.inr (i,j,v,k,g,a,c,d))))
def j3s [LP] (i k g f d e j b a c):=LP.lp (fun h=>j2t h.1 h.2.1 h.2.2.1 h.2.2.2.1 h.2.2.2.2.1 h.2.2.2.2.2.1 h.2.2.2.2.2.2.1 h.2.2.2.2.2.2.2.1 h.2.2.2.2.2.2.2.2.1 h.2.2.2.2.2.2.2.2.2) (i,k,g,f,d,e,j,b,a,c)
theorem j7K (i k g f d e j b a c):j3s i k g f d e j b a c=lpK (j2t i k g f d e j b a c) (fun h=>j3s h.1 h.2.1 h.2.2.1 h.2.2.2.1 h.2.2.2.2.1 h.2.2.2.2.2.1 h.2.2.2.2.2.2.1 h.2.2.2.2.2.2.2.1 h.2.2.2.2.2.2.2.2.1 h.2.2.2.2.2.2.2.2.2):=j05 _ _
def j82 [LP] (e:(List Int)) (j:Int):Option (Bool):=
 (jhV e).bind fun q=>
 cond (!q) (
 (j9p).bind fun m=>
 some m) (
 (jk2 e).bind fun g=>
 (j7U g.1 g.2 2).bind fun a=>
 let n:=(Int.ofNat (List.length a.1.2.2.2))
 (j04 a.2.1 a.2.2 n).bind fun d=>
 (j5D d.2.1 d.2.2).bind fun f=>
 (jjk j 604800).bind fun s=>
 let o:=(w64 (f.1+s))
 (j3s d.1 f.1 o 0 0 (-1) a.1.1 a.1.2.1 a.1.2.2.1 a.1.2.2.2).bind fun t=>
 sumC t (fun u=>
 some u) (fun b=>
 (j73 (b.2.2.2.2.1,(b.2.2.2.2.2.1,(b.2.2.2.2.2.2.1,b.2.2.2.2.2.2.2))) b.2.1).bind fun c=>
 cond (b.2.2.1==604800) (
 cond (b.2.2.2.1==1) (
 let k:=(Int.ofNat (List.length c))
 let p:=(Int.ofNat (List.length b.2.2.2.2.2.2.2))
 cond (k==p) (
 cond (inR b.1 (List.length c)) (
 let l:=(List.getD c (Int.toNat b.1) 0)
 (j5C (b.2.2.2.2.1,(b.2.2.2.2.2.1,(b.2.2.2.2.2.2.1,b.2.2.2.2.2.2.2))) b.1 b.2.1).bind fun r=>
 cond (l==r) (
 (j9p).bind fun i=>
 some i) (
 some false)) none) (
 some false)) (
 some false)) (
 some false)))
end
end Go.Proofs.Pw
