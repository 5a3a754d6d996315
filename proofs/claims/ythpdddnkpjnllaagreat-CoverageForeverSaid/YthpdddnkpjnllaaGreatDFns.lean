/- Plain functions, printed by a program out of the given code. -/
import Derived.Test.YthpdddnkpjnllaaGreatDLS
open Go Go.Lft
set_option linter.unusedVariables false
namespace Go.Proofs.Pw
noncomputable section
abbrev Tn2:Type:=(List (Int×Int))
abbrev Tn1:Type:=(Int×(List Int))
abbrev Tn3:Type:=(Int×(Int×Int))
abbrev Tn14:Type:=(List Tn3)
abbrev Tn13:Type:=(Int×Tn2)
abbrev Tn19:Type:=(ByteArray×Tn1)
abbrev Tn20:Type:=(List Tn13)
abbrev Tn24:Type:=(Int×(Int×Tn3))
abbrev Tn26:Type:=(List Tn19)
abbrev Tn29:Type:=(List Tn24)
abbrev Tn38:Type:=(Int×(Int×Tn24))
abbrev Tn42:Type:=(List Tn38)
abbrev Tn44:Type:=(ByteArray×(Int×(Tn2×(Int×(Int×Bool)))))
abbrev Tn48:Type:=(List Tn44)
abbrev Tn52:Type:=(ByteArray×(Int×Tn42))
abbrev Tn54:Type:=(List Tn52)
abbrev Tn59:Type:=(ByteArray×(Int×((Int×Int)×(Int×(Int×((List Int)×(Tn2×(Int×Int))))))))
abbrev Tn60:Type:=(List Tn59)
abbrev Tn64:Type:=(ByteArray×(Tn60×Tn29))
abbrev Tn65:Type:=(List Tn64)
abbrev Tn71:Type:=(Tn54×(Tn48×(Tn26×Tn65)))
abbrev Tn73:Type:=(Tn71×Tn20)
abbrev unc2 {A0 A1 R:Type} (f:A0→A1→R) (h:A0×A1):R:=f h.1 h.2
abbrev unc5 {A0 A1 A2 A3 A4 R:Type} (f:A0→A1→A2→A3→A4→R) (h:A0×A1×A2×A3×A4):R:=f h.1 h.2.1 h.2.2.1 h.2.2.2.1 h.2.2.2.2
abbrev unc7 {A0 A1 A2 A3 A4 A5 A6 R:Type} (f:A0→A1→A2→A3→A4→A5→A6→R) (h:A0×A1×A2×A3×A4×A5×A6):R:=f h.1 h.2.1 h.2.2.1 h.2.2.2.1 h.2.2.2.2.1 h.2.2.2.2.2.1 h.2.2.2.2.2.2
def jl4 (a:(List Int)):Option (Bool):=
 let b:=(Int.ofNat (List.length a))
 some (decide (b≤500))
def jl5 (a:Bool):Option (Tn71):=
 let l:Tn54:=[((ByteArray.mk #[122]),(0,([]:Tn42)))]
 let e:Tn48:=[((ByteArray.mk #[97]),(0,(([]:Tn2),(0,(0,false))))),((ByteArray.mk #[98]),(0,(([]:Tn2),(0,(0,false)))))]
 let d:(List Int):=[0,1]
 let j:Tn2:=[(0,432000)]
 let b:Tn60:=[((ByteArray.mk #[108,111,119]),(0,((4,0),(2,(1,(d,(j,(0,0))))))))]
 cond a (
 let g:Tn2:=[(432000,604800)]
 let f:Tn60:=[((ByteArray.mk #[101,110,100]),(0,((4,0),(2,(1,(d,(g,(0,0))))))))]
 cond (decide (List.length b+List.length f≤j08)) (
 let i:Tn60:=(b++f)
 let k:Tn65:=[((ByteArray.mk #[115]),(i,([]:Tn29)))]
 some (l,(e,(([]:Tn26),k)))) none) (
 let c:Tn65:=[((ByteArray.mk #[115]),(b,([]:Tn29)))]
 some (l,(e,(([]:Tn26),c))))
def jby (a:Tn52):Option (ByteArray):=
 some a.1
def jcy (a:Int):Option (Bool):=
 some (cond (decide (a≥97)) (decide (a≤122)) false)
def jiN (a:Int):Option (Bool):=
 some (cond (decide (a≥48)) (decide (a≤57)) false)
def j7i (d:ByteArray) (c b:Int):Option ((ByteArray×Int×Int) ⊕ (Bool ⊕ Unit)):=
 cond (decide (b<c)) (
 cond (inR b (ByteArray.size d)) (
 let a:=(j2Q d b)
 (jcy a).bind fun e=>
 cond (!e) (
 (jiN a).bind fun f=>
 cond (cond (cond (!f) (a != 95) false) (a != 45) false) (
 some (.inr (.inl false))) (
 let g:=(w64 (b+1))
 some (.inl (d,c,g)))) (
 let i:=(w64 (b+1))
 some (.inl (d,c,i)))) none) (
 some (.inr (.inr ())))
def j6t [LP] (c a b):=LP.lp (fun h=>j7i h.1 h.2.1 h.2.2) (c,a,b)
theorem jlX (c a b):j6t c a b=lpK (j7i c a b) (fun h=>j6t h.1 h.2.1 h.2.2):=j04 _ _
def j7a [LP] (a:ByteArray):Option (Bool):=
 let g:=(Int.ofNat (ByteArray.size a))
 let b:Bool:=(cond (ByteArray.toList a==ByteArray.toList ByteArray.empty) true (decide (g>24)))
 cond ((inR 0 (ByteArray.size a)) || !(!b)) (
 let d:=(j2Q a 0)
 cond b (
 some false) (
 (jcy d).bind fun e=>
 cond (!e) (
 some false) (
 let c:=(Int.ofNat (ByteArray.size a))
 (j6t a c 0).bind fun f=>
 sumC f (fun i=>
 some i) (fun j=>
 some true)))) none
def j40 [LP] (b:ByteArray) (a:(List (ByteArray×Bool))):Option (Int×(List (ByteArray×Bool))):=
 (j7a b).bind fun c=>
 cond (!c) (
 some (2,a)) (
 cond (j6K false a b) (
 some (4,a)) (
 let d:(List (ByteArray×Bool)):=(j8i a b true)
 some (0,d)))
def jbz (a b c:Int):Option (Bool):=
 some (cond (decide (a≥b)) (decide (a≤c)) false)
def jgV (a:Tn38):Option (Int):=
 (jbz a.1 1970 2240).bind fun i=>
 cond (!i) (
 some 1) (
 (jbz a.2.1 a.1 2240).bind fun b=>
 cond (!b) (
 some 1) (
 (jbz a.2.2.1 1 12).bind fun d=>
 cond (!d) (
 some 1) (
 (jbz a.2.2.2.1 1 5).bind fun e=>
 cond (!e) (
 some 1) (
 (jbz a.2.2.2.2.1 0 6).bind fun f=>
 cond (!f) (
 some 1) (
 (jbz a.2.2.2.2.2.1 0 86399).bind fun g=>
 cond (!g) (
 some 1) (
 (jbz a.2.2.2.2.2.2 (-64800) 64800).bind fun c=>
 cond (!c) (
 some 1) (
 some 0)))))))
def jl6 (a:Int):Option (Bool):=
 let c:=(Int.tmod a 4)
 let d:=(Int.tmod a 100)
 let b:=(Int.tmod a 400)
 some (cond (c==0) (cond (d != 0) true (b==0)) false)
def j83 (c a:Int):Option (Int):=
 cond (cond (decide (a<1)) true (decide (a>12))) (
 some 0) (
 let f:(List Int):=[31,28,31,30,31,30,31,31,30,31,30,31]
 let j:(List Int):=(List.replicate 12 0)
 cond (a==2) (
 (jl6 c).bind fun g=>
 cond g (
 some 29) (
 let e:=(w64 (a-1))
 cond (inR e 12) (
 let i:=(List.getD f (Int.toNat e) 0)
 some i) none)) (
 let b:=(w64 (a-1))
 cond (inR b 12) (
 let d:=(List.getD f (Int.toNat b) 0)
 some d) none))
def jcz (a:Tn3):Option (Bool):=
 cond (decide (a.1≥1970)) (
 cond (decide (a.1≤2240)) (
 cond (decide (a.2.2≥1)) (
 (j83 a.1 a.2.1).bind fun b=>
 some (decide (a.2.2≤b))) (
 some false)) (
 some false)) (
 some false)
def j93 (b a:Int):Option (Int):=
 cond (!(a==0)) (
 let c:=(w64 (Int.tdiv b a))
 cond (!(a==0)) (
 let d:=(Int.tmod b a)
 cond (decide (d<0)) (
 let e:=(w64 (c-1))
 some e) (
 some c)) none) none
def j5I (a:Int):Option (Int):=
 let b:=(w64 (a-1))
 let l:=(w64 (a-1970))
 let k:=(w64 (365*l))
 (j93 b 4).bind fun f=>
 let e:=(w64 (k+f))
 (j93 b 100).bind fun i=>
 let j:=(w64 (e-i))
 (j93 b 400).bind fun d=>
 let c:=(w64 (j+d))
 let g:=(w64 (c-477))
 some g
def j4w (i f g a e:Int):Option ((Int×Int×Int×Int×Int) ⊕ (Int)):=
 cond (decide (f<a)) (
 (j83 g f).bind fun c=>
 let d:=(w64 (i+c))
 let b:=(w64 (f+1))
 some (.inl (d,b,g,a,e))) (
 some (.inr i))
def j65 [LP] (d e c b a):=LP.lp (fun h=>j4w h.1 h.2.1 h.2.2.1 h.2.2.2.1 h.2.2.2.2) (d,e,c,b,a)
theorem jdO (d e c b a):j65 d e c b a=lpK (j4w d e c b a) (fun h=>j65 h.1 h.2.1 h.2.2.1 h.2.2.2.1 h.2.2.2.2):=j04 _ _
def j7v [LP] (a:Tn3):Option (Int):=
 (j5I a.1).bind fun d=>
 let c:=(w64 (d+a.2.2))
 let b:=(w64 (c-1))
 (j65 b 1 a.1 a.2.1 a.2.2).bind fun e=>
 some e
def j6u (a:Int):Option (Int):=
 let b:=(Int.tmod a 7)
 let c:=(w64 (b+10))
 let d:=(Int.tmod c 7)
 some d
def jcA [LP] (c b d a:Int):Option (Int×Int):=
 (jcz (c,(b,1))).bind fun g=>
 let o:Bool:=(cond (cond (!g) true (decide (d<1))) true (decide (d>5)))
 let k:Bool:=(cond (cond o true (decide (a<0))) true (decide (a>6)))
 cond k (
 some (0,1)) (
 (j7v (c,(b,1))).bind fun e=>
 (j6u e).bind fun m=>
 let q:=(w64 (a-m))
 let n:=(w64 (q+7))
 let t:=(Int.tmod n 7)
 let i:=(w64 (e+t))
 let s:=(w64 (d-1))
 let r:=(w64 (7*s))
 let f:=(w64 (i+r))
 (j83 c b).bind fun l=>
 let p:=(w64 (e+l))
 cond (decide (f≥p)) (
 let j:=(w64 (f-7))
 some (j,0)) (
 some (f,0)))
def j94 (a b:(Int×Int)):Option (Int):=
 let c:=(w64 (a.1-b.1))
 some c
def j0r (r t u b:Int) (a:Tn2):Option ((Int×Int×Int×Int×Tn2) ⊕ ((Int×Int×Int×Tn2))):=
 cond (decide (b>r)) (
 cond (inR b (List.length a)) (
 let o:=(List.getD a (Int.toNat b) (0,0)).1
 let s:=(List.getD a (Int.toNat b) (0,0)).2
 let c:=(w64 (b-1))
 cond (inR c (List.length a)) (
 let g:=(List.getD a (Int.toNat c) (0,0)).1
 let k:=(List.getD a (Int.toNat c) (0,0)).2
 (j94 (o,s) (g,k)).bind fun m=>
 cond (decide (m<0)) (
 let f:=(w64 (b-1))
 let d:=(w64 (b-1))
 cond (inR d (List.length a)) (
 let i:=(List.getD a (Int.toNat d) (0,0)).1
 let j:=(List.getD a (Int.toNat d) (0,0)).2
 cond (inR b (List.length a)) (
 let p:=(List.getD a (Int.toNat b) (0,0)).1
 let q:=(List.getD a (Int.toNat b) (0,0)).2
 cond (inR b (List.length a)) (
 let e:Tn2:=(List.set a (Int.toNat b) (i,j))
 cond (inR f (List.length e)) (
 let l:Tn2:=(List.set e (Int.toNat f) (p,q))
 let n:=(w64 (b-1))
 some (.inl (r,t,u,n,l))) none) none) none) none) (
 some (.inr (r,t,u,a)))) none) none) (
 some (.inr (r,t,u,a)))
def j0k [LP] (a b d c e):=LP.lp (fun h=>j0r h.1 h.2.1 h.2.2.1 h.2.2.2.1 h.2.2.2.2) (a,b,d,c,e)
theorem j2J (a b d c e):j0k a b d c e=lpK (j0r a b d c e) (fun h=>j0k h.1 h.2.1 h.2.2.1 h.2.2.2.1 h.2.2.2.2):=j04 _ _
def j09 [LP] (f d c:Int) (e:Tn2):Option ((Int×Int×Int×Tn2) ⊕ (Tn2)):=
 cond (decide (c<d)) (
 (j0k f d c c e).bind fun a=>
 let b:=(w64 (a.2.2.1+1))
 some (.inl (a.1,a.2.1,b,a.2.2.2))) (
 some (.inr e))
def j0l [LP] (a b c d):=LP.lp (fun h=>j09 h.1 h.2.1 h.2.2.1 h.2.2.2) (a,b,c,d)
theorem j1k (a b c d):j0l a b c d=lpK (j09 a b c d) (fun h=>j0l h.1 h.2.1 h.2.2.1 h.2.2.2):=j04 _ _
def j0e [LP] (a:Tn2) (b c:Int):Option (Tn2):=
 let d:=(w64 (b+1))
 (j0l b c d a).bind fun e=>
 some e
def j0f [LP] (d e f c:Int) (g:Tn2):Option ((Int×Int×Int×Int×Tn2) ⊕ ((Int×Int×Int×Tn2))):=
 cond (decide (c≤d)) (
 (j0e g f c).bind fun a=>
 let b:=(w64 (c+e))
 some (.inl (d,e,c,b,a))) (
 some (.inr (d,e,f,g)))
def j0C [LP] (a c b d e):=LP.lp (fun h=>j0f h.1 h.2.1 h.2.2.1 h.2.2.2.1 h.2.2.2.2) (a,c,b,d,e)
theorem j6M (a c b d e):j0C a c b d e=lpK (j0f a c b d e) (fun h=>j0C h.1 h.2.1 h.2.2.1 h.2.2.2.1 h.2.2.2.2):=j04 _ _
def j3j (a c b e:Int) (f:Tn2):Option ((Int×Int×Int×Int×Tn2) ⊕ ((Int×Int×Int×Tn2))):=
 cond (decide (e≤a)) (
 let d:=(w64 (b+c))
 none) (
 some (.inr (a,c,b,f)))
def j2r [LP] (a c b d:Int) (e:Tn2):Option ((Int×Int×Int×Tn2)):=
 LP.lp (unc5 (j3j)) (a,c,b,d,e)
def j0g [LP] (f e:Int) (g:Tn2):Option ((Int×Int×Tn2) ⊕ (Tn2)):=
 cond (decide (e<f)) (
 let c:=(w64 (2*e))
 (j2r f e 0 c g).bind fun a=>
 let b:=(w64 (a.2.2.1+a.2.1))
 cond (decide (b<a.1)) (
 none) (
 let d:=(w64 (a.2.1*2))
 some (.inl (a.1,d,a.2.2.2)))) (
 some (.inr g))
def j0D [LP] (a b c):=LP.lp (fun h=>j0g h.1 h.2.1 h.2.2) (a,b,c)
theorem j6N (a b c):j0D a b c=lpK (j0g a b c) (fun h=>j0D h.1 h.2.1 h.2.2):=j04 _ _
def j0P [LP] (a:Tn2) (c:Int):Option (Tn2):=
 (j0C c 20 0 20 a).bind fun b=>
 (j0e b.2.2.2 b.2.2.1 b.1).bind fun d=>
 (j0D b.1 b.2.1 d).bind fun e=>
 some e
def j0c [LP] (a:Tn2):Option (Tn2):=
 let b:=(Int.ofNat (List.length a))
 (j0P a b).bind fun c=>
 some c
def j35 (n:Int) (e:Tn42) (l c:Int) (m:ByteArray) (f:Int) (d:Tn42):Option ((Int×Tn42×Int×Int×ByteArray×Int×Tn42) ⊕ (Int ⊕ (Int×ByteArray×Int×Tn42))):=
 cond (decide (c<l)) (
 cond (inR c (List.length e)) (
 let a:=(List.getD e (Int.toNat c) (0,(0,(0,(0,(0,(0,0)))))))
 (jgV (a.1,(a.2.1,(a.2.2.1,(a.2.2.2.1,(a.2.2.2.2.1,(a.2.2.2.2.2.1,a.2.2.2.2.2.2))))))).bind fun b=>
 cond (b != 0) (
 some (.inr (.inl b))) (
 let j:=(w64 (a.2.1-a.1))
 let g:=(w64 (j+1))
 let i:=(w64 (n+g))
 let k:=(w64 (c+1))
 some (.inl (i,e,l,k,m,f,d)))) none) (
 some (.inr (.inr (n,m,f,d))))
def j2W [LP] (g d c e f b a):=LP.lp (fun h=>j35 h.1 h.2.1 h.2.2.1 h.2.2.2.1 h.2.2.2.2.1 h.2.2.2.2.2.1 h.2.2.2.2.2.2) (g,d,c,e,f,b,a)
theorem ja9 (g d c e f b a):j2W g d c e f b a=lpK (j35 g d c e f b a) (fun h=>j2W h.1 h.2.1 h.2.2.1 h.2.2.2.1 h.2.2.2.2.1 h.2.2.2.2.2.1 h.2.2.2.2.2.2):=j04 _ _
def j1b [LP] (i:Int) (o:Tn42) (p q s c d a e f g:Int) (r:Tn2):Option ((Int×Tn42×Int×Int×Int×Int×Int×Int×Int×Int×Int×Tn2) ⊕ ((Tn42×Int×Int×Tn2))):=
 cond (decide (i≤c)) (
 (jcA i d a e).bind fun n=>
 let k:=(w64 (n.1*86400))
 let l:=(w64 (k+f))
 let b:Tn2:=[(l,g)]
 cond (decide (List.length r+List.length b≤j08)) (
 let j:Tn2:=(r++b)
 let m:=(w64 (i+1))
 some (.inl (m,o,p,q,s,c,d,a,e,f,g,j))) none) (
 some (.inr (o,p,q,r)))
def j3I [LP] (i g k l j b c a d e f m):=LP.lp (fun h=>j1b h.1 h.2.1 h.2.2.1 h.2.2.2.1 h.2.2.2.2.1 h.2.2.2.2.2.1 h.2.2.2.2.2.2.1 h.2.2.2.2.2.2.2.1 h.2.2.2.2.2.2.2.2.1 h.2.2.2.2.2.2.2.2.2.1 h.2.2.2.2.2.2.2.2.2.2.1 h.2.2.2.2.2.2.2.2.2.2.2) (i,g,k,l,j,b,c,a,d,e,f,m)
theorem jaa (i g k l j b c a d e f m):j3I i g k l j b c a d e f m=lpK (j1b i g k l j b c a d e f m) (fun h=>j3I h.1 h.2.1 h.2.2.1 h.2.2.2.1 h.2.2.2.2.1 h.2.2.2.2.2.1 h.2.2.2.2.2.2.1 h.2.2.2.2.2.2.2.1 h.2.2.2.2.2.2.2.2.1 h.2.2.2.2.2.2.2.2.2.1 h.2.2.2.2.2.2.2.2.2.2.1 h.2.2.2.2.2.2.2.2.2.2.2):=j04 _ _
def j1c [LP] (d:Tn42) (f c:Int) (g:Tn2):Option ((Tn42×Int×Int×Tn2) ⊕ (Tn2)):=
 cond (decide (c<f)) (
 cond (inR c (List.length d)) (
 let a:=(List.getD d (Int.toNat c) (0,(0,(0,(0,(0,(0,0)))))))
 (j3I a.1 d f c a.1 a.2.1 a.2.2.1 a.2.2.2.1 a.2.2.2.2.1 a.2.2.2.2.2.1 a.2.2.2.2.2.2 g).bind fun b=>
 let e:=(w64 (b.2.2.1+1))
 some (.inl (b.1,b.2.1,e,b.2.2.2))) none) (
 some (.inr g))
def j2X [LP] (a b c d):=LP.lp (fun h=>j1c h.1 h.2.1 h.2.2.1 h.2.2.2) (a,b,c,d)
theorem jab (a b c d):j2X a b c d=lpK (j1c a b c d) (fun h=>j2X h.1 h.2.1 h.2.2.1 h.2.2.2):=j04 _ _
def j4n [LP] (a:Tn52):Option (Tn2×Int):=
 (jbz a.2.1 (-64800) 64800).bind fun c=>
 cond (!c) (
 some (([]:Tn2),1)) (
 let d:=(Int.ofNat (List.length a.2.2))
 cond (decide (d>16)) (
 some (([]:Tn2),5)) (
 let f:=(Int.ofNat (List.length a.2.2))
 (j2W 0 a.2.2 f 0 a.1 a.2.1 a.2.2).bind fun j=>
 sumC j (fun k=>
 some (([]:Tn2),k)) (fun i=>
 cond (decide (i.1>640)) (
 some (([]:Tn2),5)) (
 let e:=(Int.ofNat (List.length i.2.2.2))
 (j2X i.2.2.2 e 0 ([]:Tn2)).bind fun g=>
 (j0c g).bind fun b=>
 some (b,0)))))
def j36 (n m c:Int) (a e:Tn2):Option ((Int×Int×Int×Tn2×Tn2) ⊕ (Int ⊕ Tn2)):=
 cond (decide (c<m)) (
 cond (inR c (List.length e)) (
 let t:=(List.getD e (Int.toNat c) (0,0)).1
 let b:=(List.getD e (Int.toNat c) (0,0)).2
 cond (b==n) (
 let o:=(w64 (c+1))
 some (.inl (n,m,o,a,e))) (
 let d:=(w64 (t-n))
 let f:=(w64 (b-n))
 cond (cond (decide (f≥86400)) true (decide (f≤(-86400)))) (
 let w:=(Int.ofNat (List.length a))
 let u:=(Int.ofNat (List.length a))
 let g:=(w64 (u-1))
 cond ((inR g (List.length a)) || !((!true)&&(decide (w>0)))) (
 let q:=(List.getD a (Int.toNat g) (0,0)).1
 let y:=(w64 (q+604800))
 some (.inr (.inl 6))) none) (
 (jbz d 0 8589934592).bind fun i=>
 let l:=(Int.ofNat (List.length a))
 let x:=(Int.ofNat (List.length a))
 let k:=(w64 (x-1))
 cond ((inR k (List.length a)) || !((!(!i))&&(decide (l>0)))) (
 let r:=(List.getD a (Int.toNat k) (0,0)).1
 let p:=(w64 (r+604800))
 cond (cond (!i) true (cond (decide (l>0)) (decide (d<p)) false)) (
 some (.inr (.inl 6))) (
 let j:Tn2:=[(d,b)]
 cond (decide (List.length a+List.length j≤j08)) (
 let v:Tn2:=(a++j)
 let s:=(w64 (c+1))
 some (.inl (b,m,s,v,e))) none)) none))) none) (
 some (.inr (.inr a)))
def j2Y [LP] (d c a e b):=LP.lp (fun h=>j36 h.1 h.2.1 h.2.2.1 h.2.2.2.1 h.2.2.2.2) (d,c,a,e,b)
theorem jac (d c a e b):j2Y d c a e b=lpK (j36 d c a e b) (fun h=>j2Y h.1 h.2.1 h.2.2.1 h.2.2.2.1 h.2.2.2.2):=j04 _ _
def j2A [LP] (a:Tn52):Option (Tn2×Int):=
 (j4n (a.1,(a.2.1,a.2.2))).bind fun b=>
 cond (b.2 != 0) (
 some (([]:Tn2),b.2)) (
 let c:=(Int.ofNat (List.length b.1))
 (j2Y a.2.1 c 0 ([]:Tn2) b.1).bind fun d=>
 sumC d (fun f=>
 some (([]:Tn2),f)) (fun e=>
 some (e,0)))
def j9i [LP] (a:Tn52):Option (Int):=
 (j2A (a.1,(a.2.1,a.2.2))).bind fun b=>
 some b.2
def j8l (a:Tn38):Option (Bool):=
 let b:=(Int.tmod a.2.2.2.2.2.2 60)
 some (b != 0)
def j0u (e:Tn42) (f b:Int):Option ((Tn42×Int×Int) ⊕ (Int ⊕ Unit)):=
 cond (decide (b<f)) (
 cond (inR b (List.length e)) (
 let a:=(List.getD e (Int.toNat b) (0,(0,(0,(0,(0,(0,0)))))))
 (j8l (a.1,(a.2.1,(a.2.2.1,(a.2.2.2.1,(a.2.2.2.2.1,(a.2.2.2.2.2.1,a.2.2.2.2.2.2))))))).bind fun d=>
 cond d (
 some (.inr (.inl b))) (
 let c:=(w64 (b+1))
 some (.inl (e,f,c)))) none) (
 some (.inr (.inr ())))
def j0o [LP] (b a c):=LP.lp (fun h=>j0u h.1 h.2.1 h.2.2) (b,a,c)
theorem j2M (b a c):j0o b a c=lpK (j0u b a c) (fun h=>j0o h.1 h.2.1 h.2.2):=j04 _ _
def j0x [LP] (a:Tn42):Option (Int):=
 let c:=(Int.ofNat (List.length a))
 (j0o a c 0).bind fun b=>
 sumC b (fun d=>
 some d) (fun e=>
 some (-1))
def j0p [LP] (a:Tn42):Option (Bool):=
 (j0x a).bind fun b=>
 some (decide (b≥0))
def j37 [LP] (a:Tn52):Option (Int):=
 (j9i (a.1,(a.2.1,a.2.2))).bind fun c=>
 let d:=(Int.tmod a.2.1 60)
 cond (cond (c != 0) true (d != 0)) (
 some 8) (
 (j0p a.2.2).bind fun b=>
 cond b (
 some 8) (
 some 0))
def j0G [LP] (e:Tn54) (i d:Int) (j:(List (ByteArray×Bool))):Option ((Tn54×Int×Int×(List (ByteArray×Bool))) ⊕ (Int ⊕ Unit)):=
 cond (decide (d<i)) (
 cond (inR d (List.length e)) (
 let a:=(List.getD e (Int.toNat d) (ByteArray.empty,(0,([]:Tn42))))
 (jby (a.1,(a.2.1,a.2.2))).bind fun g=>
 (j40 g j).bind fun b=>
 cond (b.1 != 0) (
 some (.inr (.inl b.1))) (
 (j37 (a.1,(a.2.1,a.2.2))).bind fun c=>
 cond (c != 0) (
 some (.inr (.inl c))) (
 let f:=(w64 (d+1))
 some (.inl (e,i,f,b.2))))) none) (
 some (.inr (.inr ())))
def j1y [LP] (a:Tn54) (b c:Int) (d:(List (ByteArray×Bool))):Option (Int ⊕ Unit):=
 LP.lp (fun h=>j0G h.1 h.2.1 h.2.2.1 h.2.2.2) (a,b,c,d)
theorem j7j (a:Tn54) (b c:Int) (d:(List (ByteArray×Bool))):j1y a b c d=lpK (j0G a b c d) (fun h=>j1y h.1 h.2.1 h.2.2.1 h.2.2.2):=j04 _ _
def j2e [LP] (a:Tn54):Option (Int):=
 let b:(List (ByteArray×Bool)):=([]:(List (ByteArray×Bool)))
 let c:=(Int.ofNat (List.length a))
 (j1y a c 0 b).bind fun d=>
 sumC d (fun e=>
 some e) (fun f=>
 some 0)
def j2C (a b:Int):Option (Bool):=
 some (cond (decide (a≥0)) (decide (a<b)) false)
def j5j (e f:Tn2) (k b:Int):Option ((Tn2×Tn2×Int×Int) ⊕ (Int ⊕ Unit)):=
 cond (decide (b<k)) (
 cond (inR b (List.length f)) (
 let a:=(List.getD f (Int.toNat b) (0,0))
 let i:Bool:=(cond (cond (decide (a.1<0)) true (decide (a.1≥a.2))) true (decide (a.2>604800)))
 cond i (
 some (.inr (.inl 1))) (
 cond (decide (b>0)) (
 let c:=(w64 (b-1))
 cond (inR c (List.length e)) (
 let d:=(List.getD e (Int.toNat c) (0,0))
 cond (decide (a.1<d.2)) (
 some (.inr (.inl 6))) (
 let g:=(w64 (b+1))
 some (.inl (e,f,k,g)))) none) (
 let j:=(w64 (b+1))
 some (.inl (e,f,k,j))))) none) (
 some (.inr (.inr ())))
def j84 [LP] (c d b a):=LP.lp (fun h=>j5j h.1 h.2.1 h.2.2.1 h.2.2.2) (c,d,b,a)
theorem jgc (c d b a):j84 c d b a=lpK (j5j c d b a) (fun h=>j84 h.1 h.2.1 h.2.2.1 h.2.2.2):=j04 _ _
def j9j [LP] (a:Tn2):Option (Int):=
 let d:=(Int.ofNat (List.length a))
 cond (decide (d>14)) (
 some 5) (
 let b:=(Int.ofNat (List.length a))
 (j84 a a b 0).bind fun c=>
 sumC c (fun e=>
 some e) (fun f=>
 some 0))
def j85 (a b c:Int):Option (Bool):=
 some (cond (decide (a≥b)) (decide (a≤c)) false)
def j5k (a:Int):Option (Bool):=
 (j85 a 0 604800).bind fun b=>
 let c:=(Int.tmod a 3600)
 some (cond b (c==0) false)
def j20 [LP] (b:Tn71) (a:Tn44):Option (Int):=
 let f:=(Int.ofNat (List.length b.1))
 (j2C a.2.1 f).bind fun g=>
 cond (!g) (
 some 3) (
 (j9j a.2.2.1).bind fun d=>
 cond (d != 0) (
 some 8) (
 (j5k a.2.2.2.1).bind fun c=>
 cond (!c) (
 some 1) (
 (j5k a.2.2.2.2.1).bind fun e=>
 cond (!e) (
 some 1) (
 some 0))))
def jbA (a:Tn19):Option (ByteArray):=
 some a.1
def jdP (e c:Int):Option ((Int×Int) ⊕ (Int)):=
 let d:=(w64 (c+1))
 (j5I d).bind fun b=>
 cond (decide (b≤e)) (
 let a:=(w64 (c+1))
 some (.inl (e,a))) (
 some (.inr c))
def jfm [LP] (a b:Int):Option (Int):=
 LP.lp (unc2 (jdP)) (a,b)
def jeN [LP] (a:Int):Option (Int):=
 (j93 a 366).bind fun b=>
 let c:=(w64 (1970+b))
 (jfm a c).bind fun d=>
 some d
def jc0 (k l b c g a d:Int):Option ((Int×Int×Int×Int×Int×Int×Int) ⊕ ((Int×Int×Int×Int×Int×Int×Int))):=
 (j83 g a).bind fun f=>
 cond (decide (k≥f)) (
 (j83 g a).bind fun i=>
 let e:=(w64 (k-i))
 let j:=(w64 (a+1))
 some (.inl (e,l,b,c,g,j,d))) (
 some (.inr (k,l,b,c,g,a,d)))
def jcB [LP] (g e a b f c d:Int):Option ((Int×Int×Int×Int×Int×Int×Int)):=
 LP.lp (unc7 (jc0)) (g,e,a,b,f,c,d)
def j4N [LP] (a:Int):Option (Tn3×Int):=
 (j5I 1970).bind fun i=>
 cond (decide (a<i)) (
 some ((0,(0,0)),1)) (
 (j5I 2241).bind fun g=>
 cond (decide (a≥g)) (
 some ((0,(0,0)),1)) (
 (jeN a).bind fun b=>
 (j5I b).bind fun e=>
 let d:=(w64 (a-e))
 (jcB d 0 0 0 b 1 0).bind fun c=>
 let f:=(w64 (c.1+1))
 some ((c.2.2.2.2.1,(c.2.2.2.2.2.1,f)),0)))
def j0Q [LP] (a:Int):Option (Bool):=
 (j4N a).bind fun b=>
 some (b.2==0)
def j2k [LP] (a:Int):Option (Bool):=
 (j0Q a).bind fun b=>
 some (!b)
def j0z [LP] (e:(List Int)) (f a:Int):Option (((List Int)×Int×Int) ⊕ (Int ⊕ Unit)):=
 cond (decide (a<f)) (
 cond (inR a (List.length e)) (
 let c:=(List.getD e (Int.toNat a) 0)
 (j2k c).bind fun d=>
 cond d (
 some (.inr (.inl a))) (
 let b:=(w64 (a+1))
 some (.inl (e,f,b)))) none) (
 some (.inr (.inr ())))
def j1K [LP] (b a c):=LP.lp (fun h=>j0z h.1 h.2.1 h.2.2) (b,a,c)
theorem j6o (b a c):j1K b a c=lpK (j0z b a c) (fun h=>j1K h.1 h.2.1 h.2.2):=j04 _ _
def j2l [LP] (a:(List Int)):Option (Int):=
 let c:=(Int.ofNat (List.length a))
 (j1K a c 0).bind fun b=>
 sumC b (fun d=>
 some d) (fun e=>
 some (-1))
def j1L [LP] (a:(List Int)):Option (Bool):=
 (j2l a).bind fun b=>
 some (decide (b≥0))
def j26 (d b:Int) (k:ByteArray) (e:Int) (a:(List Int)):Option ((Int×Int×ByteArray×Int×(List Int)) ⊕ (Int ⊕ Unit)):=
 cond (decide (b<d)) (
 cond (decide (b>0)) (
 cond (inR b (List.length a)) (
 let g:=(List.getD a (Int.toNat b) 0)
 let c:=(w64 (b-1))
 cond (inR c (List.length a)) (
 let f:=(List.getD a (Int.toNat c) 0)
 cond (decide (g≤f)) (
 some (.inr (.inl 6))) (
 let i:=(w64 (b+1))
 some (.inl (d,i,k,e,a)))) none) none) (
 let j:=(w64 (b+1))
 some (.inl (d,j,k,e,a)))) (
 some (.inr (.inr ())))
def j2m [LP] (d c e b a):=LP.lp (fun h=>j26 h.1 h.2.1 h.2.2.1 h.2.2.2.1 h.2.2.2.2) (d,c,e,b,a)
theorem j7w (d c e b a):j2m d c e b a=lpK (j26 d c e b a) (fun h=>j2m h.1 h.2.1 h.2.2.1 h.2.2.2.1 h.2.2.2.2):=j04 _ _
def j1T [LP] (b:Tn71) (a:Tn19):Option (Int):=
 let e:=(Int.ofNat (List.length b.1))
 (j2C a.2.1 e).bind fun d=>
 cond (!d) (
 some 3) (
 let c:=(Int.ofNat (List.length a.2.2))
 cond (decide (c>64)) (
 some 5) (
 (j1L a.2.2).bind fun f=>
 cond f (
 some 1) (
 let g:=(Int.ofNat (List.length a.2.2))
 (j2m g 0 a.1 a.2.1 a.2.2).bind fun i=>
 sumC i (fun j=>
 some j) (fun k=>
 some 0))))
def j5f [LP] (a:Tn19) (f:Tn54) (c:Tn48) (d:Tn26) (b:Tn65):Option (Int):=
 (j1T (f,(c,(d,b))) (a.1,(a.2.1,a.2.2))).bind fun e=>
 some e
def j0v [LP] (m:Tn54) (g:Tn48) (i:Tn26) (e:Tn65) (f:Tn26) (l d:Int) (n:(List (ByteArray×Bool))):Option ((Tn54×Tn48×Tn26×Tn65×Tn26×Int×Int×(List (ByteArray×Bool))) ⊕ (Int ⊕ Unit)):=
 cond (decide (d<l)) (
 cond (inR d (List.length f)) (
 let a:=(List.getD f (Int.toNat d) (ByteArray.empty,(0,([]:(List Int)))))
 (jbA (a.1,(a.2.1,a.2.2))).bind fun k=>
 (j40 k n).bind fun b=>
 cond (b.1 != 0) (
 some (.inr (.inl b.1))) (
 (j5f (a.1,(a.2.1,a.2.2)) m g i e).bind fun c=>
 cond (c != 0) (
 some (.inr (.inl c))) (
 let j:=(w64 (d+1))
 some (.inl (m,g,i,e,f,l,j,b.2))))) none) (
 some (.inr (.inr ())))
def j11 [LP] (g:Tn54) (b:Tn48) (c:Tn26) (a:Tn65) (d:Tn26) (e f:Int) (i:(List (ByteArray×Bool))):Option (Int ⊕ Unit):=
 LP.lp (fun h=>j0v h.1 h.2.1 h.2.2.1 h.2.2.2.1 h.2.2.2.2.1 h.2.2.2.2.2.1 h.2.2.2.2.2.2.1 h.2.2.2.2.2.2.2) (g,b,c,a,d,e,f,i)
theorem j5S (g:Tn54) (b:Tn48) (c:Tn26) (a:Tn65) (d:Tn26) (e f:Int) (i:(List (ByteArray×Bool))):j11 g b c a d e f i=lpK (j0v g b c a d e f i) (fun h=>j11 h.1 h.2.1 h.2.2.1 h.2.2.2.1 h.2.2.2.2.1 h.2.2.2.2.2.1 h.2.2.2.2.2.2.1 h.2.2.2.2.2.2.2):=j04 _ _
def j1l [LP] (e:Tn26) (d:Tn54) (c:Tn48) (b:Tn26) (a:Tn65):Option (Int):=
 let f:(List (ByteArray×Bool)):=([]:(List (ByteArray×Bool)))
 let g:=(Int.ofNat (List.length e))
 (j11 d c b a e g 0 f).bind fun i=>
 sumC i (fun j=>
 some j) (fun k=>
 some 0)
def jbB (a:Tn64):Option (ByteArray):=
 some a.1
def j66 (a:Tn59):Option (ByteArray):=
 some a.1
def j7x (b:Int) (g:Tn54) (a:Tn48) (e:Tn26) (c:Tn65):Option (Bool):=
 let f:=(Int.ofNat (List.length a))
 (j2C b f).bind fun d=>
 some (!d)
def j19 (i:(List Int)) (j:Tn54) (b:Tn48) (a:Tn26) (d:Tn65) (k c:Int):Option (((List Int)×Tn54×Tn48×Tn26×Tn65×Int×Int) ⊕ (Int ⊕ Unit)):=
 cond (decide (c<k)) (
 cond (inR c (List.length i)) (
 let f:=(List.getD i (Int.toNat c) 0)
 (j7x f j b a d).bind fun g=>
 cond g (
 some (.inr (.inl c))) (
 let e:=(w64 (c+1))
 some (.inl (i,j,b,a,d,k,e)))) none) (
 some (.inr (.inr ())))
def j1d [LP] (f d b a c e g):=LP.lp (fun h=>j19 h.1 h.2.1 h.2.2.1 h.2.2.2.1 h.2.2.2.2.1 h.2.2.2.2.2.1 h.2.2.2.2.2.2) (f,d,b,a,c,e,g)
theorem j5l (f d b a c e g):j1d f d b a c e g=lpK (j19 f d b a c e g) (fun h=>j1d h.1 h.2.1 h.2.2.1 h.2.2.2.1 h.2.2.2.2.1 h.2.2.2.2.2.1 h.2.2.2.2.2.2):=j04 _ _
def j1M [LP] (d:(List Int)) (e:Tn54) (a:Tn48) (c:Tn26) (b:Tn65):Option (Int):=
 let g:=(Int.ofNat (List.length d))
 (j1d d e a c b g 0).bind fun f=>
 sumC f (fun i=>
 some i) (fun j=>
 some (-1))
def j1e [LP] (d:(List Int)) (e:Tn54) (a:Tn48) (c:Tn26) (b:Tn65):Option (Bool):=
 (j1M d e a c b).bind fun f=>
 some (decide (f≥0))
def j2N [LP] (b:Tn71) (a:Tn59):Option (Int):=
 let n:=(Int.ofNat (List.length b.1))
 (j2C a.2.1 n).bind fun m=>
 cond (!m) (
 some 3) (
 cond (decide (a.2.2.1.1<1)) (
 some 1) (
 (j0Q a.2.2.1.1).bind fun f=>
 cond (!f) (
 some 1) (
 (j85 a.2.2.1.2 0 86399).bind fun g=>
 cond (!g) (
 some 1) (
 (j85 a.2.2.2.1 0 2).bind fun d=>
 cond (!d) (
 some 1) (
 (j85 a.2.2.2.2.1 1 400).bind fun e=>
 cond (!e) (
 some 1) (
 let i:=(Int.ofNat (List.length a.2.2.2.2.2.1))
 cond (i==0) (
 some 7) (
 let j:=(Int.ofNat (List.length a.2.2.2.2.2.1))
 cond (decide (j>12)) (
 some 5) (
 (j1e a.2.2.2.2.2.1 b.1 b.2.1 b.2.2.1 b.2.2.2).bind fun o=>
 cond o (
 some 3) (
 (j9j a.2.2.2.2.2.2.1).bind fun k=>
 cond (k != 0) (
 some 8) (
 (j85 a.2.2.2.2.2.2.2.2 0 2).bind fun l=>
 cond (!l) (
 some 1) (
 let p:=(Int.ofNat (List.length b.2.2.1))
 cond (a.2.2.2.2.2.2.2.2 != 0) (
 (j2C a.2.2.2.2.2.2.2.1 p).bind fun c=>
 cond (!c) (
 some 3) (
 cond (cond (a.2.2.2.2.2.2.2.2==0) (a.2.2.2.2.2.2.2.1 != 0) false) (
 some 1) (
 some 0))) (
 cond (cond (a.2.2.2.2.2.2.2.2==0) (a.2.2.2.2.2.2.2.1 != 0) false) (
 some 1) (
 some 0)))))))))))))
def j2n [LP] (a:Tn59) (f:Tn54) (c:Tn48) (d:Tn26) (b:Tn65):Option (Int):=
 (j2N (f,(c,(d,b))) (a.1,(a.2.1,((a.2.2.1.1,a.2.2.1.2),(a.2.2.2.1,(a.2.2.2.2.1,(a.2.2.2.2.2.1,(a.2.2.2.2.2.2.1,(a.2.2.2.2.2.2.2.1,a.2.2.2.2.2.2.2.2))))))))).bind fun e=>
 some e
def j0E [LP] (m:Tn54) (g:Tn48) (i:Tn26) (e:Tn65) (f:Tn60) (l d:Int) (n:(List (ByteArray×Bool))):Option ((Tn54×Tn48×Tn26×Tn65×Tn60×Int×Int×(List (ByteArray×Bool))) ⊕ (Int ⊕ Unit)):=
 cond (decide (d<l)) (
 cond (inR d (List.length f)) (
 let a:=(List.getD f (Int.toNat d) (ByteArray.empty,(0,((0,0),(0,(0,(([]:(List Int)),(([]:Tn2),(0,0)))))))))
 (j66 (a.1,(a.2.1,((a.2.2.1.1,a.2.2.1.2),(a.2.2.2.1,(a.2.2.2.2.1,(a.2.2.2.2.2.1,(a.2.2.2.2.2.2.1,(a.2.2.2.2.2.2.2.1,a.2.2.2.2.2.2.2.2))))))))).bind fun k=>
 (j40 k n).bind fun b=>
 cond (b.1 != 0) (
 some (.inr (.inl b.1))) (
 (j2n (a.1,(a.2.1,((a.2.2.1.1,a.2.2.1.2),(a.2.2.2.1,(a.2.2.2.2.1,(a.2.2.2.2.2.1,(a.2.2.2.2.2.2.1,(a.2.2.2.2.2.2.2.1,a.2.2.2.2.2.2.2.2)))))))) m g i e).bind fun c=>
 cond (c != 0) (
 some (.inr (.inl c))) (
 let j:=(w64 (d+1))
 some (.inl (m,g,i,e,f,l,j,b.2))))) none) (
 some (.inr (.inr ())))
def j1m [LP] (g:Tn54) (b:Tn48) (c:Tn26) (a:Tn65) (d:Tn60) (e f:Int) (i:(List (ByteArray×Bool))):Option (Int ⊕ Unit):=
 LP.lp (fun h=>j0E h.1 h.2.1 h.2.2.1 h.2.2.2.1 h.2.2.2.2.1 h.2.2.2.2.2.1 h.2.2.2.2.2.2.1 h.2.2.2.2.2.2.2) (g,b,c,a,d,e,f,i)
theorem j6O (g:Tn54) (b:Tn48) (c:Tn26) (a:Tn65) (d:Tn60) (e f:Int) (i:(List (ByteArray×Bool))):j1m g b c a d e f i=lpK (j0E g b c a d e f i) (fun h=>j1m h.1 h.2.1 h.2.2.1 h.2.2.2.1 h.2.2.2.2.1 h.2.2.2.2.2.1 h.2.2.2.2.2.2.1 h.2.2.2.2.2.2.2):=j04 _ _
def j21 [LP] (e:Tn60) (d:Tn54) (c:Tn48) (b:Tn26) (a:Tn65):Option (Int):=
 let f:(List (ByteArray×Bool)):=([]:(List (ByteArray×Bool)))
 let g:=(Int.ofNat (List.length e))
 (j1m d c b a e g 0 f).bind fun i=>
 sumC i (fun j=>
 some j) (fun k=>
 some 0)
def j38 [LP] (g:Tn71) (a:Tn24):Option (Int):=
 let i:=(Int.ofNat (List.length g.2.1))
 (j85 a.1 0 2).bind fun j=>
 cond (!j) (
 some 1) (
 (j2C a.2.1 i).bind fun f=>
 cond (cond (!f) (!(cond (a.1==1) (a.2.1==(-1)) false)) false) (
 cond (cond (!f) (!(cond (a.1==1) (a.2.1==(-1)) false)) false) (
 some 3) (
 cond (cond (a.1 != 2) (a.2.2.1 != 0) false) (
 some 1) (
 cond (cond (a.1==2) (a.2.1==a.2.2.1) false) (
 some 4) (
 let l:=(w64 (Int.tdiv a.2.2.2.2 86400))
 cond (cond (decide (a.2.2.2.1<0)) true (decide (a.2.2.2.2<0))) (
 some 1) (
 (j0Q l).bind fun k=>
 cond (!k) (
 some 1) (
 cond (decide (a.2.2.2.1≥a.2.2.2.2)) (
 some 6) (
 some 0))))))) (
 cond (a.1==2) (
 (j2C a.2.2.1 i).bind fun m=>
 cond (!m) (
 some 3) (
 cond (cond (a.1 != 2) (a.2.2.1 != 0) false) (
 some 1) (
 cond (cond (a.1==2) (a.2.1==a.2.2.1) false) (
 some 4) (
 let d:=(w64 (Int.tdiv a.2.2.2.2 86400))
 cond (cond (decide (a.2.2.2.1<0)) true (decide (a.2.2.2.2<0))) (
 some 1) (
 (j0Q d).bind fun b=>
 cond (!b) (
 some 1) (
 cond (decide (a.2.2.2.1≥a.2.2.2.2)) (
 some 6) (
 some 0))))))) (
 cond (cond (a.1 != 2) (a.2.2.1 != 0) false) (
 some 1) (
 cond (cond (a.1==2) (a.2.1==a.2.2.1) false) (
 some 4) (
 let e:=(w64 (Int.tdiv a.2.2.2.2 86400))
 cond (cond (decide (a.2.2.2.1<0)) true (decide (a.2.2.2.2<0))) (
 some 1) (
 (j0Q e).bind fun c=>
 cond (!c) (
 some 1) (
 cond (decide (a.2.2.2.1≥a.2.2.2.2)) (
 some 6) (
 some 0))))))))
def j0M [LP] (g:Tn29) (j c:Int) (k:Tn54) (d:Tn48) (e:Tn26) (f:Tn65):Option ((Tn29×Int×Int×Tn54×Tn48×Tn26×Tn65) ⊕ (Int ⊕ Unit)):=
 cond (decide (c<j)) (
 cond (inR c (List.length g)) (
 let a:=(List.getD g (Int.toNat c) (0,(0,(0,(0,0)))))
 (j38 (k,(d,(e,f))) (a.1,(a.2.1,(a.2.2.1,(a.2.2.2.1,a.2.2.2.2))))).bind fun b=>
 cond (b != 0) (
 some (.inr (.inl b))) (
 let i:=(w64 (c+1))
 some (.inl (g,j,i,k,d,e,f)))) none) (
 some (.inr (.inr ())))
def j2o [LP] (e d f g a b c):=LP.lp (fun h=>j0M h.1 h.2.1 h.2.2.1 h.2.2.2.1 h.2.2.2.2.1 h.2.2.2.2.2.1 h.2.2.2.2.2.2) (e,d,f,g,a,b,c)
theorem j7y (e d f g a b c):j2o e d f g a b c=lpK (j0M e d f g a b c) (fun h=>j2o h.1 h.2.1 h.2.2.1 h.2.2.2.1 h.2.2.2.2.1 h.2.2.2.2.2.1 h.2.2.2.2.2.2):=j04 _ _
def j1U [LP] (a:Tn71) (b:Tn64):Option (Int):=
 let d:=(Int.ofNat (List.length b.2.1))
 let e:=(Int.ofNat (List.length b.2.2))
 cond (cond (decide (d>6)) true (decide (e>48))) (
 some 5) (
 (j21 b.2.1 a.1 a.2.1 a.2.2.1 a.2.2.2).bind fun c=>
 cond (c != 0) (
 some c) (
 let f:=(Int.ofNat (List.length b.2.2))
 (j2o b.2.2 f 0 a.1 a.2.1 a.2.2.1 a.2.2.2).bind fun g=>
 sumC g (fun i=>
 some i) (fun j=>
 some 0)))
def j5g [LP] (a:Tn64) (f:Tn54) (c:Tn48) (d:Tn26) (b:Tn65):Option (Int):=
 (j1U (f,(c,(d,b))) (a.1,(a.2.1,a.2.2))).bind fun e=>
 some e
def j0w [LP] (m:Tn54) (g:Tn48) (i:Tn26) (e f:Tn65) (l d:Int) (n:(List (ByteArray×Bool))):Option ((Tn54×Tn48×Tn26×Tn65×Tn65×Int×Int×(List (ByteArray×Bool))) ⊕ (Int ⊕ Unit)):=
 cond (decide (d<l)) (
 cond (inR d (List.length f)) (
 let a:=(List.getD f (Int.toNat d) (ByteArray.empty,(([]:Tn60),([]:Tn29))))
 (jbB (a.1,(a.2.1,a.2.2))).bind fun k=>
 (j40 k n).bind fun b=>
 cond (b.1 != 0) (
 some (.inr (.inl b.1))) (
 (j5g (a.1,(a.2.1,a.2.2)) m g i e).bind fun c=>
 cond (c != 0) (
 some (.inr (.inl c))) (
 let j:=(w64 (d+1))
 some (.inl (m,g,i,e,f,l,j,b.2))))) none) (
 some (.inr (.inr ())))
def j12 [LP] (g:Tn54) (b:Tn48) (c:Tn26) (a d:Tn65) (e f:Int) (i:(List (ByteArray×Bool))):Option (Int ⊕ Unit):=
 LP.lp (fun h=>j0w h.1 h.2.1 h.2.2.1 h.2.2.2.1 h.2.2.2.2.1 h.2.2.2.2.2.1 h.2.2.2.2.2.2.1 h.2.2.2.2.2.2.2) (g,b,c,a,d,e,f,i)
theorem j5T (g:Tn54) (b:Tn48) (c:Tn26) (a d:Tn65) (e f:Int) (i:(List (ByteArray×Bool))):j12 g b c a d e f i=lpK (j0w g b c a d e f i) (fun h=>j12 h.1 h.2.1 h.2.2.1 h.2.2.2.1 h.2.2.2.2.1 h.2.2.2.2.2.1 h.2.2.2.2.2.2.1 h.2.2.2.2.2.2.2):=j04 _ _
def j1Z [LP] (e:Tn65) (d:Tn54) (c:Tn48) (b:Tn26) (a:Tn65):Option (Int):=
 let f:(List (ByteArray×Bool)):=([]:(List (ByteArray×Bool)))
 let g:=(Int.ofNat (List.length e))
 (j12 d c b a e g 0 f).bind fun i=>
 sumC i (fun j=>
 some j) (fun k=>
 some 0)
def j1V [LP] (g:Tn48) (i f:Int) (j:Tn54) (e:Tn48) (c:Tn26) (d:Tn65) (r:(List (ByteArray×Bool))):Option ((Tn48×Int×Int×Tn54×Tn48×Tn26×Tn65×(List (ByteArray×Bool))) ⊕ (Int ⊕ (Tn54×Tn48×Tn26×Tn65))):=
 cond (decide (f<i)) (
 cond (inR f (List.length g)) (
 let a:=(List.getD g (Int.toNat f) (ByteArray.empty,(0,(([]:Tn2),(0,(0,false))))))
 (j40 a.1 r).bind fun b=>
 let q:Bool:=(ByteArray.toList a.1==ByteArray.toList (ByteArray.mk #[110,111,98,111,100,121]))
 cond q (
 cond (2==0) (
 (j20 (j,(e,(c,d))) (a.1,(a.2.1,(a.2.2.1,(a.2.2.2.1,(a.2.2.2.2.1,a.2.2.2.2.2)))))).bind fun k=>
 cond (k != 0) (
 some (.inr (.inl k))) (
 let n:=(w64 (f+1))
 some (.inl (g,i,n,j,e,c,d,b.2)))) (
 cond (2 != 0) (
 some (.inr (.inl 2))) (
 let p:=(w64 (f+1))
 some (.inl (g,i,p,j,e,c,d,b.2))))) (
 cond (b.1==0) (
 (j20 (j,(e,(c,d))) (a.1,(a.2.1,(a.2.2.1,(a.2.2.2.1,(a.2.2.2.2.1,a.2.2.2.2.2)))))).bind fun l=>
 cond (l != 0) (
 some (.inr (.inl l))) (
 let o:=(w64 (f+1))
 some (.inl (g,i,o,j,e,c,d,b.2)))) (
 cond (b.1 != 0) (
 some (.inr (.inl b.1))) (
 let m:=(w64 (f+1))
 some (.inl (g,i,m,j,e,c,d,b.2)))))) none) (
 some (.inr (.inr (j,e,c,d))))
def j4o [LP] (d:Tn48) (e f:Int) (g:Tn54) (c:Tn48) (a:Tn26) (b:Tn65) (i:(List (ByteArray×Bool))):Option (Int ⊕ (Tn54×Tn48×Tn26×Tn65)):=
 LP.lp (fun h=>j1V h.1 h.2.1 h.2.2.1 h.2.2.2.1 h.2.2.2.2.1 h.2.2.2.2.2.1 h.2.2.2.2.2.2.1 h.2.2.2.2.2.2.2) (d,e,f,g,c,a,b,i)
theorem jcC (d:Tn48) (e f:Int) (g:Tn54) (c:Tn48) (a:Tn26) (b:Tn65) (i:(List (ByteArray×Bool))):j4o d e f g c a b i=lpK (j1V d e f g c a b i) (fun h=>j4o h.1 h.2.1 h.2.2.1 h.2.2.2.1 h.2.2.2.2.1 h.2.2.2.2.2.1 h.2.2.2.2.2.2.1 h.2.2.2.2.2.2.2):=j04 _ _
def j5m [LP] (a:Tn71):Option (Int):=
 let g:=(Int.ofNat (List.length a.1))
 let i:=(Int.ofNat (List.length a.2.1))
 let e:=(Int.ofNat (List.length a.2.2.1))
 let j:Bool:=(cond (cond (decide (g>16)) true (decide (i>32))) true (decide (e>8)))
 let m:=(Int.ofNat (List.length a.2.2.2))
 cond (cond j true (decide (m>12))) (
 some 5) (
 (j2e a.1).bind fun d=>
 cond (d != 0) (
 some d) (
 let l:(List (ByteArray×Bool)):=([]:(List (ByteArray×Bool)))
 let f:=(Int.ofNat (List.length a.2.1))
 (j4o a.2.1 f 0 a.1 a.2.1 a.2.2.1 a.2.2.2 l).bind fun n=>
 sumC n (fun o=>
 some o) (fun b=>
 (j1l b.2.2.1 b.1 b.2.1 b.2.2.1 b.2.2.2).bind fun c=>
 cond (c != 0) (
 some c) (
 (j1Z b.2.2.2 b.1 b.2.1 b.2.2.1 b.2.2.2).bind fun k=>
 some k))))
def jgW [LP] (a:Tn52):Option (Tn13×Int):=
 (j2A (a.1,(a.2.1,a.2.2))).bind fun b=>
 some ((a.2.1,b.1),b.2)
def j2s [LP] (i:Tn54) (j b:Int) (g:Tn20):Option ((Tn54×Int×Int×Tn20) ⊕ (Tn20)):=
 cond (decide (b<j)) (
 cond (inR b (List.length i)) (
 let a:=(List.getD i (Int.toNat b) (ByteArray.empty,(0,([]:Tn42))))
 (jgW (a.1,(a.2.1,a.2.2))).bind fun c=>
 let d:Tn20:=[(c.1.1,c.1.2)]
 cond (decide (List.length g+List.length d≤j08)) (
 let e:Tn20:=(g++d)
 let f:=(w64 (b+1))
 some (.inl (i,j,f,e))) none) none) (
 some (.inr g))
def j5J [LP] (d b a c):=LP.lp (fun h=>j2s h.1 h.2.1 h.2.2.1 h.2.2.2) (d,b,a,c)
theorem jeO (d b a c):j5J d b a c=lpK (j2s d b a c) (fun h=>j5J h.1 h.2.1 h.2.2.1 h.2.2.2):=j04 _ _
def jat [LP] (a:Tn54):Option (Tn20):=
 let c:=(Int.ofNat (List.length a))
 (j5J a c 0 ([]:Tn20)).bind fun b=>
 some b
def jcD [LP] (a:Tn71):Option (Tn73):=
 (jat a.1).bind fun b=>
 some ((a.1,(a.2.1,(a.2.2.1,a.2.2.2))),b)
def jfn [LP] (a:Tn71):Option (Tn73×Bool):=
 (j5m (a.1,(a.2.1,(a.2.2.1,a.2.2.2)))).bind fun c=>
 cond (c != 0) (
 some (((([]:Tn54),(([]:Tn48),(([]:Tn26),([]:Tn65)))),([]:Tn20)),false)) (
 (jcD (a.1,(a.2.1,(a.2.2.1,a.2.2.2)))).bind fun b=>
 some (((b.1.1,(b.1.2.1,(b.1.2.2.1,b.1.2.2.2))),b.2),true))
def jau (b:Tn71) (a:Int):Option (Bool):=
 let c:=(Int.ofNat (List.length b.2.2.2))
 some (cond (decide (a≥0)) (decide (a<c)) false)
def jl7 (a b:Int):Option (Bool):=
 let d:Bool:=(cond (cond (decide (a≥0)) (decide (a≤8589934592)) false) (decide (b≥a)) false)
 let c:=(w64 (b-a))
 let e:Bool:=(cond (cond d (decide (b≤8589934592)) false) (decide (c≤34560000)) false)
 some e
def j6v [LP] (b:Tn71) (c d e:Int):Option (Tn73×Int):=
 (jfn (b.1,(b.2.1,(b.2.2.1,b.2.2.2)))).bind fun a=>
 cond (!a.2) (
 some (((a.1.1.1,(a.1.1.2.1,(a.1.1.2.2.1,a.1.1.2.2.2))),a.1.2),8)) (
 (jau (b.1,(b.2.1,(b.2.2.1,b.2.2.2))) c).bind fun f=>
 cond (!f) (
 some (((a.1.1.1,(a.1.1.2.1,(a.1.1.2.2.1,a.1.1.2.2.2))),a.1.2),3)) (
 (jl7 d e).bind fun g=>
 cond (!g) (
 some (((a.1.1.1,(a.1.1.2.1,(a.1.1.2.2.1,a.1.1.2.2.2))),a.1.2),1)) (
 some (((a.1.1.1,(a.1.1.2.1,(a.1.1.2.2.1,a.1.1.2.2.2))),a.1.2),0))))
def j4X (a:Tn73) (b:Int):Option (Tn13):=
 cond (inR b (List.length a.2)) (
 let c:=(List.getD a.2 (Int.toNat b) (0,([]:Tn2)))
 some (c.1,c.2)) none
def j9w (a:Tn13):Option (Bool):=
 let b:=(Int.ofNat (List.length a.2))
 some (decide (b>0))
def jcE (a:Tn13):Option (Int):=
 let e:=(Int.ofNat (List.length a.2))
 cond (e==0) (
 some 0) (
 let d:=(Int.ofNat (List.length a.2))
 let b:=(w64 (d-1))
 cond (inR b (List.length a.2)) (
 let c:=(List.getD a.2 (Int.toNat b) (0,0))
 some c.1) none)
def j3J (i:Int) (g:Tn54) (c:Tn48) (d:Tn26) (b:Tn65) (a:Tn20) (j:Int):Option (Tn54×Tn48×Tn26×Tn65×Tn20×Int):=
 (j4X ((g,(c,(d,b))),a) i).bind fun e=>
 (j9w (e.1,e.2)).bind fun m=>
 cond m (
 (jcE (e.1,e.2)).bind fun k=>
 let f:=(w64 (k+86400))
 let l:Int:=(if f>j then f else j:Int)
 some (g,c,d,b,a,l)) (
 some (g,c,d,b,a,j))
def jav (a:Tn59):Option (Int):=
 cond (a.2.2.2.1==2) (
 let b:=(w64 (7*a.2.2.2.2.1))
 some b) (
 some a.2.2.2.2.1)
def j95 (b e:Int) (a:Tn2) (d:Int):Option (Bool):=
 cond (inR b (List.length a)) (
 let c:=(List.getD a (Int.toNat b) (0,0))
 some (decide (c.1>d))) none
def j3K (k:Int) (b:Tn2) (a i l:Int):Option ((Int×Tn2×Int×Int×Int) ⊕ (Int)):=
 cond (decide (i<l)) (
 let d:=(w64 (i+l))
 let e:Int:=(IntKind.wrap .u64 d)
 let f:Int:=(Int.fdiv e 2)
 let c:=(w64 f)
 (j95 c k b a).bind fun g=>
 cond (!g) (
 let j:=(w64 (c+1))
 some (.inl (k,b,a,j,l))) (
 some (.inl (k,b,a,i,c)))) (
 some (.inr i))
def j7b [LP] (c b a e d):=LP.lp (fun h=>j3K h.1 h.2.1 h.2.2.1 h.2.2.2.1 h.2.2.2.2) (c,b,a,e,d)
theorem jeP (c b a e d):j7b c b a e d=lpK (j3K c b a e d) (fun h=>j7b h.1 h.2.1 h.2.2.1 h.2.2.2.1 h.2.2.2.2):=j04 _ _
def jaw [LP] (d c:Int) (a:Tn2) (b:Int):Option (Int):=
 (j7b c a b 0 d).bind fun e=>
 some e
def j3C [LP] (a:Tn13) (b:Int):Option (Int):=
 let d:=(Int.ofNat (List.length a.2))
 (jaw d a.1 a.2 b).bind fun c=>
 some c
def j4R (a:Tn13) (b:Int):Option (Int):=
 cond (b==0) (
 some a.1) (
 let c:=(w64 (b-1))
 cond (inR c (List.length a.2)) (
 let d:=(List.getD a.2 (Int.toNat c) (0,0))
 some d.2) none)
def j0s [LP] (l c j:Int) (a:Tn2) (i:Tn14):Option ((Int×Int×Int×Tn2×Tn14) ⊕ (Tn14)):=
 cond (decide (l<c)) (
 (j3C (j,a) l).bind fun b=>
 let n:=(Int.ofNat (List.length a))
 cond (decide (b<n)) (
 cond (inR b (List.length a)) (
 let d:=(List.getD a (Int.toNat b) (0,0))
 let g:Int:=(if d.1<c then d.1 else c:Int)
 (j4R (j,a) b).bind fun k=>
 let e:Tn14:=[(l,(g,k))]
 cond (decide (List.length i+List.length e≤j08)) (
 let o:Tn14:=(i++e)
 some (.inl (g,c,j,a,o))) none) none) (
 (j4R (j,a) b).bind fun p=>
 let f:Tn14:=[(l,(c,p))]
 cond (decide (List.length i+List.length f≤j08)) (
 let m:Tn14:=(i++f)
 some (.inl (c,c,j,a,m))) none)) (
 some (.inr i))
def j29 [LP] (b c e a d):=LP.lp (fun h=>j0s h.1 h.2.1 h.2.2.1 h.2.2.2.1 h.2.2.2.2) (b,c,e,a,d)
theorem j2D (b c e a d):j29 b c e a d=lpK (j0s b c e a d) (fun h=>j29 h.1 h.2.1 h.2.2.1 h.2.2.2.1 h.2.2.2.2):=j04 _ _
def j1q [LP] (b:Tn13) (a c:Int):Option (Tn14):=
 (j29 a c b.1 b.2 ([]:Tn14)).bind fun d=>
 some d
def j4O (a:(Int×Int)):Option (Int):=
 let b:Int:=(if (-1048576)>a.1 then (-1048576) else a.1:Int)
 let d:Int:=(if 1048576<b then 1048576 else b:Int)
 let e:=(w64 (d*86400))
 let c:=(w64 (e+a.2))
 some c
def j1N (l a m f:Int) (b:Tn14):Option ((Int×Int×Int×Int×Tn14) ⊕ ((Int×Bool) ⊕ Unit)):=
 cond (decide (a<l)) (
 cond (inR a (List.length b)) (
 let c:=(List.getD b (Int.toNat a) (0,(0,0))).1
 let i:=(List.getD b (Int.toNat a) (0,(0,0))).2.1
 let j:=(List.getD b (Int.toNat a) (0,(0,0))).2.2
 (j4O (m,f)).bind fun k=>
 let d:=(w64 (k-j))
 let e:Int:=(if d>c then d else c:Int)
 cond (decide (e<i)) (
 some (.inr (.inl (e,true)))) (
 let g:=(w64 (a+1))
 some (.inl (l,g,m,f,b)))) none) (
 some (.inr (.inr ())))
def j2Z [LP] (c d e a b):=LP.lp (fun h=>j1N h.1 h.2.1 h.2.2.1 h.2.2.2.1 h.2.2.2.2) (c,d,e,a,b)
theorem j57 (c d e a b):j2Z c d e a b=lpK (j1N c d e a b) (fun h=>j2Z h.1 h.2.1 h.2.2.1 h.2.2.2.1 h.2.2.2.2):=j04 _ _
def j17 [LP] (a:Tn13) (b:(Int×Int)):Option (Int×Bool):=
 (j1q (a.1,a.2) 0 8589934593).bind fun c=>
 let d:=(Int.ofNat (List.length c))
 (j2Z d 0 b.1 b.2 c).bind fun e=>
 sumC e (fun f=>
 some (f.1,f.2)) (fun g=>
 some (0,false))
def j0A [LP] (b:Tn13) (a:Tn59) (c:Int):Option (Int×Bool):=
 cond (decide (c>8589934592)) (
 some (0,false)) (
 cond (a.2.2.2.1 != 0) (
 (jav (a.1,(a.2.1,((a.2.2.1.1,a.2.2.1.2),(a.2.2.2.1,(a.2.2.2.2.1,(a.2.2.2.2.2.1,(a.2.2.2.2.2.2.1,(a.2.2.2.2.2.2.2.1,a.2.2.2.2.2.2.2.2))))))))).bind fun j=>
 let i:=(w64 (c*j))
 let k:=(w64 (a.2.2.1.1+i))
 (j17 (b.1,b.2) (k,a.2.2.1.2)).bind fun e=>
 some (e.1,e.2)) (
 (j17 (b.1,b.2) (a.2.2.1.1,a.2.2.1.2)).bind fun f=>
 let g:=(w64 (3600*a.2.2.2.2.1))
 let l:=(w64 (g*c))
 let d:=(w64 (f.1+l))
 some (d,(cond f.2 (decide (d≤8589934592)) false))))
def j39 (e:Tn29) (m a:Int) (o:Tn54) (c:Tn48) (f:Tn26) (i:Tn65) (g:Tn20) (p:ByteArray) (j:Tn60) (d:Tn29) (n:Int):Option ((Tn29×Int×Int×Tn54×Tn48×Tn26×Tn65×Tn20×ByteArray×Tn60×Tn29×Int) ⊕ ((Tn54×Tn48×Tn26×Tn65×Tn20×ByteArray×Tn60×Tn29×Int))):=
 cond (decide (a<m)) (
 cond (inR a (List.length e)) (
 let b:=(List.getD e (Int.toNat a) (0,(0,(0,(0,0)))))
 let l:Int:=(if b.2.2.2.2>n then b.2.2.2.2 else n:Int)
 let k:=(w64 (a+1))
 some (.inl (e,m,k,o,c,f,i,g,p,j,d,l))) none) (
 some (.inr (o,c,f,i,g,p,j,d,n)))
def j2t [LP] (i j g l a c e d m f b k):=LP.lp (fun h=>j39 h.1 h.2.1 h.2.2.1 h.2.2.2.1 h.2.2.2.2.1 h.2.2.2.2.2.1 h.2.2.2.2.2.2.1 h.2.2.2.2.2.2.2.1 h.2.2.2.2.2.2.2.2.1 h.2.2.2.2.2.2.2.2.2.1 h.2.2.2.2.2.2.2.2.2.2.1 h.2.2.2.2.2.2.2.2.2.2.2) (i,j,g,l,a,c,e,d,m,f,b,k)
theorem jad (i j g l a c e d m f b k):j2t i j g l a c e d m f b k=lpK (j39 i j g l a c e d m f b k) (fun h=>j2t h.1 h.2.1 h.2.2.1 h.2.2.2.1 h.2.2.2.2.1 h.2.2.2.2.2.1 h.2.2.2.2.2.2.1 h.2.2.2.2.2.2.2.1 h.2.2.2.2.2.2.2.2.1 h.2.2.2.2.2.2.2.2.2.1 h.2.2.2.2.2.2.2.2.2.2.1 h.2.2.2.2.2.2.2.2.2.2.2):=j04 _ _
def j10 [LP] (f:Tn60) (j e:Int) (b4:Tn54) (b0:Tn48) (b1:Tn26) (a9:Tn65) (b2:Tn20) (b3:Int):Option ((Tn60×Int×Int×Tn54×Tn48×Tn26×Tn65×Tn20×Int) ⊕ (Int)):=
 cond (decide (e<j)) (
 cond (inR e (List.length f)) (
 let d:=(List.getD f (Int.toNat e) (ByteArray.empty,(0,((0,0),(0,(0,(([]:(List Int)),(([]:Tn2),(0,0)))))))))
 (j3J d.2.1 b4 b0 b1 a9 b2 b3).bind fun a=>
 (j4X ((a.1,(a.2.1,(a.2.2.1,a.2.2.2.1))),a.2.2.2.2.1) d.2.1).bind fun s=>
 (j0A (s.1,s.2) (d.1,(d.2.1,((d.2.2.1.1,d.2.2.1.2),(d.2.2.2.1,(d.2.2.2.2.1,(d.2.2.2.2.2.1,(d.2.2.2.2.2.2.1,(d.2.2.2.2.2.2.2.1,d.2.2.2.2.2.2.2.2)))))))) 0).bind fun m=>
 cond m.2 (
 let t:Int:=(if m.1>a.2.2.2.2.2 then m.1 else a.2.2.2.2.2:Int)
 cond (d.2.2.2.2.2.2.2.2==0) (
 let a8:=(w64 (e+1))
 some (.inl (f,j,a8,a.1,a.2.1,a.2.2.1,a.2.2.2.1,a.2.2.2.2.1,t))) (
 cond (inR d.2.2.2.2.2.2.2.1 (List.length a.2.2.1)) (
 let g:=(List.getD a.2.2.1 (Int.toNat d.2.2.2.2.2.2.2.1) (ByteArray.empty,(0,([]:(List Int)))))
 (j3J g.2.1 a.1 a.2.1 a.2.2.1 a.2.2.2.1 a.2.2.2.2.1 t).bind fun c=>
 let u:=(Int.ofNat (List.length g.2.2))
 cond (decide (u>0)) (
 (j4X ((c.1,(c.2.1,(c.2.2.1,c.2.2.2.1))),c.2.2.2.2.1) g.2.1).bind fun p=>
 let r:=(w64 (u-1))
 cond (inR r (List.length g.2.2)) (
 let a3:=(List.getD g.2.2 (Int.toNat r) 0)
 let a2:=(w64 (a3+1))
 (j17 (p.1,p.2) (a2,0)).bind fun k=>
 cond k.2 (
 let a6:Int:=(if k.1>c.2.2.2.2.2 then k.1 else c.2.2.2.2.2:Int)
 let a5:=(w64 (e+1))
 some (.inl (f,j,a5,c.1,c.2.1,c.2.2.1,c.2.2.2.1,c.2.2.2.2.1,a6))) (
 let a0:=(w64 (e+1))
 some (.inl (f,j,a0,c.1,c.2.1,c.2.2.1,c.2.2.2.1,c.2.2.2.2.1,c.2.2.2.2.2)))) none) (
 let x:=(w64 (e+1))
 some (.inl (f,j,x,c.1,c.2.1,c.2.2.1,c.2.2.2.1,c.2.2.2.2.1,c.2.2.2.2.2)))) none)) (
 cond (d.2.2.2.2.2.2.2.2==0) (
 let y:=(w64 (e+1))
 some (.inl (f,j,y,a.1,a.2.1,a.2.2.1,a.2.2.2.1,a.2.2.2.2.1,a.2.2.2.2.2))) (
 cond (inR d.2.2.2.2.2.2.2.1 (List.length a.2.2.1)) (
 let i:=(List.getD a.2.2.1 (Int.toNat d.2.2.2.2.2.2.2.1) (ByteArray.empty,(0,([]:(List Int)))))
 (j3J i.2.1 a.1 a.2.1 a.2.2.1 a.2.2.2.1 a.2.2.2.2.1 a.2.2.2.2.2).bind fun b=>
 let o:=(Int.ofNat (List.length i.2.2))
 cond (decide (o>0)) (
 (j4X ((b.1,(b.2.1,(b.2.2.1,b.2.2.2.1))),b.2.2.2.2.1) i.2.1).bind fun q=>
 let n:=(w64 (o-1))
 cond (inR n (List.length i.2.2)) (
 let a7:=(List.getD i.2.2 (Int.toNat n) 0)
 let a4:=(w64 (a7+1))
 (j17 (q.1,q.2) (a4,0)).bind fun l=>
 cond l.2 (
 let a1:Int:=(if l.1>b.2.2.2.2.2 then l.1 else b.2.2.2.2.2:Int)
 let v:=(w64 (e+1))
 some (.inl (f,j,v,b.1,b.2.1,b.2.2.1,b.2.2.2.1,b.2.2.2.2.1,a1))) (
 let z:=(w64 (e+1))
 some (.inl (f,j,z,b.1,b.2.1,b.2.2.1,b.2.2.2.1,b.2.2.2.2.1,b.2.2.2.2.2)))) none) (
 let w:=(w64 (e+1))
 some (.inl (f,j,w,b.1,b.2.1,b.2.2.1,b.2.2.2.1,b.2.2.2.2.1,b.2.2.2.2.2)))) none))) none) (
 some (.inr b3))
def j2u [LP] (e g f j a b c d i):=LP.lp (fun h=>j10 h.1 h.2.1 h.2.2.1 h.2.2.2.1 h.2.2.2.2.1 h.2.2.2.2.2.1 h.2.2.2.2.2.2.1 h.2.2.2.2.2.2.2.1 h.2.2.2.2.2.2.2.2) (e,g,f,j,a,b,c,d,i)
theorem jae (e g f j a b c d i):j2u e g f j a b c d i=lpK (j10 e g f j a b c d i) (fun h=>j2u h.1 h.2.1 h.2.2.1 h.2.2.2.1 h.2.2.2.2.1 h.2.2.2.2.2.1 h.2.2.2.2.2.2.1 h.2.2.2.2.2.2.2.1 h.2.2.2.2.2.2.2.2):=j04 _ _
def j2B [LP] (a:Tn73) (b:Tn64):Option (Int):=
 let d:=(Int.ofNat (List.length b.2.2))
 (j2t b.2.2 d 0 a.1.1 a.1.2.1 a.1.2.2.1 a.1.2.2.2 a.2 b.1 b.2.1 b.2.2 0).bind fun c=>
 let e:=(Int.ofNat (List.length c.2.2.2.2.2.2.1))
 (j2u c.2.2.2.2.2.2.1 e 0 c.1 c.2.1 c.2.2.1 c.2.2.2.1 c.2.2.2.2.1 c.2.2.2.2.2.2.2.2).bind fun f=>
 some f
def j8m (a:(List Int)):Option ((List Int)):=
 cond (decide (List.length ([]:List (Int))+List.length a≤j08)) (
 some (([]:List (Int))++a)) none
def jb0 (a b c:Int):Option (Bool):=
 some (cond (decide (a≤b)) true (decide (a≥c)))
def j1a (g a i b:Int) (c:(List Int)):Option ((Int×Int×Int×Int×(List Int)) ⊕ (Tn1 ⊕ (List Int))):=
 cond (decide (b<i)) (
 cond (inR b (List.length c)) (
 let e:=(List.getD c (Int.toNat b) 0)
 (jb0 e g a).bind fun f=>
 cond f (
 some (.inr (.inl (b,c)))) (
 let d:=(w64 (b+1))
 some (.inl (g,a,i,d,c)))) none) (
 some (.inr (.inr c)))
def j0X [LP] (b a c d e):=LP.lp (fun h=>j1a h.1 h.2.1 h.2.2.1 h.2.2.2.1 h.2.2.2.2) (b,a,c,d,e)
theorem j5n (b a c d e):j0X b a c d e=lpK (j1a b a c d e) (fun h=>j0X h.1 h.2.1 h.2.2.1 h.2.2.2.1 h.2.2.2.2):=j04 _ _
def j1O [LP] (b:(List Int)) (c a:Int):Option Tn1:=
 let e:=(Int.ofNat (List.length b))
 (j0X c a e 0 b).bind fun d=>
 sumC d (fun f=>
 some (f.1,f.2)) (fun g=>
 some ((-1),g))
def j1s (l a d e:Int) (b:(List Int)):Option ((Int×Int×Int×Int×(List Int)) ⊕ (Tn1)):=
 let f:=(Int.ofNat (List.length b))
 cond (decide (e<f)) (
 cond (inR e (List.length b)) (
 let c:=(List.getD b (Int.toNat e) 0)
 (jb0 c l a).bind fun g=>
 cond (!g) (
 cond (inR d (List.length b)) (
 let m:(List Int):=(List.set b (Int.toNat d) c)
 let j:=(w64 (d+1))
 let k:=(w64 (e+1))
 some (.inl (l,a,j,k,m))) none) (
 let i:=(w64 (e+1))
 some (.inl (l,a,d,i,b)))) none) (
 some (.inr (d,b)))
def j1E [LP] (b a c d e):=LP.lp (fun h=>j1s h.1 h.2.1 h.2.2.1 h.2.2.2.1 h.2.2.2.2) (b,a,c,d,e)
theorem j67 (b a c d e):j1E b a c d e=lpK (j1s b a c d e) (fun h=>j1E h.1 h.2.1 h.2.2.1 h.2.2.2.1 h.2.2.2.2):=j04 _ _
def j1z [LP] (e:(List Int)) (d a:Int):Option Tn1:=
 (j1O e d a).bind fun c=>
 cond (c.1==(-1)) (
 some ((Int.ofNat (List.length c.2)),c.2)) (
 let g:=(w64 (c.1+1))
 (j1E d a c.1 g c.2).bind fun b=>
 cond (decide (0≤b.1)&&decide (b.1≤(Int.ofNat (List.length b.2)))) (
 let f:(List Int):=(List.take (Int.toNat b.1) b.2++List.replicate (List.length b.2-(Int.toNat b.1)) 0)
 cond (decide (0≤b.1)&&decide (b.1≤(Int.ofNat (List.length f)))) (
 some ((Int.ofNat (Int.toNat b.1)),f)) none) none)
def jgX (a:Int):Option (Int):=
 cond (decide (a≥4294967296)) (
 let m:Int:=(Int.fdiv a 4294967296)
 cond (decide (m≥65536)) (
 let l:Int:=(Int.fdiv m 65536)
 let b4:=(w64 (32+16))
 cond (decide (l≥256)) (
 let b8:Int:=(Int.fdiv l 256)
 let b9:=(w64 (b4+8))
 let b3:Int:=(IntKind.wrap .u8 b8)
 cond (inR b3 (ByteArray.size (ByteArray.mk #[0,1,2,2,3,3,3,3,4,4,4,4,4,4,4,4,5,5,5,5,5,5,5,5,5,5,5,5,5,5,5,5,6,6,6,6,6,6,6,6,6,6,6,6,6,6,6,6,6,6,6,6,6,6,6,6,6,6,6,6,6,6,6,6,7,7,7,7,7,7,7,7,7,7,7,7,7,7,7,7,7,7,7,7,7,7,7,7,7,7,7,7,7,7,7,7,7,7,7,7,7,7,7,7,7,7,7,7,7,7,7,7,7,7,7,7,7,7,7,7,7,7,7,7,7,7,7,7,8,8,8,8,8,8,8,8,8,8,8,8,8,8,8,8,8,8,8,8,8,8,8,8,8,8,8,8,8,8,8,8,8,8,8,8,8,8,8,8,8,8,8,8,8,8,8,8,8,8,8,8,8,8,8,8,8,8,8,8,8,8,8,8,8,8,8,8,8,8,8,8,8,8,8,8,8,8,8,8,8,8,8,8,8,8,8,8,8,8,8,8,8,8,8,8,8,8,8,8,8,8,8,8,8,8,8,8,8,8,8,8,8,8,8,8,8,8,8,8,8,8,8,8,8,8,8,8]))) (
 let b5:=(j2Q (ByteArray.mk #[0,1,2,2,3,3,3,3,4,4,4,4,4,4,4,4,5,5,5,5,5,5,5,5,5,5,5,5,5,5,5,5,6,6,6,6,6,6,6,6,6,6,6,6,6,6,6,6,6,6,6,6,6,6,6,6,6,6,6,6,6,6,6,6,7,7,7,7,7,7,7,7,7,7,7,7,7,7,7,7,7,7,7,7,7,7,7,7,7,7,7,7,7,7,7,7,7,7,7,7,7,7,7,7,7,7,7,7,7,7,7,7,7,7,7,7,7,7,7,7,7,7,7,7,7,7,7,7,8,8,8,8,8,8,8,8,8,8,8,8,8,8,8,8,8,8,8,8,8,8,8,8,8,8,8,8,8,8,8,8,8,8,8,8,8,8,8,8,8,8,8,8,8,8,8,8,8,8,8,8,8,8,8,8,8,8,8,8,8,8,8,8,8,8,8,8,8,8,8,8,8,8,8,8,8,8,8,8,8,8,8,8,8,8,8,8,8,8,8,8,8,8,8,8,8,8,8,8,8,8,8,8,8,8,8,8,8,8,8,8,8,8,8,8,8,8,8,8,8,8,8,8,8,8,8,8]) b3)
 let b7:=(w64 (b9+(w64 b5)))
 some b7) none) (
 let c:Int:=(IntKind.wrap .u8 l)
 cond (inR c (ByteArray.size (ByteArray.mk #[0,1,2,2,3,3,3,3,4,4,4,4,4,4,4,4,5,5,5,5,5,5,5,5,5,5,5,5,5,5,5,5,6,6,6,6,6,6,6,6,6,6,6,6,6,6,6,6,6,6,6,6,6,6,6,6,6,6,6,6,6,6,6,6,7,7,7,7,7,7,7,7,7,7,7,7,7,7,7,7,7,7,7,7,7,7,7,7,7,7,7,7,7,7,7,7,7,7,7,7,7,7,7,7,7,7,7,7,7,7,7,7,7,7,7,7,7,7,7,7,7,7,7,7,7,7,7,7,8,8,8,8,8,8,8,8,8,8,8,8,8,8,8,8,8,8,8,8,8,8,8,8,8,8,8,8,8,8,8,8,8,8,8,8,8,8,8,8,8,8,8,8,8,8,8,8,8,8,8,8,8,8,8,8,8,8,8,8,8,8,8,8,8,8,8,8,8,8,8,8,8,8,8,8,8,8,8,8,8,8,8,8,8,8,8,8,8,8,8,8,8,8,8,8,8,8,8,8,8,8,8,8,8,8,8,8,8,8,8,8,8,8,8,8,8,8,8,8,8,8,8,8,8,8,8,8]))) (
 let a4:=(j2Q (ByteArray.mk #[0,1,2,2,3,3,3,3,4,4,4,4,4,4,4,4,5,5,5,5,5,5,5,5,5,5,5,5,5,5,5,5,6,6,6,6,6,6,6,6,6,6,6,6,6,6,6,6,6,6,6,6,6,6,6,6,6,6,6,6,6,6,6,6,7,7,7,7,7,7,7,7,7,7,7,7,7,7,7,7,7,7,7,7,7,7,7,7,7,7,7,7,7,7,7,7,7,7,7,7,7,7,7,7,7,7,7,7,7,7,7,7,7,7,7,7,7,7,7,7,7,7,7,7,7,7,7,7,8,8,8,8,8,8,8,8,8,8,8,8,8,8,8,8,8,8,8,8,8,8,8,8,8,8,8,8,8,8,8,8,8,8,8,8,8,8,8,8,8,8,8,8,8,8,8,8,8,8,8,8,8,8,8,8,8,8,8,8,8,8,8,8,8,8,8,8,8,8,8,8,8,8,8,8,8,8,8,8,8,8,8,8,8,8,8,8,8,8,8,8,8,8,8,8,8,8,8,8,8,8,8,8,8,8,8,8,8,8,8,8,8,8,8,8,8,8,8,8,8,8,8,8,8,8,8,8]) c)
 let b6:=(w64 a4)
 let s:=(w64 (b4+b6))
 some s) none)) (
 cond (decide (m≥256)) (
 let p:Int:=(Int.fdiv m 256)
 let a7:=(w64 (32+8))
 let i:Int:=(IntKind.wrap .u8 p)
 cond (inR i (ByteArray.size (ByteArray.mk #[0,1,2,2,3,3,3,3,4,4,4,4,4,4,4,4,5,5,5,5,5,5,5,5,5,5,5,5,5,5,5,5,6,6,6,6,6,6,6,6,6,6,6,6,6,6,6,6,6,6,6,6,6,6,6,6,6,6,6,6,6,6,6,6,7,7,7,7,7,7,7,7,7,7,7,7,7,7,7,7,7,7,7,7,7,7,7,7,7,7,7,7,7,7,7,7,7,7,7,7,7,7,7,7,7,7,7,7,7,7,7,7,7,7,7,7,7,7,7,7,7,7,7,7,7,7,7,7,8,8,8,8,8,8,8,8,8,8,8,8,8,8,8,8,8,8,8,8,8,8,8,8,8,8,8,8,8,8,8,8,8,8,8,8,8,8,8,8,8,8,8,8,8,8,8,8,8,8,8,8,8,8,8,8,8,8,8,8,8,8,8,8,8,8,8,8,8,8,8,8,8,8,8,8,8,8,8,8,8,8,8,8,8,8,8,8,8,8,8,8,8,8,8,8,8,8,8,8,8,8,8,8,8,8,8,8,8,8,8,8,8,8,8,8,8,8,8,8,8,8,8,8,8,8,8,8]))) (
 let a1:=(j2Q (ByteArray.mk #[0,1,2,2,3,3,3,3,4,4,4,4,4,4,4,4,5,5,5,5,5,5,5,5,5,5,5,5,5,5,5,5,6,6,6,6,6,6,6,6,6,6,6,6,6,6,6,6,6,6,6,6,6,6,6,6,6,6,6,6,6,6,6,6,7,7,7,7,7,7,7,7,7,7,7,7,7,7,7,7,7,7,7,7,7,7,7,7,7,7,7,7,7,7,7,7,7,7,7,7,7,7,7,7,7,7,7,7,7,7,7,7,7,7,7,7,7,7,7,7,7,7,7,7,7,7,7,7,8,8,8,8,8,8,8,8,8,8,8,8,8,8,8,8,8,8,8,8,8,8,8,8,8,8,8,8,8,8,8,8,8,8,8,8,8,8,8,8,8,8,8,8,8,8,8,8,8,8,8,8,8,8,8,8,8,8,8,8,8,8,8,8,8,8,8,8,8,8,8,8,8,8,8,8,8,8,8,8,8,8,8,8,8,8,8,8,8,8,8,8,8,8,8,8,8,8,8,8,8,8,8,8,8,8,8,8,8,8,8,8,8,8,8,8,8,8,8,8,8,8,8,8,8,8,8,8]) i)
 let a6:=(w64 a1)
 let b2:=(w64 (a7+a6))
 some b2) none) (
 let g:Int:=(IntKind.wrap .u8 m)
 cond (inR g (ByteArray.size (ByteArray.mk #[0,1,2,2,3,3,3,3,4,4,4,4,4,4,4,4,5,5,5,5,5,5,5,5,5,5,5,5,5,5,5,5,6,6,6,6,6,6,6,6,6,6,6,6,6,6,6,6,6,6,6,6,6,6,6,6,6,6,6,6,6,6,6,6,7,7,7,7,7,7,7,7,7,7,7,7,7,7,7,7,7,7,7,7,7,7,7,7,7,7,7,7,7,7,7,7,7,7,7,7,7,7,7,7,7,7,7,7,7,7,7,7,7,7,7,7,7,7,7,7,7,7,7,7,7,7,7,7,8,8,8,8,8,8,8,8,8,8,8,8,8,8,8,8,8,8,8,8,8,8,8,8,8,8,8,8,8,8,8,8,8,8,8,8,8,8,8,8,8,8,8,8,8,8,8,8,8,8,8,8,8,8,8,8,8,8,8,8,8,8,8,8,8,8,8,8,8,8,8,8,8,8,8,8,8,8,8,8,8,8,8,8,8,8,8,8,8,8,8,8,8,8,8,8,8,8,8,8,8,8,8,8,8,8,8,8,8,8,8,8,8,8,8,8,8,8,8,8,8,8,8,8,8,8,8,8]))) (
 let n:=(j2Q (ByteArray.mk #[0,1,2,2,3,3,3,3,4,4,4,4,4,4,4,4,5,5,5,5,5,5,5,5,5,5,5,5,5,5,5,5,6,6,6,6,6,6,6,6,6,6,6,6,6,6,6,6,6,6,6,6,6,6,6,6,6,6,6,6,6,6,6,6,7,7,7,7,7,7,7,7,7,7,7,7,7,7,7,7,7,7,7,7,7,7,7,7,7,7,7,7,7,7,7,7,7,7,7,7,7,7,7,7,7,7,7,7,7,7,7,7,7,7,7,7,7,7,7,7,7,7,7,7,7,7,7,7,8,8,8,8,8,8,8,8,8,8,8,8,8,8,8,8,8,8,8,8,8,8,8,8,8,8,8,8,8,8,8,8,8,8,8,8,8,8,8,8,8,8,8,8,8,8,8,8,8,8,8,8,8,8,8,8,8,8,8,8,8,8,8,8,8,8,8,8,8,8,8,8,8,8,8,8,8,8,8,8,8,8,8,8,8,8,8,8,8,8,8,8,8,8,8,8,8,8,8,8,8,8,8,8,8,8,8,8,8,8,8,8,8,8,8,8,8,8,8,8,8,8,8,8,8,8,8,8]) g)
 let q:=(w64 n)
 let a3:=(w64 (32+q))
 some a3) none))) (
 cond (decide (a≥65536)) (
 let b:Int:=(Int.fdiv a 65536)
 let d:=(w64 (0+16))
 cond (decide (b≥256)) (
 let u:Int:=(Int.fdiv b 256)
 let z:=(w64 (d+8))
 let k:Int:=(IntKind.wrap .u8 u)
 cond (inR k (ByteArray.size (ByteArray.mk #[0,1,2,2,3,3,3,3,4,4,4,4,4,4,4,4,5,5,5,5,5,5,5,5,5,5,5,5,5,5,5,5,6,6,6,6,6,6,6,6,6,6,6,6,6,6,6,6,6,6,6,6,6,6,6,6,6,6,6,6,6,6,6,6,7,7,7,7,7,7,7,7,7,7,7,7,7,7,7,7,7,7,7,7,7,7,7,7,7,7,7,7,7,7,7,7,7,7,7,7,7,7,7,7,7,7,7,7,7,7,7,7,7,7,7,7,7,7,7,7,7,7,7,7,7,7,7,7,8,8,8,8,8,8,8,8,8,8,8,8,8,8,8,8,8,8,8,8,8,8,8,8,8,8,8,8,8,8,8,8,8,8,8,8,8,8,8,8,8,8,8,8,8,8,8,8,8,8,8,8,8,8,8,8,8,8,8,8,8,8,8,8,8,8,8,8,8,8,8,8,8,8,8,8,8,8,8,8,8,8,8,8,8,8,8,8,8,8,8,8,8,8,8,8,8,8,8,8,8,8,8,8,8,8,8,8,8,8,8,8,8,8,8,8,8,8,8,8,8,8,8,8,8,8,8,8]))) (
 let y:=(j2Q (ByteArray.mk #[0,1,2,2,3,3,3,3,4,4,4,4,4,4,4,4,5,5,5,5,5,5,5,5,5,5,5,5,5,5,5,5,6,6,6,6,6,6,6,6,6,6,6,6,6,6,6,6,6,6,6,6,6,6,6,6,6,6,6,6,6,6,6,6,7,7,7,7,7,7,7,7,7,7,7,7,7,7,7,7,7,7,7,7,7,7,7,7,7,7,7,7,7,7,7,7,7,7,7,7,7,7,7,7,7,7,7,7,7,7,7,7,7,7,7,7,7,7,7,7,7,7,7,7,7,7,7,7,8,8,8,8,8,8,8,8,8,8,8,8,8,8,8,8,8,8,8,8,8,8,8,8,8,8,8,8,8,8,8,8,8,8,8,8,8,8,8,8,8,8,8,8,8,8,8,8,8,8,8,8,8,8,8,8,8,8,8,8,8,8,8,8,8,8,8,8,8,8,8,8,8,8,8,8,8,8,8,8,8,8,8,8,8,8,8,8,8,8,8,8,8,8,8,8,8,8,8,8,8,8,8,8,8,8,8,8,8,8,8,8,8,8,8,8,8,8,8,8,8,8,8,8,8,8,8,8]) k)
 let a2:=(w64 y)
 let o:=(w64 (z+a2))
 some o) none) (
 let f:Int:=(IntKind.wrap .u8 b)
 cond (inR f (ByteArray.size (ByteArray.mk #[0,1,2,2,3,3,3,3,4,4,4,4,4,4,4,4,5,5,5,5,5,5,5,5,5,5,5,5,5,5,5,5,6,6,6,6,6,6,6,6,6,6,6,6,6,6,6,6,6,6,6,6,6,6,6,6,6,6,6,6,6,6,6,6,7,7,7,7,7,7,7,7,7,7,7,7,7,7,7,7,7,7,7,7,7,7,7,7,7,7,7,7,7,7,7,7,7,7,7,7,7,7,7,7,7,7,7,7,7,7,7,7,7,7,7,7,7,7,7,7,7,7,7,7,7,7,7,7,8,8,8,8,8,8,8,8,8,8,8,8,8,8,8,8,8,8,8,8,8,8,8,8,8,8,8,8,8,8,8,8,8,8,8,8,8,8,8,8,8,8,8,8,8,8,8,8,8,8,8,8,8,8,8,8,8,8,8,8,8,8,8,8,8,8,8,8,8,8,8,8,8,8,8,8,8,8,8,8,8,8,8,8,8,8,8,8,8,8,8,8,8,8,8,8,8,8,8,8,8,8,8,8,8,8,8,8,8,8,8,8,8,8,8,8,8,8,8,8,8,8,8,8,8,8,8,8]))) (
 let x:=(j2Q (ByteArray.mk #[0,1,2,2,3,3,3,3,4,4,4,4,4,4,4,4,5,5,5,5,5,5,5,5,5,5,5,5,5,5,5,5,6,6,6,6,6,6,6,6,6,6,6,6,6,6,6,6,6,6,6,6,6,6,6,6,6,6,6,6,6,6,6,6,7,7,7,7,7,7,7,7,7,7,7,7,7,7,7,7,7,7,7,7,7,7,7,7,7,7,7,7,7,7,7,7,7,7,7,7,7,7,7,7,7,7,7,7,7,7,7,7,7,7,7,7,7,7,7,7,7,7,7,7,7,7,7,7,8,8,8,8,8,8,8,8,8,8,8,8,8,8,8,8,8,8,8,8,8,8,8,8,8,8,8,8,8,8,8,8,8,8,8,8,8,8,8,8,8,8,8,8,8,8,8,8,8,8,8,8,8,8,8,8,8,8,8,8,8,8,8,8,8,8,8,8,8,8,8,8,8,8,8,8,8,8,8,8,8,8,8,8,8,8,8,8,8,8,8,8,8,8,8,8,8,8,8,8,8,8,8,8,8,8,8,8,8,8,8,8,8,8,8,8,8,8,8,8,8,8,8,8,8,8,8,8]) f)
 let v:=(w64 x)
 let r:=(w64 (d+v))
 some r) none)) (
 cond (decide (a≥256)) (
 let a0:Int:=(Int.fdiv a 256)
 let b0:=(w64 (0+8))
 let e:Int:=(IntKind.wrap .u8 a0)
 cond (inR e (ByteArray.size (ByteArray.mk #[0,1,2,2,3,3,3,3,4,4,4,4,4,4,4,4,5,5,5,5,5,5,5,5,5,5,5,5,5,5,5,5,6,6,6,6,6,6,6,6,6,6,6,6,6,6,6,6,6,6,6,6,6,6,6,6,6,6,6,6,6,6,6,6,7,7,7,7,7,7,7,7,7,7,7,7,7,7,7,7,7,7,7,7,7,7,7,7,7,7,7,7,7,7,7,7,7,7,7,7,7,7,7,7,7,7,7,7,7,7,7,7,7,7,7,7,7,7,7,7,7,7,7,7,7,7,7,7,8,8,8,8,8,8,8,8,8,8,8,8,8,8,8,8,8,8,8,8,8,8,8,8,8,8,8,8,8,8,8,8,8,8,8,8,8,8,8,8,8,8,8,8,8,8,8,8,8,8,8,8,8,8,8,8,8,8,8,8,8,8,8,8,8,8,8,8,8,8,8,8,8,8,8,8,8,8,8,8,8,8,8,8,8,8,8,8,8,8,8,8,8,8,8,8,8,8,8,8,8,8,8,8,8,8,8,8,8,8,8,8,8,8,8,8,8,8,8,8,8,8,8,8,8,8,8,8]))) (
 let w:=(j2Q (ByteArray.mk #[0,1,2,2,3,3,3,3,4,4,4,4,4,4,4,4,5,5,5,5,5,5,5,5,5,5,5,5,5,5,5,5,6,6,6,6,6,6,6,6,6,6,6,6,6,6,6,6,6,6,6,6,6,6,6,6,6,6,6,6,6,6,6,6,7,7,7,7,7,7,7,7,7,7,7,7,7,7,7,7,7,7,7,7,7,7,7,7,7,7,7,7,7,7,7,7,7,7,7,7,7,7,7,7,7,7,7,7,7,7,7,7,7,7,7,7,7,7,7,7,7,7,7,7,7,7,7,7,8,8,8,8,8,8,8,8,8,8,8,8,8,8,8,8,8,8,8,8,8,8,8,8,8,8,8,8,8,8,8,8,8,8,8,8,8,8,8,8,8,8,8,8,8,8,8,8,8,8,8,8,8,8,8,8,8,8,8,8,8,8,8,8,8,8,8,8,8,8,8,8,8,8,8,8,8,8,8,8,8,8,8,8,8,8,8,8,8,8,8,8,8,8,8,8,8,8,8,8,8,8,8,8,8,8,8,8,8,8,8,8,8,8,8,8,8,8,8,8,8,8,8,8,8,8,8,8]) e)
 let a8:=(w64 w)
 let a9:=(w64 (b0+a8))
 some a9) none) (
 let j:Int:=(IntKind.wrap .u8 a)
 cond (inR j (ByteArray.size (ByteArray.mk #[0,1,2,2,3,3,3,3,4,4,4,4,4,4,4,4,5,5,5,5,5,5,5,5,5,5,5,5,5,5,5,5,6,6,6,6,6,6,6,6,6,6,6,6,6,6,6,6,6,6,6,6,6,6,6,6,6,6,6,6,6,6,6,6,7,7,7,7,7,7,7,7,7,7,7,7,7,7,7,7,7,7,7,7,7,7,7,7,7,7,7,7,7,7,7,7,7,7,7,7,7,7,7,7,7,7,7,7,7,7,7,7,7,7,7,7,7,7,7,7,7,7,7,7,7,7,7,7,8,8,8,8,8,8,8,8,8,8,8,8,8,8,8,8,8,8,8,8,8,8,8,8,8,8,8,8,8,8,8,8,8,8,8,8,8,8,8,8,8,8,8,8,8,8,8,8,8,8,8,8,8,8,8,8,8,8,8,8,8,8,8,8,8,8,8,8,8,8,8,8,8,8,8,8,8,8,8,8,8,8,8,8,8,8,8,8,8,8,8,8,8,8,8,8,8,8,8,8,8,8,8,8,8,8,8,8,8,8,8,8,8,8,8,8,8,8,8,8,8,8,8,8,8,8,8,8]))) (
 let b1:=(j2Q (ByteArray.mk #[0,1,2,2,3,3,3,3,4,4,4,4,4,4,4,4,5,5,5,5,5,5,5,5,5,5,5,5,5,5,5,5,6,6,6,6,6,6,6,6,6,6,6,6,6,6,6,6,6,6,6,6,6,6,6,6,6,6,6,6,6,6,6,6,7,7,7,7,7,7,7,7,7,7,7,7,7,7,7,7,7,7,7,7,7,7,7,7,7,7,7,7,7,7,7,7,7,7,7,7,7,7,7,7,7,7,7,7,7,7,7,7,7,7,7,7,7,7,7,7,7,7,7,7,7,7,7,7,8,8,8,8,8,8,8,8,8,8,8,8,8,8,8,8,8,8,8,8,8,8,8,8,8,8,8,8,8,8,8,8,8,8,8,8,8,8,8,8,8,8,8,8,8,8,8,8,8,8,8,8,8,8,8,8,8,8,8,8,8,8,8,8,8,8,8,8,8,8,8,8,8,8,8,8,8,8,8,8,8,8,8,8,8,8,8,8,8,8,8,8,8,8,8,8,8,8,8,8,8,8,8,8,8,8,8,8,8,8,8,8,8,8,8,8,8,8,8,8,8,8,8,8,8,8,8,8]) j)
 let t:=(w64 b1)
 let a5:=(w64 (0+t))
 some a5) none)))
def jfo (a:Int):Option (Int):=
 (jgX a).bind fun b=>
 some b
def jc8 (a:Int):Option (Bool):=
 some (a != a)
def jb1 (a b:Int):Option (Bool):=
 (jc8 a).bind fun c=>
 cond c (
 (jc8 b).bind fun d=>
 some (cond (!d) true (decide (a<b)))) (
 some (decide (a<b)))
def j0Y (g p q b:Int) (a:(List Int)):Option ((Int×Int×Int×Int×(List Int)) ⊕ ((Int×Int×Int×(List Int)))):=
 cond (decide (b>g)) (
 cond (inR b (List.length a)) (
 let o:=(List.getD a (Int.toNat b) 0)
 let e:=(w64 (b-1))
 cond (inR e (List.length a)) (
 let j:=(List.getD a (Int.toNat e) 0)
 (jb1 o j).bind fun k=>
 cond k (
 let d:=(w64 (b-1))
 let c:=(w64 (b-1))
 cond (inR c (List.length a)) (
 let n:=(List.getD a (Int.toNat c) 0)
 cond (inR b (List.length a)) (
 let i:=(List.getD a (Int.toNat b) 0)
 cond (inR b (List.length a)) (
 let f:(List Int):=(List.set a (Int.toNat b) n)
 cond (inR d (List.length f)) (
 let l:(List Int):=(List.set f (Int.toNat d) i)
 let m:=(w64 (b-1))
 some (.inl (g,p,q,m,l))) none) none) none) none) (
 some (.inr (g,p,q,a)))) none) none) (
 some (.inr (g,p,q,a)))
def j0U [LP] (a b d c e):=LP.lp (fun h=>j0Y h.1 h.2.1 h.2.2.1 h.2.2.2.1 h.2.2.2.2) (a,b,d,c,e)
theorem j4x (a b d c e):j0U a b d c e=lpK (j0Y a b d c e) (fun h=>j0U h.1 h.2.1 h.2.2.1 h.2.2.2.1 h.2.2.2.2):=j04 _ _
def j0h [LP] (f d c:Int) (e:(List Int)):Option ((Int×Int×Int×(List Int)) ⊕ ((List Int))):=
 cond (decide (c<d)) (
 (j0U f d c c e).bind fun a=>
 let b:=(w64 (a.2.2.1+1))
 some (.inl (a.1,a.2.1,b,a.2.2.2))) (
 some (.inr e))
def j0V [LP] (a b c d):=LP.lp (fun h=>j0h h.1 h.2.1 h.2.2.1 h.2.2.2) (a,b,c,d)
theorem j2K (a b c d):j0V a b c d=lpK (j0h a b c d) (fun h=>j0V h.1 h.2.1 h.2.2.1 h.2.2.2):=j04 _ _
def j0R [LP] (a:(List Int)) (b c:Int):Option ((List Int)):=
 let e:=(w64 (b+1))
 (j0V b c e a).bind fun d=>
 some d
def j0J [LP] (c d e:Int) (f i:Bool) (g:(List Int)):Option ((Int×Int×Int×Bool×Bool×(List Int)) ⊕ ((List Int))):=
 let b:=(w64 (d-c))
 cond (decide (b≤12)) (
 (j0R g c d).bind fun a=>
 some (.inr a)) (
 cond (e==0) (
 none) (
 cond (!f) (
 none) (
 none)))
def j2h [LP] (a b c e d f):=LP.lp (fun h=>j0J h.1 h.2.1 h.2.2.1 h.2.2.2.1 h.2.2.2.2.1 h.2.2.2.2.2) (a,b,c,e,d,f)
theorem jax (a b c e d f):j2h a b c e d f=lpK (j0J a b c e d f) (fun h=>j2h h.1 h.2.1 h.2.2.1 h.2.2.2.1 h.2.2.2.2.1 h.2.2.2.2.2):=j04 _ _
def j1A [LP] (b:(List Int)) (c d a:Int):Option ((List Int)):=
 (j2h c d a true true b).bind fun e=>
 some e
def j30 [LP] (a:(List Int)):Option ((List Int)):=
 let b:=(Int.ofNat (List.length a))
 let d:Int:=(IntKind.wrap .u64 b)
 (jfo d).bind fun e=>
 (j1A a 0 b e).bind fun c=>
 some c
def j1W (e b c:Int) (a:(List Int)):Option ((Int×Int×Int×(List Int)) ⊕ (Tn1)):=
 let l:=(Int.ofNat (List.length a-(Int.toNat b)))
 cond (decide (c<l)) (
 cond (inR c (List.length a-(Int.toNat b))) (
 let f:=(List.getD a ((Int.toNat b)+(Int.toNat c)) 0)
 let d:=(w64 (c-1))
 cond (inR d (List.length a-(Int.toNat b))) (
 let j:=(List.getD a ((Int.toNat b)+(Int.toNat d)) 0)
 cond (f != j) (
 cond (inR c (List.length a-(Int.toNat b))) (
 let i:=(List.getD a ((Int.toNat b)+(Int.toNat c)) 0)
 cond (inR e (List.length a)) (
 let n:(List Int):=(List.set a (Int.toNat e) i)
 let k:=(w64 (e+1))
 let g:=(w64 (c+1))
 some (.inl (k,(Int.ofNat (Int.toNat b)),g,n))) none) none) (
 let m:=(w64 (c+1))
 some (.inl (e,(Int.ofNat (Int.toNat b)),m,a)))) none) none) (
 some (.inr (e,a)))
def j1B [LP] (a b d c):=LP.lp (fun h=>j1W h.1 h.2.1 h.2.2.1 h.2.2.2) (a,b,d,c)
theorem j7k (a b d c):j1B a b d c=lpK (j1W a b d c) (fun h=>j1B h.1 h.2.1 h.2.2.1 h.2.2.2):=j04 _ _
def j0H [LP] (b:Int) (c:(List Int)):Option (Tn1 ⊕ (Tn1 ⊕ (List Int))):=
 let g:=(Int.ofNat (List.length c))
 cond (decide (b<g)) (
 cond (inR b (List.length c)) (
 let j:=(List.getD c (Int.toNat b) 0)
 let d:=(w64 (b-1))
 cond (inR d (List.length c)) (
 let i:=(List.getD c (Int.toNat d) 0)
 cond (j==i) (
 cond (decide (0≤b)&&decide (b≤(Int.ofNat (List.length c)))) (
 (j1B b (Int.ofNat (Int.toNat b)) 1 c).bind fun a=>
 cond (decide (0≤a.1)&&decide (a.1≤(Int.ofNat (List.length a.2)))) (
 let e:(List Int):=(List.take (Int.toNat a.1) a.2++List.replicate (List.length a.2-(Int.toNat a.1)) 0)
 cond (decide (0≤a.1)&&decide (a.1≤(Int.ofNat (List.length e)))) (
 some (.inr (.inl ((Int.ofNat (Int.toNat a.1)),e)))) none) none) none) (
 let f:=(w64 (b+1))
 some (.inl (f,c)))) none) none) (
 some (.inr (.inr c)))
def j0T [LP] (b a):=LP.lp (fun h=>j0H h.1 h.2) (b,a)
theorem j7l (b a):j0T b a=lpK (j0H b a) (fun h=>j0T h.1 h.2):=j04 _ _
def j2f [LP] (a:(List Int)):Option Tn1:=
 let c:=(Int.ofNat (List.length a))
 cond (decide (c<2)) (
 some ((Int.ofNat (List.length a)),a)) (
 (j0T 1 a).bind fun b=>
 sumC b (fun e=>
 some ((Int.ofNat (Int.toNat e.1)),e.2)) (fun d=>
 some ((Int.ofNat (List.length d)),d)))
def jcF [LP] (f:(List Int)) (b a:Int):Option ((List Int)):=
 (j8m f).bind fun k=>
 (j1z k b a).bind fun d=>
 let g:(List Int):=(List.take (Int.toNat d.1) d.2)
 (j30 g).bind fun j=>
 (j2f j).bind fun e=>
 let c:(List Int):=(List.take (Int.toNat e.1) e.2)
 cond (decide (List.length c+List.length [a]≤j08)) (
 let i:(List Int):=(c++[a])
 some i) none
def j22 (a:Tn60):Option (Tn60):=
 some a
def j41 (a:Tn2):Option (Tn2):=
 cond (decide (List.length ([]:List ((Int×Int)))+List.length a≤j08)) (
 some (([]:List ((Int×Int)))++a)) none
def j9x (a:(Int×Int)):Option (Bool):=
 some (decide (a.2≤a.1))
def j0N (g a:Int) (b:Tn2):Option ((Int×Int×Tn2) ⊕ (Tn13 ⊕ Tn2)):=
 cond (decide (a<g)) (
 cond (inR a (List.length b)) (
 let e:=(List.getD b (Int.toNat a) (0,0)).1
 let d:=(List.getD b (Int.toNat a) (0,0)).2
 (j9x (e,d)).bind fun f=>
 cond f (
 some (.inr (.inl (a,b)))) (
 let c:=(w64 (a+1))
 some (.inl (g,c,b)))) none) (
 some (.inr (.inr b)))
def j0y [LP] (b c a):=LP.lp (fun h=>j0N h.1 h.2.1 h.2.2) (b,c,a)
theorem j3V (b c a):j0y b c a=lpK (j0N b c a) (fun h=>j0y h.1 h.2.1 h.2.2):=j04 _ _
def j0W [LP] (a:Tn2):Option Tn13:=
 let c:=(Int.ofNat (List.length a))
 (j0y c 0 a).bind fun b=>
 sumC b (fun d=>
 some (d.1,d.2)) (fun e=>
 some ((-1),e))
def j0K (e d:Int) (a:Tn2):Option ((Int×Int×Tn2) ⊕ (Tn13)):=
 let f:=(Int.ofNat (List.length a))
 cond (decide (d<f)) (
 cond (inR d (List.length a)) (
 let b:=(List.getD a (Int.toNat d) (0,0)).1
 let c:=(List.getD a (Int.toNat d) (0,0)).2
 (j9x (b,c)).bind fun g=>
 cond (!g) (
 cond (inR e (List.length a)) (
 let l:Tn2:=(List.set a (Int.toNat e) (b,c))
 let j:=(w64 (e+1))
 let k:=(w64 (d+1))
 some (.inl (j,k,l))) none) (
 let i:=(w64 (d+1))
 some (.inl (e,i,a)))) none) (
 some (.inr (e,a)))
def j0F [LP] (b a c):=LP.lp (fun h=>j0K h.1 h.2.1 h.2.2) (b,a,c)
theorem j3G (b a c):j0F b a c=lpK (j0K b a c) (fun h=>j0F h.1 h.2.1 h.2.2):=j04 _ _
def j0B [LP] (c:Tn2):Option Tn13:=
 (j0W c).bind fun b=>
 cond (b.1==(-1)) (
 some ((Int.ofNat (List.length b.2)),b.2)) (
 let e:=(w64 (b.1+1))
 (j0F b.1 e b.2).bind fun a=>
 cond (decide (0≤a.1)&&decide (a.1≤(Int.ofNat (List.length a.2)))) (
 let d:Tn2:=(List.take (Int.toNat a.1) a.2++List.replicate (List.length a.2-(Int.toNat a.1)) (0,0))
 cond (decide (0≤a.1)&&decide (a.1≤(Int.ofNat (List.length d)))) (
 some ((Int.ofNat (Int.toNat a.1)),d)) none) none)
def j86 (a b:(Int×Int)):Option (Int):=
 let c:=(w64 (a.1-b.1))
 some c
def j1i (a:Tn2):Option (Tn2):=
 jrE ((.pair (.int .i64) (.int .i64))) (fun c b=>(j86 c b).getD 0) a
def j4h (i d:Int) (a e:Tn2):Option ((Int×Int×Tn2×Tn2) ⊕ (Tn2)):=
 cond (decide (d<i)) (
 cond (inR d (List.length e)) (
 let g:=(List.getD e (Int.toNat d) (0,0)).1
 let b:=(List.getD e (Int.toNat d) (0,0)).2
 let c:=(Int.ofNat (List.length a))
 cond (decide (c>0)) (
 let m:=(w64 (c-1))
 cond (inR m (List.length a)) (
 let s:=(List.getD a (Int.toNat m) (0,0)).2
 cond (decide (g≤s)) (
 let f:=(w64 (c-1))
 let n:=(w64 (c-1))
 cond (inR n (List.length a)) (
 let j:=(List.getD a (Int.toNat n) (0,0)).2
 let q:Int:=(if b>j then b else j:Int)
 cond (inR f (List.length a)) (
 let r:Tn2:=(List.set a (Int.toNat f) ((List.getD a (Int.toNat f) (0,0)).1,q))
 let t:=(w64 (d+1))
 some (.inl (i,t,r,e))) none) none) (
 let l:Tn2:=[(g,b)]
 cond (decide (List.length a+List.length l≤j08)) (
 let u:Tn2:=(a++l)
 let v:=(w64 (d+1))
 some (.inl (i,v,u,e))) none)) none) (
 let k:Tn2:=[(g,b)]
 cond (decide (List.length a+List.length k≤j08)) (
 let p:Tn2:=(a++k)
 let o:=(w64 (d+1))
 some (.inl (i,o,p,e))) none)) none) (
 some (.inr a))
def j6w [LP] (a b d c):=LP.lp (fun h=>j4h h.1 h.2.1 h.2.2.1 h.2.2.2) (a,b,d,c)
theorem jbC (a b d c):j6w a b d c=lpK (j4h a b d c) (fun h=>j6w h.1 h.2.1 h.2.2.1 h.2.2.2):=j04 _ _
def j68 [LP] (c:Tn2):Option (Tn2):=
 (j41 c).bind fun f=>
 (j0B f).bind fun b=>
 let d:Tn2:=(List.take (Int.toNat b.1) b.2)
 (j1i d).bind fun a=>
 let e:=(Int.ofNat (List.length a))
 (j6w e 0 ([]:Tn2) a).bind fun g=>
 some g
def j4y (u:Tn2) (f p r:Int) (k:Tn2) (q i d a g:Int) (t:Tn2) (s:Tn14):Option ((Tn2×Int×Int×Int×Tn2×Int×Int×Int×Int×Int×Tn2×Tn14) ⊕ ((Tn2×Int×Int×Int×Int×Int×Int×Tn2×Tn14))):=
 cond (decide (i<q)) (
 cond (inR i (List.length k)) (
 let e:=(List.getD k (Int.toNat i) (0,0))
 let c:=(w64 (f+e.1))
 let m:Int:=(if c>d then c else d:Int)
 let j:=(w64 (f+e.2))
 let l:Int:=(if j<a then j else a:Int)
 let b:Tn2:=[(m,l)]
 cond (decide (List.length t+List.length b≤j08)) (
 let n:Tn2:=(t++b)
 let o:=(w64 (i+1))
 some (.inl (u,f,p,r,k,q,o,d,a,g,n,s))) none) none) (
 some (.inr (u,f,p,r,d,a,g,t,s)))
def j69 [LP] (l c d g j k e f a b m i):=LP.lp (fun h=>j4y h.1 h.2.1 h.2.2.1 h.2.2.2.1 h.2.2.2.2.1 h.2.2.2.2.2.1 h.2.2.2.2.2.2.1 h.2.2.2.2.2.2.2.1 h.2.2.2.2.2.2.2.2.1 h.2.2.2.2.2.2.2.2.2.1 h.2.2.2.2.2.2.2.2.2.2.1 h.2.2.2.2.2.2.2.2.2.2.2) (l,c,d,g,j,k,e,f,a,b,m,i)
theorem jdQ (l c d g j k e f a b m i):j69 l c d g j k e f a b m i=lpK (j4y l c d g j k e f a b m i) (fun h=>j69 h.1 h.2.1 h.2.2.1 h.2.2.2.1 h.2.2.2.2.1 h.2.2.2.2.2.1 h.2.2.2.2.2.2.1 h.2.2.2.2.2.2.2.1 h.2.2.2.2.2.2.2.2.1 h.2.2.2.2.2.2.2.2.2.1 h.2.2.2.2.2.2.2.2.2.2.1 h.2.2.2.2.2.2.2.2.2.2.2):=j04 _ _
def j2a [LP] (c:Tn2) (g i j l b d:Int) (m:Tn2) (k:Tn14):Option ((Tn2×Int×Int×Int×Int×Int×Int×Tn2×Tn14) ⊕ ((Tn2×Int×Int×Tn2×Tn14))):=
 cond (decide (g<b)) (
 let e:=(Int.ofNat (List.length c))
 (j69 c g i j c e 0 l b d m k).bind fun a=>
 let f:=(w64 (a.2.1+604800))
 some (.inl (a.1,f,a.2.2.1,a.2.2.2.1,a.2.2.2.2.1,a.2.2.2.2.2.1,a.2.2.2.2.2.2.1,a.2.2.2.2.2.2.2.1,a.2.2.2.2.2.2.2.2))) (
 some (.inr (c,i,j,m,k)))
def j6a [LP] (i c d f e a b j g):=LP.lp (fun h=>j2a h.1 h.2.1 h.2.2.1 h.2.2.2.1 h.2.2.2.2.1 h.2.2.2.2.2.1 h.2.2.2.2.2.2.1 h.2.2.2.2.2.2.2.1 h.2.2.2.2.2.2.2.2) (i,c,d,f,e,a,b,j,g)
theorem jdR (i c d f e a b j g):j6a i c d f e a b j g=lpK (j2a i c d f e a b j g) (fun h=>j6a h.1 h.2.1 h.2.2.1 h.2.2.2.1 h.2.2.2.2.1 h.2.2.2.2.2.1 h.2.2.2.2.2.2.1 h.2.2.2.2.2.2.2.1 h.2.2.2.2.2.2.2.2):=j04 _ _
def j2b [LP] (q:Tn2) (o b:Int) (p:Tn2) (d:Tn14):Option ((Tn2×Int×Int×Tn2×Tn14) ⊕ (Tn2)):=
 cond (decide (b<o)) (
 cond (inR b (List.length d)) (
 let e:=(List.getD d (Int.toNat b) (0,(0,0))).1
 let l:=(List.getD d (Int.toNat b) (0,(0,0))).2.1
 let c:=(List.getD d (Int.toNat b) (0,(0,0))).2.2
 let j:=(w64 (e+c))
 let f:=(w64 (j-(-259200)))
 let k:=(Int.tmod f 604800)
 let g:=(w64 (f-k))
 let m:=(w64 (g+(-259200)))
 let i:=(w64 (m-c))
 (j6a q i o b e l c p d).bind fun a=>
 let n:=(w64 (a.2.2.1+1))
 some (.inl (a.1,a.2.1,n,a.2.2.2.1,a.2.2.2.2))) none) (
 some (.inr p))
def j6b [LP] (d a b e c):=LP.lp (fun h=>j2b h.1 h.2.1 h.2.2.1 h.2.2.2.1 h.2.2.2.2) (d,a,b,e,c)
theorem jdS (d a b e c):j6b d a b e c=lpK (j2b d a b e c) (fun h=>j6b h.1 h.2.1 h.2.2.1 h.2.2.2.1 h.2.2.2.2):=j04 _ _
def j42 [LP] (b:Tn13) (e:Tn2) (a c:Int):Option (Tn2):=
 (j1q (b.1,b.2) a c).bind fun d=>
 let f:=(Int.ofNat (List.length d))
 (j6b e f 0 ([]:Tn2) d).bind fun i=>
 (j68 i).bind fun g=>
 some g
def j3H (t s:Int) (i:(List Int)) (r f:Int) (w:ByteArray) (k:Int) (j:(List Int)) (g a d:Int) (v:Tn2) (u:Tn14):Option ((Int×Int×(List Int)×Int×Int×ByteArray×Int×(List Int)×Int×Int×Int×Tn2×Tn14) ⊕ ((Int×Int×ByteArray×Int×(List Int)×Tn2×Tn14))):=
 cond (decide (f<r)) (
 cond (inR f (List.length i)) (
 let n:=(List.getD i (Int.toNat f) 0)
 let m:=(w64 (n*86400))
 let b:=(w64 (m-d))
 let q:Int:=(if b>g then b else g:Int)
 let c:=(w64 (b+86400))
 let o:Int:=(if c<a then c else a:Int)
 let e:Tn2:=[(q,o)]
 cond (decide (List.length v+List.length e≤j08)) (
 let p:Tn2:=(v++e)
 let l:=(w64 (f+1))
 some (.inl (t,s,i,r,l,w,k,j,g,a,d,p,u))) none) none) (
 some (.inr (t,s,w,k,j,v,u)))
def j3L [LP] (f i g e l m d c j a b n k):=LP.lp (fun h=>j3H h.1 h.2.1 h.2.2.1 h.2.2.2.1 h.2.2.2.2.1 h.2.2.2.2.2.1 h.2.2.2.2.2.2.1 h.2.2.2.2.2.2.2.1 h.2.2.2.2.2.2.2.2.1 h.2.2.2.2.2.2.2.2.2.1 h.2.2.2.2.2.2.2.2.2.2.1 h.2.2.2.2.2.2.2.2.2.2.2.1 h.2.2.2.2.2.2.2.2.2.2.2.2) (f,i,g,e,l,m,d,c,j,a,b,n,k)
theorem jc1 (f i g e l m d c j a b n k):j3L f i g e l m d c j a b n k=lpK (j3H f i g e l m d c j a b n k) (fun h=>j3L h.1 h.2.1 h.2.2.1 h.2.2.2.1 h.2.2.2.2.1 h.2.2.2.2.2.1 h.2.2.2.2.2.2.1 h.2.2.2.2.2.2.2.1 h.2.2.2.2.2.2.2.2.1 h.2.2.2.2.2.2.2.2.2.1 h.2.2.2.2.2.2.2.2.2.2.1 h.2.2.2.2.2.2.2.2.2.2.2.1 h.2.2.2.2.2.2.2.2.2.2.2.2):=j04 _ _
def j1G [LP] (k b:Int) (n:ByteArray) (l:Int) (d:(List Int)) (m:Tn2) (c:Tn14):Option ((Int×Int×ByteArray×Int×(List Int)×Tn2×Tn14) ⊕ (Tn2)):=
 cond (decide (b<k)) (
 cond (inR b (List.length c)) (
 let e:=(List.getD c (Int.toNat b) (0,(0,0))).1
 let f:=(List.getD c (Int.toNat b) (0,(0,0))).2.1
 let g:=(List.getD c (Int.toNat b) (0,(0,0))).2.2
 let i:=(Int.ofNat (List.length d))
 (j3L k b d i 0 n l d e f g m c).bind fun a=>
 let j:=(w64 (a.2.1+1))
 some (.inl (a.1,j,a.2.2.1,a.2.2.2.1,a.2.2.2.2.1,a.2.2.2.2.2.1,a.2.2.2.2.2.2))) none) (
 some (.inr m))
def j3M [LP] (c d f b a g e):=LP.lp (fun h=>j1G h.1 h.2.1 h.2.2.1 h.2.2.2.1 h.2.2.2.2.1 h.2.2.2.2.2.1 h.2.2.2.2.2.2) (c,d,f,b,a,g,e)
theorem jc2 (c d f b a g e):j3M c d f b a g e=lpK (j1G c d f b a g e) (fun h=>j3M h.1 h.2.1 h.2.2.1 h.2.2.2.1 h.2.2.2.2.1 h.2.2.2.2.2.1 h.2.2.2.2.2.2):=j04 _ _
def j1R [LP] (c:Tn73) (a:Tn19) (b d:Int):Option (Tn2):=
 cond (inR a.2.1 (List.length c.2)) (
 let e:=(List.getD c.2 (Int.toNat a.2.1) (0,([]:Tn2)))
 (j1q (e.1,e.2) b d).bind fun f=>
 let g:=(Int.ofNat (List.length f))
 (j3M g 0 a.1 a.2.1 a.2.2 ([]:Tn2) f).bind fun j=>
 (j68 j).bind fun i=>
 some i) none
def j4z (b:Tn2) (c:Int) (e:Tn2) (f d k a:Int) (l:Tn2):Option ((Tn2×Int×Tn2×Int×Int×Int×Int×Tn2) ⊕ ((Tn2×Int×Tn2×Int×Int×Int×Int×Tn2))):=
 let j:=(Int.ofNat (List.length b))
 cond (decide (c<j)) (
 cond (inR c (List.length b)) (
 let i:=(List.getD b (Int.toNat c) (0,0))
 cond (decide (i.2≤k)) (
 let g:=(w64 (c+1))
 some (.inl (b,g,e,f,d,k,a,l))) (
 some (.inr (b,c,e,f,d,k,a,l)))) none) (
 some (.inr (b,c,e,f,d,k,a,l)))
def j6c [LP] (f g c d b i a e):=LP.lp (fun h=>j4z h.1 h.2.1 h.2.2.1 h.2.2.2.1 h.2.2.2.2.1 h.2.2.2.2.2.1 h.2.2.2.2.2.2.1 h.2.2.2.2.2.2.2) (f,g,c,d,b,i,a,e)
theorem jdT (f g c d b i a e):j6c f g c d b i a e=lpK (j4z f g c d b i a e) (fun h=>j6c h.1 h.2.1 h.2.2.1 h.2.2.2.1 h.2.2.2.2.1 h.2.2.2.2.2.1 h.2.2.2.2.2.2.1 h.2.2.2.2.2.2.2):=j04 _ _
def j4A (b:Tn2) (q d a:Int) (f:Tn2) (k g t c:Int) (l:Tn2):Option ((Tn2×Int×Int×Int×Tn2×Int×Int×Int×Int×Tn2) ⊕ ((Tn2×Int×Int×Tn2×Int×Int×Int×Int×Tn2))):=
 let s:=(Int.ofNat (List.length b))
 cond (decide (a<s)) (
 cond (inR a (List.length b)) (
 let u:=(List.getD b (Int.toNat a) (0,0))
 cond (decide (u.1<c)) (
 cond (inR a (List.length b)) (
 let v:=(List.getD b (Int.toNat a) (0,0))
 cond (decide (d<v.1)) (
 cond (inR a (List.length b)) (
 let m:=(List.getD b (Int.toNat a) (0,0))
 let e:Tn2:=[(d,m.1)]
 cond (decide (List.length l+List.length e≤j08)) (
 let n:Tn2:=(l++e)
 cond (inR a (List.length b)) (
 let i:=(List.getD b (Int.toNat a) (0,0))
 let o:Int:=(if i.2>d then i.2 else d:Int)
 let p:=(w64 (a+1))
 some (.inl (b,q,o,p,f,k,g,t,c,n))) none) none) none) (
 cond (inR a (List.length b)) (
 let j:=(List.getD b (Int.toNat a) (0,0))
 let r:Int:=(if j.2>d then j.2 else d:Int)
 let w:=(w64 (a+1))
 some (.inl (b,q,r,w,f,k,g,t,c,l))) none)) none) (
 some (.inr (b,q,d,f,k,g,t,c,l)))) none) (
 some (.inr (b,q,d,f,k,g,t,c,l)))
def j4Y [LP] (g j i b d e c k a f):=LP.lp (fun h=>j4A h.1 h.2.1 h.2.2.1 h.2.2.2.1 h.2.2.2.2.1 h.2.2.2.2.2.1 h.2.2.2.2.2.2.1 h.2.2.2.2.2.2.2.1 h.2.2.2.2.2.2.2.2.1 h.2.2.2.2.2.2.2.2.2) (g,j,i,b,d,e,c,k,a,f)
theorem jdU (g j i b d e c k a f):j4Y g j i b d e c k a f=lpK (j4A g j i b d e c k a f) (fun h=>j4Y h.1 h.2.1 h.2.2.1 h.2.2.2.1 h.2.2.2.2.1 h.2.2.2.2.2.1 h.2.2.2.2.2.2.1 h.2.2.2.2.2.2.2.1 h.2.2.2.2.2.2.2.2.1 h.2.2.2.2.2.2.2.2.2):=j04 _ _
def j2c [LP] (m:Tn2) (n:Int) (f:Tn2) (k c:Int) (l:Tn2):Option ((Tn2×Int×Tn2×Int×Int×Tn2) ⊕ (Tn2)):=
 cond (decide (c<k)) (
 cond (inR c (List.length f)) (
 let e:=(List.getD f (Int.toNat c) (0,0))
 (j6c m n f k c e.1 e.2 l).bind fun b=>
 (j4Y b.1 b.2.1 b.2.2.2.2.2.1 b.2.1 b.2.2.1 b.2.2.2.1 b.2.2.2.2.1 b.2.2.2.2.2.1 b.2.2.2.2.2.2.1 b.2.2.2.2.2.2.2).bind fun a=>
 cond (decide (a.2.2.1<a.2.2.2.2.2.2.2.1)) (
 let d:Tn2:=[(a.2.2.1,a.2.2.2.2.2.2.2.1)]
 cond (decide (List.length a.2.2.2.2.2.2.2.2+List.length d≤j08)) (
 let i:Tn2:=(a.2.2.2.2.2.2.2.2++d)
 let j:=(w64 (a.2.2.2.2.2.1+1))
 some (.inl (a.1,a.2.1,a.2.2.2.1,a.2.2.2.2.1,j,i))) none) (
 let g:=(w64 (a.2.2.2.2.2.1+1))
 some (.inl (a.1,a.2.1,a.2.2.2.1,a.2.2.2.2.1,g,a.2.2.2.2.2.2.2.2)))) none) (
 some (.inr l))
def j43 [LP] (e f b c a d):=LP.lp (fun h=>j2c h.1 h.2.1 h.2.2.1 h.2.2.2.1 h.2.2.2.2.1 h.2.2.2.2.2) (e,f,b,c,a,d)
theorem jdV (e f b c a d):j43 e f b c a d=lpK (j2c e f b c a d) (fun h=>j43 h.1 h.2.1 h.2.2.1 h.2.2.2.1 h.2.2.2.2.1 h.2.2.2.2.2):=j04 _ _
def j2v [LP] (a b:Tn2):Option (Tn2):=
 let c:=(Int.ofNat (List.length a))
 (j43 b 0 a c 0 ([]:Tn2)).bind fun d=>
 some d
def j6x (b d:Tn2) (c a:Int) (n:Tn2):Option ((Tn2×Tn2×Int×Int×Tn2) ⊕ (Tn2)):=
 let w:=(Int.ofNat (List.length b))
 let r:=(Int.ofNat (List.length d))
 cond (cond (decide (c<w)) (decide (a<r)) false) (
 cond (inR c (List.length b)) (
 let m:=(List.getD b (Int.toNat c) (0,0))
 cond (inR a (List.length d)) (
 let g:=(List.getD d (Int.toNat a) (0,0))
 let k:Int:=(if g.1>m.1 then g.1 else m.1:Int)
 cond (inR c (List.length b)) (
 let e:=(List.getD b (Int.toNat c) (0,0))
 cond (inR a (List.length d)) (
 let f:=(List.getD d (Int.toNat a) (0,0))
 let l:Int:=(if f.2<e.2 then f.2 else e.2:Int)
 cond (decide (k<l)) (
 let i:Tn2:=[(k,l)]
 cond (decide (List.length n+List.length i≤j08)) (
 let j:Tn2:=(n++i)
 cond (inR c (List.length b)) (
 let x:=(List.getD b (Int.toNat c) (0,0))
 cond (inR a (List.length d)) (
 let p:=(List.getD d (Int.toNat a) (0,0))
 cond (decide (x.2<p.2)) (
 let o:=(w64 (c+1))
 some (.inl (b,d,o,a,j))) (
 let q:=(w64 (a+1))
 some (.inl (b,d,c,q,j)))) none) none) none) (
 cond (inR c (List.length b)) (
 let s:=(List.getD b (Int.toNat c) (0,0))
 cond (inR a (List.length d)) (
 let v:=(List.getD d (Int.toNat a) (0,0))
 cond (decide (s.2<v.2)) (
 let u:=(w64 (c+1))
 some (.inl (b,d,u,a,n))) (
 let t:=(w64 (a+1))
 some (.inl (b,d,c,t,n)))) none) none)) none) none) none) none) (
 some (.inr n))
def j3X [LP] (d b e c a):=LP.lp (fun h=>j6x h.1 h.2.1 h.2.2.1 h.2.2.2.1 h.2.2.2.2) (d,b,e,c,a)
theorem jl8 (d b e c a):j3X d b e c a=lpK (j6x d b e c a) (fun h=>j3X h.1 h.2.1 h.2.2.1 h.2.2.2.1 h.2.2.2.2):=j04 _ _
def j7z [LP] (a b:Tn2):Option (Tn2):=
 (j3X a b 0 0 ([]:Tn2)).bind fun c=>
 some c
def j44 [LP] (a:Tn73) (b:Tn59) (d c:Int):Option (Tn2):=
 cond (inR b.2.1 (List.length a.2)) (
 let r:=(List.getD a.2 (Int.toNat b.2.1) (0,([]:Tn2)))
 (j0A (r.1,r.2) (b.1,(b.2.1,((b.2.2.1.1,b.2.2.1.2),(b.2.2.2.1,(b.2.2.2.2.1,(b.2.2.2.2.2.1,(b.2.2.2.2.2.2.1,(b.2.2.2.2.2.2.2.1,b.2.2.2.2.2.2.2.2)))))))) 0).bind fun i=>
 cond (cond (cond (!i.2) true (decide (i.1≥c))) true (decide (d≥c))) (
 some ([]:Tn2)) (
 let e:Int:=(if i.1>d then i.1 else d:Int)
 let m:Tn2:=[(e,c)]
 let t:=(Int.ofNat (List.length b.2.2.2.2.2.2.1))
 cond (decide (t>0)) (
 cond (inR b.2.1 (List.length a.2)) (
 let s:=(List.getD a.2 (Int.toNat b.2.1) (0,([]:Tn2)))
 (j42 (s.1,s.2) b.2.2.2.2.2.2.1 e c).bind fun l=>
 cond (b.2.2.2.2.2.2.2.2==1) (
 cond (inR b.2.2.2.2.2.2.2.1 (List.length a.1.2.2.1)) (
 let k:=(List.getD a.1.2.2.1 (Int.toNat b.2.2.2.2.2.2.2.1) (ByteArray.empty,(0,([]:(List Int)))))
 (j1R ((a.1.1,(a.1.2.1,(a.1.2.2.1,a.1.2.2.2))),a.2) (k.1,(k.2.1,k.2.2)) e c).bind fun w=>
 (j2v l w).bind fun u=>
 some u) none) (
 cond (b.2.2.2.2.2.2.2.2==2) (
 cond (inR b.2.2.2.2.2.2.2.1 (List.length a.1.2.2.1)) (
 let j:=(List.getD a.1.2.2.1 (Int.toNat b.2.2.2.2.2.2.2.1) (ByteArray.empty,(0,([]:(List Int)))))
 (j1R ((a.1.1,(a.1.2.1,(a.1.2.2.1,a.1.2.2.2))),a.2) (j.1,(j.2.1,j.2.2)) e c).bind fun v=>
 (j7z l v).bind fun x=>
 some x) none) (
 some l))) none) (
 cond (b.2.2.2.2.2.2.2.2==1) (
 cond (inR b.2.2.2.2.2.2.2.1 (List.length a.1.2.2.1)) (
 let g:=(List.getD a.1.2.2.1 (Int.toNat b.2.2.2.2.2.2.2.1) (ByteArray.empty,(0,([]:(List Int)))))
 (j1R ((a.1.1,(a.1.2.1,(a.1.2.2.1,a.1.2.2.2))),a.2) (g.1,(g.2.1,g.2.2)) e c).bind fun n=>
 (j2v m n).bind fun q=>
 some q) none) (
 cond (b.2.2.2.2.2.2.2.2==2) (
 cond (inR b.2.2.2.2.2.2.2.1 (List.length a.1.2.2.1)) (
 let f:=(List.getD a.1.2.2.1 (Int.toNat b.2.2.2.2.2.2.2.1) (ByteArray.empty,(0,([]:(List Int)))))
 (j1R ((a.1.1,(a.1.2.1,(a.1.2.2.1,a.1.2.2.2))),a.2) (f.1,(f.2.1,f.2.2)) e c).bind fun p=>
 (j7z m p).bind fun o=>
 some o) none) (
 some m))))) none
def j3N [LP] (a:Tn13) (b:Int):Option (Int):=
 (j3C (a.1,a.2) b).bind fun d=>
 (j4R (a.1,a.2) d).bind fun c=>
 some c
def jhS (a:Int):Option ((Int×Int)):=
 let e:=(w64 (Int.tdiv a 86400))
 let i:=(Int.tmod a 86400)
 cond (decide (i<0)) (
 let d:=(w64 (e-1))
 let f:=(w64 (d*86400))
 let g:=(w64 (a-f))
 some (d,g)) (
 let b:=(w64 (e*86400))
 let c:=(w64 (a-b))
 some (e,c))
def j0n [LP] (a:Tn13) (b:Int):Option ((Int×Int)):=
 (j3N (a.1,a.2) b).bind fun e=>
 let d:=(w64 (b+e))
 (jhS d).bind fun c=>
 some (c.1,c.2)
def j1X [LP] (n m o:Int) (j:Tn2) (p:ByteArray) (g i b k f:Int) (e:(List Int)) (a:Tn2) (d c:Int):Option ((Int×Int×Int×Tn2×ByteArray×Int×Int×Int×Int×Int×(List Int)×Tn2×Int×Int) ⊕ ((Int×Int×Int×Tn2×ByteArray×Int×Int×Int×Int×Int×(List Int)×Tn2×Int×Int))):=
 cond (decide (m>0)) (
 (j0A (o,j) (p,(g,((i,b),(k,(f,(e,(a,(d,c)))))))) m).bind fun l=>
 cond (cond l.2 (decide (l.1≤n)) false) (
 some (.inr (n,m,o,j,p,g,i,b,k,f,e,a,d,c))) (
 let q:=(w64 (m-1))
 some (.inl (n,q,o,j,p,g,i,b,k,f,e,a,d,c)))) (
 some (.inr (n,m,o,j,p,g,i,b,k,f,e,a,d,c)))
def j5h [LP] (l m n j o g i b k f e a d c):=LP.lp (fun h=>j1X h.1 h.2.1 h.2.2.1 h.2.2.2.1 h.2.2.2.2.1 h.2.2.2.2.2.1 h.2.2.2.2.2.2.1 h.2.2.2.2.2.2.2.1 h.2.2.2.2.2.2.2.2.1 h.2.2.2.2.2.2.2.2.2.1 h.2.2.2.2.2.2.2.2.2.2.1 h.2.2.2.2.2.2.2.2.2.2.2.1 h.2.2.2.2.2.2.2.2.2.2.2.2.1 h.2.2.2.2.2.2.2.2.2.2.2.2.2) (l,m,n,j,o,g,i,b,k,f,e,a,d,c)
theorem jcG (l m n j o g i b k f e a d c):j5h l m n j o g i b k f e a d c=lpK (j1X l m n j o g i b k f e a d c) (fun h=>j5h h.1 h.2.1 h.2.2.1 h.2.2.2.1 h.2.2.2.2.1 h.2.2.2.2.2.1 h.2.2.2.2.2.2.1 h.2.2.2.2.2.2.2.1 h.2.2.2.2.2.2.2.2.1 h.2.2.2.2.2.2.2.2.2.1 h.2.2.2.2.2.2.2.2.2.2.1 h.2.2.2.2.2.2.2.2.2.2.2.1 h.2.2.2.2.2.2.2.2.2.2.2.2.1 h.2.2.2.2.2.2.2.2.2.2.2.2.2):=j04 _ _
def j2w [LP] (p o q:Int) (k:Tn2) (r:ByteArray) (i j c l g:Int) (f:(List Int)) (b:Tn2) (e d:Int):Option ((Int×Int×Int×Tn2×ByteArray×Int×Int×Int×Int×Int×(List Int)×Tn2×Int×Int) ⊕ (Int)):=
 let n:=(w64 (o+1))
 (j0A (q,k) (r,(i,((j,c),(l,(g,(f,(b,(e,d)))))))) n).bind fun a=>
 cond (cond (!a.2) true (decide (a.1>p))) (
 some (.inr o)) (
 let m:=(w64 (o+1))
 some (.inl (p,m,q,k,r,i,j,c,l,g,f,b,e,d)))
def j5i [LP] (l m n j o g i b k f e a d c):=LP.lp (fun h=>j2w h.1 h.2.1 h.2.2.1 h.2.2.2.1 h.2.2.2.2.1 h.2.2.2.2.2.1 h.2.2.2.2.2.2.1 h.2.2.2.2.2.2.2.1 h.2.2.2.2.2.2.2.2.1 h.2.2.2.2.2.2.2.2.2.1 h.2.2.2.2.2.2.2.2.2.2.1 h.2.2.2.2.2.2.2.2.2.2.2.1 h.2.2.2.2.2.2.2.2.2.2.2.2.1 h.2.2.2.2.2.2.2.2.2.2.2.2.2) (l,m,n,j,o,g,i,b,k,f,e,a,d,c)
theorem jiO (l m n j o g i b k f e a d c):j5i l m n j o g i b k f e a d c=lpK (j2w l m n j o g i b k f e a d c) (fun h=>j5i h.1 h.2.1 h.2.2.1 h.2.2.2.1 h.2.2.2.2.1 h.2.2.2.2.2.1 h.2.2.2.2.2.2.1 h.2.2.2.2.2.2.2.1 h.2.2.2.2.2.2.2.2.1 h.2.2.2.2.2.2.2.2.2.1 h.2.2.2.2.2.2.2.2.2.2.1 h.2.2.2.2.2.2.2.2.2.2.2.1 h.2.2.2.2.2.2.2.2.2.2.2.2.1 h.2.2.2.2.2.2.2.2.2.2.2.2.2):=j04 _ _
def j23 [LP] (c:Tn13) (a:Tn59) (d:Int):Option (Int):=
 (j0A (c.1,c.2) (a.1,(a.2.1,((a.2.2.1.1,a.2.2.1.2),(a.2.2.2.1,(a.2.2.2.2.1,(a.2.2.2.2.2.1,(a.2.2.2.2.2.2.1,(a.2.2.2.2.2.2.2.1,a.2.2.2.2.2.2.2.2)))))))) 0).bind fun e=>
 cond (cond (!e.2) true (decide (e.1>d))) (
 some (-1)) (
 cond (a.2.2.2.1==0) (
 let m:=(w64 (d-e.1))
 let f:=(w64 (3600*a.2.2.2.2.1))
 cond (!(f==0)) (
 let n:=(w64 (Int.tdiv m f))
 some n) none) (
 (j0n (c.1,c.2) d).bind fun l=>
 let j:=(w64 (l.1-a.2.2.1.1))
 (jav (a.1,(a.2.1,((a.2.2.1.1,a.2.2.1.2),(a.2.2.2.1,(a.2.2.2.2.1,(a.2.2.2.2.2.1,(a.2.2.2.2.2.2.1,(a.2.2.2.2.2.2.2.1,a.2.2.2.2.2.2.2.2))))))))).bind fun g=>
 cond (!(g==0)) (
 let i:=(w64 (Int.tdiv j g))
 let k:Int:=(if i>0 then i else 0:Int)
 (j5h d k c.1 c.2 a.1 a.2.1 a.2.2.1.1 a.2.2.1.2 a.2.2.2.1 a.2.2.2.2.1 a.2.2.2.2.2.1 a.2.2.2.2.2.2.1 a.2.2.2.2.2.2.2.1 a.2.2.2.2.2.2.2.2).bind fun b=>
 (j5i b.1 b.2.1 b.2.2.1 b.2.2.2.1 b.2.2.2.2.1 b.2.2.2.2.2.1 b.2.2.2.2.2.2.1 b.2.2.2.2.2.2.2.1 b.2.2.2.2.2.2.2.2.1 b.2.2.2.2.2.2.2.2.2.1 b.2.2.2.2.2.2.2.2.2.2.1 b.2.2.2.2.2.2.2.2.2.2.2.1 b.2.2.2.2.2.2.2.2.2.2.2.2.1 b.2.2.2.2.2.2.2.2.2.2.2.2.2).bind fun o=>
 some o) none))
def j5o (f:Tn14) (m e:Int) (b:Tn14):Option ((Tn14×Int×Int×Tn14) ⊕ (Tn14)):=
 cond (decide (e<m)) (
 cond (inR e (List.length f)) (
 let a:=(List.getD f (Int.toNat e) (0,(0,0)))
 cond (decide (a.2.1≤a.1)) (
 let s:=(w64 (e+1))
 some (.inl (f,m,s,b))) (
 let d:=(Int.ofNat (List.length b))
 cond (decide (d>0)) (
 let j:=(w64 (d-1))
 cond (inR j (List.length b)) (
 let t:=(List.getD b (Int.toNat j) (0,(0,0))).2.1
 cond (t==a.1) (
 let i:=(w64 (d-1))
 cond (inR i (List.length b)) (
 let w:=(List.getD b (Int.toNat i) (0,(0,0))).2.2
 cond (w==a.2.2) (
 let c:=(w64 (d-1))
 cond (inR c (List.length b)) (
 let x:Tn14:=(List.set b (Int.toNat c) ((List.getD b (Int.toNat c) (0,(0,0))).1,(a.2.1,(List.getD b (Int.toNat c) (0,(0,0))).2.2)))
 let u:=(w64 (e+1))
 some (.inl (f,m,u,x))) none) (
 let l:Tn14:=[(a.1,(a.2.1,a.2.2))]
 cond (decide (List.length b+List.length l≤j08)) (
 let q:Tn14:=(b++l)
 let v:=(w64 (e+1))
 some (.inl (f,m,v,q))) none)) none) (
 let g:Tn14:=[(a.1,(a.2.1,a.2.2))]
 cond (decide (List.length b+List.length g≤j08)) (
 let r:Tn14:=(b++g)
 let n:=(w64 (e+1))
 some (.inl (f,m,n,r))) none)) none) (
 let k:Tn14:=[(a.1,(a.2.1,a.2.2))]
 cond (decide (List.length b+List.length k≤j08)) (
 let p:Tn14:=(b++k)
 let o:=(w64 (e+1))
 some (.inl (f,m,o,p))) none))) none) (
 some (.inr b))
def j5p [LP] (a d b c):=LP.lp (fun h=>j5o h.1 h.2.1 h.2.2.1 h.2.2.2) (a,d,b,c)
theorem jgd (a d b c):j5p a d b c=lpK (j5o a d b c) (fun h=>j5p h.1 h.2.1 h.2.2.1 h.2.2.2):=j04 _ _
def j7c [LP] (a:Tn14):Option (Tn14):=
 let b:=(Int.ofNat (List.length a))
 (j5p a b 0 ([]:Tn14)).bind fun c=>
 some c
def j1n [LP] (b5 o b3 t a1 a6:Int) (a7:ByteArray) (l j i k e:Int) (a:(List Int)) (g:Tn2) (m f p:Int) (c:Tn2) (b2 b:Int) (z:Tn14) (a0:Tn2):Option ((Int×Int×Int×Int×Int×Int×ByteArray×Int×Int×Int×Int×Int×(List Int)×Tn2×Int×Int×Int×Tn2×Int×Int×Tn14×Tn2) ⊕ ((Int×Int×Int×Int×Int×Int×ByteArray×Int×Int×Int×Int×Int×(List Int)×Tn2×Int×Int×Int×Tn2×Tn14×Tn2))):=
 cond (decide (o<b)) (
 cond (decide (o≥t)) (
 (j23 (p,c) (a7,(l,((j,i),(k,(e,(a,(g,(m,f)))))))) o).bind fun d=>
 let b7:=(w64 (d+1))
 (j0A (p,c) (a7,(l,((j,i),(k,(e,(a,(g,(m,f)))))))) b7).bind fun n=>
 cond (!n.2) (
 let a5:Int:=(if 8589934593<b then 8589934593 else b:Int)
 let a2:=(Int.ofNat (List.length a))
 cond (!(a2==0)) (
 let a3:=(Int.tmod d a2)
 cond (inR a3 (List.length a)) (
 let b4:=(List.getD a (Int.toNat a3) 0)
 let a4:Tn14:=[(o,(a5,b4))]
 cond (decide (List.length z+List.length a4≤j08)) (
 let b6:Tn14:=(z++a4)
 some (.inl (b5,a5,d,8589934593,a1,a6,a7,l,j,i,k,e,a,g,m,f,p,c,b2,b,b6,a0))) none) none) none) (
 let x:Int:=(if n.1<b then n.1 else b:Int)
 let s:=(Int.ofNat (List.length a))
 cond (!(s==0)) (
 let u:=(Int.tmod d s)
 cond (inR u (List.length a)) (
 let b1:=(List.getD a (Int.toNat u) 0)
 let v:Tn14:=[(o,(x,b1))]
 cond (decide (List.length z+List.length v≤j08)) (
 let b0:Tn14:=(z++v)
 some (.inl (b5,x,d,n.1,a1,a6,a7,l,j,i,k,e,a,g,m,f,p,c,b2,b,b0,a0))) none) none) none)) (
 let r:Int:=(if t<b then t else b:Int)
 let y:=(Int.ofNat (List.length a))
 cond (!(y==0)) (
 let q:=(Int.tmod b3 y)
 cond (inR q (List.length a)) (
 let a9:=(List.getD a (Int.toNat q) 0)
 let w:Tn14:=[(o,(r,a9))]
 cond (decide (List.length z+List.length w≤j08)) (
 let a8:Tn14:=(z++w)
 some (.inl (b5,r,b3,t,a1,a6,a7,l,j,i,k,e,a,g,m,f,p,c,b2,b,a8,a0))) none) none) none)) (
 some (.inr (b5,o,b3,t,a1,a6,a7,l,j,i,k,e,a,g,m,f,p,c,z,a0)))
def j2x [LP] (u n t p o s v k i g j c f e l d q b r a w m):=LP.lp (fun h=>j1n h.1 h.2.1 h.2.2.1 h.2.2.2.1 h.2.2.2.2.1 h.2.2.2.2.2.1 h.2.2.2.2.2.2.1 h.2.2.2.2.2.2.2.1 h.2.2.2.2.2.2.2.2.1 h.2.2.2.2.2.2.2.2.2.1 h.2.2.2.2.2.2.2.2.2.2.1 h.2.2.2.2.2.2.2.2.2.2.2.1 h.2.2.2.2.2.2.2.2.2.2.2.2.1 h.2.2.2.2.2.2.2.2.2.2.2.2.2.1 h.2.2.2.2.2.2.2.2.2.2.2.2.2.2.1 h.2.2.2.2.2.2.2.2.2.2.2.2.2.2.2.1 h.2.2.2.2.2.2.2.2.2.2.2.2.2.2.2.2.1 h.2.2.2.2.2.2.2.2.2.2.2.2.2.2.2.2.2.1 h.2.2.2.2.2.2.2.2.2.2.2.2.2.2.2.2.2.2.1 h.2.2.2.2.2.2.2.2.2.2.2.2.2.2.2.2.2.2.2.1 h.2.2.2.2.2.2.2.2.2.2.2.2.2.2.2.2.2.2.2.2.1 h.2.2.2.2.2.2.2.2.2.2.2.2.2.2.2.2.2.2.2.2.2) (u,n,t,p,o,s,v,k,i,g,j,c,f,e,l,d,q,b,r,a,w,m)
theorem jeQ (u n t p o s v k i g j c f e l d q b r a w m):j2x u n t p o s v k i g j c f e l d q b r a w m=lpK (j1n u n t p o s v k i g j c f e l d q b r a w m) (fun h=>j2x h.1 h.2.1 h.2.2.1 h.2.2.2.1 h.2.2.2.2.1 h.2.2.2.2.2.1 h.2.2.2.2.2.2.1 h.2.2.2.2.2.2.2.1 h.2.2.2.2.2.2.2.2.1 h.2.2.2.2.2.2.2.2.2.1 h.2.2.2.2.2.2.2.2.2.2.1 h.2.2.2.2.2.2.2.2.2.2.2.1 h.2.2.2.2.2.2.2.2.2.2.2.2.1 h.2.2.2.2.2.2.2.2.2.2.2.2.2.1 h.2.2.2.2.2.2.2.2.2.2.2.2.2.2.1 h.2.2.2.2.2.2.2.2.2.2.2.2.2.2.2.1 h.2.2.2.2.2.2.2.2.2.2.2.2.2.2.2.2.1 h.2.2.2.2.2.2.2.2.2.2.2.2.2.2.2.2.2.1 h.2.2.2.2.2.2.2.2.2.2.2.2.2.2.2.2.2.2.1 h.2.2.2.2.2.2.2.2.2.2.2.2.2.2.2.2.2.2.2.1 h.2.2.2.2.2.2.2.2.2.2.2.2.2.2.2.2.2.2.2.2.1 h.2.2.2.2.2.2.2.2.2.2.2.2.2.2.2.2.2.2.2.2.2):=j04 _ _
def j13 [LP] (w k z x l c:Int) (a0:ByteArray) (t r q s m:Int) (p:(List Int)) (o:Tn2) (v n y:Int) (f:Tn2) (u:Tn14) (d:Tn2):Option ((Int×Int×Int×Int×Int×Int×ByteArray×Int×Int×Int×Int×Int×(List Int)×Tn2×Int×Int×Int×Tn2×Tn14×Tn2) ⊕ ((Int×Int×Tn14))):=
 cond (decide (c<l)) (
 cond (inR c (List.length d)) (
 let b:=(List.getD d (Int.toNat c) (0,0)).1
 let j:=(List.getD d (Int.toNat c) (0,0)).2
 let e:Tn14:=[(k,(b,(-1)))]
 cond (decide (List.length u+List.length e≤j08)) (
 let g:Tn14:=(u++e)
 (j2x w b z x l c a0 t r q s m p o v n y f b j g d).bind fun a=>
 let i:=(w64 (a.2.2.2.2.2.1+1))
 some (.inl (a.1,a.2.1,a.2.2.1,a.2.2.2.1,a.2.2.2.2.1,i,a.2.2.2.2.2.2.1,a.2.2.2.2.2.2.2.1,a.2.2.2.2.2.2.2.2.1,a.2.2.2.2.2.2.2.2.2.1,a.2.2.2.2.2.2.2.2.2.2.1,a.2.2.2.2.2.2.2.2.2.2.2.1,a.2.2.2.2.2.2.2.2.2.2.2.2.1,a.2.2.2.2.2.2.2.2.2.2.2.2.2.1,a.2.2.2.2.2.2.2.2.2.2.2.2.2.2.1,a.2.2.2.2.2.2.2.2.2.2.2.2.2.2.2.1,a.2.2.2.2.2.2.2.2.2.2.2.2.2.2.2.2.1,a.2.2.2.2.2.2.2.2.2.2.2.2.2.2.2.2.2.1,a.2.2.2.2.2.2.2.2.2.2.2.2.2.2.2.2.2.2.1,a.2.2.2.2.2.2.2.2.2.2.2.2.2.2.2.2.2.2.2))) none) none) (
 some (.inr (w,k,u)))
def j2y [LP] (s m r o n q t j g f i b e d k c p a u l):=LP.lp (fun h=>j13 h.1 h.2.1 h.2.2.1 h.2.2.2.1 h.2.2.2.2.1 h.2.2.2.2.2.1 h.2.2.2.2.2.2.1 h.2.2.2.2.2.2.2.1 h.2.2.2.2.2.2.2.2.1 h.2.2.2.2.2.2.2.2.2.1 h.2.2.2.2.2.2.2.2.2.2.1 h.2.2.2.2.2.2.2.2.2.2.2.1 h.2.2.2.2.2.2.2.2.2.2.2.2.1 h.2.2.2.2.2.2.2.2.2.2.2.2.2.1 h.2.2.2.2.2.2.2.2.2.2.2.2.2.2.1 h.2.2.2.2.2.2.2.2.2.2.2.2.2.2.2.1 h.2.2.2.2.2.2.2.2.2.2.2.2.2.2.2.2.1 h.2.2.2.2.2.2.2.2.2.2.2.2.2.2.2.2.2.1 h.2.2.2.2.2.2.2.2.2.2.2.2.2.2.2.2.2.2.1 h.2.2.2.2.2.2.2.2.2.2.2.2.2.2.2.2.2.2.2) (s,m,r,o,n,q,t,j,g,f,i,b,e,d,k,c,p,a,u,l)
theorem j9k (s m r o n q t j g f i b e d k c p a u l):j2y s m r o n q t j g f i b e d k c p a u l=lpK (j13 s m r o n q t j g f i b e d k c p a u l) (fun h=>j2y h.1 h.2.1 h.2.2.1 h.2.2.2.1 h.2.2.2.2.1 h.2.2.2.2.2.1 h.2.2.2.2.2.2.1 h.2.2.2.2.2.2.2.1 h.2.2.2.2.2.2.2.2.1 h.2.2.2.2.2.2.2.2.2.1 h.2.2.2.2.2.2.2.2.2.2.1 h.2.2.2.2.2.2.2.2.2.2.2.1 h.2.2.2.2.2.2.2.2.2.2.2.2.1 h.2.2.2.2.2.2.2.2.2.2.2.2.2.1 h.2.2.2.2.2.2.2.2.2.2.2.2.2.2.1 h.2.2.2.2.2.2.2.2.2.2.2.2.2.2.2.1 h.2.2.2.2.2.2.2.2.2.2.2.2.2.2.2.2.1 h.2.2.2.2.2.2.2.2.2.2.2.2.2.2.2.2.2.1 h.2.2.2.2.2.2.2.2.2.2.2.2.2.2.2.2.2.2.1 h.2.2.2.2.2.2.2.2.2.2.2.2.2.2.2.2.2.2.2):=j04 _ _
def j1S [LP] (b:Tn73) (a:Tn59) (c d:Int):Option (Tn14):=
 cond (inR a.2.1 (List.length b.2)) (
 let f:=(List.getD b.2 (Int.toNat a.2.1) (0,([]:Tn2)))
 (j44 ((b.1.1,(b.1.2.1,(b.1.2.2.1,b.1.2.2.2))),b.2) (a.1,(a.2.1,((a.2.2.1.1,a.2.2.1.2),(a.2.2.2.1,(a.2.2.2.2.1,(a.2.2.2.2.2.1,(a.2.2.2.2.2.2.1,(a.2.2.2.2.2.2.2.1,a.2.2.2.2.2.2.2.2)))))))) c d).bind fun i=>
 let k:=(Int.ofNat (List.length i))
 (j2y d c (-1) (-1) k 0 a.1 a.2.1 a.2.2.1.1 a.2.2.1.2 a.2.2.2.1 a.2.2.2.2.1 a.2.2.2.2.2.1 a.2.2.2.2.2.2.1 a.2.2.2.2.2.2.2.1 a.2.2.2.2.2.2.2.2 f.1 f.2 ([]:Tn14) i).bind fun e=>
 let g:Tn14:=[(e.2.1,(e.1,(-1)))]
 cond (decide (List.length e.2.2+List.length g≤j08)) (
 let j:Tn14:=(e.2.2++g)
 (j7c j).bind fun l=>
 some l) none) none
def j4B (k:Int) (i:Tn29) (d b:Int) (e:Tn2):Option ((Int×Tn29×Int×Int×Tn2) ⊕ (Tn2)):=
 cond (decide (b<d)) (
 cond (inR b (List.length i)) (
 let a:=(List.getD i (Int.toNat b) (0,(0,(0,(0,0)))))
 cond (cond (a.1==0) (a.2.1==k) false) (
 let c:Tn2:=[(a.2.2.2.1,a.2.2.2.2)]
 cond (decide (List.length e+List.length c≤j08)) (
 let g:Tn2:=(e++c)
 let j:=(w64 (b+1))
 some (.inl (k,i,d,j,g))) none) (
 let f:=(w64 (b+1))
 some (.inl (k,i,d,f,e)))) none) (
 some (.inr e))
def j4Z [LP] (d e a b c):=LP.lp (fun h=>j4B h.1 h.2.1 h.2.2.1 h.2.2.2.1 h.2.2.2.2) (d,e,a,b,c)
theorem jdW (d e a b c):j4Z d e a b c=lpK (j4B d e a b c) (fun h=>j4Z h.1 h.2.1 h.2.2.1 h.2.2.2.1 h.2.2.2.2):=j04 _ _
def j4P [LP] (b:Tn64) (a:Int):Option (Tn2):=
 let c:=(Int.ofNat (List.length b.2.2))
 (j4Z a b.2.2 c 0 ([]:Tn2)).bind fun e=>
 (j68 e).bind fun d=>
 some d
def j45 (l:Tn14) (m n o a:Int) (r:ByteArray) (d:Tn60) (e:Tn29) (t p f:Int) (s:Tn20) (q:Tn14) (c:Tn2):Option ((Tn14×Int×Int×Int×Int×ByteArray×Tn60×Tn29×Int×Int×Int×Tn20×Tn14×Tn2) ⊕ ((Tn14×Int×Int×ByteArray×Tn60×Tn29×Tn20×Tn14))):=
 cond (decide (a<o)) (
 cond (inR a (List.length c)) (
 let k:=(List.getD c (Int.toNat a) (0,0)).1
 let j:=(List.getD c (Int.toNat a) (0,0)).2
 let b:Tn14:=[(k,(j,f))]
 cond (decide (List.length q+List.length b≤j08)) (
 let g:Tn14:=(q++b)
 let i:=(w64 (a+1))
 some (.inl (l,m,n,o,i,r,d,e,t,p,f,s,g,c))) none) none) (
 some (.inr (l,m,n,r,d,e,s,q)))
def j2R [LP] (g k i j f m b c o a d l n e):=LP.lp (fun h=>j45 h.1 h.2.1 h.2.2.1 h.2.2.2.1 h.2.2.2.2.1 h.2.2.2.2.2.1 h.2.2.2.2.2.2.1 h.2.2.2.2.2.2.2.1 h.2.2.2.2.2.2.2.2.1 h.2.2.2.2.2.2.2.2.2.1 h.2.2.2.2.2.2.2.2.2.2.1 h.2.2.2.2.2.2.2.2.2.2.2.1 h.2.2.2.2.2.2.2.2.2.2.2.2.1 h.2.2.2.2.2.2.2.2.2.2.2.2.2) (g,k,i,j,f,m,b,c,o,a,d,l,n,e)
theorem jcH (g k i j f m b c o a d l n e):j2R g k i j f m b c o a d l n e=lpK (j45 g k i j f m b c o a d l n e) (fun h=>j2R h.1 h.2.1 h.2.2.1 h.2.2.2.1 h.2.2.2.2.1 h.2.2.2.2.2.1 h.2.2.2.2.2.2.1 h.2.2.2.2.2.2.2.1 h.2.2.2.2.2.2.2.2.1 h.2.2.2.2.2.2.2.2.2.1 h.2.2.2.2.2.2.2.2.2.2.1 h.2.2.2.2.2.2.2.2.2.2.2.1 h.2.2.2.2.2.2.2.2.2.2.2.2.1 h.2.2.2.2.2.2.2.2.2.2.2.2.2):=j04 _ _
def j1Y [LP] (g:Tn14) (i d:Int) (n:ByteArray) (e:Tn60) (f:Tn29) (l:Tn20) (r:Tn14):Option ((Tn14×Int×Int×ByteArray×Tn60×Tn29×Tn20×Tn14) ⊕ (Tn14)):=
 cond (decide (d<i)) (
 cond (inR d (List.length g)) (
 let a:=(List.getD g (Int.toNat d) (0,(0,0)))
 cond (decide (a.2.2<0)) (
 let t:=(w64 (d+1))
 some (.inl (g,i,t,n,e,f,l,r))) (
 let z:Tn2:=(j6K ([]:Tn2) l a.2.2)
 cond (!(j8J l a.2.2)) (
 (j4P (n,(e,f)) a.2.2).bind fun x=>
 let m:Tn20:=(j8i l a.2.2 x)
 let y:Tn2:=[(a.1,a.2.1)]
 let u:Tn2:=(j6K ([]:Tn2) m a.2.2)
 (j2v y u).bind fun j=>
 let s:=(Int.ofNat (List.length j))
 (j2R g i d s 0 n e f a.1 a.2.1 a.2.2 m r j).bind fun c=>
 let v:=(w64 (c.2.2.1+1))
 some (.inl (c.1,c.2.1,v,c.2.2.2.1,c.2.2.2.2.1,c.2.2.2.2.2.1,c.2.2.2.2.2.2.1,c.2.2.2.2.2.2.2))) (
 let p:Tn2:=[(a.1,a.2.1)]
 let o:Tn2:=(j6K ([]:Tn2) l a.2.2)
 (j2v p o).bind fun k=>
 let q:=(Int.ofNat (List.length k))
 (j2R g i d q 0 n e f a.1 a.2.1 a.2.2 l r k).bind fun b=>
 let w:=(w64 (b.2.2.1+1))
 some (.inl (b.1,b.2.1,w,b.2.2.2.1,b.2.2.2.2.1,b.2.2.2.2.2.1,b.2.2.2.2.2.2.1,b.2.2.2.2.2.2.2))))) none) (
 some (.inr r))
def j3D [LP] (c e d g a b f i):=LP.lp (fun h=>j1Y h.1 h.2.1 h.2.2.1 h.2.2.2.1 h.2.2.2.2.1 h.2.2.2.2.2.1 h.2.2.2.2.2.2.1 h.2.2.2.2.2.2.2) (c,e,d,g,a,b,f,i)
theorem jcI (c e d g a b f i):j3D c e d g a b f i=lpK (j1Y c e d g a b f i) (fun h=>j3D h.1 h.2.1 h.2.2.1 h.2.2.2.1 h.2.2.2.2.1 h.2.2.2.2.2.1 h.2.2.2.2.2.2.1 h.2.2.2.2.2.2.2):=j04 _ _
def j5q [LP] (a:Tn64) (b:Tn14):Option (Tn14):=
 let c:Tn20:=([]:Tn20)
 let d:=(Int.ofNat (List.length b))
 (j3D b d 0 a.1 a.2.1 a.2.2 c ([]:Tn14)).bind fun e=>
 some e
def j5V (a:Tn14) (d:Tn2) (b c:Int) (n:Tn14):Option ((Tn14×Tn2×Int×Int×Tn14) ⊕ (Tn14)):=
 let x:=(Int.ofNat (List.length a))
 let r:=(Int.ofNat (List.length d))
 cond (cond (decide (b<x)) (decide (c<r)) false) (
 cond (inR b (List.length a)) (
 let m:=(List.getD a (Int.toNat b) (0,(0,0)))
 cond (inR c (List.length d)) (
 let j:=(List.getD d (Int.toNat c) (0,0))
 let k:Int:=(if j.1>m.1 then j.1 else m.1:Int)
 cond (inR b (List.length a)) (
 let g:=(List.getD a (Int.toNat b) (0,(0,0)))
 cond (inR c (List.length d)) (
 let i:=(List.getD d (Int.toNat c) (0,0))
 let l:Int:=(if i.2<g.2.1 then i.2 else g.2.1:Int)
 cond (inR b (List.length a)) (
 let y:=(List.getD a (Int.toNat b) (0,(0,0)))
 cond (decide (k<l)) (
 let f:Tn14:=[(k,(l,y.2.2))]
 cond (decide (List.length n+List.length f≤j08)) (
 let e:Tn14:=(n++f)
 cond (inR b (List.length a)) (
 let q:=(List.getD a (Int.toNat b) (0,(0,0)))
 cond (inR c (List.length d)) (
 let o:=(List.getD d (Int.toNat c) (0,0))
 cond (decide (q.2.1<o.2)) (
 let p:=(w64 (b+1))
 some (.inl (a,d,p,c,e))) (
 let w:=(w64 (c+1))
 some (.inl (a,d,b,w,e)))) none) none) none) (
 cond (inR b (List.length a)) (
 let v:=(List.getD a (Int.toNat b) (0,(0,0)))
 cond (inR c (List.length d)) (
 let t:=(List.getD d (Int.toNat c) (0,0))
 cond (decide (v.2.1<t.2)) (
 let u:=(w64 (b+1))
 some (.inl (a,d,u,c,n))) (
 let s:=(w64 (c+1))
 some (.inl (a,d,b,s,n)))) none) none)) none) none) none) none) none) (
 some (.inr n))
def j3l [LP] (d b e c a):=LP.lp (fun h=>j5V h.1 h.2.1 h.2.2.1 h.2.2.2.1 h.2.2.2.2) (d,b,e,c,a)
theorem jjT (d b e c a):j3l d b e c a=lpK (j5V d b e c a) (fun h=>j3l h.1 h.2.1 h.2.2.1 h.2.2.2.1 h.2.2.2.2):=j04 _ _
def j7A [LP] (b:Tn14) (a:Tn2):Option (Tn14):=
 (j3l b a 0 0 ([]:Tn14)).bind fun c=>
 some c
def j50 (g:Tn14) (i e:Int) (f:Tn2):Option ((Tn14×Int×Int×Tn2) ⊕ (Tn2)):=
 cond (decide (e<i)) (
 cond (inR e (List.length g)) (
 let a:=(List.getD g (Int.toNat e) (0,(0,0)))
 let b:Tn2:=[(a.1,a.2.1)]
 cond (decide (List.length f+List.length b≤j08)) (
 let c:Tn2:=(f++b)
 let d:=(w64 (e+1))
 some (.inl (g,i,d,c))) none) none) (
 some (.inr f))
def j5K [LP] (c a d b):=LP.lp (fun h=>j50 h.1 h.2.1 h.2.2.1 h.2.2.2) (c,a,d,b)
theorem jeR (c a d b):j5K c a d b=lpK (j50 c a d b) (fun h=>j5K h.1 h.2.1 h.2.2.1 h.2.2.2):=j04 _ _
def j7B [LP] (a:Tn14):Option (Tn2):=
 let d:=(Int.ofNat (List.length a))
 (j5K a d 0 ([]:Tn2)).bind fun c=>
 (j68 c).bind fun b=>
 some b
def j3O (a b:Tn3):Option (Int):=
 let c:=(w64 (a.1-b.1))
 some c
def j0L (a:Tn14):Option (Tn14):=
 jrE ((.pair (.int .i64) (.pair (.int .i64) (.int .i64)))) (fun c b=>(j3O c b).getD 0) a
def j1f [LP] (o:Int) (g:Tn60) (w:Tn54) (f:Tn48) (j:Tn26) (e:Tn65) (i:Tn20) (u:ByteArray) (l:Tn60) (k:Tn29) (t v:Int) (d:Tn2) (b:Tn14):Option ((Int×Tn60×Tn54×Tn48×Tn26×Tn65×Tn20×ByteArray×Tn60×Tn29×Int×Int×Tn2×Tn14) ⊕ ((Tn2×Tn14))):=
 cond (decide (o≤0)) (
 some (.inr (d,b))) (
 cond (decide (o≤Int.ofNat (List.length g))) (
 let s:Int:=(o-1)
 let a:=(List.getD g (Int.toNat s) (ByteArray.empty,(0,((0,0),(0,(0,(([]:(List Int)),(([]:Tn2),(0,0)))))))))
 (j1S ((w,(f,(j,e))),i) (a.1,(a.2.1,((a.2.2.1.1,a.2.2.1.2),(a.2.2.2.1,(a.2.2.2.2.1,(a.2.2.2.2.2.1,(a.2.2.2.2.2.2.1,(a.2.2.2.2.2.2.2.1,a.2.2.2.2.2.2.2.2)))))))) t v).bind fun n=>
 (j5q (u,(l,k)) n).bind fun p=>
 (j7A p d).bind fun c=>
 cond (decide (List.length b+List.length c≤j08)) (
 let m:Tn14:=(b++c)
 (j7B c).bind fun r=>
 (j2v d r).bind fun q=>
 some (.inl ((o-1),g,w,f,j,e,i,u,l,k,t,v,q,m))) none) none)
def j31 [LP] (k j l e f b g o i c m n d a):=LP.lp (fun h=>j1f h.1 h.2.1 h.2.2.1 h.2.2.2.1 h.2.2.2.2.1 h.2.2.2.2.2.1 h.2.2.2.2.2.2.1 h.2.2.2.2.2.2.2.1 h.2.2.2.2.2.2.2.2.1 h.2.2.2.2.2.2.2.2.2.1 h.2.2.2.2.2.2.2.2.2.2.1 h.2.2.2.2.2.2.2.2.2.2.2.1 h.2.2.2.2.2.2.2.2.2.2.2.2.1 h.2.2.2.2.2.2.2.2.2.2.2.2.2) (k,j,l,e,f,b,g,o,i,c,m,n,d,a)
theorem jaf (k j l e f b g o i c m n d a):j31 k j l e f b g o i c m n d a=lpK (j1f k j l e f b g o i c m n d a) (fun h=>j31 h.1 h.2.1 h.2.2.1 h.2.2.2.1 h.2.2.2.2.1 h.2.2.2.2.2.1 h.2.2.2.2.2.2.1 h.2.2.2.2.2.2.2.1 h.2.2.2.2.2.2.2.2.1 h.2.2.2.2.2.2.2.2.2.1 h.2.2.2.2.2.2.2.2.2.2.1 h.2.2.2.2.2.2.2.2.2.2.2.1 h.2.2.2.2.2.2.2.2.2.2.2.2.1 h.2.2.2.2.2.2.2.2.2.2.2.2.2):=j04 _ _
def j3a (j b:Int) (d:Tn2) (a:Tn14):Option ((Int×Int×Tn2×Tn14) ⊕ (Tn14)):=
 cond (decide (b<j)) (
 cond (inR b (List.length d)) (
 let g:=(List.getD d (Int.toNat b) (0,0)).1
 let f:=(List.getD d (Int.toNat b) (0,0)).2
 let c:Tn14:=[(g,(f,(-1)))]
 cond (decide (List.length a+List.length c≤j08)) (
 let i:Tn14:=(a++c)
 let e:=(w64 (b+1))
 some (.inl (j,e,d,i))) none) none) (
 some (.inr a))
def j32 [LP] (c b d a):=LP.lp (fun h=>j3a h.1 h.2.1 h.2.2.1 h.2.2.2) (c,b,d,a)
theorem jag (c b d a):j32 c b d a=lpK (j3a c b d a) (fun h=>j32 h.1 h.2.1 h.2.2.1 h.2.2.2):=j04 _ _
def j2S [LP] (b:Tn73) (d:Tn64) (a c:Int):Option (Tn14):=
 cond (decide (a≥c)) (
 some ([]:Tn14)) (
 let g:Tn2:=[(a,c)]
 (j22 d.2.1).bind fun e=>
 (j31 (Int.ofNat (List.length e)) e b.1.1 b.1.2.1 b.1.2.2.1 b.1.2.2.2 b.2 d.1 d.2.1 d.2.2 a c g ([]:Tn14)).bind fun f=>
 let j:=(Int.ofNat (List.length f.1))
 (j32 j 0 f.1 f.2).bind fun l=>
 (j0L l).bind fun i=>
 (j7c i).bind fun k=>
 some k)
def j6P (a:Int):Option (Bool):=
 some (a != a)
def j24 (b:(List Int)) (e l f m:Int):Option (((List Int)×Int×Int×Int×Int) ⊕ (((List Int)×Int×Int×Int))):=
 cond (decide (f<m)) (
 let c:=(w64 (f+m))
 let k:Int:=(IntKind.wrap .u64 c)
 let g:Int:=(Int.fdiv k 2)
 let a:=(w64 g)
 cond (inR a (List.length b)) (
 let j:=(List.getD b (Int.toNat a) 0)
 (jb1 j e).bind fun i=>
 cond i (
 let d:=(w64 (a+1))
 some (.inl (b,e,l,d,m))) (
 some (.inl (b,e,l,f,a)))) none) (
 some (.inr (b,e,l,f)))
def j1g [LP] (c a d b e):=LP.lp (fun h=>j24 h.1 h.2.1 h.2.2.1 h.2.2.2.1 h.2.2.2.2) (c,a,d,b,e)
theorem j9y (c a d b e):j1g c a d b e=lpK (j24 c a d b e) (fun h=>j1g h.1 h.2.1 h.2.2.1 h.2.2.2.1 h.2.2.2.2):=j04 _ _
def j0i [LP] (c:(List Int)) (b:Int):Option (Int×Bool):=
 let e:=(Int.ofNat (List.length c))
 (j1g c b e 0 e).bind fun a=>
 cond ((inR a.2.2.2 (List.length a.1)) || !(decide (a.2.2.2<a.2.2.1))) (
 let d:=(List.getD a.1 (Int.toNat a.2.2.2) 0)
 cond ((inR a.2.2.2 (List.length a.1)) || !((decide (a.2.2.2<a.2.2.1))&&(!(d==a.2.1)))) (
 let f:=(List.getD a.1 (Int.toNat a.2.2.2) 0)
 cond (decide (a.2.2.2<a.2.2.1)) (
 cond (d==a.2.1) (
 some (a.2.2.2,true)) (
 (j6P f).bind fun i=>
 cond i (
 (j6P a.2.1).bind fun g=>
 some (a.2.2.2,g)) (
 some (a.2.2.2,false)))) (
 cond ((d==a.2.1) || !false) (
 some (a.2.2.2,false)) none)) none) none
def jiP (b:Tn24) (a:Int):Option (Bool):=
 some (cond (decide (b.2.2.2.1≤a)) (decide (a<b.2.2.2.2)) false)
def j6d (f e:Int) (d:Tn29) (c b:Int):Option ((Int×Int×Tn29×Int×Int) ⊕ (Int)):=
 cond (decide (b<c)) (
 cond (inR b (List.length d)) (
 let a:=(List.getD d (Int.toNat b) (0,(0,(0,(0,0)))))
 (jiP (a.1,(a.2.1,(a.2.2.1,(a.2.2.2.1,a.2.2.2.2)))) e).bind fun l=>
 cond (cond (!l) true (a.1==0)) (
 let m:=(w64 (b+1))
 some (.inl (f,e,d,c,m))) (
 cond (a.1==1) (
 let k:=(w64 (b+1))
 some (.inl (a.2.1,e,d,c,k))) (
 cond (a.1 != 2) (
 let n:=(w64 (b+1))
 some (.inl (f,e,d,c,n))) (
 cond (f==a.2.1) (
 let j:=(w64 (b+1))
 some (.inl (a.2.2.1,e,d,c,j))) (
 cond (f==a.2.2.1) (
 let i:=(w64 (b+1))
 some (.inl (a.2.1,e,d,c,i))) (
 let g:=(w64 (b+1))
 some (.inl (f,e,d,c,g)))))))) none) (
 some (.inr f))
def j7C [LP] (c d e a b):=LP.lp (fun h=>j6d h.1 h.2.1 h.2.2.1 h.2.2.2.1 h.2.2.2.2) (c,d,e,a,b)
theorem jgY (c d e a b):j7C c d e a b=lpK (j6d c d e a b) (fun h=>j7C h.1 h.2.1 h.2.2.1 h.2.2.2.1 h.2.2.2.2):=j04 _ _
def jb2 [LP] (b:Tn29) (a c:Int):Option (Int):=
 let d:=(Int.ofNat (List.length b))
 (j7C a c b d 0).bind fun e=>
 some e
def j3m (p q:Int) (g:Tn29) (n b:Int) (r:Tn54) (f:Tn48) (i:Tn26) (d:Tn65) (j:Tn20) (s:ByteArray) (k:Tn60) (e:Tn29) (o:(List Int)):Option ((Int×Int×Tn29×Int×Int×Tn54×Tn48×Tn26×Tn65×Tn20×ByteArray×Tn60×Tn29×(List Int)) ⊕ ((Int×Int×Tn54×Tn48×Tn26×Tn65×Tn20×ByteArray×Tn60×Tn29×(List Int)))):=
 cond (decide (b<n)) (
 cond (inR b (List.length g)) (
 let a:=(List.getD g (Int.toNat b) (0,(0,(0,(0,0)))))
 let c:(List Int):=[a.2.2.2.1,a.2.2.2.2]
 cond (decide (List.length o+List.length c≤j08)) (
 let m:(List Int):=(o++c)
 let l:=(w64 (b+1))
 some (.inl (p,q,g,n,l,r,f,i,d,j,s,k,e,m))) none) none) (
 some (.inr (p,q,r,f,i,d,j,s,k,e,o)))
def j3n [LP] (k l j g i m c d a e n f b o):=LP.lp (fun h=>j3m h.1 h.2.1 h.2.2.1 h.2.2.2.1 h.2.2.2.2.1 h.2.2.2.2.2.1 h.2.2.2.2.2.2.1 h.2.2.2.2.2.2.2.1 h.2.2.2.2.2.2.2.2.1 h.2.2.2.2.2.2.2.2.2.1 h.2.2.2.2.2.2.2.2.2.2.1 h.2.2.2.2.2.2.2.2.2.2.2.1 h.2.2.2.2.2.2.2.2.2.2.2.2.1 h.2.2.2.2.2.2.2.2.2.2.2.2.2) (k,l,j,g,i,m,c,d,a,e,n,f,b,o)
theorem jb3 (k l j g i m c d a e n f b o):j3n k l j g i m c d a e n f b o=lpK (j3m k l j g i m c d a e n f b o) (fun h=>j3n h.1 h.2.1 h.2.2.1 h.2.2.2.1 h.2.2.2.2.1 h.2.2.2.2.2.1 h.2.2.2.2.2.2.1 h.2.2.2.2.2.2.2.1 h.2.2.2.2.2.2.2.2.1 h.2.2.2.2.2.2.2.2.2.1 h.2.2.2.2.2.2.2.2.2.2.1 h.2.2.2.2.2.2.2.2.2.2.2.1 h.2.2.2.2.2.2.2.2.2.2.2.2.1 h.2.2.2.2.2.2.2.2.2.2.2.2.2):=j04 _ _
def j1t [LP] (j i p q:Int) (s:ByteArray) (k:Tn60) (b:Tn29) (t a d:Int) (g:(List Int)) (l r:Tn14):Option ((Int×Int×Int×Int×ByteArray×Tn60×Tn29×Int×Int×Int×(List Int)×Tn14×Tn14) ⊕ ((Int×Int×ByteArray×Tn60×Tn29×(List Int)×Tn14×Tn14))):=
 cond (decide (i<a)) (
 cond (inR j (List.length g)) (
 let f:=(List.getD g (Int.toNat j) 0)
 let e:Int:=(if f<a then f else a:Int)
 (jb2 b d i).bind fun o=>
 let c:Tn14:=[(i,(e,o))]
 cond (decide (List.length l+List.length c≤j08)) (
 let n:Tn14:=(l++c)
 let m:=(w64 (j+1))
 some (.inl (m,e,p,q,s,k,b,t,a,d,g,n,r))) none) none) (
 some (.inr (p,q,s,k,b,g,l,r)))
def j4i [LP] (g f i k n c d j b a m l e):=LP.lp (fun h=>j1t h.1 h.2.1 h.2.2.1 h.2.2.2.1 h.2.2.2.2.1 h.2.2.2.2.2.1 h.2.2.2.2.2.2.1 h.2.2.2.2.2.2.2.1 h.2.2.2.2.2.2.2.2.1 h.2.2.2.2.2.2.2.2.2.1 h.2.2.2.2.2.2.2.2.2.2.1 h.2.2.2.2.2.2.2.2.2.2.2.1 h.2.2.2.2.2.2.2.2.2.2.2.2) (g,f,i,k,n,c,d,j,b,a,m,l,e)
theorem jb4 (g f i k n c d j b a m l e):j4i g f i k n c d j b a m l e=lpK (j1t g f i k n c d j b a m l e) (fun h=>j4i h.1 h.2.1 h.2.2.1 h.2.2.2.1 h.2.2.2.2.1 h.2.2.2.2.2.1 h.2.2.2.2.2.2.1 h.2.2.2.2.2.2.2.1 h.2.2.2.2.2.2.2.2.1 h.2.2.2.2.2.2.2.2.2.1 h.2.2.2.2.2.2.2.2.2.2.1 h.2.2.2.2.2.2.2.2.2.2.2.1 h.2.2.2.2.2.2.2.2.2.2.2.2):=j04 _ _
def j1u [LP] (k b:Int) (p:ByteArray) (n:Tn60) (o:Tn29) (m:(List Int)) (l d:Tn14):Option ((Int×Int×ByteArray×Tn60×Tn29×(List Int)×Tn14×Tn14) ⊕ (Tn14)):=
 cond (decide (b<k)) (
 cond (inR b (List.length d)) (
 let c:=(List.getD d (Int.toNat b) (0,(0,0))).1
 let f:=(List.getD d (Int.toNat b) (0,(0,0))).2.1
 let g:=(List.getD d (Int.toNat b) (0,(0,0))).2.2
 let i:=(w64 (c+1))
 (j0i m i).bind fun j=>
 (j4i j.1 c k b p n o c f g m l d).bind fun a=>
 let e:=(w64 (a.2.1+1))
 some (.inl (a.1,e,a.2.2.1,a.2.2.2.1,a.2.2.2.2.1,a.2.2.2.2.2.1,a.2.2.2.2.2.2.1,a.2.2.2.2.2.2.2))) none) (
 some (.inr l))
def j3o [LP] (d e i a b g f c):=LP.lp (fun h=>j1u h.1 h.2.1 h.2.2.1 h.2.2.2.1 h.2.2.2.2.1 h.2.2.2.2.2.1 h.2.2.2.2.2.2.1 h.2.2.2.2.2.2.2) (d,e,i,a,b,g,f,c)
theorem jb5 (d e i a b g f c):j3o d e i a b g f c=lpK (j1u d e i a b g f c) (fun h=>j3o h.1 h.2.1 h.2.2.1 h.2.2.2.1 h.2.2.2.2.1 h.2.2.2.2.2.1 h.2.2.2.2.2.2.1 h.2.2.2.2.2.2.2):=j04 _ _
def j3p [LP] (b:Tn73) (c:Tn64) (d e:Int):Option (Tn14):=
 let g:=(Int.ofNat (List.length c.2.2))
 (j3n d e c.2.2 g 0 b.1.1 b.1.2.1 b.1.2.2.1 b.1.2.2.2 b.2 c.1 c.2.1 c.2.2 ([]:(List Int))).bind fun a=>
 (jcF a.2.2.2.2.2.2.2.2.2.2 a.1 a.2.1).bind fun k=>
 (j2S ((a.2.2.1,(a.2.2.2.1,(a.2.2.2.2.1,a.2.2.2.2.2.1))),a.2.2.2.2.2.2.1) (a.2.2.2.2.2.2.2.1,(a.2.2.2.2.2.2.2.2.1,a.2.2.2.2.2.2.2.2.2.1)) a.1 a.2.1).bind fun f=>
 let j:=(Int.ofNat (List.length f))
 (j3o j 0 a.2.2.2.2.2.2.2.1 a.2.2.2.2.2.2.2.2.1 a.2.2.2.2.2.2.2.2.2.1 k ([]:Tn14) f).bind fun l=>
 (j7c l).bind fun i=>
 some i
def j4C (o m n a:Int) (p:Tn54) (e:Tn48) (f:Tn26) (c:Tn65) (g:Tn20) (q:ByteArray) (i:Tn60) (d:Tn29) (b:Tn14):Option ((Int×Int×Int×Int×Tn54×Tn48×Tn26×Tn65×Tn20×ByteArray×Tn60×Tn29×Tn14) ⊕ ((Int×Bool) ⊕ (Int×Int×Tn54×Tn48×Tn26×Tn65×Tn20×ByteArray×Tn60×Tn29))):=
 cond (decide (a<n)) (
 cond (inR a (List.length b)) (
 let j:=(List.getD b (Int.toNat a) (0,(0,0))).1
 let r:=(List.getD b (Int.toNat a) (0,(0,0))).2.1
 let k:=(List.getD b (Int.toNat a) (0,(0,0))).2.2
 cond (decide (k<0)) (
 some (.inr (.inl (j,true)))) (
 let l:=(w64 (a+1))
 some (.inl (o,m,n,l,p,e,f,c,g,q,i,d,b)))) none) (
 some (.inr (.inr (o,m,p,e,f,c,g,q,i,d))))
def j3q [LP] (l g j i m c d a e n f b k):=LP.lp (fun h=>j4C h.1 h.2.1 h.2.2.1 h.2.2.2.1 h.2.2.2.2.1 h.2.2.2.2.2.1 h.2.2.2.2.2.2.1 h.2.2.2.2.2.2.2.1 h.2.2.2.2.2.2.2.2.1 h.2.2.2.2.2.2.2.2.2.1 h.2.2.2.2.2.2.2.2.2.2.1 h.2.2.2.2.2.2.2.2.2.2.2.1 h.2.2.2.2.2.2.2.2.2.2.2.2) (l,g,j,i,m,c,d,a,e,n,f,b,k)
theorem jdX (l g j i m c d a e n f b k):j3q l g j i m c d a e n f b k=lpK (j4C l g j i m c d a e n f b k) (fun h=>j3q h.1 h.2.1 h.2.2.1 h.2.2.2.1 h.2.2.2.2.1 h.2.2.2.2.2.1 h.2.2.2.2.2.2.1 h.2.2.2.2.2.2.2.1 h.2.2.2.2.2.2.2.2.1 h.2.2.2.2.2.2.2.2.2.1 h.2.2.2.2.2.2.2.2.2.2.1 h.2.2.2.2.2.2.2.2.2.2.2.1 h.2.2.2.2.2.2.2.2.2.2.2.2):=j04 _ _
def j1H [LP] (o l:Int) (q:Tn54) (g:Tn48) (i:Tn26) (e:Tn65) (j:Tn20) (r:ByteArray) (k:Tn60) (f:Tn29):Option ((Int×Int×Tn54×Tn48×Tn26×Tn65×Tn20×ByteArray×Tn60×Tn29) ⊕ ((Int×Bool) ⊕ Unit)):=
 cond (decide (o<l)) (
 let b:=(w64 (o+4320000))
 let d:Int:=(if b<l then b else l:Int)
 (j3p ((q,(g,(i,e))),j) (r,(k,f)) o d).bind fun c=>
 let m:=(Int.ofNat (List.length c))
 (j3q l d m 0 q g i e j r k f c).bind fun p=>
 sumC p (fun n=>
 some (.inr (.inl (n.1,n.2)))) (fun a=>
 some (.inl (a.2.1,a.1,a.2.2.1,a.2.2.2.1,a.2.2.2.2.1,a.2.2.2.2.2.1,a.2.2.2.2.2.2.1,a.2.2.2.2.2.2.2.1,a.2.2.2.2.2.2.2.2.1,a.2.2.2.2.2.2.2.2.2)))) (
 some (.inr (.inr ())))
def j51 [LP] (g i j c d a e k f b):=LP.lp (fun h=>j1H h.1 h.2.1 h.2.2.1 h.2.2.2.1 h.2.2.2.2.1 h.2.2.2.2.2.1 h.2.2.2.2.2.2.1 h.2.2.2.2.2.2.2.1 h.2.2.2.2.2.2.2.2.1 h.2.2.2.2.2.2.2.2.2) (g,i,j,c,d,a,e,k,f,b)
theorem j9z (g i j c d a e k f b):j51 g i j c d a e k f b=lpK (j1H g i j c d a e k f b) (fun h=>j51 h.1 h.2.1 h.2.2.1 h.2.2.2.1 h.2.2.2.2.1 h.2.2.2.2.2.1 h.2.2.2.2.2.2.1 h.2.2.2.2.2.2.2.1 h.2.2.2.2.2.2.2.2.1 h.2.2.2.2.2.2.2.2.2):=j04 _ _
def j9l [LP] (a:Tn73) (b:Tn64) (c d:Int):Option (Int×Bool):=
 (j51 c d a.1.1 a.1.2.1 a.1.2.2.1 a.1.2.2.2 a.2 b.1 b.2.1 b.2.2).bind fun e=>
 sumC e (fun f=>
 some (f.1,f.2)) (fun g=>
 some (0,false))
def j1I [LP] (d:Tn71) (a b:Int):Option (Int×Bool×Int):=
 (j6v (d.1,(d.2.1,(d.2.2.1,d.2.2.2))) a b b).bind fun c=>
 cond (c.2 != 0) (
 some (0,false,c.2)) (
 cond (inR a (List.length d.2.2.2)) (
 let e:=(List.getD d.2.2.2 (Int.toNat a) (ByteArray.empty,(([]:Tn60),([]:Tn29))))
 (j2B ((c.1.1.1,(c.1.1.2.1,(c.1.1.2.2.1,c.1.1.2.2.2))),c.1.2) (e.1,(e.2.1,e.2.2))).bind fun g=>
 let j:Int:=(if g>b then g else b:Int)
 let i:=(w64 (j+604800))
 let k:Int:=(if 8589934592<i then 8589934592 else i:Int)
 (j9l ((c.1.1.1,(c.1.1.2.1,(c.1.1.2.2.1,c.1.1.2.2.2))),c.1.2) (e.1,(e.2.1,e.2.2)) b k).bind fun f=>
 some (f.1,(!f.2),0)) none)
def j7D [LP] (b:Tn71) (a d e:Int):Option (Tn14×Int):=
 (j6v (b.1,(b.2.1,(b.2.2.1,b.2.2.2))) a d e).bind fun c=>
 cond (c.2 != 0) (
 some (([]:Tn14),c.2)) (
 cond (inR a (List.length b.2.2.2)) (
 let f:=(List.getD b.2.2.2 (Int.toNat a) (ByteArray.empty,(([]:Tn60),([]:Tn29))))
 (j3p ((c.1.1.1,(c.1.1.2.1,(c.1.1.2.2.1,c.1.1.2.2.2))),c.1.2) (f.1,(f.2.1,f.2.2)) d e).bind fun g=>
 let i:=(Int.ofNat (List.length g))
 cond (decide (i>16384)) (
 some (([]:Tn14),5)) (
 some (g,0))) none)
def jah (j:Int) (g:Tn14) (k b:Int) (d:Tn2):Option ((Int×Tn14×Int×Int×Tn2) ⊕ (Tn2)):=
 cond (decide (b<k)) (
 cond (inR b (List.length g)) (
 let a:=(List.getD g (Int.toNat b) (0,(0,0)))
 cond (a.2.2==j) (
 let c:Tn2:=[(a.1,a.2.1)]
 cond (decide (List.length d+List.length c≤j08)) (
 let f:Tn2:=(d++c)
 let e:=(w64 (b+1))
 some (.inl (j,g,k,e,f))) none) (
 let i:=(w64 (b+1))
 some (.inl (j,g,k,i,d)))) none) (
 some (.inr d))
def jay [LP] (c:Int) (e:Tn14) (d a:Int) (b:Tn2):Option (Tn2):=
 LP.lp (unc5 (jah)) (c,e,d,a,b)
def j8L [LP] (b:Tn14) (a:Int):Option (Tn2):=
 let e:=(Int.ofNat (List.length b))
 (jay a b e 0 ([]:Tn2)).bind fun d=>
 (j68 d).bind fun c=>
 some c
def jb6 [LP] (b:Tn71) (a c d f:Int):Option (Tn2×Int):=
 (j7D (b.1,(b.2.1,(b.2.2.1,b.2.2.2))) a d f).bind fun e=>
 cond (e.2 != 0) (
 some (([]:Tn2),e.2)) (
 (j8L e.1 c).bind fun g=>
 let i:=(Int.ofNat (List.length g))
 cond (decide (i>4096)) (
 some (([]:Tn2),5)) (
 some (g,0)))
def j87 [LP] (b:Tn71) (a c d:Int):Option (Tn2×Int):=
 (jb6 (b.1,(b.2.1,(b.2.2.1,b.2.2.2))) a (-1) c d).bind fun e=>
 some (e.1,e.2)
def j6Q [LP] (b:Tn71) (a c d:Int):Option (Bool):=
 (j87 (b.1,(b.2.1,(b.2.2.1,b.2.2.2))) a c d).bind fun e=>
 let f:=(Int.ofNat (List.length e.1))
 some (cond (e.2==0) (f==0) false)
def j2T [LP] (a:Tn71) (b:Int):Option (Int):=
 (jfn (a.1,(a.2.1,(a.2.2.1,a.2.2.2)))).bind fun c=>
 cond (!c.2) (
 some 0) (
 (jau (a.1,(a.2.1,(a.2.2.1,a.2.2.2))) b).bind fun e=>
 cond (!e) (
 some 0) (
 cond (inR b (List.length a.2.2.2)) (
 let d:=(List.getD a.2.2.2 (Int.toNat b) (ByteArray.empty,(([]:Tn60),([]:Tn29))))
 (j2B ((c.1.1.1,(c.1.1.2.1,(c.1.1.2.2.1,c.1.1.2.2.2))),c.1.2) (d.1,(d.2.1,d.2.2))).bind fun f=>
 some f) none))
def j88 [LP]  : Option (Bool):=
 (jl5 false).bind fun a=>
 (jl5 true).bind fun b=>
 (j1I (a.1,(a.2.1,(a.2.2.1,a.2.2.2))) 0 950400).bind fun d=>
 (j1I (b.1,(b.2.1,(b.2.2.1,b.2.2.2))) 0 950400).bind fun f=>
 (j87 (a.1,(a.2.1,(a.2.2.1,a.2.2.2))) 0 345600 950400).bind fun c=>
 let i:Bool:=(cond (cond (d.2.2==0) (f.2.2==0) false) (c.2==0) false)
 let l:=(Int.ofNat (List.length c.1))
 let g:Bool:=(cond (cond (cond (cond i (!d.2.1) false) f.2.1 false) (d.1==1382400) false) (l==1) false)
 cond ((inR 0 (List.length c.1)) || !g) (
 let m:=(List.getD c.1 0 (0,0)).1
 let e:=(List.getD c.1 0 (0,0)).2
 cond (cond g ((m==777600)&&(e==950400)) false) (
 (j6Q (b.1,(b.2.1,(b.2.2.1,b.2.2.2))) 0 345600 2592000).bind fun k=>
 cond k (
 (j2T (a.1,(a.2.1,(a.2.2.1,a.2.2.2))) 0).bind fun j=>
 some (j==345600)) (
 some false)) (
 some false)) none
def jne (a:(List Int)):Option ((List Int)×Int):=
 some (a,0)
def j06 (b:(List Int)) (a c:Int):Option (Int×(List Int)×Int):=
 let f:=(Int.ofNat (List.length b))
 cond (decide (a≥f)) (
 some (0,b,a)) (
 cond (decide (c<1)) (
 some (0,b,a)) (
 cond (inR a (List.length b)) (
 let i:=(List.getD b (Int.toNat a) 0)
 cond (!(c==0)) (
 let d:=(Int.tmod i c)
 let e:=(w64 (a+1))
 cond (decide (d<0)) (
 let g:=(w64 (d+c))
 some (g,b,e)) (
 some (d,b,e))) none) none))
def j1C (d:(List Int)) (b:Int) (a:(List Int)):Option (Int×(List Int)×Int):=
 let f:=(Int.ofNat (List.length a))
 (j06 d b f).bind fun c=>
 cond (inR c.1 (List.length a)) (
 let e:=(List.getD a (Int.toNat c.1) 0)
 some (e,c.2.1,c.2.2)) none
def j4Q (a0:(List Int)) (w:Int) (a:ByteArray):Option (Tn52×(List Int)×Int):=
 let a8:(List Int):=[0,4,(-20),22,48,(-47)]
 (j1C a0 w a8).bind fun r=>
 (j06 r.2.1 r.2.2 2).bind fun q=>
 (j06 q.2.1 q.2.2 3).bind fun s=>
 let a7:=(w64 (q.1*s.1))
 let b0:=(w64 (r.1+a7))
 let c:=(w64 (900*b0))
 (j06 s.2.1 s.2.2 2).bind fun k=>
 let g:=(w64 (2025+k.1))
 (j06 k.2.1 k.2.2 4).bind fun b=>
 cond (b.1==1) (
 let b3:=(w64 (c+3600))
 let a5:Tn42:=[(2025,(g,(3,(5,(6,(7200,b3)))))),(2025,(g,(10,(5,(6,(10800,c))))))]
 some ((a,(c,a5)),b.2.1,b.2.2)) (
 cond (b.1==2) (
 (j06 b.2.1 b.2.2 4).bind fun o=>
 let b4:=(w64 (1+o.1))
 (j06 o.2.1 o.2.2 7).bind fun i=>
 (j06 i.2.1 i.2.2 24).bind fun n=>
 let b1:=(w64 (3600*n.1))
 (j06 n.2.1 n.2.2 8).bind fun l=>
 let b6:=(w64 (1+l.1))
 let b2:=(w64 (1800*b6))
 let a9:=(w64 (c+b2))
 (j06 l.2.1 l.2.2 2).bind fun u=>
 let a6:=(w64 (2+u.1))
 let b7:(List Int):=[2,3,5]
 (j1C u.2.1 u.2.2 b7).bind fun p=>
 (j06 p.2.1 p.2.2 7).bind fun j=>
 (j06 j.2.1 j.2.2 24).bind fun m=>
 let a4:=(w64 (3600*m.1))
 let b5:Tn42:=[(2025,(g,(1,(b4,(i.1,(b1,a9)))))),(2025,(g,(a6,(p.1,(j.1,(a4,c))))))]
 some ((a,(c,b5)),m.2.1,m.2.2)) (
 cond (b.1==3) (
 let a3:(List Int):=[3600,(-3600),82800,(-82800),43200]
 (j1C b.2.1 b.2.2 a3).bind fun f=>
 let t:=(w64 (c+f.1))
 cond (cond (decide (t>64800)) true (decide (t<(-64800)))) (
 (j06 f.2.1 f.2.2 7).bind fun v=>
 (j06 v.2.1 v.2.2 48).bind fun x=>
 let a2:=(w64 (1800*x.1))
 let a1:Tn42:=[(2026,(2026,(1,(2,(v.1,(a2,0))))))]
 some ((a,(c,a1)),x.2.1,x.2.2)) (
 (j06 f.2.1 f.2.2 7).bind fun e=>
 (j06 e.2.1 e.2.2 48).bind fun d=>
 let z:=(w64 (1800*d.1))
 let y:Tn42:=[(2026,(2026,(1,(2,(e.1,(z,t))))))]
 some ((a,(c,y)),d.2.1,d.2.2))) (
 some ((a,(c,([]:Tn42))),b.2.1,b.2.2))))
def jhT  : Option ((List ByteArray)):=
 let a:(List ByteArray):=[(ByteArray.mk #[97,100,97]),(ByteArray.mk #[98,111,98]),(ByteArray.mk #[99,108,101,111]),(ByteArray.mk #[100,97,110]),(ByteArray.mk #[101,118,101]),(ByteArray.mk #[102,97,121]),(ByteArray.mk #[103,117,115]),(ByteArray.mk #[104,97,108])]
 some a
def j1j (c:(List Int)) (a b:Int):Option (Bool×(List Int)×Int):=
 (j06 c a b).bind fun d=>
 let e:=(w64 (b-1))
 some ((d.1==e),d.2.1,d.2.2)
def j2P (r p:Int) (q:(List Int)) (g:Int) (j:Tn2):Option ((Int×Int×(List Int)×Int×Tn2) ⊕ (((List Int)×Int×Tn2))):=
 cond (decide (p>0)) (
 (j06 q g 30).bind fun b=>
 let n:=(w64 (3600*b.1))
 let k:=(w64 (r+n))
 (j06 b.2.1 b.2.2 2).bind fun c=>
 let o:=(w64 (60*c.1))
 let e:=(w64 (k+o))
 let i:(List Int):=[3600,28800,43200,86400,61,1]
 (j1C c.2.1 c.2.2 i).bind fun a=>
 let d:=(w64 (e+a.1))
 cond (decide (d>604800)) (
 some (.inr (a.2.1,a.2.2,j))) (
 let f:Tn2:=[(e,d)]
 cond (decide (List.length j+List.length f≤j08)) (
 let m:Tn2:=(j++f)
 let l:=(w64 (p-1))
 some (.inl (d,l,a.2.1,a.2.2,m))) none)) (
 some (.inr (q,g,j)))
def j5W [LP] (b c e a d):=LP.lp (fun h=>j2P h.1 h.2.1 h.2.2.1 h.2.2.2.1 h.2.2.2.2) (b,c,e,a,d)
theorem j9A (b c e a d):j5W b c e a d=lpK (j2P b c e a d) (fun h=>j5W h.1 h.2.1 h.2.2.1 h.2.2.2.1 h.2.2.2.2):=j04 _ _
def j4S [LP] (b:(List Int)) (a:Int):Option (Tn2×(List Int)×Int):=
 (j06 b a 4).bind fun d=>
 (j5W 0 d.1 d.2.1 d.2.2 ([]:Tn2)).bind fun c=>
 some (c.2.2,c.1,c.2.1)
def j3r (k:Int) (l:(List Int)) (f:Int) (b:Tn54):Option ((Int×(List Int)×Int×Tn54) ⊕ (((List Int)×Int×Tn54))):=
 cond (decide (k>0)) (
 let e:(List ByteArray):=[(ByteArray.mk #[104,101,114,101]),(ByteArray.mk #[116,104,101,114,101])]
 let d:=(Int.ofNat (List.length b))
 cond (inR d (List.length e)) (
 let g:=(List.getD e (Int.toNat d) ByteArray.empty)
 (j4Q l f g).bind fun a=>
 let c:Tn54:=[(a.1.1,(a.1.2.1,a.1.2.2))]
 cond (decide (List.length b+List.length c≤j08)) (
 let i:Tn54:=(b++c)
 let j:=(w64 (k-1))
 some (.inl (j,a.2.1,a.2.2,i))) none) none) (
 some (.inr (l,f,b)))
def j7m [LP] (c d b a):=LP.lp (fun h=>j3r h.1 h.2.1 h.2.2.1 h.2.2.2) (c,d,b,a)
theorem jb7 (c d b a):j7m c d b a=lpK (j3r c d b a) (fun h=>j7m h.1 h.2.1 h.2.2.1 h.2.2.2):=j04 _ _
def j3s [LP] (a4:Int) (a5:(List Int)) (q:Int) (g:Tn54) (b:Tn48):Option ((Int×(List Int)×Int×Tn54×Tn48) ⊕ (((List Int)×Int×Tn54×Tn48))):=
 cond (decide (a4>0)) (
 (jhT).bind fun p=>
 let l:=(Int.ofNat (List.length b))
 cond (inR l (List.length p)) (
 let o:=(List.getD p (Int.toNat l) ByteArray.empty)
 let w:=(Int.ofNat (List.length g))
 (j06 a5 q w).bind fun d=>
 (j1j d.2.1 d.2.2 3).bind fun c=>
 (j1j c.2.1 c.2.2 2).bind fun a=>
 cond a.1 (
 (j4S a.2.1 a.2.2).bind fun f=>
 let t:(List Int):=[0,40,100,12]
 (j1C f.2.1 f.2.2 t).bind fun j=>
 let u:=(w64 (3600*j.1))
 let x:(List Int):=[0,11,24,1]
 (j1C j.2.1 j.2.2 x).bind fun e=>
 let r:=(w64 (3600*e.1))
 let n:Tn48:=[(o,(d.1,(f.1,(u,(r,c.1)))))]
 cond (decide (List.length b+List.length n≤j08)) (
 let z:Tn48:=(b++n)
 let v:=(w64 (a4-1))
 some (.inl (v,e.2.1,e.2.2,g,z))) none) (
 let y:(List Int):=[0,40,100,12]
 (j1C a.2.1 a.2.2 y).bind fun k=>
 let a0:=(w64 (3600*k.1))
 let a1:(List Int):=[0,11,24,1]
 (j1C k.2.1 k.2.2 a1).bind fun i=>
 let a2:=(w64 (3600*i.1))
 let m:Tn48:=[(o,(d.1,(([]:Tn2),(a0,(a2,c.1)))))]
 cond (decide (List.length b+List.length m≤j08)) (
 let a3:Tn48:=(b++m)
 let s:=(w64 (a4-1))
 some (.inl (s,i.2.1,i.2.2,g,a3))) none)) none) (
 some (.inr (a5,q,g,b)))
def j7n [LP] (d e c a b):=LP.lp (fun h=>j3s h.1 h.2.1 h.2.2.1 h.2.2.2.1 h.2.2.2.2) (d,e,c,a,b)
theorem jb8 (d e c a b):j7n d e c a b=lpK (j3s d e c a b) (fun h=>j7n h.1 h.2.1 h.2.2.1 h.2.2.2.1 h.2.2.2.2):=j04 _ _
def j3t (n o m:Int) (p:(List Int)) (j:Int) (q:ByteArray) (d:Int) (f:Tn54) (g:Tn48) (i:Tn26) (c:(List Int)):Option ((Int×Int×Int×(List Int)×Int×ByteArray×Int×Tn54×Tn48×Tn26×(List Int)) ⊕ ((Int×(List Int)×Int×ByteArray×Int×Tn54×Tn48×Tn26×(List Int)))):=
 cond (decide (o>0)) (
 (j06 p j 6).bind fun b=>
 let k:=(w64 (1+b.1))
 let a:=(w64 (m+k))
 cond (decide (List.length c+List.length [a]≤j08)) (
 let e:(List Int):=(c++[a])
 let l:=(w64 (o-1))
 some (.inl (n,l,a,b.2.1,b.2.2,q,d,f,g,i,e))) none) (
 some (.inr (n,p,j,q,d,f,g,i,c)))
def j7o [LP] (i j g k f l a c d e b):=LP.lp (fun h=>j3t h.1 h.2.1 h.2.2.1 h.2.2.2.1 h.2.2.2.2.1 h.2.2.2.2.2.1 h.2.2.2.2.2.2.1 h.2.2.2.2.2.2.2.1 h.2.2.2.2.2.2.2.2.1 h.2.2.2.2.2.2.2.2.2.1 h.2.2.2.2.2.2.2.2.2.2) (i,j,g,k,f,l,a,c,d,e,b)
theorem jb9 (i j g k f l a c d e b):j7o i j g k f l a c d e b=lpK (j3t i j g k f l a c d e b) (fun h=>j7o h.1 h.2.1 h.2.2.1 h.2.2.2.1 h.2.2.2.2.1 h.2.2.2.2.2.1 h.2.2.2.2.2.2.1 h.2.2.2.2.2.2.2.1 h.2.2.2.2.2.2.2.2.1 h.2.2.2.2.2.2.2.2.2.1 h.2.2.2.2.2.2.2.2.2.2):=j04 _ _
def j2E [LP] (m:Int) (n:(List Int)) (j:Int) (e:Tn54) (g:Tn48) (i:Tn26):Option ((Int×(List Int)×Int×Tn54×Tn48×Tn26) ⊕ (((List Int)×Int×Tn54×Tn48×Tn26))):=
 cond (decide (m>0)) (
 let l:=(Int.ofNat (List.length e))
 (j06 n j l).bind fun b=>
 (j06 b.2.1 b.2.2 4).bind fun c=>
 (j7o m c.1 20454 c.2.1 c.2.2 (ByteArray.mk #[100,97,121,115]) b.1 e g i ([]:(List Int))).bind fun a=>
 let d:Tn26:=[(a.2.2.2.1,(a.2.2.2.2.1,a.2.2.2.2.2.2.2.2))]
 cond (decide (List.length a.2.2.2.2.2.2.2.1+List.length d≤j08)) (
 let f:Tn26:=(a.2.2.2.2.2.2.2.1++d)
 let k:=(w64 (a.1-1))
 some (.inl (k,a.2.1,a.2.2.1,a.2.2.2.2.2.1,a.2.2.2.2.2.2.1,f))) none) (
 some (.inr (n,j,e,g,i)))
def j7p [LP] (e f d a b c):=LP.lp (fun h=>j2E h.1 h.2.1 h.2.2.1 h.2.2.2.1 h.2.2.2.2.1 h.2.2.2.2.2) (e,f,d,a,b,c)
theorem j7E (e f d a b c):j7p e f d a b c=lpK (j2E e f d a b c) (fun h=>j7p h.1 h.2.1 h.2.2.1 h.2.2.2.1 h.2.2.2.2.1 h.2.2.2.2.2):=j04 _ _
def j9B [LP] (g:(List Int)) (c:Int):Option (Tn71×(List Int)×Int):=
 (j06 g c 2).bind fun a=>
 let j:=(w64 (1+a.1))
 (j7m j a.2.1 a.2.2 ([]:Tn54)).bind fun i=>
 (j06 i.1 i.2.1 4).bind fun e=>
 let k:=(w64 (1+e.1))
 (j7n k e.2.1 e.2.2 i.2.2 ([]:Tn48)).bind fun f=>
 (j06 f.1 f.2.1 2).bind fun d=>
 (j7p d.1 d.2.1 d.2.2 f.2.2.1 f.2.2.2 ([]:Tn26)).bind fun b=>
 some ((b.2.2.1,(b.2.2.2.1,(b.2.2.2.2,([]:Tn65)))),b.1,b.2.1)
def j3u (a2:Int) (a0:(List Int)) (p:Int) (a1:Tn54) (c:Tn48) (n:Tn26) (d:Tn65) (y:ByteArray) (r q s f i j u:Int) (z:ByteArray) (o l g e k t m:Int) (b:(List Int)):Option ((Int×(List Int)×Int×Tn54×Tn48×Tn26×Tn65×ByteArray×Int×Int×Int×Int×Int×Int×Int×ByteArray×Int×Int×Int×Int×Int×Int×Int×(List Int)) ⊕ (((List Int)×Int×Tn54×Tn48×Tn26×Tn65×ByteArray×Int×Int×Int×Int×Int×Int×Int×ByteArray×Int×Int×Int×Int×Int×Int×Int×(List Int)))):=
 cond (decide (a2>0)) (
 let w:=(Int.ofNat (List.length c))
 (j06 a0 p w).bind fun a=>
 cond (decide (List.length b+List.length [a.1]≤j08)) (
 let v:(List Int):=(b++[a.1])
 let x:=(w64 (a2-1))
 some (.inl (x,a.2.1,a.2.2,a1,c,n,d,y,r,q,s,f,i,j,u,z,o,l,g,e,k,t,m,v))) none) (
 some (.inr (a0,p,a1,c,n,d,y,r,q,s,f,i,j,u,z,o,l,g,e,k,t,m,b)))
def j5r [LP] (y w o x e m a u q p r d g i t v n k f b j s l c):=LP.lp (fun h=>j3u h.1 h.2.1 h.2.2.1 h.2.2.2.1 h.2.2.2.2.1 h.2.2.2.2.2.1 h.2.2.2.2.2.2.1 h.2.2.2.2.2.2.2.1 h.2.2.2.2.2.2.2.2.1 h.2.2.2.2.2.2.2.2.2.1 h.2.2.2.2.2.2.2.2.2.2.1 h.2.2.2.2.2.2.2.2.2.2.2.1 h.2.2.2.2.2.2.2.2.2.2.2.2.1 h.2.2.2.2.2.2.2.2.2.2.2.2.2.1 h.2.2.2.2.2.2.2.2.2.2.2.2.2.2.1 h.2.2.2.2.2.2.2.2.2.2.2.2.2.2.2.1 h.2.2.2.2.2.2.2.2.2.2.2.2.2.2.2.2.1 h.2.2.2.2.2.2.2.2.2.2.2.2.2.2.2.2.2.1 h.2.2.2.2.2.2.2.2.2.2.2.2.2.2.2.2.2.2.1 h.2.2.2.2.2.2.2.2.2.2.2.2.2.2.2.2.2.2.2.1 h.2.2.2.2.2.2.2.2.2.2.2.2.2.2.2.2.2.2.2.2.1 h.2.2.2.2.2.2.2.2.2.2.2.2.2.2.2.2.2.2.2.2.2.1 h.2.2.2.2.2.2.2.2.2.2.2.2.2.2.2.2.2.2.2.2.2.2.1 h.2.2.2.2.2.2.2.2.2.2.2.2.2.2.2.2.2.2.2.2.2.2.2) (y,w,o,x,e,m,a,u,q,p,r,d,g,i,t,v,n,k,f,b,j,s,l,c)
theorem jba (y w o x e m a u q p r d g i t v n k f b j s l c):j5r y w o x e m a u q p r d g i t v n k f b j s l c=lpK (j3u y w o x e m a u q p r d g i t v n k f b j s l c) (fun h=>j5r h.1 h.2.1 h.2.2.1 h.2.2.2.1 h.2.2.2.2.1 h.2.2.2.2.2.1 h.2.2.2.2.2.2.1 h.2.2.2.2.2.2.2.1 h.2.2.2.2.2.2.2.2.1 h.2.2.2.2.2.2.2.2.2.1 h.2.2.2.2.2.2.2.2.2.2.1 h.2.2.2.2.2.2.2.2.2.2.2.1 h.2.2.2.2.2.2.2.2.2.2.2.2.1 h.2.2.2.2.2.2.2.2.2.2.2.2.2.1 h.2.2.2.2.2.2.2.2.2.2.2.2.2.2.1 h.2.2.2.2.2.2.2.2.2.2.2.2.2.2.2.1 h.2.2.2.2.2.2.2.2.2.2.2.2.2.2.2.2.1 h.2.2.2.2.2.2.2.2.2.2.2.2.2.2.2.2.2.1 h.2.2.2.2.2.2.2.2.2.2.2.2.2.2.2.2.2.2.1 h.2.2.2.2.2.2.2.2.2.2.2.2.2.2.2.2.2.2.2.1 h.2.2.2.2.2.2.2.2.2.2.2.2.2.2.2.2.2.2.2.2.1 h.2.2.2.2.2.2.2.2.2.2.2.2.2.2.2.2.2.2.2.2.2.1 h.2.2.2.2.2.2.2.2.2.2.2.2.2.2.2.2.2.2.2.2.2.2.1 h.2.2.2.2.2.2.2.2.2.2.2.2.2.2.2.2.2.2.2.2.2.2.2):=j04 _ _
def j9C [LP] (b5:(List Int)) (a2:Int) (c:Tn71) (j:ByteArray):Option (Tn59×(List Int)×Int):=
 let b6:=(Int.ofNat (List.length c.1))
 (j06 b5 a2 b6).bind fun v=>
 (j06 v.2.1 v.2.2 6).bind fun z=>
 let c1:=(w64 (20454+z.1))
 let b4:=(w64 (c1-2))
 let b9:(List Int):=[0,32400,7200,9000,79200,1]
 (j1C z.2.1 z.2.2 b9).bind fun w=>
 (j06 w.2.1 w.2.2 3).bind fun s=>
 (j06 s.2.1 s.2.2 2).bind fun t=>
 let c2:=(w64 (1+t.1))
 cond (s.1==0) (
 let c3:(List Int):=[6,8,12,24,23,49]
 (j1C t.2.1 t.2.2 c3).bind fun y=>
 (j06 y.2.1 y.2.2 3).bind fun a0=>
 let b8:=(w64 (1+a0.1))
 (j5r b8 a0.2.1 a0.2.2 c.1 c.2.1 c.2.2.1 c.2.2.2 ByteArray.empty 0 0 0 0 0 0 0 j v.1 b4 w.1 s.1 y.1 0 0 ([]:(List Int))).bind fun b=>
 (j1j b.1 b.2.1 2).bind fun r=>
 cond r.1 (
 (j4S r.2.1 r.2.2).bind fun x=>
 (j1j x.2.1 x.2.2 4).bind fun u=>
 let b7:=(Int.ofNat (List.length b.2.2.2.2.1))
 cond (cond u.1 (decide (b7>0)) false) (
 let c4:=(Int.ofNat (List.length b.2.2.2.2.1))
 (j06 u.2.1 u.2.2 c4).bind fun a1=>
 (j06 a1.2.1 a1.2.2 2).bind fun a3=>
 let c0:=(w64 (1+a3.1))
 some ((b.2.2.2.2.2.2.2.2.2.2.2.2.2.2.1,(b.2.2.2.2.2.2.2.2.2.2.2.2.2.2.2.1,((b.2.2.2.2.2.2.2.2.2.2.2.2.2.2.2.2.1,b.2.2.2.2.2.2.2.2.2.2.2.2.2.2.2.2.2.1),(b.2.2.2.2.2.2.2.2.2.2.2.2.2.2.2.2.2.2.1,(b.2.2.2.2.2.2.2.2.2.2.2.2.2.2.2.2.2.2.2.1,(b.2.2.2.2.2.2.2.2.2.2.2.2.2.2.2.2.2.2.2.2.2.2,(x.1,(a1.1,c0)))))))),a3.2.1,a3.2.2)) (
 some ((b.2.2.2.2.2.2.2.2.2.2.2.2.2.2.1,(b.2.2.2.2.2.2.2.2.2.2.2.2.2.2.2.1,((b.2.2.2.2.2.2.2.2.2.2.2.2.2.2.2.2.1,b.2.2.2.2.2.2.2.2.2.2.2.2.2.2.2.2.2.1),(b.2.2.2.2.2.2.2.2.2.2.2.2.2.2.2.2.2.2.1,(b.2.2.2.2.2.2.2.2.2.2.2.2.2.2.2.2.2.2.2.1,(b.2.2.2.2.2.2.2.2.2.2.2.2.2.2.2.2.2.2.2.2.2.2,(x.1,(b.2.2.2.2.2.2.2.2.2.2.2.2.2.2.2.2.2.2.2.2.1,b.2.2.2.2.2.2.2.2.2.2.2.2.2.2.2.2.2.2.2.2.2.1)))))))),u.2.1,u.2.2))) (
 (j1j r.2.1 r.2.2 4).bind fun e=>
 let a6:=(Int.ofNat (List.length b.2.2.2.2.1))
 cond (cond e.1 (decide (a6>0)) false) (
 let b3:=(Int.ofNat (List.length b.2.2.2.2.1))
 (j06 e.2.1 e.2.2 b3).bind fun k=>
 (j06 k.2.1 k.2.2 2).bind fun m=>
 let a7:=(w64 (1+m.1))
 some ((b.2.2.2.2.2.2.2.2.2.2.2.2.2.2.1,(b.2.2.2.2.2.2.2.2.2.2.2.2.2.2.2.1,((b.2.2.2.2.2.2.2.2.2.2.2.2.2.2.2.2.1,b.2.2.2.2.2.2.2.2.2.2.2.2.2.2.2.2.2.1),(b.2.2.2.2.2.2.2.2.2.2.2.2.2.2.2.2.2.2.1,(b.2.2.2.2.2.2.2.2.2.2.2.2.2.2.2.2.2.2.2.1,(b.2.2.2.2.2.2.2.2.2.2.2.2.2.2.2.2.2.2.2.2.2.2,(([]:Tn2),(k.1,a7)))))))),m.2.1,m.2.2)) (
 some ((b.2.2.2.2.2.2.2.2.2.2.2.2.2.2.1,(b.2.2.2.2.2.2.2.2.2.2.2.2.2.2.2.1,((b.2.2.2.2.2.2.2.2.2.2.2.2.2.2.2.2.1,b.2.2.2.2.2.2.2.2.2.2.2.2.2.2.2.2.2.1),(b.2.2.2.2.2.2.2.2.2.2.2.2.2.2.2.2.2.2.1,(b.2.2.2.2.2.2.2.2.2.2.2.2.2.2.2.2.2.2.2.1,(b.2.2.2.2.2.2.2.2.2.2.2.2.2.2.2.2.2.2.2.2.2.2,(([]:Tn2),(b.2.2.2.2.2.2.2.2.2.2.2.2.2.2.2.2.2.2.2.2.1,b.2.2.2.2.2.2.2.2.2.2.2.2.2.2.2.2.2.2.2.2.2.1)))))))),e.2.1,e.2.2)))) (
 (j06 t.2.1 t.2.2 3).bind fun p=>
 let a4:=(w64 (1+p.1))
 (j5r a4 p.2.1 p.2.2 c.1 c.2.1 c.2.2.1 c.2.2.2 ByteArray.empty 0 0 0 0 0 0 0 j v.1 b4 w.1 s.1 c2 0 0 ([]:(List Int))).bind fun a=>
 (j1j a.1 a.2.1 2).bind fun g=>
 cond g.1 (
 (j4S g.2.1 g.2.2).bind fun i=>
 (j1j i.2.1 i.2.2 4).bind fun f=>
 let a9:=(Int.ofNat (List.length a.2.2.2.2.1))
 cond (cond f.1 (decide (a9>0)) false) (
 let b1:=(Int.ofNat (List.length a.2.2.2.2.1))
 (j06 f.2.1 f.2.2 b1).bind fun n=>
 (j06 n.2.1 n.2.2 2).bind fun l=>
 let a8:=(w64 (1+l.1))
 some ((a.2.2.2.2.2.2.2.2.2.2.2.2.2.2.1,(a.2.2.2.2.2.2.2.2.2.2.2.2.2.2.2.1,((a.2.2.2.2.2.2.2.2.2.2.2.2.2.2.2.2.1,a.2.2.2.2.2.2.2.2.2.2.2.2.2.2.2.2.2.1),(a.2.2.2.2.2.2.2.2.2.2.2.2.2.2.2.2.2.2.1,(a.2.2.2.2.2.2.2.2.2.2.2.2.2.2.2.2.2.2.2.1,(a.2.2.2.2.2.2.2.2.2.2.2.2.2.2.2.2.2.2.2.2.2.2,(i.1,(n.1,a8)))))))),l.2.1,l.2.2)) (
 some ((a.2.2.2.2.2.2.2.2.2.2.2.2.2.2.1,(a.2.2.2.2.2.2.2.2.2.2.2.2.2.2.2.1,((a.2.2.2.2.2.2.2.2.2.2.2.2.2.2.2.2.1,a.2.2.2.2.2.2.2.2.2.2.2.2.2.2.2.2.2.1),(a.2.2.2.2.2.2.2.2.2.2.2.2.2.2.2.2.2.2.1,(a.2.2.2.2.2.2.2.2.2.2.2.2.2.2.2.2.2.2.2.1,(a.2.2.2.2.2.2.2.2.2.2.2.2.2.2.2.2.2.2.2.2.2.2,(i.1,(a.2.2.2.2.2.2.2.2.2.2.2.2.2.2.2.2.2.2.2.2.1,a.2.2.2.2.2.2.2.2.2.2.2.2.2.2.2.2.2.2.2.2.2.1)))))))),f.2.1,f.2.2))) (
 (j1j g.2.1 g.2.2 4).bind fun d=>
 let b0:=(Int.ofNat (List.length a.2.2.2.2.1))
 cond (cond d.1 (decide (b0>0)) false) (
 let a5:=(Int.ofNat (List.length a.2.2.2.2.1))
 (j06 d.2.1 d.2.2 a5).bind fun o=>
 (j06 o.2.1 o.2.2 2).bind fun q=>
 let b2:=(w64 (1+q.1))
 some ((a.2.2.2.2.2.2.2.2.2.2.2.2.2.2.1,(a.2.2.2.2.2.2.2.2.2.2.2.2.2.2.2.1,((a.2.2.2.2.2.2.2.2.2.2.2.2.2.2.2.2.1,a.2.2.2.2.2.2.2.2.2.2.2.2.2.2.2.2.2.1),(a.2.2.2.2.2.2.2.2.2.2.2.2.2.2.2.2.2.2.1,(a.2.2.2.2.2.2.2.2.2.2.2.2.2.2.2.2.2.2.2.1,(a.2.2.2.2.2.2.2.2.2.2.2.2.2.2.2.2.2.2.2.2.2.2,(([]:Tn2),(o.1,b2)))))))),q.2.1,q.2.2)) (
 some ((a.2.2.2.2.2.2.2.2.2.2.2.2.2.2.1,(a.2.2.2.2.2.2.2.2.2.2.2.2.2.2.2.1,((a.2.2.2.2.2.2.2.2.2.2.2.2.2.2.2.2.1,a.2.2.2.2.2.2.2.2.2.2.2.2.2.2.2.2.2.1),(a.2.2.2.2.2.2.2.2.2.2.2.2.2.2.2.2.2.2.1,(a.2.2.2.2.2.2.2.2.2.2.2.2.2.2.2.2.2.2.2.1,(a.2.2.2.2.2.2.2.2.2.2.2.2.2.2.2.2.2.2.2.2.2.2,(([]:Tn2),(a.2.2.2.2.2.2.2.2.2.2.2.2.2.2.2.2.2.2.2.2.1,a.2.2.2.2.2.2.2.2.2.2.2.2.2.2.2.2.2.2.2.2.2.1)))))))),d.2.1,d.2.2))))
def j6e (d:(List Int)) (a:Int):Option (Int×(List Int)×Int):=
 (j06 d a 576).bind fun e=>
 let j:=(w64 (3600*e.1))
 let i:=(w64 (1767139200+j))
 (j1j e.2.1 e.2.2 3).bind fun b=>
 cond b.1 (
 let f:(List Int):=[(-1),1,1800,3599]
 (j1C b.2.1 b.2.2 f).bind fun c=>
 let g:=(w64 (i+c.1))
 some (g,c.2.1,c.2.2)) (
 some (i,b.2.1,b.2.2))
def jaR (m:(List Int)) (j:Int) (n:Tn71):Option (Tn24×(List Int)×Int):=
 let l:=(Int.ofNat (List.length n.2.1))
 (j06 m j 3).bind fun a=>
 (j06 a.2.1 a.2.2 l).bind fun e=>
 (j6e e.2.1 e.2.2).bind fun b=>
 let o:(List Int):=[3600,86400,7,259200,40000]
 (j1C b.2.1 b.2.2 o).bind fun d=>
 let f:=(w64 (b.1+d.1))
 cond (a.1==2) (
 cond (decide (l<2)) (
 some ((0,(e.1,(0,(b.1,f)))),d.2.1,d.2.2)) (
 let q:=(w64 (e.1+1))
 let r:=(w64 (l-1))
 (j06 d.2.1 d.2.2 r).bind fun i=>
 let p:=(w64 (q+i.1))
 cond (!(l==0)) (
 let k:=(Int.tmod p l)
 cond (a.1==1) (
 (j1j i.2.1 i.2.2 4).bind fun g=>
 cond g.1 (
 some ((a.1,((-1),(k,(b.1,f)))),g.2.1,g.2.2)) (
 some ((a.1,(e.1,(k,(b.1,f)))),g.2.1,g.2.2))) (
 some ((a.1,(e.1,(k,(b.1,f)))),i.2.1,i.2.2))) none)) (
 cond (a.1==1) (
 (j1j d.2.1 d.2.2 4).bind fun c=>
 cond c.1 (
 some ((a.1,((-1),(0,(b.1,f)))),c.2.1,c.2.2)) (
 some ((a.1,(e.1,(0,(b.1,f)))),c.2.1,c.2.2))) (
 some ((a.1,(e.1,(0,(b.1,f)))),d.2.1,d.2.2)))
def j3b [LP] (p q:Int) (r:(List Int)) (j:Int) (n:Tn54) (e:Tn48) (c:Tn26) (o:ByteArray) (d:Tn65) (b:Tn60):Option ((Int×Int×(List Int)×Int×Tn54×Tn48×Tn26×ByteArray×Tn65×Tn60) ⊕ ((Int×(List Int)×Int×Tn54×Tn48×Tn26×ByteArray×Tn65×Tn60))):=
 cond (decide (q>0)) (
 (jhT).bind fun g=>
 let i:=(Int.ofNat (List.length b))
 cond (inR i (List.length g)) (
 let l:=(List.getD g (Int.toNat i) ByteArray.empty)
 (j9C r j (n,(e,(c,d))) l).bind fun a=>
 let f:Tn60:=[(a.1.1,(a.1.2.1,((a.1.2.2.1.1,a.1.2.2.1.2),(a.1.2.2.2.1,(a.1.2.2.2.2.1,(a.1.2.2.2.2.2.1,(a.1.2.2.2.2.2.2.1,(a.1.2.2.2.2.2.2.2.1,a.1.2.2.2.2.2.2.2.2))))))))]
 cond (decide (List.length b+List.length f≤j08)) (
 let m:Tn60:=(b++f)
 let k:=(w64 (q-1))
 some (.inl (p,k,a.2.1,a.2.2,n,e,c,o,d,m))) none) none) (
 some (.inr (p,r,j,n,e,c,o,d,b)))
def j52 [LP] (g i k e j d a f b c):=LP.lp (fun h=>j3b h.1 h.2.1 h.2.2.1 h.2.2.2.1 h.2.2.2.2.1 h.2.2.2.2.2.1 h.2.2.2.2.2.2.1 h.2.2.2.2.2.2.2.1 h.2.2.2.2.2.2.2.2.1 h.2.2.2.2.2.2.2.2.2) (g,i,k,e,j,d,a,f,b,c)
theorem jai (g i k e j d a f b c):j52 g i k e j d a f b c=lpK (j3b g i k e j d a f b c) (fun h=>j52 h.1 h.2.1 h.2.2.1 h.2.2.2.1 h.2.2.2.2.1 h.2.2.2.2.2.1 h.2.2.2.2.2.2.1 h.2.2.2.2.2.2.2.1 h.2.2.2.2.2.2.2.2.1 h.2.2.2.2.2.2.2.2.2):=j04 _ _
def j3c (o m:Int) (p:(List Int)) (i:Int) (l:Tn54) (e:Tn48) (b:Tn26) (n:ByteArray) (c:Tn65) (g:Tn60) (d:Tn29):Option ((Int×Int×(List Int)×Int×Tn54×Tn48×Tn26×ByteArray×Tn65×Tn60×Tn29) ⊕ ((Int×(List Int)×Int×Tn54×Tn48×Tn26×ByteArray×Tn65×Tn60×Tn29))):=
 cond (decide (m>0)) (
 (jaR p i (l,(e,(b,c)))).bind fun a=>
 let f:Tn29:=[(a.1.1,(a.1.2.1,(a.1.2.2.1,(a.1.2.2.2.1,a.1.2.2.2.2))))]
 cond (decide (List.length d+List.length f≤j08)) (
 let k:Tn29:=(d++f)
 let j:=(w64 (m-1))
 some (.inl (o,j,a.2.1,a.2.2,l,e,b,n,c,g,k))) none) (
 some (.inr (o,p,i,l,e,b,n,c,g,d)))
def j6y [LP] (j g l f k e a i b c d):=LP.lp (fun h=>j3c h.1 h.2.1 h.2.2.1 h.2.2.2.1 h.2.2.2.2.1 h.2.2.2.2.2.1 h.2.2.2.2.2.2.1 h.2.2.2.2.2.2.2.1 h.2.2.2.2.2.2.2.2.1 h.2.2.2.2.2.2.2.2.2.1 h.2.2.2.2.2.2.2.2.2.2) (j,g,l,f,k,e,a,i,b,c,d)
theorem jaj (j g l f k e a i b c d):j6y j g l f k e a i b c d=lpK (j3c j g l f k e a i b c d) (fun h=>j6y h.1 h.2.1 h.2.2.1 h.2.2.2.1 h.2.2.2.2.1 h.2.2.2.2.2.1 h.2.2.2.2.2.2.1 h.2.2.2.2.2.2.2.1 h.2.2.2.2.2.2.2.2.1 h.2.2.2.2.2.2.2.2.2.1 h.2.2.2.2.2.2.2.2.2.2):=j04 _ _
def j3d [LP] (q:Int) (s:(List Int)) (l:Int) (r:Tn54) (k:Tn48) (j:Tn26) (e:Tn65):Option ((Int×(List Int)×Int×Tn54×Tn48×Tn26×Tn65) ⊕ (((List Int)×Int×Tn54×Tn48×Tn26×Tn65))):=
 cond (decide (q>0)) (
 let f:(List ByteArray):=[(ByteArray.mk #[102,105,114,115,116]),(ByteArray.mk #[115,101,99,111,110,100]),(ByteArray.mk #[116,104,105,114,100])]
 let o:=(Int.ofNat (List.length e))
 let i:=(Int.tmod o 3)
 cond (inR i (List.length f)) (
 let n:=(List.getD f (Int.toNat i) ByteArray.empty)
 (j06 s l 4).bind fun c=>
 (j52 q c.1 c.2.1 c.2.2 r k j n e ([]:Tn60)).bind fun b=>
 (j06 b.2.1 b.2.2.1 4).bind fun d=>
 (j6y b.1 d.1 d.2.1 d.2.2 b.2.2.2.1 b.2.2.2.2.1 b.2.2.2.2.2.1 b.2.2.2.2.2.2.1 b.2.2.2.2.2.2.2.1 b.2.2.2.2.2.2.2.2 ([]:Tn29)).bind fun a=>
 let g:Tn65:=[(a.2.2.2.2.2.2.1,(a.2.2.2.2.2.2.2.2.1,a.2.2.2.2.2.2.2.2.2))]
 cond (decide (List.length a.2.2.2.2.2.2.2.1+List.length g≤j08)) (
 let m:Tn65:=(a.2.2.2.2.2.2.2.1++g)
 let p:=(w64 (a.1-1))
 some (.inl (p,a.2.1,a.2.2.1,a.2.2.2.1,a.2.2.2.2.1,a.2.2.2.2.2.1,m))) none) none) (
 some (.inr (s,l,r,k,j,e)))
def j6z [LP] (e g d f c a b):=LP.lp (fun h=>j3d h.1 h.2.1 h.2.2.1 h.2.2.2.1 h.2.2.2.2.1 h.2.2.2.2.2.1 h.2.2.2.2.2.2) (e,g,d,f,c,a,b)
theorem jak (e g d f c a b):j6z e g d f c a b=lpK (j3d e g d f c a b) (fun h=>j6z h.1 h.2.1 h.2.2.1 h.2.2.2.1 h.2.2.2.2.1 h.2.2.2.2.2.1 h.2.2.2.2.2.2):=j04 _ _
def j8Y [LP] (e:(List Int)) (d f:Int):Option (Tn71×(List Int)×Int):=
 (j9B e d).bind fun a=>
 (j06 a.2.1 a.2.2 f).bind fun c=>
 let g:=(w64 (1+c.1))
 (j6z g c.2.1 c.2.2 a.1.1 a.1.2.1 a.1.2.2.1 ([]:Tn65)).bind fun b=>
 some ((b.2.2.1,(b.2.2.2.1,(b.2.2.2.2.1,b.2.2.2.2.2))),b.1,b.2.1)
def jc9 (b a:Int):Option (Int):=
 cond (!(a==0)) (
 let d:=(Int.tmod b a)
 let e:=(w64 (d+a))
 cond (!(a==0)) (
 let c:=(Int.tmod e a)
 some c) none) none
def jnf (a:Int):Option (Bool):=
 some (cond (decide (a≥48)) (decide (a≤57)) false)
def j6R (b:ByteArray) (a:Int):Option ((ByteArray×Int) ⊕ (Bool ⊕ Unit)):=
 let l:=(Int.ofNat (ByteArray.size b))
 cond (decide (a<l)) (
 cond (inR a (ByteArray.size b)) (
 let d:=(j2Q b a)
 cond ((inR a (ByteArray.size b)) || !(!(decide (d<97)))) (
 let f:=(j2Q b a)
 cond ((inR a (ByteArray.size b)) || !(cond (decide (d<97)) true (decide (f>122)))) (
 let g:=(j2Q b a)
 cond (cond (decide (d<97)) true (decide (f>122))) (
 (jnf g).bind fun c=>
 cond ((inR a (ByteArray.size b)) || !(!c)) (
 let e:=(j2Q b a)
 cond ((inR a (ByteArray.size b)) || !(cond (!c) (e != 95) false)) (
 let j:=(j2Q b a)
 cond (cond (cond (!c) (e != 95) false) (j != 45) false) (
 some (.inr (.inl false))) (
 let i:=(w64 (a+1))
 some (.inl (b,i)))) none) none) (
 cond ((inR a (ByteArray.size b)) || !false) (
 let n:=(j2Q b a)
 cond ((inR a (ByteArray.size b)) || !false) (
 let m:=(j2Q b a)
 let k:=(w64 (a+1))
 some (.inl (b,k))) none) none)) none) none) none) (
 some (.inr (.inr ())))
def jaz [LP] (a b):=LP.lp (fun h=>j6R h.1 h.2) (a,b)
theorem jil (a b):jaz a b=lpK (j6R a b) (fun h=>jaz h.1 h.2):=j04 _ _
def jmy [LP] (a:ByteArray):Option (Bool):=
 let d:=(Int.ofNat (ByteArray.size a))
 let f:=(Int.ofNat (ByteArray.size a))
 cond ((inR 0 (ByteArray.size a)) || !(!(cond (decide (d<1)) true (decide (f>24))))) (
 let e:=(j2Q a 0)
 let b:Bool:=(cond (cond (decide (d<1)) true (decide (f>24))) true (decide (e<97)))
 cond ((inR 0 (ByteArray.size a)) || !(!b)) (
 let c:=(j2Q a 0)
 cond (cond b true (decide (c>122))) (
 some false) (
 (jaz a 0).bind fun g=>
 sumC g (fun i=>
 some i) (fun j=>
 some true))) none) none
def j6S (a:(List ByteArray)) (c e:Int):Option (((List ByteArray)×Int×Int) ⊕ (Int ⊕ Unit)):=
 cond (decide (e<c)) (
 cond (inR e (List.length a)) (
 let b:=(List.getD a (Int.toNat e) ByteArray.empty)
 cond (inR c (List.length a)) (
 let f:=(List.getD a (Int.toNat c) ByteArray.empty)
 cond (ByteArray.toList b==ByteArray.toList f) (
 some (.inr (.inl 4))) (
 let d:=(w64 (e+1))
 some (.inl (a,c,d)))) none) none) (
 some (.inr (.inr ())))
def jcJ [LP] (c b a):=LP.lp (fun h=>j6S h.1 h.2.1 h.2.2) (c,b,a)
theorem jim (c b a):jcJ c b a=lpK (j6S c b a) (fun h=>jcJ h.1 h.2.1 h.2.2):=j04 _ _
def jca [LP] (a:(List ByteArray)) (b:Int):Option (Int):=
 cond (inR b (List.length a)) (
 let d:=(List.getD a (Int.toNat b) ByteArray.empty)
 (jmy d).bind fun c=>
 cond (!c) (
 some 2) (
 (jcJ a b 0).bind fun e=>
 sumC e (fun f=>
 some f) (fun g=>
 some 0))) none
def jal (a b c:Int):Option (Bool):=
 some (cond (decide (a≥b)) (decide (a≤c)) false)
def jgZ (a:Tn38):Option (Bool):=
 (jal a.1 1970 2240).bind fun i=>
 cond i (
 (jal a.2.1 a.1 2240).bind fun g=>
 cond g (
 (jal a.2.2.1 1 12).bind fun c=>
 cond c (
 (jal a.2.2.2.1 1 5).bind fun b=>
 cond b (
 (jal a.2.2.2.2.1 0 6).bind fun f=>
 cond f (
 (jal a.2.2.2.2.2.1 0 86399).bind fun e=>
 cond e (
 (jal a.2.2.2.2.2.2 (-64800) 64800).bind fun d=>
 some d) (
 some false)) (
 some false)) (
 some false)) (
 some false)) (
 some false)) (
 some false)
def j25 (a:Int):Option (Bool):=
 let c:=(Int.tmod a 4)
 let d:=(Int.tmod a 100)
 let b:=(Int.tmod a 400)
 some (cond (c==0) (cond (d != 0) true (b==0)) false)
def jfp (b a:Int):Option (Int):=
 cond (a==1) (
 cond (a==1) (
 some 31) (
 cond (a==4) (
 cond (a==4) (
 some 30) (
 cond (a==2) (
 (j25 b).bind fun a4=>
 cond a4 (
 some 29) (
 some 28)) (
 some 0))) (
 cond (a==6) (
 cond (a==6) (
 some 30) (
 cond (a==2) (
 (j25 b).bind fun x=>
 cond x (
 some 29) (
 some 28)) (
 some 0))) (
 cond (a==9) (
 cond (a==9) (
 some 30) (
 cond (a==2) (
 (j25 b).bind fun a1=>
 cond a1 (
 some 29) (
 some 28)) (
 some 0))) (
 cond (a==11) (
 some 30) (
 cond (a==2) (
 (j25 b).bind fun w=>
 cond w (
 some 29) (
 some 28)) (
 some 0))))))) (
 cond (a==3) (
 cond (a==3) (
 some 31) (
 cond (a==4) (
 cond (a==4) (
 some 30) (
 cond (a==2) (
 (j25 b).bind fun y=>
 cond y (
 some 29) (
 some 28)) (
 some 0))) (
 cond (a==6) (
 cond (a==6) (
 some 30) (
 cond (a==2) (
 (j25 b).bind fun v=>
 cond v (
 some 29) (
 some 28)) (
 some 0))) (
 cond (a==9) (
 cond (a==9) (
 some 30) (
 cond (a==2) (
 (j25 b).bind fun a2=>
 cond a2 (
 some 29) (
 some 28)) (
 some 0))) (
 cond (a==11) (
 some 30) (
 cond (a==2) (
 (j25 b).bind fun z=>
 cond z (
 some 29) (
 some 28)) (
 some 0))))))) (
 cond (a==5) (
 cond (a==5) (
 some 31) (
 cond (a==4) (
 cond (a==4) (
 some 30) (
 cond (a==2) (
 (j25 b).bind fun a0=>
 cond a0 (
 some 29) (
 some 28)) (
 some 0))) (
 cond (a==6) (
 cond (a==6) (
 some 30) (
 cond (a==2) (
 (j25 b).bind fun a3=>
 cond a3 (
 some 29) (
 some 28)) (
 some 0))) (
 cond (a==9) (
 cond (a==9) (
 some 30) (
 cond (a==2) (
 (j25 b).bind fun e=>
 cond e (
 some 29) (
 some 28)) (
 some 0))) (
 cond (a==11) (
 some 30) (
 cond (a==2) (
 (j25 b).bind fun s=>
 cond s (
 some 29) (
 some 28)) (
 some 0))))))) (
 cond (a==7) (
 cond (a==7) (
 some 31) (
 cond (a==4) (
 cond (a==4) (
 some 30) (
 cond (a==2) (
 (j25 b).bind fun j=>
 cond j (
 some 29) (
 some 28)) (
 some 0))) (
 cond (a==6) (
 cond (a==6) (
 some 30) (
 cond (a==2) (
 (j25 b).bind fun k=>
 cond k (
 some 29) (
 some 28)) (
 some 0))) (
 cond (a==9) (
 cond (a==9) (
 some 30) (
 cond (a==2) (
 (j25 b).bind fun g=>
 cond g (
 some 29) (
 some 28)) (
 some 0))) (
 cond (a==11) (
 some 30) (
 cond (a==2) (
 (j25 b).bind fun i=>
 cond i (
 some 29) (
 some 28)) (
 some 0))))))) (
 cond (a==8) (
 cond (a==8) (
 some 31) (
 cond (a==4) (
 cond (a==4) (
 some 30) (
 cond (a==2) (
 (j25 b).bind fun o=>
 cond o (
 some 29) (
 some 28)) (
 some 0))) (
 cond (a==6) (
 cond (a==6) (
 some 30) (
 cond (a==2) (
 (j25 b).bind fun p=>
 cond p (
 some 29) (
 some 28)) (
 some 0))) (
 cond (a==9) (
 cond (a==9) (
 some 30) (
 cond (a==2) (
 (j25 b).bind fun t=>
 cond t (
 some 29) (
 some 28)) (
 some 0))) (
 cond (a==11) (
 some 30) (
 cond (a==2) (
 (j25 b).bind fun m=>
 cond m (
 some 29) (
 some 28)) (
 some 0))))))) (
 cond (a==10) (
 cond (a==10) (
 some 31) (
 cond (a==4) (
 cond (a==4) (
 some 30) (
 cond (a==2) (
 (j25 b).bind fun l=>
 cond l (
 some 29) (
 some 28)) (
 some 0))) (
 cond (a==6) (
 cond (a==6) (
 some 30) (
 cond (a==2) (
 (j25 b).bind fun f=>
 cond f (
 some 29) (
 some 28)) (
 some 0))) (
 cond (a==9) (
 cond (a==9) (
 some 30) (
 cond (a==2) (
 (j25 b).bind fun n=>
 cond n (
 some 29) (
 some 28)) (
 some 0))) (
 cond (a==11) (
 some 30) (
 cond (a==2) (
 (j25 b).bind fun d=>
 cond d (
 some 29) (
 some 28)) (
 some 0))))))) (
 cond (a==12) (
 some 31) (
 cond (a==4) (
 cond (a==4) (
 some 30) (
 cond (a==2) (
 (j25 b).bind fun c=>
 cond c (
 some 29) (
 some 28)) (
 some 0))) (
 cond (a==6) (
 cond (a==6) (
 some 30) (
 cond (a==2) (
 (j25 b).bind fun u=>
 cond u (
 some 29) (
 some 28)) (
 some 0))) (
 cond (a==9) (
 cond (a==9) (
 some 30) (
 cond (a==2) (
 (j25 b).bind fun q=>
 cond q (
 some 29) (
 some 28)) (
 some 0))) (
 cond (a==11) (
 some 30) (
 cond (a==2) (
 (j25 b).bind fun r=>
 cond r (
 some 29) (
 some 28)) (
 some 0))))))))))))
def jjU (a:Tn3):Option (Bool):=
 cond (decide (a.1≥1970)) (
 cond (decide (a.1≤2240)) (
 cond (decide (a.2.1≥1)) (
 cond (decide (a.2.1≤12)) (
 cond (decide (a.2.2≥1)) (
 (jfp a.1 a.2.1).bind fun b=>
 some (decide (a.2.2≤b))) (
 some false)) (
 some false)) (
 some false)) (
 some false)) (
 some false)
def jjV (a:Int):Option (Int):=
 let i:=(w64 (a-1970))
 let l:=(w64 (i*365))
 let m:=(w64 (a-1969))
 let j:=(w64 (Int.tdiv m 4))
 let k:=(w64 (l+j))
 let c:=(w64 (a-1901))
 let f:=(w64 (Int.tdiv c 100))
 let d:=(w64 (k-f))
 let g:=(w64 (a-1601))
 let e:=(w64 (Int.tdiv g 400))
 let b:=(w64 (d+e))
 some b
def j7F (i g f a b:Int):Option ((Int×Int×Int×Int×Int) ⊕ ((Int×Int×Int×Int))):=
 cond (decide (g<a)) (
 (jfp f g).bind fun d=>
 let e:=(w64 (i+d))
 let c:=(w64 (g+1))
 some (.inl (e,c,f,a,b))) (
 some (.inr (i,f,a,b)))
def jhU [LP] (d e c b a):=LP.lp (fun h=>j7F h.1 h.2.1 h.2.2.1 h.2.2.2.1 h.2.2.2.2) (d,e,c,b,a)
theorem jjW (d e c b a):jhU d e c b a=lpK (j7F d e c b a) (fun h=>jhU h.1 h.2.1 h.2.2.1 h.2.2.2.1 h.2.2.2.2):=j04 _ _
def jpX [LP] (a:Tn3):Option (Int×Int):=
 (jjU (a.1,(a.2.1,a.2.2))).bind fun f=>
 cond (!f) (
 some (0,1)) (
 (jjV a.1).bind fun e=>
 (jhU e 1 a.1 a.2.1 a.2.2).bind fun c=>
 let b:=(w64 (c.1+c.2.2.2))
 let d:=(w64 (b-1))
 some (d,0))
def jfq (a:Int):Option (Int):=
 let b:=(Int.tmod a 7)
 let c:=(w64 (b+10))
 let d:=(Int.tmod c 7)
 some d
def j7G (i e f g d a:Int):Option ((Int×Int×Int×Int×Int×Int) ⊕ ((Int×Int×Int×Int×Int))):=
 (jfq a).bind fun b=>
 cond (b != g) (
 let c:=(w64 (a+1))
 some (.inl (i,e,f,g,d,c))) (
 some (.inr (i,e,f,d,a)))
def jhV [LP] (f c d e a b):=LP.lp (fun h=>j7G h.1 h.2.1 h.2.2.1 h.2.2.2.1 h.2.2.2.2.1 h.2.2.2.2.2) (f,c,d,e,a,b)
theorem jjX (f c d e a b):jhV f c d e a b=lpK (j7G f c d e a b) (fun h=>jhV h.1 h.2.1 h.2.2.1 h.2.2.2.1 h.2.2.2.2.1 h.2.2.2.2.2):=j04 _ _
def j7H (i g f a:Int):Option ((Int×Int×Int×Int) ⊕ (Int)):=
 let d:=(w64 (a+7))
 (jfp i g).bind fun e=>
 let b:=(w64 (f+e))
 cond (decide (d<b)) (
 let c:=(w64 (a+7))
 some (.inl (i,g,f,c))) (
 some (.inr a))
def jhW [LP] (d c a b):=LP.lp (fun h=>j7H h.1 h.2.1 h.2.2.1 h.2.2.2) (d,c,a,b)
theorem jjY (d c a b):jhW d c a b=lpK (j7H d c a b) (fun h=>jhW h.1 h.2.1 h.2.2.1 h.2.2.2):=j04 _ _
def jpY [LP] (f c b a:Int):Option (Int×Int):=
 (jpX (f,(c,1))).bind fun e=>
 let j:Bool:=(cond (cond (e.2 != 0) true (decide (b<1))) true (decide (b>5)))
 let l:Bool:=(cond (cond j true (decide (a<0))) true (decide (a>6)))
 cond l (
 some (0,1)) (
 (jhV f c b a e.1 e.1).bind fun d=>
 cond (decide (d.2.2.1<5)) (
 let k:=(w64 (d.2.2.1-1))
 let i:=(w64 (7*k))
 let g:=(w64 (d.2.2.2.2+i))
 some (g,0)) (
 (jhW d.1 d.2.1 d.2.2.2.1 d.2.2.2.2).bind fun m=>
 some (m,0)))
def j3v (j:Tn42) (i k c g a:Int) (d:Tn2):Option ((Tn42×Int×Int×Int×Int×Int×Tn2) ⊕ ((Tn42×Int×Int×Int×Int×Int×Tn2))):=
 cond (decide (c>0)) (
 let b:=(w64 (c-1))
 cond (inR b (List.length d)) (
 let e:=(List.getD d (Int.toNat b) (0,0)).1
 cond (decide (e>g)) (
 let f:=(w64 (c-1))
 some (.inl (j,i,k,f,g,a,d))) (
 some (.inr (j,i,k,c,g,a,d)))) none) (
 some (.inr (j,i,k,c,g,a,d)))
def j5s [LP] (d b f c g a e):=LP.lp (fun h=>j3v h.1 h.2.1 h.2.2.1 h.2.2.2.1 h.2.2.2.2.1 h.2.2.2.2.2.1 h.2.2.2.2.2.2) (d,b,f,c,g,a,e)
theorem jbb (d b f c g a e):j5s d b f c g a e=lpK (j3v d b f c g a e) (fun h=>j5s h.1 h.2.1 h.2.2.1 h.2.2.2.1 h.2.2.2.2.1 h.2.2.2.2.2.1 h.2.2.2.2.2.2):=j04 _ _
def j3w [LP] (c:Tn42) (d t:Int) (u:Tn2):Option ((Tn42×Int×Int×Tn2) ⊕ ((Tn42×Int×Tn2))):=
 cond (inR d (List.length c)) (
 let i:=(List.getD c (Int.toNat d) (0,(0,(0,(0,(0,(0,0)))))))
 cond (decide (t≤i.2.1)) (
 cond (inR d (List.length c)) (
 let m:=(List.getD c (Int.toNat d) (0,(0,(0,(0,(0,(0,0)))))))
 cond (inR d (List.length c)) (
 let s:=(List.getD c (Int.toNat d) (0,(0,(0,(0,(0,(0,0)))))))
 cond (inR d (List.length c)) (
 let r:=(List.getD c (Int.toNat d) (0,(0,(0,(0,(0,(0,0)))))))
 (jpY t m.2.2.1 s.2.2.2.1 r.2.2.2.2.1).bind fun p=>
 let j:=(w64 (p.1*86400))
 cond (inR d (List.length c)) (
 let k:=(List.getD c (Int.toNat d) (0,(0,(0,(0,(0,(0,0)))))))
 let n:=(w64 (j+k.2.2.2.2.2.1))
 cond (inR d (List.length c)) (
 let l:=(List.getD c (Int.toNat d) (0,(0,(0,(0,(0,(0,0)))))))
 let o:=(Int.ofNat (List.length u))
 (j5s c d t o n l.2.2.2.2.2.2 u).bind fun a=>
 let g:Tn2:=[(a.2.2.2.2.1,a.2.2.2.2.2.1)]
 cond (decide (List.length a.2.2.2.2.2.2+List.length g≤j08)) (
 let b:Tn2:=(a.2.2.2.2.2.2++g)
 let e:=(w64 (a.2.2.2.1+1))
 cond (decide (0≤e)&&decide (e≤(Int.ofNat (List.length b)))) (
 cond (decide (0≤a.2.2.2.1)&&decide (a.2.2.2.1≤(Int.ofNat (List.length b)))) (
 let f:Tn2:=(over b (Int.toNat e) (List.drop (Int.toNat a.2.2.2.1) b))
 let w:=(Int.ofNat (min (List.length (List.drop (Int.toNat a.2.2.2.1) b)) (List.length b-(Int.toNat e))))
 cond (inR a.2.2.2.1 (List.length f)) (
 let v:Tn2:=(List.set f (Int.toNat a.2.2.2.1) (a.2.2.2.2.1,a.2.2.2.2.2.1))
 let q:=(w64 (a.2.2.1+1))
 some (.inl (a.1,a.2.1,q,v))) none) none) none) none) none) none) none) none) none) (
 some (.inr (c,d,u)))) none
def j7q [LP] (c a d b):=LP.lp (fun h=>j3w h.1 h.2.1 h.2.2.1 h.2.2.2) (c,a,d,b)
theorem jbc (c a d b):j7q c a d b=lpK (j3w c a d b) (fun h=>j7q h.1 h.2.1 h.2.2.1 h.2.2.2):=j04 _ _
def j3x [LP] (c:Tn42) (b:Int) (g:Tn2):Option ((Tn42×Int×Tn2) ⊕ (Tn2)):=
 let e:=(Int.ofNat (List.length c))
 cond (decide (b<e)) (
 cond (inR b (List.length c)) (
 let f:=(List.getD c (Int.toNat b) (0,(0,(0,(0,(0,(0,0)))))))
 (j7q c b f.1 g).bind fun a=>
 let d:=(w64 (a.2.1+1))
 some (.inl (a.1,d,a.2.2))) none) (
 some (.inr g))
def j5t [LP] (c a b):=LP.lp (fun h=>j3x h.1 h.2.1 h.2.2) (c,a,b)
theorem jbd (c a b):j5t c a b=lpK (j3x c a b) (fun h=>j5t h.1 h.2.1 h.2.2):=j04 _ _
def j9D [LP] (a:Tn42):Option (Tn2):=
 (j5t a 0 ([]:Tn2)).bind fun b=>
 some b
def j3y (o c:Int) (n:ByteArray) (d:Int) (b:Tn42):Option ((Int×Int×ByteArray×Int×Tn42) ⊕ (Int ⊕ (Int×ByteArray×Int×Tn42))):=
 let j:=(Int.ofNat (List.length b))
 cond (decide (c<j)) (
 cond (inR c (List.length b)) (
 let a:=(List.getD b (Int.toNat c) (0,(0,(0,(0,(0,(0,0)))))))
 (jgZ (a.1,(a.2.1,(a.2.2.1,(a.2.2.2.1,(a.2.2.2.2.1,(a.2.2.2.2.2.1,a.2.2.2.2.2.2))))))).bind fun k=>
 cond (!k) (
 some (.inr (.inl 1))) (
 cond (inR c (List.length b)) (
 let g:=(List.getD b (Int.toNat c) (0,(0,(0,(0,(0,(0,0)))))))
 cond (inR c (List.length b)) (
 let l:=(List.getD b (Int.toNat c) (0,(0,(0,(0,(0,(0,0)))))))
 let f:=(w64 (g.2.1-l.1))
 let i:=(w64 (f+1))
 let e:=(w64 (o+i))
 let m:=(w64 (c+1))
 some (.inl (e,m,n,d,b))) none) none)) none) (
 some (.inr (.inr (o,n,d,b))))
def j5u [LP] (d e c b a):=LP.lp (fun h=>j3y h.1 h.2.1 h.2.2.1 h.2.2.2.1 h.2.2.2.2) (d,e,c,b,a)
theorem jbe (d e c b a):j5u d e c b a=lpK (j3y d e c b a) (fun h=>j5u h.1 h.2.1 h.2.2.1 h.2.2.2.1 h.2.2.2.2):=j04 _ _
def j3z (y e:Int) (c d:Tn2):Option ((Int×Int×Tn2×Tn2) ⊕ (Int ⊕ Tn2)):=
 let q:=(Int.ofNat (List.length d))
 cond (decide (e<q)) (
 cond (inR e (List.length d)) (
 let w:=(List.getD d (Int.toNat e) (0,0)).2
 cond (w==y) (
 let t:=(w64 (e+1))
 some (.inl (y,t,c,d))) (
 cond (inR e (List.length d)) (
 let s:=(List.getD d (Int.toNat e) (0,0)).1
 let b:=(w64 (s-y))
 cond (inR e (List.length d)) (
 let a:=(List.getD d (Int.toNat e) (0,0)).2
 let o:=(w64 (a-y))
 (jal o (-86399) 86399).bind fun x=>
 cond (!x) (
 some (.inr (.inl 6))) (
 (jal b 0 8589934592).bind fun p=>
 cond (!p) (
 some (.inr (.inl 6))) (
 let v:=(Int.ofNat (List.length c))
 cond (decide (v>0)) (
 let n:=(Int.ofNat (List.length c))
 let i:=(w64 (n-1))
 cond (inR i (List.length c)) (
 let j:=(List.getD c (Int.toNat i) (0,0)).1
 let l:=(w64 (b-j))
 cond (decide (l<604800)) (
 some (.inr (.inl 6))) (
 let g:Tn2:=[(b,a)]
 cond (decide (List.length c+List.length g≤j08)) (
 let k:Tn2:=(c++g)
 let u:=(w64 (e+1))
 some (.inl (a,u,k,d))) none)) none) (
 let f:Tn2:=[(b,a)]
 cond (decide (List.length c+List.length f≤j08)) (
 let m:Tn2:=(c++f)
 let r:=(w64 (e+1))
 some (.inl (a,r,m,d))) none)))) none) none)) none) (
 some (.inr (.inr c)))
def j5v [LP] (d c b a):=LP.lp (fun h=>j3z h.1 h.2.1 h.2.2.1 h.2.2.2) (d,c,b,a)
theorem jbf (d c b a):j5v d c b a=lpK (j3z d c b a) (fun h=>j5v h.1 h.2.1 h.2.2.1 h.2.2.2):=j04 _ _
def j1P [LP] (a:Tn52):Option (Tn2×Int):=
 (jal a.2.1 (-64800) 64800).bind fun f=>
 cond (!f) (
 some (([]:Tn2),1)) (
 let b:=(Int.ofNat (List.length a.2.2))
 cond (decide (b>16)) (
 some (([]:Tn2),5)) (
 (j5u 0 0 a.1 a.2.1 a.2.2).bind fun j=>
 sumC j (fun k=>
 some (([]:Tn2),k)) (fun i=>
 cond (decide (i.1>640)) (
 some (([]:Tn2),5)) (
 (j9D i.2.2.2).bind fun d=>
 (j5v i.2.2.1 0 ([]:Tn2) d).bind fun g=>
 sumC g (fun e=>
 some (([]:Tn2),e)) (fun c=>
 some (c,0))))))
def j7I [LP] (a:Tn52):Option (Int):=
 (j1P (a.1,(a.2.1,a.2.2))).bind fun b=>
 some b.2
def j53 (g:Bool) (c:Int) (j:ByteArray) (i:Int) (a:Tn42):Option ((Bool×Int×ByteArray×Int×Tn42) ⊕ (Bool)):=
 let d:=(Int.ofNat (List.length a))
 cond (decide (c<d)) (
 cond ((inR c (List.length a)) || !g) (
 let f:=(List.getD a (Int.toNat c) (0,(0,(0,(0,(0,(0,0)))))))
 let e:=(Int.tmod f.2.2.2.2.2.2 60)
 let b:=(w64 (c+1))
 some (.inl ((cond g (e==0) false),b,j,i,a))) none) (
 some (.inr g))
def j8M [LP] (d e c b a):=LP.lp (fun h=>j53 h.1 h.2.1 h.2.2.1 h.2.2.2.1 h.2.2.2.2) (d,e,c,b,a)
theorem jeS (d e c b a):j8M d e c b a=lpK (j53 d e c b a) (fun h=>j8M h.1 h.2.1 h.2.2.1 h.2.2.2.1 h.2.2.2.2):=j04 _ _
def jcK [LP] (a:Tn52):Option (Bool):=
 let c:=(Int.tmod a.2.1 60)
 (j8M (c==0) 0 a.1 a.2.1 a.2.2).bind fun b=>
 some b
def j6f [LP] (c:Int) (d:Tn54) (o:Tn48) (l:Tn26) (n:Tn65) (p:(List ByteArray)):Option ((Int×Tn54×Tn48×Tn26×Tn65×(List ByteArray)) ⊕ (Int ⊕ Unit)):=
 let m:=(Int.ofNat (List.length d))
 cond (decide (c<m)) (
 cond (inR c (List.length d)) (
 let g:=(List.getD d (Int.toNat c) (ByteArray.empty,(0,([]:Tn42))))
 cond (decide (List.length p+List.length [g.1]≤j08)) (
 let i:(List ByteArray):=(p++[g.1])
 (jca i c).bind fun f=>
 cond (f != 0) (
 some (.inr (.inl f))) (
 cond (inR c (List.length d)) (
 let b:=(List.getD d (Int.toNat c) (ByteArray.empty,(0,([]:Tn42))))
 (j7I (b.1,(b.2.1,b.2.2))).bind fun e=>
 cond ((inR c (List.length d)) || !(!(e != 0))) (
 let a:=(List.getD d (Int.toNat c) (ByteArray.empty,(0,([]:Tn42))))
 cond (e != 0) (
 some (.inr (.inl 8))) (
 (jcK (a.1,(a.2.1,a.2.2))).bind fun j=>
 cond (!j) (
 some (.inr (.inl 8))) (
 let k:=(w64 (c+1))
 some (.inl (k,d,o,l,n,i))))) none) none)) none) none) (
 some (.inr (.inr ())))
def jbg [LP] (e d c a b f):=LP.lp (fun h=>j6f h.1 h.2.1 h.2.2.1 h.2.2.2.1 h.2.2.2.2.1 h.2.2.2.2.2) (e,d,c,a,b,f)
theorem jh0 (e d c a b f):jbg e d c a b f=lpK (j6f e d c a b f) (fun h=>jbg h.1 h.2.1 h.2.2.1 h.2.2.2.1 h.2.2.2.2.1 h.2.2.2.2.2):=j04 _ _
def jng [LP] (a:Tn71):Option (Int):=
 (jbg 0 a.1 a.2.1 a.2.2.1 a.2.2.2 ([]:(List ByteArray))).bind fun b=>
 sumC b (fun c=>
 some c) (fun d=>
 some 0)
def j8N (a b c:Int):Option (Bool):=
 some (cond (decide (a≥b)) (decide (a≤c)) false)
def j6g (b:Tn2) (a:Int):Option ((Tn2×Int) ⊕ (Int ⊕ Unit)):=
 let m:=(Int.ofNat (List.length b))
 cond (decide (a<m)) (
 cond (inR a (List.length b)) (
 let d:=(List.getD b (Int.toNat a) (0,0))
 cond (decide (d.1<0)) (
 some (.inr (.inl 1))) (
 cond (inR a (List.length b)) (
 let f:=(List.getD b (Int.toNat a) (0,0))
 cond (inR a (List.length b)) (
 let g:=(List.getD b (Int.toNat a) (0,0))
 cond (decide (f.1≥g.2)) (
 some (.inr (.inl 1))) (
 cond (inR a (List.length b)) (
 let j:=(List.getD b (Int.toNat a) (0,0))
 cond (decide (j.2>604800)) (
 some (.inr (.inl 1))) (
 cond (decide (a>0)) (
 cond (inR a (List.length b)) (
 let i:=(List.getD b (Int.toNat a) (0,0))
 let c:=(w64 (a-1))
 cond (inR c (List.length b)) (
 let e:=(List.getD b (Int.toNat c) (0,0))
 cond (decide (i.1<e.2)) (
 some (.inr (.inl 6))) (
 let k:=(w64 (a+1))
 some (.inl (b,k)))) none) none) (
 let l:=(w64 (a+1))
 some (.inl (b,l))))) none)) none) none)) none) (
 some (.inr (.inr ())))
def jbh [LP] (a b):=LP.lp (fun h=>j6g h.1 h.2) (a,b)
theorem jh1 (a b):jbh a b=lpK (j6g a b) (fun h=>jbh h.1 h.2):=j04 _ _
def jeT [LP] (a:Tn2):Option (Int):=
 let b:=(Int.ofNat (List.length a))
 cond (decide (b>14)) (
 some 5) (
 (jbh a 0).bind fun c=>
 sumC c (fun d=>
 some d) (fun e=>
 some 0))
def jjZ (a:Int):Option (Bool):=
 (j8N a 0 604800).bind fun b=>
 let c:=(Int.tmod a 3600)
 some (cond b (c==0) false)
def j5w [LP] (e:Int) (r:Tn54) (b:Tn48) (p:Tn26) (q:Tn65) (s:(List ByteArray)):Option ((Int×Tn54×Tn48×Tn26×Tn65×(List ByteArray)) ⊕ (Int ⊕ Unit)):=
 let f:=(Int.ofNat (List.length b))
 cond (decide (e<f)) (
 cond (inR e (List.length b)) (
 let a:=(List.getD b (Int.toNat e) (ByteArray.empty,(0,(([]:Tn2),(0,(0,false))))))
 cond (decide (List.length s+List.length [a.1]≤j08)) (
 let c:(List ByteArray):=(s++[a.1])
 let m:Bool:=(ByteArray.toList a.1==ByteArray.toList (ByteArray.mk #[110,111,98,111,100,121]))
 cond m (
 some (.inr (.inl 2))) (
 (jca c e).bind fun d=>
 cond (d != 0) (
 some (.inr (.inl d))) (
 let i:=(Int.ofNat (List.length r))
 let g:=(w64 (i-1))
 (j8N a.2.1 0 g).bind fun n=>
 cond (!n) (
 some (.inr (.inl 3))) (
 (jeT a.2.2.1).bind fun k=>
 cond (k != 0) (
 some (.inr (.inl 8))) (
 (jjZ a.2.2.2.1).bind fun j=>
 cond (!j) (
 some (.inr (.inl 1))) (
 (jjZ a.2.2.2.2.1).bind fun l=>
 cond (!l) (
 some (.inr (.inl 1))) (
 let o:=(w64 (e+1))
 some (.inl (o,r,b,p,q,c))))))))) none) none) (
 some (.inr (.inr ())))
def j9E [LP] (e d c a b f):=LP.lp (fun h=>j5w h.1 h.2.1 h.2.2.1 h.2.2.2.1 h.2.2.2.2.1 h.2.2.2.2.2) (e,d,c,a,b,f)
theorem jge (e d c a b f):j9E e d c a b f=lpK (j5w e d c a b f) (fun h=>j9E h.1 h.2.1 h.2.2.1 h.2.2.2.1 h.2.2.2.2.1 h.2.2.2.2.2):=j04 _ _
def jl9 [LP] (a:Tn71):Option (Int):=
 (j9E 0 a.1 a.2.1 a.2.2.1 a.2.2.2 ([]:(List ByteArray))).bind fun b=>
 sumC b (fun c=>
 some c) (fun d=>
 some 0)
def jcs  : Option (Int):=
 (jjV 2241).bind fun b=>
 let a:=(w64 (b-1))
 some a
def j46 (n i:Int) (m:Tn54) (e:Tn48) (b:Tn26) (c:Tn65) (p:ByteArray) (d:Int) (a:(List Int)) (o:(List ByteArray)):Option ((Int×Int×Tn54×Tn48×Tn26×Tn65×ByteArray×Int×(List Int)×(List ByteArray)) ⊕ (Int ⊕ (Int×Tn54×Tn48×Tn26×Tn65×ByteArray×Int×(List Int)×(List ByteArray)))):=
 let g:=(Int.ofNat (List.length a))
 cond (decide (i<g)) (
 cond (inR i (List.length a)) (
 let f:=(List.getD a (Int.toNat i) 0)
 (jcs).bind fun j=>
 (j8N f 0 j).bind fun k=>
 cond (!k) (
 some (.inr (.inl 1))) (
 let l:=(w64 (i+1))
 some (.inl (n,l,m,e,b,c,p,d,a,o)))) none) (
 some (.inr (.inr (n,m,e,b,c,p,d,a,o))))
def j6T [LP] (i g f e a c k d b j):=LP.lp (fun h=>j46 h.1 h.2.1 h.2.2.1 h.2.2.2.1 h.2.2.2.2.1 h.2.2.2.2.2.1 h.2.2.2.2.2.2.1 h.2.2.2.2.2.2.2.1 h.2.2.2.2.2.2.2.2.1 h.2.2.2.2.2.2.2.2.2) (i,g,f,e,a,c,k,d,b,j)
theorem jcL (i g f e a c k d b j):j6T i g f e a c k d b j=lpK (j46 i g f e a c k d b j) (fun h=>j6T h.1 h.2.1 h.2.2.1 h.2.2.2.1 h.2.2.2.2.1 h.2.2.2.2.2.1 h.2.2.2.2.2.2.1 h.2.2.2.2.2.2.2.1 h.2.2.2.2.2.2.2.2.1 h.2.2.2.2.2.2.2.2.2):=j04 _ _
def j5x (n e:Int) (m:Tn54) (f:Tn48) (c:Tn26) (d:Tn65) (p:ByteArray) (l:Int) (a:(List Int)) (o:(List ByteArray)):Option ((Int×Int×Tn54×Tn48×Tn26×Tn65×ByteArray×Int×(List Int)×(List ByteArray)) ⊕ (Int ⊕ (Int×Tn54×Tn48×Tn26×Tn65×(List ByteArray)))):=
 let k:=(Int.ofNat (List.length a))
 cond (decide (e<k)) (
 cond (inR e (List.length a)) (
 let g:=(List.getD a (Int.toNat e) 0)
 let b:=(w64 (e-1))
 cond (inR b (List.length a)) (
 let i:=(List.getD a (Int.toNat b) 0)
 cond (decide (g≤i)) (
 some (.inr (.inl 6))) (
 let j:=(w64 (e+1))
 some (.inl (n,j,m,f,c,d,p,l,a,o)))) none) none) (
 some (.inr (.inr (n,m,f,c,d,o))))
def j6U [LP] (g j f e a c k d b i):=LP.lp (fun h=>j5x h.1 h.2.1 h.2.2.1 h.2.2.2.1 h.2.2.2.2.1 h.2.2.2.2.2.1 h.2.2.2.2.2.2.1 h.2.2.2.2.2.2.2.1 h.2.2.2.2.2.2.2.2.1 h.2.2.2.2.2.2.2.2.2) (g,j,f,e,a,c,k,d,b,i)
theorem jiQ (g j f e a c k d b i):j6U g j f e a c k d b i=lpK (j5x g j f e a c k d b i) (fun h=>j6U h.1 h.2.1 h.2.2.1 h.2.2.2.1 h.2.2.2.2.1 h.2.2.2.2.2.1 h.2.2.2.2.2.2.1 h.2.2.2.2.2.2.2.1 h.2.2.2.2.2.2.2.2.1 h.2.2.2.2.2.2.2.2.2):=j04 _ _
def j47 [LP] (g:Int) (v:Tn54) (q:Tn48) (d:Tn26) (p:Tn65) (t:(List ByteArray)):Option ((Int×Tn54×Tn48×Tn26×Tn65×(List ByteArray)) ⊕ (Int ⊕ Unit)):=
 let j:=(Int.ofNat (List.length d))
 cond (decide (g<j)) (
 cond (inR g (List.length d)) (
 let a:=(List.getD d (Int.toNat g) (ByteArray.empty,(0,([]:(List Int)))))
 cond (decide (List.length t+List.length [a.1]≤j08)) (
 let f:(List ByteArray):=(t++[a.1])
 (jca f g).bind fun e=>
 cond (e != 0) (
 some (.inr (.inl e))) (
 let k:=(Int.ofNat (List.length v))
 let i:=(w64 (k-1))
 (j8N a.2.1 0 i).bind fun n=>
 cond (!n) (
 some (.inr (.inl 3))) (
 let m:=(Int.ofNat (List.length a.2.2))
 cond (decide (m>64)) (
 some (.inr (.inl 5))) (
 (j6T g 0 v q d p a.1 a.2.1 a.2.2 f).bind fun r=>
 sumC r (fun s=>
 some (.inr (.inl s))) (fun b=>
 (j6U b.1 1 b.2.1 b.2.2.1 b.2.2.2.1 b.2.2.2.2.1 b.2.2.2.2.2.1 b.2.2.2.2.2.2.1 b.2.2.2.2.2.2.2.1 b.2.2.2.2.2.2.2.2).bind fun o=>
 sumC o (fun u=>
 some (.inr (.inl u))) (fun c=>
 let l:=(w64 (c.1+1))
 some (.inl (l,c.2.1,c.2.2.1,c.2.2.2.1,c.2.2.2.2.1,c.2.2.2.2.2)))))))) none) none) (
 some (.inr (.inr ())))
def j6V [LP] (e d c a b f):=LP.lp (fun h=>j47 h.1 h.2.1 h.2.2.1 h.2.2.2.1 h.2.2.2.2.1 h.2.2.2.2.2) (e,d,c,a,b,f)
theorem jcM (e d c a b f):j6V e d c a b f=lpK (j47 e d c a b f) (fun h=>j6V h.1 h.2.1 h.2.2.1 h.2.2.2.1 h.2.2.2.2.1 h.2.2.2.2.2):=j04 _ _
def jfr [LP] (a:Tn71):Option (Int):=
 (j6V 0 a.1 a.2.1 a.2.2.1 a.2.2.2 ([]:(List ByteArray))).bind fun b=>
 sumC b (fun c=>
 some c) (fun d=>
 some 0)
def j6h (r:Int) (u:Tn54) (b:Tn48) (j:Tn26) (d:Tn65) (v:ByteArray) (l c m g i:Int) (a:(List Int)) (k:Tn2) (f e:Int):Option ((Int×Tn54×Tn48×Tn26×Tn65×ByteArray×Int×Int×Int×Int×Int×(List Int)×Tn2×Int×Int) ⊕ (Int ⊕ (Tn54×Tn48×Tn26×Tn65×ByteArray×Int×Int×Int×Int×Int×(List Int)×Tn2×Int×Int))):=
 let s:=(Int.ofNat (List.length a))
 cond (decide (r<s)) (
 cond (inR r (List.length a)) (
 let t:=(List.getD a (Int.toNat r) 0)
 let p:=(Int.ofNat (List.length b))
 let q:=(w64 (p-1))
 (j8N t 0 q).bind fun n=>
 cond (!n) (
 some (.inr (.inl 3))) (
 let o:=(w64 (r+1))
 some (.inl (o,u,b,j,d,v,l,c,m,g,i,a,k,f,e)))) none) (
 some (.inr (.inr (u,b,j,d,v,l,c,m,g,i,a,k,f,e))))
def jbi [LP] (p n c f i o k d a l e g j b m):=LP.lp (fun h=>j6h h.1 h.2.1 h.2.2.1 h.2.2.2.1 h.2.2.2.2.1 h.2.2.2.2.2.1 h.2.2.2.2.2.2.1 h.2.2.2.2.2.2.2.1 h.2.2.2.2.2.2.2.2.1 h.2.2.2.2.2.2.2.2.2.1 h.2.2.2.2.2.2.2.2.2.2.1 h.2.2.2.2.2.2.2.2.2.2.2.1 h.2.2.2.2.2.2.2.2.2.2.2.2.1 h.2.2.2.2.2.2.2.2.2.2.2.2.2.1 h.2.2.2.2.2.2.2.2.2.2.2.2.2.2) (p,n,c,f,i,o,k,d,a,l,e,g,j,b,m)
theorem jh2 (p n c f i o k d a l e g j b m):jbi p n c f i o k d a l e g j b m=lpK (j6h p n c f i o k d a l e g j b m) (fun h=>jbi h.1 h.2.1 h.2.2.1 h.2.2.2.1 h.2.2.2.2.1 h.2.2.2.2.2.1 h.2.2.2.2.2.2.1 h.2.2.2.2.2.2.2.1 h.2.2.2.2.2.2.2.2.1 h.2.2.2.2.2.2.2.2.2.1 h.2.2.2.2.2.2.2.2.2.2.1 h.2.2.2.2.2.2.2.2.2.2.2.1 h.2.2.2.2.2.2.2.2.2.2.2.2.1 h.2.2.2.2.2.2.2.2.2.2.2.2.2.1 h.2.2.2.2.2.2.2.2.2.2.2.2.2.2):=j04 _ _
def jh3 [LP] (b:Tn71) (a:Tn59):Option (Int):=
 let p:=(Int.ofNat (List.length b.1))
 let r:=(w64 (p-1))
 (j8N a.2.1 0 r).bind fun s=>
 cond (!s) (
 some 3) (
 (jcs).bind fun q=>
 (j8N a.2.2.1.1 1 q).bind fun i=>
 cond (!i) (
 some 1) (
 (j8N a.2.2.1.2 0 86399).bind fun t=>
 cond (!t) (
 some 1) (
 (j8N a.2.2.2.1 0 2).bind fun n=>
 cond (!n) (
 some 1) (
 (j8N a.2.2.2.2.1 1 400).bind fun m=>
 cond (!m) (
 some 1) (
 let f:=(Int.ofNat (List.length a.2.2.2.2.2.1))
 cond (f==0) (
 some 7) (
 let k:=(Int.ofNat (List.length a.2.2.2.2.2.1))
 cond (decide (k>12)) (
 some 5) (
 (jbi 0 b.1 b.2.1 b.2.2.1 b.2.2.2 a.1 a.2.1 a.2.2.1.1 a.2.2.1.2 a.2.2.2.1 a.2.2.2.2.1 a.2.2.2.2.2.1 a.2.2.2.2.2.2.1 a.2.2.2.2.2.2.2.1 a.2.2.2.2.2.2.2.2).bind fun v=>
 sumC v (fun w=>
 some w) (fun d=>
 (jeT d.2.2.2.2.2.2.2.2.2.2.2.1).bind fun u=>
 cond (u != 0) (
 some 8) (
 (j8N d.2.2.2.2.2.2.2.2.2.2.2.2.2 0 2).bind fun o=>
 cond (!o) (
 some 1) (
 let j:=(Int.ofNat (List.length d.2.2.1))
 let g:=(w64 (j-1))
 cond (d.2.2.2.2.2.2.2.2.2.2.2.2.2 != 0) (
 (j8N d.2.2.2.2.2.2.2.2.2.2.2.2.1 0 g).bind fun l=>
 cond (!l) (
 some 3) (
 let e:Bool:=(cond (d.2.2.2.2.2.2.2.2.2.2.2.2.2==0) (d.2.2.2.2.2.2.2.2.2.2.2.2.1 != 0) false)
 cond e (
 some 1) (
 some 0))) (
 let c:Bool:=(cond (d.2.2.2.2.2.2.2.2.2.2.2.2.2==0) (d.2.2.2.2.2.2.2.2.2.2.2.2.1 != 0) false)
 cond c (
 some 1) (
 some 0))))))))))))
def jk0 (d:Tn71) (a:Tn24):Option (Int):=
 let e:=(Int.ofNat (List.length d.2.1))
 (j8N a.1 0 2).bind fun i=>
 cond (!i) (
 some 1) (
 let m:=(w64 (e-1))
 (j8N a.2.1 0 m).bind fun k=>
 let g:=(w64 (e-1))
 cond (cond (!k) (cond (a.1 != 1) true (a.2.1 != (-1))) false) (
 cond ((!(a.1==2)) || !(!true)) (
 some 3) none) (
 cond (a.1==2) (
 (j8N a.2.2.1 0 g).bind fun l=>
 cond (!l) (
 some 3) (
 cond (cond (a.1 != 2) (a.2.2.1 != 0) false) (
 some 1) (
 cond (cond (a.1==2) (a.2.1==a.2.2.1) false) (
 some 4) (
 cond (decide (a.2.2.2.1<0)) (
 some 1) (
 cond (decide (a.2.2.2.2<0)) (
 some 1) (
 let j:=(w64 (Int.tdiv a.2.2.2.2 86400))
 (jcs).bind fun f=>
 cond (decide (j>f)) (
 some 1) (
 cond (decide (a.2.2.2.1≥a.2.2.2.2)) (
 some 6) (
 some 0)))))))) (
 cond (cond (a.1 != 2) (a.2.2.1 != 0) false) (
 some 1) (
 cond (cond (a.1==2) (a.2.1==a.2.2.1) false) (
 some 4) (
 cond (decide (a.2.2.2.1<0)) (
 some 1) (
 cond (decide (a.2.2.2.2<0)) (
 some 1) (
 let c:=(w64 (Int.tdiv a.2.2.2.2 86400))
 (jcs).bind fun b=>
 cond (decide (c>b)) (
 some 1) (
 cond (decide (a.2.2.2.1≥a.2.2.2.2)) (
 some 6) (
 some 0)))))))))
def j48 [LP] (q e:Int) (o:Tn54) (f:Tn48) (c:Tn26) (d:Tn65) (s:ByteArray) (b:Tn60) (l:Tn29) (r p:(List ByteArray)):Option ((Int×Int×Tn54×Tn48×Tn26×Tn65×ByteArray×Tn60×Tn29×(List ByteArray)×(List ByteArray)) ⊕ (Int ⊕ (Int×Tn54×Tn48×Tn26×Tn65×ByteArray×Tn60×Tn29×(List ByteArray)))):=
 let m:=(Int.ofNat (List.length b))
 cond (decide (e<m)) (
 cond (inR e (List.length b)) (
 let k:=(List.getD b (Int.toNat e) (ByteArray.empty,(0,((0,0),(0,(0,(([]:(List Int)),(([]:Tn2),(0,0)))))))))
 cond (decide (List.length p+List.length [k.1]≤j08)) (
 let j:(List ByteArray):=(p++[k.1])
 (jca j e).bind fun g=>
 cond (g != 0) (
 some (.inr (.inl g))) (
 cond (inR e (List.length b)) (
 let a:=(List.getD b (Int.toNat e) (ByteArray.empty,(0,((0,0),(0,(0,(([]:(List Int)),(([]:Tn2),(0,0)))))))))
 (jh3 (o,(f,(c,d))) (a.1,(a.2.1,((a.2.2.1.1,a.2.2.1.2),(a.2.2.2.1,(a.2.2.2.2.1,(a.2.2.2.2.2.1,(a.2.2.2.2.2.2.1,(a.2.2.2.2.2.2.2.1,a.2.2.2.2.2.2.2.2))))))))).bind fun i=>
 cond (i != 0) (
 some (.inr (.inl i))) (
 let n:=(w64 (e+1))
 some (.inl (q,n,o,f,c,d,s,b,l,r,j)))) none)) none) none) (
 some (.inr (.inr (q,o,f,c,d,s,b,l,r))))
def j6W [LP] (i k f e a c l d b j g):=LP.lp (fun h=>j48 h.1 h.2.1 h.2.2.1 h.2.2.2.1 h.2.2.2.2.1 h.2.2.2.2.2.1 h.2.2.2.2.2.2.1 h.2.2.2.2.2.2.2.1 h.2.2.2.2.2.2.2.2.1 h.2.2.2.2.2.2.2.2.2.1 h.2.2.2.2.2.2.2.2.2.2) (i,k,f,e,a,c,l,d,b,j,g)
theorem jcN (i k f e a c l d b j g):j6W i k f e a c l d b j g=lpK (j48 i k f e a c l d b j g) (fun h=>j6W h.1 h.2.1 h.2.2.1 h.2.2.2.1 h.2.2.2.2.1 h.2.2.2.2.2.1 h.2.2.2.2.2.2.1 h.2.2.2.2.2.2.2.1 h.2.2.2.2.2.2.2.2.1 h.2.2.2.2.2.2.2.2.2.1 h.2.2.2.2.2.2.2.2.2.2):=j04 _ _
def j49 (m g:Int) (k:Tn54) (e:Tn48) (c:Tn26) (d:Tn65) (o:ByteArray) (l:Tn60) (b:Tn29) (n:(List ByteArray)):Option ((Int×Int×Tn54×Tn48×Tn26×Tn65×ByteArray×Tn60×Tn29×(List ByteArray)) ⊕ (Int ⊕ (Int×Tn54×Tn48×Tn26×Tn65×(List ByteArray)))):=
 let j:=(Int.ofNat (List.length b))
 cond (decide (g<j)) (
 cond (inR g (List.length b)) (
 let a:=(List.getD b (Int.toNat g) (0,(0,(0,(0,0)))))
 (jk0 (k,(e,(c,d))) (a.1,(a.2.1,(a.2.2.1,(a.2.2.2.1,a.2.2.2.2))))).bind fun f=>
 cond (f != 0) (
 some (.inr (.inl f))) (
 let i:=(w64 (g+1))
 some (.inl (m,i,k,e,c,d,o,l,b,n)))) none) (
 some (.inr (.inr (m,k,e,c,d,n))))
def j6X [LP] (i f g e a c k d b j):=LP.lp (fun h=>j49 h.1 h.2.1 h.2.2.1 h.2.2.2.1 h.2.2.2.2.1 h.2.2.2.2.2.1 h.2.2.2.2.2.2.1 h.2.2.2.2.2.2.2.1 h.2.2.2.2.2.2.2.2.1 h.2.2.2.2.2.2.2.2.2) (i,f,g,e,a,c,k,d,b,j)
theorem jcO (i f g e a c k d b j):j6X i f g e a c k d b j=lpK (j49 i f g e a c k d b j) (fun h=>j6X h.1 h.2.1 h.2.2.1 h.2.2.2.1 h.2.2.2.2.1 h.2.2.2.2.2.1 h.2.2.2.2.2.2.1 h.2.2.2.2.2.2.2.1 h.2.2.2.2.2.2.2.2.1 h.2.2.2.2.2.2.2.2.2):=j04 _ _
def j4a [LP] (g:Int) (t:Tn54) (o:Tn48) (m:Tn26) (d:Tn65) (r:(List ByteArray)):Option ((Int×Tn54×Tn48×Tn26×Tn65×(List ByteArray)) ⊕ (Int ⊕ Unit)):=
 let i:=(Int.ofNat (List.length d))
 cond (decide (g<i)) (
 cond (inR g (List.length d)) (
 let a:=(List.getD d (Int.toNat g) (ByteArray.empty,(([]:Tn60),([]:Tn29))))
 cond (decide (List.length r+List.length [a.1]≤j08)) (
 let e:(List ByteArray):=(r++[a.1])
 (jca e g).bind fun f=>
 cond (f != 0) (
 some (.inr (.inl f))) (
 let k:=(Int.ofNat (List.length a.2.1))
 let l:=(Int.ofNat (List.length a.2.2))
 cond (cond (decide (k>6)) true (decide (l>48))) (
 some (.inr (.inl 5))) (
 (j6W g 0 t o m d a.1 a.2.1 a.2.2 e ([]:(List ByteArray))).bind fun p=>
 sumC p (fun q=>
 some (.inr (.inl q))) (fun b=>
 (j6X b.1 0 b.2.1 b.2.2.1 b.2.2.2.1 b.2.2.2.2.1 b.2.2.2.2.2.1 b.2.2.2.2.2.2.1 b.2.2.2.2.2.2.2.1 b.2.2.2.2.2.2.2.2).bind fun n=>
 sumC n (fun s=>
 some (.inr (.inl s))) (fun c=>
 let j:=(w64 (c.1+1))
 some (.inl (j,c.2.1,c.2.2.1,c.2.2.2.1,c.2.2.2.2.1,c.2.2.2.2.2))))))) none) none) (
 some (.inr (.inr ())))
def j6Y [LP] (e d c a b f):=LP.lp (fun h=>j4a h.1 h.2.1 h.2.2.1 h.2.2.2.1 h.2.2.2.2.1 h.2.2.2.2.2) (e,d,c,a,b,f)
theorem jcP (e d c a b f):j6Y e d c a b f=lpK (j4a e d c a b f) (fun h=>j6Y h.1 h.2.1 h.2.2.1 h.2.2.2.1 h.2.2.2.2.1 h.2.2.2.2.2):=j04 _ _
def jfs [LP] (a:Tn71):Option (Int):=
 (j6Y 0 a.1 a.2.1 a.2.2.1 a.2.2.2 ([]:(List ByteArray))).bind fun b=>
 sumC b (fun c=>
 some c) (fun d=>
 some 0)
def jk1 [LP] (a:Tn71):Option (Int):=
 let k:=(Int.ofNat (List.length a.1))
 let i:=(Int.ofNat (List.length a.2.1))
 let g:=(Int.ofNat (List.length a.2.2.1))
 let e:Bool:=(cond (cond (decide (k>16)) true (decide (i>32))) true (decide (g>8)))
 let j:=(Int.ofNat (List.length a.2.2.2))
 cond (cond e true (decide (j>12))) (
 some 5) (
 (jng (a.1,(a.2.1,(a.2.2.1,a.2.2.2)))).bind fun c=>
 cond (c != 0) (
 some c) (
 (jl9 (a.1,(a.2.1,(a.2.2.1,a.2.2.2)))).bind fun d=>
 cond (d != 0) (
 some d) (
 (jfr (a.1,(a.2.1,(a.2.2.1,a.2.2.2)))).bind fun b=>
 cond (b != 0) (
 some b) (
 (jfs (a.1,(a.2.1,(a.2.2.1,a.2.2.2)))).bind fun f=>
 some f))))
def jxy [LP] (b:Tn71) (a c:Int):Option (Bool):=
 let e:=(Int.ofNat (List.length b.2.2.2))
 let d:Bool:=(cond (cond (decide (a≥0)) (decide (a<e)) false) (decide (c≥0)) false)
 cond (cond d (decide (c≤8589934592)) false) (
 (jk1 (b.1,(b.2.1,(b.2.2.1,b.2.2.2)))).bind fun f=>
 some (f==0)) (
 some false)
def jh4 [LP] (b:Tn52) (a:Tn59):Option (Int):=
 (j7I (b.1,(b.2.1,b.2.2))).bind fun i=>
 let c:Bool:=(cond (cond (i != 0) true (decide (a.2.2.1.1<1))) true (decide (a.2.2.1.1>100000)))
 let e:Bool:=(cond (cond c true (decide (a.2.2.1.2<0))) true (decide (a.2.2.1.2≥86400)))
 let d:Bool:=(cond (cond e true (decide (a.2.2.2.1<0))) true (decide (a.2.2.2.1>2)))
 let f:Bool:=(cond (cond d true (decide (a.2.2.2.2.1<1))) true (decide (a.2.2.2.2.1>400)))
 let g:=(Int.ofNat (List.length a.2.2.2.2.2.1))
 cond (cond f true (g==0)) (
 some 8) (
 some 0)
def jh5 (a:Int):Option (Bool):=
 (jal a (-2) 99422).bind fun b=>
 some b
def j4T (c:Int) (t:ByteArray) (d:Int) (f:Tn42) (g a:Int) (b:Tn2):Option ((Int×ByteArray×Int×Tn42×Int×Int×Tn2) ⊕ ((Int×Int) ⊕ Unit)):=
 let v:=(Int.ofNat (List.length b))
 cond (decide (c<v)) (
 cond (decide (c≥0)) (
 cond (inR c (List.length b)) (
 let j:=(List.getD b (Int.toNat c) (0,0)).2
 cond (inR c (List.length b)) (
 let e:=(List.getD b (Int.toNat c) (0,0)).1
 let b2:=(w64 (c+1))
 let y:=(Int.ofNat (List.length b))
 cond (decide (b2<y)) (
 let l:=(w64 (c+1))
 cond (inR l (List.length b)) (
 let b1:=(List.getD b (Int.toNat l) (0,0)).1
 let a1:=(w64 (g*86400))
 let u:=(w64 (a1+a))
 let q:=(w64 (u-j))
 let o:Int:=(if q>e then q else e:Int)
 cond (decide (o<b1)) (
 some (.inr (.inl (o,0)))) (
 let b0:=(w64 (c+1))
 some (.inl (b0,t,d,f,g,a,b)))) none) (
 let a5:=(w64 (g*86400))
 let a9:=(w64 (a5+a))
 let m:=(w64 (a9-j))
 let s:Int:=(if m>e then m else e:Int)
 cond (decide (s<8589934593)) (
 some (.inr (.inl (s,0)))) (
 let w:=(w64 (c+1))
 some (.inl (w,t,d,f,g,a,b))))) none) none) (
 let x:=(w64 (c+1))
 let a3:=(Int.ofNat (List.length b))
 cond (decide (x<a3)) (
 let r:=(w64 (c+1))
 cond (inR r (List.length b)) (
 let a6:=(List.getD b (Int.toNat r) (0,0)).1
 let a2:=(w64 (g*86400))
 let a7:=(w64 (a2+a))
 let p:=(w64 (a7-d))
 let n:Int:=(if p>0 then p else 0:Int)
 cond (decide (n<a6)) (
 some (.inr (.inl (n,0)))) (
 let z:=(w64 (c+1))
 some (.inl (z,t,d,f,g,a,b)))) none) (
 let a8:=(w64 (g*86400))
 let a0:=(w64 (a8+a))
 let i:=(w64 (a0-d))
 let k:Int:=(if i>0 then i else 0:Int)
 cond (decide (k<8589934593)) (
 some (.inr (.inl (k,0)))) (
 let a4:=(w64 (c+1))
 some (.inl (a4,t,d,f,g,a,b)))))) (
 some (.inr (.inr ())))
def j5y [LP] (g d a b f c e):=LP.lp (fun h=>j4T h.1 h.2.1 h.2.2.1 h.2.2.2.1 h.2.2.2.2.1 h.2.2.2.2.2.1 h.2.2.2.2.2.2) (g,d,a,b,f,c,e)
theorem jcQ (g d a b f c e):j5y g d a b f c e=lpK (j4T g d a b f c e) (fun h=>j5y h.1 h.2.1 h.2.2.1 h.2.2.2.1 h.2.2.2.2.1 h.2.2.2.2.2.1 h.2.2.2.2.2.2):=j04 _ _
def j5z [LP] (a:Tn52) (b:(Int×Int)):Option (Int×Int):=
 (j1P (a.1,(a.2.1,a.2.2))).bind fun c=>
 cond (c.2 != 0) (
 some (0,8)) (
 (jal b.2 0 86399).bind fun d=>
 cond (!d) (
 some (0,1)) (
 cond (decide (b.1<(-2))) (
 some (0,0)) (
 (jh5 b.1).bind fun e=>
 cond (!e) (
 some (0,10)) (
 (j5y (-1) a.1 a.2.1 a.2.2 b.1 b.2 c.1).bind fun f=>
 sumC f (fun g=>
 some (g.1,g.2)) (fun i=>
 some (0,10))))))
def j5A (c:Tn2) (g i a:Int):Option ((Tn2×Int×Int×Int) ⊕ (Int)):=
 let b:=(Int.ofNat (List.length c))
 cond ((inR a (List.length c)) || !(decide (a<b))) (
 let d:=(List.getD c (Int.toNat a) (0,0))
 cond (cond (decide (a<b)) (decide (d.1≤g)) false) (
 cond (inR a (List.length c)) (
 let e:=(List.getD c (Int.toNat a) (0,0))
 let f:=(w64 (a+1))
 some (.inl (c,g,e.2,f))) none) (
 some (.inr i))) none
def j9F [LP] (a b c d):=LP.lp (fun h=>j5A h.1 h.2.1 h.2.2.1 h.2.2.2) (a,b,c,d)
theorem jgf (a b c d):j9F a b c d=lpK (j5A a b c d) (fun h=>j9F h.1 h.2.1 h.2.2.1 h.2.2.2):=j04 _ _
def jhX [LP] (c:Tn52) (a:Tn2) (b:Int):Option (Int):=
 (j9F a b c.2.1 0).bind fun d=>
 some d
def jbj [LP] (a:Tn52) (b:Int):Option (Int×Int):=
 (j1P (a.1,(a.2.1,a.2.2))).bind fun c=>
 cond (c.2 != 0) (
 some (0,8)) (
 (jal b 0 8589934592).bind fun e=>
 cond (!e) (
 some (0,1)) (
 (jhX (a.1,(a.2.1,a.2.2)) c.1 b).bind fun d=>
 some (d,0)))
def jk2 (b a:Int):Option ((Int×Int)):=
 let g:=(w64 (b+a))
 let f:=(w64 (g+864000))
 let c:=(w64 (Int.tdiv f 86400))
 let d:=(w64 (c-10))
 let e:=(Int.tmod f 86400)
 some (d,e)
def j4p [LP] (a:Tn52) (b:Int):Option ((Int×Int)×Int):=
 (jbj (a.1,(a.2.1,a.2.2)) b).bind fun c=>
 cond (c.2 != 0) (
 some ((0,0),c.2)) (
 (jk2 b c.1).bind fun d=>
 some ((d.1,d.2),0))
def jbk [LP] (b:Tn52) (a:Tn59) (d:Int):Option (Int×Bool):=
 cond (a.2.2.2.1==0) (
 (j5z (b.1,(b.2.1,b.2.2)) (a.2.2.1.1,a.2.2.1.2)).bind fun e=>
 let k:=(w64 (d*a.2.2.2.2.1))
 let j:=(w64 (k*3600))
 let m:=(w64 (e.1+j))
 let n:=(w64 (e.1+j))
 some (m,(cond (e.2==0) (decide (n≤8589934592)) false))) (
 let i:=(w64 (d*a.2.2.2.2.1))
 cond (a.2.2.2.1==2) (
 let l:=(w64 (i*7))
 let o:=(w64 (a.2.2.1.1+l))
 (j5z (b.1,(b.2.1,b.2.2)) (o,a.2.2.1.2)).bind fun g=>
 some (g.1,(g.2==0))) (
 let f:=(w64 (a.2.2.1.1+i))
 (j5z (b.1,(b.2.1,b.2.2)) (f,a.2.2.1.2)).bind fun c=>
 some (c.1,(c.2==0))))
def j6i [LP] (p d:Int) (q:ByteArray) (m:Int) (i:Tn42) (r:ByteArray) (k l c n j:Int) (g:(List Int)) (b:Tn2) (e f:Int):Option ((Int×Int×ByteArray×Int×Tn42×ByteArray×Int×Int×Int×Int×Int×(List Int)×Tn2×Int×Int) ⊕ (Int)):=
 cond (decide (d≥0)) (
 (jbk (q,(m,i)) (r,(k,((l,c),(n,(j,(g,(b,(e,f)))))))) d).bind fun a=>
 cond (cond a.2 (decide (a.1≤p)) false) (
 some (.inr d)) (
 let o:=(w64 (d-1))
 some (.inl (p,o,q,m,i,r,k,l,c,n,j,g,b,e,f)))) (
 some (.inr d))
def j7J [LP] (m n o k f p i j b l g e a c d):=LP.lp (fun h=>j6i h.1 h.2.1 h.2.2.1 h.2.2.2.1 h.2.2.2.2.1 h.2.2.2.2.2.1 h.2.2.2.2.2.2.1 h.2.2.2.2.2.2.2.1 h.2.2.2.2.2.2.2.2.1 h.2.2.2.2.2.2.2.2.2.1 h.2.2.2.2.2.2.2.2.2.2.1 h.2.2.2.2.2.2.2.2.2.2.2.1 h.2.2.2.2.2.2.2.2.2.2.2.2.1 h.2.2.2.2.2.2.2.2.2.2.2.2.2.1 h.2.2.2.2.2.2.2.2.2.2.2.2.2.2) (m,n,o,k,f,p,i,j,b,l,g,e,a,c,d)
theorem jh6 (m n o k f p i j b l g e a c d):j7J m n o k f p i j b l g e a c d=lpK (j6i m n o k f p i j b l g e a c d) (fun h=>j7J h.1 h.2.1 h.2.2.1 h.2.2.2.1 h.2.2.2.2.1 h.2.2.2.2.2.1 h.2.2.2.2.2.2.1 h.2.2.2.2.2.2.2.1 h.2.2.2.2.2.2.2.2.1 h.2.2.2.2.2.2.2.2.2.1 h.2.2.2.2.2.2.2.2.2.2.1 h.2.2.2.2.2.2.2.2.2.2.2.1 h.2.2.2.2.2.2.2.2.2.2.2.2.1 h.2.2.2.2.2.2.2.2.2.2.2.2.2.1 h.2.2.2.2.2.2.2.2.2.2.2.2.2.2):=j04 _ _
def jh7 [LP] (b:Tn52) (a:Tn59) (c:Int):Option (Int):=
 cond (a.2.2.2.1==0) (
 (j5z (b.1,(b.2.1,b.2.2)) (a.2.2.1.1,a.2.2.1.2)).bind fun e=>
 cond (cond (e.2==0) (decide (e.1≤c)) false) (
 let q:=(w64 (c-e.1))
 let j:=(w64 (3600*a.2.2.2.2.1))
 cond (!(j==0)) (
 let p:=(w64 (Int.tdiv q j))
 some p) none) (
 some (-1))) (
 (j4p (b.1,(b.2.1,b.2.2)) c).bind fun m=>
 cond (a.2.2.2.1==2) (
 let k:=(w64 (a.2.2.2.2.1*7))
 let r:=(w64 (m.1.1+2))
 let l:=(w64 (r-a.2.2.1.1))
 let o:Int:=(if 0>l then 0 else l:Int)
 cond (!(k==0)) (
 let s:=(w64 (Int.tdiv o k))
 (j7J c s b.1 b.2.1 b.2.2 a.1 a.2.1 a.2.2.1.1 a.2.2.1.2 a.2.2.2.1 a.2.2.2.2.1 a.2.2.2.2.2.1 a.2.2.2.2.2.2.1 a.2.2.2.2.2.2.2.1 a.2.2.2.2.2.2.2.2).bind fun t=>
 some t) none) (
 let f:=(w64 (m.1.1+2))
 let d:=(w64 (f-a.2.2.1.1))
 let g:Int:=(if 0>d then 0 else d:Int)
 cond (!(a.2.2.2.2.1==0)) (
 let i:=(w64 (Int.tdiv g a.2.2.2.2.1))
 (j7J c i b.1 b.2.1 b.2.2 a.1 a.2.1 a.2.2.1.1 a.2.2.1.2 a.2.2.2.1 a.2.2.2.2.1 a.2.2.2.2.2.1 a.2.2.2.2.2.2.1 a.2.2.2.2.2.2.2.1 a.2.2.2.2.2.2.2.2).bind fun n=>
 some n) none))
def jh8 [LP] (b:Tn52) (a:Tn59) (c:Int):Option (Int×Int):=
 (jh4 (b.1,(b.2.1,b.2.2)) (a.1,(a.2.1,((a.2.2.1.1,a.2.2.1.2),(a.2.2.2.1,(a.2.2.2.2.1,(a.2.2.2.2.2.1,(a.2.2.2.2.2.2.1,(a.2.2.2.2.2.2.2.1,a.2.2.2.2.2.2.2.2))))))))).bind fun e=>
 cond (e != 0) (
 some (0,8)) (
 cond (cond (decide (c<0)) true (decide (c>8589934592))) (
 some (0,1)) (
 (jh7 (b.1,(b.2.1,b.2.2)) (a.1,(a.2.1,((a.2.2.1.1,a.2.2.1.2),(a.2.2.2.1,(a.2.2.2.2.1,(a.2.2.2.2.2.1,(a.2.2.2.2.2.2.1,(a.2.2.2.2.2.2.2.1,a.2.2.2.2.2.2.2.2)))))))) c).bind fun d=>
 some (d,0)))
def jhY (a:(Int×Int)):Option (Int):=
 (jfq a.1).bind fun b=>
 let c:=(w64 (b*86400))
 let d:=(w64 (c+a.2))
 some d
def jct [LP] (a:Tn52) (c:Int):Option (Int×Int):=
 (j4p (a.1,(a.2.1,a.2.2)) c).bind fun b=>
 cond (b.2 != 0) (
 some (0,b.2)) (
 (jhY (b.1.1,b.1.2)).bind fun d=>
 some (d,0))
def j5B (b:Tn2) (d c:Int):Option ((Tn2×Int×Int) ⊕ (Bool ⊕ Unit)):=
 let g:=(Int.ofNat (List.length b))
 cond (decide (c<g)) (
 cond (inR c (List.length b)) (
 let a:=(List.getD b (Int.toNat c) (0,0))
 cond ((inR c (List.length b)) || !(decide (d≥a.1))) (
 let f:=(List.getD b (Int.toNat c) (0,0))
 cond (cond (decide (d≥a.1)) (decide (d<f.2)) false) (
 some (.inr (.inl true))) (
 let e:=(w64 (c+1))
 some (.inl (b,d,e)))) none) none) (
 some (.inr (.inr ())))
def j9G [LP] (c b a):=LP.lp (fun h=>j5B h.1 h.2.1 h.2.2) (c,b,a)
theorem jgg (c b a):j9G c b a=lpK (j5B c b a) (fun h=>j9G h.1 h.2.1 h.2.2):=j04 _ _
def jhZ [LP] (a:Tn2) (b:Int):Option (Bool):=
 (j9G a b 0).bind fun c=>
 sumC c (fun d=>
 some d) (fun e=>
 some false)
def jrG [LP] (a:Tn52) (b:Tn2) (d:Int):Option (Bool):=
 (jct (a.1,(a.2.1,a.2.2)) d).bind fun c=>
 cond (c.2==0) (
 (jeT b).bind fun e=>
 cond (e==0) (
 (jhZ b c.1).bind fun f=>
 some f) (
 some false)) (
 some false)
def j6Z (v:Int) (t:Bool) (b:Int) (w:ByteArray) (f l c k e:Int) (j:(List Int)) (g:Tn2) (i d:Int) (u:ByteArray) (m:Int) (a:(List Int)) (o n:Int):Option ((Int×Bool×Int×ByteArray×Int×Int×Int×Int×Int×(List Int)×Tn2×Int×Int×ByteArray×Int×(List Int)×Int×Int) ⊕ ((Int×Bool×ByteArray×Int×Int×Int×Int×Int×(List Int)×Tn2×Int×Int))):=
 let s:=(Int.ofNat (List.length a))
 cond (decide (b<s)) (
 cond t (
 let p:=(w64 (b+1))
 some (.inl (v,true,p,w,f,l,c,k,e,j,g,i,d,u,m,a,o,n))) (
 cond (inR b (List.length a)) (
 let q:=(List.getD a (Int.toNat b) 0)
 let r:=(w64 (b+1))
 some (.inl (v,(q==o),r,w,f,l,c,k,e,j,g,i,d,u,m,a,o,n))) none)) (
 some (.inr (v,t,w,f,l,c,k,e,j,g,i,d)))
def j96 [LP] (r n p s g m d l f k i j e o b a q c):=LP.lp (fun h=>j6Z h.1 h.2.1 h.2.2.1 h.2.2.2.1 h.2.2.2.2.1 h.2.2.2.2.2.1 h.2.2.2.2.2.2.1 h.2.2.2.2.2.2.2.1 h.2.2.2.2.2.2.2.2.1 h.2.2.2.2.2.2.2.2.2.1 h.2.2.2.2.2.2.2.2.2.2.1 h.2.2.2.2.2.2.2.2.2.2.2.1 h.2.2.2.2.2.2.2.2.2.2.2.2.1 h.2.2.2.2.2.2.2.2.2.2.2.2.2.1 h.2.2.2.2.2.2.2.2.2.2.2.2.2.2.1 h.2.2.2.2.2.2.2.2.2.2.2.2.2.2.2.1 h.2.2.2.2.2.2.2.2.2.2.2.2.2.2.2.2.1 h.2.2.2.2.2.2.2.2.2.2.2.2.2.2.2.2.2) (r,n,p,s,g,m,d,l,f,k,i,j,e,o,b,a,q,c)
theorem jin (r n p s g m d l f k i j e o b a q c):j96 r n p s g m d l f k i j e o b a q c=lpK (j6Z r n p s g m d l f k i j e o b a q c) (fun h=>j96 h.1 h.2.1 h.2.2.1 h.2.2.2.1 h.2.2.2.2.1 h.2.2.2.2.2.1 h.2.2.2.2.2.2.1 h.2.2.2.2.2.2.2.1 h.2.2.2.2.2.2.2.2.1 h.2.2.2.2.2.2.2.2.2.1 h.2.2.2.2.2.2.2.2.2.2.1 h.2.2.2.2.2.2.2.2.2.2.2.1 h.2.2.2.2.2.2.2.2.2.2.2.2.1 h.2.2.2.2.2.2.2.2.2.2.2.2.2.1 h.2.2.2.2.2.2.2.2.2.2.2.2.2.2.1 h.2.2.2.2.2.2.2.2.2.2.2.2.2.2.2.1 h.2.2.2.2.2.2.2.2.2.2.2.2.2.2.2.2.1 h.2.2.2.2.2.2.2.2.2.2.2.2.2.2.2.2.2):=j04 _ _
def jk3 [LP] (b:Tn71) (a:Tn59) (g:Int):Option (Int×Bool):=
 cond (inR a.2.1 (List.length b.1)) (
 let d:=(List.getD b.1 (Int.toNat a.2.1) (ByteArray.empty,(0,([]:Tn42))))
 (jh8 (d.1,(d.2.1,d.2.2)) (a.1,(a.2.1,((a.2.2.1.1,a.2.2.1.2),(a.2.2.2.1,(a.2.2.2.2.1,(a.2.2.2.2.2.1,(a.2.2.2.2.2.2.1,(a.2.2.2.2.2.2.2.1,a.2.2.2.2.2.2.2.2)))))))) g).bind fun e=>
 let n:=(Int.ofNat (List.length a.2.2.2.2.2.2.1))
 cond (cond (e.2 != 0) true (decide (e.1<0))) (
 cond ((!(decide (n>0))) || !(!true)) (
 some (0,false)) none) (
 cond (decide (n>0)) (
 (jrG (d.1,(d.2.1,d.2.2)) a.2.2.2.2.2.2.1 g).bind fun p=>
 cond (!p) (
 some (0,false)) (
 cond (a.2.2.2.2.2.2.2.2==0) (
 some (e.1,true)) (
 cond (inR a.2.2.2.2.2.2.2.1 (List.length b.2.2.1)) (
 let i:=(List.getD b.2.2.1 (Int.toNat a.2.2.2.2.2.2.2.1) (ByteArray.empty,(0,([]:(List Int)))))
 cond (inR i.2.1 (List.length b.1)) (
 let l:=(List.getD b.1 (Int.toNat i.2.1) (ByteArray.empty,(0,([]:Tn42))))
 (j4p (l.1,(l.2.1,l.2.2)) g).bind fun m=>
 (j96 e.1 false 0 a.1 a.2.1 a.2.2.1.1 a.2.2.1.2 a.2.2.2.1 a.2.2.2.2.1 a.2.2.2.2.2.1 a.2.2.2.2.2.2.1 a.2.2.2.2.2.2.2.1 a.2.2.2.2.2.2.2.2 i.1 i.2.1 i.2.2 m.1.1 m.1.2).bind fun o=>
 some (o.1,(o.2.1==(o.2.2.2.2.2.2.2.2.2.2.2==2)))) none) none))) (
 cond (a.2.2.2.2.2.2.2.2==0) (
 some (e.1,true)) (
 cond (inR a.2.2.2.2.2.2.2.1 (List.length b.2.2.1)) (
 let c:=(List.getD b.2.2.1 (Int.toNat a.2.2.2.2.2.2.2.1) (ByteArray.empty,(0,([]:(List Int)))))
 cond (inR c.2.1 (List.length b.1)) (
 let f:=(List.getD b.1 (Int.toNat c.2.1) (ByteArray.empty,(0,([]:Tn42))))
 (j4p (f.1,(f.2.1,f.2.2)) g).bind fun k=>
 (j96 e.1 false 0 a.1 a.2.1 a.2.2.1.1 a.2.2.1.2 a.2.2.2.1 a.2.2.2.2.1 a.2.2.2.2.2.1 a.2.2.2.2.2.2.1 a.2.2.2.2.2.2.2.1 a.2.2.2.2.2.2.2.2 c.1 c.2.1 c.2.2 k.1.1 k.1.2).bind fun j=>
 some (j.1,(j.2.1==(j.2.2.2.2.2.2.2.2.2.2.2==2)))) none) none)))) none
def jnh [LP] (b:Tn71) (a:Tn59) (f:Int):Option (Int):=
 (jk3 (b.1,(b.2.1,(b.2.2.1,b.2.2.2))) (a.1,(a.2.1,((a.2.2.1.1,a.2.2.1.2),(a.2.2.2.1,(a.2.2.2.2.1,(a.2.2.2.2.2.1,(a.2.2.2.2.2.2.1,(a.2.2.2.2.2.2.2.1,a.2.2.2.2.2.2.2.2)))))))) f).bind fun e=>
 cond (!e.2) (
 some (-1)) (
 let c:=(Int.ofNat (List.length a.2.2.2.2.2.1))
 cond (!(c==0)) (
 let d:=(Int.tmod e.1 c)
 cond (inR d (List.length a.2.2.2.2.2.1)) (
 let g:=(List.getD a.2.2.2.2.2.1 (Int.toNat d) 0)
 some g) none) none)
def j70 (i f c:Int) (k:ByteArray) (g:Tn60) (b:Tn29):Option ((Int×Int×Int×ByteArray×Tn60×Tn29) ⊕ (Bool ⊕ Unit)):=
 let e:=(Int.ofNat (List.length b))
 cond (decide (c<e)) (
 cond (inR c (List.length b)) (
 let a:=(List.getD b (Int.toNat c) (0,(0,(0,(0,0)))))
 let j:Bool:=(cond (cond (a.1==0) (a.2.1==i) false) (decide (a.2.2.2.1≤f)) false)
 cond (cond j (decide (f<a.2.2.2.2)) false) (
 some (.inr (.inl true))) (
 let d:=(w64 (c+1))
 some (.inl (i,f,d,k,g,b)))) none) (
 some (.inr (.inr ())))
def jcR [LP] (c d e f b a):=LP.lp (fun h=>j70 h.1 h.2.1 h.2.2.1 h.2.2.2.1 h.2.2.2.2.1 h.2.2.2.2.2) (c,d,e,f,b,a)
theorem jio (c d e f b a):jcR c d e f b a=lpK (j70 c d e f b a) (fun h=>jcR h.1 h.2.1 h.2.2.1 h.2.2.2.1 h.2.2.2.2.1 h.2.2.2.2.2):=j04 _ _
def jmz [LP] (b:Tn64) (a c:Int):Option (Bool):=
 (jcR a c 0 b.1 b.2.1 b.2.2).bind fun d=>
 sumC d (fun e=>
 some e) (fun f=>
 some false)
def j7K [LP] (j i:Int) (n:Tn54) (f:Tn48) (d:Tn26) (g:Tn65) (o:ByteArray) (b:Tn60) (e:Tn29):Option ((Int×Int×Tn54×Tn48×Tn26×Tn65×ByteArray×Tn60×Tn29) ⊕ ((Int×Int) ⊕ Unit)):=
 cond (decide (i≥0)) (
 cond (inR i (List.length b)) (
 let a:=(List.getD b (Int.toNat i) (ByteArray.empty,(0,((0,0),(0,(0,(([]:(List Int)),(([]:Tn2),(0,0)))))))))
 (jnh (n,(f,(d,g))) (a.1,(a.2.1,((a.2.2.1.1,a.2.2.1.2),(a.2.2.2.1,(a.2.2.2.2.1,(a.2.2.2.2.2.1,(a.2.2.2.2.2.2.1,(a.2.2.2.2.2.2.2.1,a.2.2.2.2.2.2.2.2)))))))) j).bind fun c=>
 cond (decide (c≥0)) (
 (jmz (o,(b,e)) c j).bind fun k=>
 cond (!k) (
 some (.inr (.inl (i,c)))) (
 let m:=(w64 (i-1))
 some (.inl (j,m,n,f,d,g,o,b,e)))) (
 let l:=(w64 (i-1))
 some (.inl (j,l,n,f,d,g,o,b,e)))) none) (
 some (.inr (.inr ())))
def jeU [LP] (f g i d b e j a c):=LP.lp (fun h=>j7K h.1 h.2.1 h.2.2.1 h.2.2.2.1 h.2.2.2.2.1 h.2.2.2.2.2.1 h.2.2.2.2.2.2.1 h.2.2.2.2.2.2.2.1 h.2.2.2.2.2.2.2.2) (f,g,i,d,b,e,j,a,c)
theorem jk4 (f g i d b e j a c):jeU f g i d b e j a c=lpK (j7K f g i d b e j a c) (fun h=>jeU h.1 h.2.1 h.2.2.1 h.2.2.2.1 h.2.2.2.2.1 h.2.2.2.2.2.1 h.2.2.2.2.2.2.1 h.2.2.2.2.2.2.2.1 h.2.2.2.2.2.2.2.2):=j04 _ _
def jpZ [LP] (b:Tn71) (a d:Int):Option (Int×Int):=
 cond (inR a (List.length b.2.2.2)) (
 let c:=(List.getD b.2.2.2 (Int.toNat a) (ByteArray.empty,(([]:Tn60),([]:Tn29))))
 let f:=(Int.ofNat (List.length c.2.1))
 let e:=(w64 (f-1))
 (jeU d e b.1 b.2.1 b.2.2.1 b.2.2.2 c.1 c.2.1 c.2.2).bind fun g=>
 sumC g (fun i=>
 some (i.1,i.2)) (fun j=>
 some ((-1),(-1)))) none
def j71 (c:Tn29) (e d b:Int):Option ((Tn29×Int×Int×Int) ⊕ (Int)):=
 let g:=(Int.ofNat (List.length c))
 cond (decide (b<g)) (
 cond (inR b (List.length c)) (
 let a:=(List.getD c (Int.toNat b) (0,(0,(0,(0,0)))))
 cond (cond (decide (d<a.2.2.2.1)) true (decide (d≥a.2.2.2.2))) (
 let i:=(w64 (b+1))
 some (.inl (c,e,d,i))) (
 cond (a.1==1) (
 let l:=(w64 (b+1))
 some (.inl (c,a.2.1,d,l))) (
 cond (cond (a.1==2) (e==a.2.1) false) (
 let f:=(w64 (b+1))
 some (.inl (c,a.2.2.1,d,f))) (
 cond (cond (a.1==2) (e==a.2.2.1) false) (
 let k:=(w64 (b+1))
 some (.inl (c,a.2.1,d,k))) (
 let j:=(w64 (b+1))
 some (.inl (c,e,d,j))))))) none) (
 some (.inr e))
def jcS [LP] (d a b c):=LP.lp (fun h=>j71 h.1 h.2.1 h.2.2.1 h.2.2.2) (d,a,b,c)
theorem jip (d a b c):jcS d a b c=lpK (j71 d a b c) (fun h=>jcS h.1 h.2.1 h.2.2.1 h.2.2.2):=j04 _ _
def jq0 [LP] (b:Tn29) (a c:Int):Option (Int):=
 (jcS b a c 0).bind fun d=>
 some d
def jte [LP] (b:Tn71) (a c:Int):Option (Int):=
 (jpZ (b.1,(b.2.1,(b.2.2.1,b.2.2.2))) a c).bind fun f=>
 cond (inR a (List.length b.2.2.2)) (
 let d:=(List.getD b.2.2.2 (Int.toNat a) (ByteArray.empty,(([]:Tn60),([]:Tn29))))
 (jq0 d.2.2 f.2 c).bind fun e=>
 some e) none
def jtf [LP] (a:Tn71) (b c:Int):Option (Int):=
 (jxy (a.1,(a.2.1,(a.2.2.1,a.2.2.2))) b c).bind fun d=>
 cond (!d) (
 some (-1)) (
 (jte (a.1,(a.2.1,(a.2.2.1,a.2.2.2))) b c).bind fun e=>
 some e)
def jft [LP] (b:Tn71) (a c:Int):Option (Int):=
 (jtf (b.1,(b.2.1,(b.2.2.1,b.2.2.2))) a c).bind fun d=>
 some d
def j27 [LP] (i:(List Int)) (a:Int) (j:Tn54) (b:Tn48) (c:Tn26) (d:Tn65):Option (((List Int)×Int×Tn54×Tn48×Tn26×Tn65) ⊕ (Bool ⊕ Unit)):=
 cond (decide (a<6)) (
 cond (inR a 6) (
 let e:=(List.getD i (Int.toNat a) 0)
 (jft (j,(b,(c,d))) 0 e).bind fun g=>
 cond (decide (g<0)) (
 some (.inr (.inl false))) (
 let f:=(w64 (a+1))
 some (.inl (i,f,j,b,c,d)))) none) (
 some (.inr (.inr ())))
def j3e [LP] (d e f a b c):=LP.lp (fun h=>j27 h.1 h.2.1 h.2.2.1 h.2.2.2.1 h.2.2.2.2.1 h.2.2.2.2.2) (d,e,f,a,b,c)
theorem j7L (d e f a b c):j3e d e f a b c=lpK (j27 d e f a b c) (fun h=>j3e h.1 h.2.1 h.2.2.1 h.2.2.2.1 h.2.2.2.2.1 h.2.2.2.2.2):=j04 _ _
def j28 [LP] (l g:Int) (d:(List Int)) (b:Int) (m:Tn54) (c:Tn48) (e:Tn26) (f:Tn65):Option ((Int×Int×(List Int)×Int×Tn54×Tn48×Tn26×Tn65) ⊕ (Bool ⊕ Unit)):=
 cond (decide (b<4)) (
 cond (inR b 4) (
 let a:=(List.getD d (Int.toNat b) 0)
 cond (cond (decide (a≥l)) (decide (a<g)) false) (
 (jft (m,(c,(e,f))) 0 a).bind fun k=>
 cond (decide (k<0)) (
 some (.inr (.inl false))) (
 let i:=(w64 (b+1))
 some (.inl (l,g,d,i,m,c,e,f)))) (
 let j:=(w64 (b+1))
 some (.inl (l,g,d,j,m,c,e,f)))) none) (
 some (.inr (.inr ())))
def j3f [LP] (g f b d i a c e):=LP.lp (fun h=>j28 h.1 h.2.1 h.2.2.1 h.2.2.2.1 h.2.2.2.2.1 h.2.2.2.2.2.1 h.2.2.2.2.2.2.1 h.2.2.2.2.2.2.2) (g,f,b,d,i,a,c,e)
theorem j7M (g f b d i a c e):j3f g f b d i a c e=lpK (j28 g f b d i a c e) (fun h=>j3f h.1 h.2.1 h.2.2.1 h.2.2.2.1 h.2.2.2.2.1 h.2.2.2.2.2.1 h.2.2.2.2.2.2.1 h.2.2.2.2.2.2.2):=j04 _ _
def j7N [LP] (f:(List Int)) (e d:Int):Option (Bool):=
 (jl4 f).bind fun p=>
 cond (!p) (
 (j88).bind fun o=>
 some o) (
 (jne f).bind fun g=>
 (j8Y g.1 g.2 1).bind fun a=>
 (j6e a.2.1 a.2.2).bind fun b=>
 (j2T (a.1.1,(a.1.2.1,(a.1.2.2.1,a.1.2.2.2))) 0).bind fun y=>
 let a6:=(w64 (y-b.1))
 cond (decide (a6>103680000)) (
 (j88).bind fun a2=>
 some a2) (
 (j1I (a.1.1,(a.1.2.1,(a.1.2.2.1,a.1.2.2.2))) 0 b.1).bind fun c=>
 cond (c.2.2 != 0) (
 some false) (
 cond c.2.1 (
 (jc9 e 259200000).bind fun a4=>
 let a7:=(w64 (b.1+a4))
 (jc9 d 86400).bind fun a9=>
 let a1:=(w64 (b.1+a9))
 let a5:=(w64 (8589934592-b.1))
 (jc9 e a5).bind fun a0=>
 let r:=(w64 (a0+b.1))
 let u:=(w64 (8589934592-b.1))
 (jc9 d u).bind fun b0=>
 let v:=(w64 (b0+b.1))
 let b1:(List Int):=[b.1,a7,a1,r,v,8589934591]
 (j3e b1 0 a.1.1 a.1.2.1 a.1.2.2.1 a.1.2.2.2).bind fun b3=>
 sumC b3 (fun b5=>
 some b5) (fun b6=>
 (j88).bind fun s=>
 some s)) (
 cond (cond (decide (c.1<b.1)) true (decide (c.1≥8589934592))) (
 some false) (
 (jft (a.1.1,(a.1.2.1,(a.1.2.2.1,a.1.2.2.2))) 0 c.1).bind fun x=>
 cond (x != (-1)) (
 some false) (
 let a8:=(w64 (c.1-b.1))
 let q:=(w64 (a8+1))
 (jc9 e q).bind fun a3=>
 let t:=(w64 (b.1+a3))
 let w:=(w64 (c.1-b.1))
 let i:=(w64 (w+1))
 (jc9 d i).bind fun l=>
 let k:=(w64 (b.1+l))
 let n:=(w64 (c.1-1))
 let m:(List Int):=[t,k,n,b.1]
 (j3f b.1 c.1 m 0 a.1.1 a.1.2.1 a.1.2.2.1 a.1.2.2.2).bind fun b2=>
 sumC b2 (fun z=>
 some z) (fun b4=>
 (j88).bind fun j=>
 some j)))))))
def j3A (a:(Int×Int)):Option (Int):=
 (j6u a.1).bind fun b=>
 let c:=(w64 (b*86400))
 let d:=(w64 (c+a.2))
 some d
def j72 (d:Int) (e:Tn2) (f b:Int):Option ((Int×Tn2×Int×Int) ⊕ (Bool ⊕ Unit)):=
 cond (decide (b<f)) (
 cond (inR b (List.length e)) (
 let a:=(List.getD e (Int.toNat b) (0,0))
 cond (cond (decide (a.1≤d)) (decide (d<a.2)) false) (
 some (.inr (.inl true))) (
 let c:=(w64 (b+1))
 some (.inl (d,e,f,c)))) none) (
 some (.inr (.inr ())))
def jfu [LP] (a b d c):=LP.lp (fun h=>j72 h.1 h.2.1 h.2.2.1 h.2.2.2) (a,b,d,c)
theorem jiq (a b d c):jfu a b d c=lpK (j72 a b d c) (fun h=>jfu h.1 h.2.1 h.2.2.1 h.2.2.2):=j04 _ _
def jmA [LP] (a:Tn2) (b:Int):Option (Bool):=
 let c:=(Int.ofNat (List.length a))
 (jfu b a c 0).bind fun d=>
 sumC d (fun e=>
 some e) (fun f=>
 some false)
def j7O [LP] (b:Tn73) (a:Tn59) (c:Int):Option (Int×Bool):=
 cond (cond (decide (c<0)) true (decide (c>8589934592))) (
 some (0,false)) (
 cond (inR a.2.1 (List.length b.2)) (
 let f:=(List.getD b.2 (Int.toNat a.2.1) (0,([]:Tn2)))
 (j23 (f.1,f.2) (a.1,(a.2.1,((a.2.2.1.1,a.2.2.1.2),(a.2.2.2.1,(a.2.2.2.2.1,(a.2.2.2.2.2.1,(a.2.2.2.2.2.2.1,(a.2.2.2.2.2.2.2.1,a.2.2.2.2.2.2.2.2)))))))) c).bind fun e=>
 cond (decide (e<0)) (
 some (0,false)) (
 let p:=(Int.ofNat (List.length a.2.2.2.2.2.2.1))
 cond (decide (p>0)) (
 (j0n (f.1,f.2) c).bind fun m=>
 (j3A (m.1,m.2)).bind fun q=>
 (jmA a.2.2.2.2.2.2.1 q).bind fun r=>
 cond (!r) (
 some (0,false)) (
 cond (a.2.2.2.2.2.2.2.2==0) (
 some (e,true)) (
 cond (inR a.2.2.2.2.2.2.2.1 (List.length b.1.2.2.1)) (
 let i:=(List.getD b.1.2.2.1 (Int.toNat a.2.2.2.2.2.2.2.1) (ByteArray.empty,(0,([]:(List Int)))))
 cond (inR i.2.1 (List.length b.2)) (
 let l:=(List.getD b.2 (Int.toNat i.2.1) (0,([]:Tn2)))
 (j0n (l.1,l.2) c).bind fun o=>
 (j0i i.2.2 o.1).bind fun n=>
 some (e,(n.2==(a.2.2.2.2.2.2.2.2==2)))) none) none))) (
 cond (a.2.2.2.2.2.2.2.2==0) (
 some (e,true)) (
 cond (inR a.2.2.2.2.2.2.2.1 (List.length b.1.2.2.1)) (
 let d:=(List.getD b.1.2.2.1 (Int.toNat a.2.2.2.2.2.2.2.1) (ByteArray.empty,(0,([]:(List Int)))))
 cond (inR d.2.1 (List.length b.2)) (
 let g:=(List.getD b.2 (Int.toNat d.2.1) (0,([]:Tn2)))
 (j0n (g.1,g.2) c).bind fun j=>
 (j0i d.2.2 j.1).bind fun k=>
 some (e,(k.2==(a.2.2.2.2.2.2.2.2==2)))) none) none)))) none)
def j4q [LP] (b:Tn73) (a:Tn59) (f:Int):Option (Int):=
 (j7O ((b.1.1,(b.1.2.1,(b.1.2.2.1,b.1.2.2.2))),b.2) (a.1,(a.2.1,((a.2.2.1.1,a.2.2.1.2),(a.2.2.2.1,(a.2.2.2.2.1,(a.2.2.2.2.2.1,(a.2.2.2.2.2.2.1,(a.2.2.2.2.2.2.2.1,a.2.2.2.2.2.2.2.2)))))))) f).bind fun e=>
 cond (!e.2) (
 some (-1)) (
 let c:=(Int.ofNat (List.length a.2.2.2.2.2.1))
 cond (!(c==0)) (
 let d:=(Int.tmod e.1 c)
 cond (inR d (List.length a.2.2.2.2.2.1)) (
 let g:=(List.getD a.2.2.2.2.2.1 (Int.toNat d) 0)
 some g) none) none)
def jfv (a:Tn24) (d c:Int):Option (Bool):=
 let b:Bool:=(cond (cond (a.1==0) (a.2.1==d) false) (decide (a.2.2.2.1≤c)) false)
 some (cond b (decide (c<a.2.2.2.2)) false)
def j0O (f:Tn29) (g b i c:Int):Option ((Tn29×Int×Int×Int×Int) ⊕ (Int ⊕ Unit)):=
 cond (decide (c<i)) (
 cond (inR c (List.length f)) (
 let a:=(List.getD f (Int.toNat c) (0,(0,(0,(0,0)))))
 (jfv (a.1,(a.2.1,(a.2.2.1,(a.2.2.2.1,a.2.2.2.2)))) g b).bind fun e=>
 cond e (
 some (.inr (.inl c))) (
 let d:=(w64 (c+1))
 some (.inl (f,g,b,i,d)))) none) (
 some (.inr (.inr ())))
def j14 [LP] (d b a c e):=LP.lp (fun h=>j0O h.1 h.2.1 h.2.2.1 h.2.2.2.1 h.2.2.2.2) (d,b,a,c,e)
theorem j3W (d b a c e):j14 d b a c e=lpK (j0O d b a c e) (fun h=>j14 h.1 h.2.1 h.2.2.1 h.2.2.2.1 h.2.2.2.2):=j04 _ _
def j3g [LP] (b:Tn29) (c a:Int):Option (Int):=
 let e:=(Int.ofNat (List.length b))
 (j14 b c a e 0).bind fun d=>
 sumC d (fun f=>
 some f) (fun g=>
 some (-1))
def j2L [LP] (b:Tn29) (c a:Int):Option (Bool):=
 (j3g b c a).bind fun d=>
 some (decide (d≥0))
def ji0 [LP] (c:Tn64) (a b:Int):Option (Bool):=
 (j2L c.2.2 a b).bind fun d=>
 some d
def j4b [LP] (l:Int) (k:Tn60) (o:Tn54) (f:Tn48) (c:Tn26) (i:Tn65) (g:Tn20) (p:ByteArray) (d:Tn60) (e:Tn29) (m q r:Int):Option ((Int×Tn60×Tn54×Tn48×Tn26×Tn65×Tn20×ByteArray×Tn60×Tn29×Int×Int×Int) ⊕ ((Int×Int) ⊕ (Int×Int))):=
 cond (decide (l≤0)) (
 some (.inr (.inl (q,r)))) (
 cond (decide (l≤Int.ofNat (List.length k))) (
 let j:Int:=(l-1)
 let a:=(List.getD k (Int.toNat j) (ByteArray.empty,(0,((0,0),(0,(0,(([]:(List Int)),(([]:Tn2),(0,0)))))))))
 (j4q ((o,(f,(c,i))),g) (a.1,(a.2.1,((a.2.2.1.1,a.2.2.1.2),(a.2.2.2.1,(a.2.2.2.2.1,(a.2.2.2.2.2.1,(a.2.2.2.2.2.2.1,(a.2.2.2.2.2.2.2.1,a.2.2.2.2.2.2.2.2)))))))) m).bind fun b=>
 cond (decide (b<0)) (
 some (.inl ((l-1),k,o,f,c,i,g,p,d,e,m,q,r))) (
 (ji0 (p,(d,e)) b m).bind fun n=>
 cond (!n) (
 some (.inr (.inr (j,b)))) (
 some (.inl ((l-1),k,o,f,c,i,g,p,d,e,m,q,r))))) none)
def j8Z [LP] (i g j d a f e k b c n l m):=LP.lp (fun h=>j4b h.1 h.2.1 h.2.2.1 h.2.2.2.1 h.2.2.2.2.1 h.2.2.2.2.2.1 h.2.2.2.2.2.2.1 h.2.2.2.2.2.2.2.1 h.2.2.2.2.2.2.2.2.1 h.2.2.2.2.2.2.2.2.2.1 h.2.2.2.2.2.2.2.2.2.2.1 h.2.2.2.2.2.2.2.2.2.2.2.1 h.2.2.2.2.2.2.2.2.2.2.2.2) (i,g,j,d,a,f,e,k,b,c,n,l,m)
theorem jcT (i g j d a f e k b c n l m):j8Z i g j d a f e k b c n l m=lpK (j4b i g j d a f e k b c n l m) (fun h=>j8Z h.1 h.2.1 h.2.2.1 h.2.2.2.1 h.2.2.2.2.1 h.2.2.2.2.2.1 h.2.2.2.2.2.2.1 h.2.2.2.2.2.2.2.1 h.2.2.2.2.2.2.2.2.1 h.2.2.2.2.2.2.2.2.2.1 h.2.2.2.2.2.2.2.2.2.2.1 h.2.2.2.2.2.2.2.2.2.2.2.1 h.2.2.2.2.2.2.2.2.2.2.2.2):=j04 _ _
def jk5 [LP] (a:Tn73) (b:Tn64) (d:Int):Option (Int×Int):=
 (j22 b.2.1).bind fun c=>
 (j8Z (Int.ofNat (List.length c)) c a.1.1 a.1.2.1 a.1.2.2.1 a.1.2.2.2 a.2 b.1 b.2.1 b.2.2 d 0 0).bind fun e=>
 sumC e (fun g=>
 some ((-1),(-1))) (fun f=>
 some (f.1,f.2))
def jpc [LP] (a:Tn73) (b:Tn64) (c:Int):Option (Int):=
 cond (cond (decide (c<0)) true (decide (c>8589934592))) (
 some (-1)) (
 (jk5 ((a.1.1,(a.1.2.1,(a.1.2.2.1,a.1.2.2.2))),a.2) (b.1,(b.2.1,b.2.2)) c).bind fun d=>
 (jb2 b.2.2 d.2 c).bind fun e=>
 some e)
def juO [LP] (a:Tn71) (b e:Int):Option (Int):=
 (jfn (a.1,(a.2.1,(a.2.2.1,a.2.2.2)))).bind fun c=>
 cond (!c.2) (
 some (-1)) (
 (jau (a.1,(a.2.1,(a.2.2.1,a.2.2.2))) b).bind fun g=>
 cond (!g) (
 some (-1)) (
 cond (inR b (List.length a.2.2.2)) (
 let d:=(List.getD a.2.2.2 (Int.toNat b) (ByteArray.empty,(([]:Tn60),([]:Tn29))))
 (jpc ((c.1.1.1,(c.1.1.2.1,(c.1.1.2.2.1,c.1.1.2.2.2))),c.1.2) (d.1,(d.2.1,d.2.2)) e).bind fun f=>
 some f) none))
def jvL [LP] (b:Tn71) (a c:Int):Option (Int):=
 (juO (b.1,(b.2.1,(b.2.2.1,b.2.2.2))) a c).bind fun d=>
 some d
end
end Go.Proofs.Pw
