/- Plain functions, printed by a program out of the given code. -/
import Derived.Test.YthpdddnkpjnllaaGreatGLS
open Go Go.Lft
set_option linter.unusedVariables false
namespace Go.Proofs.Pw
noncomputable section
abbrev Tn2:Type:=(List (Int×Int))
abbrev Tn1:Type:=(Int×(List Int))
abbrev Tn3:Type:=(Int×(Int×Int))
abbrev Tn14:Type:=(List Tn3)
abbrev Tn13:Type:=(Int×Tn2)
abbrev Tn19:Type:=(ByteArray×Tn1)
abbrev Tn20:Type:=(List Tn13)
abbrev Tn24:Type:=(Int×(Int×Tn3))
abbrev Tn26:Type:=(List Tn19)
abbrev Tn29:Type:=(List Tn24)
abbrev Tn38:Type:=(Int×(Int×Tn24))
abbrev Tn42:Type:=(List Tn38)
abbrev Tn44:Type:=(ByteArray×(Int×(Tn2×(Int×(Int×Bool)))))
abbrev Tn48:Type:=(List Tn44)
abbrev Tn52:Type:=(ByteArray×(Int×Tn42))
abbrev Tn54:Type:=(List Tn52)
abbrev Tn59:Type:=(ByteArray×(Int×((Int×Int)×(Int×(Int×((List Int)×(Tn2×(Int×Int))))))))
abbrev Tn60:Type:=(List Tn59)
abbrev Tn64:Type:=(ByteArray×(Tn60×Tn29))
abbrev Tn65:Type:=(List Tn64)
abbrev Tn71:Type:=(Tn54×(Tn48×(Tn26×Tn65)))
abbrev Tn73:Type:=(Tn71×Tn20)
abbrev unc2 {A0 A1 R:Type} (f:A0→A1→R) (h:A0×A1):R:=f h.1 h.2
abbrev unc4 {A0 A1 A2 A3 R:Type} (f:A0→A1→A2→A3→R) (h:A0×A1×A2×A3):R:=f h.1 h.2.1 h.2.2.1 h.2.2.2
abbrev unc5 {A0 A1 A2 A3 A4 R:Type} (f:A0→A1→A2→A3→A4→R) (h:A0×A1×A2×A3×A4):R:=f h.1 h.2.1 h.2.2.1 h.2.2.2.1 h.2.2.2.2
abbrev unc6 {A0 A1 A2 A3 A4 A5 R:Type} (f:A0→A1→A2→A3→A4→A5→R) (h:A0×A1×A2×A3×A4×A5):R:=f h.1 h.2.1 h.2.2.1 h.2.2.2.1 h.2.2.2.2.1 h.2.2.2.2.2
abbrev unc7 {A0 A1 A2 A3 A4 A5 A6 R:Type} (f:A0→A1→A2→A3→A4→A5→A6→R) (h:A0×A1×A2×A3×A4×A5×A6):R:=f h.1 h.2.1 h.2.2.1 h.2.2.2.1 h.2.2.2.2.1 h.2.2.2.2.2.1 h.2.2.2.2.2.2
abbrev unc8 {A0 A1 A2 A3 A4 A5 A6 A7 R:Type} (f:A0→A1→A2→A3→A4→A5→A6→A7→R) (h:A0×A1×A2×A3×A4×A5×A6×A7):R:=f h.1 h.2.1 h.2.2.1 h.2.2.2.1 h.2.2.2.2.1 h.2.2.2.2.2.1 h.2.2.2.2.2.2.1 h.2.2.2.2.2.2.2
abbrev jAE {A0 A1 A2 A3 A4 A5 A6 A7 A8 A9 R:Type} (f:A0→A1→A2→A3→A4→A5→A6→A7→A8→A9→R) (h:A0×A1×A2×A3×A4×A5×A6×A7×A8×A9):R:=f h.1 h.2.1 h.2.2.1 h.2.2.2.1 h.2.2.2.2.1 h.2.2.2.2.2.1 h.2.2.2.2.2.2.1 h.2.2.2.2.2.2.2.1 h.2.2.2.2.2.2.2.2.1 h.2.2.2.2.2.2.2.2.2
abbrev jzL {A0 A1 A2 A3 A4 A5 A6 A7 A8 A9 A10 A11 A12 R:Type} (f:A0→A1→A2→A3→A4→A5→A6→A7→A8→A9→A10→A11→A12→R) (h:A0×A1×A2×A3×A4×A5×A6×A7×A8×A9×A10×A11×A12):R:=f h.1 h.2.1 h.2.2.1 h.2.2.2.1 h.2.2.2.2.1 h.2.2.2.2.2.1 h.2.2.2.2.2.2.1 h.2.2.2.2.2.2.2.1 h.2.2.2.2.2.2.2.2.1 h.2.2.2.2.2.2.2.2.2.1 h.2.2.2.2.2.2.2.2.2.2.1 h.2.2.2.2.2.2.2.2.2.2.2.1 h.2.2.2.2.2.2.2.2.2.2.2.2
abbrev jzM {A0 A1 A2 A3 A4 A5 A6 A7 A8 A9 A10 A11 A12 A13 R:Type} (f:A0→A1→A2→A3→A4→A5→A6→A7→A8→A9→A10→A11→A12→A13→R) (h:A0×A1×A2×A3×A4×A5×A6×A7×A8×A9×A10×A11×A12×A13):R:=f h.1 h.2.1 h.2.2.1 h.2.2.2.1 h.2.2.2.2.1 h.2.2.2.2.2.1 h.2.2.2.2.2.2.1 h.2.2.2.2.2.2.2.1 h.2.2.2.2.2.2.2.2.1 h.2.2.2.2.2.2.2.2.2.1 h.2.2.2.2.2.2.2.2.2.2.1 h.2.2.2.2.2.2.2.2.2.2.2.1 h.2.2.2.2.2.2.2.2.2.2.2.2.1 h.2.2.2.2.2.2.2.2.2.2.2.2.2
def jke (a:(List Int)):Option (Bool):=
 let b:=(Int.ofNat (List.length a))
 some (decide (b≤500))
def jkf (a:Bool):Option (Tn71):=
 let k:Tn54:=[((ByteArray.mk #[122]),(0,([]:Tn42)))]
 let e:Tn48:=[((ByteArray.mk #[97]),(0,(([]:Tn2),(0,(0,false))))),((ByteArray.mk #[98]),(0,(([]:Tn2),(0,(0,false)))))]
 let d:(List Int):=[0,1]
 let l:Tn2:=[(0,432000)]
 let b:Tn60:=[((ByteArray.mk #[108,111,119]),(0,((4,0),(2,(1,(d,(l,(0,0))))))))]
 cond a (
 let i:Tn2:=[(432000,604800)]
 let f:Tn60:=[((ByteArray.mk #[101,110,100]),(0,((4,0),(2,(1,(d,(i,(0,0))))))))]
 cond (decide (List.length b+List.length f≤j0c)) (
 let g:Tn60:=(b++f)
 let j:Tn65:=[((ByteArray.mk #[115]),(g,([]:Tn29)))]
 some (k,(e,(([]:Tn26),j)))) none) (
 let c:Tn65:=[((ByteArray.mk #[115]),(b,([]:Tn29)))]
 some (k,(e,(([]:Tn26),c))))
def jaw (a:Tn52):Option (ByteArray):=
 some a.1
def jbB (a:Int):Option (Bool):=
 some (cond (decide (a≥97)) (decide (a≤122)) false)
def jhV (a:Int):Option (Bool):=
 some (cond (decide (a≥48)) (decide (a≤57)) false)
def j6a (d:ByteArray) (c b:Int):Option ((ByteArray×Int×Int) ⊕ (Bool ⊕ Unit)):=
 cond (decide (b<c)) (
 cond (inR b (ByteArray.size d)) (
 let a:=(j2d d b)
 (jbB a).bind fun g=>
 cond (!g) (
 (jhV a).bind fun i=>
 cond (cond (cond (!i) (a != 95) false) (a != 45) false) (
 some (.inr (.inl false))) (
 let e:=(w64 (b+1))
 some (.inl (d,c,e)))) (
 let f:=(w64 (b+1))
 some (.inl (d,c,f)))) none) (
 some (.inr (.inr ())))
def j5r [LP] (c a b):=LP.lp (fun h=>j6a h.1 h.2.1 h.2.2) (c,a,b)
theorem jl1 (c a b):j5r c a b=lpK (j6a c a b) (fun h=>j5r h.1 h.2.1 h.2.2):=j05 _ _
def j62 [LP] (a:ByteArray):Option (Bool):=
 let g:=(Int.ofNat (ByteArray.size a))
 let b:Bool:=(cond (ByteArray.toList a==ByteArray.toList ByteArray.empty) true (decide (g>24)))
 cond ((inR 0 (ByteArray.size a)) || !(!b)) (
 let e:=(j2d a 0)
 cond b (
 some false) (
 (jbB e).bind fun d=>
 cond (!d) (
 some false) (
 let c:=(Int.ofNat (ByteArray.size a))
 (j5r a c 0).bind fun f=>
 sumC f (fun i=>
 some i) (fun j=>
 some true)))) none
def j3c [LP] (b:ByteArray) (a:(List (ByteArray×Bool))):Option (Int×(List (ByteArray×Bool))):=
 (j62 b).bind fun d=>
 cond (!d) (
 some (2,a)) (
 cond (jbx false a b) (
 some (4,a)) (
 let c:(List (ByteArray×Bool)):=(jcV a b true)
 some (0,c)))
def jax (a c b:Int):Option (Bool):=
 some (cond (decide (a≥c)) (decide (a≤b)) false)
def jg3 (a:Tn38):Option (Int):=
 (jax a.1 1970 2240).bind fun i=>
 cond (!i) (
 some 1) (
 (jax a.2.1 a.1 2240).bind fun d=>
 cond (!d) (
 some 1) (
 (jax a.2.2.1 1 12).bind fun f=>
 cond (!f) (
 some 1) (
 (jax a.2.2.2.1 1 5).bind fun c=>
 cond (!c) (
 some 1) (
 (jax a.2.2.2.2.1 0 6).bind fun b=>
 cond (!b) (
 some 1) (
 (jax a.2.2.2.2.2.1 0 86399).bind fun g=>
 cond (!g) (
 some 1) (
 (jax a.2.2.2.2.2.2 (-64800) 64800).bind fun e=>
 cond (!e) (
 some 1) (
 some 0)))))))
def jkg (a:Int):Option (Bool):=
 let c:=(Int.tmod a 4)
 let d:=(Int.tmod a 100)
 let b:=(Int.tmod a 400)
 some (cond (c==0) (cond (d != 0) true (b==0)) false)
def j6Q (c a:Int):Option (Int):=
 cond (cond (decide (a<1)) true (decide (a>12))) (
 some 0) (
 let f:(List Int):=[31,28,31,30,31,30,31,31,30,31,30,31]
 let j:(List Int):=(List.replicate 12 0)
 cond (a==2) (
 (jkg c).bind fun i=>
 cond i (
 some 29) (
 let e:=(w64 (a-1))
 cond (inR e 12) (
 let g:=(List.getD f (Int.toNat e) 0)
 some g) none)) (
 let b:=(w64 (a-1))
 cond (inR b 12) (
 let d:=(List.getD f (Int.toNat b) 0)
 some d) none))
def jbC (a:Tn3):Option (Bool):=
 cond (decide (a.1≥1970)) (
 cond (decide (a.1≤2240)) (
 cond (decide (a.2.2≥1)) (
 (j6Q a.1 a.2.1).bind fun b=>
 some (decide (a.2.2≤b))) (
 some false)) (
 some false)) (
 some false)
def j7S (b a:Int):Option (Int):=
 cond (!(a==0)) (
 let d:=(w64 (Int.tdiv b a))
 cond (!(a==0)) (
 let c:=(Int.tmod b a)
 cond (decide (c<0)) (
 let e:=(w64 (d-1))
 some e) (
 some d)) none) none
def j4M (a:Int):Option (Int):=
 let b:=(w64 (a-1))
 let k:=(w64 (a-1970))
 let l:=(w64 (365*k))
 (j7S b 4).bind fun e=>
 let g:=(w64 (l+e))
 (j7S b 100).bind fun c=>
 let j:=(w64 (g-c))
 (j7S b 400).bind fun f=>
 let i:=(w64 (j+f))
 let d:=(w64 (i-477))
 some d
def j3E (g f i a e:Int):Option ((Int×Int×Int×Int×Int) ⊕ (Int)):=
 cond (decide (f<a)) (
 (j6Q i f).bind fun d=>
 let b:=(w64 (g+d))
 let c:=(w64 (f+1))
 some (.inl (b,c,i,a,e))) (
 some (.inr g))
def j58 [LP] (c e d a b):=LP.lp (fun h=>j3E h.1 h.2.1 h.2.2.1 h.2.2.2.1 h.2.2.2.2) (c,e,d,a,b)
theorem jd1 (c e d a b):j58 c e d a b=lpK (j3E c e d a b) (fun h=>j58 h.1 h.2.1 h.2.2.1 h.2.2.2.1 h.2.2.2.2):=j05 _ _
def j6l [LP] (a:Tn3):Option (Int):=
 (j4M a.1).bind fun e=>
 let b:=(w64 (e+a.2.2))
 let c:=(w64 (b-1))
 (j58 c 1 a.1 a.2.1 a.2.2).bind fun d=>
 some d
def j5s (a:Int):Option (Int):=
 let d:=(Int.tmod a 7)
 let b:=(w64 (d+10))
 let c:=(Int.tmod b 7)
 some c
def jbD [LP] (d b c a:Int):Option (Int×Int):=
 (jbC (d,(b,1))).bind fun i=>
 let n:Bool:=(cond (cond (!i) true (decide (c<1))) true (decide (c>5)))
 let k:Bool:=(cond (cond n true (decide (a<0))) true (decide (a>6)))
 cond k (
 some (0,1)) (
 (j6l (d,(b,1))).bind fun e=>
 (j5s e).bind fun s=>
 let r:=(w64 (a-s))
 let g:=(w64 (r+7))
 let q:=(Int.tmod g 7)
 let j:=(w64 (e+q))
 let l:=(w64 (c-1))
 let p:=(w64 (7*l))
 let f:=(w64 (j+p))
 (j6Q d b).bind fun o=>
 let m:=(w64 (e+o))
 cond (decide (f≥m)) (
 let t:=(w64 (f-7))
 some (t,0)) (
 some (f,0)))
def j7T (b a:(Int×Int)):Option (Int):=
 let c:=(w64 (b.1-a.1))
 some c
def j0n (o u t b:Int) (a:Tn2):Option ((Int×Int×Int×Int×Tn2) ⊕ ((Int×Int×Int×Tn2))):=
 cond (decide (b>o)) (
 cond (inR b (List.length a)) (
 let g:=(List.getD a (Int.toNat b) (0,0)).1
 let m:=(List.getD a (Int.toNat b) (0,0)).2
 let d:=(w64 (b-1))
 cond (inR d (List.length a)) (
 let j:=(List.getD a (Int.toNat d) (0,0)).1
 let i:=(List.getD a (Int.toNat d) (0,0)).2
 (j7T (g,m) (j,i)).bind fun p=>
 cond (decide (p<0)) (
 let f:=(w64 (b-1))
 let c:=(w64 (b-1))
 cond (inR c (List.length a)) (
 let k:=(List.getD a (Int.toNat c) (0,0)).1
 let q:=(List.getD a (Int.toNat c) (0,0)).2
 cond (inR b (List.length a)) (
 let n:=(List.getD a (Int.toNat b) (0,0)).1
 let r:=(List.getD a (Int.toNat b) (0,0)).2
 cond (inR b (List.length a)) (
 let e:Tn2:=(List.set a (Int.toNat b) (k,q))
 cond (inR f (List.length e)) (
 let s:Tn2:=(List.set e (Int.toNat f) (n,r))
 let l:=(w64 (b-1))
 some (.inl (o,u,t,l,s))) none) none) none) none) (
 some (.inr (o,u,t,a)))) none) none) (
 some (.inr (o,u,t,a)))
def j0i [LP] (a b e c d):=LP.lp (fun h=>j0n h.1 h.2.1 h.2.2.1 h.2.2.2.1 h.2.2.2.2) (a,b,e,c,d)
theorem j20 (a b e c d):j0i a b e c d=lpK (j0n a b e c d) (fun h=>j0i h.1 h.2.1 h.2.2.1 h.2.2.2.1 h.2.2.2.2):=j05 _ _
def j06 [LP] (f d c:Int) (e:Tn2):Option ((Int×Int×Int×Tn2) ⊕ (Tn2)):=
 cond (decide (c<d)) (
 (j0i f d c c e).bind fun a=>
 let b:=(w64 (a.2.2.1+1))
 some (.inl (a.1,a.2.1,b,a.2.2.2))) (
 some (.inr e))
def j0j [LP] (a b d c):=LP.lp (fun h=>j06 h.1 h.2.1 h.2.2.1 h.2.2.2) (a,b,d,c)
theorem j12 (a b d c):j0j a b d c=lpK (j06 a b d c) (fun h=>j0j h.1 h.2.1 h.2.2.1 h.2.2.2):=j05 _ _
def j0d [LP] (a:Tn2) (b c:Int):Option (Tn2):=
 let d:=(w64 (b+1))
 (j0j b c d a).bind fun e=>
 some e
def j0f [LP] (d e f c:Int) (g:Tn2):Option ((Int×Int×Int×Int×Tn2) ⊕ ((Int×Int×Int×Tn2))):=
 cond (decide (c≤d)) (
 (j0d g f c).bind fun a=>
 let b:=(w64 (c+e))
 some (.inl (d,e,c,b,a))) (
 some (.inr (d,e,f,g)))
def j0v [LP] (a b c e d):=LP.lp (fun h=>j0f h.1 h.2.1 h.2.2.1 h.2.2.2.1 h.2.2.2.2) (a,b,c,e,d)
theorem j5F (a b c e d):j0v a b c e d=lpK (j0f a b c e d) (fun h=>j0v h.1 h.2.1 h.2.2.1 h.2.2.2.1 h.2.2.2.2):=j05 _ _
def j2E (a b c f:Int) (e:Tn2):Option ((Int×Int×Int×Int×Tn2) ⊕ ((Int×Int×Int×Tn2))):=
 cond (decide (f≤a)) (
 let d:=(w64 (c+b))
 none) (
 some (.inr (a,b,c,e)))
def j1K [LP] (a b c e:Int) (d:Tn2):Option ((Int×Int×Int×Tn2)):=
 LP.lp (unc5 (j2E)) (a,b,c,e,d)
def j0g [LP] (f e:Int) (g:Tn2):Option ((Int×Int×Tn2) ⊕ (Tn2)):=
 cond (decide (e<f)) (
 let c:=(w64 (2*e))
 (j1K f e 0 c g).bind fun a=>
 let b:=(w64 (a.2.2.1+a.2.1))
 cond (decide (b<a.1)) (
 none) (
 let d:=(w64 (a.2.1*2))
 some (.inl (a.1,d,a.2.2.2)))) (
 some (.inr g))
def j0w [LP] (b a c):=LP.lp (fun h=>j0g h.1 h.2.1 h.2.2) (b,a,c)
theorem j5G (b a c):j0w b a c=lpK (j0g b a c) (fun h=>j0w h.1 h.2.1 h.2.2):=j05 _ _
def j0C [LP] (a:Tn2) (c:Int):Option (Tn2):=
 (j0v c 20 0 20 a).bind fun b=>
 (j0d b.2.2.2 b.2.2.1 b.1).bind fun d=>
 (j0w b.1 b.2.1 d).bind fun e=>
 some e
def j09 [LP] (a:Tn2):Option (Tn2):=
 let c:=(Int.ofNat (List.length a))
 (j0C a c).bind fun b=>
 some b
def j2q (n:Int) (f:Tn42) (l b:Int) (m:ByteArray) (d:Int) (e:Tn42):Option ((Int×Tn42×Int×Int×ByteArray×Int×Tn42) ⊕ (Int ⊕ (Int×ByteArray×Int×Tn42))):=
 cond (decide (b<l)) (
 cond (inR b (List.length f)) (
 let a:=(List.getD f (Int.toNat b) (0,(0,(0,(0,(0,(0,0)))))))
 (jg3 (a.1,(a.2.1,(a.2.2.1,(a.2.2.2.1,(a.2.2.2.2.1,(a.2.2.2.2.2.1,a.2.2.2.2.2.2))))))).bind fun c=>
 cond (c != 0) (
 some (.inr (.inl c))) (
 let g:=(w64 (a.2.1-a.1))
 let j:=(w64 (g+1))
 let i:=(w64 (n+j))
 let k:=(w64 (b+1))
 some (.inl (i,f,l,k,m,d,e)))) none) (
 some (.inr (.inr (n,m,d,e))))
def j2h [LP] (g e c d f a b):=LP.lp (fun h=>j2q h.1 h.2.1 h.2.2.1 h.2.2.2.1 h.2.2.2.2.1 h.2.2.2.2.2.1 h.2.2.2.2.2.2) (g,e,c,d,f,a,b)
theorem j96 (g e c d f a b):j2h g e c d f a b=lpK (j2q g e c d f a b) (fun h=>j2h h.1 h.2.1 h.2.2.1 h.2.2.2.1 h.2.2.2.2.1 h.2.2.2.2.2.1 h.2.2.2.2.2.2):=j05 _ _
def j0T [LP] (i:Int) (p:Tn42) (o q s e b d a c g:Int) (r:Tn2):Option ((Int×Tn42×Int×Int×Int×Int×Int×Int×Int×Int×Int×Tn2) ⊕ ((Tn42×Int×Int×Tn2))):=
 cond (decide (i≤e)) (
 (jbD i b d a).bind fun l=>
 let m:=(w64 (l.1*86400))
 let j:=(w64 (m+c))
 let f:Tn2:=[(j,g)]
 cond (decide (List.length r+List.length f≤j0c)) (
 let n:Tn2:=(r++f)
 let k:=(w64 (i+1))
 some (.inl (k,p,o,q,s,e,b,d,a,c,g,n))) none) (
 some (.inr (p,o,q,r)))
def j2Z [LP] (l j g k i e b d a c f m):=LP.lp (fun h=>j0T h.1 h.2.1 h.2.2.1 h.2.2.2.1 h.2.2.2.2.1 h.2.2.2.2.2.1 h.2.2.2.2.2.2.1 h.2.2.2.2.2.2.2.1 h.2.2.2.2.2.2.2.2.1 h.2.2.2.2.2.2.2.2.2.1 h.2.2.2.2.2.2.2.2.2.2.1 h.2.2.2.2.2.2.2.2.2.2.2) (l,j,g,k,i,e,b,d,a,c,f,m)
theorem j97 (l j g k i e b d a c f m):j2Z l j g k i e b d a c f m=lpK (j0T l j g k i e b d a c f m) (fun h=>j2Z h.1 h.2.1 h.2.2.1 h.2.2.2.1 h.2.2.2.2.1 h.2.2.2.2.2.1 h.2.2.2.2.2.2.1 h.2.2.2.2.2.2.2.1 h.2.2.2.2.2.2.2.2.1 h.2.2.2.2.2.2.2.2.2.1 h.2.2.2.2.2.2.2.2.2.2.1 h.2.2.2.2.2.2.2.2.2.2.2):=j05 _ _
def j0U [LP] (d:Tn42) (f c:Int) (g:Tn2):Option ((Tn42×Int×Int×Tn2) ⊕ (Tn2)):=
 cond (decide (c<f)) (
 cond (inR c (List.length d)) (
 let a:=(List.getD d (Int.toNat c) (0,(0,(0,(0,(0,(0,0)))))))
 (j2Z a.1 d f c a.1 a.2.1 a.2.2.1 a.2.2.2.1 a.2.2.2.2.1 a.2.2.2.2.2.1 a.2.2.2.2.2.2 g).bind fun b=>
 let e:=(w64 (b.2.2.1+1))
 some (.inl (b.1,b.2.1,e,b.2.2.2))) none) (
 some (.inr g))
def j2i [LP] (b a c d):=LP.lp (fun h=>j0U h.1 h.2.1 h.2.2.1 h.2.2.2) (b,a,c,d)
theorem j98 (b a c d):j2i b a c d=lpK (j0U b a c d) (fun h=>j2i h.1 h.2.1 h.2.2.1 h.2.2.2):=j05 _ _
def j3v [LP] (a:Tn52):Option (Tn2×Int):=
 (jax a.2.1 (-64800) 64800).bind fun f=>
 cond (!f) (
 some (([]:Tn2),1)) (
 let e:=(Int.ofNat (List.length a.2.2))
 cond (decide (e>16)) (
 some (([]:Tn2),5)) (
 let d:=(Int.ofNat (List.length a.2.2))
 (j2h 0 a.2.2 d 0 a.1 a.2.1 a.2.2).bind fun g=>
 sumC g (fun k=>
 some (([]:Tn2),k)) (fun j=>
 cond (decide (j.1>640)) (
 some (([]:Tn2),5)) (
 let b:=(Int.ofNat (List.length j.2.2.2))
 (j2i j.2.2.2 b 0 ([]:Tn2)).bind fun i=>
 (j09 i).bind fun c=>
 some (c,0)))))
def j2r (o m c:Int) (a e:Tn2):Option ((Int×Int×Int×Tn2×Tn2) ⊕ (Int ⊕ Tn2)):=
 cond (decide (c<m)) (
 cond (inR c (List.length e)) (
 let n:=(List.getD e (Int.toNat c) (0,0)).1
 let b:=(List.getD e (Int.toNat c) (0,0)).2
 cond (b==o) (
 let x:=(w64 (c+1))
 some (.inl (o,m,x,a,e))) (
 let d:=(w64 (n-o))
 let j:=(w64 (b-o))
 cond (cond (decide (j≥86400)) true (decide (j≤(-86400)))) (
 let t:=(Int.ofNat (List.length a))
 let r:=(Int.ofNat (List.length a))
 let i:=(w64 (r-1))
 cond ((inR i (List.length a)) || !((!true)&&(decide (t>0)))) (
 let q:=(List.getD a (Int.toNat i) (0,0)).1
 let y:=(w64 (q+604800))
 some (.inr (.inl 6))) none) (
 (jax d 0 8589934592).bind fun f=>
 let l:=(Int.ofNat (List.length a))
 let s:=(Int.ofNat (List.length a))
 let k:=(w64 (s-1))
 cond ((inR k (List.length a)) || !((!(!f))&&(decide (l>0)))) (
 let p:=(List.getD a (Int.toNat k) (0,0)).1
 let u:=(w64 (p+604800))
 cond (cond (!f) true (cond (decide (l>0)) (decide (d<u)) false)) (
 some (.inr (.inl 6))) (
 let g:Tn2:=[(d,b)]
 cond (decide (List.length a+List.length g≤j0c)) (
 let w:Tn2:=(a++g)
 let v:=(w64 (c+1))
 some (.inl (b,m,v,w,e))) none)) none))) none) (
 some (.inr (.inr a)))
def j2j [LP] (e b a d c):=LP.lp (fun h=>j2r h.1 h.2.1 h.2.2.1 h.2.2.2.1 h.2.2.2.2) (e,b,a,d,c)
theorem j99 (e b a d c):j2j e b a d c=lpK (j2r e b a d c) (fun h=>j2j h.1 h.2.1 h.2.2.1 h.2.2.2.1 h.2.2.2.2):=j05 _ _
def j1P [LP] (a:Tn52):Option (Tn2×Int):=
 (j3v (a.1,(a.2.1,a.2.2))).bind fun b=>
 cond (b.2 != 0) (
 some (([]:Tn2),b.2)) (
 let c:=(Int.ofNat (List.length b.1))
 (j2j a.2.1 c 0 ([]:Tn2) b.1).bind fun d=>
 sumC d (fun e=>
 some (([]:Tn2),e)) (fun f=>
 some (f,0)))
def j8a [LP] (a:Tn52):Option (Int):=
 (j1P (a.1,(a.2.1,a.2.2))).bind fun b=>
 some b.2
def j78 (a:Tn38):Option (Bool):=
 let b:=(Int.tmod a.2.2.2.2.2.2 60)
 some (b != 0)
def j0o (e:Tn42) (f b:Int):Option ((Tn42×Int×Int) ⊕ (Int ⊕ Unit)):=
 cond (decide (b<f)) (
 cond (inR b (List.length e)) (
 let a:=(List.getD e (Int.toNat b) (0,(0,(0,(0,(0,(0,0)))))))
 (j78 (a.1,(a.2.1,(a.2.2.1,(a.2.2.2.1,(a.2.2.2.2.1,(a.2.2.2.2.2.1,a.2.2.2.2.2.2))))))).bind fun c=>
 cond c (
 some (.inr (.inl b))) (
 let d:=(w64 (b+1))
 some (.inl (e,f,d)))) none) (
 some (.inr (.inr ())))
def j0l [LP] (a c b):=LP.lp (fun h=>j0o h.1 h.2.1 h.2.2) (a,c,b)
theorem j26 (a c b):j0l a c b=lpK (j0o a c b) (fun h=>j0l h.1 h.2.1 h.2.2):=j05 _ _
def j0r [LP] (a:Tn42):Option (Int):=
 let c:=(Int.ofNat (List.length a))
 (j0l a c 0).bind fun b=>
 sumC b (fun d=>
 some d) (fun e=>
 some (-1))
def j0m [LP] (a:Tn42):Option (Bool):=
 (j0r a).bind fun b=>
 some (decide (b≥0))
def j2s [LP] (a:Tn52):Option (Int):=
 (j8a (a.1,(a.2.1,a.2.2))).bind fun c=>
 let d:=(Int.tmod a.2.1 60)
 cond (cond (c != 0) true (d != 0)) (
 some 8) (
 (j0m a.2.2).bind fun b=>
 cond b (
 some 8) (
 some 0))
def j0y [LP] (e:Tn54) (i c:Int) (j:(List (ByteArray×Bool))):Option ((Tn54×Int×Int×(List (ByteArray×Bool))) ⊕ (Int ⊕ Unit)):=
 cond (decide (c<i)) (
 cond (inR c (List.length e)) (
 let a:=(List.getD e (Int.toNat c) (ByteArray.empty,(0,([]:Tn42))))
 (jaw (a.1,(a.2.1,a.2.2))).bind fun g=>
 (j3c g j).bind fun b=>
 cond (b.1 != 0) (
 some (.inr (.inl b.1))) (
 (j2s (a.1,(a.2.1,a.2.2))).bind fun d=>
 cond (d != 0) (
 some (.inr (.inl d))) (
 let f:=(w64 (c+1))
 some (.inl (e,i,f,b.2))))) none) (
 some (.inr (.inr ())))
def j1a [LP] (a:Tn54) (c b:Int) (d:(List (ByteArray×Bool))):Option (Int ⊕ Unit):=
 LP.lp (fun h=>j0y h.1 h.2.1 h.2.2.1 h.2.2.2) (a,c,b,d)
theorem j6b (a:Tn54) (c b:Int) (d:(List (ByteArray×Bool))):j1a a c b d=lpK (j0y a c b d) (fun h=>j1a h.1 h.2.1 h.2.2.1 h.2.2.2):=j05 _ _
def j1z [LP] (a:Tn54):Option (Int):=
 let b:(List (ByteArray×Bool)):=([]:(List (ByteArray×Bool)))
 let c:=(Int.ofNat (List.length a))
 (j1a a c 0 b).bind fun d=>
 sumC d (fun e=>
 some e) (fun f=>
 some 0)
def j1R (a b:Int):Option (Bool):=
 some (cond (decide (a≥0)) (decide (a<b)) false)
def j4p (f i:Tn2) (k b:Int):Option ((Tn2×Tn2×Int×Int) ⊕ (Int ⊕ Unit)):=
 cond (decide (b<k)) (
 cond (inR b (List.length i)) (
 let a:=(List.getD i (Int.toNat b) (0,0))
 let d:Bool:=(cond (cond (decide (a.1<0)) true (decide (a.1≥a.2))) true (decide (a.2>604800)))
 cond d (
 some (.inr (.inl 1))) (
 cond (decide (b>0)) (
 let c:=(w64 (b-1))
 cond (inR c (List.length f)) (
 let g:=(List.getD f (Int.toNat c) (0,0))
 cond (decide (a.1<g.2)) (
 some (.inr (.inl 6))) (
 let j:=(w64 (b+1))
 some (.inl (f,i,k,j)))) none) (
 let e:=(w64 (b+1))
 some (.inl (f,i,k,e))))) none) (
 some (.inr (.inr ())))
def j6R [LP] (b d c a):=LP.lp (fun h=>j4p h.1 h.2.1 h.2.2.1 h.2.2.2) (b,d,c,a)
theorem jfl (b d c a):j6R b d c a=lpK (j4p b d c a) (fun h=>j6R h.1 h.2.1 h.2.2.1 h.2.2.2):=j05 _ _
def j8b [LP] (a:Tn2):Option (Int):=
 let c:=(Int.ofNat (List.length a))
 cond (decide (c>14)) (
 some 5) (
 let d:=(Int.ofNat (List.length a))
 (j6R a a d 0).bind fun b=>
 sumC b (fun e=>
 some e) (fun f=>
 some 0))
def j6S (a c b:Int):Option (Bool):=
 some (cond (decide (a≥c)) (decide (a≤b)) false)
def j4q (a:Int):Option (Bool):=
 (j6S a 0 604800).bind fun b=>
 let c:=(Int.tmod a 3600)
 some (cond b (c==0) false)
def j1s [LP] (b:Tn71) (a:Tn44):Option (Int):=
 let e:=(Int.ofNat (List.length b.1))
 (j1R a.2.1 e).bind fun g=>
 cond (!g) (
 some 3) (
 (j8b a.2.2.1).bind fun f=>
 cond (f != 0) (
 some 8) (
 (j4q a.2.2.2.1).bind fun c=>
 cond (!c) (
 some 1) (
 (j4q a.2.2.2.2.1).bind fun d=>
 cond (!d) (
 some 1) (
 some 0))))
def jay (a:Tn19):Option (ByteArray):=
 some a.1
def jd2 (e c:Int):Option ((Int×Int) ⊕ (Int)):=
 let d:=(w64 (c+1))
 (j4M d).bind fun b=>
 cond (decide (b≤e)) (
 let a:=(w64 (c+1))
 some (.inl (e,a))) (
 some (.inr c))
def jew [LP] (b a:Int):Option (Int):=
 LP.lp (unc2 (jd2)) (b,a)
def jdY [LP] (a:Int):Option (Int):=
 (j7S a 366).bind fun b=>
 let d:=(w64 (1970+b))
 (jew a d).bind fun c=>
 some c
def jaY (k l b c i a d:Int):Option ((Int×Int×Int×Int×Int×Int×Int) ⊕ ((Int×Int×Int×Int×Int×Int×Int))):=
 (j6Q i a).bind fun g=>
 cond (decide (k≥g)) (
 (j6Q i a).bind fun f=>
 let j:=(w64 (k-f))
 let e:=(w64 (a+1))
 some (.inl (j,l,b,c,i,e,d))) (
 some (.inr (k,l,b,c,i,a,d)))
def jbE [LP] (g f a b e c d:Int):Option ((Int×Int×Int×Int×Int×Int×Int)):=
 LP.lp (unc7 (jaY)) (g,f,a,b,e,c,d)
def j3T [LP] (a:Int):Option (Tn3×Int):=
 (j4M 1970).bind fun i=>
 cond (decide (a<i)) (
 some ((0,(0,0)),1)) (
 (j4M 2241).bind fun g=>
 cond (decide (a≥g)) (
 some ((0,(0,0)),1)) (
 (jdY a).bind fun b=>
 (j4M b).bind fun f=>
 let d:=(w64 (a-f))
 (jbE d 0 0 0 b 1 0).bind fun c=>
 let e:=(w64 (c.1+1))
 some ((c.2.2.2.2.1,(c.2.2.2.2.2.1,e)),0)))
def j0D [LP] (a:Int):Option (Bool):=
 (j3T a).bind fun b=>
 some (b.2==0)
def j1D [LP] (a:Int):Option (Bool):=
 (j0D a).bind fun b=>
 some (!b)
def j0u [LP] (e:(List Int)) (f a:Int):Option (((List Int)×Int×Int) ⊕ (Int ⊕ Unit)):=
 cond (decide (a<f)) (
 cond (inR a (List.length e)) (
 let d:=(List.getD e (Int.toNat a) 0)
 (j1D d).bind fun b=>
 cond b (
 some (.inr (.inl a))) (
 let c:=(w64 (a+1))
 some (.inl (e,f,c)))) none) (
 some (.inr (.inr ())))
def j1f [LP] (a c b):=LP.lp (fun h=>j0u h.1 h.2.1 h.2.2) (a,c,b)
theorem j5k (a c b):j1f a c b=lpK (j0u a c b) (fun h=>j1f h.1 h.2.1 h.2.2):=j05 _ _
def j1E [LP] (a:(List Int)):Option (Int):=
 let c:=(Int.ofNat (List.length a))
 (j1f a c 0).bind fun b=>
 sumC b (fun d=>
 some d) (fun e=>
 some (-1))
def j1g [LP] (a:(List Int)):Option (Bool):=
 (j1E a).bind fun b=>
 some (decide (b≥0))
def j1x (e b:Int) (k:ByteArray) (d:Int) (a:(List Int)):Option ((Int×Int×ByteArray×Int×(List Int)) ⊕ (Int ⊕ Unit)):=
 cond (decide (b<e)) (
 cond (decide (b>0)) (
 cond (inR b (List.length a)) (
 let i:=(List.getD a (Int.toNat b) 0)
 let c:=(w64 (b-1))
 cond (inR c (List.length a)) (
 let g:=(List.getD a (Int.toNat c) 0)
 cond (decide (i≤g)) (
 some (.inr (.inl 6))) (
 let j:=(w64 (b+1))
 some (.inl (e,j,k,d,a)))) none) none) (
 let f:=(w64 (b+1))
 some (.inl (e,f,k,d,a)))) (
 some (.inr (.inr ())))
def j1F [LP] (d c e a b):=LP.lp (fun h=>j1x h.1 h.2.1 h.2.2.1 h.2.2.2.1 h.2.2.2.2) (d,c,e,a,b)
theorem j6m (d c e a b):j1F d c e a b=lpK (j1x d c e a b) (fun h=>j1F h.1 h.2.1 h.2.2.1 h.2.2.2.1 h.2.2.2.2):=j05 _ _
def j1m [LP] (b:Tn71) (a:Tn19):Option (Int):=
 let f:=(Int.ofNat (List.length b.1))
 (j1R a.2.1 f).bind fun e=>
 cond (!e) (
 some 3) (
 let g:=(Int.ofNat (List.length a.2.2))
 cond (decide (g>64)) (
 some 5) (
 (j1g a.2.2).bind fun c=>
 cond c (
 some 1) (
 let d:=(Int.ofNat (List.length a.2.2))
 (j1F d 0 a.1 a.2.1 a.2.2).bind fun i=>
 sumC i (fun j=>
 some j) (fun k=>
 some 0))))
def j4k [LP] (a:Tn19) (e:Tn54) (b:Tn48) (d:Tn26) (c:Tn65):Option (Int):=
 (j1m (e,(b,(d,c))) (a.1,(a.2.1,a.2.2))).bind fun f=>
 some f
def j0p [LP] (m:Tn54) (i:Tn48) (f:Tn26) (g:Tn65) (e:Tn26) (l c:Int) (n:(List (ByteArray×Bool))):Option ((Tn54×Tn48×Tn26×Tn65×Tn26×Int×Int×(List (ByteArray×Bool))) ⊕ (Int ⊕ Unit)):=
 cond (decide (c<l)) (
 cond (inR c (List.length e)) (
 let a:=(List.getD e (Int.toNat c) (ByteArray.empty,(0,([]:(List Int)))))
 (jay (a.1,(a.2.1,a.2.2))).bind fun k=>
 (j3c k n).bind fun b=>
 cond (b.1 != 0) (
 some (.inr (.inl b.1))) (
 (j4k (a.1,(a.2.1,a.2.2)) m i f g).bind fun d=>
 cond (d != 0) (
 some (.inr (.inl d))) (
 let j:=(w64 (c+1))
 some (.inl (m,i,f,g,e,l,j,b.2))))) none) (
 some (.inr (.inr ())))
def j0K [LP] (g:Tn54) (c:Tn48) (a:Tn26) (b:Tn65) (d:Tn26) (f e:Int) (i:(List (ByteArray×Bool))):Option (Int ⊕ Unit):=
 LP.lp (fun h=>j0p h.1 h.2.1 h.2.2.1 h.2.2.2.1 h.2.2.2.2.1 h.2.2.2.2.2.1 h.2.2.2.2.2.2.1 h.2.2.2.2.2.2.2) (g,c,a,b,d,f,e,i)
theorem j4X (g:Tn54) (c:Tn48) (a:Tn26) (b:Tn65) (d:Tn26) (f e:Int) (i:(List (ByteArray×Bool))):j0K g c a b d f e i=lpK (j0p g c a b d f e i) (fun h=>j0K h.1 h.2.1 h.2.2.1 h.2.2.2.1 h.2.2.2.2.1 h.2.2.2.2.2.1 h.2.2.2.2.2.2.1 h.2.2.2.2.2.2.2):=j05 _ _
def j13 [LP] (e:Tn26) (d:Tn54) (a:Tn48) (c:Tn26) (b:Tn65):Option (Int):=
 let f:(List (ByteArray×Bool)):=([]:(List (ByteArray×Bool)))
 let g:=(Int.ofNat (List.length e))
 (j0K d a c b e g 0 f).bind fun i=>
 sumC i (fun j=>
 some j) (fun k=>
 some 0)
def jaz (a:Tn64):Option (ByteArray):=
 some a.1
def j59 (a:Tn59):Option (ByteArray):=
 some a.1
def j6n (b:Int) (g:Tn54) (a:Tn48) (d:Tn26) (c:Tn65):Option (Bool):=
 let e:=(Int.ofNat (List.length a))
 (j1R b e).bind fun f=>
 some (!f)
def j0R (i:(List Int)) (j:Tn54) (b:Tn48) (c:Tn26) (a:Tn65) (k d:Int):Option (((List Int)×Tn54×Tn48×Tn26×Tn65×Int×Int) ⊕ (Int ⊕ Unit)):=
 cond (decide (d<k)) (
 cond (inR d (List.length i)) (
 let g:=(List.getD i (Int.toNat d) 0)
 (j6n g j b c a).bind fun e=>
 cond e (
 some (.inr (.inl d))) (
 let f:=(w64 (d+1))
 some (.inl (i,j,b,c,a,k,f)))) none) (
 some (.inr (.inr ())))
def j0V [LP] (e d b c a f g):=LP.lp (fun h=>j0R h.1 h.2.1 h.2.2.1 h.2.2.2.1 h.2.2.2.2.1 h.2.2.2.2.2.1 h.2.2.2.2.2.2) (e,d,b,c,a,f,g)
theorem j4r (e d b c a f g):j0V e d b c a f g=lpK (j0R e d b c a f g) (fun h=>j0V h.1 h.2.1 h.2.2.1 h.2.2.2.1 h.2.2.2.2.1 h.2.2.2.2.2.1 h.2.2.2.2.2.2):=j05 _ _
def j1h [LP] (c:(List Int)) (e:Tn54) (d:Tn48) (b:Tn26) (a:Tn65):Option (Int):=
 let g:=(Int.ofNat (List.length c))
 (j0V c e d b a g 0).bind fun f=>
 sumC f (fun i=>
 some i) (fun j=>
 some (-1))
def j0W [LP] (e:(List Int)) (d:Tn54) (c:Tn48) (b:Tn26) (a:Tn65):Option (Bool):=
 (j1h e d c b a).bind fun f=>
 some (decide (f≥0))
def j27 [LP] (b:Tn71) (a:Tn59):Option (Int):=
 let k:=(Int.ofNat (List.length b.1))
 (j1R a.2.1 k).bind fun o=>
 cond (!o) (
 some 3) (
 cond (decide (a.2.2.1.1<1)) (
 some 1) (
 (j0D a.2.2.1.1).bind fun i=>
 cond (!i) (
 some 1) (
 (j6S a.2.2.1.2 0 86399).bind fun j=>
 cond (!j) (
 some 1) (
 (j6S a.2.2.2.1 0 2).bind fun e=>
 cond (!e) (
 some 1) (
 (j6S a.2.2.2.2.1 1 400).bind fun d=>
 cond (!d) (
 some 1) (
 let c:=(Int.ofNat (List.length a.2.2.2.2.2.1))
 cond (c==0) (
 some 7) (
 let f:=(Int.ofNat (List.length a.2.2.2.2.2.1))
 cond (decide (f>12)) (
 some 5) (
 (j0W a.2.2.2.2.2.1 b.1 b.2.1 b.2.2.1 b.2.2.2).bind fun m=>
 cond m (
 some 3) (
 (j8b a.2.2.2.2.2.2.1).bind fun g=>
 cond (g != 0) (
 some 8) (
 (j6S a.2.2.2.2.2.2.2.2 0 2).bind fun p=>
 cond (!p) (
 some 1) (
 let l:=(Int.ofNat (List.length b.2.2.1))
 cond (a.2.2.2.2.2.2.2.2 != 0) (
 (j1R a.2.2.2.2.2.2.2.1 l).bind fun n=>
 cond (!n) (
 some 3) (
 cond (cond (a.2.2.2.2.2.2.2.2==0) (a.2.2.2.2.2.2.2.1 != 0) false) (
 some 1) (
 some 0))) (
 cond (cond (a.2.2.2.2.2.2.2.2==0) (a.2.2.2.2.2.2.2.1 != 0) false) (
 some 1) (
 some 0)))))))))))))
def j1G [LP] (a:Tn59) (e:Tn54) (b:Tn48) (d:Tn26) (c:Tn65):Option (Int):=
 (j27 (e,(b,(d,c))) (a.1,(a.2.1,((a.2.2.1.1,a.2.2.1.2),(a.2.2.2.1,(a.2.2.2.2.1,(a.2.2.2.2.2.1,(a.2.2.2.2.2.2.1,(a.2.2.2.2.2.2.2.1,a.2.2.2.2.2.2.2.2))))))))).bind fun f=>
 some f
def j0x [LP] (m:Tn54) (i:Tn48) (f:Tn26) (g:Tn65) (e:Tn60) (l c:Int) (n:(List (ByteArray×Bool))):Option ((Tn54×Tn48×Tn26×Tn65×Tn60×Int×Int×(List (ByteArray×Bool))) ⊕ (Int ⊕ Unit)):=
 cond (decide (c<l)) (
 cond (inR c (List.length e)) (
 let a:=(List.getD e (Int.toNat c) (ByteArray.empty,(0,((0,0),(0,(0,(([]:(List Int)),(([]:Tn2),(0,0)))))))))
 (j59 (a.1,(a.2.1,((a.2.2.1.1,a.2.2.1.2),(a.2.2.2.1,(a.2.2.2.2.1,(a.2.2.2.2.2.1,(a.2.2.2.2.2.2.1,(a.2.2.2.2.2.2.2.1,a.2.2.2.2.2.2.2.2))))))))).bind fun k=>
 (j3c k n).bind fun b=>
 cond (b.1 != 0) (
 some (.inr (.inl b.1))) (
 (j1G (a.1,(a.2.1,((a.2.2.1.1,a.2.2.1.2),(a.2.2.2.1,(a.2.2.2.2.1,(a.2.2.2.2.2.1,(a.2.2.2.2.2.2.1,(a.2.2.2.2.2.2.2.1,a.2.2.2.2.2.2.2.2)))))))) m i f g).bind fun d=>
 cond (d != 0) (
 some (.inr (.inl d))) (
 let j:=(w64 (c+1))
 some (.inl (m,i,f,g,e,l,j,b.2))))) none) (
 some (.inr (.inr ())))
def j14 [LP] (g:Tn54) (c:Tn48) (a:Tn26) (b:Tn65) (d:Tn60) (f e:Int) (i:(List (ByteArray×Bool))):Option (Int ⊕ Unit):=
 LP.lp (fun h=>j0x h.1 h.2.1 h.2.2.1 h.2.2.2.1 h.2.2.2.2.1 h.2.2.2.2.2.1 h.2.2.2.2.2.2.1 h.2.2.2.2.2.2.2) (g,c,a,b,d,f,e,i)
theorem j5H (g:Tn54) (c:Tn48) (a:Tn26) (b:Tn65) (d:Tn60) (f e:Int) (i:(List (ByteArray×Bool))):j14 g c a b d f e i=lpK (j0x g c a b d f e i) (fun h=>j14 h.1 h.2.1 h.2.2.1 h.2.2.2.1 h.2.2.2.2.1 h.2.2.2.2.2.1 h.2.2.2.2.2.2.1 h.2.2.2.2.2.2.2):=j05 _ _
def j1t [LP] (e:Tn60) (d:Tn54) (a:Tn48) (c:Tn26) (b:Tn65):Option (Int):=
 let f:(List (ByteArray×Bool)):=([]:(List (ByteArray×Bool)))
 let g:=(Int.ofNat (List.length e))
 (j14 d a c b e g 0 f).bind fun i=>
 sumC i (fun j=>
 some j) (fun k=>
 some 0)
def j2t [LP] (g:Tn71) (a:Tn24):Option (Int):=
 let m:=(Int.ofNat (List.length g.2.1))
 (j6S a.1 0 2).bind fun l=>
 cond (!l) (
 some 1) (
 (j1R a.2.1 m).bind fun f=>
 cond (cond (!f) (!(cond (a.1==1) (a.2.1==(-1)) false)) false) (
 cond (cond (!f) (!(cond (a.1==1) (a.2.1==(-1)) false)) false) (
 some 3) (
 cond (cond (a.1 != 2) (a.2.2.1 != 0) false) (
 some 1) (
 cond (cond (a.1==2) (a.2.1==a.2.2.1) false) (
 some 4) (
 let j:=(w64 (Int.tdiv a.2.2.2.2 86400))
 cond (cond (decide (a.2.2.2.1<0)) true (decide (a.2.2.2.2<0))) (
 some 1) (
 (j0D j).bind fun k=>
 cond (!k) (
 some 1) (
 cond (decide (a.2.2.2.1≥a.2.2.2.2)) (
 some 6) (
 some 0))))))) (
 cond (a.1==2) (
 (j1R a.2.2.1 m).bind fun i=>
 cond (!i) (
 some 3) (
 cond (cond (a.1 != 2) (a.2.2.1 != 0) false) (
 some 1) (
 cond (cond (a.1==2) (a.2.1==a.2.2.1) false) (
 some 4) (
 let d:=(w64 (Int.tdiv a.2.2.2.2 86400))
 cond (cond (decide (a.2.2.2.1<0)) true (decide (a.2.2.2.2<0))) (
 some 1) (
 (j0D d).bind fun e=>
 cond (!e) (
 some 1) (
 cond (decide (a.2.2.2.1≥a.2.2.2.2)) (
 some 6) (
 some 0))))))) (
 cond (cond (a.1 != 2) (a.2.2.1 != 0) false) (
 some 1) (
 cond (cond (a.1==2) (a.2.1==a.2.2.1) false) (
 some 4) (
 let c:=(w64 (Int.tdiv a.2.2.2.2 86400))
 cond (cond (decide (a.2.2.2.1<0)) true (decide (a.2.2.2.2<0))) (
 some 1) (
 (j0D c).bind fun b=>
 cond (!b) (
 some 1) (
 cond (decide (a.2.2.2.1≥a.2.2.2.2)) (
 some 6) (
 some 0))))))))
def j0A [LP] (e:Tn29) (j c:Int) (k:Tn54) (f:Tn48) (g:Tn26) (d:Tn65):Option ((Tn29×Int×Int×Tn54×Tn48×Tn26×Tn65) ⊕ (Int ⊕ Unit)):=
 cond (decide (c<j)) (
 cond (inR c (List.length e)) (
 let a:=(List.getD e (Int.toNat c) (0,(0,(0,(0,0)))))
 (j2t (k,(f,(g,d))) (a.1,(a.2.1,(a.2.2.1,(a.2.2.2.1,a.2.2.2.2))))).bind fun b=>
 cond (b != 0) (
 some (.inr (.inl b))) (
 let i:=(w64 (c+1))
 some (.inl (e,j,i,k,f,g,d)))) none) (
 some (.inr (.inr ())))
def j1H [LP] (e d f g b c a):=LP.lp (fun h=>j0A h.1 h.2.1 h.2.2.1 h.2.2.2.1 h.2.2.2.2.1 h.2.2.2.2.2.1 h.2.2.2.2.2.2) (e,d,f,g,b,c,a)
theorem j6o (e d f g b c a):j1H e d f g b c a=lpK (j0A e d f g b c a) (fun h=>j1H h.1 h.2.1 h.2.2.1 h.2.2.2.1 h.2.2.2.2.1 h.2.2.2.2.2.1 h.2.2.2.2.2.2):=j05 _ _
def j1n [LP] (a:Tn71) (b:Tn64):Option (Int):=
 let f:=(Int.ofNat (List.length b.2.1))
 let d:=(Int.ofNat (List.length b.2.2))
 cond (cond (decide (f>6)) true (decide (d>48))) (
 some 5) (
 (j1t b.2.1 a.1 a.2.1 a.2.2.1 a.2.2.2).bind fun c=>
 cond (c != 0) (
 some c) (
 let e:=(Int.ofNat (List.length b.2.2))
 (j1H b.2.2 e 0 a.1 a.2.1 a.2.2.1 a.2.2.2).bind fun g=>
 sumC g (fun i=>
 some i) (fun j=>
 some 0)))
def j4l [LP] (a:Tn64) (e:Tn54) (b:Tn48) (d:Tn26) (c:Tn65):Option (Int):=
 (j1n (e,(b,(d,c))) (a.1,(a.2.1,a.2.2))).bind fun f=>
 some f
def j0q [LP] (m:Tn54) (i:Tn48) (f:Tn26) (g e:Tn65) (l c:Int) (n:(List (ByteArray×Bool))):Option ((Tn54×Tn48×Tn26×Tn65×Tn65×Int×Int×(List (ByteArray×Bool))) ⊕ (Int ⊕ Unit)):=
 cond (decide (c<l)) (
 cond (inR c (List.length e)) (
 let a:=(List.getD e (Int.toNat c) (ByteArray.empty,(([]:Tn60),([]:Tn29))))
 (jaz (a.1,(a.2.1,a.2.2))).bind fun k=>
 (j3c k n).bind fun b=>
 cond (b.1 != 0) (
 some (.inr (.inl b.1))) (
 (j4l (a.1,(a.2.1,a.2.2)) m i f g).bind fun d=>
 cond (d != 0) (
 some (.inr (.inl d))) (
 let j:=(w64 (c+1))
 some (.inl (m,i,f,g,e,l,j,b.2))))) none) (
 some (.inr (.inr ())))
def j0L [LP] (g:Tn54) (c:Tn48) (a:Tn26) (b d:Tn65) (f e:Int) (i:(List (ByteArray×Bool))):Option (Int ⊕ Unit):=
 LP.lp (fun h=>j0q h.1 h.2.1 h.2.2.1 h.2.2.2.1 h.2.2.2.2.1 h.2.2.2.2.2.1 h.2.2.2.2.2.2.1 h.2.2.2.2.2.2.2) (g,c,a,b,d,f,e,i)
theorem j4Y (g:Tn54) (c:Tn48) (a:Tn26) (b d:Tn65) (f e:Int) (i:(List (ByteArray×Bool))):j0L g c a b d f e i=lpK (j0q g c a b d f e i) (fun h=>j0L h.1 h.2.1 h.2.2.1 h.2.2.2.1 h.2.2.2.2.1 h.2.2.2.2.2.1 h.2.2.2.2.2.2.1 h.2.2.2.2.2.2.2):=j05 _ _
def j1r [LP] (e:Tn65) (d:Tn54) (a:Tn48) (c:Tn26) (b:Tn65):Option (Int):=
 let f:(List (ByteArray×Bool)):=([]:(List (ByteArray×Bool)))
 let g:=(Int.ofNat (List.length e))
 (j0L d a c b e g 0 f).bind fun i=>
 sumC i (fun j=>
 some j) (fun k=>
 some 0)
def j1o [LP] (g:Tn48) (i f:Int) (j:Tn54) (c:Tn48) (e:Tn26) (d:Tn65) (r:(List (ByteArray×Bool))):Option ((Tn48×Int×Int×Tn54×Tn48×Tn26×Tn65×(List (ByteArray×Bool))) ⊕ (Int ⊕ (Tn54×Tn48×Tn26×Tn65))):=
 cond (decide (f<i)) (
 cond (inR f (List.length g)) (
 let a:=(List.getD g (Int.toNat f) (ByteArray.empty,(0,(([]:Tn2),(0,(0,false))))))
 (j3c a.1 r).bind fun b=>
 let q:Bool:=(ByteArray.toList a.1==ByteArray.toList (ByteArray.mk #[110,111,98,111,100,121]))
 cond q (
 cond (2==0) (
 (j1s (j,(c,(e,d))) (a.1,(a.2.1,(a.2.2.1,(a.2.2.2.1,(a.2.2.2.2.1,a.2.2.2.2.2)))))).bind fun l=>
 cond (l != 0) (
 some (.inr (.inl l))) (
 let o:=(w64 (f+1))
 some (.inl (g,i,o,j,c,e,d,b.2)))) (
 cond (2 != 0) (
 some (.inr (.inl 2))) (
 let m:=(w64 (f+1))
 some (.inl (g,i,m,j,c,e,d,b.2))))) (
 cond (b.1==0) (
 (j1s (j,(c,(e,d))) (a.1,(a.2.1,(a.2.2.1,(a.2.2.2.1,(a.2.2.2.2.1,a.2.2.2.2.2)))))).bind fun k=>
 cond (k != 0) (
 some (.inr (.inl k))) (
 let p:=(w64 (f+1))
 some (.inl (g,i,p,j,c,e,d,b.2)))) (
 cond (b.1 != 0) (
 some (.inr (.inl b.1))) (
 let n:=(w64 (f+1))
 some (.inl (g,i,n,j,c,e,d,b.2)))))) none) (
 some (.inr (.inr (j,c,e,d))))
def j3w [LP] (d:Tn48) (f e:Int) (i:Tn54) (a:Tn48) (c:Tn26) (b:Tn65) (g:(List (ByteArray×Bool))):Option (Int ⊕ (Tn54×Tn48×Tn26×Tn65)):=
 LP.lp (fun h=>j1o h.1 h.2.1 h.2.2.1 h.2.2.2.1 h.2.2.2.2.1 h.2.2.2.2.2.1 h.2.2.2.2.2.2.1 h.2.2.2.2.2.2.2) (d,f,e,i,a,c,b,g)
theorem jbF (d:Tn48) (f e:Int) (i:Tn54) (a:Tn48) (c:Tn26) (b:Tn65) (g:(List (ByteArray×Bool))):j3w d f e i a c b g=lpK (j1o d f e i a c b g) (fun h=>j3w h.1 h.2.1 h.2.2.1 h.2.2.2.1 h.2.2.2.2.1 h.2.2.2.2.2.1 h.2.2.2.2.2.2.1 h.2.2.2.2.2.2.2):=j05 _ _
def j4s [LP] (a:Tn71):Option (Int):=
 let l:=(Int.ofNat (List.length a.1))
 let e:=(Int.ofNat (List.length a.2.1))
 let f:=(Int.ofNat (List.length a.2.2.1))
 let i:Bool:=(cond (cond (decide (l>16)) true (decide (e>32))) true (decide (f>8)))
 let k:=(Int.ofNat (List.length a.2.2.2))
 cond (cond i true (decide (k>12))) (
 some 5) (
 (j1z a.1).bind fun d=>
 cond (d != 0) (
 some d) (
 let j:(List (ByteArray×Bool)):=([]:(List (ByteArray×Bool)))
 let g:=(Int.ofNat (List.length a.2.1))
 (j3w a.2.1 g 0 a.1 a.2.1 a.2.2.1 a.2.2.2 j).bind fun n=>
 sumC n (fun o=>
 some o) (fun b=>
 (j13 b.2.2.1 b.1 b.2.1 b.2.2.1 b.2.2.2).bind fun c=>
 cond (c != 0) (
 some c) (
 (j1r b.2.2.2 b.1 b.2.1 b.2.2.1 b.2.2.2).bind fun m=>
 some m))))
def jg4 [LP] (a:Tn52):Option (Tn13×Int):=
 (j1P (a.1,(a.2.1,a.2.2))).bind fun b=>
 some ((a.2.1,b.1),b.2)
def j1L [LP] (i:Tn54) (j b:Int) (g:Tn20):Option ((Tn54×Int×Int×Tn20) ⊕ (Tn20)):=
 cond (decide (b<j)) (
 cond (inR b (List.length i)) (
 let a:=(List.getD i (Int.toNat b) (ByteArray.empty,(0,([]:Tn42))))
 (jg4 (a.1,(a.2.1,a.2.2))).bind fun c=>
 let d:Tn20:=[(c.1.1,c.1.2)]
 cond (decide (List.length g+List.length d≤j0c)) (
 let f:Tn20:=(g++d)
 let e:=(w64 (b+1))
 some (.inl (i,j,e,f))) none) none) (
 some (.inr g))
def j4N [LP] (d c a b):=LP.lp (fun h=>j1L h.1 h.2.1 h.2.2.1 h.2.2.2) (d,c,a,b)
theorem jdZ (d c a b):j4N d c a b=lpK (j1L d c a b) (fun h=>j4N h.1 h.2.1 h.2.2.1 h.2.2.2):=j05 _ _
def j9p [LP] (a:Tn54):Option (Tn20):=
 let b:=(Int.ofNat (List.length a))
 (j4N a b 0 ([]:Tn20)).bind fun c=>
 some c
def jbG [LP] (a:Tn71):Option (Tn73):=
 (j9p a.1).bind fun b=>
 some ((a.1,(a.2.1,(a.2.2.1,a.2.2.2))),b)
def jex [LP] (a:Tn71):Option (Tn73×Bool):=
 (j4s (a.1,(a.2.1,(a.2.2.1,a.2.2.2)))).bind fun c=>
 cond (c != 0) (
 some (((([]:Tn54),(([]:Tn48),(([]:Tn26),([]:Tn65)))),([]:Tn20)),false)) (
 (jbG (a.1,(a.2.1,(a.2.2.1,a.2.2.2)))).bind fun b=>
 some (((b.1.1,(b.1.2.1,(b.1.2.2.1,b.1.2.2.2))),b.2),true))
def jbH (b:Tn71) (a:Int):Option (Bool):=
 let c:=(Int.ofNat (List.length b.2.2.2))
 some (cond (decide (a≥0)) (decide (a<c)) false)
def joe (a b:Int):Option (Bool):=
 let e:Bool:=(cond (cond (decide (a≥0)) (decide (a≤8589934592)) false) (decide (b≥a)) false)
 let c:=(w64 (b-a))
 let d:Bool:=(cond (cond e (decide (b≤8589934592)) false) (decide (c≤34560000)) false)
 some d
def j9q [LP] (b:Tn71) (c d e:Int):Option (Tn73×Int):=
 (jex (b.1,(b.2.1,(b.2.2.1,b.2.2.2)))).bind fun a=>
 cond (!a.2) (
 some (((a.1.1.1,(a.1.1.2.1,(a.1.1.2.2.1,a.1.1.2.2.2))),a.1.2),8)) (
 (jbH (b.1,(b.2.1,(b.2.2.1,b.2.2.2))) c).bind fun g=>
 cond (!g) (
 some (((a.1.1.1,(a.1.1.2.1,(a.1.1.2.2.1,a.1.1.2.2.2))),a.1.2),3)) (
 (joe d e).bind fun f=>
 cond (!f) (
 some (((a.1.1.1,(a.1.1.2.1,(a.1.1.2.2.1,a.1.1.2.2.2))),a.1.2),1)) (
 some (((a.1.1.1,(a.1.1.2.1,(a.1.1.2.2.1,a.1.1.2.2.2))),a.1.2),0))))
def j43 (b:Tn73) (a:Int):Option (Tn13):=
 cond (inR a (List.length b.2)) (
 let c:=(List.getD b.2 (Int.toNat a) (0,([]:Tn2)))
 some (c.1,c.2)) none
def j8p (a:Tn13):Option (Bool):=
 let b:=(Int.ofNat (List.length a.2))
 some (decide (b>0))
def jbI (a:Tn13):Option (Int):=
 let e:=(Int.ofNat (List.length a.2))
 cond (e==0) (
 some 0) (
 let d:=(Int.ofNat (List.length a.2))
 let b:=(w64 (d-1))
 cond (inR b (List.length a.2)) (
 let c:=(List.getD a.2 (Int.toNat b) (0,0))
 some c.1) none)
def j30 (j:Int) (g:Tn54) (a:Tn48) (c:Tn26) (b:Tn65) (d:Tn20) (i:Int):Option (Tn54×Tn48×Tn26×Tn65×Tn20×Int):=
 (j43 ((g,(a,(c,b))),d) j).bind fun e=>
 (j8p (e.1,e.2)).bind fun m=>
 cond m (
 (jbI (e.1,e.2)).bind fun l=>
 let f:=(w64 (l+86400))
 let k:Int:=(if f>i then f else i:Int)
 some (g,a,c,b,d,k)) (
 some (g,a,c,b,d,i))
def j9r (a:Tn59):Option (Int):=
 cond (a.2.2.2.1==2) (
 let b:=(w64 (7*a.2.2.2.2.1))
 some b) (
 some a.2.2.2.2.1)
def j7U (b e:Int) (a:Tn2) (c:Int):Option (Bool):=
 cond (inR b (List.length a)) (
 let d:=(List.getD a (Int.toNat b) (0,0))
 some (decide (d.1>c))) none
def j31 (k:Int) (a:Tn2) (b g l:Int):Option ((Int×Tn2×Int×Int×Int) ⊕ (Int)):=
 cond (decide (g<l)) (
 let j:=(w64 (g+l))
 let e:Int:=(IntKind.wrap .u64 j)
 let f:Int:=(Int.fdiv e 2)
 let c:=(w64 f)
 (j7U c k a b).bind fun i=>
 cond (!i) (
 let d:=(w64 (c+1))
 some (.inl (k,a,b,d,l))) (
 some (.inl (k,a,b,g,c)))) (
 some (.inr g))
def j63 [LP] (c a b e d):=LP.lp (fun h=>j31 h.1 h.2.1 h.2.2.1 h.2.2.2.1 h.2.2.2.2) (c,a,b,e,d)
theorem je0 (c a b e d):j63 c a b e d=lpK (j31 c a b e d) (fun h=>j63 h.1 h.2.1 h.2.2.1 h.2.2.2.1 h.2.2.2.2):=j05 _ _
def j9s [LP] (d c:Int) (b:Tn2) (a:Int):Option (Int):=
 (j63 c b a 0 d).bind fun e=>
 some e
def j2T [LP] (a:Tn13) (b:Int):Option (Int):=
 let d:=(Int.ofNat (List.length a.2))
 (j9s d a.1 a.2 b).bind fun c=>
 some c
def j3X (a:Tn13) (b:Int):Option (Int):=
 cond (b==0) (
 some a.1) (
 let c:=(w64 (b-1))
 cond (inR c (List.length a.2)) (
 let d:=(List.getD a.2 (Int.toNat c) (0,0))
 some d.2) none)
def j0N [LP] (k c i:Int) (a:Tn2) (j:Tn14):Option ((Int×Int×Int×Tn2×Tn14) ⊕ (Tn14)):=
 cond (decide (k<c)) (
 (j2T (i,a) k).bind fun b=>
 let o:=(Int.ofNat (List.length a))
 cond (decide (b<o)) (
 cond (inR b (List.length a)) (
 let e:=(List.getD a (Int.toNat b) (0,0))
 let f:Int:=(if e.1<c then e.1 else c:Int)
 (j3X (i,a) b).bind fun p=>
 let g:Tn14:=[(k,(f,p))]
 cond (decide (List.length j+List.length g≤j0c)) (
 let n:Tn14:=(j++g)
 some (.inl (f,c,i,a,n))) none) none) (
 (j3X (i,a) b).bind fun m=>
 let d:Tn14:=[(k,(c,m))]
 cond (decide (List.length j+List.length d≤j0c)) (
 let l:Tn14:=(j++d)
 some (.inl (c,c,i,a,l))) none)) (
 some (.inr j))
def j23 [LP] (b d c a e):=LP.lp (fun h=>j0N h.1 h.2.1 h.2.2.1 h.2.2.2.1 h.2.2.2.2) (b,d,c,a,e)
theorem j8q (b d c a e):j23 b d c a e=lpK (j0N b d c a e) (fun h=>j23 h.1 h.2.1 h.2.2.1 h.2.2.2.1 h.2.2.2.2):=j05 _ _
def j1S [LP] (b:Tn13) (a c:Int):Option (Tn14):=
 (j23 a c b.1 b.2 ([]:Tn14)).bind fun d=>
 some d
def j3U (a:(Int×Int)):Option (Int):=
 let c:Int:=(if (-1048576)>a.1 then (-1048576) else a.1:Int)
 let d:Int:=(if 1048576<c then 1048576 else c:Int)
 let e:=(w64 (d*86400))
 let b:=(w64 (e+a.2))
 some b
def j1i (l a m f:Int) (b:Tn14):Option ((Int×Int×Int×Int×Tn14) ⊕ ((Int×Bool) ⊕ Unit)):=
 cond (decide (a<l)) (
 cond (inR a (List.length b)) (
 let e:=(List.getD b (Int.toNat a) (0,(0,0))).1
 let i:=(List.getD b (Int.toNat a) (0,(0,0))).2.1
 let j:=(List.getD b (Int.toNat a) (0,(0,0))).2.2
 (j3U (m,f)).bind fun g=>
 let d:=(w64 (g-j))
 let c:Int:=(if d>e then d else e:Int)
 cond (decide (c<i)) (
 some (.inr (.inl (c,true)))) (
 let k:=(w64 (a+1))
 some (.inl (l,k,m,f,b)))) none) (
 some (.inr (.inr ())))
def j2k [LP] (c d e a b):=LP.lp (fun h=>j1i h.1 h.2.1 h.2.2.1 h.2.2.2.1 h.2.2.2.2) (c,d,e,a,b)
theorem j4b (c d e a b):j2k c d e a b=lpK (j1i c d e a b) (fun h=>j2k h.1 h.2.1 h.2.2.1 h.2.2.2.1 h.2.2.2.2):=j05 _ _
def j0P [LP] (a:Tn13) (b:(Int×Int)):Option (Int×Bool):=
 (j1S (a.1,a.2) 0 8589934593).bind fun c=>
 let d:=(Int.ofNat (List.length c))
 (j2k d 0 b.1 b.2 c).bind fun e=>
 sumC e (fun f=>
 some (f.1,f.2)) (fun g=>
 some (0,false))
def j0F [LP] (b:Tn13) (a:Tn59) (c:Int):Option (Int×Bool):=
 cond (decide (c>8589934592)) (
 some (0,false)) (
 cond (a.2.2.2.1 != 0) (
 (j9r (a.1,(a.2.1,((a.2.2.1.1,a.2.2.1.2),(a.2.2.2.1,(a.2.2.2.2.1,(a.2.2.2.2.2.1,(a.2.2.2.2.2.2.1,(a.2.2.2.2.2.2.2.1,a.2.2.2.2.2.2.2.2))))))))).bind fun k=>
 let i:=(w64 (c*k))
 let l:=(w64 (a.2.2.1.1+i))
 (j0P (b.1,b.2) (l,a.2.2.1.2)).bind fun f=>
 some (f.1,f.2)) (
 (j0P (b.1,b.2) (a.2.2.1.1,a.2.2.1.2)).bind fun d=>
 let j:=(w64 (3600*a.2.2.2.2.1))
 let g:=(w64 (j*c))
 let e:=(w64 (d.1+g))
 some (e,(cond d.2 (decide (e≤8589934592)) false))))
def j2u (c:Tn29) (m a:Int) (p:Tn54) (i:Tn48) (j:Tn26) (f:Tn65) (d:Tn20) (o:ByteArray) (e:Tn60) (g:Tn29) (n:Int):Option ((Tn29×Int×Int×Tn54×Tn48×Tn26×Tn65×Tn20×ByteArray×Tn60×Tn29×Int) ⊕ ((Tn54×Tn48×Tn26×Tn65×Tn20×ByteArray×Tn60×Tn29×Int))):=
 cond (decide (a<m)) (
 cond (inR a (List.length c)) (
 let b:=(List.getD c (Int.toNat a) (0,(0,(0,(0,0)))))
 let k:Int:=(if b.2.2.2.2>n then b.2.2.2.2 else n:Int)
 let l:=(w64 (a+1))
 some (.inl (c,m,l,p,i,j,f,d,o,e,g,k))) none) (
 some (.inr (p,i,j,f,d,o,e,g,n)))
def j2l [LP] (g i j m e f c a k b d l):=LP.lp (fun h=>j2u h.1 h.2.1 h.2.2.1 h.2.2.2.1 h.2.2.2.2.1 h.2.2.2.2.2.1 h.2.2.2.2.2.2.1 h.2.2.2.2.2.2.2.1 h.2.2.2.2.2.2.2.2.1 h.2.2.2.2.2.2.2.2.2.1 h.2.2.2.2.2.2.2.2.2.2.1 h.2.2.2.2.2.2.2.2.2.2.2) (g,i,j,m,e,f,c,a,k,b,d,l)
theorem j9a (g i j m e f c a k b d l):j2l g i j m e f c a k b d l=lpK (j2u g i j m e f c a k b d l) (fun h=>j2l h.1 h.2.1 h.2.2.1 h.2.2.2.1 h.2.2.2.2.1 h.2.2.2.2.2.1 h.2.2.2.2.2.2.1 h.2.2.2.2.2.2.2.1 h.2.2.2.2.2.2.2.2.1 h.2.2.2.2.2.2.2.2.2.1 h.2.2.2.2.2.2.2.2.2.2.1 h.2.2.2.2.2.2.2.2.2.2.2):=j05 _ _
def j0I [LP] (f:Tn60) (g e:Int) (b4:Tn54) (b0:Tn48) (b1:Tn26) (b2:Tn65) (a9:Tn20) (b3:Int):Option ((Tn60×Int×Int×Tn54×Tn48×Tn26×Tn65×Tn20×Int) ⊕ (Int)):=
 cond (decide (e<g)) (
 cond (inR e (List.length f)) (
 let d:=(List.getD f (Int.toNat e) (ByteArray.empty,(0,((0,0),(0,(0,(([]:(List Int)),(([]:Tn2),(0,0)))))))))
 (j30 d.2.1 b4 b0 b1 b2 a9 b3).bind fun a=>
 (j43 ((a.1,(a.2.1,(a.2.2.1,a.2.2.2.1))),a.2.2.2.2.1) d.2.1).bind fun p=>
 (j0F (p.1,p.2) (d.1,(d.2.1,((d.2.2.1.1,d.2.2.1.2),(d.2.2.2.1,(d.2.2.2.2.1,(d.2.2.2.2.2.1,(d.2.2.2.2.2.2.1,(d.2.2.2.2.2.2.2.1,d.2.2.2.2.2.2.2.2)))))))) 0).bind fun k=>
 cond k.2 (
 let r:Int:=(if k.1>a.2.2.2.2.2 then k.1 else a.2.2.2.2.2:Int)
 cond (d.2.2.2.2.2.2.2.2==0) (
 let a6:=(w64 (e+1))
 some (.inl (f,g,a6,a.1,a.2.1,a.2.2.1,a.2.2.2.1,a.2.2.2.2.1,r))) (
 cond (inR d.2.2.2.2.2.2.2.1 (List.length a.2.2.1)) (
 let i:=(List.getD a.2.2.1 (Int.toNat d.2.2.2.2.2.2.2.1) (ByteArray.empty,(0,([]:(List Int)))))
 (j30 i.2.1 a.1 a.2.1 a.2.2.1 a.2.2.2.1 a.2.2.2.2.1 r).bind fun c=>
 let q:=(Int.ofNat (List.length i.2.2))
 cond (decide (q>0)) (
 (j43 ((c.1,(c.2.1,(c.2.2.1,c.2.2.2.1))),c.2.2.2.2.1) i.2.1).bind fun u=>
 let n:=(w64 (q-1))
 cond (inR n (List.length i.2.2)) (
 let a7:=(List.getD i.2.2 (Int.toNat n) 0)
 let a5:=(w64 (a7+1))
 (j0P (u.1,u.2) (a5,0)).bind fun l=>
 cond l.2 (
 let a2:Int:=(if l.1>c.2.2.2.2.2 then l.1 else c.2.2.2.2.2:Int)
 let a3:=(w64 (e+1))
 some (.inl (f,g,a3,c.1,c.2.1,c.2.2.1,c.2.2.2.1,c.2.2.2.2.1,a2))) (
 let w:=(w64 (e+1))
 some (.inl (f,g,w,c.1,c.2.1,c.2.2.1,c.2.2.2.1,c.2.2.2.2.1,c.2.2.2.2.2)))) none) (
 let z:=(w64 (e+1))
 some (.inl (f,g,z,c.1,c.2.1,c.2.2.1,c.2.2.2.1,c.2.2.2.2.1,c.2.2.2.2.2)))) none)) (
 cond (d.2.2.2.2.2.2.2.2==0) (
 let v:=(w64 (e+1))
 some (.inl (f,g,v,a.1,a.2.1,a.2.2.1,a.2.2.2.1,a.2.2.2.2.1,a.2.2.2.2.2))) (
 cond (inR d.2.2.2.2.2.2.2.1 (List.length a.2.2.1)) (
 let j:=(List.getD a.2.2.1 (Int.toNat d.2.2.2.2.2.2.2.1) (ByteArray.empty,(0,([]:(List Int)))))
 (j30 j.2.1 a.1 a.2.1 a.2.2.1 a.2.2.2.1 a.2.2.2.2.1 a.2.2.2.2.2).bind fun b=>
 let o:=(Int.ofNat (List.length j.2.2))
 cond (decide (o>0)) (
 (j43 ((b.1,(b.2.1,(b.2.2.1,b.2.2.2.1))),b.2.2.2.2.1) j.2.1).bind fun s=>
 let t:=(w64 (o-1))
 cond (inR t (List.length j.2.2)) (
 let a8:=(List.getD j.2.2 (Int.toNat t) 0)
 let a1:=(w64 (a8+1))
 (j0P (s.1,s.2) (a1,0)).bind fun m=>
 cond m.2 (
 let a4:Int:=(if m.1>b.2.2.2.2.2 then m.1 else b.2.2.2.2.2:Int)
 let a0:=(w64 (e+1))
 some (.inl (f,g,a0,b.1,b.2.1,b.2.2.1,b.2.2.2.1,b.2.2.2.2.1,a4))) (
 let x:=(w64 (e+1))
 some (.inl (f,g,x,b.1,b.2.1,b.2.2.1,b.2.2.2.1,b.2.2.2.2.1,b.2.2.2.2.2)))) none) (
 let y:=(w64 (e+1))
 some (.inl (f,g,y,b.1,b.2.1,b.2.2.1,b.2.2.2.1,b.2.2.2.2.1,b.2.2.2.2.2)))) none))) none) (
 some (.inr b3))
def j2m [LP] (f g e j c d b a i):=LP.lp (fun h=>j0I h.1 h.2.1 h.2.2.1 h.2.2.2.1 h.2.2.2.2.1 h.2.2.2.2.2.1 h.2.2.2.2.2.2.1 h.2.2.2.2.2.2.2.1 h.2.2.2.2.2.2.2.2) (f,g,e,j,c,d,b,a,i)
theorem j9b (f g e j c d b a i):j2m f g e j c d b a i=lpK (j0I f g e j c d b a i) (fun h=>j2m h.1 h.2.1 h.2.2.1 h.2.2.2.1 h.2.2.2.2.1 h.2.2.2.2.2.1 h.2.2.2.2.2.2.1 h.2.2.2.2.2.2.2.1 h.2.2.2.2.2.2.2.2):=j05 _ _
def j3x [LP] (a:Tn73) (b:Tn64):Option (Int):=
 let e:=(Int.ofNat (List.length b.2.2))
 (j2l b.2.2 e 0 a.1.1 a.1.2.1 a.1.2.2.1 a.1.2.2.2 a.2 b.1 b.2.1 b.2.2 0).bind fun c=>
 let d:=(Int.ofNat (List.length c.2.2.2.2.2.2.1))
 (j2m c.2.2.2.2.2.2.1 d 0 c.1 c.2.1 c.2.2.1 c.2.2.2.1 c.2.2.2.2.1 c.2.2.2.2.2.2.2.2).bind fun f=>
 some f
def jaZ (a:(List Int)):Option ((List Int)):=
 cond (decide (List.length ([]:List (Int))+List.length a≤j0c)) (
 some (([]:List (Int))++a)) none
def jg5 (a b c:Int):Option (Bool):=
 some (cond (decide (a≤b)) true (decide (a≥c)))
def j44 (g a i c:Int) (b:(List Int)):Option ((Int×Int×Int×Int×(List Int)) ⊕ (Tn1 ⊕ (List Int))):=
 cond (decide (c<i)) (
 cond (inR c (List.length b)) (
 let e:=(List.getD b (Int.toNat c) 0)
 (jg5 e g a).bind fun d=>
 cond d (
 some (.inr (.inl (c,b)))) (
 let f:=(w64 (c+1))
 some (.inl (g,a,i,f,b)))) none) (
 some (.inr (.inr b)))
def j3d [LP] (b a c e:Int) (d:(List Int)):Option (Tn1 ⊕ (List Int)):=
 LP.lp (unc5 (j44)) (b,a,c,e,d)
def j1M [LP] (a:(List Int)) (c b:Int):Option Tn1:=
 let e:=(Int.ofNat (List.length a))
 (j3d c b e 0 a).bind fun d=>
 sumC d (fun f=>
 some (f.1,f.2)) (fun g=>
 some ((-1),g))
def j4t (l a e d:Int) (b:(List Int)):Option ((Int×Int×Int×Int×(List Int)) ⊕ (Tn1)):=
 let i:=(Int.ofNat (List.length b))
 cond (decide (d<i)) (
 cond (inR d (List.length b)) (
 let c:=(List.getD b (Int.toNat d) 0)
 (jg5 c l a).bind fun g=>
 cond (!g) (
 cond (inR e (List.length b)) (
 let m:(List Int):=(List.set b (Int.toNat e) c)
 let k:=(w64 (e+1))
 let j:=(w64 (d+1))
 some (.inl (l,a,k,j,m))) none) (
 let f:=(w64 (d+1))
 some (.inl (l,a,e,f,b)))) none) (
 some (.inr (e,b)))
def j3L [LP] (b a d c:Int) (e:(List Int)):Option (Tn1):=
 LP.lp (unc5 (j4t)) (b,a,d,c,e)
def j29 [LP] (e:(List Int)) (d a:Int):Option Tn1:=
 (j1M e d a).bind fun c=>
 cond (c.1==(-1)) (
 some ((Int.ofNat (List.length c.2)),c.2)) (
 let g:=(w64 (c.1+1))
 (j3L d a c.1 g c.2).bind fun b=>
 cond (decide (0≤b.1)&&decide (b.1≤(Int.ofNat (List.length b.2)))) (
 let f:(List Int):=(List.take (Int.toNat b.1) b.2++List.replicate (List.length b.2-(Int.toNat b.1)) 0)
 cond (decide (0≤b.1)&&decide (b.1≤(Int.ofNat (List.length f)))) (
 some ((Int.ofNat (Int.toNat b.1)),f)) none) none)
def jg6 (a:Int):Option (Int):=
 cond (decide (a≥4294967296)) (
 let l:Int:=(Int.fdiv a 4294967296)
 cond (decide (l≥65536)) (
 let m:Int:=(Int.fdiv l 65536)
 let b3:=(w64 (32+16))
 cond (decide (m≥256)) (
 let b7:Int:=(Int.fdiv m 256)
 let b8:=(w64 (b3+8))
 let b4:Int:=(IntKind.wrap .u8 b7)
 cond (inR b4 (ByteArray.size (ByteArray.mk #[0,1,2,2,3,3,3,3,4,4,4,4,4,4,4,4,5,5,5,5,5,5,5,5,5,5,5,5,5,5,5,5,6,6,6,6,6,6,6,6,6,6,6,6,6,6,6,6,6,6,6,6,6,6,6,6,6,6,6,6,6,6,6,6,7,7,7,7,7,7,7,7,7,7,7,7,7,7,7,7,7,7,7,7,7,7,7,7,7,7,7,7,7,7,7,7,7,7,7,7,7,7,7,7,7,7,7,7,7,7,7,7,7,7,7,7,7,7,7,7,7,7,7,7,7,7,7,7,8,8,8,8,8,8,8,8,8,8,8,8,8,8,8,8,8,8,8,8,8,8,8,8,8,8,8,8,8,8,8,8,8,8,8,8,8,8,8,8,8,8,8,8,8,8,8,8,8,8,8,8,8,8,8,8,8,8,8,8,8,8,8,8,8,8,8,8,8,8,8,8,8,8,8,8,8,8,8,8,8,8,8,8,8,8,8,8,8,8,8,8,8,8,8,8,8,8,8,8,8,8,8,8,8,8,8,8,8,8,8,8,8,8,8,8,8,8,8,8,8,8,8,8,8,8,8,8]))) (
 let b6:=(j2d (ByteArray.mk #[0,1,2,2,3,3,3,3,4,4,4,4,4,4,4,4,5,5,5,5,5,5,5,5,5,5,5,5,5,5,5,5,6,6,6,6,6,6,6,6,6,6,6,6,6,6,6,6,6,6,6,6,6,6,6,6,6,6,6,6,6,6,6,6,7,7,7,7,7,7,7,7,7,7,7,7,7,7,7,7,7,7,7,7,7,7,7,7,7,7,7,7,7,7,7,7,7,7,7,7,7,7,7,7,7,7,7,7,7,7,7,7,7,7,7,7,7,7,7,7,7,7,7,7,7,7,7,7,8,8,8,8,8,8,8,8,8,8,8,8,8,8,8,8,8,8,8,8,8,8,8,8,8,8,8,8,8,8,8,8,8,8,8,8,8,8,8,8,8,8,8,8,8,8,8,8,8,8,8,8,8,8,8,8,8,8,8,8,8,8,8,8,8,8,8,8,8,8,8,8,8,8,8,8,8,8,8,8,8,8,8,8,8,8,8,8,8,8,8,8,8,8,8,8,8,8,8,8,8,8,8,8,8,8,8,8,8,8,8,8,8,8,8,8,8,8,8,8,8,8,8,8,8,8,8,8]) b4)
 let b9:=(w64 (b8+(w64 b6)))
 some b9) none) (
 let d:Int:=(IntKind.wrap .u8 m)
 cond (inR d (ByteArray.size (ByteArray.mk #[0,1,2,2,3,3,3,3,4,4,4,4,4,4,4,4,5,5,5,5,5,5,5,5,5,5,5,5,5,5,5,5,6,6,6,6,6,6,6,6,6,6,6,6,6,6,6,6,6,6,6,6,6,6,6,6,6,6,6,6,6,6,6,6,7,7,7,7,7,7,7,7,7,7,7,7,7,7,7,7,7,7,7,7,7,7,7,7,7,7,7,7,7,7,7,7,7,7,7,7,7,7,7,7,7,7,7,7,7,7,7,7,7,7,7,7,7,7,7,7,7,7,7,7,7,7,7,7,8,8,8,8,8,8,8,8,8,8,8,8,8,8,8,8,8,8,8,8,8,8,8,8,8,8,8,8,8,8,8,8,8,8,8,8,8,8,8,8,8,8,8,8,8,8,8,8,8,8,8,8,8,8,8,8,8,8,8,8,8,8,8,8,8,8,8,8,8,8,8,8,8,8,8,8,8,8,8,8,8,8,8,8,8,8,8,8,8,8,8,8,8,8,8,8,8,8,8,8,8,8,8,8,8,8,8,8,8,8,8,8,8,8,8,8,8,8,8,8,8,8,8,8,8,8,8,8]))) (
 let b2:=(j2d (ByteArray.mk #[0,1,2,2,3,3,3,3,4,4,4,4,4,4,4,4,5,5,5,5,5,5,5,5,5,5,5,5,5,5,5,5,6,6,6,6,6,6,6,6,6,6,6,6,6,6,6,6,6,6,6,6,6,6,6,6,6,6,6,6,6,6,6,6,7,7,7,7,7,7,7,7,7,7,7,7,7,7,7,7,7,7,7,7,7,7,7,7,7,7,7,7,7,7,7,7,7,7,7,7,7,7,7,7,7,7,7,7,7,7,7,7,7,7,7,7,7,7,7,7,7,7,7,7,7,7,7,7,8,8,8,8,8,8,8,8,8,8,8,8,8,8,8,8,8,8,8,8,8,8,8,8,8,8,8,8,8,8,8,8,8,8,8,8,8,8,8,8,8,8,8,8,8,8,8,8,8,8,8,8,8,8,8,8,8,8,8,8,8,8,8,8,8,8,8,8,8,8,8,8,8,8,8,8,8,8,8,8,8,8,8,8,8,8,8,8,8,8,8,8,8,8,8,8,8,8,8,8,8,8,8,8,8,8,8,8,8,8,8,8,8,8,8,8,8,8,8,8,8,8,8,8,8,8,8,8]) d)
 let b5:=(w64 b2)
 let r:=(w64 (b3+b5))
 some r) none)) (
 cond (decide (l≥256)) (
 let y:Int:=(Int.fdiv l 256)
 let a8:=(w64 (32+8))
 let j:Int:=(IntKind.wrap .u8 y)
 cond (inR j (ByteArray.size (ByteArray.mk #[0,1,2,2,3,3,3,3,4,4,4,4,4,4,4,4,5,5,5,5,5,5,5,5,5,5,5,5,5,5,5,5,6,6,6,6,6,6,6,6,6,6,6,6,6,6,6,6,6,6,6,6,6,6,6,6,6,6,6,6,6,6,6,6,7,7,7,7,7,7,7,7,7,7,7,7,7,7,7,7,7,7,7,7,7,7,7,7,7,7,7,7,7,7,7,7,7,7,7,7,7,7,7,7,7,7,7,7,7,7,7,7,7,7,7,7,7,7,7,7,7,7,7,7,7,7,7,7,8,8,8,8,8,8,8,8,8,8,8,8,8,8,8,8,8,8,8,8,8,8,8,8,8,8,8,8,8,8,8,8,8,8,8,8,8,8,8,8,8,8,8,8,8,8,8,8,8,8,8,8,8,8,8,8,8,8,8,8,8,8,8,8,8,8,8,8,8,8,8,8,8,8,8,8,8,8,8,8,8,8,8,8,8,8,8,8,8,8,8,8,8,8,8,8,8,8,8,8,8,8,8,8,8,8,8,8,8,8,8,8,8,8,8,8,8,8,8,8,8,8,8,8,8,8,8,8]))) (
 let b0:=(j2d (ByteArray.mk #[0,1,2,2,3,3,3,3,4,4,4,4,4,4,4,4,5,5,5,5,5,5,5,5,5,5,5,5,5,5,5,5,6,6,6,6,6,6,6,6,6,6,6,6,6,6,6,6,6,6,6,6,6,6,6,6,6,6,6,6,6,6,6,6,7,7,7,7,7,7,7,7,7,7,7,7,7,7,7,7,7,7,7,7,7,7,7,7,7,7,7,7,7,7,7,7,7,7,7,7,7,7,7,7,7,7,7,7,7,7,7,7,7,7,7,7,7,7,7,7,7,7,7,7,7,7,7,7,8,8,8,8,8,8,8,8,8,8,8,8,8,8,8,8,8,8,8,8,8,8,8,8,8,8,8,8,8,8,8,8,8,8,8,8,8,8,8,8,8,8,8,8,8,8,8,8,8,8,8,8,8,8,8,8,8,8,8,8,8,8,8,8,8,8,8,8,8,8,8,8,8,8,8,8,8,8,8,8,8,8,8,8,8,8,8,8,8,8,8,8,8,8,8,8,8,8,8,8,8,8,8,8,8,8,8,8,8,8,8,8,8,8,8,8,8,8,8,8,8,8,8,8,8,8,8,8]) j)
 let a3:=(w64 b0)
 let w:=(w64 (a8+a3))
 some w) none) (
 let g:Int:=(IntKind.wrap .u8 l)
 cond (inR g (ByteArray.size (ByteArray.mk #[0,1,2,2,3,3,3,3,4,4,4,4,4,4,4,4,5,5,5,5,5,5,5,5,5,5,5,5,5,5,5,5,6,6,6,6,6,6,6,6,6,6,6,6,6,6,6,6,6,6,6,6,6,6,6,6,6,6,6,6,6,6,6,6,7,7,7,7,7,7,7,7,7,7,7,7,7,7,7,7,7,7,7,7,7,7,7,7,7,7,7,7,7,7,7,7,7,7,7,7,7,7,7,7,7,7,7,7,7,7,7,7,7,7,7,7,7,7,7,7,7,7,7,7,7,7,7,7,8,8,8,8,8,8,8,8,8,8,8,8,8,8,8,8,8,8,8,8,8,8,8,8,8,8,8,8,8,8,8,8,8,8,8,8,8,8,8,8,8,8,8,8,8,8,8,8,8,8,8,8,8,8,8,8,8,8,8,8,8,8,8,8,8,8,8,8,8,8,8,8,8,8,8,8,8,8,8,8,8,8,8,8,8,8,8,8,8,8,8,8,8,8,8,8,8,8,8,8,8,8,8,8,8,8,8,8,8,8,8,8,8,8,8,8,8,8,8,8,8,8,8,8,8,8,8,8]))) (
 let a6:=(j2d (ByteArray.mk #[0,1,2,2,3,3,3,3,4,4,4,4,4,4,4,4,5,5,5,5,5,5,5,5,5,5,5,5,5,5,5,5,6,6,6,6,6,6,6,6,6,6,6,6,6,6,6,6,6,6,6,6,6,6,6,6,6,6,6,6,6,6,6,6,7,7,7,7,7,7,7,7,7,7,7,7,7,7,7,7,7,7,7,7,7,7,7,7,7,7,7,7,7,7,7,7,7,7,7,7,7,7,7,7,7,7,7,7,7,7,7,7,7,7,7,7,7,7,7,7,7,7,7,7,7,7,7,7,8,8,8,8,8,8,8,8,8,8,8,8,8,8,8,8,8,8,8,8,8,8,8,8,8,8,8,8,8,8,8,8,8,8,8,8,8,8,8,8,8,8,8,8,8,8,8,8,8,8,8,8,8,8,8,8,8,8,8,8,8,8,8,8,8,8,8,8,8,8,8,8,8,8,8,8,8,8,8,8,8,8,8,8,8,8,8,8,8,8,8,8,8,8,8,8,8,8,8,8,8,8,8,8,8,8,8,8,8,8,8,8,8,8,8,8,8,8,8,8,8,8,8,8,8,8,8,8]) g)
 let a4:=(w64 a6)
 let n:=(w64 (32+a4))
 some n) none))) (
 cond (decide (a≥65536)) (
 let b:Int:=(Int.fdiv a 65536)
 let c:=(w64 (0+16))
 cond (decide (b≥256)) (
 let q:Int:=(Int.fdiv b 256)
 let a9:=(w64 (c+8))
 let f:Int:=(IntKind.wrap .u8 q)
 cond (inR f (ByteArray.size (ByteArray.mk #[0,1,2,2,3,3,3,3,4,4,4,4,4,4,4,4,5,5,5,5,5,5,5,5,5,5,5,5,5,5,5,5,6,6,6,6,6,6,6,6,6,6,6,6,6,6,6,6,6,6,6,6,6,6,6,6,6,6,6,6,6,6,6,6,7,7,7,7,7,7,7,7,7,7,7,7,7,7,7,7,7,7,7,7,7,7,7,7,7,7,7,7,7,7,7,7,7,7,7,7,7,7,7,7,7,7,7,7,7,7,7,7,7,7,7,7,7,7,7,7,7,7,7,7,7,7,7,7,8,8,8,8,8,8,8,8,8,8,8,8,8,8,8,8,8,8,8,8,8,8,8,8,8,8,8,8,8,8,8,8,8,8,8,8,8,8,8,8,8,8,8,8,8,8,8,8,8,8,8,8,8,8,8,8,8,8,8,8,8,8,8,8,8,8,8,8,8,8,8,8,8,8,8,8,8,8,8,8,8,8,8,8,8,8,8,8,8,8,8,8,8,8,8,8,8,8,8,8,8,8,8,8,8,8,8,8,8,8,8,8,8,8,8,8,8,8,8,8,8,8,8,8,8,8,8,8]))) (
 let u:=(j2d (ByteArray.mk #[0,1,2,2,3,3,3,3,4,4,4,4,4,4,4,4,5,5,5,5,5,5,5,5,5,5,5,5,5,5,5,5,6,6,6,6,6,6,6,6,6,6,6,6,6,6,6,6,6,6,6,6,6,6,6,6,6,6,6,6,6,6,6,6,7,7,7,7,7,7,7,7,7,7,7,7,7,7,7,7,7,7,7,7,7,7,7,7,7,7,7,7,7,7,7,7,7,7,7,7,7,7,7,7,7,7,7,7,7,7,7,7,7,7,7,7,7,7,7,7,7,7,7,7,7,7,7,7,8,8,8,8,8,8,8,8,8,8,8,8,8,8,8,8,8,8,8,8,8,8,8,8,8,8,8,8,8,8,8,8,8,8,8,8,8,8,8,8,8,8,8,8,8,8,8,8,8,8,8,8,8,8,8,8,8,8,8,8,8,8,8,8,8,8,8,8,8,8,8,8,8,8,8,8,8,8,8,8,8,8,8,8,8,8,8,8,8,8,8,8,8,8,8,8,8,8,8,8,8,8,8,8,8,8,8,8,8,8,8,8,8,8,8,8,8,8,8,8,8,8,8,8,8,8,8,8]) f)
 let p:=(w64 u)
 let b1:=(w64 (a9+p))
 some b1) none) (
 let i:Int:=(IntKind.wrap .u8 b)
 cond (inR i (ByteArray.size (ByteArray.mk #[0,1,2,2,3,3,3,3,4,4,4,4,4,4,4,4,5,5,5,5,5,5,5,5,5,5,5,5,5,5,5,5,6,6,6,6,6,6,6,6,6,6,6,6,6,6,6,6,6,6,6,6,6,6,6,6,6,6,6,6,6,6,6,6,7,7,7,7,7,7,7,7,7,7,7,7,7,7,7,7,7,7,7,7,7,7,7,7,7,7,7,7,7,7,7,7,7,7,7,7,7,7,7,7,7,7,7,7,7,7,7,7,7,7,7,7,7,7,7,7,7,7,7,7,7,7,7,7,8,8,8,8,8,8,8,8,8,8,8,8,8,8,8,8,8,8,8,8,8,8,8,8,8,8,8,8,8,8,8,8,8,8,8,8,8,8,8,8,8,8,8,8,8,8,8,8,8,8,8,8,8,8,8,8,8,8,8,8,8,8,8,8,8,8,8,8,8,8,8,8,8,8,8,8,8,8,8,8,8,8,8,8,8,8,8,8,8,8,8,8,8,8,8,8,8,8,8,8,8,8,8,8,8,8,8,8,8,8,8,8,8,8,8,8,8,8,8,8,8,8,8,8,8,8,8,8]))) (
 let a0:=(j2d (ByteArray.mk #[0,1,2,2,3,3,3,3,4,4,4,4,4,4,4,4,5,5,5,5,5,5,5,5,5,5,5,5,5,5,5,5,6,6,6,6,6,6,6,6,6,6,6,6,6,6,6,6,6,6,6,6,6,6,6,6,6,6,6,6,6,6,6,6,7,7,7,7,7,7,7,7,7,7,7,7,7,7,7,7,7,7,7,7,7,7,7,7,7,7,7,7,7,7,7,7,7,7,7,7,7,7,7,7,7,7,7,7,7,7,7,7,7,7,7,7,7,7,7,7,7,7,7,7,7,7,7,7,8,8,8,8,8,8,8,8,8,8,8,8,8,8,8,8,8,8,8,8,8,8,8,8,8,8,8,8,8,8,8,8,8,8,8,8,8,8,8,8,8,8,8,8,8,8,8,8,8,8,8,8,8,8,8,8,8,8,8,8,8,8,8,8,8,8,8,8,8,8,8,8,8,8,8,8,8,8,8,8,8,8,8,8,8,8,8,8,8,8,8,8,8,8,8,8,8,8,8,8,8,8,8,8,8,8,8,8,8,8,8,8,8,8,8,8,8,8,8,8,8,8,8,8,8,8,8,8]) i)
 let a5:=(w64 a0)
 let o:=(w64 (c+a5))
 some o) none)) (
 cond (decide (a≥256)) (
 let a7:Int:=(Int.fdiv a 256)
 let v:=(w64 (0+8))
 let k:Int:=(IntKind.wrap .u8 a7)
 cond (inR k (ByteArray.size (ByteArray.mk #[0,1,2,2,3,3,3,3,4,4,4,4,4,4,4,4,5,5,5,5,5,5,5,5,5,5,5,5,5,5,5,5,6,6,6,6,6,6,6,6,6,6,6,6,6,6,6,6,6,6,6,6,6,6,6,6,6,6,6,6,6,6,6,6,7,7,7,7,7,7,7,7,7,7,7,7,7,7,7,7,7,7,7,7,7,7,7,7,7,7,7,7,7,7,7,7,7,7,7,7,7,7,7,7,7,7,7,7,7,7,7,7,7,7,7,7,7,7,7,7,7,7,7,7,7,7,7,7,8,8,8,8,8,8,8,8,8,8,8,8,8,8,8,8,8,8,8,8,8,8,8,8,8,8,8,8,8,8,8,8,8,8,8,8,8,8,8,8,8,8,8,8,8,8,8,8,8,8,8,8,8,8,8,8,8,8,8,8,8,8,8,8,8,8,8,8,8,8,8,8,8,8,8,8,8,8,8,8,8,8,8,8,8,8,8,8,8,8,8,8,8,8,8,8,8,8,8,8,8,8,8,8,8,8,8,8,8,8,8,8,8,8,8,8,8,8,8,8,8,8,8,8,8,8,8,8]))) (
 let a1:=(j2d (ByteArray.mk #[0,1,2,2,3,3,3,3,4,4,4,4,4,4,4,4,5,5,5,5,5,5,5,5,5,5,5,5,5,5,5,5,6,6,6,6,6,6,6,6,6,6,6,6,6,6,6,6,6,6,6,6,6,6,6,6,6,6,6,6,6,6,6,6,7,7,7,7,7,7,7,7,7,7,7,7,7,7,7,7,7,7,7,7,7,7,7,7,7,7,7,7,7,7,7,7,7,7,7,7,7,7,7,7,7,7,7,7,7,7,7,7,7,7,7,7,7,7,7,7,7,7,7,7,7,7,7,7,8,8,8,8,8,8,8,8,8,8,8,8,8,8,8,8,8,8,8,8,8,8,8,8,8,8,8,8,8,8,8,8,8,8,8,8,8,8,8,8,8,8,8,8,8,8,8,8,8,8,8,8,8,8,8,8,8,8,8,8,8,8,8,8,8,8,8,8,8,8,8,8,8,8,8,8,8,8,8,8,8,8,8,8,8,8,8,8,8,8,8,8,8,8,8,8,8,8,8,8,8,8,8,8,8,8,8,8,8,8,8,8,8,8,8,8,8,8,8,8,8,8,8,8,8,8,8,8]) k)
 let x:=(w64 a1)
 let s:=(w64 (v+x))
 some s) none) (
 let e:Int:=(IntKind.wrap .u8 a)
 cond (inR e (ByteArray.size (ByteArray.mk #[0,1,2,2,3,3,3,3,4,4,4,4,4,4,4,4,5,5,5,5,5,5,5,5,5,5,5,5,5,5,5,5,6,6,6,6,6,6,6,6,6,6,6,6,6,6,6,6,6,6,6,6,6,6,6,6,6,6,6,6,6,6,6,6,7,7,7,7,7,7,7,7,7,7,7,7,7,7,7,7,7,7,7,7,7,7,7,7,7,7,7,7,7,7,7,7,7,7,7,7,7,7,7,7,7,7,7,7,7,7,7,7,7,7,7,7,7,7,7,7,7,7,7,7,7,7,7,7,8,8,8,8,8,8,8,8,8,8,8,8,8,8,8,8,8,8,8,8,8,8,8,8,8,8,8,8,8,8,8,8,8,8,8,8,8,8,8,8,8,8,8,8,8,8,8,8,8,8,8,8,8,8,8,8,8,8,8,8,8,8,8,8,8,8,8,8,8,8,8,8,8,8,8,8,8,8,8,8,8,8,8,8,8,8,8,8,8,8,8,8,8,8,8,8,8,8,8,8,8,8,8,8,8,8,8,8,8,8,8,8,8,8,8,8,8,8,8,8,8,8,8,8,8,8,8,8]))) (
 let a2:=(j2d (ByteArray.mk #[0,1,2,2,3,3,3,3,4,4,4,4,4,4,4,4,5,5,5,5,5,5,5,5,5,5,5,5,5,5,5,5,6,6,6,6,6,6,6,6,6,6,6,6,6,6,6,6,6,6,6,6,6,6,6,6,6,6,6,6,6,6,6,6,7,7,7,7,7,7,7,7,7,7,7,7,7,7,7,7,7,7,7,7,7,7,7,7,7,7,7,7,7,7,7,7,7,7,7,7,7,7,7,7,7,7,7,7,7,7,7,7,7,7,7,7,7,7,7,7,7,7,7,7,7,7,7,7,8,8,8,8,8,8,8,8,8,8,8,8,8,8,8,8,8,8,8,8,8,8,8,8,8,8,8,8,8,8,8,8,8,8,8,8,8,8,8,8,8,8,8,8,8,8,8,8,8,8,8,8,8,8,8,8,8,8,8,8,8,8,8,8,8,8,8,8,8,8,8,8,8,8,8,8,8,8,8,8,8,8,8,8,8,8,8,8,8,8,8,8,8,8,8,8,8,8,8,8,8,8,8,8,8,8,8,8,8,8,8,8,8,8,8,8,8,8,8,8,8,8,8,8,8,8,8,8]) e)
 let z:=(w64 a2)
 let t:=(w64 (0+z))
 some t) none)))
def jj3 (a:Int):Option (Int):=
 (jg6 a).bind fun b=>
 some b
def jba (a:Int):Option (Bool):=
 some (a != a)
def j9Z (a b:Int):Option (Bool):=
 (jba a).bind fun d=>
 cond d (
 (jba b).bind fun c=>
 some (cond (!c) true (decide (a<b)))) (
 some (decide (a<b)))
def j3e (j q p b:Int) (a:(List Int)):Option ((Int×Int×Int×Int×(List Int)) ⊕ ((Int×Int×Int×(List Int)))):=
 cond (decide (b>j)) (
 cond (inR b (List.length a)) (
 let i:=(List.getD a (Int.toNat b) 0)
 let d:=(w64 (b-1))
 cond (inR d (List.length a)) (
 let m:=(List.getD a (Int.toNat d) 0)
 (j9Z i m).bind fun l=>
 cond l (
 let f:=(w64 (b-1))
 let e:=(w64 (b-1))
 cond (inR e (List.length a)) (
 let n:=(List.getD a (Int.toNat e) 0)
 cond (inR b (List.length a)) (
 let g:=(List.getD a (Int.toNat b) 0)
 cond (inR b (List.length a)) (
 let c:(List Int):=(List.set a (Int.toNat b) n)
 cond (inR f (List.length c)) (
 let o:(List Int):=(List.set c (Int.toNat f) g)
 let k:=(w64 (b-1))
 some (.inl (j,q,p,k,o))) none) none) none) none) (
 some (.inr (j,q,p,a)))) none) none) (
 some (.inr (j,q,p,a)))
def j2z [LP] (a d b c:Int) (e:(List Int)):Option ((Int×Int×Int×(List Int))):=
 LP.lp (unc5 (j3e)) (a,d,b,c,e)
def j0G [LP] (f d c:Int) (e:(List Int)):Option ((Int×Int×Int×(List Int)) ⊕ ((List Int))):=
 cond (decide (c<d)) (
 (j2z f d c c e).bind fun a=>
 let b:=(w64 (a.2.2.1+1))
 some (.inl (a.1,a.2.1,b,a.2.2.2))) (
 some (.inr e))
def j2A [LP] (c a b:Int) (d:(List Int)):Option ((List Int)):=
 LP.lp (unc4 (j0G)) (c,a,b,d)
def j1j [LP] (a:(List Int)) (b c:Int):Option ((List Int)):=
 let e:=(w64 (b+1))
 (j2A b c e a).bind fun d=>
 some d
def j16 [LP] (c d e:Int) (f i:Bool) (g:(List Int)):Option ((Int×Int×Int×Bool×Bool×(List Int)) ⊕ ((List Int))):=
 let a:=(w64 (d-c))
 cond (decide (a≤12)) (
 (j1j g c d).bind fun b=>
 some (.inr b)) (
 cond (e==0) (
 none) (
 cond (!f) (
 none) (
 none)))
def j3M [LP] (a c b:Int) (e d:Bool) (f:(List Int)):Option ((List Int)):=
 LP.lp (unc6 (j16)) (a,c,b,e,d,f)
def j2a [LP] (b:(List Int)) (c d a:Int):Option ((List Int)):=
 (j3M c d a true true b).bind fun e=>
 some e
def j45 [LP] (a:(List Int)):Option ((List Int)):=
 let b:=(Int.ofNat (List.length a))
 let e:Int:=(IntKind.wrap .u64 b)
 (jj3 e).bind fun d=>
 (j2a a 0 b d).bind fun c=>
 some c
def j5l (e b c:Int) (a:(List Int)):Option ((Int×Int×Int×(List Int)) ⊕ (Tn1)):=
 let m:=(Int.ofNat (List.length a-(Int.toNat b)))
 cond (decide (c<m)) (
 cond (inR c (List.length a-(Int.toNat b))) (
 let i:=(List.getD a ((Int.toNat b)+(Int.toNat c)) 0)
 let d:=(w64 (c-1))
 cond (inR d (List.length a-(Int.toNat b))) (
 let j:=(List.getD a ((Int.toNat b)+(Int.toNat d)) 0)
 cond (i != j) (
 cond (inR c (List.length a-(Int.toNat b))) (
 let l:=(List.getD a ((Int.toNat b)+(Int.toNat c)) 0)
 cond (inR e (List.length a)) (
 let n:(List Int):=(List.set a (Int.toNat e) l)
 let f:=(w64 (e+1))
 let k:=(w64 (c+1))
 some (.inl (f,(Int.ofNat (Int.toNat b)),k,n))) none) none) (
 let g:=(w64 (c+1))
 some (.inl (e,(Int.ofNat (Int.toNat b)),g,a)))) none) none) (
 some (.inr (e,a)))
def j4O [LP] (a c d:Int) (b:(List Int)):Option (Tn1):=
 LP.lp (unc4 (j5l)) (a,c,d,b)
def j1p [LP] (b:Int) (c:(List Int)):Option (Tn1 ⊕ (Tn1 ⊕ (List Int))):=
 let j:=(Int.ofNat (List.length c))
 cond (decide (b<j)) (
 cond (inR b (List.length c)) (
 let g:=(List.getD c (Int.toNat b) 0)
 let d:=(w64 (b-1))
 cond (inR d (List.length c)) (
 let i:=(List.getD c (Int.toNat d) 0)
 cond (g==i) (
 cond (decide (0≤b)&&decide (b≤(Int.ofNat (List.length c)))) (
 (j4O b (Int.ofNat (Int.toNat b)) 1 c).bind fun a=>
 cond (decide (0≤a.1)&&decide (a.1≤(Int.ofNat (List.length a.2)))) (
 let e:(List Int):=(List.take (Int.toNat a.1) a.2++List.replicate (List.length a.2-(Int.toNat a.1)) 0)
 cond (decide (0≤a.1)&&decide (a.1≤(Int.ofNat (List.length e)))) (
 some (.inr (.inl ((Int.ofNat (Int.toNat a.1)),e)))) none) none) none) (
 let f:=(w64 (b+1))
 some (.inl (f,c)))) none) none) (
 some (.inr (.inr c)))
def j4P [LP] (a:Int) (b:(List Int)):Option (Tn1 ⊕ (List Int)):=
 LP.lp (unc2 (j1p)) (a,b)
def j2X [LP] (a:(List Int)):Option Tn1:=
 let c:=(Int.ofNat (List.length a))
 cond (decide (c<2)) (
 some ((Int.ofNat (List.length a)),a)) (
 (j4P 1 a).bind fun b=>
 sumC b (fun d=>
 some ((Int.ofNat (Int.toNat d.1)),d.2)) (fun e=>
 some ((Int.ofNat (List.length e)),e)))
def jg7 [LP] (f:(List Int)) (b a:Int):Option ((List Int)):=
 (jaZ f).bind fun k=>
 (j29 k b a).bind fun d=>
 let j:(List Int):=(List.take (Int.toNat d.1) d.2)
 (j45 j).bind fun g=>
 (j2X g).bind fun c=>
 let e:(List Int):=(List.take (Int.toNat c.1) c.2)
 cond (decide (List.length e+List.length [a]≤j0c)) (
 let i:(List Int):=(e++[a])
 some i) none
def j2n (a:Tn60):Option (Tn60):=
 some a
def j5m (a:Tn2):Option (Tn2):=
 cond (decide (List.length ([]:List ((Int×Int)))+List.length a≤j0c)) (
 some (([]:List ((Int×Int)))++a)) none
def jey (a:(Int×Int)):Option (Bool):=
 some (decide (a.2≤a.1))
def j2U (g b:Int) (a:Tn2):Option ((Int×Int×Tn2) ⊕ (Tn13 ⊕ Tn2)):=
 cond (decide (b<g)) (
 cond (inR b (List.length a)) (
 let e:=(List.getD a (Int.toNat b) (0,0)).1
 let f:=(List.getD a (Int.toNat b) (0,0)).2
 (jey (e,f)).bind fun c=>
 cond c (
 some (.inr (.inl (b,a)))) (
 let d:=(w64 (b+1))
 some (.inl (g,d,a)))) none) (
 some (.inr (.inr a)))
def j24 [LP] (b a c):=LP.lp (fun h=>j2U h.1 h.2.1 h.2.2) (b,a,c)
def j11 [LP] (a:Tn2):Option Tn13:=
 let c:=(Int.ofNat (List.length a))
 (j24 c 0 a).bind fun b=>
 sumC b (fun d=>
 some (d.1,d.2)) (fun e=>
 some ((-1),e))
def j2G (e d:Int) (a:Tn2):Option ((Int×Int×Tn2) ⊕ (Tn13)):=
 let i:=(Int.ofNat (List.length a))
 cond (decide (d<i)) (
 cond (inR d (List.length a)) (
 let c:=(List.getD a (Int.toNat d) (0,0)).1
 let b:=(List.getD a (Int.toNat d) (0,0)).2
 (jey (c,b)).bind fun g=>
 cond (!g) (
 cond (inR e (List.length a)) (
 let l:Tn2:=(List.set a (Int.toNat e) (c,b))
 let k:=(w64 (e+1))
 let j:=(w64 (d+1))
 some (.inl (k,j,l))) none) (
 let f:=(w64 (d+1))
 some (.inl (e,f,a)))) none) (
 some (.inr (e,a)))
def j1T [LP] (b a c):=LP.lp (fun h=>j2G h.1 h.2.1 h.2.2) (b,a,c)
def j0S [LP] (c:Tn2):Option Tn13:=
 (j11 c).bind fun b=>
 cond (b.1==(-1)) (
 some ((Int.ofNat (List.length b.2)),b.2)) (
 let e:=(w64 (b.1+1))
 (j1T b.1 e b.2).bind fun a=>
 cond (decide (0≤a.1)&&decide (a.1≤(Int.ofNat (List.length a.2)))) (
 let d:Tn2:=(List.take (Int.toNat a.1) a.2++List.replicate (List.length a.2-(Int.toNat a.1)) (0,0))
 cond (decide (0≤a.1)&&decide (a.1≤(Int.ofNat (List.length d)))) (
 some ((Int.ofNat (Int.toNat a.1)),d)) none) none)
def jbb (b a:(Int×Int)):Option (Int):=
 let c:=(w64 (b.1-a.1))
 some c
def j1Q (a:Tn2):Option (Tn2):=
 juj ((.pair (.int .i64) (.int .i64))) (fun c b=>(jbb c b).getD 0) a
def jd3 (l d:Int) (a e:Tn2):Option ((Int×Int×Tn2×Tn2) ⊕ (Tn2)):=
 cond (decide (d<l)) (
 cond (inR d (List.length e)) (
 let f:=(List.getD e (Int.toNat d) (0,0)).1
 let b:=(List.getD e (Int.toNat d) (0,0)).2
 let c:=(Int.ofNat (List.length a))
 cond (decide (c>0)) (
 let j:=(w64 (c-1))
 cond (inR j (List.length a)) (
 let p:=(List.getD a (Int.toNat j) (0,0)).2
 cond (decide (f≤p)) (
 let g:=(w64 (c-1))
 let m:=(w64 (c-1))
 cond (inR m (List.length a)) (
 let k:=(List.getD a (Int.toNat m) (0,0)).2
 let s:Int:=(if b>k then b else k:Int)
 cond (inR g (List.length a)) (
 let t:Tn2:=(List.set a (Int.toNat g) ((List.getD a (Int.toNat g) (0,0)).1,s))
 let u:=(w64 (d+1))
 some (.inl (l,u,t,e))) none) none) (
 let n:Tn2:=[(f,b)]
 cond (decide (List.length a+List.length n≤j0c)) (
 let v:Tn2:=(a++n)
 let r:=(w64 (d+1))
 some (.inl (l,r,v,e))) none)) none) (
 let i:Tn2:=[(f,b)]
 cond (decide (List.length a+List.length i≤j0c)) (
 let q:Tn2:=(a++i)
 let o:=(w64 (d+1))
 some (.inl (l,o,q,e))) none)) none) (
 some (.inr a))
def jez [LP] (c b d a):=LP.lp (fun h=>jd3 h.1 h.2.1 h.2.2.1 h.2.2.2) (c,b,d,a)
def j6T [LP] (c:Tn2):Option (Tn2):=
 (j5m c).bind fun f=>
 (j0S f).bind fun a=>
 let d:Tn2:=(List.take (Int.toNat a.1) a.2)
 (j1Q d).bind fun b=>
 let e:=(Int.ofNat (List.length b))
 (jez e 0 ([]:Tn2) b).bind fun g=>
 some g
def jb0 (u:Tn2) (g p s:Int) (k:Tn2) (r i f a d:Int) (t:Tn2) (q:Tn14):Option ((Tn2×Int×Int×Int×Tn2×Int×Int×Int×Int×Int×Tn2×Tn14) ⊕ ((Tn2×Int×Int×Int×Int×Int×Int×Tn2×Tn14))):=
 cond (decide (i<r)) (
 cond (inR i (List.length k)) (
 let j:=(List.getD k (Int.toNat i) (0,0))
 let b:=(w64 (g+j.1))
 let n:Int:=(if b>f then b else f:Int)
 let c:=(w64 (g+j.2))
 let m:Int:=(if c<a then c else a:Int)
 let e:Tn2:=[(n,m)]
 cond (decide (List.length t+List.length e≤j0c)) (
 let l:Tn2:=(t++e)
 let o:=(w64 (i+1))
 some (.inl (u,g,p,s,k,r,o,f,a,d,l,q))) none) none) (
 some (.inr (u,g,p,s,f,a,d,t,q)))
def jbJ [LP] (l d j f e k g c b a m i):=LP.lp (fun h=>jb0 h.1 h.2.1 h.2.2.1 h.2.2.2.1 h.2.2.2.2.1 h.2.2.2.2.2.1 h.2.2.2.2.2.2.1 h.2.2.2.2.2.2.2.1 h.2.2.2.2.2.2.2.2.1 h.2.2.2.2.2.2.2.2.2.1 h.2.2.2.2.2.2.2.2.2.2.1 h.2.2.2.2.2.2.2.2.2.2.2) (l,d,j,f,e,k,g,c,b,a,m,i)
def j3F [LP] (c:Tn2) (g k i l b d:Int) (m:Tn2) (j:Tn14):Option ((Tn2×Int×Int×Int×Int×Int×Int×Tn2×Tn14) ⊕ ((Tn2×Int×Int×Tn2×Tn14))):=
 cond (decide (g<b)) (
 let f:=(Int.ofNat (List.length c))
 (jbJ c g k i c f 0 l b d m j).bind fun a=>
 let e:=(w64 (a.2.1+604800))
 some (.inl (a.1,e,a.2.2.1,a.2.2.2.1,a.2.2.2.2.1,a.2.2.2.2.2.1,a.2.2.2.2.2.2.1,a.2.2.2.2.2.2.2.1,a.2.2.2.2.2.2.2.2))) (
 some (.inr (c,k,i,m,j)))
def jbK [LP] (i d g e c b a j f):=LP.lp (fun h=>j3F h.1 h.2.1 h.2.2.1 h.2.2.2.1 h.2.2.2.2.1 h.2.2.2.2.2.1 h.2.2.2.2.2.2.1 h.2.2.2.2.2.2.2.1 h.2.2.2.2.2.2.2.2) (i,d,g,e,c,b,a,j,f)
def j3G [LP] (q:Tn2) (o b:Int) (p:Tn2) (d:Tn14):Option ((Tn2×Int×Int×Tn2×Tn14) ⊕ (Tn2)):=
 cond (decide (b<o)) (
 cond (inR b (List.length d)) (
 let e:=(List.getD d (Int.toNat b) (0,(0,0))).1
 let g:=(List.getD d (Int.toNat b) (0,(0,0))).2.1
 let c:=(List.getD d (Int.toNat b) (0,(0,0))).2.2
 let j:=(w64 (e+c))
 let f:=(w64 (j-(-259200)))
 let n:=(Int.tmod f 604800)
 let i:=(w64 (f-n))
 let l:=(w64 (i+(-259200)))
 let k:=(w64 (l-c))
 (jbK q k o b e g c p d).bind fun a=>
 let m:=(w64 (a.2.2.1+1))
 some (.inl (a.1,a.2.1,m,a.2.2.2.1,a.2.2.2.2))) none) (
 some (.inr p))
def jbL [LP] (d c a e b):=LP.lp (fun h=>j3G h.1 h.2.1 h.2.2.1 h.2.2.2.1 h.2.2.2.2) (d,c,a,e,b)
def ja0 [LP] (b:Tn13) (e:Tn2) (a c:Int):Option (Tn2):=
 (j1S (b.1,b.2) a c).bind fun d=>
 let g:=(Int.ofNat (List.length d))
 (jbL e g 0 ([]:Tn2) d).bind fun i=>
 (j6T i).bind fun f=>
 some f
def j9c (t r:Int) (j:(List Int)) (s e:Int) (w:ByteArray) (g:Int) (k:(List Int)) (i a c:Int) (v:Tn2) (u:Tn14):Option ((Int×Int×(List Int)×Int×Int×ByteArray×Int×(List Int)×Int×Int×Int×Tn2×Tn14) ⊕ ((Int×Int×ByteArray×Int×(List Int)×Tn2×Tn14))):=
 cond (decide (e<s)) (
 cond (inR e (List.length j)) (
 let o:=(List.getD j (Int.toNat e) 0)
 let n:=(w64 (o*86400))
 let b:=(w64 (n-c))
 let p:Int:=(if b>i then b else i:Int)
 let d:=(w64 (b+86400))
 let l:Int:=(if d<a then d else a:Int)
 let f:Tn2:=[(p,l)]
 cond (decide (List.length v+List.length f≤j0c)) (
 let m:Tn2:=(v++f)
 let q:=(w64 (e+1))
 some (.inl (t,r,j,s,q,w,g,k,i,a,c,m,u))) none) none) (
 some (.inr (t,r,w,g,k,v,u)))
def j9t [LP] (f i g k l n c d e b a m j):=LP.lp (fun h=>j9c h.1 h.2.1 h.2.2.1 h.2.2.2.1 h.2.2.2.2.1 h.2.2.2.2.2.1 h.2.2.2.2.2.2.1 h.2.2.2.2.2.2.2.1 h.2.2.2.2.2.2.2.2.1 h.2.2.2.2.2.2.2.2.2.1 h.2.2.2.2.2.2.2.2.2.2.1 h.2.2.2.2.2.2.2.2.2.2.2.1 h.2.2.2.2.2.2.2.2.2.2.2.2) (f,i,g,k,l,n,c,d,e,b,a,m,j)
def j2Y [LP] (k b:Int) (n:ByteArray) (l:Int) (d:(List Int)) (m:Tn2) (c:Tn14):Option ((Int×Int×ByteArray×Int×(List Int)×Tn2×Tn14) ⊕ (Tn2)):=
 cond (decide (b<k)) (
 cond (inR b (List.length c)) (
 let j:=(List.getD c (Int.toNat b) (0,(0,0))).1
 let f:=(List.getD c (Int.toNat b) (0,(0,0))).2.1
 let e:=(List.getD c (Int.toNat b) (0,(0,0))).2.2
 let g:=(Int.ofNat (List.length d))
 (j9t k b d g 0 n l d j f e m c).bind fun a=>
 let i:=(w64 (a.2.1+1))
 some (.inl (a.1,i,a.2.2.1,a.2.2.2.1,a.2.2.2.2.1,a.2.2.2.2.2.1,a.2.2.2.2.2.2))) none) (
 some (.inr m))
def j9u [LP] (c d g a b f e):=LP.lp (fun h=>j2Y h.1 h.2.1 h.2.2.1 h.2.2.2.1 h.2.2.2.2.1 h.2.2.2.2.2.1 h.2.2.2.2.2.2) (c,d,g,a,b,f,e)
def j3V [LP] (c:Tn73) (a:Tn19) (b d:Int):Option (Tn2):=
 cond (inR a.2.1 (List.length c.2)) (
 let e:=(List.getD c.2 (Int.toNat a.2.1) (0,([]:Tn2)))
 (j1S (e.1,e.2) b d).bind fun f=>
 let g:=(Int.ofNat (List.length f))
 (j9u g 0 a.1 a.2.1 a.2.2 ([]:Tn2) f).bind fun j=>
 (j6T j).bind fun i=>
 some i) none
def jb1 (b:Tn2) (c:Int) (e:Tn2) (f d j a:Int) (l:Tn2):Option ((Tn2×Int×Tn2×Int×Int×Int×Int×Tn2) ⊕ ((Tn2×Int×Tn2×Int×Int×Int×Int×Tn2))):=
 let i:=(Int.ofNat (List.length b))
 cond (decide (c<i)) (
 cond (inR c (List.length b)) (
 let g:=(List.getD b (Int.toNat c) (0,0))
 cond (decide (g.2≤j)) (
 let k:=(w64 (c+1))
 some (.inl (b,k,e,f,d,j,a,l))) (
 some (.inr (b,c,e,f,d,j,a,l)))) none) (
 some (.inr (b,c,e,f,d,j,a,l)))
def jbM [LP] (e g c d b i a f):=LP.lp (fun h=>jb1 h.1 h.2.1 h.2.2.1 h.2.2.2.1 h.2.2.2.2.1 h.2.2.2.2.2.1 h.2.2.2.2.2.2.1 h.2.2.2.2.2.2.2) (e,g,c,d,b,i,a,f)
def jb2 (b:Tn2) (q d a:Int) (f:Tn2) (i j p c:Int) (l:Tn2):Option ((Tn2×Int×Int×Int×Tn2×Int×Int×Int×Int×Tn2) ⊕ ((Tn2×Int×Int×Tn2×Int×Int×Int×Int×Tn2))):=
 let v:=(Int.ofNat (List.length b))
 cond (decide (a<v)) (
 cond (inR a (List.length b)) (
 let r:=(List.getD b (Int.toNat a) (0,0))
 cond (decide (r.1<c)) (
 cond (inR a (List.length b)) (
 let u:=(List.getD b (Int.toNat a) (0,0))
 cond (decide (d<u.1)) (
 cond (inR a (List.length b)) (
 let n:=(List.getD b (Int.toNat a) (0,0))
 let k:Tn2:=[(d,n.1)]
 cond (decide (List.length l+List.length k≤j0c)) (
 let s:Tn2:=(l++k)
 cond (inR a (List.length b)) (
 let g:=(List.getD b (Int.toNat a) (0,0))
 let o:Int:=(if g.2>d then g.2 else d:Int)
 let m:=(w64 (a+1))
 some (.inl (b,q,o,m,f,i,j,p,c,s))) none) none) none) (
 cond (inR a (List.length b)) (
 let e:=(List.getD b (Int.toNat a) (0,0))
 let w:Int:=(if e.2>d then e.2 else d:Int)
 let t:=(w64 (a+1))
 some (.inl (b,q,w,t,f,i,j,p,c,l))) none)) none) (
 some (.inr (b,q,d,f,i,j,p,c,l)))) none) (
 some (.inr (b,q,d,f,i,j,p,c,l)))
def jbN [LP] (f i j c d e b k a g):=LP.lp (fun h=>jb2 h.1 h.2.1 h.2.2.1 h.2.2.2.1 h.2.2.2.2.1 h.2.2.2.2.2.1 h.2.2.2.2.2.2.1 h.2.2.2.2.2.2.2.1 h.2.2.2.2.2.2.2.2.1 h.2.2.2.2.2.2.2.2.2) (f,i,j,c,d,e,b,k,a,g)
def j3H [LP] (m:Tn2) (n:Int) (f:Tn2) (k c:Int) (l:Tn2):Option ((Tn2×Int×Tn2×Int×Int×Tn2) ⊕ (Tn2)):=
 cond (decide (c<k)) (
 cond (inR c (List.length f)) (
 let e:=(List.getD f (Int.toNat c) (0,0))
 (jbM m n f k c e.1 e.2 l).bind fun b=>
 (jbN b.1 b.2.1 b.2.2.2.2.2.1 b.2.1 b.2.2.1 b.2.2.2.1 b.2.2.2.2.1 b.2.2.2.2.2.1 b.2.2.2.2.2.2.1 b.2.2.2.2.2.2.2).bind fun a=>
 cond (decide (a.2.2.1<a.2.2.2.2.2.2.2.1)) (
 let d:Tn2:=[(a.2.2.1,a.2.2.2.2.2.2.2.1)]
 cond (decide (List.length a.2.2.2.2.2.2.2.2+List.length d≤j0c)) (
 let g:Tn2:=(a.2.2.2.2.2.2.2.2++d)
 let i:=(w64 (a.2.2.2.2.2.1+1))
 some (.inl (a.1,a.2.1,a.2.2.2.1,a.2.2.2.2.1,i,g))) none) (
 let j:=(w64 (a.2.2.2.2.2.1+1))
 some (.inl (a.1,a.2.1,a.2.2.2.1,a.2.2.2.2.1,j,a.2.2.2.2.2.2.2.2)))) none) (
 some (.inr l))
def jbO [LP] (d f b c a e):=LP.lp (fun h=>j3H h.1 h.2.1 h.2.2.1 h.2.2.2.1 h.2.2.2.2.1 h.2.2.2.2.2) (d,f,b,c,a,e)
def j4u [LP] (a b:Tn2):Option (Tn2):=
 let c:=(Int.ofNat (List.length a))
 (jbO b 0 a c 0 ([]:Tn2)).bind fun d=>
 some d
def jbP (a d:Tn2) (c b:Int) (n:Tn2):Option ((Tn2×Tn2×Int×Int×Tn2) ⊕ (Tn2)):=
 let x:=(Int.ofNat (List.length a))
 let s:=(Int.ofNat (List.length d))
 cond (cond (decide (c<x)) (decide (b<s)) false) (
 cond (inR c (List.length a)) (
 let m:=(List.getD a (Int.toNat c) (0,0))
 cond (inR b (List.length d)) (
 let e:=(List.getD d (Int.toNat b) (0,0))
 let f:Int:=(if e.1>m.1 then e.1 else m.1:Int)
 cond (inR c (List.length a)) (
 let k:=(List.getD a (Int.toNat c) (0,0))
 cond (inR b (List.length d)) (
 let i:=(List.getD d (Int.toNat b) (0,0))
 let g:Int:=(if i.2<k.2 then i.2 else k.2:Int)
 cond (decide (f<g)) (
 let l:Tn2:=[(f,g)]
 cond (decide (List.length n+List.length l≤j0c)) (
 let j:Tn2:=(n++l)
 cond (inR c (List.length a)) (
 let u:=(List.getD a (Int.toNat c) (0,0))
 cond (inR b (List.length d)) (
 let r:=(List.getD d (Int.toNat b) (0,0))
 cond (decide (u.2<r.2)) (
 let p:=(w64 (c+1))
 some (.inl (a,d,p,b,j))) (
 let w:=(w64 (b+1))
 some (.inl (a,d,c,w,j)))) none) none) none) (
 cond (inR c (List.length a)) (
 let t:=(List.getD a (Int.toNat c) (0,0))
 cond (inR b (List.length d)) (
 let q:=(List.getD d (Int.toNat b) (0,0))
 cond (decide (t.2<q.2)) (
 let o:=(w64 (c+1))
 some (.inl (a,d,o,b,n))) (
 let v:=(w64 (b+1))
 some (.inl (a,d,c,v,n)))) none) none)) none) none) none) none) (
 some (.inr n))
def jde [LP] (b a c e d):=LP.lp (fun h=>jbP h.1 h.2.1 h.2.2.1 h.2.2.2.1 h.2.2.2.2) (b,a,c,e,d)
def j9v [LP] (b a:Tn2):Option (Tn2):=
 (jde b a 0 0 ([]:Tn2)).bind fun c=>
 some c
def j6p [LP] (a:Tn73) (b:Tn59) (d c:Int):Option (Tn2):=
 cond (inR b.2.1 (List.length a.2)) (
 let r:=(List.getD a.2 (Int.toNat b.2.1) (0,([]:Tn2)))
 (j0F (r.1,r.2) (b.1,(b.2.1,((b.2.2.1.1,b.2.2.1.2),(b.2.2.2.1,(b.2.2.2.2.1,(b.2.2.2.2.2.1,(b.2.2.2.2.2.2.1,(b.2.2.2.2.2.2.2.1,b.2.2.2.2.2.2.2.2)))))))) 0).bind fun i=>
 cond (cond (cond (!i.2) true (decide (i.1≥c))) true (decide (d≥c))) (
 some ([]:Tn2)) (
 let e:Int:=(if i.1>d then i.1 else d:Int)
 let m:Tn2:=[(e,c)]
 let v:=(Int.ofNat (List.length b.2.2.2.2.2.2.1))
 cond (decide (v>0)) (
 cond (inR b.2.1 (List.length a.2)) (
 let s:=(List.getD a.2 (Int.toNat b.2.1) (0,([]:Tn2)))
 (ja0 (s.1,s.2) b.2.2.2.2.2.2.1 e c).bind fun l=>
 cond (b.2.2.2.2.2.2.2.2==1) (
 cond (inR b.2.2.2.2.2.2.2.1 (List.length a.1.2.2.1)) (
 let k:=(List.getD a.1.2.2.1 (Int.toNat b.2.2.2.2.2.2.2.1) (ByteArray.empty,(0,([]:(List Int)))))
 (j3V ((a.1.1,(a.1.2.1,(a.1.2.2.1,a.1.2.2.2))),a.2) (k.1,(k.2.1,k.2.2)) e c).bind fun u=>
 (j4u l u).bind fun x=>
 some x) none) (
 cond (b.2.2.2.2.2.2.2.2==2) (
 cond (inR b.2.2.2.2.2.2.2.1 (List.length a.1.2.2.1)) (
 let j:=(List.getD a.1.2.2.1 (Int.toNat b.2.2.2.2.2.2.2.1) (ByteArray.empty,(0,([]:(List Int)))))
 (j3V ((a.1.1,(a.1.2.1,(a.1.2.2.1,a.1.2.2.2))),a.2) (j.1,(j.2.1,j.2.2)) e c).bind fun w=>
 (j9v l w).bind fun t=>
 some t) none) (
 some l))) none) (
 cond (b.2.2.2.2.2.2.2.2==1) (
 cond (inR b.2.2.2.2.2.2.2.1 (List.length a.1.2.2.1)) (
 let f:=(List.getD a.1.2.2.1 (Int.toNat b.2.2.2.2.2.2.2.1) (ByteArray.empty,(0,([]:(List Int)))))
 (j3V ((a.1.1,(a.1.2.1,(a.1.2.2.1,a.1.2.2.2))),a.2) (f.1,(f.2.1,f.2.2)) e c).bind fun q=>
 (j4u m q).bind fun o=>
 some o) none) (
 cond (b.2.2.2.2.2.2.2.2==2) (
 cond (inR b.2.2.2.2.2.2.2.1 (List.length a.1.2.2.1)) (
 let g:=(List.getD a.1.2.2.1 (Int.toNat b.2.2.2.2.2.2.2.1) (ByteArray.empty,(0,([]:(List Int)))))
 (j3V ((a.1.1,(a.1.2.1,(a.1.2.2.1,a.1.2.2.2))),a.2) (g.1,(g.2.1,g.2.2)) e c).bind fun p=>
 (j9v m p).bind fun n=>
 some n) none) (
 some m))))) none
def j32 [LP] (a:Tn13) (b:Int):Option (Int):=
 (j2T (a.1,a.2) b).bind fun d=>
 (j3X (a.1,a.2) d).bind fun c=>
 some c
def jh2 (a:Int):Option ((Int×Int)):=
 let e:=(w64 (Int.tdiv a 86400))
 let i:=(Int.tmod a 86400)
 cond (decide (i<0)) (
 let d:=(w64 (e-1))
 let g:=(w64 (d*86400))
 let f:=(w64 (a-g))
 some (d,f)) (
 let c:=(w64 (e*86400))
 let b:=(w64 (a-c))
 some (e,b))
def j0s [LP] (a:Tn13) (b:Int):Option ((Int×Int)):=
 (j32 (a.1,a.2) b).bind fun e=>
 let d:=(w64 (b+e))
 (jh2 d).bind fun c=>
 some (c.1,c.2)
def j1q [LP] (p m n:Int) (c:Tn2) (o:ByteArray) (g k j e i:Int) (f:(List Int)) (a:Tn2) (d b:Int):Option ((Int×Int×Int×Tn2×ByteArray×Int×Int×Int×Int×Int×(List Int)×Tn2×Int×Int) ⊕ ((Int×Int×Int×Tn2×ByteArray×Int×Int×Int×Int×Int×(List Int)×Tn2×Int×Int))):=
 cond (decide (m>0)) (
 (j0F (n,c) (o,(g,((k,j),(e,(i,(f,(a,(d,b)))))))) m).bind fun l=>
 cond (cond l.2 (decide (l.1≤p)) false) (
 some (.inr (p,m,n,c,o,g,k,j,e,i,f,a,d,b))) (
 let q:=(w64 (m-1))
 some (.inl (p,q,n,c,o,g,k,j,e,i,f,a,d,b)))) (
 some (.inr (p,m,n,c,o,g,k,j,e,i,f,a,d,b)))
def j4m [LP] (n o l c m g k j e i f a d b):=LP.lp (fun h=>j1q h.1 h.2.1 h.2.2.1 h.2.2.2.1 h.2.2.2.2.1 h.2.2.2.2.2.1 h.2.2.2.2.2.2.1 h.2.2.2.2.2.2.2.1 h.2.2.2.2.2.2.2.2.1 h.2.2.2.2.2.2.2.2.2.1 h.2.2.2.2.2.2.2.2.2.2.1 h.2.2.2.2.2.2.2.2.2.2.2.1 h.2.2.2.2.2.2.2.2.2.2.2.2.1 h.2.2.2.2.2.2.2.2.2.2.2.2.2) (n,o,l,c,m,g,k,j,e,i,f,a,d,b)
theorem jbQ (n o l c m g k j e i f a d b):j4m n o l c m g k j e i f a d b=lpK (j1q n o l c m g k j e i f a d b) (fun h=>j4m h.1 h.2.1 h.2.2.1 h.2.2.2.1 h.2.2.2.2.1 h.2.2.2.2.2.1 h.2.2.2.2.2.2.1 h.2.2.2.2.2.2.2.1 h.2.2.2.2.2.2.2.2.1 h.2.2.2.2.2.2.2.2.2.1 h.2.2.2.2.2.2.2.2.2.2.1 h.2.2.2.2.2.2.2.2.2.2.2.1 h.2.2.2.2.2.2.2.2.2.2.2.2.1 h.2.2.2.2.2.2.2.2.2.2.2.2.2):=j05 _ _
def j1N [LP] (r o p:Int) (d:Tn2) (q:ByteArray) (i l k f j:Int) (g:(List Int)) (b:Tn2) (e c:Int):Option ((Int×Int×Int×Tn2×ByteArray×Int×Int×Int×Int×Int×(List Int)×Tn2×Int×Int) ⊕ (Int)):=
 let m:=(w64 (o+1))
 (j0F (p,d) (q,(i,((l,k),(f,(j,(g,(b,(e,c)))))))) m).bind fun a=>
 cond (cond (!a.2) true (decide (a.1>r))) (
 some (.inr o)) (
 let n:=(w64 (o+1))
 some (.inl (r,n,p,d,q,i,l,k,f,j,g,b,e,c)))
def j4n [LP] (n o l c m g k j e i f a d b):=LP.lp (fun h=>j1N h.1 h.2.1 h.2.2.1 h.2.2.2.1 h.2.2.2.2.1 h.2.2.2.2.2.1 h.2.2.2.2.2.2.1 h.2.2.2.2.2.2.2.1 h.2.2.2.2.2.2.2.2.1 h.2.2.2.2.2.2.2.2.2.1 h.2.2.2.2.2.2.2.2.2.2.1 h.2.2.2.2.2.2.2.2.2.2.2.1 h.2.2.2.2.2.2.2.2.2.2.2.2.1 h.2.2.2.2.2.2.2.2.2.2.2.2.2) (n,o,l,c,m,g,k,j,e,i,f,a,d,b)
theorem jhW (n o l c m g k j e i f a d b):j4n n o l c m g k j e i f a d b=lpK (j1N n o l c m g k j e i f a d b) (fun h=>j4n h.1 h.2.1 h.2.2.1 h.2.2.2.1 h.2.2.2.2.1 h.2.2.2.2.2.1 h.2.2.2.2.2.2.1 h.2.2.2.2.2.2.2.1 h.2.2.2.2.2.2.2.2.1 h.2.2.2.2.2.2.2.2.2.1 h.2.2.2.2.2.2.2.2.2.2.1 h.2.2.2.2.2.2.2.2.2.2.2.1 h.2.2.2.2.2.2.2.2.2.2.2.2.1 h.2.2.2.2.2.2.2.2.2.2.2.2.2):=j05 _ _
def j1U [LP] (c:Tn13) (a:Tn59) (d:Int):Option (Int):=
 (j0F (c.1,c.2) (a.1,(a.2.1,((a.2.2.1.1,a.2.2.1.2),(a.2.2.2.1,(a.2.2.2.2.1,(a.2.2.2.2.2.1,(a.2.2.2.2.2.2.1,(a.2.2.2.2.2.2.2.1,a.2.2.2.2.2.2.2.2)))))))) 0).bind fun e=>
 cond (cond (!e.2) true (decide (e.1>d))) (
 some (-1)) (
 cond (a.2.2.2.1==0) (
 let k:=(w64 (d-e.1))
 let i:=(w64 (3600*a.2.2.2.2.1))
 cond (!(i==0)) (
 let j:=(w64 (Int.tdiv k i))
 some j) none) (
 (j0s (c.1,c.2) d).bind fun n=>
 let m:=(w64 (n.1-a.2.2.1.1))
 (j9r (a.1,(a.2.1,((a.2.2.1.1,a.2.2.1.2),(a.2.2.2.1,(a.2.2.2.2.1,(a.2.2.2.2.2.1,(a.2.2.2.2.2.2.1,(a.2.2.2.2.2.2.2.1,a.2.2.2.2.2.2.2.2))))))))).bind fun f=>
 cond (!(f==0)) (
 let g:=(w64 (Int.tdiv m f))
 let l:Int:=(if g>0 then g else 0:Int)
 (j4m d l c.1 c.2 a.1 a.2.1 a.2.2.1.1 a.2.2.1.2 a.2.2.2.1 a.2.2.2.2.1 a.2.2.2.2.2.1 a.2.2.2.2.2.2.1 a.2.2.2.2.2.2.2.1 a.2.2.2.2.2.2.2.2).bind fun b=>
 (j4n b.1 b.2.1 b.2.2.1 b.2.2.2.1 b.2.2.2.2.1 b.2.2.2.2.2.1 b.2.2.2.2.2.2.1 b.2.2.2.2.2.2.2.1 b.2.2.2.2.2.2.2.2.1 b.2.2.2.2.2.2.2.2.2.1 b.2.2.2.2.2.2.2.2.2.2.1 b.2.2.2.2.2.2.2.2.2.2.2.1 b.2.2.2.2.2.2.2.2.2.2.2.2.1 b.2.2.2.2.2.2.2.2.2.2.2.2.2).bind fun o=>
 some o) none))
def jd4 (f:Tn14) (m e:Int) (b:Tn14):Option ((Tn14×Int×Int×Tn14) ⊕ (Tn14)):=
 cond (decide (e<m)) (
 cond (inR e (List.length f)) (
 let a:=(List.getD f (Int.toNat e) (0,(0,0)))
 cond (decide (a.2.1≤a.1)) (
 let s:=(w64 (e+1))
 some (.inl (f,m,s,b))) (
 let d:=(Int.ofNat (List.length b))
 cond (decide (d>0)) (
 let j:=(w64 (d-1))
 cond (inR j (List.length b)) (
 let t:=(List.getD b (Int.toNat j) (0,(0,0))).2.1
 cond (t==a.1) (
 let k:=(w64 (d-1))
 cond (inR k (List.length b)) (
 let v:=(List.getD b (Int.toNat k) (0,(0,0))).2.2
 cond (v==a.2.2) (
 let c:=(w64 (d-1))
 cond (inR c (List.length b)) (
 let x:Tn14:=(List.set b (Int.toNat c) ((List.getD b (Int.toNat c) (0,(0,0))).1,(a.2.1,(List.getD b (Int.toNat c) (0,(0,0))).2.2)))
 let r:=(w64 (e+1))
 some (.inl (f,m,r,x))) none) (
 let i:Tn14:=[(a.1,(a.2.1,a.2.2))]
 cond (decide (List.length b+List.length i≤j0c)) (
 let w:Tn14:=(b++i)
 let q:=(w64 (e+1))
 some (.inl (f,m,q,w))) none)) none) (
 let g:Tn14:=[(a.1,(a.2.1,a.2.2))]
 cond (decide (List.length b+List.length g≤j0c)) (
 let u:Tn14:=(b++g)
 let n:=(w64 (e+1))
 some (.inl (f,m,n,u))) none)) none) (
 let l:Tn14:=[(a.1,(a.2.1,a.2.2))]
 cond (decide (List.length b+List.length l≤j0c)) (
 let p:Tn14:=(b++l)
 let o:=(w64 (e+1))
 some (.inl (f,m,o,p))) none))) none) (
 some (.inr b))
def jeA [LP] (b d c a):=LP.lp (fun h=>jd4 h.1 h.2.1 h.2.2.1 h.2.2.2) (b,d,c,a)
def j9w [LP] (a:Tn14):Option (Tn14):=
 let c:=(Int.ofNat (List.length a))
 (jeA a c 0 ([]:Tn14)).bind fun b=>
 some b
def j21 [LP] (b4 o b2 w a1 a5:Int) (a7:ByteArray) (f k l i m:Int) (a:(List Int)) (j:Tn2) (e g p:Int) (c:Tn2) (a8 b:Int) (z:Tn14) (a6:Tn2):Option ((Int×Int×Int×Int×Int×Int×ByteArray×Int×Int×Int×Int×Int×(List Int)×Tn2×Int×Int×Int×Tn2×Int×Int×Tn14×Tn2) ⊕ ((Int×Int×Int×Int×Int×Int×ByteArray×Int×Int×Int×Int×Int×(List Int)×Tn2×Int×Int×Int×Tn2×Tn14×Tn2))):=
 cond (decide (o<b)) (
 cond (decide (o≥w)) (
 (j1U (p,c) (a7,(f,((k,l),(i,(m,(a,(j,(e,g)))))))) o).bind fun d=>
 let b5:=(w64 (d+1))
 (j0F (p,c) (a7,(f,((k,l),(i,(m,(a,(j,(e,g)))))))) b5).bind fun n=>
 cond (!n.2) (
 let a4:Int:=(if 8589934593<b then 8589934593 else b:Int)
 let a3:=(Int.ofNat (List.length a))
 cond (!(a3==0)) (
 let a2:=(Int.tmod d a3)
 cond (inR a2 (List.length a)) (
 let b6:=(List.getD a (Int.toNat a2) 0)
 let a0:Tn14:=[(o,(a4,b6))]
 cond (decide (List.length z+List.length a0≤j0c)) (
 let b7:Tn14:=(z++a0)
 some (.inl (b4,a4,d,8589934593,a1,a5,a7,f,k,l,i,m,a,j,e,g,p,c,a8,b,b7,a6))) none) none) none) (
 let r:Int:=(if n.1<b then n.1 else b:Int)
 let y:=(Int.ofNat (List.length a))
 cond (!(y==0)) (
 let t:=(Int.tmod d y)
 cond (inR t (List.length a)) (
 let b0:=(List.getD a (Int.toNat t) 0)
 let x:Tn14:=[(o,(r,b0))]
 cond (decide (List.length z+List.length x≤j0c)) (
 let a9:Tn14:=(z++x)
 some (.inl (b4,r,d,n.1,a1,a5,a7,f,k,l,i,m,a,j,e,g,p,c,a8,b,a9,a6))) none) none) none)) (
 let u:Int:=(if w<b then w else b:Int)
 let q:=(Int.ofNat (List.length a))
 cond (!(q==0)) (
 let s:=(Int.tmod b2 q)
 cond (inR s (List.length a)) (
 let b1:=(List.getD a (Int.toNat s) 0)
 let v:Tn14:=[(o,(u,b1))]
 cond (decide (List.length z+List.length v≤j0c)) (
 let b3:Tn14:=(z++v)
 some (.inl (b4,u,b2,w,a1,a5,a7,f,k,l,i,m,a,j,e,g,p,c,a8,b,b3,a6))) none) none) none)) (
 some (.inr (b4,o,b2,w,a1,a5,a7,f,k,l,i,m,a,j,e,g,p,c,z,a6)))
def j6q [LP] (u p r s n q w d j k g l e i c f m a o b v t):=LP.lp (fun h=>j21 h.1 h.2.1 h.2.2.1 h.2.2.2.1 h.2.2.2.2.1 h.2.2.2.2.2.1 h.2.2.2.2.2.2.1 h.2.2.2.2.2.2.2.1 h.2.2.2.2.2.2.2.2.1 h.2.2.2.2.2.2.2.2.2.1 h.2.2.2.2.2.2.2.2.2.2.1 h.2.2.2.2.2.2.2.2.2.2.2.1 h.2.2.2.2.2.2.2.2.2.2.2.2.1 h.2.2.2.2.2.2.2.2.2.2.2.2.2.1 h.2.2.2.2.2.2.2.2.2.2.2.2.2.2.1 h.2.2.2.2.2.2.2.2.2.2.2.2.2.2.2.1 h.2.2.2.2.2.2.2.2.2.2.2.2.2.2.2.2.1 h.2.2.2.2.2.2.2.2.2.2.2.2.2.2.2.2.2.1 h.2.2.2.2.2.2.2.2.2.2.2.2.2.2.2.2.2.2.1 h.2.2.2.2.2.2.2.2.2.2.2.2.2.2.2.2.2.2.2.1 h.2.2.2.2.2.2.2.2.2.2.2.2.2.2.2.2.2.2.2.2.1 h.2.2.2.2.2.2.2.2.2.2.2.2.2.2.2.2.2.2.2.2.2) (u,p,r,s,n,q,w,d,j,k,g,l,e,i,c,f,m,a,o,b,v,t)
def j22 [LP] (w l y z k c:Int) (a0:ByteArray) (n t u q v:Int) (o:(List Int)) (r:Tn2) (m p x:Int) (j:Tn2) (s:Tn14) (e:Tn2):Option ((Int×Int×Int×Int×Int×Int×ByteArray×Int×Int×Int×Int×Int×(List Int)×Tn2×Int×Int×Int×Tn2×Tn14×Tn2) ⊕ ((Int×Int×Tn14))):=
 cond (decide (c<k)) (
 cond (inR c (List.length e)) (
 let b:=(List.getD e (Int.toNat c) (0,0)).1
 let i:=(List.getD e (Int.toNat c) (0,0)).2
 let d:Tn14:=[(l,(b,(-1)))]
 cond (decide (List.length s+List.length d≤j0c)) (
 let g:Tn14:=(s++d)
 (j6q w b y z k c a0 n t u q v o r m p x j b i g e).bind fun a=>
 let f:=(w64 (a.2.2.2.2.2.1+1))
 some (.inl (a.1,a.2.1,a.2.2.1,a.2.2.2.1,a.2.2.2.2.1,f,a.2.2.2.2.2.2.1,a.2.2.2.2.2.2.2.1,a.2.2.2.2.2.2.2.2.1,a.2.2.2.2.2.2.2.2.2.1,a.2.2.2.2.2.2.2.2.2.2.1,a.2.2.2.2.2.2.2.2.2.2.2.1,a.2.2.2.2.2.2.2.2.2.2.2.2.1,a.2.2.2.2.2.2.2.2.2.2.2.2.2.1,a.2.2.2.2.2.2.2.2.2.2.2.2.2.2.1,a.2.2.2.2.2.2.2.2.2.2.2.2.2.2.2.1,a.2.2.2.2.2.2.2.2.2.2.2.2.2.2.2.2.1,a.2.2.2.2.2.2.2.2.2.2.2.2.2.2.2.2.2.1,a.2.2.2.2.2.2.2.2.2.2.2.2.2.2.2.2.2.2.1,a.2.2.2.2.2.2.2.2.2.2.2.2.2.2.2.2.2.2.2))) none) none) (
 some (.inr (w,l,s)))
def j6r [LP] (s n p q m o u c i j f k d g b e l a t r):=LP.lp (fun h=>j22 h.1 h.2.1 h.2.2.1 h.2.2.2.1 h.2.2.2.2.1 h.2.2.2.2.2.1 h.2.2.2.2.2.2.1 h.2.2.2.2.2.2.2.1 h.2.2.2.2.2.2.2.2.1 h.2.2.2.2.2.2.2.2.2.1 h.2.2.2.2.2.2.2.2.2.2.1 h.2.2.2.2.2.2.2.2.2.2.2.1 h.2.2.2.2.2.2.2.2.2.2.2.2.1 h.2.2.2.2.2.2.2.2.2.2.2.2.2.1 h.2.2.2.2.2.2.2.2.2.2.2.2.2.2.1 h.2.2.2.2.2.2.2.2.2.2.2.2.2.2.2.1 h.2.2.2.2.2.2.2.2.2.2.2.2.2.2.2.2.1 h.2.2.2.2.2.2.2.2.2.2.2.2.2.2.2.2.2.1 h.2.2.2.2.2.2.2.2.2.2.2.2.2.2.2.2.2.2.1 h.2.2.2.2.2.2.2.2.2.2.2.2.2.2.2.2.2.2.2) (s,n,p,q,m,o,u,c,i,j,f,k,d,g,b,e,l,a,t,r)
def j4v [LP] (b:Tn73) (a:Tn59) (c d:Int):Option (Tn14):=
 cond (inR a.2.1 (List.length b.2)) (
 let i:=(List.getD b.2 (Int.toNat a.2.1) (0,([]:Tn2)))
 (j6p ((b.1.1,(b.1.2.1,(b.1.2.2.1,b.1.2.2.2))),b.2) (a.1,(a.2.1,((a.2.2.1.1,a.2.2.1.2),(a.2.2.2.1,(a.2.2.2.2.1,(a.2.2.2.2.2.1,(a.2.2.2.2.2.2.1,(a.2.2.2.2.2.2.2.1,a.2.2.2.2.2.2.2.2)))))))) c d).bind fun g=>
 let l:=(Int.ofNat (List.length g))
 (j6r d c (-1) (-1) l 0 a.1 a.2.1 a.2.2.1.1 a.2.2.1.2 a.2.2.2.1 a.2.2.2.2.1 a.2.2.2.2.2.1 a.2.2.2.2.2.2.1 a.2.2.2.2.2.2.2.1 a.2.2.2.2.2.2.2.2 i.1 i.2 ([]:Tn14) g).bind fun e=>
 let f:Tn14:=[(e.2.1,(e.1,(-1)))]
 cond (decide (List.length e.2.2+List.length f≤j0c)) (
 let k:Tn14:=(e.2.2++f)
 (j9w k).bind fun j=>
 some j) none) none
def jb3 (k:Int) (j:Tn29) (d b:Int) (g:Tn2):Option ((Int×Tn29×Int×Int×Tn2) ⊕ (Tn2)):=
 cond (decide (b<d)) (
 cond (inR b (List.length j)) (
 let a:=(List.getD j (Int.toNat b) (0,(0,(0,(0,0)))))
 cond (cond (a.1==0) (a.2.1==k) false) (
 let c:Tn2:=[(a.2.2.2.1,a.2.2.2.2)]
 cond (decide (List.length g+List.length c≤j0c)) (
 let i:Tn2:=(g++c)
 let e:=(w64 (b+1))
 some (.inl (k,j,d,e,i))) none) (
 let f:=(w64 (b+1))
 some (.inl (k,j,d,f,g)))) none) (
 some (.inr g))
def jbR [LP] (c e a b d):=LP.lp (fun h=>jb3 h.1 h.2.1 h.2.2.1 h.2.2.2.1 h.2.2.2.2) (c,e,a,b,d)
def ja1 [LP] (b:Tn64) (a:Int):Option (Tn2):=
 let d:=(Int.ofNat (List.length b.2.2))
 (jbR a b.2.2 d 0 ([]:Tn2)).bind fun e=>
 (j6T e).bind fun c=>
 some c
def ja2 (n:Tn14) (o m l a:Int) (s:ByteArray) (e:Tn60) (f:Tn29) (t q d:Int) (r:Tn20) (p:Tn14) (c:Tn2):Option ((Tn14×Int×Int×Int×Int×ByteArray×Tn60×Tn29×Int×Int×Int×Tn20×Tn14×Tn2) ⊕ ((Tn14×Int×Int×ByteArray×Tn60×Tn29×Tn20×Tn14))):=
 cond (decide (a<l)) (
 cond (inR a (List.length c)) (
 let i:=(List.getD c (Int.toNat a) (0,0)).1
 let k:=(List.getD c (Int.toNat a) (0,0)).2
 let b:Tn14:=[(i,(k,d))]
 cond (decide (List.length p+List.length b≤j0c)) (
 let j:Tn14:=(p++b)
 let g:=(w64 (a+1))
 some (.inl (n,o,m,l,g,s,e,f,t,q,d,r,j,c))) none) none) (
 some (.inr (n,o,m,s,e,f,r,p)))
def j7L [LP] (k j g e i n b d o c a m l f):=LP.lp (fun h=>ja2 h.1 h.2.1 h.2.2.1 h.2.2.2.1 h.2.2.2.2.1 h.2.2.2.2.2.1 h.2.2.2.2.2.2.1 h.2.2.2.2.2.2.2.1 h.2.2.2.2.2.2.2.2.1 h.2.2.2.2.2.2.2.2.2.1 h.2.2.2.2.2.2.2.2.2.2.1 h.2.2.2.2.2.2.2.2.2.2.2.1 h.2.2.2.2.2.2.2.2.2.2.2.2.1 h.2.2.2.2.2.2.2.2.2.2.2.2.2) (k,j,g,e,i,n,b,d,o,c,a,m,l,f)
def j3f [LP] (g:Tn14) (k d:Int) (q:ByteArray) (e:Tn60) (f:Tn29) (l:Tn20) (v:Tn14):Option ((Tn14×Int×Int×ByteArray×Tn60×Tn29×Tn20×Tn14) ⊕ (Tn14)):=
 cond (decide (d<k)) (
 cond (inR d (List.length g)) (
 let a:=(List.getD g (Int.toNat d) (0,(0,0)))
 cond (decide (a.2.2<0)) (
 let p:=(w64 (d+1))
 some (.inl (g,k,p,q,e,f,l,v))) (
 let z:Tn2:=(jbx ([]:Tn2) l a.2.2)
 cond (!(jiJ l a.2.2)) (
 (ja1 (q,(e,f)) a.2.2).bind fun x=>
 let m:Tn20:=(jcV l a.2.2 x)
 let w:Tn2:=[(a.1,a.2.1)]
 let y:Tn2:=(jbx ([]:Tn2) m a.2.2)
 (j4u w y).bind fun i=>
 let o:=(Int.ofNat (List.length i))
 (j7L g k d o 0 q e f a.1 a.2.1 a.2.2 m v i).bind fun c=>
 let t:=(w64 (c.2.2.1+1))
 some (.inl (c.1,c.2.1,t,c.2.2.2.1,c.2.2.2.2.1,c.2.2.2.2.2.1,c.2.2.2.2.2.2.1,c.2.2.2.2.2.2.2))) (
 let n:Tn2:=[(a.1,a.2.1)]
 let s:Tn2:=(jbx ([]:Tn2) l a.2.2)
 (j4u n s).bind fun j=>
 let u:=(Int.ofNat (List.length j))
 (j7L g k d u 0 q e f a.1 a.2.1 a.2.2 l v j).bind fun b=>
 let r:=(w64 (b.2.2.1+1))
 some (.inl (b.1,b.2.1,r,b.2.2.2.1,b.2.2.2.2.1,b.2.2.2.2.2.1,b.2.2.2.2.2.2.1,b.2.2.2.2.2.2.2))))) none) (
 some (.inr v))
def jaA [LP] (e d c i a b g f):=LP.lp (fun h=>j3f h.1 h.2.1 h.2.2.1 h.2.2.2.1 h.2.2.2.2.1 h.2.2.2.2.2.1 h.2.2.2.2.2.2.1 h.2.2.2.2.2.2.2) (e,d,c,i,a,b,g,f)
def j8r [LP] (a:Tn64) (b:Tn14):Option (Tn14):=
 let c:Tn20:=([]:Tn20)
 let d:=(Int.ofNat (List.length b))
 (jaA b d 0 a.1 a.2.1 a.2.2 c ([]:Tn14)).bind fun e=>
 some e
def jb4 (a:Tn14) (d:Tn2) (b c:Int) (n:Tn14):Option ((Tn14×Tn2×Int×Int×Tn14) ⊕ (Tn14)):=
 let x:=(Int.ofNat (List.length a))
 let u:=(Int.ofNat (List.length d))
 cond (cond (decide (b<x)) (decide (c<u)) false) (
 cond (inR b (List.length a)) (
 let m:=(List.getD a (Int.toNat b) (0,(0,0)))
 cond (inR c (List.length d)) (
 let e:=(List.getD d (Int.toNat c) (0,0))
 let f:Int:=(if e.1>m.1 then e.1 else m.1:Int)
 cond (inR b (List.length a)) (
 let k:=(List.getD a (Int.toNat b) (0,(0,0)))
 cond (inR c (List.length d)) (
 let j:=(List.getD d (Int.toNat c) (0,0))
 let i:Int:=(if j.2<k.2.1 then j.2 else k.2.1:Int)
 cond (inR b (List.length a)) (
 let y:=(List.getD a (Int.toNat b) (0,(0,0)))
 cond (decide (f<i)) (
 let l:Tn14:=[(f,(i,y.2.2))]
 cond (decide (List.length n+List.length l≤j0c)) (
 let g:Tn14:=(n++l)
 cond (inR b (List.length a)) (
 let t:=(List.getD a (Int.toNat b) (0,(0,0)))
 cond (inR c (List.length d)) (
 let q:=(List.getD d (Int.toNat c) (0,0))
 cond (decide (t.2.1<q.2)) (
 let w:=(w64 (b+1))
 some (.inl (a,d,w,c,g))) (
 let v:=(w64 (c+1))
 some (.inl (a,d,b,v,g)))) none) none) none) (
 cond (inR b (List.length a)) (
 let r:=(List.getD a (Int.toNat b) (0,(0,0)))
 cond (inR c (List.length d)) (
 let p:=(List.getD d (Int.toNat c) (0,0))
 cond (decide (r.2.1<p.2)) (
 let s:=(w64 (b+1))
 some (.inl (a,d,s,c,n))) (
 let o:=(w64 (c+1))
 some (.inl (a,d,b,o,n)))) none) none)) none) none) none) none) none) (
 some (.inr n))
def jbS [LP] (b a c e d):=LP.lp (fun h=>jb4 h.1 h.2.1 h.2.2.1 h.2.2.2.1 h.2.2.2.2) (b,a,c,e,d)
def ja3 [LP] (b:Tn14) (a:Tn2):Option (Tn14):=
 (jbS b a 0 0 ([]:Tn14)).bind fun c=>
 some c
def jbT (g:Tn14) (i e:Int) (f:Tn2):Option ((Tn14×Int×Int×Tn2) ⊕ (Tn2)):=
 cond (decide (e<i)) (
 cond (inR e (List.length g)) (
 let a:=(List.getD g (Int.toNat e) (0,(0,0)))
 let b:Tn2:=[(a.1,a.2.1)]
 cond (decide (List.length f+List.length b≤j0c)) (
 let c:Tn2:=(f++b)
 let d:=(w64 (e+1))
 some (.inl (g,i,d,c))) none) none) (
 some (.inr f))
def jdf [LP] (b c d a):=LP.lp (fun h=>jbT h.1 h.2.1 h.2.2.1 h.2.2.2) (b,c,d,a)
def jbU [LP] (a:Tn14):Option (Tn2):=
 let d:=(Int.ofNat (List.length a))
 (jdf a d 0 ([]:Tn2)).bind fun c=>
 (j6T c).bind fun b=>
 some b
def j5t (b a:Tn3):Option (Int):=
 let c:=(w64 (b.1-a.1))
 some c
def j19 (a:Tn14):Option (Tn14):=
 juj ((.pair (.int .i64) (.pair (.int .i64) (.int .i64)))) (fun c b=>(j5t c b).getD 0) a
def j2v [LP] (s:Int) (e:Tn60) (v:Tn54) (i:Tn48) (g:Tn26) (l:Tn65) (j:Tn20) (u:ByteArray) (f:Tn60) (k:Tn29) (w t:Int) (d:Tn2) (c:Tn14):Option ((Int×Tn60×Tn54×Tn48×Tn26×Tn65×Tn20×ByteArray×Tn60×Tn29×Int×Int×Tn2×Tn14) ⊕ ((Tn2×Tn14))):=
 cond (decide (s≤0)) (
 some (.inr (d,c))) (
 cond (decide (s≤Int.ofNat (List.length e))) (
 let m:Int:=(s-1)
 let a:=(List.getD e (Int.toNat m) (ByteArray.empty,(0,((0,0),(0,(0,(([]:(List Int)),(([]:Tn2),(0,0)))))))))
 (j4v ((v,(i,(g,l))),j) (a.1,(a.2.1,((a.2.2.1.1,a.2.2.1.2),(a.2.2.2.1,(a.2.2.2.2.1,(a.2.2.2.2.2.1,(a.2.2.2.2.2.2.1,(a.2.2.2.2.2.2.2.1,a.2.2.2.2.2.2.2.2)))))))) w t).bind fun r=>
 (j8r (u,(f,k)) r).bind fun n=>
 (ja3 n d).bind fun b=>
 cond (decide (List.length c+List.length b≤j0c)) (
 let p:Tn14:=(c++b)
 (jbU b).bind fun q=>
 (j4u d q).bind fun o=>
 some (.inl ((s-1),e,v,i,g,l,j,u,f,k,w,t,o,p))) none) none)
def j7V [LP] (n:Int) (j:Tn60) (m:Tn54) (e:Tn48) (i:Tn26) (g:Tn65) (b:Tn20) (l:ByteArray) (c:Tn60) (d:Tn29) (o k:Int) (f:Tn2) (a:Tn14):Option ((Tn2×Tn14)):=
 LP.lp (jzM (j2v)) (n,j,m,e,i,g,b,l,c,d,o,k,f,a)
def j8c (j b:Int) (d:Tn2) (a:Tn14):Option ((Int×Int×Tn2×Tn14) ⊕ (Tn14)):=
 cond (decide (b<j)) (
 cond (inR b (List.length d)) (
 let f:=(List.getD d (Int.toNat b) (0,0)).1
 let i:=(List.getD d (Int.toNat b) (0,0)).2
 let c:Tn14:=[(f,(i,(-1)))]
 cond (decide (List.length a+List.length c≤j0c)) (
 let e:Tn14:=(a++c)
 let g:=(w64 (b+1))
 some (.inl (j,g,d,e))) none) none) (
 some (.inr a))
def j7W [LP] (c b:Int) (d:Tn2) (a:Tn14):Option (Tn14):=
 LP.lp (unc4 (j8c)) (c,b,d,a)
def j5I [LP] (b:Tn73) (c:Tn64) (a d:Int):Option (Tn14):=
 cond (decide (a≥d)) (
 some ([]:Tn14)) (
 let i:Tn2:=[(a,d)]
 (j2n c.2.1).bind fun e=>
 (j7V (Int.ofNat (List.length e)) e b.1.1 b.1.2.1 b.1.2.2.1 b.1.2.2.2 b.2 c.1 c.2.1 c.2.2 a d i ([]:Tn14)).bind fun f=>
 let k:=(Int.ofNat (List.length f.1))
 (j7W k 0 f.1 f.2).bind fun l=>
 (j19 l).bind fun g=>
 (j9w g).bind fun j=>
 some j)
def j7M (a:Int):Option (Bool):=
 some (a != a)
def j1u (b:(List Int)) (c l g m:Int):Option (((List Int)×Int×Int×Int×Int) ⊕ (((List Int)×Int×Int×Int))):=
 cond (decide (g<m)) (
 let i:=(w64 (g+m))
 let f:Int:=(IntKind.wrap .u64 i)
 let e:Int:=(Int.fdiv f 2)
 let a:=(w64 e)
 cond (inR a (List.length b)) (
 let j:=(List.getD b (Int.toNat a) 0)
 (j9Z j c).bind fun k=>
 cond k (
 let d:=(w64 (a+1))
 some (.inl (b,c,l,d,m))) (
 some (.inl (b,c,l,g,a)))) none) (
 some (.inr (b,c,l,g)))
def j0X [LP] (b a c d e):=LP.lp (fun h=>j1u h.1 h.2.1 h.2.2.1 h.2.2.2.1 h.2.2.2.2) (b,a,c,d,e)
theorem j8s (b a c d e):j0X b a c d e=lpK (j1u b a c d e) (fun h=>j0X h.1 h.2.1 h.2.2.1 h.2.2.2.1 h.2.2.2.2):=j05 _ _
def j0t [LP] (d:(List Int)) (b:Int):Option (Int×Bool):=
 let e:=(Int.ofNat (List.length d))
 (j0X d b e 0 e).bind fun a=>
 cond ((inR a.2.2.2 (List.length a.1)) || !(decide (a.2.2.2<a.2.2.1))) (
 let c:=(List.getD a.1 (Int.toNat a.2.2.2) 0)
 cond ((inR a.2.2.2 (List.length a.1)) || !((decide (a.2.2.2<a.2.2.1))&&(!(c==a.2.1)))) (
 let i:=(List.getD a.1 (Int.toNat a.2.2.2) 0)
 cond (decide (a.2.2.2<a.2.2.1)) (
 cond (c==a.2.1) (
 some (a.2.2.2,true)) (
 (j7M i).bind fun f=>
 cond f (
 (j7M a.2.1).bind fun g=>
 some (a.2.2.2,g)) (
 some (a.2.2.2,false)))) (
 cond ((c==a.2.1) || !false) (
 some (a.2.2.2,false)) none)) none) none
def jmi (a:Tn24) (b:Int):Option (Bool):=
 some (cond (decide (a.2.2.2.1≤b)) (decide (b<a.2.2.2.2)) false)
def je1 (f e:Int) (d:Tn29) (c b:Int):Option ((Int×Int×Tn29×Int×Int) ⊕ (Int)):=
 cond (decide (b<c)) (
 cond (inR b (List.length d)) (
 let a:=(List.getD d (Int.toNat b) (0,(0,(0,(0,0)))))
 (jmi (a.1,(a.2.1,(a.2.2.1,(a.2.2.2.1,a.2.2.2.2)))) e).bind fun l=>
 cond (cond (!l) true (a.1==0)) (
 let m:=(w64 (b+1))
 some (.inl (f,e,d,c,m))) (
 cond (a.1==1) (
 let n:=(w64 (b+1))
 some (.inl (a.2.1,e,d,c,n))) (
 cond (a.1 != 2) (
 let j:=(w64 (b+1))
 some (.inl (f,e,d,c,j))) (
 cond (f==a.2.1) (
 let k:=(w64 (b+1))
 some (.inl (a.2.2.1,e,d,c,k))) (
 cond (f==a.2.2.1) (
 let g:=(w64 (b+1))
 some (.inl (a.2.1,e,d,c,g))) (
 let i:=(w64 (b+1))
 some (.inl (f,e,d,c,i)))))))) none) (
 some (.inr f))
def jg8 [LP] (c d e a b):=LP.lp (fun h=>je1 h.1 h.2.1 h.2.2.1 h.2.2.2.1 h.2.2.2.2) (c,d,e,a,b)
def je2 [LP] (b:Tn29) (a c:Int):Option (Int):=
 let d:=(Int.ofNat (List.length b))
 (jg8 a c b d 0).bind fun e=>
 some e
def j8t (s p:Int) (d:Tn29) (n c:Int) (r:Tn54) (i:Tn48) (k:Tn26) (j:Tn65) (e:Tn20) (q:ByteArray) (f:Tn60) (g:Tn29) (o:(List Int)):Option ((Int×Int×Tn29×Int×Int×Tn54×Tn48×Tn26×Tn65×Tn20×ByteArray×Tn60×Tn29×(List Int)) ⊕ ((Int×Int×Tn54×Tn48×Tn26×Tn65×Tn20×ByteArray×Tn60×Tn29×(List Int)))):=
 cond (decide (c<n)) (
 cond (inR c (List.length d)) (
 let b:=(List.getD d (Int.toNat c) (0,(0,(0,(0,0)))))
 let a:(List Int):=[b.2.2.2.1,b.2.2.2.2]
 cond (decide (List.length o+List.length a≤j0c)) (
 let m:(List Int):=(o++a)
 let l:=(w64 (c+1))
 some (.inl (s,p,d,n,l,r,i,k,j,e,q,f,g,m))) none) none) (
 some (.inr (s,p,r,i,k,j,e,q,f,g,o)))
def j8u [LP] (o k:Int) (i:Tn29) (g j:Int) (n:Tn54) (d:Tn48) (f:Tn26) (e:Tn65) (a:Tn20) (m:ByteArray) (b:Tn60) (c:Tn29) (l:(List Int)):Option ((Int×Int×Tn54×Tn48×Tn26×Tn65×Tn20×ByteArray×Tn60×Tn29×(List Int))):=
 LP.lp (jzM (j8t)) (o,k,i,g,j,n,d,f,e,a,m,b,c,l)
def j2H [LP] (j l r q:Int) (t:ByteArray) (k:Tn60) (b:Tn29) (s a d:Int) (g:(List Int)) (i p:Tn14):Option ((Int×Int×Int×Int×ByteArray×Tn60×Tn29×Int×Int×Int×(List Int)×Tn14×Tn14) ⊕ ((Int×Int×ByteArray×Tn60×Tn29×(List Int)×Tn14×Tn14))):=
 cond (decide (l<a)) (
 cond (inR j (List.length g)) (
 let f:=(List.getD g (Int.toNat j) 0)
 let c:Int:=(if f<a then f else a:Int)
 (je2 b d l).bind fun o=>
 let e:Tn14:=[(l,(c,o))]
 cond (decide (List.length i+List.length e≤j0c)) (
 let m:Tn14:=(i++e)
 let n:=(w64 (j+1))
 some (.inl (n,c,r,q,t,k,b,s,a,d,g,m,p))) none) none) (
 some (.inr (r,q,t,k,b,g,i,p)))
def j8v [LP] (k e f g:Int) (n:ByteArray) (c:Tn60) (d:Tn29) (i b a:Int) (m:(List Int)) (j l:Tn14):Option ((Int×Int×ByteArray×Tn60×Tn29×(List Int)×Tn14×Tn14)):=
 LP.lp (jzL (j2H)) (k,e,f,g,n,c,d,i,b,a,m,j,l)
def j2I [LP] (k b:Int) (p:ByteArray) (n:Tn60) (o:Tn29) (m:(List Int)) (l d:Tn14):Option ((Int×Int×ByteArray×Tn60×Tn29×(List Int)×Tn14×Tn14) ⊕ (Tn14)):=
 cond (decide (b<k)) (
 cond (inR b (List.length d)) (
 let c:=(List.getD d (Int.toNat b) (0,(0,0))).1
 let f:=(List.getD d (Int.toNat b) (0,(0,0))).2.1
 let g:=(List.getD d (Int.toNat b) (0,(0,0))).2.2
 let i:=(w64 (c+1))
 (j0t m i).bind fun j=>
 (j8v j.1 c k b p n o c f g m l d).bind fun a=>
 let e:=(w64 (a.2.1+1))
 some (.inl (a.1,e,a.2.2.1,a.2.2.2.1,a.2.2.2.2.1,a.2.2.2.2.2.1,a.2.2.2.2.2.2.1,a.2.2.2.2.2.2.2))) none) (
 some (.inr l))
def j8w [LP] (d c:Int) (i:ByteArray) (a:Tn60) (b:Tn29) (g:(List Int)) (e f:Tn14):Option (Tn14):=
 LP.lp (unc8 (j2I)) (d,c,i,a,b,g,e,f)
def j5a [LP] (b:Tn73) (c:Tn64) (d e:Int):Option (Tn14):=
 let j:=(Int.ofNat (List.length c.2.2))
 (j8u d e c.2.2 j 0 b.1.1 b.1.2.1 b.1.2.2.1 b.1.2.2.2 b.2 c.1 c.2.1 c.2.2 ([]:(List Int))).bind fun a=>
 (jg7 a.2.2.2.2.2.2.2.2.2.2 a.1 a.2.1).bind fun i=>
 (j5I ((a.2.2.1,(a.2.2.2.1,(a.2.2.2.2.1,a.2.2.2.2.2.1))),a.2.2.2.2.2.2.1) (a.2.2.2.2.2.2.2.1,(a.2.2.2.2.2.2.2.2.1,a.2.2.2.2.2.2.2.2.2.1)) a.1 a.2.1).bind fun f=>
 let k:=(Int.ofNat (List.length f))
 (j8w k 0 a.2.2.2.2.2.2.2.1 a.2.2.2.2.2.2.2.2.1 a.2.2.2.2.2.2.2.2.2.1 i ([]:Tn14) f).bind fun l=>
 (j9w l).bind fun g=>
 some g
def jb5 (o m n a:Int) (q:Tn54) (f:Tn48) (i:Tn26) (g:Tn65) (c:Tn20) (p:ByteArray) (d:Tn60) (e:Tn29) (b:Tn14):Option ((Int×Int×Int×Int×Tn54×Tn48×Tn26×Tn65×Tn20×ByteArray×Tn60×Tn29×Tn14) ⊕ ((Int×Bool) ⊕ (Int×Int×Tn54×Tn48×Tn26×Tn65×Tn20×ByteArray×Tn60×Tn29))):=
 cond (decide (a<n)) (
 cond (inR a (List.length b)) (
 let j:=(List.getD b (Int.toNat a) (0,(0,0))).1
 let r:=(List.getD b (Int.toNat a) (0,(0,0))).2.1
 let k:=(List.getD b (Int.toNat a) (0,(0,0))).2.2
 cond (decide (k<0)) (
 some (.inr (.inl (j,true)))) (
 let l:=(w64 (a+1))
 some (.inl (o,m,n,l,q,f,i,g,c,p,d,e,b)))) none) (
 some (.inr (.inr (o,m,q,f,i,g,c,p,d,e))))
def jbV [LP] (l i k g:Int) (n:Tn54) (d:Tn48) (f:Tn26) (e:Tn65) (a:Tn20) (m:ByteArray) (b:Tn60) (c:Tn29) (j:Tn14):Option ((Int×Bool) ⊕ (Int×Int×Tn54×Tn48×Tn26×Tn65×Tn20×ByteArray×Tn60×Tn29)):=
 LP.lp (jzL (jb5)) (l,i,k,g,n,d,f,e,a,m,b,c,j)
def j3I [LP] (p l:Int) (r:Tn54) (i:Tn48) (k:Tn26) (j:Tn65) (e:Tn20) (q:ByteArray) (f:Tn60) (g:Tn29):Option ((Int×Int×Tn54×Tn48×Tn26×Tn65×Tn20×ByteArray×Tn60×Tn29) ⊕ ((Int×Bool) ⊕ Unit)):=
 cond (decide (p<l)) (
 let c:=(w64 (p+4320000))
 let b:Int:=(if c<l then c else l:Int)
 (j5a ((r,(i,(k,j))),e) (q,(f,g)) p b).bind fun d=>
 let m:=(Int.ofNat (List.length d))
 (jbV l b m 0 r i k j e q f g d).bind fun o=>
 sumC o (fun n=>
 some (.inr (.inl (n.1,n.2)))) (fun a=>
 some (.inl (a.2.1,a.1,a.2.2.1,a.2.2.2.1,a.2.2.2.2.1,a.2.2.2.2.2.1,a.2.2.2.2.2.2.1,a.2.2.2.2.2.2.2.1,a.2.2.2.2.2.2.2.2.1,a.2.2.2.2.2.2.2.2.2)))) (
 some (.inr (.inr ())))
def jbW [LP] (k g:Int) (j:Tn54) (d:Tn48) (f:Tn26) (e:Tn65) (a:Tn20) (i:ByteArray) (b:Tn60) (c:Tn29):Option ((Int×Bool) ⊕ Unit):=
 LP.lp (jAE (j3I)) (k,g,j,d,f,e,a,i,b,c)
def ja4 [LP] (a:Tn73) (b:Tn64) (c d:Int):Option (Int×Bool):=
 (jbW c d a.1.1 a.1.2.1 a.1.2.2.1 a.1.2.2.2 a.2 b.1 b.2.1 b.2.2).bind fun e=>
 sumC e (fun f=>
 some (f.1,f.2)) (fun g=>
 some (0,false))
def j4o [LP] (d:Tn71) (a b:Int):Option (Int×Bool×Int):=
 (j9q (d.1,(d.2.1,(d.2.2.1,d.2.2.2))) a b b).bind fun c=>
 cond (c.2 != 0) (
 some (0,false,c.2)) (
 cond (inR a (List.length d.2.2.2)) (
 let e:=(List.getD d.2.2.2 (Int.toNat a) (ByteArray.empty,(([]:Tn60),([]:Tn29))))
 (j3x ((c.1.1.1,(c.1.1.2.1,(c.1.1.2.2.1,c.1.1.2.2.2))),c.1.2) (e.1,(e.2.1,e.2.2))).bind fun f=>
 let j:Int:=(if f>b then f else b:Int)
 let g:=(w64 (j+604800))
 let k:Int:=(if 8589934592<g then 8589934592 else g:Int)
 (ja4 ((c.1.1.1,(c.1.1.2.1,(c.1.1.2.2.1,c.1.1.2.2.2))),c.1.2) (e.1,(e.2.1,e.2.2)) b k).bind fun i=>
 some (i.1,(!i.2),0)) none)
def j6s [LP] (b:Tn71) (a d e:Int):Option (Tn14×Int):=
 (j9q (b.1,(b.2.1,(b.2.2.1,b.2.2.2))) a d e).bind fun c=>
 cond (c.2 != 0) (
 some (([]:Tn14),c.2)) (
 cond (inR a (List.length b.2.2.2)) (
 let f:=(List.getD b.2.2.2 (Int.toNat a) (ByteArray.empty,(([]:Tn60),([]:Tn29))))
 (j5a ((c.1.1.1,(c.1.1.2.1,(c.1.1.2.2.1,c.1.1.2.2.2))),c.1.2) (f.1,(f.2.1,f.2.2)) d e).bind fun g=>
 let i:=(Int.ofNat (List.length g))
 cond (decide (i>16384)) (
 some (([]:Tn14),5)) (
 some (g,0))) none)
def j9d (j:Int) (i:Tn14) (k b:Int) (e:Tn2):Option ((Int×Tn14×Int×Int×Tn2) ⊕ (Tn2)):=
 cond (decide (b<k)) (
 cond (inR b (List.length i)) (
 let a:=(List.getD i (Int.toNat b) (0,(0,0)))
 cond (a.2.2==j) (
 let c:Tn2:=[(a.1,a.2.1)]
 cond (decide (List.length e+List.length c≤j0c)) (
 let g:Tn2:=(e++c)
 let d:=(w64 (b+1))
 some (.inl (j,i,k,d,g))) none) (
 let f:=(w64 (b+1))
 some (.inl (j,i,k,f,e)))) none) (
 some (.inr e))
def j9x [LP] (b:Int) (e:Tn14) (d a:Int) (c:Tn2):Option (Tn2):=
 LP.lp (unc5 (j9d)) (b,e,d,a,c)
def j7y [LP] (b:Tn14) (a:Int):Option (Tn2):=
 let e:=(Int.ofNat (List.length b))
 (j9x a b e 0 ([]:Tn2)).bind fun d=>
 (j6T d).bind fun c=>
 some c
def ja5 [LP] (b:Tn71) (a c d f:Int):Option (Tn2×Int):=
 (j6s (b.1,(b.2.1,(b.2.2.1,b.2.2.2))) a d f).bind fun e=>
 cond (e.2 != 0) (
 some (([]:Tn2),e.2)) (
 (j7y e.1 c).bind fun g=>
 let i:=(Int.ofNat (List.length g))
 cond (decide (i>4096)) (
 some (([]:Tn2),5)) (
 some (g,0)))
def j6U [LP] (b:Tn71) (a c d:Int):Option (Tn2×Int):=
 (ja5 (b.1,(b.2.1,(b.2.2.1,b.2.2.2))) a (-1) c d).bind fun e=>
 some (e.1,e.2)
def j5J [LP] (b:Tn71) (a c d:Int):Option (Bool):=
 (j6U (b.1,(b.2.1,(b.2.2.1,b.2.2.2))) a c d).bind fun e=>
 let f:=(Int.ofNat (List.length e.1))
 some (cond (e.2==0) (f==0) false)
def j2e [LP] (b:Tn71) (a:Int):Option (Int):=
 (jex (b.1,(b.2.1,(b.2.2.1,b.2.2.2)))).bind fun c=>
 cond (!c.2) (
 some 0) (
 (jbH (b.1,(b.2.1,(b.2.2.1,b.2.2.2))) a).bind fun f=>
 cond (!f) (
 some 0) (
 cond (inR a (List.length b.2.2.2)) (
 let d:=(List.getD b.2.2.2 (Int.toNat a) (ByteArray.empty,(([]:Tn60),([]:Tn29))))
 (j3x ((c.1.1.1,(c.1.1.2.1,(c.1.1.2.2.1,c.1.1.2.2.2))),c.1.2) (d.1,(d.2.1,d.2.2))).bind fun e=>
 some e) none))
def j8d [LP]  : Option (Bool):=
 (jkf false).bind fun a=>
 (jkf true).bind fun b=>
 (j4o (a.1,(a.2.1,(a.2.2.1,a.2.2.2))) 0 950400).bind fun d=>
 (j4o (b.1,(b.2.1,(b.2.2.1,b.2.2.2))) 0 950400).bind fun f=>
 (j6U (a.1,(a.2.1,(a.2.2.1,a.2.2.2))) 0 345600 950400).bind fun c=>
 let m:Bool:=(cond (cond (d.2.2==0) (f.2.2==0) false) (c.2==0) false)
 let k:=(Int.ofNat (List.length c.1))
 let g:Bool:=(cond (cond (cond (cond m (!d.2.1) false) f.2.1 false) (d.1==1382400) false) (k==1) false)
 cond ((inR 0 (List.length c.1)) || !g) (
 let j:=(List.getD c.1 0 (0,0)).1
 let e:=(List.getD c.1 0 (0,0)).2
 cond (cond g ((j==777600)&&(e==950400)) false) (
 (j5J (b.1,(b.2.1,(b.2.2.1,b.2.2.2))) 0 345600 2592000).bind fun i=>
 cond i (
 (j2e (a.1,(a.2.1,(a.2.2.1,a.2.2.2))) 0).bind fun l=>
 some (l==345600)) (
 some false)) (
 some false)) none
def jmj (a:(List Int)):Option ((List Int)×Int):=
 some (a,0)
def j04 (b:(List Int)) (a c:Int):Option (Int×(List Int)×Int):=
 let i:=(Int.ofNat (List.length b))
 cond (decide (a≥i)) (
 some (0,b,a)) (
 cond (decide (c<1)) (
 some (0,b,a)) (
 cond (inR a (List.length b)) (
 let g:=(List.getD b (Int.toNat a) 0)
 cond (!(c==0)) (
 let d:=(Int.tmod g c)
 let e:=(w64 (a+1))
 cond (decide (d<0)) (
 let f:=(w64 (d+c))
 some (f,b,e)) (
 some (d,b,e))) none) none))
def j1b (d:(List Int)) (b:Int) (a:(List Int)):Option (Int×(List Int)×Int):=
 let f:=(Int.ofNat (List.length a))
 (j04 d b f).bind fun c=>
 cond (inR c.1 (List.length a)) (
 let e:=(List.getD a (Int.toNat c.1) 0)
 some (e,c.2.1,c.2.2)) none
def j3W (a0:(List Int)) (o:Int) (a:ByteArray):Option (Tn52×(List Int)×Int):=
 let b5:(List Int):=[0,4,(-20),22,48,(-47)]
 (j1b a0 o b5).bind fun j=>
 (j04 j.2.1 j.2.2 2).bind fun k=>
 (j04 k.2.1 k.2.2 3).bind fun p=>
 let a9:=(w64 (k.1*p.1))
 let a4:=(w64 (j.1+a9))
 let c:=(w64 (900*a4))
 (j04 p.2.1 p.2.2 2).bind fun s=>
 let g:=(w64 (2025+s.1))
 (j04 s.2.1 s.2.2 4).bind fun b=>
 cond (b.1==1) (
 let a8:=(w64 (c+3600))
 let b0:Tn42:=[(2025,(g,(3,(5,(6,(7200,a8)))))),(2025,(g,(10,(5,(6,(10800,c))))))]
 some ((a,(c,b0)),b.2.1,b.2.2)) (
 cond (b.1==2) (
 (j04 b.2.1 b.2.2 4).bind fun n=>
 let b3:=(w64 (1+n.1))
 (j04 n.2.1 n.2.2 7).bind fun i=>
 (j04 i.2.1 i.2.2 24).bind fun l=>
 let b2:=(w64 (3600*l.1))
 (j04 l.2.1 l.2.2 8).bind fun m=>
 let a6:=(w64 (1+m.1))
 let a7:=(w64 (1800*a6))
 let a2:=(w64 (c+a7))
 (j04 m.2.1 m.2.2 2).bind fun w=>
 let a3:=(w64 (2+w.1))
 let b7:(List Int):=[2,3,5]
 (j1b w.2.1 w.2.2 b7).bind fun v=>
 (j04 v.2.1 v.2.2 7).bind fun r=>
 (j04 r.2.1 r.2.2 24).bind fun x=>
 let b1:=(w64 (3600*x.1))
 let b4:Tn42:=[(2025,(g,(1,(b3,(i.1,(b2,a2)))))),(2025,(g,(a3,(v.1,(r.1,(b1,c))))))]
 some ((a,(c,b4)),x.2.1,x.2.2)) (
 cond (b.1==3) (
 let b6:(List Int):=[3600,(-3600),82800,(-82800),43200]
 (j1b b.2.1 b.2.2 b6).bind fun f=>
 let u:=(w64 (c+f.1))
 cond (cond (decide (u>64800)) true (decide (u<(-64800)))) (
 (j04 f.2.1 f.2.2 7).bind fun t=>
 (j04 t.2.1 t.2.2 48).bind fun q=>
 let a1:=(w64 (1800*q.1))
 let a5:Tn42:=[(2026,(2026,(1,(2,(t.1,(a1,0))))))]
 some ((a,(c,a5)),q.2.1,q.2.2)) (
 (j04 f.2.1 f.2.2 7).bind fun d=>
 (j04 d.2.1 d.2.2 48).bind fun e=>
 let y:=(w64 (1800*e.1))
 let z:Tn42:=[(2026,(2026,(1,(2,(d.1,(y,u))))))]
 some ((a,(c,z)),e.2.1,e.2.2))) (
 some ((a,(c,([]:Tn42))),b.2.1,b.2.2))))
def jh3  : Option ((List ByteArray)):=
 let a:(List ByteArray):=[(ByteArray.mk #[97,100,97]),(ByteArray.mk #[98,111,98]),(ByteArray.mk #[99,108,101,111]),(ByteArray.mk #[100,97,110]),(ByteArray.mk #[101,118,101]),(ByteArray.mk #[102,97,121]),(ByteArray.mk #[103,117,115]),(ByteArray.mk #[104,97,108])]
 some a
def j10 (c:(List Int)) (b a:Int):Option (Bool×(List Int)×Int):=
 (j04 c b a).bind fun d=>
 let e:=(w64 (a-1))
 some ((d.1==e),d.2.1,d.2.2)
def j2b (r q:Int) (p:(List Int)) (g:Int) (k:Tn2):Option ((Int×Int×(List Int)×Int×Tn2) ⊕ (((List Int)×Int×Tn2))):=
 cond (decide (q>0)) (
 (j04 p g 30).bind fun b=>
 let l:=(w64 (3600*b.1))
 let j:=(w64 (r+l))
 (j04 b.2.1 b.2.2 2).bind fun d=>
 let o:=(w64 (60*d.1))
 let f:=(w64 (j+o))
 let n:(List Int):=[3600,28800,43200,86400,61,1]
 (j1b d.2.1 d.2.2 n).bind fun a=>
 let c:=(w64 (f+a.1))
 cond (decide (c>604800)) (
 some (.inr (a.2.1,a.2.2,k))) (
 let e:Tn2:=[(f,c)]
 cond (decide (List.length k+List.length e≤j0c)) (
 let m:Tn2:=(k++e)
 let i:=(w64 (q-1))
 some (.inl (c,i,a.2.1,a.2.2,m))) none)) (
 some (.inr (p,g,k)))
def j50 [LP] (c e d a b):=LP.lp (fun h=>j2b h.1 h.2.1 h.2.2.1 h.2.2.2.1 h.2.2.2.2) (c,e,d,a,b)
theorem j8x (c e d a b):j50 c e d a b=lpK (j2b c e d a b) (fun h=>j50 h.1 h.2.1 h.2.2.1 h.2.2.2.1 h.2.2.2.2):=j05 _ _
def j3Y [LP] (c:(List Int)) (a:Int):Option (Tn2×(List Int)×Int):=
 (j04 c a 4).bind fun b=>
 (j50 0 b.1 b.2.1 b.2.2 ([]:Tn2)).bind fun d=>
 some (d.2.2,d.1,d.2.1)
def j2J (k:Int) (l:(List Int)) (f:Int) (b:Tn54):Option ((Int×(List Int)×Int×Tn54) ⊕ (((List Int)×Int×Tn54))):=
 cond (decide (k>0)) (
 let e:(List ByteArray):=[(ByteArray.mk #[104,101,114,101]),(ByteArray.mk #[116,104,101,114,101])]
 let d:=(Int.ofNat (List.length b))
 cond (inR d (List.length e)) (
 let g:=(List.getD e (Int.toNat d) ByteArray.empty)
 (j3W l f g).bind fun a=>
 let c:Tn54:=[(a.1.1,(a.1.2.1,a.1.2.2))]
 cond (decide (List.length b+List.length c≤j0c)) (
 let j:Tn54:=(b++c)
 let i:=(w64 (k-1))
 some (.inl (i,a.2.1,a.2.2,j))) none) none) (
 some (.inr (l,f,b)))
def j6c [LP] (c d b a):=LP.lp (fun h=>j2J h.1 h.2.1 h.2.2.1 h.2.2.2) (c,d,b,a)
theorem ja6 (c d b a):j6c c d b a=lpK (j2J c d b a) (fun h=>j6c h.1 h.2.1 h.2.2.1 h.2.2.2):=j05 _ _
def j2K [LP] (a4:Int) (a5:(List Int)) (q:Int) (i:Tn54) (b:Tn48):Option ((Int×(List Int)×Int×Tn54×Tn48) ⊕ (((List Int)×Int×Tn54×Tn48))):=
 cond (decide (a4>0)) (
 (jh3).bind fun n=>
 let o:=(Int.ofNat (List.length b))
 cond (inR o (List.length n)) (
 let p:=(List.getD n (Int.toNat o) ByteArray.empty)
 let a3:=(Int.ofNat (List.length i))
 (j04 a5 q a3).bind fun c=>
 (j10 c.2.1 c.2.2 3).bind fun d=>
 (j10 d.2.1 d.2.2 2).bind fun a=>
 cond a.1 (
 (j3Y a.2.1 a.2.2).bind fun f=>
 let u:(List Int):=[0,40,100,12]
 (j1b f.2.1 f.2.2 u).bind fun k=>
 let w:=(w64 (3600*k.1))
 let z:(List Int):=[0,11,24,1]
 (j1b k.2.1 k.2.2 z).bind fun g=>
 let a1:=(w64 (3600*g.1))
 let m:Tn48:=[(p,(c.1,(f.1,(w,(a1,d.1)))))]
 cond (decide (List.length b+List.length m≤j0c)) (
 let r:Tn48:=(b++m)
 let v:=(w64 (a4-1))
 some (.inl (v,g.2.1,g.2.2,i,r))) none) (
 let s:(List Int):=[0,40,100,12]
 (j1b a.2.1 a.2.2 s).bind fun e=>
 let y:=(w64 (3600*e.1))
 let a2:(List Int):=[0,11,24,1]
 (j1b e.2.1 e.2.2 a2).bind fun j=>
 let x:=(w64 (3600*j.1))
 let l:Tn48:=[(p,(c.1,(([]:Tn2),(y,(x,d.1)))))]
 cond (decide (List.length b+List.length l≤j0c)) (
 let t:Tn48:=(b++l)
 let a0:=(w64 (a4-1))
 some (.inl (a0,j.2.1,j.2.2,i,t))) none)) none) (
 some (.inr (a5,q,i,b)))
def j6d [LP] (d e c a b):=LP.lp (fun h=>j2K h.1 h.2.1 h.2.2.1 h.2.2.2.1 h.2.2.2.2) (d,e,c,a,b)
theorem ja7 (d e c a b):j6d d e c a b=lpK (j2K d e c a b) (fun h=>j6d h.1 h.2.1 h.2.2.1 h.2.2.2.1 h.2.2.2.2):=j05 _ _
def j2L (n o m:Int) (p:(List Int)) (j:Int) (q:ByteArray) (f:Int) (e:Tn54) (i:Tn48) (d:Tn26) (c:(List Int)):Option ((Int×Int×Int×(List Int)×Int×ByteArray×Int×Tn54×Tn48×Tn26×(List Int)) ⊕ ((Int×(List Int)×Int×ByteArray×Int×Tn54×Tn48×Tn26×(List Int)))):=
 cond (decide (o>0)) (
 (j04 p j 6).bind fun b=>
 let l:=(w64 (1+b.1))
 let a:=(w64 (m+l))
 cond (decide (List.length c+List.length [a]≤j0c)) (
 let g:(List Int):=(c++[a])
 let k:=(w64 (o-1))
 some (.inl (n,k,a,b.2.1,b.2.2,q,f,e,i,d,g))) none) (
 some (.inr (n,p,j,q,f,e,i,d,c)))
def j6e [LP] (i j g k e l c b d a f):=LP.lp (fun h=>j2L h.1 h.2.1 h.2.2.1 h.2.2.2.1 h.2.2.2.2.1 h.2.2.2.2.2.1 h.2.2.2.2.2.2.1 h.2.2.2.2.2.2.2.1 h.2.2.2.2.2.2.2.2.1 h.2.2.2.2.2.2.2.2.2.1 h.2.2.2.2.2.2.2.2.2.2) (i,j,g,k,e,l,c,b,d,a,f)
theorem ja8 (i j g k e l c b d a f):j6e i j g k e l c b d a f=lpK (j2L i j g k e l c b d a f) (fun h=>j6e h.1 h.2.1 h.2.2.1 h.2.2.2.1 h.2.2.2.2.1 h.2.2.2.2.2.1 h.2.2.2.2.2.2.1 h.2.2.2.2.2.2.2.1 h.2.2.2.2.2.2.2.2.1 h.2.2.2.2.2.2.2.2.2.1 h.2.2.2.2.2.2.2.2.2.2):=j05 _ _
def j1V [LP] (m:Int) (n:(List Int)) (j:Int) (e:Tn54) (i:Tn48) (g:Tn26):Option ((Int×(List Int)×Int×Tn54×Tn48×Tn26) ⊕ (((List Int)×Int×Tn54×Tn48×Tn26))):=
 cond (decide (m>0)) (
 let k:=(Int.ofNat (List.length e))
 (j04 n j k).bind fun b=>
 (j04 b.2.1 b.2.2 4).bind fun c=>
 (j6e m c.1 20454 c.2.1 c.2.2 (ByteArray.mk #[100,97,121,115]) b.1 e i g ([]:(List Int))).bind fun a=>
 let d:Tn26:=[(a.2.2.2.1,(a.2.2.2.2.1,a.2.2.2.2.2.2.2.2))]
 cond (decide (List.length a.2.2.2.2.2.2.2.1+List.length d≤j0c)) (
 let f:Tn26:=(a.2.2.2.2.2.2.2.1++d)
 let l:=(w64 (a.1-1))
 some (.inl (l,a.2.1,a.2.2.1,a.2.2.2.2.2.1,a.2.2.2.2.2.2.1,f))) none) (
 some (.inr (n,j,e,i,g)))
def j6f [LP] (e f d b c a):=LP.lp (fun h=>j1V h.1 h.2.1 h.2.2.1 h.2.2.2.1 h.2.2.2.2.1 h.2.2.2.2.2) (e,f,d,b,c,a)
theorem j6t (e f d b c a):j6f e f d b c a=lpK (j1V e f d b c a) (fun h=>j6f h.1 h.2.1 h.2.2.1 h.2.2.2.1 h.2.2.2.2.1 h.2.2.2.2.2):=j05 _ _
def j8y [LP] (i:(List Int)) (e:Int):Option (Tn71×(List Int)×Int):=
 (j04 i e 2).bind fun d=>
 let k:=(w64 (1+d.1))
 (j6c k d.2.1 d.2.2 ([]:Tn54)).bind fun g=>
 (j04 g.1 g.2.1 4).bind fun a=>
 let j:=(w64 (1+a.1))
 (j6d j a.2.1 a.2.2 g.2.2 ([]:Tn48)).bind fun f=>
 (j04 f.1 f.2.1 2).bind fun b=>
 (j6f b.1 b.2.1 b.2.2 f.2.2.1 f.2.2.2 ([]:Tn26)).bind fun c=>
 some ((c.2.2.1,(c.2.2.2.1,(c.2.2.2.2,([]:Tn65)))),c.1,c.2.1)
def j2M (z:Int) (a1:(List Int)) (j:Int) (a0:Tn54) (c:Tn48) (k:Tn26) (u:Tn65) (a2:ByteArray) (i f o t p r l:Int) (y:ByteArray) (q d g e m s n:Int) (b:(List Int)):Option ((Int×(List Int)×Int×Tn54×Tn48×Tn26×Tn65×ByteArray×Int×Int×Int×Int×Int×Int×Int×ByteArray×Int×Int×Int×Int×Int×Int×Int×(List Int)) ⊕ (((List Int)×Int×Tn54×Tn48×Tn26×Tn65×ByteArray×Int×Int×Int×Int×Int×Int×Int×ByteArray×Int×Int×Int×Int×Int×Int×Int×(List Int)))):=
 cond (decide (z>0)) (
 let v:=(Int.ofNat (List.length c))
 (j04 a1 j v).bind fun a=>
 cond (decide (List.length b+List.length [a.1]≤j0c)) (
 let w:(List Int):=(b++[a.1])
 let x:=(w64 (z-1))
 some (.inl (x,a.2.1,a.2.2,a0,c,k,u,a2,i,f,o,t,p,r,l,y,q,d,g,e,m,s,n,w))) none) (
 some (.inr (a1,j,a0,c,k,u,a2,i,f,o,t,p,r,l,y,q,d,g,e,m,s,n,b)))
def j4w [LP] (v x g w k i t y f d n s o q j u p b e c l r m a):=LP.lp (fun h=>j2M h.1 h.2.1 h.2.2.1 h.2.2.2.1 h.2.2.2.2.1 h.2.2.2.2.2.1 h.2.2.2.2.2.2.1 h.2.2.2.2.2.2.2.1 h.2.2.2.2.2.2.2.2.1 h.2.2.2.2.2.2.2.2.2.1 h.2.2.2.2.2.2.2.2.2.2.1 h.2.2.2.2.2.2.2.2.2.2.2.1 h.2.2.2.2.2.2.2.2.2.2.2.2.1 h.2.2.2.2.2.2.2.2.2.2.2.2.2.1 h.2.2.2.2.2.2.2.2.2.2.2.2.2.2.1 h.2.2.2.2.2.2.2.2.2.2.2.2.2.2.2.1 h.2.2.2.2.2.2.2.2.2.2.2.2.2.2.2.2.1 h.2.2.2.2.2.2.2.2.2.2.2.2.2.2.2.2.2.1 h.2.2.2.2.2.2.2.2.2.2.2.2.2.2.2.2.2.2.1 h.2.2.2.2.2.2.2.2.2.2.2.2.2.2.2.2.2.2.2.1 h.2.2.2.2.2.2.2.2.2.2.2.2.2.2.2.2.2.2.2.2.1 h.2.2.2.2.2.2.2.2.2.2.2.2.2.2.2.2.2.2.2.2.2.1 h.2.2.2.2.2.2.2.2.2.2.2.2.2.2.2.2.2.2.2.2.2.2.1 h.2.2.2.2.2.2.2.2.2.2.2.2.2.2.2.2.2.2.2.2.2.2.2) (v,x,g,w,k,i,t,y,f,d,n,s,o,q,j,u,p,b,e,c,l,r,m,a)
theorem ja9 (v x g w k i t y f d n s o q j u p b e c l r m a):j4w v x g w k i t y f d n s o q j u p b e c l r m a=lpK (j2M v x g w k i t y f d n s o q j u p b e c l r m a) (fun h=>j4w h.1 h.2.1 h.2.2.1 h.2.2.2.1 h.2.2.2.2.1 h.2.2.2.2.2.1 h.2.2.2.2.2.2.1 h.2.2.2.2.2.2.2.1 h.2.2.2.2.2.2.2.2.1 h.2.2.2.2.2.2.2.2.2.1 h.2.2.2.2.2.2.2.2.2.2.1 h.2.2.2.2.2.2.2.2.2.2.2.1 h.2.2.2.2.2.2.2.2.2.2.2.2.1 h.2.2.2.2.2.2.2.2.2.2.2.2.2.1 h.2.2.2.2.2.2.2.2.2.2.2.2.2.2.1 h.2.2.2.2.2.2.2.2.2.2.2.2.2.2.2.1 h.2.2.2.2.2.2.2.2.2.2.2.2.2.2.2.2.1 h.2.2.2.2.2.2.2.2.2.2.2.2.2.2.2.2.2.1 h.2.2.2.2.2.2.2.2.2.2.2.2.2.2.2.2.2.2.1 h.2.2.2.2.2.2.2.2.2.2.2.2.2.2.2.2.2.2.2.1 h.2.2.2.2.2.2.2.2.2.2.2.2.2.2.2.2.2.2.2.2.1 h.2.2.2.2.2.2.2.2.2.2.2.2.2.2.2.2.2.2.2.2.2.1 h.2.2.2.2.2.2.2.2.2.2.2.2.2.2.2.2.2.2.2.2.2.2.1 h.2.2.2.2.2.2.2.2.2.2.2.2.2.2.2.2.2.2.2.2.2.2.2):=j05 _ _
def j8z [LP] (b5:(List Int)) (a0:Int) (c:Tn71) (j:ByteArray):Option (Tn59×(List Int)×Int):=
 let c2:=(Int.ofNat (List.length c.1))
 (j04 b5 a0 c2).bind fun v=>
 (j04 v.2.1 v.2.2 6).bind fun a1=>
 let b9:=(w64 (20454+a1.1))
 let b4:=(w64 (b9-2))
 let c3:(List Int):=[0,32400,7200,9000,79200,1]
 (j1b a1.2.1 a1.2.2 c3).bind fun x=>
 (j04 x.2.1 x.2.2 3).bind fun t=>
 (j04 t.2.1 t.2.2 2).bind fun r=>
 let b7:=(w64 (1+r.1))
 cond (t.1==0) (
 let b6:(List Int):=[6,8,12,24,23,49]
 (j1b r.2.1 r.2.2 b6).bind fun a3=>
 (j04 a3.2.1 a3.2.2 3).bind fun z=>
 let c1:=(w64 (1+z.1))
 (j4w c1 z.2.1 z.2.2 c.1 c.2.1 c.2.2.1 c.2.2.2 ByteArray.empty 0 0 0 0 0 0 0 j v.1 b4 x.1 t.1 a3.1 0 0 ([]:(List Int))).bind fun b=>
 (j10 b.1 b.2.1 2).bind fun s=>
 cond s.1 (
 (j3Y s.2.1 s.2.2).bind fun w=>
 (j10 w.2.1 w.2.2 4).bind fun u=>
 let c0:=(Int.ofNat (List.length b.2.2.2.2.1))
 cond (cond u.1 (decide (c0>0)) false) (
 let c4:=(Int.ofNat (List.length b.2.2.2.2.1))
 (j04 u.2.1 u.2.2 c4).bind fun a2=>
 (j04 a2.2.1 a2.2.2 2).bind fun y=>
 let b8:=(w64 (1+y.1))
 some ((b.2.2.2.2.2.2.2.2.2.2.2.2.2.2.1,(b.2.2.2.2.2.2.2.2.2.2.2.2.2.2.2.1,((b.2.2.2.2.2.2.2.2.2.2.2.2.2.2.2.2.1,b.2.2.2.2.2.2.2.2.2.2.2.2.2.2.2.2.2.1),(b.2.2.2.2.2.2.2.2.2.2.2.2.2.2.2.2.2.2.1,(b.2.2.2.2.2.2.2.2.2.2.2.2.2.2.2.2.2.2.2.1,(b.2.2.2.2.2.2.2.2.2.2.2.2.2.2.2.2.2.2.2.2.2.2,(w.1,(a2.1,b8)))))))),y.2.1,y.2.2)) (
 some ((b.2.2.2.2.2.2.2.2.2.2.2.2.2.2.1,(b.2.2.2.2.2.2.2.2.2.2.2.2.2.2.2.1,((b.2.2.2.2.2.2.2.2.2.2.2.2.2.2.2.2.1,b.2.2.2.2.2.2.2.2.2.2.2.2.2.2.2.2.2.1),(b.2.2.2.2.2.2.2.2.2.2.2.2.2.2.2.2.2.2.1,(b.2.2.2.2.2.2.2.2.2.2.2.2.2.2.2.2.2.2.2.1,(b.2.2.2.2.2.2.2.2.2.2.2.2.2.2.2.2.2.2.2.2.2.2,(w.1,(b.2.2.2.2.2.2.2.2.2.2.2.2.2.2.2.2.2.2.2.2.1,b.2.2.2.2.2.2.2.2.2.2.2.2.2.2.2.2.2.2.2.2.2.1)))))))),u.2.1,u.2.2))) (
 (j10 s.2.1 s.2.2 4).bind fun d=>
 let b0:=(Int.ofNat (List.length b.2.2.2.2.1))
 cond (cond d.1 (decide (b0>0)) false) (
 let a7:=(Int.ofNat (List.length b.2.2.2.2.1))
 (j04 d.2.1 d.2.2 a7).bind fun n=>
 (j04 n.2.1 n.2.2 2).bind fun o=>
 let a4:=(w64 (1+o.1))
 some ((b.2.2.2.2.2.2.2.2.2.2.2.2.2.2.1,(b.2.2.2.2.2.2.2.2.2.2.2.2.2.2.2.1,((b.2.2.2.2.2.2.2.2.2.2.2.2.2.2.2.2.1,b.2.2.2.2.2.2.2.2.2.2.2.2.2.2.2.2.2.1),(b.2.2.2.2.2.2.2.2.2.2.2.2.2.2.2.2.2.2.1,(b.2.2.2.2.2.2.2.2.2.2.2.2.2.2.2.2.2.2.2.1,(b.2.2.2.2.2.2.2.2.2.2.2.2.2.2.2.2.2.2.2.2.2.2,(([]:Tn2),(n.1,a4)))))))),o.2.1,o.2.2)) (
 some ((b.2.2.2.2.2.2.2.2.2.2.2.2.2.2.1,(b.2.2.2.2.2.2.2.2.2.2.2.2.2.2.2.1,((b.2.2.2.2.2.2.2.2.2.2.2.2.2.2.2.2.1,b.2.2.2.2.2.2.2.2.2.2.2.2.2.2.2.2.2.1),(b.2.2.2.2.2.2.2.2.2.2.2.2.2.2.2.2.2.2.1,(b.2.2.2.2.2.2.2.2.2.2.2.2.2.2.2.2.2.2.2.1,(b.2.2.2.2.2.2.2.2.2.2.2.2.2.2.2.2.2.2.2.2.2.2,(([]:Tn2),(b.2.2.2.2.2.2.2.2.2.2.2.2.2.2.2.2.2.2.2.2.1,b.2.2.2.2.2.2.2.2.2.2.2.2.2.2.2.2.2.2.2.2.2.1)))))))),d.2.1,d.2.2)))) (
 (j04 r.2.1 r.2.2 3).bind fun l=>
 let b1:=(w64 (1+l.1))
 (j4w b1 l.2.1 l.2.2 c.1 c.2.1 c.2.2.1 c.2.2.2 ByteArray.empty 0 0 0 0 0 0 0 j v.1 b4 x.1 t.1 b7 0 0 ([]:(List Int))).bind fun a=>
 (j10 a.1 a.2.1 2).bind fun f=>
 cond f.1 (
 (j3Y f.2.1 f.2.2).bind fun i=>
 (j10 i.2.1 i.2.2 4).bind fun e=>
 let a6:=(Int.ofNat (List.length a.2.2.2.2.1))
 cond (cond e.1 (decide (a6>0)) false) (
 let b3:=(Int.ofNat (List.length a.2.2.2.2.1))
 (j04 e.2.1 e.2.2 b3).bind fun p=>
 (j04 p.2.1 p.2.2 2).bind fun q=>
 let a9:=(w64 (1+q.1))
 some ((a.2.2.2.2.2.2.2.2.2.2.2.2.2.2.1,(a.2.2.2.2.2.2.2.2.2.2.2.2.2.2.2.1,((a.2.2.2.2.2.2.2.2.2.2.2.2.2.2.2.2.1,a.2.2.2.2.2.2.2.2.2.2.2.2.2.2.2.2.2.1),(a.2.2.2.2.2.2.2.2.2.2.2.2.2.2.2.2.2.2.1,(a.2.2.2.2.2.2.2.2.2.2.2.2.2.2.2.2.2.2.2.1,(a.2.2.2.2.2.2.2.2.2.2.2.2.2.2.2.2.2.2.2.2.2.2,(i.1,(p.1,a9)))))))),q.2.1,q.2.2)) (
 some ((a.2.2.2.2.2.2.2.2.2.2.2.2.2.2.1,(a.2.2.2.2.2.2.2.2.2.2.2.2.2.2.2.1,((a.2.2.2.2.2.2.2.2.2.2.2.2.2.2.2.2.1,a.2.2.2.2.2.2.2.2.2.2.2.2.2.2.2.2.2.1),(a.2.2.2.2.2.2.2.2.2.2.2.2.2.2.2.2.2.2.1,(a.2.2.2.2.2.2.2.2.2.2.2.2.2.2.2.2.2.2.2.1,(a.2.2.2.2.2.2.2.2.2.2.2.2.2.2.2.2.2.2.2.2.2.2,(i.1,(a.2.2.2.2.2.2.2.2.2.2.2.2.2.2.2.2.2.2.2.2.1,a.2.2.2.2.2.2.2.2.2.2.2.2.2.2.2.2.2.2.2.2.2.1)))))))),e.2.1,e.2.2))) (
 (j10 f.2.1 f.2.2 4).bind fun g=>
 let a5:=(Int.ofNat (List.length a.2.2.2.2.1))
 cond (cond g.1 (decide (a5>0)) false) (
 let a8:=(Int.ofNat (List.length a.2.2.2.2.1))
 (j04 g.2.1 g.2.2 a8).bind fun m=>
 (j04 m.2.1 m.2.2 2).bind fun k=>
 let b2:=(w64 (1+k.1))
 some ((a.2.2.2.2.2.2.2.2.2.2.2.2.2.2.1,(a.2.2.2.2.2.2.2.2.2.2.2.2.2.2.2.1,((a.2.2.2.2.2.2.2.2.2.2.2.2.2.2.2.2.1,a.2.2.2.2.2.2.2.2.2.2.2.2.2.2.2.2.2.1),(a.2.2.2.2.2.2.2.2.2.2.2.2.2.2.2.2.2.2.1,(a.2.2.2.2.2.2.2.2.2.2.2.2.2.2.2.2.2.2.2.1,(a.2.2.2.2.2.2.2.2.2.2.2.2.2.2.2.2.2.2.2.2.2.2,(([]:Tn2),(m.1,b2)))))))),k.2.1,k.2.2)) (
 some ((a.2.2.2.2.2.2.2.2.2.2.2.2.2.2.1,(a.2.2.2.2.2.2.2.2.2.2.2.2.2.2.2.1,((a.2.2.2.2.2.2.2.2.2.2.2.2.2.2.2.2.1,a.2.2.2.2.2.2.2.2.2.2.2.2.2.2.2.2.2.1),(a.2.2.2.2.2.2.2.2.2.2.2.2.2.2.2.2.2.2.1,(a.2.2.2.2.2.2.2.2.2.2.2.2.2.2.2.2.2.2.2.1,(a.2.2.2.2.2.2.2.2.2.2.2.2.2.2.2.2.2.2.2.2.2.2,(([]:Tn2),(a.2.2.2.2.2.2.2.2.2.2.2.2.2.2.2.2.2.2.2.2.1,a.2.2.2.2.2.2.2.2.2.2.2.2.2.2.2.2.2.2.2.2.2.1)))))))),g.2.1,g.2.2))))
def j6V (e:(List Int)) (c:Int):Option (Int×(List Int)×Int):=
 (j04 e c 576).bind fun d=>
 let j:=(w64 (3600*d.1))
 let g:=(w64 (1767139200+j))
 (j10 d.2.1 d.2.2 3).bind fun b=>
 cond b.1 (
 let f:(List Int):=[(-1),1,1800,3599]
 (j1b b.2.1 b.2.2 f).bind fun a=>
 let i:=(w64 (g+a.1))
 some (i,a.2.1,a.2.2)) (
 some (g,b.2.1,b.2.2))
def j9Q (n:(List Int)) (l:Int) (m:Tn71):Option (Tn24×(List Int)×Int):=
 let k:=(Int.ofNat (List.length m.2.1))
 (j04 n l 3).bind fun a=>
 (j04 a.2.1 a.2.2 k).bind fun e=>
 (j6V e.2.1 e.2.2).bind fun b=>
 let o:(List Int):=[3600,86400,7,259200,40000]
 (j1b b.2.1 b.2.2 o).bind fun d=>
 let f:=(w64 (b.1+d.1))
 cond (a.1==2) (
 cond (decide (k<2)) (
 some ((0,(e.1,(0,(b.1,f)))),d.2.1,d.2.2)) (
 let q:=(w64 (e.1+1))
 let p:=(w64 (k-1))
 (j04 d.2.1 d.2.2 p).bind fun g=>
 let r:=(w64 (q+g.1))
 cond (!(k==0)) (
 let j:=(Int.tmod r k)
 cond (a.1==1) (
 (j10 g.2.1 g.2.2 4).bind fun i=>
 cond i.1 (
 some ((a.1,((-1),(j,(b.1,f)))),i.2.1,i.2.2)) (
 some ((a.1,(e.1,(j,(b.1,f)))),i.2.1,i.2.2))) (
 some ((a.1,(e.1,(j,(b.1,f)))),g.2.1,g.2.2))) none)) (
 cond (a.1==1) (
 (j10 d.2.1 d.2.2 4).bind fun c=>
 cond c.1 (
 some ((a.1,((-1),(0,(b.1,f)))),c.2.1,c.2.2)) (
 some ((a.1,(e.1,(0,(b.1,f)))),c.2.1,c.2.2))) (
 some ((a.1,(e.1,(0,(b.1,f)))),d.2.1,d.2.2)))
def j2w [LP] (o r:Int) (p:(List Int)) (j:Int) (n:Tn54) (c:Tn48) (d:Tn26) (q:ByteArray) (e:Tn65) (b:Tn60):Option ((Int×Int×(List Int)×Int×Tn54×Tn48×Tn26×ByteArray×Tn65×Tn60) ⊕ ((Int×(List Int)×Int×Tn54×Tn48×Tn26×ByteArray×Tn65×Tn60))):=
 cond (decide (r>0)) (
 (jh3).bind fun g=>
 let i:=(Int.ofNat (List.length b))
 cond (inR i (List.length g)) (
 let l:=(List.getD g (Int.toNat i) ByteArray.empty)
 (j8z p j (n,(c,(d,e))) l).bind fun a=>
 let f:Tn60:=[(a.1.1,(a.1.2.1,((a.1.2.2.1.1,a.1.2.2.1.2),(a.1.2.2.2.1,(a.1.2.2.2.2.1,(a.1.2.2.2.2.2.1,(a.1.2.2.2.2.2.2.1,(a.1.2.2.2.2.2.2.2.1,a.1.2.2.2.2.2.2.2.2))))))))]
 cond (decide (List.length b+List.length f≤j0c)) (
 let k:Tn60:=(b++f)
 let m:=(w64 (r-1))
 some (.inl (o,m,a.2.1,a.2.2,n,c,d,q,e,k))) none) none) (
 some (.inr (o,p,j,n,c,d,q,e,b)))
def j46 [LP] (f k i e g b c j d a):=LP.lp (fun h=>j2w h.1 h.2.1 h.2.2.1 h.2.2.2.1 h.2.2.2.2.1 h.2.2.2.2.2.1 h.2.2.2.2.2.2.1 h.2.2.2.2.2.2.2.1 h.2.2.2.2.2.2.2.2.1 h.2.2.2.2.2.2.2.2.2) (f,k,i,e,g,b,c,j,d,a)
theorem j9e (f k i e g b c j d a):j46 f k i e g b c j d a=lpK (j2w f k i e g b c j d a) (fun h=>j46 h.1 h.2.1 h.2.2.1 h.2.2.2.1 h.2.2.2.2.1 h.2.2.2.2.2.1 h.2.2.2.2.2.2.1 h.2.2.2.2.2.2.2.1 h.2.2.2.2.2.2.2.2.1 h.2.2.2.2.2.2.2.2.2):=j05 _ _
def j2x (m n:Int) (o:(List Int)) (i:Int) (l:Tn54) (b:Tn48) (c:Tn26) (p:ByteArray) (d:Tn65) (g:Tn60) (e:Tn29):Option ((Int×Int×(List Int)×Int×Tn54×Tn48×Tn26×ByteArray×Tn65×Tn60×Tn29) ⊕ ((Int×(List Int)×Int×Tn54×Tn48×Tn26×ByteArray×Tn65×Tn60×Tn29))):=
 cond (decide (n>0)) (
 (j9Q o i (l,(b,(c,d)))).bind fun a=>
 let f:Tn29:=[(a.1.1,(a.1.2.1,(a.1.2.2.1,(a.1.2.2.2.1,a.1.2.2.2.2))))]
 cond (decide (List.length e+List.length f≤j0c)) (
 let j:Tn29:=(e++f)
 let k:=(w64 (n-1))
 some (.inl (m,k,a.2.1,a.2.2,l,b,c,p,d,g,j))) none) (
 some (.inr (m,o,i,l,b,c,p,d,g,e)))
def j5u [LP] (g j k e i b c l d a f):=LP.lp (fun h=>j2x h.1 h.2.1 h.2.2.1 h.2.2.2.1 h.2.2.2.2.1 h.2.2.2.2.2.1 h.2.2.2.2.2.2.1 h.2.2.2.2.2.2.2.1 h.2.2.2.2.2.2.2.2.1 h.2.2.2.2.2.2.2.2.2.1 h.2.2.2.2.2.2.2.2.2.2) (g,j,k,e,i,b,c,l,d,a,f)
theorem j9f (g j k e i b c l d a f):j5u g j k e i b c l d a f=lpK (j2x g j k e i b c l d a f) (fun h=>j5u h.1 h.2.1 h.2.2.1 h.2.2.2.1 h.2.2.2.2.1 h.2.2.2.2.2.1 h.2.2.2.2.2.2.1 h.2.2.2.2.2.2.2.1 h.2.2.2.2.2.2.2.2.1 h.2.2.2.2.2.2.2.2.2.1 h.2.2.2.2.2.2.2.2.2.2):=j05 _ _
def j2y [LP] (q:Int) (s:(List Int)) (l:Int) (r:Tn54) (j:Tn48) (k:Tn26) (e:Tn65):Option ((Int×(List Int)×Int×Tn54×Tn48×Tn26×Tn65) ⊕ (((List Int)×Int×Tn54×Tn48×Tn26×Tn65))):=
 cond (decide (q>0)) (
 let i:(List ByteArray):=[(ByteArray.mk #[102,105,114,115,116]),(ByteArray.mk #[115,101,99,111,110,100]),(ByteArray.mk #[116,104,105,114,100])]
 let m:=(Int.ofNat (List.length e))
 let f:=(Int.tmod m 3)
 cond (inR f (List.length i)) (
 let n:=(List.getD i (Int.toNat f) ByteArray.empty)
 (j04 s l 4).bind fun c=>
 (j46 q c.1 c.2.1 c.2.2 r j k n e ([]:Tn60)).bind fun b=>
 (j04 b.2.1 b.2.2.1 4).bind fun d=>
 (j5u b.1 d.1 d.2.1 d.2.2 b.2.2.2.1 b.2.2.2.2.1 b.2.2.2.2.2.1 b.2.2.2.2.2.2.1 b.2.2.2.2.2.2.2.1 b.2.2.2.2.2.2.2.2 ([]:Tn29)).bind fun a=>
 let g:Tn65:=[(a.2.2.2.2.2.2.1,(a.2.2.2.2.2.2.2.2.1,a.2.2.2.2.2.2.2.2.2))]
 cond (decide (List.length a.2.2.2.2.2.2.2.1+List.length g≤j0c)) (
 let p:Tn65:=(a.2.2.2.2.2.2.2.1++g)
 let o:=(w64 (a.1-1))
 some (.inl (o,a.2.1,a.2.2.1,a.2.2.2.1,a.2.2.2.2.1,a.2.2.2.2.2.1,p))) none) none) (
 some (.inr (s,l,r,j,k,e)))
def j5v [LP] (e g d f a b c):=LP.lp (fun h=>j2y h.1 h.2.1 h.2.2.1 h.2.2.2.1 h.2.2.2.2.1 h.2.2.2.2.2.1 h.2.2.2.2.2.2) (e,g,d,f,a,b,c)
theorem j9g (e g d f a b c):j5v e g d f a b c=lpK (j2y e g d f a b c) (fun h=>j5v h.1 h.2.1 h.2.2.1 h.2.2.2.1 h.2.2.2.2.1 h.2.2.2.2.2.1 h.2.2.2.2.2.2):=j05 _ _
def j7N [LP] (f:(List Int)) (c e:Int):Option (Tn71×(List Int)×Int):=
 (j8y f c).bind fun a=>
 (j04 a.2.1 a.2.2 e).bind fun d=>
 let g:=(w64 (1+d.1))
 (j5v g d.2.1 d.2.2 a.1.1 a.1.2.1 a.1.2.2.1 ([]:Tn65)).bind fun b=>
 some ((b.2.2.1,(b.2.2.2.1,(b.2.2.2.2.1,b.2.2.2.2.2))),b.1,b.2.1)
def jj4 (b a:Int):Option (Int):=
 cond (!(a==0)) (
 let e:=(Int.tmod b a)
 let d:=(w64 (e+a))
 cond (!(a==0)) (
 let c:=(Int.tmod d a)
 some c) none) none
def jmk (a:Int):Option (Bool):=
 some (cond (decide (a≥48)) (decide (a≤57)) false)
def j5K (b:ByteArray) (a:Int):Option ((ByteArray×Int) ⊕ (Bool ⊕ Unit)):=
 let k:=(Int.ofNat (ByteArray.size b))
 cond (decide (a<k)) (
 cond (inR a (ByteArray.size b)) (
 let c:=(j2d b a)
 cond ((inR a (ByteArray.size b)) || !(!(decide (c<97)))) (
 let f:=(j2d b a)
 cond ((inR a (ByteArray.size b)) || !(cond (decide (c<97)) true (decide (f>122)))) (
 let g:=(j2d b a)
 cond (cond (decide (c<97)) true (decide (f>122))) (
 (jmk g).bind fun d=>
 cond ((inR a (ByteArray.size b)) || !(!d)) (
 let e:=(j2d b a)
 cond ((inR a (ByteArray.size b)) || !(cond (!d) (e != 95) false)) (
 let i:=(j2d b a)
 cond (cond (cond (!d) (e != 95) false) (i != 45) false) (
 some (.inr (.inl false))) (
 let j:=(w64 (a+1))
 some (.inl (b,j)))) none) none) (
 cond ((inR a (ByteArray.size b)) || !false) (
 let m:=(j2d b a)
 cond ((inR a (ByteArray.size b)) || !false) (
 let n:=(j2d b a)
 let l:=(w64 (a+1))
 some (.inl (b,l))) none) none)) none) none) none) (
 some (.inr (.inr ())))
def j9y [LP] (b a):=LP.lp (fun h=>j5K h.1 h.2) (b,a)
theorem jht (b a):j9y b a=lpK (j5K b a) (fun h=>j9y h.1 h.2):=j05 _ _
def jlB [LP] (a:ByteArray):Option (Bool):=
 let e:=(Int.ofNat (ByteArray.size a))
 let d:=(Int.ofNat (ByteArray.size a))
 cond ((inR 0 (ByteArray.size a)) || !(!(cond (decide (e<1)) true (decide (d>24))))) (
 let f:=(j2d a 0)
 let b:Bool:=(cond (cond (decide (e<1)) true (decide (d>24))) true (decide (f<97)))
 cond ((inR 0 (ByteArray.size a)) || !(!b)) (
 let c:=(j2d a 0)
 cond (cond b true (decide (c>122))) (
 some false) (
 (j9y a 0).bind fun g=>
 sumC g (fun i=>
 some i) (fun j=>
 some true))) none) none
def j5L (a:(List ByteArray)) (c f:Int):Option (((List ByteArray)×Int×Int) ⊕ (Int ⊕ Unit)):=
 cond (decide (f<c)) (
 cond (inR f (List.length a)) (
 let d:=(List.getD a (Int.toNat f) ByteArray.empty)
 cond (inR c (List.length a)) (
 let b:=(List.getD a (Int.toNat c) ByteArray.empty)
 cond (ByteArray.toList d==ByteArray.toList b) (
 some (.inr (.inl 4))) (
 let e:=(w64 (f+1))
 some (.inl (a,c,e)))) none) none) (
 some (.inr (.inr ())))
def jbX [LP] (a b c):=LP.lp (fun h=>j5L h.1 h.2.1 h.2.2) (a,b,c)
theorem jhu (a b c):jbX a b c=lpK (j5L a b c) (fun h=>jbX h.1 h.2.1 h.2.2):=j05 _ _
def jbc [LP] (a:(List ByteArray)) (b:Int):Option (Int):=
 cond (inR b (List.length a)) (
 let e:=(List.getD a (Int.toNat b) ByteArray.empty)
 (jlB e).bind fun c=>
 cond (!c) (
 some 2) (
 (jbX a b 0).bind fun d=>
 sumC d (fun f=>
 some f) (fun g=>
 some 0))) none
def j9h (a c b:Int):Option (Bool):=
 some (cond (decide (a≥c)) (decide (a≤b)) false)
def jg9 (a:Tn38):Option (Bool):=
 (j9h a.1 1970 2240).bind fun i=>
 cond i (
 (j9h a.2.1 a.1 2240).bind fun g=>
 cond g (
 (j9h a.2.2.1 1 12).bind fun e=>
 cond e (
 (j9h a.2.2.2.1 1 5).bind fun b=>
 cond b (
 (j9h a.2.2.2.2.1 0 6).bind fun c=>
 cond c (
 (j9h a.2.2.2.2.2.1 0 86399).bind fun f=>
 cond f (
 (j9h a.2.2.2.2.2.2 (-64800) 64800).bind fun d=>
 some d) (
 some false)) (
 some false)) (
 some false)) (
 some false)) (
 some false)) (
 some false)
def j1v (a:Int):Option (Bool):=
 let c:=(Int.tmod a 4)
 let d:=(Int.tmod a 100)
 let b:=(Int.tmod a 400)
 some (cond (c==0) (cond (d != 0) true (b==0)) false)
def jeB (b a:Int):Option (Int):=
 cond (a==1) (
 cond (a==1) (
 some 31) (
 cond (a==4) (
 cond (a==4) (
 some 30) (
 cond (a==2) (
 (j1v b).bind fun a4=>
 cond a4 (
 some 29) (
 some 28)) (
 some 0))) (
 cond (a==6) (
 cond (a==6) (
 some 30) (
 cond (a==2) (
 (j1v b).bind fun z=>
 cond z (
 some 29) (
 some 28)) (
 some 0))) (
 cond (a==9) (
 cond (a==9) (
 some 30) (
 cond (a==2) (
 (j1v b).bind fun v=>
 cond v (
 some 29) (
 some 28)) (
 some 0))) (
 cond (a==11) (
 some 30) (
 cond (a==2) (
 (j1v b).bind fun w=>
 cond w (
 some 29) (
 some 28)) (
 some 0))))))) (
 cond (a==3) (
 cond (a==3) (
 some 31) (
 cond (a==4) (
 cond (a==4) (
 some 30) (
 cond (a==2) (
 (j1v b).bind fun a0=>
 cond a0 (
 some 29) (
 some 28)) (
 some 0))) (
 cond (a==6) (
 cond (a==6) (
 some 30) (
 cond (a==2) (
 (j1v b).bind fun a2=>
 cond a2 (
 some 29) (
 some 28)) (
 some 0))) (
 cond (a==9) (
 cond (a==9) (
 some 30) (
 cond (a==2) (
 (j1v b).bind fun a1=>
 cond a1 (
 some 29) (
 some 28)) (
 some 0))) (
 cond (a==11) (
 some 30) (
 cond (a==2) (
 (j1v b).bind fun y=>
 cond y (
 some 29) (
 some 28)) (
 some 0))))))) (
 cond (a==5) (
 cond (a==5) (
 some 31) (
 cond (a==4) (
 cond (a==4) (
 some 30) (
 cond (a==2) (
 (j1v b).bind fun a3=>
 cond a3 (
 some 29) (
 some 28)) (
 some 0))) (
 cond (a==6) (
 cond (a==6) (
 some 30) (
 cond (a==2) (
 (j1v b).bind fun x=>
 cond x (
 some 29) (
 some 28)) (
 some 0))) (
 cond (a==9) (
 cond (a==9) (
 some 30) (
 cond (a==2) (
 (j1v b).bind fun f=>
 cond f (
 some 29) (
 some 28)) (
 some 0))) (
 cond (a==11) (
 some 30) (
 cond (a==2) (
 (j1v b).bind fun i=>
 cond i (
 some 29) (
 some 28)) (
 some 0))))))) (
 cond (a==7) (
 cond (a==7) (
 some 31) (
 cond (a==4) (
 cond (a==4) (
 some 30) (
 cond (a==2) (
 (j1v b).bind fun u=>
 cond u (
 some 29) (
 some 28)) (
 some 0))) (
 cond (a==6) (
 cond (a==6) (
 some 30) (
 cond (a==2) (
 (j1v b).bind fun j=>
 cond j (
 some 29) (
 some 28)) (
 some 0))) (
 cond (a==9) (
 cond (a==9) (
 some 30) (
 cond (a==2) (
 (j1v b).bind fun r=>
 cond r (
 some 29) (
 some 28)) (
 some 0))) (
 cond (a==11) (
 some 30) (
 cond (a==2) (
 (j1v b).bind fun t=>
 cond t (
 some 29) (
 some 28)) (
 some 0))))))) (
 cond (a==8) (
 cond (a==8) (
 some 31) (
 cond (a==4) (
 cond (a==4) (
 some 30) (
 cond (a==2) (
 (j1v b).bind fun p=>
 cond p (
 some 29) (
 some 28)) (
 some 0))) (
 cond (a==6) (
 cond (a==6) (
 some 30) (
 cond (a==2) (
 (j1v b).bind fun l=>
 cond l (
 some 29) (
 some 28)) (
 some 0))) (
 cond (a==9) (
 cond (a==9) (
 some 30) (
 cond (a==2) (
 (j1v b).bind fun s=>
 cond s (
 some 29) (
 some 28)) (
 some 0))) (
 cond (a==11) (
 some 30) (
 cond (a==2) (
 (j1v b).bind fun n=>
 cond n (
 some 29) (
 some 28)) (
 some 0))))))) (
 cond (a==10) (
 cond (a==10) (
 some 31) (
 cond (a==4) (
 cond (a==4) (
 some 30) (
 cond (a==2) (
 (j1v b).bind fun g=>
 cond g (
 some 29) (
 some 28)) (
 some 0))) (
 cond (a==6) (
 cond (a==6) (
 some 30) (
 cond (a==2) (
 (j1v b).bind fun q=>
 cond q (
 some 29) (
 some 28)) (
 some 0))) (
 cond (a==9) (
 cond (a==9) (
 some 30) (
 cond (a==2) (
 (j1v b).bind fun k=>
 cond k (
 some 29) (
 some 28)) (
 some 0))) (
 cond (a==11) (
 some 30) (
 cond (a==2) (
 (j1v b).bind fun m=>
 cond m (
 some 29) (
 some 28)) (
 some 0))))))) (
 cond (a==12) (
 some 31) (
 cond (a==4) (
 cond (a==4) (
 some 30) (
 cond (a==2) (
 (j1v b).bind fun o=>
 cond o (
 some 29) (
 some 28)) (
 some 0))) (
 cond (a==6) (
 cond (a==6) (
 some 30) (
 cond (a==2) (
 (j1v b).bind fun e=>
 cond e (
 some 29) (
 some 28)) (
 some 0))) (
 cond (a==9) (
 cond (a==9) (
 some 30) (
 cond (a==2) (
 (j1v b).bind fun d=>
 cond d (
 some 29) (
 some 28)) (
 some 0))) (
 cond (a==11) (
 some 30) (
 cond (a==2) (
 (j1v b).bind fun c=>
 cond c (
 some 29) (
 some 28)) (
 some 0))))))))))))
def jj5 (a:Tn3):Option (Bool):=
 cond (decide (a.1≥1970)) (
 cond (decide (a.1≤2240)) (
 cond (decide (a.2.1≥1)) (
 cond (decide (a.2.1≤12)) (
 cond (decide (a.2.2≥1)) (
 (jeB a.1 a.2.1).bind fun b=>
 some (decide (a.2.2≤b))) (
 some false)) (
 some false)) (
 some false)) (
 some false)) (
 some false)
def jj6 (a:Int):Option (Int):=
 let i:=(w64 (a-1970))
 let l:=(w64 (i*365))
 let k:=(w64 (a-1969))
 let m:=(w64 (Int.tdiv k 4))
 let j:=(w64 (l+m))
 let e:=(w64 (a-1901))
 let d:=(w64 (Int.tdiv e 100))
 let c:=(w64 (j-d))
 let g:=(w64 (a-1601))
 let b:=(w64 (Int.tdiv g 400))
 let f:=(w64 (c+b))
 some f
def j6u (i g f a b:Int):Option ((Int×Int×Int×Int×Int) ⊕ ((Int×Int×Int×Int))):=
 cond (decide (g<a)) (
 (jeB f g).bind fun e=>
 let c:=(w64 (i+e))
 let d:=(w64 (g+1))
 some (.inl (c,d,f,a,b))) (
 some (.inr (i,f,a,b)))
def jh4 [LP] (d e c a b):=LP.lp (fun h=>j6u h.1 h.2.1 h.2.2.1 h.2.2.2.1 h.2.2.2.2) (d,e,c,a,b)
theorem jj7 (d e c a b):jh4 d e c a b=lpK (j6u d e c a b) (fun h=>jh4 h.1 h.2.1 h.2.2.1 h.2.2.2.1 h.2.2.2.2):=j05 _ _
def joU [LP] (a:Tn3):Option (Int×Int):=
 (jj5 (a.1,(a.2.1,a.2.2))).bind fun f=>
 cond (!f) (
 some (0,1)) (
 (jj6 a.1).bind fun e=>
 (jh4 e 1 a.1 a.2.1 a.2.2).bind fun c=>
 let b:=(w64 (c.1+c.2.2.2))
 let d:=(w64 (b-1))
 some (d,0))
def jeC (a:Int):Option (Int):=
 let d:=(Int.tmod a 7)
 let b:=(w64 (d+10))
 let c:=(Int.tmod b 7)
 some c
def j6v (g e i f d a:Int):Option ((Int×Int×Int×Int×Int×Int) ⊕ ((Int×Int×Int×Int×Int))):=
 (jeC a).bind fun c=>
 cond (c != f) (
 let b:=(w64 (a+1))
 some (.inl (g,e,i,f,d,b))) (
 some (.inr (g,e,i,d,a)))
def jh5 [LP] (e c f d a b):=LP.lp (fun h=>j6v h.1 h.2.1 h.2.2.1 h.2.2.2.1 h.2.2.2.2.1 h.2.2.2.2.2) (e,c,f,d,a,b)
theorem jj8 (e c f d a b):jh5 e c f d a b=lpK (j6v e c f d a b) (fun h=>jh5 h.1 h.2.1 h.2.2.1 h.2.2.2.1 h.2.2.2.2.1 h.2.2.2.2.2):=j05 _ _
def j6w (i g f a:Int):Option ((Int×Int×Int×Int) ⊕ (Int)):=
 let b:=(w64 (a+7))
 (jeB i g).bind fun e=>
 let c:=(w64 (f+e))
 cond (decide (b<c)) (
 let d:=(w64 (a+7))
 some (.inl (i,g,f,d))) (
 some (.inr a))
def jh6 [LP] (d c a b):=LP.lp (fun h=>j6w h.1 h.2.1 h.2.2.1 h.2.2.2) (d,c,a,b)
theorem jj9 (d c a b):jh6 d c a b=lpK (j6w d c a b) (fun h=>jh6 h.1 h.2.1 h.2.2.1 h.2.2.2):=j05 _ _
def joV [LP] (f c b a:Int):Option (Int×Int):=
 (joU (f,(c,1))).bind fun e=>
 let g:Bool:=(cond (cond (e.2 != 0) true (decide (b<1))) true (decide (b>5)))
 let k:Bool:=(cond (cond g true (decide (a<0))) true (decide (a>6)))
 cond k (
 some (0,1)) (
 (jh5 f c b a e.1 e.1).bind fun d=>
 cond (decide (d.2.2.1<5)) (
 let i:=(w64 (d.2.2.1-1))
 let j:=(w64 (7*i))
 let l:=(w64 (d.2.2.2.2+j))
 some (l,0)) (
 (jh6 d.1 d.2.1 d.2.2.2.1 d.2.2.2.2).bind fun m=>
 some (m,0)))
def j2N (i:Tn42) (j k d g a:Int) (c:Tn2):Option ((Tn42×Int×Int×Int×Int×Int×Tn2) ⊕ ((Tn42×Int×Int×Int×Int×Int×Tn2))):=
 cond (decide (d>0)) (
 let b:=(w64 (d-1))
 cond (inR b (List.length c)) (
 let e:=(List.getD c (Int.toNat b) (0,0)).1
 cond (decide (e>g)) (
 let f:=(w64 (d-1))
 some (.inl (i,j,k,f,g,a,c))) (
 some (.inr (i,j,k,d,g,a,c)))) none) (
 some (.inr (i,j,k,d,g,a,c)))
def j4x [LP] (c d f e g a b):=LP.lp (fun h=>j2N h.1 h.2.1 h.2.2.1 h.2.2.2.1 h.2.2.2.2.1 h.2.2.2.2.2.1 h.2.2.2.2.2.2) (c,d,f,e,g,a,b)
theorem jaa (c d f e g a b):j4x c d f e g a b=lpK (j2N c d f e g a b) (fun h=>j4x h.1 h.2.1 h.2.2.1 h.2.2.2.1 h.2.2.2.2.1 h.2.2.2.2.2.1 h.2.2.2.2.2.2):=j05 _ _
def j2O [LP] (c:Tn42) (d v:Int) (t:Tn2):Option ((Tn42×Int×Int×Tn2) ⊕ ((Tn42×Int×Tn2))):=
 cond (inR d (List.length c)) (
 let p:=(List.getD c (Int.toNat d) (0,(0,(0,(0,(0,(0,0)))))))
 cond (decide (v≤p.2.1)) (
 cond (inR d (List.length c)) (
 let q:=(List.getD c (Int.toNat d) (0,(0,(0,(0,(0,(0,0)))))))
 cond (inR d (List.length c)) (
 let i:=(List.getD c (Int.toNat d) (0,(0,(0,(0,(0,(0,0)))))))
 cond (inR d (List.length c)) (
 let n:=(List.getD c (Int.toNat d) (0,(0,(0,(0,(0,(0,0)))))))
 (joV v q.2.2.1 i.2.2.2.1 n.2.2.2.2.1).bind fun r=>
 let m:=(w64 (r.1*86400))
 cond (inR d (List.length c)) (
 let s:=(List.getD c (Int.toNat d) (0,(0,(0,(0,(0,(0,0)))))))
 let l:=(w64 (m+s.2.2.2.2.2.1))
 cond (inR d (List.length c)) (
 let o:=(List.getD c (Int.toNat d) (0,(0,(0,(0,(0,(0,0)))))))
 let j:=(Int.ofNat (List.length t))
 (j4x c d v j l o.2.2.2.2.2.2 t).bind fun a=>
 let g:Tn2:=[(a.2.2.2.2.1,a.2.2.2.2.2.1)]
 cond (decide (List.length a.2.2.2.2.2.2+List.length g≤j0c)) (
 let b:Tn2:=(a.2.2.2.2.2.2++g)
 let e:=(w64 (a.2.2.2.1+1))
 cond (decide (0≤e)&&decide (e≤(Int.ofNat (List.length b)))) (
 cond (decide (0≤a.2.2.2.1)&&decide (a.2.2.2.1≤(Int.ofNat (List.length b)))) (
 let f:Tn2:=(over b (Int.toNat e) (List.drop (Int.toNat a.2.2.2.1) b))
 let w:=(Int.ofNat (min (List.length (List.drop (Int.toNat a.2.2.2.1) b)) (List.length b-(Int.toNat e))))
 cond (inR a.2.2.2.1 (List.length f)) (
 let u:Tn2:=(List.set f (Int.toNat a.2.2.2.1) (a.2.2.2.2.1,a.2.2.2.2.2.1))
 let k:=(w64 (a.2.2.1+1))
 some (.inl (a.1,a.2.1,k,u))) none) none) none) none) none) none) none) none) none) (
 some (.inr (c,d,t)))) none
def j6g [LP] (b c d a):=LP.lp (fun h=>j2O h.1 h.2.1 h.2.2.1 h.2.2.2) (b,c,d,a)
theorem jab (b c d a):j6g b c d a=lpK (j2O b c d a) (fun h=>j6g h.1 h.2.1 h.2.2.1 h.2.2.2):=j05 _ _
def j2P [LP] (b:Tn42) (e:Int) (g:Tn2):Option ((Tn42×Int×Tn2) ⊕ (Tn2)):=
 let c:=(Int.ofNat (List.length b))
 cond (decide (e<c)) (
 cond (inR e (List.length b)) (
 let f:=(List.getD b (Int.toNat e) (0,(0,(0,(0,(0,(0,0)))))))
 (j6g b e f.1 g).bind fun a=>
 let d:=(w64 (a.2.1+1))
 some (.inl (a.1,d,a.2.2))) none) (
 some (.inr g))
def j4y [LP] (b c a):=LP.lp (fun h=>j2P h.1 h.2.1 h.2.2) (b,c,a)
theorem jac (b c a):j4y b c a=lpK (j2P b c a) (fun h=>j4y h.1 h.2.1 h.2.2):=j05 _ _
def j8A [LP] (a:Tn42):Option (Tn2):=
 (j4y a 0 ([]:Tn2)).bind fun b=>
 some b
def j2Q (o c:Int) (n:ByteArray) (d:Int) (a:Tn42):Option ((Int×Int×ByteArray×Int×Tn42) ⊕ (Int ⊕ (Int×ByteArray×Int×Tn42))):=
 let j:=(Int.ofNat (List.length a))
 cond (decide (c<j)) (
 cond (inR c (List.length a)) (
 let b:=(List.getD a (Int.toNat c) (0,(0,(0,(0,(0,(0,0)))))))
 (jg9 (b.1,(b.2.1,(b.2.2.1,(b.2.2.2.1,(b.2.2.2.2.1,(b.2.2.2.2.2.1,b.2.2.2.2.2.2))))))).bind fun m=>
 cond (!m) (
 some (.inr (.inl 1))) (
 cond (inR c (List.length a)) (
 let k:=(List.getD a (Int.toNat c) (0,(0,(0,(0,(0,(0,0)))))))
 cond (inR c (List.length a)) (
 let g:=(List.getD a (Int.toNat c) (0,(0,(0,(0,(0,(0,0)))))))
 let e:=(w64 (k.2.1-g.1))
 let l:=(w64 (e+1))
 let f:=(w64 (o+l))
 let i:=(w64 (c+1))
 some (.inl (f,i,n,d,a))) none) none)) none) (
 some (.inr (.inr (o,n,d,a))))
def j4z [LP] (d e c a b):=LP.lp (fun h=>j2Q h.1 h.2.1 h.2.2.1 h.2.2.2.1 h.2.2.2.2) (d,e,c,a,b)
theorem jad (d e c a b):j4z d e c a b=lpK (j2Q d e c a b) (fun h=>j4z h.1 h.2.1 h.2.2.1 h.2.2.2.1 h.2.2.2.2):=j05 _ _
def j2R (w c:Int) (e d:Tn2):Option ((Int×Int×Tn2×Tn2) ⊕ (Int ⊕ Tn2)):=
 let v:=(Int.ofNat (List.length d))
 cond (decide (c<v)) (
 cond (inR c (List.length d)) (
 let q:=(List.getD d (Int.toNat c) (0,0)).2
 cond (q==w) (
 let r:=(w64 (c+1))
 some (.inl (w,r,e,d))) (
 cond (inR c (List.length d)) (
 let p:=(List.getD d (Int.toNat c) (0,0)).1
 let b:=(w64 (p-w))
 cond (inR c (List.length d)) (
 let a:=(List.getD d (Int.toNat c) (0,0)).2
 let x:=(w64 (a-w))
 (j9h x (-86399) 86399).bind fun t=>
 cond (!t) (
 some (.inr (.inl 6))) (
 (j9h b 0 8589934592).bind fun u=>
 cond (!u) (
 some (.inr (.inl 6))) (
 let o:=(Int.ofNat (List.length e))
 cond (decide (o>0)) (
 let m:=(Int.ofNat (List.length e))
 let i:=(w64 (m-1))
 cond (inR i (List.length e)) (
 let n:=(List.getD e (Int.toNat i) (0,0)).1
 let k:=(w64 (b-n))
 cond (decide (k<604800)) (
 some (.inr (.inl 6))) (
 let f:Tn2:=[(b,a)]
 cond (decide (List.length e+List.length f≤j0c)) (
 let j:Tn2:=(e++f)
 let s:=(w64 (c+1))
 some (.inl (a,s,j,d))) none)) none) (
 let g:Tn2:=[(b,a)]
 cond (decide (List.length e+List.length g≤j0c)) (
 let l:Tn2:=(e++g)
 let y:=(w64 (c+1))
 some (.inl (a,y,l,d))) none)))) none) none)) none) (
 some (.inr (.inr e)))
def j4A [LP] (d b a c):=LP.lp (fun h=>j2R h.1 h.2.1 h.2.2.1 h.2.2.2) (d,b,a,c)
theorem jae (d b a c):j4A d b a c=lpK (j2R d b a c) (fun h=>j4A h.1 h.2.1 h.2.2.1 h.2.2.2):=j05 _ _
def j1k [LP] (a:Tn52):Option (Tn2×Int):=
 (j9h a.2.1 (-64800) 64800).bind fun b=>
 cond (!b) (
 some (([]:Tn2),1)) (
 let f:=(Int.ofNat (List.length a.2.2))
 cond (decide (f>16)) (
 some (([]:Tn2),5)) (
 (j4z 0 0 a.1 a.2.1 a.2.2).bind fun g=>
 sumC g (fun k=>
 some (([]:Tn2),k)) (fun j=>
 cond (decide (j.1>640)) (
 some (([]:Tn2),5)) (
 (j8A j.2.2.2).bind fun d=>
 (j4A j.2.2.1 0 ([]:Tn2) d).bind fun i=>
 sumC i (fun c=>
 some (([]:Tn2),c)) (fun e=>
 some (e,0))))))
def j6x [LP] (a:Tn52):Option (Int):=
 (j1k (a.1,(a.2.1,a.2.2))).bind fun b=>
 some b.2
def j47 (i:Bool) (d:Int) (j:ByteArray) (g:Int) (a:Tn42):Option ((Bool×Int×ByteArray×Int×Tn42) ⊕ (Bool)):=
 let f:=(Int.ofNat (List.length a))
 cond (decide (d<f)) (
 cond ((inR d (List.length a)) || !i) (
 let c:=(List.getD a (Int.toNat d) (0,(0,(0,(0,(0,(0,0)))))))
 let e:=(Int.tmod c.2.2.2.2.2.2 60)
 let b:=(w64 (d+1))
 some (.inl ((cond i (e==0) false),b,j,g,a))) none) (
 some (.inr i))
def j7z [LP] (c e d a b):=LP.lp (fun h=>j47 h.1 h.2.1 h.2.2.1 h.2.2.2.1 h.2.2.2.2) (c,e,d,a,b)
theorem je3 (c e d a b):j7z c e d a b=lpK (j47 c e d a b) (fun h=>j7z h.1 h.2.1 h.2.2.1 h.2.2.2.1 h.2.2.2.2):=j05 _ _
def jbY [LP] (a:Tn52):Option (Bool):=
 let b:=(Int.tmod a.2.1 60)
 (j7z (b==0) 0 a.1 a.2.1 a.2.2).bind fun c=>
 some c
def j5b [LP] (c:Int) (d:Tn54) (l:Tn48) (n:Tn26) (m:Tn65) (p:(List ByteArray)):Option ((Int×Tn54×Tn48×Tn26×Tn65×(List ByteArray)) ⊕ (Int ⊕ Unit)):=
 let o:=(Int.ofNat (List.length d))
 cond (decide (c<o)) (
 cond (inR c (List.length d)) (
 let e:=(List.getD d (Int.toNat c) (ByteArray.empty,(0,([]:Tn42))))
 cond (decide (List.length p+List.length [e.1]≤j0c)) (
 let i:(List ByteArray):=(p++[e.1])
 (jbc i c).bind fun f=>
 cond (f != 0) (
 some (.inr (.inl f))) (
 cond (inR c (List.length d)) (
 let a:=(List.getD d (Int.toNat c) (ByteArray.empty,(0,([]:Tn42))))
 (j6x (a.1,(a.2.1,a.2.2))).bind fun g=>
 cond ((inR c (List.length d)) || !(!(g != 0))) (
 let b:=(List.getD d (Int.toNat c) (ByteArray.empty,(0,([]:Tn42))))
 cond (g != 0) (
 some (.inr (.inl 8))) (
 (jbY (b.1,(b.2.1,b.2.2))).bind fun k=>
 cond (!k) (
 some (.inr (.inl 8))) (
 let j:=(w64 (c+1))
 some (.inl (j,d,l,n,m,i))))) none) none)) none) none) (
 some (.inr (.inr ())))
def jaf [LP] (f e a c b d):=LP.lp (fun h=>j5b h.1 h.2.1 h.2.2.1 h.2.2.2.1 h.2.2.2.2.1 h.2.2.2.2.2) (f,e,a,c,b,d)
theorem jga (f e a c b d):jaf f e a c b d=lpK (j5b f e a c b d) (fun h=>jaf h.1 h.2.1 h.2.2.1 h.2.2.2.1 h.2.2.2.2.1 h.2.2.2.2.2):=j05 _ _
def jml [LP] (a:Tn71):Option (Int):=
 (jaf 0 a.1 a.2.1 a.2.2.1 a.2.2.2 ([]:(List ByteArray))).bind fun b=>
 sumC b (fun c=>
 some c) (fun d=>
 some 0)
def j7A (a c b:Int):Option (Bool):=
 some (cond (decide (a≥c)) (decide (a≤b)) false)
def j5c (b:Tn2) (a:Int):Option ((Tn2×Int) ⊕ (Int ⊕ Unit)):=
 let m:=(Int.ofNat (List.length b))
 cond (decide (a<m)) (
 cond (inR a (List.length b)) (
 let e:=(List.getD b (Int.toNat a) (0,0))
 cond (decide (e.1<0)) (
 some (.inr (.inl 1))) (
 cond (inR a (List.length b)) (
 let j:=(List.getD b (Int.toNat a) (0,0))
 cond (inR a (List.length b)) (
 let f:=(List.getD b (Int.toNat a) (0,0))
 cond (decide (j.1≥f.2)) (
 some (.inr (.inl 1))) (
 cond (inR a (List.length b)) (
 let l:=(List.getD b (Int.toNat a) (0,0))
 cond (decide (l.2>604800)) (
 some (.inr (.inl 1))) (
 cond (decide (a>0)) (
 cond (inR a (List.length b)) (
 let i:=(List.getD b (Int.toNat a) (0,0))
 let c:=(w64 (a-1))
 cond (inR c (List.length b)) (
 let g:=(List.getD b (Int.toNat c) (0,0))
 cond (decide (i.1<g.2)) (
 some (.inr (.inl 6))) (
 let k:=(w64 (a+1))
 some (.inl (b,k)))) none) none) (
 let d:=(w64 (a+1))
 some (.inl (b,d))))) none)) none) none)) none) (
 some (.inr (.inr ())))
def jag [LP] (b a):=LP.lp (fun h=>j5c h.1 h.2) (b,a)
theorem jgb (b a):jag b a=lpK (j5c b a) (fun h=>jag h.1 h.2):=j05 _ _
def je4 [LP] (a:Tn2):Option (Int):=
 let c:=(Int.ofNat (List.length a))
 cond (decide (c>14)) (
 some 5) (
 (jag a 0).bind fun b=>
 sumC b (fun d=>
 some d) (fun e=>
 some 0))
def jja (a:Int):Option (Bool):=
 (j7A a 0 604800).bind fun b=>
 let c:=(Int.tmod a 3600)
 some (cond b (c==0) false)
def j4B [LP] (e:Int) (s:Tn54) (b:Tn48) (q:Tn26) (p:Tn65) (r:(List ByteArray)):Option ((Int×Tn54×Tn48×Tn26×Tn65×(List ByteArray)) ⊕ (Int ⊕ Unit)):=
 let n:=(Int.ofNat (List.length b))
 cond (decide (e<n)) (
 cond (inR e (List.length b)) (
 let a:=(List.getD b (Int.toNat e) (ByteArray.empty,(0,(([]:Tn2),(0,(0,false))))))
 cond (decide (List.length r+List.length [a.1]≤j0c)) (
 let c:(List ByteArray):=(r++[a.1])
 let j:Bool:=(ByteArray.toList a.1==ByteArray.toList (ByteArray.mk #[110,111,98,111,100,121]))
 cond j (
 some (.inr (.inl 2))) (
 (jbc c e).bind fun d=>
 cond (d != 0) (
 some (.inr (.inl d))) (
 let k:=(Int.ofNat (List.length s))
 let l:=(w64 (k-1))
 (j7A a.2.1 0 l).bind fun i=>
 cond (!i) (
 some (.inr (.inl 3))) (
 (je4 a.2.2.1).bind fun m=>
 cond (m != 0) (
 some (.inr (.inl 8))) (
 (jja a.2.2.2.1).bind fun g=>
 cond (!g) (
 some (.inr (.inl 1))) (
 (jja a.2.2.2.2.1).bind fun o=>
 cond (!o) (
 some (.inr (.inl 1))) (
 let f:=(w64 (e+1))
 some (.inl (f,s,b,q,p,c))))))))) none) none) (
 some (.inr (.inr ())))
def j8B [LP] (f e a c b d):=LP.lp (fun h=>j4B h.1 h.2.1 h.2.2.1 h.2.2.2.1 h.2.2.2.2.1 h.2.2.2.2.2) (f,e,a,c,b,d)
theorem jfm (f e a c b d):j8B f e a c b d=lpK (j4B f e a c b d) (fun h=>j8B h.1 h.2.1 h.2.2.1 h.2.2.2.1 h.2.2.2.2.1 h.2.2.2.2.2):=j05 _ _
def jkh [LP] (a:Tn71):Option (Int):=
 (j8B 0 a.1 a.2.1 a.2.2.1 a.2.2.2 ([]:(List ByteArray))).bind fun b=>
 sumC b (fun c=>
 some c) (fun d=>
 some 0)
def jbu  : Option (Int):=
 (jj6 2241).bind fun a=>
 let b:=(w64 (a-1))
 some b
def j3g (p g:Int) (o:Tn54) (b:Tn48) (d:Tn26) (c:Tn65) (n:ByteArray) (e:Int) (a:(List Int)) (m:(List ByteArray)):Option ((Int×Int×Tn54×Tn48×Tn26×Tn65×ByteArray×Int×(List Int)×(List ByteArray)) ⊕ (Int ⊕ (Int×Tn54×Tn48×Tn26×Tn65×ByteArray×Int×(List Int)×(List ByteArray)))):=
 let f:=(Int.ofNat (List.length a))
 cond (decide (g<f)) (
 cond (inR g (List.length a)) (
 let j:=(List.getD a (Int.toNat g) 0)
 (jbu).bind fun i=>
 (j7A j 0 i).bind fun l=>
 cond (!l) (
 some (.inr (.inl 1))) (
 let k:=(w64 (g+1))
 some (.inl (p,k,o,b,d,c,n,e,a,m)))) none) (
 some (.inr (.inr (p,o,b,d,c,n,e,a,m))))
def j5M [LP] (k g j a c b i d e f):=LP.lp (fun h=>j3g h.1 h.2.1 h.2.2.1 h.2.2.2.1 h.2.2.2.2.1 h.2.2.2.2.2.1 h.2.2.2.2.2.2.1 h.2.2.2.2.2.2.2.1 h.2.2.2.2.2.2.2.2.1 h.2.2.2.2.2.2.2.2.2) (k,g,j,a,c,b,i,d,e,f)
theorem jbZ (k g j a c b i d e f):j5M k g j a c b i d e f=lpK (j3g k g j a c b i d e f) (fun h=>j5M h.1 h.2.1 h.2.2.1 h.2.2.2.1 h.2.2.2.2.1 h.2.2.2.2.2.1 h.2.2.2.2.2.2.1 h.2.2.2.2.2.2.2.1 h.2.2.2.2.2.2.2.2.1 h.2.2.2.2.2.2.2.2.2):=j05 _ _
def j4C (o f:Int) (n:Tn54) (c:Tn48) (e:Tn26) (d:Tn65) (p:ByteArray) (l:Int) (a:(List Int)) (m:(List ByteArray)):Option ((Int×Int×Tn54×Tn48×Tn26×Tn65×ByteArray×Int×(List Int)×(List ByteArray)) ⊕ (Int ⊕ (Int×Tn54×Tn48×Tn26×Tn65×(List ByteArray)))):=
 let k:=(Int.ofNat (List.length a))
 cond (decide (f<k)) (
 cond (inR f (List.length a)) (
 let i:=(List.getD a (Int.toNat f) 0)
 let b:=(w64 (f-1))
 cond (inR b (List.length a)) (
 let g:=(List.getD a (Int.toNat b) 0)
 cond (decide (i≤g)) (
 some (.inr (.inl 6))) (
 let j:=(w64 (f+1))
 some (.inl (o,j,n,c,e,d,p,l,a,m)))) none) none) (
 some (.inr (.inr (o,n,c,e,d,m))))
def j5N [LP] (j k i a c b g d e f):=LP.lp (fun h=>j4C h.1 h.2.1 h.2.2.1 h.2.2.2.1 h.2.2.2.2.1 h.2.2.2.2.2.1 h.2.2.2.2.2.2.1 h.2.2.2.2.2.2.2.1 h.2.2.2.2.2.2.2.2.1 h.2.2.2.2.2.2.2.2.2) (j,k,i,a,c,b,g,d,e,f)
theorem jhX (j k i a c b g d e f):j5N j k i a c b g d e f=lpK (j4C j k i a c b g d e f) (fun h=>j5N h.1 h.2.1 h.2.2.1 h.2.2.2.1 h.2.2.2.2.1 h.2.2.2.2.2.1 h.2.2.2.2.2.2.1 h.2.2.2.2.2.2.2.1 h.2.2.2.2.2.2.2.2.1 h.2.2.2.2.2.2.2.2.2):=j05 _ _
def j3h [LP] (g:Int) (t:Tn54) (p:Tn48) (d:Tn26) (o:Tn65) (s:(List ByteArray)):Option ((Int×Tn54×Tn48×Tn26×Tn65×(List ByteArray)) ⊕ (Int ⊕ Unit)):=
 let i:=(Int.ofNat (List.length d))
 cond (decide (g<i)) (
 cond (inR g (List.length d)) (
 let a:=(List.getD d (Int.toNat g) (ByteArray.empty,(0,([]:(List Int)))))
 cond (decide (List.length s+List.length [a.1]≤j0c)) (
 let f:(List ByteArray):=(s++[a.1])
 (jbc f g).bind fun e=>
 cond (e != 0) (
 some (.inr (.inl e))) (
 let l:=(Int.ofNat (List.length t))
 let j:=(w64 (l-1))
 (j7A a.2.1 0 j).bind fun k=>
 cond (!k) (
 some (.inr (.inl 3))) (
 let n:=(Int.ofNat (List.length a.2.2))
 cond (decide (n>64)) (
 some (.inr (.inl 5))) (
 (j5M g 0 t p d o a.1 a.2.1 a.2.2 f).bind fun q=>
 sumC q (fun v=>
 some (.inr (.inl v))) (fun b=>
 (j5N b.1 1 b.2.1 b.2.2.1 b.2.2.2.1 b.2.2.2.2.1 b.2.2.2.2.2.1 b.2.2.2.2.2.2.1 b.2.2.2.2.2.2.2.1 b.2.2.2.2.2.2.2.2).bind fun r=>
 sumC r (fun u=>
 some (.inr (.inl u))) (fun c=>
 let m:=(w64 (c.1+1))
 some (.inl (m,c.2.1,c.2.2.1,c.2.2.2.1,c.2.2.2.2.1,c.2.2.2.2.2)))))))) none) none) (
 some (.inr (.inr ())))
def j5O [LP] (f e a c b d):=LP.lp (fun h=>j3h h.1 h.2.1 h.2.2.1 h.2.2.2.1 h.2.2.2.2.1 h.2.2.2.2.2) (f,e,a,c,b,d)
theorem jc0 (f e a c b d):j5O f e a c b d=lpK (j3h f e a c b d) (fun h=>j5O h.1 h.2.1 h.2.2.1 h.2.2.2.1 h.2.2.2.2.1 h.2.2.2.2.2):=j05 _ _
def jeD [LP] (a:Tn71):Option (Int):=
 (j5O 0 a.1 a.2.1 a.2.2.1 a.2.2.2 ([]:(List ByteArray))).bind fun b=>
 sumC b (fun c=>
 some c) (fun d=>
 some 0)
def j5d (s:Int) (u:Tn54) (b:Tn48) (j:Tn26) (m:Tn65) (v:ByteArray) (e f c i k:Int) (a:(List Int)) (d:Tn2) (l g:Int):Option ((Int×Tn54×Tn48×Tn26×Tn65×ByteArray×Int×Int×Int×Int×Int×(List Int)×Tn2×Int×Int) ⊕ (Int ⊕ (Tn54×Tn48×Tn26×Tn65×ByteArray×Int×Int×Int×Int×Int×(List Int)×Tn2×Int×Int))):=
 let o:=(Int.ofNat (List.length a))
 cond (decide (s<o)) (
 cond (inR s (List.length a)) (
 let q:=(List.getD a (Int.toNat s) 0)
 let r:=(Int.ofNat (List.length b))
 let t:=(w64 (r-1))
 (j7A q 0 t).bind fun p=>
 cond (!p) (
 some (.inr (.inl 3))) (
 let n:=(w64 (s+1))
 some (.inl (n,u,b,j,m,v,e,f,c,i,k,a,d,l,g)))) none) (
 some (.inr (.inr (u,b,j,m,v,e,f,c,i,k,a,d,l,g))))
def jah [LP] (p o j m f n d g a e i k b c l):=LP.lp (fun h=>j5d h.1 h.2.1 h.2.2.1 h.2.2.2.1 h.2.2.2.2.1 h.2.2.2.2.2.1 h.2.2.2.2.2.2.1 h.2.2.2.2.2.2.2.1 h.2.2.2.2.2.2.2.2.1 h.2.2.2.2.2.2.2.2.2.1 h.2.2.2.2.2.2.2.2.2.2.1 h.2.2.2.2.2.2.2.2.2.2.2.1 h.2.2.2.2.2.2.2.2.2.2.2.2.1 h.2.2.2.2.2.2.2.2.2.2.2.2.2.1 h.2.2.2.2.2.2.2.2.2.2.2.2.2.2) (p,o,j,m,f,n,d,g,a,e,i,k,b,c,l)
theorem jgc (p o j m f n d g a e i k b c l):jah p o j m f n d g a e i k b c l=lpK (j5d p o j m f n d g a e i k b c l) (fun h=>jah h.1 h.2.1 h.2.2.1 h.2.2.2.1 h.2.2.2.2.1 h.2.2.2.2.2.1 h.2.2.2.2.2.2.1 h.2.2.2.2.2.2.2.1 h.2.2.2.2.2.2.2.2.1 h.2.2.2.2.2.2.2.2.2.1 h.2.2.2.2.2.2.2.2.2.2.1 h.2.2.2.2.2.2.2.2.2.2.2.1 h.2.2.2.2.2.2.2.2.2.2.2.2.1 h.2.2.2.2.2.2.2.2.2.2.2.2.2.1 h.2.2.2.2.2.2.2.2.2.2.2.2.2.2):=j05 _ _
def jgd [LP] (b:Tn71) (a:Tn59):Option (Int):=
 let j:=(Int.ofNat (List.length b.1))
 let f:=(w64 (j-1))
 (j7A a.2.1 0 f).bind fun k=>
 cond (!k) (
 some 3) (
 (jbu).bind fun s=>
 (j7A a.2.2.1.1 1 s).bind fun o=>
 cond (!o) (
 some 1) (
 (j7A a.2.2.1.2 0 86399).bind fun p=>
 cond (!p) (
 some 1) (
 (j7A a.2.2.2.1 0 2).bind fun m=>
 cond (!m) (
 some 1) (
 (j7A a.2.2.2.2.1 1 400).bind fun l=>
 cond (!l) (
 some 1) (
 let i:=(Int.ofNat (List.length a.2.2.2.2.2.1))
 cond (i==0) (
 some 7) (
 let n:=(Int.ofNat (List.length a.2.2.2.2.2.1))
 cond (decide (n>12)) (
 some 5) (
 (jah 0 b.1 b.2.1 b.2.2.1 b.2.2.2 a.1 a.2.1 a.2.2.1.1 a.2.2.1.2 a.2.2.2.1 a.2.2.2.2.1 a.2.2.2.2.2.1 a.2.2.2.2.2.2.1 a.2.2.2.2.2.2.2.1 a.2.2.2.2.2.2.2.2).bind fun v=>
 sumC v (fun w=>
 some w) (fun d=>
 (je4 d.2.2.2.2.2.2.2.2.2.2.2.1).bind fun g=>
 cond (g != 0) (
 some 8) (
 (j7A d.2.2.2.2.2.2.2.2.2.2.2.2.2 0 2).bind fun u=>
 cond (!u) (
 some 1) (
 let r:=(Int.ofNat (List.length d.2.2.1))
 let q:=(w64 (r-1))
 cond (d.2.2.2.2.2.2.2.2.2.2.2.2.2 != 0) (
 (j7A d.2.2.2.2.2.2.2.2.2.2.2.2.1 0 q).bind fun t=>
 cond (!t) (
 some 3) (
 let e:Bool:=(cond (d.2.2.2.2.2.2.2.2.2.2.2.2.2==0) (d.2.2.2.2.2.2.2.2.2.2.2.2.1 != 0) false)
 cond e (
 some 1) (
 some 0))) (
 let c:Bool:=(cond (d.2.2.2.2.2.2.2.2.2.2.2.2.2==0) (d.2.2.2.2.2.2.2.2.2.2.2.2.1 != 0) false)
 cond c (
 some 1) (
 some 0))))))))))))
def jjb (d:Tn71) (a:Tn24):Option (Int):=
 let l:=(Int.ofNat (List.length d.2.1))
 (j7A a.1 0 2).bind fun g=>
 cond (!g) (
 some 1) (
 let e:=(w64 (l-1))
 (j7A a.2.1 0 e).bind fun k=>
 let m:=(w64 (l-1))
 cond (cond (!k) (cond (a.1 != 1) true (a.2.1 != (-1))) false) (
 cond ((!(a.1==2)) || !(!true)) (
 some 3) none) (
 cond (a.1==2) (
 (j7A a.2.2.1 0 m).bind fun j=>
 cond (!j) (
 some 3) (
 cond (cond (a.1 != 2) (a.2.2.1 != 0) false) (
 some 1) (
 cond (cond (a.1==2) (a.2.1==a.2.2.1) false) (
 some 4) (
 cond (decide (a.2.2.2.1<0)) (
 some 1) (
 cond (decide (a.2.2.2.2<0)) (
 some 1) (
 let i:=(w64 (Int.tdiv a.2.2.2.2 86400))
 (jbu).bind fun f=>
 cond (decide (i>f)) (
 some 1) (
 cond (decide (a.2.2.2.1≥a.2.2.2.2)) (
 some 6) (
 some 0)))))))) (
 cond (cond (a.1 != 2) (a.2.2.1 != 0) false) (
 some 1) (
 cond (cond (a.1==2) (a.2.1==a.2.2.1) false) (
 some 4) (
 cond (decide (a.2.2.2.1<0)) (
 some 1) (
 cond (decide (a.2.2.2.2<0)) (
 some 1) (
 let c:=(w64 (Int.tdiv a.2.2.2.2 86400))
 (jbu).bind fun b=>
 cond (decide (c>b)) (
 some 1) (
 cond (decide (a.2.2.2.1≥a.2.2.2.2)) (
 some 6) (
 some 0)))))))))
def j3i [LP] (r f:Int) (o:Tn54) (c:Tn48) (e:Tn26) (d:Tn65) (q:ByteArray) (b:Tn60) (l:Tn29) (p s:(List ByteArray)):Option ((Int×Int×Tn54×Tn48×Tn26×Tn65×ByteArray×Tn60×Tn29×(List ByteArray)×(List ByteArray)) ⊕ (Int ⊕ (Int×Tn54×Tn48×Tn26×Tn65×ByteArray×Tn60×Tn29×(List ByteArray)))):=
 let m:=(Int.ofNat (List.length b))
 cond (decide (f<m)) (
 cond (inR f (List.length b)) (
 let i:=(List.getD b (Int.toNat f) (ByteArray.empty,(0,((0,0),(0,(0,(([]:(List Int)),(([]:Tn2),(0,0)))))))))
 cond (decide (List.length s+List.length [i.1]≤j0c)) (
 let g:(List ByteArray):=(s++[i.1])
 (jbc g f).bind fun k=>
 cond (k != 0) (
 some (.inr (.inl k))) (
 cond (inR f (List.length b)) (
 let a:=(List.getD b (Int.toNat f) (ByteArray.empty,(0,((0,0),(0,(0,(([]:(List Int)),(([]:Tn2),(0,0)))))))))
 (jgd (o,(c,(e,d))) (a.1,(a.2.1,((a.2.2.1.1,a.2.2.1.2),(a.2.2.2.1,(a.2.2.2.2.1,(a.2.2.2.2.2.1,(a.2.2.2.2.2.2.1,(a.2.2.2.2.2.2.2.1,a.2.2.2.2.2.2.2.2))))))))).bind fun j=>
 cond (j != 0) (
 some (.inr (.inl j))) (
 let n:=(w64 (f+1))
 some (.inl (r,n,o,c,e,d,q,b,l,p,g)))) none)) none) none) (
 some (.inr (.inr (r,o,c,e,d,q,b,l,p))))
def j5P [LP] (j l i a c b g d e f k):=LP.lp (fun h=>j3i h.1 h.2.1 h.2.2.1 h.2.2.2.1 h.2.2.2.2.1 h.2.2.2.2.2.1 h.2.2.2.2.2.2.1 h.2.2.2.2.2.2.2.1 h.2.2.2.2.2.2.2.2.1 h.2.2.2.2.2.2.2.2.2.1 h.2.2.2.2.2.2.2.2.2.2) (j,l,i,a,c,b,g,d,e,f,k)
theorem jc1 (j l i a c b g d e f k):j5P j l i a c b g d e f k=lpK (j3i j l i a c b g d e f k) (fun h=>j5P h.1 h.2.1 h.2.2.1 h.2.2.2.1 h.2.2.2.2.1 h.2.2.2.2.2.1 h.2.2.2.2.2.2.1 h.2.2.2.2.2.2.2.1 h.2.2.2.2.2.2.2.2.1 h.2.2.2.2.2.2.2.2.2.1 h.2.2.2.2.2.2.2.2.2.2):=j05 _ _
def j3j (n f:Int) (l:Tn54) (c:Tn48) (e:Tn26) (d:Tn65) (o:ByteArray) (k:Tn60) (b:Tn29) (m:(List ByteArray)):Option ((Int×Int×Tn54×Tn48×Tn26×Tn65×ByteArray×Tn60×Tn29×(List ByteArray)) ⊕ (Int ⊕ (Int×Tn54×Tn48×Tn26×Tn65×(List ByteArray)))):=
 let i:=(Int.ofNat (List.length b))
 cond (decide (f<i)) (
 cond (inR f (List.length b)) (
 let a:=(List.getD b (Int.toNat f) (0,(0,(0,(0,0)))))
 (jjb (l,(c,(e,d))) (a.1,(a.2.1,(a.2.2.1,(a.2.2.2.1,a.2.2.2.2))))).bind fun g=>
 cond (g != 0) (
 some (.inr (.inl g))) (
 let j:=(w64 (f+1))
 some (.inl (n,j,l,c,e,d,o,k,b,m)))) none) (
 some (.inr (.inr (n,l,c,e,d,m))))
def j5Q [LP] (k f j a c b i d e g):=LP.lp (fun h=>j3j h.1 h.2.1 h.2.2.1 h.2.2.2.1 h.2.2.2.2.1 h.2.2.2.2.2.1 h.2.2.2.2.2.2.1 h.2.2.2.2.2.2.2.1 h.2.2.2.2.2.2.2.2.1 h.2.2.2.2.2.2.2.2.2) (k,f,j,a,c,b,i,d,e,g)
theorem jc2 (k f j a c b i d e g):j5Q k f j a c b i d e g=lpK (j3j k f j a c b i d e g) (fun h=>j5Q h.1 h.2.1 h.2.2.1 h.2.2.2.1 h.2.2.2.2.1 h.2.2.2.2.2.1 h.2.2.2.2.2.2.1 h.2.2.2.2.2.2.2.1 h.2.2.2.2.2.2.2.2.1 h.2.2.2.2.2.2.2.2.2):=j05 _ _
def j3k [LP] (g:Int) (t:Tn54) (m:Tn48) (n:Tn26) (d:Tn65) (q:(List ByteArray)):Option ((Int×Tn54×Tn48×Tn26×Tn65×(List ByteArray)) ⊕ (Int ⊕ Unit)):=
 let i:=(Int.ofNat (List.length d))
 cond (decide (g<i)) (
 cond (inR g (List.length d)) (
 let a:=(List.getD d (Int.toNat g) (ByteArray.empty,(([]:Tn60),([]:Tn29))))
 cond (decide (List.length q+List.length [a.1]≤j0c)) (
 let e:(List ByteArray):=(q++[a.1])
 (jbc e g).bind fun f=>
 cond (f != 0) (
 some (.inr (.inl f))) (
 let j:=(Int.ofNat (List.length a.2.1))
 let k:=(Int.ofNat (List.length a.2.2))
 cond (cond (decide (j>6)) true (decide (k>48))) (
 some (.inr (.inl 5))) (
 (j5P g 0 t m n d a.1 a.2.1 a.2.2 e ([]:(List ByteArray))).bind fun o=>
 sumC o (fun s=>
 some (.inr (.inl s))) (fun b=>
 (j5Q b.1 0 b.2.1 b.2.2.1 b.2.2.2.1 b.2.2.2.2.1 b.2.2.2.2.2.1 b.2.2.2.2.2.2.1 b.2.2.2.2.2.2.2.1 b.2.2.2.2.2.2.2.2).bind fun p=>
 sumC p (fun r=>
 some (.inr (.inl r))) (fun c=>
 let l:=(w64 (c.1+1))
 some (.inl (l,c.2.1,c.2.2.1,c.2.2.2.1,c.2.2.2.2.1,c.2.2.2.2.2))))))) none) none) (
 some (.inr (.inr ())))
def j5R [LP] (f e a c b d):=LP.lp (fun h=>j3k h.1 h.2.1 h.2.2.1 h.2.2.2.1 h.2.2.2.2.1 h.2.2.2.2.2) (f,e,a,c,b,d)
theorem jc3 (f e a c b d):j5R f e a c b d=lpK (j3k f e a c b d) (fun h=>j5R h.1 h.2.1 h.2.2.1 h.2.2.2.1 h.2.2.2.2.1 h.2.2.2.2.2):=j05 _ _
def jeE [LP] (a:Tn71):Option (Int):=
 (j5R 0 a.1 a.2.1 a.2.2.1 a.2.2.2 ([]:(List ByteArray))).bind fun b=>
 sumC b (fun c=>
 some c) (fun d=>
 some 0)
def jjc [LP] (a:Tn71):Option (Int):=
 let k:=(Int.ofNat (List.length a.1))
 let f:=(Int.ofNat (List.length a.2.1))
 let g:=(Int.ofNat (List.length a.2.2.1))
 let e:Bool:=(cond (cond (decide (k>16)) true (decide (f>32))) true (decide (g>8)))
 let j:=(Int.ofNat (List.length a.2.2.2))
 cond (cond e true (decide (j>12))) (
 some 5) (
 (jml (a.1,(a.2.1,(a.2.2.1,a.2.2.2)))).bind fun c=>
 cond (c != 0) (
 some c) (
 (jkh (a.1,(a.2.1,(a.2.2.1,a.2.2.2)))).bind fun b=>
 cond (b != 0) (
 some b) (
 (jeD (a.1,(a.2.1,(a.2.2.1,a.2.2.2)))).bind fun d=>
 cond (d != 0) (
 some d) (
 (jeE (a.1,(a.2.1,(a.2.2.1,a.2.2.2)))).bind fun i=>
 some i))))
def jw3 [LP] (b:Tn71) (a c:Int):Option (Bool):=
 let e:=(Int.ofNat (List.length b.2.2.2))
 let f:Bool:=(cond (cond (decide (a≥0)) (decide (a<e)) false) (decide (c≥0)) false)
 cond (cond f (decide (c≤8589934592)) false) (
 (jjc (b.1,(b.2.1,(b.2.2.1,b.2.2.2)))).bind fun d=>
 some (d==0)) (
 some false)
def jge [LP] (b:Tn52) (a:Tn59):Option (Int):=
 (j6x (b.1,(b.2.1,b.2.2))).bind fun i=>
 let d:Bool:=(cond (cond (i != 0) true (decide (a.2.2.1.1<1))) true (decide (a.2.2.1.1>100000)))
 let g:Bool:=(cond (cond d true (decide (a.2.2.1.2<0))) true (decide (a.2.2.1.2≥86400)))
 let e:Bool:=(cond (cond g true (decide (a.2.2.2.1<0))) true (decide (a.2.2.2.1>2)))
 let f:Bool:=(cond (cond e true (decide (a.2.2.2.2.1<1))) true (decide (a.2.2.2.2.1>400)))
 let c:=(Int.ofNat (List.length a.2.2.2.2.2.1))
 cond (cond f true (c==0)) (
 some 8) (
 some 0)
def jgf (a:Int):Option (Bool):=
 (j9h a (-2) 99422).bind fun b=>
 some b
def j3Z (c:Int) (z:ByteArray) (d:Int) (f:Tn42) (g a:Int) (b:Tn2):Option ((Int×ByteArray×Int×Tn42×Int×Int×Tn2) ⊕ ((Int×Int) ⊕ Unit)):=
 let a0:=(Int.ofNat (List.length b))
 cond (decide (c<a0)) (
 cond (decide (c≥0)) (
 cond (inR c (List.length b)) (
 let o:=(List.getD b (Int.toNat c) (0,0)).2
 cond (inR c (List.length b)) (
 let e:=(List.getD b (Int.toNat c) (0,0)).1
 let b1:=(w64 (c+1))
 let b2:=(Int.ofNat (List.length b))
 cond (decide (b1<b2)) (
 let q:=(w64 (c+1))
 cond (inR q (List.length b)) (
 let a4:=(List.getD b (Int.toNat q) (0,0)).1
 let a6:=(w64 (g*86400))
 let b0:=(w64 (a6+a))
 let m:=(w64 (b0-o))
 let k:Int:=(if m>e then m else e:Int)
 cond (decide (k<a4)) (
 some (.inr (.inl (k,0)))) (
 let a1:=(w64 (c+1))
 some (.inl (a1,z,d,f,g,a,b)))) none) (
 let a5:=(w64 (g*86400))
 let y:=(w64 (a5+a))
 let i:=(w64 (y-o))
 let l:Int:=(if i>e then i else e:Int)
 cond (decide (l<8589934593)) (
 some (.inr (.inl (l,0)))) (
 let a7:=(w64 (c+1))
 some (.inl (a7,z,d,f,g,a,b))))) none) none) (
 let v:=(w64 (c+1))
 let x:=(Int.ofNat (List.length b))
 cond (decide (v<x)) (
 let j:=(w64 (c+1))
 cond (inR j (List.length b)) (
 let a3:=(List.getD b (Int.toNat j) (0,0)).1
 let a2:=(w64 (g*86400))
 let w:=(w64 (a2+a))
 let n:=(w64 (w-d))
 let s:Int:=(if n>0 then n else 0:Int)
 cond (decide (s<a3)) (
 some (.inr (.inl (s,0)))) (
 let a8:=(w64 (c+1))
 some (.inl (a8,z,d,f,g,a,b)))) none) (
 let t:=(w64 (g*86400))
 let u:=(w64 (t+a))
 let r:=(w64 (u-d))
 let p:Int:=(if r>0 then r else 0:Int)
 cond (decide (p<8589934593)) (
 some (.inr (.inl (p,0)))) (
 let a9:=(w64 (c+1))
 some (.inl (a9,z,d,f,g,a,b)))))) (
 some (.inr (.inr ())))
def j4D [LP] (g f b c e a d):=LP.lp (fun h=>j3Z h.1 h.2.1 h.2.2.1 h.2.2.2.1 h.2.2.2.2.1 h.2.2.2.2.2.1 h.2.2.2.2.2.2) (g,f,b,c,e,a,d)
theorem jc4 (g f b c e a d):j4D g f b c e a d=lpK (j3Z g f b c e a d) (fun h=>j4D h.1 h.2.1 h.2.2.1 h.2.2.2.1 h.2.2.2.2.1 h.2.2.2.2.2.1 h.2.2.2.2.2.2):=j05 _ _
def j4E [LP] (a:Tn52) (b:(Int×Int)):Option (Int×Int):=
 (j1k (a.1,(a.2.1,a.2.2))).bind fun c=>
 cond (c.2 != 0) (
 some (0,8)) (
 (j9h b.2 0 86399).bind fun d=>
 cond (!d) (
 some (0,1)) (
 cond (decide (b.1<(-2))) (
 some (0,0)) (
 (jgf b.1).bind fun e=>
 cond (!e) (
 some (0,10)) (
 (j4D (-1) a.1 a.2.1 a.2.2 b.1 b.2 c.1).bind fun f=>
 sumC f (fun g=>
 some (g.1,g.2)) (fun i=>
 some (0,10))))))
def j4F (c:Tn2) (g i a:Int):Option ((Tn2×Int×Int×Int) ⊕ (Int)):=
 let b:=(Int.ofNat (List.length c))
 cond ((inR a (List.length c)) || !(decide (a<b))) (
 let e:=(List.getD c (Int.toNat a) (0,0))
 cond (cond (decide (a<b)) (decide (e.1≤g)) false) (
 cond (inR a (List.length c)) (
 let f:=(List.getD c (Int.toNat a) (0,0))
 let d:=(w64 (a+1))
 some (.inl (c,g,f.2,d))) none) (
 some (.inr i))) none
def j8C [LP] (a c b d):=LP.lp (fun h=>j4F h.1 h.2.1 h.2.2.1 h.2.2.2) (a,c,b,d)
theorem jfn (a c b d):j8C a c b d=lpK (j4F a c b d) (fun h=>j8C h.1 h.2.1 h.2.2.1 h.2.2.2):=j05 _ _
def jh7 [LP] (b:Tn52) (a:Tn2) (c:Int):Option (Int):=
 (j8C a c b.2.1 0).bind fun d=>
 some d
def jai [LP] (a:Tn52) (b:Int):Option (Int×Int):=
 (j1k (a.1,(a.2.1,a.2.2))).bind fun c=>
 cond (c.2 != 0) (
 some (0,8)) (
 (j9h b 0 8589934592).bind fun e=>
 cond (!e) (
 some (0,1)) (
 (jh7 (a.1,(a.2.1,a.2.2)) c.1 b).bind fun d=>
 some (d,0)))
def jjd (b a:Int):Option ((Int×Int)):=
 let g:=(w64 (b+a))
 let d:=(w64 (g+864000))
 let e:=(w64 (Int.tdiv d 86400))
 let c:=(w64 (e-10))
 let f:=(Int.tmod d 86400)
 some (c,f)
def j3y [LP] (a:Tn52) (c:Int):Option ((Int×Int)×Int):=
 (jai (a.1,(a.2.1,a.2.2)) c).bind fun b=>
 cond (b.2 != 0) (
 some ((0,0),b.2)) (
 (jjd c b.1).bind fun d=>
 some ((d.1,d.2),0))
def jaj [LP] (b:Tn52) (a:Tn59) (e:Int):Option (Int×Bool):=
 cond (a.2.2.2.1==0) (
 (j4E (b.1,(b.2.1,b.2.2)) (a.2.2.1.1,a.2.2.1.2)).bind fun d=>
 let k:=(w64 (e*a.2.2.2.2.1))
 let j:=(w64 (k*3600))
 let o:=(w64 (d.1+j))
 let m:=(w64 (d.1+j))
 some (o,(cond (d.2==0) (decide (m≤8589934592)) false))) (
 let i:=(w64 (e*a.2.2.2.2.1))
 cond (a.2.2.2.1==2) (
 let n:=(w64 (i*7))
 let l:=(w64 (a.2.2.1.1+n))
 (j4E (b.1,(b.2.1,b.2.2)) (l,a.2.2.1.2)).bind fun g=>
 some (g.1,(g.2==0))) (
 let f:=(w64 (a.2.2.1.1+i))
 (j4E (b.1,(b.2.1,b.2.2)) (f,a.2.2.1.2)).bind fun c=>
 some (c.1,(c.2==0))))
def j5e [LP] (r f:Int) (p:ByteArray) (d:Int) (e:Tn42) (q:ByteArray) (k n m g l:Int) (i:(List Int)) (b:Tn2) (j c:Int):Option ((Int×Int×ByteArray×Int×Tn42×ByteArray×Int×Int×Int×Int×Int×(List Int)×Tn2×Int×Int) ⊕ (Int)):=
 cond (decide (f≥0)) (
 (jaj (p,(d,e)) (q,(k,((n,m),(g,(l,(i,(b,(j,c)))))))) f).bind fun a=>
 cond (cond a.2 (decide (a.1≤r)) false) (
 some (.inr f)) (
 let o:=(w64 (f-1))
 some (.inl (r,o,p,d,e,q,k,n,m,g,l,i,b,j,c)))) (
 some (.inr f))
def j6y [LP] (p n m c d o i l k e j f a g b):=LP.lp (fun h=>j5e h.1 h.2.1 h.2.2.1 h.2.2.2.1 h.2.2.2.2.1 h.2.2.2.2.2.1 h.2.2.2.2.2.2.1 h.2.2.2.2.2.2.2.1 h.2.2.2.2.2.2.2.2.1 h.2.2.2.2.2.2.2.2.2.1 h.2.2.2.2.2.2.2.2.2.2.1 h.2.2.2.2.2.2.2.2.2.2.2.1 h.2.2.2.2.2.2.2.2.2.2.2.2.1 h.2.2.2.2.2.2.2.2.2.2.2.2.2.1 h.2.2.2.2.2.2.2.2.2.2.2.2.2.2) (p,n,m,c,d,o,i,l,k,e,j,f,a,g,b)
theorem jgg (p n m c d o i l k e j f a g b):j6y p n m c d o i l k e j f a g b=lpK (j5e p n m c d o i l k e j f a g b) (fun h=>j6y h.1 h.2.1 h.2.2.1 h.2.2.2.1 h.2.2.2.2.1 h.2.2.2.2.2.1 h.2.2.2.2.2.2.1 h.2.2.2.2.2.2.2.1 h.2.2.2.2.2.2.2.2.1 h.2.2.2.2.2.2.2.2.2.1 h.2.2.2.2.2.2.2.2.2.2.1 h.2.2.2.2.2.2.2.2.2.2.2.1 h.2.2.2.2.2.2.2.2.2.2.2.2.1 h.2.2.2.2.2.2.2.2.2.2.2.2.2.1 h.2.2.2.2.2.2.2.2.2.2.2.2.2.2):=j05 _ _
def jgh [LP] (b:Tn52) (a:Tn59) (c:Int):Option (Int):=
 cond (a.2.2.2.1==0) (
 (j4E (b.1,(b.2.1,b.2.2)) (a.2.2.1.1,a.2.2.1.2)).bind fun e=>
 cond (cond (e.2==0) (decide (e.1≤c)) false) (
 let q:=(w64 (c-e.1))
 let l:=(w64 (3600*a.2.2.2.2.1))
 cond (!(l==0)) (
 let r:=(w64 (Int.tdiv q l))
 some r) none) (
 some (-1))) (
 (j3y (b.1,(b.2.1,b.2.2)) c).bind fun m=>
 cond (a.2.2.2.1==2) (
 let k:=(w64 (a.2.2.2.2.1*7))
 let o:=(w64 (m.1.1+2))
 let j:=(w64 (o-a.2.2.1.1))
 let p:Int:=(if 0>j then 0 else j:Int)
 cond (!(k==0)) (
 let s:=(w64 (Int.tdiv p k))
 (j6y c s b.1 b.2.1 b.2.2 a.1 a.2.1 a.2.2.1.1 a.2.2.1.2 a.2.2.2.1 a.2.2.2.2.1 a.2.2.2.2.2.1 a.2.2.2.2.2.2.1 a.2.2.2.2.2.2.2.1 a.2.2.2.2.2.2.2.2).bind fun t=>
 some t) none) (
 let f:=(w64 (m.1.1+2))
 let d:=(w64 (f-a.2.2.1.1))
 let g:Int:=(if 0>d then 0 else d:Int)
 cond (!(a.2.2.2.2.1==0)) (
 let i:=(w64 (Int.tdiv g a.2.2.2.2.1))
 (j6y c i b.1 b.2.1 b.2.2 a.1 a.2.1 a.2.2.1.1 a.2.2.1.2 a.2.2.2.1 a.2.2.2.2.1 a.2.2.2.2.2.1 a.2.2.2.2.2.2.1 a.2.2.2.2.2.2.2.1 a.2.2.2.2.2.2.2.2).bind fun n=>
 some n) none))
def jgi [LP] (b:Tn52) (a:Tn59) (c:Int):Option (Int×Int):=
 (jge (b.1,(b.2.1,b.2.2)) (a.1,(a.2.1,((a.2.2.1.1,a.2.2.1.2),(a.2.2.2.1,(a.2.2.2.2.1,(a.2.2.2.2.2.1,(a.2.2.2.2.2.2.1,(a.2.2.2.2.2.2.2.1,a.2.2.2.2.2.2.2.2))))))))).bind fun e=>
 cond (e != 0) (
 some (0,8)) (
 cond (cond (decide (c<0)) true (decide (c>8589934592))) (
 some (0,1)) (
 (jgh (b.1,(b.2.1,b.2.2)) (a.1,(a.2.1,((a.2.2.1.1,a.2.2.1.2),(a.2.2.2.1,(a.2.2.2.2.1,(a.2.2.2.2.2.1,(a.2.2.2.2.2.2.1,(a.2.2.2.2.2.2.2.1,a.2.2.2.2.2.2.2.2)))))))) c).bind fun d=>
 some (d,0)))
def jh8 (a:(Int×Int)):Option (Int):=
 (jeC a.1).bind fun b=>
 let d:=(w64 (b*86400))
 let c:=(w64 (d+a.2))
 some c
def jbv [LP] (a:Tn52) (c:Int):Option (Int×Int):=
 (j3y (a.1,(a.2.1,a.2.2)) c).bind fun b=>
 cond (b.2 != 0) (
 some (0,b.2)) (
 (jh8 (b.1.1,b.1.2)).bind fun d=>
 some (d,0))
def j4G (b:Tn2) (e c:Int):Option ((Tn2×Int×Int) ⊕ (Bool ⊕ Unit)):=
 let g:=(Int.ofNat (List.length b))
 cond (decide (c<g)) (
 cond (inR c (List.length b)) (
 let a:=(List.getD b (Int.toNat c) (0,0))
 cond ((inR c (List.length b)) || !(decide (e≥a.1))) (
 let d:=(List.getD b (Int.toNat c) (0,0))
 cond (cond (decide (e≥a.1)) (decide (e<d.2)) false) (
 some (.inr (.inl true))) (
 let f:=(w64 (c+1))
 some (.inl (b,e,f)))) none) none) (
 some (.inr (.inr ())))
def j8D [LP] (a b c):=LP.lp (fun h=>j4G h.1 h.2.1 h.2.2) (a,b,c)
theorem jfo (a b c):j8D a b c=lpK (j4G a b c) (fun h=>j8D h.1 h.2.1 h.2.2):=j05 _ _
def jh9 [LP] (a:Tn2) (b:Int):Option (Bool):=
 (j8D a b 0).bind fun c=>
 sumC c (fun d=>
 some d) (fun e=>
 some false)
def jqv [LP] (a:Tn52) (b:Tn2) (d:Int):Option (Bool):=
 (jbv (a.1,(a.2.1,a.2.2)) d).bind fun c=>
 cond (c.2==0) (
 (je4 b).bind fun f=>
 cond (f==0) (
 (jh9 b c.1).bind fun e=>
 some e) (
 some false)) (
 some false)
def j5S (v:Int) (u:Bool) (b:Int) (w:ByteArray) (i f l k c:Int) (g:(List Int)) (d:Tn2) (e j:Int) (t:ByteArray) (m:Int) (a:(List Int)) (o n:Int):Option ((Int×Bool×Int×ByteArray×Int×Int×Int×Int×Int×(List Int)×Tn2×Int×Int×ByteArray×Int×(List Int)×Int×Int) ⊕ ((Int×Bool×ByteArray×Int×Int×Int×Int×Int×(List Int)×Tn2×Int×Int))):=
 let p:=(Int.ofNat (List.length a))
 cond (decide (b<p)) (
 cond u (
 let s:=(w64 (b+1))
 some (.inl (v,true,s,w,i,f,l,k,c,g,d,e,j,t,m,a,o,n))) (
 cond (inR b (List.length a)) (
 let q:=(List.getD a (Int.toNat b) 0)
 let r:=(w64 (b+1))
 some (.inl (v,(q==o),r,w,i,f,l,k,c,g,d,e,j,t,m,a,o,n))) none)) (
 some (.inr (v,u,w,i,f,l,k,c,g,d,e,j)))
def j7X [LP] (r p q s j g m l d i e f k o a b n c):=LP.lp (fun h=>j5S h.1 h.2.1 h.2.2.1 h.2.2.2.1 h.2.2.2.2.1 h.2.2.2.2.2.1 h.2.2.2.2.2.2.1 h.2.2.2.2.2.2.2.1 h.2.2.2.2.2.2.2.2.1 h.2.2.2.2.2.2.2.2.2.1 h.2.2.2.2.2.2.2.2.2.2.1 h.2.2.2.2.2.2.2.2.2.2.2.1 h.2.2.2.2.2.2.2.2.2.2.2.2.1 h.2.2.2.2.2.2.2.2.2.2.2.2.2.1 h.2.2.2.2.2.2.2.2.2.2.2.2.2.2.1 h.2.2.2.2.2.2.2.2.2.2.2.2.2.2.2.1 h.2.2.2.2.2.2.2.2.2.2.2.2.2.2.2.2.1 h.2.2.2.2.2.2.2.2.2.2.2.2.2.2.2.2.2) (r,p,q,s,j,g,m,l,d,i,e,f,k,o,a,b,n,c)
theorem jhv (r p q s j g m l d i e f k o a b n c):j7X r p q s j g m l d i e f k o a b n c=lpK (j5S r p q s j g m l d i e f k o a b n c) (fun h=>j7X h.1 h.2.1 h.2.2.1 h.2.2.2.1 h.2.2.2.2.1 h.2.2.2.2.2.1 h.2.2.2.2.2.2.1 h.2.2.2.2.2.2.2.1 h.2.2.2.2.2.2.2.2.1 h.2.2.2.2.2.2.2.2.2.1 h.2.2.2.2.2.2.2.2.2.2.1 h.2.2.2.2.2.2.2.2.2.2.2.1 h.2.2.2.2.2.2.2.2.2.2.2.2.1 h.2.2.2.2.2.2.2.2.2.2.2.2.2.1 h.2.2.2.2.2.2.2.2.2.2.2.2.2.2.1 h.2.2.2.2.2.2.2.2.2.2.2.2.2.2.2.1 h.2.2.2.2.2.2.2.2.2.2.2.2.2.2.2.2.1 h.2.2.2.2.2.2.2.2.2.2.2.2.2.2.2.2.2):=j05 _ _
def jje [LP] (b:Tn71) (a:Tn59) (f:Int):Option (Int×Bool):=
 cond (inR a.2.1 (List.length b.1)) (
 let e:=(List.getD b.1 (Int.toNat a.2.1) (ByteArray.empty,(0,([]:Tn42))))
 (jgi (e.1,(e.2.1,e.2.2)) (a.1,(a.2.1,((a.2.2.1.1,a.2.2.1.2),(a.2.2.2.1,(a.2.2.2.2.1,(a.2.2.2.2.2.1,(a.2.2.2.2.2.2.1,(a.2.2.2.2.2.2.2.1,a.2.2.2.2.2.2.2.2)))))))) f).bind fun d=>
 let m:=(Int.ofNat (List.length a.2.2.2.2.2.2.1))
 cond (cond (d.2 != 0) true (decide (d.1<0))) (
 cond ((!(decide (m>0))) || !(!true)) (
 some (0,false)) none) (
 cond (decide (m>0)) (
 (jqv (e.1,(e.2.1,e.2.2)) a.2.2.2.2.2.2.1 f).bind fun p=>
 cond (!p) (
 some (0,false)) (
 cond (a.2.2.2.2.2.2.2.2==0) (
 some (d.1,true)) (
 cond (inR a.2.2.2.2.2.2.2.1 (List.length b.2.2.1)) (
 let i:=(List.getD b.2.2.1 (Int.toNat a.2.2.2.2.2.2.2.1) (ByteArray.empty,(0,([]:(List Int)))))
 cond (inR i.2.1 (List.length b.1)) (
 let l:=(List.getD b.1 (Int.toNat i.2.1) (ByteArray.empty,(0,([]:Tn42))))
 (j3y (l.1,(l.2.1,l.2.2)) f).bind fun n=>
 (j7X d.1 false 0 a.1 a.2.1 a.2.2.1.1 a.2.2.1.2 a.2.2.2.1 a.2.2.2.2.1 a.2.2.2.2.2.1 a.2.2.2.2.2.2.1 a.2.2.2.2.2.2.2.1 a.2.2.2.2.2.2.2.2 i.1 i.2.1 i.2.2 n.1.1 n.1.2).bind fun o=>
 some (o.1,(o.2.1==(o.2.2.2.2.2.2.2.2.2.2.2==2)))) none) none))) (
 cond (a.2.2.2.2.2.2.2.2==0) (
 some (d.1,true)) (
 cond (inR a.2.2.2.2.2.2.2.1 (List.length b.2.2.1)) (
 let c:=(List.getD b.2.2.1 (Int.toNat a.2.2.2.2.2.2.2.1) (ByteArray.empty,(0,([]:(List Int)))))
 cond (inR c.2.1 (List.length b.1)) (
 let g:=(List.getD b.1 (Int.toNat c.2.1) (ByteArray.empty,(0,([]:Tn42))))
 (j3y (g.1,(g.2.1,g.2.2)) f).bind fun k=>
 (j7X d.1 false 0 a.1 a.2.1 a.2.2.1.1 a.2.2.1.2 a.2.2.2.1 a.2.2.2.2.1 a.2.2.2.2.2.1 a.2.2.2.2.2.2.1 a.2.2.2.2.2.2.2.1 a.2.2.2.2.2.2.2.2 c.1 c.2.1 c.2.2 k.1.1 k.1.2).bind fun j=>
 some (j.1,(j.2.1==(j.2.2.2.2.2.2.2.2.2.2.2==2)))) none) none)))) none
def jmm [LP] (b:Tn71) (a:Tn59) (f:Int):Option (Int):=
 (jje (b.1,(b.2.1,(b.2.2.1,b.2.2.2))) (a.1,(a.2.1,((a.2.2.1.1,a.2.2.1.2),(a.2.2.2.1,(a.2.2.2.2.1,(a.2.2.2.2.2.1,(a.2.2.2.2.2.2.1,(a.2.2.2.2.2.2.2.1,a.2.2.2.2.2.2.2.2)))))))) f).bind fun c=>
 cond (!c.2) (
 some (-1)) (
 let d:=(Int.ofNat (List.length a.2.2.2.2.2.1))
 cond (!(d==0)) (
 let e:=(Int.tmod c.1 d)
 cond (inR e (List.length a.2.2.2.2.2.1)) (
 let g:=(List.getD a.2.2.2.2.2.1 (Int.toNat e) 0)
 some g) none) none)
def j5T (i g d:Int) (k:ByteArray) (f:Tn60) (b:Tn29):Option ((Int×Int×Int×ByteArray×Tn60×Tn29) ⊕ (Bool ⊕ Unit)):=
 let e:=(Int.ofNat (List.length b))
 cond (decide (d<e)) (
 cond (inR d (List.length b)) (
 let a:=(List.getD b (Int.toNat d) (0,(0,(0,(0,0)))))
 let j:Bool:=(cond (cond (a.1==0) (a.2.1==i) false) (decide (a.2.2.2.1≤g)) false)
 cond (cond j (decide (g<a.2.2.2.2)) false) (
 some (.inr (.inl true))) (
 let c:=(w64 (d+1))
 some (.inl (i,g,c,k,f,b)))) none) (
 some (.inr (.inr ())))
def jc5 [LP] (c f e d a b):=LP.lp (fun h=>j5T h.1 h.2.1 h.2.2.1 h.2.2.2.1 h.2.2.2.2.1 h.2.2.2.2.2) (c,f,e,d,a,b)
theorem jhw (c f e d a b):jc5 c f e d a b=lpK (j5T c f e d a b) (fun h=>jc5 h.1 h.2.1 h.2.2.1 h.2.2.2.1 h.2.2.2.2.1 h.2.2.2.2.2):=j05 _ _
def jlC [LP] (b:Tn64) (a c:Int):Option (Bool):=
 (jc5 a c 0 b.1 b.2.1 b.2.2).bind fun d=>
 sumC d (fun e=>
 some e) (fun f=>
 some false)
def j6z [LP] (m i:Int) (n:Tn54) (f:Tn48) (g:Tn26) (d:Tn65) (o:ByteArray) (b:Tn60) (e:Tn29):Option ((Int×Int×Tn54×Tn48×Tn26×Tn65×ByteArray×Tn60×Tn29) ⊕ ((Int×Int) ⊕ Unit)):=
 cond (decide (i≥0)) (
 cond (inR i (List.length b)) (
 let a:=(List.getD b (Int.toNat i) (ByteArray.empty,(0,((0,0),(0,(0,(([]:(List Int)),(([]:Tn2),(0,0)))))))))
 (jmm (n,(f,(g,d))) (a.1,(a.2.1,((a.2.2.1.1,a.2.2.1.2),(a.2.2.2.1,(a.2.2.2.2.1,(a.2.2.2.2.2.1,(a.2.2.2.2.2.2.1,(a.2.2.2.2.2.2.2.1,a.2.2.2.2.2.2.2.2)))))))) m).bind fun c=>
 cond (decide (c≥0)) (
 (jlC (o,(b,e)) c m).bind fun k=>
 cond (!k) (
 some (.inr (.inl (i,c)))) (
 let j:=(w64 (i-1))
 some (.inl (m,j,n,f,g,d,o,b,e)))) (
 let l:=(w64 (i-1))
 some (.inl (m,l,n,f,g,d,o,b,e)))) none) (
 some (.inr (.inr ())))
def je5 [LP] (g i f c d a j e b):=LP.lp (fun h=>j6z h.1 h.2.1 h.2.2.1 h.2.2.2.1 h.2.2.2.2.1 h.2.2.2.2.2.1 h.2.2.2.2.2.2.1 h.2.2.2.2.2.2.2.1 h.2.2.2.2.2.2.2.2) (g,i,f,c,d,a,j,e,b)
theorem jjf (g i f c d a j e b):je5 g i f c d a j e b=lpK (j6z g i f c d a j e b) (fun h=>je5 h.1 h.2.1 h.2.2.1 h.2.2.2.1 h.2.2.2.2.1 h.2.2.2.2.2.1 h.2.2.2.2.2.2.1 h.2.2.2.2.2.2.2.1 h.2.2.2.2.2.2.2.2):=j05 _ _
def joW [LP] (b:Tn71) (a d:Int):Option (Int×Int):=
 cond (inR a (List.length b.2.2.2)) (
 let c:=(List.getD b.2.2.2 (Int.toNat a) (ByteArray.empty,(([]:Tn60),([]:Tn29))))
 let e:=(Int.ofNat (List.length c.2.1))
 let f:=(w64 (e-1))
 (je5 d f b.1 b.2.1 b.2.2.1 b.2.2.2 c.1 c.2.1 c.2.2).bind fun g=>
 sumC g (fun i=>
 some (i.1,i.2)) (fun j=>
 some ((-1),(-1)))) none
def j5U (b:Tn29) (e d c:Int):Option ((Tn29×Int×Int×Int) ⊕ (Int)):=
 let i:=(Int.ofNat (List.length b))
 cond (decide (c<i)) (
 cond (inR c (List.length b)) (
 let a:=(List.getD b (Int.toNat c) (0,(0,(0,(0,0)))))
 cond (cond (decide (d<a.2.2.2.1)) true (decide (d≥a.2.2.2.2))) (
 let k:=(w64 (c+1))
 some (.inl (b,e,d,k))) (
 cond (a.1==1) (
 let j:=(w64 (c+1))
 some (.inl (b,a.2.1,d,j))) (
 cond (cond (a.1==2) (e==a.2.1) false) (
 let g:=(w64 (c+1))
 some (.inl (b,a.2.2.1,d,g))) (
 cond (cond (a.1==2) (e==a.2.2.1) false) (
 let l:=(w64 (c+1))
 some (.inl (b,a.2.1,d,l))) (
 let f:=(w64 (c+1))
 some (.inl (b,e,d,f))))))) none) (
 some (.inr e))
def jc6 [LP] (b a d c):=LP.lp (fun h=>j5U h.1 h.2.1 h.2.2.1 h.2.2.2) (b,a,d,c)
theorem jhx (b a d c):jc6 b a d c=lpK (j5U b a d c) (fun h=>jc6 h.1 h.2.1 h.2.2.1 h.2.2.2):=j05 _ _
def joX [LP] (b:Tn29) (a c:Int):Option (Int):=
 (jc6 b a c 0).bind fun d=>
 some d
def js2 [LP] (b:Tn71) (a c:Int):Option (Int):=
 (joW (b.1,(b.2.1,(b.2.2.1,b.2.2.2))) a c).bind fun d=>
 cond (inR a (List.length b.2.2.2)) (
 let e:=(List.getD b.2.2.2 (Int.toNat a) (ByteArray.empty,(([]:Tn60),([]:Tn29))))
 (joX e.2.2 d.2 c).bind fun f=>
 some f) none
def js3 [LP] (a:Tn71) (b c:Int):Option (Int):=
 (jw3 (a.1,(a.2.1,(a.2.2.1,a.2.2.2))) b c).bind fun d=>
 cond (!d) (
 some (-1)) (
 (js2 (a.1,(a.2.1,(a.2.2.1,a.2.2.2))) b c).bind fun e=>
 some e)
def jhY [LP] (b:Tn71) (a c:Int):Option (Int):=
 (js3 (b.1,(b.2.1,(b.2.2.1,b.2.2.2))) a c).bind fun d=>
 some d
def j6A [LP] (c:(List Int)) (j b:Int):Option (Bool):=
 (jke c).bind fun l=>
 cond (!l) (
 (j8d).bind fun q=>
 some q) (
 (jmj c).bind fun f=>
 (j7N f.1 f.2 1).bind fun a=>
 (j2e (a.1.1,(a.1.2.1,(a.1.2.2.1,a.1.2.2.2))) 0).bind fun e=>
 (jj4 j 34560000).bind fun o=>
 let g:=(w64 (e+o))
 (jj4 b 500).bind fun p=>
 let m:=(w64 (1+p))
 let k:=(w64 (m*604800))
 let i:=(w64 (g+k))
 cond (decide (e≤8589934592)) (
 cond (decide (i>8589934592)) (
 (j8d).bind fun n=>
 some n) (
 (jhY (a.1.1,(a.1.2.1,(a.1.2.2.1,a.1.2.2.2))) 0 g).bind fun s=>
 (jhY (a.1.1,(a.1.2.1,(a.1.2.2.1,a.1.2.2.2))) 0 i).bind fun r=>
 cond ((decide (s<0))==(decide (r<0))) (
 (j8d).bind fun d=>
 some d) (
 some false))) (
 some false))
def j3a (a:(Int×Int)):Option (Int):=
 (j5s a.1).bind fun c=>
 let d:=(w64 (c*86400))
 let b:=(w64 (d+a.2))
 some b
def j5V (d:Int) (e:Tn2) (f c:Int):Option ((Int×Tn2×Int×Int) ⊕ (Bool ⊕ Unit)):=
 cond (decide (c<f)) (
 cond (inR c (List.length e)) (
 let a:=(List.getD e (Int.toNat c) (0,0))
 cond (cond (decide (a.1≤d)) (decide (d<a.2)) false) (
 some (.inr (.inl true))) (
 let b:=(w64 (c+1))
 some (.inl (d,e,f,b)))) none) (
 some (.inr (.inr ())))
def jeF [LP] (a b d c):=LP.lp (fun h=>j5V h.1 h.2.1 h.2.2.1 h.2.2.2) (a,b,d,c)
theorem jhy (a b d c):jeF a b d c=lpK (j5V a b d c) (fun h=>jeF h.1 h.2.1 h.2.2.1 h.2.2.2):=j05 _ _
def jlD [LP] (a:Tn2) (b:Int):Option (Bool):=
 let d:=(Int.ofNat (List.length a))
 (jeF b a d 0).bind fun c=>
 sumC c (fun e=>
 some e) (fun f=>
 some false)
def j6B [LP] (b:Tn73) (a:Tn59) (c:Int):Option (Int×Bool):=
 cond (cond (decide (c<0)) true (decide (c>8589934592))) (
 some (0,false)) (
 cond (inR a.2.1 (List.length b.2)) (
 let f:=(List.getD b.2 (Int.toNat a.2.1) (0,([]:Tn2)))
 (j1U (f.1,f.2) (a.1,(a.2.1,((a.2.2.1.1,a.2.2.1.2),(a.2.2.2.1,(a.2.2.2.2.1,(a.2.2.2.2.2.1,(a.2.2.2.2.2.2.1,(a.2.2.2.2.2.2.2.1,a.2.2.2.2.2.2.2.2)))))))) c).bind fun e=>
 cond (decide (e<0)) (
 some (0,false)) (
 let p:=(Int.ofNat (List.length a.2.2.2.2.2.2.1))
 cond (decide (p>0)) (
 (j0s (f.1,f.2) c).bind fun l=>
 (j3a (l.1,l.2)).bind fun n=>
 (jlD a.2.2.2.2.2.2.1 n).bind fun o=>
 cond (!o) (
 some (0,false)) (
 cond (a.2.2.2.2.2.2.2.2==0) (
 some (e,true)) (
 cond (inR a.2.2.2.2.2.2.2.1 (List.length b.1.2.2.1)) (
 let i:=(List.getD b.1.2.2.1 (Int.toNat a.2.2.2.2.2.2.2.1) (ByteArray.empty,(0,([]:(List Int)))))
 cond (inR i.2.1 (List.length b.2)) (
 let m:=(List.getD b.2 (Int.toNat i.2.1) (0,([]:Tn2)))
 (j0s (m.1,m.2) c).bind fun r=>
 (j0t i.2.2 r.1).bind fun q=>
 some (e,(q.2==(a.2.2.2.2.2.2.2.2==2)))) none) none))) (
 cond (a.2.2.2.2.2.2.2.2==0) (
 some (e,true)) (
 cond (inR a.2.2.2.2.2.2.2.1 (List.length b.1.2.2.1)) (
 let d:=(List.getD b.1.2.2.1 (Int.toNat a.2.2.2.2.2.2.2.1) (ByteArray.empty,(0,([]:(List Int)))))
 cond (inR d.2.1 (List.length b.2)) (
 let g:=(List.getD b.2 (Int.toNat d.2.1) (0,([]:Tn2)))
 (j0s (g.1,g.2) c).bind fun k=>
 (j0t d.2.2 k.1).bind fun j=>
 some (e,(j.2==(a.2.2.2.2.2.2.2.2==2)))) none) none)))) none)
def j3z [LP] (b:Tn73) (a:Tn59) (f:Int):Option (Int):=
 (j6B ((b.1.1,(b.1.2.1,(b.1.2.2.1,b.1.2.2.2))),b.2) (a.1,(a.2.1,((a.2.2.1.1,a.2.2.1.2),(a.2.2.2.1,(a.2.2.2.2.1,(a.2.2.2.2.2.1,(a.2.2.2.2.2.2.1,(a.2.2.2.2.2.2.2.1,a.2.2.2.2.2.2.2.2)))))))) f).bind fun c=>
 cond (!c.2) (
 some (-1)) (
 let d:=(Int.ofNat (List.length a.2.2.2.2.2.1))
 cond (!(d==0)) (
 let e:=(Int.tmod c.1 d)
 cond (inR e (List.length a.2.2.2.2.2.1)) (
 let g:=(List.getD a.2.2.2.2.2.1 (Int.toNat e) 0)
 some g) none) none)
def jeG (a:Tn24) (d b:Int):Option (Bool):=
 let c:Bool:=(cond (cond (a.1==0) (a.2.1==d) false) (decide (a.2.2.2.1≤b)) false)
 some (cond c (decide (b<a.2.2.2.2)) false)
def j0B (f:Tn29) (g b i c:Int):Option ((Tn29×Int×Int×Int×Int) ⊕ (Int ⊕ Unit)):=
 cond (decide (c<i)) (
 cond (inR c (List.length f)) (
 let a:=(List.getD f (Int.toNat c) (0,(0,(0,(0,0)))))
 (jeG (a.1,(a.2.1,(a.2.2.1,(a.2.2.2.1,a.2.2.2.2)))) g b).bind fun d=>
 cond d (
 some (.inr (.inl c))) (
 let e:=(w64 (c+1))
 some (.inl (f,g,b,i,e)))) none) (
 some (.inr (.inr ())))
def j0M [LP] (c b a d e):=LP.lp (fun h=>j0B h.1 h.2.1 h.2.2.1 h.2.2.2.1 h.2.2.2.2) (c,b,a,d,e)
theorem j39 (c b a d e):j0M c b a d e=lpK (j0B c b a d e) (fun h=>j0M h.1 h.2.1 h.2.2.1 h.2.2.2.1 h.2.2.2.2):=j05 _ _
def j2B [LP] (a:Tn29) (c b:Int):Option (Int):=
 let e:=(Int.ofNat (List.length a))
 (j0M a c b e 0).bind fun d=>
 sumC d (fun f=>
 some f) (fun g=>
 some (-1))
def j25 [LP] (b:Tn29) (c a:Int):Option (Bool):=
 (j2B b c a).bind fun d=>
 some (decide (d≥0))
def jha [LP] (b:Tn64) (a c:Int):Option (Bool):=
 (j25 b.2.2 a c).bind fun d=>
 some d
def j3l [LP] (l:Int) (j:Tn60) (p:Tn54) (d:Tn48) (f:Tn26) (c:Tn65) (e:Tn20) (q:ByteArray) (g:Tn60) (i:Tn29) (m r o:Int):Option ((Int×Tn60×Tn54×Tn48×Tn26×Tn65×Tn20×ByteArray×Tn60×Tn29×Int×Int×Int) ⊕ ((Int×Int) ⊕ (Int×Int))):=
 cond (decide (l≤0)) (
 some (.inr (.inl (r,o)))) (
 cond (decide (l≤Int.ofNat (List.length j))) (
 let k:Int:=(l-1)
 let a:=(List.getD j (Int.toNat k) (ByteArray.empty,(0,((0,0),(0,(0,(([]:(List Int)),(([]:Tn2),(0,0)))))))))
 (j3z ((p,(d,(f,c))),e) (a.1,(a.2.1,((a.2.2.1.1,a.2.2.1.2),(a.2.2.2.1,(a.2.2.2.2.1,(a.2.2.2.2.2.1,(a.2.2.2.2.2.2.1,(a.2.2.2.2.2.2.2.1,a.2.2.2.2.2.2.2.2)))))))) m).bind fun b=>
 cond (decide (b<0)) (
 some (.inl ((l-1),j,p,d,f,c,e,q,g,i,m,r,o))) (
 (jha (q,(g,i)) b m).bind fun n=>
 cond (!n) (
 some (.inr (.inr (k,b)))) (
 some (.inl ((l-1),j,p,d,f,c,e,q,g,i,m,r,o))))) none)
def j7O [LP] (m g j b d a c l e f k n i):=LP.lp (fun h=>j3l h.1 h.2.1 h.2.2.1 h.2.2.2.1 h.2.2.2.2.1 h.2.2.2.2.2.1 h.2.2.2.2.2.2.1 h.2.2.2.2.2.2.2.1 h.2.2.2.2.2.2.2.2.1 h.2.2.2.2.2.2.2.2.2.1 h.2.2.2.2.2.2.2.2.2.2.1 h.2.2.2.2.2.2.2.2.2.2.2.1 h.2.2.2.2.2.2.2.2.2.2.2.2) (m,g,j,b,d,a,c,l,e,f,k,n,i)
theorem jc7 (m g j b d a c l e f k n i):j7O m g j b d a c l e f k n i=lpK (j3l m g j b d a c l e f k n i) (fun h=>j7O h.1 h.2.1 h.2.2.1 h.2.2.2.1 h.2.2.2.2.1 h.2.2.2.2.2.1 h.2.2.2.2.2.2.1 h.2.2.2.2.2.2.2.1 h.2.2.2.2.2.2.2.2.1 h.2.2.2.2.2.2.2.2.2.1 h.2.2.2.2.2.2.2.2.2.2.1 h.2.2.2.2.2.2.2.2.2.2.2.1 h.2.2.2.2.2.2.2.2.2.2.2.2):=j05 _ _
def jjg [LP] (a:Tn73) (b:Tn64) (d:Int):Option (Int×Int):=
 (j2n b.2.1).bind fun c=>
 (j7O (Int.ofNat (List.length c)) c a.1.1 a.1.2.1 a.1.2.2.1 a.1.2.2.2 a.2 b.1 b.2.1 b.2.2 d 0 0).bind fun e=>
 sumC e (fun g=>
 some ((-1),(-1))) (fun f=>
 some (f.1,f.2))
def jof [LP] (a:Tn73) (c:Tn64) (b:Int):Option (Int):=
 cond (cond (decide (b<0)) true (decide (b>8589934592))) (
 some (-1)) (
 (jjg ((a.1.1,(a.1.2.1,(a.1.2.2.1,a.1.2.2.2))),a.2) (c.1,(c.2.1,c.2.2)) b).bind fun e=>
 (je2 c.2.2 e.2 b).bind fun d=>
 some d)
def jtt [LP] (b:Tn71) (a e:Int):Option (Int):=
 (jex (b.1,(b.2.1,(b.2.2.1,b.2.2.2)))).bind fun c=>
 cond (!c.2) (
 some (-1)) (
 (jbH (b.1,(b.2.1,(b.2.2.1,b.2.2.2))) a).bind fun g=>
 cond (!g) (
 some (-1)) (
 cond (inR a (List.length b.2.2.2)) (
 let d:=(List.getD b.2.2.2 (Int.toNat a) (ByteArray.empty,(([]:Tn60),([]:Tn29))))
 (jof ((c.1.1.1,(c.1.1.2.1,(c.1.1.2.2.1,c.1.1.2.2.2))),c.1.2) (d.1,(d.2.1,d.2.2)) e).bind fun f=>
 some f) none))
def jul [LP] (b:Tn71) (a c:Int):Option (Int):=
 (jtt (b.1,(b.2.1,(b.2.2.1,b.2.2.2))) a c).bind fun d=>
 some d
end
end Go.Proofs.Pw
