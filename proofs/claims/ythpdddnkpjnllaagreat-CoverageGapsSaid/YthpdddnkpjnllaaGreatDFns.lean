/- Plain functions, printed by a program out of the given code. -/
import Derived.Test.YthpdddnkpjnllaaGreatDLS
open Go Go.Lft
set_option linter.unusedVariables false
namespace Go.Proofs.Pw
noncomputable section
abbrev Tn2:Type:=(List (Int×Int))
abbrev Tn1:Type:=(Int×(List Int))
abbrev Tn3:Type:=(Int×(Int×Int))
abbrev Tn14:Type:=(List Tn3)
abbrev Tn13:Type:=(Int×Tn2)
abbrev Tn19:Type:=(ByteArray×Tn1)
abbrev Tn20:Type:=(List Tn13)
abbrev Tn24:Type:=(Int×(Int×Tn3))
abbrev Tn26:Type:=(List Tn19)
abbrev Tn29:Type:=(List Tn24)
abbrev Tn38:Type:=(Int×(Int×Tn24))
abbrev Tn42:Type:=(List Tn38)
abbrev Tn44:Type:=(ByteArray×(Int×(Tn2×(Int×(Int×Bool)))))
abbrev Tn48:Type:=(List Tn44)
abbrev Tn52:Type:=(ByteArray×(Int×Tn42))
abbrev Tn54:Type:=(List Tn52)
abbrev Tn59:Type:=(ByteArray×(Int×((Int×Int)×(Int×(Int×((List Int)×(Tn2×(Int×Int))))))))
abbrev Tn60:Type:=(List Tn59)
abbrev Tn64:Type:=(ByteArray×(Tn60×Tn29))
abbrev Tn65:Type:=(List Tn64)
abbrev Tn71:Type:=(Tn54×(Tn48×(Tn26×Tn65)))
abbrev Tn73:Type:=(Tn71×Tn20)
abbrev unc2 {A0 A1 R:Type} (f:A0→A1→R) (h:A0×A1):R:=f h.1 h.2
abbrev unc5 {A0 A1 A2 A3 A4 R:Type} (f:A0→A1→A2→A3→A4→R) (h:A0×A1×A2×A3×A4):R:=f h.1 h.2.1 h.2.2.1 h.2.2.2.1 h.2.2.2.2
abbrev unc7 {A0 A1 A2 A3 A4 A5 A6 R:Type} (f:A0→A1→A2→A3→A4→A5→A6→R) (h:A0×A1×A2×A3×A4×A5×A6):R:=f h.1 h.2.1 h.2.2.1 h.2.2.2.1 h.2.2.2.2.1 h.2.2.2.2.2.1 h.2.2.2.2.2.2
def jl5 (a:(List Int)):Option (Bool):=
 let b:=(Int.ofNat (List.length a))
 some (decide (b≤500))
def jl6 (a:Bool):Option (Tn71):=
 let k:Tn54:=[((ByteArray.mk #[122]),(0,([]:Tn42)))]
 let e:Tn48:=[((ByteArray.mk #[97]),(0,(([]:Tn2),(0,(0,false))))),((ByteArray.mk #[98]),(0,(([]:Tn2),(0,(0,false)))))]
 let d:(List Int):=[0,1]
 let j:Tn2:=[(0,432000)]
 let b:Tn60:=[((ByteArray.mk #[108,111,119]),(0,((4,0),(2,(1,(d,(j,(0,0))))))))]
 cond a (
 let g:Tn2:=[(432000,604800)]
 let f:Tn60:=[((ByteArray.mk #[101,110,100]),(0,((4,0),(2,(1,(d,(g,(0,0))))))))]
 cond (decide (List.length b+List.length f≤j07)) (
 let i:Tn60:=(b++f)
 let l:Tn65:=[((ByteArray.mk #[115]),(i,([]:Tn29)))]
 some (k,(e,(([]:Tn26),l)))) none) (
 let c:Tn65:=[((ByteArray.mk #[115]),(b,([]:Tn29)))]
 some (k,(e,(([]:Tn26),c))))
def jbn (a:Tn52):Option (ByteArray):=
 some a.1
def jcq (a:Int):Option (Bool):=
 some (cond (decide (a≥97)) (decide (a≤122)) false)
def jiG (a:Int):Option (Bool):=
 some (cond (decide (a≥48)) (decide (a≤57)) false)
def j7c (d:ByteArray) (c b:Int):Option ((ByteArray×Int×Int) ⊕ (Bool ⊕ Unit)):=
 cond (decide (b<c)) (
 cond (inR b (ByteArray.size d)) (
 let a:=(j2J d b)
 (jcq a).bind fun e=>
 cond (!e) (
 (jiG a).bind fun f=>
 cond (cond (cond (!f) (a != 95) false) (a != 45) false) (
 some (.inr (.inl false))) (
 let g:=(w64 (b+1))
 some (.inl (d,c,g)))) (
 let i:=(w64 (b+1))
 some (.inl (d,c,i)))) none) (
 some (.inr (.inr ())))
def j6m [LP] (c b a):=LP.lp (fun h=>j7c h.1 h.2.1 h.2.2) (c,b,a)
theorem jm1 (c b a):j6m c b a=lpK (j7c c b a) (fun h=>j6m h.1 h.2.1 h.2.2):=j04 _ _
def j73 [LP] (a:ByteArray):Option (Bool):=
 let f:=(Int.ofNat (ByteArray.size a))
 let b:Bool:=(cond (ByteArray.toList a==ByteArray.toList ByteArray.empty) true (decide (f>24)))
 cond ((inR 0 (ByteArray.size a)) || !(!b)) (
 let c:=(j2J a 0)
 cond b (
 some false) (
 (jcq c).bind fun d=>
 cond (!d) (
 some false) (
 let e:=(Int.ofNat (ByteArray.size a))
 (j6m a e 0).bind fun g=>
 sumC g (fun i=>
 some i) (fun j=>
 some true)))) none
def j3Q [LP] (b:ByteArray) (a:(List (ByteArray×Bool))):Option (Int×(List (ByteArray×Bool))):=
 (j73 b).bind fun d=>
 cond (!d) (
 some (2,a)) (
 cond (j6D false a b) (
 some (4,a)) (
 let c:(List (ByteArray×Bool)):=(j87 a b true)
 some (0,c)))
def jbo (a b c:Int):Option (Bool):=
 some (cond (decide (a≥b)) (decide (a≤c)) false)
def jgM (a:Tn38):Option (Int):=
 (jbo a.1 1970 2240).bind fun i=>
 cond (!i) (
 some 1) (
 (jbo a.2.1 a.1 2240).bind fun d=>
 cond (!d) (
 some 1) (
 (jbo a.2.2.1 1 12).bind fun e=>
 cond (!e) (
 some 1) (
 (jbo a.2.2.2.1 1 5).bind fun b=>
 cond (!b) (
 some 1) (
 (jbo a.2.2.2.2.1 0 6).bind fun c=>
 cond (!c) (
 some 1) (
 (jbo a.2.2.2.2.2.1 0 86399).bind fun f=>
 cond (!f) (
 some 1) (
 (jbo a.2.2.2.2.2.2 (-64800) 64800).bind fun g=>
 cond (!g) (
 some 1) (
 some 0)))))))
def jl7 (a:Int):Option (Bool):=
 let d:=(Int.tmod a 4)
 let c:=(Int.tmod a 100)
 let b:=(Int.tmod a 400)
 some (cond (d==0) (cond (c != 0) true (b==0)) false)
def j7U (c a:Int):Option (Int):=
 cond (cond (decide (a<1)) true (decide (a>12))) (
 some 0) (
 let e:(List Int):=[31,28,31,30,31,30,31,31,30,31,30,31]
 let j:(List Int):=(List.replicate 12 0)
 cond (a==2) (
 (jl7 c).bind fun i=>
 cond i (
 some 29) (
 let f:=(w64 (a-1))
 cond (inR f 12) (
 let g:=(List.getD e (Int.toNat f) 0)
 some g) none)) (
 let b:=(w64 (a-1))
 cond (inR b 12) (
 let d:=(List.getD e (Int.toNat b) 0)
 some d) none))
def jcr (a:Tn3):Option (Bool):=
 cond (decide (a.1≥1970)) (
 cond (decide (a.1≤2240)) (
 cond (decide (a.2.2≥1)) (
 (j7U a.1 a.2.1).bind fun b=>
 some (decide (a.2.2≤b))) (
 some false)) (
 some false)) (
 some false)
def j8R (b a:Int):Option (Int):=
 cond (!(a==0)) (
 let c:=(w64 (Int.tdiv b a))
 cond (!(a==0)) (
 let d:=(Int.tmod b a)
 cond (decide (d<0)) (
 let e:=(w64 (c-1))
 some e) (
 some c)) none) none
def j5y (a:Int):Option (Int):=
 let b:=(w64 (a-1))
 let l:=(w64 (a-1970))
 let k:=(w64 (365*l))
 (j8R b 4).bind fun i=>
 let c:=(w64 (k+i))
 (j8R b 100).bind fun d=>
 let g:=(w64 (c-d))
 (j8R b 400).bind fun f=>
 let e:=(w64 (g+f))
 let j:=(w64 (e-477))
 some j
def j4n (i e g a f:Int):Option ((Int×Int×Int×Int×Int) ⊕ (Int)):=
 cond (decide (e<a)) (
 (j7U g e).bind fun c=>
 let d:=(w64 (i+c))
 let b:=(w64 (e+1))
 some (.inl (d,b,g,a,f))) (
 some (.inr i))
def j5V [LP] (d e c a b):=LP.lp (fun h=>j4n h.1 h.2.1 h.2.2.1 h.2.2.2.1 h.2.2.2.2) (d,e,c,a,b)
theorem jdI (d e c a b):j5V d e c a b=lpK (j4n d e c a b) (fun h=>j5V h.1 h.2.1 h.2.2.1 h.2.2.2.1 h.2.2.2.2):=j04 _ _
def j7p [LP] (a:Tn3):Option (Int):=
 (j5y a.1).bind fun d=>
 let b:=(w64 (d+a.2.2))
 let c:=(w64 (b-1))
 (j5V c 1 a.1 a.2.1 a.2.2).bind fun e=>
 some e
def j6n (a:Int):Option (Int):=
 let d:=(Int.tmod a 7)
 let b:=(w64 (d+10))
 let c:=(Int.tmod b 7)
 some c
def jcs [LP] (c b d a:Int):Option (Int×Int):=
 (jcr (c,(b,1))).bind fun k=>
 let n:Bool:=(cond (cond (!k) true (decide (d<1))) true (decide (d>5)))
 let i:Bool:=(cond (cond n true (decide (a<0))) true (decide (a>6)))
 cond i (
 some (0,1)) (
 (j7p (c,(b,1))).bind fun f=>
 (j6n f).bind fun t=>
 let o:=(w64 (a-t))
 let q:=(w64 (o+7))
 let s:=(Int.tmod q 7)
 let p:=(w64 (f+s))
 let l:=(w64 (d-1))
 let r:=(w64 (7*l))
 let e:=(w64 (p+r))
 (j7U c b).bind fun j=>
 let m:=(w64 (f+j))
 cond (decide (e≥m)) (
 let g:=(w64 (e-7))
 some (g,0)) (
 some (e,0)))
def j8S (a b:(Int×Int)):Option (Int):=
 let c:=(w64 (a.1-b.1))
 some c
def j0p (n t u b:Int) (a:Tn2):Option ((Int×Int×Int×Int×Tn2) ⊕ ((Int×Int×Int×Tn2))):=
 cond (decide (b>n)) (
 cond (inR b (List.length a)) (
 let m:=(List.getD a (Int.toNat b) (0,0)).1
 let g:=(List.getD a (Int.toNat b) (0,0)).2
 let c:=(w64 (b-1))
 cond (inR c (List.length a)) (
 let o:=(List.getD a (Int.toNat c) (0,0)).1
 let s:=(List.getD a (Int.toNat c) (0,0)).2
 (j8S (m,g) (o,s)).bind fun r=>
 cond (decide (r<0)) (
 let e:=(w64 (b-1))
 let d:=(w64 (b-1))
 cond (inR d (List.length a)) (
 let i:=(List.getD a (Int.toNat d) (0,0)).1
 let l:=(List.getD a (Int.toNat d) (0,0)).2
 cond (inR b (List.length a)) (
 let j:=(List.getD a (Int.toNat b) (0,0)).1
 let p:=(List.getD a (Int.toNat b) (0,0)).2
 cond (inR b (List.length a)) (
 let f:Tn2:=(List.set a (Int.toNat b) (i,l))
 cond (inR e (List.length f)) (
 let k:Tn2:=(List.set f (Int.toNat e) (j,p))
 let q:=(w64 (b-1))
 some (.inl (n,t,u,q,k))) none) none) none) none) (
 some (.inr (n,t,u,a)))) none) none) (
 some (.inr (n,t,u,a)))
def j0k [LP] (a c b e d):=LP.lp (fun h=>j0p h.1 h.2.1 h.2.2.1 h.2.2.2.1 h.2.2.2.2) (a,c,b,e,d)
theorem j2C (a c b e d):j0k a c b e d=lpK (j0p a c b e d) (fun h=>j0k h.1 h.2.1 h.2.2.1 h.2.2.2.1 h.2.2.2.2):=j04 _ _
def j09 [LP] (f d c:Int) (e:Tn2):Option ((Int×Int×Int×Tn2) ⊕ (Tn2)):=
 cond (decide (c<d)) (
 (j0k f d c c e).bind fun a=>
 let b:=(w64 (a.2.2.1+1))
 some (.inl (a.1,a.2.1,b,a.2.2.2))) (
 some (.inr e))
def j0l [LP] (a b d c):=LP.lp (fun h=>j09 h.1 h.2.1 h.2.2.1 h.2.2.2) (a,b,d,c)
theorem j1h (a b d c):j0l a b d c=lpK (j09 a b d c) (fun h=>j0l h.1 h.2.1 h.2.2.1 h.2.2.2):=j04 _ _
def j0e [LP] (a:Tn2) (b c:Int):Option (Tn2):=
 let d:=(w64 (b+1))
 (j0l b c d a).bind fun e=>
 some e
def j0f [LP] (d e f c:Int) (g:Tn2):Option ((Int×Int×Int×Int×Tn2) ⊕ ((Int×Int×Int×Tn2))):=
 cond (decide (c≤d)) (
 (j0e g f c).bind fun b=>
 let a:=(w64 (c+e))
 some (.inl (d,e,c,a,b))) (
 some (.inr (d,e,f,g)))
def j0B [LP] (b e a d c):=LP.lp (fun h=>j0f h.1 h.2.1 h.2.2.1 h.2.2.2.1 h.2.2.2.2) (b,e,a,d,c)
theorem j6F (b e a d c):j0B b e a d c=lpK (j0f b e a d c) (fun h=>j0B h.1 h.2.1 h.2.2.1 h.2.2.2.1 h.2.2.2.2):=j04 _ _
def j3a (b c a f:Int) (e:Tn2):Option ((Int×Int×Int×Int×Tn2) ⊕ ((Int×Int×Int×Tn2))):=
 cond (decide (f≤b)) (
 let d:=(w64 (a+c))
 none) (
 some (.inr (b,c,a,e)))
def j2n [LP] (b e a d:Int) (c:Tn2):Option ((Int×Int×Int×Tn2)):=
 LP.lp (unc5 (j3a)) (b,e,a,d,c)
def j0g [LP] (f e:Int) (g:Tn2):Option ((Int×Int×Tn2) ⊕ (Tn2)):=
 cond (decide (e<f)) (
 let b:=(w64 (2*e))
 (j2n f e 0 b g).bind fun a=>
 let c:=(w64 (a.2.2.1+a.2.1))
 cond (decide (c<a.1)) (
 none) (
 let d:=(w64 (a.2.1*2))
 some (.inl (a.1,d,a.2.2.2)))) (
 some (.inr g))
def j0C [LP] (a b c):=LP.lp (fun h=>j0g h.1 h.2.1 h.2.2) (a,b,c)
theorem j6G (a b c):j0C a b c=lpK (j0g a b c) (fun h=>j0C h.1 h.2.1 h.2.2):=j04 _ _
def j0P [LP] (a:Tn2) (c:Int):Option (Tn2):=
 (j0B c 20 0 20 a).bind fun b=>
 (j0e b.2.2.2 b.2.2.1 b.1).bind fun d=>
 (j0C b.1 b.2.1 d).bind fun e=>
 some e
def j0c [LP] (a:Tn2):Option (Tn2):=
 let b:=(Int.ofNat (List.length a))
 (j0P a b).bind fun c=>
 some c
def j2Y (n:Int) (d:Tn42) (l b:Int) (m:ByteArray) (e:Int) (f:Tn42):Option ((Int×Tn42×Int×Int×ByteArray×Int×Tn42) ⊕ (Int ⊕ (Int×ByteArray×Int×Tn42))):=
 cond (decide (b<l)) (
 cond (inR b (List.length d)) (
 let a:=(List.getD d (Int.toNat b) (0,(0,(0,(0,(0,(0,0)))))))
 (jgM (a.1,(a.2.1,(a.2.2.1,(a.2.2.2.1,(a.2.2.2.2.1,(a.2.2.2.2.2.1,a.2.2.2.2.2.2))))))).bind fun c=>
 cond (c != 0) (
 some (.inr (.inl c))) (
 let g:=(w64 (a.2.1-a.1))
 let k:=(w64 (g+1))
 let i:=(w64 (n+k))
 let j:=(w64 (b+1))
 some (.inl (i,d,l,j,m,e,f)))) none) (
 some (.inr (.inr (n,m,e,f))))
def j2P [LP] (g c d e f a b):=LP.lp (fun h=>j2Y h.1 h.2.1 h.2.2.1 h.2.2.2.1 h.2.2.2.2.1 h.2.2.2.2.2.1 h.2.2.2.2.2.2) (g,c,d,e,f,a,b)
theorem j9Y (g c d e f a b):j2P g c d e f a b=lpK (j2Y g c d e f a b) (fun h=>j2P h.1 h.2.1 h.2.2.1 h.2.2.2.1 h.2.2.2.2.1 h.2.2.2.2.2.1 h.2.2.2.2.2.2):=j04 _ _
def j18 [LP] (i:Int) (o:Tn42) (p q s e d b g c f:Int) (r:Tn2):Option ((Int×Tn42×Int×Int×Int×Int×Int×Int×Int×Int×Int×Tn2) ⊕ ((Tn42×Int×Int×Tn2))):=
 cond (decide (i≤e)) (
 (jcs i d b g).bind fun n=>
 let j:=(w64 (n.1*86400))
 let l:=(w64 (j+c))
 let a:Tn2:=[(l,f)]
 cond (decide (List.length r+List.length a≤j07)) (
 let m:Tn2:=(r++a)
 let k:=(w64 (i+1))
 some (.inl (k,o,p,q,s,e,d,b,g,c,f,m))) none) (
 some (.inr (o,p,q,r)))
def j3y [LP] (i g k l j d c a f b e m):=LP.lp (fun h=>j18 h.1 h.2.1 h.2.2.1 h.2.2.2.1 h.2.2.2.2.1 h.2.2.2.2.2.1 h.2.2.2.2.2.2.1 h.2.2.2.2.2.2.2.1 h.2.2.2.2.2.2.2.2.1 h.2.2.2.2.2.2.2.2.2.1 h.2.2.2.2.2.2.2.2.2.2.1 h.2.2.2.2.2.2.2.2.2.2.2) (i,g,k,l,j,d,c,a,f,b,e,m)
theorem j9Z (i g k l j d c a f b e m):j3y i g k l j d c a f b e m=lpK (j18 i g k l j d c a f b e m) (fun h=>j3y h.1 h.2.1 h.2.2.1 h.2.2.2.1 h.2.2.2.2.1 h.2.2.2.2.2.1 h.2.2.2.2.2.2.1 h.2.2.2.2.2.2.2.1 h.2.2.2.2.2.2.2.2.1 h.2.2.2.2.2.2.2.2.2.1 h.2.2.2.2.2.2.2.2.2.2.1 h.2.2.2.2.2.2.2.2.2.2.2):=j04 _ _
def j19 [LP] (d:Tn42) (f c:Int) (g:Tn2):Option ((Tn42×Int×Int×Tn2) ⊕ (Tn2)):=
 cond (decide (c<f)) (
 cond (inR c (List.length d)) (
 let a:=(List.getD d (Int.toNat c) (0,(0,(0,(0,(0,(0,0)))))))
 (j3y a.1 d f c a.1 a.2.1 a.2.2.1 a.2.2.2.1 a.2.2.2.2.1 a.2.2.2.2.2.1 a.2.2.2.2.2.2 g).bind fun b=>
 let e:=(w64 (b.2.2.1+1))
 some (.inl (b.1,b.2.1,e,b.2.2.2))) none) (
 some (.inr g))
def j2Q [LP] (a b c d):=LP.lp (fun h=>j19 h.1 h.2.1 h.2.2.1 h.2.2.2) (a,b,c,d)
theorem ja0 (a b c d):j2Q a b c d=lpK (j19 a b c d) (fun h=>j2Q h.1 h.2.1 h.2.2.1 h.2.2.2):=j04 _ _
def j4e [LP] (a:Tn52):Option (Tn2×Int):=
 (jbo a.2.1 (-64800) 64800).bind fun e=>
 cond (!e) (
 some (([]:Tn2),1)) (
 let c:=(Int.ofNat (List.length a.2.2))
 cond (decide (c>16)) (
 some (([]:Tn2),5)) (
 let f:=(Int.ofNat (List.length a.2.2))
 (j2P 0 a.2.2 f 0 a.1 a.2.1 a.2.2).bind fun j=>
 sumC j (fun k=>
 some (([]:Tn2),k)) (fun g=>
 cond (decide (g.1>640)) (
 some (([]:Tn2),5)) (
 let b:=(Int.ofNat (List.length g.2.2.2))
 (j2Q g.2.2.2 b 0 ([]:Tn2)).bind fun i=>
 (j0c i).bind fun d=>
 some (d,0)))))
def j2Z (v m c:Int) (a e:Tn2):Option ((Int×Int×Int×Tn2×Tn2) ⊕ (Int ⊕ Tn2)):=
 cond (decide (c<m)) (
 cond (inR c (List.length e)) (
 let w:=(List.getD e (Int.toNat c) (0,0)).1
 let b:=(List.getD e (Int.toNat c) (0,0)).2
 cond (b==v) (
 let o:=(w64 (c+1))
 some (.inl (v,m,o,a,e))) (
 let d:=(w64 (w-v))
 let g:=(w64 (b-v))
 cond (cond (decide (g≥86400)) true (decide (g≤(-86400)))) (
 let n:=(Int.ofNat (List.length a))
 let r:=(Int.ofNat (List.length a))
 let k:=(w64 (r-1))
 cond ((inR k (List.length a)) || !((!true)&&(decide (n>0)))) (
 let s:=(List.getD a (Int.toNat k) (0,0)).1
 let y:=(w64 (s+604800))
 some (.inr (.inl 6))) none) (
 (jbo d 0 8589934592).bind fun j=>
 let f:=(Int.ofNat (List.length a))
 let t:=(Int.ofNat (List.length a))
 let l:=(w64 (t-1))
 cond ((inR l (List.length a)) || !((!(!j))&&(decide (f>0)))) (
 let u:=(List.getD a (Int.toNat l) (0,0)).1
 let q:=(w64 (u+604800))
 cond (cond (!j) true (cond (decide (f>0)) (decide (d<q)) false)) (
 some (.inr (.inl 6))) (
 let i:Tn2:=[(d,b)]
 cond (decide (List.length a+List.length i≤j07)) (
 let x:Tn2:=(a++i)
 let p:=(w64 (c+1))
 some (.inl (b,m,p,x,e))) none)) none))) none) (
 some (.inr (.inr a)))
def j2R [LP] (d a c e b):=LP.lp (fun h=>j2Z h.1 h.2.1 h.2.2.1 h.2.2.2.1 h.2.2.2.2) (d,a,c,e,b)
theorem ja1 (d a c e b):j2R d a c e b=lpK (j2Z d a c e b) (fun h=>j2R h.1 h.2.1 h.2.2.1 h.2.2.2.1 h.2.2.2.2):=j04 _ _
def j2u [LP] (a:Tn52):Option (Tn2×Int):=
 (j4e (a.1,(a.2.1,a.2.2))).bind fun b=>
 cond (b.2 != 0) (
 some (([]:Tn2),b.2)) (
 let c:=(Int.ofNat (List.length b.1))
 (j2R a.2.1 c 0 ([]:Tn2) b.1).bind fun d=>
 sumC d (fun f=>
 some (([]:Tn2),f)) (fun e=>
 some (e,0)))
def j98 [LP] (a:Tn52):Option (Int):=
 (j2u (a.1,(a.2.1,a.2.2))).bind fun b=>
 some b.2
def j8a (a:Tn38):Option (Bool):=
 let b:=(Int.tmod a.2.2.2.2.2.2 60)
 some (b != 0)
def j0t (e:Tn42) (f b:Int):Option ((Tn42×Int×Int) ⊕ (Int ⊕ Unit)):=
 cond (decide (b<f)) (
 cond (inR b (List.length e)) (
 let a:=(List.getD e (Int.toNat b) (0,(0,(0,(0,(0,(0,0)))))))
 (j8a (a.1,(a.2.1,(a.2.2.1,(a.2.2.2.1,(a.2.2.2.2.1,(a.2.2.2.2.2.1,a.2.2.2.2.2.2))))))).bind fun d=>
 cond d (
 some (.inr (.inl b))) (
 let c:=(w64 (b+1))
 some (.inl (e,f,c)))) none) (
 some (.inr (.inr ())))
def j0n [LP] (a b c):=LP.lp (fun h=>j0t h.1 h.2.1 h.2.2) (a,b,c)
theorem j2F (a b c):j0n a b c=lpK (j0t a b c) (fun h=>j0n h.1 h.2.1 h.2.2):=j04 _ _
def j0w [LP] (a:Tn42):Option (Int):=
 let b:=(Int.ofNat (List.length a))
 (j0n a b 0).bind fun c=>
 sumC c (fun d=>
 some d) (fun e=>
 some (-1))
def j0o [LP] (a:Tn42):Option (Bool):=
 (j0w a).bind fun b=>
 some (decide (b≥0))
def j30 [LP] (a:Tn52):Option (Int):=
 (j98 (a.1,(a.2.1,a.2.2))).bind fun d=>
 let c:=(Int.tmod a.2.1 60)
 cond (cond (d != 0) true (c != 0)) (
 some 8) (
 (j0o a.2.2).bind fun b=>
 cond b (
 some 8) (
 some 0))
def j0G [LP] (e:Tn54) (i c:Int) (j:(List (ByteArray×Bool))):Option ((Tn54×Int×Int×(List (ByteArray×Bool))) ⊕ (Int ⊕ Unit)):=
 cond (decide (c<i)) (
 cond (inR c (List.length e)) (
 let a:=(List.getD e (Int.toNat c) (ByteArray.empty,(0,([]:Tn42))))
 (jbn (a.1,(a.2.1,a.2.2))).bind fun g=>
 (j3Q g j).bind fun b=>
 cond (b.1 != 0) (
 some (.inr (.inl b.1))) (
 (j30 (a.1,(a.2.1,a.2.2))).bind fun d=>
 cond (d != 0) (
 some (.inr (.inl d))) (
 let f:=(w64 (c+1))
 some (.inl (e,i,f,b.2))))) none) (
 some (.inr (.inr ())))
def j1v [LP] (c:Tn54) (a b:Int) (d:(List (ByteArray×Bool))):Option (Int ⊕ Unit):=
 LP.lp (fun h=>j0G h.1 h.2.1 h.2.2.1 h.2.2.2) (c,a,b,d)
theorem j7d (c:Tn54) (a b:Int) (d:(List (ByteArray×Bool))):j1v c a b d=lpK (j0G c a b d) (fun h=>j1v h.1 h.2.1 h.2.2.1 h.2.2.2):=j04 _ _
def j2a [LP] (a:Tn54):Option (Int):=
 let b:(List (ByteArray×Bool)):=([]:(List (ByteArray×Bool)))
 let c:=(Int.ofNat (List.length a))
 (j1v a c 0 b).bind fun d=>
 sumC d (fun e=>
 some e) (fun f=>
 some 0)
def j2v (a b:Int):Option (Bool):=
 some (cond (decide (a≥0)) (decide (a<b)) false)
def j58 (d f:Tn2) (k b:Int):Option ((Tn2×Tn2×Int×Int) ⊕ (Int ⊕ Unit)):=
 cond (decide (b<k)) (
 cond (inR b (List.length f)) (
 let a:=(List.getD f (Int.toNat b) (0,0))
 let e:Bool:=(cond (cond (decide (a.1<0)) true (decide (a.1≥a.2))) true (decide (a.2>604800)))
 cond e (
 some (.inr (.inl 1))) (
 cond (decide (b>0)) (
 let c:=(w64 (b-1))
 cond (inR c (List.length d)) (
 let j:=(List.getD d (Int.toNat c) (0,0))
 cond (decide (a.1<j.2)) (
 some (.inr (.inl 6))) (
 let g:=(w64 (b+1))
 some (.inl (d,f,k,g)))) none) (
 let i:=(w64 (b+1))
 some (.inl (d,f,k,i))))) none) (
 some (.inr (.inr ())))
def j7V [LP] (b c d a):=LP.lp (fun h=>j58 h.1 h.2.1 h.2.2.1 h.2.2.2) (b,c,d,a)
theorem jg4 (b c d a):j7V b c d a=lpK (j58 b c d a) (fun h=>j7V h.1 h.2.1 h.2.2.1 h.2.2.2):=j04 _ _
def j99 [LP] (a:Tn2):Option (Int):=
 let c:=(Int.ofNat (List.length a))
 cond (decide (c>14)) (
 some 5) (
 let b:=(Int.ofNat (List.length a))
 (j7V a a b 0).bind fun d=>
 sumC d (fun e=>
 some e) (fun f=>
 some 0))
def j7W (a b c:Int):Option (Bool):=
 some (cond (decide (a≥b)) (decide (a≤c)) false)
def j59 (a:Int):Option (Bool):=
 (j7W a 0 604800).bind fun c=>
 let b:=(Int.tmod a 3600)
 some (cond c (b==0) false)
def j1W [LP] (b:Tn71) (a:Tn44):Option (Int):=
 let c:=(Int.ofNat (List.length b.1))
 (j2v a.2.1 c).bind fun d=>
 cond (!d) (
 some 3) (
 (j99 a.2.2.1).bind fun g=>
 cond (g != 0) (
 some 8) (
 (j59 a.2.2.2.1).bind fun f=>
 cond (!f) (
 some 1) (
 (j59 a.2.2.2.2.1).bind fun e=>
 cond (!e) (
 some 1) (
 some 0))))
def jbp (a:Tn19):Option (ByteArray):=
 some a.1
def jdJ (e c:Int):Option ((Int×Int) ⊕ (Int)):=
 let b:=(w64 (c+1))
 (j5y b).bind fun d=>
 cond (decide (d≤e)) (
 let a:=(w64 (c+1))
 some (.inl (e,a))) (
 some (.inr c))
def jfg [LP] (a b:Int):Option (Int):=
 LP.lp (unc2 (jdJ)) (a,b)
def jeI [LP] (a:Int):Option (Int):=
 (j8R a 366).bind fun c=>
 let b:=(w64 (1970+c))
 (jfg a b).bind fun d=>
 some d
def jbQ (k l c b j a d:Int):Option ((Int×Int×Int×Int×Int×Int×Int) ⊕ ((Int×Int×Int×Int×Int×Int×Int))):=
 (j7U j a).bind fun g=>
 cond (decide (k≥g)) (
 (j7U j a).bind fun f=>
 let i:=(w64 (k-f))
 let e:=(w64 (a+1))
 some (.inl (i,l,c,b,j,e,d))) (
 some (.inr (k,l,c,b,j,a,d)))
def jct [LP] (f e c a g b d:Int):Option ((Int×Int×Int×Int×Int×Int×Int)):=
 LP.lp (unc7 (jbQ)) (f,e,c,a,g,b,d)
def j5a [LP] (a:Int):Option (Tn3×Int):=
 (j5y 1970).bind fun i=>
 cond (decide (a<i)) (
 some ((0,(0,0)),1)) (
 (j5y 2241).bind fun d=>
 cond (decide (a≥d)) (
 some ((0,(0,0)),1)) (
 (jeI a).bind fun b=>
 (j5y b).bind fun e=>
 let g:=(w64 (a-e))
 (jct g 0 0 0 b 1 0).bind fun c=>
 let f:=(w64 (c.1+1))
 some ((c.2.2.2.2.1,(c.2.2.2.2.2.1,f)),0)))
def j0W [LP] (a:Int):Option (Bool):=
 (j5a a).bind fun b=>
 some (b.2==0)
def j2f [LP] (a:Int):Option (Bool):=
 (j0W a).bind fun b=>
 some (!b)
def j0y [LP] (e:(List Int)) (f a:Int):Option (((List Int)×Int×Int) ⊕ (Int ⊕ Unit)):=
 cond (decide (a<f)) (
 cond (inR a (List.length e)) (
 let b:=(List.getD e (Int.toNat a) 0)
 (j2f b).bind fun d=>
 cond d (
 some (.inr (.inl a))) (
 let c:=(w64 (a+1))
 some (.inl (e,f,c)))) none) (
 some (.inr (.inr ())))
def j1G [LP] (a b c):=LP.lp (fun h=>j0y h.1 h.2.1 h.2.2) (a,b,c)
theorem j6h (a b c):j1G a b c=lpK (j0y a b c) (fun h=>j1G h.1 h.2.1 h.2.2):=j04 _ _
def j2g [LP] (a:(List Int)):Option (Int):=
 let b:=(Int.ofNat (List.length a))
 (j1G a b 0).bind fun c=>
 sumC c (fun d=>
 some d) (fun e=>
 some (-1))
def j1H [LP] (a:(List Int)):Option (Bool):=
 (j2g a).bind fun b=>
 some (decide (b≥0))
def j23 (e b:Int) (k:ByteArray) (d:Int) (a:(List Int)):Option ((Int×Int×ByteArray×Int×(List Int)) ⊕ (Int ⊕ Unit)):=
 cond (decide (b<e)) (
 cond (decide (b>0)) (
 cond (inR b (List.length a)) (
 let f:=(List.getD a (Int.toNat b) 0)
 let c:=(w64 (b-1))
 cond (inR c (List.length a)) (
 let i:=(List.getD a (Int.toNat c) 0)
 cond (decide (f≤i)) (
 some (.inr (.inl 6))) (
 let g:=(w64 (b+1))
 some (.inl (e,g,k,d,a)))) none) none) (
 let j:=(w64 (b+1))
 some (.inl (e,j,k,d,a)))) (
 some (.inr (.inr ())))
def j2h [LP] (d c e a b):=LP.lp (fun h=>j23 h.1 h.2.1 h.2.2.1 h.2.2.2.1 h.2.2.2.2) (d,c,e,a,b)
theorem j7q (d c e a b):j2h d c e a b=lpK (j23 d c e a b) (fun h=>j2h h.1 h.2.1 h.2.2.1 h.2.2.2.1 h.2.2.2.2):=j04 _ _
def j1P [LP] (b:Tn71) (a:Tn19):Option (Int):=
 let c:=(Int.ofNat (List.length b.1))
 (j2v a.2.1 c).bind fun e=>
 cond (!e) (
 some 3) (
 let d:=(Int.ofNat (List.length a.2.2))
 cond (decide (d>64)) (
 some 5) (
 (j1H a.2.2).bind fun f=>
 cond f (
 some 1) (
 let g:=(Int.ofNat (List.length a.2.2))
 (j2h g 0 a.1 a.2.1 a.2.2).bind fun i=>
 sumC i (fun j=>
 some j) (fun k=>
 some 0))))
def j52 [LP] (a:Tn19) (e:Tn54) (c:Tn48) (d:Tn26) (b:Tn65):Option (Int):=
 (j1P (e,(c,(d,b))) (a.1,(a.2.1,a.2.2))).bind fun f=>
 some f
def j0u [LP] (m:Tn54) (f:Tn48) (g:Tn26) (e:Tn65) (i:Tn26) (l c:Int) (n:(List (ByteArray×Bool))):Option ((Tn54×Tn48×Tn26×Tn65×Tn26×Int×Int×(List (ByteArray×Bool))) ⊕ (Int ⊕ Unit)):=
 cond (decide (c<l)) (
 cond (inR c (List.length i)) (
 let a:=(List.getD i (Int.toNat c) (ByteArray.empty,(0,([]:(List Int)))))
 (jbp (a.1,(a.2.1,a.2.2))).bind fun k=>
 (j3Q k n).bind fun b=>
 cond (b.1 != 0) (
 some (.inr (.inl b.1))) (
 (j52 (a.1,(a.2.1,a.2.2)) m f g e).bind fun d=>
 cond (d != 0) (
 some (.inr (.inl d))) (
 let j:=(w64 (c+1))
 some (.inl (m,f,g,e,i,l,j,b.2))))) none) (
 some (.inr (.inr ())))
def j10 [LP] (g:Tn54) (b:Tn48) (c:Tn26) (a:Tn65) (f:Tn26) (d e:Int) (i:(List (ByteArray×Bool))):Option (Int ⊕ Unit):=
 LP.lp (fun h=>j0u h.1 h.2.1 h.2.2.1 h.2.2.2.1 h.2.2.2.2.1 h.2.2.2.2.2.1 h.2.2.2.2.2.2.1 h.2.2.2.2.2.2.2) (g,b,c,a,f,d,e,i)
theorem j5I (g:Tn54) (b:Tn48) (c:Tn26) (a:Tn65) (f:Tn26) (d e:Int) (i:(List (ByteArray×Bool))):j10 g b c a f d e i=lpK (j0u g b c a f d e i) (fun h=>j10 h.1 h.2.1 h.2.2.1 h.2.2.2.1 h.2.2.2.2.1 h.2.2.2.2.2.1 h.2.2.2.2.2.2.1 h.2.2.2.2.2.2.2):=j04 _ _
def j1i [LP] (e:Tn26) (d:Tn54) (b:Tn48) (a:Tn26) (c:Tn65):Option (Int):=
 let f:(List (ByteArray×Bool)):=([]:(List (ByteArray×Bool)))
 let g:=(Int.ofNat (List.length e))
 (j10 d b a c e g 0 f).bind fun i=>
 sumC i (fun j=>
 some j) (fun k=>
 some 0)
def jbq (a:Tn64):Option (ByteArray):=
 some a.1
def j5W (a:Tn59):Option (ByteArray):=
 some a.1
def j7r (b:Int) (g:Tn54) (a:Tn48) (d:Tn26) (c:Tn65):Option (Bool):=
 let f:=(Int.ofNat (List.length a))
 (j2v b f).bind fun e=>
 some (!e)
def j16 (i:(List Int)) (j:Tn54) (a:Tn48) (b:Tn26) (d:Tn65) (k c:Int):Option (((List Int)×Tn54×Tn48×Tn26×Tn65×Int×Int) ⊕ (Int ⊕ Unit)):=
 cond (decide (c<k)) (
 cond (inR c (List.length i)) (
 let e:=(List.getD i (Int.toNat c) 0)
 (j7r e j a b d).bind fun g=>
 cond g (
 some (.inr (.inl c))) (
 let f:=(w64 (c+1))
 some (.inl (i,j,a,b,d,k,f)))) none) (
 some (.inr (.inr ())))
def j1a [LP] (d e a b c f g):=LP.lp (fun h=>j16 h.1 h.2.1 h.2.2.1 h.2.2.2.1 h.2.2.2.2.1 h.2.2.2.2.2.1 h.2.2.2.2.2.2) (d,e,a,b,c,f,g)
theorem j5b (d e a b c f g):j1a d e a b c f g=lpK (j16 d e a b c f g) (fun h=>j1a h.1 h.2.1 h.2.2.1 h.2.2.2.1 h.2.2.2.2.1 h.2.2.2.2.2.1 h.2.2.2.2.2.2):=j04 _ _
def j1I [LP] (b:(List Int)) (e:Tn54) (a:Tn48) (c:Tn26) (d:Tn65):Option (Int):=
 let f:=(Int.ofNat (List.length b))
 (j1a b e a c d f 0).bind fun g=>
 sumC g (fun i=>
 some i) (fun j=>
 some (-1))
def j1b [LP] (e:(List Int)) (d:Tn54) (a:Tn48) (b:Tn26) (c:Tn65):Option (Bool):=
 (j1I e d a b c).bind fun f=>
 some (decide (f≥0))
def j2G [LP] (b:Tn71) (a:Tn59):Option (Int):=
 let g:=(Int.ofNat (List.length b.1))
 (j2v a.2.1 g).bind fun i=>
 cond (!i) (
 some 3) (
 cond (decide (a.2.2.1.1<1)) (
 some 1) (
 (j0W a.2.2.1.1).bind fun j=>
 cond (!j) (
 some 1) (
 (j7W a.2.2.1.2 0 86399).bind fun o=>
 cond (!o) (
 some 1) (
 (j7W a.2.2.2.1 0 2).bind fun e=>
 cond (!e) (
 some 1) (
 (j7W a.2.2.2.2.1 1 400).bind fun m=>
 cond (!m) (
 some 1) (
 let c:=(Int.ofNat (List.length a.2.2.2.2.2.1))
 cond (c==0) (
 some 7) (
 let d:=(Int.ofNat (List.length a.2.2.2.2.2.1))
 cond (decide (d>12)) (
 some 5) (
 (j1b a.2.2.2.2.2.1 b.1 b.2.1 b.2.2.1 b.2.2.2).bind fun p=>
 cond p (
 some 3) (
 (j99 a.2.2.2.2.2.2.1).bind fun l=>
 cond (l != 0) (
 some 8) (
 (j7W a.2.2.2.2.2.2.2.2 0 2).bind fun f=>
 cond (!f) (
 some 1) (
 let n:=(Int.ofNat (List.length b.2.2.1))
 cond (a.2.2.2.2.2.2.2.2 != 0) (
 (j2v a.2.2.2.2.2.2.2.1 n).bind fun k=>
 cond (!k) (
 some 3) (
 cond (cond (a.2.2.2.2.2.2.2.2==0) (a.2.2.2.2.2.2.2.1 != 0) false) (
 some 1) (
 some 0))) (
 cond (cond (a.2.2.2.2.2.2.2.2==0) (a.2.2.2.2.2.2.2.1 != 0) false) (
 some 1) (
 some 0)))))))))))))
def j2i [LP] (a:Tn59) (e:Tn54) (c:Tn48) (d:Tn26) (b:Tn65):Option (Int):=
 (j2G (e,(c,(d,b))) (a.1,(a.2.1,((a.2.2.1.1,a.2.2.1.2),(a.2.2.2.1,(a.2.2.2.2.1,(a.2.2.2.2.2.1,(a.2.2.2.2.2.2.1,(a.2.2.2.2.2.2.2.1,a.2.2.2.2.2.2.2.2))))))))).bind fun f=>
 some f
def j0D [LP] (m:Tn54) (f:Tn48) (g:Tn26) (e:Tn65) (i:Tn60) (l c:Int) (n:(List (ByteArray×Bool))):Option ((Tn54×Tn48×Tn26×Tn65×Tn60×Int×Int×(List (ByteArray×Bool))) ⊕ (Int ⊕ Unit)):=
 cond (decide (c<l)) (
 cond (inR c (List.length i)) (
 let a:=(List.getD i (Int.toNat c) (ByteArray.empty,(0,((0,0),(0,(0,(([]:(List Int)),(([]:Tn2),(0,0)))))))))
 (j5W (a.1,(a.2.1,((a.2.2.1.1,a.2.2.1.2),(a.2.2.2.1,(a.2.2.2.2.1,(a.2.2.2.2.2.1,(a.2.2.2.2.2.2.1,(a.2.2.2.2.2.2.2.1,a.2.2.2.2.2.2.2.2))))))))).bind fun k=>
 (j3Q k n).bind fun b=>
 cond (b.1 != 0) (
 some (.inr (.inl b.1))) (
 (j2i (a.1,(a.2.1,((a.2.2.1.1,a.2.2.1.2),(a.2.2.2.1,(a.2.2.2.2.1,(a.2.2.2.2.2.1,(a.2.2.2.2.2.2.1,(a.2.2.2.2.2.2.2.1,a.2.2.2.2.2.2.2.2)))))))) m f g e).bind fun d=>
 cond (d != 0) (
 some (.inr (.inl d))) (
 let j:=(w64 (c+1))
 some (.inl (m,f,g,e,i,l,j,b.2))))) none) (
 some (.inr (.inr ())))
def j1j [LP] (g:Tn54) (b:Tn48) (c:Tn26) (a:Tn65) (f:Tn60) (d e:Int) (i:(List (ByteArray×Bool))):Option (Int ⊕ Unit):=
 LP.lp (fun h=>j0D h.1 h.2.1 h.2.2.1 h.2.2.2.1 h.2.2.2.2.1 h.2.2.2.2.2.1 h.2.2.2.2.2.2.1 h.2.2.2.2.2.2.2) (g,b,c,a,f,d,e,i)
theorem j6H (g:Tn54) (b:Tn48) (c:Tn26) (a:Tn65) (f:Tn60) (d e:Int) (i:(List (ByteArray×Bool))):j1j g b c a f d e i=lpK (j0D g b c a f d e i) (fun h=>j1j h.1 h.2.1 h.2.2.1 h.2.2.2.1 h.2.2.2.2.1 h.2.2.2.2.2.1 h.2.2.2.2.2.2.1 h.2.2.2.2.2.2.2):=j04 _ _
def j1X [LP] (e:Tn60) (d:Tn54) (b:Tn48) (a:Tn26) (c:Tn65):Option (Int):=
 let f:(List (ByteArray×Bool)):=([]:(List (ByteArray×Bool)))
 let g:=(Int.ofNat (List.length e))
 (j1j d b a c e g 0 f).bind fun i=>
 sumC i (fun j=>
 some j) (fun k=>
 some 0)
def j31 [LP] (g:Tn71) (a:Tn24):Option (Int):=
 let i:=(Int.ofNat (List.length g.2.1))
 (j7W a.1 0 2).bind fun l=>
 cond (!l) (
 some 1) (
 (j2v a.2.1 i).bind fun f=>
 cond (cond (!f) (!(cond (a.1==1) (a.2.1==(-1)) false)) false) (
 cond (cond (!f) (!(cond (a.1==1) (a.2.1==(-1)) false)) false) (
 some 3) (
 cond (cond (a.1 != 2) (a.2.2.1 != 0) false) (
 some 1) (
 cond (cond (a.1==2) (a.2.1==a.2.2.1) false) (
 some 4) (
 let k:=(w64 (Int.tdiv a.2.2.2.2 86400))
 cond (cond (decide (a.2.2.2.1<0)) true (decide (a.2.2.2.2<0))) (
 some 1) (
 (j0W k).bind fun j=>
 cond (!j) (
 some 1) (
 cond (decide (a.2.2.2.1≥a.2.2.2.2)) (
 some 6) (
 some 0))))))) (
 cond (a.1==2) (
 (j2v a.2.2.1 i).bind fun m=>
 cond (!m) (
 some 3) (
 cond (cond (a.1 != 2) (a.2.2.1 != 0) false) (
 some 1) (
 cond (cond (a.1==2) (a.2.1==a.2.2.1) false) (
 some 4) (
 let b:=(w64 (Int.tdiv a.2.2.2.2 86400))
 cond (cond (decide (a.2.2.2.1<0)) true (decide (a.2.2.2.2<0))) (
 some 1) (
 (j0W b).bind fun e=>
 cond (!e) (
 some 1) (
 cond (decide (a.2.2.2.1≥a.2.2.2.2)) (
 some 6) (
 some 0))))))) (
 cond (cond (a.1 != 2) (a.2.2.1 != 0) false) (
 some 1) (
 cond (cond (a.1==2) (a.2.1==a.2.2.1) false) (
 some 4) (
 let d:=(w64 (Int.tdiv a.2.2.2.2 86400))
 cond (cond (decide (a.2.2.2.1<0)) true (decide (a.2.2.2.2<0))) (
 some 1) (
 (j0W d).bind fun c=>
 cond (!c) (
 some 1) (
 cond (decide (a.2.2.2.1≥a.2.2.2.2)) (
 some 6) (
 some 0))))))))
def j0M [LP] (g:Tn29) (j c:Int) (k:Tn54) (e:Tn48) (d:Tn26) (f:Tn65):Option ((Tn29×Int×Int×Tn54×Tn48×Tn26×Tn65) ⊕ (Int ⊕ Unit)):=
 cond (decide (c<j)) (
 cond (inR c (List.length g)) (
 let a:=(List.getD g (Int.toNat c) (0,(0,(0,(0,0)))))
 (j31 (k,(e,(d,f))) (a.1,(a.2.1,(a.2.2.1,(a.2.2.2.1,a.2.2.2.2))))).bind fun b=>
 cond (b != 0) (
 some (.inr (.inl b))) (
 let i:=(w64 (c+1))
 some (.inl (g,j,i,k,e,d,f)))) none) (
 some (.inr (.inr ())))
def j2j [LP] (e d f g b a c):=LP.lp (fun h=>j0M h.1 h.2.1 h.2.2.1 h.2.2.2.1 h.2.2.2.2.1 h.2.2.2.2.2.1 h.2.2.2.2.2.2) (e,d,f,g,b,a,c)
theorem j7s (e d f g b a c):j2j e d f g b a c=lpK (j0M e d f g b a c) (fun h=>j2j h.1 h.2.1 h.2.2.1 h.2.2.2.1 h.2.2.2.2.1 h.2.2.2.2.2.1 h.2.2.2.2.2.2):=j04 _ _
def j1Q [LP] (a:Tn71) (b:Tn64):Option (Int):=
 let d:=(Int.ofNat (List.length b.2.1))
 let e:=(Int.ofNat (List.length b.2.2))
 cond (cond (decide (d>6)) true (decide (e>48))) (
 some 5) (
 (j1X b.2.1 a.1 a.2.1 a.2.2.1 a.2.2.2).bind fun c=>
 cond (c != 0) (
 some c) (
 let f:=(Int.ofNat (List.length b.2.2))
 (j2j b.2.2 f 0 a.1 a.2.1 a.2.2.1 a.2.2.2).bind fun g=>
 sumC g (fun i=>
 some i) (fun j=>
 some 0)))
def j53 [LP] (a:Tn64) (e:Tn54) (c:Tn48) (d:Tn26) (b:Tn65):Option (Int):=
 (j1Q (e,(c,(d,b))) (a.1,(a.2.1,a.2.2))).bind fun f=>
 some f
def j0v [LP] (m:Tn54) (f:Tn48) (g:Tn26) (e i:Tn65) (l c:Int) (n:(List (ByteArray×Bool))):Option ((Tn54×Tn48×Tn26×Tn65×Tn65×Int×Int×(List (ByteArray×Bool))) ⊕ (Int ⊕ Unit)):=
 cond (decide (c<l)) (
 cond (inR c (List.length i)) (
 let a:=(List.getD i (Int.toNat c) (ByteArray.empty,(([]:Tn60),([]:Tn29))))
 (jbq (a.1,(a.2.1,a.2.2))).bind fun k=>
 (j3Q k n).bind fun b=>
 cond (b.1 != 0) (
 some (.inr (.inl b.1))) (
 (j53 (a.1,(a.2.1,a.2.2)) m f g e).bind fun d=>
 cond (d != 0) (
 some (.inr (.inl d))) (
 let j:=(w64 (c+1))
 some (.inl (m,f,g,e,i,l,j,b.2))))) none) (
 some (.inr (.inr ())))
def j11 [LP] (g:Tn54) (b:Tn48) (c:Tn26) (a f:Tn65) (d e:Int) (i:(List (ByteArray×Bool))):Option (Int ⊕ Unit):=
 LP.lp (fun h=>j0v h.1 h.2.1 h.2.2.1 h.2.2.2.1 h.2.2.2.2.1 h.2.2.2.2.2.1 h.2.2.2.2.2.2.1 h.2.2.2.2.2.2.2) (g,b,c,a,f,d,e,i)
theorem j5J (g:Tn54) (b:Tn48) (c:Tn26) (a f:Tn65) (d e:Int) (i:(List (ByteArray×Bool))):j11 g b c a f d e i=lpK (j0v g b c a f d e i) (fun h=>j11 h.1 h.2.1 h.2.2.1 h.2.2.2.1 h.2.2.2.2.1 h.2.2.2.2.2.1 h.2.2.2.2.2.2.1 h.2.2.2.2.2.2.2):=j04 _ _
def j1V [LP] (e:Tn65) (d:Tn54) (b:Tn48) (a:Tn26) (c:Tn65):Option (Int):=
 let f:(List (ByteArray×Bool)):=([]:(List (ByteArray×Bool)))
 let g:=(Int.ofNat (List.length e))
 (j11 d b a c e g 0 f).bind fun i=>
 sumC i (fun j=>
 some j) (fun k=>
 some 0)
def j1R [LP] (g:Tn48) (i f:Int) (j:Tn54) (c:Tn48) (d:Tn26) (e:Tn65) (r:(List (ByteArray×Bool))):Option ((Tn48×Int×Int×Tn54×Tn48×Tn26×Tn65×(List (ByteArray×Bool))) ⊕ (Int ⊕ (Tn54×Tn48×Tn26×Tn65))):=
 cond (decide (f<i)) (
 cond (inR f (List.length g)) (
 let a:=(List.getD g (Int.toNat f) (ByteArray.empty,(0,(([]:Tn2),(0,(0,false))))))
 (j3Q a.1 r).bind fun b=>
 let q:Bool:=(ByteArray.toList a.1==ByteArray.toList (ByteArray.mk #[110,111,98,111,100,121]))
 cond q (
 cond (2==0) (
 (j1W (j,(c,(d,e))) (a.1,(a.2.1,(a.2.2.1,(a.2.2.2.1,(a.2.2.2.2.1,a.2.2.2.2.2)))))).bind fun l=>
 cond (l != 0) (
 some (.inr (.inl l))) (
 let p:=(w64 (f+1))
 some (.inl (g,i,p,j,c,d,e,b.2)))) (
 cond (2 != 0) (
 some (.inr (.inl 2))) (
 let o:=(w64 (f+1))
 some (.inl (g,i,o,j,c,d,e,b.2))))) (
 cond (b.1==0) (
 (j1W (j,(c,(d,e))) (a.1,(a.2.1,(a.2.2.1,(a.2.2.2.1,(a.2.2.2.2.1,a.2.2.2.2.2)))))).bind fun k=>
 cond (k != 0) (
 some (.inr (.inl k))) (
 let m:=(w64 (f+1))
 some (.inl (g,i,m,j,c,d,e,b.2)))) (
 cond (b.1 != 0) (
 some (.inr (.inl b.1))) (
 let n:=(w64 (f+1))
 some (.inl (g,i,n,j,c,d,e,b.2)))))) none) (
 some (.inr (.inr (j,c,d,e))))
def j4f [LP] (f:Tn48) (e d:Int) (g:Tn54) (a:Tn48) (b:Tn26) (c:Tn65) (i:(List (ByteArray×Bool))):Option (Int ⊕ (Tn54×Tn48×Tn26×Tn65)):=
 LP.lp (fun h=>j1R h.1 h.2.1 h.2.2.1 h.2.2.2.1 h.2.2.2.2.1 h.2.2.2.2.2.1 h.2.2.2.2.2.2.1 h.2.2.2.2.2.2.2) (f,e,d,g,a,b,c,i)
theorem jcu (f:Tn48) (e d:Int) (g:Tn54) (a:Tn48) (b:Tn26) (c:Tn65) (i:(List (ByteArray×Bool))):j4f f e d g a b c i=lpK (j1R f e d g a b c i) (fun h=>j4f h.1 h.2.1 h.2.2.1 h.2.2.2.1 h.2.2.2.2.1 h.2.2.2.2.2.1 h.2.2.2.2.2.2.1 h.2.2.2.2.2.2.2):=j04 _ _
def j5c [LP] (a:Tn71):Option (Int):=
 let e:=(Int.ofNat (List.length a.1))
 let f:=(Int.ofNat (List.length a.2.1))
 let m:=(Int.ofNat (List.length a.2.2.1))
 let k:Bool:=(cond (cond (decide (e>16)) true (decide (f>32))) true (decide (m>8)))
 let j:=(Int.ofNat (List.length a.2.2.2))
 cond (cond k true (decide (j>12))) (
 some 5) (
 (j2a a.1).bind fun c=>
 cond (c != 0) (
 some c) (
 let l:(List (ByteArray×Bool)):=([]:(List (ByteArray×Bool)))
 let i:=(Int.ofNat (List.length a.2.1))
 (j4f a.2.1 i 0 a.1 a.2.1 a.2.2.1 a.2.2.2 l).bind fun n=>
 sumC n (fun o=>
 some o) (fun b=>
 (j1i b.2.2.1 b.1 b.2.1 b.2.2.1 b.2.2.2).bind fun d=>
 cond (d != 0) (
 some d) (
 (j1V b.2.2.2 b.1 b.2.1 b.2.2.1 b.2.2.2).bind fun g=>
 some g))))
def jgN [LP] (a:Tn52):Option (Tn13×Int):=
 (j2u (a.1,(a.2.1,a.2.2))).bind fun b=>
 some ((a.2.1,b.1),b.2)
def j2o [LP] (i:Tn54) (j c:Int) (g:Tn20):Option ((Tn54×Int×Int×Tn20) ⊕ (Tn20)):=
 cond (decide (c<j)) (
 cond (inR c (List.length i)) (
 let a:=(List.getD i (Int.toNat c) (ByteArray.empty,(0,([]:Tn42))))
 (jgN (a.1,(a.2.1,a.2.2))).bind fun b=>
 let d:Tn20:=[(b.1.1,b.1.2)]
 cond (decide (List.length g+List.length d≤j07)) (
 let e:Tn20:=(g++d)
 let f:=(w64 (c+1))
 some (.inl (i,j,f,e))) none) none) (
 some (.inr g))
def j5z [LP] (c d a b):=LP.lp (fun h=>j2o h.1 h.2.1 h.2.2.1 h.2.2.2) (c,d,a,b)
theorem jeJ (c d a b):j5z c d a b=lpK (j2o c d a b) (fun h=>j5z h.1 h.2.1 h.2.2.1 h.2.2.2):=j04 _ _
def jag [LP] (a:Tn54):Option (Tn20):=
 let b:=(Int.ofNat (List.length a))
 (j5z a b 0 ([]:Tn20)).bind fun c=>
 some c
def jcv [LP] (a:Tn71):Option (Tn73):=
 (jag a.1).bind fun b=>
 some ((a.1,(a.2.1,(a.2.2.1,a.2.2.2))),b)
def jfh [LP] (a:Tn71):Option (Tn73×Bool):=
 (j5c (a.1,(a.2.1,(a.2.2.1,a.2.2.2)))).bind fun c=>
 cond (c != 0) (
 some (((([]:Tn54),(([]:Tn48),(([]:Tn26),([]:Tn65)))),([]:Tn20)),false)) (
 (jcv (a.1,(a.2.1,(a.2.2.1,a.2.2.2)))).bind fun b=>
 some (((b.1.1,(b.1.2.1,(b.1.2.2.1,b.1.2.2.2))),b.2),true))
def jcw (b:Tn71) (a:Int):Option (Bool):=
 let c:=(Int.ofNat (List.length b.2.2.2))
 some (cond (decide (a≥0)) (decide (a<c)) false)
def jl8 (a b:Int):Option (Bool):=
 let d:Bool:=(cond (cond (decide (a≥0)) (decide (a≤8589934592)) false) (decide (b≥a)) false)
 let c:=(w64 (b-a))
 let e:Bool:=(cond (cond d (decide (b≤8589934592)) false) (decide (c≤34560000)) false)
 some e
def j6o [LP] (b:Tn71) (c d e:Int):Option (Tn73×Int):=
 (jfh (b.1,(b.2.1,(b.2.2.1,b.2.2.2)))).bind fun a=>
 cond (!a.2) (
 some (((a.1.1.1,(a.1.1.2.1,(a.1.1.2.2.1,a.1.1.2.2.2))),a.1.2),8)) (
 (jcw (b.1,(b.2.1,(b.2.2.1,b.2.2.2))) c).bind fun f=>
 cond (!f) (
 some (((a.1.1.1,(a.1.1.2.1,(a.1.1.2.2.1,a.1.1.2.2.2))),a.1.2),3)) (
 (jl8 d e).bind fun g=>
 cond (!g) (
 some (((a.1.1.1,(a.1.1.2.1,(a.1.1.2.2.1,a.1.1.2.2.2))),a.1.2),1)) (
 some (((a.1.1.1,(a.1.1.2.1,(a.1.1.2.2.1,a.1.1.2.2.2))),a.1.2),0))))
def j7t (b:Tn73) (a:Int):Option (Tn13):=
 cond (inR a (List.length b.2)) (
 let c:=(List.getD b.2 (Int.toNat a) (0,([]:Tn2)))
 some (c.1,c.2)) none
def jdK (a:Tn13):Option (Bool):=
 let b:=(Int.ofNat (List.length a.2))
 some (decide (b>0))
def jgO (a:Tn13):Option (Int):=
 let e:=(Int.ofNat (List.length a.2))
 cond (e==0) (
 some 0) (
 let d:=(Int.ofNat (List.length a.2))
 let b:=(w64 (d-1))
 cond (inR b (List.length a.2)) (
 let c:=(List.getD a.2 (Int.toNat b) (0,0))
 some c.1) none)
def j6p (j:Int) (i:Tn54) (b:Tn48) (c:Tn26) (a:Tn65) (d:Tn20) (g:Int):Option (Tn54×Tn48×Tn26×Tn65×Tn20×Int):=
 (j7t ((i,(b,(c,a))),d) j).bind fun e=>
 (jdK (e.1,e.2)).bind fun m=>
 cond m (
 (jgO (e.1,e.2)).bind fun k=>
 let f:=(w64 (k+86400))
 let l:Int:=(if f>g then f else g:Int)
 some (i,b,c,a,d,l)) (
 some (i,b,c,a,d,g))
def jah (a:Tn59):Option (Int):=
 cond (a.2.2.2.1==2) (
 let b:=(w64 (7*a.2.2.2.2.1))
 some b) (
 some a.2.2.2.2.1)
def j8T (b e:Int) (a:Tn2) (d:Int):Option (Bool):=
 cond (inR b (List.length a)) (
 let c:=(List.getD a (Int.toNat b) (0,0))
 some (decide (c.1>d))) none
def j3z (k:Int) (a:Tn2) (b d l:Int):Option ((Int×Tn2×Int×Int×Int) ⊕ (Int)):=
 cond (decide (d<l)) (
 let e:=(w64 (d+l))
 let i:Int:=(IntKind.wrap .u64 e)
 let f:Int:=(Int.fdiv i 2)
 let c:=(w64 f)
 (j8T c k a b).bind fun g=>
 cond (!g) (
 let j:=(w64 (c+1))
 some (.inl (k,a,b,j,l))) (
 some (.inl (k,a,b,d,c)))) (
 some (.inr d))
def j74 [LP] (c a b d e):=LP.lp (fun h=>j3z h.1 h.2.1 h.2.2.1 h.2.2.2.1 h.2.2.2.2) (c,a,b,d,e)
theorem jeK (c a b d e):j74 c a b d e=lpK (j3z c a b d e) (fun h=>j74 h.1 h.2.1 h.2.2.1 h.2.2.2.1 h.2.2.2.2):=j04 _ _
def jai [LP] (d c:Int) (a:Tn2) (b:Int):Option (Int):=
 (j74 c a b 0 d).bind fun e=>
 some e
def j3r [LP] (a:Tn13) (b:Int):Option (Int):=
 let c:=(Int.ofNat (List.length a.2))
 (jai c a.1 a.2 b).bind fun d=>
 some d
def j4F (a:Tn13) (b:Int):Option (Int):=
 cond (b==0) (
 some a.1) (
 let c:=(w64 (b-1))
 cond (inR c (List.length a.2)) (
 let d:=(List.getD a.2 (Int.toNat c) (0,0))
 some d.2) none)
def j0q [LP] (k c i:Int) (a:Tn2) (j:Tn14):Option ((Int×Int×Int×Tn2×Tn14) ⊕ (Tn14)):=
 cond (decide (k<c)) (
 (j3r (i,a) k).bind fun b=>
 let n:=(Int.ofNat (List.length a))
 cond (decide (b<n)) (
 cond (inR b (List.length a)) (
 let d:=(List.getD a (Int.toNat b) (0,0))
 let f:Int:=(if d.1<c then d.1 else c:Int)
 (j4F (i,a) b).bind fun o=>
 let g:Tn14:=[(k,(f,o))]
 cond (decide (List.length j+List.length g≤j07)) (
 let p:Tn14:=(j++g)
 some (.inl (f,c,i,a,p))) none) none) (
 (j4F (i,a) b).bind fun m=>
 let e:Tn14:=[(k,(c,m))]
 cond (decide (List.length j+List.length e≤j07)) (
 let l:Tn14:=(j++e)
 some (.inl (c,c,i,a,l))) none)) (
 some (.inr j))
def j25 [LP] (b c d a e):=LP.lp (fun h=>j0q h.1 h.2.1 h.2.2.1 h.2.2.2.1 h.2.2.2.2) (b,c,d,a,e)
theorem j2w (b c d a e):j25 b c d a e=lpK (j0q b c d a e) (fun h=>j25 h.1 h.2.1 h.2.2.1 h.2.2.2.1 h.2.2.2.2):=j04 _ _
def j1m [LP] (b:Tn13) (a c:Int):Option (Tn14):=
 (j25 a c b.1 b.2 ([]:Tn14)).bind fun d=>
 some d
def j4C (a:(Int×Int)):Option (Int):=
 let c:Int:=(if (-1048576)>a.1 then (-1048576) else a.1:Int)
 let d:Int:=(if 1048576<c then 1048576 else c:Int)
 let e:=(w64 (d*86400))
 let b:=(w64 (e+a.2))
 some b
def j1J (l a m f:Int) (b:Tn14):Option ((Int×Int×Int×Int×Tn14) ⊕ ((Int×Bool) ⊕ Unit)):=
 cond (decide (a<l)) (
 cond (inR a (List.length b)) (
 let c:=(List.getD b (Int.toNat a) (0,(0,0))).1
 let g:=(List.getD b (Int.toNat a) (0,(0,0))).2.1
 let i:=(List.getD b (Int.toNat a) (0,(0,0))).2.2
 (j4C (m,f)).bind fun j=>
 let d:=(w64 (j-i))
 let e:Int:=(if d>c then d else c:Int)
 cond (decide (e<g)) (
 some (.inr (.inl (e,true)))) (
 let k:=(w64 (a+1))
 some (.inl (l,k,m,f,b)))) none) (
 some (.inr (.inr ())))
def j2S [LP] (c b e a d):=LP.lp (fun h=>j1J h.1 h.2.1 h.2.2.1 h.2.2.2.1 h.2.2.2.2) (c,b,e,a,d)
theorem j4U (c b e a d):j2S c b e a d=lpK (j1J c b e a d) (fun h=>j2S h.1 h.2.1 h.2.2.1 h.2.2.2.1 h.2.2.2.2):=j04 _ _
def j1n [LP] (a:Tn13) (b:(Int×Int)):Option (Int×Bool):=
 (j1m (a.1,a.2) 0 8589934593).bind fun c=>
 let d:=(Int.ofNat (List.length c))
 (j2S d 0 b.1 b.2 c).bind fun e=>
 sumC e (fun f=>
 some (f.1,f.2)) (fun g=>
 some (0,false))
def j0E [LP] (b:Tn13) (a:Tn59) (c:Int):Option (Int×Bool):=
 cond (decide (c>8589934592)) (
 some (0,false)) (
 cond (a.2.2.2.1 != 0) (
 (jah (a.1,(a.2.1,((a.2.2.1.1,a.2.2.1.2),(a.2.2.2.1,(a.2.2.2.2.1,(a.2.2.2.2.2.1,(a.2.2.2.2.2.2.1,(a.2.2.2.2.2.2.2.1,a.2.2.2.2.2.2.2.2))))))))).bind fun i=>
 let g:=(w64 (c*i))
 let j:=(w64 (a.2.2.1.1+g))
 (j1n (b.1,b.2) (j,a.2.2.1.2)).bind fun e=>
 some (e.1,e.2)) (
 (j1n (b.1,b.2) (a.2.2.1.1,a.2.2.1.2)).bind fun d=>
 let k:=(w64 (3600*a.2.2.2.2.1))
 let l:=(w64 (k*c))
 let f:=(w64 (d.1+l))
 some (f,(cond d.2 (decide (f≤8589934592)) false))))
def j9a (d:Tn29) (m a:Int) (o:Tn54) (e:Tn48) (c:Tn26) (f:Tn65) (g:Tn20) (p:ByteArray) (i:Tn60) (j:Tn29) (n:Int):Option ((Tn29×Int×Int×Tn54×Tn48×Tn26×Tn65×Tn20×ByteArray×Tn60×Tn29×Int) ⊕ ((Tn54×Tn48×Tn26×Tn65×Tn20×ByteArray×Tn60×Tn29×Int))):=
 cond (decide (a<m)) (
 cond (inR a (List.length d)) (
 let b:=(List.getD d (Int.toNat a) (0,(0,(0,(0,0)))))
 let k:Int:=(if b.2.2.2.2>n then b.2.2.2.2 else n:Int)
 let l:=(w64 (a+1))
 some (.inl (d,m,l,o,e,c,f,g,p,i,j,k))) none) (
 some (.inr (o,e,c,f,g,p,i,j,n)))
def j8U [LP] (g i j k b a c d m e f l):=LP.lp (fun h=>j9a h.1 h.2.1 h.2.2.1 h.2.2.2.1 h.2.2.2.2.1 h.2.2.2.2.2.1 h.2.2.2.2.2.2.1 h.2.2.2.2.2.2.2.1 h.2.2.2.2.2.2.2.2.1 h.2.2.2.2.2.2.2.2.2.1 h.2.2.2.2.2.2.2.2.2.2.1 h.2.2.2.2.2.2.2.2.2.2.2) (g,i,j,k,b,a,c,d,m,e,f,l)
def j32 [LP] (f:Tn60) (g e:Int) (b4:Tn54) (b0:Tn48) (a9:Tn26) (b1:Tn65) (b2:Tn20) (b3:Int):Option ((Tn60×Int×Int×Tn54×Tn48×Tn26×Tn65×Tn20×Int) ⊕ (Int)):=
 cond (decide (e<g)) (
 cond (inR e (List.length f)) (
 let d:=(List.getD f (Int.toNat e) (ByteArray.empty,(0,((0,0),(0,(0,(([]:(List Int)),(([]:Tn2),(0,0)))))))))
 (j6p d.2.1 b4 b0 a9 b1 b2 b3).bind fun a=>
 (j7t ((a.1,(a.2.1,(a.2.2.1,a.2.2.2.1))),a.2.2.2.2.1) d.2.1).bind fun r=>
 (j0E (r.1,r.2) (d.1,(d.2.1,((d.2.2.1.1,d.2.2.1.2),(d.2.2.2.1,(d.2.2.2.2.1,(d.2.2.2.2.2.1,(d.2.2.2.2.2.2.1,(d.2.2.2.2.2.2.2.1,d.2.2.2.2.2.2.2.2)))))))) 0).bind fun m=>
 cond m.2 (
 let n:Int:=(if m.1>a.2.2.2.2.2 then m.1 else a.2.2.2.2.2:Int)
 cond (d.2.2.2.2.2.2.2.2==0) (
 let a1:=(w64 (e+1))
 some (.inl (f,g,a1,a.1,a.2.1,a.2.2.1,a.2.2.2.1,a.2.2.2.2.1,n))) (
 cond (inR d.2.2.2.2.2.2.2.1 (List.length a.2.2.1)) (
 let i:=(List.getD a.2.2.1 (Int.toNat d.2.2.2.2.2.2.2.1) (ByteArray.empty,(0,([]:(List Int)))))
 (j6p i.2.1 a.1 a.2.1 a.2.2.1 a.2.2.2.1 a.2.2.2.2.1 n).bind fun c=>
 let s:=(Int.ofNat (List.length i.2.2))
 cond (decide (s>0)) (
 (j7t ((c.1,(c.2.1,(c.2.2.1,c.2.2.2.1))),c.2.2.2.2.1) i.2.1).bind fun t=>
 let q:=(w64 (s-1))
 cond (inR q (List.length i.2.2)) (
 let a7:=(List.getD i.2.2 (Int.toNat q) 0)
 let a6:=(w64 (a7+1))
 (j1n (t.1,t.2) (a6,0)).bind fun k=>
 cond k.2 (
 let a2:Int:=(if k.1>c.2.2.2.2.2 then k.1 else c.2.2.2.2.2:Int)
 let a3:=(w64 (e+1))
 some (.inl (f,g,a3,c.1,c.2.1,c.2.2.1,c.2.2.2.1,c.2.2.2.2.1,a2))) (
 let a0:=(w64 (e+1))
 some (.inl (f,g,a0,c.1,c.2.1,c.2.2.1,c.2.2.2.1,c.2.2.2.2.1,c.2.2.2.2.2)))) none) (
 let x:=(w64 (e+1))
 some (.inl (f,g,x,c.1,c.2.1,c.2.2.1,c.2.2.2.1,c.2.2.2.2.1,c.2.2.2.2.2)))) none)) (
 cond (d.2.2.2.2.2.2.2.2==0) (
 let y:=(w64 (e+1))
 some (.inl (f,g,y,a.1,a.2.1,a.2.2.1,a.2.2.2.1,a.2.2.2.2.1,a.2.2.2.2.2))) (
 cond (inR d.2.2.2.2.2.2.2.1 (List.length a.2.2.1)) (
 let j:=(List.getD a.2.2.1 (Int.toNat d.2.2.2.2.2.2.2.1) (ByteArray.empty,(0,([]:(List Int)))))
 (j6p j.2.1 a.1 a.2.1 a.2.2.1 a.2.2.2.1 a.2.2.2.2.1 a.2.2.2.2.2).bind fun b=>
 let u:=(Int.ofNat (List.length j.2.2))
 cond (decide (u>0)) (
 (j7t ((b.1,(b.2.1,(b.2.2.1,b.2.2.2.1))),b.2.2.2.2.1) j.2.1).bind fun p=>
 let o:=(w64 (u-1))
 cond (inR o (List.length j.2.2)) (
 let a4:=(List.getD j.2.2 (Int.toNat o) 0)
 let a5:=(w64 (a4+1))
 (j1n (p.1,p.2) (a5,0)).bind fun l=>
 cond l.2 (
 let a8:Int:=(if l.1>b.2.2.2.2.2 then l.1 else b.2.2.2.2.2:Int)
 let w:=(w64 (e+1))
 some (.inl (f,g,w,b.1,b.2.1,b.2.2.1,b.2.2.2.1,b.2.2.2.2.1,a8))) (
 let z:=(w64 (e+1))
 some (.inl (f,g,z,b.1,b.2.1,b.2.2.1,b.2.2.2.1,b.2.2.2.2.1,b.2.2.2.2.2)))) none) (
 let v:=(w64 (e+1))
 some (.inl (f,g,v,b.1,b.2.1,b.2.2.1,b.2.2.2.1,b.2.2.2.2.1,b.2.2.2.2.2)))) none))) none) (
 some (.inr b3))
def j8V [LP] (g f e i b a c d j):=LP.lp (fun h=>j32 h.1 h.2.1 h.2.2.1 h.2.2.2.1 h.2.2.2.2.1 h.2.2.2.2.2.1 h.2.2.2.2.2.2.1 h.2.2.2.2.2.2.2.1 h.2.2.2.2.2.2.2.2) (g,f,e,i,b,a,c,d,j)
def j54 [LP] (b:Tn73) (a:Tn64):Option (Int):=
 let e:=(Int.ofNat (List.length a.2.2))
 (j8U a.2.2 e 0 b.1.1 b.1.2.1 b.1.2.2.1 b.1.2.2.2 b.2 a.1 a.2.1 a.2.2 0).bind fun c=>
 let d:=(Int.ofNat (List.length c.2.2.2.2.2.2.1))
 (j8V c.2.2.2.2.2.2.1 d 0 c.1 c.2.1 c.2.2.1 c.2.2.2.1 c.2.2.2.2.1 c.2.2.2.2.2.2.2.2).bind fun f=>
 some f
def j8b (a:(List Int)):Option ((List Int)):=
 cond (decide (List.length ([]:List (Int))+List.length a≤j07)) (
 some (([]:List (Int))++a)) none
def jaO (a c b:Int):Option (Bool):=
 some (cond (decide (a≤c)) true (decide (a≥b)))
def j17 (g a i c:Int) (b:(List Int)):Option ((Int×Int×Int×Int×(List Int)) ⊕ (Tn1 ⊕ (List Int))):=
 cond (decide (c<i)) (
 cond (inR c (List.length b)) (
 let e:=(List.getD b (Int.toNat c) 0)
 (jaO e g a).bind fun f=>
 cond f (
 some (.inr (.inl (c,b)))) (
 let d:=(w64 (c+1))
 some (.inl (g,a,i,d,b)))) none) (
 some (.inr (.inr b)))
def j0X [LP] (b a c e d):=LP.lp (fun h=>j17 h.1 h.2.1 h.2.2.1 h.2.2.2.1 h.2.2.2.2) (b,a,c,e,d)
theorem j5d (b a c e d):j0X b a c e d=lpK (j17 b a c e d) (fun h=>j0X h.1 h.2.1 h.2.2.1 h.2.2.2.1 h.2.2.2.2):=j04 _ _
def j1K [LP] (b:(List Int)) (c a:Int):Option Tn1:=
 let d:=(Int.ofNat (List.length b))
 (j0X c a d 0 b).bind fun e=>
 sumC e (fun f=>
 some (f.1,f.2)) (fun g=>
 some ((-1),g))
def j1o (l a d e:Int) (b:(List Int)):Option ((Int×Int×Int×Int×(List Int)) ⊕ (Tn1)):=
 let i:=(Int.ofNat (List.length b))
 cond (decide (e<i)) (
 cond (inR e (List.length b)) (
 let c:=(List.getD b (Int.toNat e) 0)
 (jaO c l a).bind fun g=>
 cond (!g) (
 cond (inR d (List.length b)) (
 let m:(List Int):=(List.set b (Int.toNat d) c)
 let f:=(w64 (d+1))
 let j:=(w64 (e+1))
 some (.inl (l,a,f,j,m))) none) (
 let k:=(w64 (e+1))
 some (.inl (l,a,d,k,b)))) none) (
 some (.inr (d,b)))
def j1B [LP] (b a c e d):=LP.lp (fun h=>j1o h.1 h.2.1 h.2.2.1 h.2.2.2.1 h.2.2.2.2) (b,a,c,e,d)
theorem j5X (b a c e d):j1B b a c e d=lpK (j1o b a c e d) (fun h=>j1B h.1 h.2.1 h.2.2.1 h.2.2.2.1 h.2.2.2.2):=j04 _ _
def j1w [LP] (e:(List Int)) (d a:Int):Option Tn1:=
 (j1K e d a).bind fun c=>
 cond (c.1==(-1)) (
 some ((Int.ofNat (List.length c.2)),c.2)) (
 let g:=(w64 (c.1+1))
 (j1B d a c.1 g c.2).bind fun b=>
 cond (decide (0≤b.1)&&decide (b.1≤(Int.ofNat (List.length b.2)))) (
 let f:(List Int):=(List.take (Int.toNat b.1) b.2++List.replicate (List.length b.2-(Int.toNat b.1)) 0)
 cond (decide (0≤b.1)&&decide (b.1≤(Int.ofNat (List.length f)))) (
 some ((Int.ofNat (Int.toNat b.1)),f)) none) none)
def jgP (a:Int):Option (Int):=
 cond (decide (a≥4294967296)) (
 let l:Int:=(Int.fdiv a 4294967296)
 cond (decide (l≥65536)) (
 let m:Int:=(Int.fdiv l 65536)
 let b4:=(w64 (32+16))
 cond (decide (m≥256)) (
 let b9:Int:=(Int.fdiv m 256)
 let b5:=(w64 (b4+8))
 let b3:Int:=(IntKind.wrap .u8 b9)
 cond (inR b3 (ByteArray.size (ByteArray.mk #[0,1,2,2,3,3,3,3,4,4,4,4,4,4,4,4,5,5,5,5,5,5,5,5,5,5,5,5,5,5,5,5,6,6,6,6,6,6,6,6,6,6,6,6,6,6,6,6,6,6,6,6,6,6,6,6,6,6,6,6,6,6,6,6,7,7,7,7,7,7,7,7,7,7,7,7,7,7,7,7,7,7,7,7,7,7,7,7,7,7,7,7,7,7,7,7,7,7,7,7,7,7,7,7,7,7,7,7,7,7,7,7,7,7,7,7,7,7,7,7,7,7,7,7,7,7,7,7,8,8,8,8,8,8,8,8,8,8,8,8,8,8,8,8,8,8,8,8,8,8,8,8,8,8,8,8,8,8,8,8,8,8,8,8,8,8,8,8,8,8,8,8,8,8,8,8,8,8,8,8,8,8,8,8,8,8,8,8,8,8,8,8,8,8,8,8,8,8,8,8,8,8,8,8,8,8,8,8,8,8,8,8,8,8,8,8,8,8,8,8,8,8,8,8,8,8,8,8,8,8,8,8,8,8,8,8,8,8,8,8,8,8,8,8,8,8,8,8,8,8,8,8,8,8,8,8]))) (
 let b8:=(j2J (ByteArray.mk #[0,1,2,2,3,3,3,3,4,4,4,4,4,4,4,4,5,5,5,5,5,5,5,5,5,5,5,5,5,5,5,5,6,6,6,6,6,6,6,6,6,6,6,6,6,6,6,6,6,6,6,6,6,6,6,6,6,6,6,6,6,6,6,6,7,7,7,7,7,7,7,7,7,7,7,7,7,7,7,7,7,7,7,7,7,7,7,7,7,7,7,7,7,7,7,7,7,7,7,7,7,7,7,7,7,7,7,7,7,7,7,7,7,7,7,7,7,7,7,7,7,7,7,7,7,7,7,7,8,8,8,8,8,8,8,8,8,8,8,8,8,8,8,8,8,8,8,8,8,8,8,8,8,8,8,8,8,8,8,8,8,8,8,8,8,8,8,8,8,8,8,8,8,8,8,8,8,8,8,8,8,8,8,8,8,8,8,8,8,8,8,8,8,8,8,8,8,8,8,8,8,8,8,8,8,8,8,8,8,8,8,8,8,8,8,8,8,8,8,8,8,8,8,8,8,8,8,8,8,8,8,8,8,8,8,8,8,8,8,8,8,8,8,8,8,8,8,8,8,8,8,8,8,8,8,8]) b3)
 let b7:=(w64 (b5+(w64 b8)))
 some b7) none) (
 let g:Int:=(IntKind.wrap .u8 m)
 cond (inR g (ByteArray.size (ByteArray.mk #[0,1,2,2,3,3,3,3,4,4,4,4,4,4,4,4,5,5,5,5,5,5,5,5,5,5,5,5,5,5,5,5,6,6,6,6,6,6,6,6,6,6,6,6,6,6,6,6,6,6,6,6,6,6,6,6,6,6,6,6,6,6,6,6,7,7,7,7,7,7,7,7,7,7,7,7,7,7,7,7,7,7,7,7,7,7,7,7,7,7,7,7,7,7,7,7,7,7,7,7,7,7,7,7,7,7,7,7,7,7,7,7,7,7,7,7,7,7,7,7,7,7,7,7,7,7,7,7,8,8,8,8,8,8,8,8,8,8,8,8,8,8,8,8,8,8,8,8,8,8,8,8,8,8,8,8,8,8,8,8,8,8,8,8,8,8,8,8,8,8,8,8,8,8,8,8,8,8,8,8,8,8,8,8,8,8,8,8,8,8,8,8,8,8,8,8,8,8,8,8,8,8,8,8,8,8,8,8,8,8,8,8,8,8,8,8,8,8,8,8,8,8,8,8,8,8,8,8,8,8,8,8,8,8,8,8,8,8,8,8,8,8,8,8,8,8,8,8,8,8,8,8,8,8,8,8]))) (
 let r:=(j2J (ByteArray.mk #[0,1,2,2,3,3,3,3,4,4,4,4,4,4,4,4,5,5,5,5,5,5,5,5,5,5,5,5,5,5,5,5,6,6,6,6,6,6,6,6,6,6,6,6,6,6,6,6,6,6,6,6,6,6,6,6,6,6,6,6,6,6,6,6,7,7,7,7,7,7,7,7,7,7,7,7,7,7,7,7,7,7,7,7,7,7,7,7,7,7,7,7,7,7,7,7,7,7,7,7,7,7,7,7,7,7,7,7,7,7,7,7,7,7,7,7,7,7,7,7,7,7,7,7,7,7,7,7,8,8,8,8,8,8,8,8,8,8,8,8,8,8,8,8,8,8,8,8,8,8,8,8,8,8,8,8,8,8,8,8,8,8,8,8,8,8,8,8,8,8,8,8,8,8,8,8,8,8,8,8,8,8,8,8,8,8,8,8,8,8,8,8,8,8,8,8,8,8,8,8,8,8,8,8,8,8,8,8,8,8,8,8,8,8,8,8,8,8,8,8,8,8,8,8,8,8,8,8,8,8,8,8,8,8,8,8,8,8,8,8,8,8,8,8,8,8,8,8,8,8,8,8,8,8,8,8]) g)
 let b6:=(w64 r)
 let a4:=(w64 (b4+b6))
 some a4) none)) (
 cond (decide (l≥256)) (
 let q:Int:=(Int.fdiv l 256)
 let x:=(w64 (32+8))
 let j:Int:=(IntKind.wrap .u8 q)
 cond (inR j (ByteArray.size (ByteArray.mk #[0,1,2,2,3,3,3,3,4,4,4,4,4,4,4,4,5,5,5,5,5,5,5,5,5,5,5,5,5,5,5,5,6,6,6,6,6,6,6,6,6,6,6,6,6,6,6,6,6,6,6,6,6,6,6,6,6,6,6,6,6,6,6,6,7,7,7,7,7,7,7,7,7,7,7,7,7,7,7,7,7,7,7,7,7,7,7,7,7,7,7,7,7,7,7,7,7,7,7,7,7,7,7,7,7,7,7,7,7,7,7,7,7,7,7,7,7,7,7,7,7,7,7,7,7,7,7,7,8,8,8,8,8,8,8,8,8,8,8,8,8,8,8,8,8,8,8,8,8,8,8,8,8,8,8,8,8,8,8,8,8,8,8,8,8,8,8,8,8,8,8,8,8,8,8,8,8,8,8,8,8,8,8,8,8,8,8,8,8,8,8,8,8,8,8,8,8,8,8,8,8,8,8,8,8,8,8,8,8,8,8,8,8,8,8,8,8,8,8,8,8,8,8,8,8,8,8,8,8,8,8,8,8,8,8,8,8,8,8,8,8,8,8,8,8,8,8,8,8,8,8,8,8,8,8,8]))) (
 let a5:=(j2J (ByteArray.mk #[0,1,2,2,3,3,3,3,4,4,4,4,4,4,4,4,5,5,5,5,5,5,5,5,5,5,5,5,5,5,5,5,6,6,6,6,6,6,6,6,6,6,6,6,6,6,6,6,6,6,6,6,6,6,6,6,6,6,6,6,6,6,6,6,7,7,7,7,7,7,7,7,7,7,7,7,7,7,7,7,7,7,7,7,7,7,7,7,7,7,7,7,7,7,7,7,7,7,7,7,7,7,7,7,7,7,7,7,7,7,7,7,7,7,7,7,7,7,7,7,7,7,7,7,7,7,7,7,8,8,8,8,8,8,8,8,8,8,8,8,8,8,8,8,8,8,8,8,8,8,8,8,8,8,8,8,8,8,8,8,8,8,8,8,8,8,8,8,8,8,8,8,8,8,8,8,8,8,8,8,8,8,8,8,8,8,8,8,8,8,8,8,8,8,8,8,8,8,8,8,8,8,8,8,8,8,8,8,8,8,8,8,8,8,8,8,8,8,8,8,8,8,8,8,8,8,8,8,8,8,8,8,8,8,8,8,8,8,8,8,8,8,8,8,8,8,8,8,8,8,8,8,8,8,8,8]) j)
 let z:=(w64 a5)
 let p:=(w64 (x+z))
 some p) none) (
 let e:Int:=(IntKind.wrap .u8 l)
 cond (inR e (ByteArray.size (ByteArray.mk #[0,1,2,2,3,3,3,3,4,4,4,4,4,4,4,4,5,5,5,5,5,5,5,5,5,5,5,5,5,5,5,5,6,6,6,6,6,6,6,6,6,6,6,6,6,6,6,6,6,6,6,6,6,6,6,6,6,6,6,6,6,6,6,6,7,7,7,7,7,7,7,7,7,7,7,7,7,7,7,7,7,7,7,7,7,7,7,7,7,7,7,7,7,7,7,7,7,7,7,7,7,7,7,7,7,7,7,7,7,7,7,7,7,7,7,7,7,7,7,7,7,7,7,7,7,7,7,7,8,8,8,8,8,8,8,8,8,8,8,8,8,8,8,8,8,8,8,8,8,8,8,8,8,8,8,8,8,8,8,8,8,8,8,8,8,8,8,8,8,8,8,8,8,8,8,8,8,8,8,8,8,8,8,8,8,8,8,8,8,8,8,8,8,8,8,8,8,8,8,8,8,8,8,8,8,8,8,8,8,8,8,8,8,8,8,8,8,8,8,8,8,8,8,8,8,8,8,8,8,8,8,8,8,8,8,8,8,8,8,8,8,8,8,8,8,8,8,8,8,8,8,8,8,8,8,8]))) (
 let b2:=(j2J (ByteArray.mk #[0,1,2,2,3,3,3,3,4,4,4,4,4,4,4,4,5,5,5,5,5,5,5,5,5,5,5,5,5,5,5,5,6,6,6,6,6,6,6,6,6,6,6,6,6,6,6,6,6,6,6,6,6,6,6,6,6,6,6,6,6,6,6,6,7,7,7,7,7,7,7,7,7,7,7,7,7,7,7,7,7,7,7,7,7,7,7,7,7,7,7,7,7,7,7,7,7,7,7,7,7,7,7,7,7,7,7,7,7,7,7,7,7,7,7,7,7,7,7,7,7,7,7,7,7,7,7,7,8,8,8,8,8,8,8,8,8,8,8,8,8,8,8,8,8,8,8,8,8,8,8,8,8,8,8,8,8,8,8,8,8,8,8,8,8,8,8,8,8,8,8,8,8,8,8,8,8,8,8,8,8,8,8,8,8,8,8,8,8,8,8,8,8,8,8,8,8,8,8,8,8,8,8,8,8,8,8,8,8,8,8,8,8,8,8,8,8,8,8,8,8,8,8,8,8,8,8,8,8,8,8,8,8,8,8,8,8,8,8,8,8,8,8,8,8,8,8,8,8,8,8,8,8,8,8,8]) e)
 let a7:=(w64 b2)
 let u:=(w64 (32+a7))
 some u) none))) (
 cond (decide (a≥65536)) (
 let b:Int:=(Int.fdiv a 65536)
 let k:=(w64 (0+16))
 cond (decide (b≥256)) (
 let n:Int:=(Int.fdiv b 256)
 let a2:=(w64 (k+8))
 let c:Int:=(IntKind.wrap .u8 n)
 cond (inR c (ByteArray.size (ByteArray.mk #[0,1,2,2,3,3,3,3,4,4,4,4,4,4,4,4,5,5,5,5,5,5,5,5,5,5,5,5,5,5,5,5,6,6,6,6,6,6,6,6,6,6,6,6,6,6,6,6,6,6,6,6,6,6,6,6,6,6,6,6,6,6,6,6,7,7,7,7,7,7,7,7,7,7,7,7,7,7,7,7,7,7,7,7,7,7,7,7,7,7,7,7,7,7,7,7,7,7,7,7,7,7,7,7,7,7,7,7,7,7,7,7,7,7,7,7,7,7,7,7,7,7,7,7,7,7,7,7,8,8,8,8,8,8,8,8,8,8,8,8,8,8,8,8,8,8,8,8,8,8,8,8,8,8,8,8,8,8,8,8,8,8,8,8,8,8,8,8,8,8,8,8,8,8,8,8,8,8,8,8,8,8,8,8,8,8,8,8,8,8,8,8,8,8,8,8,8,8,8,8,8,8,8,8,8,8,8,8,8,8,8,8,8,8,8,8,8,8,8,8,8,8,8,8,8,8,8,8,8,8,8,8,8,8,8,8,8,8,8,8,8,8,8,8,8,8,8,8,8,8,8,8,8,8,8,8]))) (
 let b0:=(j2J (ByteArray.mk #[0,1,2,2,3,3,3,3,4,4,4,4,4,4,4,4,5,5,5,5,5,5,5,5,5,5,5,5,5,5,5,5,6,6,6,6,6,6,6,6,6,6,6,6,6,6,6,6,6,6,6,6,6,6,6,6,6,6,6,6,6,6,6,6,7,7,7,7,7,7,7,7,7,7,7,7,7,7,7,7,7,7,7,7,7,7,7,7,7,7,7,7,7,7,7,7,7,7,7,7,7,7,7,7,7,7,7,7,7,7,7,7,7,7,7,7,7,7,7,7,7,7,7,7,7,7,7,7,8,8,8,8,8,8,8,8,8,8,8,8,8,8,8,8,8,8,8,8,8,8,8,8,8,8,8,8,8,8,8,8,8,8,8,8,8,8,8,8,8,8,8,8,8,8,8,8,8,8,8,8,8,8,8,8,8,8,8,8,8,8,8,8,8,8,8,8,8,8,8,8,8,8,8,8,8,8,8,8,8,8,8,8,8,8,8,8,8,8,8,8,8,8,8,8,8,8,8,8,8,8,8,8,8,8,8,8,8,8,8,8,8,8,8,8,8,8,8,8,8,8,8,8,8,8,8,8]) c)
 let a0:=(w64 b0)
 let a6:=(w64 (a2+a0))
 some a6) none) (
 let f:Int:=(IntKind.wrap .u8 b)
 cond (inR f (ByteArray.size (ByteArray.mk #[0,1,2,2,3,3,3,3,4,4,4,4,4,4,4,4,5,5,5,5,5,5,5,5,5,5,5,5,5,5,5,5,6,6,6,6,6,6,6,6,6,6,6,6,6,6,6,6,6,6,6,6,6,6,6,6,6,6,6,6,6,6,6,6,7,7,7,7,7,7,7,7,7,7,7,7,7,7,7,7,7,7,7,7,7,7,7,7,7,7,7,7,7,7,7,7,7,7,7,7,7,7,7,7,7,7,7,7,7,7,7,7,7,7,7,7,7,7,7,7,7,7,7,7,7,7,7,7,8,8,8,8,8,8,8,8,8,8,8,8,8,8,8,8,8,8,8,8,8,8,8,8,8,8,8,8,8,8,8,8,8,8,8,8,8,8,8,8,8,8,8,8,8,8,8,8,8,8,8,8,8,8,8,8,8,8,8,8,8,8,8,8,8,8,8,8,8,8,8,8,8,8,8,8,8,8,8,8,8,8,8,8,8,8,8,8,8,8,8,8,8,8,8,8,8,8,8,8,8,8,8,8,8,8,8,8,8,8,8,8,8,8,8,8,8,8,8,8,8,8,8,8,8,8,8,8]))) (
 let y:=(j2J (ByteArray.mk #[0,1,2,2,3,3,3,3,4,4,4,4,4,4,4,4,5,5,5,5,5,5,5,5,5,5,5,5,5,5,5,5,6,6,6,6,6,6,6,6,6,6,6,6,6,6,6,6,6,6,6,6,6,6,6,6,6,6,6,6,6,6,6,6,7,7,7,7,7,7,7,7,7,7,7,7,7,7,7,7,7,7,7,7,7,7,7,7,7,7,7,7,7,7,7,7,7,7,7,7,7,7,7,7,7,7,7,7,7,7,7,7,7,7,7,7,7,7,7,7,7,7,7,7,7,7,7,7,8,8,8,8,8,8,8,8,8,8,8,8,8,8,8,8,8,8,8,8,8,8,8,8,8,8,8,8,8,8,8,8,8,8,8,8,8,8,8,8,8,8,8,8,8,8,8,8,8,8,8,8,8,8,8,8,8,8,8,8,8,8,8,8,8,8,8,8,8,8,8,8,8,8,8,8,8,8,8,8,8,8,8,8,8,8,8,8,8,8,8,8,8,8,8,8,8,8,8,8,8,8,8,8,8,8,8,8,8,8,8,8,8,8,8,8,8,8,8,8,8,8,8,8,8,8,8,8]) f)
 let a3:=(w64 y)
 let v:=(w64 (k+a3))
 some v) none)) (
 cond (decide (a≥256)) (
 let a1:Int:=(Int.fdiv a 256)
 let s:=(w64 (0+8))
 let d:Int:=(IntKind.wrap .u8 a1)
 cond (inR d (ByteArray.size (ByteArray.mk #[0,1,2,2,3,3,3,3,4,4,4,4,4,4,4,4,5,5,5,5,5,5,5,5,5,5,5,5,5,5,5,5,6,6,6,6,6,6,6,6,6,6,6,6,6,6,6,6,6,6,6,6,6,6,6,6,6,6,6,6,6,6,6,6,7,7,7,7,7,7,7,7,7,7,7,7,7,7,7,7,7,7,7,7,7,7,7,7,7,7,7,7,7,7,7,7,7,7,7,7,7,7,7,7,7,7,7,7,7,7,7,7,7,7,7,7,7,7,7,7,7,7,7,7,7,7,7,7,8,8,8,8,8,8,8,8,8,8,8,8,8,8,8,8,8,8,8,8,8,8,8,8,8,8,8,8,8,8,8,8,8,8,8,8,8,8,8,8,8,8,8,8,8,8,8,8,8,8,8,8,8,8,8,8,8,8,8,8,8,8,8,8,8,8,8,8,8,8,8,8,8,8,8,8,8,8,8,8,8,8,8,8,8,8,8,8,8,8,8,8,8,8,8,8,8,8,8,8,8,8,8,8,8,8,8,8,8,8,8,8,8,8,8,8,8,8,8,8,8,8,8,8,8,8,8,8]))) (
 let t:=(j2J (ByteArray.mk #[0,1,2,2,3,3,3,3,4,4,4,4,4,4,4,4,5,5,5,5,5,5,5,5,5,5,5,5,5,5,5,5,6,6,6,6,6,6,6,6,6,6,6,6,6,6,6,6,6,6,6,6,6,6,6,6,6,6,6,6,6,6,6,6,7,7,7,7,7,7,7,7,7,7,7,7,7,7,7,7,7,7,7,7,7,7,7,7,7,7,7,7,7,7,7,7,7,7,7,7,7,7,7,7,7,7,7,7,7,7,7,7,7,7,7,7,7,7,7,7,7,7,7,7,7,7,7,7,8,8,8,8,8,8,8,8,8,8,8,8,8,8,8,8,8,8,8,8,8,8,8,8,8,8,8,8,8,8,8,8,8,8,8,8,8,8,8,8,8,8,8,8,8,8,8,8,8,8,8,8,8,8,8,8,8,8,8,8,8,8,8,8,8,8,8,8,8,8,8,8,8,8,8,8,8,8,8,8,8,8,8,8,8,8,8,8,8,8,8,8,8,8,8,8,8,8,8,8,8,8,8,8,8,8,8,8,8,8,8,8,8,8,8,8,8,8,8,8,8,8,8,8,8,8,8,8]) d)
 let w:=(w64 t)
 let o:=(w64 (s+w))
 some o) none) (
 let i:Int:=(IntKind.wrap .u8 a)
 cond (inR i (ByteArray.size (ByteArray.mk #[0,1,2,2,3,3,3,3,4,4,4,4,4,4,4,4,5,5,5,5,5,5,5,5,5,5,5,5,5,5,5,5,6,6,6,6,6,6,6,6,6,6,6,6,6,6,6,6,6,6,6,6,6,6,6,6,6,6,6,6,6,6,6,6,7,7,7,7,7,7,7,7,7,7,7,7,7,7,7,7,7,7,7,7,7,7,7,7,7,7,7,7,7,7,7,7,7,7,7,7,7,7,7,7,7,7,7,7,7,7,7,7,7,7,7,7,7,7,7,7,7,7,7,7,7,7,7,7,8,8,8,8,8,8,8,8,8,8,8,8,8,8,8,8,8,8,8,8,8,8,8,8,8,8,8,8,8,8,8,8,8,8,8,8,8,8,8,8,8,8,8,8,8,8,8,8,8,8,8,8,8,8,8,8,8,8,8,8,8,8,8,8,8,8,8,8,8,8,8,8,8,8,8,8,8,8,8,8,8,8,8,8,8,8,8,8,8,8,8,8,8,8,8,8,8,8,8,8,8,8,8,8,8,8,8,8,8,8,8,8,8,8,8,8,8,8,8,8,8,8,8,8,8,8,8,8]))) (
 let a8:=(j2J (ByteArray.mk #[0,1,2,2,3,3,3,3,4,4,4,4,4,4,4,4,5,5,5,5,5,5,5,5,5,5,5,5,5,5,5,5,6,6,6,6,6,6,6,6,6,6,6,6,6,6,6,6,6,6,6,6,6,6,6,6,6,6,6,6,6,6,6,6,7,7,7,7,7,7,7,7,7,7,7,7,7,7,7,7,7,7,7,7,7,7,7,7,7,7,7,7,7,7,7,7,7,7,7,7,7,7,7,7,7,7,7,7,7,7,7,7,7,7,7,7,7,7,7,7,7,7,7,7,7,7,7,7,8,8,8,8,8,8,8,8,8,8,8,8,8,8,8,8,8,8,8,8,8,8,8,8,8,8,8,8,8,8,8,8,8,8,8,8,8,8,8,8,8,8,8,8,8,8,8,8,8,8,8,8,8,8,8,8,8,8,8,8,8,8,8,8,8,8,8,8,8,8,8,8,8,8,8,8,8,8,8,8,8,8,8,8,8,8,8,8,8,8,8,8,8,8,8,8,8,8,8,8,8,8,8,8,8,8,8,8,8,8,8,8,8,8,8,8,8,8,8,8,8,8,8,8,8,8,8,8]) i)
 let a9:=(w64 a8)
 let b1:=(w64 (0+a9))
 some b1) none)))
def jfi (a:Int):Option (Int):=
 (jgP a).bind fun b=>
 some b
def jc0 (a:Int):Option (Bool):=
 some (a != a)
def jaP (a b:Int):Option (Bool):=
 (jc0 a).bind fun c=>
 cond c (
 (jc0 b).bind fun d=>
 some (cond (!d) true (decide (a<b)))) (
 some (decide (a<b)))
def j0Y (i p q b:Int) (a:(List Int)):Option ((Int×Int×Int×Int×(List Int)) ⊕ ((Int×Int×Int×(List Int)))):=
 cond (decide (b>i)) (
 cond (inR b (List.length a)) (
 let n:=(List.getD a (Int.toNat b) 0)
 let e:=(w64 (b-1))
 cond (inR e (List.length a)) (
 let o:=(List.getD a (Int.toNat e) 0)
 (jaP n o).bind fun k=>
 cond k (
 let c:=(w64 (b-1))
 let f:=(w64 (b-1))
 cond (inR f (List.length a)) (
 let m:=(List.getD a (Int.toNat f) 0)
 cond (inR b (List.length a)) (
 let j:=(List.getD a (Int.toNat b) 0)
 cond (inR b (List.length a)) (
 let d:(List Int):=(List.set a (Int.toNat b) m)
 cond (inR c (List.length d)) (
 let l:(List Int):=(List.set d (Int.toNat c) j)
 let g:=(w64 (b-1))
 some (.inl (i,p,q,g,l))) none) none) none) none) (
 some (.inr (i,p,q,a)))) none) none) (
 some (.inr (i,p,q,a)))
def j0T [LP] (a c e b d):=LP.lp (fun h=>j0Y h.1 h.2.1 h.2.2.1 h.2.2.2.1 h.2.2.2.2) (a,c,e,b,d)
theorem j4o (a c e b d):j0T a c e b d=lpK (j0Y a c e b d) (fun h=>j0T h.1 h.2.1 h.2.2.1 h.2.2.2.1 h.2.2.2.2):=j04 _ _
def j0h [LP] (f d c:Int) (e:(List Int)):Option ((Int×Int×Int×(List Int)) ⊕ ((List Int))):=
 cond (decide (c<d)) (
 (j0T f d c c e).bind fun a=>
 let b:=(w64 (a.2.2.1+1))
 some (.inl (a.1,a.2.1,b,a.2.2.2))) (
 some (.inr e))
def j0U [LP] (a b d c):=LP.lp (fun h=>j0h h.1 h.2.1 h.2.2.1 h.2.2.2) (a,b,d,c)
theorem j2D (a b d c):j0U a b d c=lpK (j0h a b d c) (fun h=>j0U h.1 h.2.1 h.2.2.1 h.2.2.2):=j04 _ _
def j0Q [LP] (a:(List Int)) (b c:Int):Option ((List Int)):=
 let d:=(w64 (b+1))
 (j0U b c d a).bind fun e=>
 some e
def j0J [LP] (c d f:Int) (e i:Bool) (g:(List Int)):Option ((Int×Int×Int×Bool×Bool×(List Int)) ⊕ ((List Int))):=
 let b:=(w64 (d-c))
 cond (decide (b≤12)) (
 (j0Q g c d).bind fun a=>
 some (.inr a)) (
 cond (f==0) (
 none) (
 cond (!e) (
 none) (
 none)))
def j2d [LP] (a c d b f e):=LP.lp (fun h=>j0J h.1 h.2.1 h.2.2.1 h.2.2.2.1 h.2.2.2.2.1 h.2.2.2.2.2) (a,c,d,b,f,e)
theorem jaj (a c d b f e):j2d a c d b f e=lpK (j0J a c d b f e) (fun h=>j2d h.1 h.2.1 h.2.2.1 h.2.2.2.1 h.2.2.2.2.1 h.2.2.2.2.2):=j04 _ _
def j1x [LP] (b:(List Int)) (c d a:Int):Option ((List Int)):=
 (j2d c d a true true b).bind fun e=>
 some e
def j2T [LP] (a:(List Int)):Option ((List Int)):=
 let b:=(Int.ofNat (List.length a))
 let d:Int:=(IntKind.wrap .u64 b)
 (jfi d).bind fun e=>
 (j1x a 0 b e).bind fun c=>
 some c
def j1S (e b c:Int) (a:(List Int)):Option ((Int×Int×Int×(List Int)) ⊕ (Tn1)):=
 let g:=(Int.ofNat (List.length a-(Int.toNat b)))
 cond (decide (c<g)) (
 cond (inR c (List.length a-(Int.toNat b))) (
 let i:=(List.getD a ((Int.toNat b)+(Int.toNat c)) 0)
 let d:=(w64 (c-1))
 cond (inR d (List.length a-(Int.toNat b))) (
 let m:=(List.getD a ((Int.toNat b)+(Int.toNat d)) 0)
 cond (i != m) (
 cond (inR c (List.length a-(Int.toNat b))) (
 let j:=(List.getD a ((Int.toNat b)+(Int.toNat c)) 0)
 cond (inR e (List.length a)) (
 let n:(List Int):=(List.set a (Int.toNat e) j)
 let f:=(w64 (e+1))
 let l:=(w64 (c+1))
 some (.inl (f,(Int.ofNat (Int.toNat b)),l,n))) none) none) (
 let k:=(w64 (c+1))
 some (.inl (e,(Int.ofNat (Int.toNat b)),k,a)))) none) none) (
 some (.inr (e,a)))
def j1y [LP] (b d a c):=LP.lp (fun h=>j1S h.1 h.2.1 h.2.2.1 h.2.2.2) (b,d,a,c)
theorem j7e (b d a c):j1y b d a c=lpK (j1S b d a c) (fun h=>j1y h.1 h.2.1 h.2.2.1 h.2.2.2):=j04 _ _
def j0H [LP] (b:Int) (c:(List Int)):Option (Tn1 ⊕ (Tn1 ⊕ (List Int))):=
 let g:=(Int.ofNat (List.length c))
 cond (decide (b<g)) (
 cond (inR b (List.length c)) (
 let i:=(List.getD c (Int.toNat b) 0)
 let d:=(w64 (b-1))
 cond (inR d (List.length c)) (
 let f:=(List.getD c (Int.toNat d) 0)
 cond (i==f) (
 cond (decide (0≤b)&&decide (b≤(Int.ofNat (List.length c)))) (
 (j1y b (Int.ofNat (Int.toNat b)) 1 c).bind fun a=>
 cond (decide (0≤a.1)&&decide (a.1≤(Int.ofNat (List.length a.2)))) (
 let e:(List Int):=(List.take (Int.toNat a.1) a.2++List.replicate (List.length a.2-(Int.toNat a.1)) 0)
 cond (decide (0≤a.1)&&decide (a.1≤(Int.ofNat (List.length e)))) (
 some (.inr (.inl ((Int.ofNat (Int.toNat a.1)),e)))) none) none) none) (
 let j:=(w64 (b+1))
 some (.inl (j,c)))) none) none) (
 some (.inr (.inr c)))
def j0S [LP] (a b):=LP.lp (fun h=>j0H h.1 h.2) (a,b)
theorem j7f (a b):j0S a b=lpK (j0H a b) (fun h=>j0S h.1 h.2):=j04 _ _
def j2b [LP] (a:(List Int)):Option Tn1:=
 let b:=(Int.ofNat (List.length a))
 cond (decide (b<2)) (
 some ((Int.ofNat (List.length a)),a)) (
 (j0S 1 a).bind fun c=>
 sumC c (fun e=>
 some ((Int.ofNat (Int.toNat e.1)),e.2)) (fun d=>
 some ((Int.ofNat (List.length d)),d)))
def jcx [LP] (f:(List Int)) (b a:Int):Option ((List Int)):=
 (j8b f).bind fun k=>
 (j1w k b a).bind fun c=>
 let g:(List Int):=(List.take (Int.toNat c.1) c.2)
 (j2T g).bind fun i=>
 (j2b i).bind fun e=>
 let d:(List Int):=(List.take (Int.toNat e.1) e.2)
 cond (decide (List.length d+List.length [a]≤j07)) (
 let j:(List Int):=(d++[a])
 some j) none
def j1Y (a:Tn60):Option (Tn60):=
 some a
def j3R (a:Tn2):Option (Tn2):=
 cond (decide (List.length ([]:List ((Int×Int)))+List.length a≤j07)) (
 some (([]:List ((Int×Int)))++a)) none
def j9n (a:(Int×Int)):Option (Bool):=
 some (decide (a.2≤a.1))
def j0N (g b:Int) (a:Tn2):Option ((Int×Int×Tn2) ⊕ (Tn13 ⊕ Tn2)):=
 cond (decide (b<g)) (
 cond (inR b (List.length a)) (
 let e:=(List.getD a (Int.toNat b) (0,0)).1
 let c:=(List.getD a (Int.toNat b) (0,0)).2
 (j9n (e,c)).bind fun f=>
 cond f (
 some (.inr (.inl (b,a)))) (
 let d:=(w64 (b+1))
 some (.inl (g,d,a)))) none) (
 some (.inr (.inr a)))
def j0x [LP] (a c b):=LP.lp (fun h=>j0N h.1 h.2.1 h.2.2) (a,c,b)
theorem j3L (a c b):j0x a c b=lpK (j0N a c b) (fun h=>j0x h.1 h.2.1 h.2.2):=j04 _ _
def j0V [LP] (a:Tn2):Option Tn13:=
 let b:=(Int.ofNat (List.length a))
 (j0x b 0 a).bind fun c=>
 sumC c (fun d=>
 some (d.1,d.2)) (fun e=>
 some ((-1),e))
def j0K (e d:Int) (a:Tn2):Option ((Int×Int×Tn2) ⊕ (Tn13)):=
 let i:=(Int.ofNat (List.length a))
 cond (decide (d<i)) (
 cond (inR d (List.length a)) (
 let b:=(List.getD a (Int.toNat d) (0,0)).1
 let c:=(List.getD a (Int.toNat d) (0,0)).2
 (j9n (b,c)).bind fun g=>
 cond (!g) (
 cond (inR e (List.length a)) (
 let l:Tn2:=(List.set a (Int.toNat e) (b,c))
 let f:=(w64 (e+1))
 let j:=(w64 (d+1))
 some (.inl (f,j,l))) none) (
 let k:=(w64 (d+1))
 some (.inl (e,k,a)))) none) (
 some (.inr (e,a)))
def j0F [LP] (c a b):=LP.lp (fun h=>j0K h.1 h.2.1 h.2.2) (c,a,b)
theorem j3v (c a b):j0F c a b=lpK (j0K c a b) (fun h=>j0F h.1 h.2.1 h.2.2):=j04 _ _
def j0A [LP] (c:Tn2):Option Tn13:=
 (j0V c).bind fun b=>
 cond (b.1==(-1)) (
 some ((Int.ofNat (List.length b.2)),b.2)) (
 let e:=(w64 (b.1+1))
 (j0F b.1 e b.2).bind fun a=>
 cond (decide (0≤a.1)&&decide (a.1≤(Int.ofNat (List.length a.2)))) (
 let d:Tn2:=(List.take (Int.toNat a.1) a.2++List.replicate (List.length a.2-(Int.toNat a.1)) (0,0))
 cond (decide (0≤a.1)&&decide (a.1≤(Int.ofNat (List.length d)))) (
 some ((Int.ofNat (Int.toNat a.1)),d)) none) none)
def j7X (a b:(Int×Int)):Option (Int):=
 let c:=(w64 (a.1-b.1))
 some c
def j1f (a:Tn2):Option (Tn2):=
 jrH ((.pair (.int .i64) (.int .i64))) (fun c b=>(j7X c b).getD 0) a
def j48 (i d:Int) (a e:Tn2):Option ((Int×Int×Tn2×Tn2) ⊕ (Tn2)):=
 cond (decide (d<i)) (
 cond (inR d (List.length e)) (
 let f:=(List.getD e (Int.toNat d) (0,0)).1
 let b:=(List.getD e (Int.toNat d) (0,0)).2
 let c:=(Int.ofNat (List.length a))
 cond (decide (c>0)) (
 let k:=(w64 (c-1))
 cond (inR k (List.length a)) (
 let p:=(List.getD a (Int.toNat k) (0,0)).2
 cond (decide (f≤p)) (
 let g:=(w64 (c-1))
 let j:=(w64 (c-1))
 cond (inR j (List.length a)) (
 let l:=(List.getD a (Int.toNat j) (0,0)).2
 let o:Int:=(if b>l then b else l:Int)
 cond (inR g (List.length a)) (
 let u:Tn2:=(List.set a (Int.toNat g) ((List.getD a (Int.toNat g) (0,0)).1,o))
 let t:=(w64 (d+1))
 some (.inl (i,t,u,e))) none) none) (
 let m:Tn2:=[(f,b)]
 cond (decide (List.length a+List.length m≤j07)) (
 let s:Tn2:=(a++m)
 let v:=(w64 (d+1))
 some (.inl (i,v,s,e))) none)) none) (
 let n:Tn2:=[(f,b)]
 cond (decide (List.length a+List.length n≤j07)) (
 let r:Tn2:=(a++n)
 let q:=(w64 (d+1))
 some (.inl (i,q,r,e))) none)) none) (
 some (.inr a))
def j6q [LP] (a b d c):=LP.lp (fun h=>j48 h.1 h.2.1 h.2.2.1 h.2.2.2) (a,b,d,c)
theorem jbr (a b d c):j6q a b d c=lpK (j48 a b d c) (fun h=>j6q h.1 h.2.1 h.2.2.1 h.2.2.2):=j04 _ _
def j5Y [LP] (c:Tn2):Option (Tn2):=
 (j3R c).bind fun f=>
 (j0A f).bind fun b=>
 let d:Tn2:=(List.take (Int.toNat b.1) b.2)
 (j1f d).bind fun a=>
 let e:=(Int.ofNat (List.length a))
 (j6q e 0 ([]:Tn2) a).bind fun g=>
 some g
def j4p (u:Tn2) (e s p:Int) (k:Tn2) (q j g a d:Int) (t:Tn2) (r:Tn14):Option ((Tn2×Int×Int×Int×Tn2×Int×Int×Int×Int×Int×Tn2×Tn14) ⊕ ((Tn2×Int×Int×Int×Int×Int×Int×Tn2×Tn14))):=
 cond (decide (j<q)) (
 cond (inR j (List.length k)) (
 let b:=(List.getD k (Int.toNat j) (0,0))
 let c:=(w64 (e+b.1))
 let l:Int:=(if c>g then c else g:Int)
 let i:=(w64 (e+b.2))
 let o:Int:=(if i<a then i else a:Int)
 let f:Tn2:=[(l,o)]
 cond (decide (List.length t+List.length f≤j07)) (
 let m:Tn2:=(t++f)
 let n:=(w64 (j+1))
 some (.inl (u,e,s,p,k,q,n,g,a,d,m,r))) none) none) (
 some (.inr (u,e,s,p,g,a,d,t,r)))
def j5Z [LP] (l k g e f c j i a b m d):=LP.lp (fun h=>j4p h.1 h.2.1 h.2.2.1 h.2.2.2.1 h.2.2.2.2.1 h.2.2.2.2.2.1 h.2.2.2.2.2.2.1 h.2.2.2.2.2.2.2.1 h.2.2.2.2.2.2.2.2.1 h.2.2.2.2.2.2.2.2.2.1 h.2.2.2.2.2.2.2.2.2.2.1 h.2.2.2.2.2.2.2.2.2.2.2) (l,k,g,e,f,c,j,i,a,b,m,d)
theorem jdL (l k g e f c j i a b m d):j5Z l k g e f c j i a b m d=lpK (j4p l k g e f c j i a b m d) (fun h=>j5Z h.1 h.2.1 h.2.2.1 h.2.2.2.1 h.2.2.2.2.1 h.2.2.2.2.2.1 h.2.2.2.2.2.2.1 h.2.2.2.2.2.2.2.1 h.2.2.2.2.2.2.2.2.1 h.2.2.2.2.2.2.2.2.2.1 h.2.2.2.2.2.2.2.2.2.2.1 h.2.2.2.2.2.2.2.2.2.2.2):=j04 _ _
def j26 [LP] (c:Tn2) (k j i m b f:Int) (l:Tn2) (g:Tn14):Option ((Tn2×Int×Int×Int×Int×Int×Int×Tn2×Tn14) ⊕ ((Tn2×Int×Int×Tn2×Tn14))):=
 cond (decide (k<b)) (
 let e:=(Int.ofNat (List.length c))
 (j5Z c k j i c e 0 m b f l g).bind fun a=>
 let d:=(w64 (a.2.1+604800))
 some (.inl (a.1,d,a.2.2.1,a.2.2.2.1,a.2.2.2.2.1,a.2.2.2.2.2.1,a.2.2.2.2.2.2.1,a.2.2.2.2.2.2.2.1,a.2.2.2.2.2.2.2.2))) (
 some (.inr (c,j,i,l,g)))
def j60 [LP] (i g e d f a b j c):=LP.lp (fun h=>j26 h.1 h.2.1 h.2.2.1 h.2.2.2.1 h.2.2.2.2.1 h.2.2.2.2.2.1 h.2.2.2.2.2.2.1 h.2.2.2.2.2.2.2.1 h.2.2.2.2.2.2.2.2) (i,g,e,d,f,a,b,j,c)
theorem jdM (i g e d f a b j c):j60 i g e d f a b j c=lpK (j26 i g e d f a b j c) (fun h=>j60 h.1 h.2.1 h.2.2.1 h.2.2.2.1 h.2.2.2.2.1 h.2.2.2.2.2.1 h.2.2.2.2.2.2.1 h.2.2.2.2.2.2.2.1 h.2.2.2.2.2.2.2.2):=j04 _ _
def j27 [LP] (q:Tn2) (o b:Int) (p:Tn2) (d:Tn14):Option ((Tn2×Int×Int×Tn2×Tn14) ⊕ (Tn2)):=
 cond (decide (b<o)) (
 cond (inR b (List.length d)) (
 let e:=(List.getD d (Int.toNat b) (0,(0,0))).1
 let m:=(List.getD d (Int.toNat b) (0,(0,0))).2.1
 let c:=(List.getD d (Int.toNat b) (0,(0,0))).2.2
 let j:=(w64 (e+c))
 let f:=(w64 (j-(-259200)))
 let g:=(Int.tmod f 604800)
 let n:=(w64 (f-g))
 let l:=(w64 (n+(-259200)))
 let i:=(w64 (l-c))
 (j60 q i o b e m c p d).bind fun a=>
 let k:=(w64 (a.2.2.1+1))
 some (.inl (a.1,a.2.1,k,a.2.2.2.1,a.2.2.2.2))) none) (
 some (.inr p))
def j61 [LP] (d c b e a):=LP.lp (fun h=>j27 h.1 h.2.1 h.2.2.1 h.2.2.2.1 h.2.2.2.2) (d,c,b,e,a)
theorem jdN (d c b e a):j61 d c b e a=lpK (j27 d c b e a) (fun h=>j61 h.1 h.2.1 h.2.2.1 h.2.2.2.1 h.2.2.2.2):=j04 _ _
def j3S [LP] (b:Tn13) (e:Tn2) (a c:Int):Option (Tn2):=
 (j1m (b.1,b.2) a c).bind fun d=>
 let f:=(Int.ofNat (List.length d))
 (j61 e f 0 ([]:Tn2) d).bind fun i=>
 (j5Y i).bind fun g=>
 some g
def j3w (u s:Int) (j:(List Int)) (t d:Int) (w:ByteArray) (i:Int) (g:(List Int)) (k b c:Int) (v:Tn2) (r:Tn14):Option ((Int×Int×(List Int)×Int×Int×ByteArray×Int×(List Int)×Int×Int×Int×Tn2×Tn14) ⊕ ((Int×Int×ByteArray×Int×(List Int)×Tn2×Tn14))):=
 cond (decide (d<t)) (
 cond (inR d (List.length j)) (
 let p:=(List.getD j (Int.toNat d) 0)
 let n:=(w64 (p*86400))
 let a:=(w64 (n-c))
 let o:Int:=(if a>k then a else k:Int)
 let f:=(w64 (a+86400))
 let q:Int:=(if f<b then f else b:Int)
 let e:Tn2:=[(o,q)]
 cond (decide (List.length v+List.length e≤j07)) (
 let l:Tn2:=(v++e)
 let m:=(w64 (d+1))
 some (.inl (u,s,j,t,m,w,i,g,k,b,c,l,r))) none) none) (
 some (.inr (u,s,w,i,g,v,r)))
def j3A [LP] (g j e l k n d c i a b m f):=LP.lp (fun h=>j3w h.1 h.2.1 h.2.2.1 h.2.2.2.1 h.2.2.2.2.1 h.2.2.2.2.2.1 h.2.2.2.2.2.2.1 h.2.2.2.2.2.2.2.1 h.2.2.2.2.2.2.2.2.1 h.2.2.2.2.2.2.2.2.2.1 h.2.2.2.2.2.2.2.2.2.2.1 h.2.2.2.2.2.2.2.2.2.2.2.1 h.2.2.2.2.2.2.2.2.2.2.2.2) (g,j,e,l,k,n,d,c,i,a,b,m,f)
theorem jbR (g j e l k n d c i a b m f):j3A g j e l k n d c i a b m f=lpK (j3w g j e l k n d c i a b m f) (fun h=>j3A h.1 h.2.1 h.2.2.1 h.2.2.2.1 h.2.2.2.2.1 h.2.2.2.2.2.1 h.2.2.2.2.2.2.1 h.2.2.2.2.2.2.2.1 h.2.2.2.2.2.2.2.2.1 h.2.2.2.2.2.2.2.2.2.1 h.2.2.2.2.2.2.2.2.2.2.1 h.2.2.2.2.2.2.2.2.2.2.2.1 h.2.2.2.2.2.2.2.2.2.2.2.2):=j04 _ _
def j1E [LP] (k b:Int) (n:ByteArray) (l:Int) (d:(List Int)) (m:Tn2) (c:Tn14):Option ((Int×Int×ByteArray×Int×(List Int)×Tn2×Tn14) ⊕ (Tn2)):=
 cond (decide (b<k)) (
 cond (inR b (List.length c)) (
 let g:=(List.getD c (Int.toNat b) (0,(0,0))).1
 let i:=(List.getD c (Int.toNat b) (0,(0,0))).2.1
 let e:=(List.getD c (Int.toNat b) (0,(0,0))).2.2
 let f:=(Int.ofNat (List.length d))
 (j3A k b d f 0 n l d g i e m c).bind fun a=>
 let j:=(w64 (a.2.1+1))
 some (.inl (a.1,j,a.2.2.1,a.2.2.2.1,a.2.2.2.2.1,a.2.2.2.2.2.1,a.2.2.2.2.2.2))) none) (
 some (.inr m))
def j3B [LP] (d e g b a f c):=LP.lp (fun h=>j1E h.1 h.2.1 h.2.2.1 h.2.2.2.1 h.2.2.2.2.1 h.2.2.2.2.2.1 h.2.2.2.2.2.2) (d,e,g,b,a,f,c)
theorem jbS (d e g b a f c):j3B d e g b a f c=lpK (j1E d e g b a f c) (fun h=>j3B h.1 h.2.1 h.2.2.1 h.2.2.2.1 h.2.2.2.2.1 h.2.2.2.2.2.1 h.2.2.2.2.2.2):=j04 _ _
def j1N [LP] (c:Tn73) (a:Tn19) (b d:Int):Option (Tn2):=
 cond (inR a.2.1 (List.length c.2)) (
 let f:=(List.getD c.2 (Int.toNat a.2.1) (0,([]:Tn2)))
 (j1m (f.1,f.2) b d).bind fun e=>
 let i:=(Int.ofNat (List.length e))
 (j3B i 0 a.1 a.2.1 a.2.2 ([]:Tn2) e).bind fun j=>
 (j5Y j).bind fun g=>
 some g) none
def j4q (b:Tn2) (c:Int) (e:Tn2) (d f g a:Int) (l:Tn2):Option ((Tn2×Int×Tn2×Int×Int×Int×Int×Tn2) ⊕ ((Tn2×Int×Tn2×Int×Int×Int×Int×Tn2))):=
 let i:=(Int.ofNat (List.length b))
 cond (decide (c<i)) (
 cond (inR c (List.length b)) (
 let k:=(List.getD b (Int.toNat c) (0,0))
 cond (decide (k.2≤g)) (
 let j:=(w64 (c+1))
 some (.inl (b,j,e,d,f,g,a,l))) (
 some (.inr (b,c,e,d,f,g,a,l)))) none) (
 some (.inr (b,c,e,d,f,g,a,l)))
def j62 [LP] (e i c b d f a g):=LP.lp (fun h=>j4q h.1 h.2.1 h.2.2.1 h.2.2.2.1 h.2.2.2.2.1 h.2.2.2.2.2.1 h.2.2.2.2.2.2.1 h.2.2.2.2.2.2.2) (e,i,c,b,d,f,a,g)
theorem jdO (e i c b d f a g):j62 e i c b d f a g=lpK (j4q e i c b d f a g) (fun h=>j62 h.1 h.2.1 h.2.2.1 h.2.2.2.1 h.2.2.2.2.1 h.2.2.2.2.2.1 h.2.2.2.2.2.2.1 h.2.2.2.2.2.2.2):=j04 _ _
def j4r (b:Tn2) (o d a:Int) (k:Tn2) (j e p c:Int) (l:Tn2):Option ((Tn2×Int×Int×Int×Tn2×Int×Int×Int×Int×Tn2) ⊕ ((Tn2×Int×Int×Tn2×Int×Int×Int×Int×Tn2))):=
 let q:=(Int.ofNat (List.length b))
 cond (decide (a<q)) (
 cond (inR a (List.length b)) (
 let u:=(List.getD b (Int.toNat a) (0,0))
 cond (decide (u.1<c)) (
 cond (inR a (List.length b)) (
 let s:=(List.getD b (Int.toNat a) (0,0))
 cond (decide (d<s.1)) (
 cond (inR a (List.length b)) (
 let n:=(List.getD b (Int.toNat a) (0,0))
 let f:Tn2:=[(d,n.1)]
 cond (decide (List.length l+List.length f≤j07)) (
 let t:Tn2:=(l++f)
 cond (inR a (List.length b)) (
 let g:=(List.getD b (Int.toNat a) (0,0))
 let m:Int:=(if g.2>d then g.2 else d:Int)
 let r:=(w64 (a+1))
 some (.inl (b,o,m,r,k,j,e,p,c,t))) none) none) none) (
 cond (inR a (List.length b)) (
 let i:=(List.getD b (Int.toNat a) (0,0))
 let w:Int:=(if i.2>d then i.2 else d:Int)
 let v:=(w64 (a+1))
 some (.inl (b,o,w,v,k,j,e,p,c,l))) none)) none) (
 some (.inr (b,o,d,k,j,e,p,c,l)))) none) (
 some (.inr (b,o,d,k,j,e,p,c,l)))
def j4M [LP] (f k j b d c e g a i):=LP.lp (fun h=>j4r h.1 h.2.1 h.2.2.1 h.2.2.2.1 h.2.2.2.2.1 h.2.2.2.2.2.1 h.2.2.2.2.2.2.1 h.2.2.2.2.2.2.2.1 h.2.2.2.2.2.2.2.2.1 h.2.2.2.2.2.2.2.2.2) (f,k,j,b,d,c,e,g,a,i)
theorem jdP (f k j b d c e g a i):j4M f k j b d c e g a i=lpK (j4r f k j b d c e g a i) (fun h=>j4M h.1 h.2.1 h.2.2.1 h.2.2.2.1 h.2.2.2.2.1 h.2.2.2.2.2.1 h.2.2.2.2.2.2.1 h.2.2.2.2.2.2.2.1 h.2.2.2.2.2.2.2.2.1 h.2.2.2.2.2.2.2.2.2):=j04 _ _
def j28 [LP] (m:Tn2) (n:Int) (f:Tn2) (k e:Int) (l:Tn2):Option ((Tn2×Int×Tn2×Int×Int×Tn2) ⊕ (Tn2)):=
 cond (decide (e<k)) (
 cond (inR e (List.length f)) (
 let c:=(List.getD f (Int.toNat e) (0,0))
 (j62 m n f k e c.1 c.2 l).bind fun b=>
 (j4M b.1 b.2.1 b.2.2.2.2.2.1 b.2.1 b.2.2.1 b.2.2.2.1 b.2.2.2.2.1 b.2.2.2.2.2.1 b.2.2.2.2.2.2.1 b.2.2.2.2.2.2.2).bind fun a=>
 cond (decide (a.2.2.1<a.2.2.2.2.2.2.2.1)) (
 let d:Tn2:=[(a.2.2.1,a.2.2.2.2.2.2.2.1)]
 cond (decide (List.length a.2.2.2.2.2.2.2.2+List.length d≤j07)) (
 let j:Tn2:=(a.2.2.2.2.2.2.2.2++d)
 let g:=(w64 (a.2.2.2.2.2.1+1))
 some (.inl (a.1,a.2.1,a.2.2.2.1,a.2.2.2.2.1,g,j))) none) (
 let i:=(w64 (a.2.2.2.2.2.1+1))
 some (.inl (a.1,a.2.1,a.2.2.2.1,a.2.2.2.2.1,i,a.2.2.2.2.2.2.2.2)))) none) (
 some (.inr l))
def j3T [LP] (d f b a c e):=LP.lp (fun h=>j28 h.1 h.2.1 h.2.2.1 h.2.2.2.1 h.2.2.2.2.1 h.2.2.2.2.2) (d,f,b,a,c,e)
theorem jdQ (d f b a c e):j3T d f b a c e=lpK (j28 d f b a c e) (fun h=>j3T h.1 h.2.1 h.2.2.1 h.2.2.2.1 h.2.2.2.2.1 h.2.2.2.2.2):=j04 _ _
def j2p [LP] (a b:Tn2):Option (Tn2):=
 let c:=(Int.ofNat (List.length a))
 (j3T b 0 a c 0 ([]:Tn2)).bind fun d=>
 some d
def j6r (c b:Tn2) (a d:Int) (n:Tn2):Option ((Tn2×Tn2×Int×Int×Tn2) ⊕ (Tn2)):=
 let p:=(Int.ofNat (List.length c))
 let o:=(Int.ofNat (List.length b))
 cond (cond (decide (a<p)) (decide (d<o)) false) (
 cond (inR a (List.length c)) (
 let l:=(List.getD c (Int.toNat a) (0,0))
 cond (inR d (List.length b)) (
 let g:=(List.getD b (Int.toNat d) (0,0))
 let j:Int:=(if g.1>l.1 then g.1 else l.1:Int)
 cond (inR a (List.length c)) (
 let k:=(List.getD c (Int.toNat a) (0,0))
 cond (inR d (List.length b)) (
 let i:=(List.getD b (Int.toNat d) (0,0))
 let m:Int:=(if i.2<k.2 then i.2 else k.2:Int)
 cond (decide (j<m)) (
 let e:Tn2:=[(j,m)]
 cond (decide (List.length n+List.length e≤j07)) (
 let f:Tn2:=(n++e)
 cond (inR a (List.length c)) (
 let q:=(List.getD c (Int.toNat a) (0,0))
 cond (inR d (List.length b)) (
 let w:=(List.getD b (Int.toNat d) (0,0))
 cond (decide (q.2<w.2)) (
 let r:=(w64 (a+1))
 some (.inl (c,b,r,d,f))) (
 let u:=(w64 (d+1))
 some (.inl (c,b,a,u,f)))) none) none) none) (
 cond (inR a (List.length c)) (
 let x:=(List.getD c (Int.toNat a) (0,0))
 cond (inR d (List.length b)) (
 let v:=(List.getD b (Int.toNat d) (0,0))
 cond (decide (x.2<v.2)) (
 let s:=(w64 (a+1))
 some (.inl (c,b,s,d,n))) (
 let t:=(w64 (d+1))
 some (.inl (c,b,a,t,n)))) none) none)) none) none) none) none) (
 some (.inr n))
def j3N [LP] (a b e c d):=LP.lp (fun h=>j6r h.1 h.2.1 h.2.2.1 h.2.2.2.1 h.2.2.2.2) (a,b,e,c,d)
theorem jl9 (a b e c d):j3N a b e c d=lpK (j6r a b e c d) (fun h=>j3N h.1 h.2.1 h.2.2.1 h.2.2.2.1 h.2.2.2.2):=j04 _ _
def j7u [LP] (a b:Tn2):Option (Tn2):=
 (j3N a b 0 0 ([]:Tn2)).bind fun c=>
 some c
def j3U [LP] (a:Tn73) (b:Tn59) (d c:Int):Option (Tn2):=
 cond (inR b.2.1 (List.length a.2)) (
 let s:=(List.getD a.2 (Int.toNat b.2.1) (0,([]:Tn2)))
 (j0E (s.1,s.2) (b.1,(b.2.1,((b.2.2.1.1,b.2.2.1.2),(b.2.2.2.1,(b.2.2.2.2.1,(b.2.2.2.2.2.1,(b.2.2.2.2.2.2.1,(b.2.2.2.2.2.2.2.1,b.2.2.2.2.2.2.2.2)))))))) 0).bind fun i=>
 cond (cond (cond (!i.2) true (decide (i.1≥c))) true (decide (d≥c))) (
 some ([]:Tn2)) (
 let e:Int:=(if i.1>d then i.1 else d:Int)
 let m:Tn2:=[(e,c)]
 let v:=(Int.ofNat (List.length b.2.2.2.2.2.2.1))
 cond (decide (v>0)) (
 cond (inR b.2.1 (List.length a.2)) (
 let r:=(List.getD a.2 (Int.toNat b.2.1) (0,([]:Tn2)))
 (j3S (r.1,r.2) b.2.2.2.2.2.2.1 e c).bind fun l=>
 cond (b.2.2.2.2.2.2.2.2==1) (
 cond (inR b.2.2.2.2.2.2.2.1 (List.length a.1.2.2.1)) (
 let k:=(List.getD a.1.2.2.1 (Int.toNat b.2.2.2.2.2.2.2.1) (ByteArray.empty,(0,([]:(List Int)))))
 (j1N ((a.1.1,(a.1.2.1,(a.1.2.2.1,a.1.2.2.2))),a.2) (k.1,(k.2.1,k.2.2)) e c).bind fun x=>
 (j2p l x).bind fun t=>
 some t) none) (
 cond (b.2.2.2.2.2.2.2.2==2) (
 cond (inR b.2.2.2.2.2.2.2.1 (List.length a.1.2.2.1)) (
 let j:=(List.getD a.1.2.2.1 (Int.toNat b.2.2.2.2.2.2.2.1) (ByteArray.empty,(0,([]:(List Int)))))
 (j1N ((a.1.1,(a.1.2.1,(a.1.2.2.1,a.1.2.2.2))),a.2) (j.1,(j.2.1,j.2.2)) e c).bind fun w=>
 (j7u l w).bind fun u=>
 some u) none) (
 some l))) none) (
 cond (b.2.2.2.2.2.2.2.2==1) (
 cond (inR b.2.2.2.2.2.2.2.1 (List.length a.1.2.2.1)) (
 let g:=(List.getD a.1.2.2.1 (Int.toNat b.2.2.2.2.2.2.2.1) (ByteArray.empty,(0,([]:(List Int)))))
 (j1N ((a.1.1,(a.1.2.1,(a.1.2.2.1,a.1.2.2.2))),a.2) (g.1,(g.2.1,g.2.2)) e c).bind fun n=>
 (j2p m n).bind fun p=>
 some p) none) (
 cond (b.2.2.2.2.2.2.2.2==2) (
 cond (inR b.2.2.2.2.2.2.2.1 (List.length a.1.2.2.1)) (
 let f:=(List.getD a.1.2.2.1 (Int.toNat b.2.2.2.2.2.2.2.1) (ByteArray.empty,(0,([]:(List Int)))))
 (j1N ((a.1.1,(a.1.2.1,(a.1.2.2.1,a.1.2.2.2))),a.2) (f.1,(f.2.1,f.2.2)) e c).bind fun q=>
 (j7u m q).bind fun o=>
 some o) none) (
 some m))))) none
def j3C [LP] (a:Tn13) (b:Int):Option (Int):=
 (j3r (a.1,a.2) b).bind fun c=>
 (j4F (a.1,a.2) c).bind fun d=>
 some d
def jhL (a:Int):Option ((Int×Int)):=
 let e:=(w64 (Int.tdiv a 86400))
 let i:=(Int.tmod a 86400)
 cond (decide (i<0)) (
 let d:=(w64 (e-1))
 let g:=(w64 (d*86400))
 let f:=(w64 (a-g))
 some (d,f)) (
 let b:=(w64 (e*86400))
 let c:=(w64 (a-b))
 some (e,c))
def j0r [LP] (a:Tn13) (b:Int):Option ((Int×Int)):=
 (j3C (a.1,a.2) b).bind fun e=>
 let d:=(w64 (b+e))
 (jhL d).bind fun c=>
 some (c.1,c.2)
def j1T [LP] (n m p:Int) (f:Tn2) (q:ByteArray) (b e d g a:Int) (c:(List Int)) (k:Tn2) (i j:Int):Option ((Int×Int×Int×Tn2×ByteArray×Int×Int×Int×Int×Int×(List Int)×Tn2×Int×Int) ⊕ ((Int×Int×Int×Tn2×ByteArray×Int×Int×Int×Int×Int×(List Int)×Tn2×Int×Int))):=
 cond (decide (m>0)) (
 (j0E (p,f) (q,(b,((e,d),(g,(a,(c,(k,(i,j)))))))) m).bind fun l=>
 cond (cond l.2 (decide (l.1≤n)) false) (
 some (.inr (n,m,p,f,q,b,e,d,g,a,c,k,i,j))) (
 let o:=(w64 (m-1))
 some (.inl (n,o,p,f,q,b,e,d,g,a,c,k,i,j)))) (
 some (.inr (n,m,p,f,q,b,e,d,g,a,c,k,i,j)))
def j55 [LP] (l m n f o b e d g a c k i j):=LP.lp (fun h=>j1T h.1 h.2.1 h.2.2.1 h.2.2.2.1 h.2.2.2.2.1 h.2.2.2.2.2.1 h.2.2.2.2.2.2.1 h.2.2.2.2.2.2.2.1 h.2.2.2.2.2.2.2.2.1 h.2.2.2.2.2.2.2.2.2.1 h.2.2.2.2.2.2.2.2.2.2.1 h.2.2.2.2.2.2.2.2.2.2.2.1 h.2.2.2.2.2.2.2.2.2.2.2.2.1 h.2.2.2.2.2.2.2.2.2.2.2.2.2) (l,m,n,f,o,b,e,d,g,a,c,k,i,j)
theorem jcy (l m n f o b e d g a c k i j):j55 l m n f o b e d g a c k i j=lpK (j1T l m n f o b e d g a c k i j) (fun h=>j55 h.1 h.2.1 h.2.2.1 h.2.2.2.1 h.2.2.2.2.1 h.2.2.2.2.2.1 h.2.2.2.2.2.2.1 h.2.2.2.2.2.2.2.1 h.2.2.2.2.2.2.2.2.1 h.2.2.2.2.2.2.2.2.2.1 h.2.2.2.2.2.2.2.2.2.2.1 h.2.2.2.2.2.2.2.2.2.2.2.1 h.2.2.2.2.2.2.2.2.2.2.2.2.1 h.2.2.2.2.2.2.2.2.2.2.2.2.2):=j04 _ _
def j2q [LP] (p o q:Int) (g:Tn2) (r:ByteArray) (c f e i b:Int) (d:(List Int)) (l:Tn2) (j k:Int):Option ((Int×Int×Int×Tn2×ByteArray×Int×Int×Int×Int×Int×(List Int)×Tn2×Int×Int) ⊕ (Int)):=
 let m:=(w64 (o+1))
 (j0E (q,g) (r,(c,((f,e),(i,(b,(d,(l,(j,k)))))))) m).bind fun a=>
 cond (cond (!a.2) true (decide (a.1>p))) (
 some (.inr o)) (
 let n:=(w64 (o+1))
 some (.inl (p,n,q,g,r,c,f,e,i,b,d,l,j,k)))
def j56 [LP] (l m n f o b e d g a c k i j):=LP.lp (fun h=>j2q h.1 h.2.1 h.2.2.1 h.2.2.2.1 h.2.2.2.2.1 h.2.2.2.2.2.1 h.2.2.2.2.2.2.1 h.2.2.2.2.2.2.2.1 h.2.2.2.2.2.2.2.2.1 h.2.2.2.2.2.2.2.2.2.1 h.2.2.2.2.2.2.2.2.2.2.1 h.2.2.2.2.2.2.2.2.2.2.2.1 h.2.2.2.2.2.2.2.2.2.2.2.2.1 h.2.2.2.2.2.2.2.2.2.2.2.2.2) (l,m,n,f,o,b,e,d,g,a,c,k,i,j)
theorem jiH (l m n f o b e d g a c k i j):j56 l m n f o b e d g a c k i j=lpK (j2q l m n f o b e d g a c k i j) (fun h=>j56 h.1 h.2.1 h.2.2.1 h.2.2.2.1 h.2.2.2.2.1 h.2.2.2.2.2.1 h.2.2.2.2.2.2.1 h.2.2.2.2.2.2.2.1 h.2.2.2.2.2.2.2.2.1 h.2.2.2.2.2.2.2.2.2.1 h.2.2.2.2.2.2.2.2.2.2.1 h.2.2.2.2.2.2.2.2.2.2.2.1 h.2.2.2.2.2.2.2.2.2.2.2.2.1 h.2.2.2.2.2.2.2.2.2.2.2.2.2):=j04 _ _
def j1Z [LP] (c:Tn13) (a:Tn59) (d:Int):Option (Int):=
 (j0E (c.1,c.2) (a.1,(a.2.1,((a.2.2.1.1,a.2.2.1.2),(a.2.2.2.1,(a.2.2.2.2.1,(a.2.2.2.2.2.1,(a.2.2.2.2.2.2.1,(a.2.2.2.2.2.2.2.1,a.2.2.2.2.2.2.2.2)))))))) 0).bind fun e=>
 cond (cond (!e.2) true (decide (e.1>d))) (
 some (-1)) (
 cond (a.2.2.2.1==0) (
 let n:=(w64 (d-e.1))
 let i:=(w64 (3600*a.2.2.2.2.1))
 cond (!(i==0)) (
 let m:=(w64 (Int.tdiv n i))
 some m) none) (
 (j0r (c.1,c.2) d).bind fun j=>
 let l:=(w64 (j.1-a.2.2.1.1))
 (jah (a.1,(a.2.1,((a.2.2.1.1,a.2.2.1.2),(a.2.2.2.1,(a.2.2.2.2.1,(a.2.2.2.2.2.1,(a.2.2.2.2.2.2.1,(a.2.2.2.2.2.2.2.1,a.2.2.2.2.2.2.2.2))))))))).bind fun g=>
 cond (!(g==0)) (
 let f:=(w64 (Int.tdiv l g))
 let k:Int:=(if f>0 then f else 0:Int)
 (j55 d k c.1 c.2 a.1 a.2.1 a.2.2.1.1 a.2.2.1.2 a.2.2.2.1 a.2.2.2.2.1 a.2.2.2.2.2.1 a.2.2.2.2.2.2.1 a.2.2.2.2.2.2.2.1 a.2.2.2.2.2.2.2.2).bind fun b=>
 (j56 b.1 b.2.1 b.2.2.1 b.2.2.2.1 b.2.2.2.2.1 b.2.2.2.2.2.1 b.2.2.2.2.2.2.1 b.2.2.2.2.2.2.2.1 b.2.2.2.2.2.2.2.2.1 b.2.2.2.2.2.2.2.2.2.1 b.2.2.2.2.2.2.2.2.2.2.1 b.2.2.2.2.2.2.2.2.2.2.2.1 b.2.2.2.2.2.2.2.2.2.2.2.2.1 b.2.2.2.2.2.2.2.2.2.2.2.2.2).bind fun o=>
 some o) none))
def j5e (f:Tn14) (m e:Int) (b:Tn14):Option ((Tn14×Int×Int×Tn14) ⊕ (Tn14)):=
 cond (decide (e<m)) (
 cond (inR e (List.length f)) (
 let a:=(List.getD f (Int.toNat e) (0,(0,0)))
 cond (decide (a.2.1≤a.1)) (
 let q:=(w64 (e+1))
 some (.inl (f,m,q,b))) (
 let c:=(Int.ofNat (List.length b))
 cond (decide (c>0)) (
 let i:=(w64 (c-1))
 cond (inR i (List.length b)) (
 let t:=(List.getD b (Int.toNat i) (0,(0,0))).2.1
 cond (t==a.1) (
 let k:=(w64 (c-1))
 cond (inR k (List.length b)) (
 let p:=(List.getD b (Int.toNat k) (0,(0,0))).2.2
 cond (p==a.2.2) (
 let d:=(w64 (c-1))
 cond (inR d (List.length b)) (
 let x:Tn14:=(List.set b (Int.toNat d) ((List.getD b (Int.toNat d) (0,(0,0))).1,(a.2.1,(List.getD b (Int.toNat d) (0,(0,0))).2.2)))
 let s:=(w64 (e+1))
 some (.inl (f,m,s,x))) none) (
 let g:Tn14:=[(a.1,(a.2.1,a.2.2))]
 cond (decide (List.length b+List.length g≤j07)) (
 let r:Tn14:=(b++g)
 let w:=(w64 (e+1))
 some (.inl (f,m,w,r))) none)) none) (
 let l:Tn14:=[(a.1,(a.2.1,a.2.2))]
 cond (decide (List.length b+List.length l≤j07)) (
 let u:Tn14:=(b++l)
 let o:=(w64 (e+1))
 some (.inl (f,m,o,u))) none)) none) (
 let j:Tn14:=[(a.1,(a.2.1,a.2.2))]
 cond (decide (List.length b+List.length j≤j07)) (
 let v:Tn14:=(b++j)
 let n:=(w64 (e+1))
 some (.inl (f,m,n,v))) none))) none) (
 some (.inr b))
def j5f [LP] (a c d b):=LP.lp (fun h=>j5e h.1 h.2.1 h.2.2.1 h.2.2.2) (a,c,d,b)
theorem jg5 (a c d b):j5f a c d b=lpK (j5e a c d b) (fun h=>j5f h.1 h.2.1 h.2.2.1 h.2.2.2):=j04 _ _
def j75 [LP] (a:Tn14):Option (Tn14):=
 let b:=(Int.ofNat (List.length a))
 (j5f a b 0 ([]:Tn14)).bind fun c=>
 some c
def j1k [LP] (b5 o b2 q a4 a0:Int) (a7:ByteArray) (g f i m l:Int) (a:(List Int)) (e:Tn2) (j k p:Int) (c:Tn2) (b0 b:Int) (z:Tn14) (a1:Tn2):Option ((Int×Int×Int×Int×Int×Int×ByteArray×Int×Int×Int×Int×Int×(List Int)×Tn2×Int×Int×Int×Tn2×Int×Int×Tn14×Tn2) ⊕ ((Int×Int×Int×Int×Int×Int×ByteArray×Int×Int×Int×Int×Int×(List Int)×Tn2×Int×Int×Int×Tn2×Tn14×Tn2))):=
 cond (decide (o<b)) (
 cond (decide (o≥q)) (
 (j1Z (p,c) (a7,(g,((f,i),(m,(l,(a,(e,(j,k)))))))) o).bind fun d=>
 let b4:=(w64 (d+1))
 (j0E (p,c) (a7,(g,((f,i),(m,(l,(a,(e,(j,k)))))))) b4).bind fun n=>
 cond (!n.2) (
 let a3:Int:=(if 8589934593<b then 8589934593 else b:Int)
 let a2:=(Int.ofNat (List.length a))
 cond (!(a2==0)) (
 let a5:=(Int.tmod d a2)
 cond (inR a5 (List.length a)) (
 let b7:=(List.getD a (Int.toNat a5) 0)
 let a6:Tn14:=[(o,(a3,b7))]
 cond (decide (List.length z+List.length a6≤j07)) (
 let b6:Tn14:=(z++a6)
 some (.inl (b5,a3,d,8589934593,a4,a0,a7,g,f,i,m,l,a,e,j,k,p,c,b0,b,b6,a1))) none) none) none) (
 let v:Int:=(if n.1<b then n.1 else b:Int)
 let t:=(Int.ofNat (List.length a))
 cond (!(t==0)) (
 let r:=(Int.tmod d t)
 cond (inR r (List.length a)) (
 let a8:=(List.getD a (Int.toNat r) 0)
 let y:Tn14:=[(o,(v,a8))]
 cond (decide (List.length z+List.length y≤j07)) (
 let a9:Tn14:=(z++y)
 some (.inl (b5,v,d,n.1,a4,a0,a7,g,f,i,m,l,a,e,j,k,p,c,b0,b,a9,a1))) none) none) none)) (
 let x:Int:=(if q<b then q else b:Int)
 let w:=(Int.ofNat (List.length a))
 cond (!(w==0)) (
 let s:=(Int.tmod b2 w)
 cond (inR s (List.length a)) (
 let b1:=(List.getD a (Int.toNat s) 0)
 let u:Tn14:=[(o,(x,b1))]
 cond (decide (List.length z+List.length u≤j07)) (
 let b3:Tn14:=(z++u)
 some (.inl (b5,x,b2,q,a4,a0,a7,g,f,i,m,l,a,e,j,k,p,c,b0,b,b3,a1))) none) none) none)) (
 some (.inr (b5,o,b2,q,a4,a0,a7,g,f,i,m,l,a,e,j,k,p,c,z,a1)))
def j2r [LP] (v t s n r m w e d f l k i c g j o a q b u p):=LP.lp (fun h=>j1k h.1 h.2.1 h.2.2.1 h.2.2.2.1 h.2.2.2.2.1 h.2.2.2.2.2.1 h.2.2.2.2.2.2.1 h.2.2.2.2.2.2.2.1 h.2.2.2.2.2.2.2.2.1 h.2.2.2.2.2.2.2.2.2.1 h.2.2.2.2.2.2.2.2.2.2.1 h.2.2.2.2.2.2.2.2.2.2.2.1 h.2.2.2.2.2.2.2.2.2.2.2.2.1 h.2.2.2.2.2.2.2.2.2.2.2.2.2.1 h.2.2.2.2.2.2.2.2.2.2.2.2.2.2.1 h.2.2.2.2.2.2.2.2.2.2.2.2.2.2.2.1 h.2.2.2.2.2.2.2.2.2.2.2.2.2.2.2.2.1 h.2.2.2.2.2.2.2.2.2.2.2.2.2.2.2.2.2.1 h.2.2.2.2.2.2.2.2.2.2.2.2.2.2.2.2.2.2.1 h.2.2.2.2.2.2.2.2.2.2.2.2.2.2.2.2.2.2.2.1 h.2.2.2.2.2.2.2.2.2.2.2.2.2.2.2.2.2.2.2.2.1 h.2.2.2.2.2.2.2.2.2.2.2.2.2.2.2.2.2.2.2.2.2) (v,t,s,n,r,m,w,e,d,f,l,k,i,c,g,j,o,a,q,b,u,p)
theorem jeL (v t s n r m w e d f l k i c g j o a q b u p):j2r v t s n r m w e d f l k i c g j o a q b u p=lpK (j1k v t s n r m w e d f l k i c g j o a q b u p) (fun h=>j2r h.1 h.2.1 h.2.2.1 h.2.2.2.1 h.2.2.2.2.1 h.2.2.2.2.2.1 h.2.2.2.2.2.2.1 h.2.2.2.2.2.2.2.1 h.2.2.2.2.2.2.2.2.1 h.2.2.2.2.2.2.2.2.2.1 h.2.2.2.2.2.2.2.2.2.2.1 h.2.2.2.2.2.2.2.2.2.2.2.1 h.2.2.2.2.2.2.2.2.2.2.2.2.1 h.2.2.2.2.2.2.2.2.2.2.2.2.2.1 h.2.2.2.2.2.2.2.2.2.2.2.2.2.2.1 h.2.2.2.2.2.2.2.2.2.2.2.2.2.2.2.1 h.2.2.2.2.2.2.2.2.2.2.2.2.2.2.2.2.1 h.2.2.2.2.2.2.2.2.2.2.2.2.2.2.2.2.2.1 h.2.2.2.2.2.2.2.2.2.2.2.2.2.2.2.2.2.2.1 h.2.2.2.2.2.2.2.2.2.2.2.2.2.2.2.2.2.2.2.1 h.2.2.2.2.2.2.2.2.2.2.2.2.2.2.2.2.2.2.2.2.1 h.2.2.2.2.2.2.2.2.2.2.2.2.2.2.2.2.2.2.2.2.2):=j04 _ _
def j12 [LP] (w l z x k c:Int) (a0:ByteArray) (p o q v u:Int) (s:(List Int)) (m:Tn2) (r t y:Int) (f:Tn2) (n:Tn14) (e:Tn2):Option ((Int×Int×Int×Int×Int×Int×ByteArray×Int×Int×Int×Int×Int×(List Int)×Tn2×Int×Int×Int×Tn2×Tn14×Tn2) ⊕ ((Int×Int×Tn14))):=
 cond (decide (c<k)) (
 cond (inR c (List.length e)) (
 let b:=(List.getD e (Int.toNat c) (0,0)).1
 let j:=(List.getD e (Int.toNat c) (0,0)).2
 let d:Tn14:=[(l,(b,(-1)))]
 cond (decide (List.length n+List.length d≤j07)) (
 let i:Tn14:=(n++d)
 (j2r w b z x k c a0 p o q v u s m r t y f b j i e).bind fun a=>
 let g:=(w64 (a.2.2.2.2.2.1+1))
 some (.inl (a.1,a.2.1,a.2.2.1,a.2.2.2.1,a.2.2.2.2.1,g,a.2.2.2.2.2.2.1,a.2.2.2.2.2.2.2.1,a.2.2.2.2.2.2.2.2.1,a.2.2.2.2.2.2.2.2.2.1,a.2.2.2.2.2.2.2.2.2.2.1,a.2.2.2.2.2.2.2.2.2.2.2.1,a.2.2.2.2.2.2.2.2.2.2.2.2.1,a.2.2.2.2.2.2.2.2.2.2.2.2.2.1,a.2.2.2.2.2.2.2.2.2.2.2.2.2.2.1,a.2.2.2.2.2.2.2.2.2.2.2.2.2.2.2.1,a.2.2.2.2.2.2.2.2.2.2.2.2.2.2.2.2.1,a.2.2.2.2.2.2.2.2.2.2.2.2.2.2.2.2.2.1,a.2.2.2.2.2.2.2.2.2.2.2.2.2.2.2.2.2.2.1,a.2.2.2.2.2.2.2.2.2.2.2.2.2.2.2.2.2.2.2))) none) none) (
 some (.inr (w,l,n)))
def j2s [LP] (t r q m p l u d c e k j g b f i n a s o):=LP.lp (fun h=>j12 h.1 h.2.1 h.2.2.1 h.2.2.2.1 h.2.2.2.2.1 h.2.2.2.2.2.1 h.2.2.2.2.2.2.1 h.2.2.2.2.2.2.2.1 h.2.2.2.2.2.2.2.2.1 h.2.2.2.2.2.2.2.2.2.1 h.2.2.2.2.2.2.2.2.2.2.1 h.2.2.2.2.2.2.2.2.2.2.2.1 h.2.2.2.2.2.2.2.2.2.2.2.2.1 h.2.2.2.2.2.2.2.2.2.2.2.2.2.1 h.2.2.2.2.2.2.2.2.2.2.2.2.2.2.1 h.2.2.2.2.2.2.2.2.2.2.2.2.2.2.2.1 h.2.2.2.2.2.2.2.2.2.2.2.2.2.2.2.2.1 h.2.2.2.2.2.2.2.2.2.2.2.2.2.2.2.2.2.1 h.2.2.2.2.2.2.2.2.2.2.2.2.2.2.2.2.2.2.1 h.2.2.2.2.2.2.2.2.2.2.2.2.2.2.2.2.2.2.2) (t,r,q,m,p,l,u,d,c,e,k,j,g,b,f,i,n,a,s,o)
theorem j9b (t r q m p l u d c e k j g b f i n a s o):j2s t r q m p l u d c e k j g b f i n a s o=lpK (j12 t r q m p l u d c e k j g b f i n a s o) (fun h=>j2s h.1 h.2.1 h.2.2.1 h.2.2.2.1 h.2.2.2.2.1 h.2.2.2.2.2.1 h.2.2.2.2.2.2.1 h.2.2.2.2.2.2.2.1 h.2.2.2.2.2.2.2.2.1 h.2.2.2.2.2.2.2.2.2.1 h.2.2.2.2.2.2.2.2.2.2.1 h.2.2.2.2.2.2.2.2.2.2.2.1 h.2.2.2.2.2.2.2.2.2.2.2.2.1 h.2.2.2.2.2.2.2.2.2.2.2.2.2.1 h.2.2.2.2.2.2.2.2.2.2.2.2.2.2.1 h.2.2.2.2.2.2.2.2.2.2.2.2.2.2.2.1 h.2.2.2.2.2.2.2.2.2.2.2.2.2.2.2.2.1 h.2.2.2.2.2.2.2.2.2.2.2.2.2.2.2.2.2.1 h.2.2.2.2.2.2.2.2.2.2.2.2.2.2.2.2.2.2.1 h.2.2.2.2.2.2.2.2.2.2.2.2.2.2.2.2.2.2.2):=j04 _ _
def j1p [LP] (b:Tn73) (a:Tn59) (c d:Int):Option (Tn14):=
 cond (inR a.2.1 (List.length b.2)) (
 let g:=(List.getD b.2 (Int.toNat a.2.1) (0,([]:Tn2)))
 (j3U ((b.1.1,(b.1.2.1,(b.1.2.2.1,b.1.2.2.2))),b.2) (a.1,(a.2.1,((a.2.2.1.1,a.2.2.1.2),(a.2.2.2.1,(a.2.2.2.2.1,(a.2.2.2.2.2.1,(a.2.2.2.2.2.2.1,(a.2.2.2.2.2.2.2.1,a.2.2.2.2.2.2.2.2)))))))) c d).bind fun i=>
 let l:=(Int.ofNat (List.length i))
 (j2s d c (-1) (-1) l 0 a.1 a.2.1 a.2.2.1.1 a.2.2.1.2 a.2.2.2.1 a.2.2.2.2.1 a.2.2.2.2.2.1 a.2.2.2.2.2.2.1 a.2.2.2.2.2.2.2.1 a.2.2.2.2.2.2.2.2 g.1 g.2 ([]:Tn14) i).bind fun e=>
 let f:Tn14:=[(e.2.1,(e.1,(-1)))]
 cond (decide (List.length e.2.2+List.length f≤j07)) (
 let j:Tn14:=(e.2.2++f)
 (j75 j).bind fun k=>
 some k) none) none
def j4s (k:Int) (g:Tn29) (d b:Int) (f:Tn2):Option ((Int×Tn29×Int×Int×Tn2) ⊕ (Tn2)):=
 cond (decide (b<d)) (
 cond (inR b (List.length g)) (
 let a:=(List.getD g (Int.toNat b) (0,(0,(0,(0,0)))))
 cond (cond (a.1==0) (a.2.1==k) false) (
 let c:Tn2:=[(a.2.2.2.1,a.2.2.2.2)]
 cond (decide (List.length f+List.length c≤j07)) (
 let e:Tn2:=(f++c)
 let j:=(w64 (b+1))
 some (.inl (k,g,d,j,e))) none) (
 let i:=(w64 (b+1))
 some (.inl (k,g,d,i,f)))) none) (
 some (.inr f))
def j4N [LP] (c e a b d):=LP.lp (fun h=>j4s h.1 h.2.1 h.2.2.1 h.2.2.2.1 h.2.2.2.2) (c,e,a,b,d)
theorem jdR (c e a b d):j4N c e a b d=lpK (j4s c e a b d) (fun h=>j4N h.1 h.2.1 h.2.2.1 h.2.2.2.1 h.2.2.2.2):=j04 _ _
def j4D [LP] (b:Tn64) (a:Int):Option (Tn2):=
 let d:=(Int.ofNat (List.length b.2.2))
 (j4N a b.2.2 d 0 ([]:Tn2)).bind fun e=>
 (j5Y e).bind fun c=>
 some c
def j3V (m:Tn14) (n o l a:Int) (r:ByteArray) (f:Tn60) (d:Tn29) (t p e:Int) (s:Tn20) (q:Tn14) (c:Tn2):Option ((Tn14×Int×Int×Int×Int×ByteArray×Tn60×Tn29×Int×Int×Int×Tn20×Tn14×Tn2) ⊕ ((Tn14×Int×Int×ByteArray×Tn60×Tn29×Tn20×Tn14))):=
 cond (decide (a<l)) (
 cond (inR a (List.length c)) (
 let g:=(List.getD c (Int.toNat a) (0,0)).1
 let j:=(List.getD c (Int.toNat a) (0,0)).2
 let b:Tn14:=[(g,(j,e))]
 cond (decide (List.length q+List.length b≤j07)) (
 let i:Tn14:=(q++b)
 let k:=(w64 (a+1))
 some (.inl (m,n,o,l,k,r,f,d,t,p,e,s,i,c))) none) none) (
 some (.inr (m,n,o,r,f,d,s,q)))
def j2K [LP] (g i f e j l c a o b d n m k):=LP.lp (fun h=>j3V h.1 h.2.1 h.2.2.1 h.2.2.2.1 h.2.2.2.2.1 h.2.2.2.2.2.1 h.2.2.2.2.2.2.1 h.2.2.2.2.2.2.2.1 h.2.2.2.2.2.2.2.2.1 h.2.2.2.2.2.2.2.2.2.1 h.2.2.2.2.2.2.2.2.2.2.1 h.2.2.2.2.2.2.2.2.2.2.2.1 h.2.2.2.2.2.2.2.2.2.2.2.2.1 h.2.2.2.2.2.2.2.2.2.2.2.2.2) (g,i,f,e,j,l,c,a,o,b,d,n,m,k)
theorem jcz (g i f e j l c a o b d n m k):j2K g i f e j l c a o b d n m k=lpK (j3V g i f e j l c a o b d n m k) (fun h=>j2K h.1 h.2.1 h.2.2.1 h.2.2.2.1 h.2.2.2.2.1 h.2.2.2.2.2.1 h.2.2.2.2.2.2.1 h.2.2.2.2.2.2.2.1 h.2.2.2.2.2.2.2.2.1 h.2.2.2.2.2.2.2.2.2.1 h.2.2.2.2.2.2.2.2.2.2.1 h.2.2.2.2.2.2.2.2.2.2.2.1 h.2.2.2.2.2.2.2.2.2.2.2.2.1 h.2.2.2.2.2.2.2.2.2.2.2.2.2):=j04 _ _
def j1U [LP] (g:Tn14) (i d:Int) (n:ByteArray) (f:Tn60) (e:Tn29) (l:Tn20) (o:Tn14):Option ((Tn14×Int×Int×ByteArray×Tn60×Tn29×Tn20×Tn14) ⊕ (Tn14)):=
 cond (decide (d<i)) (
 cond (inR d (List.length g)) (
 let a:=(List.getD g (Int.toNat d) (0,(0,0)))
 cond (decide (a.2.2<0)) (
 let t:=(w64 (d+1))
 some (.inl (g,i,t,n,f,e,l,o))) (
 let z:Tn2:=(j6D ([]:Tn2) l a.2.2)
 cond (!(j8z l a.2.2)) (
 (j4D (n,(f,e)) a.2.2).bind fun x=>
 let m:Tn20:=(j87 l a.2.2 x)
 let p:Tn2:=[(a.1,a.2.1)]
 let r:Tn2:=(j6D ([]:Tn2) m a.2.2)
 (j2p p r).bind fun j=>
 let y:=(Int.ofNat (List.length j))
 (j2K g i d y 0 n f e a.1 a.2.1 a.2.2 m o j).bind fun c=>
 let w:=(w64 (c.2.2.1+1))
 some (.inl (c.1,c.2.1,w,c.2.2.2.1,c.2.2.2.2.1,c.2.2.2.2.2.1,c.2.2.2.2.2.2.1,c.2.2.2.2.2.2.2))) (
 let u:Tn2:=[(a.1,a.2.1)]
 let q:Tn2:=(j6D ([]:Tn2) l a.2.2)
 (j2p u q).bind fun k=>
 let v:=(Int.ofNat (List.length k))
 (j2K g i d v 0 n f e a.1 a.2.1 a.2.2 l o k).bind fun b=>
 let s:=(w64 (b.2.2.1+1))
 some (.inl (b.1,b.2.1,s,b.2.2.2.1,b.2.2.2.2.1,b.2.2.2.2.2.1,b.2.2.2.2.2.2.1,b.2.2.2.2.2.2.2))))) none) (
 some (.inr o))
def j3s [LP] (d e c f b a i g):=LP.lp (fun h=>j1U h.1 h.2.1 h.2.2.1 h.2.2.2.1 h.2.2.2.2.1 h.2.2.2.2.2.1 h.2.2.2.2.2.2.1 h.2.2.2.2.2.2.2) (d,e,c,f,b,a,i,g)
theorem jcA (d e c f b a i g):j3s d e c f b a i g=lpK (j1U d e c f b a i g) (fun h=>j3s h.1 h.2.1 h.2.2.1 h.2.2.2.1 h.2.2.2.2.1 h.2.2.2.2.2.1 h.2.2.2.2.2.2.1 h.2.2.2.2.2.2.2):=j04 _ _
def j5g [LP] (a:Tn64) (b:Tn14):Option (Tn14):=
 let c:Tn20:=([]:Tn20)
 let d:=(Int.ofNat (List.length b))
 (j3s b d 0 a.1 a.2.1 a.2.2 c ([]:Tn14)).bind fun e=>
 some e
def j5M (b:Tn14) (c:Tn2) (a d:Int) (n:Tn14):Option ((Tn14×Tn2×Int×Int×Tn14) ⊕ (Tn14)):=
 let p:=(Int.ofNat (List.length b))
 let o:=(Int.ofNat (List.length c))
 cond (cond (decide (a<p)) (decide (d<o)) false) (
 cond (inR a (List.length b)) (
 let l:=(List.getD b (Int.toNat a) (0,(0,0)))
 cond (inR d (List.length c)) (
 let e:=(List.getD c (Int.toNat d) (0,0))
 let g:Int:=(if e.1>l.1 then e.1 else l.1:Int)
 cond (inR a (List.length b)) (
 let k:=(List.getD b (Int.toNat a) (0,(0,0)))
 cond (inR d (List.length c)) (
 let f:=(List.getD c (Int.toNat d) (0,0))
 let m:Int:=(if f.2<k.2.1 then f.2 else k.2.1:Int)
 cond (inR a (List.length b)) (
 let u:=(List.getD b (Int.toNat a) (0,(0,0)))
 cond (decide (g<m)) (
 let i:Tn14:=[(g,(m,u.2.2))]
 cond (decide (List.length n+List.length i≤j07)) (
 let j:Tn14:=(n++i)
 cond (inR a (List.length b)) (
 let w:=(List.getD b (Int.toNat a) (0,(0,0)))
 cond (inR d (List.length c)) (
 let q:=(List.getD c (Int.toNat d) (0,0))
 cond (decide (w.2.1<q.2)) (
 let t:=(w64 (a+1))
 some (.inl (b,c,t,d,j))) (
 let s:=(w64 (d+1))
 some (.inl (b,c,a,s,j)))) none) none) none) (
 cond (inR a (List.length b)) (
 let v:=(List.getD b (Int.toNat a) (0,(0,0)))
 cond (inR d (List.length c)) (
 let r:=(List.getD c (Int.toNat d) (0,0))
 cond (decide (v.2.1<r.2)) (
 let x:=(w64 (a+1))
 some (.inl (b,c,x,d,n))) (
 let y:=(w64 (d+1))
 some (.inl (b,c,a,y,n)))) none) none)) none) none) none) none) none) (
 some (.inr n))
def j3c [LP] (a b e c d):=LP.lp (fun h=>j5M h.1 h.2.1 h.2.2.1 h.2.2.2.1 h.2.2.2.2) (a,b,e,c,d)
theorem jjP (a b e c d):j3c a b e c d=lpK (j5M a b e c d) (fun h=>j3c h.1 h.2.1 h.2.2.1 h.2.2.2.1 h.2.2.2.2):=j04 _ _
def j7v [LP] (b:Tn14) (a:Tn2):Option (Tn14):=
 (j3c b a 0 0 ([]:Tn14)).bind fun c=>
 some c
def j4O (g:Tn14) (i c:Int) (f:Tn2):Option ((Tn14×Int×Int×Tn2) ⊕ (Tn2)):=
 cond (decide (c<i)) (
 cond (inR c (List.length g)) (
 let a:=(List.getD g (Int.toNat c) (0,(0,0)))
 let b:Tn2:=[(a.1,a.2.1)]
 cond (decide (List.length f+List.length b≤j07)) (
 let d:Tn2:=(f++b)
 let e:=(w64 (c+1))
 some (.inl (g,i,e,d))) none) none) (
 some (.inr f))
def j5A [LP] (d a b c):=LP.lp (fun h=>j4O h.1 h.2.1 h.2.2.1 h.2.2.2) (d,a,b,c)
theorem jeM (d a b c):j5A d a b c=lpK (j4O d a b c) (fun h=>j5A h.1 h.2.1 h.2.2.1 h.2.2.2):=j04 _ _
def j7w [LP] (a:Tn14):Option (Tn2):=
 let c:=(Int.ofNat (List.length a))
 (j5A a c 0 ([]:Tn2)).bind fun d=>
 (j5Y d).bind fun b=>
 some b
def j3D (a b:Tn3):Option (Int):=
 let c:=(w64 (a.1-b.1))
 some c
def j0L (a:Tn14):Option (Tn14):=
 jrH ((.pair (.int .i64) (.pair (.int .i64) (.int .i64)))) (fun c b=>(j3D c b).getD 0) a
def j1c [LP] (r:Int) (l:Tn60) (t:Tn54) (e:Tn48) (j:Tn26) (k:Tn65) (g:Tn20) (v:ByteArray) (i:Tn60) (f:Tn29) (w u:Int) (d:Tn2) (c:Tn14):Option ((Int×Tn60×Tn54×Tn48×Tn26×Tn65×Tn20×ByteArray×Tn60×Tn29×Int×Int×Tn2×Tn14) ⊕ ((Tn2×Tn14))):=
 cond (decide (r≤0)) (
 some (.inr (d,c))) (
 cond (decide (r≤Int.ofNat (List.length l))) (
 let p:Int:=(r-1)
 let a:=(List.getD l (Int.toNat p) (ByteArray.empty,(0,((0,0),(0,(0,(([]:(List Int)),(([]:Tn2),(0,0)))))))))
 (j1p ((t,(e,(j,k))),g) (a.1,(a.2.1,((a.2.2.1.1,a.2.2.1.2),(a.2.2.2.1,(a.2.2.2.2.1,(a.2.2.2.2.2.1,(a.2.2.2.2.2.2.1,(a.2.2.2.2.2.2.2.1,a.2.2.2.2.2.2.2.2)))))))) w u).bind fun s=>
 (j5g (v,(i,f)) s).bind fun o=>
 (j7v o d).bind fun b=>
 cond (decide (List.length c+List.length b≤j07)) (
 let n:Tn14:=(c++b)
 (j7w b).bind fun m=>
 (j2p d m).bind fun q=>
 some (.inl ((r-1),l,t,e,j,k,g,v,i,f,w,u,q,n))) none) none)
def j2U [LP] (k j o b e d g l i f n m c a):=LP.lp (fun h=>j1c h.1 h.2.1 h.2.2.1 h.2.2.2.1 h.2.2.2.2.1 h.2.2.2.2.2.1 h.2.2.2.2.2.2.1 h.2.2.2.2.2.2.2.1 h.2.2.2.2.2.2.2.2.1 h.2.2.2.2.2.2.2.2.2.1 h.2.2.2.2.2.2.2.2.2.2.1 h.2.2.2.2.2.2.2.2.2.2.2.1 h.2.2.2.2.2.2.2.2.2.2.2.2.1 h.2.2.2.2.2.2.2.2.2.2.2.2.2) (k,j,o,b,e,d,g,l,i,f,n,m,c,a)
theorem ja2 (k j o b e d g l i f n m c a):j2U k j o b e d g l i f n m c a=lpK (j1c k j o b e d g l i f n m c a) (fun h=>j2U h.1 h.2.1 h.2.2.1 h.2.2.2.1 h.2.2.2.2.1 h.2.2.2.2.2.1 h.2.2.2.2.2.2.1 h.2.2.2.2.2.2.2.1 h.2.2.2.2.2.2.2.2.1 h.2.2.2.2.2.2.2.2.2.1 h.2.2.2.2.2.2.2.2.2.2.1 h.2.2.2.2.2.2.2.2.2.2.2.1 h.2.2.2.2.2.2.2.2.2.2.2.2.1 h.2.2.2.2.2.2.2.2.2.2.2.2.2):=j04 _ _
def j33 (j b:Int) (c:Tn2) (a:Tn14):Option ((Int×Int×Tn2×Tn14) ⊕ (Tn14)):=
 cond (decide (b<j)) (
 cond (inR b (List.length c)) (
 let f:=(List.getD c (Int.toNat b) (0,0)).1
 let e:=(List.getD c (Int.toNat b) (0,0)).2
 let d:Tn14:=[(f,(e,(-1)))]
 cond (decide (List.length a+List.length d≤j07)) (
 let g:Tn14:=(a++d)
 let i:=(w64 (b+1))
 some (.inl (j,i,c,g))) none) none) (
 some (.inr a))
def j2V [LP] (d b c a):=LP.lp (fun h=>j33 h.1 h.2.1 h.2.2.1 h.2.2.2) (d,b,c,a)
theorem ja3 (d b c a):j2V d b c a=lpK (j33 d b c a) (fun h=>j2V h.1 h.2.1 h.2.2.1 h.2.2.2):=j04 _ _
def j2L [LP] (b:Tn73) (c:Tn64) (a d:Int):Option (Tn14):=
 cond (decide (a≥d)) (
 some ([]:Tn14)) (
 let k:Tn2:=[(a,d)]
 (j1Y c.2.1).bind fun e=>
 (j2U (Int.ofNat (List.length e)) e b.1.1 b.1.2.1 b.1.2.2.1 b.1.2.2.2 b.2 c.1 c.2.1 c.2.2 a d k ([]:Tn14)).bind fun f=>
 let g:=(Int.ofNat (List.length f.1))
 (j2V g 0 f.1 f.2).bind fun l=>
 (j0L l).bind fun i=>
 (j75 i).bind fun j=>
 some j)
def j6I (a:Int):Option (Bool):=
 some (a != a)
def j20 (b:(List Int)) (c m d l:Int):Option (((List Int)×Int×Int×Int×Int) ⊕ (((List Int)×Int×Int×Int))):=
 cond (decide (d<l)) (
 let i:=(w64 (d+l))
 let j:Int:=(IntKind.wrap .u64 i)
 let f:Int:=(Int.fdiv j 2)
 let a:=(w64 f)
 cond (inR a (List.length b)) (
 let g:=(List.getD b (Int.toNat a) 0)
 (jaP g c).bind fun e=>
 cond e (
 let k:=(w64 (a+1))
 some (.inl (b,c,m,k,l))) (
 some (.inl (b,c,m,d,a)))) none) (
 some (.inr (b,c,m,d)))
def j1d [LP] (a b e c d):=LP.lp (fun h=>j20 h.1 h.2.1 h.2.2.1 h.2.2.2.1 h.2.2.2.2) (a,b,e,c,d)
theorem j9o (a b e c d):j1d a b e c d=lpK (j20 a b e c d) (fun h=>j1d h.1 h.2.1 h.2.2.1 h.2.2.2.1 h.2.2.2.2):=j04 _ _
def j0i [LP] (c:(List Int)) (b:Int):Option (Int×Bool):=
 let e:=(Int.ofNat (List.length c))
 (j1d c b e 0 e).bind fun a=>
 cond ((inR a.2.2.2 (List.length a.1)) || !(decide (a.2.2.2<a.2.2.1))) (
 let d:=(List.getD a.1 (Int.toNat a.2.2.2) 0)
 cond ((inR a.2.2.2 (List.length a.1)) || !((decide (a.2.2.2<a.2.2.1))&&(!(d==a.2.1)))) (
 let f:=(List.getD a.1 (Int.toNat a.2.2.2) 0)
 cond (decide (a.2.2.2<a.2.2.1)) (
 cond (d==a.2.1) (
 some (a.2.2.2,true)) (
 (j6I f).bind fun i=>
 cond i (
 (j6I a.2.1).bind fun g=>
 some (a.2.2.2,g)) (
 some (a.2.2.2,false)))) (
 cond ((d==a.2.1) || !false) (
 some (a.2.2.2,false)) none)) none) none
def jiI (a:Tn24) (b:Int):Option (Bool):=
 some (cond (decide (a.2.2.2.1≤b)) (decide (b<a.2.2.2.2)) false)
def j63 (f e:Int) (d:Tn29) (c b:Int):Option ((Int×Int×Tn29×Int×Int) ⊕ (Int)):=
 cond (decide (b<c)) (
 cond (inR b (List.length d)) (
 let a:=(List.getD d (Int.toNat b) (0,(0,(0,(0,0)))))
 (jiI (a.1,(a.2.1,(a.2.2.1,(a.2.2.2.1,a.2.2.2.2)))) e).bind fun m=>
 cond (cond (!m) true (a.1==0)) (
 let l:=(w64 (b+1))
 some (.inl (f,e,d,c,l))) (
 cond (a.1==1) (
 let n:=(w64 (b+1))
 some (.inl (a.2.1,e,d,c,n))) (
 cond (a.1 != 2) (
 let j:=(w64 (b+1))
 some (.inl (f,e,d,c,j))) (
 cond (f==a.2.1) (
 let k:=(w64 (b+1))
 some (.inl (a.2.2.1,e,d,c,k))) (
 cond (f==a.2.2.1) (
 let g:=(w64 (b+1))
 some (.inl (a.2.1,e,d,c,g))) (
 let i:=(w64 (b+1))
 some (.inl (f,e,d,c,i)))))))) none) (
 some (.inr f))
def j7x [LP] (c d e a b):=LP.lp (fun h=>j63 h.1 h.2.1 h.2.2.1 h.2.2.2.1 h.2.2.2.2) (c,d,e,a,b)
theorem jgQ (c d e a b):j7x c d e a b=lpK (j63 c d e a b) (fun h=>j7x h.1 h.2.1 h.2.2.1 h.2.2.2.1 h.2.2.2.2):=j04 _ _
def jaQ [LP] (b:Tn29) (a c:Int):Option (Int):=
 let d:=(Int.ofNat (List.length b))
 (j7x a c b d 0).bind fun e=>
 some e
def j3d (p q:Int) (f:Tn29) (n b:Int) (s:Tn54) (d:Tn48) (e:Tn26) (k:Tn65) (i:Tn20) (r:ByteArray) (j:Tn60) (g:Tn29) (o:(List Int)):Option ((Int×Int×Tn29×Int×Int×Tn54×Tn48×Tn26×Tn65×Tn20×ByteArray×Tn60×Tn29×(List Int)) ⊕ ((Int×Int×Tn54×Tn48×Tn26×Tn65×Tn20×ByteArray×Tn60×Tn29×(List Int)))):=
 cond (decide (b<n)) (
 cond (inR b (List.length f)) (
 let a:=(List.getD f (Int.toNat b) (0,(0,(0,(0,0)))))
 let c:(List Int):=[a.2.2.2.1,a.2.2.2.2]
 cond (decide (List.length o+List.length c≤j07)) (
 let l:(List Int):=(o++c)
 let m:=(w64 (b+1))
 some (.inl (p,q,f,n,m,s,d,e,k,i,r,j,g,l))) none) none) (
 some (.inr (p,q,s,d,e,k,i,r,j,g,o)))
def j3e [LP] (l m i j g o a b f d n e c k):=LP.lp (fun h=>j3d h.1 h.2.1 h.2.2.1 h.2.2.2.1 h.2.2.2.2.1 h.2.2.2.2.2.1 h.2.2.2.2.2.2.1 h.2.2.2.2.2.2.2.1 h.2.2.2.2.2.2.2.2.1 h.2.2.2.2.2.2.2.2.2.1 h.2.2.2.2.2.2.2.2.2.2.1 h.2.2.2.2.2.2.2.2.2.2.2.1 h.2.2.2.2.2.2.2.2.2.2.2.2.1 h.2.2.2.2.2.2.2.2.2.2.2.2.2) (l,m,i,j,g,o,a,b,f,d,n,e,c,k)
theorem jaR (l m i j g o a b f d n e c k):j3e l m i j g o a b f d n e c k=lpK (j3d l m i j g o a b f d n e c k) (fun h=>j3e h.1 h.2.1 h.2.2.1 h.2.2.2.1 h.2.2.2.2.1 h.2.2.2.2.2.1 h.2.2.2.2.2.2.1 h.2.2.2.2.2.2.2.1 h.2.2.2.2.2.2.2.2.1 h.2.2.2.2.2.2.2.2.2.1 h.2.2.2.2.2.2.2.2.2.2.1 h.2.2.2.2.2.2.2.2.2.2.2.1 h.2.2.2.2.2.2.2.2.2.2.2.2.1 h.2.2.2.2.2.2.2.2.2.2.2.2.2):=j04 _ _
def j1q [LP] (k j q p:Int) (s:ByteArray) (i:Tn60) (b:Tn29) (t a d:Int) (e:(List Int)) (l r:Tn14):Option ((Int×Int×Int×Int×ByteArray×Tn60×Tn29×Int×Int×Int×(List Int)×Tn14×Tn14) ⊕ ((Int×Int×ByteArray×Tn60×Tn29×(List Int)×Tn14×Tn14))):=
 cond (decide (j<a)) (
 cond (inR k (List.length e)) (
 let f:=(List.getD e (Int.toNat k) 0)
 let c:Int:=(if f<a then f else a:Int)
 (jaQ b d j).bind fun n=>
 let g:Tn14:=[(j,(c,n))]
 cond (decide (List.length l+List.length g≤j07)) (
 let m:Tn14:=(l++g)
 let o:=(w64 (k+1))
 some (.inl (o,c,q,p,s,i,b,t,a,d,e,m,r))) none) none) (
 some (.inr (q,p,s,i,b,e,l,r)))
def j49 [LP] (f e k l n d c i b a g j m):=LP.lp (fun h=>j1q h.1 h.2.1 h.2.2.1 h.2.2.2.1 h.2.2.2.2.1 h.2.2.2.2.2.1 h.2.2.2.2.2.2.1 h.2.2.2.2.2.2.2.1 h.2.2.2.2.2.2.2.2.1 h.2.2.2.2.2.2.2.2.2.1 h.2.2.2.2.2.2.2.2.2.2.1 h.2.2.2.2.2.2.2.2.2.2.2.1 h.2.2.2.2.2.2.2.2.2.2.2.2) (f,e,k,l,n,d,c,i,b,a,g,j,m)
theorem jaS (f e k l n d c i b a g j m):j49 f e k l n d c i b a g j m=lpK (j1q f e k l n d c i b a g j m) (fun h=>j49 h.1 h.2.1 h.2.2.1 h.2.2.2.1 h.2.2.2.2.1 h.2.2.2.2.2.1 h.2.2.2.2.2.2.1 h.2.2.2.2.2.2.2.1 h.2.2.2.2.2.2.2.2.1 h.2.2.2.2.2.2.2.2.2.1 h.2.2.2.2.2.2.2.2.2.2.1 h.2.2.2.2.2.2.2.2.2.2.2.1 h.2.2.2.2.2.2.2.2.2.2.2.2):=j04 _ _
def j1r [LP] (m b:Int) (p:ByteArray) (o:Tn60) (n:Tn29) (k:(List Int)) (l d:Tn14):Option ((Int×Int×ByteArray×Tn60×Tn29×(List Int)×Tn14×Tn14) ⊕ (Tn14)):=
 cond (decide (b<m)) (
 cond (inR b (List.length d)) (
 let c:=(List.getD d (Int.toNat b) (0,(0,0))).1
 let e:=(List.getD d (Int.toNat b) (0,(0,0))).2.1
 let i:=(List.getD d (Int.toNat b) (0,(0,0))).2.2
 let g:=(w64 (c+1))
 (j0i k g).bind fun f=>
 (j49 f.1 c m b p o n c e i k l d).bind fun a=>
 let j:=(w64 (a.2.1+1))
 some (.inl (a.1,j,a.2.2.1,a.2.2.2.1,a.2.2.2.2.1,a.2.2.2.2.2.1,a.2.2.2.2.2.2.1,a.2.2.2.2.2.2.2))) none) (
 some (.inr l))
def j3f [LP] (e f i b a c d g):=LP.lp (fun h=>j1r h.1 h.2.1 h.2.2.1 h.2.2.2.1 h.2.2.2.2.1 h.2.2.2.2.2.1 h.2.2.2.2.2.2.1 h.2.2.2.2.2.2.2) (e,f,i,b,a,c,d,g)
theorem jaT (e f i b a c d g):j3f e f i b a c d g=lpK (j1r e f i b a c d g) (fun h=>j3f h.1 h.2.1 h.2.2.1 h.2.2.2.1 h.2.2.2.2.1 h.2.2.2.2.2.1 h.2.2.2.2.2.2.1 h.2.2.2.2.2.2.2):=j04 _ _
def j3g [LP] (c:Tn73) (b:Tn64) (d e:Int):Option (Tn14):=
 let k:=(Int.ofNat (List.length b.2.2))
 (j3e d e b.2.2 k 0 c.1.1 c.1.2.1 c.1.2.2.1 c.1.2.2.2 c.2 b.1 b.2.1 b.2.2 ([]:(List Int))).bind fun a=>
 (jcx a.2.2.2.2.2.2.2.2.2.2 a.1 a.2.1).bind fun i=>
 (j2L ((a.2.2.1,(a.2.2.2.1,(a.2.2.2.2.1,a.2.2.2.2.2.1))),a.2.2.2.2.2.2.1) (a.2.2.2.2.2.2.2.1,(a.2.2.2.2.2.2.2.2.1,a.2.2.2.2.2.2.2.2.2.1)) a.1 a.2.1).bind fun f=>
 let j:=(Int.ofNat (List.length f))
 (j3f j 0 a.2.2.2.2.2.2.2.1 a.2.2.2.2.2.2.2.2.1 a.2.2.2.2.2.2.2.2.2.1 i ([]:Tn14) f).bind fun l=>
 (j75 l).bind fun g=>
 some g
def jbT (o m n a:Int) (q:Tn54) (c:Tn48) (e:Tn26) (d:Tn65) (g:Tn20) (p:ByteArray) (i:Tn60) (f:Tn29) (b:Tn14):Option ((Int×Int×Int×Int×Tn54×Tn48×Tn26×Tn65×Tn20×ByteArray×Tn60×Tn29×Tn14) ⊕ ((Int×Bool) ⊕ (Int×Int×Tn54×Tn48×Tn26×Tn65×Tn20×ByteArray×Tn60×Tn29))):=
 cond (decide (a<n)) (
 cond (inR a (List.length b)) (
 let l:=(List.getD b (Int.toNat a) (0,(0,0))).1
 let r:=(List.getD b (Int.toNat a) (0,(0,0))).2.1
 let k:=(List.getD b (Int.toNat a) (0,(0,0))).2.2
 cond (decide (k<0)) (
 some (.inr (.inl (l,true)))) (
 let j:=(w64 (a+1))
 some (.inl (o,m,n,j,q,c,e,d,g,p,i,f,b)))) none) (
 some (.inr (.inr (o,m,q,c,e,d,g,p,i,f))))
def jcB [LP] (l i k j n a c b e m f d g):=LP.lp (fun h=>jbT h.1 h.2.1 h.2.2.1 h.2.2.2.1 h.2.2.2.2.1 h.2.2.2.2.2.1 h.2.2.2.2.2.2.1 h.2.2.2.2.2.2.2.1 h.2.2.2.2.2.2.2.2.1 h.2.2.2.2.2.2.2.2.2.1 h.2.2.2.2.2.2.2.2.2.2.1 h.2.2.2.2.2.2.2.2.2.2.2.1 h.2.2.2.2.2.2.2.2.2.2.2.2) (l,i,k,j,n,a,c,b,e,m,f,d,g)
def j4t [LP] (o l:Int) (r:Tn54) (e:Tn48) (f:Tn26) (k:Tn65) (i:Tn20) (q:ByteArray) (j:Tn60) (g:Tn29):Option ((Int×Int×Tn54×Tn48×Tn26×Tn65×Tn20×ByteArray×Tn60×Tn29) ⊕ ((Int×Bool) ⊕ Unit)):=
 cond (decide (o<l)) (
 let c:=(w64 (o+4320000))
 let d:Int:=(if c<l then c else l:Int)
 (j3g ((r,(e,(f,k))),i) (q,(j,g)) o d).bind fun b=>
 let m:=(Int.ofNat (List.length b))
 (jcB l d m 0 r e f k i q j g b).bind fun p=>
 sumC p (fun n=>
 some (.inr (.inl (n.1,n.2)))) (fun a=>
 some (.inl (a.2.1,a.1,a.2.2.1,a.2.2.2.1,a.2.2.2.2.1,a.2.2.2.2.2.1,a.2.2.2.2.2.2.1,a.2.2.2.2.2.2.2.1,a.2.2.2.2.2.2.2.2.1,a.2.2.2.2.2.2.2.2.2)))) (
 some (.inr (.inr ())))
def jcC [LP] (g i k a b f d j e c):=LP.lp (fun h=>j4t h.1 h.2.1 h.2.2.1 h.2.2.2.1 h.2.2.2.2.1 h.2.2.2.2.2.1 h.2.2.2.2.2.2.1 h.2.2.2.2.2.2.2.1 h.2.2.2.2.2.2.2.2.1 h.2.2.2.2.2.2.2.2.2) (g,i,k,a,b,f,d,j,e,c)
def jaU [LP] (a:Tn73) (b:Tn64) (c d:Int):Option (Int×Bool):=
 (jcC c d a.1.1 a.1.2.1 a.1.2.2.1 a.1.2.2.2 a.2 b.1 b.2.1 b.2.2).bind fun e=>
 sumC e (fun f=>
 some (f.1,f.2)) (fun g=>
 some (0,false))
def j57 [LP] (d:Tn71) (a b:Int):Option (Int×Bool×Int):=
 (j6o (d.1,(d.2.1,(d.2.2.1,d.2.2.2))) a b b).bind fun c=>
 cond (c.2 != 0) (
 some (0,false,c.2)) (
 cond (inR a (List.length d.2.2.2)) (
 let e:=(List.getD d.2.2.2 (Int.toNat a) (ByteArray.empty,(([]:Tn60),([]:Tn29))))
 (j54 ((c.1.1.1,(c.1.1.2.1,(c.1.1.2.2.1,c.1.1.2.2.2))),c.1.2) (e.1,(e.2.1,e.2.2))).bind fun f=>
 let j:Int:=(if f>b then f else b:Int)
 let i:=(w64 (j+604800))
 let k:Int:=(if 8589934592<i then 8589934592 else i:Int)
 (jaU ((c.1.1.1,(c.1.1.2.1,(c.1.1.2.2.1,c.1.1.2.2.2))),c.1.2) (e.1,(e.2.1,e.2.2)) b k).bind fun g=>
 some (g.1,(!g.2),0)) none)
def j64 [LP] (b:Tn71) (a d e:Int):Option (Tn14×Int):=
 (j6o (b.1,(b.2.1,(b.2.2.1,b.2.2.2))) a d e).bind fun c=>
 cond (c.2 != 0) (
 some (([]:Tn14),c.2)) (
 cond (inR a (List.length b.2.2.2)) (
 let f:=(List.getD b.2.2.2 (Int.toNat a) (ByteArray.empty,(([]:Tn60),([]:Tn29))))
 (j3g ((c.1.1.1,(c.1.1.2.1,(c.1.1.2.2.1,c.1.1.2.2.2))),c.1.2) (f.1,(f.2.1,f.2.2)) d e).bind fun g=>
 let i:=(Int.ofNat (List.length g))
 cond (decide (i>16384)) (
 some (([]:Tn14),5)) (
 some (g,0))) none)
def j3x (j:Int) (e:Tn14) (k b:Int) (f:Tn2):Option ((Int×Tn14×Int×Int×Tn2) ⊕ (Tn2)):=
 cond (decide (b<k)) (
 cond (inR b (List.length e)) (
 let a:=(List.getD e (Int.toNat b) (0,(0,0)))
 cond (a.2.2==j) (
 let c:Tn2:=[(a.1,a.2.1)]
 cond (decide (List.length f+List.length c≤j07)) (
 let d:Tn2:=(f++c)
 let g:=(w64 (b+1))
 some (.inl (j,e,k,g,d))) none) (
 let i:=(w64 (b+1))
 some (.inl (j,e,k,i,f)))) none) (
 some (.inr f))
def j3E [LP] (b c e a d):=LP.lp (fun h=>j3x h.1 h.2.1 h.2.2.1 h.2.2.2.1 h.2.2.2.2) (b,c,e,a,d)
theorem jbU (b c e a d):j3E b c e a d=lpK (j3x b c e a d) (fun h=>j3E h.1 h.2.1 h.2.2.1 h.2.2.2.1 h.2.2.2.2):=j04 _ _
def j76 [LP] (b:Tn14) (a:Int):Option (Tn2):=
 let d:=(Int.ofNat (List.length b))
 (j3E a b d 0 ([]:Tn2)).bind fun e=>
 (j5Y e).bind fun c=>
 some c
def j9c [LP] (b:Tn71) (a c d f:Int):Option (Tn2×Int):=
 (j64 (b.1,(b.2.1,(b.2.2.1,b.2.2.2))) a d f).bind fun e=>
 cond (e.2 != 0) (
 some (([]:Tn2),e.2)) (
 (j76 e.1 c).bind fun g=>
 let i:=(Int.ofNat (List.length g))
 cond (decide (i>4096)) (
 some (([]:Tn2),5)) (
 some (g,0)))
def j2M [LP] (b:Tn71) (a c d:Int):Option (Tn2×Int):=
 (j9c (b.1,(b.2.1,(b.2.2.1,b.2.2.2))) a (-1) c d).bind fun e=>
 some (e.1,e.2)
def j24 [LP] (b:Tn71) (a c d:Int):Option (Bool):=
 (j2M (b.1,(b.2.1,(b.2.2.1,b.2.2.2))) a c d).bind fun e=>
 let f:=(Int.ofNat (List.length e.1))
 some (cond (e.2==0) (f==0) false)
def j6J [LP] (b:Tn71) (a:Int):Option (Int):=
 (jfh (b.1,(b.2.1,(b.2.2.1,b.2.2.2)))).bind fun c=>
 cond (!c.2) (
 some 0) (
 (jcw (b.1,(b.2.1,(b.2.2.1,b.2.2.2))) a).bind fun e=>
 cond (!e) (
 some 0) (
 cond (inR a (List.length b.2.2.2)) (
 let d:=(List.getD b.2.2.2 (Int.toNat a) (ByteArray.empty,(([]:Tn60),([]:Tn29))))
 (j54 ((c.1.1.1,(c.1.1.2.1,(c.1.1.2.2.1,c.1.1.2.2.2))),c.1.2) (d.1,(d.2.1,d.2.2))).bind fun f=>
 some f) none))
def jak [LP]  : Option (Bool):=
 (jl6 false).bind fun a=>
 (jl6 true).bind fun b=>
 (j57 (a.1,(a.2.1,(a.2.2.1,a.2.2.2))) 0 950400).bind fun d=>
 (j57 (b.1,(b.2.1,(b.2.2.1,b.2.2.2))) 0 950400).bind fun f=>
 (j2M (a.1,(a.2.1,(a.2.2.1,a.2.2.2))) 0 345600 950400).bind fun c=>
 let m:Bool:=(cond (cond (d.2.2==0) (f.2.2==0) false) (c.2==0) false)
 let k:=(Int.ofNat (List.length c.1))
 let g:Bool:=(cond (cond (cond (cond m (!d.2.1) false) f.2.1 false) (d.1==1382400) false) (k==1) false)
 cond ((inR 0 (List.length c.1)) || !g) (
 let l:=(List.getD c.1 0 (0,0)).1
 let e:=(List.getD c.1 0 (0,0)).2
 cond (cond g ((l==777600)&&(e==950400)) false) (
 (j24 (b.1,(b.2.1,(b.2.2.1,b.2.2.2))) 0 345600 2592000).bind fun i=>
 cond i (
 (j6J (a.1,(a.2.1,(a.2.2.1,a.2.2.2))) 0).bind fun j=>
 some (j==345600)) (
 some false)) (
 some false)) none
def jnj (a:(List Int)):Option ((List Int)×Int):=
 some (a,0)
def j06 (b:(List Int)) (a c:Int):Option (Int×(List Int)×Int):=
 let i:=(Int.ofNat (List.length b))
 cond (decide (a≥i)) (
 some (0,b,a)) (
 cond (decide (c<1)) (
 some (0,b,a)) (
 cond (inR a (List.length b)) (
 let f:=(List.getD b (Int.toNat a) 0)
 cond (!(c==0)) (
 let d:=(Int.tmod f c)
 let e:=(w64 (a+1))
 cond (decide (d<0)) (
 let g:=(w64 (d+c))
 some (g,b,e)) (
 some (d,b,e))) none) none))
def j1z (d:(List Int)) (b:Int) (a:(List Int)):Option (Int×(List Int)×Int):=
 let f:=(Int.ofNat (List.length a))
 (j06 d b f).bind fun c=>
 cond (inR c.1 (List.length a)) (
 let e:=(List.getD a (Int.toNat c.1) 0)
 some (e,c.2.1,c.2.2)) none
def j4E (a0:(List Int)) (m:Int) (a:ByteArray):Option (Tn52×(List Int)×Int):=
 let a9:(List Int):=[0,4,(-20),22,48,(-47)]
 (j1z a0 m a9).bind fun w=>
 (j06 w.2.1 w.2.2 2).bind fun j=>
 (j06 j.2.1 j.2.2 3).bind fun l=>
 let b4:=(w64 (j.1*l.1))
 let b5:=(w64 (w.1+b4))
 let c:=(w64 (900*b5))
 (j06 l.2.1 l.2.2 2).bind fun k=>
 let g:=(w64 (2025+k.1))
 (j06 k.2.1 k.2.2 4).bind fun b=>
 cond (b.1==1) (
 let b1:=(w64 (c+3600))
 let a7:Tn42:=[(2025,(g,(3,(5,(6,(7200,b1)))))),(2025,(g,(10,(5,(6,(10800,c))))))]
 some ((a,(c,a7)),b.2.1,b.2.2)) (
 cond (b.1==2) (
 (j06 b.2.1 b.2.2 4).bind fun n=>
 let b7:=(w64 (1+n.1))
 (j06 n.2.1 n.2.2 7).bind fun x=>
 (j06 x.2.1 x.2.2 24).bind fun u=>
 let a4:=(w64 (3600*u.1))
 (j06 u.2.1 u.2.2 8).bind fun p=>
 let b6:=(w64 (1+p.1))
 let a2:=(w64 (1800*b6))
 let a8:=(w64 (c+a2))
 (j06 p.2.1 p.2.2 2).bind fun t=>
 let a6:=(w64 (2+t.1))
 let b3:(List Int):=[2,3,5]
 (j1z t.2.1 t.2.2 b3).bind fun r=>
 (j06 r.2.1 r.2.2 7).bind fun i=>
 (j06 i.2.1 i.2.2 24).bind fun v=>
 let a1:=(w64 (3600*v.1))
 let b2:Tn42:=[(2025,(g,(1,(b7,(x.1,(a4,a8)))))),(2025,(g,(a6,(r.1,(i.1,(a1,c))))))]
 some ((a,(c,b2)),v.2.1,v.2.2)) (
 cond (b.1==3) (
 let b0:(List Int):=[3600,(-3600),82800,(-82800),43200]
 (j1z b.2.1 b.2.2 b0).bind fun f=>
 let s:=(w64 (c+f.1))
 cond (cond (decide (s>64800)) true (decide (s<(-64800)))) (
 (j06 f.2.1 f.2.2 7).bind fun o=>
 (j06 o.2.1 o.2.2 48).bind fun q=>
 let a3:=(w64 (1800*q.1))
 let a5:Tn42:=[(2026,(2026,(1,(2,(o.1,(a3,0))))))]
 some ((a,(c,a5)),q.2.1,q.2.2)) (
 (j06 f.2.1 f.2.2 7).bind fun d=>
 (j06 d.2.1 d.2.2 48).bind fun e=>
 let y:=(w64 (1800*e.1))
 let z:Tn42:=[(2026,(2026,(1,(2,(d.1,(y,s))))))]
 some ((a,(c,z)),e.2.1,e.2.2))) (
 some ((a,(c,([]:Tn42))),b.2.1,b.2.2))))
def jhM  : Option ((List ByteArray)):=
 let a:(List ByteArray):=[(ByteArray.mk #[97,100,97]),(ByteArray.mk #[98,111,98]),(ByteArray.mk #[99,108,101,111]),(ByteArray.mk #[100,97,110]),(ByteArray.mk #[101,118,101]),(ByteArray.mk #[102,97,121]),(ByteArray.mk #[103,117,115]),(ByteArray.mk #[104,97,108])]
 some a
def j1g (c:(List Int)) (b a:Int):Option (Bool×(List Int)×Int):=
 (j06 c b a).bind fun d=>
 let e:=(w64 (a-1))
 some ((d.1==e),d.2.1,d.2.2)
def j2I (r p:Int) (q:(List Int)) (g:Int) (m:Tn2):Option ((Int×Int×(List Int)×Int×Tn2) ⊕ (((List Int)×Int×Tn2))):=
 cond (decide (p>0)) (
 (j06 q g 30).bind fun b=>
 let o:=(w64 (3600*b.1))
 let i:=(w64 (r+o))
 (j06 b.2.1 b.2.2 2).bind fun d=>
 let l:=(w64 (60*d.1))
 let e:=(w64 (i+l))
 let j:(List Int):=[3600,28800,43200,86400,61,1]
 (j1z d.2.1 d.2.2 j).bind fun a=>
 let c:=(w64 (e+a.1))
 cond (decide (c>604800)) (
 some (.inr (a.2.1,a.2.2,m))) (
 let f:Tn2:=[(e,c)]
 cond (decide (List.length m+List.length f≤j07)) (
 let n:Tn2:=(m++f)
 let k:=(w64 (p-1))
 some (.inl (c,k,a.2.1,a.2.2,n))) none)) (
 some (.inr (q,g,m)))
def j5N [LP] (d b c a e):=LP.lp (fun h=>j2I h.1 h.2.1 h.2.2.1 h.2.2.2.1 h.2.2.2.2) (d,b,c,a,e)
theorem j9p (d b c a e):j5N d b c a e=lpK (j2I d b c a e) (fun h=>j5N h.1 h.2.1 h.2.2.1 h.2.2.2.1 h.2.2.2.2):=j04 _ _
def j4G [LP] (b:(List Int)) (a:Int):Option (Tn2×(List Int)×Int):=
 (j06 b a 4).bind fun d=>
 (j5N 0 d.1 d.2.1 d.2.2 ([]:Tn2)).bind fun c=>
 some (c.2.2,c.1,c.2.1)
def j3h (l:Int) (k:(List Int)) (f:Int) (b:Tn54):Option ((Int×(List Int)×Int×Tn54) ⊕ (((List Int)×Int×Tn54))):=
 cond (decide (l>0)) (
 let d:(List ByteArray):=[(ByteArray.mk #[104,101,114,101]),(ByteArray.mk #[116,104,101,114,101])]
 let c:=(Int.ofNat (List.length b))
 cond (inR c (List.length d)) (
 let g:=(List.getD d (Int.toNat c) ByteArray.empty)
 (j4E k f g).bind fun a=>
 let e:Tn54:=[(a.1.1,(a.1.2.1,a.1.2.2))]
 cond (decide (List.length b+List.length e≤j07)) (
 let i:Tn54:=(b++e)
 let j:=(w64 (l-1))
 some (.inl (j,a.2.1,a.2.2,i))) none) none) (
 some (.inr (k,f,b)))
def j7g [LP] (d c b a):=LP.lp (fun h=>j3h h.1 h.2.1 h.2.2.1 h.2.2.2) (d,c,b,a)
theorem jaV (d c b a):j7g d c b a=lpK (j3h d c b a) (fun h=>j7g h.1 h.2.1 h.2.2.1 h.2.2.2):=j04 _ _
def j3i [LP] (a4:Int) (a5:(List Int)) (q:Int) (e:Tn54) (b:Tn48):Option ((Int×(List Int)×Int×Tn54×Tn48) ⊕ (((List Int)×Int×Tn54×Tn48))):=
 cond (decide (a4>0)) (
 (jhM).bind fun o=>
 let l:=(Int.ofNat (List.length b))
 cond (inR l (List.length o)) (
 let n:=(List.getD o (Int.toNat l) ByteArray.empty)
 let s:=(Int.ofNat (List.length e))
 (j06 a5 q s).bind fun c=>
 (j1g c.2.1 c.2.2 3).bind fun d=>
 (j1g d.2.1 d.2.2 2).bind fun a=>
 cond a.1 (
 (j4G a.2.1 a.2.2).bind fun j=>
 let a2:(List Int):=[0,40,100,12]
 (j1z j.2.1 j.2.2 a2).bind fun g=>
 let v:=(w64 (3600*g.1))
 let w:(List Int):=[0,11,24,1]
 (j1z g.2.1 g.2.2 w).bind fun k=>
 let y:=(w64 (3600*k.1))
 let m:Tn48:=[(n,(c.1,(j.1,(v,(y,d.1)))))]
 cond (decide (List.length b+List.length m≤j07)) (
 let u:Tn48:=(b++m)
 let x:=(w64 (a4-1))
 some (.inl (x,k.2.1,k.2.2,e,u))) none) (
 let a0:(List Int):=[0,40,100,12]
 (j1z a.2.1 a.2.2 a0).bind fun f=>
 let a1:=(w64 (3600*f.1))
 let z:(List Int):=[0,11,24,1]
 (j1z f.2.1 f.2.2 z).bind fun i=>
 let t:=(w64 (3600*i.1))
 let p:Tn48:=[(n,(c.1,(([]:Tn2),(a1,(t,d.1)))))]
 cond (decide (List.length b+List.length p≤j07)) (
 let a3:Tn48:=(b++p)
 let r:=(w64 (a4-1))
 some (.inl (r,i.2.1,i.2.2,e,a3))) none)) none) (
 some (.inr (a5,q,e,b)))
def j7h [LP] (d e b a c):=LP.lp (fun h=>j3i h.1 h.2.1 h.2.2.1 h.2.2.2.1 h.2.2.2.2) (d,e,b,a,c)
theorem jaW (d e b a c):j7h d e b a c=lpK (j3i d e b a c) (fun h=>j7h h.1 h.2.1 h.2.2.1 h.2.2.2.1 h.2.2.2.2):=j04 _ _
def j3j (m p n:Int) (o:(List Int)) (i:Int) (q:ByteArray) (e:Int) (f:Tn54) (j:Tn48) (g:Tn26) (c:(List Int)):Option ((Int×Int×Int×(List Int)×Int×ByteArray×Int×Tn54×Tn48×Tn26×(List Int)) ⊕ ((Int×(List Int)×Int×ByteArray×Int×Tn54×Tn48×Tn26×(List Int)))):=
 cond (decide (p>0)) (
 (j06 o i 6).bind fun b=>
 let k:=(w64 (1+b.1))
 let a:=(w64 (n+k))
 cond (decide (List.length c+List.length [a]≤j07)) (
 let d:(List Int):=(c++[a])
 let l:=(w64 (p-1))
 some (.inl (m,l,a,b.2.1,b.2.2,q,e,f,j,g,d))) none) (
 some (.inr (m,o,i,q,e,f,j,g,c)))
def j7i [LP] (i k g j e l a b f c d):=LP.lp (fun h=>j3j h.1 h.2.1 h.2.2.1 h.2.2.2.1 h.2.2.2.2.1 h.2.2.2.2.2.1 h.2.2.2.2.2.2.1 h.2.2.2.2.2.2.2.1 h.2.2.2.2.2.2.2.2.1 h.2.2.2.2.2.2.2.2.2.1 h.2.2.2.2.2.2.2.2.2.2) (i,k,g,j,e,l,a,b,f,c,d)
theorem jaX (i k g j e l a b f c d):j7i i k g j e l a b f c d=lpK (j3j i k g j e l a b f c d) (fun h=>j7i h.1 h.2.1 h.2.2.1 h.2.2.2.1 h.2.2.2.2.1 h.2.2.2.2.2.1 h.2.2.2.2.2.2.1 h.2.2.2.2.2.2.2.1 h.2.2.2.2.2.2.2.2.1 h.2.2.2.2.2.2.2.2.2.1 h.2.2.2.2.2.2.2.2.2.2):=j04 _ _
def j2x [LP] (m:Int) (n:(List Int)) (g:Int) (e:Tn54) (i:Tn48) (j:Tn26):Option ((Int×(List Int)×Int×Tn54×Tn48×Tn26) ⊕ (((List Int)×Int×Tn54×Tn48×Tn26))):=
 cond (decide (m>0)) (
 let l:=(Int.ofNat (List.length e))
 (j06 n g l).bind fun c=>
 (j06 c.2.1 c.2.2 4).bind fun b=>
 (j7i m b.1 20454 b.2.1 b.2.2 (ByteArray.mk #[100,97,121,115]) c.1 e i j ([]:(List Int))).bind fun a=>
 let d:Tn26:=[(a.2.2.2.1,(a.2.2.2.2.1,a.2.2.2.2.2.2.2.2))]
 cond (decide (List.length a.2.2.2.2.2.2.2.1+List.length d≤j07)) (
 let f:Tn26:=(a.2.2.2.2.2.2.2.1++d)
 let k:=(w64 (a.1-1))
 some (.inl (k,a.2.1,a.2.2.1,a.2.2.2.2.2.1,a.2.2.2.2.2.2.1,f))) none) (
 some (.inr (n,g,e,i,j)))
def j7j [LP] (e f b a c d):=LP.lp (fun h=>j2x h.1 h.2.1 h.2.2.1 h.2.2.2.1 h.2.2.2.2.1 h.2.2.2.2.2) (e,f,b,a,c,d)
theorem j7y (e f b a c d):j7j e f b a c d=lpK (j2x e f b a c d) (fun h=>j7j h.1 h.2.1 h.2.2.1 h.2.2.2.1 h.2.2.2.2.1 h.2.2.2.2.2):=j04 _ _
def j9q [LP] (g:(List Int)) (e:Int):Option (Tn71×(List Int)×Int):=
 (j06 g e 2).bind fun c=>
 let k:=(w64 (1+c.1))
 (j7g k c.2.1 c.2.2 ([]:Tn54)).bind fun i=>
 (j06 i.1 i.2.1 4).bind fun b=>
 let j:=(w64 (1+b.1))
 (j7h j b.2.1 b.2.2 i.2.2 ([]:Tn48)).bind fun f=>
 (j06 f.1 f.2.1 2).bind fun a=>
 (j7j a.1 a.2.1 a.2.2 f.2.2.1 f.2.2.2 ([]:Tn26)).bind fun d=>
 some ((d.2.2.1,(d.2.2.2.1,(d.2.2.2.2,([]:Tn65)))),d.1,d.2.1)
def j3k (a1:Int) (y:(List Int)) (o:Int) (z:Tn54) (b:Tn48) (j:Tn26) (p:Tn65) (a2:ByteArray) (m i n e t d f:Int) (a0:ByteArray) (q r k u s g l:Int) (c:(List Int)):Option ((Int×(List Int)×Int×Tn54×Tn48×Tn26×Tn65×ByteArray×Int×Int×Int×Int×Int×Int×Int×ByteArray×Int×Int×Int×Int×Int×Int×Int×(List Int)) ⊕ (((List Int)×Int×Tn54×Tn48×Tn26×Tn65×ByteArray×Int×Int×Int×Int×Int×Int×Int×ByteArray×Int×Int×Int×Int×Int×Int×Int×(List Int)))):=
 cond (decide (a1>0)) (
 let w:=(Int.ofNat (List.length b))
 (j06 y o w).bind fun a=>
 cond (decide (List.length c+List.length [a.1]≤j07)) (
 let v:(List Int):=(c++[a.1])
 let x:=(w64 (a1-1))
 some (.inl (x,a.2.1,a.2.2,z,b,j,p,a2,m,i,n,e,t,d,f,a0,q,r,k,u,s,g,l,v))) none) (
 some (.inr (y,o,z,b,j,p,a2,m,i,n,e,t,d,f,a0,q,r,k,u,s,g,l,c)))
def j5h [LP] (x u n v a i o y l f m c s b d w p q j t r e k g):=LP.lp (fun h=>j3k h.1 h.2.1 h.2.2.1 h.2.2.2.1 h.2.2.2.2.1 h.2.2.2.2.2.1 h.2.2.2.2.2.2.1 h.2.2.2.2.2.2.2.1 h.2.2.2.2.2.2.2.2.1 h.2.2.2.2.2.2.2.2.2.1 h.2.2.2.2.2.2.2.2.2.2.1 h.2.2.2.2.2.2.2.2.2.2.2.1 h.2.2.2.2.2.2.2.2.2.2.2.2.1 h.2.2.2.2.2.2.2.2.2.2.2.2.2.1 h.2.2.2.2.2.2.2.2.2.2.2.2.2.2.1 h.2.2.2.2.2.2.2.2.2.2.2.2.2.2.2.1 h.2.2.2.2.2.2.2.2.2.2.2.2.2.2.2.2.1 h.2.2.2.2.2.2.2.2.2.2.2.2.2.2.2.2.2.1 h.2.2.2.2.2.2.2.2.2.2.2.2.2.2.2.2.2.2.1 h.2.2.2.2.2.2.2.2.2.2.2.2.2.2.2.2.2.2.2.1 h.2.2.2.2.2.2.2.2.2.2.2.2.2.2.2.2.2.2.2.2.1 h.2.2.2.2.2.2.2.2.2.2.2.2.2.2.2.2.2.2.2.2.2.1 h.2.2.2.2.2.2.2.2.2.2.2.2.2.2.2.2.2.2.2.2.2.2.1 h.2.2.2.2.2.2.2.2.2.2.2.2.2.2.2.2.2.2.2.2.2.2.2) (x,u,n,v,a,i,o,y,l,f,m,c,s,b,d,w,p,q,j,t,r,e,k,g)
theorem jaY (x u n v a i o y l f m c s b d w p q j t r e k g):j5h x u n v a i o y l f m c s b d w p q j t r e k g=lpK (j3k x u n v a i o y l f m c s b d w p q j t r e k g) (fun h=>j5h h.1 h.2.1 h.2.2.1 h.2.2.2.1 h.2.2.2.2.1 h.2.2.2.2.2.1 h.2.2.2.2.2.2.1 h.2.2.2.2.2.2.2.1 h.2.2.2.2.2.2.2.2.1 h.2.2.2.2.2.2.2.2.2.1 h.2.2.2.2.2.2.2.2.2.2.1 h.2.2.2.2.2.2.2.2.2.2.2.1 h.2.2.2.2.2.2.2.2.2.2.2.2.1 h.2.2.2.2.2.2.2.2.2.2.2.2.2.1 h.2.2.2.2.2.2.2.2.2.2.2.2.2.2.1 h.2.2.2.2.2.2.2.2.2.2.2.2.2.2.2.1 h.2.2.2.2.2.2.2.2.2.2.2.2.2.2.2.2.1 h.2.2.2.2.2.2.2.2.2.2.2.2.2.2.2.2.2.1 h.2.2.2.2.2.2.2.2.2.2.2.2.2.2.2.2.2.2.1 h.2.2.2.2.2.2.2.2.2.2.2.2.2.2.2.2.2.2.2.1 h.2.2.2.2.2.2.2.2.2.2.2.2.2.2.2.2.2.2.2.2.1 h.2.2.2.2.2.2.2.2.2.2.2.2.2.2.2.2.2.2.2.2.2.1 h.2.2.2.2.2.2.2.2.2.2.2.2.2.2.2.2.2.2.2.2.2.2.1 h.2.2.2.2.2.2.2.2.2.2.2.2.2.2.2.2.2.2.2.2.2.2.2):=j04 _ _
def j9r [LP] (b5:(List Int)) (y:Int) (c:Tn71) (j:ByteArray):Option (Tn59×(List Int)×Int):=
 let c0:=(Int.ofNat (List.length c.1))
 (j06 b5 y c0).bind fun x=>
 (j06 x.2.1 x.2.2 6).bind fun a1=>
 let c3:=(w64 (20454+a1.1))
 let b4:=(w64 (c3-2))
 let b6:(List Int):=[0,32400,7200,9000,79200,1]
 (j1z a1.2.1 a1.2.2 b6).bind fun v=>
 (j06 v.2.1 v.2.2 3).bind fun r=>
 (j06 r.2.1 r.2.2 2).bind fun s=>
 let c2:=(w64 (1+s.1))
 cond (r.1==0) (
 let b9:(List Int):=[6,8,12,24,23,49]
 (j1z s.2.1 s.2.2 b9).bind fun a0=>
 (j06 a0.2.1 a0.2.2 3).bind fun z=>
 let c4:=(w64 (1+z.1))
 (j5h c4 z.2.1 z.2.2 c.1 c.2.1 c.2.2.1 c.2.2.2 ByteArray.empty 0 0 0 0 0 0 0 j x.1 b4 v.1 r.1 a0.1 0 0 ([]:(List Int))).bind fun b=>
 (j1g b.1 b.2.1 2).bind fun t=>
 cond t.1 (
 (j4G t.2.1 t.2.2).bind fun w=>
 (j1g w.2.1 w.2.2 4).bind fun u=>
 let c1:=(Int.ofNat (List.length b.2.2.2.2.1))
 cond (cond u.1 (decide (c1>0)) false) (
 let b7:=(Int.ofNat (List.length b.2.2.2.2.1))
 (j06 u.2.1 u.2.2 b7).bind fun a2=>
 (j06 a2.2.1 a2.2.2 2).bind fun a3=>
 let b8:=(w64 (1+a3.1))
 some ((b.2.2.2.2.2.2.2.2.2.2.2.2.2.2.1,(b.2.2.2.2.2.2.2.2.2.2.2.2.2.2.2.1,((b.2.2.2.2.2.2.2.2.2.2.2.2.2.2.2.2.1,b.2.2.2.2.2.2.2.2.2.2.2.2.2.2.2.2.2.1),(b.2.2.2.2.2.2.2.2.2.2.2.2.2.2.2.2.2.2.1,(b.2.2.2.2.2.2.2.2.2.2.2.2.2.2.2.2.2.2.2.1,(b.2.2.2.2.2.2.2.2.2.2.2.2.2.2.2.2.2.2.2.2.2.2,(w.1,(a2.1,b8)))))))),a3.2.1,a3.2.2)) (
 some ((b.2.2.2.2.2.2.2.2.2.2.2.2.2.2.1,(b.2.2.2.2.2.2.2.2.2.2.2.2.2.2.2.1,((b.2.2.2.2.2.2.2.2.2.2.2.2.2.2.2.2.1,b.2.2.2.2.2.2.2.2.2.2.2.2.2.2.2.2.2.1),(b.2.2.2.2.2.2.2.2.2.2.2.2.2.2.2.2.2.2.1,(b.2.2.2.2.2.2.2.2.2.2.2.2.2.2.2.2.2.2.2.1,(b.2.2.2.2.2.2.2.2.2.2.2.2.2.2.2.2.2.2.2.2.2.2,(w.1,(b.2.2.2.2.2.2.2.2.2.2.2.2.2.2.2.2.2.2.2.2.1,b.2.2.2.2.2.2.2.2.2.2.2.2.2.2.2.2.2.2.2.2.2.1)))))))),u.2.1,u.2.2))) (
 (j1g t.2.1 t.2.2 4).bind fun f=>
 let b0:=(Int.ofNat (List.length b.2.2.2.2.1))
 cond (cond f.1 (decide (b0>0)) false) (
 let b2:=(Int.ofNat (List.length b.2.2.2.2.1))
 (j06 f.2.1 f.2.2 b2).bind fun m=>
 (j06 m.2.1 m.2.2 2).bind fun k=>
 let a5:=(w64 (1+k.1))
 some ((b.2.2.2.2.2.2.2.2.2.2.2.2.2.2.1,(b.2.2.2.2.2.2.2.2.2.2.2.2.2.2.2.1,((b.2.2.2.2.2.2.2.2.2.2.2.2.2.2.2.2.1,b.2.2.2.2.2.2.2.2.2.2.2.2.2.2.2.2.2.1),(b.2.2.2.2.2.2.2.2.2.2.2.2.2.2.2.2.2.2.1,(b.2.2.2.2.2.2.2.2.2.2.2.2.2.2.2.2.2.2.2.1,(b.2.2.2.2.2.2.2.2.2.2.2.2.2.2.2.2.2.2.2.2.2.2,(([]:Tn2),(m.1,a5)))))))),k.2.1,k.2.2)) (
 some ((b.2.2.2.2.2.2.2.2.2.2.2.2.2.2.1,(b.2.2.2.2.2.2.2.2.2.2.2.2.2.2.2.1,((b.2.2.2.2.2.2.2.2.2.2.2.2.2.2.2.2.1,b.2.2.2.2.2.2.2.2.2.2.2.2.2.2.2.2.2.1),(b.2.2.2.2.2.2.2.2.2.2.2.2.2.2.2.2.2.2.1,(b.2.2.2.2.2.2.2.2.2.2.2.2.2.2.2.2.2.2.2.1,(b.2.2.2.2.2.2.2.2.2.2.2.2.2.2.2.2.2.2.2.2.2.2,(([]:Tn2),(b.2.2.2.2.2.2.2.2.2.2.2.2.2.2.2.2.2.2.2.2.1,b.2.2.2.2.2.2.2.2.2.2.2.2.2.2.2.2.2.2.2.2.2.1)))))))),f.2.1,f.2.2)))) (
 (j06 s.2.1 s.2.2 3).bind fun p=>
 let b1:=(w64 (1+p.1))
 (j5h b1 p.2.1 p.2.2 c.1 c.2.1 c.2.2.1 c.2.2.2 ByteArray.empty 0 0 0 0 0 0 0 j x.1 b4 v.1 r.1 c2 0 0 ([]:(List Int))).bind fun a=>
 (j1g a.1 a.2.1 2).bind fun d=>
 cond d.1 (
 (j4G d.2.1 d.2.2).bind fun i=>
 (j1g i.2.1 i.2.2 4).bind fun e=>
 let a6:=(Int.ofNat (List.length a.2.2.2.2.1))
 cond (cond e.1 (decide (a6>0)) false) (
 let b3:=(Int.ofNat (List.length a.2.2.2.2.1))
 (j06 e.2.1 e.2.2 b3).bind fun n=>
 (j06 n.2.1 n.2.2 2).bind fun q=>
 let a4:=(w64 (1+q.1))
 some ((a.2.2.2.2.2.2.2.2.2.2.2.2.2.2.1,(a.2.2.2.2.2.2.2.2.2.2.2.2.2.2.2.1,((a.2.2.2.2.2.2.2.2.2.2.2.2.2.2.2.2.1,a.2.2.2.2.2.2.2.2.2.2.2.2.2.2.2.2.2.1),(a.2.2.2.2.2.2.2.2.2.2.2.2.2.2.2.2.2.2.1,(a.2.2.2.2.2.2.2.2.2.2.2.2.2.2.2.2.2.2.2.1,(a.2.2.2.2.2.2.2.2.2.2.2.2.2.2.2.2.2.2.2.2.2.2,(i.1,(n.1,a4)))))))),q.2.1,q.2.2)) (
 some ((a.2.2.2.2.2.2.2.2.2.2.2.2.2.2.1,(a.2.2.2.2.2.2.2.2.2.2.2.2.2.2.2.1,((a.2.2.2.2.2.2.2.2.2.2.2.2.2.2.2.2.1,a.2.2.2.2.2.2.2.2.2.2.2.2.2.2.2.2.2.1),(a.2.2.2.2.2.2.2.2.2.2.2.2.2.2.2.2.2.2.1,(a.2.2.2.2.2.2.2.2.2.2.2.2.2.2.2.2.2.2.2.1,(a.2.2.2.2.2.2.2.2.2.2.2.2.2.2.2.2.2.2.2.2.2.2,(i.1,(a.2.2.2.2.2.2.2.2.2.2.2.2.2.2.2.2.2.2.2.2.1,a.2.2.2.2.2.2.2.2.2.2.2.2.2.2.2.2.2.2.2.2.2.1)))))))),e.2.1,e.2.2))) (
 (j1g d.2.1 d.2.2 4).bind fun g=>
 let a8:=(Int.ofNat (List.length a.2.2.2.2.1))
 cond (cond g.1 (decide (a8>0)) false) (
 let a7:=(Int.ofNat (List.length a.2.2.2.2.1))
 (j06 g.2.1 g.2.2 a7).bind fun l=>
 (j06 l.2.1 l.2.2 2).bind fun o=>
 let a9:=(w64 (1+o.1))
 some ((a.2.2.2.2.2.2.2.2.2.2.2.2.2.2.1,(a.2.2.2.2.2.2.2.2.2.2.2.2.2.2.2.1,((a.2.2.2.2.2.2.2.2.2.2.2.2.2.2.2.2.1,a.2.2.2.2.2.2.2.2.2.2.2.2.2.2.2.2.2.1),(a.2.2.2.2.2.2.2.2.2.2.2.2.2.2.2.2.2.2.1,(a.2.2.2.2.2.2.2.2.2.2.2.2.2.2.2.2.2.2.2.1,(a.2.2.2.2.2.2.2.2.2.2.2.2.2.2.2.2.2.2.2.2.2.2,(([]:Tn2),(l.1,a9)))))))),o.2.1,o.2.2)) (
 some ((a.2.2.2.2.2.2.2.2.2.2.2.2.2.2.1,(a.2.2.2.2.2.2.2.2.2.2.2.2.2.2.2.1,((a.2.2.2.2.2.2.2.2.2.2.2.2.2.2.2.2.1,a.2.2.2.2.2.2.2.2.2.2.2.2.2.2.2.2.2.1),(a.2.2.2.2.2.2.2.2.2.2.2.2.2.2.2.2.2.2.1,(a.2.2.2.2.2.2.2.2.2.2.2.2.2.2.2.2.2.2.2.1,(a.2.2.2.2.2.2.2.2.2.2.2.2.2.2.2.2.2.2.2.2.2.2,(([]:Tn2),(a.2.2.2.2.2.2.2.2.2.2.2.2.2.2.2.2.2.2.2.2.1,a.2.2.2.2.2.2.2.2.2.2.2.2.2.2.2.2.2.2.2.2.2.1)))))))),g.2.1,g.2.2))))
def j65 (e:(List Int)) (c:Int):Option (Int×(List Int)×Int):=
 (j06 e c 576).bind fun d=>
 let j:=(w64 (3600*d.1))
 let i:=(w64 (1767139200+j))
 (j1g d.2.1 d.2.2 3).bind fun a=>
 cond a.1 (
 let f:(List Int):=[(-1),1,1800,3599]
 (j1z a.2.1 a.2.2 f).bind fun b=>
 let g:=(w64 (i+b.1))
 some (g,b.2.1,b.2.2)) (
 some (i,a.2.1,a.2.2))
def jaF (n:(List Int)) (l:Int) (m:Tn71):Option (Tn24×(List Int)×Int):=
 let j:=(Int.ofNat (List.length m.2.1))
 (j06 n l 3).bind fun a=>
 (j06 a.2.1 a.2.2 j).bind fun e=>
 (j65 e.2.1 e.2.2).bind fun b=>
 let p:(List Int):=[3600,86400,7,259200,40000]
 (j1z b.2.1 b.2.2 p).bind fun c=>
 let f:=(w64 (b.1+c.1))
 cond (a.1==2) (
 cond (decide (j<2)) (
 some ((0,(e.1,(0,(b.1,f)))),c.2.1,c.2.2)) (
 let o:=(w64 (e.1+1))
 let r:=(w64 (j-1))
 (j06 c.2.1 c.2.2 r).bind fun i=>
 let q:=(w64 (o+i.1))
 cond (!(j==0)) (
 let k:=(Int.tmod q j)
 cond (a.1==1) (
 (j1g i.2.1 i.2.2 4).bind fun g=>
 cond g.1 (
 some ((a.1,((-1),(k,(b.1,f)))),g.2.1,g.2.2)) (
 some ((a.1,(e.1,(k,(b.1,f)))),g.2.1,g.2.2))) (
 some ((a.1,(e.1,(k,(b.1,f)))),i.2.1,i.2.2))) none)) (
 cond (a.1==1) (
 (j1g c.2.1 c.2.2 4).bind fun d=>
 cond d.1 (
 some ((a.1,((-1),(0,(b.1,f)))),d.2.1,d.2.2)) (
 some ((a.1,(e.1,(0,(b.1,f)))),d.2.1,d.2.2))) (
 some ((a.1,(e.1,(0,(b.1,f)))),c.2.1,c.2.2)))
def j34 [LP] (r o:Int) (p:(List Int)) (j:Int) (n:Tn54) (c:Tn48) (d:Tn26) (q:ByteArray) (e:Tn65) (b:Tn60):Option ((Int×Int×(List Int)×Int×Tn54×Tn48×Tn26×ByteArray×Tn65×Tn60) ⊕ ((Int×(List Int)×Int×Tn54×Tn48×Tn26×ByteArray×Tn65×Tn60))):=
 cond (decide (o>0)) (
 (jhM).bind fun i=>
 let f:=(Int.ofNat (List.length b))
 cond (inR f (List.length i)) (
 let l:=(List.getD i (Int.toNat f) ByteArray.empty)
 (j9r p j (n,(c,(d,e))) l).bind fun a=>
 let g:Tn60:=[(a.1.1,(a.1.2.1,((a.1.2.2.1.1,a.1.2.2.1.2),(a.1.2.2.2.1,(a.1.2.2.2.2.1,(a.1.2.2.2.2.2.1,(a.1.2.2.2.2.2.2.1,(a.1.2.2.2.2.2.2.2.1,a.1.2.2.2.2.2.2.2.2))))))))]
 cond (decide (List.length b+List.length g≤j07)) (
 let m:Tn60:=(b++g)
 let k:=(w64 (o-1))
 some (.inl (r,k,a.2.1,a.2.2,n,c,d,q,e,m))) none) none) (
 some (.inr (r,p,j,n,c,d,q,e,b)))
def j4P [LP] (k f g e i b c j d a):=LP.lp (fun h=>j34 h.1 h.2.1 h.2.2.1 h.2.2.2.1 h.2.2.2.2.1 h.2.2.2.2.2.1 h.2.2.2.2.2.2.1 h.2.2.2.2.2.2.2.1 h.2.2.2.2.2.2.2.2.1 h.2.2.2.2.2.2.2.2.2) (k,f,g,e,i,b,c,j,d,a)
theorem ja4 (k f g e i b c j d a):j4P k f g e i b c j d a=lpK (j34 k f g e i b c j d a) (fun h=>j4P h.1 h.2.1 h.2.2.1 h.2.2.2.1 h.2.2.2.2.1 h.2.2.2.2.2.1 h.2.2.2.2.2.2.1 h.2.2.2.2.2.2.2.1 h.2.2.2.2.2.2.2.2.1 h.2.2.2.2.2.2.2.2.2):=j04 _ _
def j35 (p n:Int) (m:(List Int)) (i:Int) (l:Tn54) (c:Tn48) (d:Tn26) (o:ByteArray) (e:Tn65) (g:Tn60) (b:Tn29):Option ((Int×Int×(List Int)×Int×Tn54×Tn48×Tn26×ByteArray×Tn65×Tn60×Tn29) ⊕ ((Int×(List Int)×Int×Tn54×Tn48×Tn26×ByteArray×Tn65×Tn60×Tn29))):=
 cond (decide (n>0)) (
 (jaF m i (l,(c,(d,e)))).bind fun a=>
 let f:Tn29:=[(a.1.1,(a.1.2.1,(a.1.2.2.1,(a.1.2.2.2.1,a.1.2.2.2.2))))]
 cond (decide (List.length b+List.length f≤j07)) (
 let k:Tn29:=(b++f)
 let j:=(w64 (n-1))
 some (.inl (p,j,a.2.1,a.2.2,l,c,d,o,e,g,k))) none) (
 some (.inr (p,m,i,l,c,d,o,e,g,b)))
def j6s [LP] (l j g f i c d k e a b):=LP.lp (fun h=>j35 h.1 h.2.1 h.2.2.1 h.2.2.2.1 h.2.2.2.2.1 h.2.2.2.2.2.1 h.2.2.2.2.2.2.1 h.2.2.2.2.2.2.2.1 h.2.2.2.2.2.2.2.2.1 h.2.2.2.2.2.2.2.2.2.1 h.2.2.2.2.2.2.2.2.2.2) (l,j,g,f,i,c,d,k,e,a,b)
theorem ja5 (l j g f i c d k e a b):j6s l j g f i c d k e a b=lpK (j35 l j g f i c d k e a b) (fun h=>j6s h.1 h.2.1 h.2.2.1 h.2.2.2.1 h.2.2.2.2.1 h.2.2.2.2.2.1 h.2.2.2.2.2.2.1 h.2.2.2.2.2.2.2.1 h.2.2.2.2.2.2.2.2.1 h.2.2.2.2.2.2.2.2.2.1 h.2.2.2.2.2.2.2.2.2.2):=j04 _ _
def j36 [LP] (s:Int) (q:(List Int)) (k:Int) (r:Tn54) (l:Tn48) (j:Tn26) (e:Tn65):Option ((Int×(List Int)×Int×Tn54×Tn48×Tn26×Tn65) ⊕ (((List Int)×Int×Tn54×Tn48×Tn26×Tn65))):=
 cond (decide (s>0)) (
 let f:(List ByteArray):=[(ByteArray.mk #[102,105,114,115,116]),(ByteArray.mk #[115,101,99,111,110,100]),(ByteArray.mk #[116,104,105,114,100])]
 let p:=(Int.ofNat (List.length e))
 let i:=(Int.tmod p 3)
 cond (inR i (List.length f)) (
 let m:=(List.getD f (Int.toNat i) ByteArray.empty)
 (j06 q k 4).bind fun c=>
 (j4P s c.1 c.2.1 c.2.2 r l j m e ([]:Tn60)).bind fun b=>
 (j06 b.2.1 b.2.2.1 4).bind fun d=>
 (j6s b.1 d.1 d.2.1 d.2.2 b.2.2.2.1 b.2.2.2.2.1 b.2.2.2.2.2.1 b.2.2.2.2.2.2.1 b.2.2.2.2.2.2.2.1 b.2.2.2.2.2.2.2.2 ([]:Tn29)).bind fun a=>
 let g:Tn65:=[(a.2.2.2.2.2.2.1,(a.2.2.2.2.2.2.2.2.1,a.2.2.2.2.2.2.2.2.2))]
 cond (decide (List.length a.2.2.2.2.2.2.2.1+List.length g≤j07)) (
 let n:Tn65:=(a.2.2.2.2.2.2.2.1++g)
 let o:=(w64 (a.1-1))
 some (.inl (o,a.2.1,a.2.2.1,a.2.2.2.1,a.2.2.2.2.1,a.2.2.2.2.2.1,n))) none) none) (
 some (.inr (q,k,r,l,j,e)))
def j6t [LP] (g e c f d a b):=LP.lp (fun h=>j36 h.1 h.2.1 h.2.2.1 h.2.2.2.1 h.2.2.2.2.1 h.2.2.2.2.2.1 h.2.2.2.2.2.2) (g,e,c,f,d,a,b)
theorem ja6 (g e c f d a b):j6t g e c f d a b=lpK (j36 g e c f d a b) (fun h=>j6t h.1 h.2.1 h.2.2.1 h.2.2.2.1 h.2.2.2.2.1 h.2.2.2.2.2.1 h.2.2.2.2.2.2):=j04 _ _
def j8M [LP] (e:(List Int)) (d f:Int):Option (Tn71×(List Int)×Int):=
 (j9q e d).bind fun a=>
 (j06 a.2.1 a.2.2 f).bind fun c=>
 let g:=(w64 (1+c.1))
 (j6t g c.2.1 c.2.2 a.1.1 a.1.2.1 a.1.2.2.1 ([]:Tn65)).bind fun b=>
 some ((b.2.2.1,(b.2.2.2.1,(b.2.2.2.2.1,b.2.2.2.2.2))),b.1,b.2.1)
def jmD (b a:Int):Option (Int):=
 cond (!(a==0)) (
 let e:=(Int.tmod b a)
 let d:=(w64 (e+a))
 cond (!(a==0)) (
 let c:=(Int.tmod d a)
 some c) none) none
def j66 (a:Tn2) (b:Int):Option ((Tn2×Int) ⊕ (Bool ⊕ Unit)):=
 let m:=(Int.ofNat (List.length a))
 cond (decide (b<m)) (
 cond (inR b (List.length a)) (
 let k:=(List.getD a (Int.toNat b) (0,0))
 cond (decide (k.1<0)) (
 some (.inr (.inl false))) (
 cond (inR b (List.length a)) (
 let j:=(List.getD a (Int.toNat b) (0,0))
 cond (inR b (List.length a)) (
 let e:=(List.getD a (Int.toNat b) (0,0))
 cond (decide (j.1≥e.2)) (
 some (.inr (.inl false))) (
 cond (inR b (List.length a)) (
 let f:=(List.getD a (Int.toNat b) (0,0))
 cond (decide (f.2>8589934592)) (
 some (.inr (.inl false))) (
 cond (decide (b>0)) (
 cond (inR b (List.length a)) (
 let d:=(List.getD a (Int.toNat b) (0,0))
 let c:=(w64 (b-1))
 cond (inR c (List.length a)) (
 let i:=(List.getD a (Int.toNat c) (0,0))
 cond (decide (d.1≤i.2)) (
 some (.inr (.inl false))) (
 let g:=(w64 (b+1))
 some (.inl (a,g)))) none) none) (
 let l:=(w64 (b+1))
 some (.inl (a,l))))) none)) none) none)) none) (
 some (.inr (.inr ())))
def jdS [LP] (a b):=LP.lp (fun h=>j66 h.1 h.2) (a,b)
theorem jgR (a b):jdS a b=lpK (j66 a b) (fun h=>jdS h.1 h.2):=j04 _ _
def jjQ [LP] (a:Tn2):Option (Bool):=
 let b:=(Int.ofNat (List.length a))
 cond (decide (b>4096)) (
 some false) (
 (jdS a 0).bind fun c=>
 sumC c (fun d=>
 some d) (fun e=>
 some true))
def j7z (b:Tn2) (c d i:Int):Option ((Tn2×Int×Int×Int) ⊕ ((Tn2×Int×Int))):=
 cond (decide (d<i)) (
 let f:=(w64 (d+i))
 let a:=(w64 (Int.tdiv f 2))
 cond (inR a (List.length b)) (
 let g:=(List.getD b (Int.toNat a) (0,0))
 cond (decide (g.2≤c)) (
 let e:=(w64 (a+1))
 some (.inl (b,c,e,i))) (
 some (.inl (b,c,d,a)))) none) (
 some (.inr (b,c,d)))
def jhN [LP] (a b c d):=LP.lp (fun h=>j7z h.1 h.2.1 h.2.2.1 h.2.2.2) (a,b,c,d)
theorem jjR (a b c d):jhN a b c d=lpK (j7z a b c d) (fun h=>jhN h.1 h.2.1 h.2.2.1 h.2.2.2):=j04 _ _
def jtj [LP] (b:Tn2) (d:Int):Option (Bool):=
 let f:=(Int.ofNat (List.length b))
 (jhN b d 0 f).bind fun a=>
 let c:=(Int.ofNat (List.length a.1))
 cond ((inR a.2.2 (List.length a.1)) || !(decide (a.2.2<c))) (
 let e:=(List.getD a.1 (Int.toNat a.2.2) (0,0))
 some (cond (decide (a.2.2<c)) (decide (e.1≤a.2.1)) false)) none
def jpZ [LP] (a:Tn2) (b:Int):Option (Bool):=
 (jjQ a).bind fun d=>
 cond d (
 (jtj a b).bind fun c=>
 some c) (
 some false)
def jnk (a:Int):Option (Bool):=
 some (cond (decide (a≥48)) (decide (a≤57)) false)
def j6K (a:ByteArray) (b:Int):Option ((ByteArray×Int) ⊕ (Bool ⊕ Unit)):=
 let g:=(Int.ofNat (ByteArray.size a))
 cond (decide (b<g)) (
 cond (inR b (ByteArray.size a)) (
 let c:=(j2J a b)
 cond ((inR b (ByteArray.size a)) || !(!(decide (c<97)))) (
 let e:=(j2J a b)
 cond ((inR b (ByteArray.size a)) || !(cond (decide (c<97)) true (decide (e>122)))) (
 let i:=(j2J a b)
 cond (cond (decide (c<97)) true (decide (e>122))) (
 (jnk i).bind fun d=>
 cond ((inR b (ByteArray.size a)) || !(!d)) (
 let f:=(j2J a b)
 cond ((inR b (ByteArray.size a)) || !(cond (!d) (f != 95) false)) (
 let j:=(j2J a b)
 cond (cond (cond (!d) (f != 95) false) (j != 45) false) (
 some (.inr (.inl false))) (
 let k:=(w64 (b+1))
 some (.inl (a,k)))) none) none) (
 cond ((inR b (ByteArray.size a)) || !false) (
 let m:=(j2J a b)
 cond ((inR b (ByteArray.size a)) || !false) (
 let n:=(j2J a b)
 let l:=(w64 (b+1))
 some (.inl (a,l))) none) none)) none) none) none) (
 some (.inr (.inr ())))
def jal [LP] (a b):=LP.lp (fun h=>j6K h.1 h.2) (a,b)
theorem jie (a b):jal a b=lpK (j6K a b) (fun h=>jal h.1 h.2):=j04 _ _
def jmE [LP] (a:ByteArray):Option (Bool):=
 let e:=(Int.ofNat (ByteArray.size a))
 let c:=(Int.ofNat (ByteArray.size a))
 cond ((inR 0 (ByteArray.size a)) || !(!(cond (decide (e<1)) true (decide (c>24))))) (
 let d:=(j2J a 0)
 let b:Bool:=(cond (cond (decide (e<1)) true (decide (c>24))) true (decide (d<97)))
 cond ((inR 0 (ByteArray.size a)) || !(!b)) (
 let f:=(j2J a 0)
 cond (cond b true (decide (f>122))) (
 some false) (
 (jal a 0).bind fun g=>
 sumC g (fun i=>
 some i) (fun j=>
 some true))) none) none
def j6L (a:(List ByteArray)) (b c:Int):Option (((List ByteArray)×Int×Int) ⊕ (Int ⊕ Unit)):=
 cond (decide (c<b)) (
 cond (inR c (List.length a)) (
 let e:=(List.getD a (Int.toNat c) ByteArray.empty)
 cond (inR b (List.length a)) (
 let f:=(List.getD a (Int.toNat b) ByteArray.empty)
 cond (ByteArray.toList e==ByteArray.toList f) (
 some (.inr (.inl 4))) (
 let d:=(w64 (c+1))
 some (.inl (a,b,d)))) none) none) (
 some (.inr (.inr ())))
def jcD [LP] (a b c):=LP.lp (fun h=>j6L h.1 h.2.1 h.2.2) (a,b,c)
theorem jif (a b c):jcD a b c=lpK (j6L a b c) (fun h=>jcD h.1 h.2.1 h.2.2):=j04 _ _
def jc1 [LP] (a:(List ByteArray)) (b:Int):Option (Int):=
 cond (inR b (List.length a)) (
 let d:=(List.getD a (Int.toNat b) ByteArray.empty)
 (jmE d).bind fun c=>
 cond (!c) (
 some 2) (
 (jcD a b 0).bind fun e=>
 sumC e (fun f=>
 some f) (fun g=>
 some 0))) none
def ja7 (a b c:Int):Option (Bool):=
 some (cond (decide (a≥b)) (decide (a≤c)) false)
def jgS (a:Tn38):Option (Bool):=
 (ja7 a.1 1970 2240).bind fun i=>
 cond i (
 (ja7 a.2.1 a.1 2240).bind fun b=>
 cond b (
 (ja7 a.2.2.1 1 12).bind fun e=>
 cond e (
 (ja7 a.2.2.2.1 1 5).bind fun d=>
 cond d (
 (ja7 a.2.2.2.2.1 0 6).bind fun c=>
 cond c (
 (ja7 a.2.2.2.2.2.1 0 86399).bind fun f=>
 cond f (
 (ja7 a.2.2.2.2.2.2 (-64800) 64800).bind fun g=>
 some g) (
 some false)) (
 some false)) (
 some false)) (
 some false)) (
 some false)) (
 some false)
def j21 (a:Int):Option (Bool):=
 let d:=(Int.tmod a 4)
 let c:=(Int.tmod a 100)
 let b:=(Int.tmod a 400)
 some (cond (d==0) (cond (c != 0) true (b==0)) false)
def jfj (b a:Int):Option (Int):=
 cond (a==1) (
 cond (a==1) (
 some 31) (
 cond (a==4) (
 cond (a==4) (
 some 30) (
 cond (a==2) (
 (j21 b).bind fun a4=>
 cond a4 (
 some 29) (
 some 28)) (
 some 0))) (
 cond (a==6) (
 cond (a==6) (
 some 30) (
 cond (a==2) (
 (j21 b).bind fun a2=>
 cond a2 (
 some 29) (
 some 28)) (
 some 0))) (
 cond (a==9) (
 cond (a==9) (
 some 30) (
 cond (a==2) (
 (j21 b).bind fun a0=>
 cond a0 (
 some 29) (
 some 28)) (
 some 0))) (
 cond (a==11) (
 some 30) (
 cond (a==2) (
 (j21 b).bind fun w=>
 cond w (
 some 29) (
 some 28)) (
 some 0))))))) (
 cond (a==3) (
 cond (a==3) (
 some 31) (
 cond (a==4) (
 cond (a==4) (
 some 30) (
 cond (a==2) (
 (j21 b).bind fun a3=>
 cond a3 (
 some 29) (
 some 28)) (
 some 0))) (
 cond (a==6) (
 cond (a==6) (
 some 30) (
 cond (a==2) (
 (j21 b).bind fun v=>
 cond v (
 some 29) (
 some 28)) (
 some 0))) (
 cond (a==9) (
 cond (a==9) (
 some 30) (
 cond (a==2) (
 (j21 b).bind fun y=>
 cond y (
 some 29) (
 some 28)) (
 some 0))) (
 cond (a==11) (
 some 30) (
 cond (a==2) (
 (j21 b).bind fun z=>
 cond z (
 some 29) (
 some 28)) (
 some 0))))))) (
 cond (a==5) (
 cond (a==5) (
 some 31) (
 cond (a==4) (
 cond (a==4) (
 some 30) (
 cond (a==2) (
 (j21 b).bind fun x=>
 cond x (
 some 29) (
 some 28)) (
 some 0))) (
 cond (a==6) (
 cond (a==6) (
 some 30) (
 cond (a==2) (
 (j21 b).bind fun a1=>
 cond a1 (
 some 29) (
 some 28)) (
 some 0))) (
 cond (a==9) (
 cond (a==9) (
 some 30) (
 cond (a==2) (
 (j21 b).bind fun j=>
 cond j (
 some 29) (
 some 28)) (
 some 0))) (
 cond (a==11) (
 some 30) (
 cond (a==2) (
 (j21 b).bind fun i=>
 cond i (
 some 29) (
 some 28)) (
 some 0))))))) (
 cond (a==7) (
 cond (a==7) (
 some 31) (
 cond (a==4) (
 cond (a==4) (
 some 30) (
 cond (a==2) (
 (j21 b).bind fun m=>
 cond m (
 some 29) (
 some 28)) (
 some 0))) (
 cond (a==6) (
 cond (a==6) (
 some 30) (
 cond (a==2) (
 (j21 b).bind fun n=>
 cond n (
 some 29) (
 some 28)) (
 some 0))) (
 cond (a==9) (
 cond (a==9) (
 some 30) (
 cond (a==2) (
 (j21 b).bind fun t=>
 cond t (
 some 29) (
 some 28)) (
 some 0))) (
 cond (a==11) (
 some 30) (
 cond (a==2) (
 (j21 b).bind fun p=>
 cond p (
 some 29) (
 some 28)) (
 some 0))))))) (
 cond (a==8) (
 cond (a==8) (
 some 31) (
 cond (a==4) (
 cond (a==4) (
 some 30) (
 cond (a==2) (
 (j21 b).bind fun k=>
 cond k (
 some 29) (
 some 28)) (
 some 0))) (
 cond (a==6) (
 cond (a==6) (
 some 30) (
 cond (a==2) (
 (j21 b).bind fun d=>
 cond d (
 some 29) (
 some 28)) (
 some 0))) (
 cond (a==9) (
 cond (a==9) (
 some 30) (
 cond (a==2) (
 (j21 b).bind fun s=>
 cond s (
 some 29) (
 some 28)) (
 some 0))) (
 cond (a==11) (
 some 30) (
 cond (a==2) (
 (j21 b).bind fun u=>
 cond u (
 some 29) (
 some 28)) (
 some 0))))))) (
 cond (a==10) (
 cond (a==10) (
 some 31) (
 cond (a==4) (
 cond (a==4) (
 some 30) (
 cond (a==2) (
 (j21 b).bind fun r=>
 cond r (
 some 29) (
 some 28)) (
 some 0))) (
 cond (a==6) (
 cond (a==6) (
 some 30) (
 cond (a==2) (
 (j21 b).bind fun l=>
 cond l (
 some 29) (
 some 28)) (
 some 0))) (
 cond (a==9) (
 cond (a==9) (
 some 30) (
 cond (a==2) (
 (j21 b).bind fun o=>
 cond o (
 some 29) (
 some 28)) (
 some 0))) (
 cond (a==11) (
 some 30) (
 cond (a==2) (
 (j21 b).bind fun g=>
 cond g (
 some 29) (
 some 28)) (
 some 0))))))) (
 cond (a==12) (
 some 31) (
 cond (a==4) (
 cond (a==4) (
 some 30) (
 cond (a==2) (
 (j21 b).bind fun q=>
 cond q (
 some 29) (
 some 28)) (
 some 0))) (
 cond (a==6) (
 cond (a==6) (
 some 30) (
 cond (a==2) (
 (j21 b).bind fun f=>
 cond f (
 some 29) (
 some 28)) (
 some 0))) (
 cond (a==9) (
 cond (a==9) (
 some 30) (
 cond (a==2) (
 (j21 b).bind fun c=>
 cond c (
 some 29) (
 some 28)) (
 some 0))) (
 cond (a==11) (
 some 30) (
 cond (a==2) (
 (j21 b).bind fun e=>
 cond e (
 some 29) (
 some 28)) (
 some 0))))))))))))
def jjS (a:Tn3):Option (Bool):=
 cond (decide (a.1≥1970)) (
 cond (decide (a.1≤2240)) (
 cond (decide (a.2.1≥1)) (
 cond (decide (a.2.1≤12)) (
 cond (decide (a.2.2≥1)) (
 (jfj a.1 a.2.1).bind fun b=>
 some (decide (a.2.2≤b))) (
 some false)) (
 some false)) (
 some false)) (
 some false)) (
 some false)
def jjT (a:Int):Option (Int):=
 let l:=(w64 (a-1970))
 let m:=(w64 (l*365))
 let k:=(w64 (a-1969))
 let i:=(w64 (Int.tdiv k 4))
 let j:=(w64 (m+i))
 let d:=(w64 (a-1901))
 let b:=(w64 (Int.tdiv d 100))
 let c:=(w64 (j-b))
 let g:=(w64 (a-1601))
 let e:=(w64 (Int.tdiv g 400))
 let f:=(w64 (c+e))
 some f
def j7A (i f g a b:Int):Option ((Int×Int×Int×Int×Int) ⊕ ((Int×Int×Int×Int))):=
 cond (decide (f<a)) (
 (jfj g f).bind fun d=>
 let e:=(w64 (i+d))
 let c:=(w64 (f+1))
 some (.inl (e,c,g,a,b))) (
 some (.inr (i,g,a,b)))
def jhO [LP] (e c d a b):=LP.lp (fun h=>j7A h.1 h.2.1 h.2.2.1 h.2.2.2.1 h.2.2.2.2) (e,c,d,a,b)
theorem jjU (e c d a b):jhO e c d a b=lpK (j7A e c d a b) (fun h=>jhO h.1 h.2.1 h.2.2.1 h.2.2.2.1 h.2.2.2.2):=j04 _ _
def jq0 [LP] (a:Tn3):Option (Int×Int):=
 (jjS (a.1,(a.2.1,a.2.2))).bind fun f=>
 cond (!f) (
 some (0,1)) (
 (jjT a.1).bind fun b=>
 (jhO b 1 a.1 a.2.1 a.2.2).bind fun e=>
 let c:=(w64 (e.1+e.2.2.2))
 let d:=(w64 (c-1))
 some (d,0))
def jfk (a:Int):Option (Int):=
 let d:=(Int.tmod a 7)
 let b:=(w64 (d+10))
 let c:=(Int.tmod b 7)
 some c
def j7B (e f g i d a:Int):Option ((Int×Int×Int×Int×Int×Int) ⊕ ((Int×Int×Int×Int×Int))):=
 (jfk a).bind fun c=>
 cond (c != i) (
 let b:=(w64 (a+1))
 some (.inl (e,f,g,i,d,b))) (
 some (.inr (e,f,g,d,a)))
def jhP [LP] (c d e f a b):=LP.lp (fun h=>j7B h.1 h.2.1 h.2.2.1 h.2.2.2.1 h.2.2.2.2.1 h.2.2.2.2.2) (c,d,e,f,a,b)
theorem jjV (c d e f a b):jhP c d e f a b=lpK (j7B c d e f a b) (fun h=>jhP h.1 h.2.1 h.2.2.1 h.2.2.2.1 h.2.2.2.2.1 h.2.2.2.2.2):=j04 _ _
def j7C (g i f a:Int):Option ((Int×Int×Int×Int) ⊕ (Int)):=
 let c:=(w64 (a+7))
 (jfj g i).bind fun b=>
 let e:=(w64 (f+b))
 cond (decide (c<e)) (
 let d:=(w64 (a+7))
 some (.inl (g,i,f,d))) (
 some (.inr a))
def jhQ [LP] (c d a b):=LP.lp (fun h=>j7C h.1 h.2.1 h.2.2.1 h.2.2.2) (c,d,a,b)
theorem jjW (c d a b):jhQ c d a b=lpK (j7C c d a b) (fun h=>jhQ h.1 h.2.1 h.2.2.1 h.2.2.2):=j04 _ _
def jq1 [LP] (e c b a:Int):Option (Int×Int):=
 (jq0 (e,(c,1))).bind fun f=>
 let i:Bool:=(cond (cond (f.2 != 0) true (decide (b<1))) true (decide (b>5)))
 let k:Bool:=(cond (cond i true (decide (a<0))) true (decide (a>6)))
 cond k (
 some (0,1)) (
 (jhP e c b a f.1 f.1).bind fun d=>
 cond (decide (d.2.2.1<5)) (
 let j:=(w64 (d.2.2.1-1))
 let l:=(w64 (7*j))
 let g:=(w64 (d.2.2.2.2+l))
 some (g,0)) (
 (jhQ d.1 d.2.1 d.2.2.2.1 d.2.2.2.2).bind fun m=>
 some (m,0)))
def j3l (i:Tn42) (k j d g a:Int) (c:Tn2):Option ((Tn42×Int×Int×Int×Int×Int×Tn2) ⊕ ((Tn42×Int×Int×Int×Int×Int×Tn2))):=
 cond (decide (d>0)) (
 let b:=(w64 (d-1))
 cond (inR b (List.length c)) (
 let e:=(List.getD c (Int.toNat b) (0,0)).1
 cond (decide (e>g)) (
 let f:=(w64 (d-1))
 some (.inl (i,k,j,f,g,a,c))) (
 some (.inr (i,k,j,d,g,a,c)))) none) (
 some (.inr (i,k,j,d,g,a,c)))
def j5i [LP] (b e d f g a c):=LP.lp (fun h=>j3l h.1 h.2.1 h.2.2.1 h.2.2.2.1 h.2.2.2.2.1 h.2.2.2.2.2.1 h.2.2.2.2.2.2) (b,e,d,f,g,a,c)
theorem jaZ (b e d f g a c):j5i b e d f g a c=lpK (j3l b e d f g a c) (fun h=>j5i h.1 h.2.1 h.2.2.1 h.2.2.2.1 h.2.2.2.2.1 h.2.2.2.2.2.1 h.2.2.2.2.2.2):=j04 _ _
def j3m [LP] (c:Tn42) (d t:Int) (v:Tn2):Option ((Tn42×Int×Int×Tn2) ⊕ ((Tn42×Int×Tn2))):=
 cond (inR d (List.length c)) (
 let r:=(List.getD c (Int.toNat d) (0,(0,(0,(0,(0,(0,0)))))))
 cond (decide (t≤r.2.1)) (
 cond (inR d (List.length c)) (
 let s:=(List.getD c (Int.toNat d) (0,(0,(0,(0,(0,(0,0)))))))
 cond (inR d (List.length c)) (
 let i:=(List.getD c (Int.toNat d) (0,(0,(0,(0,(0,(0,0)))))))
 cond (inR d (List.length c)) (
 let j:=(List.getD c (Int.toNat d) (0,(0,(0,(0,(0,(0,0)))))))
 (jq1 t s.2.2.1 i.2.2.2.1 j.2.2.2.2.1).bind fun n=>
 let p:=(w64 (n.1*86400))
 cond (inR d (List.length c)) (
 let m:=(List.getD c (Int.toNat d) (0,(0,(0,(0,(0,(0,0)))))))
 let q:=(w64 (p+m.2.2.2.2.2.1))
 cond (inR d (List.length c)) (
 let l:=(List.getD c (Int.toNat d) (0,(0,(0,(0,(0,(0,0)))))))
 let k:=(Int.ofNat (List.length v))
 (j5i c d t k q l.2.2.2.2.2.2 v).bind fun a=>
 let f:Tn2:=[(a.2.2.2.2.1,a.2.2.2.2.2.1)]
 cond (decide (List.length a.2.2.2.2.2.2+List.length f≤j07)) (
 let b:Tn2:=(a.2.2.2.2.2.2++f)
 let e:=(w64 (a.2.2.2.1+1))
 cond (decide (0≤e)&&decide (e≤(Int.ofNat (List.length b)))) (
 cond (decide (0≤a.2.2.2.1)&&decide (a.2.2.2.1≤(Int.ofNat (List.length b)))) (
 let g:Tn2:=(over b (Int.toNat e) (List.drop (Int.toNat a.2.2.2.1) b))
 let w:=(Int.ofNat (min (List.length (List.drop (Int.toNat a.2.2.2.1) b)) (List.length b-(Int.toNat e))))
 cond (inR a.2.2.2.1 (List.length g)) (
 let u:Tn2:=(List.set g (Int.toNat a.2.2.2.1) (a.2.2.2.2.1,a.2.2.2.2.2.1))
 let o:=(w64 (a.2.2.1+1))
 some (.inl (a.1,a.2.1,o,u))) none) none) none) none) none) none) none) none) none) (
 some (.inr (c,d,v)))) none
def j7k [LP] (a c b d):=LP.lp (fun h=>j3m h.1 h.2.1 h.2.2.1 h.2.2.2) (a,c,b,d)
theorem jb0 (a c b d):j7k a c b d=lpK (j3m a c b d) (fun h=>j7k h.1 h.2.1 h.2.2.1 h.2.2.2):=j04 _ _
def j3n [LP] (b:Tn42) (f:Int) (g:Tn2):Option ((Tn42×Int×Tn2) ⊕ (Tn2)):=
 let d:=(Int.ofNat (List.length b))
 cond (decide (f<d)) (
 cond (inR f (List.length b)) (
 let c:=(List.getD b (Int.toNat f) (0,(0,(0,(0,(0,(0,0)))))))
 (j7k b f c.1 g).bind fun a=>
 let e:=(w64 (a.2.1+1))
 some (.inl (a.1,e,a.2.2))) none) (
 some (.inr g))
def j5j [LP] (a b c):=LP.lp (fun h=>j3n h.1 h.2.1 h.2.2) (a,b,c)
theorem jb1 (a b c):j5j a b c=lpK (j3n a b c) (fun h=>j5j h.1 h.2.1 h.2.2):=j04 _ _
def j9s [LP] (a:Tn42):Option (Tn2):=
 (j5j a 0 ([]:Tn2)).bind fun b=>
 some b
def j3o (o c:Int) (n:ByteArray) (d:Int) (b:Tn42):Option ((Int×Int×ByteArray×Int×Tn42) ⊕ (Int ⊕ (Int×ByteArray×Int×Tn42))):=
 let i:=(Int.ofNat (List.length b))
 cond (decide (c<i)) (
 cond (inR c (List.length b)) (
 let a:=(List.getD b (Int.toNat c) (0,(0,(0,(0,(0,(0,0)))))))
 (jgS (a.1,(a.2.1,(a.2.2.1,(a.2.2.2.1,(a.2.2.2.2.1,(a.2.2.2.2.2.1,a.2.2.2.2.2.2))))))).bind fun g=>
 cond (!g) (
 some (.inr (.inl 1))) (
 cond (inR c (List.length b)) (
 let l:=(List.getD b (Int.toNat c) (0,(0,(0,(0,(0,(0,0)))))))
 cond (inR c (List.length b)) (
 let m:=(List.getD b (Int.toNat c) (0,(0,(0,(0,(0,(0,0)))))))
 let e:=(w64 (l.2.1-m.1))
 let j:=(w64 (e+1))
 let k:=(w64 (o+j))
 let f:=(w64 (c+1))
 some (.inl (k,f,n,d,b))) none) none)) none) (
 some (.inr (.inr (o,n,d,b))))
def j5k [LP] (e c d a b):=LP.lp (fun h=>j3o h.1 h.2.1 h.2.2.1 h.2.2.2.1 h.2.2.2.2) (e,c,d,a,b)
theorem jb2 (e c d a b):j5k e c d a b=lpK (j3o e c d a b) (fun h=>j5k h.1 h.2.1 h.2.2.1 h.2.2.2.1 h.2.2.2.2):=j04 _ _
def j3p (w e:Int) (c d:Tn2):Option ((Int×Int×Tn2×Tn2) ⊕ (Int ⊕ Tn2)):=
 let t:=(Int.ofNat (List.length d))
 cond (decide (e<t)) (
 cond (inR e (List.length d)) (
 let y:=(List.getD d (Int.toNat e) (0,0)).2
 cond (y==w) (
 let q:=(w64 (e+1))
 some (.inl (w,q,c,d))) (
 cond (inR e (List.length d)) (
 let o:=(List.getD d (Int.toNat e) (0,0)).1
 let b:=(w64 (o-w))
 cond (inR e (List.length d)) (
 let a:=(List.getD d (Int.toNat e) (0,0)).2
 let u:=(w64 (a-w))
 (ja7 u (-86399) 86399).bind fun p=>
 cond (!p) (
 some (.inr (.inl 6))) (
 (ja7 b 0 8589934592).bind fun v=>
 cond (!v) (
 some (.inr (.inl 6))) (
 let s:=(Int.ofNat (List.length c))
 cond (decide (s>0)) (
 let j:=(Int.ofNat (List.length c))
 let g:=(w64 (j-1))
 cond (inR g (List.length c)) (
 let m:=(List.getD c (Int.toNat g) (0,0)).1
 let k:=(w64 (b-m))
 cond (decide (k<604800)) (
 some (.inr (.inl 6))) (
 let i:Tn2:=[(b,a)]
 cond (decide (List.length c+List.length i≤j07)) (
 let l:Tn2:=(c++i)
 let r:=(w64 (e+1))
 some (.inl (a,r,l,d))) none)) none) (
 let f:Tn2:=[(b,a)]
 cond (decide (List.length c+List.length f≤j07)) (
 let n:Tn2:=(c++f)
 let x:=(w64 (e+1))
 some (.inl (a,x,n,d))) none)))) none) none)) none) (
 some (.inr (.inr c)))
def j5l [LP] (a c b d):=LP.lp (fun h=>j3p h.1 h.2.1 h.2.2.1 h.2.2.2) (a,c,b,d)
theorem jb3 (a c b d):j5l a c b d=lpK (j3p a c b d) (fun h=>j5l h.1 h.2.1 h.2.2.1 h.2.2.2):=j04 _ _
def j1L [LP] (a:Tn52):Option (Tn2×Int):=
 (ja7 a.2.1 (-64800) 64800).bind fun d=>
 cond (!d) (
 some (([]:Tn2),1)) (
 let e:=(Int.ofNat (List.length a.2.2))
 cond (decide (e>16)) (
 some (([]:Tn2),5)) (
 (j5k 0 0 a.1 a.2.1 a.2.2).bind fun j=>
 sumC j (fun k=>
 some (([]:Tn2),k)) (fun g=>
 cond (decide (g.1>640)) (
 some (([]:Tn2),5)) (
 (j9s g.2.2.2).bind fun c=>
 (j5l g.2.2.1 0 ([]:Tn2) c).bind fun i=>
 sumC i (fun f=>
 some (([]:Tn2),f)) (fun b=>
 some (b,0))))))
def j7D [LP] (a:Tn52):Option (Int):=
 (j1L (a.1,(a.2.1,a.2.2))).bind fun b=>
 some b.2
def j4Q (g:Bool) (e:Int) (j:ByteArray) (i:Int) (a:Tn42):Option ((Bool×Int×ByteArray×Int×Tn42) ⊕ (Bool)):=
 let d:=(Int.ofNat (List.length a))
 cond (decide (e<d)) (
 cond ((inR e (List.length a)) || !g) (
 let b:=(List.getD a (Int.toNat e) (0,(0,(0,(0,(0,(0,0)))))))
 let c:=(Int.tmod b.2.2.2.2.2.2 60)
 let f:=(w64 (e+1))
 some (.inl ((cond g (c==0) false),f,j,i,a))) none) (
 some (.inr g))
def j8B [LP] (d e c a b):=LP.lp (fun h=>j4Q h.1 h.2.1 h.2.2.1 h.2.2.2.1 h.2.2.2.2) (d,e,c,a,b)
theorem jeN (d e c a b):j8B d e c a b=lpK (j4Q d e c a b) (fun h=>j8B h.1 h.2.1 h.2.2.1 h.2.2.2.1 h.2.2.2.2):=j04 _ _
def jcE [LP] (a:Tn52):Option (Bool):=
 let b:=(Int.tmod a.2.1 60)
 (j8B (b==0) 0 a.1 a.2.1 a.2.2).bind fun c=>
 some c
def j67 [LP] (c:Int) (d:Tn54) (m:Tn48) (n:Tn26) (o:Tn65) (p:(List ByteArray)):Option ((Int×Tn54×Tn48×Tn26×Tn65×(List ByteArray)) ⊕ (Int ⊕ Unit)):=
 let l:=(Int.ofNat (List.length d))
 cond (decide (c<l)) (
 cond (inR c (List.length d)) (
 let i:=(List.getD d (Int.toNat c) (ByteArray.empty,(0,([]:Tn42))))
 cond (decide (List.length p+List.length [i.1]≤j07)) (
 let g:(List ByteArray):=(p++[i.1])
 (jc1 g c).bind fun f=>
 cond (f != 0) (
 some (.inr (.inl f))) (
 cond (inR c (List.length d)) (
 let a:=(List.getD d (Int.toNat c) (ByteArray.empty,(0,([]:Tn42))))
 (j7D (a.1,(a.2.1,a.2.2))).bind fun e=>
 cond ((inR c (List.length d)) || !(!(e != 0))) (
 let b:=(List.getD d (Int.toNat c) (ByteArray.empty,(0,([]:Tn42))))
 cond (e != 0) (
 some (.inr (.inl 8))) (
 (jcE (b.1,(b.2.1,b.2.2))).bind fun j=>
 cond (!j) (
 some (.inr (.inl 8))) (
 let k:=(w64 (c+1))
 some (.inl (k,d,m,n,o,g))))) none) none)) none) none) (
 some (.inr (.inr ())))
def jb4 [LP] (e d a b c f):=LP.lp (fun h=>j67 h.1 h.2.1 h.2.2.1 h.2.2.2.1 h.2.2.2.2.1 h.2.2.2.2.2) (e,d,a,b,c,f)
theorem jgT (e d a b c f):jb4 e d a b c f=lpK (j67 e d a b c f) (fun h=>jb4 h.1 h.2.1 h.2.2.1 h.2.2.2.1 h.2.2.2.2.1 h.2.2.2.2.2):=j04 _ _
def jnl [LP] (a:Tn71):Option (Int):=
 (jb4 0 a.1 a.2.1 a.2.2.1 a.2.2.2 ([]:(List ByteArray))).bind fun b=>
 sumC b (fun c=>
 some c) (fun d=>
 some 0)
def j8C (a b c:Int):Option (Bool):=
 some (cond (decide (a≥b)) (decide (a≤c)) false)
def j68 (a:Tn2) (b:Int):Option ((Tn2×Int) ⊕ (Int ⊕ Unit)):=
 let m:=(Int.ofNat (List.length a))
 cond (decide (b<m)) (
 cond (inR b (List.length a)) (
 let j:=(List.getD a (Int.toNat b) (0,0))
 cond (decide (j.1<0)) (
 some (.inr (.inl 1))) (
 cond (inR b (List.length a)) (
 let i:=(List.getD a (Int.toNat b) (0,0))
 cond (inR b (List.length a)) (
 let e:=(List.getD a (Int.toNat b) (0,0))
 cond (decide (i.1≥e.2)) (
 some (.inr (.inl 1))) (
 cond (inR b (List.length a)) (
 let f:=(List.getD a (Int.toNat b) (0,0))
 cond (decide (f.2>604800)) (
 some (.inr (.inl 1))) (
 cond (decide (b>0)) (
 cond (inR b (List.length a)) (
 let d:=(List.getD a (Int.toNat b) (0,0))
 let c:=(w64 (b-1))
 cond (inR c (List.length a)) (
 let k:=(List.getD a (Int.toNat c) (0,0))
 cond (decide (d.1<k.2)) (
 some (.inr (.inl 6))) (
 let g:=(w64 (b+1))
 some (.inl (a,g)))) none) none) (
 let l:=(w64 (b+1))
 some (.inl (a,l))))) none)) none) none)) none) (
 some (.inr (.inr ())))
def jb5 [LP] (a b):=LP.lp (fun h=>j68 h.1 h.2) (a,b)
theorem jgU (a b):jb5 a b=lpK (j68 a b) (fun h=>jb5 h.1 h.2):=j04 _ _
def jeO [LP] (a:Tn2):Option (Int):=
 let b:=(Int.ofNat (List.length a))
 cond (decide (b>14)) (
 some 5) (
 (jb5 a 0).bind fun c=>
 sumC c (fun d=>
 some d) (fun e=>
 some 0))
def jjX (a:Int):Option (Bool):=
 (j8C a 0 604800).bind fun c=>
 let b:=(Int.tmod a 3600)
 some (cond c (b==0) false)
def j5m [LP] (e:Int) (r:Tn54) (b:Tn48) (p:Tn26) (q:Tn65) (s:(List ByteArray)):Option ((Int×Tn54×Tn48×Tn26×Tn65×(List ByteArray)) ⊕ (Int ⊕ Unit)):=
 let f:=(Int.ofNat (List.length b))
 cond (decide (e<f)) (
 cond (inR e (List.length b)) (
 let a:=(List.getD b (Int.toNat e) (ByteArray.empty,(0,(([]:Tn2),(0,(0,false))))))
 cond (decide (List.length s+List.length [a.1]≤j07)) (
 let c:(List ByteArray):=(s++[a.1])
 let n:Bool:=(ByteArray.toList a.1==ByteArray.toList (ByteArray.mk #[110,111,98,111,100,121]))
 cond n (
 some (.inr (.inl 2))) (
 (jc1 c e).bind fun d=>
 cond (d != 0) (
 some (.inr (.inl d))) (
 let g:=(Int.ofNat (List.length r))
 let j:=(w64 (g-1))
 (j8C a.2.1 0 j).bind fun i=>
 cond (!i) (
 some (.inr (.inl 3))) (
 (jeO a.2.2.1).bind fun l=>
 cond (l != 0) (
 some (.inr (.inl 8))) (
 (jjX a.2.2.2.1).bind fun o=>
 cond (!o) (
 some (.inr (.inl 1))) (
 (jjX a.2.2.2.2.1).bind fun m=>
 cond (!m) (
 some (.inr (.inl 1))) (
 let k:=(w64 (e+1))
 some (.inl (k,r,b,p,q,c))))))))) none) none) (
 some (.inr (.inr ())))
def j9t [LP] (e d a b c f):=LP.lp (fun h=>j5m h.1 h.2.1 h.2.2.1 h.2.2.2.1 h.2.2.2.2.1 h.2.2.2.2.2) (e,d,a,b,c,f)
theorem jg6 (e d a b c f):j9t e d a b c f=lpK (j5m e d a b c f) (fun h=>j9t h.1 h.2.1 h.2.2.1 h.2.2.2.1 h.2.2.2.2.1 h.2.2.2.2.2):=j04 _ _
def jla [LP] (a:Tn71):Option (Int):=
 (j9t 0 a.1 a.2.1 a.2.2.1 a.2.2.2 ([]:(List ByteArray))).bind fun b=>
 sumC b (fun c=>
 some c) (fun d=>
 some 0)
def jck  : Option (Int):=
 (jjT 2241).bind fun b=>
 let a:=(w64 (b-1))
 some a
def j3W (p f:Int) (n:Tn54) (b:Tn48) (d:Tn26) (e:Tn65) (o:ByteArray) (c:Int) (a:(List Int)) (m:(List ByteArray)):Option ((Int×Int×Tn54×Tn48×Tn26×Tn65×ByteArray×Int×(List Int)×(List ByteArray)) ⊕ (Int ⊕ (Int×Tn54×Tn48×Tn26×Tn65×ByteArray×Int×(List Int)×(List ByteArray)))):=
 let j:=(Int.ofNat (List.length a))
 cond (decide (f<j)) (
 cond (inR f (List.length a)) (
 let k:=(List.getD a (Int.toNat f) 0)
 (jck).bind fun l=>
 (j8C k 0 l).bind fun g=>
 cond (!g) (
 some (.inr (.inl 1))) (
 let i:=(w64 (f+1))
 some (.inl (p,i,n,b,d,e,o,c,a,m)))) none) (
 some (.inr (.inr (p,n,b,d,e,o,c,a,m))))
def j6M [LP] (k f i b d e j c a g):=LP.lp (fun h=>j3W h.1 h.2.1 h.2.2.1 h.2.2.2.1 h.2.2.2.2.1 h.2.2.2.2.2.1 h.2.2.2.2.2.2.1 h.2.2.2.2.2.2.2.1 h.2.2.2.2.2.2.2.2.1 h.2.2.2.2.2.2.2.2.2) (k,f,i,b,d,e,j,c,a,g)
theorem jcF (k f i b d e j c a g):j6M k f i b d e j c a g=lpK (j3W k f i b d e j c a g) (fun h=>j6M h.1 h.2.1 h.2.2.1 h.2.2.2.1 h.2.2.2.2.1 h.2.2.2.2.2.1 h.2.2.2.2.2.2.1 h.2.2.2.2.2.2.2.1 h.2.2.2.2.2.2.2.2.1 h.2.2.2.2.2.2.2.2.2):=j04 _ _
def j5n (o d:Int) (n:Tn54) (c:Tn48) (e:Tn26) (f:Tn65) (p:ByteArray) (l:Int) (a:(List Int)) (m:(List ByteArray)):Option ((Int×Int×Tn54×Tn48×Tn26×Tn65×ByteArray×Int×(List Int)×(List ByteArray)) ⊕ (Int ⊕ (Int×Tn54×Tn48×Tn26×Tn65×(List ByteArray)))):=
 let g:=(Int.ofNat (List.length a))
 cond (decide (d<g)) (
 cond (inR d (List.length a)) (
 let j:=(List.getD a (Int.toNat d) 0)
 let b:=(w64 (d-1))
 cond (inR b (List.length a)) (
 let i:=(List.getD a (Int.toNat b) 0)
 cond (decide (j≤i)) (
 some (.inr (.inl 6))) (
 let k:=(w64 (d+1))
 some (.inl (o,k,n,c,e,f,p,l,a,m)))) none) none) (
 some (.inr (.inr (o,n,c,e,f,m))))
def j6N [LP] (j k g c d e i a b f):=LP.lp (fun h=>j5n h.1 h.2.1 h.2.2.1 h.2.2.2.1 h.2.2.2.2.1 h.2.2.2.2.2.1 h.2.2.2.2.2.2.1 h.2.2.2.2.2.2.2.1 h.2.2.2.2.2.2.2.2.1 h.2.2.2.2.2.2.2.2.2) (j,k,g,c,d,e,i,a,b,f)
theorem jiJ (j k g c d e i a b f):j6N j k g c d e i a b f=lpK (j5n j k g c d e i a b f) (fun h=>j6N h.1 h.2.1 h.2.2.1 h.2.2.2.1 h.2.2.2.2.1 h.2.2.2.2.2.1 h.2.2.2.2.2.2.1 h.2.2.2.2.2.2.2.1 h.2.2.2.2.2.2.2.2.1 h.2.2.2.2.2.2.2.2.2):=j04 _ _
def j3X [LP] (g:Int) (u:Tn54) (p:Tn48) (d:Tn26) (r:Tn65) (v:(List ByteArray)):Option ((Int×Tn54×Tn48×Tn26×Tn65×(List ByteArray)) ⊕ (Int ⊕ Unit)):=
 let i:=(Int.ofNat (List.length d))
 cond (decide (g<i)) (
 cond (inR g (List.length d)) (
 let a:=(List.getD d (Int.toNat g) (ByteArray.empty,(0,([]:(List Int)))))
 cond (decide (List.length v+List.length [a.1]≤j07)) (
 let f:(List ByteArray):=(v++[a.1])
 (jc1 f g).bind fun e=>
 cond (e != 0) (
 some (.inr (.inl e))) (
 let l:=(Int.ofNat (List.length u))
 let j:=(w64 (l-1))
 (j8C a.2.1 0 j).bind fun n=>
 cond (!n) (
 some (.inr (.inl 3))) (
 let m:=(Int.ofNat (List.length a.2.2))
 cond (decide (m>64)) (
 some (.inr (.inl 5))) (
 (j6M g 0 u p d r a.1 a.2.1 a.2.2 f).bind fun o=>
 sumC o (fun s=>
 some (.inr (.inl s))) (fun b=>
 (j6N b.1 1 b.2.1 b.2.2.1 b.2.2.2.1 b.2.2.2.2.1 b.2.2.2.2.2.1 b.2.2.2.2.2.2.1 b.2.2.2.2.2.2.2.1 b.2.2.2.2.2.2.2.2).bind fun q=>
 sumC q (fun t=>
 some (.inr (.inl t))) (fun c=>
 let k:=(w64 (c.1+1))
 some (.inl (k,c.2.1,c.2.2.1,c.2.2.2.1,c.2.2.2.2.1,c.2.2.2.2.2)))))))) none) none) (
 some (.inr (.inr ())))
def j6O [LP] (e d a b c f):=LP.lp (fun h=>j3X h.1 h.2.1 h.2.2.1 h.2.2.2.1 h.2.2.2.2.1 h.2.2.2.2.2) (e,d,a,b,c,f)
theorem jcG (e d a b c f):j6O e d a b c f=lpK (j3X e d a b c f) (fun h=>j6O h.1 h.2.1 h.2.2.1 h.2.2.2.1 h.2.2.2.2.1 h.2.2.2.2.2):=j04 _ _
def jfl [LP] (a:Tn71):Option (Int):=
 (j6O 0 a.1 a.2.1 a.2.2.1 a.2.2.2 ([]:(List ByteArray))).bind fun b=>
 sumC b (fun c=>
 some c) (fun d=>
 some 0)
def j69 (n:Int) (u:Tn54) (b:Tn48) (c:Tn26) (f:Tn65) (v:ByteArray) (g d k j m:Int) (a:(List Int)) (e:Tn2) (i l:Int):Option ((Int×Tn54×Tn48×Tn26×Tn65×ByteArray×Int×Int×Int×Int×Int×(List Int)×Tn2×Int×Int) ⊕ (Int ⊕ (Tn54×Tn48×Tn26×Tn65×ByteArray×Int×Int×Int×Int×Int×(List Int)×Tn2×Int×Int))):=
 let q:=(Int.ofNat (List.length a))
 cond (decide (n<q)) (
 cond (inR n (List.length a)) (
 let t:=(List.getD a (Int.toNat n) 0)
 let r:=(Int.ofNat (List.length b))
 let p:=(w64 (r-1))
 (j8C t 0 p).bind fun o=>
 cond (!o) (
 some (.inr (.inl 3))) (
 let s:=(w64 (n+1))
 some (.inl (s,u,b,c,f,v,g,d,k,j,m,a,e,i,l)))) none) (
 some (.inr (.inr (u,b,c,f,v,g,d,k,j,m,a,e,i,l))))
def jb6 [LP] (o n d a e p g k l j m i b c f):=LP.lp (fun h=>j69 h.1 h.2.1 h.2.2.1 h.2.2.2.1 h.2.2.2.2.1 h.2.2.2.2.2.1 h.2.2.2.2.2.2.1 h.2.2.2.2.2.2.2.1 h.2.2.2.2.2.2.2.2.1 h.2.2.2.2.2.2.2.2.2.1 h.2.2.2.2.2.2.2.2.2.2.1 h.2.2.2.2.2.2.2.2.2.2.2.1 h.2.2.2.2.2.2.2.2.2.2.2.2.1 h.2.2.2.2.2.2.2.2.2.2.2.2.2.1 h.2.2.2.2.2.2.2.2.2.2.2.2.2.2) (o,n,d,a,e,p,g,k,l,j,m,i,b,c,f)
theorem jgV (o n d a e p g k l j m i b c f):jb6 o n d a e p g k l j m i b c f=lpK (j69 o n d a e p g k l j m i b c f) (fun h=>jb6 h.1 h.2.1 h.2.2.1 h.2.2.2.1 h.2.2.2.2.1 h.2.2.2.2.2.1 h.2.2.2.2.2.2.1 h.2.2.2.2.2.2.2.1 h.2.2.2.2.2.2.2.2.1 h.2.2.2.2.2.2.2.2.2.1 h.2.2.2.2.2.2.2.2.2.2.1 h.2.2.2.2.2.2.2.2.2.2.2.1 h.2.2.2.2.2.2.2.2.2.2.2.2.1 h.2.2.2.2.2.2.2.2.2.2.2.2.2.1 h.2.2.2.2.2.2.2.2.2.2.2.2.2.2):=j04 _ _
def jgW [LP] (b:Tn71) (a:Tn59):Option (Int):=
 let o:=(Int.ofNat (List.length b.1))
 let m:=(w64 (o-1))
 (j8C a.2.1 0 m).bind fun f=>
 cond (!f) (
 some 3) (
 (jck).bind fun k=>
 (j8C a.2.2.1.1 1 k).bind fun g=>
 cond (!g) (
 some 1) (
 (j8C a.2.2.1.2 0 86399).bind fun j=>
 cond (!j) (
 some 1) (
 (j8C a.2.2.2.1 0 2).bind fun i=>
 cond (!i) (
 some 1) (
 (j8C a.2.2.2.2.1 1 400).bind fun p=>
 cond (!p) (
 some 1) (
 let q:=(Int.ofNat (List.length a.2.2.2.2.2.1))
 cond (q==0) (
 some 7) (
 let t:=(Int.ofNat (List.length a.2.2.2.2.2.1))
 cond (decide (t>12)) (
 some 5) (
 (jb6 0 b.1 b.2.1 b.2.2.1 b.2.2.2 a.1 a.2.1 a.2.2.1.1 a.2.2.1.2 a.2.2.2.1 a.2.2.2.2.1 a.2.2.2.2.2.1 a.2.2.2.2.2.2.1 a.2.2.2.2.2.2.2.1 a.2.2.2.2.2.2.2.2).bind fun v=>
 sumC v (fun w=>
 some w) (fun d=>
 (jeO d.2.2.2.2.2.2.2.2.2.2.2.1).bind fun r=>
 cond (r != 0) (
 some 8) (
 (j8C d.2.2.2.2.2.2.2.2.2.2.2.2.2 0 2).bind fun s=>
 cond (!s) (
 some 1) (
 let l:=(Int.ofNat (List.length d.2.2.1))
 let u:=(w64 (l-1))
 cond (d.2.2.2.2.2.2.2.2.2.2.2.2.2 != 0) (
 (j8C d.2.2.2.2.2.2.2.2.2.2.2.2.1 0 u).bind fun n=>
 cond (!n) (
 some 3) (
 let e:Bool:=(cond (d.2.2.2.2.2.2.2.2.2.2.2.2.2==0) (d.2.2.2.2.2.2.2.2.2.2.2.2.1 != 0) false)
 cond e (
 some 1) (
 some 0))) (
 let c:Bool:=(cond (d.2.2.2.2.2.2.2.2.2.2.2.2.2==0) (d.2.2.2.2.2.2.2.2.2.2.2.2.1 != 0) false)
 cond c (
 some 1) (
 some 0))))))))))))
def jjY (d:Tn71) (a:Tn24):Option (Int):=
 let e:=(Int.ofNat (List.length d.2.1))
 (j8C a.1 0 2).bind fun g=>
 cond (!g) (
 some 1) (
 let m:=(w64 (e-1))
 (j8C a.2.1 0 m).bind fun j=>
 let k:=(w64 (e-1))
 cond (cond (!j) (cond (a.1 != 1) true (a.2.1 != (-1))) false) (
 cond ((!(a.1==2)) || !(!true)) (
 some 3) none) (
 cond (a.1==2) (
 (j8C a.2.2.1 0 k).bind fun l=>
 cond (!l) (
 some 3) (
 cond (cond (a.1 != 2) (a.2.2.1 != 0) false) (
 some 1) (
 cond (cond (a.1==2) (a.2.1==a.2.2.1) false) (
 some 4) (
 cond (decide (a.2.2.2.1<0)) (
 some 1) (
 cond (decide (a.2.2.2.2<0)) (
 some 1) (
 let f:=(w64 (Int.tdiv a.2.2.2.2 86400))
 (jck).bind fun i=>
 cond (decide (f>i)) (
 some 1) (
 cond (decide (a.2.2.2.1≥a.2.2.2.2)) (
 some 6) (
 some 0)))))))) (
 cond (cond (a.1 != 2) (a.2.2.1 != 0) false) (
 some 1) (
 cond (cond (a.1==2) (a.2.1==a.2.2.1) false) (
 some 4) (
 cond (decide (a.2.2.2.1<0)) (
 some 1) (
 cond (decide (a.2.2.2.2<0)) (
 some 1) (
 let b:=(w64 (Int.tdiv a.2.2.2.2 86400))
 (jck).bind fun c=>
 cond (decide (b>c)) (
 some 1) (
 cond (decide (a.2.2.2.1≥a.2.2.2.2)) (
 some 6) (
 some 0)))))))))
def j3Y [LP] (r d:Int) (o:Tn54) (c:Tn48) (e:Tn26) (f:Tn65) (q:ByteArray) (b:Tn60) (l:Tn29) (p s:(List ByteArray)):Option ((Int×Int×Tn54×Tn48×Tn26×Tn65×ByteArray×Tn60×Tn29×(List ByteArray)×(List ByteArray)) ⊕ (Int ⊕ (Int×Tn54×Tn48×Tn26×Tn65×ByteArray×Tn60×Tn29×(List ByteArray)))):=
 let n:=(Int.ofNat (List.length b))
 cond (decide (d<n)) (
 cond (inR d (List.length b)) (
 let g:=(List.getD b (Int.toNat d) (ByteArray.empty,(0,((0,0),(0,(0,(([]:(List Int)),(([]:Tn2),(0,0)))))))))
 cond (decide (List.length s+List.length [g.1]≤j07)) (
 let j:(List ByteArray):=(s++[g.1])
 (jc1 j d).bind fun k=>
 cond (k != 0) (
 some (.inr (.inl k))) (
 cond (inR d (List.length b)) (
 let a:=(List.getD b (Int.toNat d) (ByteArray.empty,(0,((0,0),(0,(0,(([]:(List Int)),(([]:Tn2),(0,0)))))))))
 (jgW (o,(c,(e,f))) (a.1,(a.2.1,((a.2.2.1.1,a.2.2.1.2),(a.2.2.2.1,(a.2.2.2.2.1,(a.2.2.2.2.2.1,(a.2.2.2.2.2.2.1,(a.2.2.2.2.2.2.2.1,a.2.2.2.2.2.2.2.2))))))))).bind fun i=>
 cond (i != 0) (
 some (.inr (.inl i))) (
 let m:=(w64 (d+1))
 some (.inl (r,m,o,c,e,f,q,b,l,p,j)))) none)) none) none) (
 some (.inr (.inr (r,o,c,e,f,q,b,l,p))))
def j6P [LP] (j k g c d e i a b f l):=LP.lp (fun h=>j3Y h.1 h.2.1 h.2.2.1 h.2.2.2.1 h.2.2.2.2.1 h.2.2.2.2.2.1 h.2.2.2.2.2.2.1 h.2.2.2.2.2.2.2.1 h.2.2.2.2.2.2.2.2.1 h.2.2.2.2.2.2.2.2.2.1 h.2.2.2.2.2.2.2.2.2.2) (j,k,g,c,d,e,i,a,b,f,l)
theorem jcH (j k g c d e i a b f l):j6P j k g c d e i a b f l=lpK (j3Y j k g c d e i a b f l) (fun h=>j6P h.1 h.2.1 h.2.2.1 h.2.2.2.1 h.2.2.2.2.1 h.2.2.2.2.2.1 h.2.2.2.2.2.2.1 h.2.2.2.2.2.2.2.1 h.2.2.2.2.2.2.2.2.1 h.2.2.2.2.2.2.2.2.2.1 h.2.2.2.2.2.2.2.2.2.2):=j04 _ _
def j3Z (n f:Int) (k:Tn54) (c:Tn48) (d:Tn26) (e:Tn65) (o:ByteArray) (l:Tn60) (b:Tn29) (m:(List ByteArray)):Option ((Int×Int×Tn54×Tn48×Tn26×Tn65×ByteArray×Tn60×Tn29×(List ByteArray)) ⊕ (Int ⊕ (Int×Tn54×Tn48×Tn26×Tn65×(List ByteArray)))):=
 let j:=(Int.ofNat (List.length b))
 cond (decide (f<j)) (
 cond (inR f (List.length b)) (
 let a:=(List.getD b (Int.toNat f) (0,(0,(0,(0,0)))))
 (jjY (k,(c,(d,e))) (a.1,(a.2.1,(a.2.2.1,(a.2.2.2.1,a.2.2.2.2))))).bind fun g=>
 cond (g != 0) (
 some (.inr (.inl g))) (
 let i:=(w64 (f+1))
 some (.inl (n,i,k,c,d,e,o,l,b,m)))) none) (
 some (.inr (.inr (n,k,c,d,e,m))))
def j6Q [LP] (k f i b d e j c a g):=LP.lp (fun h=>j3Z h.1 h.2.1 h.2.2.1 h.2.2.2.1 h.2.2.2.2.1 h.2.2.2.2.2.1 h.2.2.2.2.2.2.1 h.2.2.2.2.2.2.2.1 h.2.2.2.2.2.2.2.2.1 h.2.2.2.2.2.2.2.2.2) (k,f,i,b,d,e,j,c,a,g)
theorem jcI (k f i b d e j c a g):j6Q k f i b d e j c a g=lpK (j3Z k f i b d e j c a g) (fun h=>j6Q h.1 h.2.1 h.2.2.1 h.2.2.2.1 h.2.2.2.2.1 h.2.2.2.2.2.1 h.2.2.2.2.2.2.1 h.2.2.2.2.2.2.2.1 h.2.2.2.2.2.2.2.2.1 h.2.2.2.2.2.2.2.2.2):=j04 _ _
def j40 [LP] (g:Int) (t:Tn54) (n:Tn48) (o:Tn26) (d:Tn65) (s:(List ByteArray)):Option ((Int×Tn54×Tn48×Tn26×Tn65×(List ByteArray)) ⊕ (Int ⊕ Unit)):=
 let i:=(Int.ofNat (List.length d))
 cond (decide (g<i)) (
 cond (inR g (List.length d)) (
 let a:=(List.getD d (Int.toNat g) (ByteArray.empty,(([]:Tn60),([]:Tn29))))
 cond (decide (List.length s+List.length [a.1]≤j07)) (
 let e:(List ByteArray):=(s++[a.1])
 (jc1 e g).bind fun f=>
 cond (f != 0) (
 some (.inr (.inl f))) (
 let j:=(Int.ofNat (List.length a.2.1))
 let l:=(Int.ofNat (List.length a.2.2))
 cond (cond (decide (j>6)) true (decide (l>48))) (
 some (.inr (.inl 5))) (
 (j6P g 0 t n o d a.1 a.2.1 a.2.2 e ([]:(List ByteArray))).bind fun m=>
 sumC m (fun q=>
 some (.inr (.inl q))) (fun b=>
 (j6Q b.1 0 b.2.1 b.2.2.1 b.2.2.2.1 b.2.2.2.2.1 b.2.2.2.2.2.1 b.2.2.2.2.2.2.1 b.2.2.2.2.2.2.2.1 b.2.2.2.2.2.2.2.2).bind fun p=>
 sumC p (fun r=>
 some (.inr (.inl r))) (fun c=>
 let k:=(w64 (c.1+1))
 some (.inl (k,c.2.1,c.2.2.1,c.2.2.2.1,c.2.2.2.2.1,c.2.2.2.2.2))))))) none) none) (
 some (.inr (.inr ())))
def j6R [LP] (e d a b c f):=LP.lp (fun h=>j40 h.1 h.2.1 h.2.2.1 h.2.2.2.1 h.2.2.2.2.1 h.2.2.2.2.2) (e,d,a,b,c,f)
theorem jcJ (e d a b c f):j6R e d a b c f=lpK (j40 e d a b c f) (fun h=>j6R h.1 h.2.1 h.2.2.1 h.2.2.2.1 h.2.2.2.2.1 h.2.2.2.2.2):=j04 _ _
def jfm [LP] (a:Tn71):Option (Int):=
 (j6R 0 a.1 a.2.1 a.2.2.1 a.2.2.2 ([]:(List ByteArray))).bind fun b=>
 sumC b (fun c=>
 some c) (fun d=>
 some 0)
def jb7 [LP] (a:Tn71):Option (Int):=
 let k:=(Int.ofNat (List.length a.1))
 let e:=(Int.ofNat (List.length a.2.1))
 let j:=(Int.ofNat (List.length a.2.2.1))
 let g:Bool:=(cond (cond (decide (k>16)) true (decide (e>32))) true (decide (j>8)))
 let i:=(Int.ofNat (List.length a.2.2.2))
 cond (cond g true (decide (i>12))) (
 some 5) (
 (jnl (a.1,(a.2.1,(a.2.2.1,a.2.2.2)))).bind fun d=>
 cond (d != 0) (
 some d) (
 (jla (a.1,(a.2.1,(a.2.2.1,a.2.2.2)))).bind fun b=>
 cond (b != 0) (
 some b) (
 (jfl (a.1,(a.2.1,(a.2.2.1,a.2.2.2)))).bind fun c=>
 cond (c != 0) (
 some c) (
 (jfm (a.1,(a.2.1,(a.2.2.1,a.2.2.2)))).bind fun f=>
 some f))))
def jxH [LP] (b:Tn71) (a c:Int):Option (Bool):=
 let d:=(Int.ofNat (List.length b.2.2.2))
 let f:Bool:=(cond (cond (decide (a≥0)) (decide (a<d)) false) (decide (c≥0)) false)
 cond (cond f (decide (c≤8589934592)) false) (
 (jb7 (b.1,(b.2.1,(b.2.2.1,b.2.2.2)))).bind fun e=>
 some (e==0)) (
 some false)
def jgX [LP] (b:Tn52) (a:Tn59):Option (Int):=
 (j7D (b.1,(b.2.1,b.2.2))).bind fun i=>
 let g:Bool:=(cond (cond (i != 0) true (decide (a.2.2.1.1<1))) true (decide (a.2.2.1.1>100000)))
 let f:Bool:=(cond (cond g true (decide (a.2.2.1.2<0))) true (decide (a.2.2.1.2≥86400)))
 let d:Bool:=(cond (cond f true (decide (a.2.2.2.1<0))) true (decide (a.2.2.2.1>2)))
 let c:Bool:=(cond (cond d true (decide (a.2.2.2.2.1<1))) true (decide (a.2.2.2.2.1>400)))
 let e:=(Int.ofNat (List.length a.2.2.2.2.2.1))
 cond (cond c true (e==0)) (
 some 8) (
 some 0)
def jgY (a:Int):Option (Bool):=
 (ja7 a (-2) 99422).bind fun b=>
 some b
def j4H (c:Int) (t:ByteArray) (d:Int) (f:Tn42) (g a:Int) (b:Tn2):Option ((Int×ByteArray×Int×Tn42×Int×Int×Tn2) ⊕ ((Int×Int) ⊕ Unit)):=
 let a2:=(Int.ofNat (List.length b))
 cond (decide (c<a2)) (
 cond (decide (c≥0)) (
 cond (inR c (List.length b)) (
 let i:=(List.getD b (Int.toNat c) (0,0)).2
 cond (inR c (List.length b)) (
 let e:=(List.getD b (Int.toNat c) (0,0)).1
 let a1:=(w64 (c+1))
 let a7:=(Int.ofNat (List.length b))
 cond (decide (a1<a7)) (
 let m:=(w64 (c+1))
 cond (inR m (List.length b)) (
 let v:=(List.getD b (Int.toNat m) (0,0)).1
 let a8:=(w64 (g*86400))
 let a5:=(w64 (a8+a))
 let l:=(w64 (a5-i))
 let j:Int:=(if l>e then l else e:Int)
 cond (decide (j<v)) (
 some (.inr (.inl (j,0)))) (
 let a4:=(w64 (c+1))
 some (.inl (a4,t,d,f,g,a,b)))) none) (
 let a0:=(w64 (g*86400))
 let a9:=(w64 (a0+a))
 let s:=(w64 (a9-i))
 let q:Int:=(if s>e then s else e:Int)
 cond (decide (q<8589934593)) (
 some (.inr (.inl (q,0)))) (
 let w:=(w64 (c+1))
 some (.inl (w,t,d,f,g,a,b))))) none) none) (
 let a3:=(w64 (c+1))
 let z:=(Int.ofNat (List.length b))
 cond (decide (a3<z)) (
 let o:=(w64 (c+1))
 cond (inR o (List.length b)) (
 let u:=(List.getD b (Int.toNat o) (0,0)).1
 let b2:=(w64 (g*86400))
 let y:=(w64 (b2+a))
 let r:=(w64 (y-d))
 let k:Int:=(if r>0 then r else 0:Int)
 cond (decide (k<u)) (
 some (.inr (.inl (k,0)))) (
 let x:=(w64 (c+1))
 some (.inl (x,t,d,f,g,a,b)))) none) (
 let b0:=(w64 (g*86400))
 let a6:=(w64 (b0+a))
 let n:=(w64 (a6-d))
 let p:Int:=(if n>0 then n else 0:Int)
 cond (decide (p<8589934593)) (
 some (.inr (.inl (p,0)))) (
 let b1:=(w64 (c+1))
 some (.inl (b1,t,d,f,g,a,b)))))) (
 some (.inr (.inr ())))
def j5o [LP] (f d b a g c e):=LP.lp (fun h=>j4H h.1 h.2.1 h.2.2.1 h.2.2.2.1 h.2.2.2.2.1 h.2.2.2.2.2.1 h.2.2.2.2.2.2) (f,d,b,a,g,c,e)
theorem jcK (f d b a g c e):j5o f d b a g c e=lpK (j4H f d b a g c e) (fun h=>j5o h.1 h.2.1 h.2.2.1 h.2.2.2.1 h.2.2.2.2.1 h.2.2.2.2.2.1 h.2.2.2.2.2.2):=j04 _ _
def j5p [LP] (a:Tn52) (b:(Int×Int)):Option (Int×Int):=
 (j1L (a.1,(a.2.1,a.2.2))).bind fun c=>
 cond (c.2 != 0) (
 some (0,8)) (
 (ja7 b.2 0 86399).bind fun d=>
 cond (!d) (
 some (0,1)) (
 cond (decide (b.1<(-2))) (
 some (0,0)) (
 (jgY b.1).bind fun e=>
 cond (!e) (
 some (0,10)) (
 (j5o (-1) a.1 a.2.1 a.2.2 b.1 b.2 c.1).bind fun f=>
 sumC f (fun g=>
 some (g.1,g.2)) (fun i=>
 some (0,10))))))
def j5q (c:Tn2) (g i a:Int):Option ((Tn2×Int×Int×Int) ⊕ (Int)):=
 let b:=(Int.ofNat (List.length c))
 cond ((inR a (List.length c)) || !(decide (a<b))) (
 let e:=(List.getD c (Int.toNat a) (0,0))
 cond (cond (decide (a<b)) (decide (e.1≤g)) false) (
 cond (inR a (List.length c)) (
 let f:=(List.getD c (Int.toNat a) (0,0))
 let d:=(w64 (a+1))
 some (.inl (c,g,f.2,d))) none) (
 some (.inr i))) none
def j9u [LP] (a c b d):=LP.lp (fun h=>j5q h.1 h.2.1 h.2.2.1 h.2.2.2) (a,c,b,d)
theorem jg7 (a c b d):j9u a c b d=lpK (j5q a c b d) (fun h=>j9u h.1 h.2.1 h.2.2.1 h.2.2.2):=j04 _ _
def jhR [LP] (a:Tn52) (c:Tn2) (b:Int):Option (Int):=
 (j9u c b a.2.1 0).bind fun d=>
 some d
def jb8 [LP] (a:Tn52) (b:Int):Option (Int×Int):=
 (j1L (a.1,(a.2.1,a.2.2))).bind fun c=>
 cond (c.2 != 0) (
 some (0,8)) (
 (ja7 b 0 8589934592).bind fun e=>
 cond (!e) (
 some (0,1)) (
 (jhR (a.1,(a.2.1,a.2.2)) c.1 b).bind fun d=>
 some (d,0)))
def jjZ (b a:Int):Option ((Int×Int)):=
 let g:=(w64 (b+a))
 let c:=(w64 (g+864000))
 let e:=(w64 (Int.tdiv c 86400))
 let d:=(w64 (e-10))
 let f:=(Int.tmod c 86400)
 some (d,f)
def j4g [LP] (a:Tn52) (c:Int):Option ((Int×Int)×Int):=
 (jb8 (a.1,(a.2.1,a.2.2)) c).bind fun b=>
 cond (b.2 != 0) (
 some ((0,0),b.2)) (
 (jjZ c b.1).bind fun d=>
 some ((d.1,d.2),0))
def jb9 [LP] (b:Tn52) (a:Tn59) (e:Int):Option (Int×Bool):=
 cond (a.2.2.2.1==0) (
 (j5p (b.1,(b.2.1,b.2.2)) (a.2.2.1.1,a.2.2.1.2)).bind fun d=>
 let l:=(w64 (e*a.2.2.2.2.1))
 let i:=(w64 (l*3600))
 let o:=(w64 (d.1+i))
 let m:=(w64 (d.1+i))
 some (o,(cond (d.2==0) (decide (m≤8589934592)) false))) (
 let j:=(w64 (e*a.2.2.2.2.1))
 cond (a.2.2.2.1==2) (
 let k:=(w64 (j*7))
 let n:=(w64 (a.2.2.1.1+k))
 (j5p (b.1,(b.2.1,b.2.2)) (n,a.2.2.1.2)).bind fun g=>
 some (g.1,(g.2==0))) (
 let f:=(w64 (a.2.2.1.1+j))
 (j5p (b.1,(b.2.1,b.2.2)) (f,a.2.2.1.2)).bind fun c=>
 some (c.1,(c.2==0))))
def j6a [LP] (p c:Int) (q:ByteArray) (i:Int) (m:Tn42) (r:ByteArray) (d g f j b:Int) (e:(List Int)) (n:Tn2) (k l:Int):Option ((Int×Int×ByteArray×Int×Tn42×ByteArray×Int×Int×Int×Int×Int×(List Int)×Tn2×Int×Int) ⊕ (Int)):=
 cond (decide (c≥0)) (
 (jb9 (q,(i,m)) (r,(d,((g,f),(j,(b,(e,(n,(k,l)))))))) c).bind fun a=>
 cond (cond a.2 (decide (a.1≤p)) false) (
 some (.inr c)) (
 let o:=(w64 (c-1))
 some (.inl (p,o,q,i,m,r,d,g,f,j,b,e,n,k,l)))) (
 some (.inr c))
def j7E [LP] (n m o f k p b e d g a c l i j):=LP.lp (fun h=>j6a h.1 h.2.1 h.2.2.1 h.2.2.2.1 h.2.2.2.2.1 h.2.2.2.2.2.1 h.2.2.2.2.2.2.1 h.2.2.2.2.2.2.2.1 h.2.2.2.2.2.2.2.2.1 h.2.2.2.2.2.2.2.2.2.1 h.2.2.2.2.2.2.2.2.2.2.1 h.2.2.2.2.2.2.2.2.2.2.2.1 h.2.2.2.2.2.2.2.2.2.2.2.2.1 h.2.2.2.2.2.2.2.2.2.2.2.2.2.1 h.2.2.2.2.2.2.2.2.2.2.2.2.2.2) (n,m,o,f,k,p,b,e,d,g,a,c,l,i,j)
theorem jgZ (n m o f k p b e d g a c l i j):j7E n m o f k p b e d g a c l i j=lpK (j6a n m o f k p b e d g a c l i j) (fun h=>j7E h.1 h.2.1 h.2.2.1 h.2.2.2.1 h.2.2.2.2.1 h.2.2.2.2.2.1 h.2.2.2.2.2.2.1 h.2.2.2.2.2.2.2.1 h.2.2.2.2.2.2.2.2.1 h.2.2.2.2.2.2.2.2.2.1 h.2.2.2.2.2.2.2.2.2.2.1 h.2.2.2.2.2.2.2.2.2.2.2.1 h.2.2.2.2.2.2.2.2.2.2.2.2.1 h.2.2.2.2.2.2.2.2.2.2.2.2.2.1 h.2.2.2.2.2.2.2.2.2.2.2.2.2.2):=j04 _ _
def jh0 [LP] (b:Tn52) (a:Tn59) (c:Int):Option (Int):=
 cond (a.2.2.2.1==0) (
 (j5p (b.1,(b.2.1,b.2.2)) (a.2.2.1.1,a.2.2.1.2)).bind fun e=>
 cond (cond (e.2==0) (decide (e.1≤c)) false) (
 let o:=(w64 (c-e.1))
 let m:=(w64 (3600*a.2.2.2.2.1))
 cond (!(m==0)) (
 let s:=(w64 (Int.tdiv o m))
 some s) none) (
 some (-1))) (
 (j4g (b.1,(b.2.1,b.2.2)) c).bind fun j=>
 cond (a.2.2.2.1==2) (
 let k:=(w64 (a.2.2.2.2.1*7))
 let q:=(w64 (j.1.1+2))
 let l:=(w64 (q-a.2.2.1.1))
 let p:Int:=(if 0>l then 0 else l:Int)
 cond (!(k==0)) (
 let r:=(w64 (Int.tdiv p k))
 (j7E c r b.1 b.2.1 b.2.2 a.1 a.2.1 a.2.2.1.1 a.2.2.1.2 a.2.2.2.1 a.2.2.2.2.1 a.2.2.2.2.2.1 a.2.2.2.2.2.2.1 a.2.2.2.2.2.2.2.1 a.2.2.2.2.2.2.2.2).bind fun t=>
 some t) none) (
 let g:=(w64 (j.1.1+2))
 let d:=(w64 (g-a.2.2.1.1))
 let f:Int:=(if 0>d then 0 else d:Int)
 cond (!(a.2.2.2.2.1==0)) (
 let i:=(w64 (Int.tdiv f a.2.2.2.2.1))
 (j7E c i b.1 b.2.1 b.2.2 a.1 a.2.1 a.2.2.1.1 a.2.2.1.2 a.2.2.2.1 a.2.2.2.2.1 a.2.2.2.2.2.1 a.2.2.2.2.2.2.1 a.2.2.2.2.2.2.2.1 a.2.2.2.2.2.2.2.2).bind fun n=>
 some n) none))
def jh1 [LP] (b:Tn52) (a:Tn59) (c:Int):Option (Int×Int):=
 (jgX (b.1,(b.2.1,b.2.2)) (a.1,(a.2.1,((a.2.2.1.1,a.2.2.1.2),(a.2.2.2.1,(a.2.2.2.2.1,(a.2.2.2.2.2.1,(a.2.2.2.2.2.2.1,(a.2.2.2.2.2.2.2.1,a.2.2.2.2.2.2.2.2))))))))).bind fun e=>
 cond (e != 0) (
 some (0,8)) (
 cond (cond (decide (c<0)) true (decide (c>8589934592))) (
 some (0,1)) (
 (jh0 (b.1,(b.2.1,b.2.2)) (a.1,(a.2.1,((a.2.2.1.1,a.2.2.1.2),(a.2.2.2.1,(a.2.2.2.2.1,(a.2.2.2.2.2.1,(a.2.2.2.2.2.2.1,(a.2.2.2.2.2.2.2.1,a.2.2.2.2.2.2.2.2)))))))) c).bind fun d=>
 some (d,0)))
def jhS (a:(Int×Int)):Option (Int):=
 (jfk a.1).bind fun c=>
 let b:=(w64 (c*86400))
 let d:=(w64 (b+a.2))
 some d
def jcl [LP] (a:Tn52) (c:Int):Option (Int×Int):=
 (j4g (a.1,(a.2.1,a.2.2)) c).bind fun b=>
 cond (b.2 != 0) (
 some (0,b.2)) (
 (jhS (b.1.1,b.1.2)).bind fun d=>
 some (d,0))
def j5r (b:Tn2) (d c:Int):Option ((Tn2×Int×Int) ⊕ (Bool ⊕ Unit)):=
 let g:=(Int.ofNat (List.length b))
 cond (decide (c<g)) (
 cond (inR c (List.length b)) (
 let a:=(List.getD b (Int.toNat c) (0,0))
 cond ((inR c (List.length b)) || !(decide (d≥a.1))) (
 let f:=(List.getD b (Int.toNat c) (0,0))
 cond (cond (decide (d≥a.1)) (decide (d<f.2)) false) (
 some (.inr (.inl true))) (
 let e:=(w64 (c+1))
 some (.inl (b,d,e)))) none) none) (
 some (.inr (.inr ())))
def j9v [LP] (a b c):=LP.lp (fun h=>j5r h.1 h.2.1 h.2.2) (a,b,c)
theorem jg8 (a b c):j9v a b c=lpK (j5r a b c) (fun h=>j9v h.1 h.2.1 h.2.2):=j04 _ _
def jhT [LP] (a:Tn2) (b:Int):Option (Bool):=
 (j9v a b 0).bind fun c=>
 sumC c (fun d=>
 some d) (fun e=>
 some false)
def jrJ [LP] (a:Tn52) (b:Tn2) (d:Int):Option (Bool):=
 (jcl (a.1,(a.2.1,a.2.2)) d).bind fun c=>
 cond (c.2==0) (
 (jeO b).bind fun e=>
 cond (e==0) (
 (jhT b c.1).bind fun f=>
 some f) (
 some false)) (
 some false)
def j6S (w:Int) (t:Bool) (b:Int) (v:ByteArray) (c g k f j:Int) (e:(List Int)) (l:Tn2) (i d:Int) (u:ByteArray) (n:Int) (a:(List Int)) (o m:Int):Option ((Int×Bool×Int×ByteArray×Int×Int×Int×Int×Int×(List Int)×Tn2×Int×Int×ByteArray×Int×(List Int)×Int×Int) ⊕ ((Int×Bool×ByteArray×Int×Int×Int×Int×Int×(List Int)×Tn2×Int×Int))):=
 let q:=(Int.ofNat (List.length a))
 cond (decide (b<q)) (
 cond t (
 let s:=(w64 (b+1))
 some (.inl (w,true,s,v,c,g,k,f,j,e,l,i,d,u,n,a,o,m))) (
 cond (inR b (List.length a)) (
 let r:=(List.getD a (Int.toNat b) 0)
 let p:=(w64 (b+1))
 some (.inl (w,(r==o),p,v,c,g,k,f,j,e,l,i,d,u,n,a,o,m))) none)) (
 some (.inr (w,t,v,c,g,k,f,j,e,l,i,d)))
def j8W [LP] (s n o r d i l g k f m j e q c a p b):=LP.lp (fun h=>j6S h.1 h.2.1 h.2.2.1 h.2.2.2.1 h.2.2.2.2.1 h.2.2.2.2.2.1 h.2.2.2.2.2.2.1 h.2.2.2.2.2.2.2.1 h.2.2.2.2.2.2.2.2.1 h.2.2.2.2.2.2.2.2.2.1 h.2.2.2.2.2.2.2.2.2.2.1 h.2.2.2.2.2.2.2.2.2.2.2.1 h.2.2.2.2.2.2.2.2.2.2.2.2.1 h.2.2.2.2.2.2.2.2.2.2.2.2.2.1 h.2.2.2.2.2.2.2.2.2.2.2.2.2.2.1 h.2.2.2.2.2.2.2.2.2.2.2.2.2.2.2.1 h.2.2.2.2.2.2.2.2.2.2.2.2.2.2.2.2.1 h.2.2.2.2.2.2.2.2.2.2.2.2.2.2.2.2.2) (s,n,o,r,d,i,l,g,k,f,m,j,e,q,c,a,p,b)
theorem jig (s n o r d i l g k f m j e q c a p b):j8W s n o r d i l g k f m j e q c a p b=lpK (j6S s n o r d i l g k f m j e q c a p b) (fun h=>j8W h.1 h.2.1 h.2.2.1 h.2.2.2.1 h.2.2.2.2.1 h.2.2.2.2.2.1 h.2.2.2.2.2.2.1 h.2.2.2.2.2.2.2.1 h.2.2.2.2.2.2.2.2.1 h.2.2.2.2.2.2.2.2.2.1 h.2.2.2.2.2.2.2.2.2.2.1 h.2.2.2.2.2.2.2.2.2.2.2.1 h.2.2.2.2.2.2.2.2.2.2.2.2.1 h.2.2.2.2.2.2.2.2.2.2.2.2.2.1 h.2.2.2.2.2.2.2.2.2.2.2.2.2.2.1 h.2.2.2.2.2.2.2.2.2.2.2.2.2.2.2.1 h.2.2.2.2.2.2.2.2.2.2.2.2.2.2.2.2.1 h.2.2.2.2.2.2.2.2.2.2.2.2.2.2.2.2.2):=j04 _ _
def jk0 [LP] (b:Tn71) (a:Tn59) (f:Int):Option (Int×Bool):=
 cond (inR a.2.1 (List.length b.1)) (
 let d:=(List.getD b.1 (Int.toNat a.2.1) (ByteArray.empty,(0,([]:Tn42))))
 (jh1 (d.1,(d.2.1,d.2.2)) (a.1,(a.2.1,((a.2.2.1.1,a.2.2.1.2),(a.2.2.2.1,(a.2.2.2.2.1,(a.2.2.2.2.2.1,(a.2.2.2.2.2.2.1,(a.2.2.2.2.2.2.2.1,a.2.2.2.2.2.2.2.2)))))))) f).bind fun e=>
 let n:=(Int.ofNat (List.length a.2.2.2.2.2.2.1))
 cond (cond (e.2 != 0) true (decide (e.1<0))) (
 cond ((!(decide (n>0))) || !(!true)) (
 some (0,false)) none) (
 cond (decide (n>0)) (
 (jrJ (d.1,(d.2.1,d.2.2)) a.2.2.2.2.2.2.1 f).bind fun p=>
 cond (!p) (
 some (0,false)) (
 cond (a.2.2.2.2.2.2.2.2==0) (
 some (e.1,true)) (
 cond (inR a.2.2.2.2.2.2.2.1 (List.length b.2.2.1)) (
 let i:=(List.getD b.2.2.1 (Int.toNat a.2.2.2.2.2.2.2.1) (ByteArray.empty,(0,([]:(List Int)))))
 cond (inR i.2.1 (List.length b.1)) (
 let l:=(List.getD b.1 (Int.toNat i.2.1) (ByteArray.empty,(0,([]:Tn42))))
 (j4g (l.1,(l.2.1,l.2.2)) f).bind fun m=>
 (j8W e.1 false 0 a.1 a.2.1 a.2.2.1.1 a.2.2.1.2 a.2.2.2.1 a.2.2.2.2.1 a.2.2.2.2.2.1 a.2.2.2.2.2.2.1 a.2.2.2.2.2.2.2.1 a.2.2.2.2.2.2.2.2 i.1 i.2.1 i.2.2 m.1.1 m.1.2).bind fun o=>
 some (o.1,(o.2.1==(o.2.2.2.2.2.2.2.2.2.2.2==2)))) none) none))) (
 cond (a.2.2.2.2.2.2.2.2==0) (
 some (e.1,true)) (
 cond (inR a.2.2.2.2.2.2.2.1 (List.length b.2.2.1)) (
 let c:=(List.getD b.2.2.1 (Int.toNat a.2.2.2.2.2.2.2.1) (ByteArray.empty,(0,([]:(List Int)))))
 cond (inR c.2.1 (List.length b.1)) (
 let g:=(List.getD b.1 (Int.toNat c.2.1) (ByteArray.empty,(0,([]:Tn42))))
 (j4g (g.1,(g.2.1,g.2.2)) f).bind fun k=>
 (j8W e.1 false 0 a.1 a.2.1 a.2.2.1.1 a.2.2.1.2 a.2.2.2.1 a.2.2.2.2.1 a.2.2.2.2.2.1 a.2.2.2.2.2.2.1 a.2.2.2.2.2.2.2.1 a.2.2.2.2.2.2.2.2 c.1 c.2.1 c.2.2 k.1.1 k.1.2).bind fun j=>
 some (j.1,(j.2.1==(j.2.2.2.2.2.2.2.2.2.2.2==2)))) none) none)))) none
def jnm [LP] (b:Tn71) (a:Tn59) (f:Int):Option (Int):=
 (jk0 (b.1,(b.2.1,(b.2.2.1,b.2.2.2))) (a.1,(a.2.1,((a.2.2.1.1,a.2.2.1.2),(a.2.2.2.1,(a.2.2.2.2.1,(a.2.2.2.2.2.1,(a.2.2.2.2.2.2.1,(a.2.2.2.2.2.2.2.1,a.2.2.2.2.2.2.2.2)))))))) f).bind fun d=>
 cond (!d.2) (
 some (-1)) (
 let c:=(Int.ofNat (List.length a.2.2.2.2.2.1))
 cond (!(c==0)) (
 let e:=(Int.tmod d.1 c)
 cond (inR e (List.length a.2.2.2.2.2.1)) (
 let g:=(List.getD a.2.2.2.2.2.1 (Int.toNat e) 0)
 some g) none) none)
def j6T (i f c:Int) (k:ByteArray) (g:Tn60) (b:Tn29):Option ((Int×Int×Int×ByteArray×Tn60×Tn29) ⊕ (Bool ⊕ Unit)):=
 let d:=(Int.ofNat (List.length b))
 cond (decide (c<d)) (
 cond (inR c (List.length b)) (
 let a:=(List.getD b (Int.toNat c) (0,(0,(0,(0,0)))))
 let j:Bool:=(cond (cond (a.1==0) (a.2.1==i) false) (decide (a.2.2.2.1≤f)) false)
 cond (cond j (decide (f<a.2.2.2.2)) false) (
 some (.inr (.inl true))) (
 let e:=(w64 (c+1))
 some (.inl (i,f,e,k,g,b)))) none) (
 some (.inr (.inr ())))
def jcL [LP] (c e d f a b):=LP.lp (fun h=>j6T h.1 h.2.1 h.2.2.1 h.2.2.2.1 h.2.2.2.2.1 h.2.2.2.2.2) (c,e,d,f,a,b)
theorem jih (c e d f a b):jcL c e d f a b=lpK (j6T c e d f a b) (fun h=>jcL h.1 h.2.1 h.2.2.1 h.2.2.2.1 h.2.2.2.2.1 h.2.2.2.2.2):=j04 _ _
def jmF [LP] (b:Tn64) (a c:Int):Option (Bool):=
 (jcL a c 0 b.1 b.2.1 b.2.2).bind fun d=>
 sumC d (fun e=>
 some e) (fun f=>
 some false)
def j7F [LP] (k i:Int) (n:Tn54) (e:Tn48) (f:Tn26) (g:Tn65) (o:ByteArray) (b:Tn60) (d:Tn29):Option ((Int×Int×Tn54×Tn48×Tn26×Tn65×ByteArray×Tn60×Tn29) ⊕ ((Int×Int) ⊕ Unit)):=
 cond (decide (i≥0)) (
 cond (inR i (List.length b)) (
 let a:=(List.getD b (Int.toNat i) (ByteArray.empty,(0,((0,0),(0,(0,(([]:(List Int)),(([]:Tn2),(0,0)))))))))
 (jnm (n,(e,(f,g))) (a.1,(a.2.1,((a.2.2.1.1,a.2.2.1.2),(a.2.2.2.1,(a.2.2.2.2.1,(a.2.2.2.2.2.1,(a.2.2.2.2.2.2.1,(a.2.2.2.2.2.2.2.1,a.2.2.2.2.2.2.2.2)))))))) k).bind fun c=>
 cond (decide (c≥0)) (
 (jmF (o,(b,d)) c k).bind fun m=>
 cond (!m) (
 some (.inr (.inl (i,c)))) (
 let j:=(w64 (i-1))
 some (.inl (k,j,n,e,f,g,o,b,d)))) (
 let l:=(w64 (i-1))
 some (.inl (k,l,n,e,f,g,o,b,d)))) none) (
 some (.inr (.inr ())))
def jeP [LP] (f g i c d e j b a):=LP.lp (fun h=>j7F h.1 h.2.1 h.2.2.1 h.2.2.2.1 h.2.2.2.2.1 h.2.2.2.2.2.1 h.2.2.2.2.2.2.1 h.2.2.2.2.2.2.2.1 h.2.2.2.2.2.2.2.2) (f,g,i,c,d,e,j,b,a)
theorem jk1 (f g i c d e j b a):jeP f g i c d e j b a=lpK (j7F f g i c d e j b a) (fun h=>jeP h.1 h.2.1 h.2.2.1 h.2.2.2.1 h.2.2.2.2.1 h.2.2.2.2.2.1 h.2.2.2.2.2.2.1 h.2.2.2.2.2.2.2.1 h.2.2.2.2.2.2.2.2):=j04 _ _
def jq2 [LP] (b:Tn71) (a d:Int):Option (Int×Int):=
 cond (inR a (List.length b.2.2.2)) (
 let c:=(List.getD b.2.2.2 (Int.toNat a) (ByteArray.empty,(([]:Tn60),([]:Tn29))))
 let f:=(Int.ofNat (List.length c.2.1))
 let e:=(w64 (f-1))
 (jeP d e b.1 b.2.1 b.2.2.1 b.2.2.2 c.1 c.2.1 c.2.2).bind fun g=>
 sumC g (fun i=>
 some (i.1,i.2)) (fun j=>
 some ((-1),(-1)))) none
def j6U (b:Tn29) (e d c:Int):Option ((Tn29×Int×Int×Int) ⊕ (Int)):=
 let i:=(Int.ofNat (List.length b))
 cond (decide (c<i)) (
 cond (inR c (List.length b)) (
 let a:=(List.getD b (Int.toNat c) (0,(0,(0,(0,0)))))
 cond (cond (decide (d<a.2.2.2.1)) true (decide (d≥a.2.2.2.2))) (
 let l:=(w64 (c+1))
 some (.inl (b,e,d,l))) (
 cond (a.1==1) (
 let j:=(w64 (c+1))
 some (.inl (b,a.2.1,d,j))) (
 cond (cond (a.1==2) (e==a.2.1) false) (
 let k:=(w64 (c+1))
 some (.inl (b,a.2.2.1,d,k))) (
 cond (cond (a.1==2) (e==a.2.2.1) false) (
 let g:=(w64 (c+1))
 some (.inl (b,a.2.1,d,g))) (
 let f:=(w64 (c+1))
 some (.inl (b,e,d,f))))))) none) (
 some (.inr e))
def jcM [LP] (a b d c):=LP.lp (fun h=>j6U h.1 h.2.1 h.2.2.1 h.2.2.2) (a,b,d,c)
theorem jii (a b d c):jcM a b d c=lpK (j6U a b d c) (fun h=>jcM h.1 h.2.1 h.2.2.1 h.2.2.2):=j04 _ _
def jq3 [LP] (c:Tn29) (a b:Int):Option (Int):=
 (jcM c a b 0).bind fun d=>
 some d
def jtk [LP] (b:Tn71) (a c:Int):Option (Int):=
 (jq2 (b.1,(b.2.1,(b.2.2.1,b.2.2.2))) a c).bind fun e=>
 cond (inR a (List.length b.2.2.2)) (
 let f:=(List.getD b.2.2.2 (Int.toNat a) (ByteArray.empty,(([]:Tn60),([]:Tn29))))
 (jq3 f.2.2 e.2 c).bind fun d=>
 some d) none
def jtl [LP] (a:Tn71) (b c:Int):Option (Int):=
 (jxH (a.1,(a.2.1,(a.2.2.1,a.2.2.2))) b c).bind fun e=>
 cond (!e) (
 some (-1)) (
 (jtk (a.1,(a.2.1,(a.2.2.1,a.2.2.2))) b c).bind fun d=>
 some d)
def jnn [LP] (b:Tn71) (a c:Int):Option (Int):=
 (jtl (b.1,(b.2.1,(b.2.2.1,b.2.2.2))) a c).bind fun d=>
 some d
def jq4 (b:Tn71) (a:Int) (d:Tn29):Option (Tn71):=
 cond (decide (List.length ([]:Tn65)+List.length b.2.2.2≤j07)) (
 let c:Tn65:=(([]:Tn65)++b.2.2.2)
 cond (inR a (List.length c)) (
 let e:Tn65:=(List.set c (Int.toNat a) ((List.getD c (Int.toNat a) (ByteArray.empty,(([]:Tn60),([]:Tn29)))).1,((List.getD c (Int.toNat a) (ByteArray.empty,(([]:Tn60),([]:Tn29)))).2.1,d)))
 some (b.1,(b.2.1,(b.2.2.1,e)))) none) none
def jh2 [LP] (b:Tn71) (a:Int) (d:Tn24):Option (Tn71×Int):=
 (jb7 (b.1,(b.2.1,(b.2.2.1,b.2.2.2)))).bind fun k=>
 cond (k != 0) (
 some ((([]:Tn54),(([]:Tn48),(([]:Tn26),([]:Tn65)))),8)) (
 let j:=(Int.ofNat (List.length b.2.2.2))
 cond (cond (decide (a<0)) true (decide (a≥j))) (
 some ((([]:Tn54),(([]:Tn48),(([]:Tn26),([]:Tn65)))),3)) (
 cond (inR a (List.length b.2.2.2)) (
 let g:=(List.getD b.2.2.2 (Int.toNat a) (ByteArray.empty,(([]:Tn60),([]:Tn29))))
 cond (decide (List.length ([]:Tn29)+List.length g.2.2≤j07)) (
 let e:Tn29:=(([]:Tn29)++g.2.2)
 let f:Tn29:=[(d.1,(d.2.1,(d.2.2.1,(d.2.2.2.1,d.2.2.2.2))))]
 cond (decide (List.length e+List.length f≤j07)) (
 let l:Tn29:=(e++f)
 (jq4 (b.1,(b.2.1,(b.2.2.1,b.2.2.2))) a l).bind fun c=>
 (jb7 (c.1,(c.2.1,(c.2.2.1,c.2.2.2)))).bind fun i=>
 cond (i != 0) (
 some ((([]:Tn54),(([]:Tn48),(([]:Tn26),([]:Tn65)))),i)) (
 some ((c.1,(c.2.1,(c.2.2.1,c.2.2.2))),0))) none) none) none))
def j9w [LP] (e:(List Int)) (j:Int):Option (Bool):=
 (jl5 e).bind fun l=>
 cond (!l) (
 (jak).bind fun k=>
 some k) (
 (jnj e).bind fun g=>
 (j8M g.1 g.2 1).bind fun a=>
 (j65 a.2.1 a.2.2).bind fun b=>
 let c:=(w64 (b.1+604800))
 (j2M (a.1.1,(a.1.2.1,(a.1.2.2.1,a.1.2.2.2))) 0 b.1 c).bind fun f=>
 let r:=(w64 (c-b.1))
 (jmD j r).bind fun q=>
 let i:=(w64 (b.1+q))
 cond (f.2 != 0) (
 some false) (
 (jpZ f.1 i).bind fun s=>
 (jnn (a.1.1,(a.1.2.1,(a.1.2.2.1,a.1.2.2.2))) 0 i).bind fun n=>
 cond (!(s==(decide (n<0)))) (
 some false) (
 (j24 (a.1.1,(a.1.2.1,(a.1.2.2.1,a.1.2.2.2))) 0 b.1 c).bind fun m=>
 let t:=(Int.ofNat (List.length f.1))
 cond (!(m==(t==0))) (
 some false) (
 (jh2 (a.1.1,(a.1.2.1,(a.1.2.2.1,a.1.2.2.2))) 0 (1,(0,(0,(b.1,c))))).bind fun d=>
 cond (d.2==0) (
 (j24 (d.1.1,(d.1.2.1,(d.1.2.2.1,d.1.2.2.2))) 0 b.1 c).bind fun o=>
 cond o (
 (jak).bind fun p=>
 some p) (
 some false)) (
 some false)))))
def j3O (a:(Int×Int)):Option (Int):=
 (j6n a.1).bind fun d=>
 let c:=(w64 (d*86400))
 let b:=(w64 (c+a.2))
 some b
def j6V (d:Int) (e:Tn2) (f b:Int):Option ((Int×Tn2×Int×Int) ⊕ (Bool ⊕ Unit)):=
 cond (decide (b<f)) (
 cond (inR b (List.length e)) (
 let a:=(List.getD e (Int.toNat b) (0,0))
 cond (cond (decide (a.1≤d)) (decide (d<a.2)) false) (
 some (.inr (.inl true))) (
 let c:=(w64 (b+1))
 some (.inl (d,e,f,c)))) none) (
 some (.inr (.inr ())))
def jfn [LP] (a b c d):=LP.lp (fun h=>j6V h.1 h.2.1 h.2.2.1 h.2.2.2) (a,b,c,d)
theorem jij (a b c d):jfn a b c d=lpK (j6V a b c d) (fun h=>jfn h.1 h.2.1 h.2.2.1 h.2.2.2):=j04 _ _
def jmG [LP] (a:Tn2) (b:Int):Option (Bool):=
 let c:=(Int.ofNat (List.length a))
 (jfn b a c 0).bind fun d=>
 sumC d (fun e=>
 some e) (fun f=>
 some false)
def j7G [LP] (b:Tn73) (a:Tn59) (c:Int):Option (Int×Bool):=
 cond (cond (decide (c<0)) true (decide (c>8589934592))) (
 some (0,false)) (
 cond (inR a.2.1 (List.length b.2)) (
 let f:=(List.getD b.2 (Int.toNat a.2.1) (0,([]:Tn2)))
 (j1Z (f.1,f.2) (a.1,(a.2.1,((a.2.2.1.1,a.2.2.1.2),(a.2.2.2.1,(a.2.2.2.2.1,(a.2.2.2.2.2.1,(a.2.2.2.2.2.2.1,(a.2.2.2.2.2.2.2.1,a.2.2.2.2.2.2.2.2)))))))) c).bind fun e=>
 cond (decide (e<0)) (
 some (0,false)) (
 let o:=(Int.ofNat (List.length a.2.2.2.2.2.2.1))
 cond (decide (o>0)) (
 (j0r (f.1,f.2) c).bind fun l=>
 (j3O (l.1,l.2)).bind fun q=>
 (jmG a.2.2.2.2.2.2.1 q).bind fun p=>
 cond (!p) (
 some (0,false)) (
 cond (a.2.2.2.2.2.2.2.2==0) (
 some (e,true)) (
 cond (inR a.2.2.2.2.2.2.2.1 (List.length b.1.2.2.1)) (
 let i:=(List.getD b.1.2.2.1 (Int.toNat a.2.2.2.2.2.2.2.1) (ByteArray.empty,(0,([]:(List Int)))))
 cond (inR i.2.1 (List.length b.2)) (
 let m:=(List.getD b.2 (Int.toNat i.2.1) (0,([]:Tn2)))
 (j0r (m.1,m.2) c).bind fun r=>
 (j0i i.2.2 r.1).bind fun n=>
 some (e,(n.2==(a.2.2.2.2.2.2.2.2==2)))) none) none))) (
 cond (a.2.2.2.2.2.2.2.2==0) (
 some (e,true)) (
 cond (inR a.2.2.2.2.2.2.2.1 (List.length b.1.2.2.1)) (
 let d:=(List.getD b.1.2.2.1 (Int.toNat a.2.2.2.2.2.2.2.1) (ByteArray.empty,(0,([]:(List Int)))))
 cond (inR d.2.1 (List.length b.2)) (
 let g:=(List.getD b.2 (Int.toNat d.2.1) (0,([]:Tn2)))
 (j0r (g.1,g.2) c).bind fun j=>
 (j0i d.2.2 j.1).bind fun k=>
 some (e,(k.2==(a.2.2.2.2.2.2.2.2==2)))) none) none)))) none)
def j4h [LP] (b:Tn73) (a:Tn59) (f:Int):Option (Int):=
 (j7G ((b.1.1,(b.1.2.1,(b.1.2.2.1,b.1.2.2.2))),b.2) (a.1,(a.2.1,((a.2.2.1.1,a.2.2.1.2),(a.2.2.2.1,(a.2.2.2.2.1,(a.2.2.2.2.2.1,(a.2.2.2.2.2.2.1,(a.2.2.2.2.2.2.2.1,a.2.2.2.2.2.2.2.2)))))))) f).bind fun d=>
 cond (!d.2) (
 some (-1)) (
 let c:=(Int.ofNat (List.length a.2.2.2.2.2.1))
 cond (!(c==0)) (
 let e:=(Int.tmod d.1 c)
 cond (inR e (List.length a.2.2.2.2.2.1)) (
 let g:=(List.getD a.2.2.2.2.2.1 (Int.toNat e) 0)
 some g) none) none)
def jfo (a:Tn24) (d b:Int):Option (Bool):=
 let c:Bool:=(cond (cond (a.1==0) (a.2.1==d) false) (decide (a.2.2.2.1≤b)) false)
 some (cond c (decide (b<a.2.2.2.2)) false)
def j0O (f:Tn29) (g b i c:Int):Option ((Tn29×Int×Int×Int×Int) ⊕ (Int ⊕ Unit)):=
 cond (decide (c<i)) (
 cond (inR c (List.length f)) (
 let a:=(List.getD f (Int.toNat c) (0,(0,(0,(0,0)))))
 (jfo (a.1,(a.2.1,(a.2.2.1,(a.2.2.2.1,a.2.2.2.2)))) g b).bind fun e=>
 cond e (
 some (.inr (.inl c))) (
 let d:=(w64 (c+1))
 some (.inl (f,g,b,i,d)))) none) (
 some (.inr (.inr ())))
def j13 [LP] (b c a d e):=LP.lp (fun h=>j0O h.1 h.2.1 h.2.2.1 h.2.2.2.1 h.2.2.2.2) (b,c,a,d,e)
theorem j3M (b c a d e):j13 b c a d e=lpK (j0O b c a d e) (fun h=>j13 h.1 h.2.1 h.2.2.1 h.2.2.2.1 h.2.2.2.2):=j04 _ _
def j37 [LP] (b:Tn29) (c a:Int):Option (Int):=
 let d:=(Int.ofNat (List.length b))
 (j13 b c a d 0).bind fun e=>
 sumC e (fun f=>
 some f) (fun g=>
 some (-1))
def j2E [LP] (c:Tn29) (b a:Int):Option (Bool):=
 (j37 c b a).bind fun d=>
 some (decide (d≥0))
def jhU [LP] (c:Tn64) (a b:Int):Option (Bool):=
 (j2E c.2.2 a b).bind fun d=>
 some d
def j41 [LP] (l:Int) (k:Tn60) (q:Tn54) (e:Tn48) (g:Tn26) (i:Tn65) (f:Tn20) (r:ByteArray) (c:Tn60) (d:Tn29) (m p o:Int):Option ((Int×Tn60×Tn54×Tn48×Tn26×Tn65×Tn20×ByteArray×Tn60×Tn29×Int×Int×Int) ⊕ ((Int×Int) ⊕ (Int×Int))):=
 cond (decide (l≤0)) (
 some (.inr (.inl (p,o)))) (
 cond (decide (l≤Int.ofNat (List.length k))) (
 let j:Int:=(l-1)
 let a:=(List.getD k (Int.toNat j) (ByteArray.empty,(0,((0,0),(0,(0,(([]:(List Int)),(([]:Tn2),(0,0)))))))))
 (j4h ((q,(e,(g,i))),f) (a.1,(a.2.1,((a.2.2.1.1,a.2.2.1.2),(a.2.2.2.1,(a.2.2.2.2.1,(a.2.2.2.2.2.1,(a.2.2.2.2.2.2.1,(a.2.2.2.2.2.2.2.1,a.2.2.2.2.2.2.2.2)))))))) m).bind fun b=>
 cond (decide (b<0)) (
 some (.inl ((l-1),k,q,e,g,i,f,r,c,d,m,p,o))) (
 (jhU (r,(c,d)) b m).bind fun n=>
 cond (!n) (
 some (.inr (.inr (j,b)))) (
 some (.inl ((l-1),k,q,e,g,i,f,r,c,d,m,p,o))))) none)
def j8N [LP] (i g m c e f d n a b j l k):=LP.lp (fun h=>j41 h.1 h.2.1 h.2.2.1 h.2.2.2.1 h.2.2.2.2.1 h.2.2.2.2.2.1 h.2.2.2.2.2.2.1 h.2.2.2.2.2.2.2.1 h.2.2.2.2.2.2.2.2.1 h.2.2.2.2.2.2.2.2.2.1 h.2.2.2.2.2.2.2.2.2.2.1 h.2.2.2.2.2.2.2.2.2.2.2.1 h.2.2.2.2.2.2.2.2.2.2.2.2) (i,g,m,c,e,f,d,n,a,b,j,l,k)
theorem jcN (i g m c e f d n a b j l k):j8N i g m c e f d n a b j l k=lpK (j41 i g m c e f d n a b j l k) (fun h=>j8N h.1 h.2.1 h.2.2.1 h.2.2.2.1 h.2.2.2.2.1 h.2.2.2.2.2.1 h.2.2.2.2.2.2.1 h.2.2.2.2.2.2.2.1 h.2.2.2.2.2.2.2.2.1 h.2.2.2.2.2.2.2.2.2.1 h.2.2.2.2.2.2.2.2.2.2.1 h.2.2.2.2.2.2.2.2.2.2.2.1 h.2.2.2.2.2.2.2.2.2.2.2.2):=j04 _ _
def jk2 [LP] (a:Tn73) (b:Tn64) (d:Int):Option (Int×Int):=
 (j1Y b.2.1).bind fun c=>
 (j8N (Int.ofNat (List.length c)) c a.1.1 a.1.2.1 a.1.2.2.1 a.1.2.2.2 a.2 b.1 b.2.1 b.2.2 d 0 0).bind fun e=>
 sumC e (fun g=>
 some ((-1),(-1))) (fun f=>
 some (f.1,f.2))
def jph [LP] (a:Tn73) (c:Tn64) (b:Int):Option (Int):=
 cond (cond (decide (b<0)) true (decide (b>8589934592))) (
 some (-1)) (
 (jk2 ((a.1.1,(a.1.2.1,(a.1.2.2.1,a.1.2.2.2))),a.2) (c.1,(c.2.1,c.2.2)) b).bind fun e=>
 (jaQ c.2.2 e.2 b).bind fun d=>
 some d)
def juU [LP] (b:Tn71) (a e:Int):Option (Int):=
 (jfh (b.1,(b.2.1,(b.2.2.1,b.2.2.2)))).bind fun c=>
 cond (!c.2) (
 some (-1)) (
 (jcw (b.1,(b.2.1,(b.2.2.1,b.2.2.2))) a).bind fun f=>
 cond (!f) (
 some (-1)) (
 cond (inR a (List.length b.2.2.2)) (
 let d:=(List.getD b.2.2.2 (Int.toNat a) (ByteArray.empty,(([]:Tn60),([]:Tn29))))
 (jph ((c.1.1.1,(c.1.1.2.1,(c.1.1.2.2.1,c.1.1.2.2.2))),c.1.2) (d.1,(d.2.1,d.2.2)) e).bind fun g=>
 some g) none))
def jvR [LP] (b:Tn71) (a c:Int):Option (Int):=
 (juU (b.1,(b.2.1,(b.2.2.1,b.2.2.2))) a c).bind fun d=>
 some d
end
end Go.Proofs.Pw
