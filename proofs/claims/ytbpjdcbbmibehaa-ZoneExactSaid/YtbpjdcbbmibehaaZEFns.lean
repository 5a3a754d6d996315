/- Plain uA, printed by a program out of the given code. -/
import Derived.Test.YtbpjdcbbmibehaaZELD
open Go Go.Lft
set_option linter.unusedVariables false
namespace Go.Proofs.Pw
noncomputable section
abbrev af:Type:=(List (Int×Int))
abbrev uB:Type:=(Int×(Int×Int))
abbrev ib:Type:=(List uB)
abbrev mB:Type:=(Int×af)
abbrev sR:Type:=(Int×(Int×(Int×(Int×uB))))
abbrev au:Type:=(List sR)
abbrev cf:Type:=(ByteArray×(Int×au))
abbrev eb:Type:=(List cf)
abbrev unc2{A0 A1 R:Type}(f:A0->A1->R)(h:A0×A1):R:=f h.1 h.2
abbrev unc3{A0 A1 A2 R:Type}(f:A0->A1->A2->R)(h:A0×A1×A2):R:=f h.1 h.2.1 h.2.2
abbrev unc4{A0 A1 A2 A3 R:Type}(f:A0->A1->A2->A3->R)(h:A0×A1×A2×A3):R:=f h.1 h.2.1 h.2.2.1 h.2.2.2
abbrev unc5{A0 A1 A2 A3 A4 R:Type}(f:A0->A1->A2->A3->A4->R)(h:A0×A1×A2×A3×A4):R:=f h.1 h.2.1 h.2.2.1 h.2.2.2.1 h.2.2.2.2
abbrev unc6{A0 A1 A2 A3 A4 A5 R:Type}(f:A0->A1->A2->A3->A4->A5->R)(h:A0×A1×A2×A3×A4×A5):R:=f h.1 h.2.1 h.2.2.1 h.2.2.2.1 h.2.2.2.2.1 h.2.2.2.2.2
abbrev unc7{A0 A1 A2 A3 A4 A5 A6 R:Type}(f:A0->A1->A2->A3->A4->A5->A6->R)(h:A0×A1×A2×A3×A4×A5×A6):R:=f h.1 h.2.1 h.2.2.1 h.2.2.2.1 h.2.2.2.2.1 h.2.2.2.2.2.1 h.2.2.2.2.2.2
abbrev unc8{A0 A1 A2 A3 A4 A5 A6 A7 R:Type}(f:A0->A1->A2->A3->A4->A5->A6->A7->R)(h:A0×A1×A2×A3×A4×A5×A6×A7):R:=f h.1 h.2.1 h.2.2.1 h.2.2.2.1 h.2.2.2.2.1 h.2.2.2.2.2.1 h.2.2.2.2.2.2.1 h.2.2.2.2.2.2.2
abbrev unc9{A0 A1 A2 A3 A4 A5 A6 A7 A8 R:Type}(f:A0->A1->A2->A3->A4->A5->A6->A7->A8->R)(h:A0×A1×A2×A3×A4×A5×A6×A7×A8):R:=f h.1 h.2.1 h.2.2.1 h.2.2.2.1 h.2.2.2.2.1 h.2.2.2.2.2.1 h.2.2.2.2.2.2.1 h.2.2.2.2.2.2.2.1 h.2.2.2.2.2.2.2.2
abbrev jmS{A0 A1 A2 A3 A4 A5 A6 A7 A8 A9 R:Type}(f:A0->A1->A2->A3->A4->A5->A6->A7->A8->A9->R)(h:A0×A1×A2×A3×A4×A5×A6×A7×A8×A9):R:=f h.1 h.2.1 h.2.2.1 h.2.2.2.1 h.2.2.2.2.1 h.2.2.2.2.2.1 h.2.2.2.2.2.2.1 h.2.2.2.2.2.2.2.1 h.2.2.2.2.2.2.2.2.1 h.2.2.2.2.2.2.2.2.2
abbrev jkV{A0 A1 A2 A3 A4 A5 A6 A7 A8 A9 Jp Jq R:Type}(f:A0->A1->A2->A3->A4->A5->A6->A7->A8->A9->Jp->Jq->R)(h:A0×A1×A2×A3×A4×A5×A6×A7×A8×A9×Jp×Jq):R:=f h.1 h.2.1 h.2.2.1 h.2.2.2.1 h.2.2.2.2.1 h.2.2.2.2.2.1 h.2.2.2.2.2.2.1 h.2.2.2.2.2.2.2.1 h.2.2.2.2.2.2.2.2.1 h.2.2.2.2.2.2.2.2.2.1 h.2.2.2.2.2.2.2.2.2.2.1 h.2.2.2.2.2.2.2.2.2.2.2
def j5y  : Option (cf):=
 let a:au:=[(2020,(2030,(3,(5,(6,(7200,7200)))))),(2020,(2030,(10,(5,(6,(10800,3600))))))]
 some (ByteArray.empty,(3600,a))
def j3m(a c b:Int):Option (Bool):=
 some (cond (decide (a>=c)) (decide (a<=b)) false)
def j58(a:sR):Option (Int):=
 (j3m a.1 1970 2240).bind λi=>
 cond (!i) (
 some 1) (
 (j3m a.2.1 a.1 2240).bind λc=>
 cond (!c) (
 some 1) (
 (j3m a.2.2.1 1 12).bind λd=>
 cond (!d) (
 some 1) (
 (j3m a.2.2.2.1 1 5).bind λb=>
 cond (!b) (
 some 1) (
 (j3m a.2.2.2.2.1 0 6).bind λf=>
 cond (!f) (
 some 1) (
 (j3m a.2.2.2.2.2.1 0 86399).bind λg=>
 cond (!g) (
 some 1) (
 (j3m a.2.2.2.2.2.2 (-64800) 64800).bind λe=>
 cond (!e) (
 some 1) (
 some 0)))))))
def ja1(a:Int):Option (Bool):=
 let c:=(Int.tmod a 4)
 let d:=(Int.tmod a 100)
 let b:=(Int.tmod a 400)
 some (cond (c==0) (cond (d != 0) true (b==0)) false)
def j4O(c a:Int):Option (Int):=
 cond (cond (decide (a<1)) true (decide (a>12))) (
 some 0) (
 let e:(List Int):=[31,28,31,30,31,30,31,31,30,31,30,31]
 let j:(List Int):=(List.replicate 12 0)
 cond (a==2) (
 (ja1 c).bind λi=>
 cond i (
 some 29) (
 let f:=(w64 (a-1))
 cond (inR f 12) (
 let g:=(List.getD e (Int.toNat f) 0)
 some g) none)) (
 let b:=(w64 (a-1))
 cond (inR b 12) (
 let d:=(List.getD e (Int.toNat b) 0)
 some d) none))
def j5I(a:uB):Option (Bool):=
 cond (decide (a.1>=1970)) (
 cond (decide (a.1<=2240)) (
 cond (decide (a.2.2>=1)) (
 (j4O a.1 a.2.1).bind λb=>
 some (decide (a.2.2<=b))) (
 some false)) (
 some false)) (
 some false)
def j4P(b a:Int):Option (Int):=
 cond (!(a==0)) (
 let c:=(w64 (Int.tdiv b a))
 cond (!(a==0)) (
 let d:=(Int.tmod b a)
 cond (decide (d<0)) (
 let e:=(w64 (c-1))
 some e) (
 some c)) none) none
def j7a(a:Int):Option (Int):=
 let b:=(w64 (a-1))
 let l:=(w64 (a-1970))
 let k:=(w64 (365*l))
 (j4P b 4).bind λf=>
 let g:=(w64 (k+f))
 (j4P b 100).bind λi=>
 let j:=(w64 (g-i))
 (j4P b 400).bind λe=>
 let c:=(w64 (j+e))
 let d:=(w64 (c-477))
 some d
def j29(i e g a f:Int):Option ((Int×Int×Int×Int×Int) ⊕ (Int)):=
 cond (decide (e<a)) (
 (j4O g e).bind λb=>
 let c:=(w64 (i+b))
 let d:=(w64 (e+1))
 some (.inl (c,d,g,a,f))) (
 some (.inr i))
def uC[LP](e d c b a:Int):Option (Int):=
 LP.lp (unc5 (j29)) (e,d,c,b,a)
theorem Jr(e d c b a):uC e d c b a=lpK (j29 e d c b a) (λh=>uC h.1 h.2.1 h.2.2.1 h.2.2.2.1 h.2.2.2.2):=di _ _
def j3A[LP](a:uB):Option (Int):=
 (j7a a.1).bind λe=>
 let b:=(w64 (e+a.2.2))
 let c:=(w64 (b-1))
 (uC c 1 a.1 a.2.1 a.2.2).bind λd=>
 some d
def j3P(a:Int):Option (Int):=
 let b:=(Int.tmod a 7)
 let c:=(w64 (b+10))
 let d:=(Int.tmod c 7)
 some d
def j5J[LP](c b d a:Int):Option (Int×Int):=
 (j5I (c,(b,1))).bind λi=>
 let t:Bool:=(cond (cond (!i) true (decide (d<1))) true (decide (d>5)))
 let k:Bool:=(cond (cond t true (decide (a<0))) true (decide (a>6)))
 cond k (
 some (0,1)) (
 (j3A (c,(b,1))).bind λe=>
 (j3P e).bind λm=>
 let r:=(w64 (a-m))
 let j:=(w64 (r+7))
 let p:=(Int.tmod j 7)
 let n:=(w64 (e+p))
 let g:=(w64 (d-1))
 let l:=(w64 (7*g))
 let f:=(w64 (n+l))
 (j4O c b).bind λs=>
 let q:=(w64 (e+s))
 cond (decide (f>=q)) (
 let o:=(w64 (f-7))
 some (o,0)) (
 some (f,0)))
def j1e(a b:(Int×Int)):Option (Int):=
 let c:=(w64 (a.1-b.1))
 some c
def j0f(m q p b:Int)(a:af):Option ((Int×Int×Int×Int×af) ⊕ ((Int×Int×Int×af))):=
 cond (decide (b>m)) (
 cond (inR b (List.length a)) (
 let g:=(List.getD a (Int.toNat b) (0,0))
 let k:=(w64 (b-1))
 cond (inR k (List.length a)) (
 let d:=(List.getD a (Int.toNat k) (0,0))
 (j1e (g.1,g.2) (d.1,d.2)).bind λn=>
 cond (decide (n<0)) (
 let f:=(w64 (b-1))
 let c:=(w64 (b-1))
 cond (inR c (List.length a)) (
 let i:=(List.getD a (Int.toNat c) (0,0))
 cond (inR b (List.length a)) (
 let e:=(List.getD a (Int.toNat b) (0,0))
 cond (inR b (List.length a)) (
 let j:af:=(List.set a (Int.toNat b) (i.1,i.2))
 cond (inR f (List.length j)) (
 let o:af:=(List.set j (Int.toNat f) (e.1,e.2))
 let l:=(w64 (b-1))
 some (.inl (m,q,p,l,o))) none) none) none) none) (
 some (.inr (m,q,p,a)))) none) none) (
 some (.inr (m,q,p,a)))
def sS[LP](b e d c:Int)(a:af):Option ((Int×Int×Int×af)):=
 LP.lp (unc5 (j0f)) (b,e,d,c,a)
theorem zX(b e d c a):sS b e d c a=lpK (j0f b e d c a) (λh=>sS h.1 h.2.1 h.2.2.1 h.2.2.2.1 h.2.2.2.2):=di _ _
def j02[LP](f e c:Int)(d:af):Option ((Int×Int×Int×af) ⊕ (af)):=
 cond (decide (c<e)) (
 (sS f e c c d).bind λa=>
 let b:=(w64 (a.2.2.1+1))
 some (.inl (a.1,a.2.1,b,a.2.2.2))) (
 some (.inr d))
def sT[LP](d b c:Int)(a:af):Option (af):=
 LP.lp (unc4 (j02)) (d,b,c,a)
theorem uD(b c d a):sT b c d a=lpK (j02 b c d a) (λh=>sT h.1 h.2.1 h.2.2.1 h.2.2.2):=di _ _
def j05[LP](a:af)(b c:Int):Option (af):=
 let d:=(w64 (b+1))
 (sT b c d a).bind λe=>
 some e
def j0z(m n o a:Int)(b:af):Option ((Int×Int×Int×Int×af) ⊕ (af)):=
 cond (decide (a<o)) (
 let i:=(w64 (m+a))
 let g:=(w64 (n+a))
 let c:=(w64 (n+a))
 cond (inR c (List.length b)) (
 let j:=(List.getD b (Int.toNat c) (0,0))
 let f:=(w64 (m+a))
 cond (inR f (List.length b)) (
 let e:=(List.getD b (Int.toNat f) (0,0))
 cond (inR i (List.length b)) (
 let d:af:=(List.set b (Int.toNat i) (j.1,j.2))
 cond (inR g (List.length d)) (
 let k:af:=(List.set d (Int.toNat g) (e.1,e.2))
 let l:=(w64 (a+1))
 some (.inl (m,n,o,l,k))) none) none) none) none) (
 some (.inr b))
def sU[LP](c e d a:Int)(b:af):Option (af):=
 LP.lp (unc5 (j0z)) (c,e,d,a,b)
theorem Js(c e d a b):sU c e d a b=lpK (j0z c e d a b) (λh=>sU h.1 h.2.1 h.2.2.1 h.2.2.2.1 h.2.2.2.2):=di _ _
def j0e[LP](a:af)(b d c:Int):Option (af):=
 (sU b d c 0 a).bind λe=>
 some e
def j0n[LP](c a b:Int)(m:af):Option ((Int×Int×Int×af) ⊕ ((Int×Int×af))):=
 cond (a != b) (
 cond (decide (a>b)) (
 let e:=(w64 (c-a))
 (j0e m e c b).bind λi=>
 let d:=(w64 (a-b))
 some (.inl (c,d,b,i))) (
 let l:=(w64 (c-a))
 let g:=(w64 (c+b))
 let k:=(w64 (g-a))
 (j0e m l k a).bind λj=>
 let f:=(w64 (b-a))
 some (.inl (c,a,f,j)))) (
 some (.inr (c,a,m)))
def uE[LP](d b a:Int)(c:af):Option ((Int×Int×af)):=
 LP.lp (unc4 (j0n)) (d,b,a,c)
theorem QK(d a b c):uE d a b c=lpK (j0n d a b c) (λh=>uE h.1 h.2.1 h.2.2.1 h.2.2.2):=di _ _
def j0m[LP](b:af)(d a e:Int):Option (af):=
 let j:=(w64 (a-d))
 let f:=(w64 (e-a))
 (uE a j f b).bind λc=>
 let i:=(w64 (c.1-c.2.1))
 (j0e c.2.2 i c.1 c.2.1).bind λg=>
 some g
def j0D(n:af->Int->Int->Int->Option (af))(f c g:Int)(a:af):Option ((Int×Int×Int×af) ⊕ ((Int×Int×af))):=
 cond (decide (c<g)) (
 let i:=(w64 (c+g))
 let l:Int:=(IntKind.wrap .u64 i)
 let m:Int:=(Int.fdiv l 2)
 let e:=(w64 m)
 cond (inR e (List.length a)) (
 let b:=(List.getD a (Int.toNat e) (0,0))
 cond (inR f (List.length a)) (
 let d:=(List.getD a (Int.toNat f) (0,0))
 (j1e (b.1,b.2) (d.1,d.2)).bind λk=>
 cond (decide (k<0)) (
 let j:=(w64 (e+1))
 some (.inl (f,j,g,a))) (
 some (.inl (f,c,e,a)))) none) none) (
 some (.inr (f,c,a)))
def oT[LP](a:af->Int->Int->Int->Option (af))(e b c:Int)(d:af):Option ((Int×Int×af)):=
 LP.lp (unc4 (j0D a)) (e,b,c,d)
theorem Jt(a e b c d):oT a e b c d=lpK (j0D a e b c d) (λh=>oT a h.1 h.2.1 h.2.2.1 h.2.2.2):=di _ _
def j0E(m:af->Int->Int->Int->Option (af))(l a:Int)(b:af):Option ((Int×Int×af) ⊕ (af)):=
 let j:=(w64 (l-1))
 cond (decide (a<j)) (
 let c:=(w64 (a+1))
 let f:=(w64 (a+1))
 cond (inR f (List.length b)) (
 let d:=(List.getD b (Int.toNat f) (0,0))
 cond (inR a (List.length b)) (
 let e:=(List.getD b (Int.toNat a) (0,0))
 cond (inR a (List.length b)) (
 let g:af:=(List.set b (Int.toNat a) (d.1,d.2))
 cond (inR c (List.length g)) (
 let k:af:=(List.set g (Int.toNat c) (e.1,e.2))
 let i:=(w64 (a+1))
 some (.inl (l,i,k))) none) none) none) none) (
 some (.inr b))
def qR[LP](a:af->Int->Int->Int->Option (af))(b c:Int)(d:af):Option (af):=
 LP.lp (unc3 (j0E a)) (b,c,d)
theorem Ju(a b c d):qR a b c d=lpK (j0E a b c d) (λh=>qR a h.1 h.2.1 h.2.2):=di _ _
def j0F(n:af->Int->Int->Int->Option (af))(i d j:Int)(b:af):Option ((Int×Int×Int×af) ⊕ ((Int×Int×af))):=
 cond (decide (d<j)) (
 let m:=(w64 (d+j))
 let l:Int:=(IntKind.wrap .u64 m)
 let k:Int:=(Int.fdiv l 2)
 let e:=(w64 k)
 cond (inR i (List.length b)) (
 let c:=(List.getD b (Int.toNat i) (0,0))
 cond (inR e (List.length b)) (
 let a:=(List.getD b (Int.toNat e) (0,0))
 (j1e (c.1,c.2) (a.1,a.2)).bind λg=>
 cond (!(decide (g<0))) (
 let f:=(w64 (e+1))
 some (.inl (i,f,j,b))) (
 some (.inl (i,d,e,b)))) none) none) (
 some (.inr (i,d,b)))
def oU[LP](a:af->Int->Int->Int->Option (af))(e b c:Int)(d:af):Option ((Int×Int×af)):=
 LP.lp (unc4 (j0F a)) (e,b,c,d)
theorem Jv(a e b c d):oU a e b c d=lpK (j0F a e b c d) (λh=>oU a h.1 h.2.1 h.2.2.1 h.2.2.2):=di _ _
def j0G(l:af->Int->Int->Int->Option (af))(k a:Int)(f:af):Option ((Int×Int×af) ⊕ (af)):=
 cond (decide (a>k)) (
 let b:=(w64 (a-1))
 let e:=(w64 (a-1))
 cond (inR e (List.length f)) (
 let c:=(List.getD f (Int.toNat e) (0,0))
 cond (inR a (List.length f)) (
 let d:=(List.getD f (Int.toNat a) (0,0))
 cond (inR a (List.length f)) (
 let g:af:=(List.set f (Int.toNat a) (c.1,c.2))
 cond (inR b (List.length g)) (
 let j:af:=(List.set g (Int.toNat b) (d.1,d.2))
 let i:=(w64 (a-1))
 some (.inl (k,i,j))) none) none) none) none) (
 some (.inr f))
def qS[LP](a:af->Int->Int->Int->Option (af))(c b:Int)(d:af):Option (af):=
 LP.lp (unc3 (j0G a)) (c,b,d)
theorem Jw(a c b d):qS a c b d=lpK (j0G a c b d) (λh=>qS a h.1 h.2.1 h.2.2):=di _ _
def j0H(t:af->Int->Int->Int->Option (af))(r q s o l f m i:Int)(e:af):Option ((Int×Int×Int×Int×Int×Int×Int×Int×af) ⊕ ((Int×Int×Int×Int×Int×Int×af))):=
 cond (decide (f<m)) (
 let g:=(w64 (f+m))
 let n:Int:=(IntKind.wrap .u64 g)
 let p:Int:=(Int.fdiv n 2)
 let a:=(w64 p)
 let d:=(w64 (i-a))
 cond (inR d (List.length e)) (
 let c:=(List.getD e (Int.toNat d) (0,0))
 cond (inR a (List.length e)) (
 let b:=(List.getD e (Int.toNat a) (0,0))
 (j1e (c.1,c.2) (b.1,b.2)).bind λk=>
 cond (!(decide (k<0))) (
 let j:=(w64 (a+1))
 some (.inl (r,q,s,o,l,j,m,i,e))) (
 some (.inl (r,q,s,o,l,f,a,i,e)))) none) none) (
 some (.inr (r,q,s,o,l,f,e)))
def nB[LP](b:af->Int->Int->Int->Option (af))(i k j d a f c e:Int)(g:af):Option ((Int×Int×Int×Int×Int×Int×af)):=
 LP.lp (unc9 (j0H b)) (i,k,j,d,a,f,c,e,g)
theorem Jy(a i k j d b f c e g):nB a i k j d b f c e g=lpK (j0H a i k j d b f c e g) (λh=>nB a h.1 h.2.1 h.2.2.1 h.2.2.2.1 h.2.2.2.2.1 h.2.2.2.2.2.1 h.2.2.2.2.2.2.1 h.2.2.2.2.2.2.2.1 h.2.2.2.2.2.2.2.2):=di _ _
def nC[LP](e:af->Int->Int->Int->Option (af))(g:af)(i f j:Int):Option (af):=
 let a9:=(w64 (f-i))
 cond (a9==1) (
 (oT e i f j g).bind λa8=>
 (qR e a8.2.1 a8.1 a8.2.2).bind λb1=>
 some b1) (
 let b0:=(w64 (j-f))
 cond (b0==1) (
 (oU e f i f g).bind λa1=>
 (qS e a1.2.1 a1.1 a1.2.2).bind λb2=>
 some b2) (
 let a3:=(w64 (i+j))
 let a6:Int:=(IntKind.wrap .u64 a3)
 let k:Int:=(Int.fdiv a6 2)
 let l:=(w64 ((w64 k)+f))
 cond (decide (f>(w64 k))) (
 let a5:=(w64 (l-j))
 let a4:=(w64 (l-1))
 (nB e i f j (w64 k) l a5 (w64 k) a4 g).bind λc=>
 let d:=(w64 (c.2.2.2.2.1-c.2.2.2.2.2.1))
 cond (cond (decide (c.2.2.2.2.2.1<c.2.1)) (decide (c.2.1<d)) false) (
 (j0m c.2.2.2.2.2.2 c.2.2.2.2.2.1 c.2.1 d).bind λq=>
 cond (cond (decide (c.1<c.2.2.2.2.2.1)) (decide (c.2.2.2.2.2.1<c.2.2.2.1)) false) (
 (e q c.1 c.2.2.2.2.2.1 c.2.2.2.1).bind λa0=>
 cond (cond (decide (c.2.2.2.1<d)) (decide (d<c.2.2.1)) false) (
 (e a0 c.2.2.2.1 d c.2.2.1).bind λa2=>
 some a2) (
 some a0)) (
 cond (cond (decide (c.2.2.2.1<d)) (decide (d<c.2.2.1)) false) (
 (e q c.2.2.2.1 d c.2.2.1).bind λr=>
 some r) (
 some q))) (
 cond (cond (decide (c.1<c.2.2.2.2.2.1)) (decide (c.2.2.2.2.2.1<c.2.2.2.1)) false) (
 (e c.2.2.2.2.2.2 c.1 c.2.2.2.2.2.1 c.2.2.2.1).bind λn=>
 cond (cond (decide (c.2.2.2.1<d)) (decide (d<c.2.2.1)) false) (
 (e n c.2.2.2.1 d c.2.2.1).bind λw=>
 some w) (
 some n)) (
 cond (cond (decide (c.2.2.2.1<d)) (decide (d<c.2.2.1)) false) (
 (e c.2.2.2.2.2.2 c.2.2.2.1 d c.2.2.1).bind λt=>
 some t) (
 some c.2.2.2.2.2.2)))) (
 let u:=(w64 (l-1))
 (nB e i f j (w64 k) l i f u g).bind λa=>
 let b:=(w64 (a.2.2.2.2.1-a.2.2.2.2.2.1))
 cond (cond (decide (a.2.2.2.2.2.1<a.2.1)) (decide (a.2.1<b)) false) (
 (j0m a.2.2.2.2.2.2 a.2.2.2.2.2.1 a.2.1 b).bind λm=>
 let a7:Bool:=(cond (decide (a.1<a.2.2.2.2.2.1)) (decide (a.2.2.2.2.2.1<a.2.2.2.1)) false)
 cond a7 (
 (e m a.1 a.2.2.2.2.2.1 a.2.2.2.1).bind λo=>
 cond (cond (decide (a.2.2.2.1<b)) (decide (b<a.2.2.1)) false) (
 (e o a.2.2.2.1 b a.2.2.1).bind λy=>
 some y) (
 some o)) (
 cond (cond (decide (a.2.2.2.1<b)) (decide (b<a.2.2.1)) false) (
 (e m a.2.2.2.1 b a.2.2.1).bind λx=>
 some x) (
 some m))) (
 let v:Bool:=(cond (decide (a.1<a.2.2.2.2.2.1)) (decide (a.2.2.2.2.2.1<a.2.2.2.1)) false)
 cond v (
 (e a.2.2.2.2.2.2 a.1 a.2.2.2.2.2.1 a.2.2.2.1).bind λp=>
 cond (cond (decide (a.2.2.2.1<b)) (decide (b<a.2.2.1)) false) (
 (e p a.2.2.2.1 b a.2.2.1).bind λz=>
 some z) (
 some p)) (
 cond (cond (decide (a.2.2.2.1<b)) (decide (b<a.2.2.1)) false) (
 (e a.2.2.2.2.2.2 a.2.2.2.1 b a.2.2.1).bind λs=>
 some s) (
 some a.2.2.2.2.2.2))))))
def j06[LP](e:(af×Int×Int×Int)->Option (af))(h:af×Int×Int×Int):Option (af):=nC (λc a d b=>e (c,a,d,b)) h.1 h.2.1 h.2.2.1 h.2.2.2
def j0w[LP](a:af)(c b d:Int):Option (af):=LP.rp j06 (a,c,b,d)
def j08[LP](d e g c:Int)(f:af):Option ((Int×Int×Int×Int×af) ⊕ ((Int×Int×Int×af))):=
 cond (decide (c<=d)) (
 (j05 f g c).bind λb=>
 let a:=(w64 (c+e))
 some (.inl (d,e,c,a,b))) (
 some (.inr (d,e,g,f)))
def qT[LP](b d c e:Int)(a:af):Option ((Int×Int×Int×af)):=
 LP.lp (unc5 (j08)) (b,d,c,e,a)
theorem zY(b d c e a):qT b d c e a=lpK (j08 b d c e a) (λh=>qT h.1 h.2.1 h.2.2.1 h.2.2.2.1 h.2.2.2.2):=di _ _
def j0b[LP](g d i e:Int)(j:af):Option ((Int×Int×Int×Int×af) ⊕ ((Int×Int×Int×af))):=
 cond (decide (e<=g)) (
 let c:=(w64 (i+d))
 (j0w j i c e).bind λb=>
 let f:=(w64 (2*d))
 let a:=(w64 (e+f))
 some (.inl (g,d,e,a,b))) (
 some (.inr (g,d,i,j)))
def sV[LP](b d c e:Int)(a:af):Option ((Int×Int×Int×af)):=
 LP.lp (unc5 (j0b)) (b,d,c,e,a)
theorem Ec(b d c e a):sV b d c e a=lpK (j0b b d c e a) (λh=>sV h.1 h.2.1 h.2.2.1 h.2.2.2.1 h.2.2.2.2):=di _ _
def j0c[LP](j g:Int)(i:af):Option ((Int×Int×af) ⊕ (af)):=
 cond (decide (g<j)) (
 let c:=(w64 (2*g))
 (sV j g 0 c i).bind λa=>
 let b:=(w64 (a.2.2.1+a.2.1))
 cond (decide (b<a.1)) (
 (j0w a.2.2.2 a.2.2.1 b a.1).bind λf=>
 let d:=(w64 (a.2.1*2))
 some (.inl (a.1,d,f))) (
 let e:=(w64 (a.2.1*2))
 some (.inl (a.1,e,a.2.2.2)))) (
 some (.inr i))
def qU[LP](c b:Int)(a:af):Option (af):=
 LP.lp (unc3 (j0c)) (c,b,a)
theorem Ed(c b a):qU c b a=lpK (j0c c b a) (λh=>qU h.1 h.2.1 h.2.2):=di _ _
def j0A[LP](a:af)(c:Int):Option (af):=
 (qT c 20 0 20 a).bind λb=>
 (j05 b.2.2.2 b.2.2.1 b.1).bind λd=>
 (qU b.1 b.2.1 d).bind λe=>
 some e
def j03[LP](a:af):Option (af):=
 let c:=(Int.ofNat (List.length a))
 (j0A a c).bind λb=>
 some b
def j1d(n:Int)(d:au)(l c:Int)(m:ByteArray)(f:Int)(e:au):Option ((Int×au×Int×Int×ByteArray×Int×au) ⊕ (Int ⊕ (Int×ByteArray×Int×au))):=
 cond (decide (c<l)) (
 cond (inR c (List.length d)) (
 let a:=(List.getD d (Int.toNat c) (0,(0,(0,(0,(0,(0,0)))))))
 (j58 (a.1,(a.2.1,(a.2.2.1,(a.2.2.2.1,(a.2.2.2.2.1,(a.2.2.2.2.2.1,a.2.2.2.2.2.2))))))).bind λb=>
 cond (b != 0) (
 some (.inr (.inl b))) (
 let g:=(w64 (a.2.1-a.1))
 let k:=(w64 (g+1))
 let i:=(w64 (n+k))
 let j:=(w64 (c+1))
 some (.inl (i,d,l,j,m,f,e)))) none) (
 some (.inr (.inr (n,m,f,e))))
def qV[LP](g:Int)(c:au)(d e:Int)(f:ByteArray)(b:Int)(a:au):Option (Int ⊕ (Int×ByteArray×Int×au)):=
 LP.lp (unc7 (j1d)) (g,c,d,e,f,b,a)
theorem Ee(g c d e f b a):qV g c d e f b a=lpK (j1d g c d e f b a) (λh=>qV h.1 h.2.1 h.2.2.1 h.2.2.2.1 h.2.2.2.2.1 h.2.2.2.2.2.1 h.2.2.2.2.2.2):=di _ _
def j0V[LP](i:Int)(p:au)(o q s f g a d c e:Int)(r:af):Option ((Int×au×Int×Int×Int×Int×Int×Int×Int×Int×Int×af) ⊕ ((au×Int×Int×af))):=
 cond (decide (i<=f)) (
 (j5J i g a d).bind λm=>
 let j:=(w64 (m.1*86400))
 let l:=(w64 (j+c))
 let b:af:=[(l,e)]
 cond (decide (List.length r+List.length b<=cY)) (
 let n:af:=(r++b)
 let k:=(w64 (i+1))
 some (.inl (k,p,o,q,s,f,g,a,d,c,e,n))) none) (
 some (.inr (p,o,q,r)))
def uF[LP](j:Int)(i:au)(g k l e f a c b d:Int)(m:af):Option ((au×Int×Int×af)):=
 LP.lp (jkV (j0V)) (j,i,g,k,l,e,f,a,c,b,d,m)
theorem Jz(j i g k l e f a c b d m):uF j i g k l e f a c b d m=lpK (j0V j i g k l e f a c b d m) (λh=>uF h.1 h.2.1 h.2.2.1 h.2.2.2.1 h.2.2.2.2.1 h.2.2.2.2.2.1 h.2.2.2.2.2.2.1 h.2.2.2.2.2.2.2.1 h.2.2.2.2.2.2.2.2.1 h.2.2.2.2.2.2.2.2.2.1 h.2.2.2.2.2.2.2.2.2.2.1 h.2.2.2.2.2.2.2.2.2.2.2):=di _ _
def j0W[LP](d:au)(f c:Int)(g:af):Option ((au×Int×Int×af) ⊕ (af)):=
 cond (decide (c<f)) (
 cond (inR c (List.length d)) (
 let a:=(List.getD d (Int.toNat c) (0,(0,(0,(0,(0,(0,0)))))))
 (uF a.1 d f c a.1 a.2.1 a.2.2.1 a.2.2.2.1 a.2.2.2.2.1 a.2.2.2.2.2.1 a.2.2.2.2.2.2 g).bind λb=>
 let e:=(w64 (b.2.2.1+1))
 some (.inl (b.1,b.2.1,e,b.2.2.2))) none) (
 some (.inr g))
def sW[LP](c:au)(b a:Int)(d:af):Option (af):=
 LP.lp (unc4 (j0W)) (c,b,a,d)
theorem JA(b a c d):sW b a c d=lpK (j0W b a c d) (λh=>sW h.1 h.2.1 h.2.2.1 h.2.2.2):=di _ _
def j10[LP](a:cf):Option (af×Int):=
 (j3m a.2.1 (-64800) 64800).bind λb=>
 cond (!b) (
 some (([]:af),1)) (
 let c:=(Int.ofNat (List.length a.2.2))
 cond (decide (c>16)) (
 some (([]:af),5)) (
 let d:=(Int.ofNat (List.length a.2.2))
 (qV 0 a.2.2 d 0 a.1 a.2.1 a.2.2).bind λi=>
 sumC i (λk=>
 some (([]:af),k)) (λg=>
 cond (decide (g.1>640)) (
 some (([]:af),5)) (
 let e:=(Int.ofNat (List.length g.2.2.2))
 (sW g.2.2.2 e 0 ([]:af)).bind λj=>
 (j03 j).bind λf=>
 some (f,0)))))
def j11(r m d:Int)(b j:af):Option ((Int×Int×Int×af×af) ⊕ (Int ⊕ af)):=
 cond (decide (d<m)) (
 cond (inR d (List.length j)) (
 let a:=(List.getD j (Int.toNat d) (0,0))
 cond (a.2==r) (
 let w:=(w64 (d+1))
 some (.inl (r,m,w,b,j))) (
 let c:=(w64 (a.1-r))
 let l:=(w64 (a.2-r))
 cond (cond (decide (l>=86400)) true (decide (l<=(-86400)))) (
 let s:=(Int.ofNat (List.length b))
 let u:=(Int.ofNat (List.length b))
 let g:=(w64 (u-1))
 cond ((inR g (List.length b)) || !((!true)&&(decide (s>0)))) (
 let v:=(List.getD b (Int.toNat g) (0,0)).1
 let x:=(w64 (v+604800))
 some (.inr (.inl 6))) none) (
 (j3m c 0 8589934592).bind λe=>
 let f:=(Int.ofNat (List.length b))
 let q:=(Int.ofNat (List.length b))
 let i:=(w64 (q-1))
 cond ((inR i (List.length b)) || !((!(!e))&&(decide (f>0)))) (
 let o:=(List.getD b (Int.toNat i) (0,0)).1
 let n:=(w64 (o+604800))
 cond (cond (!e) true (cond (decide (f>0)) (decide (c<n)) false)) (
 some (.inr (.inl 6))) (
 let k:af:=[(c,a.2)]
 cond (decide (List.length b+List.length k<=cY)) (
 let t:af:=(b++k)
 let p:=(w64 (d+1))
 some (.inl (a.2,m,p,t,j))) none)) none))) none) (
 some (.inr (.inr b)))
def qW[LP](e b c:Int)(d a:af):Option (Int ⊕ af):=
 LP.lp (unc5 (j11)) (e,b,c,d,a)
theorem zZ(e b c d a):qW e b c d a=lpK (j11 e b c d a) (λh=>qW h.1 h.2.1 h.2.2.1 h.2.2.2.1 h.2.2.2.2):=di _ _
def j0B[LP](a:cf):Option (af×Int):=
 (j10 (a.1,(a.2.1,a.2.2))).bind λb=>
 cond (b.2 != 0) (
 some (([]:af),b.2)) (
 let c:=(Int.ofNat (List.length b.1))
 (qW a.2.1 c 0 ([]:af) b.1).bind λd=>
 sumC d (λf=>
 some (([]:af),f)) (λe=>
 some (e,0)))
def j7b[LP](a:cf):Option (mB×Int):=
 (j0B (a.1,(a.2.1,a.2.2))).bind λb=>
 some ((a.2.1,b.1),b.2)
def j1i[LP](a:cf)(c:(Int×Int)):Option (mB×Int):=
 (j7b (a.1,(a.2.1,a.2.2))).bind λb=>
 cond (b.2 != 0) (
 some ((0,([]:af)),8)) (
 (j3m c.2 0 86399).bind λd=>
 cond (!d) (
 some ((0,([]:af)),1)) (
 some ((b.1.1,b.1.2),0)))
def j49(b e:Int)(a:af)(c:Int):Option (Bool):=
 cond (inR b (List.length a)) (
 let d:=(List.getD a (Int.toNat b) (0,0))
 some (decide (d.1>c))) none
def j1U(k:Int)(a:af)(b i l:Int):Option ((Int×af×Int×Int×Int) ⊕ (Int)):=
 cond (decide (i<l)) (
 let d:=(w64 (i+l))
 let f:Int:=(IntKind.wrap .u64 d)
 let e:Int:=(Int.fdiv f 2)
 let c:=(w64 e)
 (j49 c k a b).bind λj=>
 cond (!j) (
 let g:=(w64 (c+1))
 some (.inl (k,a,b,g,l))) (
 some (.inl (k,a,b,i,c)))) (
 some (.inr i))
def uG[LP](c:Int)(a:af)(b e d:Int):Option (Int):=
 LP.lp (unc5 (j1U)) (c,a,b,e,d)
theorem JB(c a b e d):uG c a b e d=lpK (j1U c a b e d) (λh=>uG h.1 h.2.1 h.2.2.1 h.2.2.2.1 h.2.2.2.2):=di _ _
def j4Q[LP](c d:Int)(a:af)(b:Int):Option (Int):=
 (uG d a b 0 c).bind λe=>
 some e
def j1M[LP](a:mB)(b:Int):Option (Int):=
 let d:=(Int.ofNat (List.length a.2))
 (j4Q d a.1 a.2 b).bind λc=>
 some c
def j2e(a:mB)(b:Int):Option (Int):=
 cond (b==0) (
 some a.1) (
 let c:=(w64 (b-1))
 cond (inR c (List.length a.2)) (
 let d:=(List.getD a.2 (Int.toNat c) (0,0))
 some d.2) none)
def j0S[LP](l c i:Int)(a:af)(j:ib):Option ((Int×Int×Int×af×ib) ⊕ (ib)):=
 cond (decide (l<c)) (
 (j1M (i,a) l).bind λb=>
 let p:=(Int.ofNat (List.length a))
 cond (decide (b<p)) (
 cond (inR b (List.length a)) (
 let e:=(List.getD a (Int.toNat b) (0,0))
 let f:Int:=(if e.1<c then e.1 else c:Int)
 (j2e (i,a) b).bind λn=>
 let g:ib:=[(l,(f,n))]
 cond (decide (List.length j+List.length g<=cY)) (
 let m:ib:=(j++g)
 some (.inl (f,c,i,a,m))) none) none) (
 (j2e (i,a) b).bind λo=>
 let d:ib:=[(l,(c,o))]
 cond (decide (List.length j+List.length d<=cY)) (
 let k:ib:=(j++d)
 some (.inl (c,c,i,a,k))) none)) (
 some (.inr j))
def uH[LP](b e c:Int)(a:af)(d:ib):Option (ib):=
 LP.lp (unc5 (j0S)) (b,e,c,a,d)
theorem JC(b e c a d):uH b e c a d=lpK (j0S b e c a d) (λh=>uH h.1 h.2.1 h.2.2.1 h.2.2.2.1 h.2.2.2.2):=di _ _
def j1t[LP](b:mB)(a c:Int):Option (ib):=
 (uH a c b.1 b.2 ([]:ib)).bind λd=>
 some d
def j3B(a:(Int×Int)):Option (Int):=
 let c:Int:=(if (-1048576)>a.1 then (-1048576) else a.1:Int)
 let d:Int:=(if 1048576<c then 1048576 else c:Int)
 let e:=(w64 (d*86400))
 let b:=(w64 (e+a.2))
 some b
def j1Q(f c m d:Int)(g:(List Int))(e:ib):Option ((Int×Int×Int×Int×(List Int)×ib) ⊕ ((List Int))):=
 cond (decide (c<f)) (
 cond (inR c (List.length e)) (
 let b:=(List.getD e (Int.toNat c) (0,(0,0)))
 (j3B (m,d)).bind λk=>
 let a:=(w64 (k-b.2.2))
 cond (cond (decide (b.1<=a)) (decide (a<b.2.1)) false) (
 cond (decide (List.length g+List.length [a]<=cY)) (
 let l:(List Int):=(g++[a])
 let i:=(w64 (c+1))
 some (.inl (f,i,m,d,l,e))) none) (
 let j:=(w64 (c+1))
 some (.inl (f,j,m,d,g,e)))) none) (
 some (.inr g))
def uI[LP](c b f a:Int)(e:(List Int))(d:ib):Option ((List Int)):=
 LP.lp (unc6 (j1Q)) (c,b,f,a,e,d)
theorem JD(c b f a e d):uI c b f a e d=lpK (j1Q c b f a e d) (λh=>uI h.1 h.2.1 h.2.2.1 h.2.2.2.1 h.2.2.2.2.1 h.2.2.2.2.2):=di _ _
def j3l[LP](b:mB)(a:(Int×Int)):Option ((List Int)):=
 (j1t (b.1,b.2) 0 8589934593).bind λc=>
 let d:=(Int.ofNat (List.length c))
 (uI d 0 a.1 a.2 ([]:(List Int)) c).bind λe=>
 some e
def j19[LP](b:cf)(a:(Int×Int)):Option ((List Int)×Int):=
 (j1i (b.1,(b.2.1,b.2.2)) (a.1,a.2)).bind λc=>
 cond (c.2 != 0) (
 some (([]:(List Int)),c.2)) (
 (j3l (c.1.1,c.1.2) (a.1,a.2)).bind λd=>
 some (d,0))
def j1u(j b k e:Int)(f:ib):Option ((Int×Int×Int×Int×ib) ⊕ ((Int×Bool) ⊕ Unit)):=
 cond (decide (b<j)) (
 cond (inR b (List.length f)) (
 let a:=(List.getD f (Int.toNat b) (0,(0,0)))
 (j3B (k,e)).bind λg=>
 let c:=(w64 (g-a.2.2))
 let d:Int:=(if c>a.1 then c else a.1:Int)
 cond (decide (d<a.2.1)) (
 some (.inr (.inl (d,true)))) (
 let i:=(w64 (b+1))
 some (.inl (j,i,k,e,f)))) none) (
 some (.inr (.inr ())))
def uJ[LP](c b e a:Int)(d:ib):Option ((Int×Bool) ⊕ Unit):=
 LP.lp (unc5 (j1u)) (c,b,e,a,d)
theorem JE(c b e a d):uJ c b e a d=lpK (j1u c b e a d) (λh=>uJ h.1 h.2.1 h.2.2.1 h.2.2.2.1 h.2.2.2.2):=di _ _
def j2n[LP](b:mB)(a:(Int×Int)):Option (Int×Bool):=
 (j1t (b.1,b.2) 0 8589934593).bind λc=>
 let d:=(Int.ofNat (List.length c))
 (uJ d 0 a.1 a.2 c).bind λe=>
 sumC e (λf=>
 some (f.1,f.2)) (λg=>
 some (0,false))
def j2o[LP](b:cf)(a:(Int×Int)):Option (Int×Int):=
 (j1i (b.1,(b.2.1,b.2.2)) (a.1,a.2)).bind λc=>
 cond (c.2 != 0) (
 some (0,c.2)) (
 (j2n (c.1.1,c.1.2) (a.1,a.2)).bind λd=>
 cond (!d.2) (
 some (0,10)) (
 some (d.1,0)))
def j3d[LP](a:cf)(c:Int):Option (mB×Int):=
 (j7b (a.1,(a.2.1,a.2.2))).bind λb=>
 cond (b.2 != 0) (
 some ((0,([]:af)),8)) (
 (j3m c 0 8589934592).bind λd=>
 cond (!d) (
 some ((0,([]:af)),1)) (
 some ((b.1.1,b.1.2),0)))
def j1v[LP](a:mB)(b:Int):Option (Int):=
 (j1M (a.1,a.2) b).bind λc=>
 (j2e (a.1,a.2) c).bind λd=>
 some d
def j8l(a:Int):Option ((Int×Int)):=
 let e:=(w64 (Int.tdiv a 86400))
 let i:=(Int.tmod a 86400)
 cond (decide (i<0)) (
 let d:=(w64 (e-1))
 let f:=(w64 (d*86400))
 let g:=(w64 (a-f))
 some (d,g)) (
 let b:=(w64 (e*86400))
 let c:=(w64 (a-b))
 some (e,c))
def j27[LP](b:mB)(a:Int):Option ((Int×Int)):=
 (j1v (b.1,b.2) a).bind λd=>
 let e:=(w64 (a+d))
 (j8l e).bind λc=>
 some (c.1,c.2)
def j1W[LP](a:cf)(c:Int):Option ((Int×Int)×Int):=
 (j3d (a.1,(a.2.1,a.2.2)) c).bind λb=>
 cond (b.2 != 0) (
 some ((0,0),b.2)) (
 (j27 (b.1.1,b.1.2) c).bind λd=>
 some ((d.1,d.2),0))
def j4i[LP]  : Option (Bool):=
 (j5y).bind λa=>
 (j19 (a.1,(a.2.1,a.2.2)) (20541,9000)).bind λf=>
 (j2o (a.1,(a.2.1,a.2.2)) (20541,9000)).bind λe=>
 (j19 (a.1,(a.2.1,a.2.2)) (20751,9000)).bind λb=>
 (j1W (a.1,(a.2.1,a.2.2)) e.1).bind λd=>
 let i:Bool:=(cond (cond (cond (f.2==0) (e.2==0) false) (b.2==0) false) (d.2==0) false)
 let l:=(Int.ofNat (List.length f.1))
 let m:=(Int.ofNat (List.length b.1))
 let c:Bool:=(cond (cond (cond i (l==0) false) (e.1==1774746000) false) (m==2) false)
 cond ((inR 0 (List.length b.1)) || !c) (
 let g:=(List.getD b.1 0 0)
 cond ((inR 1 (List.length b.1)) || !(cond c (g==1792888200) false)) (
 let j:=(List.getD b.1 1 0)
 let k:Bool:=(cond (cond (cond c (g==1792888200) false) (j==1792891800) false) ((d.1.1==20541)&&(d.1.2==10800)) false)
 some k) none) none
def ja2(a:(List Int)):Option (Bool):=
 let b:=(Int.ofNat (List.length a))
 some (decide (b<=500))
def jbW(a:(List Int)):Option ((List Int)×Int):=
 some (a,0)
def j0I(b:(List Int))(a c:Int):Option (Int×(List Int)×Int):=
 let i:=(Int.ofNat (List.length b))
 cond (decide (a>=i)) (
 some (0,b,a)) (
 cond (decide (c<1)) (
 some (0,b,a)) (
 cond (inR a (List.length b)) (
 let f:=(List.getD b (Int.toNat a) 0)
 cond (!(c==0)) (
 let d:=(Int.tmod f c)
 let e:=(w64 (a+1))
 cond (decide (d<0)) (
 let g:=(w64 (d+c))
 some (g,b,e)) (
 some (d,b,e))) none) none))
def j0T(d:(List Int))(b:Int)(a:(List Int)):Option (Int×(List Int)×Int):=
 let f:=(Int.ofNat (List.length a))
 (j0I d b f).bind λc=>
 cond (inR c.1 (List.length a)) (
 let e:=(List.getD a (Int.toNat c.1) 0)
 some (e,c.2.1,c.2.2)) none
def j4X(a0:(List Int))(q:Int)(a:ByteArray):Option (cf×(List Int)×Int):=
 let a8:(List Int):=[0,4,(-20),22,48,(-47)]
 (j0T a0 q a8).bind λl=>
 (j0I l.2.1 l.2.2 2).bind λs=>
 (j0I s.2.1 s.2.2 3).bind λv=>
 let b5:=(w64 (s.1*v.1))
 let a7:=(w64 (l.1+b5))
 let c:=(w64 (900*a7))
 (j0I v.2.1 v.2.2 2).bind λr=>
 let g:=(w64 (2025+r.1))
 (j0I r.2.1 r.2.2 4).bind λb=>
 cond (b.1==1) (
 let a3:=(w64 (c+3600))
 let b3:au:=[(2025,(g,(3,(5,(6,(7200,a3)))))),(2025,(g,(10,(5,(6,(10800,c))))))]
 some ((a,(c,b3)),b.2.1,b.2.2)) (
 cond (b.1==2) (
 (j0I b.2.1 b.2.2 4).bind λj=>
 let b1:=(w64 (1+j.1))
 (j0I j.2.1 j.2.2 7).bind λi=>
 (j0I i.2.1 i.2.2 24).bind λx=>
 let b4:=(w64 (3600*x.1))
 (j0I x.2.1 x.2.2 8).bind λw=>
 let b2:=(w64 (1+w.1))
 let b6:=(w64 (1800*b2))
 let a6:=(w64 (c+b6))
 (j0I w.2.1 w.2.2 2).bind λo=>
 let a5:=(w64 (2+o.1))
 let a9:(List Int):=[2,3,5]
 (j0T o.2.1 o.2.2 a9).bind λp=>
 (j0I p.2.1 p.2.2 7).bind λt=>
 (j0I t.2.1 t.2.2 24).bind λu=>
 let b7:=(w64 (3600*u.1))
 let a2:au:=[(2025,(g,(1,(b1,(i.1,(b4,a6)))))),(2025,(g,(a5,(p.1,(t.1,(b7,c))))))]
 some ((a,(c,a2)),u.2.1,u.2.2)) (
 cond (b.1==3) (
 let b0:(List Int):=[3600,(-3600),82800,(-82800),43200]
 (j0T b.2.1 b.2.2 b0).bind λf=>
 let m:=(w64 (c+f.1))
 cond (cond (decide (m>64800)) true (decide (m<(-64800)))) (
 (j0I f.2.1 f.2.2 7).bind λk=>
 (j0I k.2.1 k.2.2 48).bind λn=>
 let a4:=(w64 (1800*n.1))
 let a1:au:=[(2026,(2026,(1,(2,(k.1,(a4,0))))))]
 some ((a,(c,a1)),n.2.1,n.2.2)) (
 (j0I f.2.1 f.2.2 7).bind λd=>
 (j0I d.2.1 d.2.2 48).bind λe=>
 let y:=(w64 (1800*e.1))
 let z:au:=[(2026,(2026,(1,(2,(d.1,(y,m))))))]
 some ((a,(c,z)),e.2.1,e.2.2))) (
 some ((a,(c,([]:au))),b.2.1,b.2.2))))
def j6g(c:(List Int))(b a:Int):Option (Bool×(List Int)×Int):=
 (j0I c b a).bind λd=>
 let e:=(w64 (a-1))
 some ((d.1==e),d.2.1,d.2.2)
def j9s(s:(List Int))(k:Int)(c:cf):Option (cf×(List Int)×Int):=
 cond (decide (List.length ([]:au)+List.length c.2.2<=cY)) (
 let b:au:=(([]:au)++c.2.2)
 let a5:=(Int.ofNat (List.length b))
 cond (a5==0) (
 let b6:(List Int):=[64800,64801,(-64800),(-64801),86400]
 (j0T s k b6).bind λu=>
 some ((c.1,(u.1,b)),u.2.1,u.2.2)) (
 (j6g s k 4).bind λj=>
 cond j.1 (
 let v:(List Int):=[64800,64801,(-64800),(-64801),86400]
 (j0T j.2.1 j.2.2 v).bind λi=>
 some ((c.1,(i.1,b)),i.2.1,i.2.2)) (
 let a7:=(Int.ofNat (List.length b))
 (j0I j.2.1 j.2.2 a7).bind λa=>
 cond (inR a.1 (List.length b)) (
 (j0I a.2.1 a.2.2 8).bind λd=>
 cond (d.1==0) (
 let b2:=(List.getD b (Int.toNat a.1) (0,(0,(0,(0,(0,(0,0))))))).2.1
 let b5:=(List.getD b (Int.toNat a.1) (0,(0,(0,(0,(0,(0,0))))))).2.1
 let c0:=(w64 (b5+1))
 let a8:(List Int):=[1969,1970,b2,c0]
 (j0T d.2.1 d.2.2 a8).bind λq=>
 let b3:au:=(List.set b (Int.toNat a.1) (q.1,((List.getD b (Int.toNat a.1) (0,(0,(0,(0,(0,(0,0))))))).2.1,((List.getD b (Int.toNat a.1) (0,(0,(0,(0,(0,(0,0))))))).2.2.1,((List.getD b (Int.toNat a.1) (0,(0,(0,(0,(0,(0,0))))))).2.2.2.1,((List.getD b (Int.toNat a.1) (0,(0,(0,(0,(0,(0,0))))))).2.2.2.2.1,((List.getD b (Int.toNat a.1) (0,(0,(0,(0,(0,(0,0))))))).2.2.2.2.2.1,(List.getD b (Int.toNat a.1) (0,(0,(0,(0,(0,(0,0))))))).2.2.2.2.2.2)))))))
 some ((c.1,(c.2.1,b3)),q.2.1,q.2.2)) (
 cond (d.1==1) (
 let c1:=(List.getD b (Int.toNat a.1) (0,(0,(0,(0,(0,(0,0))))))).1
 let a9:(List Int):=[2240,2241,c1]
 (j0T d.2.1 d.2.2 a9).bind λr=>
 let b1:au:=(List.set b (Int.toNat a.1) ((List.getD b (Int.toNat a.1) (0,(0,(0,(0,(0,(0,0))))))).1,(r.1,((List.getD b (Int.toNat a.1) (0,(0,(0,(0,(0,(0,0))))))).2.2.1,((List.getD b (Int.toNat a.1) (0,(0,(0,(0,(0,(0,0))))))).2.2.2.1,((List.getD b (Int.toNat a.1) (0,(0,(0,(0,(0,(0,0))))))).2.2.2.2.1,((List.getD b (Int.toNat a.1) (0,(0,(0,(0,(0,(0,0))))))).2.2.2.2.2.1,(List.getD b (Int.toNat a.1) (0,(0,(0,(0,(0,(0,0))))))).2.2.2.2.2.2)))))))
 some ((c.1,(c.2.1,b1)),r.2.1,r.2.2)) (
 cond (d.1==2) (
 let b9:(List Int):=[0,12,13,1]
 (j0T d.2.1 d.2.2 b9).bind λt=>
 let c2:au:=(List.set b (Int.toNat a.1) ((List.getD b (Int.toNat a.1) (0,(0,(0,(0,(0,(0,0))))))).1,((List.getD b (Int.toNat a.1) (0,(0,(0,(0,(0,(0,0))))))).2.1,(t.1,((List.getD b (Int.toNat a.1) (0,(0,(0,(0,(0,(0,0))))))).2.2.2.1,((List.getD b (Int.toNat a.1) (0,(0,(0,(0,(0,(0,0))))))).2.2.2.2.1,((List.getD b (Int.toNat a.1) (0,(0,(0,(0,(0,(0,0))))))).2.2.2.2.2.1,(List.getD b (Int.toNat a.1) (0,(0,(0,(0,(0,(0,0))))))).2.2.2.2.2.2)))))))
 some ((c.1,(c.2.1,c2)),t.2.1,t.2.2)) (
 cond (d.1==3) (
 let b4:(List Int):=[0,5,6]
 (j0T d.2.1 d.2.2 b4).bind λp=>
 let a3:au:=(List.set b (Int.toNat a.1) ((List.getD b (Int.toNat a.1) (0,(0,(0,(0,(0,(0,0))))))).1,((List.getD b (Int.toNat a.1) (0,(0,(0,(0,(0,(0,0))))))).2.1,((List.getD b (Int.toNat a.1) (0,(0,(0,(0,(0,(0,0))))))).2.2.1,(p.1,((List.getD b (Int.toNat a.1) (0,(0,(0,(0,(0,(0,0))))))).2.2.2.2.1,((List.getD b (Int.toNat a.1) (0,(0,(0,(0,(0,(0,0))))))).2.2.2.2.2.1,(List.getD b (Int.toNat a.1) (0,(0,(0,(0,(0,(0,0))))))).2.2.2.2.2.2)))))))
 some ((c.1,(c.2.1,a3)),p.2.1,p.2.2)) (
 cond (d.1==4) (
 let a1:(List Int):=[(-1),0,6,7]
 (j0T d.2.1 d.2.2 a1).bind λm=>
 let a0:au:=(List.set b (Int.toNat a.1) ((List.getD b (Int.toNat a.1) (0,(0,(0,(0,(0,(0,0))))))).1,((List.getD b (Int.toNat a.1) (0,(0,(0,(0,(0,(0,0))))))).2.1,((List.getD b (Int.toNat a.1) (0,(0,(0,(0,(0,(0,0))))))).2.2.1,((List.getD b (Int.toNat a.1) (0,(0,(0,(0,(0,(0,0))))))).2.2.2.1,(m.1,((List.getD b (Int.toNat a.1) (0,(0,(0,(0,(0,(0,0))))))).2.2.2.2.2.1,(List.getD b (Int.toNat a.1) (0,(0,(0,(0,(0,(0,0))))))).2.2.2.2.2.2)))))))
 some ((c.1,(c.2.1,a0)),m.2.1,m.2.2)) (
 cond (d.1==5) (
 let x:(List Int):=[(-1),0,86399,86400]
 (j0T d.2.1 d.2.2 x).bind λn=>
 let y:au:=(List.set b (Int.toNat a.1) ((List.getD b (Int.toNat a.1) (0,(0,(0,(0,(0,(0,0))))))).1,((List.getD b (Int.toNat a.1) (0,(0,(0,(0,(0,(0,0))))))).2.1,((List.getD b (Int.toNat a.1) (0,(0,(0,(0,(0,(0,0))))))).2.2.1,((List.getD b (Int.toNat a.1) (0,(0,(0,(0,(0,(0,0))))))).2.2.2.1,((List.getD b (Int.toNat a.1) (0,(0,(0,(0,(0,(0,0))))))).2.2.2.2.1,(n.1,(List.getD b (Int.toNat a.1) (0,(0,(0,(0,(0,(0,0))))))).2.2.2.2.2.2)))))))
 some ((c.1,(c.2.1,y)),n.2.1,n.2.2)) (
 cond (d.1==6) (
 let z:=(w64 (c.2.1+86399))
 let a2:=(w64 (c.2.1+86400))
 let a4:(List Int):=[64800,64801,c.2.1,z,a2]
 (j0T d.2.1 d.2.2 a4).bind λl=>
 let b8:au:=(List.set b (Int.toNat a.1) ((List.getD b (Int.toNat a.1) (0,(0,(0,(0,(0,(0,0))))))).1,((List.getD b (Int.toNat a.1) (0,(0,(0,(0,(0,(0,0))))))).2.1,((List.getD b (Int.toNat a.1) (0,(0,(0,(0,(0,(0,0))))))).2.2.1,((List.getD b (Int.toNat a.1) (0,(0,(0,(0,(0,(0,0))))))).2.2.2.1,((List.getD b (Int.toNat a.1) (0,(0,(0,(0,(0,(0,0))))))).2.2.2.2.1,((List.getD b (Int.toNat a.1) (0,(0,(0,(0,(0,(0,0))))))).2.2.2.2.2.1,l.1)))))))
 some ((c.1,(c.2.1,b8)),l.2.1,l.2.2)) (
 cond (inR 0 (List.length b)) (
 let g:=(List.getD b 0 (0,(0,(0,(0,(0,(0,0)))))))
 let w:au:=[(g.1,(g.2.1,(g.2.2.1,(g.2.2.2.1,(g.2.2.2.2.1,(g.2.2.2.2.2.1,g.2.2.2.2.2.2))))))]
 cond (decide (List.length b+List.length w<=cY)) (
 let e:au:=(b++w)
 let b0:=(Int.ofNat (List.length e))
 let f:=(w64 (b0-1))
 let b7:(List Int):=[1,2,5]
 (j0T d.2.1 d.2.2 b7).bind λo=>
 cond (inR f (List.length e)) (
 let a6:au:=(List.set e (Int.toNat f) ((List.getD e (Int.toNat f) (0,(0,(0,(0,(0,(0,0))))))).1,((List.getD e (Int.toNat f) (0,(0,(0,(0,(0,(0,0))))))).2.1,((List.getD e (Int.toNat f) (0,(0,(0,(0,(0,(0,0))))))).2.2.1,(o.1,((List.getD e (Int.toNat f) (0,(0,(0,(0,(0,(0,0))))))).2.2.2.2.1,((List.getD e (Int.toNat f) (0,(0,(0,(0,(0,(0,0))))))).2.2.2.2.2.1,(List.getD e (Int.toNat f) (0,(0,(0,(0,(0,(0,0))))))).2.2.2.2.2.2)))))))
 some ((c.1,(c.2.1,a6)),o.2.1,o.2.2)) none) none) none)))))))) none))) none
def j3Z(a c b:Int):Option (Bool):=
 some (cond (decide (a>=c)) (decide (a<=b)) false)
def j59(a:sR):Option (Bool):=
 (j3Z a.1 1970 2240).bind λi=>
 cond i (
 (j3Z a.2.1 a.1 2240).bind λg=>
 cond g (
 (j3Z a.2.2.1 1 12).bind λb=>
 cond b (
 (j3Z a.2.2.2.1 1 5).bind λc=>
 cond c (
 (j3Z a.2.2.2.2.1 0 6).bind λd=>
 cond d (
 (j3Z a.2.2.2.2.2.1 0 86399).bind λe=>
 cond e (
 (j3Z a.2.2.2.2.2.2 (-64800) 64800).bind λf=>
 some f) (
 some false)) (
 some false)) (
 some false)) (
 some false)) (
 some false)) (
 some false)
def j12(a:Int):Option (Bool):=
 let c:=(Int.tmod a 4)
 let d:=(Int.tmod a 100)
 let b:=(Int.tmod a 400)
 some (cond (c==0) (cond (d != 0) true (b==0)) false)
def j7c(b a:Int):Option (Int):=
 cond (a==1) (
 cond (a==1) (
 some 31) (
 cond (a==4) (
 cond (a==4) (
 some 30) (
 cond (a==2) (
 (j12 b).bind λa4=>
 cond a4 (
 some 29) (
 some 28)) (
 some 0))) (
 cond (a==6) (
 cond (a==6) (
 some 30) (
 cond (a==2) (
 (j12 b).bind λy=>
 cond y (
 some 29) (
 some 28)) (
 some 0))) (
 cond (a==9) (
 cond (a==9) (
 some 30) (
 cond (a==2) (
 (j12 b).bind λv=>
 cond v (
 some 29) (
 some 28)) (
 some 0))) (
 cond (a==11) (
 some 30) (
 cond (a==2) (
 (j12 b).bind λa2=>
 cond a2 (
 some 29) (
 some 28)) (
 some 0))))))) (
 cond (a==3) (
 cond (a==3) (
 some 31) (
 cond (a==4) (
 cond (a==4) (
 some 30) (
 cond (a==2) (
 (j12 b).bind λz=>
 cond z (
 some 29) (
 some 28)) (
 some 0))) (
 cond (a==6) (
 cond (a==6) (
 some 30) (
 cond (a==2) (
 (j12 b).bind λw=>
 cond w (
 some 29) (
 some 28)) (
 some 0))) (
 cond (a==9) (
 cond (a==9) (
 some 30) (
 cond (a==2) (
 (j12 b).bind λa1=>
 cond a1 (
 some 29) (
 some 28)) (
 some 0))) (
 cond (a==11) (
 some 30) (
 cond (a==2) (
 (j12 b).bind λa0=>
 cond a0 (
 some 29) (
 some 28)) (
 some 0))))))) (
 cond (a==5) (
 cond (a==5) (
 some 31) (
 cond (a==4) (
 cond (a==4) (
 some 30) (
 cond (a==2) (
 (j12 b).bind λx=>
 cond x (
 some 29) (
 some 28)) (
 some 0))) (
 cond (a==6) (
 cond (a==6) (
 some 30) (
 cond (a==2) (
 (j12 b).bind λa3=>
 cond a3 (
 some 29) (
 some 28)) (
 some 0))) (
 cond (a==9) (
 cond (a==9) (
 some 30) (
 cond (a==2) (
 (j12 b).bind λk=>
 cond k (
 some 29) (
 some 28)) (
 some 0))) (
 cond (a==11) (
 some 30) (
 cond (a==2) (
 (j12 b).bind λi=>
 cond i (
 some 29) (
 some 28)) (
 some 0))))))) (
 cond (a==7) (
 cond (a==7) (
 some 31) (
 cond (a==4) (
 cond (a==4) (
 some 30) (
 cond (a==2) (
 (j12 b).bind λl=>
 cond l (
 some 29) (
 some 28)) (
 some 0))) (
 cond (a==6) (
 cond (a==6) (
 some 30) (
 cond (a==2) (
 (j12 b).bind λm=>
 cond m (
 some 29) (
 some 28)) (
 some 0))) (
 cond (a==9) (
 cond (a==9) (
 some 30) (
 cond (a==2) (
 (j12 b).bind λn=>
 cond n (
 some 29) (
 some 28)) (
 some 0))) (
 cond (a==11) (
 some 30) (
 cond (a==2) (
 (j12 b).bind λt=>
 cond t (
 some 29) (
 some 28)) (
 some 0))))))) (
 cond (a==8) (
 cond (a==8) (
 some 31) (
 cond (a==4) (
 cond (a==4) (
 some 30) (
 cond (a==2) (
 (j12 b).bind λe=>
 cond e (
 some 29) (
 some 28)) (
 some 0))) (
 cond (a==6) (
 cond (a==6) (
 some 30) (
 cond (a==2) (
 (j12 b).bind λd=>
 cond d (
 some 29) (
 some 28)) (
 some 0))) (
 cond (a==9) (
 cond (a==9) (
 some 30) (
 cond (a==2) (
 (j12 b).bind λc=>
 cond c (
 some 29) (
 some 28)) (
 some 0))) (
 cond (a==11) (
 some 30) (
 cond (a==2) (
 (j12 b).bind λr=>
 cond r (
 some 29) (
 some 28)) (
 some 0))))))) (
 cond (a==10) (
 cond (a==10) (
 some 31) (
 cond (a==4) (
 cond (a==4) (
 some 30) (
 cond (a==2) (
 (j12 b).bind λf=>
 cond f (
 some 29) (
 some 28)) (
 some 0))) (
 cond (a==6) (
 cond (a==6) (
 some 30) (
 cond (a==2) (
 (j12 b).bind λu=>
 cond u (
 some 29) (
 some 28)) (
 some 0))) (
 cond (a==9) (
 cond (a==9) (
 some 30) (
 cond (a==2) (
 (j12 b).bind λq=>
 cond q (
 some 29) (
 some 28)) (
 some 0))) (
 cond (a==11) (
 some 30) (
 cond (a==2) (
 (j12 b).bind λo=>
 cond o (
 some 29) (
 some 28)) (
 some 0))))))) (
 cond (a==12) (
 some 31) (
 cond (a==4) (
 cond (a==4) (
 some 30) (
 cond (a==2) (
 (j12 b).bind λj=>
 cond j (
 some 29) (
 some 28)) (
 some 0))) (
 cond (a==6) (
 cond (a==6) (
 some 30) (
 cond (a==2) (
 (j12 b).bind λs=>
 cond s (
 some 29) (
 some 28)) (
 some 0))) (
 cond (a==9) (
 cond (a==9) (
 some 30) (
 cond (a==2) (
 (j12 b).bind λg=>
 cond g (
 some 29) (
 some 28)) (
 some 0))) (
 cond (a==11) (
 some 30) (
 cond (a==2) (
 (j12 b).bind λp=>
 cond p (
 some 29) (
 some 28)) (
 some 0))))))))))))
def j9t(a:uB):Option (Bool):=
 cond (decide (a.1>=1970)) (
 cond (decide (a.1<=2240)) (
 cond (decide (a.2.1>=1)) (
 cond (decide (a.2.1<=12)) (
 cond (decide (a.2.2>=1)) (
 (j7c a.1 a.2.1).bind λb=>
 some (decide (a.2.2<=b))) (
 some false)) (
 some false)) (
 some false)) (
 some false)) (
 some false)
def jb7(a:Int):Option (Int):=
 let l:=(w64 (a-1970))
 let i:=(w64 (l*365))
 let k:=(w64 (a-1969))
 let j:=(w64 (Int.tdiv k 4))
 let m:=(w64 (i+j))
 let f:=(w64 (a-1901))
 let c:=(w64 (Int.tdiv f 100))
 let e:=(w64 (m-c))
 let g:=(w64 (a-1601))
 let d:=(w64 (Int.tdiv g 400))
 let b:=(w64 (e+d))
 some b
def j3C(i g f a b:Int):Option ((Int×Int×Int×Int×Int) ⊕ ((Int×Int×Int×Int))):=
 cond (decide (g<a)) (
 (j7c f g).bind λc=>
 let d:=(w64 (i+c))
 let e:=(w64 (g+1))
 some (.inl (d,e,f,a,b))) (
 some (.inr (i,f,a,b)))
def Aa[LP](d e c b a:Int):Option ((Int×Int×Int×Int)):=
 LP.lp (unc5 (j3C)) (d,e,c,b,a)
theorem JF(d e c b a):Aa d e c b a=lpK (j3C d e c b a) (λh=>Aa h.1 h.2.1 h.2.2.1 h.2.2.2.1 h.2.2.2.2):=di _ _
def jdY[LP](a:uB):Option (Int×Int):=
 (j9t (a.1,(a.2.1,a.2.2))).bind λf=>
 cond (!f) (
 some (0,1)) (
 (jb7 a.1).bind λe=>
 (Aa e 1 a.1 a.2.1 a.2.2).bind λc=>
 let d:=(w64 (c.1+c.2.2.2))
 let b:=(w64 (d-1))
 some (b,0))
def j8Q(a:Int):Option (Int):=
 let b:=(Int.tmod a 7)
 let c:=(w64 (b+10))
 let d:=(Int.tmod c 7)
 some d
def j3D(g e i f d a:Int):Option ((Int×Int×Int×Int×Int×Int) ⊕ ((Int×Int×Int×Int×Int))):=
 (j8Q a).bind λc=>
 cond (c != f) (
 let b:=(w64 (a+1))
 some (.inl (g,e,i,f,d,b))) (
 some (.inr (g,e,i,d,a)))
def Ab[LP](e c f d b a:Int):Option ((Int×Int×Int×Int×Int)):=
 LP.lp (unc6 (j3D)) (e,c,f,d,b,a)
theorem JG(e c f d b a):Ab e c f d b a=lpK (j3D e c f d b a) (λh=>Ab h.1 h.2.1 h.2.2.1 h.2.2.2.1 h.2.2.2.2.1 h.2.2.2.2.2):=di _ _
def j3E(i g f a:Int):Option ((Int×Int×Int×Int) ⊕ (Int)):=
 let b:=(w64 (a+7))
 (j7c i g).bind λe=>
 let d:=(w64 (f+e))
 cond (decide (b<d)) (
 let c:=(w64 (a+7))
 some (.inl (i,g,f,c))) (
 some (.inr a))
def Ac[LP](c d b a:Int):Option (Int):=
 LP.lp (unc4 (j3E)) (c,d,b,a)
theorem JH(d c b a):Ac d c b a=lpK (j3E d c b a) (λh=>Ac h.1 h.2.1 h.2.2.1 h.2.2.2):=di _ _
def jdZ[LP](f c b a:Int):Option (Int×Int):=
 (jdY (f,(c,1))).bind λe=>
 let k:Bool:=(cond (cond (e.2 != 0) true (decide (b<1))) true (decide (b>5)))
 let g:Bool:=(cond (cond k true (decide (a<0))) true (decide (a>6)))
 cond g (
 some (0,1)) (
 (Ab f c b a e.1 e.1).bind λd=>
 cond (decide (d.2.2.1<5)) (
 let i:=(w64 (d.2.2.1-1))
 let j:=(w64 (7*i))
 let l:=(w64 (d.2.2.2.2+j))
 some (l,0)) (
 (Ac d.1 d.2.1 d.2.2.2.1 d.2.2.2.2).bind λm=>
 some (m,0)))
def j1F(j:au)(i k d f a:Int)(c:af):Option ((au×Int×Int×Int×Int×Int×af) ⊕ ((au×Int×Int×Int×Int×Int×af))):=
 cond (decide (d>0)) (
 let b:=(w64 (d-1))
 cond (inR b (List.length c)) (
 let g:=(List.getD c (Int.toNat b) (0,0)).1
 cond (decide (g>f)) (
 let e:=(w64 (d-1))
 some (.inl (j,i,k,e,f,a,c))) (
 some (.inr (j,i,k,d,f,a,c)))) none) (
 some (.inr (j,i,k,d,f,a,c)))
def xx[LP](f:au)(c g e d a:Int)(b:af):Option ((au×Int×Int×Int×Int×Int×af)):=
 LP.lp (unc7 (j1F)) (f,c,g,e,d,a,b)
theorem JI(f c g e d a b):xx f c g e d a b=lpK (j1F f c g e d a b) (λh=>xx h.1 h.2.1 h.2.2.1 h.2.2.2.1 h.2.2.2.2.1 h.2.2.2.2.2.1 h.2.2.2.2.2.2):=di _ _
def j1G[LP](d:au)(c v:Int)(t:af):Option ((au×Int×Int×af) ⊕ ((au×Int×af))):=
 cond (inR c (List.length d)) (
 let r:=(List.getD d (Int.toNat c) (0,(0,(0,(0,(0,(0,0)))))))
 cond (decide (v<=r.2.1)) (
 cond (inR c (List.length d)) (
 let j:=(List.getD d (Int.toNat c) (0,(0,(0,(0,(0,(0,0)))))))
 cond (inR c (List.length d)) (
 let s:=(List.getD d (Int.toNat c) (0,(0,(0,(0,(0,(0,0)))))))
 cond (inR c (List.length d)) (
 let i:=(List.getD d (Int.toNat c) (0,(0,(0,(0,(0,(0,0)))))))
 (jdZ v j.2.2.1 s.2.2.2.1 i.2.2.2.2.1).bind λm=>
 let n:=(w64 (m.1*86400))
 cond (inR c (List.length d)) (
 let q:=(List.getD d (Int.toNat c) (0,(0,(0,(0,(0,(0,0)))))))
 let p:=(w64 (n+q.2.2.2.2.2.1))
 cond (inR c (List.length d)) (
 let l:=(List.getD d (Int.toNat c) (0,(0,(0,(0,(0,(0,0)))))))
 let k:=(Int.ofNat (List.length t))
 (xx d c v k p l.2.2.2.2.2.2 t).bind λa=>
 let f:af:=[(a.2.2.2.2.1,a.2.2.2.2.2.1)]
 cond (decide (List.length a.2.2.2.2.2.2+List.length f<=cY)) (
 let b:af:=(a.2.2.2.2.2.2++f)
 let e:=(w64 (a.2.2.2.1+1))
 cond (decide (0<=e)&&decide (e<=(Int.ofNat (List.length b)))) (
 cond (decide (0<=a.2.2.2.1)&&decide (a.2.2.2.1<=(Int.ofNat (List.length b)))) (
 let g:af:=(over b (Int.toNat e) (List.drop (Int.toNat a.2.2.2.1) b))
 let w:=(Int.ofNat (min (List.length (List.drop (Int.toNat a.2.2.2.1) b)) (List.length b-(Int.toNat e))))
 cond (inR a.2.2.2.1 (List.length g)) (
 let u:af:=(List.set g (Int.toNat a.2.2.2.1) (a.2.2.2.2.1,a.2.2.2.2.2.1))
 let o:=(w64 (a.2.2.1+1))
 some (.inl (a.1,a.2.1,o,u))) none) none) none) none) none) none) none) none) none) (
 some (.inr (d,c,t)))) none
def Ad[LP](c:au)(d b:Int)(a:af):Option ((au×Int×af)):=
 LP.lp (unc4 (j1G)) (c,d,b,a)
theorem JJ(c b d a):Ad c b d a=lpK (j1G c b d a) (λh=>Ad h.1 h.2.1 h.2.2.1 h.2.2.2):=di _ _
def j1H[LP](f:au)(c:Int)(g:af):Option ((au×Int×af) ⊕ (af)):=
 let b:=(Int.ofNat (List.length f))
 cond (decide (c<b)) (
 cond (inR c (List.length f)) (
 let e:=(List.getD f (Int.toNat c) (0,(0,(0,(0,(0,(0,0)))))))
 (Ad f c e.1 g).bind λa=>
 let d:=(w64 (a.2.1+1))
 some (.inl (a.1,d,a.2.2))) none) (
 some (.inr g))
def xy[LP](b:au)(c:Int)(a:af):Option (af):=
 LP.lp (unc3 (j1H)) (b,c,a)
theorem JK(b c a):xy b c a=lpK (j1H b c a) (λh=>xy h.1 h.2.1 h.2.2):=di _ _
def j4s[LP](a:au):Option (af):=
 (xy a 0 ([]:af)).bind λb=>
 some b
def j1k(o c:Int)(n:ByteArray)(d:Int)(a:au):Option ((Int×Int×ByteArray×Int×au) ⊕ (Int ⊕ (Int×ByteArray×Int×au))):=
 let j:=(Int.ofNat (List.length a))
 cond (decide (c<j)) (
 cond (inR c (List.length a)) (
 let b:=(List.getD a (Int.toNat c) (0,(0,(0,(0,(0,(0,0)))))))
 (j59 (b.1,(b.2.1,(b.2.2.1,(b.2.2.2.1,(b.2.2.2.2.1,(b.2.2.2.2.2.1,b.2.2.2.2.2.2))))))).bind λi=>
 cond (!i) (
 some (.inr (.inl 1))) (
 cond (inR c (List.length a)) (
 let k:=(List.getD a (Int.toNat c) (0,(0,(0,(0,(0,(0,0)))))))
 cond (inR c (List.length a)) (
 let g:=(List.getD a (Int.toNat c) (0,(0,(0,(0,(0,(0,0)))))))
 let l:=(w64 (k.2.1-g.1))
 let m:=(w64 (l+1))
 let e:=(w64 (o+m))
 let f:=(w64 (c+1))
 some (.inl (e,f,n,d,a))) none) none)) none) (
 some (.inr (.inr (o,n,d,a))))
def uK[LP](d e:Int)(c:ByteArray)(b:Int)(a:au):Option (Int ⊕ (Int×ByteArray×Int×au)):=
 LP.lp (unc5 (j1k)) (d,e,c,b,a)
theorem Ef(d e c b a):uK d e c b a=lpK (j1k d e c b a) (λh=>uK h.1 h.2.1 h.2.2.1 h.2.2.2.1 h.2.2.2.2):=di _ _
def j13(y d:Int)(c e:af):Option ((Int×Int×af×af) ⊕ (Int ⊕ af)):=
 let o:=(Int.ofNat (List.length e))
 cond (decide (d<o)) (
 cond (inR d (List.length e)) (
 let p:=(List.getD e (Int.toNat d) (0,0)).2
 cond (p==y) (
 let r:=(w64 (d+1))
 some (.inl (y,r,c,e))) (
 cond (inR d (List.length e)) (
 let x:=(List.getD e (Int.toNat d) (0,0)).1
 let b:=(w64 (x-y))
 cond (inR d (List.length e)) (
 let a:=(List.getD e (Int.toNat d) (0,0)).2
 let q:=(w64 (a-y))
 (j3Z q (-86399) 86399).bind λt=>
 cond (!t) (
 some (.inr (.inl 6))) (
 (j3Z b 0 8589934592).bind λu=>
 cond (!u) (
 some (.inr (.inl 6))) (
 let v:=(Int.ofNat (List.length c))
 cond (decide (v>0)) (
 let k:=(Int.ofNat (List.length c))
 let f:=(w64 (k-1))
 cond (inR f (List.length c)) (
 let j:=(List.getD c (Int.toNat f) (0,0)).1
 let n:=(w64 (b-j))
 cond (decide (n<604800)) (
 some (.inr (.inl 6))) (
 let i:af:=[(b,a)]
 cond (decide (List.length c+List.length i<=cY)) (
 let m:af:=(c++i)
 let s:=(w64 (d+1))
 some (.inl (a,s,m,e))) none)) none) (
 let g:af:=[(b,a)]
 cond (decide (List.length c+List.length g<=cY)) (
 let l:af:=(c++g)
 let w:=(w64 (d+1))
 some (.inl (a,w,l,e))) none)))) none) none)) none) (
 some (.inr (.inr c)))
def uL[LP](c b:Int)(a d:af):Option (Int ⊕ af):=
 LP.lp (unc4 (j13)) (c,b,a,d)
theorem Ae(c b a d):uL c b a d=lpK (j13 c b a d) (λh=>uL h.1 h.2.1 h.2.2.1 h.2.2.2):=di _ _
def j0t[LP](a:cf):Option (af×Int):=
 (j3Z a.2.1 (-64800) 64800).bind λd=>
 cond (!d) (
 some (([]:af),1)) (
 let b:=(Int.ofNat (List.length a.2.2))
 cond (decide (b>16)) (
 some (([]:af),5)) (
 (uK 0 0 a.1 a.2.1 a.2.2).bind λj=>
 sumC j (λk=>
 some (([]:af),k)) (λg=>
 cond (decide (g.1>640)) (
 some (([]:af),5)) (
 (j4s g.2.2.2).bind λf=>
 (uL g.2.2.1 0 ([]:af) f).bind λi=>
 sumC i (λe=>
 some (([]:af),e)) (λc=>
 some (c,0))))))
def j2u(g f:af)(e a:Int):Option ((af×af×Int×Int) ⊕ (Bool ⊕ Unit)):=
 cond (decide (a<e)) (
 cond (inR a (List.length g)) (
 let b:=(List.getD g (Int.toNat a) (0,0))
 cond (inR a (List.length f)) (
 let c:=(List.getD f (Int.toNat a) (0,0))
 cond (!((b.1==c.1)&&(b.2==c.2))) (
 some (.inr (.inl false))) (
 let d:=(w64 (a+1))
 some (.inl (g,f,e,d)))) none) none) (
 some (.inr (.inr ())))
def Af[LP](c d:af)(a b:Int):Option (Bool ⊕ Unit):=
 LP.lp (unc4 (j2u)) (c,d,a,b)
theorem JL(d c a b):Af d c a b=lpK (j2u d c a b) (λh=>Af h.1 h.2.1 h.2.2.1 h.2.2.2):=di _ _
def j8p[LP](a b:af):Option (Bool):=
 let e:=(Int.ofNat (List.length a))
 let f:=(Int.ofNat (List.length b))
 cond (e != f) (
 some false) (
 let c:=(Int.ofNat (List.length a))
 (Af a b c 0).bind λd=>
 sumC d (λg=>
 some g) (λi=>
 some true))
def j8q[LP](a:cf):Option (Int):=
 (j0B (a.1,(a.2.1,a.2.2))).bind λb=>
 some b.2
def j9x[LP](a:cf):Option (Int):=
 (j0t (a.1,(a.2.1,a.2.2))).bind λb=>
 some b.2
def j4t(a:mB):Option (Int):=
 let e:=(Int.ofNat (List.length a.2))
 cond (e==0) (
 some 0) (
 let d:=(Int.ofNat (List.length a.2))
 let b:=(w64 (d-1))
 cond (inR b (List.length a.2)) (
 let c:=(List.getD a.2 (Int.toNat b) (0,0))
 some c.1) none)
def j3G[LP](a:cf):Option (Int):=
 (j7b (a.1,(a.2.1,a.2.2))).bind λb=>
 cond (b.2 != 0) (
 some 0) (
 (j4t (b.1.1,b.1.2)).bind λc=>
 some c)
def j4a[LP](a:cf):Option (Int):=
 (j0t (a.1,(a.2.1,a.2.2))).bind λb=>
 let f:=(Int.ofNat (List.length b.1))
 cond (cond (b.2 != 0) true (f==0)) (
 some 0) (
 let e:=(Int.ofNat (List.length b.1))
 let c:=(w64 (e-1))
 cond (inR c (List.length b.1)) (
 let d:=(List.getD b.1 (Int.toNat c) (0,0)).1
 some d) none)
def j4Y(b a:Int):Option (Int):=
 cond (!(a==0)) (
 let d:=(Int.tmod b a)
 let e:=(w64 (d+a))
 cond (!(a==0)) (
 let c:=(Int.tmod e a)
 some c) none) none
def j38[LP](a:cf)(c:Int):Option (Int×Int):=
 (j3d (a.1,(a.2.1,a.2.2)) c).bind λb=>
 cond (b.2 != 0) (
 some (0,b.2)) (
 (j1v (b.1.1,b.1.2) c).bind λd=>
 some (d,0))
def j2v(c:af)(g i a:Int):Option ((af×Int×Int×Int) ⊕ (Int)):=
 let b:=(Int.ofNat (List.length c))
 cond ((inR a (List.length c)) || !(decide (a<b))) (
 let d:=(List.getD c (Int.toNat a) (0,0))
 cond (cond (decide (a<b)) (decide (d.1<=g)) false) (
 cond (inR a (List.length c)) (
 let e:=(List.getD c (Int.toNat a) (0,0))
 let f:=(w64 (a+1))
 some (.inl (c,g,e.2,f))) none) (
 some (.inr i))) none
def xz[LP](d:af)(a b c:Int):Option (Int):=
 LP.lp (unc4 (j2v)) (d,a,b,c)
theorem JM(a c b d):xz a c b d=lpK (j2v a c b d) (λh=>xz h.1 h.2.1 h.2.2.1 h.2.2.2):=di _ _
def j8r[LP](c:cf)(b:af)(a:Int):Option (Int):=
 (xz b a c.2.1 0).bind λd=>
 some d
def j1X[LP](a:cf)(b:Int):Option (Int×Int):=
 (j0t (a.1,(a.2.1,a.2.2))).bind λc=>
 cond (c.2 != 0) (
 some (0,8)) (
 (j3Z b 0 8589934592).bind λd=>
 cond (!d) (
 some (0,1)) (
 (j8r (a.1,(a.2.1,a.2.2)) c.1 b).bind λe=>
 some (e,0)))
def j9y(b a:Int):Option ((Int×Int)):=
 let g:=(w64 (b+a))
 let f:=(w64 (g+864000))
 let d:=(w64 (Int.tdiv f 86400))
 let c:=(w64 (d-10))
 let e:=(Int.tmod f 86400)
 some (c,e)
def j4b[LP](a:cf)(c:Int):Option ((Int×Int)×Int):=
 (j1X (a.1,(a.2.1,a.2.2)) c).bind λb=>
 cond (b.2 != 0) (
 some ((0,0),b.2)) (
 (j9y c b.1).bind λd=>
 some ((d.1,d.2),0))
def j5K(a:Int):Option (Bool):=
 (j3Z a (-2) 99422).bind λb=>
 some b
def j1Y(d:Int)(m:ByteArray)(b:Int)(e:au)(j a:Int)(c:af)(i:(List Int)):Option ((Int×ByteArray×Int×au×Int×Int×af×(List Int)) ⊕ ((List Int))):=
 let b3:=(Int.ofNat (List.length c))
 cond (decide (d<b3)) (
 cond (decide (d>=0)) (
 cond (inR d (List.length c)) (
 let p:=(List.getD c (Int.toNat d) (0,0)).2
 cond (inR d (List.length c)) (
 let o:=(List.getD c (Int.toNat d) (0,0)).1
 let b0:=(w64 (d+1))
 let b6:=(Int.ofNat (List.length c))
 cond (decide (b0<b6)) (
 let n:=(w64 (d+1))
 cond (inR n (List.length c)) (
 let b2:=(List.getD c (Int.toNat n) (0,0)).1
 let a7:=(w64 (j*86400))
 let b7:=(w64 (a7+a))
 let l:=(w64 (b7-p))
 cond (cond (decide (l>=o)) (decide (l<b2)) false) (
 cond (decide (List.length i+List.length [l]<=cY)) (
 let b4:(List Int):=(i++[l])
 let w:=(w64 (d+1))
 some (.inl (w,m,b,e,j,a,c,b4))) none) (
 let z:=(w64 (d+1))
 some (.inl (z,m,b,e,j,a,c,i)))) none) (
 let a8:=(w64 (j*86400))
 let a6:=(w64 (a8+a))
 let k:=(w64 (a6-p))
 cond (cond (decide (k>=o)) (decide (k<8589934593)) false) (
 cond (decide (List.length i+List.length [k]<=cY)) (
 let a9:(List Int):=(i++[k])
 let y:=(w64 (d+1))
 some (.inl (y,m,b,e,j,a,c,a9))) none) (
 let a0:=(w64 (d+1))
 some (.inl (a0,m,b,e,j,a,c,i))))) none) none) (
 let b5:=(w64 (d+1))
 let b1:=(Int.ofNat (List.length c))
 cond (decide (b5<b1)) (
 let q:=(w64 (d+1))
 cond (inR q (List.length c)) (
 let a5:=(List.getD c (Int.toNat q) (0,0)).1
 let a2:=(w64 (j*86400))
 let s:=(w64 (a2+a))
 let f:=(w64 (s-b))
 cond (cond (decide (f>=0)) (decide (f<a5)) false) (
 cond (decide (List.length i+List.length [f]<=cY)) (
 let r:(List Int):=(i++[f])
 let a3:=(w64 (d+1))
 some (.inl (a3,m,b,e,j,a,c,r))) none) (
 let a1:=(w64 (d+1))
 some (.inl (a1,m,b,e,j,a,c,i)))) none) (
 let v:=(w64 (j*86400))
 let x:=(w64 (v+a))
 let g:=(w64 (x-b))
 cond (cond (decide (g>=0)) (decide (g<8589934593)) false) (
 cond (decide (List.length i+List.length [g]<=cY)) (
 let u:(List Int):=(i++[g])
 let t:=(w64 (d+1))
 some (.inl (t,m,b,e,j,a,c,u))) none) (
 let a4:=(w64 (d+1))
 some (.inl (a4,m,b,e,j,a,c,i)))))) (
 some (.inr i))
def uM[LP](e:Int)(f:ByteArray)(a:Int)(c:au)(g b:Int)(d:af)(i:(List Int)):Option ((List Int)):=
 LP.lp (unc8 (j1Y)) (e,f,a,c,g,b,d,i)
theorem JN(e f a c g b d i):uM e f a c g b d i=lpK (j1Y e f a c g b d i) (λh=>uM h.1 h.2.1 h.2.2.1 h.2.2.2.1 h.2.2.2.2.1 h.2.2.2.2.2.1 h.2.2.2.2.2.2.1 h.2.2.2.2.2.2.2):=di _ _
def j2w[LP](a:cf)(b:(Int×Int)):Option ((List Int)×Int):=
 (j0t (a.1,(a.2.1,a.2.2))).bind λc=>
 cond (c.2 != 0) (
 some (([]:(List Int)),8)) (
 (j3Z b.2 0 86399).bind λd=>
 cond (!d) (
 some (([]:(List Int)),1)) (
 (j5K b.1).bind λe=>
 cond (!e) (
 some (([]:(List Int)),0)) (
 (uM (-1) a.1 a.2.1 a.2.2 b.1 b.2 c.1 ([]:(List Int))).bind λf=>
 some (f,0))))
def j2V(c:Int)(y:ByteArray)(d:Int)(f:au)(g a:Int)(b:af):Option ((Int×ByteArray×Int×au×Int×Int×af) ⊕ ((Int×Int) ⊕ Unit)):=
 let b2:=(Int.ofNat (List.length b))
 cond (decide (c<b2)) (
 cond (decide (c>=0)) (
 cond (inR c (List.length b)) (
 let i:=(List.getD b (Int.toNat c) (0,0)).2
 cond (inR c (List.length b)) (
 let e:=(List.getD b (Int.toNat c) (0,0)).1
 let x:=(w64 (c+1))
 let a3:=(Int.ofNat (List.length b))
 cond (decide (x<a3)) (
 let j:=(w64 (c+1))
 cond (inR j (List.length b)) (
 let a1:=(List.getD b (Int.toNat j) (0,0)).1
 let a6:=(w64 (g*86400))
 let a7:=(w64 (a6+a))
 let o:=(w64 (a7-i))
 let m:Int:=(if o>e then o else e:Int)
 cond (decide (m<a1)) (
 some (.inr (.inl (m,0)))) (
 let b1:=(w64 (c+1))
 some (.inl (b1,y,d,f,g,a,b)))) none) (
 let b0:=(w64 (g*86400))
 let a2:=(w64 (b0+a))
 let n:=(w64 (a2-i))
 let l:Int:=(if n>e then n else e:Int)
 cond (decide (l<8589934593)) (
 some (.inr (.inl (l,0)))) (
 let a9:=(w64 (c+1))
 some (.inl (a9,y,d,f,g,a,b))))) none) none) (
 let a5:=(w64 (c+1))
 let v:=(Int.ofNat (List.length b))
 cond (decide (a5<v)) (
 let q:=(w64 (c+1))
 cond (inR q (List.length b)) (
 let z:=(List.getD b (Int.toNat q) (0,0)).1
 let w:=(w64 (g*86400))
 let a4:=(w64 (w+a))
 let k:=(w64 (a4-d))
 let p:Int:=(if k>0 then k else 0:Int)
 cond (decide (p<z)) (
 some (.inr (.inl (p,0)))) (
 let t:=(w64 (c+1))
 some (.inl (t,y,d,f,g,a,b)))) none) (
 let u:=(w64 (g*86400))
 let a0:=(w64 (u+a))
 let r:=(w64 (a0-d))
 let s:Int:=(if r>0 then r else 0:Int)
 cond (decide (s<8589934593)) (
 some (.inr (.inl (s,0)))) (
 let a8:=(w64 (c+1))
 some (.inl (a8,y,d,f,g,a,b)))))) (
 some (.inr (.inr ())))
def xA[LP](g:Int)(e:ByteArray)(a:Int)(c:au)(f b:Int)(d:af):Option ((Int×Int) ⊕ Unit):=
 LP.lp (unc7 (j2V)) (g,e,a,c,f,b,d)
theorem JO(g e a c f b d):xA g e a c f b d=lpK (j2V g e a c f b d) (λh=>xA h.1 h.2.1 h.2.2.1 h.2.2.2.1 h.2.2.2.2.1 h.2.2.2.2.2.1 h.2.2.2.2.2.2):=di _ _
def j40[LP](a:cf)(b:(Int×Int)):Option (Int×Int):=
 (j0t (a.1,(a.2.1,a.2.2))).bind λc=>
 cond (c.2 != 0) (
 some (0,8)) (
 (j3Z b.2 0 86399).bind λe=>
 cond (!e) (
 some (0,1)) (
 cond (decide (b.1<(-2))) (
 some (0,0)) (
 (j5K b.1).bind λd=>
 cond (!d) (
 some (0,10)) (
 (xA (-1) a.1 a.2.1 a.2.2 b.1 b.2 c.1).bind λf=>
 sumC f (λg=>
 some (g.1,g.2)) (λi=>
 some (0,10))))))
def j2x(g f:(List Int))(e a:Int):Option (((List Int)×(List Int)×Int×Int) ⊕ (Bool ⊕ Unit)):=
 cond (decide (a<e)) (
 cond (inR a (List.length g)) (
 let b:=(List.getD g (Int.toNat a) 0)
 cond (inR a (List.length f)) (
 let c:=(List.getD f (Int.toNat a) 0)
 cond (b != c) (
 some (.inr (.inl false))) (
 let d:=(w64 (a+1))
 some (.inl (g,f,e,d)))) none) none) (
 some (.inr (.inr ())))
def Ag[LP](c d:(List Int))(a b:Int):Option (Bool ⊕ Unit):=
 LP.lp (unc4 (j2x)) (c,d,a,b)
theorem JP(d c a b):Ag d c a b=lpK (j2x d c a b) (λh=>Ag h.1 h.2.1 h.2.2.1 h.2.2.2):=di _ _
def j8s[LP](a b:(List Int)):Option (Bool):=
 let e:=(Int.ofNat (List.length a))
 let f:=(Int.ofNat (List.length b))
 cond (e != f) (
 some false) (
 let c:=(Int.ofNat (List.length a))
 (Ag a b c 0).bind λd=>
 sumC d (λg=>
 some g) (λi=>
 some true))
def j1I[LP](u t s:Int)(q:eb)(r:Int)(m:(List Int))(p:Int)(k:af)(e:Int)(d:ByteArray)(b:Int)(c:au):Option ((Int×Int×Int×eb×Int×(List Int)×Int×af×Int×ByteArray×Int×au) ⊕ (Bool ⊕ (Int×Int×Int×eb×Int×(List Int)×Int×ByteArray×Int×au))):=
 cond (decide (e<3)) (
 cond (inR e 3) (
 let a:=(List.getD k (Int.toNat e) (0,0))
 (j19 (d,(b,c)) (a.1,a.2)).bind λf=>
 (j2w (d,(b,c)) (a.1,a.2)).bind λi=>
 (j2o (d,(b,c)) (a.1,a.2)).bind λj=>
 (j40 (d,(b,c)) (a.1,a.2)).bind λg=>
 (j8s f.1 i.1).bind λl=>
 let o:Bool:=(cond (cond (cond (!l) true (f.2 != i.2)) true (j.1 != g.1)) true (j.2 != g.2))
 cond o (
 some (.inr (.inl false))) (
 let n:=(w64 (e+1))
 some (.inl (u,t,s,q,r,m,p,k,n,d,b,c)))) none) (
 some (.inr (.inr (u,t,s,q,r,m,p,d,b,c))))
def Ah[LP](m l k:Int)(i:eb)(g:Int)(f:(List Int))(e:Int)(d:af)(c:Int)(j:ByteArray)(a:Int)(b:au):Option (Bool ⊕ (Int×Int×Int×eb×Int×(List Int)×Int×ByteArray×Int×au)):=
 LP.lp (jkV (j1I)) (m,l,k,i,g,f,e,d,c,j,a,b)
theorem JQ(m l k i g f e d c j a b):Ah m l k i g f e d c j a b=lpK (j1I m l k i g f e d c j a b) (λh=>Ah h.1 h.2.1 h.2.2.1 h.2.2.2.1 h.2.2.2.2.1 h.2.2.2.2.2.1 h.2.2.2.2.2.2.1 h.2.2.2.2.2.2.2.1 h.2.2.2.2.2.2.2.2.1 h.2.2.2.2.2.2.2.2.2.1 h.2.2.2.2.2.2.2.2.2.2.1 h.2.2.2.2.2.2.2.2.2.2.2):=di _ _
def j1J[LP](a0 v u:Int)(w:eb)(x:Int)(q:(List Int))(g:Int)(k:ByteArray)(d:Int)(e:au):Option ((Int×Int×Int×eb×Int×(List Int)×Int×ByteArray×Int×au) ⊕ (Bool ⊕ (Int×Int×Int×eb×Int))):=
 cond (decide (g<5)) (
 cond (inR g 5) (
 let c:=(List.getD q (Int.toNat g) 0)
 (j38 (k,(d,e)) c).bind λi=>
 (j1X (k,(d,e)) c).bind λj=>
 (j1W (k,(d,e)) c).bind λf=>
 (j4b (k,(d,e)) c).bind λa=>
 let t:Bool:=(cond (cond (i.1 != j.1) true (i.2 != j.2)) true (!((f.1.1==a.1.1)&&(f.1.2==a.1.2))))
 cond (cond t true (f.2 != a.2)) (
 some (.inr (.inl false))) (
 (j4Y v 3).bind λp=>
 let m:=(w64 (a.1.1+p))
 let o:=(w64 (m-1))
 (j4Y u 86402).bind λl=>
 let r:=(w64 (l-1))
 let s:af:=[(a.1.1,a.1.2),(v,u),(o,r)]
 (Ah a0 v u w x q g s 0 k d e).bind λy=>
 sumC y (λz=>
 some (.inr (.inl z))) (λb=>
 let n:=(w64 (b.2.2.2.2.2.2.1+1))
 some (.inl (b.1,b.2.1,b.2.2.1,b.2.2.2.1,b.2.2.2.2.1,b.2.2.2.2.2.1,n,b.2.2.2.2.2.2.2.1,b.2.2.2.2.2.2.2.2.1,b.2.2.2.2.2.2.2.2.2))))) none) (
 some (.inr (.inr (a0,v,u,w,x))))
def xB[LP](k j i:Int)(f:eb)(e:Int)(d:(List Int))(c:Int)(g:ByteArray)(a:Int)(b:au):Option (Bool ⊕ (Int×Int×Int×eb×Int)):=
 LP.lp (jmS (j1J)) (k,j,i,f,e,d,c,g,a,b)
theorem JR(k j i f e d c g a b):xB k j i f e d c g a b=lpK (j1J k j i f e d c g a b) (λh=>xB h.1 h.2.1 h.2.2.1 h.2.2.2.1 h.2.2.2.2.1 h.2.2.2.2.2.1 h.2.2.2.2.2.2.1 h.2.2.2.2.2.2.2.1 h.2.2.2.2.2.2.2.2.1 h.2.2.2.2.2.2.2.2.2):=di _ _
def j1K[LP](a1 a5 a2:Int)(k:eb)(f:Int):Option ((Int×Int×Int×eb×Int) ⊕ (Bool ⊕ Unit)):=
 cond (decide (f<4)) (
 cond (inR f 4) (
 let a:=(List.getD k (Int.toNat f) (ByteArray.empty,(0,([]:au))))
 (j0B (a.1,(a.2.1,a.2.2))).bind λi=>
 (j0t (a.1,(a.2.1,a.2.2))).bind λb=>
 (j8p i.1 b.1).bind λa9=>
 cond (!a9) (
 some (.inr (.inl false))) (
 cond (i.2 != b.2) (
 some (.inr (.inl false))) (
 (j8q (a.1,(a.2.1,a.2.2))).bind λa6=>
 (j9x (a.1,(a.2.1,a.2.2))).bind λa3=>
 cond (a6 != a3) (
 some (.inr (.inl false))) (
 (j3G (a.1,(a.2.1,a.2.2))).bind λa8=>
 (j4a (a.1,(a.2.1,a.2.2))).bind λa7=>
 cond (a8 != a7) (
 some (.inr (.inl false))) (
 let a4:=(Int.ofNat (List.length b.1))
 cond (decide (a4>0)) (
 let n:=(Int.ofNat (List.length b.1))
 (j4Y a1 n).bind λg=>
 cond (inR g (List.length b.1)) (
 let e:=(List.getD b.1 (Int.toNat g) (0,0)).1
 (j4Y a2 9).bind λy=>
 let o:=(w64 (e+y))
 let w:=(w64 (o-4))
 (j4Y a5 90000).bind λu=>
 let s:=(w64 (e+u))
 let t:=(w64 (s-45000))
 let l:(List Int):=[a1,w,t,0,8589934592]
 (xB a1 a5 a2 k f l 0 a.1 a.2.1 a.2.2).bind λb0=>
 sumC b0 (λb3=>
 some (.inr (.inl b3))) (λc=>
 let x:=(w64 (c.2.2.2.2+1))
 some (.inl (c.1,c.2.1,c.2.2.1,c.2.2.2.1,x)))) none) (
 (j4Y a2 9).bind λj=>
 let r:=(w64 (1767225600+j))
 let m:=(w64 (r-4))
 (j4Y a5 90000).bind λz=>
 let p:=(w64 (1767225600+z))
 let v:=(w64 (p-45000))
 let a0:(List Int):=[a1,m,v,0,8589934592]
 (xB a1 a5 a2 k f a0 0 a.1 a.2.1 a.2.2).bind λb1=>
 sumC b1 (λb2=>
 some (.inr (.inl b2))) (λd=>
 let q:=(w64 (d.2.2.2.2+1))
 some (.inl (d.1,d.2.1,d.2.2.1,d.2.2.2.1,q))))))))) none) (
 some (.inr (.inr ())))
def Aj[LP](e d c:Int)(b:eb)(a:Int):Option (Bool ⊕ Unit):=
 LP.lp (unc5 (j1K)) (e,d,c,b,a)
theorem JS(e d c b a):Aj e d c b a=lpK (j1K e d c b a) (λh=>Aj h.1 h.2.1 h.2.2.1 h.2.2.2.1 h.2.2.2.2):=di _ _
def j5M[LP](a:cf)(e:(List Int))(l f c:Int):Option (Bool):=
 let m:=(Int.ofNat (List.length a.2.2))
 cond (decide (m>20)) (
 (j4i).bind λo=>
 some o) (
 (ja2 e).bind λn=>
 cond (!n) (
 (j4i).bind λi=>
 some i) (
 (jbW e).bind λj=>
 (j4X j.1 j.2 (ByteArray.mk #[97])).bind λb=>
 (j9s b.2.1 b.2.2 (b.1.1,(b.1.2.1,b.1.2.2))).bind λd=>
 (j5y).bind λg=>
 let p:eb:=[(b.1.1,(b.1.2.1,b.1.2.2)),(d.1.1,(d.1.2.1,d.1.2.2)),(a.1,(a.2.1,a.2.2)),(g.1,(g.2.1,g.2.2))]
 (Aj l f c p 0).bind λq=>
 sumC q (λr=>
 some r) (λs=>
 (j4i).bind λk=>
 some k)))
end
end Go.Proofs.Pw
