/- Plain la, printed by a program out of the given code. -/
import Derived.Test.YtjpgjpnfacnmaaaGreatLSLS
open Go Go.Lft
set_option linter.unusedVariables false
namespace Go.Proofs.Pw
noncomputable section
abbrev ae:Type:=(List (Int×Int))
abbrev oq:Type:=(Int×(List Int))
abbrev pd:Type:=(Int×(Int×Int))
abbrev BQ:Type:=((Int×Int)×Int)
abbrev af:Type:=(List pd)
abbrev cX:Type:=(List BQ)
abbrev fJ:Type:=(Int×ae)
abbrev sE:Type:=(ByteArray×oq)
abbrev db:Type:=(List fJ)
abbrev eR:Type:=(List (Int×pd))
abbrev pN:Type:=(Int×(Int×pd))
abbrev an:Type:=(List sE)
abbrev aQ:Type:=(List pN)
abbrev u9:Type:=(Int×(Int×pN))
abbrev aS:Type:=(List u9)
abbrev Ep:Type:=(ByteArray×(Int×(ae×(Int×(Int×Bool)))))
abbrev al:Type:=(List Ep)
abbrev dN:Type:=(ByteArray×(Int×aS))
abbrev aj:Type:=(List dN)
abbrev fe:Type:=(ByteArray×(Int×((Int×Int)×(Int×(Int×((List Int)×(ae×(Int×Int))))))))
abbrev aV:Type:=(List fe)
abbrev lV:Type:=(ByteArray×(aV×aQ))
abbrev ao:Type:=(List lV)
abbrev cC:Type:=(aj×(al×(an×ao)))
abbrev mP:Type:=(cC×db)
abbrev u8{A B C D E F G H T I R:Type}(u:T->I->R)(f:A->B->C->D->E->F->G->H->T)(h:A×B×C×D×E×F×G×H×I):R:=u (f h.1 h.2.1 h.2.2.1 h.2.2.2.1 h.2.2.2.2.1 h.2.2.2.2.2.1 h.2.2.2.2.2.2.1 h.2.2.2.2.2.2.2.1) h.2.2.2.2.2.2.2.2
abbrev unc2{A0 A1 R:Type}(f:A0->A1->R)(h:A0×A1):R:=f h.1 h.2
abbrev unc3{A0 A1 A2 R:Type}(f:A0->A1->A2->R)(h:A0×A1×A2):R:=f h.1 h.2.1 h.2.2
abbrev unc4{A0 A1 A2 A3 R:Type}(f:A0->A1->A2->A3->R)(h:A0×A1×A2×A3):R:=f h.1 h.2.1 h.2.2.1 h.2.2.2
abbrev unc5{A0 A1 A2 A3 A4 R:Type}(f:A0->A1->A2->A3->A4->R)(h:A0×A1×A2×A3×A4):R:=f h.1 h.2.1 h.2.2.1 h.2.2.2.1 h.2.2.2.2
abbrev unc6{A0 A1 A2 A3 A4 A5 R:Type}(f:A0->A1->A2->A3->A4->A5->R)(h:A0×A1×A2×A3×A4×A5):R:=f h.1 h.2.1 h.2.2.1 h.2.2.2.1 h.2.2.2.2.1 h.2.2.2.2.2
abbrev unc7{A0 A1 A2 A3 A4 A5 A6 R:Type}(f:A0->A1->A2->A3->A4->A5->A6->R)(h:A0×A1×A2×A3×A4×A5×A6):R:=f h.1 h.2.1 h.2.2.1 h.2.2.2.1 h.2.2.2.2.1 h.2.2.2.2.2.1 h.2.2.2.2.2.2
abbrev unc8{A0 A1 A2 A3 A4 A5 A6 A7 R:Type}(f:A0->A1->A2->A3->A4->A5->A6->A7->R)(h:A0×A1×A2×A3×A4×A5×A6×A7):R:=f h.1 h.2.1 h.2.2.1 h.2.2.2.1 h.2.2.2.2.1 h.2.2.2.2.2.1 h.2.2.2.2.2.2.1 h.2.2.2.2.2.2.2
abbrev unc9{A0 A1 A2 A3 A4 A5 A6 A7 A8 R:Type}(f:A0->A1->A2->A3->A4->A5->A6->A7->A8->R)(h:A0×A1×A2×A3×A4×A5×A6×A7×A8):R:=f h.1 h.2.1 h.2.2.1 h.2.2.2.1 h.2.2.2.2.1 h.2.2.2.2.2.1 h.2.2.2.2.2.2.1 h.2.2.2.2.2.2.2.1 h.2.2.2.2.2.2.2.2
def jko(a:List Int):Option Bool:=
 let b:=Int.ofNat a.length
 some (decide (b<=500))
def j4x(f e:af)(l b:Int):Option ((af×af×Int×Int) ⊕ (Bool ⊕ Unit)):=cond (decide (b<l)) (cond (inR b e.length) (let a:=List.getD e b.toNat (0,(0,0))
 cond (decide (a.1<0)) (some (.inr (.inl false))) (cond (decide (a.1>=32)) (some (.inr (.inl false))) (cond (decide (b>0)) (let c:=w64 (b-1)
 cond (inR c f.length) (let k:=List.getD f c.toNat (0,(0,0))
 cond (decide (a.1<=k.1)) (some (.inr (.inl false))) (cond (decide (a.2.1<0)) (some (.inr (.inl false))) (cond (decide (a.2.1>8589934592)) (some (.inr (.inl false))) (cond (decide (a.2.2<a.2.1)) (some (.inr (.inl false))) (let d:=w64 (8*a.2.1)
 cond (decide (a.2.2>d)) (some (.inr (.inl false))) (let j:=w64 (b+1)
 some (.inl (f,e,l,j)))))))) none) (cond (decide (a.2.1<0)) (some (.inr (.inl false))) (cond (decide (a.2.1>8589934592)) (some (.inr (.inl false))) (cond (decide (a.2.2<a.2.1)) (some (.inr (.inl false))) (let g:=w64 (8*a.2.1)
 cond (decide (a.2.2>g)) (some (.inr (.inl false))) (let i:=w64 (b+1)
 some (.inl (f,e,l,i)))))))))) none) (some (.inr (.inr ())))
def zL[LP](c b:af)(d a:Int):Option (Bool ⊕ Unit):=LP.lp (unc4 j4x) (c,b,d,a)
theorem We(d c b a):zL d c b a=lpK (j4x d c b a) (λh=>zL h.1 h.2.1 h.2.2.1 h.2.2.2):=bh _ _
def j6z[LP](a:af):Option Bool:=
 let d:=Int.ofNat a.length
 cond (decide (d>32)) (some false) (let b:=Int.ofNat a.length
 (zL a a b 0).bind λc=>sumC c (λe=>some e) (λf=>some true))
def jak(e:Int)(d:af)(f b:Int):Option ((Int×af×Int×Int) ⊕ (Int ⊕ Unit)):=cond (decide (b<f)) (cond (inR b d.length) (let a:=List.getD d b.toNat (0,(0,0))
 cond (a.1==e) (some (.inr (.inl a.2.2))) (let c:=w64 (b+1)
 some (.inl (e,d,f,c)))) none) (some (.inr (.inr ())))
def Nr[LP](a:Int)(b:af)(d c:Int):Option (Int ⊕ Unit):=LP.lp (unc4 jak) (a,b,d,c)
def j1Y[LP](b:af)(a:Int):Option Int:=
 let c:=Int.ofNat b.length
 (Nr a b c 0).bind λd=>sumC d (λe=>some e) (λf=>some 0)
def j66(d:af)(l a m e f n c g:Int):Option ((af×Int×Int×Int×Int×Int×Int×Int×Int) ⊕ (Int×Int×Int×Int×Int×Int)):=cond (decide (a<l)) (cond (inR a d.length) (let b:=List.getD d a.toNat (0,(0,0))
 let k:=w64 (c+b.2.1)
 let j:=w64 (g+b.2.2)
 let i:=w64 (a+1)
 some (.inl (d,l,i,m,e,f,n,k,j))) none) (some (.inr (m,e,f,n,c,g)))
def BR[LP](e:af)(g f i b c j a d:Int):Option (Int×Int×Int×Int×Int×Int):=LP.lp (unc9 j66) (e,g,f,i,b,c,j,a,d)
theorem Wh(e g f i b c j a d):BR e g f i b c j a d=lpK (j66 e g f i b c j a d) (λh=>BR h.1 h.2.1 h.2.2.1 h.2.2.2.1 h.2.2.2.2.1 h.2.2.2.2.2.1 h.2.2.2.2.2.2.1 h.2.2.2.2.2.2.2.1 h.2.2.2.2.2.2.2.2):=bh _ _
def jbt[LP](a:af):Option pd:=(j6z a).bind λd=>cond (!d) (some ((-1),(0,0))) (let c:=Int.ofNat a.length
 (BR a c 0 0 0 0 (-1) 0 0).bind λb=>some (b.2.2.2.1,(b.2.2.2.2.1,b.2.2.2.2.2)))
def jkY(a:Int):Option Bool:=
 let b:Bool:=cond (decide (a>=(-4611686018427387904))) (decide (a<=4611686018427387904)) false
 some b
def joB(a:Int):Option Int:=cond (decide (a<0)) (let b:=w64 (0-a)
 some b) (some a)
def jee(c a:Int):Option ((Int×Int) ⊕ (Int)):=cond (a != 0) (cond (!(a==0)) (let b:=Int.tmod c a
 some (.inl (a,b))) none) (some (.inr c))
def Ns[LP](b a:Int):Option Int:=LP.lp (unc2 jee) (b,a)
def jgw[LP](b a:Int):Option Int:=(Ns b a).bind λc=>some c
def jef[LP](b a:Int):Option BQ:=cond (cond (decide (a<1)) true (decide (a>4611686018427387904))) (some ((0,0),1)) ((jkY b).bind λd=>cond (!d) (some ((0,0),1)) ((joB b).bind λf=>(jgw f a).bind λc=>cond (!(c==0)) (let g:=w64 (Int.tdiv b c)
 cond (!(c==0)) (let e:=w64 (Int.tdiv a c)
 some ((g,e),0)) none) none))
def jeg[LP](b:af)(a:Int):Option BQ:=(j6z b).bind λg=>cond (!g) (some ((0,0),8)) ((j1Y b a).bind λe=>(jbt b).bind λd=>let f:Int:=if d.2.2>1 then d.2.2 else 1
 (jef e f).bind λc=>some ((c.1.1,c.1.2),c.2))
def j5i[LP](j:af)(l:List Int)(m:Int)(c:List Int)(i a k b:Int):Option ((af×(List Int)×Int×(List Int)×Int×Int×Int×Int) ⊕ (af×(List Int)×Int×Int×Int)):=cond (decide (a<i)) (cond (inR a c.length) (let f:=List.getD c a.toNat 0
 (j1Y j f).bind λe=>let g:=w64 (m+e)
 let d:=w64 (a+1)
 some (.inl (j,l,g,c,i,d,k,b))) none) (some (.inr (j,l,m,k,b)))
def Nt[LP](g:af)(f:List Int)(i:Int)(c:List Int)(d b e a:Int):Option (af×(List Int)×Int×Int×Int):=LP.lp (unc8 j5i) (g,f,i,c,d,b,e,a)
def j5j[LP](l:af)(o:List Int)(p n:Int)(c:List Int)(k a m d:Int):Option ((af×(List Int)×Int×Int×(List Int)×Int×Int×Int×Int) ⊕ ((List Int)×Int×Int×Int×Int)):=cond (decide (a<k)) (cond (inR a c.length) (let b:=List.getD c a.toNat 0
 (j1Y l b).bind λj=>(j1Y l b).bind λg=>let e:=w64 (j*g)
 let i:=w64 (n+e)
 let f:=w64 (a+1)
 some (.inl (l,o,p,i,c,k,f,m,d))) none) (some (.inr (o,p,n,m,d)))
def Nu[LP](i:af)(g:List Int)(j f:Int)(b:List Int)(d c e a:Int):Option ((List Int)×Int×Int×Int×Int):=LP.lp (unc9 j5j) (i,g,j,f,b,d,c,e,a)
def jgz[LP](c:af)(a:List Int):Option BQ:=(j6z c).bind λk=>cond (!k) (some ((0,0),8)) (let m:=Int.ofNat a.length
 cond (decide (m>32)) (some ((0,0),5)) (let j:=Int.ofNat a.length
 (Nt c a 0 a j 0 0 0).bind λb=>cond (decide (b.2.2.1>268435456)) (some ((0,0),5)) (cond (b.2.2.1==0) (some ((1,1),0)) (let l:=Int.ofNat b.2.1.length
 (Nu b.1 b.2.1 b.2.2.1 0 b.2.1 l 0 b.2.2.2.1 b.2.2.2.2).bind λe=>let f:=w64 (e.2.1*e.2.1)
 let g:=Int.ofNat e.1.length
 let i:=w64 (g*e.2.2.1)
 (jef f i).bind λd=>some ((d.1.1,d.1.2),d.2)))))
def j40[LP](k:af)(l m:Int)(e:List Int)(j a:Int):Option ((af×Int×Int×(List Int)×Int×Int) ⊕ (Int×Int)):=cond (decide (a<j)) (cond (inR a e.length) (let c:=List.getD e a.toNat 0
 (j1Y k c).bind λd=>let i:Int:=if d<l then d else l
 (j1Y k c).bind λb=>let g:Int:=if b>m then b else m
 let f:=w64 (a+1)
 some (.inl (k,i,g,e,j,f))) none) (some (.inr (l,m)))
def Nv[LP](d:af)(e f:Int)(c:List Int)(a b:Int):Option (Int×Int):=LP.lp (unc6 j40) (d,e,f,c,a,b)
def jc1[LP](b:af)(a:List Int):Option Int:=(j6z b).bind λl=>let d:=Int.ofNat a.length
 cond (cond (!l) true (d==0)) (some 0) (cond (inR 0 a.length) (let k:=List.getD a 0 0
 (j1Y b k).bind λg=>cond (inR 0 a.length) (let e:=List.getD a 0 0
 (j1Y b e).bind λj=>let c:=Int.ofNat a.length
 (Nv b g j a c 0).bind λf=>let i:=w64 (f.2-f.1)
 some i) none) none)
def j9O[LP]  : Option Bool:=
 let d:af:=[(0,(100,100)),(1,(300,300))]
 (jeg d 0).bind λc=>let i:List Int:=[0,1]
 (jgz d i).bind λb=>let e:Bool:=cond (cond (c.2==0) (b.2==0) false) ((c.1.1==1)&&(c.1.2==4)) false
 cond (cond e ((b.1.1==4)&&(b.1.2==5)) false) (let f:List Int:=[0,1]
 (jc1 d f).bind λg=>cond (g==200) ((jbt d).bind λa=>some ((a.1==(-1))&&((a.2.1==400)&&(a.2.2==400)))) (some false)) (some false)
def jmx(a:List Int):Option ((List Int)×Int):=some (a,0)
def j07(b:List Int)(a c:Int):Option (Int×(List Int)×Int):=
 let g:=Int.ofNat b.length
 cond (decide (a>=g)) (some (0,b,a)) (cond (decide (c<1)) (some (0,b,a)) (cond (inR a b.length) (let f:=List.getD b a.toNat 0
 cond (!(c==0)) (let d:=Int.tmod f c
 let e:=w64 (a+1)
 cond (decide (d<0)) (let i:=w64 (d+c)
 some (i,b,e)) (some (d,b,e))) none) none))
def j0W(d:List Int)(b:Int)(a:List Int):Option (Int×(List Int)×Int):=
 let f:=Int.ofNat a.length
 (j07 d b f).bind λc=>cond (inR c.1 a.length) (let e:=List.getD a c.1.toNat 0
 some (e,c.2.1,c.2.2)) none
def j3U(a0:List Int)(m:Int)(a:ByteArray):Option (dN×(List Int)×Int):=
 let b1:List Int:=[0,4,(-20),22,48,(-47)]
 (j0W a0 m b1).bind λs=>(j07 s.2.1 s.2.2 2).bind λr=>(j07 r.2.1 r.2.2 3).bind λu=>let b7:=w64 (r.1*u.1)
 let b2:=w64 (s.1+b7)
 let c:=w64 (900*b2)
 (j07 u.2.1 u.2.2 2).bind λl=>let g:=w64 (2025+l.1)
 (j07 l.2.1 l.2.2 4).bind λb=>cond (b.1==1) (let b0:=w64 (c+3600)
 let a1:aS:=[(2025,(g,(3,(5,(6,(7200,b0)))))),(2025,(g,(10,(5,(6,(10800,c))))))]
 some ((a,(c,a1)),b.2.1,b.2.2)) (cond (b.1==2) ((j07 b.2.1 b.2.2 4).bind λn=>let b6:=w64 (1+n.1)
 (j07 n.2.1 n.2.2 7).bind λk=>(j07 k.2.1 k.2.2 24).bind λq=>let a7:=w64 (3600*q.1)
 (j07 q.2.1 q.2.2 8).bind λi=>let a8:=w64 (1+i.1)
 let a9:=w64 (1800*a8)
 let a6:=w64 (c+a9)
 (j07 i.2.1 i.2.2 2).bind λp=>let a4:=w64 (2+p.1)
 let a5:List Int:=[2,3,5]
 (j0W p.2.1 p.2.2 a5).bind λv=>(j07 v.2.1 v.2.2 7).bind λo=>(j07 o.2.1 o.2.2 24).bind λx=>let b4:=w64 (3600*x.1)
 let a3:aS:=[(2025,(g,(1,(b6,(k.1,(a7,a6)))))),(2025,(g,(a4,(v.1,(o.1,(b4,c))))))]
 some ((a,(c,a3)),x.2.1,x.2.2)) (cond (b.1==3) (let b3:List Int:=[3600,(-3600),82800,(-82800),43200]
 (j0W b.2.1 b.2.2 b3).bind λf=>let t:=w64 (c+f.1)
 cond (cond (decide (t>64800)) true (decide (t<(-64800)))) ((j07 f.2.1 f.2.2 7).bind λw=>(j07 w.2.1 w.2.2 48).bind λj=>let a2:=w64 (1800*j.1)
 let b5:aS:=[(2026,(2026,(1,(2,(w.1,(a2,0))))))]
 some ((a,(c,b5)),j.2.1,j.2.2)) ((j07 f.2.1 f.2.2 7).bind λe=>(j07 e.2.1 e.2.2 48).bind λd=>let y:=w64 (1800*d.1)
 let z:aS:=[(2026,(2026,(1,(2,(e.1,(y,t))))))]
 some ((a,(c,z)),d.2.1,d.2.2))) (some ((a,(c,([]:aS))),b.2.1,b.2.2))))
def jhq  : Option (List ByteArray):=
 let a:List ByteArray:=[(ByteArray.mk #[97,100,97]),(ByteArray.mk #[98,111,98]),(ByteArray.mk #[99,108,101,111]),(ByteArray.mk #[100,97,110]),(ByteArray.mk #[101,118,101]),(ByteArray.mk #[102,97,121]),(ByteArray.mk #[103,117,115]),(ByteArray.mk #[104,97,108])]
 some a
def j0N(c:List Int)(b a:Int):Option (Bool×(List Int)×Int):=(j07 c b a).bind λd=>let e:=w64 (a-1)
 some ((d.1==e),d.2.1,d.2.2)
def j1R(r p:Int)(q:List Int)(g:Int)(n:ae):Option ((Int×Int×(List Int)×Int×ae) ⊕ ((List Int)×Int×ae)):=cond (decide (p>0)) ((j07 q g 30).bind λb=>let o:=w64 (3600*b.1)
 let m:=w64 (r+o)
 (j07 b.2.1 b.2.2 2).bind λd=>let j:=w64 (60*d.1)
 let f:=w64 (m+j)
 let i:List Int:=[3600,28800,43200,86400,61,1]
 (j0W d.2.1 d.2.2 i).bind λa=>let c:=w64 (f+a.1)
 cond (decide (c>604800)) (some (.inr (a.2.1,a.2.2,n))) (let e:ae:=[(f,c)]
 cond (decide (List.length n+List.length e<=aN)) (let k:ae:=n++e
 let l:=w64 (p-1)
 some (.inl (c,l,a.2.1,a.2.2,k))) none)) (some (.inr (q,g,n)))
def Ia[LP](d b:Int)(e:List Int)(a:Int)(c:ae):Option ((List Int)×Int×ae):=LP.lp (unc5 j1R) (d,b,e,a,c)
theorem Wi(d b e a c):Ia d b e a c=lpK (j1R d b e a c) (λh=>Ia h.1 h.2.1 h.2.2.1 h.2.2.2.1 h.2.2.2.2):=bh _ _
def j2J[LP](d:List Int)(a:Int):Option (ae×(List Int)×Int):=(j07 d a 4).bind λc=>(Ia 0 c.1 c.2.1 c.2.2 ([]:ae)).bind λb=>some (b.2.2,b.1,b.2.1)
def j2h(k:Int)(l:List Int)(f:Int)(b:aj):Option ((Int×(List Int)×Int×aj) ⊕ ((List Int)×Int×aj)):=cond (decide (k>0)) (let e:List ByteArray:=[(ByteArray.mk #[104,101,114,101]),(ByteArray.mk #[116,104,101,114,101])]
 let c:=Int.ofNat b.length
 cond (inR c e.length) (let g:=List.getD e c.toNat ByteArray.empty
 (j3U l f g).bind λa=>let d:aj:=[(a.1.1,(a.1.2.1,a.1.2.2))]
 cond (decide (List.length b+List.length d<=aN)) (let i:aj:=b++d
 let j:=w64 (k-1)
 some (.inl (j,a.2.1,a.2.2,i))) none) none) (some (.inr (l,f,b)))
def Ib[LP](c:Int)(d:List Int)(b:Int)(a:aj):Option ((List Int)×Int×aj):=LP.lp (unc4 j2h) (c,d,b,a)
theorem Wj(c d b a):Ib c d b a=lpK (j2h c d b a) (λh=>Ib h.1 h.2.1 h.2.2.1 h.2.2.2):=bh _ _
def j2i[LP](a4:Int)(a5:List Int)(q:Int)(f:aj)(b:al):Option ((Int×(List Int)×Int×aj×al) ⊕ ((List Int)×Int×aj×al)):=cond (decide (a4>0)) ((jhq).bind λm=>let l:=Int.ofNat b.length
 cond (inR l m.length) (let o:=List.getD m l.toNat ByteArray.empty
 let x:=Int.ofNat f.length
 (j07 a5 q x).bind λc=>(j0N c.2.1 c.2.2 3).bind λd=>(j0N d.2.1 d.2.2 2).bind λa=>cond a.1 ((j2J a.2.1 a.2.2).bind λi=>let s:List Int:=[0,40,100,12]
 (j0W i.2.1 i.2.2 s).bind λk=>let u:=w64 (3600*k.1)
 let r:List Int:=[0,11,24,1]
 (j0W k.2.1 k.2.2 r).bind λj=>let v:=w64 (3600*j.1)
 let n:al:=[(o,(c.1,(i.1,(u,(v,d.1)))))]
 cond (decide (List.length b+List.length n<=aN)) (let a2:al:=b++n
 let w:=w64 (a4-1)
 some (.inl (w,j.2.1,j.2.2,f,a2))) none) (let z:List Int:=[0,40,100,12]
 (j0W a.2.1 a.2.2 z).bind λg=>let a3:=w64 (3600*g.1)
 let t:List Int:=[0,11,24,1]
 (j0W g.2.1 g.2.2 t).bind λe=>let a1:=w64 (3600*e.1)
 let p:al:=[(o,(c.1,(([]:ae),(a3,(a1,d.1)))))]
 cond (decide (List.length b+List.length p<=aN)) (let y:al:=b++p
 let a0:=w64 (a4-1)
 some (.inl (a0,e.2.1,e.2.2,f,y))) none)) none) (some (.inr (a5,q,f,b)))
def Ic[LP](d:Int)(e:List Int)(b:Int)(a:aj)(c:al):Option ((List Int)×Int×aj×al):=LP.lp (unc5 j2i) (d,e,b,a,c)
theorem Wk(d e b a c):Ic d e b a c=lpK (j2i d e b a c) (λh=>Ic h.1 h.2.1 h.2.2.1 h.2.2.2.1 h.2.2.2.2):=bh _ _
def j2j(o m q:Int)(p:List Int)(f:Int)(n:ByteArray)(d:Int)(e:aj)(g:al)(j:an)(c:List Int):Option ((Int×Int×Int×(List Int)×Int×ByteArray×Int×aj×al×an×(List Int)) ⊕ (Int×(List Int)×Int×ByteArray×Int×aj×al×an×(List Int))):=cond (decide (m>0)) ((j07 p f 6).bind λb=>let l:=w64 (1+b.1)
 let a:=w64 (q+l)
 cond (decide (List.length c+List.length [a]<=aN)) (let i:List Int:=c++[a]
 let k:=w64 (m-1)
 some (.inl (o,k,a,b.2.1,b.2.2,n,d,e,g,j,i))) none) (some (.inr (o,p,f,n,d,e,g,j,c)))
def Ie[LP](k i g:Int)(l:List Int)(d:Int)(j:ByteArray)(a:Int)(c:aj)(e:al)(f:an)(b:List Int):Option (Int×(List Int)×Int×ByteArray×Int×aj×al×an×(List Int)):=LP.lp (u8 unc3 j2j) (k,i,g,l,d,j,a,c,e,f,b)
theorem Wl(k i g l d j a c e f b):Ie k i g l d j a c e f b=lpK (j2j k i g l d j a c e f b) (λh=>Ie h.1 h.2.1 h.2.2.1 h.2.2.2.1 h.2.2.2.2.1 h.2.2.2.2.2.1 h.2.2.2.2.2.2.1 h.2.2.2.2.2.2.2.1 h.2.2.2.2.2.2.2.2.1 h.2.2.2.2.2.2.2.2.2.1 h.2.2.2.2.2.2.2.2.2.2):=bh _ _
def j1A[LP](m:Int)(n:List Int)(g:Int)(e:aj)(i:al)(j:an):Option ((Int×(List Int)×Int×aj×al×an) ⊕ ((List Int)×Int×aj×al×an)):=cond (decide (m>0)) (let k:=Int.ofNat e.length
 (j07 n g k).bind λb=>(j07 b.2.1 b.2.2 4).bind λc=>(Ie m c.1 20454 c.2.1 c.2.2 (ByteArray.mk #[100,97,121,115]) b.1 e i j ([]:(List Int))).bind λa=>let d:an:=[(a.2.2.2.1,(a.2.2.2.2.1,a.2.2.2.2.2.2.2.2))]
 cond (decide (List.length a.2.2.2.2.2.2.2.1+List.length d<=aN)) (let f:an:=a.2.2.2.2.2.2.2.1++d
 let l:=w64 (a.1-1)
 some (.inl (l,a.2.1,a.2.2.1,a.2.2.2.2.2.1,a.2.2.2.2.2.2.1,f))) none) (some (.inr (n,g,e,i,j)))
def Ig[LP](e:Int)(f:List Int)(b:Int)(a:aj)(c:al)(d:an):Option ((List Int)×Int×aj×al×an):=LP.lp (unc6 j1A) (e,f,b,a,c,d)
theorem Nw(e f b a c d):Ig e f b a c d=lpK (j1A e f b a c d) (λh=>Ig h.1 h.2.1 h.2.2.1 h.2.2.2.1 h.2.2.2.2.1 h.2.2.2.2.2):=bh _ _
def j8Y[LP](g:List Int)(c:Int):Option (cC×(List Int)×Int):=(j07 g c 2).bind λa=>let k:=w64 (1+a.1)
 (Ib k a.2.1 a.2.2 ([]:aj)).bind λi=>(j07 i.1 i.2.1 4).bind λd=>let j:=w64 (1+d.1)
 (Ic j d.2.1 d.2.2 i.2.2 ([]:al)).bind λf=>(j07 f.1 f.2.1 2).bind λb=>(Ig b.1 b.2.1 b.2.2 f.2.2.1 f.2.2.2 ([]:an)).bind λe=>some ((e.2.2.1,(e.2.2.2.1,(e.2.2.2.2,([]:ao)))),e.1,e.2.1)
def j2k(a1:Int)(y:List Int)(t:Int)(a0:aj)(c:al)(p:an)(e:ao)(a2:ByteArray)(u o l i q m j:Int)(z:ByteArray)(s d f k r n g:Int)(b:List Int):Option ((Int×(List Int)×Int×aj×al×an×ao×ByteArray×Int×Int×Int×Int×Int×Int×Int×ByteArray×Int×Int×Int×Int×Int×Int×Int×(List Int)) ⊕ ((List Int)×Int×aj×al×an×ao×ByteArray×Int×Int×Int×Int×Int×Int×Int×ByteArray×Int×Int×Int×Int×Int×Int×Int×(List Int))):=cond (decide (a1>0)) (let w:=Int.ofNat c.length
 (j07 y t w).bind λa=>cond (decide (List.length b+List.length [a.1]<=aN)) (let x:List Int:=b++[a.1]
 let v:=w64 (a1-1)
 some (.inl (v,a.2.1,a.2.2,a0,c,p,e,a2,u,o,l,i,q,m,j,z,s,d,f,k,r,n,g,x))) none) (some (.inr (y,t,a0,c,p,e,a2,u,o,l,i,q,m,j,z,s,d,f,k,r,n,g,b)))
def Er[LP](x:Int)(u:List Int)(q:Int)(w:aj)(t:al)(m:an)(b:ao)(y:ByteArray)(r l i e n j f:Int)(v:ByteArray)(p a c g o k d:Int)(s:List Int):Option ((List Int)×Int×aj×al×an×ao×ByteArray×Int×Int×Int×Int×Int×Int×Int×ByteArray×Int×Int×Int×Int×Int×Int×Int×(List Int)):=LP.lp (u8 (u8 unc8) j2k) (x,u,q,w,t,m,b,y,r,l,i,e,n,j,f,v,p,a,c,g,o,k,d,s)
theorem Wm(x u q w t m b y r l i e n j f v p a c g o k d s):Er x u q w t m b y r l i e n j f v p a c g o k d s=lpK (j2k x u q w t m b y r l i e n j f v p a c g o k d s) (λh=>Er h.1 h.2.1 h.2.2.1 h.2.2.2.1 h.2.2.2.2.1 h.2.2.2.2.2.1 h.2.2.2.2.2.2.1 h.2.2.2.2.2.2.2.1 h.2.2.2.2.2.2.2.2.1 h.2.2.2.2.2.2.2.2.2.1 h.2.2.2.2.2.2.2.2.2.2.1 h.2.2.2.2.2.2.2.2.2.2.2.1 h.2.2.2.2.2.2.2.2.2.2.2.2.1 h.2.2.2.2.2.2.2.2.2.2.2.2.2.1 h.2.2.2.2.2.2.2.2.2.2.2.2.2.2.1 h.2.2.2.2.2.2.2.2.2.2.2.2.2.2.2.1 h.2.2.2.2.2.2.2.2.2.2.2.2.2.2.2.2.1 h.2.2.2.2.2.2.2.2.2.2.2.2.2.2.2.2.2.1 h.2.2.2.2.2.2.2.2.2.2.2.2.2.2.2.2.2.2.1 h.2.2.2.2.2.2.2.2.2.2.2.2.2.2.2.2.2.2.2.1 h.2.2.2.2.2.2.2.2.2.2.2.2.2.2.2.2.2.2.2.2.1 h.2.2.2.2.2.2.2.2.2.2.2.2.2.2.2.2.2.2.2.2.2.1 h.2.2.2.2.2.2.2.2.2.2.2.2.2.2.2.2.2.2.2.2.2.2.1 h.2.2.2.2.2.2.2.2.2.2.2.2.2.2.2.2.2.2.2.2.2.2.2):=bh _ _
def j8Z[LP](b5:List Int)(z:Int)(c:cC)(j:ByteArray):Option (fe×(List Int)×Int):=
 let c0:=Int.ofNat c.1.length
 (j07 b5 z c0).bind λv=>(j07 v.2.1 v.2.2 6).bind λa0=>let c3:=w64 (20454+a0.1)
 let b4:=w64 (c3-2)
 let c4:List Int:=[0,32400,7200,9000,79200,1]
 (j0W a0.2.1 a0.2.2 c4).bind λw=>(j07 w.2.1 w.2.2 3).bind λt=>(j07 t.2.1 t.2.2 2).bind λs=>let c1:=w64 (1+s.1)
 cond (t.1==0) (let b6:List Int:=[6,8,12,24,23,49]
 (j0W s.2.1 s.2.2 b6).bind λa3=>(j07 a3.2.1 a3.2.2 3).bind λa1=>let c2:=w64 (1+a1.1)
 (Er c2 a1.2.1 a1.2.2 c.1 c.2.1 c.2.2.1 c.2.2.2 ByteArray.empty 0 0 0 0 0 0 0 j v.1 b4 w.1 t.1 a3.1 0 0 ([]:(List Int))).bind λb=>(j0N b.1 b.2.1 2).bind λr=>cond r.1 ((j2J r.2.1 r.2.2).bind λx=>(j0N x.2.1 x.2.2 4).bind λu=>let b7:=Int.ofNat b.2.2.2.2.1.length
 cond (cond u.1 (decide (b7>0)) false) (let b8:=Int.ofNat b.2.2.2.2.1.length
 (j07 u.2.1 u.2.2 b8).bind λy=>(j07 y.2.1 y.2.2 2).bind λa2=>let b9:=w64 (1+a2.1)
 some ((b.2.2.2.2.2.2.2.2.2.2.2.2.2.2.1,(b.2.2.2.2.2.2.2.2.2.2.2.2.2.2.2.1,((b.2.2.2.2.2.2.2.2.2.2.2.2.2.2.2.2.1,b.2.2.2.2.2.2.2.2.2.2.2.2.2.2.2.2.2.1),(b.2.2.2.2.2.2.2.2.2.2.2.2.2.2.2.2.2.2.1,(b.2.2.2.2.2.2.2.2.2.2.2.2.2.2.2.2.2.2.2.1,(b.2.2.2.2.2.2.2.2.2.2.2.2.2.2.2.2.2.2.2.2.2.2,(x.1,(y.1,b9)))))))),a2.2.1,a2.2.2)) (some ((b.2.2.2.2.2.2.2.2.2.2.2.2.2.2.1,(b.2.2.2.2.2.2.2.2.2.2.2.2.2.2.2.1,((b.2.2.2.2.2.2.2.2.2.2.2.2.2.2.2.2.1,b.2.2.2.2.2.2.2.2.2.2.2.2.2.2.2.2.2.1),(b.2.2.2.2.2.2.2.2.2.2.2.2.2.2.2.2.2.2.1,(b.2.2.2.2.2.2.2.2.2.2.2.2.2.2.2.2.2.2.2.1,(b.2.2.2.2.2.2.2.2.2.2.2.2.2.2.2.2.2.2.2.2.2.2,(x.1,(b.2.2.2.2.2.2.2.2.2.2.2.2.2.2.2.2.2.2.2.2.1,b.2.2.2.2.2.2.2.2.2.2.2.2.2.2.2.2.2.2.2.2.2.1)))))))),u.2.1,u.2.2))) ((j0N r.2.1 r.2.2 4).bind λf=>let a8:=Int.ofNat b.2.2.2.2.1.length
 cond (cond f.1 (decide (a8>0)) false) (let b1:=Int.ofNat b.2.2.2.2.1.length
 (j07 f.2.1 f.2.2 b1).bind λm=>(j07 m.2.1 m.2.2 2).bind λl=>let b3:=w64 (1+l.1)
 some ((b.2.2.2.2.2.2.2.2.2.2.2.2.2.2.1,(b.2.2.2.2.2.2.2.2.2.2.2.2.2.2.2.1,((b.2.2.2.2.2.2.2.2.2.2.2.2.2.2.2.2.1,b.2.2.2.2.2.2.2.2.2.2.2.2.2.2.2.2.2.1),(b.2.2.2.2.2.2.2.2.2.2.2.2.2.2.2.2.2.2.1,(b.2.2.2.2.2.2.2.2.2.2.2.2.2.2.2.2.2.2.2.1,(b.2.2.2.2.2.2.2.2.2.2.2.2.2.2.2.2.2.2.2.2.2.2,(([]:ae),(m.1,b3)))))))),l.2.1,l.2.2)) (some ((b.2.2.2.2.2.2.2.2.2.2.2.2.2.2.1,(b.2.2.2.2.2.2.2.2.2.2.2.2.2.2.2.1,((b.2.2.2.2.2.2.2.2.2.2.2.2.2.2.2.2.1,b.2.2.2.2.2.2.2.2.2.2.2.2.2.2.2.2.2.1),(b.2.2.2.2.2.2.2.2.2.2.2.2.2.2.2.2.2.2.1,(b.2.2.2.2.2.2.2.2.2.2.2.2.2.2.2.2.2.2.2.1,(b.2.2.2.2.2.2.2.2.2.2.2.2.2.2.2.2.2.2.2.2.2.2,(([]:ae),(b.2.2.2.2.2.2.2.2.2.2.2.2.2.2.2.2.2.2.2.2.1,b.2.2.2.2.2.2.2.2.2.2.2.2.2.2.2.2.2.2.2.2.2.1)))))))),f.2.1,f.2.2)))) ((j07 s.2.1 s.2.2 3).bind λp=>let a9:=w64 (1+p.1)
 (Er a9 p.2.1 p.2.2 c.1 c.2.1 c.2.2.1 c.2.2.2 ByteArray.empty 0 0 0 0 0 0 0 j v.1 b4 w.1 t.1 c1 0 0 ([]:(List Int))).bind λa=>(j0N a.1 a.2.1 2).bind λg=>cond g.1 ((j2J g.2.1 g.2.2).bind λi=>(j0N i.2.1 i.2.2 4).bind λe=>let a4:=Int.ofNat a.2.2.2.2.1.length
 cond (cond e.1 (decide (a4>0)) false) (let b0:=Int.ofNat a.2.2.2.2.1.length
 (j07 e.2.1 e.2.2 b0).bind λq=>(j07 q.2.1 q.2.2 2).bind λn=>let a6:=w64 (1+n.1)
 some ((a.2.2.2.2.2.2.2.2.2.2.2.2.2.2.1,(a.2.2.2.2.2.2.2.2.2.2.2.2.2.2.2.1,((a.2.2.2.2.2.2.2.2.2.2.2.2.2.2.2.2.1,a.2.2.2.2.2.2.2.2.2.2.2.2.2.2.2.2.2.1),(a.2.2.2.2.2.2.2.2.2.2.2.2.2.2.2.2.2.2.1,(a.2.2.2.2.2.2.2.2.2.2.2.2.2.2.2.2.2.2.2.1,(a.2.2.2.2.2.2.2.2.2.2.2.2.2.2.2.2.2.2.2.2.2.2,(i.1,(q.1,a6)))))))),n.2.1,n.2.2)) (some ((a.2.2.2.2.2.2.2.2.2.2.2.2.2.2.1,(a.2.2.2.2.2.2.2.2.2.2.2.2.2.2.2.1,((a.2.2.2.2.2.2.2.2.2.2.2.2.2.2.2.2.1,a.2.2.2.2.2.2.2.2.2.2.2.2.2.2.2.2.2.1),(a.2.2.2.2.2.2.2.2.2.2.2.2.2.2.2.2.2.2.1,(a.2.2.2.2.2.2.2.2.2.2.2.2.2.2.2.2.2.2.2.1,(a.2.2.2.2.2.2.2.2.2.2.2.2.2.2.2.2.2.2.2.2.2.2,(i.1,(a.2.2.2.2.2.2.2.2.2.2.2.2.2.2.2.2.2.2.2.2.1,a.2.2.2.2.2.2.2.2.2.2.2.2.2.2.2.2.2.2.2.2.2.1)))))))),e.2.1,e.2.2))) ((j0N g.2.1 g.2.2 4).bind λd=>let b2:=Int.ofNat a.2.2.2.2.1.length
 cond (cond d.1 (decide (b2>0)) false) (let a5:=Int.ofNat a.2.2.2.2.1.length
 (j07 d.2.1 d.2.2 a5).bind λk=>(j07 k.2.1 k.2.2 2).bind λo=>let a7:=w64 (1+o.1)
 some ((a.2.2.2.2.2.2.2.2.2.2.2.2.2.2.1,(a.2.2.2.2.2.2.2.2.2.2.2.2.2.2.2.1,((a.2.2.2.2.2.2.2.2.2.2.2.2.2.2.2.2.1,a.2.2.2.2.2.2.2.2.2.2.2.2.2.2.2.2.2.1),(a.2.2.2.2.2.2.2.2.2.2.2.2.2.2.2.2.2.2.1,(a.2.2.2.2.2.2.2.2.2.2.2.2.2.2.2.2.2.2.2.1,(a.2.2.2.2.2.2.2.2.2.2.2.2.2.2.2.2.2.2.2.2.2.2,(([]:ae),(k.1,a7)))))))),o.2.1,o.2.2)) (some ((a.2.2.2.2.2.2.2.2.2.2.2.2.2.2.1,(a.2.2.2.2.2.2.2.2.2.2.2.2.2.2.2.1,((a.2.2.2.2.2.2.2.2.2.2.2.2.2.2.2.2.1,a.2.2.2.2.2.2.2.2.2.2.2.2.2.2.2.2.2.1),(a.2.2.2.2.2.2.2.2.2.2.2.2.2.2.2.2.2.2.1,(a.2.2.2.2.2.2.2.2.2.2.2.2.2.2.2.2.2.2.2.1,(a.2.2.2.2.2.2.2.2.2.2.2.2.2.2.2.2.2.2.2.2.2.2,(([]:ae),(a.2.2.2.2.2.2.2.2.2.2.2.2.2.2.2.2.2.2.2.2.1,a.2.2.2.2.2.2.2.2.2.2.2.2.2.2.2.2.2.2.2.2.2.1)))))))),d.2.1,d.2.2))))
def j5k(d:List Int)(b:Int):Option (Int×(List Int)×Int):=(j07 d b 576).bind λe=>let j:=w64 (3600*e.1)
 let i:=w64 (1767139200+j)
 (j0N e.2.1 e.2.2 3).bind λa=>cond a.1 (let g:List Int:=[(-1),1,1800,3599]
 (j0W a.2.1 a.2.2 g).bind λc=>let f:=w64 (i+c.1)
 some (f,c.2.1,c.2.2)) (some (i,a.2.1,a.2.2))
def ja9(m:List Int)(k:Int)(n:cC):Option (pN×(List Int)×Int):=
 let j:=Int.ofNat n.2.1.length
 (j07 m k 3).bind λa=>(j07 a.2.1 a.2.2 j).bind λe=>(j5k e.2.1 e.2.2).bind λb=>let q:List Int:=[3600,86400,7,259200,40000]
 (j0W b.2.1 b.2.2 q).bind λc=>let f:=w64 (b.1+c.1)
 cond (a.1==2) (cond (decide (j<2)) (some ((0,(e.1,(0,(b.1,f)))),c.2.1,c.2.2)) (let r:=w64 (e.1+1)
 let p:=w64 (j-1)
 (j07 c.2.1 c.2.2 p).bind λi=>let o:=w64 (r+i.1)
 cond (!(j==0)) (let l:=Int.tmod o j
 cond (a.1==1) ((j0N i.2.1 i.2.2 4).bind λg=>cond g.1 (some ((a.1,((-1),(l,(b.1,f)))),g.2.1,g.2.2)) (some ((a.1,(e.1,(l,(b.1,f)))),g.2.1,g.2.2))) (some ((a.1,(e.1,(l,(b.1,f)))),i.2.1,i.2.2))) none)) (cond (a.1==1) ((j0N c.2.1 c.2.2 4).bind λd=>cond d.1 (some ((a.1,((-1),(0,(b.1,f)))),d.2.1,d.2.2)) (some ((a.1,(e.1,(0,(b.1,f)))),d.2.1,d.2.2))) (some ((a.1,(e.1,(0,(b.1,f)))),c.2.1,c.2.2)))
def j22[LP](q o:Int)(r:List Int)(j:Int)(n:aj)(d:al)(c:an)(p:ByteArray)(e:ao)(b:aV):Option ((Int×Int×(List Int)×Int×aj×al×an×ByteArray×ao×aV) ⊕ (Int×(List Int)×Int×aj×al×an×ByteArray×ao×aV)):=cond (decide (o>0)) ((jhq).bind λg=>let i:=Int.ofNat b.length
 cond (inR i g.length) (let l:=List.getD g i.toNat ByteArray.empty
 (j8Z r j (n,(d,(c,e))) l).bind λa=>let f:aV:=[(a.1.1,(a.1.2.1,((a.1.2.2.1.1,a.1.2.2.1.2),(a.1.2.2.2.1,(a.1.2.2.2.2.1,(a.1.2.2.2.2.2.1,(a.1.2.2.2.2.2.2.1,(a.1.2.2.2.2.2.2.2.1,a.1.2.2.2.2.2.2.2.2))))))))]
 cond (decide (List.length b+List.length f<=aN)) (let k:aV:=b++f
 let m:=w64 (o-1)
 some (.inl (q,m,a.2.1,a.2.2,n,d,c,p,e,k))) none) none) (some (.inr (q,r,j,n,d,c,p,e,b)))
def Es[LP](i f:Int)(k:List Int)(d:Int)(j:aj)(c:al)(b:an)(g:ByteArray)(e:ao)(a:aV):Option (Int×(List Int)×Int×aj×al×an×ByteArray×ao×aV):=LP.lp (u8 unc2 j22) (i,f,k,d,j,c,b,g,e,a)
theorem Wn(i f k d j c b g e a):Es i f k d j c b g e a=lpK (j22 i f k d j c b g e a) (λh=>Es h.1 h.2.1 h.2.2.1 h.2.2.2.1 h.2.2.2.2.1 h.2.2.2.2.2.1 h.2.2.2.2.2.2.1 h.2.2.2.2.2.2.2.1 h.2.2.2.2.2.2.2.2.1 h.2.2.2.2.2.2.2.2.2):=bh _ _
def j23(o m:Int)(p:List Int)(i:Int)(l:aj)(d:al)(b:an)(n:ByteArray)(e:ao)(g:aV)(c:aQ):Option ((Int×Int×(List Int)×Int×aj×al×an×ByteArray×ao×aV×aQ) ⊕ (Int×(List Int)×Int×aj×al×an×ByteArray×ao×aV×aQ)):=cond (decide (m>0)) ((ja9 p i (l,(d,(b,e)))).bind λa=>let f:aQ:=[(a.1.1,(a.1.2.1,(a.1.2.2.1,(a.1.2.2.2.1,a.1.2.2.2.2))))]
 cond (decide (List.length c+List.length f<=aN)) (let j:aQ:=c++f
 let k:=w64 (m-1)
 some (.inl (o,k,a.2.1,a.2.2,l,d,b,n,e,g,j))) none) (some (.inr (o,p,i,l,d,b,n,e,g,c)))
def Ih[LP](j g:Int)(l:List Int)(e:Int)(k:aj)(d:al)(b:an)(i:ByteArray)(f:ao)(a:aV)(c:aQ):Option (Int×(List Int)×Int×aj×al×an×ByteArray×ao×aV×aQ):=LP.lp (u8 unc3 j23) (j,g,l,e,k,d,b,i,f,a,c)
theorem Wo(j g l e k d b i f a c):Ih j g l e k d b i f a c=lpK (j23 j g l e k d b i f a c) (λh=>Ih h.1 h.2.1 h.2.2.1 h.2.2.2.1 h.2.2.2.2.1 h.2.2.2.2.2.1 h.2.2.2.2.2.2.1 h.2.2.2.2.2.2.2.1 h.2.2.2.2.2.2.2.2.1 h.2.2.2.2.2.2.2.2.2.1 h.2.2.2.2.2.2.2.2.2.2):=bh _ _
def j24[LP](q:Int)(s:List Int)(l:Int)(r:aj)(k:al)(j:an)(e:ao):Option ((Int×(List Int)×Int×aj×al×an×ao) ⊕ ((List Int)×Int×aj×al×an×ao)):=cond (decide (q>0)) (let f:List ByteArray:=[(ByteArray.mk #[102,105,114,115,116]),(ByteArray.mk #[115,101,99,111,110,100]),(ByteArray.mk #[116,104,105,114,100])]
 let o:=Int.ofNat e.length
 let g:=Int.tmod o 3
 cond (inR g f.length) (let m:=List.getD f g.toNat ByteArray.empty
 (j07 s l 4).bind λc=>(Es q c.1 c.2.1 c.2.2 r k j m e ([]:aV)).bind λb=>(j07 b.2.1 b.2.2.1 4).bind λd=>(Ih b.1 d.1 d.2.1 d.2.2 b.2.2.2.1 b.2.2.2.2.1 b.2.2.2.2.2.1 b.2.2.2.2.2.2.1 b.2.2.2.2.2.2.2.1 b.2.2.2.2.2.2.2.2 ([]:aQ)).bind λa=>let i:ao:=[(a.2.2.2.2.2.2.1,(a.2.2.2.2.2.2.2.2.1,a.2.2.2.2.2.2.2.2.2))]
 cond (decide (List.length a.2.2.2.2.2.2.2.1+List.length i<=aN)) (let n:ao:=a.2.2.2.2.2.2.2.1++i
 let p:=w64 (a.1-1)
 some (.inl (p,a.2.1,a.2.2.1,a.2.2.2.1,a.2.2.2.2.1,a.2.2.2.2.2.1,n))) none) none) (some (.inr (s,l,r,k,j,e)))
def Ii[LP](e:Int)(g:List Int)(c:Int)(f:aj)(b:al)(a:an)(d:ao):Option ((List Int)×Int×aj×al×an×ao):=LP.lp (unc7 j24) (e,g,c,f,b,a,d)
theorem Wp(e g c f b a d):Ii e g c f b a d=lpK (j24 e g c f b a d) (λh=>Ii h.1 h.2.1 h.2.2.1 h.2.2.2.1 h.2.2.2.2.1 h.2.2.2.2.2.1 h.2.2.2.2.2.2):=bh _ _
def j67[LP](e:List Int)(d f:Int):Option (cC×(List Int)×Int):=(j8Y e d).bind λa=>(j07 a.2.1 a.2.2 f).bind λc=>let g:=w64 (1+c.1)
 (Ii g c.2.1 c.2.2 a.1.1 a.1.2.1 a.1.2.2.1 ([]:ao)).bind λb=>some ((b.2.2.1,(b.2.2.2.1,(b.2.2.2.2.1,b.2.2.2.2.2))),b.1,b.2.1)
def jaR(a:dN):Option ByteArray:=some a.1
def jc2(a:Int):Option Bool:=some (cond (decide (a>=97)) (decide (a<=122)) false)
def jil(a:Int):Option Bool:=some (cond (decide (a>=48)) (decide (a<=57)) false)
def j6M(e:ByteArray)(c b:Int):Option ((ByteArray×Int×Int) ⊕ (Bool ⊕ Unit)):=cond (decide (b<c)) (cond (inR b (ByteArray.size e)) (let a:=dn e b
 (jc2 a).bind λf=>cond (!f) ((jil a).bind λd=>cond (cond (cond (!d) (a != 95) false) (a != 45) false) (some (.inr (.inl false))) (let i:=w64 (b+1)
 some (.inl (e,c,i)))) (let g:=w64 (b+1)
 some (.inl (e,c,g)))) none) (some (.inr (.inr ())))
def zM[LP](c:ByteArray)(b a:Int):Option (Bool ⊕ Unit):=LP.lp (unc3 j6M) (c,b,a)
theorem jle(c b a):zM c b a=lpK (j6M c b a) (λh=>zM h.1 h.2.1 h.2.2):=bh _ _
def j5l[LP](a:ByteArray):Option Bool:=
 let f:=Int.ofNat (ByteArray.size a)
 let b:Bool:=cond (ByteArray.toList a==ByteArray.toList ByteArray.empty) true (decide (f>24))
 cond ((inR 0 (ByteArray.size a)) || !(!b)) (let d:=dn a 0
 cond b (some false) ((jc2 d).bind λc=>cond (!c) (some false) (let e:=Int.ofNat (ByteArray.size a)
 (zM a e 0).bind λg=>sumC g (λi=>some i) (λj=>some true)))) none
def j5N[LP](b:ByteArray)(a:List (ByteArray×Bool)):Option (Int×(List (ByteArray×Bool))):=(j5l b).bind λd=>cond (!d) (some (2,a)) (cond (dx false a b) (some (4,a)) (let c:(List (ByteArray×Bool)):=ea a b true
 some (0,c)))
def jaS(a c b:Int):Option Bool:=some (cond (decide (a>=c)) (decide (a<=b)) false)
def jgA(a:u9):Option Int:=(jaS a.1 1970 2240).bind λi=>cond (!i) (some 1) ((jaS a.2.1 a.1 2240).bind λb=>cond (!b) (some 1) ((jaS a.2.2.1 1 12).bind λe=>cond (!e) (some 1) ((jaS a.2.2.2.1 1 5).bind λg=>cond (!g) (some 1) ((jaS a.2.2.2.2.1 0 6).bind λd=>cond (!d) (some 1) ((jaS a.2.2.2.2.2.1 0 86399).bind λc=>cond (!c) (some 1) ((jaS a.2.2.2.2.2.2 (-64800) 64800).bind λf=>cond (!f) (some 1) (some 0)))))))
def jkp(a:Int):Option Bool:=
 let c:=Int.tmod a 4
 let d:=Int.tmod a 100
 let b:=Int.tmod a 400
 some (cond (c==0) (cond (d != 0) true (b==0)) false)
def j7q(c a:Int):Option Int:=cond (cond (decide (a<1)) true (decide (a>12))) (some 0) (let e:List Int:=[31,28,31,30,31,30,31,31,30,31,30,31]
 let j:List Int:=List.replicate 12 0
 cond (a==2) ((jkp c).bind λi=>cond i (some 29) (let f:=w64 (a-1)
 cond (inR f 12) (let g:=List.getD e f.toNat 0
 some g) none)) (let b:=w64 (a-1)
 cond (inR b 12) (let d:=List.getD e b.toNat 0
 some d) none))
def jc3(a:pd):Option Bool:=cond (decide (a.1>=1970)) (cond (decide (a.1<=2240)) (cond (decide (a.2.2>=1)) ((j7q a.1 a.2.1).bind λb=>some (decide (a.2.2<=b))) (some false)) (some false)) (some false)
def j8v(b a:Int):Option Int:=cond (!(a==0)) (let d:=w64 (Int.tdiv b a)
 cond (!(a==0)) (let e:=Int.tmod b a
 cond (decide (e<0)) (let c:=w64 (d-1)
 some c) (some d)) none) none
def j50(a:Int):Option Int:=
 let b:=w64 (a-1)
 let l:=w64 (a-1970)
 let k:=w64 (365*l)
 (j8v b 4).bind λf=>let i:=w64 (k+f)
 (j8v b 100).bind λj=>let c:=w64 (i-j)
 (j8v b 400).bind λg=>let d:=w64 (c+g)
 let e:=w64 (d-477)
 some e
def j3B(i f g a e:Int):Option ((Int×Int×Int×Int×Int) ⊕ (Int)):=cond (decide (f<a)) ((j7q g f).bind λb=>let c:=w64 (i+b)
 let d:=w64 (f+1)
 some (.inl (c,d,g,a,e))) (some (.inr i))
def Ij[LP](d e c a b:Int):Option Int:=LP.lp (unc5 j3B) (d,e,c,a,b)
theorem Wq(d e c a b):Ij d e c a b=lpK (j3B d e c a b) (λh=>Ij h.1 h.2.1 h.2.2.1 h.2.2.2.1 h.2.2.2.2):=bh _ _
def jd1[LP](a:pd):Option Int:=(j50 a.1).bind λd=>let b:=w64 (d+a.2.2)
 let c:=w64 (b-1)
 (Ij c 1 a.1 a.2.1 a.2.2).bind λe=>some e
def j5U(a:Int):Option Int:=
 let b:=Int.tmod a 7
 let c:=w64 (b+10)
 let d:=Int.tmod c 7
 some d
def jjm[LP](c b d a:Int):Option (Int×Int):=(jc3 (c,(b,1))).bind λn=>let r:Bool:=cond (cond (!n) true (decide (d<1))) true (decide (d>5))
 let j:Bool:=cond (cond r true (decide (a<0))) true (decide (a>6))
 cond j (some (0,1)) ((jd1 (c,(b,1))).bind λf=>(j5U f).bind λq=>let i:=w64 (a-q)
 let g:=w64 (i+7)
 let t:=Int.tmod g 7
 let m:=w64 (f+t)
 let o:=w64 (d-1)
 let l:=w64 (7*o)
 let e:=w64 (m+l)
 (j7q c b).bind λs=>let p:=w64 (f+s)
 cond (decide (e>=p)) (let k:=w64 (e-7)
 some (k,0)) (some (e,0)))
def j8w(b a:Int×Int):Option Int:=
 let c:=w64 (b.1-a.1)
 some c
def j0e(m q p b:Int)(a:ae):Option ((Int×Int×Int×Int×ae) ⊕ (Int×Int×Int×ae)):=cond (decide (b>m)) (cond (inR b a.length) (let j:=List.getD a b.toNat (0,0)
 let f:=w64 (b-1)
 cond (inR f a.length) (let g:=List.getD a f.toNat (0,0)
 (j8w (j.1,j.2) (g.1,g.2)).bind λl=>cond (decide (l<0)) (let i:=w64 (b-1)
 let c:=w64 (b-1)
 cond (inR c a.length) (let d:=List.getD a c.toNat (0,0)
 cond (inR b a.length) (let k:=List.getD a b.toNat (0,0)
 cond (inR b a.length) (let e:ae:=List.set a b.toNat (d.1,d.2)
 cond (inR i e.length) (let n:ae:=List.set e i.toNat (k.1,k.2)
 let o:=w64 (b-1)
 some (.inl (m,q,p,o,n))) none) none) none) none) (some (.inr (m,q,p,a)))) none) none) (some (.inr (m,q,p,a)))
def Ik[LP](b d c a:Int)(e:ae):Option (Int×Int×Int×ae):=LP.lp (unc5 j0e) (b,d,c,a,e)
theorem Wr(b d c a e):Ik b d c a e=lpK (j0e b d c a e) (λh=>Ik h.1 h.2.1 h.2.2.1 h.2.2.2.1 h.2.2.2.2):=bh _ _
def j0f[LP](f d c:Int)(e:ae):Option ((Int×Int×Int×ae) ⊕ (ae)):=cond (decide (c<d)) ((Ik f d c c e).bind λa=>let b:=w64 (a.2.2.1+1)
 some (.inl (a.1,a.2.1,b,a.2.2.2))) (some (.inr e))
def Il[LP](a d b:Int)(c:ae):Option ae:=LP.lp (unc4 j0f) (a,d,b,c)
theorem Nx(a c b d):Il a c b d=lpK (j0f a c b d) (λh=>Il h.1 h.2.1 h.2.2.1 h.2.2.2):=bh _ _
def j0l[LP](a:ae)(b c:Int):Option ae:=
 let d:=w64 (b+1)
 (Il b c d a).bind λe=>some e
def j0D[LP](d e f a:Int)(g:ae):Option ((Int×Int×Int×Int×ae) ⊕ (Int×Int×Int×ae)):=cond (decide (a<=d)) ((j0l g f a).bind λc=>let b:=w64 (a+e)
 some (.inl (d,e,a,b,c))) (some (.inr (d,e,f,g)))
def Im[LP](a d c b:Int)(e:ae):Option (Int×Int×Int×ae):=LP.lp (unc5 j0D) (a,d,c,b,e)
theorem j68(a d c b e):Im a d c b e=lpK (j0D a d c b e) (λh=>Im h.1 h.2.1 h.2.2.1 h.2.2.2.1 h.2.2.2.2):=bh _ _
def j2f(a c b e:Int)(f:ae):Option ((Int×Int×Int×Int×ae) ⊕ (Int×Int×Int×ae)):=cond (decide (e<=a)) (let d:=w64 (b+c)
 none) (some (.inr (a,c,b,f)))
def j6Y[LP](a d c b:Int)(e:ae):Option (Int×Int×Int×ae):=LP.lp (unc5 j2f) (a,d,c,b,e)
def j0E[LP](f e:Int)(g:ae):Option ((Int×Int×ae) ⊕ (ae)):=cond (decide (e<f)) (let d:=w64 (2*e)
 (j6Y f e 0 d g).bind λa=>let b:=w64 (a.2.2.1+a.2.1)
 cond (decide (b<a.1)) (none) (let c:=w64 (a.2.1*2)
 some (.inl (a.1,c,a.2.2.2)))) (some (.inr g))
def Io[LP](a b:Int)(c:ae):Option ae:=LP.lp (unc3 j0E) (a,b,c)
theorem j69(a b c):Io a b c=lpK (j0E a b c) (λh=>Io h.1 h.2.1 h.2.2):=bh _ _
def j1S[LP](a:ae)(c:Int):Option ae:=(Im c 20 0 20 a).bind λb=>(j0l b.2.2.2 b.2.2.1 b.1).bind λd=>(Io b.1 b.2.1 d).bind λe=>some e
def j0j[LP](a:ae):Option ae:=
 let c:=Int.ofNat a.length
 (j1S a c).bind λb=>some b
def j25(n:Int)(f:aS)(l b:Int)(m:ByteArray)(d:Int)(e:aS):Option ((Int×aS×Int×Int×ByteArray×Int×aS) ⊕ (Int ⊕ (Int×ByteArray×Int×aS))):=cond (decide (b<l)) (cond (inR b f.length) (let a:=List.getD f b.toNat (0,(0,(0,(0,(0,(0,0))))))
 (jgA (a.1,(a.2.1,(a.2.2.1,(a.2.2.2.1,(a.2.2.2.2.1,(a.2.2.2.2.2.1,a.2.2.2.2.2.2))))))).bind λc=>cond (c != 0) (some (.inr (.inl c))) (let i:=w64 (a.2.1-a.1)
 let k:=w64 (i+1)
 let j:=w64 (n+k)
 let g:=w64 (b+1)
 some (.inl (j,f,l,g,m,d,e)))) none) (some (.inr (.inr (n,m,d,e))))
def Et[LP](g:Int)(e:aS)(c d:Int)(f:ByteArray)(a:Int)(b:aS):Option (Int ⊕ (Int×ByteArray×Int×aS)):=LP.lp (unc7 j25) (g,e,c,d,f,a,b)
theorem Ws(g e c d f a b):Et g e c d f a b=lpK (j25 g e c d f a b) (λh=>Et h.1 h.2.1 h.2.2.1 h.2.2.2.1 h.2.2.2.2.1 h.2.2.2.2.2.1 h.2.2.2.2.2.2):=bh _ _
def j26[LP](i:Int)(q:aS)(p o s c f b e a d:Int)(r:ae):Option ((Int×aS×Int×Int×Int×Int×Int×Int×Int×Int×Int×ae) ⊕ (aS×Int×Int×ae)):=cond (decide (i<=c)) ((jjm i f b e).bind λk=>let j:=w64 (k.1*86400)
 let l:=w64 (j+a)
 let g:ae:=[(l,d)]
 cond (decide (List.length r+List.length g<=aN)) (let n:ae:=r++g
 let m:=w64 (i+1)
 some (.inl (m,q,p,o,s,c,f,b,e,a,d,n))) none) (some (.inr (q,p,o,r)))
def Ip[LP](i:Int)(k:aS)(j g l c f b e a d:Int)(m:ae):Option (aS×Int×Int×ae):=LP.lp (u8 unc4 j26) (i,k,j,g,l,c,f,b,e,a,d,m)
theorem Wt(i k j g l c f b e a d m):Ip i k j g l c f b e a d m=lpK (j26 i k j g l c f b e a d m) (λh=>Ip h.1 h.2.1 h.2.2.1 h.2.2.2.1 h.2.2.2.2.1 h.2.2.2.2.2.1 h.2.2.2.2.2.2.1 h.2.2.2.2.2.2.2.1 h.2.2.2.2.2.2.2.2.1 h.2.2.2.2.2.2.2.2.2.1 h.2.2.2.2.2.2.2.2.2.2.1 h.2.2.2.2.2.2.2.2.2.2.2):=bh _ _
def j27[LP](d:aS)(f c:Int)(g:ae):Option ((aS×Int×Int×ae) ⊕ (ae)):=cond (decide (c<f)) (cond (inR c d.length) (let a:=List.getD d c.toNat (0,(0,(0,(0,(0,(0,0))))))
 (Ip a.1 d f c a.1 a.2.1 a.2.2.1 a.2.2.2.1 a.2.2.2.2.1 a.2.2.2.2.2.1 a.2.2.2.2.2.2 g).bind λb=>let e:=w64 (b.2.2.1+1)
 some (.inl (b.1,b.2.1,e,b.2.2.2))) none) (some (.inr g))
def Eu[LP](c:aS)(a b:Int)(d:ae):Option ae:=LP.lp (unc4 j27) (c,a,b,d)
theorem Wu(b a c d):Eu b a c d=lpK (j27 b a c d) (λh=>Eu h.1 h.2.1 h.2.2.1 h.2.2.2):=bh _ _
def j8n[LP](a:dN):Option (ae×Int):=(jaS a.2.1 (-64800) 64800).bind λe=>cond (!e) (some (([]:ae),1)) (let f:=Int.ofNat a.2.2.length
 cond (decide (f>16)) (some (([]:ae),5)) (let c:=Int.ofNat a.2.2.length
 (Et 0 a.2.2 c 0 a.1 a.2.1 a.2.2).bind λi=>sumC i (λk=>some (([]:ae),k)) (λg=>cond (decide (g.1>640)) (some (([]:ae),5)) (let b:=Int.ofNat g.2.2.2.length
 (Eu g.2.2.2 b 0 ([]:ae)).bind λj=>(j0j j).bind λd=>some (d,0)))))
def j28(v m d:Int)(b i:ae):Option ((Int×Int×Int×ae×ae) ⊕ (Int ⊕ ae)):=cond (decide (d<m)) (cond (inR d i.length) (let a:=List.getD i d.toNat (0,0)
 cond (a.2==v) (let s:=w64 (d+1)
 some (.inl (v,m,s,b,i))) (let c:=w64 (a.1-v)
 let e:=w64 (a.2-v)
 cond (cond (decide (e>=86400)) true (decide (e<=(-86400)))) (let o:=Int.ofNat b.length
 let u:=Int.ofNat b.length
 let j:=w64 (u-1)
 cond ((inR j b.length) || !((!true)&&(decide (o>0)))) (let p:=(List.getD b j.toNat (0,0)).1
 let x:=w64 (p+604800)
 some (.inr (.inl 6))) none) ((jaS c 0 8589934592).bind λg=>let k:=Int.ofNat b.length
 let r:=Int.ofNat b.length
 let l:=w64 (r-1)
 cond ((inR l b.length) || !((!(!g))&&(decide (k>0)))) (let w:=(List.getD b l.toNat (0,0)).1
 let n:=w64 (w+604800)
 cond (cond (!g) true (cond (decide (k>0)) (decide (c<n)) false)) (some (.inr (.inl 6))) (let f:ae:=[(c,a.2)]
 cond (decide (List.length b+List.length f<=aN)) (let t:ae:=b++f
 let q:=w64 (d+1)
 some (.inl (a.2,m,q,t,i))) none)) none))) none) (some (.inr (.inr b)))
def Ev[LP](d c a:Int)(e b:ae):Option (Int ⊕ ae):=LP.lp (unc5 j28) (d,c,a,e,b)
theorem Ww(d c a e b):Ev d c a e b=lpK (j28 d c a e b) (λh=>Ev h.1 h.2.1 h.2.2.1 h.2.2.2.1 h.2.2.2.2):=bh _ _
def j3t[LP](a:dN):Option (ae×Int):=(j8n (a.1,(a.2.1,a.2.2))).bind λb=>cond (b.2 != 0) (some (([]:ae),b.2)) (let c:=Int.ofNat b.1.length
 (Ev a.2.1 c 0 ([]:ae) b.1).bind λd=>sumC d (λf=>some (([]:ae),f)) (λe=>some (e,0)))
def jeh[LP](a:dN):Option Int:=(j3t (a.1,(a.2.1,a.2.2))).bind λb=>some b.2
def j7M(a:u9):Option Bool:=
 let b:=Int.tmod a.2.2.2.2.2.2 60
 some (b != 0)
def j0g(e:aS)(f b:Int):Option ((aS×Int×Int) ⊕ (Int ⊕ Unit)):=cond (decide (b<f)) (cond (inR b e.length) (let a:=List.getD e b.toNat (0,(0,(0,(0,(0,(0,0))))))
 (j7M (a.1,(a.2.1,(a.2.2.1,(a.2.2.2.1,(a.2.2.2.2.1,(a.2.2.2.2.2.1,a.2.2.2.2.2.2))))))).bind λd=>cond d (some (.inr (.inl b))) (let c:=w64 (b+1)
 some (.inl (e,f,c)))) none) (some (.inr (.inr ())))
def Iq[LP](b:aS)(c a:Int):Option (Int ⊕ Unit):=LP.lp (unc3 j0g) (b,c,a)
theorem Wx(b c a):Iq b c a=lpK (j0g b c a) (λh=>Iq h.1 h.2.1 h.2.2):=bh _ _
def j1k[LP](a:aS):Option Int:=
 let b:=Int.ofNat a.length
 (Iq a b 0).bind λc=>sumC c (λd=>some d) (λe=>some (-1))
def j16[LP](a:aS):Option Bool:=(j1k a).bind λb=>some (decide (b>=0))
def j5m[LP](a:dN):Option Int:=(jeh (a.1,(a.2.1,a.2.2))).bind λc=>let d:=Int.tmod a.2.1 60
 cond (cond (c != 0) true (d != 0)) (some 8) ((j16 a.2.2).bind λb=>cond b (some 8) (some 0))
def j1c[LP](e:aj)(i c:Int)(j:List (ByteArray×Bool)):Option ((aj×Int×Int×(List (ByteArray×Bool))) ⊕ (Int ⊕ Unit)):=cond (decide (c<i)) (cond (inR c e.length) (let a:=List.getD e c.toNat (ByteArray.empty,(0,([]:aS)))
 (jaR (a.1,(a.2.1,a.2.2))).bind λg=>(j5N g j).bind λb=>cond (b.1 != 0) (some (.inr (.inl b.1))) ((j5m (a.1,(a.2.1,a.2.2))).bind λd=>cond (d != 0) (some (.inr (.inl d))) (let f:=w64 (c+1)
 some (.inl (e,i,f,b.2))))) none) (some (.inr (.inr ())))
def Ew[LP](c:aj)(b a:Int)(d:List (ByteArray×Bool)):Option (Int ⊕ Unit):=LP.lp (unc4 j1c) (c,b,a,d)
theorem Wy(a:aj)(c b:Int)(d:List (ByteArray×Bool)):Ew a c b d=lpK (j1c a c b d) (λh=>Ew h.1 h.2.1 h.2.2.1 h.2.2.2):=bh _ _
def j4k[LP](a:aj):Option Int:=
 let c:(List (ByteArray×Bool)):=[]
 let b:=Int.ofNat a.length
 (Ew a b 0 c).bind λd=>sumC d (λe=>some e) (λf=>some 0)
def j1B(a b:Int):Option Bool:=some (cond (decide (a>=0)) (decide (a<b)) false)
def j4z(g f:ae)(k b:Int):Option ((ae×ae×Int×Int) ⊕ (Int ⊕ Unit)):=cond (decide (b<k)) (cond (inR b f.length) (let a:=List.getD f b.toNat (0,0)
 let e:Bool:=cond (cond (decide (a.1<0)) true (decide (a.1>=a.2))) true (decide (a.2>604800))
 cond e (some (.inr (.inl 1))) (cond (decide (b>0)) (let c:=w64 (b-1)
 cond (inR c g.length) (let d:=List.getD g c.toNat (0,0)
 cond (decide (a.1<d.2)) (some (.inr (.inl 6))) (let i:=w64 (b+1)
 some (.inl (g,f,k,i)))) none) (let j:=w64 (b+1)
 some (.inl (g,f,k,j))))) none) (some (.inr (.inr ())))
def Ir[LP](c b:ae)(d a:Int):Option (Int ⊕ Unit):=LP.lp (unc4 j4z) (c,b,d,a)
theorem Wz(d c b a):Ir d c b a=lpK (j4z d c b a) (λh=>Ir h.1 h.2.1 h.2.2.1 h.2.2.2):=bh _ _
def jbT[LP](a:ae):Option Int:=
 let d:=Int.ofNat a.length
 cond (decide (d>14)) (some 5) (let b:=Int.ofNat a.length
 (Ir a a b 0).bind λc=>sumC c (λe=>some e) (λf=>some 0))
def j7r(a c b:Int):Option Bool:=some (cond (decide (a>=c)) (decide (a<=b)) false)
def j4A(a:Int):Option Bool:=(j7r a 0 604800).bind λc=>let b:=Int.tmod a 3600
 some (cond c (b==0) false)
def j2K[LP](b:cC)(a:Ep):Option Int:=
 let c:=Int.ofNat b.1.length
 (j1B a.2.1 c).bind λg=>cond (!g) (some 3) ((jbT a.2.2.1).bind λe=>cond (e != 0) (some 8) ((j4A a.2.2.2.1).bind λd=>cond (!d) (some 1) ((j4A a.2.2.2.2.1).bind λf=>cond (!f) (some 1) (some 0))))
def jaT(a:sE):Option ByteArray:=some a.1
def jd2(e d:Int):Option ((Int×Int) ⊕ (Int)):=
 let c:=w64 (d+1)
 (j50 c).bind λb=>cond (decide (b<=e)) (let a:=w64 (d+1)
 some (.inl (e,a))) (some (.inr d))
def Ny[LP](a b:Int):Option Int:=LP.lp (unc2 jd2) (a,b)
def jei[LP](a:Int):Option Int:=(j8v a 366).bind λd=>let c:=w64 (1970+d)
 (Ny a c).bind λb=>some b
def jbh(k l b c e a d:Int):Option ((Int×Int×Int×Int×Int×Int×Int) ⊕ (Int×Int×Int×Int×Int×Int×Int)):=(j7q e a).bind λi=>cond (decide (k>=i)) ((j7q e a).bind λf=>let g:=w64 (k-f)
 let j:=w64 (a+1)
 some (.inl (g,l,b,c,e,j,d))) (some (.inr (k,l,b,c,e,a,d)))
def Nz[LP](g e a b f d c:Int):Option (Int×Int×Int×Int×Int×Int×Int):=LP.lp (unc7 jbh) (g,e,a,b,f,d,c)
def j4B[LP](a:Int):Option (pd×Int):=(j50 1970).bind λi=>cond (decide (a<i)) (some ((0,(0,0)),1)) ((j50 2241).bind λf=>cond (decide (a>=f)) (some ((0,(0,0)),1)) ((jei a).bind λb=>(j50 b).bind λe=>let g:=w64 (a-e)
 (Nz g 0 0 0 b 1 0).bind λc=>let d:=w64 (c.1+1)
 some ((c.2.2.2.2.1,(c.2.2.2.2.2.1,d)),0)))
def j0A[LP](a:Int):Option Bool:=(j4B a).bind λb=>some (b.2==0)
def j5n[LP](a:Int):Option Bool:=(j0A a).bind λb=>some (!b)
def j11[LP](e:List Int)(f a:Int):Option (((List Int)×Int×Int) ⊕ (Int ⊕ Unit)):=cond (decide (a<f)) (cond (inR a e.length) (let c:=List.getD e a.toNat 0
 (j5n c).bind λd=>cond d (some (.inr (.inl a))) (let b:=w64 (a+1)
 some (.inl (e,f,b)))) none) (some (.inr (.inr ())))
def Is[LP](b:List Int)(c a:Int):Option (Int ⊕ Unit):=LP.lp (unc3 j11) (b,c,a)
theorem WA(b c a):Is b c a=lpK (j11 b c a) (λh=>Is h.1 h.2.1 h.2.2):=bh _ _
def j5o[LP](a:List Int):Option Int:=
 let b:=Int.ofNat a.length
 (Is a b 0).bind λc=>sumC c (λd=>some d) (λe=>some (-1))
def j45[LP](a:List Int):Option Bool:=(j5o a).bind λb=>some (decide (b>=0))
def j1l(e b:Int)(k:ByteArray)(d:Int)(a:List Int):Option ((Int×Int×ByteArray×Int×(List Int)) ⊕ (Int ⊕ Unit)):=cond (decide (b<e)) (cond (decide (b>0)) (cond (inR b a.length) (let g:=List.getD a b.toNat 0
 let c:=w64 (b-1)
 cond (inR c a.length) (let i:=List.getD a c.toNat 0
 cond (decide (g<=i)) (some (.inr (.inl 6))) (let f:=w64 (b+1)
 some (.inl (e,f,k,d,a)))) none) none) (let j:=w64 (b+1)
 some (.inl (e,j,k,d,a)))) (some (.inr (.inr ())))
def It[LP](c d:Int)(e:ByteArray)(a:Int)(b:List Int):Option (Int ⊕ Unit):=LP.lp (unc5 j1l) (c,d,e,a,b)
theorem WB(c d e a b):It c d e a b=lpK (j1l c d e a b) (λh=>It h.1 h.2.1 h.2.2.1 h.2.2.2.1 h.2.2.2.2):=bh _ _
def j2W[LP](b:cC)(a:sE):Option Int:=
 let f:=Int.ofNat b.1.length
 (j1B a.2.1 f).bind λc=>cond (!c) (some 3) (let d:=Int.ofNat a.2.2.length
 cond (decide (d>64)) (some 5) ((j45 a.2.2).bind λe=>cond e (some 1) (let g:=Int.ofNat a.2.2.length
 (It g 0 a.1 a.2.1 a.2.2).bind λi=>sumC i (λj=>some j) (λk=>some 0))))
def jaU[LP](a:sE)(f:aj)(d:al)(c:an)(b:ao):Option Int:=(j2W (f,(d,(c,b))) (a.1,(a.2.1,a.2.2))).bind λe=>some e
def j0O[LP](m:aj)(i:al)(f:an)(e:ao)(g:an)(l c:Int)(n:List (ByteArray×Bool)):Option ((aj×al×an×ao×an×Int×Int×(List (ByteArray×Bool))) ⊕ (Int ⊕ Unit)):=cond (decide (c<l)) (cond (inR c g.length) (let a:=List.getD g c.toNat (ByteArray.empty,(0,([]:(List Int))))
 (jaT (a.1,(a.2.1,a.2.2))).bind λk=>(j5N k n).bind λb=>cond (b.1 != 0) (some (.inr (.inl b.1))) ((jaU (a.1,(a.2.1,a.2.2)) m i f e).bind λd=>cond (d != 0) (some (.inr (.inl d))) (let j:=w64 (c+1)
 some (.inl (m,i,f,e,g,l,j,b.2))))) none) (some (.inr (.inr ())))
def Ey[LP](g:aj)(c:al)(b:an)(a:ao)(d:an)(f e:Int)(i:List (ByteArray×Bool)):Option (Int ⊕ Unit):=LP.lp (unc8 j0O) (g,c,b,a,d,f,e,i)
theorem WC(g:aj)(c:al)(b:an)(a:ao)(d:an)(f e:Int)(i:List (ByteArray×Bool)):Ey g c b a d f e i=lpK (j0O g c b a d f e i) (λh=>Ey h.1 h.2.1 h.2.2.1 h.2.2.2.1 h.2.2.2.2.1 h.2.2.2.2.2.1 h.2.2.2.2.2.2.1 h.2.2.2.2.2.2.2):=bh _ _
def j2z[LP](e:an)(d:aj)(b:al)(a:an)(c:ao):Option Int:=
 let g:(List (ByteArray×Bool)):=[]
 let f:=Int.ofNat e.length
 (Ey d b a c e f 0 g).bind λi=>sumC i (λj=>some j) (λk=>some 0)
def jaV(a:lV):Option ByteArray:=some a.1
def j5p(a:fe):Option ByteArray:=some a.1
def j70(a:Int)(g:aj)(b:al)(d:an)(c:ao):Option Bool:=
 let f:=Int.ofNat b.length
 (j1B a f).bind λe=>some (!e)
def j0I(i:List Int)(j:aj)(b:al)(a:an)(d:ao)(k c:Int):Option (((List Int)×aj×al×an×ao×Int×Int) ⊕ (Int ⊕ Unit)):=cond (decide (c<k)) (cond (inR c i.length) (let e:=List.getD i c.toNat 0
 (j70 e j b a d).bind λg=>cond g (some (.inr (.inl c))) (let f:=w64 (c+1)
 some (.inl (i,j,b,a,d,k,f)))) none) (some (.inr (.inr ())))
def Iu[LP](e:List Int)(d:aj)(b:al)(a:an)(c:ao)(f g:Int):Option (Int ⊕ Unit):=LP.lp (unc7 j0I) (e,d,b,a,c,f,g)
theorem WD(e d b a c f g):Iu e d b a c f g=lpK (j0I e d b a c f g) (λh=>Iu h.1 h.2.1 h.2.2.1 h.2.2.2.1 h.2.2.2.2.1 h.2.2.2.2.2.1 h.2.2.2.2.2.2):=bh _ _
def j46[LP](d:List Int)(e:aj)(b:al)(c:an)(a:ao):Option Int:=
 let f:=Int.ofNat d.length
 (Iu d e b c a f 0).bind λg=>sumC g (λi=>some i) (λj=>some (-1))
def j2X[LP](d:List Int)(e:aj)(b:al)(c:an)(a:ao):Option Bool:=(j46 d e b c a).bind λf=>some (decide (f>=0))
def j4D[LP](b:cC)(a:fe):Option Int:=
 let c:=Int.ofNat b.1.length
 (j1B a.2.1 c).bind λo=>cond (!o) (some 3) (cond (decide (a.2.2.1.1<1)) (some 1) ((j0A a.2.2.1.1).bind λn=>cond (!n) (some 1) ((j7r a.2.2.1.2 0 86399).bind λi=>cond (!i) (some 1) ((j7r a.2.2.2.1 0 2).bind λm=>cond (!m) (some 1) ((j7r a.2.2.2.2.1 1 400).bind λp=>cond (!p) (some 1) (let f:=Int.ofNat a.2.2.2.2.2.1.length
 cond (f==0) (some 7) (let g:=Int.ofNat a.2.2.2.2.2.1.length
 cond (decide (g>12)) (some 5) ((j2X a.2.2.2.2.2.1 b.1 b.2.1 b.2.2.1 b.2.2.2).bind λe=>cond e (some 3) ((jbT a.2.2.2.2.2.2.1).bind λj=>cond (j != 0) (some 8) ((j7r a.2.2.2.2.2.2.2.2 0 2).bind λl=>cond (!l) (some 1) (let d:=Int.ofNat b.2.2.1.length
 cond (a.2.2.2.2.2.2.2.2 != 0) ((j1B a.2.2.2.2.2.2.2.1 d).bind λk=>cond (!k) (some 3) (cond (cond (a.2.2.2.2.2.2.2.2==0) (a.2.2.2.2.2.2.2.1 != 0) false) (some 1) (some 0))) (cond (cond (a.2.2.2.2.2.2.2.2==0) (a.2.2.2.2.2.2.2.1 != 0) false) (some 1) (some 0)))))))))))))
def j5q[LP](a:fe)(f:aj)(d:al)(c:an)(b:ao):Option Int:=(j4D (f,(d,(c,b))) (a.1,(a.2.1,((a.2.2.1.1,a.2.2.1.2),(a.2.2.2.1,(a.2.2.2.2.1,(a.2.2.2.2.2.1,(a.2.2.2.2.2.2.1,(a.2.2.2.2.2.2.2.1,a.2.2.2.2.2.2.2.2))))))))).bind λe=>some e
def j17[LP](m:aj)(i:al)(f:an)(e:ao)(g:aV)(l c:Int)(n:List (ByteArray×Bool)):Option ((aj×al×an×ao×aV×Int×Int×(List (ByteArray×Bool))) ⊕ (Int ⊕ Unit)):=cond (decide (c<l)) (cond (inR c g.length) (let a:=List.getD g c.toNat (ByteArray.empty,(0,((0,0),(0,(0,(([]:(List Int)),(([]:ae),(0,0))))))))
 (j5p (a.1,(a.2.1,((a.2.2.1.1,a.2.2.1.2),(a.2.2.2.1,(a.2.2.2.2.1,(a.2.2.2.2.2.1,(a.2.2.2.2.2.2.1,(a.2.2.2.2.2.2.2.1,a.2.2.2.2.2.2.2.2))))))))).bind λk=>(j5N k n).bind λb=>cond (b.1 != 0) (some (.inr (.inl b.1))) ((j5q (a.1,(a.2.1,((a.2.2.1.1,a.2.2.1.2),(a.2.2.2.1,(a.2.2.2.2.1,(a.2.2.2.2.2.1,(a.2.2.2.2.2.2.1,(a.2.2.2.2.2.2.2.1,a.2.2.2.2.2.2.2.2)))))))) m i f e).bind λd=>cond (d != 0) (some (.inr (.inl d))) (let j:=w64 (c+1)
 some (.inl (m,i,f,e,g,l,j,b.2))))) none) (some (.inr (.inr ())))
def Ez[LP](g:aj)(c:al)(b:an)(a:ao)(d:aV)(f e:Int)(i:List (ByteArray×Bool)):Option (Int ⊕ Unit):=LP.lp (unc8 j17) (g,c,b,a,d,f,e,i)
theorem WE(g:aj)(c:al)(b:an)(a:ao)(d:aV)(f e:Int)(i:List (ByteArray×Bool)):Ez g c b a d f e i=lpK (j17 g c b a d f e i) (λh=>Ez h.1 h.2.1 h.2.2.1 h.2.2.2.1 h.2.2.2.2.1 h.2.2.2.2.2.1 h.2.2.2.2.2.2.1 h.2.2.2.2.2.2.2):=bh _ _
def j3N[LP](e:aV)(d:aj)(b:al)(a:an)(c:ao):Option Int:=
 let g:(List (ByteArray×Bool)):=[]
 let f:=Int.ofNat e.length
 (Ez d b a c e f 0 g).bind λi=>sumC i (λj=>some j) (λk=>some 0)
def j5r[LP](g:cC)(a:pN):Option Int:=
 let i:=Int.ofNat g.2.1.length
 (j7r a.1 0 2).bind λj=>cond (!j) (some 1) ((j1B a.2.1 i).bind λf=>cond (cond (!f) (!(cond (a.1==1) (a.2.1==(-1)) false)) false) (cond (cond (!f) (!(cond (a.1==1) (a.2.1==(-1)) false)) false) (some 3) (cond (cond (a.1 != 2) (a.2.2.1 != 0) false) (some 1) (cond (cond (a.1==2) (a.2.1==a.2.2.1) false) (some 4) (let m:=w64 (Int.tdiv a.2.2.2.2 86400)
 cond (cond (decide (a.2.2.2.1<0)) true (decide (a.2.2.2.2<0))) (some 1) ((j0A m).bind λk=>cond (!k) (some 1) (cond (decide (a.2.2.2.1>=a.2.2.2.2)) (some 6) (some 0))))))) (cond (a.1==2) ((j1B a.2.2.1 i).bind λl=>cond (!l) (some 3) (cond (cond (a.1 != 2) (a.2.2.1 != 0) false) (some 1) (cond (cond (a.1==2) (a.2.1==a.2.2.1) false) (some 4) (let e:=w64 (Int.tdiv a.2.2.2.2 86400)
 cond (cond (decide (a.2.2.2.1<0)) true (decide (a.2.2.2.2<0))) (some 1) ((j0A e).bind λc=>cond (!c) (some 1) (cond (decide (a.2.2.2.1>=a.2.2.2.2)) (some 6) (some 0))))))) (cond (cond (a.1 != 2) (a.2.2.1 != 0) false) (some 1) (cond (cond (a.1==2) (a.2.1==a.2.2.1) false) (some 4) (let b:=w64 (Int.tdiv a.2.2.2.2 86400)
 cond (cond (decide (a.2.2.2.1<0)) true (decide (a.2.2.2.2<0))) (some 1) ((j0A b).bind λd=>cond (!d) (some 1) (cond (decide (a.2.2.2.1>=a.2.2.2.2)) (some 6) (some 0))))))))
def j1n[LP](g:aQ)(j b:Int)(k:aj)(d:al)(e:an)(f:ao):Option ((aQ×Int×Int×aj×al×an×ao) ⊕ (Int ⊕ Unit)):=cond (decide (b<j)) (cond (inR b g.length) (let a:=List.getD g b.toNat (0,(0,(0,(0,0))))
 (j5r (k,(d,(e,f))) (a.1,(a.2.1,(a.2.2.1,(a.2.2.2.1,a.2.2.2.2))))).bind λc=>cond (c != 0) (some (.inr (.inl c))) (let i:=w64 (b+1)
 some (.inl (g,j,i,k,d,e,f)))) none) (some (.inr (.inr ())))
def Iv[LP](f:aQ)(d e:Int)(g:aj)(a:al)(b:an)(c:ao):Option (Int ⊕ Unit):=LP.lp (unc7 j1n) (f,d,e,g,a,b,c)
theorem WG(f d e g a b c):Iv f d e g a b c=lpK (j1n f d e g a b c) (λh=>Iv h.1 h.2.1 h.2.2.1 h.2.2.2.1 h.2.2.2.2.1 h.2.2.2.2.2.1 h.2.2.2.2.2.2):=bh _ _
def j2Y[LP](a:cC)(b:lV):Option Int:=
 let e:=Int.ofNat b.2.1.length
 let f:=Int.ofNat b.2.2.length
 cond (cond (decide (e>6)) true (decide (f>48))) (some 5) ((j3N b.2.1 a.1 a.2.1 a.2.2.1 a.2.2.2).bind λc=>cond (c != 0) (some c) (let d:=Int.ofNat b.2.2.length
 (Iv b.2.2 d 0 a.1 a.2.1 a.2.2.1 a.2.2.2).bind λg=>sumC g (λi=>some i) (λj=>some 0)))
def jaW[LP](a:lV)(f:aj)(d:al)(c:an)(b:ao):Option Int:=(j2Y (f,(d,(c,b))) (a.1,(a.2.1,a.2.2))).bind λe=>some e
def j0P[LP](m:aj)(i:al)(f:an)(e g:ao)(l c:Int)(n:List (ByteArray×Bool)):Option ((aj×al×an×ao×ao×Int×Int×(List (ByteArray×Bool))) ⊕ (Int ⊕ Unit)):=cond (decide (c<l)) (cond (inR c g.length) (let a:=List.getD g c.toNat (ByteArray.empty,(([]:aV),([]:aQ)))
 (jaV (a.1,(a.2.1,a.2.2))).bind λk=>(j5N k n).bind λb=>cond (b.1 != 0) (some (.inr (.inl b.1))) ((jaW (a.1,(a.2.1,a.2.2)) m i f e).bind λd=>cond (d != 0) (some (.inr (.inl d))) (let j:=w64 (c+1)
 some (.inl (m,i,f,e,g,l,j,b.2))))) none) (some (.inr (.inr ())))
def EA[LP](g:aj)(c:al)(b:an)(a d:ao)(f e:Int)(i:List (ByteArray×Bool)):Option (Int ⊕ Unit):=LP.lp (unc8 j0P) (g,c,b,a,d,f,e,i)
theorem WH(g:aj)(c:al)(b:an)(a d:ao)(f e:Int)(i:List (ByteArray×Bool)):EA g c b a d f e i=lpK (j0P g c b a d f e i) (λh=>EA h.1 h.2.1 h.2.2.1 h.2.2.2.1 h.2.2.2.2.1 h.2.2.2.2.2.1 h.2.2.2.2.2.2.1 h.2.2.2.2.2.2.2):=bh _ _
def j4p[LP](e:ao)(d:aj)(b:al)(a:an)(c:ao):Option Int:=
 let g:(List (ByteArray×Bool)):=[]
 let f:=Int.ofNat e.length
 (EA d b a c e f 0 g).bind λi=>sumC i (λj=>some j) (λk=>some 0)
def j2Z[LP](g:al)(i f:Int)(j:aj)(c:al)(d:an)(e:ao)(r:List (ByteArray×Bool)):Option ((al×Int×Int×aj×al×an×ao×(List (ByteArray×Bool))) ⊕ (Int ⊕ (aj×al×an×ao))):=cond (decide (f<i)) (cond (inR f g.length) (let a:=List.getD g f.toNat (ByteArray.empty,(0,(([]:ae),(0,(0,false)))))
 (j5N a.1 r).bind λb=>let q:Bool:=ByteArray.toList a.1==ByteArray.toList (ByteArray.mk #[110,111,98,111,100,121])
 cond q (cond (2==0) ((j2K (j,(c,(d,e))) (a.1,(a.2.1,(a.2.2.1,(a.2.2.2.1,(a.2.2.2.2.1,a.2.2.2.2.2)))))).bind λk=>cond (k != 0) (some (.inr (.inl k))) (let o:=w64 (f+1)
 some (.inl (g,i,o,j,c,d,e,b.2)))) (cond (2 != 0) (some (.inr (.inl 2))) (let p:=w64 (f+1)
 some (.inl (g,i,p,j,c,d,e,b.2))))) (cond (b.1==0) ((j2K (j,(c,(d,e))) (a.1,(a.2.1,(a.2.2.1,(a.2.2.2.1,(a.2.2.2.2.1,a.2.2.2.2.2)))))).bind λl=>cond (l != 0) (some (.inr (.inl l))) (let m:=w64 (f+1)
 some (.inl (g,i,m,j,c,d,e,b.2)))) (cond (b.1 != 0) (some (.inr (.inl b.1))) (let n:=w64 (f+1)
 some (.inl (g,i,n,j,c,d,e,b.2)))))) none) (some (.inr (.inr (j,c,d,e))))
def EB[LP](d:al)(f e:Int)(g:aj)(a:al)(b:an)(c:ao)(i:List (ByteArray×Bool)):Option (Int ⊕ (aj×al×an×ao)):=LP.lp (unc8 j2Z) (d,f,e,g,a,b,c,i)
theorem WI(d:al)(f e:Int)(g:aj)(a:al)(b:an)(c:ao)(i:List (ByteArray×Bool)):EB d f e g a b c i=lpK (j2Z d f e g a b c i) (λh=>EB h.1 h.2.1 h.2.2.1 h.2.2.2.1 h.2.2.2.2.1 h.2.2.2.2.2.1 h.2.2.2.2.2.2.1 h.2.2.2.2.2.2.2):=bh _ _
def j91[LP](a:cC):Option Int:=
 let k:=Int.ofNat a.1.length
 let m:=Int.ofNat a.2.1.length
 let l:=Int.ofNat a.2.2.1.length
 let g:Bool:=cond (cond (decide (k>16)) true (decide (m>32))) true (decide (l>8))
 let e:=Int.ofNat a.2.2.2.length
 cond (cond g true (decide (e>12))) (some 5) ((j4k a.1).bind λd=>cond (d != 0) (some d) (let i:(List (ByteArray×Bool)):=[]
 let j:=Int.ofNat a.2.1.length
 (EB a.2.1 j 0 a.1 a.2.1 a.2.2.1 a.2.2.2 i).bind λn=>sumC n (λo=>some o) (λb=>(j2z b.2.2.1 b.1 b.2.1 b.2.2.1 b.2.2.2).bind λc=>cond (c != 0) (some c) ((j4p b.2.2.2 b.1 b.2.1 b.2.2.1 b.2.2.2).bind λf=>some f))))
def jim[LP](a:dN):Option (fJ×Int):=(j3t (a.1,(a.2.1,a.2.2))).bind λb=>some ((a.2.1,b.1),b.2)
def j47[LP](g:aj)(j d:Int)(i:db):Option ((aj×Int×Int×db) ⊕ (db)):=cond (decide (d<j)) (cond (inR d g.length) (let a:=List.getD g d.toNat (ByteArray.empty,(0,([]:aS)))
 (jim (a.1,(a.2.1,a.2.2))).bind λb=>let c:db:=[(b.1.1,b.1.2)]
 cond (decide (List.length i+List.length c<=aN)) (let f:db:=i++c
 let e:=w64 (d+1)
 some (.inl (g,j,e,f))) none) none) (some (.inr i))
def EC[LP](b:aj)(c a:Int)(d:db):Option db:=LP.lp (unc4 j47) (b,c,a,d)
theorem WJ(c b a d):EC c b a d=lpK (j47 c b a d) (λh=>EC h.1 h.2.1 h.2.2.1 h.2.2.2):=bh _ _
def jin[LP](a:aj):Option db:=
 let b:=Int.ofNat a.length
 (EC a b 0 ([]:db)).bind λc=>some c
def jjn[LP](a:cC):Option mP:=(jin a.1).bind λb=>some ((a.1,(a.2.1,(a.2.2.1,a.2.2.2))),b)
def jpx[LP](a:cC):Option (mP×Bool):=(j91 (a.1,(a.2.1,(a.2.2.1,a.2.2.2)))).bind λc=>cond (c != 0) (some (((([]:aj),(([]:al),(([]:an),([]:ao)))),([]:db)),false)) ((jjn (a.1,(a.2.1,(a.2.2.1,a.2.2.2)))).bind λb=>some (((b.1.1,(b.1.2.1,(b.1.2.2.1,b.1.2.2.2))),b.2),true))
def jio(b:cC)(a:Int):Option Bool:=
 let c:=Int.ofNat b.2.2.2.length
 some (cond (decide (a>=0)) (decide (a<c)) false)
def jkq(a b:Int):Option Bool:=
 let d:Bool:=cond (cond (decide (a>=0)) (decide (a<=8589934592)) false) (decide (b>=a)) false
 let c:=w64 (b-a)
 let e:Bool:=cond (cond d (decide (b<=8589934592)) false) (decide (c<=34560000)) false
 some e
def j9P[LP](b:cC)(c d e:Int):Option (mP×Int):=(jpx (b.1,(b.2.1,(b.2.2.1,b.2.2.2)))).bind λa=>cond (!a.2) (some (((a.1.1.1,(a.1.1.2.1,(a.1.1.2.2.1,a.1.1.2.2.2))),a.1.2),8)) ((jio (b.1,(b.2.1,(b.2.2.1,b.2.2.2))) c).bind λg=>cond (!g) (some (((a.1.1.1,(a.1.1.2.1,(a.1.1.2.2.1,a.1.1.2.2.2))),a.1.2),3)) ((jkq d e).bind λf=>cond (!f) (some (((a.1.1.1,(a.1.1.2.1,(a.1.1.2.2.1,a.1.1.2.2.2))),a.1.2),1)) (some (((a.1.1.1,(a.1.1.2.1,(a.1.1.2.2.1,a.1.1.2.2.2))),a.1.2),0))))
def j7N(a:List Int):Option (List Int):=cond (decide (List.length ([]:List (Int))+List.length a<=aN)) (some (([]:List (Int))++a)) none
def jap(a c b:Int):Option Bool:=some (cond (decide (a<=c)) true (decide (a>=b)))
def j0J(g b i a:Int)(c:List Int):Option ((Int×Int×Int×Int×(List Int)) ⊕ (oq ⊕ (List Int))):=cond (decide (a<i)) (cond (inR a c.length) (let e:=List.getD c a.toNat 0
 (jap e g b).bind λf=>cond f (some (.inr (.inl (a,c)))) (let d:=w64 (a+1)
 some (.inl (g,b,i,d,c)))) none) (some (.inr (.inr c)))
def ED[LP](b a d c:Int)(e:List Int):Option (oq ⊕ (List Int)):=LP.lp (unc5 j0J) (b,a,d,c,e)
theorem WK(b a d c e):ED b a d c e=lpK (j0J b a d c e) (λh=>ED h.1 h.2.1 h.2.2.1 h.2.2.2.1 h.2.2.2.2):=bh _ _
def j48[LP](b:List Int)(c a:Int):Option oq:=
 let d:=Int.ofNat b.length
 (ED c a d 0 b).bind λe=>sumC e (λf=>some (f.1,f.2)) (λg=>some ((-1),g))
def j0V(m a d e:Int)(b:List Int):Option ((Int×Int×Int×Int×(List Int)) ⊕ (oq)):=
 let g:=Int.ofNat b.length
 cond (decide (e<g)) (cond (inR e b.length) (let c:=List.getD b e.toNat 0
 (jap c m a).bind λj=>cond (!j) (cond (inR d b.length) (let l:List Int:=List.set b d.toNat c
 let i:=w64 (d+1)
 let k:=w64 (e+1)
 some (.inl (m,a,i,k,l))) none) (let f:=w64 (e+1)
 some (.inl (m,a,d,f,b)))) none) (some (.inr (d,b)))
def Iw[LP](b a c d:Int)(e:List Int):Option oq:=LP.lp (unc5 j0V) (b,a,c,d,e)
theorem WM(b a c d e):Iw b a c d e=lpK (j0V b a c d e) (λh=>Iw h.1 h.2.1 h.2.2.1 h.2.2.2.1 h.2.2.2.2):=bh _ _
def j2U[LP](e:List Int)(d a:Int):Option oq:=(j48 e d a).bind λc=>cond (c.1==(-1)) (some ((Int.ofNat c.2.length),c.2)) (let g:=w64 (c.1+1)
 (Iw d a c.1 g c.2).bind λb=>cond (decide (0<=b.1)&&decide (b.1<=(Int.ofNat b.2.length))) (let f:List Int:=List.take b.1.toNat b.2++List.replicate (List.length b.2-b.1.toNat) 0
 cond (decide (0<=b.1)&&decide (b.1<=(Int.ofNat f.length))) (some ((Int.ofNat b.1.toNat),f)) none) none)
def j5W(a:List Int):Option (List Int):=
 zJ a
def j1e(e b c:Int)(a:List Int):Option ((Int×Int×Int×(List Int)) ⊕ (oq)):=
 let l:=Int.ofNat (List.length a-b.toNat)
 cond (decide (c<l)) (cond (inR c (List.length a-b.toNat)) (let j:=List.getD a (b.toNat+c.toNat) 0
 let d:=w64 (c-1)
 cond (inR d (List.length a-b.toNat)) (let g:=List.getD a (b.toNat+d.toNat) 0
 cond (j != g) (cond (inR c (List.length a-b.toNat)) (let m:=List.getD a (b.toNat+c.toNat) 0
 cond (inR e a.length) (let n:List Int:=List.set a e.toNat m
 let i:=w64 (e+1)
 let f:=w64 (c+1)
 some (.inl (i,(Int.ofNat b.toNat),f,n))) none) none) (let k:=w64 (c+1)
 some (.inl (e,(Int.ofNat b.toNat),k,a)))) none) none) (some (.inr (e,a)))
def EE[LP](c a b:Int)(d:List Int):Option oq:=LP.lp (unc4 j1e) (c,a,b,d)
theorem WN(b c a d):EE b c a d=lpK (j1e b c a d) (λh=>EE h.1 h.2.1 h.2.2.1 h.2.2.2):=bh _ _
def j1f[LP](b:Int)(c:List Int):Option (oq ⊕ (oq ⊕ (List Int))):=
 let f:=Int.ofNat c.length
 cond (decide (b<f)) (cond (inR b c.length) (let i:=List.getD c b.toNat 0
 let d:=w64 (b-1)
 cond (inR d c.length) (let g:=List.getD c d.toNat 0
 cond (i==g) (cond (decide (0<=b)&&decide (b<=(Int.ofNat c.length))) ((EE b (Int.ofNat b.toNat) 1 c).bind λa=>cond (decide (0<=a.1)&&decide (a.1<=(Int.ofNat a.2.length))) (let e:List Int:=List.take a.1.toNat a.2++List.replicate (List.length a.2-a.1.toNat) 0
 cond (decide (0<=a.1)&&decide (a.1<=(Int.ofNat e.length))) (some (.inr (.inl ((Int.ofNat a.1.toNat),e)))) none) none) none) (let j:=w64 (b+1)
 some (.inl (j,c)))) none) none) (some (.inr (.inr c)))
def zN[LP](a:Int)(b:List Int):Option (oq ⊕ (List Int)):=LP.lp (unc2 j1f) (a,b)
theorem WO(a b):zN a b=lpK (j1f a b) (λh=>zN h.1 h.2):=bh _ _
def j4l[LP](a:List Int):Option oq:=
 let b:=Int.ofNat a.length
 cond (decide (b<2)) (some ((Int.ofNat a.length),a)) ((zN 1 a).bind λc=>sumC c (λe=>some ((Int.ofNat e.1.toNat),e.2)) (λd=>some ((Int.ofNat d.length),d)))
def jjo[LP](f:List Int)(b a:Int):Option (List Int):=(j7N f).bind λk=>(j2U k b a).bind λc=>let j:List Int:=List.take c.1.toNat c.2
 (j5W j).bind λi=>(j4l i).bind λd=>let e:List Int:=List.take d.1.toNat d.2
 cond (decide (List.length e+List.length [a]<=aN)) (let g:List Int:=e++[a]
 some g) none
def j20(a:aV):Option aV:=some a
def j9Q(a:fe):Option Int:=cond (a.2.2.2.1==2) (let b:=w64 (7*a.2.2.2.2.1)
 some b) (some a.2.2.2.2.1)
def j8x(a e:Int)(b:ae)(d:Int):Option Bool:=cond (inR a b.length) (let c:=List.getD b a.toNat (0,0)
 some (decide (c.1>d))) none
def j2L(k:Int)(b:ae)(a e l:Int):Option ((Int×ae×Int×Int×Int) ⊕ (Int)):=cond (decide (e<l)) (let f:=w64 (e+l)
 let g:Int:=IntKind.wrap .u64 f
 let d:Int:=Int.fdiv g 2
 let c:=w64 d
 (j8x c k b a).bind λj=>cond (!j) (let i:=w64 (c+1)
 some (.inl (k,b,a,i,l))) (some (.inl (k,b,a,e,c)))) (some (.inr e))
def Ix[LP](c:Int)(b:ae)(a d e:Int):Option Int:=LP.lp (unc5 j2L) (c,b,a,d,e)
theorem WQ(c b a d e):Ix c b a d e=lpK (j2L c b a d e) (λh=>Ix h.1 h.2.1 h.2.2.1 h.2.2.2.1 h.2.2.2.2):=bh _ _
def jip[LP](d c:Int)(a:ae)(b:Int):Option Int:=(Ix c a b 0 d).bind λe=>some e
def j6c[LP](a:fJ)(b:Int):Option Int:=
 let c:=Int.ofNat a.2.length
 (jip c a.1 a.2 b).bind λd=>some d
def j3X(a:fJ)(b:Int):Option Int:=cond (b==0) (some a.1) (let c:=w64 (b-1)
 cond (inR c a.2.length) (let d:=List.getD a.2 c.toNat (0,0)
 some d.2) none)
def j0s[LP](m c i:Int)(a:ae)(j:af):Option ((Int×Int×Int×ae×af) ⊕ (af)):=cond (decide (m<c)) ((j6c (i,a) m).bind λb=>let o:=Int.ofNat a.length
 cond (decide (b<o)) (cond (inR b a.length) (let d:=List.getD a b.toNat (0,0)
 let f:Int:=if d.1<c then d.1 else c
 (j3X (i,a) b).bind λk=>let e:af:=[(m,(f,k))]
 cond (decide (List.length j+List.length e<=aN)) (let p:af:=j++e
 some (.inl (f,c,i,a,p))) none) none) ((j3X (i,a) b).bind λl=>let g:af:=[(m,(c,l))]
 cond (decide (List.length j+List.length g<=aN)) (let n:af:=j++g
 some (.inl (c,c,i,a,n))) none)) (some (.inr j))
def BT[LP](b d c:Int)(a:ae)(e:af):Option af:=LP.lp (unc5 j0s) (b,d,c,a,e)
theorem BU(b d c a e):BT b d c a e=lpK (j0s b d c a e) (λh=>BT h.1 h.2.1 h.2.2.1 h.2.2.2.1 h.2.2.2.2):=bh _ _
def j1D[LP](b:fJ)(a c:Int):Option af:=(BT a c b.1 b.2 ([]:af)).bind λd=>some d
def j3V(a:Int×Int):Option Int:=
 let c:Int:=if (-1048576)>a.1 then (-1048576) else a.1
 let e:Int:=if 1048576<c then 1048576 else c
 let d:=w64 (e*86400)
 let b:=w64 (d+a.2)
 some b
def j18(j c k e:Int)(f:af):Option ((Int×Int×Int×Int×af) ⊕ ((Int×Bool) ⊕ Unit)):=cond (decide (c<j)) (cond (inR c f.length) (let a:=List.getD f c.toNat (0,(0,0))
 (j3V (k,e)).bind λg=>let b:=w64 (g-a.2.2)
 let d:Int:=if b>a.1 then b else a.1
 cond (decide (d<a.2.1)) (some (.inr (.inl (d,true)))) (let i:=w64 (c+1)
 some (.inl (j,i,k,e,f)))) none) (some (.inr (.inr ())))
def EF[LP](b c e a:Int)(d:af):Option ((Int×Bool) ⊕ Unit):=LP.lp (unc5 j18) (b,c,e,a,d)
theorem Iy(b c e a d):EF b c e a d=lpK (j18 b c e a d) (λh=>EF h.1 h.2.1 h.2.2.1 h.2.2.2.1 h.2.2.2.2):=bh _ _
def j2w[LP](b:fJ)(a:Int×Int):Option (Int×Bool):=(j1D (b.1,b.2) 0 8589934593).bind λc=>let d:=Int.ofNat c.length
 (EF d 0 a.1 a.2 c).bind λe=>sumC e (λf=>some (f.1,f.2)) (λg=>some (0,false))
def j0H[LP](b:fJ)(a:fe)(c:Int):Option (Int×Bool):=cond (decide (c>8589934592)) (some (0,false)) (cond (a.2.2.2.1 != 0) ((j9Q (a.1,(a.2.1,((a.2.2.1.1,a.2.2.1.2),(a.2.2.2.1,(a.2.2.2.2.1,(a.2.2.2.2.2.1,(a.2.2.2.2.2.2.1,(a.2.2.2.2.2.2.2.1,a.2.2.2.2.2.2.2.2))))))))).bind λl=>let g:=w64 (c*l)
 let j:=w64 (a.2.2.1.1+g)
 (j2w (b.1,b.2) (j,a.2.2.1.2)).bind λe=>some (e.1,e.2)) ((j2w (b.1,b.2) (a.2.2.1.1,a.2.2.1.2)).bind λf=>let k:=w64 (3600*a.2.2.2.2.1)
 let i:=w64 (k*c)
 let d:=w64 (f.1+i)
 some (d,(cond f.2 (decide (d<=8589934592)) false))))
def j30(a:ae):Option ae:=cond (decide (List.length ([]:List (Int×Int))+List.length a<=aN)) (some (([]:List (Int×Int))++a)) none
def j92(a:Int×Int):Option Bool:=some (decide (a.2<=a.1))
def j0p(f b:Int)(c:ae):Option ((Int×Int×ae) ⊕ (fJ ⊕ ae)):=cond (decide (b<f)) (cond (inR b c.length) (let a:=List.getD c b.toNat (0,0)
 (j92 (a.1,a.2)).bind λe=>cond e (some (.inr (.inl (b,c)))) (let d:=w64 (b+1)
 some (.inl (f,d,c)))) none) (some (.inr (.inr c)))
def EG[LP](b a:Int)(c:ae):Option (fJ ⊕ ae):=LP.lp (unc3 j0p) (b,a,c)
theorem WR(b a c):EG b a c=lpK (j0p b a c) (λh=>EG h.1 h.2.1 h.2.2):=bh _ _
def j2c[LP](a:ae):Option fJ:=
 let b:=Int.ofNat a.length
 (EG b 0 a).bind λc=>sumC c (λd=>some (d.1,d.2)) (λe=>some ((-1),e))
def j0m(c d:Int)(b:ae):Option ((Int×Int×ae) ⊕ (fJ)):=
 let f:=Int.ofNat b.length
 cond (decide (d<f)) (cond (inR d b.length) (let a:=List.getD b d.toNat (0,0)
 (j92 (a.1,a.2)).bind λi=>cond (!i) (cond (inR c b.length) (let k:ae:=List.set b c.toNat (a.1,a.2)
 let g:=w64 (c+1)
 let j:=w64 (d+1)
 some (.inl (g,j,k))) none) (let e:=w64 (d+1)
 some (.inl (c,e,b)))) none) (some (.inr (c,b)))
def Iz[LP](a b:Int)(c:ae):Option fJ:=LP.lp (unc3 j0m) (a,b,c)
theorem WS(a b c):Iz a b c=lpK (j0m a b c) (λh=>Iz h.1 h.2.1 h.2.2):=bh _ _
def j1h[LP](c:ae):Option fJ:=(j2c c).bind λb=>cond (b.1==(-1)) (some ((Int.ofNat b.2.length),b.2)) (let e:=w64 (b.1+1)
 (Iz b.1 e b.2).bind λa=>cond (decide (0<=a.1)&&decide (a.1<=(Int.ofNat a.2.length))) (let d:ae:=List.take a.1.toNat a.2++List.replicate (List.length a.2-a.1.toNat) (0,0)
 cond (decide (0<=a.1)&&decide (a.1<=(Int.ofNat d.length))) (some ((Int.ofNat a.1.toNat),d)) none) none)
def j7s(b a:Int×Int):Option Int:=
 let c:=w64 (b.1-a.1)
 some c
def j0M(a:ae):Option ae:=
 xc (.pair (.int .i64) (.int .i64)) (λc b=>(j7s c b).getD 0) a
def j3n(g d:Int)(b f:ae):Option ((Int×Int×ae×ae) ⊕ (ae)):=cond (decide (d<g)) (cond (inR d f.length) (let a:=List.getD f d.toNat (0,0)
 let c:=Int.ofNat b.length
 cond (decide (c>0)) (let l:=w64 (c-1)
 cond (inR l b.length) (let p:=(List.getD b l.toNat (0,0)).2
 cond (decide (a.1<=p)) (let e:=w64 (c-1)
 let i:=w64 (c-1)
 cond (inR i b.length) (let k:=(List.getD b i.toNat (0,0)).2
 let s:Int:=if a.2>k then a.2 else k
 cond (inR e b.length) (let t:ae:=List.set b e.toNat ((List.getD b e.toNat (0,0)).1,s)
 let q:=w64 (d+1)
 some (.inl (g,q,t,f))) none) none) (let m:ae:=[(a.1,a.2)]
 cond (decide (List.length b+List.length m<=aN)) (let r:ae:=b++m
 let o:=w64 (d+1)
 some (.inl (g,o,r,f))) none)) none) (let j:ae:=[(a.1,a.2)]
 cond (decide (List.length b+List.length j<=aN)) (let n:ae:=b++j
 let u:=w64 (d+1)
 some (.inl (g,u,n,f))) none)) none) (some (.inr b))
def EH[LP](c a:Int)(d b:ae):Option ae:=LP.lp (unc4 j3n) (c,a,d,b)
theorem NA(b a d c):EH b a d c=lpK (j3n b a d c) (λh=>EH h.1 h.2.1 h.2.2.1 h.2.2.2):=bh _ _
def j8M[LP](c:ae):Option ae:=(j30 c).bind λf=>(j1h f).bind λb=>let d:ae:=List.take b.1.toNat b.2
 (j0M d).bind λa=>let e:=Int.ofNat a.length
 (EH e 0 ([]:ae) a).bind λg=>some g
def j3C(u:ae)(b s r:Int)(k:ae)(p d c a f:Int)(t:ae)(q:af):Option ((ae×Int×Int×Int×ae×Int×Int×Int×Int×Int×ae×af) ⊕ (ae×Int×Int×Int×Int×Int×Int×ae×af)):=cond (decide (d<p)) (cond (inR d k.length) (let e:=List.getD k d.toNat (0,0)
 let i:=w64 (b+e.1)
 let n:Int:=if i>c then i else c
 let g:=w64 (b+e.2)
 let l:Int:=if g<a then g else a
 let j:ae:=[(n,l)]
 cond (decide (List.length t+List.length j<=aN)) (let o:ae:=t++j
 let m:=w64 (d+1)
 some (.inl (u,b,s,r,k,p,m,c,a,f,o,q))) none) none) (some (.inr (u,b,s,r,c,a,f,t,q)))
def IA[LP](l:ae)(f d c:Int)(g:ae)(i e j a b:Int)(m:ae)(k:af):Option (ae×Int×Int×Int×Int×Int×Int×ae×af):=LP.lp (u8 unc4 j3C) (l,f,d,c,g,i,e,j,a,b,m,k)
theorem WT(l f d c g i e j a b m k):IA l f d c g i e j a b m k=lpK (j3C l f d c g i e j a b m k) (λh=>IA h.1 h.2.1 h.2.2.1 h.2.2.2.1 h.2.2.2.2.1 h.2.2.2.2.2.1 h.2.2.2.2.2.2.1 h.2.2.2.2.2.2.2.1 h.2.2.2.2.2.2.2.2.1 h.2.2.2.2.2.2.2.2.2.1 h.2.2.2.2.2.2.2.2.2.2.1 h.2.2.2.2.2.2.2.2.2.2.2):=bh _ _
def j3D[LP](d:ae)(j i g l b e:Int)(m:ae)(k:af):Option ((ae×Int×Int×Int×Int×Int×Int×ae×af) ⊕ (ae×Int×Int×ae×af)):=cond (decide (j<b)) (let f:=Int.ofNat d.length
 (IA d j i g d f 0 l b e m k).bind λa=>let c:=w64 (a.2.1+604800)
 some (.inl (a.1,c,a.2.2.1,a.2.2.2.1,a.2.2.2.2.1,a.2.2.2.2.2.1,a.2.2.2.2.2.2.1,a.2.2.2.2.2.2.2.1,a.2.2.2.2.2.2.2.2))) (some (.inr (d,i,g,m,k)))
def IB[LP](i:ae)(e d c f a b:Int)(j:ae)(g:af):Option (ae×Int×Int×ae×af):=LP.lp (unc9 j3D) (i,e,d,c,f,a,b,j,g)
theorem WU(i e d c f a b j g):IB i e d c f a b j g=lpK (j3D i e d c f a b j g) (λh=>IB h.1 h.2.1 h.2.2.1 h.2.2.2.1 h.2.2.2.2.1 h.2.2.2.2.2.1 h.2.2.2.2.2.2.1 h.2.2.2.2.2.2.2.1 h.2.2.2.2.2.2.2.2):=bh _ _
def j3E[LP](o:ae)(m c:Int)(n:ae)(e:af):Option ((ae×Int×Int×ae×af) ⊕ (ae)):=cond (decide (c<m)) (cond (inR c e.length) (let a:=List.getD e c.toNat (0,(0,0))
 let j:=w64 (a.1+a.2.2)
 let d:=w64 (j-(-259200))
 let i:=Int.tmod d 604800
 let f:=w64 (d-i)
 let g:=w64 (f+(-259200))
 let k:=w64 (g-a.2.2)
 (IB o k m c a.1 a.2.1 a.2.2 n e).bind λb=>let l:=w64 (b.2.2.1+1)
 some (.inl (b.1,b.2.1,l,b.2.2.2.1,b.2.2.2.2))) none) (some (.inr n))
def IC[LP](d:ae)(b a:Int)(e:ae)(c:af):Option ae:=LP.lp (unc5 j3E) (d,b,a,e,c)
theorem WV(d b a e c):IC d b a e c=lpK (j3E d b a e c) (λh=>IC h.1 h.2.1 h.2.2.1 h.2.2.2.1 h.2.2.2.2):=bh _ _
def j31[LP](b:fJ)(e:ae)(a c:Int):Option ae:=(j1D (b.1,b.2) a c).bind λd=>let g:=Int.ofNat d.length
 (IC e g 0 ([]:ae) d).bind λi=>(j8M i).bind λf=>some f
def j2F(t r:Int)(k:List Int)(s e:Int)(w:ByteArray)(j:Int)(g:List Int)(i a d:Int)(v:ae)(u:af):Option ((Int×Int×(List Int)×Int×Int×ByteArray×Int×(List Int)×Int×Int×Int×ae×af) ⊕ (Int×Int×ByteArray×Int×(List Int)×ae×af)):=cond (decide (e<s)) (cond (inR e k.length) (let q:=List.getD k e.toNat 0
 let o:=w64 (q*86400)
 let b:=w64 (o-d)
 let m:Int:=if b>i then b else i
 let c:=w64 (b+86400)
 let n:Int:=if c<a then c else a
 let f:ae:=[(m,n)]
 cond (decide (List.length v+List.length f<=aN)) (let p:ae:=v++f
 let l:=w64 (e+1)
 some (.inl (t,r,k,s,l,w,j,g,i,a,d,p,u))) none) none) (some (.inr (t,r,w,j,g,v,u)))
def EI[LP](e f:Int)(i:List Int)(j k:Int)(m:ByteArray)(d:Int)(c:List Int)(g a b:Int)(n:ae)(l:af):Option (Int×Int×ByteArray×Int×(List Int)×ae×af):=LP.lp (u8 unc5 j2F) (e,f,i,j,k,m,d,c,g,a,b,n,l)
theorem WW(e f i j k m d c g a b n l):EI e f i j k m d c g a b n l=lpK (j2F e f i j k m d c g a b n l) (λh=>EI h.1 h.2.1 h.2.2.1 h.2.2.2.1 h.2.2.2.2.1 h.2.2.2.2.2.1 h.2.2.2.2.2.2.1 h.2.2.2.2.2.2.2.1 h.2.2.2.2.2.2.2.2.1 h.2.2.2.2.2.2.2.2.2.1 h.2.2.2.2.2.2.2.2.2.2.1 h.2.2.2.2.2.2.2.2.2.2.2.1 h.2.2.2.2.2.2.2.2.2.2.2.2):=bh _ _
def j2G[LP](i d:Int)(l:ByteArray)(j:Int)(c:List Int)(k:ae)(e:af):Option ((Int×Int×ByteArray×Int×(List Int)×ae×af) ⊕ (ae)):=cond (decide (d<i)) (cond (inR d e.length) (let b:=List.getD e d.toNat (0,(0,0))
 let f:=Int.ofNat c.length
 (EI i d c f 0 l j c b.1 b.2.1 b.2.2 k e).bind λa=>let g:=w64 (a.2.1+1)
 some (.inl (a.1,g,a.2.2.1,a.2.2.2.1,a.2.2.2.2.1,a.2.2.2.2.2.1,a.2.2.2.2.2.2))) none) (some (.inr k))
def EJ[LP](c d:Int)(f:ByteArray)(b:Int)(a:List Int)(g:ae)(e:af):Option ae:=LP.lp (unc7 j2G) (c,d,f,b,a,g,e)
theorem WX(c d f b a g e):EJ c d f b a g e=lpK (j2G c d f b a g e) (λh=>EJ h.1 h.2.1 h.2.2.1 h.2.2.2.1 h.2.2.2.2.1 h.2.2.2.2.2.1 h.2.2.2.2.2.2):=bh _ _
def j1V[LP](c:mP)(a:sE)(b d:Int):Option ae:=cond (inR a.2.1 c.2.length) (let e:=List.getD c.2 a.2.1.toNat (0,([]:ae))
 (j1D (e.1,e.2) b d).bind λf=>let g:=Int.ofNat f.length
 (EJ g 0 a.1 a.2.1 a.2.2 ([]:ae) f).bind λj=>(j8M j).bind λi=>some i) none
def j3F(b:ae)(c:Int)(d:ae)(f e g a:Int)(l:ae):Option ((ae×Int×ae×Int×Int×Int×Int×ae) ⊕ (ae×Int×ae×Int×Int×Int×Int×ae)):=
 let k:=Int.ofNat b.length
 cond (decide (c<k)) (cond (inR c b.length) (let j:=List.getD b c.toNat (0,0)
 cond (decide (j.2<=g)) (let i:=w64 (c+1)
 some (.inl (b,i,d,f,e,g,a,l))) (some (.inr (b,c,d,f,e,g,a,l)))) none) (some (.inr (b,c,d,f,e,g,a,l)))
def ID[LP](g:ae)(i:Int)(b:ae)(d c e a:Int)(f:ae):Option (ae×Int×ae×Int×Int×Int×Int×ae):=LP.lp (unc8 j3F) (g,i,b,d,c,e,a,f)
theorem WY(g i b d c e a f):ID g i b d c e a f=lpK (j3F g i b d c e a f) (λh=>ID h.1 h.2.1 h.2.2.1 h.2.2.2.1 h.2.2.2.2.1 h.2.2.2.2.2.1 h.2.2.2.2.2.2.1 h.2.2.2.2.2.2.2):=bh _ _
def j3G(b:ae)(u d a:Int)(e:ae)(i g q c:Int)(l:ae):Option ((ae×Int×Int×Int×ae×Int×Int×Int×Int×ae) ⊕ (ae×Int×Int×ae×Int×Int×Int×Int×ae)):=
 let m:=Int.ofNat b.length
 cond (decide (a<m)) (cond (inR a b.length) (let n:=List.getD b a.toNat (0,0)
 cond (decide (n.1<c)) (cond (inR a b.length) (let o:=List.getD b a.toNat (0,0)
 cond (decide (d<o.1)) (cond (inR a b.length) (let v:=List.getD b a.toNat (0,0)
 let f:ae:=[(d,v.1)]
 cond (decide (List.length l+List.length f<=aN)) (let t:ae:=l++f
 cond (inR a b.length) (let j:=List.getD b a.toNat (0,0)
 let w:Int:=if j.2>d then j.2 else d
 let s:=w64 (a+1)
 some (.inl (b,u,w,s,e,i,g,q,c,t))) none) none) none) (cond (inR a b.length) (let k:=List.getD b a.toNat (0,0)
 let r:Int:=if k.2>d then k.2 else d
 let p:=w64 (a+1)
 some (.inl (b,u,r,p,e,i,g,q,c,l))) none)) none) (some (.inr (b,u,d,e,i,g,q,c,l)))) none) (some (.inr (b,u,d,e,i,g,q,c,l)))
def EK[LP](j:ae)(k f e:Int)(b:ae)(d c g a:Int)(i:ae):Option (ae×Int×Int×ae×Int×Int×Int×Int×ae):=LP.lp (u8 unc2 j3G) (j,k,f,e,b,d,c,g,a,i)
theorem WZ(j k f e b d c g a i):EK j k f e b d c g a i=lpK (j3G j k f e b d c g a i) (λh=>EK h.1 h.2.1 h.2.2.1 h.2.2.2.1 h.2.2.2.2.1 h.2.2.2.2.2.1 h.2.2.2.2.2.2.1 h.2.2.2.2.2.2.2.1 h.2.2.2.2.2.2.2.2.1 h.2.2.2.2.2.2.2.2.2):=bh _ _
def j3H[LP](m:ae)(n:Int)(f:ae)(k e:Int)(l:ae):Option ((ae×Int×ae×Int×Int×ae) ⊕ (ae)):=cond (decide (e<k)) (cond (inR e f.length) (let c:=List.getD f e.toNat (0,0)
 (ID m n f k e c.1 c.2 l).bind λb=>(EK b.1 b.2.1 b.2.2.2.2.2.1 b.2.1 b.2.2.1 b.2.2.2.1 b.2.2.2.2.1 b.2.2.2.2.2.1 b.2.2.2.2.2.2.1 b.2.2.2.2.2.2.2).bind λa=>cond (decide (a.2.2.1<a.2.2.2.2.2.2.2.1)) (let d:ae:=[(a.2.2.1,a.2.2.2.2.2.2.2.1)]
 cond (decide (List.length a.2.2.2.2.2.2.2.2+List.length d<=aN)) (let g:ae:=a.2.2.2.2.2.2.2.2++d
 let i:=w64 (a.2.2.2.2.2.1+1)
 some (.inl (a.1,a.2.1,a.2.2.2.1,a.2.2.2.2.1,i,g))) none) (let j:=w64 (a.2.2.2.2.2.1+1)
 some (.inl (a.1,a.2.1,a.2.2.2.1,a.2.2.2.2.1,j,a.2.2.2.2.2.2.2.2)))) none) (some (.inr l))
def BV[LP](e:ae)(f:Int)(a:ae)(c b:Int)(d:ae):Option ae:=LP.lp (unc6 j3H) (e,f,a,c,b,d)
theorem W0(e f a c b d):BV e f a c b d=lpK (j3H e f a c b d) (λh=>BV h.1 h.2.1 h.2.2.1 h.2.2.2.1 h.2.2.2.2.1 h.2.2.2.2.2):=bh _ _
def j2x[LP](a b:ae):Option ae:=
 let c:=Int.ofNat a.length
 (BV b 0 a c 0 ([]:ae)).bind λd=>some d
def j5X(a b:ae)(d c:Int)(n:ae):Option ((ae×ae×Int×Int×ae) ⊕ (ae)):=
 let t:=Int.ofNat a.length
 let s:=Int.ofNat b.length
 cond (cond (decide (d<t)) (decide (c<s)) false) (cond (inR d a.length) (let k:=List.getD a d.toNat (0,0)
 cond (inR c b.length) (let e:=List.getD b c.toNat (0,0)
 let f:Int:=if e.1>k.1 then e.1 else k.1
 cond (inR d a.length) (let g:=List.getD a d.toNat (0,0)
 cond (inR c b.length) (let j:=List.getD b c.toNat (0,0)
 let l:Int:=if j.2<g.2 then j.2 else g.2
 cond (decide (f<l)) (let i:ae:=[(f,l)]
 cond (decide (List.length n+List.length i<=aN)) (let m:ae:=n++i
 cond (inR d a.length) (let x:=List.getD a d.toNat (0,0)
 cond (inR c b.length) (let q:=List.getD b c.toNat (0,0)
 cond (decide (x.2<q.2)) (let w:=w64 (d+1)
 some (.inl (a,b,w,c,m))) (let r:=w64 (c+1)
 some (.inl (a,b,d,r,m)))) none) none) none) (cond (inR d a.length) (let u:=List.getD a d.toNat (0,0)
 cond (inR c b.length) (let v:=List.getD b c.toNat (0,0)
 cond (decide (u.2<v.2)) (let p:=w64 (d+1)
 some (.inl (a,b,p,c,n))) (let o:=w64 (c+1)
 some (.inl (a,b,d,o,n)))) none) none)) none) none) none) none) (some (.inr n))
def zO[LP](c b:ae)(e d:Int)(a:ae):Option ae:=LP.lp (unc5 j5X) (c,b,e,d,a)
theorem jkr(c b e d a):zO c b e d a=lpK (j5X c b e d a) (λh=>zO h.1 h.2.1 h.2.2.1 h.2.2.2.1 h.2.2.2.2):=bh _ _
def j8y[LP](b a:ae):Option ae:=(zO b a 0 0 ([]:ae)).bind λc=>some c
def j73[LP](a:mP)(b:fe)(d c:Int):Option ae:=cond (inR b.2.1 a.2.length) (let s:=List.getD a.2 b.2.1.toNat (0,([]:ae))
 (j0H (s.1,s.2) (b.1,(b.2.1,((b.2.2.1.1,b.2.2.1.2),(b.2.2.2.1,(b.2.2.2.2.1,(b.2.2.2.2.2.1,(b.2.2.2.2.2.2.1,(b.2.2.2.2.2.2.2.1,b.2.2.2.2.2.2.2.2)))))))) 0).bind λi=>cond (cond (cond (!i.2) true (decide (i.1>=c))) true (decide (d>=c))) (some ([]:ae)) (let e:Int:=if i.1>d then i.1 else d
 let j:ae:=[(e,c)]
 let v:=Int.ofNat b.2.2.2.2.2.2.1.length
 cond (decide (v>0)) (cond (inR b.2.1 a.2.length) (let r:=List.getD a.2 b.2.1.toNat (0,([]:ae))
 (j31 (r.1,r.2) b.2.2.2.2.2.2.1 e c).bind λl=>cond (b.2.2.2.2.2.2.2.2==1) (cond (inR b.2.2.2.2.2.2.2.1 a.1.2.2.1.length) (let m:=List.getD a.1.2.2.1 b.2.2.2.2.2.2.2.1.toNat (ByteArray.empty,(0,([]:(List Int))))
 (j1V ((a.1.1,(a.1.2.1,(a.1.2.2.1,a.1.2.2.2))),a.2) (m.1,(m.2.1,m.2.2)) e c).bind λw=>(j2x l w).bind λt=>some t) none) (cond (b.2.2.2.2.2.2.2.2==2) (cond (inR b.2.2.2.2.2.2.2.1 a.1.2.2.1.length) (let k:=List.getD a.1.2.2.1 b.2.2.2.2.2.2.2.1.toNat (ByteArray.empty,(0,([]:(List Int))))
 (j1V ((a.1.1,(a.1.2.1,(a.1.2.2.1,a.1.2.2.2))),a.2) (k.1,(k.2.1,k.2.2)) e c).bind λu=>(j8y l u).bind λx=>some x) none) (some l))) none) (cond (b.2.2.2.2.2.2.2.2==1) (cond (inR b.2.2.2.2.2.2.2.1 a.1.2.2.1.length) (let f:=List.getD a.1.2.2.1 b.2.2.2.2.2.2.2.1.toNat (ByteArray.empty,(0,([]:(List Int))))
 (j1V ((a.1.1,(a.1.2.1,(a.1.2.2.1,a.1.2.2.2))),a.2) (f.1,(f.2.1,f.2.2)) e c).bind λp=>(j2x j p).bind λn=>some n) none) (cond (b.2.2.2.2.2.2.2.2==2) (cond (inR b.2.2.2.2.2.2.2.1 a.1.2.2.1.length) (let g:=List.getD a.1.2.2.1 b.2.2.2.2.2.2.2.1.toNat (ByteArray.empty,(0,([]:(List Int))))
 (j1V ((a.1.1,(a.1.2.1,(a.1.2.2.1,a.1.2.2.2))),a.2) (g.1,(g.2.1,g.2.2)) e c).bind λo=>(j8y j o).bind λq=>some q) none) (some j))))) none
def j7t[LP](a:fJ)(b:Int):Option Int:=(j6c (a.1,a.2) b).bind λd=>(j3X (a.1,a.2) d).bind λc=>some c
def jhr(a:Int):Option (Int×Int):=
 let e:=w64 (Int.tdiv a 86400)
 let i:=Int.tmod a 86400
 cond (decide (i<0)) (let d:=w64 (e-1)
 let f:=w64 (d*86400)
 let g:=w64 (a-f)
 some (d,g)) (let b:=w64 (e*86400)
 let c:=w64 (a-b)
 some (e,c))
def j1p[LP](a:fJ)(b:Int):Option (Int×Int):=(j7t (a.1,a.2) b).bind λe=>let d:=w64 (b+e)
 (jhr d).bind λc=>some (c.1,c.2)
def j32[LP](p m o:Int)(a:ae)(n:ByteArray)(j g b i c:Int)(k:List Int)(f:ae)(d e:Int):Option ((Int×Int×Int×ae×ByteArray×Int×Int×Int×Int×Int×(List Int)×ae×Int×Int) ⊕ (Int×Int×Int×ae×ByteArray×Int×Int×Int×Int×Int×(List Int)×ae×Int×Int)):=cond (decide (m>0)) ((j0H (o,a) (n,(j,((g,b),(i,(c,(k,(f,(d,e)))))))) m).bind λl=>cond (cond l.2 (decide (l.1<=p)) false) (some (.inr (p,m,o,a,n,j,g,b,i,c,k,f,d,e))) (let q:=w64 (m-1)
 some (.inl (p,q,o,a,n,j,g,b,i,c,k,f,d,e)))) (some (.inr (p,m,o,a,n,j,g,b,i,c,k,f,d,e)))
def IE[LP](o m n:Int)(a:ae)(l:ByteArray)(j g b i c:Int)(k:List Int)(f:ae)(d e:Int):Option (Int×Int×Int×ae×ByteArray×Int×Int×Int×Int×Int×(List Int)×ae×Int×Int):=LP.lp (u8 unc6 j32) (o,m,n,a,l,j,g,b,i,c,k,f,d,e)
theorem W7(o m n a l j g b i c k f d e):IE o m n a l j g b i c k f d e=lpK (j32 o m n a l j g b i c k f d e) (λh=>IE h.1 h.2.1 h.2.2.1 h.2.2.2.1 h.2.2.2.2.1 h.2.2.2.2.2.1 h.2.2.2.2.2.2.1 h.2.2.2.2.2.2.2.1 h.2.2.2.2.2.2.2.2.1 h.2.2.2.2.2.2.2.2.2.1 h.2.2.2.2.2.2.2.2.2.2.1 h.2.2.2.2.2.2.2.2.2.2.2.1 h.2.2.2.2.2.2.2.2.2.2.2.2.1 h.2.2.2.2.2.2.2.2.2.2.2.2.2):=bh _ _
def j4F[LP](r o q:Int)(b:ae)(p:ByteArray)(k i c j d:Int)(l:List Int)(g:ae)(e f:Int):Option ((Int×Int×Int×ae×ByteArray×Int×Int×Int×Int×Int×(List Int)×ae×Int×Int) ⊕ (Int)):=
 let m:=w64 (o+1)
 (j0H (q,b) (p,(k,((i,c),(j,(d,(l,(g,(e,f)))))))) m).bind λa=>cond (cond (!a.2) true (decide (a.1>r))) (some (.inr o)) (let n:=w64 (o+1)
 some (.inl (r,n,q,b,p,k,i,c,j,d,l,g,e,f)))
def IF[LP](o m n:Int)(a:ae)(l:ByteArray)(j g b i c:Int)(k:List Int)(f:ae)(d e:Int):Option Int:=LP.lp (u8 unc6 j4F) (o,m,n,a,l,j,g,b,i,c,k,f,d,e)
theorem jiq(o m n a l j g b i c k f d e):IF o m n a l j g b i c k f d e=lpK (j4F o m n a l j g b i c k f d e) (λh=>IF h.1 h.2.1 h.2.2.1 h.2.2.2.1 h.2.2.2.2.1 h.2.2.2.2.2.1 h.2.2.2.2.2.2.1 h.2.2.2.2.2.2.2.1 h.2.2.2.2.2.2.2.2.1 h.2.2.2.2.2.2.2.2.2.1 h.2.2.2.2.2.2.2.2.2.2.1 h.2.2.2.2.2.2.2.2.2.2.2.1 h.2.2.2.2.2.2.2.2.2.2.2.2.1 h.2.2.2.2.2.2.2.2.2.2.2.2.2):=bh _ _
def j3O[LP](c:fJ)(a:fe)(d:Int):Option Int:=(j0H (c.1,c.2) (a.1,(a.2.1,((a.2.2.1.1,a.2.2.1.2),(a.2.2.2.1,(a.2.2.2.2.1,(a.2.2.2.2.2.1,(a.2.2.2.2.2.2.1,(a.2.2.2.2.2.2.2.1,a.2.2.2.2.2.2.2.2)))))))) 0).bind λe=>cond (cond (!e.2) true (decide (e.1>d))) (some (-1)) (cond (a.2.2.2.1==0) (let j:=w64 (d-e.1)
 let i:=w64 (3600*a.2.2.2.2.1)
 cond (!(i==0)) (let k:=w64 (Int.tdiv j i)
 some k) none) ((j1p (c.1,c.2) d).bind λl=>let n:=w64 (l.1-a.2.2.1.1)
 (j9Q (a.1,(a.2.1,((a.2.2.1.1,a.2.2.1.2),(a.2.2.2.1,(a.2.2.2.2.1,(a.2.2.2.2.2.1,(a.2.2.2.2.2.2.1,(a.2.2.2.2.2.2.2.1,a.2.2.2.2.2.2.2.2))))))))).bind λg=>cond (!(g==0)) (let f:=w64 (Int.tdiv n g)
 let m:Int:=if f>0 then f else 0
 (IE d m c.1 c.2 a.1 a.2.1 a.2.2.1.1 a.2.2.1.2 a.2.2.2.1 a.2.2.2.2.1 a.2.2.2.2.2.1 a.2.2.2.2.2.2.1 a.2.2.2.2.2.2.2.1 a.2.2.2.2.2.2.2.2).bind λb=>(IF b.1 b.2.1 b.2.2.1 b.2.2.2.1 b.2.2.2.2.1 b.2.2.2.2.2.1 b.2.2.2.2.2.2.1 b.2.2.2.2.2.2.2.1 b.2.2.2.2.2.2.2.2.1 b.2.2.2.2.2.2.2.2.2.1 b.2.2.2.2.2.2.2.2.2.2.1 b.2.2.2.2.2.2.2.2.2.2.2.1 b.2.2.2.2.2.2.2.2.2.2.2.2.1 b.2.2.2.2.2.2.2.2.2.2.2.2.2).bind λo=>some o) none))
def j4G(f:af)(m e:Int)(b:af):Option ((af×Int×Int×af) ⊕ (af)):=cond (decide (e<m)) (cond (inR e f.length) (let a:=List.getD f e.toNat (0,(0,0))
 cond (decide (a.2.1<=a.1)) (let q:=w64 (e+1)
 some (.inl (f,m,q,b))) (let c:=Int.ofNat b.length
 cond (decide (c>0)) (let g:=w64 (c-1)
 cond (inR g b.length) (let w:=(List.getD b g.toNat (0,(0,0))).2.1
 cond (w==a.1) (let j:=w64 (c-1)
 cond (inR j b.length) (let v:=(List.getD b j.toNat (0,(0,0))).2.2
 cond (v==a.2.2) (let d:=w64 (c-1)
 cond (inR d b.length) (let x:af:=List.set b d.toNat ((List.getD b d.toNat (0,(0,0))).1,(a.2.1,(List.getD b d.toNat (0,(0,0))).2.2))
 let u:=w64 (e+1)
 some (.inl (f,m,u,x))) none) (let l:af:=[(a.1,(a.2.1,a.2.2))]
 cond (decide (List.length b+List.length l<=aN)) (let s:af:=b++l
 let t:=w64 (e+1)
 some (.inl (f,m,t,s))) none)) none) (let i:af:=[(a.1,(a.2.1,a.2.2))]
 cond (decide (List.length b+List.length i<=aN)) (let p:af:=b++i
 let n:=w64 (e+1)
 some (.inl (f,m,n,p))) none)) none) (let k:af:=[(a.1,(a.2.1,a.2.2))]
 cond (decide (List.length b+List.length k<=aN)) (let r:af:=b++k
 let o:=w64 (e+1)
 some (.inl (f,m,o,r))) none))) none) (some (.inr b))
def BW[LP](b:af)(a c:Int)(d:af):Option af:=LP.lp (unc4 j4G) (b,a,c,d)
theorem W8(c b a d):BW c b a d=lpK (j4G c b a d) (λh=>BW h.1 h.2.1 h.2.2.1 h.2.2.2):=bh _ _
def j9R[LP](a:af):Option af:=
 let c:=Int.ofNat a.length
 (BW a c 0 ([]:af)).bind λb=>some b
def j2A[LP](b6 o b3 q a3 a6:Int)(a7:ByteArray)(g f l j m:Int)(a:List Int)(e:ae)(i k p:Int)(c:ae)(b1 b:Int)(z:af)(a4:ae):Option ((Int×Int×Int×Int×Int×Int×ByteArray×Int×Int×Int×Int×Int×(List Int)×ae×Int×Int×Int×ae×Int×Int×af×ae) ⊕ (Int×Int×Int×Int×Int×Int×ByteArray×Int×Int×Int×Int×Int×(List Int)×ae×Int×Int×Int×ae×af×ae)):=cond (decide (o<b)) (cond (decide (o>=q)) ((j3O (p,c) (a7,(g,((f,l),(j,(m,(a,(e,(i,k)))))))) o).bind λd=>let b4:=w64 (d+1)
 (j0H (p,c) (a7,(g,((f,l),(j,(m,(a,(e,(i,k)))))))) b4).bind λn=>cond (!n.2) (let a0:Int:=if 8589934593<b then 8589934593 else b
 let a2:=Int.ofNat a.length
 cond (!(a2==0)) (let a5:=Int.tmod d a2
 cond (inR a5 a.length) (let b7:=List.getD a a5.toNat 0
 let a1:af:=[(o,(a0,b7))]
 cond (decide (List.length z+List.length a1<=aN)) (let b5:af:=z++a1
 some (.inl (b6,a0,d,8589934593,a3,a6,a7,g,f,l,j,m,a,e,i,k,p,c,b1,b,b5,a4))) none) none) none) (let s:Int:=if n.1<b then n.1 else b
 let u:=Int.ofNat a.length
 cond (!(u==0)) (let x:=Int.tmod d u
 cond (inR x a.length) (let a8:=List.getD a x.toNat 0
 let t:af:=[(o,(s,a8))]
 cond (decide (List.length z+List.length t<=aN)) (let a9:af:=z++t
 some (.inl (b6,s,d,n.1,a3,a6,a7,g,f,l,j,m,a,e,i,k,p,c,b1,b,a9,a4))) none) none) none)) (let r:Int:=if q<b then q else b
 let y:=Int.ofNat a.length
 cond (!(y==0)) (let w:=Int.tmod b3 y
 cond (inR w a.length) (let b2:=List.getD a w.toNat 0
 let v:af:=[(o,(r,b2))]
 cond (decide (List.length z+List.length v<=aN)) (let b0:af:=z++v
 some (.inl (b6,r,b3,q,a3,a6,a7,g,f,l,j,m,a,e,i,k,p,c,b1,b,b0,a4))) none) none) none)) (some (.inr (b6,o,b3,q,a3,a6,a7,g,f,l,j,m,a,e,i,k,p,c,z,a4)))
def EL[LP](v m s n o q:Int)(u:ByteArray)(e d j g l:Int)(k:List Int)(c:ae)(f i t:Int)(b:ae)(r a:Int)(w:af)(p:ae):Option (Int×Int×Int×Int×Int×Int×ByteArray×Int×Int×Int×Int×Int×(List Int)×ae×Int×Int×Int×ae×af×ae):=LP.lp (u8 (u8 unc6) j2A) (v,m,s,n,o,q,u,e,d,j,g,l,k,c,f,i,t,b,r,a,w,p)
theorem jel(v m s n o q u e d j g l k c f i t b r a w p):EL v m s n o q u e d j g l k c f i t b r a w p=lpK (j2A v m s n o q u e d j g l k c f i t b r a w p) (λh=>EL h.1 h.2.1 h.2.2.1 h.2.2.2.1 h.2.2.2.2.1 h.2.2.2.2.2.1 h.2.2.2.2.2.2.1 h.2.2.2.2.2.2.2.1 h.2.2.2.2.2.2.2.2.1 h.2.2.2.2.2.2.2.2.2.1 h.2.2.2.2.2.2.2.2.2.2.1 h.2.2.2.2.2.2.2.2.2.2.2.1 h.2.2.2.2.2.2.2.2.2.2.2.2.1 h.2.2.2.2.2.2.2.2.2.2.2.2.2.1 h.2.2.2.2.2.2.2.2.2.2.2.2.2.2.1 h.2.2.2.2.2.2.2.2.2.2.2.2.2.2.2.1 h.2.2.2.2.2.2.2.2.2.2.2.2.2.2.2.2.1 h.2.2.2.2.2.2.2.2.2.2.2.2.2.2.2.2.2.1 h.2.2.2.2.2.2.2.2.2.2.2.2.2.2.2.2.2.2.1 h.2.2.2.2.2.2.2.2.2.2.2.2.2.2.2.2.2.2.2.1 h.2.2.2.2.2.2.2.2.2.2.2.2.2.2.2.2.2.2.2.2.1 h.2.2.2.2.2.2.2.2.2.2.2.2.2.2.2.2.2.2.2.2.2):=bh _ _
def j1K[LP](x j w v k d:Int)(z:ByteArray)(n m r p t:Int)(s:List Int)(l:ae)(o q y:Int)(g:ae)(u:af)(e:ae):Option ((Int×Int×Int×Int×Int×Int×ByteArray×Int×Int×Int×Int×Int×(List Int)×ae×Int×Int×Int×ae×af×ae) ⊕ (Int×Int×af)):=cond (decide (d<k)) (cond (inR d e.length) (let b:=List.getD e d.toNat (0,0)
 let c:af:=[(j,(b.1,(-1)))]
 cond (decide (List.length u+List.length c<=aN)) (let f:af:=u++c
 (EL x b.1 w v k d z n m r p t s l o q y g b.1 b.2 f e).bind λa=>let i:=w64 (a.2.2.2.2.2.1+1)
 some (.inl (a.1,a.2.1,a.2.2.1,a.2.2.2.1,a.2.2.2.2.1,i,a.2.2.2.2.2.2.1,a.2.2.2.2.2.2.2.1,a.2.2.2.2.2.2.2.2.1,a.2.2.2.2.2.2.2.2.2.1,a.2.2.2.2.2.2.2.2.2.2.1,a.2.2.2.2.2.2.2.2.2.2.2.1,a.2.2.2.2.2.2.2.2.2.2.2.2.1,a.2.2.2.2.2.2.2.2.2.2.2.2.2.1,a.2.2.2.2.2.2.2.2.2.2.2.2.2.2.1,a.2.2.2.2.2.2.2.2.2.2.2.2.2.2.2.1,a.2.2.2.2.2.2.2.2.2.2.2.2.2.2.2.2.1,a.2.2.2.2.2.2.2.2.2.2.2.2.2.2.2.2.2.1,a.2.2.2.2.2.2.2.2.2.2.2.2.2.2.2.2.2.2.1,a.2.2.2.2.2.2.2.2.2.2.2.2.2.2.2.2.2.2.2))) none) none) (some (.inr (x,j,u)))
def EM[LP](t l q m n p:Int)(s:ByteArray)(d c i f k:Int)(j:List Int)(b:ae)(e g r:Int)(a:ae)(u:af)(o:ae):Option (Int×Int×af):=LP.lp (u8 (u8 unc4) j1K) (t,l,q,m,n,p,s,d,c,i,f,k,j,b,e,g,r,a,u,o)
theorem W9(t l q m n p s d c i f k j b e g r a u o):EM t l q m n p s d c i f k j b e g r a u o=lpK (j1K t l q m n p s d c i f k j b e g r a u o) (λh=>EM h.1 h.2.1 h.2.2.1 h.2.2.2.1 h.2.2.2.2.1 h.2.2.2.2.2.1 h.2.2.2.2.2.2.1 h.2.2.2.2.2.2.2.1 h.2.2.2.2.2.2.2.2.1 h.2.2.2.2.2.2.2.2.2.1 h.2.2.2.2.2.2.2.2.2.2.1 h.2.2.2.2.2.2.2.2.2.2.2.1 h.2.2.2.2.2.2.2.2.2.2.2.2.1 h.2.2.2.2.2.2.2.2.2.2.2.2.2.1 h.2.2.2.2.2.2.2.2.2.2.2.2.2.2.1 h.2.2.2.2.2.2.2.2.2.2.2.2.2.2.2.1 h.2.2.2.2.2.2.2.2.2.2.2.2.2.2.2.2.1 h.2.2.2.2.2.2.2.2.2.2.2.2.2.2.2.2.2.1 h.2.2.2.2.2.2.2.2.2.2.2.2.2.2.2.2.2.2.1 h.2.2.2.2.2.2.2.2.2.2.2.2.2.2.2.2.2.2.2):=bh _ _
def j1t[LP](b:mP)(a:fe)(c d:Int):Option af:=cond (inR a.2.1 b.2.length) (let f:=List.getD b.2 a.2.1.toNat (0,([]:ae))
 (j73 ((b.1.1,(b.1.2.1,(b.1.2.2.1,b.1.2.2.2))),b.2) (a.1,(a.2.1,((a.2.2.1.1,a.2.2.1.2),(a.2.2.2.1,(a.2.2.2.2.1,(a.2.2.2.2.2.1,(a.2.2.2.2.2.2.1,(a.2.2.2.2.2.2.2.1,a.2.2.2.2.2.2.2.2)))))))) c d).bind λi=>let k:=Int.ofNat i.length
 (EM d c (-1) (-1) k 0 a.1 a.2.1 a.2.2.1.1 a.2.2.1.2 a.2.2.2.1 a.2.2.2.2.1 a.2.2.2.2.2.1 a.2.2.2.2.2.2.1 a.2.2.2.2.2.2.2.1 a.2.2.2.2.2.2.2.2 f.1 f.2 ([]:af) i).bind λe=>let g:af:=[(e.2.1,(e.1,(-1)))]
 cond (decide (List.length e.2.2+List.length g<=aN)) (let j:af:=e.2.2++g
 (j9R j).bind λl=>some l) none) none
def j3I(k:Int)(f:aQ)(d b:Int)(g:ae):Option ((Int×aQ×Int×Int×ae) ⊕ (ae)):=cond (decide (b<d)) (cond (inR b f.length) (let a:=List.getD f b.toNat (0,(0,(0,(0,0))))
 cond (cond (a.1==0) (a.2.1==k) false) (let c:ae:=[(a.2.2.2.1,a.2.2.2.2)]
 cond (decide (List.length g+List.length c<=aN)) (let e:ae:=g++c
 let i:=w64 (b+1)
 some (.inl (k,f,d,i,e))) none) (let j:=w64 (b+1)
 some (.inl (k,f,d,j,g)))) none) (some (.inr g))
def EN[LP](e:Int)(c:aQ)(b a:Int)(d:ae):Option ae:=LP.lp (unc5 j3I) (e,c,b,a,d)
theorem Xa(e c b a d):EN e c b a d=lpK (j3I e c b a d) (λh=>EN h.1 h.2.1 h.2.2.1 h.2.2.2.1 h.2.2.2.2):=bh _ _
def j75[LP](b:lV)(a:Int):Option ae:=
 let c:=Int.ofNat b.2.2.length
 (EN a b.2.2 c 0 ([]:ae)).bind λe=>(j8M e).bind λd=>some d
def j35(m:af)(l n k a:Int)(q:ByteArray)(e:aV)(f:aQ)(s o g:Int)(r:db)(p:af)(d:ae):Option ((af×Int×Int×Int×Int×ByteArray×aV×aQ×Int×Int×Int×db×af×ae) ⊕ (af×Int×Int×ByteArray×aV×aQ×db×af)):=cond (decide (a<k)) (cond (inR a d.length) (let b:=List.getD d a.toNat (0,0)
 let c:af:=[(b.1,(b.2,g))]
 cond (decide (List.length p+List.length c<=aN)) (let j:af:=p++c
 let i:=w64 (a+1)
 some (.inl (m,l,n,k,i,q,e,f,s,o,g,r,j,d))) none) none) (some (.inr (m,l,n,q,e,f,r,p)))
def zP[LP](j:af)(i k g e:Int)(l:ByteArray)(b:aV)(c:aQ)(m a d:Int)(n:db)(o:af)(f:ae):Option (af×Int×Int×ByteArray×aV×aQ×db×af):=LP.lp (u8 unc6 j35) (j,i,k,g,e,l,b,c,m,a,d,n,o,f)
theorem Xb(j i k g e l b c m a d n o f):zP j i k g e l b c m a d n o f=lpK (j35 j i k g e l b c m a d n o f) (λh=>zP h.1 h.2.1 h.2.2.1 h.2.2.2.1 h.2.2.2.2.1 h.2.2.2.2.2.1 h.2.2.2.2.2.2.1 h.2.2.2.2.2.2.2.1 h.2.2.2.2.2.2.2.2.1 h.2.2.2.2.2.2.2.2.2.1 h.2.2.2.2.2.2.2.2.2.2.1 h.2.2.2.2.2.2.2.2.2.2.2.1 h.2.2.2.2.2.2.2.2.2.2.2.2.1 h.2.2.2.2.2.2.2.2.2.2.2.2.2):=bh _ _
def j36[LP](g:af)(k d:Int)(r:ByteArray)(f:aV)(e:aQ)(l:db)(o:af):Option ((af×Int×Int×ByteArray×aV×aQ×db×af) ⊕ (af)):=cond (decide (d<k)) (cond (inR d g.length) (let a:=List.getD g d.toNat (0,(0,0))
 cond (decide (a.2.2<0)) (let p:=w64 (d+1)
 some (.inl (g,k,p,r,f,e,l,o))) (let z:ae:=dx ([]:ae) l a.2.2
 cond (!(ej l a.2.2)) ((j75 (r,(f,e)) a.2.2).bind λw=>let m:db:=ea l a.2.2 w
 let s:ae:=[(a.1,a.2.1)]
 let n:ae:=dx ([]:ae) m a.2.2
 (j2x s n).bind λi=>let v:=Int.ofNat i.length
 (zP g k d v 0 r f e a.1 a.2.1 a.2.2 m o i).bind λb=>let t:=w64 (b.2.2.1+1)
 some (.inl (b.1,b.2.1,t,b.2.2.2.1,b.2.2.2.2.1,b.2.2.2.2.2.1,b.2.2.2.2.2.2.1,b.2.2.2.2.2.2.2))) (let q:ae:=[(a.1,a.2.1)]
 let u:ae:=dx ([]:ae) l a.2.2
 (j2x q u).bind λj=>let x:=Int.ofNat j.length
 (zP g k d x 0 r f e a.1 a.2.1 a.2.2 l o j).bind λc=>let y:=w64 (c.2.2.1+1)
 some (.inl (c.1,c.2.1,y,c.2.2.2.1,c.2.2.2.2.1,c.2.2.2.2.2.1,c.2.2.2.2.2.2.1,c.2.2.2.2.2.2.2))))) none) (some (.inr o))
def BX[LP](d:af)(c e:Int)(f:ByteArray)(a:aV)(b:aQ)(g:db)(i:af):Option af:=LP.lp (unc8 j36) (d,c,e,f,a,b,g,i)
theorem Xc(d c e f a b g i):BX d c e f a b g i=lpK (j36 d c e f a b g i) (λh=>BX h.1 h.2.1 h.2.2.1 h.2.2.2.1 h.2.2.2.2.1 h.2.2.2.2.2.1 h.2.2.2.2.2.2.1 h.2.2.2.2.2.2.2):=bh _ _
def j98[LP](a:lV)(b:af):Option af:=
 let c:db:=[]
 let d:=Int.ofNat b.length
 (BX b d 0 a.1 a.2.1 a.2.2 c ([]:af)).bind λe=>some e
def j5d(a:af)(c:ae)(b d:Int)(n:af):Option ((af×ae×Int×Int×af) ⊕ (af)):=
 let r:=Int.ofNat a.length
 let q:=Int.ofNat c.length
 cond (cond (decide (b<r)) (decide (d<q)) false) (cond (inR b a.length) (let l:=List.getD a b.toNat (0,(0,0))
 cond (inR d c.length) (let e:=List.getD c d.toNat (0,0)
 let f:Int:=if e.1>l.1 then e.1 else l.1
 cond (inR b a.length) (let i:=List.getD a b.toNat (0,(0,0))
 cond (inR d c.length) (let j:=List.getD c d.toNat (0,0)
 let m:Int:=if j.2<i.2.1 then j.2 else i.2.1
 cond (inR b a.length) (let y:=List.getD a b.toNat (0,(0,0))
 cond (decide (f<m)) (let g:af:=[(f,(m,y.2.2))]
 cond (decide (List.length n+List.length g<=aN)) (let k:af:=n++g
 cond (inR b a.length) (let p:=List.getD a b.toNat (0,(0,0))
 cond (inR d c.length) (let x:=List.getD c d.toNat (0,0)
 cond (decide (p.2.1<x.2)) (let u:=w64 (b+1)
 some (.inl (a,c,u,d,k))) (let v:=w64 (d+1)
 some (.inl (a,c,b,v,k)))) none) none) none) (cond (inR b a.length) (let t:=List.getD a b.toNat (0,(0,0))
 cond (inR d c.length) (let o:=List.getD c d.toNat (0,0)
 cond (decide (t.2.1<o.2)) (let s:=w64 (b+1)
 some (.inl (a,c,s,d,n))) (let w:=w64 (d+1)
 some (.inl (a,c,b,w,n)))) none) none)) none) none) none) none) none) (some (.inr n))
def zQ[LP](c:af)(b:ae)(e d:Int)(a:af):Option af:=LP.lp (unc5 j5d) (c,b,e,d,a)
theorem jjp(c b e d a):zQ c b e d a=lpK (j5d c b e d a) (λh=>zQ h.1 h.2.1 h.2.2.1 h.2.2.2.1 h.2.2.2.2):=bh _ _
def jda[LP](b:af)(a:ae):Option af:=(zQ b a 0 0 ([]:af)).bind λc=>some c
def j4b(f:af)(i c:Int)(g:ae):Option ((af×Int×Int×ae) ⊕ (ae)):=cond (decide (c<i)) (cond (inR c f.length) (let b:=List.getD f c.toNat (0,(0,0))
 let a:ae:=[(b.1,b.2.1)]
 cond (decide (List.length g+List.length a<=aN)) (let d:ae:=g++a
 let e:=w64 (c+1)
 some (.inl (f,i,e,d))) none) none) (some (.inr g))
def EO[LP](c:af)(b a:Int)(d:ae):Option ae:=LP.lp (unc4 j4b) (c,b,a,d)
theorem Xd(c b a d):EO c b a d=lpK (j4b c b a d) (λh=>EO h.1 h.2.1 h.2.2.1 h.2.2.2):=bh _ _
def jc9[LP](a:af):Option ae:=
 let c:=Int.ofNat a.length
 (EO a c 0 ([]:ae)).bind λd=>(j8M d).bind λb=>some b
def j2M(b a:pd):Option Int:=
 let c:=w64 (b.1-a.1)
 some c
def j0n(a:af):Option af:=
 xc (.pair (.int .i64) (.pair (.int .i64) (.int .i64))) (λc b=>(j2M c b).getD 0) a
def j29[LP](m:Int)(g:aV)(v:aj)(l:al)(j:an)(e:ao)(k:db)(t:ByteArray)(i:aV)(f:aQ)(w u:Int)(d:ae)(b:af):Option ((Int×aV×aj×al×an×ao×db×ByteArray×aV×aQ×Int×Int×ae×af) ⊕ (ae×af)):=cond (decide (m<=0)) (some (.inr (d,b))) (cond (decide (m<=Int.ofNat g.length)) (let n:Int:=m-1
 let a:=List.getD g n.toNat (ByteArray.empty,(0,((0,0),(0,(0,(([]:(List Int)),(([]:ae),(0,0))))))))
 (j1t ((v,(l,(j,e))),k) (a.1,(a.2.1,((a.2.2.1.1,a.2.2.1.2),(a.2.2.2.1,(a.2.2.2.2.1,(a.2.2.2.2.2.1,(a.2.2.2.2.2.2.1,(a.2.2.2.2.2.2.2.1,a.2.2.2.2.2.2.2.2)))))))) w u).bind λs=>(j98 (t,(i,f)) s).bind λp=>(jda p d).bind λc=>cond (decide (List.length b+List.length c<=aN)) (let o:af:=b++c
 (jc9 c).bind λr=>(j2x d r).bind λq=>some (.inl ((m-1),g,v,l,j,e,k,t,i,f,w,u,q,o))) none) none)
def EP[LP](k:Int)(j:aV)(l:aj)(i:al)(d:an)(b:ao)(g:db)(n:ByteArray)(e:aV)(c:aQ)(o m:Int)(f:ae)(a:af):Option (ae×af):=LP.lp (u8 unc6 j29) (k,j,l,i,d,b,g,n,e,c,o,m,f,a)
theorem Xe(k j l i d b g n e c o m f a):EP k j l i d b g n e c o m f a=lpK (j29 k j l i d b g n e c o m f a) (λh=>EP h.1 h.2.1 h.2.2.1 h.2.2.2.1 h.2.2.2.2.1 h.2.2.2.2.2.1 h.2.2.2.2.2.2.1 h.2.2.2.2.2.2.2.1 h.2.2.2.2.2.2.2.2.1 h.2.2.2.2.2.2.2.2.2.1 h.2.2.2.2.2.2.2.2.2.2.1 h.2.2.2.2.2.2.2.2.2.2.2.1 h.2.2.2.2.2.2.2.2.2.2.2.2.1 h.2.2.2.2.2.2.2.2.2.2.2.2.2):=bh _ _
def j2a(i c:Int)(e:ae)(a:af):Option ((Int×Int×ae×af) ⊕ (af)):=cond (decide (c<i)) (cond (inR c e.length) (let b:=List.getD e c.toNat (0,0)
 let d:af:=[(b.1,(b.2,(-1)))]
 cond (decide (List.length a+List.length d<=aN)) (let f:af:=a++d
 let g:=w64 (c+1)
 some (.inl (i,g,e,f))) none) none) (some (.inr a))
def ER[LP](d c:Int)(b:ae)(a:af):Option af:=LP.lp (unc4 j2a) (d,c,b,a)
theorem Xf(d c b a):ER d c b a=lpK (j2a d c b a) (λh=>ER h.1 h.2.1 h.2.2.1 h.2.2.2):=bh _ _
def j3v[LP](b:mP)(c:lV)(a d:Int):Option af:=cond (decide (a>=d)) (some ([]:af)) (let k:ae:=[(a,d)]
 (j20 c.2.1).bind λe=>(EP (Int.ofNat e.length) e b.1.1 b.1.2.1 b.1.2.2.1 b.1.2.2.2 b.2 c.1 c.2.1 c.2.2 a d k ([]:af)).bind λf=>let g:=Int.ofNat f.1.length
 (ER g 0 f.1 f.2).bind λl=>(j0n l).bind λj=>(j9R j).bind λi=>some i)
def jbv(a:Int):Option Bool:=some (a != a)
def jdb(b a:Int):Option Bool:=(jbv b).bind λd=>cond d ((jbv a).bind λc=>some (cond (!c) true (decide (b<a)))) (some (decide (b<a)))
def j8q(a:Int):Option Bool:=some (a != a)
def j1i(b:List Int)(d m e l:Int):Option (((List Int)×Int×Int×Int×Int) ⊕ ((List Int)×Int×Int×Int)):=cond (decide (e<l)) (let f:=w64 (e+l)
 let g:Int:=IntKind.wrap .u64 f
 let k:Int:=Int.fdiv g 2
 let a:=w64 k
 cond (inR a b.length) (let c:=List.getD b a.toNat 0
 (jdb c d).bind λi=>cond i (let j:=w64 (a+1)
 some (.inl (b,d,m,j,l))) (some (.inl (b,d,m,e,a)))) none) (some (.inr (b,d,m,e)))
def IG[LP](b:List Int)(a e c d:Int):Option ((List Int)×Int×Int×Int):=LP.lp (unc5 j1i) (b,a,e,c,d)
theorem j99(b a e c d):IG b a e c d=lpK (j1i b a e c d) (λh=>IG h.1 h.2.1 h.2.2.1 h.2.2.2.1 h.2.2.2.2):=bh _ _
def j2m[LP](d:List Int)(b:Int):Option (Int×Bool):=
 let e:=Int.ofNat d.length
 (IG d b e 0 e).bind λa=>cond ((inR a.2.2.2 a.1.length) || !(decide (a.2.2.2<a.2.2.1))) (let c:=List.getD a.1 a.2.2.2.toNat 0
 cond ((inR a.2.2.2 a.1.length) || !((decide (a.2.2.2<a.2.2.1))&&(!(c==a.2.1)))) (let f:=List.getD a.1 a.2.2.2.toNat 0
 cond (decide (a.2.2.2<a.2.2.1)) (cond (c==a.2.1) (some (a.2.2.2,true)) ((j8q f).bind λg=>cond g ((j8q a.2.1).bind λi=>some (a.2.2.2,i)) (some (a.2.2.2,false)))) (cond ((c==a.2.1) || !false) (some (a.2.2.2,false)) none)) none) none
def jir(a:pN)(b:Int):Option Bool:=some (cond (decide (a.2.2.2.1<=b)) (decide (b<a.2.2.2.2)) false)
def j5w(f e:Int)(d:aQ)(c b:Int):Option ((Int×Int×aQ×Int×Int) ⊕ (Int)):=cond (decide (b<c)) (cond (inR b d.length) (let a:=List.getD d b.toNat (0,(0,(0,(0,0))))
 (jir (a.1,(a.2.1,(a.2.2.1,(a.2.2.2.1,a.2.2.2.2)))) e).bind λm=>cond (cond (!m) true (a.1==0)) (let l:=w64 (b+1)
 some (.inl (f,e,d,c,l))) (cond (a.1==1) (let n:=w64 (b+1)
 some (.inl (a.2.1,e,d,c,n))) (cond (a.1 != 2) (let j:=w64 (b+1)
 some (.inl (f,e,d,c,j))) (cond (f==a.2.1) (let k:=w64 (b+1)
 some (.inl (a.2.2.1,e,d,c,k))) (cond (f==a.2.2.1) (let g:=w64 (b+1)
 some (.inl (a.2.1,e,d,c,g))) (let i:=w64 (b+1)
 some (.inl (f,e,d,c,i)))))))) none) (some (.inr f))
def ES[LP](d e:Int)(c:aQ)(b a:Int):Option Int:=LP.lp (unc5 j5w) (d,e,c,b,a)
theorem Xg(d e c b a):ES d e c b a=lpK (j5w d e c b a) (λh=>ES h.1 h.2.1 h.2.2.1 h.2.2.2.1 h.2.2.2.2):=bh _ _
def jjq[LP](b:aQ)(a c:Int):Option Int:=
 let d:=Int.ofNat b.length
 (ES a c b d 0).bind λe=>some e
def j2n(q r:Int)(f:aQ)(n c:Int)(p:aj)(g:al)(i:an)(d:ao)(k:db)(s:ByteArray)(j:aV)(e:aQ)(o:List Int):Option ((Int×Int×aQ×Int×Int×aj×al×an×ao×db×ByteArray×aV×aQ×(List Int)) ⊕ (Int×Int×aj×al×an×ao×db×ByteArray×aV×aQ×(List Int))):=cond (decide (c<n)) (cond (inR c f.length) (let a:=List.getD f c.toNat (0,(0,(0,(0,0))))
 let b:List Int:=[a.2.2.2.1,a.2.2.2.2]
 cond (decide (List.length o+List.length b<=aN)) (let m:List Int:=o++b
 let l:=w64 (c+1)
 some (.inl (q,r,f,n,l,p,g,i,d,k,s,j,e,m))) none) none) (some (.inr (q,r,p,g,i,d,k,s,j,e,o)))
def BZ[LP](l m:Int)(g:aQ)(i j:Int)(k:aj)(c:al)(d:an)(a:ao)(f:db)(n:ByteArray)(e:aV)(b:aQ)(o:List Int):Option (Int×Int×aj×al×an×ao×db×ByteArray×aV×aQ×(List Int)):=LP.lp (u8 unc6 j2n) (l,m,g,i,j,k,c,d,a,f,n,e,b,o)
theorem Xh(l m g i j k c d a f n e b o):BZ l m g i j k c d a f n e b o=lpK (j2n l m g i j k c d a f n e b o) (λh=>BZ h.1 h.2.1 h.2.2.1 h.2.2.2.1 h.2.2.2.2.1 h.2.2.2.2.2.1 h.2.2.2.2.2.2.1 h.2.2.2.2.2.2.2.1 h.2.2.2.2.2.2.2.2.1 h.2.2.2.2.2.2.2.2.2.1 h.2.2.2.2.2.2.2.2.2.2.1 h.2.2.2.2.2.2.2.2.2.2.2.1 h.2.2.2.2.2.2.2.2.2.2.2.2.1 h.2.2.2.2.2.2.2.2.2.2.2.2.2):=bh _ _
def j2o[LP](i j r p:Int)(s:ByteArray)(k:aV)(b:aQ)(t a f:Int)(d:List Int)(l q:af):Option ((Int×Int×Int×Int×ByteArray×aV×aQ×Int×Int×Int×(List Int)×af×af) ⊕ (Int×Int×ByteArray×aV×aQ×(List Int)×af×af)):=cond (decide (j<a)) (cond (inR i d.length) (let e:=List.getD d i.toNat 0
 let g:Int:=if e<a then e else a
 (jjq b f j).bind λo=>let c:af:=[(j,(g,o))]
 cond (decide (List.length l+List.length c<=aN)) (let m:af:=l++c
 let n:=w64 (i+1)
 some (.inl (n,g,r,p,s,k,b,t,a,f,d,m,q))) none) none) (some (.inr (r,p,s,k,b,d,l,q)))
def IH[LP](l f g i:Int)(n:ByteArray)(d:aV)(c:aQ)(j a b:Int)(k:List Int)(m e:af):Option (Int×Int×ByteArray×aV×aQ×(List Int)×af×af):=LP.lp (u8 unc5 j2o) (l,f,g,i,n,d,c,j,a,b,k,m,e)
theorem Xi(l f g i n d c j a b k m e):IH l f g i n d c j a b k m e=lpK (j2o l f g i n d c j a b k m e) (λh=>IH h.1 h.2.1 h.2.2.1 h.2.2.2.1 h.2.2.2.2.1 h.2.2.2.2.2.1 h.2.2.2.2.2.2.1 h.2.2.2.2.2.2.2.1 h.2.2.2.2.2.2.2.2.1 h.2.2.2.2.2.2.2.2.2.1 h.2.2.2.2.2.2.2.2.2.2.1 h.2.2.2.2.2.2.2.2.2.2.2.1 h.2.2.2.2.2.2.2.2.2.2.2.2):=bh _ _
def j1E[LP](i c:Int)(n:ByteArray)(m:aV)(l:aQ)(j:List Int)(k d:af):Option ((Int×Int×ByteArray×aV×aQ×(List Int)×af×af) ⊕ (af)):=cond (decide (c<i)) (cond (inR c d.length) (let b:=List.getD d c.toNat (0,(0,0))
 let f:=w64 (b.1+1)
 (j2m j f).bind λg=>(IH g.1 b.1 i c n m l b.1 b.2.1 b.2.2 j k d).bind λa=>let e:=w64 (a.2.1+1)
 some (.inl (a.1,e,a.2.2.1,a.2.2.2.1,a.2.2.2.2.1,a.2.2.2.2.2.1,a.2.2.2.2.2.2.1,a.2.2.2.2.2.2.2))) none) (some (.inr k))
def zR[LP](d e:Int)(i:ByteArray)(b:aV)(a:aQ)(f:List Int)(g c:af):Option af:=LP.lp (unc8 j1E) (d,e,i,b,a,f,g,c)
theorem NB(d e i b a f g c):zR d e i b a f g c=lpK (j1E d e i b a f g c) (λh=>zR h.1 h.2.1 h.2.2.1 h.2.2.2.1 h.2.2.2.2.1 h.2.2.2.2.2.1 h.2.2.2.2.2.2.1 h.2.2.2.2.2.2.2):=bh _ _
def j37[LP](c:mP)(b:lV)(d e:Int):Option af:=
 let k:=Int.ofNat b.2.2.length
 (BZ d e b.2.2 k 0 c.1.1 c.1.2.1 c.1.2.2.1 c.1.2.2.2 c.2 b.1 b.2.1 b.2.2 ([]:(List Int))).bind λa=>(jjo a.2.2.2.2.2.2.2.2.2.2 a.1 a.2.1).bind λi=>(j3v ((a.2.2.1,(a.2.2.2.1,(a.2.2.2.2.1,a.2.2.2.2.2.1))),a.2.2.2.2.2.2.1) (a.2.2.2.2.2.2.2.1,(a.2.2.2.2.2.2.2.2.1,a.2.2.2.2.2.2.2.2.2.1)) a.1 a.2.1).bind λf=>let j:=Int.ofNat f.length
 (zR j 0 a.2.2.2.2.2.2.2.1 a.2.2.2.2.2.2.2.2.1 a.2.2.2.2.2.2.2.2.2.1 i ([]:af) f).bind λl=>(j9R l).bind λg=>some g
def j4e[LP](b:cC)(a d e:Int):Option (af×Int):=(j9P (b.1,(b.2.1,(b.2.2.1,b.2.2.2))) a d e).bind λc=>cond (c.2 != 0) (some (([]:af),c.2)) (cond (inR a b.2.2.2.length) (let f:=List.getD b.2.2.2 a.toNat (ByteArray.empty,(([]:aV),([]:aQ)))
 (j37 ((c.1.1.1,(c.1.1.2.1,(c.1.1.2.2.1,c.1.1.2.2.2))),c.1.2) (f.1,(f.2.1,f.2.2)) d e).bind λg=>let i:=Int.ofNat g.length
 cond (decide (i>16384)) (some (([]:af),5)) (some (g,0))) none)
def j3J(f:cX)(i c:Int)(g:ae):Option ((cX×Int×Int×ae) ⊕ (ae)):=cond (decide (c<i)) (cond (inR c f.length) (let b:=List.getD f c.toNat ((0,0),0)
 let a:ae:=[(b.1.1,b.1.2)]
 cond (decide (List.length g+List.length a<=aN)) (let d:ae:=g++a
 let e:=w64 (c+1)
 some (.inl (f,i,e,d))) none) none) (some (.inr g))
def ET[LP](c:cX)(b a:Int)(d:ae):Option ae:=LP.lp (unc4 j3J) (c,b,a,d)
theorem Xj(c b a d):ET c b a d=lpK (j3J c b a d) (λh=>ET h.1 h.2.1 h.2.2.1 h.2.2.2):=bh _ _
def jdd[LP](a:cX):Option ae:=
 let b:=Int.ofNat a.length
 (ET a b 0 ([]:ae)).bind λc=>some c
def jf2(a:BQ):Option Bool:=some (cond (decide (a.2<1)) true (decide (a.2>8)))
def j0i(e:cX)(f b:Int):Option ((cX×Int×Int) ⊕ (Int ⊕ Unit)):=cond (decide (b<f)) (cond (inR b e.length) (let a:=List.getD e b.toNat ((0,0),0)
 (jf2 ((a.1.1,a.1.2),a.2)).bind λd=>cond d (some (.inr (.inl b))) (let c:=w64 (b+1)
 some (.inl (e,f,c)))) none) (some (.inr (.inr ())))
def EU[LP](b:cX)(c a:Int):Option (Int ⊕ Unit):=LP.lp (unc3 j0i) (b,c,a)
theorem Xk(b c a):EU b c a=lpK (j0i b c a) (λh=>EU h.1 h.2.1 h.2.2):=bh _ _
def j1F[LP](a:cX):Option Int:=
 let b:=Int.ofNat a.length
 (EU a b 0).bind λc=>sumC c (λd=>some d) (λe=>some (-1))
def j0K[LP](a:cX):Option Bool:=(j1F a).bind λb=>some (decide (b>=0))
def jhs[LP](a:cX):Option Int:=(jdd a).bind λd=>(jbT d).bind λb=>cond (b != 0) (some b) ((j0K a).bind λc=>cond c (some 1) (some 0))
def j2H(k:Int)(f:af)(j b:Int)(d:ae):Option ((Int×af×Int×Int×ae) ⊕ (ae)):=cond (decide (b<j)) (cond (inR b f.length) (let a:=List.getD f b.toNat (0,(0,0))
 cond (a.2.2==k) (let c:ae:=[(a.1,a.2.1)]
 cond (decide (List.length d+List.length c<=aN)) (let e:ae:=d++c
 let i:=w64 (b+1)
 some (.inl (k,f,j,i,e))) none) (let g:=w64 (b+1)
 some (.inl (k,f,j,g,d)))) none) (some (.inr d))
def EV[LP](d:Int)(e:af)(b a:Int)(c:ae):Option ae:=LP.lp (unc5 j2H) (d,e,b,a,c)
theorem Xl(d e b a c):EV d e b a c=lpK (j2H d e b a c) (λh=>EV h.1 h.2.1 h.2.2.1 h.2.2.2.1 h.2.2.2.2):=bh _ _
def j88[LP](b:af)(a:Int):Option ae:=
 let d:=Int.ofNat b.length
 (EV a b d 0 ([]:ae)).bind λe=>(j8M e).bind λc=>some c
def j4f(i:Int)(f:ae)(g c:Int):Option ((Int×ae×Int×Int) ⊕ (Int)):=cond (decide (c<g)) (cond (inR c f.length) (let a:=List.getD f c.toNat (0,0)
 let b:=w64 (a.2-a.1)
 let d:=w64 (i+b)
 let e:=w64 (c+1)
 some (.inl (d,f,g,e))) none) (some (.inr i))
def EW[LP](d:Int)(a:ae)(b c:Int):Option Int:=LP.lp (unc4 j4f) (d,a,b,c)
theorem Xm(d c b a):EW d c b a=lpK (j4f d c b a) (λh=>EW h.1 h.2.1 h.2.2.1 h.2.2.2):=bh _ _
def jf3[LP](a:ae):Option Int:=
 let b:=Int.ofNat a.length
 (EW 0 a b 0).bind λc=>some c
def j4g(m c:Int)(d:eR)(l:af)(k:List Int):Option ((Int×Int×eR×af×(List Int)) ⊕ (eR×af)):=cond (decide (c<m)) (cond (inR c k.length) (let a:=List.getD k c.toNat 0
 let i:Int:=(dx (0,(0,0)) d a).1
 let j:Int:=(dx (0,(0,0)) d a).2.1
 let e:Int:=(dx (0,(0,0)) d a).2.2
 let b:af:=[(i,(j,e))]
 cond (decide (List.length l+List.length b<=aN)) (let f:af:=l++b
 let g:=w64 (c+1)
 some (.inl (m,g,d,f,k))) none) none) (some (.inr (d,l)))
def EX[LP](b a:Int)(e:eR)(d:af)(c:List Int):Option (eR×af):=LP.lp (unc5 j4g) (b,a,e,d,c)
theorem Xn(b a e d c):EX b a e d c=lpK (j4g b a e d c) (λh=>EX h.1 h.2.1 h.2.2.1 h.2.2.2.1 h.2.2.2.2):=bh _ _
def jca[LP](a:eR):Option (af×eR):=cond (Cp a) (let b:List Int:=lh a
 let d:=Int.ofNat b.length
 (EX d 0 a ([]:af) b).bind λc=>some (c.2,c.1)) none
def j4H(p q:Int)(n:cX)(g e i:Int)(c:ae)(d:af)(b:eR):Option ((Int×Int×cX×Int×Int×Int×ae×af×eR) ⊕ (Int×Int×cX×Int×ae×af×eR)):=cond (decide (e<g)) (cond (inR e d.length) (let a:=List.getD d e.toNat (0,(0,0))
 cond (decide (a.2.2>=0)) (let r:Int:=(dx (0,(0,0)) b a.2.2).1
 let l:Int:=(dx (0,(0,0)) b a.2.2).2.1
 let s:Int:=(dx (0,(0,0)) b a.2.2).2.2
 let j:=w64 (l+a.2.1)
 let f:=w64 (j-a.1)
 let o:eR:=ea b a.2.2 (a.2.2,(f,f))
 let k:=w64 (e+1)
 some (.inl (p,q,n,g,k,i,c,d,o))) (let m:=w64 (e+1)
 some (.inl (p,q,n,g,m,i,c,d,b)))) none) (some (.inr (p,q,n,i,c,d,b)))
def EY[LP](i j:Int)(g:cX)(d f e:Int)(a:ae)(c:af)(b:eR):Option (Int×Int×cX×Int×ae×af×eR):=LP.lp (unc9 j4H) (i,j,g,d,f,e,a,c,b)
theorem Xo(i j g d f e a c b):EY i j g d f e a c b=lpK (j4H i j g d f e a c b) (λh=>EY h.1 h.2.1 h.2.2.1 h.2.2.2.1 h.2.2.2.2.1 h.2.2.2.2.2.1 h.2.2.2.2.2.2.1 h.2.2.2.2.2.2.2.1 h.2.2.2.2.2.2.2.2):=bh _ _
def jbw[LP](w x:Int)(r:cX)(s v q:Int)(n:ae)(t m b:Int)(l:af)(k:ae)(p:eR)(g:Int)(a:pd){u:Type}(o:pd->Option u):Option u:=
 let j:=w64 (b-1)
 (j88 l g).bind λe=>(j8y e k).bind λi=>(jf3 i).bind λf=>let c:=w64 (j*f)
 let d:=w64 (a.2.2+c)
 o (a.1,(a.2.1,d))
def j4I[LP](o p:Int)(d:cX)(m c l:Int)(b:ae)(n:af)(e:eR):Option ((Int×Int×cX×Int×Int×Int×ae×af×eR) ⊕ (eR)):=cond (decide (c<m)) (cond (inR c d.length) (let a:=List.getD d c.toNat ((0,0),0)
 let f:ae:=[(a.1.1,a.1.2)]
 (j31 (l,b) f o p).bind λi=>(qJ (λ(k:Int)(g:pd)=>jbw o p d m c l b a.1.1 a.1.2 a.2 n i e k g some) e).bind λq=>let j:=w64 (c+1)
 some (.inl (o,p,d,m,j,l,b,n,q))) none) (some (.inr e))
def EZ[LP](i j:Int)(f:cX)(g d e:Int)(a:ae)(c:af)(b:eR):Option eR:=LP.lp (unc9 j4I) (i,j,f,g,d,e,a,c,b)
theorem Xp(i j f g d e a c b):EZ i j f g d e a c b=lpK (j4I i j f g d e a c b) (λh=>EZ h.1 h.2.1 h.2.2.1 h.2.2.2.1 h.2.2.2.2.1 h.2.2.2.2.2.1 h.2.2.2.2.2.2.1 h.2.2.2.2.2.2.2.1 h.2.2.2.2.2.2.2.2):=bh _ _
def j9S[LP](a:cC)(c d f b:Int)(j:cX):Option (af×Int):=(j4e (a.1,(a.2.1,(a.2.2.1,a.2.2.2))) c d f).bind λg=>cond (g.2 != 0) (some (([]:af),g.2)) (let q:=Int.ofNat a.1.length
 cond (cond (decide (b<0)) true (decide (b>=q))) (some (([]:af),3)) ((jhs j).bind λp=>cond (p != 0) (some (([]:af),8)) (cond (inR b a.1.length) (let i:=List.getD a.1 b.toNat (ByteArray.empty,(0,([]:aS)))
 (jim (i.1,(i.2.1,i.2.2))).bind λk=>let m:eR:=[]
 let n:=Int.ofNat g.1.length
 (EY d f j n 0 k.1.1 k.1.2 g.1 m).bind λe=>let o:=Int.ofNat e.2.2.1.length
 (EZ e.1 e.2.1 e.2.2.1 o 0 e.2.2.2.1 e.2.2.2.2.1 e.2.2.2.2.2.1 e.2.2.2.2.2.2).bind λr=>(jca r).bind λl=>some (l.1,0)) none)))
def j1W(e:Int)(m:List Int)(d:Int)(l:cX)(j:ae):Option ((Int×(List Int)×Int×cX×ae) ⊕ ((List Int)×Int×cX)):=
 let i:=Int.ofNat j.length
 cond (decide (e<i)) (cond (inR e j.length) (let b:=List.getD j e.toNat (0,0)
 (j07 m d 4).bind λa=>let f:=w64 (1+a.1)
 let c:cX:=[((b.1,b.2),f)]
 cond (decide (List.length l+List.length c<=aN)) (let k:cX:=l++c
 let g:=w64 (e+1)
 some (.inl (g,a.2.1,a.2.2,k,j))) none) none) (some (.inr (m,d,l)))
def E0[LP](b:Int)(e:List Int)(a:Int)(c:cX)(d:ae):Option ((List Int)×Int×cX):=LP.lp (unc5 j1W) (b,e,a,c,d)
theorem Xq(b e a c d):E0 b e a c d=lpK (j1W b e a c d) (λh=>E0 h.1 h.2.1 h.2.2.1 h.2.2.2.1 h.2.2.2.2):=bh _ _
def j7v[LP](c:List Int)(a:Int):Option (cX×(List Int)×Int):=(j2J c a).bind λd=>(E0 0 d.2.1 d.2.2 ([]:cX) d.1).bind λb=>some (b.2.2,b.1,b.2.1)
def jmy(a:Int):Option Bool:=some (cond (decide (a>=48)) (decide (a<=57)) false)
def j6d(a:ByteArray)(b:Int):Option ((ByteArray×Int) ⊕ (Bool ⊕ Unit)):=
 let g:=Int.ofNat (ByteArray.size a)
 cond (decide (b<g)) (cond (inR b (ByteArray.size a)) (let c:=dn a b
 cond ((inR b (ByteArray.size a)) || !(!(decide (c<97)))) (let e:=dn a b
 cond ((inR b (ByteArray.size a)) || !(cond (decide (c<97)) true (decide (e>122)))) (let l:=dn a b
 cond (cond (decide (c<97)) true (decide (e>122))) ((jmy l).bind λd=>cond ((inR b (ByteArray.size a)) || !(!d)) (let f:=dn a b
 cond ((inR b (ByteArray.size a)) || !(cond (!d) (f != 95) false)) (let k:=dn a b
 cond (cond (cond (!d) (f != 95) false) (k != 45) false) (some (.inr (.inl false))) (let i:=w64 (b+1)
 some (.inl (a,i)))) none) none) (cond ((inR b (ByteArray.size a)) || !false) (let m:=dn a b
 cond ((inR b (ByteArray.size a)) || !false) (let n:=dn a b
 let j:=w64 (b+1)
 some (.inl (a,j))) none) none)) none) none) none) (some (.inr (.inr ())))
def B0[LP](a:ByteArray)(b:Int):Option (Bool ⊕ Unit):=LP.lp (unc2 j6d) (a,b)
theorem Xr(a b):B0 a b=lpK (j6d a b) (λh=>B0 h.1 h.2):=bh _ _
def jlJ[LP](a:ByteArray):Option Bool:=
 let e:=Int.ofNat (ByteArray.size a)
 let c:=Int.ofNat (ByteArray.size a)
 cond ((inR 0 (ByteArray.size a)) || !(!(cond (decide (e<1)) true (decide (c>24))))) (let d:=dn a 0
 let b:Bool:=cond (cond (decide (e<1)) true (decide (c>24))) true (decide (d<97))
 cond ((inR 0 (ByteArray.size a)) || !(!b)) (let f:=dn a 0
 cond (cond b true (decide (f>122))) (some false) ((B0 a 0).bind λg=>sumC g (λi=>some i) (λj=>some true))) none) none
def j6e(a:List ByteArray)(c d:Int):Option (((List ByteArray)×Int×Int) ⊕ (Int ⊕ Unit)):=cond (decide (d<c)) (cond (inR d a.length) (let e:=List.getD a d.toNat ByteArray.empty
 cond (inR c a.length) (let f:=List.getD a c.toNat ByteArray.empty
 cond (ByteArray.toList e==ByteArray.toList f) (some (.inr (.inl 4))) (let b:=w64 (d+1)
 some (.inl (a,c,b)))) none) none) (some (.inr (.inr ())))
def E3[LP](b:List ByteArray)(a c:Int):Option (Int ⊕ Unit):=LP.lp (unc3 j6e) (b,a,c)
theorem Xs(b a c):E3 b a c=lpK (j6e b a c) (λh=>E3 h.1 h.2.1 h.2.2):=bh _ _
def jbx[LP](b:List ByteArray)(a:Int):Option Int:=cond (inR a b.length) (let d:=List.getD b a.toNat ByteArray.empty
 (jlJ d).bind λc=>cond (!c) (some 2) ((E3 b a 0).bind λe=>sumC e (λf=>some f) (λg=>some 0))) none
def j9d(a c b:Int):Option Bool:=some (cond (decide (a>=c)) (decide (a<=b)) false)
def jgC(a:u9):Option Bool:=(j9d a.1 1970 2240).bind λi=>cond i ((j9d a.2.1 a.1 2240).bind λg=>cond g ((j9d a.2.2.1 1 12).bind λe=>cond e ((j9d a.2.2.2.1 1 5).bind λd=>cond d ((j9d a.2.2.2.2.1 0 6).bind λf=>cond f ((j9d a.2.2.2.2.2.1 0 86399).bind λb=>cond b ((j9d a.2.2.2.2.2.2 (-64800) 64800).bind λc=>some c) (some false)) (some false)) (some false)) (some false)) (some false)) (some false)
def j1j(a:Int):Option Bool:=
 let c:=Int.tmod a 4
 let d:=Int.tmod a 100
 let b:=Int.tmod a 400
 some (cond (c==0) (cond (d != 0) true (b==0)) false)
def jf4(b a:Int):Option Int:=cond (a==1) (cond (a==1) (some 31) (cond (a==4) (cond (a==4) (some 30) (cond (a==2) ((j1j b).bind λa4=>cond a4 (some 29) (some 28)) (some 0))) (cond (a==6) (cond (a==6) (some 30) (cond (a==2) ((j1j b).bind λa2=>cond a2 (some 29) (some 28)) (some 0))) (cond (a==9) (cond (a==9) (some 30) (cond (a==2) ((j1j b).bind λv=>cond v (some 29) (some 28)) (some 0))) (cond (a==11) (some 30) (cond (a==2) ((j1j b).bind λz=>cond z (some 29) (some 28)) (some 0))))))) (cond (a==3) (cond (a==3) (some 31) (cond (a==4) (cond (a==4) (some 30) (cond (a==2) ((j1j b).bind λx=>cond x (some 29) (some 28)) (some 0))) (cond (a==6) (cond (a==6) (some 30) (cond (a==2) ((j1j b).bind λa0=>cond a0 (some 29) (some 28)) (some 0))) (cond (a==9) (cond (a==9) (some 30) (cond (a==2) ((j1j b).bind λy=>cond y (some 29) (some 28)) (some 0))) (cond (a==11) (some 30) (cond (a==2) ((j1j b).bind λa3=>cond a3 (some 29) (some 28)) (some 0))))))) (cond (a==5) (cond (a==5) (some 31) (cond (a==4) (cond (a==4) (some 30) (cond (a==2) ((j1j b).bind λa1=>cond a1 (some 29) (some 28)) (some 0))) (cond (a==6) (cond (a==6) (some 30) (cond (a==2) ((j1j b).bind λw=>cond w (some 29) (some 28)) (some 0))) (cond (a==9) (cond (a==9) (some 30) (cond (a==2) ((j1j b).bind λt=>cond t (some 29) (some 28)) (some 0))) (cond (a==11) (some 30) (cond (a==2) ((j1j b).bind λi=>cond i (some 29) (some 28)) (some 0))))))) (cond (a==7) (cond (a==7) (some 31) (cond (a==4) (cond (a==4) (some 30) (cond (a==2) ((j1j b).bind λr=>cond r (some 29) (some 28)) (some 0))) (cond (a==6) (cond (a==6) (some 30) (cond (a==2) ((j1j b).bind λe=>cond e (some 29) (some 28)) (some 0))) (cond (a==9) (cond (a==9) (some 30) (cond (a==2) ((j1j b).bind λq=>cond q (some 29) (some 28)) (some 0))) (cond (a==11) (some 30) (cond (a==2) ((j1j b).bind λg=>cond g (some 29) (some 28)) (some 0))))))) (cond (a==8) (cond (a==8) (some 31) (cond (a==4) (cond (a==4) (some 30) (cond (a==2) ((j1j b).bind λs=>cond s (some 29) (some 28)) (some 0))) (cond (a==6) (cond (a==6) (some 30) (cond (a==2) ((j1j b).bind λm=>cond m (some 29) (some 28)) (some 0))) (cond (a==9) (cond (a==9) (some 30) (cond (a==2) ((j1j b).bind λj=>cond j (some 29) (some 28)) (some 0))) (cond (a==11) (some 30) (cond (a==2) ((j1j b).bind λu=>cond u (some 29) (some 28)) (some 0))))))) (cond (a==10) (cond (a==10) (some 31) (cond (a==4) (cond (a==4) (some 30) (cond (a==2) ((j1j b).bind λo=>cond o (some 29) (some 28)) (some 0))) (cond (a==6) (cond (a==6) (some 30) (cond (a==2) ((j1j b).bind λc=>cond c (some 29) (some 28)) (some 0))) (cond (a==9) (cond (a==9) (some 30) (cond (a==2) ((j1j b).bind λf=>cond f (some 29) (some 28)) (some 0))) (cond (a==11) (some 30) (cond (a==2) ((j1j b).bind λk=>cond k (some 29) (some 28)) (some 0))))))) (cond (a==12) (some 31) (cond (a==4) (cond (a==4) (some 30) (cond (a==2) ((j1j b).bind λn=>cond n (some 29) (some 28)) (some 0))) (cond (a==6) (cond (a==6) (some 30) (cond (a==2) ((j1j b).bind λl=>cond l (some 29) (some 28)) (some 0))) (cond (a==9) (cond (a==9) (some 30) (cond (a==2) ((j1j b).bind λd=>cond d (some 29) (some 28)) (some 0))) (cond (a==11) (some 30) (cond (a==2) ((j1j b).bind λp=>cond p (some 29) (some 28)) (some 0))))))))))))
def jjr(a:pd):Option Bool:=cond (decide (a.1>=1970)) (cond (decide (a.1<=2240)) (cond (decide (a.2.1>=1)) (cond (decide (a.2.1<=12)) (cond (decide (a.2.2>=1)) ((jf4 a.1 a.2.1).bind λb=>some (decide (a.2.2<=b))) (some false)) (some false)) (some false)) (some false)) (some false)
def jjs(a:Int):Option Int:=
 let k:=w64 (a-1970)
 let l:=w64 (k*365)
 let m:=w64 (a-1969)
 let i:=w64 (Int.tdiv m 4)
 let j:=w64 (l+i)
 let e:=w64 (a-1901)
 let d:=w64 (Int.tdiv e 100)
 let b:=w64 (j-d)
 let f:=w64 (a-1601)
 let g:=w64 (Int.tdiv f 400)
 let c:=w64 (b+g)
 some c
def j78(i g f a b:Int):Option ((Int×Int×Int×Int×Int) ⊕ (Int×Int×Int×Int)):=cond (decide (g<a)) ((jf4 f g).bind λc=>let d:=w64 (i+c)
 let e:=w64 (g+1)
 some (.inl (d,e,f,a,b))) (some (.inr (i,f,a,b)))
def II[LP](e d c a b:Int):Option (Int×Int×Int×Int):=LP.lp (unc5 j78) (e,d,c,a,b)
theorem Xt(e d c a b):II e d c a b=lpK (j78 e d c a b) (λh=>II h.1 h.2.1 h.2.2.1 h.2.2.2.1 h.2.2.2.2):=bh _ _
def jpy[LP](a:pd):Option (Int×Int):=(jjr (a.1,(a.2.1,a.2.2))).bind λf=>cond (!f) (some (0,1)) ((jjs a.1).bind λe=>(II e 1 a.1 a.2.1 a.2.2).bind λd=>let c:=w64 (d.1+d.2.2.2)
 let b:=w64 (c-1)
 some (b,0))
def jcc(a:Int):Option Int:=
 let b:=Int.tmod a 7
 let c:=w64 (b+10)
 let d:=Int.tmod c 7
 some d
def j79(f e g i d a:Int):Option ((Int×Int×Int×Int×Int×Int) ⊕ (Int×Int×Int×Int×Int)):=(jcc a).bind λc=>cond (c != i) (let b:=w64 (a+1)
 some (.inl (f,e,g,i,d,b))) (some (.inr (f,e,g,d,a)))
def IJ[LP](d c e f b a:Int):Option (Int×Int×Int×Int×Int):=LP.lp (unc6 j79) (d,c,e,f,b,a)
theorem Xu(d c e f b a):IJ d c e f b a=lpK (j79 d c e f b a) (λh=>IJ h.1 h.2.1 h.2.2.1 h.2.2.2.1 h.2.2.2.2.1 h.2.2.2.2.2):=bh _ _
def j7a(i g f a:Int):Option ((Int×Int×Int×Int) ⊕ (Int)):=
 let b:=w64 (a+7)
 (jf4 i g).bind λc=>let d:=w64 (f+c)
 cond (decide (b<d)) (let e:=w64 (a+7)
 some (.inl (i,g,f,e))) (some (.inr a))
def IK[LP](d c b a:Int):Option Int:=LP.lp (unc4 j7a) (d,c,b,a)
theorem Xv(d c b a):IK d c b a=lpK (j7a d c b a) (λh=>IK h.1 h.2.1 h.2.2.1 h.2.2.2):=bh _ _
def jpz[LP](e c b a:Int):Option (Int×Int):=(jpy (e,(c,1))).bind λf=>let j:Bool:=cond (cond (f.2 != 0) true (decide (b<1))) true (decide (b>5))
 let i:Bool:=cond (cond j true (decide (a<0))) true (decide (a>6))
 cond i (some (0,1)) ((IJ e c b a f.1 f.1).bind λd=>cond (decide (d.2.2.1<5)) (let l:=w64 (d.2.2.1-1)
 let g:=w64 (7*l)
 let k:=w64 (d.2.2.2.2+g)
 some (k,0)) ((IK d.1 d.2.1 d.2.2.2.1 d.2.2.2.2).bind λm=>some (m,0)))
def j2q(i:aS)(k j c e a:Int)(d:ae):Option ((aS×Int×Int×Int×Int×Int×ae) ⊕ (aS×Int×Int×Int×Int×Int×ae)):=cond (decide (c>0)) (let b:=w64 (c-1)
 cond (inR b d.length) (let f:=(List.getD d b.toNat (0,0)).1
 cond (decide (f>e)) (let g:=w64 (c-1)
 some (.inl (i,k,j,g,e,a,d))) (some (.inr (i,k,j,c,e,a,d)))) none) (some (.inr (i,k,j,c,e,a,d)))
def E4[LP](d:aS)(g e b c a:Int)(f:ae):Option (aS×Int×Int×Int×Int×Int×ae):=LP.lp (unc7 j2q) (d,g,e,b,c,a,f)
theorem Xw(d g e b c a f):E4 d g e b c a f=lpK (j2q d g e b c a f) (λh=>E4 h.1 h.2.1 h.2.2.1 h.2.2.2.1 h.2.2.2.2.1 h.2.2.2.2.2.1 h.2.2.2.2.2.2):=bh _ _
def j2r[LP](c:aS)(d t:Int)(u:ae):Option ((aS×Int×Int×ae) ⊕ (aS×Int×ae)):=cond (inR d c.length) (let k:=List.getD c d.toNat (0,(0,(0,(0,(0,(0,0))))))
 cond (decide (t<=k.2.1)) (cond (inR d c.length) (let s:=List.getD c d.toNat (0,(0,(0,(0,(0,(0,0))))))
 cond (inR d c.length) (let q:=List.getD c d.toNat (0,(0,(0,(0,(0,(0,0))))))
 cond (inR d c.length) (let l:=List.getD c d.toNat (0,(0,(0,(0,(0,(0,0))))))
 (jpz t s.2.2.1 q.2.2.2.1 l.2.2.2.2.1).bind λn=>let j:=w64 (n.1*86400)
 cond (inR d c.length) (let m:=List.getD c d.toNat (0,(0,(0,(0,(0,(0,0))))))
 let i:=w64 (j+m.2.2.2.2.2.1)
 cond (inR d c.length) (let p:=List.getD c d.toNat (0,(0,(0,(0,(0,(0,0))))))
 let r:=Int.ofNat u.length
 (E4 c d t r i p.2.2.2.2.2.2 u).bind λa=>let f:ae:=[(a.2.2.2.2.1,a.2.2.2.2.2.1)]
 cond (decide (List.length a.2.2.2.2.2.2+List.length f<=aN)) (let b:ae:=a.2.2.2.2.2.2++f
 let e:=w64 (a.2.2.2.1+1)
 cond (decide (0<=e)&&decide (e<=(Int.ofNat b.length))) (cond (decide (0<=a.2.2.2.1)&&decide (a.2.2.2.1<=(Int.ofNat b.length))) (let g:ae:=over b e.toNat (List.drop a.2.2.2.1.toNat b)
 let w:=Int.ofNat (min (List.length (List.drop a.2.2.2.1.toNat b)) (List.length b-e.toNat))
 cond (inR a.2.2.2.1 g.length) (let v:ae:=List.set g a.2.2.2.1.toNat (a.2.2.2.2.1,a.2.2.2.2.2.1)
 let o:=w64 (a.2.2.1+1)
 some (.inl (a.1,a.2.1,o,v))) none) none) none) none) none) none) none) none) none) (some (.inr (c,d,u)))) none
def IL[LP](a:aS)(c b:Int)(d:ae):Option (aS×Int×ae):=LP.lp (unc4 j2r) (a,c,b,d)
theorem Xx(a d b c):IL a d b c=lpK (j2r a d b c) (λh=>IL h.1 h.2.1 h.2.2.1 h.2.2.2):=bh _ _
def j2s[LP](c:aS)(e:Int)(g:ae):Option ((aS×Int×ae) ⊕ (ae)):=
 let f:=Int.ofNat c.length
 cond (decide (e<f)) (cond (inR e c.length) (let d:=List.getD c e.toNat (0,(0,(0,(0,(0,(0,0))))))
 (IL c e d.1 g).bind λa=>let b:=w64 (a.2.1+1)
 some (.inl (a.1,b,a.2.2))) none) (some (.inr g))
def E5[LP](a:aS)(b:Int)(c:ae):Option ae:=LP.lp (unc3 j2s) (a,b,c)
theorem Xy(a b c):E5 a b c=lpK (j2s a b c) (λh=>E5 h.1 h.2.1 h.2.2):=bh _ _
def j9e[LP](a:aS):Option ae:=(E5 a 0 ([]:ae)).bind λb=>some b
def j2t(o c:Int)(n:ByteArray)(d:Int)(a:aS):Option ((Int×Int×ByteArray×Int×aS) ⊕ (Int ⊕ (Int×ByteArray×Int×aS))):=
 let j:=Int.ofNat a.length
 cond (decide (c<j)) (cond (inR c a.length) (let b:=List.getD a c.toNat (0,(0,(0,(0,(0,(0,0))))))
 (jgC (b.1,(b.2.1,(b.2.2.1,(b.2.2.2.1,(b.2.2.2.2.1,(b.2.2.2.2.2.1,b.2.2.2.2.2.2))))))).bind λf=>cond (!f) (some (.inr (.inl 1))) (cond (inR c a.length) (let l:=List.getD a c.toNat (0,(0,(0,(0,(0,(0,0))))))
 cond (inR c a.length) (let g:=List.getD a c.toNat (0,(0,(0,(0,(0,(0,0))))))
 let m:=w64 (l.2.1-g.1)
 let e:=w64 (m+1)
 let k:=w64 (o+e)
 let i:=w64 (c+1)
 some (.inl (k,i,n,d,a))) none) none)) none) (some (.inr (.inr (o,n,d,a))))
def E6[LP](e d:Int)(c:ByteArray)(a:Int)(b:aS):Option (Int ⊕ (Int×ByteArray×Int×aS)):=LP.lp (unc5 j2t) (e,d,c,a,b)
theorem Xz(e d c a b):E6 e d c a b=lpK (j2t e d c a b) (λh=>E6 h.1 h.2.1 h.2.2.1 h.2.2.2.1 h.2.2.2.2):=bh _ _
def j2u(y d:Int)(c e:ae):Option ((Int×Int×ae×ae) ⊕ (Int ⊕ ae)):=
 let v:=Int.ofNat e.length
 cond (decide (d<v)) (cond (inR d e.length) (let t:=(List.getD e d.toNat (0,0)).2
 cond (t==y) (let r:=w64 (d+1)
 some (.inl (y,r,c,e))) (cond (inR d e.length) (let s:=(List.getD e d.toNat (0,0)).1
 let b:=w64 (s-y)
 cond (inR d e.length) (let a:=(List.getD e d.toNat (0,0)).2
 let o:=w64 (a-y)
 (j9d o (-86399) 86399).bind λq=>cond (!q) (some (.inr (.inl 6))) ((j9d b 0 8589934592).bind λu=>cond (!u) (some (.inr (.inl 6))) (let x:=Int.ofNat c.length
 cond (decide (x>0)) (let j:=Int.ofNat c.length
 let f:=w64 (j-1)
 cond (inR f c.length) (let l:=(List.getD c f.toNat (0,0)).1
 let k:=w64 (b-l)
 cond (decide (k<604800)) (some (.inr (.inl 6))) (let g:ae:=[(b,a)]
 cond (decide (List.length c+List.length g<=aN)) (let m:ae:=c++g
 let w:=w64 (d+1)
 some (.inl (a,w,m,e))) none)) none) (let i:ae:=[(b,a)]
 cond (decide (List.length c+List.length i<=aN)) (let n:ae:=c++i
 let p:=w64 (d+1)
 some (.inl (a,p,n,e))) none)))) none) none)) none) (some (.inr (.inr c)))
def E7[LP](a c:Int)(d b:ae):Option (Int ⊕ ae):=LP.lp (unc4 j2u) (a,c,d,b)
theorem XA(b a c d):E7 b a c d=lpK (j2u b a c d) (λh=>E7 h.1 h.2.1 h.2.2.1 h.2.2.2):=bh _ _
def j0h[LP](a:dN):Option (ae×Int):=(j9d a.2.1 (-64800) 64800).bind λf=>cond (!f) (some (([]:ae),1)) (let c:=Int.ofNat a.2.2.length
 cond (decide (c>16)) (some (([]:ae),5)) ((E6 0 0 a.1 a.2.1 a.2.2).bind λi=>sumC i (λk=>some (([]:ae),k)) (λg=>cond (decide (g.1>640)) (some (([]:ae),5)) ((j9e g.2.2.2).bind λd=>(E7 g.2.2.1 0 ([]:ae) d).bind λj=>sumC j (λe=>some (([]:ae),e)) (λb=>some (b,0))))))
def j7b[LP](a:dN):Option Int:=(j0h (a.1,(a.2.1,a.2.2))).bind λb=>some b.2
def j4h(i:Bool)(e:Int)(j:ByteArray)(g:Int)(a:aS):Option ((Bool×Int×ByteArray×Int×aS) ⊕ (Bool)):=
 let b:=Int.ofNat a.length
 cond (decide (e<b)) (cond ((inR e a.length) || !i) (let f:=List.getD a e.toNat (0,(0,(0,(0,(0,(0,0))))))
 let c:=Int.tmod f.2.2.2.2.2.2 60
 let d:=w64 (e+1)
 some (.inl ((cond i (c==0) false),d,j,g,a))) none) (some (.inr i))
def E8[LP](d:Bool)(e:Int)(c:ByteArray)(a:Int)(b:aS):Option Bool:=LP.lp (unc5 j4h) (d,e,c,a,b)
theorem XB(d e c a b):E8 d e c a b=lpK (j4h d e c a b) (λh=>E8 h.1 h.2.1 h.2.2.1 h.2.2.2.1 h.2.2.2.2):=bh _ _
def jcd[LP](a:dN):Option Bool:=
 let b:=Int.tmod a.2.1 60
 (E8 (b==0) 0 a.1 a.2.1 a.2.2).bind λc=>some c
def j5y[LP](c:Int)(d:aj)(l:al)(m:an)(o:ao)(p:List ByteArray):Option ((Int×aj×al×an×ao×(List ByteArray)) ⊕ (Int ⊕ Unit)):=
 let n:=Int.ofNat d.length
 cond (decide (c<n)) (cond (inR c d.length) (let i:=List.getD d c.toNat (ByteArray.empty,(0,([]:aS)))
 cond (decide (List.length p+List.length [i.1]<=aN)) (let e:List ByteArray:=p++[i.1]
 (jbx e c).bind λg=>cond (g != 0) (some (.inr (.inl g))) (cond (inR c d.length) (let a:=List.getD d c.toNat (ByteArray.empty,(0,([]:aS)))
 (j7b (a.1,(a.2.1,a.2.2))).bind λf=>cond ((inR c d.length) || !(!(f != 0))) (let b:=List.getD d c.toNat (ByteArray.empty,(0,([]:aS)))
 cond (f != 0) (some (.inr (.inl 8))) ((jcd (b.1,(b.2.1,b.2.2))).bind λk=>cond (!k) (some (.inr (.inl 8))) (let j:=w64 (c+1)
 some (.inl (j,d,l,m,o,e))))) none) none)) none) none) (some (.inr (.inr ())))
def E9[LP](f:Int)(d:aj)(a:al)(b:an)(c:ao)(e:List ByteArray):Option (Int ⊕ Unit):=LP.lp (unc6 j5y) (f,d,a,b,c,e)
theorem XC(f d a b c e):E9 f d a b c e=lpK (j5y f d a b c e) (λh=>E9 h.1 h.2.1 h.2.2.1 h.2.2.2.1 h.2.2.2.2.1 h.2.2.2.2.2):=bh _ _
def jmz[LP](a:cC):Option Int:=(E9 0 a.1 a.2.1 a.2.2.1 a.2.2.2 ([]:(List ByteArray))).bind λb=>sumC b (λc=>some c) (λd=>some 0)
def j8c(a c b:Int):Option Bool:=some (cond (decide (a>=c)) (decide (a<=b)) false)
def j5z(a:ae)(b:Int):Option ((ae×Int) ⊕ (Int ⊕ Unit)):=
 let m:=Int.ofNat a.length
 cond (decide (b<m)) (cond (inR b a.length) (let f:=List.getD a b.toNat (0,0)
 cond (decide (f.1<0)) (some (.inr (.inl 1))) (cond (inR b a.length) (let d:=List.getD a b.toNat (0,0)
 cond (inR b a.length) (let j:=List.getD a b.toNat (0,0)
 cond (decide (d.1>=j.2)) (some (.inr (.inl 1))) (cond (inR b a.length) (let e:=List.getD a b.toNat (0,0)
 cond (decide (e.2>604800)) (some (.inr (.inl 1))) (cond (decide (b>0)) (cond (inR b a.length) (let g:=List.getD a b.toNat (0,0)
 let c:=w64 (b-1)
 cond (inR c a.length) (let i:=List.getD a c.toNat (0,0)
 cond (decide (g.1<i.2)) (some (.inr (.inl 6))) (let k:=w64 (b+1)
 some (.inl (a,k)))) none) none) (let l:=w64 (b+1)
 some (.inl (a,l))))) none)) none) none)) none) (some (.inr (.inr ())))
def Fa[LP](a:ae)(b:Int):Option (Int ⊕ Unit):=LP.lp (unc2 j5z) (a,b)
theorem XE(a b):Fa a b=lpK (j5z a b) (λh=>Fa h.1 h.2):=bh _ _
def jaA[LP](a:ae):Option Int:=
 let b:=Int.ofNat a.length
 cond (decide (b>14)) (some 5) ((Fa a 0).bind λc=>sumC c (λd=>some d) (λe=>some 0))
def jjw(a:Int):Option Bool:=(j8c a 0 604800).bind λc=>let b:=Int.tmod a 3600
 some (cond c (b==0) false)
def j4N[LP](e:Int)(r:aj)(b:al)(p:an)(q:ao)(s:List ByteArray):Option ((Int×aj×al×an×ao×(List ByteArray)) ⊕ (Int ⊕ Unit)):=
 let m:=Int.ofNat b.length
 cond (decide (e<m)) (cond (inR e b.length) (let a:=List.getD b e.toNat (ByteArray.empty,(0,(([]:ae),(0,(0,false)))))
 cond (decide (List.length s+List.length [a.1]<=aN)) (let d:List ByteArray:=s++[a.1]
 let n:Bool:=ByteArray.toList a.1==ByteArray.toList (ByteArray.mk #[110,111,98,111,100,121])
 cond n (some (.inr (.inl 2))) ((jbx d e).bind λc=>cond (c != 0) (some (.inr (.inl c))) (let k:=Int.ofNat r.length
 let l:=w64 (k-1)
 (j8c a.2.1 0 l).bind λo=>cond (!o) (some (.inr (.inl 3))) ((jaA a.2.2.1).bind λf=>cond (f != 0) (some (.inr (.inl 8))) ((jjw a.2.2.2.1).bind λg=>cond (!g) (some (.inr (.inl 1))) ((jjw a.2.2.2.2.1).bind λj=>cond (!j) (some (.inr (.inl 1))) (let i:=w64 (e+1)
 some (.inl (i,r,b,p,q,d))))))))) none) none) (some (.inr (.inr ())))
def Fb[LP](f:Int)(d:aj)(a:al)(b:an)(c:ao)(e:List ByteArray):Option (Int ⊕ Unit):=LP.lp (unc6 j4N) (f,d,a,b,c,e)
theorem XF(f d a b c e):Fb f d a b c e=lpK (j4N f d a b c e) (λh=>Fb h.1 h.2.1 h.2.2.1 h.2.2.2.1 h.2.2.2.2.1 h.2.2.2.2.2):=bh _ _
def jks[LP](a:cC):Option Int:=(Fb 0 a.1 a.2.1 a.2.2.1 a.2.2.2 ([]:(List ByteArray))).bind λb=>sumC b (λc=>some c) (λd=>some 0)
def jbU  : Option Int:=(jjs 2241).bind λa=>let b:=w64 (a-1)
 some b
def j38(p i:Int)(m:aj)(b:al)(c:an)(e:ao)(o:ByteArray)(d:Int)(a:List Int)(n:List ByteArray):Option ((Int×Int×aj×al×an×ao×ByteArray×Int×(List Int)×(List ByteArray)) ⊕ (Int ⊕ (Int×aj×al×an×ao×ByteArray×Int×(List Int)×(List ByteArray)))):=
 let j:=Int.ofNat a.length
 cond (decide (i<j)) (cond (inR i a.length) (let g:=List.getD a i.toNat 0
 (jbU).bind λk=>(j8c g 0 k).bind λf=>cond (!f) (some (.inr (.inl 1))) (let l:=w64 (i+1)
 some (.inl (p,l,m,b,c,e,o,d,a,n)))) none) (some (.inr (.inr (p,m,b,c,e,o,d,a,n))))
def Fc[LP](k g:Int)(f:aj)(b:al)(c:an)(e:ao)(j:ByteArray)(d:Int)(a:List Int)(i:List ByteArray):Option (Int ⊕ (Int×aj×al×an×ao×ByteArray×Int×(List Int)×(List ByteArray))):=LP.lp (u8 unc2 j38) (k,g,f,b,c,e,j,d,a,i)
theorem XG(k g f b c e j d a i):Fc k g f b c e j d a i=lpK (j38 k g f b c e j d a i) (λh=>Fc h.1 h.2.1 h.2.2.1 h.2.2.2.1 h.2.2.2.2.1 h.2.2.2.2.2.1 h.2.2.2.2.2.2.1 h.2.2.2.2.2.2.2.1 h.2.2.2.2.2.2.2.2.1 h.2.2.2.2.2.2.2.2.2):=bh _ _
def j4O(o c:Int)(m:aj)(d:al)(e:an)(f:ao)(p:ByteArray)(l:Int)(a:List Int)(n:List ByteArray):Option ((Int×Int×aj×al×an×ao×ByteArray×Int×(List Int)×(List ByteArray)) ⊕ (Int ⊕ (Int×aj×al×an×ao×(List ByteArray)))):=
 let g:=Int.ofNat a.length
 cond (decide (c<g)) (cond (inR c a.length) (let j:=List.getD a c.toNat 0
 let b:=w64 (c-1)
 cond (inR b a.length) (let i:=List.getD a b.toNat 0
 cond (decide (j<=i)) (some (.inr (.inl 6))) (let k:=w64 (c+1)
 some (.inl (o,k,m,d,e,f,p,l,a,n)))) none) none) (some (.inr (.inr (o,m,d,e,f,n))))
def Fe[LP](k g:Int)(f:aj)(b:al)(c:an)(e:ao)(j:ByteArray)(d:Int)(a:List Int)(i:List ByteArray):Option (Int ⊕ (Int×aj×al×an×ao×(List ByteArray))):=LP.lp (u8 unc2 j4O) (k,g,f,b,c,e,j,d,a,i)
theorem jis(k g f b c e j d a i):Fe k g f b c e j d a i=lpK (j4O k g f b c e j d a i) (λh=>Fe h.1 h.2.1 h.2.2.1 h.2.2.2.1 h.2.2.2.2.1 h.2.2.2.2.2.1 h.2.2.2.2.2.2.1 h.2.2.2.2.2.2.2.1 h.2.2.2.2.2.2.2.2.1 h.2.2.2.2.2.2.2.2.2):=bh _ _
def j39[LP](g:Int)(t:aj)(r:al)(d:an)(o:ao)(u:List ByteArray):Option ((Int×aj×al×an×ao×(List ByteArray)) ⊕ (Int ⊕ Unit)):=
 let j:=Int.ofNat d.length
 cond (decide (g<j)) (cond (inR g d.length) (let a:=List.getD d g.toNat (ByteArray.empty,(0,([]:(List Int))))
 cond (decide (List.length u+List.length [a.1]<=aN)) (let e:List ByteArray:=u++[a.1]
 (jbx e g).bind λf=>cond (f != 0) (some (.inr (.inl f))) (let l:=Int.ofNat t.length
 let i:=w64 (l-1)
 (j8c a.2.1 0 i).bind λn=>cond (!n) (some (.inr (.inl 3))) (let k:=Int.ofNat a.2.2.length
 cond (decide (k>64)) (some (.inr (.inl 5))) ((Fc g 0 t r d o a.1 a.2.1 a.2.2 e).bind λq=>sumC q (λv=>some (.inr (.inl v))) (λb=>(Fe b.1 1 b.2.1 b.2.2.1 b.2.2.2.1 b.2.2.2.2.1 b.2.2.2.2.2.1 b.2.2.2.2.2.2.1 b.2.2.2.2.2.2.2.1 b.2.2.2.2.2.2.2.2).bind λp=>sumC p (λs=>some (.inr (.inl s))) (λc=>let m:=w64 (c.1+1)
 some (.inl (m,c.2.1,c.2.2.1,c.2.2.2.1,c.2.2.2.2.1,c.2.2.2.2.2)))))))) none) none) (some (.inr (.inr ())))
def Ff[LP](f:Int)(d:aj)(a:al)(b:an)(c:ao)(e:List ByteArray):Option (Int ⊕ Unit):=LP.lp (unc6 j39) (f,d,a,b,c,e)
theorem XH(f d a b c e):Ff f d a b c e=lpK (j39 f d a b c e) (λh=>Ff h.1 h.2.1 h.2.2.1 h.2.2.2.1 h.2.2.2.2.1 h.2.2.2.2.2):=bh _ _
def jf5[LP](a:cC):Option Int:=(Ff 0 a.1 a.2.1 a.2.2.1 a.2.2.2 ([]:(List ByteArray))).bind λb=>sumC b (λc=>some c) (λd=>some 0)
def j5A(n:Int)(v:aj)(b:al)(j:an)(l:ao)(u:ByteArray)(c i f g k:Int)(a:List Int)(d:ae)(e m:Int):Option ((Int×aj×al×an×ao×ByteArray×Int×Int×Int×Int×Int×(List Int)×ae×Int×Int) ⊕ (Int ⊕ (aj×al×an×ao×ByteArray×Int×Int×Int×Int×Int×(List Int)×ae×Int×Int))):=
 let r:=Int.ofNat a.length
 cond (decide (n<r)) (cond (inR n a.length) (let t:=List.getD a n.toNat 0
 let s:=Int.ofNat b.length
 let o:=w64 (s-1)
 (j8c t 0 o).bind λq=>cond (!q) (some (.inr (.inl 3))) (let p:=w64 (n+1)
 some (.inl (p,v,b,j,l,u,c,i,f,g,k,a,d,e,m)))) none) (some (.inr (.inr (v,b,j,l,u,c,i,f,g,k,a,d,e,m))))
def Fg[LP](o:Int)(n:aj)(f:al)(g:an)(k:ao)(p:ByteArray)(b m e i j:Int)(l:List Int)(c:ae)(d a:Int):Option (Int ⊕ (aj×al×an×ao×ByteArray×Int×Int×Int×Int×Int×(List Int)×ae×Int×Int)):=LP.lp (u8 unc7 j5A) (o,n,f,g,k,p,b,m,e,i,j,l,c,d,a)
theorem XI(o n f g k p b m e i j l c d a):Fg o n f g k p b m e i j l c d a=lpK (j5A o n f g k p b m e i j l c d a) (λh=>Fg h.1 h.2.1 h.2.2.1 h.2.2.2.1 h.2.2.2.2.1 h.2.2.2.2.2.1 h.2.2.2.2.2.2.1 h.2.2.2.2.2.2.2.1 h.2.2.2.2.2.2.2.2.1 h.2.2.2.2.2.2.2.2.2.1 h.2.2.2.2.2.2.2.2.2.2.1 h.2.2.2.2.2.2.2.2.2.2.2.1 h.2.2.2.2.2.2.2.2.2.2.2.2.1 h.2.2.2.2.2.2.2.2.2.2.2.2.2.1 h.2.2.2.2.2.2.2.2.2.2.2.2.2.2):=bh _ _
def jgG[LP](b:cC)(a:fe):Option Int:=
 let q:=Int.ofNat b.1.length
 let r:=w64 (q-1)
 (j8c a.2.1 0 r).bind λp=>cond (!p) (some 3) ((jbU).bind λn=>(j8c a.2.2.1.1 1 n).bind λm=>cond (!m) (some 1) ((j8c a.2.2.1.2 0 86399).bind λk=>cond (!k) (some 1) ((j8c a.2.2.2.1 0 2).bind λg=>cond (!g) (some 1) ((j8c a.2.2.2.2.1 1 400).bind λs=>cond (!s) (some 1) (let j:=Int.ofNat a.2.2.2.2.2.1.length
 cond (j==0) (some 7) (let t:=Int.ofNat a.2.2.2.2.2.1.length
 cond (decide (t>12)) (some 5) ((Fg 0 b.1 b.2.1 b.2.2.1 b.2.2.2 a.1 a.2.1 a.2.2.1.1 a.2.2.1.2 a.2.2.2.1 a.2.2.2.2.1 a.2.2.2.2.2.1 a.2.2.2.2.2.2.1 a.2.2.2.2.2.2.2.1 a.2.2.2.2.2.2.2.2).bind λv=>sumC v (λw=>some w) (λd=>(jaA d.2.2.2.2.2.2.2.2.2.2.2.1).bind λo=>cond (o != 0) (some 8) ((j8c d.2.2.2.2.2.2.2.2.2.2.2.2.2 0 2).bind λu=>cond (!u) (some 1) (let f:=Int.ofNat d.2.2.1.length
 let i:=w64 (f-1)
 cond (d.2.2.2.2.2.2.2.2.2.2.2.2.2 != 0) ((j8c d.2.2.2.2.2.2.2.2.2.2.2.2.1 0 i).bind λl=>cond (!l) (some 3) (let e:Bool:=cond (d.2.2.2.2.2.2.2.2.2.2.2.2.2==0) (d.2.2.2.2.2.2.2.2.2.2.2.2.1 != 0) false
 cond e (some 1) (some 0))) (let c:Bool:=cond (d.2.2.2.2.2.2.2.2.2.2.2.2.2==0) (d.2.2.2.2.2.2.2.2.2.2.2.2.1 != 0) false
 cond c (some 1) (some 0))))))))))))
def jjx(d:cC)(a:pN):Option Int:=
 let e:=Int.ofNat d.2.1.length
 (j8c a.1 0 2).bind λi=>cond (!i) (some 1) (let g:=w64 (e-1)
 (j8c a.2.1 0 g).bind λj=>let f:=w64 (e-1)
 cond (cond (!j) (cond (a.1 != 1) true (a.2.1 != (-1))) false) (cond ((!(a.1==2)) || !(!true)) (some 3) none) (cond (a.1==2) ((j8c a.2.2.1 0 f).bind λk=>cond (!k) (some 3) (cond (cond (a.1 != 2) (a.2.2.1 != 0) false) (some 1) (cond (cond (a.1==2) (a.2.1==a.2.2.1) false) (some 4) (cond (decide (a.2.2.2.1<0)) (some 1) (cond (decide (a.2.2.2.2<0)) (some 1) (let m:=w64 (Int.tdiv a.2.2.2.2 86400)
 (jbU).bind λl=>cond (decide (m>l)) (some 1) (cond (decide (a.2.2.2.1>=a.2.2.2.2)) (some 6) (some 0)))))))) (cond (cond (a.1 != 2) (a.2.2.1 != 0) false) (some 1) (cond (cond (a.1==2) (a.2.1==a.2.2.1) false) (some 4) (cond (decide (a.2.2.2.1<0)) (some 1) (cond (decide (a.2.2.2.2<0)) (some 1) (let c:=w64 (Int.tdiv a.2.2.2.2 86400)
 (jbU).bind λb=>cond (decide (c>b)) (some 1) (cond (decide (a.2.2.2.1>=a.2.2.2.2)) (some 6) (some 0)))))))))
def j3a[LP](s c:Int)(o:aj)(d:al)(e:an)(f:ao)(r:ByteArray)(b:aV)(l:aQ)(q p:List ByteArray):Option ((Int×Int×aj×al×an×ao×ByteArray×aV×aQ×(List ByteArray)×(List ByteArray)) ⊕ (Int ⊕ (Int×aj×al×an×ao×ByteArray×aV×aQ×(List ByteArray)))):=
 let m:=Int.ofNat b.length
 cond (decide (c<m)) (cond (inR c b.length) (let i:=List.getD b c.toNat (ByteArray.empty,(0,((0,0),(0,(0,(([]:(List Int)),(([]:ae),(0,0))))))))
 cond (decide (List.length p+List.length [i.1]<=aN)) (let g:List ByteArray:=p++[i.1]
 (jbx g c).bind λj=>cond (j != 0) (some (.inr (.inl j))) (cond (inR c b.length) (let a:=List.getD b c.toNat (ByteArray.empty,(0,((0,0),(0,(0,(([]:(List Int)),(([]:ae),(0,0))))))))
 (jgG (o,(d,(e,f))) (a.1,(a.2.1,((a.2.2.1.1,a.2.2.1.2),(a.2.2.2.1,(a.2.2.2.2.1,(a.2.2.2.2.2.1,(a.2.2.2.2.2.2.1,(a.2.2.2.2.2.2.2.1,a.2.2.2.2.2.2.2.2))))))))).bind λk=>cond (k != 0) (some (.inr (.inl k))) (let n:=w64 (c+1)
 some (.inl (s,n,o,d,e,f,r,b,l,q,g)))) none)) none) none) (some (.inr (.inr (s,o,d,e,f,r,b,l,q))))
def Fh[LP](l g:Int)(f:aj)(b:al)(c:an)(e:ao)(k:ByteArray)(d:aV)(a:aQ)(j i:List ByteArray):Option (Int ⊕ (Int×aj×al×an×ao×ByteArray×aV×aQ×(List ByteArray))):=LP.lp (u8 unc3 j3a) (l,g,f,b,c,e,k,d,a,j,i)
theorem XJ(l g f b c e k d a j i):Fh l g f b c e k d a j i=lpK (j3a l g f b c e k d a j i) (λh=>Fh h.1 h.2.1 h.2.2.1 h.2.2.2.1 h.2.2.2.2.1 h.2.2.2.2.2.1 h.2.2.2.2.2.2.1 h.2.2.2.2.2.2.2.1 h.2.2.2.2.2.2.2.2.1 h.2.2.2.2.2.2.2.2.2.1 h.2.2.2.2.2.2.2.2.2.2):=bh _ _
def j3b(n f:Int)(k:aj)(c:al)(d:an)(e:ao)(o:ByteArray)(l:aV)(b:aQ)(m:List ByteArray):Option ((Int×Int×aj×al×an×ao×ByteArray×aV×aQ×(List ByteArray)) ⊕ (Int ⊕ (Int×aj×al×an×ao×(List ByteArray)))):=
 let j:=Int.ofNat b.length
 cond (decide (f<j)) (cond (inR f b.length) (let a:=List.getD b f.toNat (0,(0,(0,(0,0))))
 (jjx (k,(c,(d,e))) (a.1,(a.2.1,(a.2.2.1,(a.2.2.2.1,a.2.2.2.2))))).bind λg=>cond (g != 0) (some (.inr (.inl g))) (let i:=w64 (f+1)
 some (.inl (n,i,k,c,d,e,o,l,b,m)))) none) (some (.inr (.inr (n,k,c,d,e,m))))
def Fi[LP](k f:Int)(g:aj)(b:al)(c:an)(e:ao)(j:ByteArray)(d:aV)(a:aQ)(i:List ByteArray):Option (Int ⊕ (Int×aj×al×an×ao×(List ByteArray))):=LP.lp (u8 unc2 j3b) (k,f,g,b,c,e,j,d,a,i)
theorem XK(k f g b c e j d a i):Fi k f g b c e j d a i=lpK (j3b k f g b c e j d a i) (λh=>Fi h.1 h.2.1 h.2.2.1 h.2.2.2.1 h.2.2.2.2.1 h.2.2.2.2.2.1 h.2.2.2.2.2.2.1 h.2.2.2.2.2.2.2.1 h.2.2.2.2.2.2.2.2.1 h.2.2.2.2.2.2.2.2.2):=bh _ _
def j3c[LP](g:Int)(t:aj)(p:al)(m:an)(d:ao)(r:List ByteArray):Option ((Int×aj×al×an×ao×(List ByteArray)) ⊕ (Int ⊕ Unit)):=
 let j:=Int.ofNat d.length
 cond (decide (g<j)) (cond (inR g d.length) (let a:=List.getD d g.toNat (ByteArray.empty,(([]:aV),([]:aQ)))
 cond (decide (List.length r+List.length [a.1]<=aN)) (let f:List ByteArray:=r++[a.1]
 (jbx f g).bind λe=>cond (e != 0) (some (.inr (.inl e))) (let i:=Int.ofNat a.2.1.length
 let l:=Int.ofNat a.2.2.length
 cond (cond (decide (i>6)) true (decide (l>48))) (some (.inr (.inl 5))) ((Fh g 0 t p m d a.1 a.2.1 a.2.2 f ([]:(List ByteArray))).bind λo=>sumC o (λs=>some (.inr (.inl s))) (λb=>(Fi b.1 0 b.2.1 b.2.2.1 b.2.2.2.1 b.2.2.2.2.1 b.2.2.2.2.2.1 b.2.2.2.2.2.2.1 b.2.2.2.2.2.2.2.1 b.2.2.2.2.2.2.2.2).bind λn=>sumC n (λq=>some (.inr (.inl q))) (λc=>let k:=w64 (c.1+1)
 some (.inl (k,c.2.1,c.2.2.1,c.2.2.2.1,c.2.2.2.2.1,c.2.2.2.2.2))))))) none) none) (some (.inr (.inr ())))
def Fj[LP](f:Int)(d:aj)(a:al)(b:an)(c:ao)(e:List ByteArray):Option (Int ⊕ Unit):=LP.lp (unc6 j3c) (f,d,a,b,c,e)
theorem XL(f d a b c e):Fj f d a b c e=lpK (j3c f d a b c e) (λh=>Fj h.1 h.2.1 h.2.2.1 h.2.2.2.1 h.2.2.2.2.1 h.2.2.2.2.2):=bh _ _
def jf6[LP](a:cC):Option Int:=(Fj 0 a.1 a.2.1 a.2.2.1 a.2.2.2 ([]:(List ByteArray))).bind λb=>sumC b (λc=>some c) (λd=>some 0)
def jgH[LP](a:cC):Option Int:=
 let k:=Int.ofNat a.1.length
 let e:=Int.ofNat a.2.1.length
 let i:=Int.ofNat a.2.2.1.length
 let g:Bool:=cond (cond (decide (k>16)) true (decide (e>32))) true (decide (i>8))
 let j:=Int.ofNat a.2.2.2.length
 cond (cond g true (decide (j>12))) (some 5) ((jmz (a.1,(a.2.1,(a.2.2.1,a.2.2.2)))).bind λc=>cond (c != 0) (some c) ((jks (a.1,(a.2.1,(a.2.2.1,a.2.2.2)))).bind λd=>cond (d != 0) (some d) ((jf5 (a.1,(a.2.1,(a.2.2.1,a.2.2.2)))).bind λb=>cond (b != 0) (some b) ((jf6 (a.1,(a.2.1,(a.2.2.1,a.2.2.2)))).bind λf=>some f))))
def j8d(a b:Int):Option Bool:=
 let d:Bool:=cond (cond (decide (a>=0)) (decide (a<=8589934592)) false) (decide (b>=a)) false
 let c:=w64 (b-a)
 let e:Bool:=cond (cond d (decide (b<=8589934592)) false) (decide (c<=34560000)) false
 some e
def jjy[LP](b:cC)(a c d:Int):Option Int:=(jgH (b.1,(b.2.1,(b.2.2.1,b.2.2.2)))).bind λg=>cond (g != 0) (some 8) (let f:=Int.ofNat b.2.2.2.length
 cond (cond (decide (a<0)) true (decide (a>=f))) (some 3) ((j8d c d).bind λe=>cond (!e) (some 1) (some 0)))
def jcj[LP](b:dN)(a:fe):Option Int:=(j7b (b.1,(b.2.1,b.2.2))).bind λi=>let g:Bool:=cond (cond (i != 0) true (decide (a.2.2.1.1<1))) true (decide (a.2.2.1.1>100000))
 let c:Bool:=cond (cond g true (decide (a.2.2.1.2<0))) true (decide (a.2.2.1.2>=86400))
 let f:Bool:=cond (cond c true (decide (a.2.2.2.1<0))) true (decide (a.2.2.2.1>2))
 let e:Bool:=cond (cond f true (decide (a.2.2.2.2.1<1))) true (decide (a.2.2.2.2.1>400))
 let d:=Int.ofNat a.2.2.2.2.2.1.length
 cond (cond e true (d==0)) (some 8) (some 0)
def jeq(a:Int):Option Bool:=(j9d a (-2) 99422).bind λb=>some b
def j3Y(c:Int)(x:ByteArray)(d:Int)(f:aS)(g a:Int)(b:ae):Option ((Int×ByteArray×Int×aS×Int×Int×ae) ⊕ ((Int×Int) ⊕ Unit)):=
 let a9:=Int.ofNat b.length
 cond (decide (c<a9)) (cond (decide (c>=0)) (cond (inR c b.length) (let m:=(List.getD b c.toNat (0,0)).2
 cond (inR c b.length) (let e:=(List.getD b c.toNat (0,0)).1
 let a3:=w64 (c+1)
 let b1:=Int.ofNat b.length
 cond (decide (a3<b1)) (let k:=w64 (c+1)
 cond (inR k b.length) (let a0:=(List.getD b k.toNat (0,0)).1
 let y:=w64 (g*86400)
 let a8:=w64 (y+a)
 let n:=w64 (a8-m)
 let r:Int:=if n>e then n else e
 cond (decide (r<a0)) (some (.inr (.inl (r,0)))) (let a6:=w64 (c+1)
 some (.inl (a6,x,d,f,g,a,b)))) none) (let t:=w64 (g*86400)
 let a7:=w64 (t+a)
 let o:=w64 (a7-m)
 let l:Int:=if o>e then o else e
 cond (decide (l<8589934593)) (some (.inr (.inl (l,0)))) (let a5:=w64 (c+1)
 some (.inl (a5,x,d,f,g,a,b))))) none) none) (let w:=w64 (c+1)
 let u:=Int.ofNat b.length
 cond (decide (w<u)) (let s:=w64 (c+1)
 cond (inR s b.length) (let b2:=(List.getD b s.toNat (0,0)).1
 let a1:=w64 (g*86400)
 let b0:=w64 (a1+a)
 let p:=w64 (b0-d)
 let i:Int:=if p>0 then p else 0
 cond (decide (i<b2)) (some (.inr (.inl (i,0)))) (let v:=w64 (c+1)
 some (.inl (v,x,d,f,g,a,b)))) none) (let z:=w64 (g*86400)
 let a2:=w64 (z+a)
 let j:=w64 (a2-d)
 let q:Int:=if j>0 then j else 0
 cond (decide (q<8589934593)) (some (.inr (.inl (q,0)))) (let a4:=w64 (c+1)
 some (.inl (a4,x,d,f,g,a,b)))))) (some (.inr (.inr ())))
def vA[LP](e:Int)(d:ByteArray)(b:Int)(c:aS)(f a:Int)(g:ae):Option ((Int×Int) ⊕ Unit):=LP.lp (unc7 j3Y) (e,d,b,c,f,a,g)
theorem NC(e d b c f a g):vA e d b c f a g=lpK (j3Y e d b c f a g) (λh=>vA h.1 h.2.1 h.2.2.1 h.2.2.2.1 h.2.2.2.2.1 h.2.2.2.2.2.1 h.2.2.2.2.2.2):=bh _ _
def j4Q[LP](a:dN)(b:Int×Int):Option (Int×Int):=(j0h (a.1,(a.2.1,a.2.2))).bind λc=>cond (c.2 != 0) (some (0,8)) ((j9d b.2 0 86399).bind λe=>cond (!e) (some (0,1)) (cond (decide (b.1<(-2))) (some (0,0)) ((jeq b.1).bind λd=>cond (!d) (some (0,10)) ((vA (-1) a.1 a.2.1 a.2.2 b.1 b.2 c.1).bind λf=>sumC f (λg=>some (g.1,g.2)) (λi=>some (0,10))))))
def j4R(c:ae)(g i a:Int):Option ((ae×Int×Int×Int) ⊕ (Int)):=
 let b:=Int.ofNat c.length
 cond ((inR a c.length) || !(decide (a<b))) (let e:=List.getD c a.toNat (0,0)
 cond (cond (decide (a<b)) (decide (e.1<=g)) false) (cond (inR a c.length) (let f:=List.getD c a.toNat (0,0)
 let d:=w64 (a+1)
 some (.inl (c,g,f.2,d))) none) (some (.inr i))) none
def Fk[LP](a:ae)(d b c:Int):Option Int:=LP.lp (unc4 j4R) (a,d,b,c)
theorem XM(a d c b):Fk a d c b=lpK (j4R a d c b) (λh=>Fk h.1 h.2.1 h.2.2.1 h.2.2.2):=bh _ _
def jhw[LP](b:dN)(a:ae)(c:Int):Option Int:=(Fk a c b.2.1 0).bind λd=>some d
def jaC[LP](a:dN)(b:Int):Option (Int×Int):=(j0h (a.1,(a.2.1,a.2.2))).bind λc=>cond (c.2 != 0) (some (0,8)) ((j9d b 0 8589934592).bind λe=>cond (!e) (some (0,1)) ((jhw (a.1,(a.2.1,a.2.2)) c.1 b).bind λd=>some (d,0)))
def jjz(b a:Int):Option (Int×Int):=
 let g:=w64 (b+a)
 let c:=w64 (g+864000)
 let f:=w64 (Int.tdiv c 86400)
 let e:=w64 (f-10)
 let d:=Int.tmod c 86400
 some (e,d)
def j3w[LP](a:dN)(c:Int):Option BQ:=(jaC (a.1,(a.2.1,a.2.2)) c).bind λb=>cond (b.2 != 0) (some ((0,0),b.2)) ((jjz c b.1).bind λd=>some ((d.1,d.2),0))
def j7c[LP](b:dN)(a:fe)(d:Int):Option (Int×Bool):=cond (a.2.2.2.1==0) ((j4Q (b.1,(b.2.1,b.2.2)) (a.2.2.1.1,a.2.2.1.2)).bind λe=>let k:=w64 (d*a.2.2.2.2.1)
 let g:=w64 (k*3600)
 let l:=w64 (e.1+g)
 let n:=w64 (e.1+g)
 some (l,(cond (e.2==0) (decide (n<=8589934592)) false))) (let j:=w64 (d*a.2.2.2.2.1)
 cond (a.2.2.2.1==2) (let o:=w64 (j*7)
 let m:=w64 (a.2.2.1.1+o)
 (j4Q (b.1,(b.2.1,b.2.2)) (m,a.2.2.1.2)).bind λi=>some (i.1,(i.2==0))) (let f:=w64 (a.2.2.1.1+j)
 (j4Q (b.1,(b.2.1,b.2.2)) (f,a.2.2.1.2)).bind λc=>some (c.1,(c.2==0))))
def j5B[LP](r i:Int)(q:ByteArray)(b:Int)(l:aS)(p:ByteArray)(m j c k e:Int)(n:List Int)(g:ae)(d f:Int):Option ((Int×Int×ByteArray×Int×aS×ByteArray×Int×Int×Int×Int×Int×(List Int)×ae×Int×Int) ⊕ (Int)):=cond (decide (i>=0)) ((j7c (q,(b,l)) (p,(m,((j,c),(k,(e,(n,(g,(d,f)))))))) i).bind λa=>cond (cond a.2 (decide (a.1<=r)) false) (some (.inr i)) (let o:=w64 (i-1)
 some (.inl (r,o,q,b,l,p,m,j,c,k,e,n,g,d,f)))) (some (.inr i))
def zS[LP](p n:Int)(o:ByteArray)(a:Int)(j:aS)(m:ByteArray)(k g b i d:Int)(l:List Int)(f:ae)(c e:Int):Option Int:=LP.lp (u8 unc7 j5B) (p,n,o,a,j,m,k,g,b,i,d,l,f,c,e)
theorem XN(p n o a j m k g b i d l f c e):zS p n o a j m k g b i d l f c e=lpK (j5B p n o a j m k g b i d l f c e) (λh=>zS h.1 h.2.1 h.2.2.1 h.2.2.2.1 h.2.2.2.2.1 h.2.2.2.2.2.1 h.2.2.2.2.2.2.1 h.2.2.2.2.2.2.2.1 h.2.2.2.2.2.2.2.2.1 h.2.2.2.2.2.2.2.2.2.1 h.2.2.2.2.2.2.2.2.2.2.1 h.2.2.2.2.2.2.2.2.2.2.2.1 h.2.2.2.2.2.2.2.2.2.2.2.2.1 h.2.2.2.2.2.2.2.2.2.2.2.2.2.1 h.2.2.2.2.2.2.2.2.2.2.2.2.2.2):=bh _ _
def jcl[LP](b:dN)(a:fe)(c:Int):Option Int:=cond (a.2.2.2.1==0) ((j4Q (b.1,(b.2.1,b.2.2)) (a.2.2.1.1,a.2.2.1.2)).bind λe=>cond (cond (e.2==0) (decide (e.1<=c)) false) (let o:=w64 (c-e.1)
 let k:=w64 (3600*a.2.2.2.2.1)
 cond (!(k==0)) (let s:=w64 (Int.tdiv o k)
 some s) none) (some (-1))) ((j3w (b.1,(b.2.1,b.2.2)) c).bind λl=>cond (a.2.2.2.1==2) (let m:=w64 (a.2.2.2.2.1*7)
 let r:=w64 (l.1.1+2)
 let j:=w64 (r-a.2.2.1.1)
 let p:Int:=if 0>j then 0 else j
 cond (!(m==0)) (let q:=w64 (Int.tdiv p m)
 (zS c q b.1 b.2.1 b.2.2 a.1 a.2.1 a.2.2.1.1 a.2.2.1.2 a.2.2.2.1 a.2.2.2.2.1 a.2.2.2.2.2.1 a.2.2.2.2.2.2.1 a.2.2.2.2.2.2.2.1 a.2.2.2.2.2.2.2.2).bind λt=>some t) none) (let g:=w64 (l.1.1+2)
 let d:=w64 (g-a.2.2.1.1)
 let f:Int:=if 0>d then 0 else d
 cond (!(a.2.2.2.2.1==0)) (let i:=w64 (Int.tdiv f a.2.2.2.2.1)
 (zS c i b.1 b.2.1 b.2.2 a.1 a.2.1 a.2.2.1.1 a.2.2.1.2 a.2.2.2.1 a.2.2.2.2.1 a.2.2.2.2.2.1 a.2.2.2.2.2.2.1 a.2.2.2.2.2.2.2.1 a.2.2.2.2.2.2.2.2).bind λn=>some n) none))
def j4S[LP](s v o:Int)(u:ByteArray)(m:Int)(e:aS)(t:ByteArray)(d c j g l:Int)(k:List Int)(b:ae)(f i:Int)(n:List Int):Option ((Int×Int×Int×ByteArray×Int×aS×ByteArray×Int×Int×Int×Int×Int×(List Int)×ae×Int×Int×(List Int)) ⊕ (oq)):=(j7c (u,(m,e)) (t,(d,((c,j),(g,(l,(k,(b,(f,i)))))))) o).bind λa=>cond (cond (!a.2) true (decide (a.1>=v))) (some (.inr (0,n))) (cond (decide (a.1>=s)) (cond (decide (List.length n+List.length [a.1]<=aN)) (let p:List Int:=n++[a.1]
 let q:=w64 (o+1)
 some (.inl (s,v,q,u,m,e,t,d,c,j,g,l,k,b,f,i,p))) none) (let r:=w64 (o+1)
 some (.inl (s,v,r,u,m,e,t,d,c,j,g,l,k,b,f,i,n))))
def IM[LP](p q m:Int)(o:ByteArray)(k:Int)(e:aS)(r:ByteArray)(f b l i d:Int)(c:List Int)(a:ae)(g j:Int)(n:List Int):Option oq:=LP.lp (u8 unc9 j4S) (p,q,m,o,k,e,r,f,b,l,i,d,c,a,g,j,n)
theorem jit(p q m o k e r f b l i d c a g j n):IM p q m o k e r f b l i d c a g j n=lpK (j4S p q m o k e r f b l i d c a g j n) (λh=>IM h.1 h.2.1 h.2.2.1 h.2.2.2.1 h.2.2.2.2.1 h.2.2.2.2.2.1 h.2.2.2.2.2.2.1 h.2.2.2.2.2.2.2.1 h.2.2.2.2.2.2.2.2.1 h.2.2.2.2.2.2.2.2.2.1 h.2.2.2.2.2.2.2.2.2.2.1 h.2.2.2.2.2.2.2.2.2.2.2.1 h.2.2.2.2.2.2.2.2.2.2.2.2.1 h.2.2.2.2.2.2.2.2.2.2.2.2.2.1 h.2.2.2.2.2.2.2.2.2.2.2.2.2.2.1 h.2.2.2.2.2.2.2.2.2.2.2.2.2.2.2.1 h.2.2.2.2.2.2.2.2.2.2.2.2.2.2.2.2):=bh _ _
def j9h[LP](b:dN)(a:fe)(c d:Int):Option ((List Int)×Int):=(jcj (b.1,(b.2.1,b.2.2)) (a.1,(a.2.1,((a.2.2.1.1,a.2.2.1.2),(a.2.2.2.1,(a.2.2.2.2.1,(a.2.2.2.2.2.1,(a.2.2.2.2.2.2.1,(a.2.2.2.2.2.2.2.1,a.2.2.2.2.2.2.2.2))))))))).bind λg=>cond (g != 0) (some (([]:(List Int)),8)) ((j8d c d).bind λj=>cond (!j) (some (([]:(List Int)),1)) ((jcl (b.1,(b.2.1,b.2.2)) (a.1,(a.2.1,((a.2.2.1.1,a.2.2.1.2),(a.2.2.2.1,(a.2.2.2.2.1,(a.2.2.2.2.2.1,(a.2.2.2.2.2.2.1,(a.2.2.2.2.2.2.2.1,a.2.2.2.2.2.2.2.2)))))))) c).bind λe=>let f:Int:=if e>0 then e else 0
 (IM c d f b.1 b.2.1 b.2.2 a.1 a.2.1 a.2.2.1.1 a.2.2.1.2 a.2.2.2.1 a.2.2.2.2.1 a.2.2.2.2.2.1 a.2.2.2.2.2.2.1 a.2.2.2.2.2.2.2.1 a.2.2.2.2.2.2.2.2 ([]:(List Int))).bind λi=>some (i.2,i.1)))
def j7w(a:Int×Int):Option Int:=(jcc a.1).bind λd=>let b:=w64 (d*86400)
 let c:=w64 (b+a.2)
 some c
def j5C(b:ae)(j k c a:Int)(q:ae):Option ((ae×Int×Int×Int×Int×ae) ⊕ (ae×Int×Int×Int×ae)):=
 let m:=Int.ofNat b.length
 cond (decide (a<m)) (cond (inR a b.length) (let p:=List.getD b a.toNat (0,0)
 let d:=w64 (c+p.1)
 let e:Int:=if d>j then d else j
 cond (inR a b.length) (let l:=List.getD b a.toNat (0,0)
 let g:=w64 (c+l.2)
 let i:Int:=if g<k then g else k
 cond (decide (e<i)) (let f:ae:=[(e,i)]
 cond (decide (List.length q+List.length f<=aN)) (let o:ae:=q++f
 let n:=w64 (a+1)
 some (.inl (b,j,k,c,n,o))) none) (let r:=w64 (a+1)
 some (.inl (b,j,k,c,r,q)))) none) none) (some (.inr (b,j,k,c,q)))
def IP[LP](d:ae)(c e b a:Int)(f:ae):Option (ae×Int×Int×Int×ae):=LP.lp (unc6 j5C) (d,c,e,b,a,f)
theorem XO(d c e b a f):IP d c e b a f=lpK (j5C d c e b a f) (λh=>IP h.1 h.2.1 h.2.2.1 h.2.2.2.1 h.2.2.2.2.1 h.2.2.2.2.2):=bh _ _
def j5D[LP](g:ae)(f d c:Int)(e:ae):Option ((ae×Int×Int×Int×ae) ⊕ (ae)):=cond (decide (c<d)) ((IP g f d c 0 e).bind λa=>let b:=w64 (a.2.2.2.1+604800)
 some (.inl (a.1,a.2.1,a.2.2.1,b,a.2.2.2.2))) (some (.inr e))
def IQ[LP](c:ae)(b d a:Int)(e:ae):Option ae:=LP.lp (unc5 j5D) (c,b,d,a,e)
theorem XP(c b d a e):IQ c b d a e=lpK (j5D c b d a e) (λh=>IQ h.1 h.2.1 h.2.2.1 h.2.2.2.1 h.2.2.2.2):=bh _ _
def jaD[LP](d:ae)(a c b:Int):Option ae:=
 let p:=w64 (a+b)
 let e:=w64 (a+b)
 let o:=w64 (e+864000)
 let n:=w64 (Int.tdiv o 86400)
 let k:=w64 (n-10)
 let g:=w64 (a+b)
 let l:=w64 (g+864000)
 let j:=Int.tmod l 86400
 (j7w (k,j)).bind λm=>let i:=w64 (p-m)
 let f:=w64 (i-b)
 (IQ d a c f ([]:ae)).bind λq=>some q
def j6l(b:ae)(a:Int)(c:ae):Option ((ae×Int×ae) ⊕ (ae)):=
 let u:=Int.ofNat b.length
 cond (decide (a<u)) (let d:=Int.ofNat c.length
 cond (decide (d>0)) (let f:=w64 (d-1)
 cond (inR f c.length) (let n:=(List.getD c f.toNat (0,0)).2
 cond (inR a b.length) (let s:=List.getD b a.toNat (0,0)
 cond (n==s.1) (let e:=w64 (d-1)
 cond (inR a b.length) (let r:=List.getD b a.toNat (0,0)
 cond (inR e c.length) (let m:ae:=List.set c e.toNat ((List.getD c e.toNat (0,0)).1,r.2)
 let t:=w64 (a+1)
 some (.inl (b,t,m))) none) none) (cond (inR a b.length) (let k:=List.getD b a.toNat (0,0)
 let i:ae:=[(k.1,k.2)]
 cond (decide (List.length c+List.length i<=aN)) (let q:ae:=c++i
 let o:=w64 (a+1)
 some (.inl (b,o,q))) none) none)) none) none) (cond (inR a b.length) (let g:=List.getD b a.toNat (0,0)
 let j:ae:=[(g.1,g.2)]
 cond (decide (List.length c+List.length j<=aN)) (let l:ae:=c++j
 let p:=w64 (a+1)
 some (.inl (b,p,l))) none) none)) (some (.inr c))
def IU[LP](a:ae)(b:Int)(c:ae):Option ae:=LP.lp (unc3 j6l) (a,b,c)
theorem XQ(a b c):IU a b c=lpK (j6l a b c) (λh=>IU h.1 h.2.1 h.2.2):=bh _ _
def jdg[LP](b a:ae):Option ae:=(IU a 0 b).bind λc=>some c
def j5E[LP](i:ae)(f e b:Int)(k:ByteArray)(c:Int)(d:aS)(a g:ae):Option ((ae×Int×Int×Int×ByteArray×Int×aS×ae×ae) ⊕ (ae)):=
 let b0:=Int.ofNat a.length
 cond (decide (b<b0)) (cond (decide (b>=0)) (cond (inR b a.length) (let p:=(List.getD a b.toNat (0,0)).2
 cond (inR b a.length) (let q:=(List.getD a b.toNat (0,0)).1
 let j:Int:=if q>f then q else f
 let a5:=w64 (b+1)
 let a6:=Int.ofNat a.length
 cond (decide (a5<a6)) (let n:=w64 (b+1)
 cond (inR n a.length) (let s:=(List.getD a n.toNat (0,0)).1
 let m:Int:=if s<e then s else e
 cond (decide (j<m)) ((jaD i j m p).bind λa7=>(jdg g a7).bind λb2=>let a0:=w64 (b+1)
 some (.inl (i,f,e,a0,k,c,d,a,b2))) (let u:=w64 (b+1)
 some (.inl (i,f,e,u,k,c,d,a,g)))) none) (cond (decide (j<e)) ((jaD i j e p).bind λa9=>(jdg g a9).bind λa8=>let a4:=w64 (b+1)
 some (.inl (i,f,e,a4,k,c,d,a,a8))) (let y:=w64 (b+1)
 some (.inl (i,f,e,y,k,c,d,a,g))))) none) none) (let b1:=w64 (b+1)
 let b3:=Int.ofNat a.length
 cond (decide (b1<b3)) (let l:=w64 (b+1)
 cond (inR l a.length) (let r:=(List.getD a l.toNat (0,0)).1
 let o:Int:=if r<e then r else e
 cond (decide (f<o)) ((jaD i f o c).bind λa3=>(jdg g a3).bind λz=>let x:=w64 (b+1)
 some (.inl (i,f,e,x,k,c,d,a,z))) (let t:=w64 (b+1)
 some (.inl (i,f,e,t,k,c,d,a,g)))) none) (cond (decide (f<e)) ((jaD i f e c).bind λa2=>(jdg g a2).bind λa1=>let w:=w64 (b+1)
 some (.inl (i,f,e,w,k,c,d,a,a1))) (let v:=w64 (b+1)
 some (.inl (i,f,e,v,k,c,d,a,g)))))) (some (.inr g))
def Fl[LP](g:ae)(i j c:Int)(f:ByteArray)(b:Int)(a:aS)(e d:ae):Option ae:=LP.lp (unc9 j5E) (g,i,j,c,f,b,a,e,d)
theorem XR(g i j c f b a e d):Fl g i j c f b a e d=lpK (j5E g i j c f b a e d) (λh=>Fl h.1 h.2.1 h.2.2.1 h.2.2.2.1 h.2.2.2.2.1 h.2.2.2.2.2.1 h.2.2.2.2.2.2.1 h.2.2.2.2.2.2.2.1 h.2.2.2.2.2.2.2.2):=bh _ _
def jer[LP](a:dN)(d:ae)(b c:Int):Option (ae×Int):=(j0h (a.1,(a.2.1,a.2.2))).bind λe=>cond (e.2 != 0) (some (([]:ae),8)) ((jaA d).bind λi=>cond (i != 0) (some (([]:ae),8)) ((j8d b c).bind λf=>cond (!f) (some (([]:ae),1)) ((Fl d b c (-1) a.1 a.2.1 a.2.2 e.1 ([]:ae)).bind λg=>let j:=Int.ofNat g.length
 cond (decide (j>4096)) (some (([]:ae),5)) (some (g,0)))))
def j3d(d:Int)(m:ByteArray)(b:Int)(e:aS)(j a:Int)(c:ae)(i:List Int):Option ((Int×ByteArray×Int×aS×Int×Int×ae×(List Int)) ⊕ (List Int)):=
 let b2:=Int.ofNat c.length
 cond (decide (d<b2)) (cond (decide (d>=0)) (cond (inR d c.length) (let q:=(List.getD c d.toNat (0,0)).2
 cond (inR d c.length) (let o:=(List.getD c d.toNat (0,0)).1
 let b3:=w64 (d+1)
 let b1:=Int.ofNat c.length
 cond (decide (b3<b1)) (let p:=w64 (d+1)
 cond (inR p c.length) (let a5:=(List.getD c p.toNat (0,0)).1
 let a6:=w64 (j*86400)
 let b7:=w64 (a6+a)
 let l:=w64 (b7-q)
 cond (cond (decide (l>=o)) (decide (l<a5)) false) (cond (decide (List.length i+List.length [l]<=aN)) (let b0:List Int:=i++[l]
 let y:=w64 (d+1)
 some (.inl (y,m,b,e,j,a,c,b0))) none) (let t:=w64 (d+1)
 some (.inl (t,m,b,e,j,a,c,i)))) none) (let b5:=w64 (j*86400)
 let b4:=w64 (b5+a)
 let k:=w64 (b4-q)
 cond (cond (decide (k>=o)) (decide (k<8589934593)) false) (cond (decide (List.length i+List.length [k]<=aN)) (let a7:List Int:=i++[k]
 let a4:=w64 (d+1)
 some (.inl (a4,m,b,e,j,a,c,a7))) none) (let w:=w64 (d+1)
 some (.inl (w,m,b,e,j,a,c,i))))) none) none) (let b6:=w64 (d+1)
 let a8:=Int.ofNat c.length
 cond (decide (b6<a8)) (let n:=w64 (d+1)
 cond (inR n c.length) (let a9:=(List.getD c n.toNat (0,0)).1
 let s:=w64 (j*86400)
 let r:=w64 (s+a)
 let g:=w64 (r-b)
 cond (cond (decide (g>=0)) (decide (g<a9)) false) (cond (decide (List.length i+List.length [g]<=aN)) (let z:List Int:=i++[g]
 let a2:=w64 (d+1)
 some (.inl (a2,m,b,e,j,a,c,z))) none) (let a0:=w64 (d+1)
 some (.inl (a0,m,b,e,j,a,c,i)))) none) (let v:=w64 (j*86400)
 let x:=w64 (v+a)
 let f:=w64 (x-b)
 cond (cond (decide (f>=0)) (decide (f<8589934593)) false) (cond (decide (List.length i+List.length [f]<=aN)) (let a3:List Int:=i++[f]
 let a1:=w64 (d+1)
 some (.inl (a1,m,b,e,j,a,c,a3))) none) (let u:=w64 (d+1)
 some (.inl (u,m,b,e,j,a,c,i)))))) (some (.inr i))
def zT[LP](e:Int)(d:ByteArray)(b:Int)(c:aS)(g a:Int)(i:ae)(f:List Int):Option (List Int):=LP.lp (unc8 j3d) (e,d,b,c,g,a,i,f)
theorem XS(e d b c g a i f):zT e d b c g a i f=lpK (j3d e d b c g a i f) (λh=>zT h.1 h.2.1 h.2.2.1 h.2.2.2.1 h.2.2.2.2.1 h.2.2.2.2.2.1 h.2.2.2.2.2.2.1 h.2.2.2.2.2.2.2):=bh _ _
def j7x[LP](a:dN)(b:Int×Int):Option ((List Int)×Int):=(j0h (a.1,(a.2.1,a.2.2))).bind λc=>cond (c.2 != 0) (some (([]:(List Int)),8)) ((j9d b.2 0 86399).bind λe=>cond (!e) (some (([]:(List Int)),1)) ((jeq b.1).bind λd=>cond (!d) (some (([]:(List Int)),0)) ((zT (-1) a.1 a.2.1 a.2.2 b.1 b.2 c.1 ([]:(List Int))).bind λf=>some (f,0))))
def j6m(a:Int)(x:aj)(p:al)(g:an)(c:ao)(w:ByteArray)(f e m j o:Int)(n:List Int)(d:ae)(i k:Int)(l:List Int)(b:ae):Option ((Int×aj×al×an×ao×ByteArray×Int×Int×Int×Int×Int×(List Int)×ae×Int×Int×(List Int)×ae) ⊕ (aj×al×an×ao×ByteArray×Int×Int×Int×Int×Int×(List Int)×ae×Int×Int×(List Int))):=
 let t:=Int.ofNat b.length
 cond (decide (a<t)) (cond (inR a b.length) (let r:=(List.getD b a.toNat (0,0)).1
 cond (inR a b.length) (let u:=(List.getD b a.toNat (0,0)).2
 let v:List Int:=[r,u]
 cond (decide (List.length l+List.length v<=aN)) (let s:List Int:=l++v
 let q:=w64 (a+1)
 some (.inl (q,x,p,g,c,w,f,e,m,j,o,n,d,i,k,s,b))) none) none) none) (some (.inr (x,p,g,c,w,f,e,m,j,o,n,d,i,k,l)))
def IV[LP](p:Int)(q:aj)(l:al)(f:an)(a:ao)(r:ByteArray)(g c m j e:Int)(d:List Int)(b:ae)(i k:Int)(n:List Int)(o:ae):Option (aj×al×an×ao×ByteArray×Int×Int×Int×Int×Int×(List Int)×ae×Int×Int×(List Int)):=LP.lp (u8 unc9 j6m) (p,q,l,f,a,r,g,c,m,j,e,d,b,i,k,n,o)
theorem XU(p q l f a r g c m j e d b i k n o):IV p q l f a r g c m j e d b i k n o=lpK (j6m p q l f a r g c m j e d b i k n o) (λh=>IV h.1 h.2.1 h.2.2.1 h.2.2.2.1 h.2.2.2.2.1 h.2.2.2.2.2.1 h.2.2.2.2.2.2.1 h.2.2.2.2.2.2.2.1 h.2.2.2.2.2.2.2.2.1 h.2.2.2.2.2.2.2.2.2.1 h.2.2.2.2.2.2.2.2.2.2.1 h.2.2.2.2.2.2.2.2.2.2.2.1 h.2.2.2.2.2.2.2.2.2.2.2.2.1 h.2.2.2.2.2.2.2.2.2.2.2.2.2.1 h.2.2.2.2.2.2.2.2.2.2.2.2.2.2.1 h.2.2.2.2.2.2.2.2.2.2.2.2.2.2.2.1 h.2.2.2.2.2.2.2.2.2.2.2.2.2.2.2.2):=bh _ _
def j6n(b:Int)(o:aj)(j:al)(i:an)(f:ao)(n:ByteArray)(c:Int)(d k:List Int)(e:ae):Option ((Int×aj×al×an×ao×ByteArray×Int×(List Int)×(List Int)×ae) ⊕ (aj×al×an×ao×ByteArray×Int×(List Int)×(List Int))):=
 let l:=Int.ofNat e.length
 cond (decide (b<l)) (cond (inR b e.length) (let a:=(List.getD e b.toNat (0,0)).1
 cond (decide (List.length k+List.length [a]<=aN)) (let g:List Int:=k++[a]
 let m:=w64 (b+1)
 some (.inl (m,o,j,i,f,n,c,d,g,e))) none) none) (some (.inr (o,j,i,f,n,c,d,k)))
def zU[LP](f:Int)(k:aj)(e:al)(d:an)(c:ao)(g:ByteArray)(a:Int)(b j:List Int)(i:ae):Option (aj×al×an×ao×ByteArray×Int×(List Int)×(List Int)):=LP.lp (u8 unc2 j6n) (f,k,e,d,c,g,a,b,j,i)
theorem XV(f k e d c g a b j i):zU f k e d c g a b j i=lpK (j6n f k e d c g a b j i) (λh=>zU h.1 h.2.1 h.2.2.1 h.2.2.2.1 h.2.2.2.2.1 h.2.2.2.2.2.1 h.2.2.2.2.2.2.1 h.2.2.2.2.2.2.2.1 h.2.2.2.2.2.2.2.2.1 h.2.2.2.2.2.2.2.2.2):=bh _ _
def j4u[LP](e j:Int)(p:aj)(n:al)(l:an)(f:ao)(q:ByteArray)(a:Int)(b o:List Int):Option ((Int×Int×aj×al×an×ao×ByteArray×Int×(List Int)×(List Int)) ⊕ (Int×aj×al×an×ao×ByteArray×Int×(List Int)×(List Int))):=cond (decide (j<2)) (cond (inR a p.length) (let c:=List.getD p a.toNat (ByteArray.empty,(0,([]:aS)))
 cond (inR e b.length) (let k:=List.getD b e.toNat 0
 let i:=w64 (k+j)
 (j7x (c.1,(c.2.1,c.2.2)) (i,0)).bind λd=>cond (decide (List.length o+List.length d.1<=aN)) (let g:List Int:=o++d.1
 let m:=w64 (j+1)
 some (.inl (e,m,p,n,l,f,q,a,b,g))) none) none) none) (some (.inr (e,p,n,l,f,q,a,b,o)))
def IW[LP](f g:Int)(k:aj)(e:al)(d:an)(c:ao)(i:ByteArray)(a:Int)(b j:List Int):Option (Int×aj×al×an×ao×ByteArray×Int×(List Int)×(List Int)):=LP.lp (u8 unc2 j4u) (f,g,k,e,d,c,i,a,b,j)
theorem ND(f g k e d c i a b j):IW f g k e d c i a b j=lpK (j4u f g k e d c i a b j) (λh=>IW h.1 h.2.1 h.2.2.1 h.2.2.2.1 h.2.2.2.2.1 h.2.2.2.2.2.1 h.2.2.2.2.2.2.1 h.2.2.2.2.2.2.2.1 h.2.2.2.2.2.2.2.2.1 h.2.2.2.2.2.2.2.2.2):=bh _ _
def j6o[LP](f:Int)(m:aj)(k:al)(j:an)(i:ao)(l:ByteArray)(e:Int)(b g:List Int):Option ((Int×aj×al×an×ao×ByteArray×Int×(List Int)×(List Int)) ⊕ (List Int)):=
 let d:=Int.ofNat b.length
 cond (decide (f<d)) ((IW f 0 m k j i l e b g).bind λa=>let c:=w64 (a.1+1)
 some (.inl (c,a.2.1,a.2.2.1,a.2.2.2.1,a.2.2.2.2.1,a.2.2.2.2.2.1,a.2.2.2.2.2.2.1,a.2.2.2.2.2.2.2.1,a.2.2.2.2.2.2.2.2))) (some (.inr g))
def B1[LP](f:Int)(j:aj)(e:al)(d:an)(c:ao)(g:ByteArray)(a:Int)(b i:List Int):Option (List Int):=LP.lp (unc9 j6o) (f,j,e,d,c,g,a,b,i)
theorem XW(f j e d c g a b i):B1 f j e d c g a b i=lpK (j6o f j e d c g a b i) (λh=>B1 h.1 h.2.1 h.2.2.1 h.2.2.2.1 h.2.2.2.2.1 h.2.2.2.2.2.1 h.2.2.2.2.2.2.1 h.2.2.2.2.2.2.2.1 h.2.2.2.2.2.2.2.2):=bh _ _
def jjA[LP](b:cC)(a:fe)(f l:Int):Option (List Int):=cond (inR a.2.1 b.1.length) (let g:=List.getD b.1 a.2.1.toNat (ByteArray.empty,(0,([]:aS)))
 (j9h (g.1,(g.2.1,g.2.2)) (a.1,(a.2.1,((a.2.2.1.1,a.2.2.1.2),(a.2.2.2.1,(a.2.2.2.2.1,(a.2.2.2.2.2.1,(a.2.2.2.2.2.2.1,(a.2.2.2.2.2.2.2.1,a.2.2.2.2.2.2.2.2)))))))) f l).bind λp=>cond (decide (List.length ([]:(List Int))+List.length p.1<=aN)) (let n:List Int:=([]:(List Int))++p.1
 let r:=Int.ofNat a.2.2.2.2.2.2.1.length
 cond (decide (r>0)) ((jer (g.1,(g.2.1,g.2.2)) a.2.2.2.2.2.2.1 f l).bind λs=>(IV 0 b.1 b.2.1 b.2.2.1 b.2.2.2 a.1 a.2.1 a.2.2.1.1 a.2.2.1.2 a.2.2.2.1 a.2.2.2.2.1 a.2.2.2.2.2.1 a.2.2.2.2.2.2.1 a.2.2.2.2.2.2.2.1 a.2.2.2.2.2.2.2.2 n s.1).bind λe=>cond (e.2.2.2.2.2.2.2.2.2.2.2.2.2.1==0) (some e.2.2.2.2.2.2.2.2.2.2.2.2.2.2) (cond (inR e.2.2.2.2.2.2.2.2.2.2.2.2.1 e.2.2.1.length) (let j:=List.getD e.2.2.1 e.2.2.2.2.2.2.2.2.2.2.2.2.1.toNat (ByteArray.empty,(0,([]:(List Int))))
 cond (inR j.2.1 e.1.length) (let m:=List.getD e.1 j.2.1.toNat (ByteArray.empty,(0,([]:aS)))
 (j0h (m.1,(m.2.1,m.2.2))).bind λt=>(zU 0 e.1 e.2.1 e.2.2.1 e.2.2.2.1 j.1 j.2.1 j.2.2 e.2.2.2.2.2.2.2.2.2.2.2.2.2.2 t.1).bind λk=>(B1 0 k.1 k.2.1 k.2.2.1 k.2.2.2.1 k.2.2.2.2.1 k.2.2.2.2.2.1 k.2.2.2.2.2.2.1 k.2.2.2.2.2.2.2).bind λu=>some u) none) none)) (cond (a.2.2.2.2.2.2.2.2==0) (some n) (cond (inR a.2.2.2.2.2.2.2.1 b.2.2.1.length) (let d:=List.getD b.2.2.1 a.2.2.2.2.2.2.2.1.toNat (ByteArray.empty,(0,([]:(List Int))))
 cond (inR d.2.1 b.1.length) (let i:=List.getD b.1 d.2.1.toNat (ByteArray.empty,(0,([]:aS)))
 (j0h (i.1,(i.2.1,i.2.2))).bind λo=>(zU 0 b.1 b.2.1 b.2.2.1 b.2.2.2 d.1 d.2.1 d.2.2 n o.1).bind λc=>(B1 0 c.1 c.2.1 c.2.2.1 c.2.2.2.1 c.2.2.2.2.1 c.2.2.2.2.2.1 c.2.2.2.2.2.2.1 c.2.2.2.2.2.2.2).bind λq=>some q) none) none))) none) none
def j6p(b4:(List Int)->Option (List Int))(e d:Int)(a b c:List Int):Option ((Int×Int×(List Int)×(List Int)×(List Int)) ⊕ (List Int)):=
 let a1:=Int.ofNat b.length
 let y:=Int.ofNat c.length
 cond (cond (decide (e<a1)) true (decide (d<y))) (let a3:=Int.ofNat c.length
 cond (d==a3) (cond (inR e b.length) (let j:=List.getD b e.toNat 0
 let t:=w64 (e+1)
 let v:=Int.ofNat a.length
 let a5:=Int.ofNat a.length
 let o:=w64 (a5-1)
 cond ((inR o a.length) || !(!(v==0))) (let a0:=List.getD a o.toNat 0
 cond (cond (v==0) true (a0 != j)) (cond (decide (List.length a+List.length [j]<=aN)) (let b0:List Int:=a++[j]
 some (.inl (t,d,b0,b,c))) none) (some (.inl (t,d,a,b,c)))) none) none) (let b3:=Int.ofNat b.length
 cond (decide (e<b3)) (cond (inR e b.length) (let a9:=List.getD b e.toNat 0
 cond (inR d c.length) (let b2:=List.getD c d.toNat 0
 cond (decide (a9<=b2)) (cond (inR e b.length) (let i:=List.getD b e.toNat 0
 let m:=w64 (e+1)
 let r:=Int.ofNat a.length
 let b1:=Int.ofNat a.length
 let s:=w64 (b1-1)
 cond ((inR s a.length) || !(!(r==0))) (let a8:=List.getD a s.toNat 0
 cond (cond (r==0) true (a8 != i)) (cond (decide (List.length a+List.length [i]<=aN)) (let z:List Int:=a++[i]
 some (.inl (m,d,z,b,c))) none) (some (.inl (m,d,a,b,c)))) none) none) (cond (inR d c.length) (let f:=List.getD c d.toNat 0
 let n:=w64 (d+1)
 let p:=Int.ofNat a.length
 let a6:=Int.ofNat a.length
 let k:=w64 (a6-1)
 cond ((inR k a.length) || !(!(p==0))) (let a2:=List.getD a k.toNat 0
 cond (cond (p==0) true (a2 != f)) (cond (decide (List.length a+List.length [f]<=aN)) (let x:List Int:=a++[f]
 some (.inl (e,n,x,b,c))) none) (some (.inl (e,n,a,b,c)))) none) none)) none) none) (cond (inR d c.length) (let g:=List.getD c d.toNat 0
 let q:=w64 (d+1)
 let u:=Int.ofNat a.length
 let a7:=Int.ofNat a.length
 let l:=w64 (a7-1)
 cond ((inR l a.length) || !(!(u==0))) (let a4:=List.getD a l.toNat 0
 cond (cond (u==0) true (a4 != g)) (cond (decide (List.length a+List.length [g]<=aN)) (let w:List Int:=a++[g]
 some (.inl (e,q,w,b,c))) none) (some (.inl (e,q,a,b,c)))) none) none))) (some (.inr a))
def IX[LP](a:(List Int)->Option (List Int))(d c:Int)(e f b:List Int):Option (List Int):=LP.lp (unc5 (j6p a)) (d,c,e,f,b)
theorem XX(a:(List Int)->Option (List Int))(d c:Int)(e f b:List Int):IX a d c e f b=lpK (j6p a d c e f b) (λh=>IX a h.1 h.2.1 h.2.2.1 h.2.2.2.1 h.2.2.2.2):=bh _ _
def IY[LP](d:(List Int)->Option (List Int))(a:List Int):Option (List Int):=
 let e:=Int.ofNat a.length
 cond (decide (e<2)) (cond (decide (List.length ([]:(List Int))+List.length a<=aN)) (let f:List Int:=([]:(List Int))++a
 some f) none) (let g:=Int.ofNat a.length
 let b:=w64 (Int.tdiv g 2)
 cond (decide ((0:Int)<=0)&&(decide (0<=b)&&decide (b<=(Int.ofNat a.length)))) (let l:List Int:=List.drop 0 (List.take b.toNat a)
 (d l).bind λj=>let i:=Int.ofNat a.length
 let c:=w64 (Int.tdiv i 2)
 cond (decide (0<=c)&&(decide (c<=(Int.ofNat a.length))&&decide ((Int.ofNat a.length)<=(Int.ofNat a.length)))) (let m:List Int:=List.drop c.toNat (List.take a.length a)
 (d m).bind λk=>(IX d 0 0 ([]:(List Int)) j k).bind λn=>some n) none) none)
def j4T[LP](b:(List Int)->Option (List Int))(h:List Int):Option (List Int):=IY (λa=>b a) h
def jpA[LP](a:List Int):Option (List Int):=LP.rp j4T a
def j4i(e i a:Int)(j b:List Int):Option ((Int×Int×Int×(List Int)×(List Int)) ⊕ (Int×Int×(List Int))):=
 let f:=Int.ofNat b.length
 cond (decide (a<f)) (cond (inR a b.length) (let d:=List.getD b a.toNat 0
 cond ((inR a b.length) || !(decide (d>e))) (let g:=List.getD b a.toNat 0
 cond (cond (decide (d>e)) (decide (g<i)) false) (cond (inR a b.length) (let c:=List.getD b a.toNat 0
 cond (decide (List.length j+List.length [c]<=aN)) (let m:List Int:=j++[c]
 let k:=w64 (a+1)
 some (.inl (e,i,k,m,b))) none) none) (let l:=w64 (a+1)
 some (.inl (e,i,l,j,b)))) none) none) (some (.inr (e,i,j)))
def IZ[LP](c d a:Int)(e b:List Int):Option (Int×Int×(List Int)):=LP.lp (unc5 j4i) (c,d,a,e,b)
theorem XY(c d a e b):IZ c d a e b=lpK (j4i c d a e b) (λh=>IZ h.1 h.2.1 h.2.2.1 h.2.2.2.1 h.2.2.2.2):=bh _ _
def jfb[LP](c:List Int)(a d:Int):Option (List Int):=(jpA c).bind λf=>(IZ a d 0 [a] f).bind λb=>cond (decide (b.2.1>b.1)) (cond (decide (List.length b.2.2+List.length [b.2.1]<=aN)) (let e:List Int:=b.2.2++[b.2.1]
 some e) none) (some b.2.2)
def j6q[LP](n o c:Int)(p:aj)(i:al)(g:an)(e:ao)(q:ByteArray)(b:aV)(f:aQ)(j:List Int):Option ((Int×Int×Int×aj×al×an×ao×ByteArray×aV×aQ×(List Int)) ⊕ (Int×Int×ByteArray×aV×aQ×(List Int))):=
 let l:=Int.ofNat b.length
 cond (decide (c<l)) (cond (inR c b.length) (let a:=List.getD b c.toNat (ByteArray.empty,(0,((0,0),(0,(0,(([]:(List Int)),(([]:ae),(0,0))))))))
 (jjA (p,(i,(g,e))) (a.1,(a.2.1,((a.2.2.1.1,a.2.2.1.2),(a.2.2.2.1,(a.2.2.2.2.1,(a.2.2.2.2.2.1,(a.2.2.2.2.2.2.1,(a.2.2.2.2.2.2.2.1,a.2.2.2.2.2.2.2.2)))))))) n o).bind λd=>cond (decide (List.length j+List.length d<=aN)) (let k:List Int:=j++d
 let m:=w64 (c+1)
 some (.inl (n,o,m,p,i,g,e,q,b,f,k))) none) none) (some (.inr (n,o,q,b,f,j)))
def I0[LP](k l f:Int)(i:aj)(e:al)(d:an)(a:ao)(j:ByteArray)(b:aV)(c:aQ)(g:List Int):Option (Int×Int×ByteArray×aV×aQ×(List Int)):=LP.lp (u8 unc3 j6q) (k,l,f,i,e,d,a,j,b,c,g)
theorem XZ(k l f i e d a j b c g):I0 k l f i e d a j b c g=lpK (j6q k l f i e d a j b c g) (λh=>I0 h.1 h.2.1 h.2.2.1 h.2.2.2.1 h.2.2.2.2.1 h.2.2.2.2.2.1 h.2.2.2.2.2.2.1 h.2.2.2.2.2.2.2.1 h.2.2.2.2.2.2.2.2.1 h.2.2.2.2.2.2.2.2.2.1 h.2.2.2.2.2.2.2.2.2.2):=bh _ _
def j6r(l m b:Int)(n:ByteArray)(k:aV)(a:aQ)(d:List Int):Option ((Int×Int×Int×ByteArray×aV×aQ×(List Int)) ⊕ (Int×Int×(List Int))):=
 let j:=Int.ofNat a.length
 cond (decide (b<j)) (cond (inR b a.length) (let e:=List.getD a b.toNat (0,(0,(0,(0,0))))
 cond (inR b a.length) (let g:=List.getD a b.toNat (0,(0,(0,(0,0))))
 let c:List Int:=[e.2.2.2.1,g.2.2.2.2]
 cond (decide (List.length d+List.length c<=aN)) (let f:List Int:=d++c
 let i:=w64 (b+1)
 some (.inl (l,m,i,n,k,a,f))) none) none) none) (some (.inr (l,m,d)))
def I1[LP](f g c:Int)(e:ByteArray)(a:aV)(b:aQ)(d:List Int):Option (Int×Int×(List Int)):=LP.lp (unc7 j6r) (f,g,c,e,a,b,d)
theorem X0(f g c e a b d):I1 f g c e a b d=lpK (j6r f g c e a b d) (λh=>I1 h.1 h.2.1 h.2.2.1 h.2.2.2.1 h.2.2.2.2.1 h.2.2.2.2.2.1 h.2.2.2.2.2.2):=bh _ _
def jlK[LP](b:cC)(a c f:Int):Option (List Int):=cond (inR a b.2.2.2.length) (let e:=List.getD b.2.2.2 a.toNat (ByteArray.empty,(([]:aV),([]:aQ)))
 (I0 c f 0 b.1 b.2.1 b.2.2.1 b.2.2.2 e.1 e.2.1 e.2.2 ([]:(List Int))).bind λd=>(I1 d.1 d.2.1 0 d.2.2.1 d.2.2.2.1 d.2.2.2.2.1 d.2.2.2.2.2).bind λg=>(jfb g.2.2 g.1 g.2.1).bind λi=>some i) none
def jgM[LP](b:dN)(a:fe)(c:Int):Option (Int×Int):=(jcj (b.1,(b.2.1,b.2.2)) (a.1,(a.2.1,((a.2.2.1.1,a.2.2.1.2),(a.2.2.2.1,(a.2.2.2.2.1,(a.2.2.2.2.2.1,(a.2.2.2.2.2.2.1,(a.2.2.2.2.2.2.2.1,a.2.2.2.2.2.2.2.2))))))))).bind λe=>cond (e != 0) (some (0,8)) (cond (cond (decide (c<0)) true (decide (c>8589934592))) (some (0,1)) ((jcl (b.1,(b.2.1,b.2.2)) (a.1,(a.2.1,((a.2.2.1.1,a.2.2.1.2),(a.2.2.2.1,(a.2.2.2.2.1,(a.2.2.2.2.2.1,(a.2.2.2.2.2.2.1,(a.2.2.2.2.2.2.2.1,a.2.2.2.2.2.2.2.2)))))))) c).bind λd=>some (d,0)))
def jbV[LP](a:dN)(c:Int):Option (Int×Int):=(j3w (a.1,(a.2.1,a.2.2)) c).bind λb=>cond (b.2 != 0) (some (0,b.2)) ((j7w (b.1.1,b.1.2)).bind λd=>some (d,0))
def j4U(b:ae)(e c:Int):Option ((ae×Int×Int) ⊕ (Bool ⊕ Unit)):=
 let g:=Int.ofNat b.length
 cond (decide (c<g)) (cond (inR c b.length) (let a:=List.getD b c.toNat (0,0)
 cond ((inR c b.length) || !(decide (e>=a.1))) (let f:=List.getD b c.toNat (0,0)
 cond (cond (decide (e>=a.1)) (decide (e<f.2)) false) (some (.inr (.inl true))) (let d:=w64 (c+1)
 some (.inl (b,e,d)))) none) none) (some (.inr (.inr ())))
def Fm[LP](b:ae)(a c:Int):Option (Bool ⊕ Unit):=LP.lp (unc3 j4U) (b,a,c)
theorem X1(b a c):Fm b a c=lpK (j4U b a c) (λh=>Fm h.1 h.2.1 h.2.2):=bh _ _
def jhx[LP](a:ae)(b:Int):Option Bool:=(Fm a b 0).bind λc=>sumC c (λd=>some d) (λe=>some false)
def jrE[LP](a:dN)(b:ae)(d:Int):Option Bool:=(jbV (a.1,(a.2.1,a.2.2)) d).bind λc=>cond (c.2==0) ((jaA b).bind λe=>cond (e==0) ((jhx b c.1).bind λf=>some f) (some false)) (some false)
def j6s(v:Int)(u:Bool)(b:Int)(w:ByteArray)(k j c l d:Int)(e:List Int)(g:ae)(f i:Int)(t:ByteArray)(n:Int)(a:List Int)(o m:Int):Option ((Int×Bool×Int×ByteArray×Int×Int×Int×Int×Int×(List Int)×ae×Int×Int×ByteArray×Int×(List Int)×Int×Int) ⊕ (Int×Bool×ByteArray×Int×Int×Int×Int×Int×(List Int)×ae×Int×Int)):=
 let s:=Int.ofNat a.length
 cond (decide (b<s)) (cond u (let p:=w64 (b+1)
 some (.inl (v,true,p,w,k,j,c,l,d,e,g,f,i,t,n,a,o,m))) (cond (inR b a.length) (let r:=List.getD a b.toNat 0
 let q:=w64 (b+1)
 some (.inl (v,(r==o),q,w,k,j,c,l,d,e,g,f,i,t,n,a,o,m))) none)) (some (.inr (v,u,w,k,j,c,l,d,e,g,f,i)))
def zV[LP](s:Int)(q:Bool)(p:Int)(r:ByteArray)(l j d k f:Int)(m:List Int)(i:ae)(e g:Int)(n:ByteArray)(a:Int)(b:List Int)(o c:Int):Option (Int×Bool×ByteArray×Int×Int×Int×Int×Int×(List Int)×ae×Int×Int):=LP.lp (u8 (u8 unc2) j6s) (s,q,p,r,l,j,d,k,f,m,i,e,g,n,a,b,o,c)
theorem X2(r o p s l k d m e f i g j n b c q a):zV r o p s l k d m e f i g j n b c q a=lpK (j6s r o p s l k d m e f i g j n b c q a) (λh=>zV h.1 h.2.1 h.2.2.1 h.2.2.2.1 h.2.2.2.2.1 h.2.2.2.2.2.1 h.2.2.2.2.2.2.1 h.2.2.2.2.2.2.2.1 h.2.2.2.2.2.2.2.2.1 h.2.2.2.2.2.2.2.2.2.1 h.2.2.2.2.2.2.2.2.2.2.1 h.2.2.2.2.2.2.2.2.2.2.2.1 h.2.2.2.2.2.2.2.2.2.2.2.2.1 h.2.2.2.2.2.2.2.2.2.2.2.2.2.1 h.2.2.2.2.2.2.2.2.2.2.2.2.2.2.1 h.2.2.2.2.2.2.2.2.2.2.2.2.2.2.2.1 h.2.2.2.2.2.2.2.2.2.2.2.2.2.2.2.2.1 h.2.2.2.2.2.2.2.2.2.2.2.2.2.2.2.2.2):=bh _ _
def jjB[LP](b:cC)(a:fe)(f:Int):Option (Int×Bool):=cond (inR a.2.1 b.1.length) (let e:=List.getD b.1 a.2.1.toNat (ByteArray.empty,(0,([]:aS)))
 (jgM (e.1,(e.2.1,e.2.2)) (a.1,(a.2.1,((a.2.2.1.1,a.2.2.1.2),(a.2.2.2.1,(a.2.2.2.2.1,(a.2.2.2.2.2.1,(a.2.2.2.2.2.2.1,(a.2.2.2.2.2.2.2.1,a.2.2.2.2.2.2.2.2)))))))) f).bind λd=>let m:=Int.ofNat a.2.2.2.2.2.2.1.length
 cond (cond (d.2 != 0) true (decide (d.1<0))) (cond ((!(decide (m>0))) || !(!true)) (some (0,false)) none) (cond (decide (m>0)) ((jrE (e.1,(e.2.1,e.2.2)) a.2.2.2.2.2.2.1 f).bind λp=>cond (!p) (some (0,false)) (cond (a.2.2.2.2.2.2.2.2==0) (some (d.1,true)) (cond (inR a.2.2.2.2.2.2.2.1 b.2.2.1.length) (let i:=List.getD b.2.2.1 a.2.2.2.2.2.2.2.1.toNat (ByteArray.empty,(0,([]:(List Int))))
 cond (inR i.2.1 b.1.length) (let l:=List.getD b.1 i.2.1.toNat (ByteArray.empty,(0,([]:aS)))
 (j3w (l.1,(l.2.1,l.2.2)) f).bind λn=>(zV d.1 false 0 a.1 a.2.1 a.2.2.1.1 a.2.2.1.2 a.2.2.2.1 a.2.2.2.2.1 a.2.2.2.2.2.1 a.2.2.2.2.2.2.1 a.2.2.2.2.2.2.2.1 a.2.2.2.2.2.2.2.2 i.1 i.2.1 i.2.2 n.1.1 n.1.2).bind λo=>some (o.1,(o.2.1==(o.2.2.2.2.2.2.2.2.2.2.2==2)))) none) none))) (cond (a.2.2.2.2.2.2.2.2==0) (some (d.1,true)) (cond (inR a.2.2.2.2.2.2.2.1 b.2.2.1.length) (let c:=List.getD b.2.2.1 a.2.2.2.2.2.2.2.1.toNat (ByteArray.empty,(0,([]:(List Int))))
 cond (inR c.2.1 b.1.length) (let g:=List.getD b.1 c.2.1.toNat (ByteArray.empty,(0,([]:aS)))
 (j3w (g.1,(g.2.1,g.2.2)) f).bind λk=>(zV d.1 false 0 a.1 a.2.1 a.2.2.1.1 a.2.2.1.2 a.2.2.2.1 a.2.2.2.2.1 a.2.2.2.2.2.1 a.2.2.2.2.2.2.1 a.2.2.2.2.2.2.2.1 a.2.2.2.2.2.2.2.2 c.1 c.2.1 c.2.2 k.1.1 k.1.2).bind λj=>some (j.1,(j.2.1==(j.2.2.2.2.2.2.2.2.2.2.2==2)))) none) none)))) none
def jmA[LP](b:cC)(a:fe)(f:Int):Option Int:=(jjB (b.1,(b.2.1,(b.2.2.1,b.2.2.2))) (a.1,(a.2.1,((a.2.2.1.1,a.2.2.1.2),(a.2.2.2.1,(a.2.2.2.2.1,(a.2.2.2.2.2.1,(a.2.2.2.2.2.2.1,(a.2.2.2.2.2.2.2.1,a.2.2.2.2.2.2.2.2)))))))) f).bind λe=>cond (!e.2) (some (-1)) (let c:=Int.ofNat a.2.2.2.2.2.1.length
 cond (!(c==0)) (let d:=Int.tmod e.1 c
 cond (inR d a.2.2.2.2.2.1.length) (let g:=List.getD a.2.2.2.2.2.1 d.toNat 0
 some g) none) none)
def j6t(i g d:Int)(k:ByteArray)(f:aV)(b:aQ):Option ((Int×Int×Int×ByteArray×aV×aQ) ⊕ (Bool ⊕ Unit)):=
 let c:=Int.ofNat b.length
 cond (decide (d<c)) (cond (inR d b.length) (let a:=List.getD b d.toNat (0,(0,(0,(0,0))))
 let j:Bool:=cond (cond (a.1==0) (a.2.1==i) false) (decide (a.2.2.2.1<=g)) false
 cond (cond j (decide (g<a.2.2.2.2)) false) (some (.inr (.inl true))) (let e:=w64 (d+1)
 some (.inl (i,g,e,k,f,b)))) none) (some (.inr (.inr ())))
def Fo[LP](c f d:Int)(e:ByteArray)(a:aV)(b:aQ):Option (Bool ⊕ Unit):=LP.lp (unc6 j6t) (c,f,d,e,a,b)
theorem X3(c f d e a b):Fo c f d e a b=lpK (j6t c f d e a b) (λh=>Fo h.1 h.2.1 h.2.2.1 h.2.2.2.1 h.2.2.2.2.1 h.2.2.2.2.2):=bh _ _
def jlL[LP](b:lV)(a c:Int):Option Bool:=(Fo a c 0 b.1 b.2.1 b.2.2).bind λd=>sumC d (λe=>some e) (λf=>some false)
def j7e[LP](j i:Int)(o:aj)(d:al)(g:an)(e:ao)(n:ByteArray)(b:aV)(f:aQ):Option ((Int×Int×aj×al×an×ao×ByteArray×aV×aQ) ⊕ ((Int×Int) ⊕ Unit)):=cond (decide (i>=0)) (cond (inR i b.length) (let a:=List.getD b i.toNat (ByteArray.empty,(0,((0,0),(0,(0,(([]:(List Int)),(([]:ae),(0,0))))))))
 (jmA (o,(d,(g,e))) (a.1,(a.2.1,((a.2.2.1.1,a.2.2.1.2),(a.2.2.2.1,(a.2.2.2.2.1,(a.2.2.2.2.2.1,(a.2.2.2.2.2.2.1,(a.2.2.2.2.2.2.2.1,a.2.2.2.2.2.2.2.2)))))))) j).bind λc=>cond (decide (c>=0)) ((jlL (n,(b,f)) c j).bind λm=>cond (!m) (some (.inr (.inl (i,c)))) (let l:=w64 (i-1)
 some (.inl (j,l,o,d,g,e,n,b,f)))) (let k:=w64 (i-1)
 some (.inl (j,k,o,d,g,e,n,b,f)))) none) (some (.inr (.inr ())))
def Fp[LP](j f:Int)(i:aj)(a:al)(e:an)(b:ao)(g:ByteArray)(c:aV)(d:aQ):Option ((Int×Int) ⊕ Unit):=LP.lp (unc9 j7e) (j,f,i,a,e,b,g,c,d)
theorem X4(j f i a e b g c d):Fp j f i a e b g c d=lpK (j7e j f i a e b g c d) (λh=>Fp h.1 h.2.1 h.2.2.1 h.2.2.2.1 h.2.2.2.2.1 h.2.2.2.2.2.1 h.2.2.2.2.2.2.1 h.2.2.2.2.2.2.2.1 h.2.2.2.2.2.2.2.2):=bh _ _
def jpB[LP](b:cC)(a d:Int):Option (Int×Int):=cond (inR a b.2.2.2.length) (let c:=List.getD b.2.2.2 a.toNat (ByteArray.empty,(([]:aV),([]:aQ)))
 let e:=Int.ofNat c.2.1.length
 let f:=w64 (e-1)
 (Fp d f b.1 b.2.1 b.2.2.1 b.2.2.2 c.1 c.2.1 c.2.2).bind λg=>sumC g (λi=>some (i.1,i.2)) (λj=>some ((-1),(-1)))) none
def j6u(b:aQ)(e d c:Int):Option ((aQ×Int×Int×Int) ⊕ (Int)):=
 let g:=Int.ofNat b.length
 cond (decide (c<g)) (cond (inR c b.length) (let a:=List.getD b c.toNat (0,(0,(0,(0,0))))
 cond (cond (decide (d<a.2.2.2.1)) true (decide (d>=a.2.2.2.2))) (let l:=w64 (c+1)
 some (.inl (b,e,d,l))) (cond (a.1==1) (let i:=w64 (c+1)
 some (.inl (b,a.2.1,d,i))) (cond (cond (a.1==2) (e==a.2.1) false) (let k:=w64 (c+1)
 some (.inl (b,a.2.2.1,d,k))) (cond (cond (a.1==2) (e==a.2.2.1) false) (let j:=w64 (c+1)
 some (.inl (b,a.2.1,d,j))) (let f:=w64 (c+1)
 some (.inl (b,e,d,f))))))) none) (some (.inr e))
def Fq[LP](b:aQ)(a d c:Int):Option Int:=LP.lp (unc4 j6u) (b,a,d,c)
theorem X5(b a d c):Fq b a d c=lpK (j6u b a d c) (λh=>Fq h.1 h.2.1 h.2.2.1 h.2.2.2):=bh _ _
def jpC[LP](c:aQ)(a b:Int):Option Int:=(Fq c a b 0).bind λd=>some d
def jmB[LP](b:cC)(a c:Int):Option Int:=(jpB (b.1,(b.2.1,(b.2.2.1,b.2.2.2))) a c).bind λd=>cond (inR a b.2.2.2.length) (let e:=List.getD b.2.2.2 a.toNat (ByteArray.empty,(([]:aV),([]:aQ)))
 (jpC e.2.2 d.2 c).bind λf=>some f) none
def jhy(a:af)(b:pd):Option af:=cond (decide (b.2.1<=b.1)) (some a) (let c:=Int.ofNat a.length
 cond (decide (c>0)) (let l:=w64 (c-1)
 cond (inR l a.length) (let o:=(List.getD a l.toNat (0,(0,0))).2.1
 cond (o==b.1) (let j:=w64 (c-1)
 cond (inR j a.length) (let m:=(List.getD a j.toNat (0,(0,0))).2.2
 cond (m==b.2.2) (let d:=w64 (c-1)
 cond (inR d a.length) (let p:af:=List.set a d.toNat ((List.getD a d.toNat (0,(0,0))).1,(b.2.1,(List.getD a d.toNat (0,(0,0))).2.2))
 some p) none) (let k:af:=[(b.1,(b.2.1,b.2.2))]
 cond (decide (List.length a+List.length k<=aN)) (let n:af:=a++k
 some n) none)) none) (let f:af:=[(b.1,(b.2.1,b.2.2))]
 cond (decide (List.length a+List.length f<=aN)) (let g:af:=a++f
 some g) none)) none) (let e:af:=[(b.1,(b.2.1,b.2.2))]
 cond (decide (List.length a+List.length e<=aN)) (let i:af:=a++e
 some i) none))
def j4V[LP](r a:Int)(q:aj)(f:al)(e:an)(d:ao)(b:List Int)(p:af):Option ((Int×Int×aj×al×an×ao×(List Int)×af) ⊕ (af)):=
 let g:=w64 (a+1)
 let k:=Int.ofNat b.length
 cond (decide (g<k)) (cond (inR a b.length) (let n:=List.getD b a.toNat 0
 let c:=w64 (a+1)
 cond (inR c b.length) (let i:=List.getD b c.toNat 0
 cond (inR a b.length) (let l:=List.getD b a.toNat 0
 (jmB (q,(f,(e,d))) r l).bind λo=>(jhy p (n,(i,o))).bind λj=>let m:=w64 (a+1)
 some (.inl (r,m,q,f,e,d,b,j))) none) none) none) (some (.inr p))
def I2[LP](g d:Int)(f:aj)(c:al)(b:an)(a:ao)(i:List Int)(e:af):Option af:=LP.lp (unc8 j4V) (g,d,f,c,b,a,i,e)
theorem X6(g d f c b a i e):I2 g d f c b a i e=lpK (j4V g d f c b a i e) (λh=>I2 h.1 h.2.1 h.2.2.1 h.2.2.2.1 h.2.2.2.2.1 h.2.2.2.2.2.1 h.2.2.2.2.2.2.1 h.2.2.2.2.2.2.2):=bh _ _
def jhz[LP](a:cC)(b c d:Int):Option af:=(jlK (a.1,(a.2.1,(a.2.2.1,a.2.2.2))) b c d).bind λe=>(I2 b 0 a.1 a.2.1 a.2.2.1 a.2.2.2 e ([]:af)).bind λf=>some f
def jdh[LP](a:cC)(b c d:Int):Option (af×Int):=(jjy (a.1,(a.2.1,(a.2.2.1,a.2.2.2))) b c d).bind λe=>cond (e != 0) (some (([]:af),e)) ((jhz (a.1,(a.2.1,(a.2.2.1,a.2.2.2))) b c d).bind λf=>let g:=Int.ofNat f.length
 cond (decide (g>16384)) (some (([]:af),5)) (some (f,0)))
def j5F(m a:Int)(b:af)(c:ae):Option ((Int×Int×af×ae) ⊕ (ae)):=
 let i:=Int.ofNat b.length
 cond (decide (a<i)) (cond (inR a b.length) (let k:=(List.getD b a.toNat (0,(0,0))).2.2
 cond (k==m) (cond (inR a b.length) (let e:=(List.getD b a.toNat (0,(0,0))).1
 cond (inR a b.length) (let g:=(List.getD b a.toNat (0,(0,0))).2.1
 let d:ae:=[(e,g)]
 cond (decide (List.length c+List.length d<=aN)) (let j:ae:=c++d
 let f:=w64 (a+1)
 some (.inl (m,f,b,j))) none) none) none) (let l:=w64 (a+1)
 some (.inl (m,l,b,c)))) none) (some (.inr c))
def Fs[LP](d b:Int)(c:af)(a:ae):Option ae:=LP.lp (unc4 j5F) (d,b,c,a)
theorem X7(d b c a):Fs d b c a=lpK (j5F d b c a) (λh=>Fs h.1 h.2.1 h.2.2.1 h.2.2.2):=bh _ _
def jeu[LP](b:cC)(a c d f:Int):Option (ae×Int):=(jdh (b.1,(b.2.1,(b.2.2.1,b.2.2.2))) a d f).bind λe=>cond (e.2 != 0) (some (([]:ae),e.2)) ((Fs c 0 e.1 ([]:ae)).bind λi=>let g:=Int.ofNat i.length
 cond (decide (g>4096)) (some (([]:ae),5)) (some (i,0)))
def jlM[LP](b:cC)(a c d:Int):Option (ae×Int):=(jeu (b.1,(b.2.1,(b.2.2.1,b.2.2.2))) a (-1) c d).bind λe=>some (e.1,e.2)
def j5G(a:ae)(b:Int):Option ((ae×Int) ⊕ (Bool ⊕ Unit)):=
 let m:=Int.ofNat a.length
 cond (decide (b<m)) (cond (inR b a.length) (let f:=List.getD a b.toNat (0,0)
 cond (decide (f.1<0)) (some (.inr (.inl false))) (cond (inR b a.length) (let d:=List.getD a b.toNat (0,0)
 cond (inR b a.length) (let g:=List.getD a b.toNat (0,0)
 cond (decide (d.1>=g.2)) (some (.inr (.inl false))) (cond (inR b a.length) (let e:=List.getD a b.toNat (0,0)
 cond (decide (e.2>8589934592)) (some (.inr (.inl false))) (cond (decide (b>0)) (cond (inR b a.length) (let l:=List.getD a b.toNat (0,0)
 let c:=w64 (b-1)
 cond (inR c a.length) (let i:=List.getD a c.toNat (0,0)
 cond (decide (l.1<=i.2)) (some (.inr (.inl false))) (let j:=w64 (b+1)
 some (.inl (a,j)))) none) none) (let k:=w64 (b+1)
 some (.inl (a,k))))) none)) none) none)) none) (some (.inr (.inr ())))
def I3[LP](a:ae)(b:Int):Option (Bool ⊕ Unit):=LP.lp (unc2 j5G) (a,b)
theorem X8(a b):I3 a b=lpK (j5G a b) (λh=>I3 h.1 h.2):=bh _ _
def jjD[LP](a:ae):Option Bool:=
 let b:=Int.ofNat a.length
 cond (decide (b>4096)) (some false) ((I3 a 0).bind λc=>sumC c (λd=>some d) (λe=>some true))
def j4W[LP](a:ae)(k b:Int):Option ((ae×Int×Int) ⊕ (Int)):=
 let j:=Int.ofNat a.length
 cond (decide (b<j)) ((jjD a).bind λe=>cond e (cond (inR b a.length) (let d:=List.getD a b.toNat (0,0)
 cond (inR b a.length) (let f:=List.getD a b.toNat (0,0)
 let i:=w64 (d.2-f.1)
 let g:=w64 (k+i)
 let c:=w64 (b+1)
 some (.inl (a,g,c))) none) none) (some (.inr k))) (some (.inr k))
def I4[LP](a:ae)(b c:Int):Option Int:=LP.lp (unc3 j4W) (a,b,c)
theorem X9(a b c):I4 a b c=lpK (j4W a b c) (λh=>I4 h.1 h.2.1 h.2.2):=bh _ _
def j8O[LP](a:ae):Option Int:=(I4 a 0 0).bind λb=>some b
def j2I[LP](a3 a5 a1 a:Int)(a4:aj)(i:al)(g:an)(f:ao)(c b:af):Option ((Int×Int×Int×Int×aj×al×an×ao×af×af) ⊕ (Bool ⊕ Unit)):=cond (decide (a<a1)) (cond (inR a c.length) (let a2:=(List.getD c a.toNat (0,(0,0))).1
 (jeu (a4,(i,(g,f))) 0 a2 a3 a5).bind λe=>cond (e.2 != 0) (some (.inr (.inl false))) (cond (inR a c.length) (let p:=(List.getD c a.toNat (0,(0,0))).2.1
 (j8O e.1).bind λr=>cond (p != r) (some (.inr (.inl false))) (cond (inR a c.length) (let k:=(List.getD c a.toNat (0,(0,0))).2.2
 cond (inR a c.length) (let s:=(List.getD c a.toNat (0,(0,0))).2.1
 cond (k != s) (some (.inr (.inl false))) (cond (inR a c.length) (let o:=(List.getD c a.toNat (0,(0,0))).2.1
 cond (decide (o<=0)) (some (.inr (.inl false))) (cond (inR a b.length) (let t:=(List.getD b a.toNat (0,(0,0))).1
 cond (inR a c.length) (let z:=(List.getD c a.toNat (0,(0,0))).1
 cond (t != z) (some (.inr (.inl false))) (cond (inR a b.length) (let w:=(List.getD b a.toNat (0,(0,0))).2.1
 cond (inR a c.length) (let n:=(List.getD c a.toNat (0,(0,0))).2.1
 cond (w != n) (some (.inr (.inl false))) (cond (inR a b.length) (let q:=(List.getD b a.toNat (0,(0,0))).2.2
 cond (inR a b.length) (let y:=(List.getD b a.toNat (0,(0,0))).2.1
 cond (decide (q<y)) (some (.inr (.inl false))) (cond (inR a b.length) (let m:=(List.getD b a.toNat (0,(0,0))).2.2
 cond (inR a b.length) (let a0:=(List.getD b a.toNat (0,(0,0))).2.1
 let v:=w64 (8*a0)
 cond (decide (m>v)) (some (.inr (.inl false))) (cond (decide (a>0)) (cond (inR a c.length) (let x:=(List.getD c a.toNat (0,(0,0))).1
 let d:=w64 (a-1)
 cond (inR d c.length) (let j:=(List.getD c d.toNat (0,(0,0))).1
 cond (decide (x<=j)) (some (.inr (.inl false))) (let l:=w64 (a+1)
 some (.inl (a3,a5,a1,l,a4,i,g,f,c,b)))) none) none) (let u:=w64 (a+1)
 some (.inl (a3,a5,a1,u,a4,i,g,f,c,b))))) none) none)) none) none)) none) none)) none) none)) none)) none) none)) none)) none) (some (.inr (.inr ())))
def I5[LP](j k d e:Int)(g:aj)(c:al)(b:an)(a:ao)(i f:af):Option (Bool ⊕ Unit):=LP.lp (u8 unc2 j2I) (j,k,d,e,g,c,b,a,i,f)
theorem Ya(j k d e g c b a i f):I5 j k d e g c b a i f=lpK (j2I j k d e g c b a i f) (λh=>I5 h.1 h.2.1 h.2.2.1 h.2.2.2.1 h.2.2.2.2.1 h.2.2.2.2.2.1 h.2.2.2.2.2.2.1 h.2.2.2.2.2.2.2.1 h.2.2.2.2.2.2.2.2.1 h.2.2.2.2.2.2.2.2.2):=bh _ _
def jdt[LP](f:List Int):Option Bool:=(jko f).bind λp=>cond (!p) ((j9O).bind λt=>some t) ((jmx f).bind λj=>(j67 j.1 j.2 1).bind λa=>(j5k a.2.1 a.2.2).bind λb=>let c:=w64 (b.1+691200)
 let m:=Int.ofNat a.1.1.length
 (j07 b.2.1 b.2.2 m).bind λe=>(j9S (a.1.1,(a.1.2.1,(a.1.2.2.1,a.1.2.2.2))) 0 b.1 c e.1 ([]:cX)).bind λd=>(j7v e.2.1 e.2.2).bind λn=>(j9S (a.1.1,(a.1.2.1,(a.1.2.2.1,a.1.2.2.2))) 0 b.1 c e.1 n.1).bind λg=>(jlM (a.1.1,(a.1.2.1,(a.1.2.2.1,a.1.2.2.2))) 0 b.1 c).bind λk=>let w:=Int.ofNat d.1.length
 let s:=Int.ofNat g.1.length
 let u:Bool:=cond (cond (cond (d.2 != 0) true (g.2 != 0)) true (k.2 != 0)) true (w != s)
 cond u (let y:=w64 (c-b.1)
 some false) ((jbt d.1).bind λv=>(j8O k.1).bind λr=>let o:=w64 (v.2.1+r)
 let i:=w64 (c-b.1)
 cond (o != i) (some false) (let q:=Int.ofNat d.1.length
 (I5 b.1 c q 0 a.1.1 a.1.2.1 a.1.2.2.1 a.1.2.2.2 d.1 g.1).bind λx=>sumC x (λz=>some z) (λa0=>(j9O).bind λl=>some l))))
def j5Y(a:Int×Int):Option Int:=(j5U a.1).bind λd=>let c:=w64 (d*86400)
 let b:=w64 (c+a.2)
 some b
end
end Go.Proofs.Pw
