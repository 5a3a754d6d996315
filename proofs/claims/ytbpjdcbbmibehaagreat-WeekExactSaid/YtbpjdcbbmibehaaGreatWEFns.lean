/- Plain gf, printed by a program out of the given code. -/
import Derived.Test.YtbpjdcbbmibehaaGreatWELS
open Go Go.Lft
set_option linter.unusedVariables false
namespace Go.Proofs.Pw
noncomputable section
abbrev ae:Type:=(List (Int×Int))
abbrev ud:Type:=(Int×(Int×Int))
abbrev dP:Type:=(List ae)
abbrev ca:Type:=(List ud)
abbrev dE:Type:=(Int×ae)
abbrev sB:Type:=(Int×(Int×(Int×(Int×ud))))
abbrev az:Type:=(List sB)
abbrev dF:Type:=(ByteArray×(Int×az))
abbrev unc2{A0 A1 R:Type}(f:A0->A1->R)(h:A0×A1):R:=f h.1 h.2
abbrev unc3{A0 A1 A2 R:Type}(f:A0->A1->A2->R)(h:A0×A1×A2):R:=f h.1 h.2.1 h.2.2
abbrev unc4{A0 A1 A2 A3 R:Type}(f:A0->A1->A2->A3->R)(h:A0×A1×A2×A3):R:=f h.1 h.2.1 h.2.2.1 h.2.2.2
abbrev unc5{A0 A1 A2 A3 A4 R:Type}(f:A0->A1->A2->A3->A4->R)(h:A0×A1×A2×A3×A4):R:=f h.1 h.2.1 h.2.2.1 h.2.2.2.1 h.2.2.2.2
abbrev unc6{A0 A1 A2 A3 A4 A5 R:Type}(f:A0->A1->A2->A3->A4->A5->R)(h:A0×A1×A2×A3×A4×A5):R:=f h.1 h.2.1 h.2.2.1 h.2.2.2.1 h.2.2.2.2.1 h.2.2.2.2.2
abbrev unc7{A0 A1 A2 A3 A4 A5 A6 R:Type}(f:A0->A1->A2->A3->A4->A5->A6->R)(h:A0×A1×A2×A3×A4×A5×A6):R:=f h.1 h.2.1 h.2.2.1 h.2.2.2.1 h.2.2.2.2.1 h.2.2.2.2.2.1 h.2.2.2.2.2.2
abbrev unc9{A0 A1 A2 A3 A4 A5 A6 A7 A8 R:Type}(f:A0->A1->A2->A3->A4->A5->A6->A7->A8->R)(h:A0×A1×A2×A3×A4×A5×A6×A7×A8):R:=f h.1 h.2.1 h.2.2.1 h.2.2.2.1 h.2.2.2.2.1 h.2.2.2.2.2.1 h.2.2.2.2.2.2.1 h.2.2.2.2.2.2.2.1 h.2.2.2.2.2.2.2.2
abbrev jnw{A0 A1 A2 A3 A4 A5 A6 A7 A8 A9 R:Type}(f:A0->A1->A2->A3->A4->A5->A6->A7->A8->A9->R)(h:A0×A1×A2×A3×A4×A5×A6×A7×A8×A9):R:=f h.1 h.2.1 h.2.2.1 h.2.2.2.1 h.2.2.2.2.1 h.2.2.2.2.2.1 h.2.2.2.2.2.2.1 h.2.2.2.2.2.2.2.1 h.2.2.2.2.2.2.2.2.1 h.2.2.2.2.2.2.2.2.2
abbrev jls{A0 A1 A2 A3 A4 A5 A6 A7 A8 A9 xf xg R:Type}(f:A0->A1->A2->A3->A4->A5->A6->A7->A8->A9->xf->xg->R)(h:A0×A1×A2×A3×A4×A5×A6×A7×A8×A9×xf×xg):R:=f h.1 h.2.1 h.2.2.1 h.2.2.2.1 h.2.2.2.2.1 h.2.2.2.2.2.1 h.2.2.2.2.2.2.1 h.2.2.2.2.2.2.2.1 h.2.2.2.2.2.2.2.2.1 h.2.2.2.2.2.2.2.2.2.1 h.2.2.2.2.2.2.2.2.2.2.1 h.2.2.2.2.2.2.2.2.2.2.2
abbrev jlt{A0 A1 A2 A3 A4 A5 A6 A7 A8 A9 xf xg Ji R:Type}(f:A0->A1->A2->A3->A4->A5->A6->A7->A8->A9->xf->xg->Ji->R)(h:A0×A1×A2×A3×A4×A5×A6×A7×A8×A9×xf×xg×Ji):R:=f h.1 h.2.1 h.2.2.1 h.2.2.2.1 h.2.2.2.2.1 h.2.2.2.2.2.1 h.2.2.2.2.2.2.1 h.2.2.2.2.2.2.2.1 h.2.2.2.2.2.2.2.2.1 h.2.2.2.2.2.2.2.2.2.1 h.2.2.2.2.2.2.2.2.2.2.1 h.2.2.2.2.2.2.2.2.2.2.2.1 h.2.2.2.2.2.2.2.2.2.2.2.2
def j19(f e:ae)(k b:Int):Option ((ae×ae×Int×Int) ⊕ (Int ⊕ Unit)):=
 cond (decide (b<k)) (
 cond (inR b (List.length e)) (
 let a:=(List.getD e (Int.toNat b) (0,0))
 let d:Bool:=(cond (cond (decide (a.1<0)) true (decide (a.1>=a.2))) true (decide (a.2>604800)))
 cond d (
 some (.inr (.inl 1))) (
 cond (decide (b>0)) (
 let c:=(w64 (b-1))
 cond (inR c (List.length f)) (
 let i:=(List.getD f (Int.toNat c) (0,0))
 cond (decide (a.1<i.2)) (
 some (.inr (.inl 6))) (
 let g:=(w64 (b+1))
 some (.inl (f,e,k,g)))) none) (
 let j:=(w64 (b+1))
 some (.inl (f,e,k,j))))) none) (
 some (.inr (.inr ())))
def sC[LP](d b:ae)(c a:Int):Option (Int ⊕ Unit):=
 LP.lp (unc4 (j19)) (d,b,c,a)
theorem zG(c b d a):sC c b d a=lpK (j19 c b d a) (λh=>sC h.1 h.2.1 h.2.2.1 h.2.2.2):=cG _ _
def j1w[LP](a:ae):Option (Int):=
 let d:=(Int.ofNat (List.length a))
 cond (decide (d>14)) (
 some 5) (
 let c:=(Int.ofNat (List.length a))
 (sC a a c 0).bind λb=>
 sumC b (λe=>
 some e) (λf=>
 some 0))
def j1Q(k:Int)(d:ae)(e b:Int)(j:ae):Option ((Int×ae×Int×Int×ae) ⊕ (dE)):=
 cond (decide (b<e)) (
 cond (inR b (List.length d)) (
 let a:=(List.getD d (Int.toNat b) (0,0))
 cond (decide (k<a.1)) (
 let c:ae:=[(k,a.1)]
 cond (decide (List.length j+List.length c<=bI)) (
 let i:ae:=(j++c)
 let f:=(w64 (b+1))
 some (.inl (a.2,d,e,f,i))) none) (
 let g:=(w64 (b+1))
 some (.inl (a.2,d,e,g,j)))) none) (
 some (.inr (k,j)))
def ue[LP](e:Int)(c:ae)(a b:Int)(d:ae):Option (dE):=
 LP.lp (unc5 (j1Q)) (e,c,a,b,d)
theorem Jj(e c a b d):ue e c a b d=lpK (j1Q e c a b d) (λh=>ue h.1 h.2.1 h.2.2.1 h.2.2.2.1 h.2.2.2.2):=cG _ _
def j2x[LP](a:ae):Option (ae×Int):=
 (j1w a).bind λi=>
 cond (i != 0) (
 some (([]:ae),8)) (
 let g:=(Int.ofNat (List.length a))
 (ue 0 a g 0 ([]:ae)).bind λb=>
 cond (decide (b.1<604800)) (
 let e:ae:=[(b.1,604800)]
 cond (decide (List.length b.2+List.length e<=bI)) (
 let d:ae:=(b.2++e)
 let f:=(Int.ofNat (List.length d))
 cond (decide (f>14)) (
 some (([]:ae),5)) (
 some (d,0))) none) (
 let c:=(Int.ofNat (List.length b.2))
 cond (decide (c>14)) (
 some (([]:ae),5)) (
 some (b.2,0))))
def j3v(a c b:Int):Option (Bool):=
 some (cond (decide (a>=c)) (decide (a<=b)) false)
def j7O(a:sB):Option (Int):=
 (j3v a.1 1970 2240).bind λi=>
 cond (!i) (
 some 1) (
 (j3v a.2.1 a.1 2240).bind λf=>
 cond (!f) (
 some 1) (
 (j3v a.2.2.1 1 12).bind λe=>
 cond (!e) (
 some 1) (
 (j3v a.2.2.2.1 1 5).bind λb=>
 cond (!b) (
 some 1) (
 (j3v a.2.2.2.2.1 0 6).bind λg=>
 cond (!g) (
 some 1) (
 (j3v a.2.2.2.2.2.1 0 86399).bind λd=>
 cond (!d) (
 some 1) (
 (j3v a.2.2.2.2.2.2 (-64800) 64800).bind λc=>
 cond (!c) (
 some 1) (
 some 0)))))))
def ja8(a:Int):Option (Bool):=
 let c:=(Int.tmod a 4)
 let d:=(Int.tmod a 100)
 let b:=(Int.tmod a 400)
 some (cond (c==0) (cond (d != 0) true (b==0)) false)
def j4i(c a:Int):Option (Int):=
 cond (cond (decide (a<1)) true (decide (a>12))) (
 some 0) (
 let f:(List Int):=[31,28,31,30,31,30,31,31,30,31,30,31]
 let j:(List Int):=(List.replicate 12 0)
 cond (a==2) (
 (ja8 c).bind λi=>
 cond i (
 some 29) (
 let e:=(w64 (a-1))
 cond (inR e 12) (
 let g:=(List.getD f (Int.toNat e) 0)
 some g) none)) (
 let b:=(w64 (a-1))
 cond (inR b 12) (
 let d:=(List.getD f (Int.toNat b) 0)
 some d) none))
def j5i(a:ud):Option (Bool):=
 cond (decide (a.1>=1970)) (
 cond (decide (a.1<=2240)) (
 cond (decide (a.2.2>=1)) (
 (j4i a.1 a.2.1).bind λb=>
 some (decide (a.2.2<=b))) (
 some false)) (
 some false)) (
 some false)
def j4j(b a:Int):Option (Int):=
 cond (!(a==0)) (
 let c:=(w64 (Int.tdiv b a))
 cond (!(a==0)) (
 let d:=(Int.tmod b a)
 cond (decide (d<0)) (
 let e:=(w64 (c-1))
 some e) (
 some c)) none) none
def j6S(a:Int):Option (Int):=
 let b:=(w64 (a-1))
 let l:=(w64 (a-1970))
 let k:=(w64 (365*l))
 (j4j b 4).bind λe=>
 let f:=(w64 (k+e))
 (j4j b 100).bind λg=>
 let j:=(w64 (f-g))
 (j4j b 400).bind λc=>
 let d:=(w64 (j+c))
 let i:=(w64 (d-477))
 some i
def j1I(g e i a f:Int):Option ((Int×Int×Int×Int×Int) ⊕ (Int)):=
 cond (decide (e<a)) (
 (j4i i e).bind λc=>
 let b:=(w64 (g+c))
 let d:=(w64 (e+1))
 some (.inl (b,d,i,a,f))) (
 some (.inr g))
def uf[LP](c e d b a:Int):Option (Int):=
 LP.lp (unc5 (j1I)) (c,e,d,b,a)
theorem Jk(c e d b a):uf c e d b a=lpK (j1I c e d b a) (λh=>uf h.1 h.2.1 h.2.2.1 h.2.2.2.1 h.2.2.2.2):=cG _ _
def j2W[LP](a:ud):Option (Int):=
 (j6S a.1).bind λd=>
 let b:=(w64 (d+a.2.2))
 let c:=(w64 (b-1))
 (uf c 1 a.1 a.2.1 a.2.2).bind λe=>
 some e
def j2y(a:Int):Option (Int):=
 let c:=(Int.tmod a 7)
 let d:=(w64 (c+10))
 let b:=(Int.tmod d 7)
 some b
def j5j[LP](c b d a:Int):Option (Int×Int):=
 (j5i (c,(b,1))).bind λr=>
 let i:Bool:=(cond (cond (!r) true (decide (d<1))) true (decide (d>5)))
 let n:Bool:=(cond (cond i true (decide (a<0))) true (decide (a>6)))
 cond n (
 some (0,1)) (
 (j2W (c,(b,1))).bind λe=>
 (j2y e).bind λj=>
 let l:=(w64 (a-j))
 let p:=(w64 (l+7))
 let t:=(Int.tmod p 7)
 let q:=(w64 (e+t))
 let s:=(w64 (d-1))
 let o:=(w64 (7*s))
 let f:=(w64 (q+o))
 (j4i c b).bind λm=>
 let k:=(w64 (e+m))
 cond (decide (f>=k)) (
 let g:=(w64 (f-7))
 some (g,0)) (
 some (f,0)))
def j3w(a b:(Int×Int)):Option (Int):=
 let c:=(w64 (a.1-b.1))
 some c
def j0f(o p q b:Int)(a:ae):Option ((Int×Int×Int×Int×ae) ⊕ ((Int×Int×Int×ae))):=
 cond (decide (b>o)) (
 cond (inR b (List.length a)) (
 let f:=(List.getD a (Int.toNat b) (0,0))
 let k:=(w64 (b-1))
 cond (inR k (List.length a)) (
 let e:=(List.getD a (Int.toNat k) (0,0))
 (j3w (f.1,f.2) (e.1,e.2)).bind λl=>
 cond (decide (l<0)) (
 let j:=(w64 (b-1))
 let i:=(w64 (b-1))
 cond (inR i (List.length a)) (
 let c:=(List.getD a (Int.toNat i) (0,0))
 cond (inR b (List.length a)) (
 let g:=(List.getD a (Int.toNat b) (0,0))
 cond (inR b (List.length a)) (
 let d:ae:=(List.set a (Int.toNat b) (c.1,c.2))
 cond (inR j (List.length d)) (
 let m:ae:=(List.set d (Int.toNat j) (g.1,g.2))
 let n:=(w64 (b-1))
 some (.inl (o,p,q,n,m))) none) none) none) none) (
 some (.inr (o,p,q,a)))) none) none) (
 some (.inr (o,p,q,a)))
def ug[LP](e a b d:Int)(c:ae):Option ((Int×Int×Int×ae)):=
 LP.lp (unc5 (j0f)) (e,a,b,d,c)
theorem Jl(e a b d c):ug e a b d c=lpK (j0f e a b d c) (λh=>ug h.1 h.2.1 h.2.2.1 h.2.2.2.1 h.2.2.2.2):=cG _ _
def j04[LP](f d c:Int)(e:ae):Option ((Int×Int×Int×ae) ⊕ (ae)):=
 cond (decide (c<d)) (
 (ug f d c c e).bind λa=>
 let b:=(w64 (a.2.2.1+1))
 some (.inl (a.1,a.2.1,b,a.2.2.2))) (
 some (.inr e))
def uh[LP](d c a:Int)(b:ae):Option (ae):=
 LP.lp (unc4 (j04)) (d,c,a,b)
theorem DY(d a b c):uh d a b c=lpK (j04 d a b c) (λh=>uh h.1 h.2.1 h.2.2.1 h.2.2.2):=cG _ _
def j07[LP](a:ae)(b c:Int):Option (ae):=
 let d:=(w64 (b+1))
 (uh b c d a).bind λe=>
 some e
def j08[LP](e d f a:Int)(g:ae):Option ((Int×Int×Int×Int×ae) ⊕ ((Int×Int×Int×ae))):=
 cond (decide (a<=e)) (
 (j07 g f a).bind λb=>
 let c:=(w64 (a+d))
 some (.inl (e,d,a,c,b))) (
 some (.inr (e,d,f,g)))
def ui[LP](e c a b:Int)(d:ae):Option ((Int×Int×Int×ae)):=
 LP.lp (unc5 (j08)) (e,c,a,b,d)
theorem QI(e c a b d):ui e c a b d=lpK (j08 e c a b d) (λh=>ui h.1 h.2.1 h.2.2.1 h.2.2.2.1 h.2.2.2.2):=cG _ _
def j14(c b a e:Int)(f:ae):Option ((Int×Int×Int×Int×ae) ⊕ ((Int×Int×Int×ae))):=
 cond (decide (e<=c)) (
 let d:=(w64 (a+b))
 none) (
 some (.inr (c,b,a,f)))
def DZ[LP](e c a b:Int)(d:ae):Option ((Int×Int×Int×ae)):=
 LP.lp (unc5 (j14)) (e,c,a,b,d)
def j09[LP](g e:Int)(f:ae):Option ((Int×Int×ae) ⊕ (ae)):=
 cond (decide (e<g)) (
 let c:=(w64 (2*e))
 (DZ g e 0 c f).bind λa=>
 let b:=(w64 (a.2.2.1+a.2.1))
 cond (decide (b<a.1)) (
 none) (
 let d:=(w64 (a.2.1*2))
 some (.inl (a.1,d,a.2.2.2)))) (
 some (.inr f))
def uj[LP](c a:Int)(b:ae):Option (ae):=
 LP.lp (unc3 (j09)) (c,a,b)
theorem QJ(c a b):uj c a b=lpK (j09 c a b) (λh=>uj h.1 h.2.1 h.2.2):=cG _ _
def j0s[LP](a:ae)(c:Int):Option (ae):=
 (ui c 20 0 20 a).bind λb=>
 (j07 b.2.2.2 b.2.2.1 b.1).bind λd=>
 (uj b.1 b.2.1 d).bind λe=>
 some e
def j05[LP](a:ae):Option (ae):=
 let b:=(Int.ofNat (List.length a))
 (j0s a b).bind λc=>
 some c
def j11(n:Int)(d:az)(l c:Int)(m:ByteArray)(f:Int)(e:az):Option ((Int×az×Int×Int×ByteArray×Int×az) ⊕ (Int ⊕ (Int×ByteArray×Int×az))):=
 cond (decide (c<l)) (
 cond (inR c (List.length d)) (
 let a:=(List.getD d (Int.toNat c) (0,(0,(0,(0,(0,(0,0)))))))
 (j7O (a.1,(a.2.1,(a.2.2.1,(a.2.2.2.1,(a.2.2.2.2.1,(a.2.2.2.2.2.1,a.2.2.2.2.2.2))))))).bind λb=>
 cond (b != 0) (
 some (.inr (.inl b))) (
 let j:=(w64 (a.2.1-a.1))
 let i:=(w64 (j+1))
 let g:=(w64 (n+i))
 let k:=(w64 (c+1))
 some (.inl (g,d,l,k,m,f,e)))) none) (
 some (.inr (.inr (n,m,f,e))))
def sD[LP](g:Int)(c:az)(d e:Int)(f:ByteArray)(b:Int)(a:az):Option (Int ⊕ (Int×ByteArray×Int×az)):=
 LP.lp (unc7 (j11)) (g,c,d,e,f,b,a)
theorem Jm(g c d e f b a):sD g c d e f b a=lpK (j11 g c d e f b a) (λh=>sD h.1 h.2.1 h.2.2.1 h.2.2.2.1 h.2.2.2.2.1 h.2.2.2.2.2.1 h.2.2.2.2.2.2):=cG _ _
def j0w[LP](i:Int)(q:az)(o p s d a c g f e:Int)(r:ae):Option ((Int×az×Int×Int×Int×Int×Int×Int×Int×Int×Int×ae) ⊕ ((az×Int×Int×ae))):=
 cond (decide (i<=d)) (
 (j5j i a c g).bind λm=>
 let n:=(w64 (m.1*86400))
 let j:=(w64 (n+f))
 let b:ae:=[(j,e)]
 cond (decide (List.length r+List.length b<=bI)) (
 let k:ae:=(r++b)
 let l:=(w64 (i+1))
 some (.inl (l,q,o,p,s,d,a,c,g,f,e,k))) none) (
 some (.inr (q,o,p,r)))
def um[LP](j:Int)(l:az)(g i k c a b f e d:Int)(m:ae):Option ((az×Int×Int×ae)):=
 LP.lp (jls (j0w)) (j,l,g,i,k,c,a,b,f,e,d,m)
theorem Jn(j l g i k c a b f e d m):um j l g i k c a b f e d m=lpK (j0w j l g i k c a b f e d m) (λh=>um h.1 h.2.1 h.2.2.1 h.2.2.2.1 h.2.2.2.2.1 h.2.2.2.2.2.1 h.2.2.2.2.2.2.1 h.2.2.2.2.2.2.2.1 h.2.2.2.2.2.2.2.2.1 h.2.2.2.2.2.2.2.2.2.1 h.2.2.2.2.2.2.2.2.2.2.1 h.2.2.2.2.2.2.2.2.2.2.2):=cG _ _
def j0x[LP](d:az)(f c:Int)(g:ae):Option ((az×Int×Int×ae) ⊕ (ae)):=
 cond (decide (c<f)) (
 cond (inR c (List.length d)) (
 let a:=(List.getD d (Int.toNat c) (0,(0,(0,(0,(0,(0,0)))))))
 (um a.1 d f c a.1 a.2.1 a.2.2.1 a.2.2.2.1 a.2.2.2.2.1 a.2.2.2.2.2.1 a.2.2.2.2.2.2 g).bind λb=>
 let e:=(w64 (b.2.2.1+1))
 some (.inl (b.1,b.2.1,e,b.2.2.2))) none) (
 some (.inr g))
def sE[LP](b:az)(a c:Int)(d:ae):Option (ae):=
 LP.lp (unc4 (j0x)) (b,a,c,d)
theorem Jo(c a b d):sE c a b d=lpK (j0x c a b d) (λh=>sE h.1 h.2.1 h.2.2.1 h.2.2.2):=cG _ _
def j1D[LP](a:dF):Option (ae×Int):=
 (j3v a.2.1 (-64800) 64800).bind λc=>
 cond (!c) (
 some (([]:ae),1)) (
 let b:=(Int.ofNat (List.length a.2.2))
 cond (decide (b>16)) (
 some (([]:ae),5)) (
 let e:=(Int.ofNat (List.length a.2.2))
 (sD 0 a.2.2 e 0 a.1 a.2.1 a.2.2).bind λg=>
 sumC g (λk=>
 some (([]:ae),k)) (λi=>
 cond (decide (i.1>640)) (
 some (([]:ae),5)) (
 let f:=(Int.ofNat (List.length i.2.2.2))
 (sE i.2.2.2 f 0 ([]:ae)).bind λj=>
 (j05 j).bind λd=>
 some (d,0)))))
def j12(u m d:Int)(b g:ae):Option ((Int×Int×Int×ae×ae) ⊕ (Int ⊕ ae)):=
 cond (decide (d<m)) (
 cond (inR d (List.length g)) (
 let a:=(List.getD g (Int.toNat d) (0,0))
 cond (a.2==u) (
 let w:=(w64 (d+1))
 some (.inl (u,m,w,b,g))) (
 let c:=(w64 (a.1-u))
 let e:=(w64 (a.2-u))
 cond (cond (decide (e>=86400)) true (decide (e<=(-86400)))) (
 let q:=(Int.ofNat (List.length b))
 let t:=(Int.ofNat (List.length b))
 let f:=(w64 (t-1))
 cond ((inR f (List.length b)) || !((!true)&&(decide (q>0)))) (
 let r:=(List.getD b (Int.toNat f) (0,0)).1
 let x:=(w64 (r+604800))
 some (.inr (.inl 6))) none) (
 (j3v c 0 8589934592).bind λl=>
 let i:=(Int.ofNat (List.length b))
 let s:=(Int.ofNat (List.length b))
 let j:=(w64 (s-1))
 cond ((inR j (List.length b)) || !((!(!l))&&(decide (i>0)))) (
 let n:=(List.getD b (Int.toNat j) (0,0)).1
 let v:=(w64 (n+604800))
 cond (cond (!l) true (cond (decide (i>0)) (decide (c<v)) false)) (
 some (.inr (.inl 6))) (
 let k:ae:=[(c,a.2)]
 cond (decide (List.length b+List.length k<=bI)) (
 let p:ae:=(b++k)
 let o:=(w64 (d+1))
 some (.inl (a.2,m,o,p,g))) none)) none))) none) (
 some (.inr (.inr b)))
def sF[LP](d a b:Int)(e c:ae):Option (Int ⊕ ae):=
 LP.lp (unc5 (j12)) (d,a,b,e,c)
theorem Jp(d a b e c):sF d a b e c=lpK (j12 d a b e c) (λh=>sF h.1 h.2.1 h.2.2.1 h.2.2.2.1 h.2.2.2.2):=cG _ _
def j1j[LP](a:dF):Option (ae×Int):=
 (j1D (a.1,(a.2.1,a.2.2))).bind λb=>
 cond (b.2 != 0) (
 some (([]:ae),b.2)) (
 let c:=(Int.ofNat (List.length b.1))
 (sF a.2.1 c 0 ([]:ae) b.1).bind λd=>
 sumC d (λf=>
 some (([]:ae),f)) (λe=>
 some (e,0)))
def j5k[LP](a:dF):Option (dE×Int):=
 (j1j (a.1,(a.2.1,a.2.2))).bind λb=>
 some ((a.2.1,b.1),b.2)
def j3O[LP](a:dF)(c:Int):Option (dE×Int):=
 (j5k (a.1,(a.2.1,a.2.2))).bind λb=>
 cond (b.2 != 0) (
 some ((0,([]:ae)),8)) (
 (j3v c 0 8589934592).bind λd=>
 cond (!d) (
 some ((0,([]:ae)),1)) (
 some ((b.1.1,b.1.2),0)))
def j3x(b e:Int)(a:ae)(d:Int):Option (Bool):=
 cond (inR b (List.length a)) (
 let c:=(List.getD a (Int.toNat b) (0,0))
 some (decide (c.1>d))) none
def j1o(l:Int)(b:ae)(a g k:Int):Option ((Int×ae×Int×Int×Int) ⊕ (Int)):=
 cond (decide (g<k)) (
 let f:=(w64 (g+k))
 let j:Int:=(IntKind.wrap .u64 f)
 let d:Int:=(Int.fdiv j 2)
 let c:=(w64 d)
 (j3x c l b a).bind λi=>
 cond (!i) (
 let e:=(w64 (c+1))
 some (.inl (l,b,a,e,k))) (
 some (.inl (l,b,a,g,c)))) (
 some (.inr g))
def uq[LP](e:Int)(b:ae)(a c d:Int):Option (Int):=
 LP.lp (unc5 (j1o)) (e,b,a,c,d)
theorem Jq(e b a c d):uq e b a c d=lpK (j1o e b a c d) (λh=>uq h.1 h.2.1 h.2.2.1 h.2.2.2.1 h.2.2.2.2):=cG _ _
def j4k[LP](d c:Int)(a:ae)(b:Int):Option (Int):=
 (uq c a b 0 d).bind λe=>
 some e
def j1k[LP](a:dE)(b:Int):Option (Int):=
 let c:=(Int.ofNat (List.length a.2))
 (j4k c a.1 a.2 b).bind λd=>
 some d
def j1P(a:dE)(b:Int):Option (Int):=
 cond (b==0) (
 some a.1) (
 let c:=(w64 (b-1))
 cond (inR c (List.length a.2)) (
 let d:=(List.getD a.2 (Int.toNat c) (0,0))
 some d.2) none)
def j1p[LP](a:dE)(b:Int):Option (Int):=
 (j1k (a.1,a.2) b).bind λc=>
 (j1P (a.1,a.2) c).bind λd=>
 some d
def j8g(a:Int):Option ((Int×Int)):=
 let e:=(w64 (Int.tdiv a 86400))
 let i:=(Int.tmod a 86400)
 cond (decide (i<0)) (
 let d:=(w64 (e-1))
 let g:=(w64 (d*86400))
 let f:=(w64 (a-g))
 some (d,f)) (
 let b:=(w64 (e*86400))
 let c:=(w64 (a-b))
 some (e,c))
def j1E[LP](a:dE)(b:Int):Option ((Int×Int)):=
 (j1p (a.1,a.2) b).bind λe=>
 let d:=(w64 (b+e))
 (j8g d).bind λc=>
 some (c.1,c.2)
def j1Z[LP](a:dF)(c:Int):Option ((Int×Int)×Int):=
 (j3O (a.1,(a.2.1,a.2.2)) c).bind λb=>
 cond (b.2 != 0) (
 some ((0,0),b.2)) (
 (j1E (b.1.1,b.1.2) c).bind λd=>
 some ((d.1,d.2),0))
def j6T(a:(Int×Int)):Option (Int):=
 (j2y a.1).bind λc=>
 let b:=(w64 (c*86400))
 let d:=(w64 (b+a.2))
 some d
def j1F[LP](a:dF)(c:Int):Option (Int×Int):=
 (j1Z (a.1,(a.2.1,a.2.2)) c).bind λb=>
 cond (b.2 != 0) (
 some (0,b.2)) (
 (j6T (b.1.1,b.1.2)).bind λd=>
 some (d,0))
def j2G(e:Int)(d:ae)(f c:Int):Option ((Int×ae×Int×Int) ⊕ (Bool ⊕ Unit)):=
 cond (decide (c<f)) (
 cond (inR c (List.length d)) (
 let a:=(List.getD d (Int.toNat c) (0,0))
 cond (cond (decide (a.1<=e)) (decide (e<a.2)) false) (
 some (.inr (.inl true))) (
 let b:=(w64 (c+1))
 some (.inl (e,d,f,b)))) none) (
 some (.inr (.inr ())))
def ur[LP](c:Int)(a:ae)(b d:Int):Option (Bool ⊕ Unit):=
 LP.lp (unc4 (j2G)) (c,a,b,d)
theorem Jr(d a b c):ur d a b c=lpK (j2G d a b c) (λh=>ur h.1 h.2.1 h.2.2.1 h.2.2.2):=cG _ _
def j6U[LP](a:ae)(b:Int):Option (Bool):=
 let d:=(Int.ofNat (List.length a))
 (ur b a d 0).bind λc=>
 sumC c (λe=>
 some e) (λf=>
 some false)
def j6V[LP](a:dF)(b:ae)(d:Int):Option (Bool):=
 (j1F (a.1,(a.2.1,a.2.2)) d).bind λc=>
 cond (c.2==0) (
 (j1w b).bind λe=>
 cond (e==0) (
 (j6U b c.1).bind λf=>
 some f) (
 some false)) (
 some false)
def j3D[LP]  : Option (Bool):=
 let i:ae:=[(32400,61200)]
 let f:ae:=[(0,86400)]
 (j2x f).bind λa=>
 (j1F (ByteArray.empty,(0,([]:az))) 378000).bind λb=>
 let g:Bool:=(cond (cond (a.2==0) (b.2==0) false) (b.1==32400) false)
 cond g (
 (j6V (ByteArray.empty,(0,([]:az))) i 378000).bind λj=>
 cond j (
 (j6V (ByteArray.empty,(0,([]:az))) i 406800).bind λe=>
 let c:=(Int.ofNat (List.length a.1))
 cond ((inR 0 (List.length a.1)) || !(cond (!e) (c==1) false)) (
 let d:=(List.getD a.1 0 (0,0))
 let k:Bool:=(cond (cond (!e) (c==1) false) ((d.1==86400)&&(d.2==604800)) false)
 some k) none) (
 let o:=(Int.ofNat (List.length a.1))
 cond ((inR 0 (List.length a.1)) || !false) (
 let m:=(List.getD a.1 0 (0,0))
 some false) none)) (
 let l:=(Int.ofNat (List.length a.1))
 cond ((inR 0 (List.length a.1)) || !false) (
 let n:=(List.getD a.1 0 (0,0))
 some false) none)
def ja9(a:(List Int)):Option (Bool):=
 let b:=(Int.ofNat (List.length a))
 some (decide (b<=500))
def jbP(a:(List Int)):Option ((List Int)×Int):=
 some (a,0)
def j0g(b:(List Int))(a c:Int):Option (Int×(List Int)×Int):=
 let i:=(Int.ofNat (List.length b))
 cond (decide (a>=i)) (
 some (0,b,a)) (
 cond (decide (c<1)) (
 some (0,b,a)) (
 cond (inR a (List.length b)) (
 let f:=(List.getD b (Int.toNat a) 0)
 cond (!(c==0)) (
 let d:=(Int.tmod f c)
 let e:=(w64 (a+1))
 cond (decide (d<0)) (
 let g:=(w64 (d+c))
 some (g,b,e)) (
 some (d,b,e))) none) none))
def j15(d:(List Int))(b:Int)(a:(List Int)):Option (Int×(List Int)×Int):=
 let f:=(Int.ofNat (List.length a))
 (j0g d b f).bind λc=>
 cond (inR c.1 (List.length a)) (
 let e:=(List.getD a (Int.toNat c.1) 0)
 some (e,c.2.1,c.2.2)) none
def j4u(a0:(List Int))(j:Int)(a:ByteArray):Option (dF×(List Int)×Int):=
 let a1:(List Int):=[0,4,(-20),22,48,(-47)]
 (j15 a0 j a1).bind λx=>
 (j0g x.2.1 x.2.2 2).bind λk=>
 (j0g k.2.1 k.2.2 3).bind λv=>
 let a8:=(w64 (k.1*v.1))
 let b1:=(w64 (x.1+a8))
 let c:=(w64 (900*b1))
 (j0g v.2.1 v.2.2 2).bind λi=>
 let g:=(w64 (2025+i.1))
 (j0g i.2.1 i.2.2 4).bind λb=>
 cond (b.1==1) (
 let b2:=(w64 (c+3600))
 let a3:az:=[(2025,(g,(3,(5,(6,(7200,b2)))))),(2025,(g,(10,(5,(6,(10800,c))))))]
 some ((a,(c,a3)),b.2.1,b.2.2)) (
 cond (b.1==2) (
 (j0g b.2.1 b.2.2 4).bind λu=>
 let b7:=(w64 (1+u.1))
 (j0g u.2.1 u.2.2 7).bind λo=>
 (j0g o.2.1 o.2.2 24).bind λw=>
 let a7:=(w64 (3600*w.1))
 (j0g w.2.1 w.2.2 8).bind λp=>
 let b0:=(w64 (1+p.1))
 let a6:=(w64 (1800*b0))
 let a2:=(w64 (c+a6))
 (j0g p.2.1 p.2.2 2).bind λq=>
 let b3:=(w64 (2+q.1))
 let a5:(List Int):=[2,3,5]
 (j15 q.2.1 q.2.2 a5).bind λr=>
 (j0g r.2.1 r.2.2 7).bind λl=>
 (j0g l.2.1 l.2.2 24).bind λs=>
 let b4:=(w64 (3600*s.1))
 let a9:az:=[(2025,(g,(1,(b7,(o.1,(a7,a2)))))),(2025,(g,(b3,(r.1,(l.1,(b4,c))))))]
 some ((a,(c,a9)),s.2.1,s.2.2)) (
 cond (b.1==3) (
 let b6:(List Int):=[3600,(-3600),82800,(-82800),43200]
 (j15 b.2.1 b.2.2 b6).bind λf=>
 let m:=(w64 (c+f.1))
 cond (cond (decide (m>64800)) true (decide (m<(-64800)))) (
 (j0g f.2.1 f.2.2 7).bind λn=>
 (j0g n.2.1 n.2.2 48).bind λt=>
 let b5:=(w64 (1800*t.1))
 let a4:az:=[(2026,(2026,(1,(2,(n.1,(b5,0))))))]
 some ((a,(c,a4)),t.2.1,t.2.2)) (
 (j0g f.2.1 f.2.2 7).bind λd=>
 (j0g d.2.1 d.2.2 48).bind λe=>
 let y:=(w64 (1800*e.1))
 let z:az:=[(2026,(2026,(1,(2,(d.1,(y,m))))))]
 some ((a,(c,z)),e.2.1,e.2.2))) (
 some ((a,(c,([]:az))),b.2.1,b.2.2))))
def j0U(r p:Int)(q:(List Int))(g:Int)(j:ae):Option ((Int×Int×(List Int)×Int×ae) ⊕ (((List Int)×Int×ae))):=
 cond (decide (p>0)) (
 (j0g q g 30).bind λc=>
 let l:=(w64 (3600*c.1))
 let o:=(w64 (r+l))
 (j0g c.2.1 c.2.2 2).bind λd=>
 let m:=(w64 (60*d.1))
 let e:=(w64 (o+m))
 let k:(List Int):=[3600,28800,43200,86400,61,1]
 (j15 d.2.1 d.2.2 k).bind λa=>
 let b:=(w64 (e+a.1))
 cond (decide (b>604800)) (
 some (.inr (a.2.1,a.2.2,j))) (
 let f:ae:=[(e,b)]
 cond (decide (List.length j+List.length f<=bI)) (
 let i:ae:=(j++f)
 let n:=(w64 (p-1))
 some (.inl (b,n,a.2.1,a.2.2,i))) none)) (
 some (.inr (q,g,j)))
def zH[LP](c d:Int)(e:(List Int))(a:Int)(b:ae):Option (((List Int)×Int×ae)):=
 LP.lp (unc5 (j0U)) (c,d,e,a,b)
theorem Js(c d e a b):zH c d e a b=lpK (j0U c d e a b) (λh=>zH h.1 h.2.1 h.2.2.1 h.2.2.2.1 h.2.2.2.2):=cG _ _
def j3a[LP](c:(List Int))(a:Int):Option (ae×(List Int)×Int):=
 (j0g c a 4).bind λd=>
 (zH 0 d.1 d.2.1 d.2.2 ([]:ae)).bind λb=>
 some (b.2.2,b.1,b.2.1)
def j5W(d:(List Int))(b a:Int):Option (Bool×(List Int)×Int):=
 (j0g d b a).bind λc=>
 let e:=(w64 (a-1))
 some ((c.1==e),c.2.1,c.2.2)
def j2k(e:(List Int))(a:Int):Option (Int×(List Int)×Int):=
 (j0g e a 576).bind λd=>
 let j:=(w64 (3600*d.1))
 let f:=(w64 (1767139200+j))
 (j5W d.2.1 d.2.2 3).bind λc=>
 cond c.1 (
 let g:(List Int):=[(-1),1,1800,3599]
 (j15 c.2.1 c.2.2 g).bind λb=>
 let i:=(w64 (f+b.1))
 some (i,b.2.1,b.2.2)) (
 some (f,c.2.1,c.2.2))
def j2l(b:ae)(a:Int):Option ((ae×Int) ⊕ (Int ⊕ Unit)):=
 let m:=(Int.ofNat (List.length b))
 cond (decide (a<m)) (
 cond (inR a (List.length b)) (
 let l:=(List.getD b (Int.toNat a) (0,0))
 cond (decide (l.1<0)) (
 some (.inr (.inl 1))) (
 cond (inR a (List.length b)) (
 let k:=(List.getD b (Int.toNat a) (0,0))
 cond (inR a (List.length b)) (
 let j:=(List.getD b (Int.toNat a) (0,0))
 cond (decide (k.1>=j.2)) (
 some (.inr (.inl 1))) (
 cond (inR a (List.length b)) (
 let f:=(List.getD b (Int.toNat a) (0,0))
 cond (decide (f.2>604800)) (
 some (.inr (.inl 1))) (
 cond (decide (a>0)) (
 cond (inR a (List.length b)) (
 let g:=(List.getD b (Int.toNat a) (0,0))
 let c:=(w64 (a-1))
 cond (inR c (List.length b)) (
 let d:=(List.getD b (Int.toNat c) (0,0))
 cond (decide (g.1<d.2)) (
 some (.inr (.inl 6))) (
 let i:=(w64 (a+1))
 some (.inl (b,i)))) none) none) (
 let e:=(w64 (a+1))
 some (.inl (b,e))))) none)) none) none)) none) (
 some (.inr (.inr ())))
def zI[LP](b:ae)(a:Int):Option (Int ⊕ Unit):=
 LP.lp (unc2 (j2l)) (b,a)
theorem Jt(b a):zI b a=lpK (j2l b a) (λh=>zI h.1 h.2):=cG _ _
def j2X[LP](a:ae):Option (Int):=
 let c:=(Int.ofNat (List.length a))
 cond (decide (c>14)) (
 some 5) (
 (zI a 0).bind λb=>
 sumC b (λd=>
 some d) (λe=>
 some 0))
def j1x(a:ae)(m b:Int)(c:ae):Option ((ae×Int×Int×ae) ⊕ (ae)):=
 let l:=(Int.ofNat (List.length a))
 cond (decide (b<=l)) (
 let o:=(Int.ofNat (List.length a))
 cond (decide (b<o)) (
 cond (inR b (List.length a)) (
 let g:=(List.getD a (Int.toNat b) (0,0))
 cond (inR b (List.length a)) (
 let e:=(List.getD a (Int.toNat b) (0,0))
 cond (decide (m<g.1)) (
 let d:ae:=[(m,g.1)]
 cond (decide (List.length c+List.length d<=bI)) (
 let n:ae:=(c++d)
 let k:=(w64 (b+1))
 some (.inl (a,e.2,k,n))) none) (
 let q:=(w64 (b+1))
 some (.inl (a,e.2,q,c)))) none) none) (
 cond (decide (m<604800)) (
 let f:ae:=[(m,604800)]
 cond (decide (List.length c+List.length f<=bI)) (
 let p:ae:=(c++f)
 let j:=(w64 (b+1))
 some (.inl (a,604800,j,p))) none) (
 let i:=(w64 (b+1))
 some (.inl (a,604800,i,c))))) (
 some (.inr c))
def xh[LP](d:ae)(a b:Int)(c:ae):Option (ae):=
 LP.lp (unc4 (j1x)) (d,a,b,c)
theorem D0(b c d a):xh b c d a=lpK (j1x b c d a) (λh=>xh h.1 h.2.1 h.2.2.1 h.2.2.2):=cG _ _
def j6t[LP](a:ae):Option (ae×Int):=
 (j2X a).bind λb=>
 cond (b != 0) (
 some (([]:ae),8)) (
 (xh a 0 0 ([]:ae)).bind λd=>
 let c:=(Int.ofNat (List.length d))
 cond (decide (c>14)) (
 some (([]:ae),5)) (
 some (d,0)))
def j1R(i:Int)(g:ae)(f b:Int):Option ((Int×ae×Int×Int) ⊕ (Int)):=
 cond (decide (b<f)) (
 cond (inR b (List.length g)) (
 let a:=(List.getD g (Int.toNat b) (0,0))
 let c:=(w64 (a.2-a.1))
 let e:=(w64 (i+c))
 let d:=(w64 (b+1))
 some (.inl (e,g,f,d))) none) (
 some (.inr i))
def zJ[LP](c:Int)(d:ae)(b a:Int):Option (Int):=
 LP.lp (unc4 (j1R)) (c,d,b,a)
theorem Ju(c d a b):zJ c d a b=lpK (j1R c d a b) (λh=>zJ h.1 h.2.1 h.2.2.1 h.2.2.2):=cG _ _
def j4m[LP](a:ae):Option (Int):=
 (j1w a).bind λd=>
 cond (d != 0) (
 some 0) (
 let b:=(Int.ofNat (List.length a))
 (zJ 0 a b 0).bind λc=>
 some c)
def j1y[LP](a:ae)(j b:Int):Option ((ae×Int×Int) ⊕ (Int)):=
 let k:=(Int.ofNat (List.length a))
 cond (decide (b<k)) (
 (j2X a).bind λe=>
 cond (e==0) (
 cond (inR b (List.length a)) (
 let c:=(List.getD a (Int.toNat b) (0,0))
 cond (inR b (List.length a)) (
 let f:=(List.getD a (Int.toNat b) (0,0))
 let g:=(w64 (c.2-f.1))
 let i:=(w64 (j+g))
 let d:=(w64 (b+1))
 some (.inl (a,i,d))) none) none) (
 some (.inr j))) (
 some (.inr j))
def zK[LP](c:ae)(a b:Int):Option (Int):=
 LP.lp (unc3 (j1y)) (c,a,b)
theorem D1(c a b):zK c a b=lpK (j1y c a b) (λh=>zK h.1 h.2.1 h.2.2):=cG _ _
def j6v[LP](a:ae):Option (Int):=
 (zK a 0 0).bind λb=>
 some b
def j20(f g:ae)(e a:Int):Option ((ae×ae×Int×Int) ⊕ (Bool ⊕ Unit)):=
 cond (decide (a<e)) (
 cond (inR a (List.length f)) (
 let b:=(List.getD f (Int.toNat a) (0,0))
 cond (inR a (List.length g)) (
 let c:=(List.getD g (Int.toNat a) (0,0))
 cond (!((b.1==c.1)&&(b.2==c.2))) (
 some (.inr (.inl false))) (
 let d:=(w64 (a+1))
 some (.inl (f,g,e,d)))) none) none) (
 some (.inr (.inr ())))
def zL[LP](d c:ae)(a b:Int):Option (Bool ⊕ Unit):=
 LP.lp (unc4 (j20)) (d,c,a,b)
theorem Jv(c d a b):zL c d a b=lpK (j20 c d a b) (λh=>zL h.1 h.2.1 h.2.2.1 h.2.2.2):=cG _ _
def j8h[LP](a b:ae):Option (Bool):=
 let f:=(Int.ofNat (List.length a))
 let e:=(Int.ofNat (List.length b))
 cond (f != e) (
 some false) (
 let c:=(Int.ofNat (List.length a))
 (zL a b c 0).bind λd=>
 sumC d (λg=>
 some g) (λi=>
 some true))
def j5l(a c b:Int):Option (Bool):=
 some (cond (decide (a>=c)) (decide (a<=b)) false)
def j7Q(a:sB):Option (Bool):=
 (j5l a.1 1970 2240).bind λi=>
 cond i (
 (j5l a.2.1 a.1 2240).bind λg=>
 cond g (
 (j5l a.2.2.1 1 12).bind λd=>
 cond d (
 (j5l a.2.2.2.1 1 5).bind λb=>
 cond b (
 (j5l a.2.2.2.2.1 0 6).bind λc=>
 cond c (
 (j5l a.2.2.2.2.2.1 0 86399).bind λf=>
 cond f (
 (j5l a.2.2.2.2.2.2 (-64800) 64800).bind λe=>
 some e) (
 some false)) (
 some false)) (
 some false)) (
 some false)) (
 some false)) (
 some false)
def j0G(a:Int):Option (Bool):=
 let c:=(Int.tmod a 4)
 let d:=(Int.tmod a 100)
 let b:=(Int.tmod a 400)
 some (cond (c==0) (cond (d != 0) true (b==0)) false)
def j6W(b a:Int):Option (Int):=
 cond (a==1) (
 cond (a==1) (
 some 31) (
 cond (a==4) (
 cond (a==4) (
 some 30) (
 cond (a==2) (
 (j0G b).bind λa4=>
 cond a4 (
 some 29) (
 some 28)) (
 some 0))) (
 cond (a==6) (
 cond (a==6) (
 some 30) (
 cond (a==2) (
 (j0G b).bind λa1=>
 cond a1 (
 some 29) (
 some 28)) (
 some 0))) (
 cond (a==9) (
 cond (a==9) (
 some 30) (
 cond (a==2) (
 (j0G b).bind λv=>
 cond v (
 some 29) (
 some 28)) (
 some 0))) (
 cond (a==11) (
 some 30) (
 cond (a==2) (
 (j0G b).bind λy=>
 cond y (
 some 29) (
 some 28)) (
 some 0))))))) (
 cond (a==3) (
 cond (a==3) (
 some 31) (
 cond (a==4) (
 cond (a==4) (
 some 30) (
 cond (a==2) (
 (j0G b).bind λx=>
 cond x (
 some 29) (
 some 28)) (
 some 0))) (
 cond (a==6) (
 cond (a==6) (
 some 30) (
 cond (a==2) (
 (j0G b).bind λa3=>
 cond a3 (
 some 29) (
 some 28)) (
 some 0))) (
 cond (a==9) (
 cond (a==9) (
 some 30) (
 cond (a==2) (
 (j0G b).bind λa0=>
 cond a0 (
 some 29) (
 some 28)) (
 some 0))) (
 cond (a==11) (
 some 30) (
 cond (a==2) (
 (j0G b).bind λz=>
 cond z (
 some 29) (
 some 28)) (
 some 0))))))) (
 cond (a==5) (
 cond (a==5) (
 some 31) (
 cond (a==4) (
 cond (a==4) (
 some 30) (
 cond (a==2) (
 (j0G b).bind λw=>
 cond w (
 some 29) (
 some 28)) (
 some 0))) (
 cond (a==6) (
 cond (a==6) (
 some 30) (
 cond (a==2) (
 (j0G b).bind λa2=>
 cond a2 (
 some 29) (
 some 28)) (
 some 0))) (
 cond (a==9) (
 cond (a==9) (
 some 30) (
 cond (a==2) (
 (j0G b).bind λr=>
 cond r (
 some 29) (
 some 28)) (
 some 0))) (
 cond (a==11) (
 some 30) (
 cond (a==2) (
 (j0G b).bind λp=>
 cond p (
 some 29) (
 some 28)) (
 some 0))))))) (
 cond (a==7) (
 cond (a==7) (
 some 31) (
 cond (a==4) (
 cond (a==4) (
 some 30) (
 cond (a==2) (
 (j0G b).bind λq=>
 cond q (
 some 29) (
 some 28)) (
 some 0))) (
 cond (a==6) (
 cond (a==6) (
 some 30) (
 cond (a==2) (
 (j0G b).bind λg=>
 cond g (
 some 29) (
 some 28)) (
 some 0))) (
 cond (a==9) (
 cond (a==9) (
 some 30) (
 cond (a==2) (
 (j0G b).bind λd=>
 cond d (
 some 29) (
 some 28)) (
 some 0))) (
 cond (a==11) (
 some 30) (
 cond (a==2) (
 (j0G b).bind λn=>
 cond n (
 some 29) (
 some 28)) (
 some 0))))))) (
 cond (a==8) (
 cond (a==8) (
 some 31) (
 cond (a==4) (
 cond (a==4) (
 some 30) (
 cond (a==2) (
 (j0G b).bind λe=>
 cond e (
 some 29) (
 some 28)) (
 some 0))) (
 cond (a==6) (
 cond (a==6) (
 some 30) (
 cond (a==2) (
 (j0G b).bind λk=>
 cond k (
 some 29) (
 some 28)) (
 some 0))) (
 cond (a==9) (
 cond (a==9) (
 some 30) (
 cond (a==2) (
 (j0G b).bind λo=>
 cond o (
 some 29) (
 some 28)) (
 some 0))) (
 cond (a==11) (
 some 30) (
 cond (a==2) (
 (j0G b).bind λt=>
 cond t (
 some 29) (
 some 28)) (
 some 0))))))) (
 cond (a==10) (
 cond (a==10) (
 some 31) (
 cond (a==4) (
 cond (a==4) (
 some 30) (
 cond (a==2) (
 (j0G b).bind λc=>
 cond c (
 some 29) (
 some 28)) (
 some 0))) (
 cond (a==6) (
 cond (a==6) (
 some 30) (
 cond (a==2) (
 (j0G b).bind λu=>
 cond u (
 some 29) (
 some 28)) (
 some 0))) (
 cond (a==9) (
 cond (a==9) (
 some 30) (
 cond (a==2) (
 (j0G b).bind λf=>
 cond f (
 some 29) (
 some 28)) (
 some 0))) (
 cond (a==11) (
 some 30) (
 cond (a==2) (
 (j0G b).bind λl=>
 cond l (
 some 29) (
 some 28)) (
 some 0))))))) (
 cond (a==12) (
 some 31) (
 cond (a==4) (
 cond (a==4) (
 some 30) (
 cond (a==2) (
 (j0G b).bind λi=>
 cond i (
 some 29) (
 some 28)) (
 some 0))) (
 cond (a==6) (
 cond (a==6) (
 some 30) (
 cond (a==2) (
 (j0G b).bind λj=>
 cond j (
 some 29) (
 some 28)) (
 some 0))) (
 cond (a==9) (
 cond (a==9) (
 some 30) (
 cond (a==2) (
 (j0G b).bind λm=>
 cond m (
 some 29) (
 some 28)) (
 some 0))) (
 cond (a==11) (
 some 30) (
 cond (a==2) (
 (j0G b).bind λs=>
 cond s (
 some 29) (
 some 28)) (
 some 0))))))))))))
def j9B(a:ud):Option (Bool):=
 cond (decide (a.1>=1970)) (
 cond (decide (a.1<=2240)) (
 cond (decide (a.2.1>=1)) (
 cond (decide (a.2.1<=12)) (
 cond (decide (a.2.2>=1)) (
 (j6W a.1 a.2.1).bind λb=>
 some (decide (a.2.2<=b))) (
 some false)) (
 some false)) (
 some false)) (
 some false)) (
 some false)
def jaZ(a:Int):Option (Int):=
 let m:=(w64 (a-1970))
 let k:=(w64 (m*365))
 let l:=(w64 (a-1969))
 let j:=(w64 (Int.tdiv l 4))
 let i:=(w64 (k+j))
 let d:=(w64 (a-1901))
 let f:=(w64 (Int.tdiv d 100))
 let g:=(w64 (i-f))
 let e:=(w64 (a-1601))
 let c:=(w64 (Int.tdiv e 400))
 let b:=(w64 (g+c))
 some b
def j2Y(i g f a b:Int):Option ((Int×Int×Int×Int×Int) ⊕ ((Int×Int×Int×Int))):=
 cond (decide (g<a)) (
 (j6W f g).bind λd=>
 let c:=(w64 (i+d))
 let e:=(w64 (g+1))
 some (.inl (c,e,f,a,b))) (
 some (.inr (i,f,a,b)))
def zM[LP](d e c b a:Int):Option ((Int×Int×Int×Int)):=
 LP.lp (unc5 (j2Y)) (d,e,c,b,a)
theorem Jw(d e c b a):zM d e c b a=lpK (j2Y d e c b a) (λh=>zM h.1 h.2.1 h.2.2.1 h.2.2.2.1 h.2.2.2.2):=cG _ _
def jdZ[LP](a:ud):Option (Int×Int):=
 (j9B (a.1,(a.2.1,a.2.2))).bind λf=>
 cond (!f) (
 some (0,1)) (
 (jaZ a.1).bind λe=>
 (zM e 1 a.1 a.2.1 a.2.2).bind λb=>
 let d:=(w64 (b.1+b.2.2.2))
 let c:=(w64 (d-1))
 some (c,0))
def j5m(a:Int):Option (Int):=
 let c:=(Int.tmod a 7)
 let d:=(w64 (c+10))
 let b:=(Int.tmod d 7)
 some b
def j2Z(g i f e d a:Int):Option ((Int×Int×Int×Int×Int×Int) ⊕ ((Int×Int×Int×Int×Int))):=
 (j5m a).bind λb=>
 cond (b != e) (
 let c:=(w64 (a+1))
 some (.inl (g,i,f,e,d,c))) (
 some (.inr (g,i,f,d,a)))
def zN[LP](e f d c a b:Int):Option ((Int×Int×Int×Int×Int)):=
 LP.lp (unc6 (j2Z)) (e,f,d,c,a,b)
theorem Jy(e f d c a b):zN e f d c a b=lpK (j2Z e f d c a b) (λh=>zN h.1 h.2.1 h.2.2.1 h.2.2.2.1 h.2.2.2.2.1 h.2.2.2.2.2):=cG _ _
def j30(g i f a:Int):Option ((Int×Int×Int×Int) ⊕ (Int)):=
 let b:=(w64 (a+7))
 (j6W g i).bind λe=>
 let c:=(w64 (f+e))
 cond (decide (b<c)) (
 let d:=(w64 (a+7))
 some (.inl (g,i,f,d))) (
 some (.inr a))
def zO[LP](d c b a:Int):Option (Int):=
 LP.lp (unc4 (j30)) (d,c,b,a)
theorem Jz(c d a b):zO c d a b=lpK (j30 c d a b) (λh=>zO h.1 h.2.1 h.2.2.1 h.2.2.2):=cG _ _
def je0[LP](e c b a:Int):Option (Int×Int):=
 (jdZ (e,(c,1))).bind λf=>
 let i:Bool:=(cond (cond (f.2 != 0) true (decide (b<1))) true (decide (b>5)))
 let j:Bool:=(cond (cond i true (decide (a<0))) true (decide (a>6)))
 cond j (
 some (0,1)) (
 (zN e c b a f.1 f.1).bind λd=>
 cond (decide (d.2.2.1<5)) (
 let g:=(w64 (d.2.2.1-1))
 let l:=(w64 (7*g))
 let k:=(w64 (d.2.2.2.2+l))
 some (k,0)) (
 (zO d.1 d.2.1 d.2.2.2.1 d.2.2.2.2).bind λm=>
 some (m,0)))
def j1a(i:az)(k j d g a:Int)(c:ae):Option ((az×Int×Int×Int×Int×Int×ae) ⊕ ((az×Int×Int×Int×Int×Int×ae))):=
 cond (decide (d>0)) (
 let b:=(w64 (d-1))
 cond (inR b (List.length c)) (
 let e:=(List.getD c (Int.toNat b) (0,0)).1
 cond (decide (e>g)) (
 let f:=(w64 (d-1))
 some (.inl (i,k,j,f,g,a,c))) (
 some (.inr (i,k,j,d,g,a,c)))) none) (
 some (.inr (i,k,j,d,g,a,c)))
def xi[LP](c:az)(g d e f a:Int)(b:ae):Option ((az×Int×Int×Int×Int×Int×ae)):=
 LP.lp (unc7 (j1a)) (c,g,d,e,f,a,b)
theorem JA(c g d e f a b):xi c g d e f a b=lpK (j1a c g d e f a b) (λh=>xi h.1 h.2.1 h.2.2.1 h.2.2.2.1 h.2.2.2.2.1 h.2.2.2.2.2.1 h.2.2.2.2.2.2):=cG _ _
def j1b[LP](c:az)(d t:Int)(u:ae):Option ((az×Int×Int×ae) ⊕ ((az×Int×ae))):=
 cond (inR d (List.length c)) (
 let p:=(List.getD c (Int.toNat d) (0,(0,(0,(0,(0,(0,0)))))))
 cond (decide (t<=p.2.1)) (
 cond (inR d (List.length c)) (
 let k:=(List.getD c (Int.toNat d) (0,(0,(0,(0,(0,(0,0)))))))
 cond (inR d (List.length c)) (
 let n:=(List.getD c (Int.toNat d) (0,(0,(0,(0,(0,(0,0)))))))
 cond (inR d (List.length c)) (
 let m:=(List.getD c (Int.toNat d) (0,(0,(0,(0,(0,(0,0)))))))
 (je0 t k.2.2.1 n.2.2.2.1 m.2.2.2.2.1).bind λo=>
 let i:=(w64 (o.1*86400))
 cond (inR d (List.length c)) (
 let q:=(List.getD c (Int.toNat d) (0,(0,(0,(0,(0,(0,0)))))))
 let r:=(w64 (i+q.2.2.2.2.2.1))
 cond (inR d (List.length c)) (
 let j:=(List.getD c (Int.toNat d) (0,(0,(0,(0,(0,(0,0)))))))
 let l:=(Int.ofNat (List.length u))
 (xi c d t l r j.2.2.2.2.2.2 u).bind λa=>
 let f:ae:=[(a.2.2.2.2.1,a.2.2.2.2.2.1)]
 cond (decide (List.length a.2.2.2.2.2.2+List.length f<=bI)) (
 let b:ae:=(a.2.2.2.2.2.2++f)
 let e:=(w64 (a.2.2.2.1+1))
 cond (decide (0<=e)&&decide (e<=(Int.ofNat (List.length b)))) (
 cond (decide (0<=a.2.2.2.1)&&decide (a.2.2.2.1<=(Int.ofNat (List.length b)))) (
 let g:ae:=(over b (Int.toNat e) (List.drop (Int.toNat a.2.2.2.1) b))
 let w:=(Int.ofNat (min (List.length (List.drop (Int.toNat a.2.2.2.1) b)) (List.length b-(Int.toNat e))))
 cond (inR a.2.2.2.1 (List.length g)) (
 let v:ae:=(List.set g (Int.toNat a.2.2.2.1) (a.2.2.2.2.1,a.2.2.2.2.2.1))
 let s:=(w64 (a.2.2.1+1))
 some (.inl (a.1,a.2.1,s,v))) none) none) none) none) none) none) none) none) none) (
 some (.inr (c,d,u)))) none
def zP[LP](d:az)(b a:Int)(c:ae):Option ((az×Int×ae)):=
 LP.lp (unc4 (j1b)) (d,b,a,c)
theorem JB(b d c a):zP b d c a=lpK (j1b b d c a) (λh=>zP h.1 h.2.1 h.2.2.1 h.2.2.2):=cG _ _
def j1c[LP](c:az)(e:Int)(g:ae):Option ((az×Int×ae) ⊕ (ae)):=
 let d:=(Int.ofNat (List.length c))
 cond (decide (e<d)) (
 cond (inR e (List.length c)) (
 let f:=(List.getD c (Int.toNat e) (0,(0,(0,(0,(0,(0,0)))))))
 (zP c e f.1 g).bind λa=>
 let b:=(w64 (a.2.1+1))
 some (.inl (a.1,b,a.2.2))) none) (
 some (.inr g))
def xj[LP](c:az)(a:Int)(b:ae):Option (ae):=
 LP.lp (unc3 (j1c)) (c,a,b)
theorem JC(c a b):xj c a b=lpK (j1c c a b) (λh=>xj h.1 h.2.1 h.2.2):=cG _ _
def j3R[LP](a:az):Option (ae):=
 (xj a 0 ([]:ae)).bind λb=>
 some b
def j1d(o c:Int)(n:ByteArray)(d:Int)(a:az):Option ((Int×Int×ByteArray×Int×az) ⊕ (Int ⊕ (Int×ByteArray×Int×az))):=
 let m:=(Int.ofNat (List.length a))
 cond (decide (c<m)) (
 cond (inR c (List.length a)) (
 let b:=(List.getD a (Int.toNat c) (0,(0,(0,(0,(0,(0,0)))))))
 (j7Q (b.1,(b.2.1,(b.2.2.1,(b.2.2.2.1,(b.2.2.2.2.1,(b.2.2.2.2.2.1,b.2.2.2.2.2.2))))))).bind λj=>
 cond (!j) (
 some (.inr (.inl 1))) (
 cond (inR c (List.length a)) (
 let g:=(List.getD a (Int.toNat c) (0,(0,(0,(0,(0,(0,0)))))))
 cond (inR c (List.length a)) (
 let k:=(List.getD a (Int.toNat c) (0,(0,(0,(0,(0,(0,0)))))))
 let f:=(w64 (g.2.1-k.1))
 let l:=(w64 (f+1))
 let i:=(w64 (o+l))
 let e:=(w64 (c+1))
 some (.inl (i,e,n,d,a))) none) none)) none) (
 some (.inr (.inr (o,n,d,a))))
def xk[LP](d e:Int)(c:ByteArray)(b:Int)(a:az):Option (Int ⊕ (Int×ByteArray×Int×az)):=
 LP.lp (unc5 (j1d)) (d,e,c,b,a)
theorem JD(d e c b a):xk d e c b a=lpK (j1d d e c b a) (λh=>xk h.1 h.2.1 h.2.2.1 h.2.2.2.1 h.2.2.2.2):=cG _ _
def j1e(r c:Int)(e d:ae):Option ((Int×Int×ae×ae) ⊕ (Int ⊕ ae)):=
 let x:=(Int.ofNat (List.length d))
 cond (decide (c<x)) (
 cond (inR c (List.length d)) (
 let t:=(List.getD d (Int.toNat c) (0,0)).2
 cond (t==r) (
 let o:=(w64 (c+1))
 some (.inl (r,o,e,d))) (
 cond (inR c (List.length d)) (
 let w:=(List.getD d (Int.toNat c) (0,0)).1
 let b:=(w64 (w-r))
 cond (inR c (List.length d)) (
 let a:=(List.getD d (Int.toNat c) (0,0)).2
 let u:=(w64 (a-r))
 (j5l u (-86399) 86399).bind λv=>
 cond (!v) (
 some (.inr (.inl 6))) (
 (j5l b 0 8589934592).bind λq=>
 cond (!q) (
 some (.inr (.inl 6))) (
 let s:=(Int.ofNat (List.length e))
 cond (decide (s>0)) (
 let k:=(Int.ofNat (List.length e))
 let g:=(w64 (k-1))
 cond (inR g (List.length e)) (
 let j:=(List.getD e (Int.toNat g) (0,0)).1
 let n:=(w64 (b-j))
 cond (decide (n<604800)) (
 some (.inr (.inl 6))) (
 let f:ae:=[(b,a)]
 cond (decide (List.length e+List.length f<=bI)) (
 let l:ae:=(e++f)
 let y:=(w64 (c+1))
 some (.inl (a,y,l,d))) none)) none) (
 let i:ae:=[(b,a)]
 cond (decide (List.length e+List.length i<=bI)) (
 let m:ae:=(e++i)
 let p:=(w64 (c+1))
 some (.inl (a,p,m,d))) none)))) none) none)) none) (
 some (.inr (.inr e)))
def xl[LP](a d:Int)(c b:ae):Option (Int ⊕ ae):=
 LP.lp (unc4 (j1e)) (a,d,c,b)
theorem JE(a c b d):xl a c b d=lpK (j1e a c b d) (λh=>xl h.1 h.2.1 h.2.2.1 h.2.2.2):=cG _ _
def j0V[LP](a:dF):Option (ae×Int):=
 (j5l a.2.1 (-64800) 64800).bind λe=>
 cond (!e) (
 some (([]:ae),1)) (
 let c:=(Int.ofNat (List.length a.2.2))
 cond (decide (c>16)) (
 some (([]:ae),5)) (
 (xk 0 0 a.1 a.2.1 a.2.2).bind λg=>
 sumC g (λk=>
 some (([]:ae),k)) (λi=>
 cond (decide (i.1>640)) (
 some (([]:ae),5)) (
 (j3R i.2.2.2).bind λd=>
 (xl i.2.2.1 0 ([]:ae) d).bind λj=>
 sumC j (λb=>
 some (([]:ae),b)) (λf=>
 some (f,0))))))
def j25(c:ae)(g i a:Int):Option ((ae×Int×Int×Int) ⊕ (Int)):=
 let b:=(Int.ofNat (List.length c))
 cond ((inR a (List.length c)) || !(decide (a<b))) (
 let f:=(List.getD c (Int.toNat a) (0,0))
 cond (cond (decide (a<b)) (decide (f.1<=g)) false) (
 cond (inR a (List.length c)) (
 let e:=(List.getD c (Int.toNat a) (0,0))
 let d:=(w64 (a+1))
 some (.inl (c,g,e.2,d))) none) (
 some (.inr i))) none
def xm[LP](d:ae)(c a b:Int):Option (Int):=
 LP.lp (unc4 (j25)) (d,c,a,b)
theorem JF(d b a c):xm d b a c=lpK (j25 d b a c) (λh=>xm h.1 h.2.1 h.2.2.1 h.2.2.2):=cG _ _
def j8l[LP](a:dF)(c:ae)(b:Int):Option (Int):=
 (xm c b a.2.1 0).bind λd=>
 some d
def j3E[LP](a:dF)(b:Int):Option (Int×Int):=
 (j0V (a.1,(a.2.1,a.2.2))).bind λc=>
 cond (c.2 != 0) (
 some (0,8)) (
 (j5l b 0 8589934592).bind λe=>
 cond (!e) (
 some (0,1)) (
 (j8l (a.1,(a.2.1,a.2.2)) c.1 b).bind λd=>
 some (d,0)))
def j9F(b a:Int):Option ((Int×Int)):=
 let g:=(w64 (b+a))
 let c:=(w64 (g+864000))
 let d:=(w64 (Int.tdiv c 86400))
 let e:=(w64 (d-10))
 let f:=(Int.tmod c 86400)
 some (e,f)
def j4n[LP](a:dF)(b:Int):Option ((Int×Int)×Int):=
 (j3E (a.1,(a.2.1,a.2.2)) b).bind λc=>
 cond (c.2 != 0) (
 some ((0,0),c.2)) (
 (j9F b c.1).bind λd=>
 some ((d.1,d.2),0))
def j5f(a:(Int×Int)):Option (Int):=
 (j5m a.1).bind λc=>
 let b:=(w64 (c*86400))
 let d:=(w64 (b+a.2))
 some d
def j4o[LP](a:dF)(c:Int):Option (Int×Int):=
 (j4n (a.1,(a.2.1,a.2.2)) c).bind λb=>
 cond (b.2 != 0) (
 some (0,b.2)) (
 (j5f (b.1.1,b.1.2)).bind λd=>
 some (d,0))
def j26(b:ae)(f c:Int):Option ((ae×Int×Int) ⊕ (Bool ⊕ Unit)):=
 let g:=(Int.ofNat (List.length b))
 cond (decide (c<g)) (
 cond (inR c (List.length b)) (
 let a:=(List.getD b (Int.toNat c) (0,0))
 cond ((inR c (List.length b)) || !(decide (f>=a.1))) (
 let d:=(List.getD b (Int.toNat c) (0,0))
 cond (cond (decide (f>=a.1)) (decide (f<d.2)) false) (
 some (.inr (.inl true))) (
 let e:=(w64 (c+1))
 some (.inl (b,f,e)))) none) none) (
 some (.inr (.inr ())))
def zQ[LP](c:ae)(b a:Int):Option (Bool ⊕ Unit):=
 LP.lp (unc3 (j26)) (c,b,a)
theorem JG(c b a):zQ c b a=lpK (j26 c b a) (λh=>zQ h.1 h.2.1 h.2.2):=cG _ _
def j8m[LP](b:ae)(a:Int):Option (Bool):=
 (zQ b a 0).bind λc=>
 sumC c (λd=>
 some d) (λe=>
 some false)
def jhw[LP](a:dF)(b:ae)(d:Int):Option (Bool):=
 (j4o (a.1,(a.2.1,a.2.2)) d).bind λc=>
 cond (c.2==0) (
 (j2X b).bind λe=>
 cond (e==0) (
 (j8m b c.1).bind λf=>
 some f) (
 some false)) (
 some false)
def j9G(b a:Int):Option (Int):=
 cond (!(a==0)) (
 let e:=(Int.tmod b a)
 let d:=(w64 (e+a))
 cond (!(a==0)) (
 let c:=(Int.tmod d a)
 some c) none) none
def j0C[LP](o c i:Int)(a:ae)(j:ca):Option ((Int×Int×Int×ae×ca) ⊕ (ca)):=
 cond (decide (o<c)) (
 (j1k (i,a) o).bind λb=>
 let n:=(Int.ofNat (List.length a))
 cond (decide (b<n)) (
 cond (inR b (List.length a)) (
 let d:=(List.getD a (Int.toNat b) (0,0))
 let g:Int:=(if d.1<c then d.1 else c:Int)
 (j1P (i,a) b).bind λp=>
 let f:ca:=[(o,(g,p))]
 cond (decide (List.length j+List.length f<=bI)) (
 let m:ca:=(j++f)
 some (.inl (g,c,i,a,m))) none) none) (
 (j1P (i,a) b).bind λk=>
 let e:ca:=[(o,(c,k))]
 cond (decide (List.length j+List.length e<=bI)) (
 let l:ca:=(j++e)
 some (.inl (c,c,i,a,l))) none)) (
 some (.inr j))
def zR[LP](e b c:Int)(a:ae)(d:ca):Option (ca):=
 LP.lp (unc5 (j0C)) (e,b,c,a,d)
theorem zS(e b c a d):zR e b c a d=lpK (j0C e b c a d) (λh=>zR h.1 h.2.1 h.2.2.1 h.2.2.2.1 h.2.2.2.2):=cG _ _
def j3b[LP](b:dE)(a c:Int):Option (ca):=
 (zR a c b.1 b.2 ([]:ca)).bind λd=>
 some d
def j1r(a:ae):Option (ae):=
 cond (decide (List.length ([]:List ((Int×Int)))+List.length a<=bI)) (
 some (([]:List ((Int×Int)))++a)) none
def j3T(a:(Int×Int)):Option (Bool):=
 some (decide (a.2<=a.1))
def j0q(f b:Int)(c:ae):Option ((Int×Int×ae) ⊕ (dE ⊕ ae)):=
 cond (decide (b<f)) (
 cond (inR b (List.length c)) (
 let a:=(List.getD c (Int.toNat b) (0,0))
 (j3T (a.1,a.2)).bind λd=>
 cond d (
 some (.inr (.inl (b,c)))) (
 let e:=(w64 (b+1))
 some (.inl (f,e,c)))) none) (
 some (.inr (.inr c)))
def xn[LP](a b:Int)(c:ae):Option (dE ⊕ ae):=
 LP.lp (unc3 (j0q)) (a,b,c)
theorem JH(a b c):xn a b c=lpK (j0q a b c) (λh=>xn h.1 h.2.1 h.2.2):=cG _ _
def j13[LP](a:ae):Option dE:=
 let c:=(Int.ofNat (List.length a))
 (xn c 0 a).bind λb=>
 sumC b (λd=>
 some (d.1,d.2)) (λe=>
 some ((-1),e))
def j0o(c d:Int)(b:ae):Option ((Int×Int×ae) ⊕ (dE)):=
 let f:=(Int.ofNat (List.length b))
 cond (decide (d<f)) (
 cond (inR d (List.length b)) (
 let a:=(List.getD b (Int.toNat d) (0,0))
 (j3T (a.1,a.2)).bind λi=>
 cond (!i) (
 cond (inR c (List.length b)) (
 let k:ae:=(List.set b (Int.toNat c) (a.1,a.2))
 let g:=(w64 (c+1))
 let j:=(w64 (d+1))
 some (.inl (g,j,k))) none) (
 let e:=(w64 (d+1))
 some (.inl (c,e,b)))) none) (
 some (.inr (c,b)))
def zT[LP](a b:Int)(c:ae):Option (dE):=
 LP.lp (unc3 (j0o)) (a,b,c)
theorem JI(a b c):zT a b c=lpK (j0o a b c) (λh=>zT h.1 h.2.1 h.2.2):=cG _ _
def j0H[LP](c:ae):Option dE:=
 (j13 c).bind λb=>
 cond (b.1==(-1)) (
 some ((Int.ofNat (List.length b.2)),b.2)) (
 let d:=(w64 (b.1+1))
 (zT b.1 d b.2).bind λa=>
 cond (decide (0<=a.1)&&decide (a.1<=(Int.ofNat (List.length a.2)))) (
 let e:ae:=(List.take (Int.toNat a.1) a.2++List.replicate (List.length a.2-(Int.toNat a.1)) (0,0))
 cond (decide (0<=a.1)&&decide (a.1<=(Int.ofNat (List.length e)))) (
 some ((Int.ofNat (Int.toNat a.1)),e)) none) none)
def j3c(a b:(Int×Int)):Option (Int):=
 let c:=(w64 (a.1-b.1))
 some c
def j0y(a:ae):Option (ae):=
 sA ((.pair (.int .i64) (.int .i64))) (λb c=>(j3c b c).getD 0) a
def j1z(g d:Int)(b f:ae):Option ((Int×Int×ae×ae) ⊕ (ae)):=
 cond (decide (d<g)) (
 cond (inR d (List.length f)) (
 let a:=(List.getD f (Int.toNat d) (0,0))
 let c:=(Int.ofNat (List.length b))
 cond (decide (c>0)) (
 let l:=(w64 (c-1))
 cond (inR l (List.length b)) (
 let u:=(List.getD b (Int.toNat l) (0,0)).2
 cond (decide (a.1<=u)) (
 let e:=(w64 (c-1))
 let j:=(w64 (c-1))
 cond (inR j (List.length b)) (
 let k:=(List.getD b (Int.toNat j) (0,0)).2
 let o:Int:=(if a.2>k then a.2 else k:Int)
 cond (inR e (List.length b)) (
 let s:ae:=(List.set b (Int.toNat e) ((List.getD b (Int.toNat e) (0,0)).1,o))
 let t:=(w64 (d+1))
 some (.inl (g,t,s,f))) none) none) (
 let i:ae:=[(a.1,a.2)]
 cond (decide (List.length b+List.length i<=bI)) (
 let p:ae:=(b++i)
 let r:=(w64 (d+1))
 some (.inl (g,r,p,f))) none)) none) (
 let m:ae:=[(a.1,a.2)]
 cond (decide (List.length b+List.length m<=bI)) (
 let n:ae:=(b++m)
 let q:=(w64 (d+1))
 some (.inl (g,q,n,f))) none)) none) (
 some (.inr b))
def xo[LP](c b:Int)(d a:ae):Option (ae):=
 LP.lp (unc4 (j1z)) (c,b,d,a)
theorem D2(a c d b):xo a c d b=lpK (j1z a c d b) (λh=>xo h.1 h.2.1 h.2.2.1 h.2.2.2):=cG _ _
def j8n[LP](c:ae):Option (ae):=
 (j1r c).bind λg=>
 (j0H g).bind λa=>
 let d:ae:=(List.take (Int.toNat a.1) a.2)
 (j0y d).bind λb=>
 let e:=(Int.ofNat (List.length b))
 (xo e 0 ([]:ae) b).bind λf=>
 some f
def j1J(u:ae)(f s r:Int)(k:ae)(q e g a j:Int)(t:ae)(p:ca):Option ((ae×Int×Int×Int×ae×Int×Int×Int×Int×Int×ae×ca) ⊕ ((ae×Int×Int×Int×Int×Int×Int×ae×ca))):=
 cond (decide (e<q)) (
 cond (inR e (List.length k)) (
 let b:=(List.getD k (Int.toNat e) (0,0))
 let d:=(w64 (f+b.1))
 let l:Int:=(if d>g then d else g:Int)
 let i:=(w64 (f+b.2))
 let m:Int:=(if i<a then i else a:Int)
 let c:ae:=[(l,m)]
 cond (decide (List.length t+List.length c<=bI)) (
 let o:ae:=(t++c)
 let n:=(w64 (e+1))
 some (.inl (u,f,s,r,k,q,n,g,a,j,o,p))) none) none) (
 some (.inr (u,f,s,r,g,a,j,t,p)))
def zU[LP](m:ae)(g k c:Int)(j:ae)(d e i a b:Int)(l:ae)(f:ca):Option ((ae×Int×Int×Int×Int×Int×Int×ae×ca)):=
 LP.lp (jls (j1J)) (m,g,k,c,j,d,e,i,a,b,l,f)
theorem JJ(m g k c j d e i a b l f):zU m g k c j d e i a b l f=lpK (j1J m g k c j d e i a b l f) (λh=>zU h.1 h.2.1 h.2.2.1 h.2.2.2.1 h.2.2.2.2.1 h.2.2.2.2.2.1 h.2.2.2.2.2.2.1 h.2.2.2.2.2.2.2.1 h.2.2.2.2.2.2.2.2.1 h.2.2.2.2.2.2.2.2.2.1 h.2.2.2.2.2.2.2.2.2.2.1 h.2.2.2.2.2.2.2.2.2.2.2):=cG _ _
def j1K[LP](d:ae)(j k g m b f:Int)(l:ae)(i:ca):Option ((ae×Int×Int×Int×Int×Int×Int×ae×ca) ⊕ ((ae×Int×Int×ae×ca))):=
 cond (decide (j<b)) (
 let c:=(Int.ofNat (List.length d))
 (zU d j k g d c 0 m b f l i).bind λa=>
 let e:=(w64 (a.2.1+604800))
 some (.inl (a.1,e,a.2.2.1,a.2.2.2.1,a.2.2.2.2.1,a.2.2.2.2.2.1,a.2.2.2.2.2.2.1,a.2.2.2.2.2.2.2.1,a.2.2.2.2.2.2.2.2))) (
 some (.inr (d,k,g,l,i)))
def zV[LP](j:ae)(e g c f a b:Int)(i:ae)(d:ca):Option ((ae×Int×Int×ae×ca)):=
 LP.lp (unc9 (j1K)) (j,e,g,c,f,a,b,i,d)
theorem JK(j e g c f a b i d):zV j e g c f a b i d=lpK (j1K j e g c f a b i d) (λh=>zV h.1 h.2.1 h.2.2.1 h.2.2.2.1 h.2.2.2.2.1 h.2.2.2.2.2.1 h.2.2.2.2.2.2.1 h.2.2.2.2.2.2.2.1 h.2.2.2.2.2.2.2.2):=cG _ _
def j1L[LP](o:ae)(m c:Int)(n:ae)(e:ca):Option ((ae×Int×Int×ae×ca) ⊕ (ae)):=
 cond (decide (c<m)) (
 cond (inR c (List.length e)) (
 let a:=(List.getD e (Int.toNat c) (0,(0,0)))
 let j:=(w64 (a.1+a.2.2))
 let d:=(w64 (j-(-259200)))
 let g:=(Int.tmod d 604800)
 let k:=(w64 (d-g))
 let l:=(w64 (k+(-259200)))
 let f:=(w64 (l-a.2.2))
 (zV o f m c a.1 a.2.1 a.2.2 n e).bind λb=>
 let i:=(w64 (b.2.2.1+1))
 some (.inl (b.1,b.2.1,i,b.2.2.2.1,b.2.2.2.2))) none) (
 some (.inr n))
def zW[LP](e:ae)(c a:Int)(d:ae)(b:ca):Option (ae):=
 LP.lp (unc5 (j1L)) (e,c,a,d,b)
theorem JL(e c a d b):zW e c a d b=lpK (j1L e c a d b) (λh=>zW h.1 h.2.1 h.2.2.1 h.2.2.2.1 h.2.2.2.2):=cG _ _
def j5N[LP](b:dE)(e:ae)(a c:Int):Option (ae):=
 (j3b (b.1,b.2) a c).bind λd=>
 let f:=(Int.ofNat (List.length d))
 (zW e f 0 ([]:ae) d).bind λi=>
 (j8n i).bind λg=>
 some g
def j3F[LP](c:dF)(d:ae)(a b:Int):Option (ae×Int):=
 (j5k (c.1,(c.2.1,c.2.2))).bind λe=>
 cond (e.2 != 0) (
 some (([]:ae),8)) (
 (j1w d).bind λg=>
 cond (g != 0) (
 some (([]:ae),8)) (
 let k:Bool:=(cond (cond (decide (a<0)) true (decide (a>8589934592))) true (decide (b<a)))
 let j:=(w64 (b-a))
 let l:Bool:=(cond (cond k true (decide (b>8589934592))) true (decide (j>34560000)))
 cond l (
 some (([]:ae),1)) (
 (j5N (e.1.1,e.1.2) d a b).bind λf=>
 let i:=(Int.ofNat (List.length f))
 cond (decide (i>4096)) (
 some (([]:ae),5)) (
 some (f,0)))))
def j6w(a b:Int):Option (Bool):=
 let e:Bool:=(cond (cond (decide (a>=0)) (decide (a<=8589934592)) false) (decide (b>=a)) false)
 let d:=(w64 (b-a))
 let c:Bool:=(cond (cond e (decide (b<=8589934592)) false) (decide (d<=34560000)) false)
 some c
def j2m(b:ae)(k j c a:Int)(l:ae):Option ((ae×Int×Int×Int×Int×ae) ⊕ ((ae×Int×Int×Int×ae))):=
 let p:=(Int.ofNat (List.length b))
 cond (decide (a<p)) (
 cond (inR a (List.length b)) (
 let m:=(List.getD b (Int.toNat a) (0,0))
 let f:=(w64 (c+m.1))
 let d:Int:=(if f>k then f else k:Int)
 cond (inR a (List.length b)) (
 let o:=(List.getD b (Int.toNat a) (0,0))
 let e:=(w64 (c+o.2))
 let g:Int:=(if e<j then e else j:Int)
 cond (decide (d<g)) (
 let i:ae:=[(d,g)]
 cond (decide (List.length l+List.length i<=bI)) (
 let r:ae:=(l++i)
 let q:=(w64 (a+1))
 some (.inl (b,k,j,c,q,r))) none) (
 let n:=(w64 (a+1))
 some (.inl (b,k,j,c,n,l)))) none) none) (
 some (.inr (b,k,j,c,l)))
def zX[LP](e:ae)(f d a b:Int)(c:ae):Option ((ae×Int×Int×Int×ae)):=
 LP.lp (unc6 (j2m)) (e,f,d,a,b,c)
theorem JM(e f d a b c):zX e f d a b c=lpK (j2m e f d a b c) (λh=>zX h.1 h.2.1 h.2.2.1 h.2.2.2.1 h.2.2.2.2.1 h.2.2.2.2.2):=cG _ _
def j2n[LP](f:ae)(g e c:Int)(d:ae):Option ((ae×Int×Int×Int×ae) ⊕ (ae)):=
 cond (decide (c<e)) (
 (zX f g e c 0 d).bind λa=>
 let b:=(w64 (a.2.2.2.1+604800))
 some (.inl (a.1,a.2.1,a.2.2.1,b,a.2.2.2.2))) (
 some (.inr d))
def zY[LP](d:ae)(e c a:Int)(b:ae):Option (ae):=
 LP.lp (unc5 (j2n)) (d,e,c,a,b)
theorem JN(d e c a b):zY d e c a b=lpK (j2n d e c a b) (λh=>zY h.1 h.2.1 h.2.2.1 h.2.2.2.1 h.2.2.2.2):=cG _ _
def j4L[LP](d:ae)(a c b:Int):Option (ae):=
 let j:=(w64 (a+b))
 let n:=(w64 (a+b))
 let m:=(w64 (n+864000))
 let e:=(w64 (Int.tdiv m 86400))
 let g:=(w64 (e-10))
 let i:=(w64 (a+b))
 let f:=(w64 (i+864000))
 let p:=(Int.tmod f 86400)
 (j5f (g,p)).bind λo=>
 let k:=(w64 (j-o))
 let l:=(w64 (k-b))
 (zY d a c l ([]:ae)).bind λq=>
 some q
def j2H(b:ae)(a:Int)(c:ae):Option ((ae×Int×ae) ⊕ (ae)):=
 let u:=(Int.ofNat (List.length b))
 cond (decide (a<u)) (
 let d:=(Int.ofNat (List.length c))
 cond (decide (d>0)) (
 let g:=(w64 (d-1))
 cond (inR g (List.length c)) (
 let r:=(List.getD c (Int.toNat g) (0,0)).2
 cond (inR a (List.length b)) (
 let l:=(List.getD b (Int.toNat a) (0,0))
 cond (r==l.1) (
 let e:=(w64 (d-1))
 cond (inR a (List.length b)) (
 let q:=(List.getD b (Int.toNat a) (0,0))
 cond (inR e (List.length c)) (
 let s:ae:=(List.set c (Int.toNat e) ((List.getD c (Int.toNat e) (0,0)).1,q.2))
 let n:=(w64 (a+1))
 some (.inl (b,n,s))) none) none) (
 cond (inR a (List.length b)) (
 let i:=(List.getD b (Int.toNat a) (0,0))
 let j:ae:=[(i.1,i.2)]
 cond (decide (List.length c+List.length j<=bI)) (
 let m:ae:=(c++j)
 let t:=(w64 (a+1))
 some (.inl (b,t,m))) none) none)) none) none) (
 cond (inR a (List.length b)) (
 let k:=(List.getD b (Int.toNat a) (0,0))
 let f:ae:=[(k.1,k.2)]
 cond (decide (List.length c+List.length f<=bI)) (
 let o:ae:=(c++f)
 let p:=(w64 (a+1))
 some (.inl (b,p,o))) none) none)) (
 some (.inr c))
def zZ[LP](c:ae)(a:Int)(b:ae):Option (ae):=
 LP.lp (unc3 (j2H)) (c,a,b)
theorem JO(c a b):zZ c a b=lpK (j2H c a b) (λh=>zZ h.1 h.2.1 h.2.2):=cG _ _
def j5Q[LP](a b:ae):Option (ae):=
 (zZ b 0 a).bind λc=>
 some c
def j2o[LP](i:ae)(f e b:Int)(k:ByteArray)(c:Int)(d:az)(a g:ae):Option ((ae×Int×Int×Int×ByteArray×Int×az×ae×ae) ⊕ (ae)):=
 let a9:=(Int.ofNat (List.length a))
 cond (decide (b<a9)) (
 cond (decide (b>=0)) (
 cond (inR b (List.length a)) (
 let r:=(List.getD a (Int.toNat b) (0,0)).2
 cond (inR b (List.length a)) (
 let o:=(List.getD a (Int.toNat b) (0,0)).1
 let j:Int:=(if o>f then o else f:Int)
 let b3:=(w64 (b+1))
 let a6:=(Int.ofNat (List.length a))
 cond (decide (b3<a6)) (
 let p:=(w64 (b+1))
 cond (inR p (List.length a)) (
 let l:=(List.getD a (Int.toNat p) (0,0)).1
 let q:Int:=(if l<e then l else e:Int)
 cond (decide (j<q)) (
 (j4L i j q r).bind λb0=>
 (j5Q g b0).bind λb1=>
 let w:=(w64 (b+1))
 some (.inl (i,f,e,w,k,c,d,a,b1))) (
 let a3:=(w64 (b+1))
 some (.inl (i,f,e,a3,k,c,d,a,g)))) none) (
 cond (decide (j<e)) (
 (j4L i j e r).bind λb2=>
 (j5Q g b2).bind λa7=>
 let a4:=(w64 (b+1))
 some (.inl (i,f,e,a4,k,c,d,a,a7))) (
 let t:=(w64 (b+1))
 some (.inl (i,f,e,t,k,c,d,a,g))))) none) none) (
 let a5:=(w64 (b+1))
 let a8:=(Int.ofNat (List.length a))
 cond (decide (a5<a8)) (
 let n:=(w64 (b+1))
 cond (inR n (List.length a)) (
 let m:=(List.getD a (Int.toNat n) (0,0)).1
 let s:Int:=(if m<e then m else e:Int)
 cond (decide (f<s)) (
 (j4L i f s c).bind λy=>
 (j5Q g y).bind λv=>
 let z:=(w64 (b+1))
 some (.inl (i,f,e,z,k,c,d,a,v))) (
 let a0:=(w64 (b+1))
 some (.inl (i,f,e,a0,k,c,d,a,g)))) none) (
 cond (decide (f<e)) (
 (j4L i f e c).bind λa2=>
 (j5Q g a2).bind λu=>
 let a1:=(w64 (b+1))
 some (.inl (i,f,e,a1,k,c,d,a,u))) (
 let x:=(w64 (b+1))
 some (.inl (i,f,e,x,k,c,d,a,g)))))) (
 some (.inr g))
def xp[LP](j:ae)(g f c:Int)(i:ByteArray)(b:Int)(a:az)(e d:ae):Option (ae):=
 LP.lp (unc9 (j2o)) (j,g,f,c,i,b,a,e,d)
theorem JP(j g f c i b a e d):xp j g f c i b a e d=lpK (j2o j g f c i b a e d) (λh=>xp h.1 h.2.1 h.2.2.1 h.2.2.2.1 h.2.2.2.2.1 h.2.2.2.2.2.1 h.2.2.2.2.2.2.1 h.2.2.2.2.2.2.2.1 h.2.2.2.2.2.2.2.2):=cG _ _
def j4N[LP](a:dF)(d:ae)(b c:Int):Option (ae×Int):=
 (j0V (a.1,(a.2.1,a.2.2))).bind λe=>
 cond (e.2 != 0) (
 some (([]:ae),8)) (
 (j2X d).bind λg=>
 cond (g != 0) (
 some (([]:ae),8)) (
 (j6w b c).bind λj=>
 cond (!j) (
 some (([]:ae),1)) (
 (xp d b c (-1) a.1 a.2.1 a.2.2 e.1 ([]:ae)).bind λi=>
 let f:=(Int.ofNat (List.length i))
 cond (decide (f>4096)) (
 some (([]:ae),5)) (
 some (i,0)))))
def j5n(f g:ae)(e a:Int):Option ((ae×ae×Int×Int) ⊕ (Bool ⊕ Unit)):=
 cond (decide (a<e)) (
 cond (inR a (List.length f)) (
 let b:=(List.getD f (Int.toNat a) (0,0))
 cond (inR a (List.length g)) (
 let c:=(List.getD g (Int.toNat a) (0,0))
 cond (!((b.1==c.1)&&(b.2==c.2))) (
 some (.inr (.inl false))) (
 let d:=(w64 (a+1))
 some (.inl (f,g,e,d)))) none) none) (
 some (.inr (.inr ())))
def QK[LP](d c:ae)(a b:Int):Option (Bool ⊕ Unit):=
 LP.lp (unc4 (j5n)) (d,c,a,b)
def j8U[LP](a b:ae):Option (Bool):=
 let f:=(Int.ofNat (List.length a))
 let e:=(Int.ofNat (List.length b))
 cond (f != e) (
 some false) (
 let c:=(Int.ofNat (List.length a))
 (QK a b c 0).bind λd=>
 sumC d (λg=>
 some g) (λi=>
 some true))
def j1f[LP](s r t p n:Int)(i:ae)(q:dP)(o:Int)(m:(List Int))(e:Int)(d:ByteArray)(a:Int)(b:az):Option ((Int×Int×Int×Int×Int×ae×dP×Int×(List Int)×Int×ByteArray×Int×az) ⊕ (Bool ⊕ (Int×Int×Int×Int×Int×ae×dP×Int×ByteArray×Int×az))):=
 cond (decide (e<3)) (
 cond (inR e 3) (
 let c:=(List.getD m (Int.toNat e) 0)
 (j1F (d,(a,b)) c).bind λf=>
 (j4o (d,(a,b)) c).bind λg=>
 cond (f.1 != g.1) (
 some (.inr (.inl false))) (
 cond (f.2 != g.2) (
 some (.inr (.inl false))) (
 (j6V (d,(a,b)) i c).bind λk=>
 (jhw (d,(a,b)) i c).bind λl=>
 cond (!(k==l)) (
 some (.inr (.inl false))) (
 let j:=(w64 (e+1))
 some (.inl (s,r,t,p,n,i,q,o,m,j,d,a,b)))))) none) (
 some (.inr (.inr (s,r,t,p,n,i,q,o,d,a,b))))
def Aa[LP](m l n e j:Int)(f:ae)(g:dP)(k:Int)(d:(List Int))(c:Int)(i:ByteArray)(b:Int)(a:az):Option (Bool ⊕ (Int×Int×Int×Int×Int×ae×dP×Int×ByteArray×Int×az)):=
 LP.lp (jlt (j1f)) (m,l,n,e,j,f,g,k,d,c,i,b,a)
theorem JQ(m l n e j f g k d c i b a):Aa m l n e j f g k d c i b a=lpK (j1f m l n e j f g k d c i b a) (λh=>Aa h.1 h.2.1 h.2.2.1 h.2.2.2.1 h.2.2.2.2.1 h.2.2.2.2.2.1 h.2.2.2.2.2.2.1 h.2.2.2.2.2.2.2.1 h.2.2.2.2.2.2.2.2.1 h.2.2.2.2.2.2.2.2.2.1 h.2.2.2.2.2.2.2.2.2.2.1 h.2.2.2.2.2.2.2.2.2.2.2.1 h.2.2.2.2.2.2.2.2.2.2.2.2):=cG _ _
def j1g[LP](v u w s q:Int)(o:ae)(t:dP)(r:Int)(p:(List (List Int)))(d:Int)(g:ByteArray)(b:Int)(c:az):Option ((Int×Int×Int×Int×Int×ae×dP×Int×(List (List Int))×Int×ByteArray×Int×az) ⊕ (Bool ⊕ (Int×Int×Int×Int×Int×dP×Int×ByteArray×Int×az))):=
 cond (decide (d<3)) (
 cond (inR d 3) (
 let a:=(List.getD p (Int.toNat d) (List.replicate 2 0))
 let x:(List Int):=(List.replicate 2 0)
 let m:=(List.getD a 0 0)
 let i:=(List.getD a 1 0)
 (j3F (g,(b,c)) o m i).bind λf=>
 let l:=(List.getD a 0 0)
 let n:=(List.getD a 1 0)
 (j4N (g,(b,c)) o l n).bind λe=>
 (j8U f.1 e.1).bind λj=>
 cond (cond (!j) true (f.2 != e.2)) (
 some (.inr (.inl false))) (
 let k:=(w64 (d+1))
 some (.inl (v,u,w,s,q,o,t,r,p,k,g,b,c)))) none) (
 some (.inr (.inr (v,u,w,s,q,t,r,g,b,c))))
def Ab[LP](m l n e j:Int)(f:ae)(g:dP)(k:Int)(d:(List (List Int)))(c:Int)(i:ByteArray)(b:Int)(a:az):Option (Bool ⊕ (Int×Int×Int×Int×Int×dP×Int×ByteArray×Int×az)):=
 LP.lp (jlt (j1g)) (m,l,n,e,j,f,g,k,d,c,i,b,a)
theorem JR(m l n e j:Int)(f:ae)(g:dP)(k:Int)(d:(List (List Int)))(c:Int)(i:ByteArray)(b:Int)(a:az):Ab m l n e j f g k d c i b a=lpK (j1g m l n e j f g k d c i b a) (λh=>Ab h.1 h.2.1 h.2.2.1 h.2.2.2.1 h.2.2.2.2.1 h.2.2.2.2.2.1 h.2.2.2.2.2.2.1 h.2.2.2.2.2.2.2.1 h.2.2.2.2.2.2.2.2.1 h.2.2.2.2.2.2.2.2.2.1 h.2.2.2.2.2.2.2.2.2.2.1 h.2.2.2.2.2.2.2.2.2.2.2.1 h.2.2.2.2.2.2.2.2.2.2.2.2):=cG _ _
def j1h[LP](a6 a8 a9 a0 z:Int)(a1:dP)(e:Int)(a5:ByteArray)(v:Int)(x:az):Option ((Int×Int×Int×Int×Int×dP×Int×ByteArray×Int×az) ⊕ (Bool ⊕ Unit)):=
 cond (decide (e<3)) (
 cond (inR e 3) (
 let b:=(List.getD a1 (Int.toNat e) ([]:ae))
 (j2x b).bind λf=>
 (j6t b).bind λd=>
 (j1w b).bind λw=>
 (j2X b).bind λs=>
 cond (w != s) (
 some (.inr (.inl false))) (
 (j4m b).bind λu=>
 (j6v b).bind λy=>
 cond (u != y) (
 some (.inr (.inl false))) (
 (j8h f.1 d.1).bind λt=>
 cond (cond (!t) true (f.2 != d.2)) (
 some (.inr (.inl false))) (
 let n:(List Int):=[a6,a0,z]
 (Aa a6 a8 a9 a0 z b a1 e n 0 a5 v x).bind λa3=>
 sumC a3 (λa7=>
 some (.inr (.inl a7))) (λa=>
 let k:Int:=(if a.2.2.2.2.1<a.2.2.2.1 then a.2.2.2.2.1 else a.2.2.2.1:Int)
 let q:Int:=(if a.2.2.2.2.1>a.2.2.2.1 then a.2.2.2.2.1 else a.2.2.2.1:Int)
 let r:(List Int):=[k,q]
 let l:(List Int):=[a.2.1,a.2.2.1]
 let p:=(w64 (a.2.2.2.1+34560000))
 (j9G a.1 2).bind λi=>
 let j:=(w64 (p+i))
 let o:(List Int):=[a.2.2.2.1,j]
 let g:(List (List Int)):=[r,l,o]
 (Ab a.1 a.2.1 a.2.2.1 a.2.2.2.1 a.2.2.2.2.1 a.2.2.2.2.2.1 a.2.2.2.2.2.2.1 a.2.2.2.2.2.2.2.1 g 0 a.2.2.2.2.2.2.2.2.1 a.2.2.2.2.2.2.2.2.2.1 a.2.2.2.2.2.2.2.2.2.2).bind λa2=>
 sumC a2 (λa4=>
 some (.inr (.inl a4))) (λc=>
 let m:=(w64 (c.2.2.2.2.2.2.1+1))
 some (.inl (c.1,c.2.1,c.2.2.1,c.2.2.2.1,c.2.2.2.2.1,c.2.2.2.2.2.1,m,c.2.2.2.2.2.2.2.1,c.2.2.2.2.2.2.2.2.1,c.2.2.2.2.2.2.2.2.2)))))))) none) (
 some (.inr (.inr ())))
def Ac[LP](j i k c f:Int)(d:dP)(g:Int)(e:ByteArray)(b:Int)(a:az):Option (Bool ⊕ Unit):=
 LP.lp (jnw (j1h)) (j,i,k,c,f,d,g,e,b,a)
theorem JS(j i k c f d g e b a):Ac j i k c f d g e b a=lpK (j1h j i k c f d g e b a) (λh=>Ac h.1 h.2.1 h.2.2.1 h.2.2.2.1 h.2.2.2.2.1 h.2.2.2.2.2.1 h.2.2.2.2.2.2.1 h.2.2.2.2.2.2.2.1 h.2.2.2.2.2.2.2.2.1 h.2.2.2.2.2.2.2.2.2):=cG _ _
def j5o[LP](a:ae)(i:(List Int))(o d j:Int):Option (Bool):=
 let q:=(Int.ofNat (List.length a))
 cond (decide (q>20)) (
 (j3D).bind λt=>
 some t) (
 (ja9 i).bind λr=>
 cond (!r) (
 (j3D).bind λk=>
 some k) (
 (jbP i).bind λm=>
 (j4u m.1 m.2 (ByteArray.mk #[97])).bind λb=>
 (j3a b.2.1 b.2.2).bind λc=>
 cond (decide (List.length ([]:ae)+List.length c.1<=bI)) (
 let n:ae:=(([]:ae)++c.1)
 let s:(List Int):=[0,5,604800,(-1),604799]
 (j15 c.2.1 c.2.2 s).bind λe=>
 let v:(List Int):=[604800,604801,5,0]
 (j15 e.2.1 e.2.2 v).bind λf=>
 let l:ae:=[(e.1,f.1)]
 cond (decide (List.length n+List.length l<=bI)) (
 let u:ae:=(n++l)
 (j2k f.2.1 f.2.2).bind λg=>
 (j2k g.2.1 g.2.2).bind λx=>
 let w:dP:=[c.1,u,a]
 (Ac o d j g.1 x.1 w 0 b.1.1 b.1.2.1 b.1.2.2).bind λy=>
 sumC y (λz=>
 some z) (λa0=>
 (j3D).bind λp=>
 some p)) none) none))
end
end Go.Proofs.Pw
