/- Plain yC, printed by a program out of the given code. -/
import Derived.Test.YtllkgjaoejhneaaGreatCELD
open ByteArray renaming empty->J,mk->Z,size->Æ,toList->É
open List renaming getD->K,length->X,set->Á,replicate->Ã,drop->Ë
open _root_ renaming Int->L,List->M,Option->S,ByteArray->U,Bool->Å,Unit->Ç
open Option renaming some->N,none->Y
open Decidable renaming decide->O
open Int renaming ofNat->W,tmod->Ä,tdiv->È,fdiv->Ì
open Bool renaming false->À,true->Â
open Go Go.Lft
set_option linter.unusedVariables false
namespace Go.Proofs.Pw
noncomputable section
abbrev ae:Type:=(M (L×L))
abbrev wG:Type:=(L×(L×L))
abbrev fT:Type:=(M wG)
abbrev fZ:Type:=(L×ae)
abbrev sf:Type:=(U×(L×(M L)))
abbrev dt:Type:=(M fZ)
abbrev mi:Type:=(L×(L×wG))
abbrev ak:Type:=(M sf)
abbrev aq:Type:=(M mi)
abbrev sg:Type:=(L×(L×mi))
abbrev aQ:Type:=(M sg)
abbrev Cb:Type:=(U×(L×(ae×(L×(L×Å)))))
abbrev ah:Type:=(M Cb)
abbrev du:Type:=(U×(L×aQ))
abbrev ag:Type:=(M du)
abbrev dv:Type:=(U×(L×((L×L)×(L×(L×((M L)×(ae×(L×L))))))))
abbrev aj:Type:=(M dv)
abbrev jK:Type:=(U×(aj×aq))
abbrev an:Type:=(M jK)
abbrev bH:Type:=(ag×(ah×(ak×an)))
abbrev bU:Type:=(M bH)
abbrev kY:Type:=(bH×dt)
abbrev u8{A B C D E F G H T I R:Type}(u:T->I->R)(f:A->B->C->D->E->F->G->H->T)(h:A×B×C×D×E×F×G×H×I):R:=u (f h.1 h.2.1 h.2.2.1 h.2.2.2.1 h.2.2.2.2.1 h.2.2.2.2.2.1 h.2.2.2.2.2.2.1 h.2.2.2.2.2.2.2.1) h.2.2.2.2.2.2.2.2
abbrev unc2{A0 A1 R:Type}(f:A0->A1->R)(h:A0×A1):R:=f h.1 h.2
abbrev unc3{A0 A1 A2 R:Type}(f:A0->A1->A2->R)(h:A0×A1×A2):R:=f h.1 h.2.1 h.2.2
abbrev unc4{A0 A1 A2 A3 R:Type}(f:A0->A1->A2->A3->R)(h:A0×A1×A2×A3):R:=f h.1 h.2.1 h.2.2.1 h.2.2.2
abbrev unc5{A0 A1 A2 A3 A4 R:Type}(f:A0->A1->A2->A3->A4->R)(h:A0×A1×A2×A3×A4):R:=f h.1 h.2.1 h.2.2.1 h.2.2.2.1 h.2.2.2.2
abbrev unc6{A0 A1 A2 A3 A4 A5 R:Type}(f:A0->A1->A2->A3->A4->A5->R)(h:A0×A1×A2×A3×A4×A5):R:=f h.1 h.2.1 h.2.2.1 h.2.2.2.1 h.2.2.2.2.1 h.2.2.2.2.2
abbrev unc7{A0 A1 A2 A3 A4 A5 A6 R:Type}(f:A0->A1->A2->A3->A4->A5->A6->R)(h:A0×A1×A2×A3×A4×A5×A6):R:=f h.1 h.2.1 h.2.2.1 h.2.2.2.1 h.2.2.2.2.1 h.2.2.2.2.2.1 h.2.2.2.2.2.2
abbrev unc8{A0 A1 A2 A3 A4 A5 A6 A7 R:Type}(f:A0->A1->A2->A3->A4->A5->A6->A7->R)(h:A0×A1×A2×A3×A4×A5×A6×A7):R:=f h.1 h.2.1 h.2.2.1 h.2.2.2.1 h.2.2.2.2.1 h.2.2.2.2.2.1 h.2.2.2.2.2.2.1 h.2.2.2.2.2.2.2
abbrev unc9{A0 A1 A2 A3 A4 A5 A6 A7 A8 R:Type}(f:A0->A1->A2->A3->A4->A5->A6->A7->A8->R)(h:A0×A1×A2×A3×A4×A5×A6×A7×A8):R:=f h.1 h.2.1 h.2.2.1 h.2.2.2.1 h.2.2.2.2.1 h.2.2.2.2.2.1 h.2.2.2.2.2.2.1 h.2.2.2.2.2.2.2.1 h.2.2.2.2.2.2.2.2
def j8b(a:M L):S Bool:=
 let b:=W a.length
 N (O (b<=500))
def j2y(a:dv):S (L×L):=
 let k:M Int:=[3600,86400,604800]
 let l:M Int:=Ã 3 0
 let i:Bool:=cond (cond (O (a.2.2.2.1<0)) Â (O (a.2.2.2.1>=3))) Â (O (a.2.2.2.2.1<1))
 let f:=W a.2.2.2.2.2.1.length
 let j:Bool:=cond (cond i Â (O (a.2.2.2.2.1>400))) Â (O (f<1))
 let g:=W a.2.2.2.2.2.1.length
 cond (cond j Â (O (g>12))) (N (0,1)) (let c:=W a.2.2.2.2.2.1.length
 let d:=w64 (c*a.2.2.2.2.1)
 cond (inR a.2.2.2.1 3) (let b:=K k a.2.2.2.1.toNat 0
 let e:=w64 (d*b)
 N (e,0)) Y)
def j6E(a:du):S ByteArray:=N a.1
def j9S(a:L):S Bool:=N (cond (O (a>=97)) (O (a<=122)) À)
def jeS(a:L):S Bool:=N (cond (O (a>=48)) (O (a<=57)) À)
def j3X(e:U)(c b:L):S ((U×L×L) ⊕ (Å ⊕ Ç)):=cond (O (b<c)) (cond (inR b (Æ e)) (let a:=dz e b
 (j9S a).bind λg=>cond (!g) ((jeS a).bind λi=>cond (cond (cond (!i) (a != 95) À) (a != 45) À) (N (.inr (.inl À))) (let f:=w64 (b+1)
 N (.inl (e,c,f)))) (let d:=w64 (b+1)
 N (.inl (e,c,d)))) Y) (N (.inr (.inr ())))
def E1[LP](c:U)(a b:L):S (Å ⊕ Ç):=LP.lp (unc3 j3X) (c,a,b)
theorem RD(c a b):E1 c a b=lpK (j3X c a b) (λh=>E1 h.1 h.2.1 h.2.2):=bJ _ _
def jbL[LP](a:U):S Bool:=
 let f:=W (Æ a)
 let b:Bool:=cond (É a==É J) Â (O (f>24))
 cond ((inR 0 (Æ a)) || !(!b)) (let d:=dz a 0
 cond b (N À) ((j9S d).bind λe=>cond (!e) (N À) (let c:=W (Æ a)
 (E1 a c 0).bind λg=>sumC g (λi=>N i) (λj=>N Â)))) Y
def j3u[LP](b:U)(a:M (U×Å)):S (L×(M (U×Å))):=(jbL b).bind λc=>cond (!c) (N (2,a)) (cond (lK À a b) (N (4,a)) (let d:(M (U×Å)):=lk a b Â
 N (0,d)))
def j69(a c b:L):S Bool:=N (cond (O (a>=c)) (O (a<=b)) À)
def j8L(a:sg):S Int:=(j69 a.1 1970 2240).bind λi=>cond (!i) (N 1) ((j69 a.2.1 a.1 2240).bind λb=>cond (!b) (N 1) ((j69 a.2.2.1 1 12).bind λc=>cond (!c) (N 1) ((j69 a.2.2.2.1 1 5).bind λe=>cond (!e) (N 1) ((j69 a.2.2.2.2.1 0 6).bind λd=>cond (!d) (N 1) ((j69 a.2.2.2.2.2.1 0 86399).bind λg=>cond (!g) (N 1) ((j69 a.2.2.2.2.2.2 (-64800) 64800).bind λf=>cond (!f) (N 1) (N 0)))))))
def jgY(a:L):S Bool:=
 let c:=Ä a 4
 let d:=Ä a 100
 let b:=Ä a 400
 N (cond (c==0) (cond (d != 0) Â (b==0)) À)
def j5T(c a:L):S Int:=cond (cond (O (a<1)) Â (O (a>12))) (N 0) (let f:M Int:=[31,28,31,30,31,30,31,31,30,31,30,31]
 let j:M Int:=Ã 12 0
 cond (a==2) ((jgY c).bind λg=>cond g (N 29) (let e:=w64 (a-1)
 cond (inR e 12) (let i:=K f e.toNat 0
 N i) Y)) (let b:=w64 (a-1)
 cond (inR b 12) (let d:=K f b.toNat 0
 N d) Y))
def j9T(a:wG):S Bool:=cond (O (a.1>=1970)) (cond (O (a.1<=2240)) (cond (O (a.2.2>=1)) ((j5T a.1 a.2.1).bind λb=>N (O (a.2.2<=b))) (N À)) (N À)) (N À)
def j6V(b a:L):S Int:=cond (!(a==0)) (let d:=w64 (È b a)
 cond (!(a==0)) (let e:=Ä b a
 cond (O (e<0)) (let c:=w64 (d-1)
 N c) (N d)) Y) Y
def j4h(a:L):S Int:=
 let b:=w64 (a-1)
 let l:=w64 (a-1970)
 let k:=w64 (365*l)
 (j6V b 4).bind λc=>let j:=w64 (k+c)
 (j6V b 100).bind λd=>let g:=w64 (j-d)
 (j6V b 400).bind λf=>let e:=w64 (g+f)
 let i:=w64 (e-477)
 N i
def j3e(i e g a f:L):S ((L×L×L×L×L) ⊕ (L)):=cond (O (e<a)) ((j5T g e).bind λd=>let b:=w64 (i+d)
 let c:=w64 (e+1)
 N (.inl (b,c,g,a,f))) (N (.inr i))
def E2[LP](e c d b a:L):S Int:=LP.lp (unc5 j3e) (e,c,d,b,a)
theorem RE(e c d b a):E2 e c d b a=lpK (j3e e c d b a) (λh=>E2 h.1 h.2.1 h.2.2.1 h.2.2.2.1 h.2.2.2.2):=bJ _ _
def jaO[LP](a:wG):S Int:=(j4h a.1).bind λd=>let b:=w64 (d+a.2.2)
 let c:=w64 (b-1)
 (E2 c 1 a.1 a.2.1 a.2.2).bind λe=>N e
def j4P(a:L):S Int:=
 let b:=Ä a 7
 let d:=w64 (b+10)
 let c:=Ä d 7
 N c
def jfR[LP](d b c a:L):S (L×L):=(j9T (d,(b,1))).bind λl=>let s:Bool:=cond (cond (!l) Â (O (c<1))) Â (O (c>5))
 let j:Bool:=cond (cond s Â (O (a<0))) Â (O (a>6))
 cond j (N (0,1)) ((jaO (d,(b,1))).bind λf=>(j4P f).bind λt=>let m:=w64 (a-t)
 let n:=w64 (m+7)
 let g:=Ä n 7
 let o:=w64 (f+g)
 let q:=w64 (c-1)
 let r:=w64 (7*q)
 let e:=w64 (o+r)
 (j5T d b).bind λk=>let p:=w64 (f+k)
 cond (O (e>=p)) (let i:=w64 (e-7)
 N (i,0)) (N (e,0)))
def j6W(b a:L×L):S Int:=
 let c:=w64 (b.1-a.1)
 N c
def j0h(n p q b:L)(a:ae):S ((L×L×L×L×ae) ⊕ (L×L×L×ae)):=cond (O (b>n)) (cond (inR b a.length) (let d:=K a b.toNat (0,0)
 let c:=w64 (b-1)
 cond (inR c a.length) (let k:=K a c.toNat (0,0)
 (j6W (d.1,d.2) (k.1,k.2)).bind λl=>cond (O (l<0)) (let g:=w64 (b-1)
 let e:=w64 (b-1)
 cond (inR e a.length) (let f:=K a e.toNat (0,0)
 cond (inR b a.length) (let i:=K a b.toNat (0,0)
 cond (inR b a.length) (let j:ae:=Á a b.toNat (f.1,f.2)
 cond (inR g j.length) (let m:ae:=Á j g.toNat (i.1,i.2)
 let o:=w64 (b-1)
 N (.inl (n,p,q,o,m))) Y) Y) Y) Y) (N (.inr (n,p,q,a)))) Y) Y) (N (.inr (n,p,q,a)))
def E3[LP](c b e a:L)(d:ae):S (L×L×L×ae):=LP.lp (unc5 j0h) (c,b,e,a,d)
theorem RF(c b e a d):E3 c b e a d=lpK (j0h c b e a d) (λh=>E3 h.1 h.2.1 h.2.2.1 h.2.2.2.1 h.2.2.2.2):=bJ _ _
def j0i[LP](f d c:L)(e:ae):S ((L×L×L×ae) ⊕ (ae)):=cond (O (c<d)) ((E3 f d c c e).bind λa=>let b:=w64 (a.2.2.1+1)
 N (.inl (a.1,a.2.1,b,a.2.2.2))) (N (.inr e))
def E4[LP](a d c:L)(b:ae):S ae:=LP.lp (unc4 j0i) (a,d,c,b)
theorem Kb(b a d c):E4 b a d c=lpK (j0i b a d c) (λh=>E4 h.1 h.2.1 h.2.2.1 h.2.2.2):=bJ _ _
def j0q[LP](a:ae)(b c:L):S ae:=
 let d:=w64 (b+1)
 (E4 b c d a).bind λe=>N e
def j0G[LP](d e f c:L)(g:ae):S ((L×L×L×L×ae) ⊕ (L×L×L×ae)):=cond (O (c<=d)) ((j0q g f c).bind λb=>let a:=w64 (c+e)
 N (.inl (d,e,c,a,b))) (N (.inr (d,e,f,g)))
def E5[LP](b c a e:L)(d:ae):S (L×L×L×ae):=LP.lp (unc5 j0G) (b,c,a,e,d)
theorem _3(b c a e d):E5 b c a e d=lpK (j0G b c a e d) (λh=>E5 h.1 h.2.1 h.2.2.1 h.2.2.2.1 h.2.2.2.2):=bJ _ _
def j2a(b c a f:L)(e:ae):S ((L×L×L×L×ae) ⊕ (L×L×L×ae)):=cond (O (f<=b)) (let d:=w64 (a+c)
 Y) (N (.inr (b,c,a,e)))
def _4[LP](b c a e:L)(d:ae):S (L×L×L×ae):=LP.lp (unc5 j2a) (b,c,a,e,d)
def j0H[LP](f e:L)(g:ae):S ((L×L×ae) ⊕ (ae)):=cond (O (e<f)) (let d:=w64 (2*e)
 (_4 f e 0 d g).bind λa=>let c:=w64 (a.2.2.1+a.2.1)
 cond (O (c<a.1)) (Y) (let b:=w64 (a.2.1*2)
 N (.inl (a.1,b,a.2.2.2)))) (N (.inr g))
def E6[LP](a c:L)(b:ae):S ae:=LP.lp (unc3 j0H) (a,c,b)
theorem _5(a c b):E6 a c b=lpK (j0H a c b) (λh=>E6 h.1 h.2.1 h.2.2):=bJ _ _
def j1N[LP](a:ae)(c:L):S ae:=(E5 c 20 0 20 a).bind λb=>(j0q b.2.2.2 b.2.2.1 b.1).bind λd=>(E6 b.1 b.2.1 d).bind λe=>N e
def j0f[LP](a:ae):S ae:=
 let b:=W a.length
 (j1N a b).bind λc=>N c
def j1u(m:L)(d:aQ)(l b:L)(n:U)(f:L)(e:aQ):S ((L×aQ×L×L×U×L×aQ) ⊕ (L ⊕ (L×U×L×aQ))):=cond (O (b<l)) (cond (inR b d.length) (let a:=K d b.toNat (0,(0,(0,(0,(0,(0,0))))))
 (j8L (a.1,(a.2.1,(a.2.2.1,(a.2.2.2.1,(a.2.2.2.2.1,(a.2.2.2.2.2.1,a.2.2.2.2.2.2))))))).bind λc=>cond (c != 0) (N (.inr (.inl c))) (let g:=w64 (a.2.1-a.1)
 let i:=w64 (g+1)
 let j:=w64 (m+i)
 let k:=w64 (b+1)
 N (.inl (j,d,l,k,n,f,e)))) Y) (N (.inr (.inr (m,n,f,e))))
def yD[LP](f:L)(d:aQ)(e c:L)(g:U)(b:L)(a:aQ):S (L ⊕ (L×U×L×aQ)):=LP.lp (unc7 j1u) (f,d,e,c,g,b,a)
theorem Kc(f d e c g b a):yD f d e c g b a=lpK (j1u f d e c g b a) (λh=>yD h.1 h.2.1 h.2.2.1 h.2.2.2.1 h.2.2.2.2.1 h.2.2.2.2.2.1 h.2.2.2.2.2.2):=bJ _ _
def j21[LP](i:L)(o:aQ)(q p s b f e c a d:L)(r:ae):S ((L×aQ×L×L×L×L×L×L×L×L×L×ae) ⊕ (aQ×L×L×ae)):=cond (O (i<=b)) ((jfR i f e c).bind λl=>let m:=w64 (l.1*86400)
 let n:=w64 (m+a)
 let g:ae:=[(n,d)]
 cond (O (X r+X g<=aR)) (let j:ae:=r++g
 let k:=w64 (i+1)
 N (.inl (k,o,q,p,s,b,f,e,c,a,d,j))) Y) (N (.inr (o,q,p,r)))
def E7[LP](l:L)(g:aQ)(j i k b f e c a d:L)(m:ae):S (aQ×L×L×ae):=LP.lp (u8 unc4 j21) (l,g,j,i,k,b,f,e,c,a,d,m)
theorem RG(l g j i k b f e c a d m):E7 l g j i k b f e c a d m=lpK (j21 l g j i k b f e c a d m) (λh=>E7 h.1 h.2.1 h.2.2.1 h.2.2.2.1 h.2.2.2.2.1 h.2.2.2.2.2.1 h.2.2.2.2.2.2.1 h.2.2.2.2.2.2.2.1 h.2.2.2.2.2.2.2.2.1 h.2.2.2.2.2.2.2.2.2.1 h.2.2.2.2.2.2.2.2.2.2.1 h.2.2.2.2.2.2.2.2.2.2.2):=bJ _ _
def j22[LP](d:aQ)(f c:L)(g:ae):S ((aQ×L×L×ae) ⊕ (ae)):=cond (O (c<f)) (cond (inR c d.length) (let a:=K d c.toNat (0,(0,(0,(0,(0,(0,0))))))
 (E7 a.1 d f c a.1 a.2.1 a.2.2.1 a.2.2.2.1 a.2.2.2.2.1 a.2.2.2.2.2.1 a.2.2.2.2.2.2 g).bind λb=>let e:=w64 (b.2.2.1+1)
 N (.inl (b.1,b.2.1,e,b.2.2.2))) Y) (N (.inr g))
def Cc[LP](b:aQ)(a c:L)(d:ae):S ae:=LP.lp (unc4 j22) (b,a,c,d)
theorem RH(a c b d):Cc a c b d=lpK (j22 a c b d) (λh=>Cc h.1 h.2.1 h.2.2.1 h.2.2.2):=bJ _ _
def j1W[LP](a:du):S (ae×L):=(j69 a.2.1 (-64800) 64800).bind λe=>cond (!e) (N (([]:ae),1)) (let f:=W a.2.2.length
 cond (O (f>16)) (N (([]:ae),5)) (let c:=W a.2.2.length
 (yD 0 a.2.2 c 0 a.1 a.2.1 a.2.2).bind λi=>sumC i (λk=>N (([]:ae),k)) (λj=>cond (O (j.1>640)) (N (([]:ae),5)) (let d:=W j.2.2.2.length
 (Cc j.2.2.2 d 0 ([]:ae)).bind λg=>(j0f g).bind λb=>N (b,0)))))
def j18(s m d:L)(b g:ae):S ((L×L×L×ae×ae) ⊕ (L ⊕ ae)):=cond (O (d<m)) (cond (inR d g.length) (let a:=K g d.toNat (0,0)
 cond (a.2==s) (let q:=w64 (d+1)
 N (.inl (s,m,q,b,g))) (let c:=w64 (a.1-s)
 let k:=w64 (a.2-s)
 cond (cond (O (k>=86400)) Â (O (k<=(-86400)))) (let n:=W b.length
 let v:=W b.length
 let j:=w64 (v-1)
 cond ((inR j b.length) || !((!Â)&&(O (n>0)))) (let r:=(K b j.toNat (0,0)).1
 let x:=w64 (r+604800)
 N (.inr (.inl 6))) Y) ((j69 c 0 8589934592).bind λf=>let l:=W b.length
 let o:=W b.length
 let e:=w64 (o-1)
 cond ((inR e b.length) || !((!(!f))&&(O (l>0)))) (let u:=(K b e.toNat (0,0)).1
 let t:=w64 (u+604800)
 cond (cond (!f) Â (cond (O (l>0)) (O (c<t)) À)) (N (.inr (.inl 6))) (let i:ae:=[(c,a.2)]
 cond (O (X b+X i<=aR)) (let p:ae:=b++i
 let w:=w64 (d+1)
 N (.inl (a.2,m,w,p,g))) Y)) Y))) Y) (N (.inr (.inr b)))
def yE[LP](d b c:L)(e a:ae):S (L ⊕ ae):=LP.lp (unc5 j18) (d,b,c,e,a)
theorem E8(d b c e a):yE d b c e a=lpK (j18 d b c e a) (λh=>yE h.1 h.2.1 h.2.2.1 h.2.2.2.1 h.2.2.2.2):=bJ _ _
def j0M[LP](a:du):S (ae×L):=(j1W (a.1,(a.2.1,a.2.2))).bind λb=>cond (b.2 != 0) (N (([]:ae),b.2)) (let c:=W b.1.length
 (yE a.2.1 c 0 ([]:ae) b.1).bind λd=>sumC d (λe=>N (([]:ae),e)) (λf=>N (f,0)))
def jbM[LP](a:du):S Int:=(j0M (a.1,(a.2.1,a.2.2))).bind λb=>N b.2
def j6a(a:sg):S Bool:=
 let b:=Ä a.2.2.2.2.2.2 60
 N (b != 0)
def j0j(e:aQ)(f b:L):S ((aQ×L×L) ⊕ (L ⊕ Ç)):=cond (O (b<f)) (cond (inR b e.length) (let a:=K e b.toNat (0,(0,(0,(0,(0,(0,0))))))
 (j6a (a.1,(a.2.1,(a.2.2.1,(a.2.2.2.1,(a.2.2.2.2.1,(a.2.2.2.2.2.1,a.2.2.2.2.2.2))))))).bind λc=>cond c (N (.inr (.inl b))) (let d:=w64 (b+1)
 N (.inl (e,f,d)))) Y) (N (.inr (.inr ())))
def E9[LP](b:aQ)(a c:L):S (L ⊕ Ç):=LP.lp (unc3 j0j) (b,a,c)
theorem RI(b a c):E9 b a c=lpK (j0j b a c) (λh=>E9 h.1 h.2.1 h.2.2):=bJ _ _
def j1k[LP](a:aQ):S Int:=
 let c:=W a.length
 (E9 a c 0).bind λb=>sumC b (λd=>N d) (λe=>N (-1))
def j0C[LP](a:aQ):S Bool:=(j1k a).bind λb=>N (O (b>=0))
def j1B[LP](a:du):S Int:=(jbM (a.1,(a.2.1,a.2.2))).bind λd=>let c:=Ä a.2.1 60
 cond (cond (d != 0) Â (c != 0)) (N 8) ((j0C a.2.2).bind λb=>cond b (N 8) (N 0))
def j0P[LP](e:ag)(i d:L)(j:M (U×Å)):S ((ag×L×L×(M (U×Å))) ⊕ (L ⊕ Ç)):=cond (O (d<i)) (cond (inR d e.length) (let a:=K e d.toNat (J,(0,([]:aQ)))
 (j6E (a.1,(a.2.1,a.2.2))).bind λg=>(j3u g j).bind λb=>cond (b.1 != 0) (N (.inr (.inl b.1))) ((j1B (a.1,(a.2.1,a.2.2))).bind λc=>cond (c != 0) (N (.inr (.inl c))) (let f:=w64 (d+1)
 N (.inl (e,i,f,b.2))))) Y) (N (.inr (.inr ())))
def wH[LP](a:ag)(c b:L)(d:M (U×Å)):S (L ⊕ Ç):=LP.lp (unc4 j0P) (a,c,b,d)
theorem Kd(c:ag)(a b:L)(d:M (U×Å)):wH c a b d=lpK (j0P c a b d) (λh=>wH h.1 h.2.1 h.2.2.1 h.2.2.2):=bJ _ _
def j2w[LP](a:ag):S Int:=
 let c:(M (U×Å)):=[]
 let b:=W a.length
 (wH a b 0 c).bind λd=>sumC d (λe=>N e) (λf=>N 0)
def j16(a b:L):S Bool:=N (cond (O (a>=0)) (O (a<b)) À)
def j3Y(g j:ae)(k b:L):S ((ae×ae×L×L) ⊕ (L ⊕ Ç)):=cond (O (b<k)) (cond (inR b j.length) (let a:=K j b.toNat (0,0)
 let f:Bool:=cond (cond (O (a.1<0)) Â (O (a.1>=a.2))) Â (O (a.2>604800))
 cond f (N (.inr (.inl 1))) (cond (O (b>0)) (let c:=w64 (b-1)
 cond (inR c g.length) (let d:=K g c.toNat (0,0)
 cond (O (a.1<d.2)) (N (.inr (.inl 6))) (let i:=w64 (b+1)
 N (.inl (g,j,k,i)))) Y) (let e:=w64 (b+1)
 N (.inl (g,j,k,e))))) Y) (N (.inr (.inr ())))
def Fa[LP](c d:ae)(b a:L):S (L ⊕ Ç):=LP.lp (unc4 j3Y) (c,d,b,a)
theorem RJ(c d b a):Fa c d b a=lpK (j3Y c d b a) (λh=>Fa h.1 h.2.1 h.2.2.1 h.2.2.2):=bJ _ _
def j9K[LP](a:ae):S Int:=
 let b:=W a.length
 cond (O (b>14)) (N 5) (let c:=W a.length
 (Fa a a c 0).bind λd=>sumC d (λe=>N e) (λf=>N 0))
def j2B(a c b:L):S Bool:=N (cond (O (a>=c)) (O (a<=b)) À)
def j4R(a:L):S Bool:=(j2B a 0 604800).bind λb=>let c:=Ä a 3600
 N (cond b (c==0) À)
def j3F[LP](b:bH)(a:Cb):S Int:=
 let c:=W b.1.length
 (j16 a.2.1 c).bind λg=>cond (!g) (N 3) ((j9K a.2.2.1).bind λf=>cond (f != 0) (N 8) ((j4R a.2.2.2.1).bind λe=>cond (!e) (N 1) ((j4R a.2.2.2.2.1).bind λd=>cond (!d) (N 1) (N 0))))
def j6F(a:sf):S ByteArray:=N a.1
def j3Z(e c:L):S ((L×L) ⊕ (L)):=
 let d:=w64 (c+1)
 (j4h d).bind λb=>cond (O (b<=e)) (let a:=w64 (c+1)
 N (.inl (e,a))) (N (.inr c))
def Fb[LP](b a:L):S Int:=LP.lp (unc2 j3Z) (b,a)
theorem RK(b a):Fb b a=lpK (j3Z b a) (λh=>Fb h.1 h.2):=bJ _ _
def je4[LP](a:L):S Int:=(j6V a 366).bind λd=>let c:=w64 (1970+d)
 (Fb a c).bind λb=>N b
def j3f(k l b c i a d:L):S ((L×L×L×L×L×L×L) ⊕ (L×L×L×L×L×L×L)):=(j5T i a).bind λg=>cond (O (k>=g)) ((j5T i a).bind λe=>let j:=w64 (k-e)
 let f:=w64 (a+1)
 N (.inl (j,l,b,c,i,f,d))) (N (.inr (k,l,b,c,i,a,d)))
def Fc[LP](g f a c e b d:L):S (L×L×L×L×L×L×L):=LP.lp (unc7 j3f) (g,f,a,c,e,b,d)
theorem RM(g f a c e b d):Fc g f a c e b d=lpK (j3f g f a c e b d) (λh=>Fc h.1 h.2.1 h.2.2.1 h.2.2.2.1 h.2.2.2.2.1 h.2.2.2.2.2.1 h.2.2.2.2.2.2):=bJ _ _
def j5t[LP](a:L):S (wG×L):=(j4h 1970).bind λi=>cond (O (a<i)) (N ((0,(0,0)),1)) ((j4h 2241).bind λf=>cond (O (a>=f)) (N ((0,(0,0)),1)) ((je4 a).bind λb=>(j4h b).bind λe=>let g:=w64 (a-e)
 (Fc g 0 0 0 b 1 0).bind λc=>let d:=w64 (c.1+1)
 N ((c.2.2.2.2.1,(c.2.2.2.2.2.1,d)),0)))
def j1o[LP](a:L):S Bool:=(j5t a).bind λb=>N (b.2==0)
def j30[LP](a:L):S Bool:=(j1o a).bind λb=>N (!b)
def j0t[LP](e:M L)(f a:L):S (((M L)×L×L) ⊕ (L ⊕ Ç)):=cond (O (a<f)) (cond (inR a e.length) (let b:=K e a.toNat 0
 (j30 b).bind λc=>cond c (N (.inr (.inl a))) (let d:=w64 (a+1)
 N (.inl (e,f,d)))) Y) (N (.inr (.inr ())))
def Cd[LP](b:M L)(a c:L):S (L ⊕ Ç):=LP.lp (unc3 j0t) (b,a,c)
theorem Fe(b a c):Cd b a c=lpK (j0t b a c) (λh=>Cd h.1 h.2.1 h.2.2):=bJ _ _
def j31[LP](a:M L):S Int:=
 let c:=W a.length
 (Cd a c 0).bind λb=>sumC b (λd=>N d) (λe=>N (-1))
def j19[LP](a:M L):S Bool:=(j31 a).bind λb=>N (O (b>=0))
def j0n(e b:L)(k:U)(d:L)(a:M L):S ((L×L×U×L×(M L)) ⊕ (L ⊕ Ç)):=cond (O (b<e)) (cond (O (b>0)) (cond (inR b a.length) (let j:=K a b.toNat 0
 let c:=w64 (b-1)
 cond (inR c a.length) (let g:=K a c.toNat 0
 cond (O (j<=g)) (N (.inr (.inl 6))) (let i:=w64 (b+1)
 N (.inl (e,i,k,d,a)))) Y) Y) (let f:=w64 (b+1)
 N (.inl (e,f,k,d,a)))) (N (.inr (.inr ())))
def yF[LP](c d:L)(e:U)(a:L)(b:M L):S (L ⊕ Ç):=LP.lp (unc5 j0n) (c,d,e,a,b)
theorem yG(c d e a b):yF c d e a b=lpK (j0n c d e a b) (λh=>yF h.1 h.2.1 h.2.2.1 h.2.2.2.1 h.2.2.2.2):=bJ _ _
def j1e[LP](b:bH)(a:sf):S Int:=
 let g:=W b.1.length
 (j16 a.2.1 g).bind λc=>cond (!c) (N 3) (let d:=W a.2.2.length
 cond (O (d>64)) (N 5) ((j19 a.2.2).bind λe=>cond e (N 1) (let f:=W a.2.2.length
 (yF f 0 a.1 a.2.1 a.2.2).bind λi=>sumC i (λj=>N j) (λk=>N 0))))
def j6G[LP](a:sf)(e:ag)(d:ah)(b:ak)(c:an):S Int:=(j1e (e,(d,(b,c))) (a.1,(a.2.1,a.2.2))).bind λf=>N f
def j0v[LP](m:ag)(g:ah)(f:ak)(e:an)(i:ak)(l d:L)(n:M (U×Å)):S ((ag×ah×ak×an×ak×L×L×(M (U×Å))) ⊕ (L ⊕ Ç)):=cond (O (d<l)) (cond (inR d i.length) (let a:=K i d.toNat (J,(0,([]:(M L))))
 (j6F (a.1,(a.2.1,a.2.2))).bind λk=>(j3u k n).bind λb=>cond (b.1 != 0) (N (.inr (.inl b.1))) ((j6G (a.1,(a.2.1,a.2.2)) m g f e).bind λc=>cond (c != 0) (N (.inr (.inl c))) (let j:=w64 (d+1)
 N (.inl (m,g,f,e,i,l,j,b.2))))) Y) (N (.inr (.inr ())))
def wI[LP](i:ag)(c:ah)(b:ak)(a:an)(f:ak)(d e:L)(g:M (U×Å)):S (L ⊕ Ç):=LP.lp (unc8 j0v) (i,c,b,a,f,d,e,g)
theorem Ke(i:ag)(c:ah)(b:ak)(a:an)(f:ak)(d e:L)(g:M (U×Å)):wI i c b a f d e g=lpK (j0v i c b a f d e g) (λh=>wI h.1 h.2.1 h.2.2.1 h.2.2.2.1 h.2.2.2.2.1 h.2.2.2.2.2.1 h.2.2.2.2.2.2.1 h.2.2.2.2.2.2.2):=bJ _ _
def j1G[LP](e:ak)(d:ag)(c:ah)(a:ak)(b:an):S Int:=
 let g:(M (U×Å)):=[]
 let f:=W e.length
 (wI d c a b e f 0 g).bind λi=>sumC i (λj=>N j) (λk=>N 0)
def j6H(a:jK):S ByteArray:=N a.1
def j32(a:dv):S ByteArray:=N a.1
def j40(a:L)(g:ag)(b:ah)(e:ak)(f:an):S Bool:=
 let c:=W b.length
 (j16 a c).bind λd=>N (!d)
def j0o(i:M L)(k:ag)(a:ah)(b:ak)(c:an)(j d:L):S (((M L)×ag×ah×ak×an×L×L) ⊕ (L ⊕ Ç)):=cond (O (d<j)) (cond (inR d i.length) (let e:=K i d.toNat 0
 (j40 e k a b c).bind λf=>cond f (N (.inr (.inl d))) (let g:=w64 (d+1)
 N (.inl (i,k,a,b,c,j,g)))) Y) (N (.inr (.inr ())))
def Ce[LP](e:M L)(f:ag)(a:ah)(b:ak)(c:an)(d g:L):S (L ⊕ Ç):=LP.lp (unc7 j0o) (e,f,a,b,c,d,g)
theorem Ff(e f a b c d g):Ce e f a b c d g=lpK (j0o e f a b c d g) (λh=>Ce h.1 h.2.1 h.2.2.1 h.2.2.2.1 h.2.2.2.2.1 h.2.2.2.2.2.1 h.2.2.2.2.2.2):=bJ _ _
def j2e[LP](c:M L)(e:ag)(d:ah)(b:ak)(a:an):S Int:=
 let g:=W c.length
 (Ce c e d b a g 0).bind λf=>sumC f (λi=>N i) (λj=>N (-1))
def j0Q[LP](d:M L)(e:ag)(c:ah)(b:ak)(a:an):S Bool:=(j2e d e c b a).bind λf=>N (O (f>=0))
def j1d[LP](b:bH)(a:dv):S Int:=
 let d:=W b.1.length
 (j16 a.2.1 d).bind λm=>cond (!m) (N 3) (cond (O (a.2.2.1.1<1)) (N 1) ((j1o a.2.2.1.1).bind λo=>cond (!o) (N 1) ((j2B a.2.2.1.2 0 86399).bind λe=>cond (!e) (N 1) ((j2B a.2.2.2.1 0 2).bind λg=>cond (!g) (N 1) ((j2B a.2.2.2.2.1 1 400).bind λc=>cond (!c) (N 1) (let l:=W a.2.2.2.2.2.1.length
 cond (l==0) (N 7) (let k:=W a.2.2.2.2.2.1.length
 cond (O (k>12)) (N 5) ((j0Q a.2.2.2.2.2.1 b.1 b.2.1 b.2.2.1 b.2.2.2).bind λi=>cond i (N 3) ((j9K a.2.2.2.2.2.2.1).bind λn=>cond (n != 0) (N 8) ((j2B a.2.2.2.2.2.2.2.2 0 2).bind λf=>cond (!f) (N 1) (let j:=W b.2.2.1.length
 cond (a.2.2.2.2.2.2.2.2 != 0) ((j16 a.2.2.2.2.2.2.2.1 j).bind λp=>cond (!p) (N 3) (cond (cond (a.2.2.2.2.2.2.2.2==0) (a.2.2.2.2.2.2.2.1 != 0) À) (N 1) (N 0))) (cond (cond (a.2.2.2.2.2.2.2.2==0) (a.2.2.2.2.2.2.2.1 != 0) À) (N 1) (N 0)))))))))))))
def j33[LP](a:dv)(e:ag)(d:ah)(b:ak)(c:an):S Int:=(j1d (e,(d,(b,c))) (a.1,(a.2.1,((a.2.2.1.1,a.2.2.1.2),(a.2.2.2.1,(a.2.2.2.2.1,(a.2.2.2.2.2.1,(a.2.2.2.2.2.2.1,(a.2.2.2.2.2.2.2.1,a.2.2.2.2.2.2.2.2))))))))).bind λf=>N f
def j0J[LP](m:ag)(g:ah)(f:ak)(e:an)(i:aj)(l d:L)(n:M (U×Å)):S ((ag×ah×ak×an×aj×L×L×(M (U×Å))) ⊕ (L ⊕ Ç)):=cond (O (d<l)) (cond (inR d i.length) (let a:=K i d.toNat (J,(0,((0,0),(0,(0,(([]:(M L)),(([]:ae),(0,0))))))))
 (j32 (a.1,(a.2.1,((a.2.2.1.1,a.2.2.1.2),(a.2.2.2.1,(a.2.2.2.2.1,(a.2.2.2.2.2.1,(a.2.2.2.2.2.2.1,(a.2.2.2.2.2.2.2.1,a.2.2.2.2.2.2.2.2))))))))).bind λk=>(j3u k n).bind λb=>cond (b.1 != 0) (N (.inr (.inl b.1))) ((j33 (a.1,(a.2.1,((a.2.2.1.1,a.2.2.1.2),(a.2.2.2.1,(a.2.2.2.2.1,(a.2.2.2.2.2.1,(a.2.2.2.2.2.2.1,(a.2.2.2.2.2.2.2.1,a.2.2.2.2.2.2.2.2)))))))) m g f e).bind λc=>cond (c != 0) (N (.inr (.inl c))) (let j:=w64 (d+1)
 N (.inl (m,g,f,e,i,l,j,b.2))))) Y) (N (.inr (.inr ())))
def wJ[LP](i:ag)(c:ah)(b:ak)(a:an)(f:aj)(d e:L)(g:M (U×Å)):S (L ⊕ Ç):=LP.lp (unc8 j0J) (i,c,b,a,f,d,e,g)
theorem Kf(i:ag)(c:ah)(b:ak)(a:an)(f:aj)(d e:L)(g:M (U×Å)):wJ i c b a f d e g=lpK (j0J i c b a f d e g) (λh=>wJ h.1 h.2.1 h.2.2.1 h.2.2.2.1 h.2.2.2.2.1 h.2.2.2.2.2.1 h.2.2.2.2.2.2.1 h.2.2.2.2.2.2.2):=bJ _ _
def j2f[LP](e:aj)(d:ag)(c:ah)(a:ak)(b:an):S Int:=
 let g:(M (U×Å)):=[]
 let f:=W e.length
 (wJ d c a b e f 0 g).bind λi=>sumC i (λj=>N j) (λk=>N 0)
def j0U[LP](g:bH)(a:mi):S Int:=
 let l:=W g.2.1.length
 (j2B a.1 0 2).bind λj=>cond (!j) (N 1) ((j16 a.2.1 l).bind λf=>cond (cond (!f) (!(cond (a.1==1) (a.2.1==(-1)) À)) À) (cond (cond (!f) (!(cond (a.1==1) (a.2.1==(-1)) À)) À) (N 3) (cond (cond (a.1 != 2) (a.2.2.1 != 0) À) (N 1) (cond (cond (a.1==2) (a.2.1==a.2.2.1) À) (N 4) (let k:=w64 (È a.2.2.2.2 86400)
 cond (cond (O (a.2.2.2.1<0)) Â (O (a.2.2.2.2<0))) (N 1) ((j1o k).bind λi=>cond (!i) (N 1) (cond (O (a.2.2.2.1>=a.2.2.2.2)) (N 6) (N 0))))))) (cond (a.1==2) ((j16 a.2.2.1 l).bind λm=>cond (!m) (N 3) (cond (cond (a.1 != 2) (a.2.2.1 != 0) À) (N 1) (cond (cond (a.1==2) (a.2.1==a.2.2.1) À) (N 4) (let e:=w64 (È a.2.2.2.2 86400)
 cond (cond (O (a.2.2.2.1<0)) Â (O (a.2.2.2.2<0))) (N 1) ((j1o e).bind λc=>cond (!c) (N 1) (cond (O (a.2.2.2.1>=a.2.2.2.2)) (N 6) (N 0))))))) (cond (cond (a.1 != 2) (a.2.2.1 != 0) À) (N 1) (cond (cond (a.1==2) (a.2.1==a.2.2.1) À) (N 4) (let d:=w64 (È a.2.2.2.2 86400)
 cond (cond (O (a.2.2.2.1<0)) Â (O (a.2.2.2.2<0))) (N 1) ((j1o d).bind λb=>cond (!b) (N 1) (cond (O (a.2.2.2.1>=a.2.2.2.2)) (N 6) (N 0))))))))
def j0V[LP](e:aq)(j b:L)(k:ag)(d:ah)(g:ak)(f:an):S ((aq×L×L×ag×ah×ak×an) ⊕ (L ⊕ Ç)):=cond (O (b<j)) (cond (inR b e.length) (let a:=K e b.toNat (0,(0,(0,(0,0))))
 (j0U (k,(d,(g,f))) (a.1,(a.2.1,(a.2.2.1,(a.2.2.2.1,a.2.2.2.2))))).bind λc=>cond (c != 0) (N (.inr (.inl c))) (let i:=w64 (b+1)
 N (.inl (e,j,i,k,d,g,f)))) Y) (N (.inr (.inr ())))
def yH[LP](e:aq)(f d:L)(g:ag)(a:ah)(c:ak)(b:an):S (L ⊕ Ç):=LP.lp (unc7 j0V) (e,f,d,g,a,c,b)
theorem Kg(e f d g a c b):yH e f d g a c b=lpK (j0V e f d g a c b) (λh=>yH h.1 h.2.1 h.2.2.1 h.2.2.2.1 h.2.2.2.2.1 h.2.2.2.2.2.1 h.2.2.2.2.2.2):=bJ _ _
def j1g[LP](a:bH)(b:jK):S Int:=
 let f:=W b.2.1.length
 let e:=W b.2.2.length
 cond (cond (O (f>6)) Â (O (e>48))) (N 5) ((j2f b.2.1 a.1 a.2.1 a.2.2.1 a.2.2.2).bind λc=>cond (c != 0) (N c) (let d:=W b.2.2.length
 (yH b.2.2 d 0 a.1 a.2.1 a.2.2.1 a.2.2.2).bind λg=>sumC g (λi=>N i) (λj=>N 0)))
def j6I[LP](a:jK)(e:ag)(d:ah)(b:ak)(c:an):S Int:=(j1g (e,(d,(b,c))) (a.1,(a.2.1,a.2.2))).bind λf=>N f
def j0w[LP](m:ag)(g:ah)(f:ak)(e i:an)(l d:L)(n:M (U×Å)):S ((ag×ah×ak×an×an×L×L×(M (U×Å))) ⊕ (L ⊕ Ç)):=cond (O (d<l)) (cond (inR d i.length) (let a:=K i d.toNat (J,(([]:aj),([]:aq)))
 (j6H (a.1,(a.2.1,a.2.2))).bind λk=>(j3u k n).bind λb=>cond (b.1 != 0) (N (.inr (.inl b.1))) ((j6I (a.1,(a.2.1,a.2.2)) m g f e).bind λc=>cond (c != 0) (N (.inr (.inl c))) (let j:=w64 (d+1)
 N (.inl (m,g,f,e,i,l,j,b.2))))) Y) (N (.inr (.inr ())))
def wK[LP](i:ag)(c:ah)(b:ak)(a f:an)(d e:L)(g:M (U×Å)):S (L ⊕ Ç):=LP.lp (unc8 j0w) (i,c,b,a,f,d,e,g)
theorem Kh(i:ag)(c:ah)(b:ak)(a f:an)(d e:L)(g:M (U×Å)):wK i c b a f d e g=lpK (j0w i c b a f d e g) (λh=>wK h.1 h.2.1 h.2.2.1 h.2.2.2.1 h.2.2.2.2.1 h.2.2.2.2.2.1 h.2.2.2.2.2.2.1 h.2.2.2.2.2.2.2):=bJ _ _
def j2v[LP](e:an)(d:ag)(c:ah)(a:ak)(b:an):S Int:=
 let g:(M (U×Å)):=[]
 let f:=W e.length
 (wK d c a b e f 0 g).bind λi=>sumC i (λj=>N j) (λk=>N 0)
def j2M[LP](g:ah)(i f:L)(j:ag)(e:ah)(d:ak)(c:an)(r:M (U×Å)):S ((ah×L×L×ag×ah×ak×an×(M (U×Å))) ⊕ (L ⊕ (ag×ah×ak×an))):=cond (O (f<i)) (cond (inR f g.length) (let a:=K g f.toNat (J,(0,(([]:ae),(0,(0,À)))))
 (j3u a.1 r).bind λb=>let q:Bool:=É a.1==É (Z #[110,111,98,111,100,121])
 cond q (cond (2==0) ((j3F (j,(e,(d,c))) (a.1,(a.2.1,(a.2.2.1,(a.2.2.2.1,(a.2.2.2.2.1,a.2.2.2.2.2)))))).bind λl=>cond (l != 0) (N (.inr (.inl l))) (let p:=w64 (f+1)
 N (.inl (g,i,p,j,e,d,c,b.2)))) (cond (2 != 0) (N (.inr (.inl 2))) (let m:=w64 (f+1)
 N (.inl (g,i,m,j,e,d,c,b.2))))) (cond (b.1==0) ((j3F (j,(e,(d,c))) (a.1,(a.2.1,(a.2.2.1,(a.2.2.2.1,(a.2.2.2.2.1,a.2.2.2.2.2)))))).bind λk=>cond (k != 0) (N (.inr (.inl k))) (let n:=w64 (f+1)
 N (.inl (g,i,n,j,e,d,c,b.2)))) (cond (b.1 != 0) (N (.inr (.inl b.1))) (let o:=w64 (f+1)
 N (.inl (g,i,o,j,e,d,c,b.2)))))) Y) (N (.inr (.inr (j,e,d,c))))
def Cf[LP](f:ah)(e d:L)(g:ag)(c:ah)(b:ak)(a:an)(i:M (U×Å)):S (L ⊕ (ag×ah×ak×an)):=LP.lp (unc8 j2M) (f,e,d,g,c,b,a,i)
theorem RN(f:ah)(e d:L)(g:ag)(c:ah)(b:ak)(a:an)(i:M (U×Å)):Cf f e d g c b a i=lpK (j2M f e d g c b a i) (λh=>Cf h.1 h.2.1 h.2.2.1 h.2.2.2.1 h.2.2.2.2.1 h.2.2.2.2.2.1 h.2.2.2.2.2.2.1 h.2.2.2.2.2.2.2):=bJ _ _
def j2g[LP](a:bH):S Int:=
 let m:=W a.1.length
 let l:=W a.2.1.length
 let k:=W a.2.2.1.length
 let f:Bool:=cond (cond (O (m>16)) Â (O (l>32))) Â (O (k>8))
 let j:=W a.2.2.2.length
 cond (cond f Â (O (j>12))) (N 5) ((j2w a.1).bind λd=>cond (d != 0) (N d) (let g:(M (U×Å)):=[]
 let i:=W a.2.1.length
 (Cf a.2.1 i 0 a.1 a.2.1 a.2.2.1 a.2.2.2 g).bind λn=>sumC n (λo=>N o) (λb=>(j1G b.2.2.1 b.1 b.2.1 b.2.2.1 b.2.2.2).bind λc=>cond (c != 0) (N c) ((j2v b.2.2.2 b.1 b.2.1 b.2.2.1 b.2.2.2).bind λe=>N e))))
def j5u(b:bH)(a:L):S Bool:=
 let c:=W b.2.2.2.length
 N (cond (O (a>=0)) (O (a<c)) À)
def j5U(c b:L):S ((L×L) ⊕ (L)):=cond (b != 0) (cond (!(b==0)) (let a:=Ä c b
 N (.inl (b,a))) Y) (N (.inr c))
def Fg[LP](b a:L):S Int:=LP.lp (unc2 j5U) (b,a)
theorem _6(b a):Fg b a=lpK (j5U b a) (λh=>Fg h.1 h.2):=bJ _ _
def jfS[LP](b a:L):S Int:=(Fg b a).bind λc=>N c
def j5v[LP](b:L)(a:dv):S Int:=(j2y (a.1,(a.2.1,((a.2.2.1.1,a.2.2.1.2),(a.2.2.2.1,(a.2.2.2.2.1,(a.2.2.2.2.2.1,(a.2.2.2.2.2.2.1,(a.2.2.2.2.2.2.2.1,a.2.2.2.2.2.2.2.2))))))))).bind λe=>(jfS b e.1).bind λc=>cond (!(c==0)) (let d:=w64 (È e.1 c)
 cond ((!(b==0)) || !(!(O (b>4294967296)))) (let g:=w64 (È 4294967296 b)
 cond (cond (O (b>4294967296)) Â (O (d>g))) (N 4294967297) (let f:=w64 (b*d)
 N f)) Y) Y
def j13[LP](g:L)(f:aj)(e b:L):S ((L×aj×L×L) ⊕ (L)):=cond (O (b<e)) (cond (inR b f.length) (let a:=K f b.toNat (J,(0,((0,0),(0,(0,(([]:(M L)),(([]:ae),(0,0))))))))
 (j5v g (a.1,(a.2.1,((a.2.2.1.1,a.2.2.1.2),(a.2.2.2.1,(a.2.2.2.2.1,(a.2.2.2.2.2.1,(a.2.2.2.2.2.2.1,(a.2.2.2.2.2.2.2.1,a.2.2.2.2.2.2.2.2))))))))).bind λc=>let d:=w64 (b+1)
 N (.inl (c,f,e,d))) Y) (N (.inr g))
def Cg[LP](d:L)(c:aj)(a b:L):S Int:=LP.lp (unc4 j13) (d,c,a,b)
theorem RO(d c a b):Cg d c a b=lpK (j13 d c a b) (λh=>Cg h.1 h.2.1 h.2.2.1 h.2.2.2):=bJ _ _
def j4B[LP](a:aj)(b:L):S Int:=
 let c:=W a.length
 (Cg b a c 0).bind λd=>N d
def j3v[LP](b:bH)(a:L):S (L×L):=(j2g (b.1,(b.2.1,(b.2.2.1,b.2.2.2)))).bind λf=>cond (f != 0) (N (0,8)) ((j5u (b.1,(b.2.1,(b.2.2.1,b.2.2.2))) a).bind λd=>cond (!d) (N (0,3)) (cond (inR a b.2.2.2.length) (let e:=K b.2.2.2 a.toNat (J,(([]:aj),([]:aq)))
 (j4B e.2.1 604800).bind λc=>cond (O (c>4294967296)) (N (0,5)) (N (c,0))) Y))
def jiV[LP](a:du):S (fZ×L):=(j0M (a.1,(a.2.1,a.2.2))).bind λb=>N ((a.2.1,b.1),b.2)
def j3H[LP](i:ag)(j c:L)(g:dt):S ((ag×L×L×dt) ⊕ (dt)):=cond (O (c<j)) (cond (inR c i.length) (let a:=K i c.toNat (J,(0,([]:aQ)))
 (jiV (a.1,(a.2.1,a.2.2))).bind λd=>let b:dt:=[(d.1.1,d.1.2)]
 cond (O (X g+X b<=aR)) (let e:dt:=g++b
 let f:=w64 (c+1)
 N (.inl (i,j,f,e))) Y) Y) (N (.inr g))
def Ci[LP](d:ag)(b a:L)(c:dt):S dt:=LP.lp (unc4 j3H) (d,b,a,c)
theorem RP(d b a c):Ci d b a c=lpK (j3H d b a c) (λh=>Ci h.1 h.2.1 h.2.2.1 h.2.2.2):=bJ _ _
def jeT[LP](a:ag):S dt:=
 let b:=W a.length
 (Ci a b 0 ([]:dt)).bind λc=>N c
def jfT[LP](a:bH):S kY:=(jeT a.1).bind λb=>N ((a.1,(a.2.1,(a.2.2.1,a.2.2.2))),b)
def jeU[LP](a:bH):S (kY×Å):=(j2g (a.1,(a.2.1,(a.2.2.1,a.2.2.2)))).bind λc=>cond (c != 0) (N (((([]:ag),(([]:ah),(([]:ak),([]:an)))),([]:dt)),À)) ((jfT (a.1,(a.2.1,(a.2.2.1,a.2.2.2)))).bind λb=>N (((b.1.1,(b.1.2.1,(b.1.2.2.1,b.1.2.2.2))),b.2),Â))
def j3I(a:kY)(b:L):S fZ:=cond (inR b a.2.length) (let c:=K a.2 b.toNat (0,([]:ae))
 N (c.1,c.2)) Y
def j7p(a:fZ):S Bool:=
 let b:=W a.2.length
 N (O (b>0))
def j9V(a:fZ):S Int:=
 let e:=W a.2.length
 cond (e==0) (N 0) (let d:=W a.2.length
 let b:=w64 (d-1)
 cond (inR b a.2.length) (let c:=K a.2 b.toNat (0,0)
 N c.1) Y)
def j2C(g:L)(i:ag)(d:ah)(a:ak)(c:an)(b:dt)(j:L):S (ag×ah×ak×an×dt×L):=(j3I ((i,(d,(a,c))),b) g).bind λe=>(j7p (e.1,e.2)).bind λm=>cond m ((j9V (e.1,e.2)).bind λk=>let f:=w64 (k+86400)
 let l:Int:=if f>j then f else j
 N (i,d,a,c,b,l)) (N (i,d,a,c,b,j))
def j8c(a:dv):S Int:=cond (a.2.2.2.1==2) (let b:=w64 (7*a.2.2.2.2.1)
 N b) (N a.2.2.2.2.1)
def j6X(a e:L)(b:ae)(c:L):S Bool:=cond (inR a b.length) (let d:=K b a.toNat (0,0)
 N (O (d.1>c))) Y
def j2D(k:L)(a:ae)(b f l:L):S ((L×ae×L×L×L) ⊕ (L)):=cond (O (f<l)) (let d:=w64 (f+l)
 let j:Int:=IntKind.wrap .u64 d
 let e:Int:=Ì j 2
 let c:=w64 e
 (j6X c k a b).bind λi=>cond (!i) (let g:=w64 (c+1)
 N (.inl (k,a,b,g,l))) (N (.inl (k,a,b,f,c)))) (N (.inr f))
def Fh[LP](c:L)(a:ae)(b d e:L):S Int:=LP.lp (unc5 j2D) (c,a,b,d,e)
theorem RQ(c a b d e):Fh c a b d e=lpK (j2D c a b d e) (λh=>Fh h.1 h.2.1 h.2.2.1 h.2.2.2.1 h.2.2.2.2):=bJ _ _
def jeV[LP](c d:L)(b:ae)(a:L):S Int:=(Fh d b a 0 c).bind λe=>N e
def j54[LP](a:fZ)(b:L):S Int:=
 let d:=W a.2.length
 (jeV d a.1 a.2 b).bind λc=>N c
def j3z(a:fZ)(b:L):S Int:=cond (b==0) (N a.1) (let c:=w64 (b-1)
 cond (inR c a.2.length) (let d:=K a.2 c.toNat (0,0)
 N d.2) Y)
def j1O[LP](m c j:L)(a:ae)(i:fT):S ((L×L×L×ae×fT) ⊕ (fT)):=cond (O (m<c)) ((j54 (j,a) m).bind λb=>let p:=W a.length
 cond (O (b<p)) (cond (inR b a.length) (let d:=K a b.toNat (0,0)
 let e:Int:=if d.1<c then d.1 else c
 (j3z (j,a) b).bind λo=>let f:fT:=[(m,(e,o))]
 cond (O (X i+X f<=aR)) (let k:fT:=i++f
 N (.inl (e,c,j,a,k))) Y) Y) ((j3z (j,a) b).bind λl=>let g:fT:=[(m,(c,l))]
 cond (O (X i+X g<=aR)) (let n:fT:=i++g
 N (.inl (c,c,j,a,n))) Y)) (N (.inr i))
def Cj[LP](e d c:L)(a:ae)(b:fT):S fT:=LP.lp (unc5 j1O) (e,d,c,a,b)
theorem RR(e d c a b):Cj e d c a b=lpK (j1O e d c a b) (λh=>Cj h.1 h.2.1 h.2.2.1 h.2.2.2.1 h.2.2.2.2):=bJ _ _
def j5V[LP](b:fZ)(a c:L):S fT:=(Cj a c b.1 b.2 ([]:fT)).bind λd=>N d
def j3w(a:L×L):S Int:=
 let c:Int:=if (-1048576)>a.1 then (-1048576) else a.1
 let d:Int:=if 1048576<c then 1048576 else c
 let e:=w64 (d*86400)
 let b:=w64 (e+a.2)
 N b
def j1b(j b k e:L)(f:fT):S ((L×L×L×L×fT) ⊕ ((L×Å) ⊕ Ç)):=cond (O (b<j)) (cond (inR b f.length) (let a:=K f b.toNat (0,(0,0))
 (j3w (k,e)).bind λi=>let c:=w64 (i-a.2.2)
 let d:Int:=if c>a.1 then c else a.1
 cond (O (d<a.2.1)) (N (.inr (.inl (d,Â)))) (let g:=w64 (b+1)
 N (.inl (j,g,k,e,f)))) Y) (N (.inr (.inr ())))
def Ck[LP](d b e a:L)(c:fT):S ((L×Å) ⊕ Ç):=LP.lp (unc5 j1b) (d,b,e,a,c)
theorem Fi(d b e a c):Ck d b e a c=lpK (j1b d b e a c) (λh=>Ck h.1 h.2.1 h.2.2.1 h.2.2.2.1 h.2.2.2.2):=bJ _ _
def j1l[LP](b:fZ)(a:L×L):S (L×Å):=(j5V (b.1,b.2) 0 8589934593).bind λc=>let d:=W c.length
 (Ck d 0 a.1 a.2 c).bind λe=>sumC e (λf=>N (f.1,f.2)) (λg=>N (0,À))
def j1m[LP](b:fZ)(a:dv)(c:L):S (L×Å):=cond (O (c>8589934592)) (N (0,À)) (cond (a.2.2.2.1 != 0) ((j8c (a.1,(a.2.1,((a.2.2.1.1,a.2.2.1.2),(a.2.2.2.1,(a.2.2.2.2.1,(a.2.2.2.2.2.1,(a.2.2.2.2.2.2.1,(a.2.2.2.2.2.2.2.1,a.2.2.2.2.2.2.2.2))))))))).bind λl=>let k:=w64 (c*l)
 let i:=w64 (a.2.2.1.1+k)
 (j1l (b.1,b.2) (i,a.2.2.1.2)).bind λd=>N (d.1,d.2)) ((j1l (b.1,b.2) (a.2.2.1.1,a.2.2.1.2)).bind λf=>let j:=w64 (3600*a.2.2.2.2.1)
 let g:=w64 (j*c)
 let e:=w64 (f.1+g)
 N (e,(cond f.2 (O (e<=8589934592)) À))))
def j23(i:aq)(m b:L)(p:ag)(c:ah)(g:ak)(d:an)(j:dt)(o:U)(e:aj)(f:aq)(n:L):S ((aq×L×L×ag×ah×ak×an×dt×U×aj×aq×L) ⊕ (ag×ah×ak×an×dt×U×aj×aq×L)):=cond (O (b<m)) (cond (inR b i.length) (let a:=K i b.toNat (0,(0,(0,(0,0))))
 let k:Int:=if a.2.2.2.2>n then a.2.2.2.2 else n
 let l:=w64 (b+1)
 N (.inl (i,m,l,p,c,g,d,j,o,e,f,k))) Y) (N (.inr (p,c,g,d,j,o,e,f,n)))
def Cl[LP](i:aq)(g j:L)(l:ag)(a:ah)(e:ak)(b:an)(f:dt)(k:U)(c:aj)(d:aq)(m:L):S (ag×ah×ak×an×dt×U×aj×aq×L):=LP.lp (u8 unc4 j23) (i,g,j,l,a,e,b,f,k,c,d,m)
theorem RS(i g j l a e b f k c d m):Cl i g j l a e b f k c d m=lpK (j23 i g j l a e b f k c d m) (λh=>Cl h.1 h.2.1 h.2.2.1 h.2.2.2.1 h.2.2.2.2.1 h.2.2.2.2.2.1 h.2.2.2.2.2.2.1 h.2.2.2.2.2.2.2.1 h.2.2.2.2.2.2.2.2.1 h.2.2.2.2.2.2.2.2.2.1 h.2.2.2.2.2.2.2.2.2.2.1 h.2.2.2.2.2.2.2.2.2.2.2):=bJ _ _
def j1x[LP](f:aj)(g e:L)(b4:ag)(a9:ah)(b2:ak)(b0:an)(b1:dt)(b3:L):S ((aj×L×L×ag×ah×ak×an×dt×L) ⊕ (L)):=cond (O (e<g)) (cond (inR e f.length) (let d:=K f e.toNat (J,(0,((0,0),(0,(0,(([]:(M L)),(([]:ae),(0,0))))))))
 (j2C d.2.1 b4 a9 b2 b0 b1 b3).bind λa=>(j3I ((a.1,(a.2.1,(a.2.2.1,a.2.2.2.1))),a.2.2.2.2.1) d.2.1).bind λp=>(j1m (p.1,p.2) (d.1,(d.2.1,((d.2.2.1.1,d.2.2.1.2),(d.2.2.2.1,(d.2.2.2.2.1,(d.2.2.2.2.2.1,(d.2.2.2.2.2.2.1,(d.2.2.2.2.2.2.2.1,d.2.2.2.2.2.2.2.2)))))))) 0).bind λl=>cond l.2 (let q:Int:=if l.1>a.2.2.2.2.2 then l.1 else a.2.2.2.2.2
 cond (d.2.2.2.2.2.2.2.2==0) (let a3:=w64 (e+1)
 N (.inl (f,g,a3,a.1,a.2.1,a.2.2.1,a.2.2.2.1,a.2.2.2.2.1,q))) (cond (inR d.2.2.2.2.2.2.2.1 a.2.2.1.length) (let j:=K a.2.2.1 d.2.2.2.2.2.2.2.1.toNat (J,(0,([]:(M L))))
 (j2C j.2.1 a.1 a.2.1 a.2.2.1 a.2.2.2.1 a.2.2.2.2.1 q).bind λc=>let n:=W j.2.2.length
 cond (O (n>0)) ((j3I ((c.1,(c.2.1,(c.2.2.1,c.2.2.2.1))),c.2.2.2.2.1) j.2.1).bind λu=>let s:=w64 (n-1)
 cond (inR s j.2.2.length) (let a7:=K j.2.2 s.toNat 0
 let a8:=w64 (a7+1)
 (j1l (u.1,u.2) (a8,0)).bind λm=>cond m.2 (let a1:Int:=if m.1>c.2.2.2.2.2 then m.1 else c.2.2.2.2.2
 let a4:=w64 (e+1)
 N (.inl (f,g,a4,c.1,c.2.1,c.2.2.1,c.2.2.2.1,c.2.2.2.2.1,a1))) (let z:=w64 (e+1)
 N (.inl (f,g,z,c.1,c.2.1,c.2.2.1,c.2.2.2.1,c.2.2.2.2.1,c.2.2.2.2.2)))) Y) (let x:=w64 (e+1)
 N (.inl (f,g,x,c.1,c.2.1,c.2.2.1,c.2.2.2.1,c.2.2.2.2.1,c.2.2.2.2.2)))) Y)) (cond (d.2.2.2.2.2.2.2.2==0) (let v:=w64 (e+1)
 N (.inl (f,g,v,a.1,a.2.1,a.2.2.1,a.2.2.2.1,a.2.2.2.2.1,a.2.2.2.2.2))) (cond (inR d.2.2.2.2.2.2.2.1 a.2.2.1.length) (let i:=K a.2.2.1 d.2.2.2.2.2.2.2.1.toNat (J,(0,([]:(M L))))
 (j2C i.2.1 a.1 a.2.1 a.2.2.1 a.2.2.2.1 a.2.2.2.2.1 a.2.2.2.2.2).bind λb=>let o:=W i.2.2.length
 cond (O (o>0)) ((j3I ((b.1,(b.2.1,(b.2.2.1,b.2.2.2.1))),b.2.2.2.2.1) i.2.1).bind λt=>let r:=w64 (o-1)
 cond (inR r i.2.2.length) (let a5:=K i.2.2 r.toNat 0
 let a2:=w64 (a5+1)
 (j1l (t.1,t.2) (a2,0)).bind λk=>cond k.2 (let a6:Int:=if k.1>b.2.2.2.2.2 then k.1 else b.2.2.2.2.2
 let w:=w64 (e+1)
 N (.inl (f,g,w,b.1,b.2.1,b.2.2.1,b.2.2.2.1,b.2.2.2.2.1,a6))) (let y:=w64 (e+1)
 N (.inl (f,g,y,b.1,b.2.1,b.2.2.1,b.2.2.2.1,b.2.2.2.2.1,b.2.2.2.2.2)))) Y) (let a0:=w64 (e+1)
 N (.inl (f,g,a0,b.1,b.2.1,b.2.2.1,b.2.2.2.1,b.2.2.2.2.1,b.2.2.2.2.2)))) Y))) Y) (N (.inr b3))
def Cm[LP](f:aj)(g e:L)(i:ag)(a:ah)(c:ak)(b:an)(d:dt)(j:L):S Int:=LP.lp (unc9 j1x) (f,g,e,i,a,c,b,d,j)
theorem RT(f g e i a c b d j):Cm f g e i a c b d j=lpK (j1x f g e i a c b d j) (λh=>Cm h.1 h.2.1 h.2.2.1 h.2.2.2.1 h.2.2.2.2.1 h.2.2.2.2.2.1 h.2.2.2.2.2.2.1 h.2.2.2.2.2.2.2.1 h.2.2.2.2.2.2.2.2):=bJ _ _
def j98[LP](a:kY)(b:jK):S Int:=
 let d:=W b.2.2.length
 (Cl b.2.2 d 0 a.1.1 a.1.2.1 a.1.2.2.1 a.1.2.2.2 a.2 b.1 b.2.1 b.2.2 0).bind λc=>let e:=W c.2.2.2.2.2.2.1.length
 (Cm c.2.2.2.2.2.2.1 e 0 c.1 c.2.1 c.2.2.1 c.2.2.2.1 c.2.2.2.2.1 c.2.2.2.2.2.2.2.2).bind λf=>N f
def j6J[LP](b:bH)(a:L):S Int:=(jeU (b.1,(b.2.1,(b.2.2.1,b.2.2.2)))).bind λc=>cond (!c.2) (N 0) ((j5u (b.1,(b.2.1,(b.2.2.1,b.2.2.2))) a).bind λf=>cond (!f) (N 0) (cond (inR a b.2.2.2.length) (let d:=K b.2.2.2 a.toNat (J,(([]:aj),([]:aq)))
 (j98 ((c.1.1.1,(c.1.1.2.1,(c.1.1.2.2.1,c.1.1.2.2.2))),c.1.2) (d.1,(d.2.1,d.2.2))).bind λe=>N e) Y))
def j5w[LP](a:bH)(b c:L):S (L×L):=(j3v (a.1,(a.2.1,(a.2.2.1,a.2.2.2))) b).bind λd=>cond (d.2 != 0) (N (0,d.2)) (cond (cond (O (c<0)) Â (O (c>8589934592))) (N (0,1)) ((j6J (a.1,(a.2.1,(a.2.2.1,a.2.2.2))) b).bind λe=>let f:=w64 (e+d.1)
 cond (O (c<f)) (N (c,0)) (let g:=w64 (c-e)
 cond (!(d.1==0)) (let j:=Ä g d.1
 let i:=w64 (e+j)
 N (i,0)) Y)))
def j1Y(a:aj):S aj:=N a
def j5W[LP](a:fZ)(b:L):S Int:=(j54 (a.1,a.2) b).bind λd=>(j3z (a.1,a.2) d).bind λc=>N c
def je5(a:L):S (L×L):=
 let e:=w64 (È a 86400)
 let i:=Ä a 86400
 cond (O (i<0)) (let d:=w64 (e-1)
 let g:=w64 (d*86400)
 let f:=w64 (a-g)
 N (d,f)) (let b:=w64 (e*86400)
 let c:=w64 (a-b)
 N (e,c))
def j0u[LP](a:fZ)(b:L):S (L×L):=(j5W (a.1,a.2) b).bind λd=>let e:=w64 (b+d)
 (je5 e).bind λc=>N (c.1,c.2)
def j2N[LP](p m o:L)(b:ae)(n:U)(c g j f e:L)(a:M L)(d:ae)(k i:L):S ((L×L×L×ae×U×L×L×L×L×L×(M L)×ae×L×L) ⊕ (L×L×L×ae×U×L×L×L×L×L×(M L)×ae×L×L)):=cond (O (m>0)) ((j1m (o,b) (n,(c,((g,j),(f,(e,(a,(d,(k,i)))))))) m).bind λl=>cond (cond l.2 (O (l.1<=p)) À) (N (.inr (p,m,o,b,n,c,g,j,f,e,a,d,k,i))) (let q:=w64 (m-1)
 N (.inl (p,q,o,b,n,c,g,j,f,e,a,d,k,i)))) (N (.inr (p,m,o,b,n,c,g,j,f,e,a,d,k,i)))
def Fj[LP](o l n:L)(b:ae)(m:U)(c g j f e:L)(a:M L)(d:ae)(k i:L):S (L×L×L×ae×U×L×L×L×L×L×(M L)×ae×L×L):=LP.lp (u8 unc6 j2N) (o,l,n,b,m,c,g,j,f,e,a,d,k,i)
theorem RU(o l n b m c g j f e a d k i):Fj o l n b m c g j f e a d k i=lpK (j2N o l n b m c g j f e a d k i) (λh=>Fj h.1 h.2.1 h.2.2.1 h.2.2.2.1 h.2.2.2.2.1 h.2.2.2.2.2.1 h.2.2.2.2.2.2.1 h.2.2.2.2.2.2.2.1 h.2.2.2.2.2.2.2.2.1 h.2.2.2.2.2.2.2.2.2.1 h.2.2.2.2.2.2.2.2.2.2.1 h.2.2.2.2.2.2.2.2.2.2.2.1 h.2.2.2.2.2.2.2.2.2.2.2.2.1 h.2.2.2.2.2.2.2.2.2.2.2.2.2):=bJ _ _
def j41[LP](r o q:L)(c:ae)(p:U)(d i k g f:L)(b:M L)(e:ae)(l j:L):S ((L×L×L×ae×U×L×L×L×L×L×(M L)×ae×L×L) ⊕ (L)):=
 let m:=w64 (o+1)
 (j1m (q,c) (p,(d,((i,k),(g,(f,(b,(e,(l,j)))))))) m).bind λa=>cond (cond (!a.2) Â (O (a.1>r))) (N (.inr o)) (let n:=w64 (o+1)
 N (.inl (r,n,q,c,p,d,i,k,g,f,b,e,l,j)))
def Fk[LP](o l n:L)(b:ae)(m:U)(c g j f e:L)(a:M L)(d:ae)(k i:L):S Int:=LP.lp (u8 unc6 j41) (o,l,n,b,m,c,g,j,f,e,a,d,k,i)
theorem _7(o l n b m c g j f e a d k i):Fk o l n b m c g j f e a d k i=lpK (j41 o l n b m c g j f e a d k i) (λh=>Fk h.1 h.2.1 h.2.2.1 h.2.2.2.1 h.2.2.2.2.1 h.2.2.2.2.2.1 h.2.2.2.2.2.2.1 h.2.2.2.2.2.2.2.1 h.2.2.2.2.2.2.2.2.1 h.2.2.2.2.2.2.2.2.2.1 h.2.2.2.2.2.2.2.2.2.2.1 h.2.2.2.2.2.2.2.2.2.2.2.1 h.2.2.2.2.2.2.2.2.2.2.2.2.1 h.2.2.2.2.2.2.2.2.2.2.2.2.2):=bJ _ _
def j3m[LP](c:fZ)(a:dv)(d:L):S Int:=(j1m (c.1,c.2) (a.1,(a.2.1,((a.2.2.1.1,a.2.2.1.2),(a.2.2.2.1,(a.2.2.2.2.1,(a.2.2.2.2.2.1,(a.2.2.2.2.2.2.1,(a.2.2.2.2.2.2.2.1,a.2.2.2.2.2.2.2.2)))))))) 0).bind λe=>cond (cond (!e.2) Â (O (e.1>d))) (N (-1)) (cond (a.2.2.2.1==0) (let k:=w64 (d-e.1)
 let f:=w64 (3600*a.2.2.2.2.1)
 cond (!(f==0)) (let n:=w64 (È k f)
 N n) Y) ((j0u (c.1,c.2) d).bind λj=>let m:=w64 (j.1-a.2.2.1.1)
 (j8c (a.1,(a.2.1,((a.2.2.1.1,a.2.2.1.2),(a.2.2.2.1,(a.2.2.2.2.1,(a.2.2.2.2.2.1,(a.2.2.2.2.2.2.1,(a.2.2.2.2.2.2.2.1,a.2.2.2.2.2.2.2.2))))))))).bind λg=>cond (!(g==0)) (let i:=w64 (È m g)
 let l:Int:=if i>0 then i else 0
 (Fj d l c.1 c.2 a.1 a.2.1 a.2.2.1.1 a.2.2.1.2 a.2.2.2.1 a.2.2.2.2.1 a.2.2.2.2.2.1 a.2.2.2.2.2.2.1 a.2.2.2.2.2.2.2.1 a.2.2.2.2.2.2.2.2).bind λb=>(Fk b.1 b.2.1 b.2.2.1 b.2.2.2.1 b.2.2.2.2.1 b.2.2.2.2.2.1 b.2.2.2.2.2.2.1 b.2.2.2.2.2.2.2.1 b.2.2.2.2.2.2.2.2.1 b.2.2.2.2.2.2.2.2.2.1 b.2.2.2.2.2.2.2.2.2.2.1 b.2.2.2.2.2.2.2.2.2.2.2.1 b.2.2.2.2.2.2.2.2.2.2.2.2.1 b.2.2.2.2.2.2.2.2.2.2.2.2.2).bind λo=>N o) Y))
def j3n(a:L×L):S Int:=(j4P a.1).bind λd=>let c:=w64 (d*86400)
 let b:=w64 (c+a.2)
 N b
def j55(e:L)(d:ae)(f b:L):S ((L×ae×L×L) ⊕ (Å ⊕ Ç)):=cond (O (b<f)) (cond (inR b d.length) (let a:=K d b.toNat (0,0)
 cond (cond (O (a.1<=e)) (O (e<a.2)) À) (N (.inr (.inl Â))) (let c:=w64 (b+1)
 N (.inl (e,d,f,c)))) Y) (N (.inr (.inr ())))
def Fl[LP](b:L)(c:ae)(d a:L):S (Å ⊕ Ç):=LP.lp (unc4 j55) (b,c,d,a)
theorem RW(c b d a):Fl c b d a=lpK (j55 c b d a) (λh=>Fl h.1 h.2.1 h.2.2.1 h.2.2.2):=bJ _ _
def ji9[LP](a:ae)(b:L):S Bool:=
 let d:=W a.length
 (Fl b a d 0).bind λc=>sumC c (λe=>N e) (λf=>N À)
def j9w(a:L):S Bool:=N (a != a)
def jaR(b a:L):S Bool:=(j9w b).bind λc=>cond c ((j9w a).bind λd=>N (cond (!d) Â (O (b<a)))) (N (O (b<a)))
def j6M(a:L):S Bool:=N (a != a)
def j1h(b:M L)(i l d m:L):S (((M L)×L×L×L×L) ⊕ ((M L)×L×L×L)):=cond (O (d<m)) (let k:=w64 (d+m)
 let f:Int:=IntKind.wrap .u64 k
 let e:Int:=Ì f 2
 let a:=w64 e
 cond (inR a b.length) (let g:=K b a.toNat 0
 (jaR g i).bind λj=>cond j (let c:=w64 (a+1)
 N (.inl (b,i,l,c,m))) (N (.inl (b,i,l,d,a)))) Y) (N (.inr (b,i,l,d)))
def Fm[LP](b:M L)(c d a e:L):S ((M L)×L×L×L):=LP.lp (unc5 j1h) (b,c,d,a,e)
theorem _8(b c d a e):Fm b c d a e=lpK (j1h b c d a e) (λh=>Fm h.1 h.2.1 h.2.2.1 h.2.2.2.1 h.2.2.2.2):=bJ _ _
def j1c[LP](c:M L)(b:L):S (L×Å):=
 let e:=W c.length
 (Fm c b e 0 e).bind λa=>cond ((inR a.2.2.2 a.1.length) || !(O (a.2.2.2<a.2.2.1))) (let d:=K a.1 a.2.2.2.toNat 0
 cond ((inR a.2.2.2 a.1.length) || !((O (a.2.2.2<a.2.2.1))&&(!(d==a.2.1)))) (let i:=K a.1 a.2.2.2.toNat 0
 cond (O (a.2.2.2<a.2.2.1)) (cond (d==a.2.1) (N (a.2.2.2,Â)) ((j6M i).bind λf=>cond f ((j6M a.2.1).bind λg=>N (a.2.2.2,g)) (N (a.2.2.2,À)))) (cond ((d==a.2.1) || !À) (N (a.2.2.2,À)) Y)) Y) Y
def j5x[LP](b:kY)(a:dv)(c:L):S (L×Å):=cond (cond (O (c<0)) Â (O (c>8589934592))) (N (0,À)) (cond (inR a.2.1 b.2.length) (let g:=K b.2 a.2.1.toNat (0,([]:ae))
 (j3m (g.1,g.2) (a.1,(a.2.1,((a.2.2.1.1,a.2.2.1.2),(a.2.2.2.1,(a.2.2.2.2.1,(a.2.2.2.2.2.1,(a.2.2.2.2.2.2.1,(a.2.2.2.2.2.2.2.1,a.2.2.2.2.2.2.2.2)))))))) c).bind λe=>cond (O (e<0)) (N (0,À)) (let q:=W a.2.2.2.2.2.2.1.length
 cond (O (q>0)) ((j0u (g.1,g.2) c).bind λl=>(j3n (l.1,l.2)).bind λr=>(ji9 a.2.2.2.2.2.2.1 r).bind λo=>cond (!o) (N (0,À)) (cond (a.2.2.2.2.2.2.2.2==0) (N (e,Â)) (cond (inR a.2.2.2.2.2.2.2.1 b.1.2.2.1.length) (let i:=K b.1.2.2.1 a.2.2.2.2.2.2.2.1.toNat (J,(0,([]:(M L))))
 cond (inR i.2.1 b.2.length) (let m:=K b.2 i.2.1.toNat (0,([]:ae))
 (j0u (m.1,m.2) c).bind λp=>(j1c i.2.2 p.1).bind λn=>N (e,(n.2==(a.2.2.2.2.2.2.2.2==2)))) Y) Y))) (cond (a.2.2.2.2.2.2.2.2==0) (N (e,Â)) (cond (inR a.2.2.2.2.2.2.2.1 b.1.2.2.1.length) (let d:=K b.1.2.2.1 a.2.2.2.2.2.2.2.1.toNat (J,(0,([]:(M L))))
 cond (inR d.2.1 b.2.length) (let f:=K b.2 d.2.1.toNat (0,([]:ae))
 (j0u (f.1,f.2) c).bind λj=>(j1c d.2.2 j.1).bind λk=>N (e,(k.2==(a.2.2.2.2.2.2.2.2==2)))) Y) Y)))) Y)
def j2p[LP](b:kY)(a:dv)(f:L):S Int:=(j5x ((b.1.1,(b.1.2.1,(b.1.2.2.1,b.1.2.2.2))),b.2) (a.1,(a.2.1,((a.2.2.1.1,a.2.2.1.2),(a.2.2.2.1,(a.2.2.2.2.1,(a.2.2.2.2.2.1,(a.2.2.2.2.2.2.1,(a.2.2.2.2.2.2.2.1,a.2.2.2.2.2.2.2.2)))))))) f).bind λc=>cond (!c.2) (N (-1)) (let e:=W a.2.2.2.2.2.1.length
 cond (!(e==0)) (let d:=Ä c.1 e
 cond (inR d a.2.2.2.2.2.1.length) (let g:=K a.2.2.2.2.2.1 d.toNat 0
 N g) Y) Y)
def jcf(a:mi)(d b:L):S Bool:=
 let c:Bool:=cond (cond (a.1==0) (a.2.1==d) À) (O (a.2.2.2.1<=b)) À
 N (cond c (O (b<a.2.2.2.2)) À)
def j0s(f:aq)(i b g c:L):S ((aq×L×L×L×L) ⊕ (L ⊕ Ç)):=cond (O (c<g)) (cond (inR c f.length) (let a:=K f c.toNat (0,(0,(0,(0,0))))
 (jcf (a.1,(a.2.1,(a.2.2.1,(a.2.2.2.1,a.2.2.2.2)))) i b).bind λd=>cond d (N (.inr (.inl c))) (let e:=w64 (c+1)
 N (.inl (f,i,b,g,e)))) Y) (N (.inr (.inr ())))
def Cn[LP](c:aq)(d a b e:L):S (L ⊕ Ç):=LP.lp (unc5 j0s) (c,d,a,b,e)
theorem RX(c d a b e):Cn c d a b e=lpK (j0s c d a b e) (λh=>Cn h.1 h.2.1 h.2.2.1 h.2.2.2.1 h.2.2.2.2):=bJ _ _
def j28[LP](a:aq)(c b:L):S Int:=
 let e:=W a.length
 (Cn a c b e 0).bind λd=>sumC d (λf=>N f) (λg=>N (-1))
def j1H[LP](b:aq)(c a:L):S Bool:=(j28 b c a).bind λd=>N (O (d>=0))
def je6[LP](b:jK)(a c:L):S Bool:=(j1H b.2.2 a c).bind λd=>N d
def j2O[LP](l:L)(k:aj)(q:ag)(c:ah)(f:ak)(i:an)(d:dt)(p:U)(e:aj)(g:aq)(n o r:L):S ((L×aj×ag×ah×ak×an×dt×U×aj×aq×L×L×L) ⊕ ((L×L) ⊕ (L×L))):=cond (O (l<=0)) (N (.inr (.inl (o,r)))) (cond (O (l<=W k.length)) (let j:Int:=l-1
 let a:=K k j.toNat (J,(0,((0,0),(0,(0,(([]:(M L)),(([]:ae),(0,0))))))))
 (j2p ((q,(c,(f,i))),d) (a.1,(a.2.1,((a.2.2.1.1,a.2.2.1.2),(a.2.2.2.1,(a.2.2.2.2.1,(a.2.2.2.2.2.1,(a.2.2.2.2.2.2.1,(a.2.2.2.2.2.2.2.1,a.2.2.2.2.2.2.2.2)))))))) n).bind λb=>cond (O (b<0)) (N (.inl ((l-1),k,q,c,f,i,d,p,e,g,n,o,r))) ((je6 (p,(e,g)) b n).bind λm=>cond (!m) (N (.inr (.inr (j,b)))) (N (.inl ((l-1),k,q,c,f,i,d,p,e,g,n,o,r))))) Y)
def Co[LP](n:L)(g:aj)(k:ag)(a:ah)(d:ak)(f:an)(b:dt)(j:U)(c:aj)(e:aq)(l i m:L):S ((L×L) ⊕ (L×L)):=LP.lp (u8 unc5 j2O) (n,g,k,a,d,f,b,j,c,e,l,i,m)
theorem RY(n g k a d f b j c e l i m):Co n g k a d f b j c e l i m=lpK (j2O n g k a d f b j c e l i m) (λh=>Co h.1 h.2.1 h.2.2.1 h.2.2.2.1 h.2.2.2.2.1 h.2.2.2.2.2.1 h.2.2.2.2.2.2.1 h.2.2.2.2.2.2.2.1 h.2.2.2.2.2.2.2.2.1 h.2.2.2.2.2.2.2.2.2.1 h.2.2.2.2.2.2.2.2.2.2.1 h.2.2.2.2.2.2.2.2.2.2.2.1 h.2.2.2.2.2.2.2.2.2.2.2.2):=bJ _ _
def j5X[LP](a:kY)(b:jK)(d:L):S (L×L):=(j1Y b.2.1).bind λc=>(Co (W c.length) c a.1.1 a.1.2.1 a.1.2.2.1 a.1.2.2.2 a.2 b.1 b.2.1 b.2.2 d 0 0).bind λe=>sumC e (λg=>N ((-1),(-1))) (λf=>N (f.1,f.2))
def jeX(b:mi)(a:L):S Bool:=N (cond (O (b.2.2.2.1<=a)) (O (a<b.2.2.2.2)) À)
def j4C(f e:L)(d:aq)(c b:L):S ((L×L×aq×L×L) ⊕ (L)):=cond (O (b<c)) (cond (inR b d.length) (let a:=K d b.toNat (0,(0,(0,(0,0))))
 (jeX (a.1,(a.2.1,(a.2.2.1,(a.2.2.2.1,a.2.2.2.2)))) e).bind λn=>cond (cond (!n) Â (a.1==0)) (let m:=w64 (b+1)
 N (.inl (f,e,d,c,m))) (cond (a.1==1) (let l:=w64 (b+1)
 N (.inl (a.2.1,e,d,c,l))) (cond (a.1 != 2) (let k:=w64 (b+1)
 N (.inl (f,e,d,c,k))) (cond (f==a.2.1) (let j:=w64 (b+1)
 N (.inl (a.2.2.1,e,d,c,j))) (cond (f==a.2.2.1) (let g:=w64 (b+1)
 N (.inl (a.2.1,e,d,c,g))) (let i:=w64 (b+1)
 N (.inl (f,e,d,c,i)))))))) Y) (N (.inr f))
def Cp[LP](e d:L)(c:aq)(a b:L):S Int:=LP.lp (unc5 j4C) (e,d,c,a,b)
theorem RZ(e d c a b):Cp e d c a b=lpK (j4C e d c a b) (λh=>Cp h.1 h.2.1 h.2.2.1 h.2.2.2.1 h.2.2.2.2):=bJ _ _
def jiW[LP](b:aq)(a c:L):S Int:=
 let d:=W b.length
 (Cp a c b d 0).bind λe=>N e
def jgZ[LP](a:kY)(c:jK)(b:L):S Int:=cond (cond (O (b<0)) Â (O (b>8589934592))) (N (-1)) ((j5X ((a.1.1,(a.1.2.1,(a.1.2.2.1,a.1.2.2.2))),a.2) (c.1,(c.2.1,c.2.2)) b).bind λe=>(jiW c.2.2 e.2 b).bind λd=>N d)
def jlw[LP](b:bH)(a e:L):S Int:=(jeU (b.1,(b.2.1,(b.2.2.1,b.2.2.2)))).bind λc=>cond (!c.2) (N (-1)) ((j5u (b.1,(b.2.1,(b.2.2.1,b.2.2.2))) a).bind λg=>cond (!g) (N (-1)) (cond (inR a b.2.2.2.length) (let d:=K b.2.2.2 a.toNat (J,(([]:aj),([]:aq)))
 (jgZ ((c.1.1.1,(c.1.1.2.1,(c.1.1.2.2.1,c.1.1.2.2.2))),c.1.2) (d.1,(d.2.1,d.2.2)) e).bind λf=>N f) Y))
def je7[LP](b:bH)(a c:L):S Int:=(jlw (b.1,(b.2.1,(b.2.2.1,b.2.2.2))) a c).bind λd=>N d
def jbP[LP](a:bH)(b d:L):S (L×L):=(j5w (a.1,(a.2.1,(a.2.2.1,a.2.2.2))) b d).bind λc=>cond (c.2 != 0) (N (0,c.2)) ((je7 (a.1,(a.2.1,(a.2.2.1,a.2.2.2))) b c.1).bind λe=>N (e,0))
def j7c[LP]  : S Bool:=
 let t:M Int:=[0,1,2]
 (j2y (J,(0,((0,0),(2,(1,(t,(([]:ae),(0,0))))))))).bind λe=>let d:ag:=[((Z #[122]),(0,([]:aQ)))]
 let b:ah:=[((Z #[97]),(0,(([]:ae),(0,(0,À))))),((Z #[98]),(0,(([]:ae),(0,(0,À)))))]
 let k:M Int:=[0,1,0,1,1]
 let s:M Int:=[0,0,0,1,1,0,1]
 let n:aj:=[((Z #[120]),(0,((4,0),(1,(1,(k,(([]:ae),(0,0)))))))),((Z #[121]),(0,((4,0),(1,(3,(s,(([]:ae),(0,0))))))))]
 let c:an:=[((Z #[115]),(n,([]:aq)))]
 (j3v (d,(b,(([]:ak),c))) 0).bind λa=>let j:=w64 (a.1*9)
 let l:=w64 (345600+j)
 let p:=w64 (l+5)
 (j5w (d,(b,(([]:ak),c))) 0 p).bind λf=>let q:=w64 (a.1*9)
 let o:=w64 (345600+q)
 let i:=w64 (o+5)
 (jbP (d,(b,(([]:ak),c))) 0 i).bind λg=>let m:Bool:=cond (cond (cond (e.2==0) (a.2==0) À) (f.2==0) À) (g.2==0) À
 let r:Bool:=cond (cond (cond m (e.1==1814400) À) (a.1==9072000) À) (f.1==345605) À
 N (cond r (g.1==0) À)
def jbQ(a:M L):S ((M L)×L):=N (a,0)
def j02(b:M L)(a c:L):S (L×(M L)×L):=
 let g:=W b.length
 cond (O (a>=g)) (N (0,b,a)) (cond (O (c<1)) (N (0,b,a)) (cond (inR a b.length) (let i:=K b a.toNat 0
 cond (!(c==0)) (let d:=Ä i c
 let e:=w64 (a+1)
 cond (O (d<0)) (let f:=w64 (d+c)
 N (f,b,e)) (N (d,b,e))) Y) Y))
def j03(d:M L)(b:L)(a:M L):S (L×(M L)×L):=
 let f:=W a.length
 (j02 d b f).bind λc=>cond (inR c.1 a.length) (let e:=K a c.1.toNat 0
 N (e,c.2.1,c.2.2)) Y
def j8t(a0:M L)(w:L)(a:U):S (du×(M L)×L):=
 let a8:M Int:=[0,4,(-20),22,48,(-47)]
 (j03 a0 w a8).bind λm=>(j02 m.2.1 m.2.2 2).bind λj=>(j02 j.2.1 j.2.2 3).bind λx=>let b6:=w64 (j.1*x.1)
 let b3:=w64 (m.1+b6)
 let c:=w64 (900*b3)
 (j02 x.2.1 x.2.2 2).bind λl=>let g:=w64 (2025+l.1)
 (j02 l.2.1 l.2.2 4).bind λb=>cond (b.1==1) (let b2:=w64 (c+3600)
 let a7:aQ:=[(2025,(g,(3,(5,(6,(7200,b2)))))),(2025,(g,(10,(5,(6,(10800,c))))))]
 N ((a,(c,a7)),b.2.1,b.2.2)) (cond (b.1==2) ((j02 b.2.1 b.2.2 4).bind λu=>let a5:=w64 (1+u.1)
 (j02 u.2.1 u.2.2 7).bind λi=>(j02 i.2.1 i.2.2 24).bind λr=>let a3:=w64 (3600*r.1)
 (j02 r.2.1 r.2.2 8).bind λk=>let a4:=w64 (1+k.1)
 let b4:=w64 (1800*a4)
 let a9:=w64 (c+b4)
 (j02 k.2.1 k.2.2 2).bind λv=>let a2:=w64 (2+v.1)
 let b7:M Int:=[2,3,5]
 (j03 v.2.1 v.2.2 b7).bind λt=>(j02 t.2.1 t.2.2 7).bind λp=>(j02 p.2.1 p.2.2 24).bind λq=>let b0:=w64 (3600*q.1)
 let a1:aQ:=[(2025,(g,(1,(a5,(i.1,(a3,a9)))))),(2025,(g,(a2,(t.1,(p.1,(b0,c))))))]
 N ((a,(c,a1)),q.2.1,q.2.2)) (cond (b.1==3) (let b5:M Int:=[3600,(-3600),82800,(-82800),43200]
 (j03 b.2.1 b.2.2 b5).bind λf=>let o:=w64 (c+f.1)
 cond (cond (O (o>64800)) Â (O (o<(-64800)))) ((j02 f.2.1 f.2.2 7).bind λs=>(j02 s.2.1 s.2.2 48).bind λn=>let b1:=w64 (1800*n.1)
 let a6:aQ:=[(2026,(2026,(1,(2,(s.1,(b1,0))))))]
 N ((a,(c,a6)),n.2.1,n.2.2)) ((j02 f.2.1 f.2.2 7).bind λe=>(j02 e.2.1 e.2.2 48).bind λd=>let y:=w64 (1800*d.1)
 let z:aQ:=[(2026,(2026,(1,(2,(e.1,(y,o))))))]
 N ((a,(c,z)),d.2.1,d.2.2))) (N ((a,(c,([]:aQ))),b.2.1,b.2.2))))
def jbR  : S (M U):=
 let a:M ByteArray:=[(Z #[97,100,97]),(Z #[98,111,98]),(Z #[99,108,101,111]),(Z #[100,97,110]),(Z #[101,118,101]),(Z #[102,97,121]),(Z #[103,117,115]),(Z #[104,97,108])]
 N a
def j11(d:M L)(b a:L):S (Å×(M L)×L):=(j02 d b a).bind λc=>let e:=w64 (a-1)
 N ((c.1==e),c.2.1,c.2.2)
def j1P(r p:L)(q:M L)(g:L)(n:ae):S ((L×L×(M L)×L×ae) ⊕ ((M L)×L×ae)):=cond (O (p>0)) ((j02 q g 30).bind λd=>let k:=w64 (3600*d.1)
 let m:=w64 (r+k)
 (j02 d.2.1 d.2.2 2).bind λc=>let j:=w64 (60*c.1)
 let e:=w64 (m+j)
 let o:M Int:=[3600,28800,43200,86400,61,1]
 (j03 c.2.1 c.2.2 o).bind λa=>let b:=w64 (e+a.1)
 cond (O (b>604800)) (N (.inr (a.2.1,a.2.2,n))) (let f:ae:=[(e,b)]
 cond (O (X n+X f<=aR)) (let i:ae:=n++f
 let l:=w64 (p-1)
 N (.inl (b,l,a.2.1,a.2.2,i))) Y)) (N (.inr (q,g,n)))
def Fo[LP](b d:L)(e:M L)(a:L)(c:ae):S ((M L)×L×ae):=LP.lp (unc5 j1P) (b,d,e,a,c)
theorem R0(b d e a c):Fo b d e a c=lpK (j1P b d e a c) (λh=>Fo h.1 h.2.1 h.2.2.1 h.2.2.2.1 h.2.2.2.2):=bJ _ _
def j3A[LP](b:M L)(a:L):S (ae×(M L)×L):=(j02 b a 4).bind λd=>(Fo 0 d.1 d.2.1 d.2.2 ([]:ae)).bind λc=>N (c.2.2,c.1,c.2.1)
def j2h(k:L)(l:M L)(f:L)(b:ag):S ((L×(M L)×L×ag) ⊕ ((M L)×L×ag)):=cond (O (k>0)) (let c:M ByteArray:=[(Z #[104,101,114,101]),(Z #[116,104,101,114,101])]
 let e:=W b.length
 cond (inR e c.length) (let j:=K c e.toNat J
 (j8t l f j).bind λa=>let d:ag:=[(a.1.1,(a.1.2.1,a.1.2.2))]
 cond (O (X b+X d<=aR)) (let g:ag:=b++d
 let i:=w64 (k-1)
 N (.inl (i,a.2.1,a.2.2,g))) Y) Y) (N (.inr (l,f,b)))
def Fp[LP](c:L)(d:M L)(b:L)(a:ag):S ((M L)×L×ag):=LP.lp (unc4 j2h) (c,d,b,a)
theorem R1(c d a b):Fp c d a b=lpK (j2h c d a b) (λh=>Fp h.1 h.2.1 h.2.2.1 h.2.2.2):=bJ _ _
def j2i[LP](a4:L)(a5:M L)(q:L)(g:ag)(b:ah):S ((L×(M L)×L×ag×ah) ⊕ ((M L)×L×ag×ah)):=cond (O (a4>0)) ((jbR).bind λp=>let o:=W b.length
 cond (inR o p.length) (let m:=K p o.toNat J
 let a3:=W g.length
 (j02 a5 q a3).bind λd=>(j11 d.2.1 d.2.2 3).bind λc=>(j11 c.2.1 c.2.2 2).bind λa=>cond a.1 ((j3A a.2.1 a.2.2).bind λk=>let t:M Int:=[0,40,100,12]
 (j03 k.2.1 k.2.2 t).bind λi=>let y:=w64 (3600*i.1)
 let z:M Int:=[0,11,24,1]
 (j03 i.2.1 i.2.2 z).bind λf=>let u:=w64 (3600*f.1)
 let l:ah:=[(m,(d.1,(k.1,(y,(u,c.1)))))]
 cond (O (X b+X l<=aR)) (let r:ah:=b++l
 let x:=w64 (a4-1)
 N (.inl (x,f.2.1,f.2.2,g,r))) Y) (let a0:M Int:=[0,40,100,12]
 (j03 a.2.1 a.2.2 a0).bind λe=>let s:=w64 (3600*e.1)
 let a2:M Int:=[0,11,24,1]
 (j03 e.2.1 e.2.2 a2).bind λj=>let w:=w64 (3600*j.1)
 let n:ah:=[(m,(d.1,(([]:ae),(s,(w,c.1)))))]
 cond (O (X b+X n<=aR)) (let a1:ah:=b++n
 let v:=w64 (a4-1)
 N (.inl (v,j.2.1,j.2.2,g,a1))) Y)) Y) (N (.inr (a5,q,g,b)))
def Fq[LP](e:L)(d:M L)(b:L)(c:ag)(a:ah):S ((M L)×L×ag×ah):=LP.lp (unc5 j2i) (e,d,b,c,a)
theorem R2(e d b c a):Fq e d b c a=lpK (j2i e d b c a) (λh=>Fq h.1 h.2.1 h.2.2.1 h.2.2.2.1 h.2.2.2.2):=bJ _ _
def j2j(n m p:L)(q:M L)(g:L)(o:U)(j:L)(f:ag)(d:ah)(i:ak)(c:M L):S ((L×L×L×(M L)×L×U×L×ag×ah×ak×(M L)) ⊕ (L×(M L)×L×U×L×ag×ah×ak×(M L))):=cond (O (m>0)) ((j02 q g 6).bind λa=>let k:=w64 (1+a.1)
 let b:=w64 (p+k)
 cond (O (X c+X [b]<=aR)) (let e:M Int:=c++[b]
 let l:=w64 (m-1)
 N (.inl (n,l,b,a.2.1,a.2.2,o,j,f,d,i,e))) Y) (N (.inr (n,q,g,o,j,f,d,i,c)))
def Fs[LP](j i g:L)(l:M L)(c:L)(k:U)(e:L)(b:ag)(a:ah)(d:ak)(f:M L):S (L×(M L)×L×U×L×ag×ah×ak×(M L)):=LP.lp (u8 unc3 j2j) (j,i,g,l,c,k,e,b,a,d,f)
theorem R3(j i g l c k e b a d f):Fs j i g l c k e b a d f=lpK (j2j j i g l c k e b a d f) (λh=>Fs h.1 h.2.1 h.2.2.1 h.2.2.2.1 h.2.2.2.2.1 h.2.2.2.2.2.1 h.2.2.2.2.2.2.1 h.2.2.2.2.2.2.2.1 h.2.2.2.2.2.2.2.2.1 h.2.2.2.2.2.2.2.2.2.1 h.2.2.2.2.2.2.2.2.2.2):=bJ _ _
def j2k[LP](m:L)(n:M L)(i:L)(e:ag)(g:ah)(j:ak):S ((L×(M L)×L×ag×ah×ak) ⊕ ((M L)×L×ag×ah×ak)):=cond (O (m>0)) (let k:=W e.length
 (j02 n i k).bind λc=>(j02 c.2.1 c.2.2 4).bind λb=>(Fs m b.1 20454 b.2.1 b.2.2 (Z #[100,97,121,115]) c.1 e g j ([]:(M L))).bind λa=>let d:ak:=[(a.2.2.2.1,(a.2.2.2.2.1,a.2.2.2.2.2.2.2.2))]
 cond (O (X a.2.2.2.2.2.2.2.1+X d<=aR)) (let f:ak:=a.2.2.2.2.2.2.2.1++d
 let l:=w64 (a.1-1)
 N (.inl (l,a.2.1,a.2.2.1,a.2.2.2.2.2.1,a.2.2.2.2.2.2.1,f))) Y) (N (.inr (n,i,e,g,j)))
def Ft[LP](e:L)(f:M L)(b:L)(d:ag)(a:ah)(c:ak):S ((M L)×L×ag×ah×ak):=LP.lp (unc6 j2k) (e,f,b,d,a,c)
theorem R4(e f b d a c):Ft e f b d a c=lpK (j2k e f b d a c) (λh=>Ft h.1 h.2.1 h.2.2.1 h.2.2.2.1 h.2.2.2.2.1 h.2.2.2.2.2):=bJ _ _
def j7t[LP](i:M L)(c:L):S (bH×(M L)×L):=(j02 i c 2).bind λb=>let j:=w64 (1+b.1)
 (Fp j b.2.1 b.2.2 ([]:ag)).bind λg=>(j02 g.1 g.2.1 4).bind λd=>let k:=w64 (1+d.1)
 (Fq k d.2.1 d.2.2 g.2.2 ([]:ah)).bind λf=>(j02 f.1 f.2.1 2).bind λa=>(Ft a.1 a.2.1 a.2.2 f.2.2.1 f.2.2.2 ([]:ak)).bind λe=>N ((e.2.2.1,(e.2.2.2.1,(e.2.2.2.2,([]:an)))),e.1,e.2.1)
def j2l(a2:L)(a1:M L)(k:L)(z:ag)(b:ah)(d:ak)(m:an)(y:U)(l j s n q o e:L)(a0:U)(t g p r u i f:L)(c:M L):S ((L×(M L)×L×ag×ah×ak×an×U×L×L×L×L×L×L×L×U×L×L×L×L×L×L×L×(M L)) ⊕ ((M L)×L×ag×ah×ak×an×U×L×L×L×L×L×L×L×U×L×L×L×L×L×L×L×(M L))):=cond (O (a2>0)) (let x:=W b.length
 (j02 a1 k x).bind λa=>cond (O (X c+X [a.1]<=aR)) (let w:M Int:=c++[a.1]
 let v:=w64 (a2-1)
 N (.inl (v,a.2.1,a.2.2,z,b,d,m,y,l,j,s,n,q,o,e,a0,t,g,p,r,u,i,f,w))) Y) (N (.inr (a1,k,z,b,d,m,y,l,j,s,n,q,o,e,a0,t,g,p,r,u,i,f,c)))
def Cq[LP](y:L)(x:M L)(i:L)(v:ag)(a:ah)(b:ak)(k:an)(u:U)(j g r l p m c:L)(w:U)(s e n q t f d:L)(o:M L):S ((M L)×L×ag×ah×ak×an×U×L×L×L×L×L×L×L×U×L×L×L×L×L×L×L×(M L)):=LP.lp (u8 (u8 unc8) j2l) (y,x,i,v,a,b,k,u,j,g,r,l,p,m,c,w,s,e,n,q,t,f,d,o)
theorem R5(y x i v a b k u j g r l p m c w s e n q t f d o):Cq y x i v a b k u j g r l p m c w s e n q t f d o=lpK (j2l y x i v a b k u j g r l p m c w s e n q t f d o) (λh=>Cq h.1 h.2.1 h.2.2.1 h.2.2.2.1 h.2.2.2.2.1 h.2.2.2.2.2.1 h.2.2.2.2.2.2.1 h.2.2.2.2.2.2.2.1 h.2.2.2.2.2.2.2.2.1 h.2.2.2.2.2.2.2.2.2.1 h.2.2.2.2.2.2.2.2.2.2.1 h.2.2.2.2.2.2.2.2.2.2.2.1 h.2.2.2.2.2.2.2.2.2.2.2.2.1 h.2.2.2.2.2.2.2.2.2.2.2.2.2.1 h.2.2.2.2.2.2.2.2.2.2.2.2.2.2.1 h.2.2.2.2.2.2.2.2.2.2.2.2.2.2.2.1 h.2.2.2.2.2.2.2.2.2.2.2.2.2.2.2.2.1 h.2.2.2.2.2.2.2.2.2.2.2.2.2.2.2.2.2.1 h.2.2.2.2.2.2.2.2.2.2.2.2.2.2.2.2.2.2.1 h.2.2.2.2.2.2.2.2.2.2.2.2.2.2.2.2.2.2.2.1 h.2.2.2.2.2.2.2.2.2.2.2.2.2.2.2.2.2.2.2.2.1 h.2.2.2.2.2.2.2.2.2.2.2.2.2.2.2.2.2.2.2.2.2.1 h.2.2.2.2.2.2.2.2.2.2.2.2.2.2.2.2.2.2.2.2.2.2.1 h.2.2.2.2.2.2.2.2.2.2.2.2.2.2.2.2.2.2.2.2.2.2.2):=bJ _ _
def j7u[LP](b5:M L)(a2:L)(c:bH)(j:U):S (dv×(M L)×L):=
 let b8:=W c.1.length
 (j02 b5 a2 b8).bind λw=>(j02 w.2.1 w.2.2 6).bind λa3=>let c2:=w64 (20454+a3.1)
 let b4:=w64 (c2-2)
 let b6:M Int:=[0,32400,7200,9000,79200,1]
 (j03 a3.2.1 a3.2.2 b6).bind λv=>(j02 v.2.1 v.2.2 3).bind λr=>(j02 r.2.1 r.2.2 2).bind λt=>let b9:=w64 (1+t.1)
 cond (r.1==0) (let c4:M Int:=[6,8,12,24,23,49]
 (j03 t.2.1 t.2.2 c4).bind λz=>(j02 z.2.1 z.2.2 3).bind λa0=>let c3:=w64 (1+a0.1)
 (Cq c3 a0.2.1 a0.2.2 c.1 c.2.1 c.2.2.1 c.2.2.2 J 0 0 0 0 0 0 0 j w.1 b4 v.1 r.1 z.1 0 0 ([]:(M L))).bind λb=>(j11 b.1 b.2.1 2).bind λs=>cond s.1 ((j3A s.2.1 s.2.2).bind λx=>(j11 x.2.1 x.2.2 4).bind λu=>let c0:=W b.2.2.2.2.1.length
 cond (cond u.1 (O (c0>0)) À) (let b7:=W b.2.2.2.2.1.length
 (j02 u.2.1 u.2.2 b7).bind λy=>(j02 y.2.1 y.2.2 2).bind λa1=>let c1:=w64 (1+a1.1)
 N ((b.2.2.2.2.2.2.2.2.2.2.2.2.2.2.1,(b.2.2.2.2.2.2.2.2.2.2.2.2.2.2.2.1,((b.2.2.2.2.2.2.2.2.2.2.2.2.2.2.2.2.1,b.2.2.2.2.2.2.2.2.2.2.2.2.2.2.2.2.2.1),(b.2.2.2.2.2.2.2.2.2.2.2.2.2.2.2.2.2.2.1,(b.2.2.2.2.2.2.2.2.2.2.2.2.2.2.2.2.2.2.2.1,(b.2.2.2.2.2.2.2.2.2.2.2.2.2.2.2.2.2.2.2.2.2.2,(x.1,(y.1,c1)))))))),a1.2.1,a1.2.2)) (N ((b.2.2.2.2.2.2.2.2.2.2.2.2.2.2.1,(b.2.2.2.2.2.2.2.2.2.2.2.2.2.2.2.1,((b.2.2.2.2.2.2.2.2.2.2.2.2.2.2.2.2.1,b.2.2.2.2.2.2.2.2.2.2.2.2.2.2.2.2.2.1),(b.2.2.2.2.2.2.2.2.2.2.2.2.2.2.2.2.2.2.1,(b.2.2.2.2.2.2.2.2.2.2.2.2.2.2.2.2.2.2.2.1,(b.2.2.2.2.2.2.2.2.2.2.2.2.2.2.2.2.2.2.2.2.2.2,(x.1,(b.2.2.2.2.2.2.2.2.2.2.2.2.2.2.2.2.2.2.2.2.1,b.2.2.2.2.2.2.2.2.2.2.2.2.2.2.2.2.2.2.2.2.2.1)))))))),u.2.1,u.2.2))) ((j11 s.2.1 s.2.2 4).bind λg=>let b2:=W b.2.2.2.2.1.length
 cond (cond g.1 (O (b2>0)) À) (let b1:=W b.2.2.2.2.1.length
 (j02 g.2.1 g.2.2 b1).bind λk=>(j02 k.2.1 k.2.2 2).bind λp=>let a8:=w64 (1+p.1)
 N ((b.2.2.2.2.2.2.2.2.2.2.2.2.2.2.1,(b.2.2.2.2.2.2.2.2.2.2.2.2.2.2.2.1,((b.2.2.2.2.2.2.2.2.2.2.2.2.2.2.2.2.1,b.2.2.2.2.2.2.2.2.2.2.2.2.2.2.2.2.2.1),(b.2.2.2.2.2.2.2.2.2.2.2.2.2.2.2.2.2.2.1,(b.2.2.2.2.2.2.2.2.2.2.2.2.2.2.2.2.2.2.2.1,(b.2.2.2.2.2.2.2.2.2.2.2.2.2.2.2.2.2.2.2.2.2.2,(([]:ae),(k.1,a8)))))))),p.2.1,p.2.2)) (N ((b.2.2.2.2.2.2.2.2.2.2.2.2.2.2.1,(b.2.2.2.2.2.2.2.2.2.2.2.2.2.2.2.1,((b.2.2.2.2.2.2.2.2.2.2.2.2.2.2.2.2.1,b.2.2.2.2.2.2.2.2.2.2.2.2.2.2.2.2.2.1),(b.2.2.2.2.2.2.2.2.2.2.2.2.2.2.2.2.2.2.1,(b.2.2.2.2.2.2.2.2.2.2.2.2.2.2.2.2.2.2.2.1,(b.2.2.2.2.2.2.2.2.2.2.2.2.2.2.2.2.2.2.2.2.2.2,(([]:ae),(b.2.2.2.2.2.2.2.2.2.2.2.2.2.2.2.2.2.2.2.2.1,b.2.2.2.2.2.2.2.2.2.2.2.2.2.2.2.2.2.2.2.2.2.1)))))))),g.2.1,g.2.2)))) ((j02 t.2.1 t.2.2 3).bind λo=>let b3:=w64 (1+o.1)
 (Cq b3 o.2.1 o.2.2 c.1 c.2.1 c.2.2.1 c.2.2.2 J 0 0 0 0 0 0 0 j w.1 b4 v.1 r.1 b9 0 0 ([]:(M L))).bind λa=>(j11 a.1 a.2.1 2).bind λe=>cond e.1 ((j3A e.2.1 e.2.2).bind λi=>(j11 i.2.1 i.2.2 4).bind λd=>let a6:=W a.2.2.2.2.1.length
 cond (cond d.1 (O (a6>0)) À) (let a4:=W a.2.2.2.2.1.length
 (j02 d.2.1 d.2.2 a4).bind λq=>(j02 q.2.1 q.2.2 2).bind λl=>let a7:=w64 (1+l.1)
 N ((a.2.2.2.2.2.2.2.2.2.2.2.2.2.2.1,(a.2.2.2.2.2.2.2.2.2.2.2.2.2.2.2.1,((a.2.2.2.2.2.2.2.2.2.2.2.2.2.2.2.2.1,a.2.2.2.2.2.2.2.2.2.2.2.2.2.2.2.2.2.1),(a.2.2.2.2.2.2.2.2.2.2.2.2.2.2.2.2.2.2.1,(a.2.2.2.2.2.2.2.2.2.2.2.2.2.2.2.2.2.2.2.1,(a.2.2.2.2.2.2.2.2.2.2.2.2.2.2.2.2.2.2.2.2.2.2,(i.1,(q.1,a7)))))))),l.2.1,l.2.2)) (N ((a.2.2.2.2.2.2.2.2.2.2.2.2.2.2.1,(a.2.2.2.2.2.2.2.2.2.2.2.2.2.2.2.1,((a.2.2.2.2.2.2.2.2.2.2.2.2.2.2.2.2.1,a.2.2.2.2.2.2.2.2.2.2.2.2.2.2.2.2.2.1),(a.2.2.2.2.2.2.2.2.2.2.2.2.2.2.2.2.2.2.1,(a.2.2.2.2.2.2.2.2.2.2.2.2.2.2.2.2.2.2.2.1,(a.2.2.2.2.2.2.2.2.2.2.2.2.2.2.2.2.2.2.2.2.2.2,(i.1,(a.2.2.2.2.2.2.2.2.2.2.2.2.2.2.2.2.2.2.2.2.1,a.2.2.2.2.2.2.2.2.2.2.2.2.2.2.2.2.2.2.2.2.2.1)))))))),d.2.1,d.2.2))) ((j11 e.2.1 e.2.2 4).bind λf=>let a9:=W a.2.2.2.2.1.length
 cond (cond f.1 (O (a9>0)) À) (let a5:=W a.2.2.2.2.1.length
 (j02 f.2.1 f.2.2 a5).bind λm=>(j02 m.2.1 m.2.2 2).bind λn=>let b0:=w64 (1+n.1)
 N ((a.2.2.2.2.2.2.2.2.2.2.2.2.2.2.1,(a.2.2.2.2.2.2.2.2.2.2.2.2.2.2.2.1,((a.2.2.2.2.2.2.2.2.2.2.2.2.2.2.2.2.1,a.2.2.2.2.2.2.2.2.2.2.2.2.2.2.2.2.2.1),(a.2.2.2.2.2.2.2.2.2.2.2.2.2.2.2.2.2.2.1,(a.2.2.2.2.2.2.2.2.2.2.2.2.2.2.2.2.2.2.2.1,(a.2.2.2.2.2.2.2.2.2.2.2.2.2.2.2.2.2.2.2.2.2.2,(([]:ae),(m.1,b0)))))))),n.2.1,n.2.2)) (N ((a.2.2.2.2.2.2.2.2.2.2.2.2.2.2.1,(a.2.2.2.2.2.2.2.2.2.2.2.2.2.2.2.1,((a.2.2.2.2.2.2.2.2.2.2.2.2.2.2.2.2.1,a.2.2.2.2.2.2.2.2.2.2.2.2.2.2.2.2.2.1),(a.2.2.2.2.2.2.2.2.2.2.2.2.2.2.2.2.2.2.1,(a.2.2.2.2.2.2.2.2.2.2.2.2.2.2.2.2.2.2.2.1,(a.2.2.2.2.2.2.2.2.2.2.2.2.2.2.2.2.2.2.2.2.2.2,(([]:ae),(a.2.2.2.2.2.2.2.2.2.2.2.2.2.2.2.2.2.2.2.2.1,a.2.2.2.2.2.2.2.2.2.2.2.2.2.2.2.2.2.2.2.2.2.1)))))))),f.2.1,f.2.2))))
def j3B(d:M L)(c:L):S (L×(M L)×L):=(j02 d c 576).bind λe=>let j:=w64 (3600*e.1)
 let i:=w64 (1767139200+j)
 (j11 e.2.1 e.2.2 3).bind λa=>cond a.1 (let g:M Int:=[(-1),1,1800,3599]
 (j03 a.2.1 a.2.2 g).bind λb=>let f:=w64 (i+b.1)
 N (f,b.2.1,b.2.2)) (N (i,a.2.1,a.2.2))
def j3x(n:M L)(k:L)(m:(M Ç)×((M Ç)×((M Ç)×(M Ç)))):S (mi×(M L)×L):=
 let j:=W m.2.1.length
 (j02 n k 3).bind λa=>(j02 a.2.1 a.2.2 j).bind λe=>(j3B e.2.1 e.2.2).bind λb=>let q:M Int:=[3600,86400,7,259200,40000]
 (j03 b.2.1 b.2.2 q).bind λd=>let f:=w64 (b.1+d.1)
 cond (a.1==2) (cond (O (j<2)) (N ((0,(e.1,(0,(b.1,f)))),d.2.1,d.2.2)) (let r:=w64 (e.1+1)
 let o:=w64 (j-1)
 (j02 d.2.1 d.2.2 o).bind λi=>let p:=w64 (r+i.1)
 cond (!(j==0)) (let l:=Ä p j
 cond (a.1==1) ((j11 i.2.1 i.2.2 4).bind λg=>cond g.1 (N ((a.1,((-1),(l,(b.1,f)))),g.2.1,g.2.2)) (N ((a.1,(e.1,(l,(b.1,f)))),g.2.1,g.2.2))) (N ((a.1,(e.1,(l,(b.1,f)))),i.2.1,i.2.2))) Y)) (cond (a.1==1) ((j11 d.2.1 d.2.2 4).bind λc=>cond c.1 (N ((a.1,((-1),(0,(b.1,f)))),c.2.1,c.2.2)) (N ((a.1,(e.1,(0,(b.1,f)))),c.2.1,c.2.2))) (N ((a.1,(e.1,(0,(b.1,f)))),d.2.1,d.2.2)))
def j24[LP](p r:L)(q:M L)(j:L)(n:ag)(d:ah)(c:ak)(o:U)(e:an)(b:aj):S ((L×L×(M L)×L×ag×ah×ak×U×an×aj) ⊕ (L×(M L)×L×ag×ah×ak×U×an×aj)):=cond (O (r>0)) ((jbR).bind λf=>let g:=W b.length
 cond (inR g f.length) (let k:=K f g.toNat J
 (j7u q j (n,(d,(c,e))) k).bind λa=>let i:aj:=[(a.1.1,(a.1.2.1,((a.1.2.2.1.1,a.1.2.2.1.2),(a.1.2.2.2.1,(a.1.2.2.2.2.1,(a.1.2.2.2.2.2.1,(a.1.2.2.2.2.2.2.1,(a.1.2.2.2.2.2.2.2.1,a.1.2.2.2.2.2.2.2.2))))))))]
 cond (O (X b+X i<=aR)) (let m:aj:=b++i
 let l:=w64 (r-1)
 N (.inl (p,l,a.2.1,a.2.2,n,d,c,o,e,m))) Y) Y) (N (.inr (p,q,j,n,d,c,o,e,b)))
def Fu[LP](i k:L)(j:M L)(c:L)(f:ag)(d:ah)(a:ak)(g:U)(e:an)(b:aj):S (L×(M L)×L×ag×ah×ak×U×an×aj):=LP.lp (u8 unc2 j24) (i,k,j,c,f,d,a,g,e,b)
theorem R6(i k j c f d a g e b):Fu i k j c f d a g e b=lpK (j24 i k j c f d a g e b) (λh=>Fu h.1 h.2.1 h.2.2.1 h.2.2.2.1 h.2.2.2.2.1 h.2.2.2.2.2.1 h.2.2.2.2.2.2.1 h.2.2.2.2.2.2.2.1 h.2.2.2.2.2.2.2.2.1 h.2.2.2.2.2.2.2.2.2):=bJ _ _
def j25(o m:L)(p:M L)(i:L)(l:ag)(d:ah)(b:ak)(n:U)(e:an)(g:aj)(c:aq):S ((L×L×(M L)×L×ag×ah×ak×U×an×aj×aq) ⊕ (L×(M L)×L×ag×ah×ak×U×an×aj×aq)):=cond (O (m>0)) ((j3x p i ((Ã l.length ()),((Ã d.length ()),((Ã b.length ()),(Ã e.length ()))))).bind λa=>let f:aq:=[(a.1.1,(a.1.2.1,(a.1.2.2.1,(a.1.2.2.2.1,a.1.2.2.2.2))))]
 cond (O (X c+X f<=aR)) (let k:aq:=c++f
 let j:=w64 (m-1)
 N (.inl (o,j,a.2.1,a.2.2,l,d,b,n,e,g,k))) Y) (N (.inr (o,p,i,l,d,b,n,e,g,c)))
def Fv[LP](k g:L)(l:M L)(c:L)(i:ag)(e:ah)(a:ak)(j:U)(f:an)(b:aj)(d:aq):S (L×(M L)×L×ag×ah×ak×U×an×aj×aq):=LP.lp (u8 unc3 j25) (k,g,l,c,i,e,a,j,f,b,d)
theorem R7(k g l c i e a j f b d):Fv k g l c i e a j f b d=lpK (j25 k g l c i e a j f b d) (λh=>Fv h.1 h.2.1 h.2.2.1 h.2.2.2.1 h.2.2.2.2.1 h.2.2.2.2.2.1 h.2.2.2.2.2.2.1 h.2.2.2.2.2.2.2.1 h.2.2.2.2.2.2.2.2.1 h.2.2.2.2.2.2.2.2.2.1 h.2.2.2.2.2.2.2.2.2.2):=bJ _ _
def j26[LP](r:L)(s:M L)(k:L)(q:ag)(l:ah)(j:ak)(e:an):S ((L×(M L)×L×ag×ah×ak×an) ⊕ ((M L)×L×ag×ah×ak×an)):=cond (O (r>0)) (let f:M ByteArray:=[(Z #[102,105,114,115,116]),(Z #[115,101,99,111,110,100]),(Z #[116,104,105,114,100])]
 let n:=W e.length
 let g:=Ä n 3
 cond (inR g f.length) (let m:=K f g.toNat J
 (j02 s k 4).bind λd=>(Fu r d.1 d.2.1 d.2.2 q l j m e ([]:aj)).bind λb=>(j02 b.2.1 b.2.2.1 4).bind λc=>(Fv b.1 c.1 c.2.1 c.2.2 b.2.2.2.1 b.2.2.2.2.1 b.2.2.2.2.2.1 b.2.2.2.2.2.2.1 b.2.2.2.2.2.2.2.1 b.2.2.2.2.2.2.2.2 ([]:aq)).bind λa=>let i:an:=[(a.2.2.2.2.2.2.1,(a.2.2.2.2.2.2.2.2.1,a.2.2.2.2.2.2.2.2.2))]
 cond (O (X a.2.2.2.2.2.2.2.1+X i<=aR)) (let p:an:=a.2.2.2.2.2.2.2.1++i
 let o:=w64 (a.1-1)
 N (.inl (o,a.2.1,a.2.2.1,a.2.2.2.1,a.2.2.2.2.1,a.2.2.2.2.2.1,p))) Y) Y) (N (.inr (s,k,q,l,j,e)))
def Fw[LP](f:L)(g:M L)(b:L)(e:ag)(c:ah)(a:ak)(d:an):S ((M L)×L×ag×ah×ak×an):=LP.lp (unc7 j26) (f,g,b,e,c,a,d)
theorem R8(f g b e c a d):Fw f g b e c a d=lpK (j26 f g b e c a d) (λh=>Fw h.1 h.2.1 h.2.2.1 h.2.2.2.1 h.2.2.2.2.1 h.2.2.2.2.2.1 h.2.2.2.2.2.2):=bJ _ _
def j3a[LP](f:M L)(c e:L):S (bH×(M L)×L):=(j7t f c).bind λa=>(j02 a.2.1 a.2.2 e).bind λd=>let g:=w64 (1+d.1)
 (Fw g d.2.1 d.2.2 a.1.1 a.1.2.1 a.1.2.2.1 ([]:an)).bind λb=>N ((b.2.2.1,(b.2.2.2.1,(b.2.2.2.2.1,b.2.2.2.2.2))),b.1,b.2.1)
def j5y(a:dv):S (L×L):=
 let k:Bool:=cond (cond (O (a.2.2.2.1<0)) Â (O (a.2.2.2.1>2))) Â (O (a.2.2.2.2.1<1))
 let i:=W a.2.2.2.2.2.1.length
 let f:Bool:=cond (cond k Â (O (a.2.2.2.2.1>400))) Â (O (i<1))
 let g:=W a.2.2.2.2.2.1.length
 cond (cond f Â (O (g>12))) (N (0,1)) (let j:=W a.2.2.2.2.2.1.length
 let e:=w64 (j*a.2.2.2.2.1)
 let b:M Int:=[3600,86400,604800]
 cond (inR a.2.2.2.1 b.length) (let d:=K b a.2.2.2.1.toNat 0
 let c:=w64 (e*d)
 N (c,0)) Y)
def j5Y(a:bH):S (ag×ah×ak×U×aj×aq):=cond (O (X ([]:ag)+X a.1<=aR)) (let m:ag:=([]:ag)++a.1
 cond (O (X ([]:ah)+X a.2.1<=aR)) (let j:ah:=([]:ah)++a.2.1
 cond (O (X ([]:ak)+X a.2.2.1<=aR)) (let i:ak:=([]:ak)++a.2.2.1
 let e:=W a.2.2.2.length
 cond (O (0<e)) (cond (inR 0 a.2.2.2.length) (let c:=K a.2.2.2 0 (J,(([]:aj),([]:aq)))
 cond (O (X ([]:aj)+X c.2.1<=aR)) (let f:aj:=([]:aj)++c.2.1
 cond (O (X ([]:aq)+X c.2.2<=aR)) (let g:aq:=([]:aq)++c.2.2
 let d:=W a.2.2.2.length
 cond (O (1<d)) (cond (inR 1 a.2.2.2.length) (let b:=K a.2.2.2 1 (J,(([]:aj),([]:aq)))
 cond (O (X ([]:aj)+X b.2.1<=aR)) (let l:aj:=([]:aj)++b.2.1
 cond (O (X ([]:aq)+X b.2.2<=aR)) (let k:aq:=([]:aq)++b.2.2
 Y) Y) Y) Y) (N (m,j,i,c.1,f,g))) Y) Y) Y) (Y)) Y) Y) Y
def j6r(m4:M L)(f4:L)(b0:bH):S (bH×(M L)×L):=(j5Y (b0.1,(b0.2.1,(b0.2.2.1,b0.2.2.2)))).bind λa=>(j02 m4 f4 12).bind λi=>cond (i.1==0) (let m9:=W a.1.length
 (j02 i.2.1 i.2.2 m9).bind λa6=>let m8:M Int:=[30,64800,64860,(-64800),(-64801)]
 (j03 a6.2.1 a6.2.2 m8).bind λf5=>cond (inR a6.1 a.1.length) (let n6:ag:=Á a.1 a6.1.toNat ((K a.1 a6.1.toNat (J,(0,([]:aQ)))).1,(f5.1,(K a.1 a6.1.toNat (J,(0,([]:aQ)))).2.2))
 N ((n6,(a.2.1,(a.2.2.1,[(a.2.2.2.1,(a.2.2.2.2.1,a.2.2.2.2.2))]))),f5.2.1,f5.2.2)) Y) (cond (i.1==1) (let o0:=W a.2.1.length
 (j02 i.2.1 i.2.2 o0).bind λq=>let m1:=W a.1.length
 let k4:M Int:=[(-1),m1]
 (j03 q.2.1 q.2.2 k4).bind λc3=>cond (inR q.1 a.2.1.length) (let n2:ah:=Á a.2.1 q.1.toNat ((K a.2.1 q.1.toNat (J,(0,(([]:ae),(0,(0,À)))))).1,(c3.1,((K a.2.1 q.1.toNat (J,(0,(([]:ae),(0,(0,À)))))).2.2.1,((K a.2.1 q.1.toNat (J,(0,(([]:ae),(0,(0,À)))))).2.2.2.1,((K a.2.1 q.1.toNat (J,(0,(([]:ae),(0,(0,À)))))).2.2.2.2.1,(K a.2.1 q.1.toNat (J,(0,(([]:ae),(0,(0,À)))))).2.2.2.2.2)))))
 N ((a.1,(n2,(a.2.2.1,[(a.2.2.2.1,(a.2.2.2.2.1,a.2.2.2.2.2))]))),c3.2.1,c3.2.2)) Y) (cond (i.1==2) (let l7:=W a.2.1.length
 (j02 i.2.1 i.2.2 l7).bind λm=>let e9:M ByteArray:=[(Z #[110,111,98,111,100,121]),J,(Z #[65,100,97]),(Z #[97,100,97]),(Z #[97,45,49,95,98])]
 (j02 m.2.1 m.2.2 5).bind λa7=>cond (inR a7.1 e9.length) (let k0:=K e9 a7.1.toNat J
 cond (inR m.1 a.2.1.length) (let n0:ah:=Á a.2.1 m.1.toNat (k0,((K a.2.1 m.1.toNat (J,(0,(([]:ae),(0,(0,À)))))).2.1,((K a.2.1 m.1.toNat (J,(0,(([]:ae),(0,(0,À)))))).2.2.1,((K a.2.1 m.1.toNat (J,(0,(([]:ae),(0,(0,À)))))).2.2.2.1,((K a.2.1 m.1.toNat (J,(0,(([]:ae),(0,(0,À)))))).2.2.2.2.1,(K a.2.1 m.1.toNat (J,(0,(([]:ae),(0,(0,À)))))).2.2.2.2.2)))))
 N ((a.1,(n0,(a.2.2.1,[(a.2.2.2.1,(a.2.2.2.2.1,a.2.2.2.2.2))]))),a7.2.1,a7.2.2)) Y) Y) (cond (i.1==3) (let j7:=W a.2.1.length
 (j02 i.2.1 i.2.2 j7).bind λn=>let j9:M Int:=[1,(-3600),604800,608400]
 (j03 n.2.1 n.2.2 j9).bind λc1=>cond (inR n.1 a.2.1.length) (let i0:ah:=Á a.2.1 n.1.toNat ((K a.2.1 n.1.toNat (J,(0,(([]:ae),(0,(0,À)))))).1,((K a.2.1 n.1.toNat (J,(0,(([]:ae),(0,(0,À)))))).2.1,((K a.2.1 n.1.toNat (J,(0,(([]:ae),(0,(0,À)))))).2.2.1,((K a.2.1 n.1.toNat (J,(0,(([]:ae),(0,(0,À)))))).2.2.2.1,(c1.1,(K a.2.1 n.1.toNat (J,(0,(([]:ae),(0,(0,À)))))).2.2.2.2.2)))))
 N ((a.1,(i0,(a.2.2.1,[(a.2.2.2.1,(a.2.2.2.2.1,a.2.2.2.2.2))]))),c1.2.1,c1.2.2)) Y) (cond (i.1==4) (let i7:=W a.2.1.length
 (j02 i.2.1 i.2.2 i7).bind λl=>let m6:M Int:=[0,(-1),5]
 (j03 l.2.1 l.2.2 m6).bind λc5=>let k6:M Int:=[5,604800,604801]
 (j03 c5.2.1 c5.2.2 k6).bind λb9=>let k8:ae:=[(c5.1,b9.1)]
 cond (inR l.1 a.2.1.length) (let n5:ah:=Á a.2.1 l.1.toNat ((K a.2.1 l.1.toNat (J,(0,(([]:ae),(0,(0,À)))))).1,((K a.2.1 l.1.toNat (J,(0,(([]:ae),(0,(0,À)))))).2.1,(k8,((K a.2.1 l.1.toNat (J,(0,(([]:ae),(0,(0,À)))))).2.2.2.1,((K a.2.1 l.1.toNat (J,(0,(([]:ae),(0,(0,À)))))).2.2.2.2.1,(K a.2.1 l.1.toNat (J,(0,(([]:ae),(0,(0,À)))))).2.2.2.2.2)))))
 N ((a.1,(n5,(a.2.2.1,[(a.2.2.2.1,(a.2.2.2.2.1,a.2.2.2.2.2))]))),b9.2.1,b9.2.2)) Y) (cond (i.1==5) (let d9:M ByteArray:=[(Z #[100,97,121,115]),(Z #[111,116,104,101,114])]
 (j02 i.2.1 i.2.2 2).bind λa8=>cond (inR a8.1 d9.length) (let l5:=K d9 a8.1.toNat J
 let k9:M Int:=[5,(-1)]
 (j03 a8.2.1 a8.2.2 k9).bind λc2=>let j5:M Int:=[5,6,100000]
 (j03 c2.2.1 c2.2.2 j5).bind λb6=>let j4:M Int:=[c2.1,b6.1]
 let f1:ak:=[(l5,(0,j4))]
 cond (O (X a.2.2.1+X f1<=aR)) (let k1:ak:=a.2.2.1++f1
 N ((a.1,(a.2.1,(k1,[(a.2.2.2.1,(a.2.2.2.2.1,a.2.2.2.2.2))]))),b6.2.1,b6.2.2)) Y) Y) (cond (i.1==6) (let d6:M ByteArray:=[(Z #[102,105,114,115,116]),(Z #[102,111,117,114,116,104])]
 (j02 i.2.1 i.2.2 2).bind λb1=>cond (inR b1.1 d6.length) (let k5:=K d6 b1.1.toNat J
 N ((a.1,(a.2.1,(a.2.2.1,[(a.2.2.2.1,(a.2.2.2.2.1,a.2.2.2.2.2)),(k5,(([]:aj),([]:aq)))]))),b1.2.1,b1.2.2)) Y) (cond (i.1==7) ((j02 i.2.1 i.2.2 1).bind λw=>cond (inR w.1 1) (let j0:=W a.2.2.2.2.1.length
 cond (j0==0) (N ((a.1,(a.2.1,(a.2.2.1,[(a.2.2.2.1,(a.2.2.2.2.1,a.2.2.2.2.2))]))),w.2.1,w.2.2)) (let j1:=W a.2.2.2.2.1.length
 (j02 w.2.1 w.2.2 j1).bind λd=>cond (inR d.1 a.2.2.2.2.1.length) ((j02 d.2.1 d.2.2 8).bind λg=>cond (g.1==0) (let i8:M Int:=[0,1,400,401]
 (j03 g.2.1 g.2.2 i8).bind λb8=>let o2:aj:=Á a.2.2.2.2.1 d.1.toNat ((K a.2.2.2.2.1 d.1.toNat (J,(0,((0,0),(0,(0,(([]:(M L)),(([]:ae),(0,0))))))))).1,((K a.2.2.2.2.1 d.1.toNat (J,(0,((0,0),(0,(0,(([]:(M L)),(([]:ae),(0,0))))))))).2.1,(((K a.2.2.2.2.1 d.1.toNat (J,(0,((0,0),(0,(0,(([]:(M L)),(([]:ae),(0,0))))))))).2.2.1.1,(K a.2.2.2.2.1 d.1.toNat (J,(0,((0,0),(0,(0,(([]:(M L)),(([]:ae),(0,0))))))))).2.2.1.2),((K a.2.2.2.2.1 d.1.toNat (J,(0,((0,0),(0,(0,(([]:(M L)),(([]:ae),(0,0))))))))).2.2.2.1,(b8.1,((K a.2.2.2.2.1 d.1.toNat (J,(0,((0,0),(0,(0,(([]:(M L)),(([]:ae),(0,0))))))))).2.2.2.2.2.1,((K a.2.2.2.2.1 d.1.toNat (J,(0,((0,0),(0,(0,(([]:(M L)),(([]:ae),(0,0))))))))).2.2.2.2.2.2.1,((K a.2.2.2.2.1 d.1.toNat (J,(0,((0,0),(0,(0,(([]:(M L)),(([]:ae),(0,0))))))))).2.2.2.2.2.2.2.1,(K a.2.2.2.2.1 d.1.toNat (J,(0,((0,0),(0,(0,(([]:(M L)),(([]:ae),(0,0))))))))).2.2.2.2.2.2.2.2))))))))
 N ((a.1,(a.2.1,(a.2.2.1,[(a.2.2.2.1,(o2,a.2.2.2.2.2))]))),b8.2.1,b8.2.2)) (cond (g.1==1) (let k7:M Int:=[0,1,(-5),98979,98981]
 (j03 g.2.1 g.2.2 k7).bind λb7=>let o5:aj:=Á a.2.2.2.2.1 d.1.toNat ((K a.2.2.2.2.1 d.1.toNat (J,(0,((0,0),(0,(0,(([]:(M L)),(([]:ae),(0,0))))))))).1,((K a.2.2.2.2.1 d.1.toNat (J,(0,((0,0),(0,(0,(([]:(M L)),(([]:ae),(0,0))))))))).2.1,((b7.1,(K a.2.2.2.2.1 d.1.toNat (J,(0,((0,0),(0,(0,(([]:(M L)),(([]:ae),(0,0))))))))).2.2.1.2),((K a.2.2.2.2.1 d.1.toNat (J,(0,((0,0),(0,(0,(([]:(M L)),(([]:ae),(0,0))))))))).2.2.2.1,((K a.2.2.2.2.1 d.1.toNat (J,(0,((0,0),(0,(0,(([]:(M L)),(([]:ae),(0,0))))))))).2.2.2.2.1,((K a.2.2.2.2.1 d.1.toNat (J,(0,((0,0),(0,(0,(([]:(M L)),(([]:ae),(0,0))))))))).2.2.2.2.2.1,((K a.2.2.2.2.1 d.1.toNat (J,(0,((0,0),(0,(0,(([]:(M L)),(([]:ae),(0,0))))))))).2.2.2.2.2.2.1,((K a.2.2.2.2.1 d.1.toNat (J,(0,((0,0),(0,(0,(([]:(M L)),(([]:ae),(0,0))))))))).2.2.2.2.2.2.2.1,(K a.2.2.2.2.1 d.1.toNat (J,(0,((0,0),(0,(0,(([]:(M L)),(([]:ae),(0,0))))))))).2.2.2.2.2.2.2.2))))))))
 N ((a.1,(a.2.1,(a.2.2.1,[(a.2.2.2.1,(o5,a.2.2.2.2.2))]))),b7.2.1,b7.2.2)) (cond (g.1==2) (let o4:aj:=Á a.2.2.2.2.1 d.1.toNat ((K a.2.2.2.2.1 d.1.toNat (J,(0,((0,0),(0,(0,(([]:(M L)),(([]:ae),(0,0))))))))).1,((K a.2.2.2.2.1 d.1.toNat (J,(0,((0,0),(0,(0,(([]:(M L)),(([]:ae),(0,0))))))))).2.1,(((K a.2.2.2.2.1 d.1.toNat (J,(0,((0,0),(0,(0,(([]:(M L)),(([]:ae),(0,0))))))))).2.2.1.1,(K a.2.2.2.2.1 d.1.toNat (J,(0,((0,0),(0,(0,(([]:(M L)),(([]:ae),(0,0))))))))).2.2.1.2),((K a.2.2.2.2.1 d.1.toNat (J,(0,((0,0),(0,(0,(([]:(M L)),(([]:ae),(0,0))))))))).2.2.2.1,((K a.2.2.2.2.1 d.1.toNat (J,(0,((0,0),(0,(0,(([]:(M L)),(([]:ae),(0,0))))))))).2.2.2.2.1,(([]:(M L)),((K a.2.2.2.2.1 d.1.toNat (J,(0,((0,0),(0,(0,(([]:(M L)),(([]:ae),(0,0))))))))).2.2.2.2.2.2.1,((K a.2.2.2.2.1 d.1.toNat (J,(0,((0,0),(0,(0,(([]:(M L)),(([]:ae),(0,0))))))))).2.2.2.2.2.2.2.1,(K a.2.2.2.2.1 d.1.toNat (J,(0,((0,0),(0,(0,(([]:(M L)),(([]:ae),(0,0))))))))).2.2.2.2.2.2.2.2))))))))
 N ((a.1,(a.2.1,(a.2.2.1,[(a.2.2.2.1,(o4,a.2.2.2.2.2))]))),g.2.1,g.2.2)) (cond (g.1==3) (let i5:=W a.2.1.length
 let j2:M Int:=[0,(-1),i5]
 (j03 g.2.1 g.2.2 j2).bind λb4=>let m7:aj:=Á a.2.2.2.2.1 d.1.toNat ((K a.2.2.2.2.1 d.1.toNat (J,(0,((0,0),(0,(0,(([]:(M L)),(([]:ae),(0,0))))))))).1,((K a.2.2.2.2.1 d.1.toNat (J,(0,((0,0),(0,(0,(([]:(M L)),(([]:ae),(0,0))))))))).2.1,(((K a.2.2.2.2.1 d.1.toNat (J,(0,((0,0),(0,(0,(([]:(M L)),(([]:ae),(0,0))))))))).2.2.1.1,(K a.2.2.2.2.1 d.1.toNat (J,(0,((0,0),(0,(0,(([]:(M L)),(([]:ae),(0,0))))))))).2.2.1.2),((K a.2.2.2.2.1 d.1.toNat (J,(0,((0,0),(0,(0,(([]:(M L)),(([]:ae),(0,0))))))))).2.2.2.1,((K a.2.2.2.2.1 d.1.toNat (J,(0,((0,0),(0,(0,(([]:(M L)),(([]:ae),(0,0))))))))).2.2.2.2.1,([b4.1],((K a.2.2.2.2.1 d.1.toNat (J,(0,((0,0),(0,(0,(([]:(M L)),(([]:ae),(0,0))))))))).2.2.2.2.2.2.1,((K a.2.2.2.2.1 d.1.toNat (J,(0,((0,0),(0,(0,(([]:(M L)),(([]:ae),(0,0))))))))).2.2.2.2.2.2.2.1,(K a.2.2.2.2.1 d.1.toNat (J,(0,((0,0),(0,(0,(([]:(M L)),(([]:ae),(0,0))))))))).2.2.2.2.2.2.2.2))))))))
 N ((a.1,(a.2.1,(a.2.2.1,[(a.2.2.2.1,(m7,a.2.2.2.2.2))]))),b4.2.1,b4.2.2)) (cond (g.1==4) (let l9:M Int:=[(-1),3]
 (j03 g.2.1 g.2.2 l9).bind λc4=>let i9:aj:=Á a.2.2.2.2.1 d.1.toNat ((K a.2.2.2.2.1 d.1.toNat (J,(0,((0,0),(0,(0,(([]:(M L)),(([]:ae),(0,0))))))))).1,((K a.2.2.2.2.1 d.1.toNat (J,(0,((0,0),(0,(0,(([]:(M L)),(([]:ae),(0,0))))))))).2.1,(((K a.2.2.2.2.1 d.1.toNat (J,(0,((0,0),(0,(0,(([]:(M L)),(([]:ae),(0,0))))))))).2.2.1.1,(K a.2.2.2.2.1 d.1.toNat (J,(0,((0,0),(0,(0,(([]:(M L)),(([]:ae),(0,0))))))))).2.2.1.2),(c4.1,((K a.2.2.2.2.1 d.1.toNat (J,(0,((0,0),(0,(0,(([]:(M L)),(([]:ae),(0,0))))))))).2.2.2.2.1,((K a.2.2.2.2.1 d.1.toNat (J,(0,((0,0),(0,(0,(([]:(M L)),(([]:ae),(0,0))))))))).2.2.2.2.2.1,((K a.2.2.2.2.1 d.1.toNat (J,(0,((0,0),(0,(0,(([]:(M L)),(([]:ae),(0,0))))))))).2.2.2.2.2.2.1,((K a.2.2.2.2.1 d.1.toNat (J,(0,((0,0),(0,(0,(([]:(M L)),(([]:ae),(0,0))))))))).2.2.2.2.2.2.2.1,(K a.2.2.2.2.1 d.1.toNat (J,(0,((0,0),(0,(0,(([]:(M L)),(([]:ae),(0,0))))))))).2.2.2.2.2.2.2.2))))))))
 N ((a.1,(a.2.1,(a.2.2.1,[(a.2.2.2.1,(i9,a.2.2.2.2.2))]))),c4.2.1,c4.2.2)) (cond (g.1==5) (let l6:M Int:=[0,1,2,3]
 (j03 g.2.1 g.2.2 l6).bind λb5=>let m5:aj:=Á a.2.2.2.2.1 d.1.toNat ((K a.2.2.2.2.1 d.1.toNat (J,(0,((0,0),(0,(0,(([]:(M L)),(([]:ae),(0,0))))))))).1,((K a.2.2.2.2.1 d.1.toNat (J,(0,((0,0),(0,(0,(([]:(M L)),(([]:ae),(0,0))))))))).2.1,(((K a.2.2.2.2.1 d.1.toNat (J,(0,((0,0),(0,(0,(([]:(M L)),(([]:ae),(0,0))))))))).2.2.1.1,(K a.2.2.2.2.1 d.1.toNat (J,(0,((0,0),(0,(0,(([]:(M L)),(([]:ae),(0,0))))))))).2.2.1.2),((K a.2.2.2.2.1 d.1.toNat (J,(0,((0,0),(0,(0,(([]:(M L)),(([]:ae),(0,0))))))))).2.2.2.1,((K a.2.2.2.2.1 d.1.toNat (J,(0,((0,0),(0,(0,(([]:(M L)),(([]:ae),(0,0))))))))).2.2.2.2.1,((K a.2.2.2.2.1 d.1.toNat (J,(0,((0,0),(0,(0,(([]:(M L)),(([]:ae),(0,0))))))))).2.2.2.2.2.1,((K a.2.2.2.2.1 d.1.toNat (J,(0,((0,0),(0,(0,(([]:(M L)),(([]:ae),(0,0))))))))).2.2.2.2.2.2.1,((K a.2.2.2.2.1 d.1.toNat (J,(0,((0,0),(0,(0,(([]:(M L)),(([]:ae),(0,0))))))))).2.2.2.2.2.2.2.1,b5.1))))))))
 N ((a.1,(a.2.1,(a.2.2.1,[(a.2.2.2.1,(m5,a.2.2.2.2.2))]))),b5.2.1,b5.2.2)) (cond (g.1==6) (let l0:M Int:=[0,1,(-1)]
 (j03 g.2.1 g.2.2 l0).bind λc0=>let j8:aj:=Á a.2.2.2.2.1 d.1.toNat ((K a.2.2.2.2.1 d.1.toNat (J,(0,((0,0),(0,(0,(([]:(M L)),(([]:ae),(0,0))))))))).1,((K a.2.2.2.2.1 d.1.toNat (J,(0,((0,0),(0,(0,(([]:(M L)),(([]:ae),(0,0))))))))).2.1,(((K a.2.2.2.2.1 d.1.toNat (J,(0,((0,0),(0,(0,(([]:(M L)),(([]:ae),(0,0))))))))).2.2.1.1,(K a.2.2.2.2.1 d.1.toNat (J,(0,((0,0),(0,(0,(([]:(M L)),(([]:ae),(0,0))))))))).2.2.1.2),((K a.2.2.2.2.1 d.1.toNat (J,(0,((0,0),(0,(0,(([]:(M L)),(([]:ae),(0,0))))))))).2.2.2.1,((K a.2.2.2.2.1 d.1.toNat (J,(0,((0,0),(0,(0,(([]:(M L)),(([]:ae),(0,0))))))))).2.2.2.2.1,((K a.2.2.2.2.1 d.1.toNat (J,(0,((0,0),(0,(0,(([]:(M L)),(([]:ae),(0,0))))))))).2.2.2.2.2.1,((K a.2.2.2.2.1 d.1.toNat (J,(0,((0,0),(0,(0,(([]:(M L)),(([]:ae),(0,0))))))))).2.2.2.2.2.2.1,(c0.1,(K a.2.2.2.2.1 d.1.toNat (J,(0,((0,0),(0,(0,(([]:(M L)),(([]:ae),(0,0))))))))).2.2.2.2.2.2.2.2))))))))
 N ((a.1,(a.2.1,(a.2.2.1,[(a.2.2.2.1,(j8,a.2.2.2.2.2))]))),c0.2.1,c0.2.2)) (cond (g.1==7) (let f8:M ByteArray:=[(Z #[97,100,97]),(Z #[98,111,98]),(Z #[120,32,121])]
 (j02 g.2.1 g.2.2 3).bind λa9=>cond (inR a9.1 f8.length) (let l8:=K f8 a9.1.toNat J
 let o3:aj:=Á a.2.2.2.2.1 d.1.toNat (l8,((K a.2.2.2.2.1 d.1.toNat (J,(0,((0,0),(0,(0,(([]:(M L)),(([]:ae),(0,0))))))))).2.1,(((K a.2.2.2.2.1 d.1.toNat (J,(0,((0,0),(0,(0,(([]:(M L)),(([]:ae),(0,0))))))))).2.2.1.1,(K a.2.2.2.2.1 d.1.toNat (J,(0,((0,0),(0,(0,(([]:(M L)),(([]:ae),(0,0))))))))).2.2.1.2),((K a.2.2.2.2.1 d.1.toNat (J,(0,((0,0),(0,(0,(([]:(M L)),(([]:ae),(0,0))))))))).2.2.2.1,((K a.2.2.2.2.1 d.1.toNat (J,(0,((0,0),(0,(0,(([]:(M L)),(([]:ae),(0,0))))))))).2.2.2.2.1,((K a.2.2.2.2.1 d.1.toNat (J,(0,((0,0),(0,(0,(([]:(M L)),(([]:ae),(0,0))))))))).2.2.2.2.2.1,((K a.2.2.2.2.1 d.1.toNat (J,(0,((0,0),(0,(0,(([]:(M L)),(([]:ae),(0,0))))))))).2.2.2.2.2.2.1,((K a.2.2.2.2.1 d.1.toNat (J,(0,((0,0),(0,(0,(([]:(M L)),(([]:ae),(0,0))))))))).2.2.2.2.2.2.2.1,(K a.2.2.2.2.1 d.1.toNat (J,(0,((0,0),(0,(0,(([]:(M L)),(([]:ae),(0,0))))))))).2.2.2.2.2.2.2.2))))))))
 N ((a.1,(a.2.1,(a.2.2.1,[(a.2.2.2.1,(o3,a.2.2.2.2.2))]))),a9.2.1,a9.2.2)) Y) (N ((a.1,(a.2.1,(a.2.2.1,[(a.2.2.2.1,(a.2.2.2.2.1,a.2.2.2.2.2))]))),g.2.1,g.2.2)))))))))) Y)) Y) (cond (i.1==8) ((j02 i.2.1 i.2.2 1).bind λo=>cond (inR o.1 1) (let f7:=W a.2.2.2.2.1.length
 cond (f7==0) (N ((a.1,(a.2.1,(a.2.2.1,[(a.2.2.2.1,(a.2.2.2.2.1,a.2.2.2.2.2))]))),o.2.1,o.2.2)) (let g0:=W a.2.2.2.2.1.length
 (j02 o.2.1 o.2.2 g0).bind λb=>cond (inR b.1 a.2.2.2.2.1.length) ((j02 b.2.1 b.2.2 8).bind λe=>cond (e.1==0) (let e8:M Int:=[0,1,400,401]
 (j03 e.2.1 e.2.2 e8).bind λz=>let k3:aj:=Á a.2.2.2.2.1 b.1.toNat ((K a.2.2.2.2.1 b.1.toNat (J,(0,((0,0),(0,(0,(([]:(M L)),(([]:ae),(0,0))))))))).1,((K a.2.2.2.2.1 b.1.toNat (J,(0,((0,0),(0,(0,(([]:(M L)),(([]:ae),(0,0))))))))).2.1,(((K a.2.2.2.2.1 b.1.toNat (J,(0,((0,0),(0,(0,(([]:(M L)),(([]:ae),(0,0))))))))).2.2.1.1,(K a.2.2.2.2.1 b.1.toNat (J,(0,((0,0),(0,(0,(([]:(M L)),(([]:ae),(0,0))))))))).2.2.1.2),((K a.2.2.2.2.1 b.1.toNat (J,(0,((0,0),(0,(0,(([]:(M L)),(([]:ae),(0,0))))))))).2.2.2.1,(z.1,((K a.2.2.2.2.1 b.1.toNat (J,(0,((0,0),(0,(0,(([]:(M L)),(([]:ae),(0,0))))))))).2.2.2.2.2.1,((K a.2.2.2.2.1 b.1.toNat (J,(0,((0,0),(0,(0,(([]:(M L)),(([]:ae),(0,0))))))))).2.2.2.2.2.2.1,((K a.2.2.2.2.1 b.1.toNat (J,(0,((0,0),(0,(0,(([]:(M L)),(([]:ae),(0,0))))))))).2.2.2.2.2.2.2.1,(K a.2.2.2.2.1 b.1.toNat (J,(0,((0,0),(0,(0,(([]:(M L)),(([]:ae),(0,0))))))))).2.2.2.2.2.2.2.2))))))))
 N ((a.1,(a.2.1,(a.2.2.1,[(a.2.2.2.1,(k3,a.2.2.2.2.2))]))),z.2.1,z.2.2)) (cond (e.1==1) (let d8:M Int:=[0,1,(-5),98979,98981]
 (j03 e.2.1 e.2.2 d8).bind λx=>let k2:aj:=Á a.2.2.2.2.1 b.1.toNat ((K a.2.2.2.2.1 b.1.toNat (J,(0,((0,0),(0,(0,(([]:(M L)),(([]:ae),(0,0))))))))).1,((K a.2.2.2.2.1 b.1.toNat (J,(0,((0,0),(0,(0,(([]:(M L)),(([]:ae),(0,0))))))))).2.1,((x.1,(K a.2.2.2.2.1 b.1.toNat (J,(0,((0,0),(0,(0,(([]:(M L)),(([]:ae),(0,0))))))))).2.2.1.2),((K a.2.2.2.2.1 b.1.toNat (J,(0,((0,0),(0,(0,(([]:(M L)),(([]:ae),(0,0))))))))).2.2.2.1,((K a.2.2.2.2.1 b.1.toNat (J,(0,((0,0),(0,(0,(([]:(M L)),(([]:ae),(0,0))))))))).2.2.2.2.1,((K a.2.2.2.2.1 b.1.toNat (J,(0,((0,0),(0,(0,(([]:(M L)),(([]:ae),(0,0))))))))).2.2.2.2.2.1,((K a.2.2.2.2.1 b.1.toNat (J,(0,((0,0),(0,(0,(([]:(M L)),(([]:ae),(0,0))))))))).2.2.2.2.2.2.1,((K a.2.2.2.2.1 b.1.toNat (J,(0,((0,0),(0,(0,(([]:(M L)),(([]:ae),(0,0))))))))).2.2.2.2.2.2.2.1,(K a.2.2.2.2.1 b.1.toNat (J,(0,((0,0),(0,(0,(([]:(M L)),(([]:ae),(0,0))))))))).2.2.2.2.2.2.2.2))))))))
 N ((a.1,(a.2.1,(a.2.2.1,[(a.2.2.2.1,(k2,a.2.2.2.2.2))]))),x.2.1,x.2.2)) (cond (e.1==2) (let m3:aj:=Á a.2.2.2.2.1 b.1.toNat ((K a.2.2.2.2.1 b.1.toNat (J,(0,((0,0),(0,(0,(([]:(M L)),(([]:ae),(0,0))))))))).1,((K a.2.2.2.2.1 b.1.toNat (J,(0,((0,0),(0,(0,(([]:(M L)),(([]:ae),(0,0))))))))).2.1,(((K a.2.2.2.2.1 b.1.toNat (J,(0,((0,0),(0,(0,(([]:(M L)),(([]:ae),(0,0))))))))).2.2.1.1,(K a.2.2.2.2.1 b.1.toNat (J,(0,((0,0),(0,(0,(([]:(M L)),(([]:ae),(0,0))))))))).2.2.1.2),((K a.2.2.2.2.1 b.1.toNat (J,(0,((0,0),(0,(0,(([]:(M L)),(([]:ae),(0,0))))))))).2.2.2.1,((K a.2.2.2.2.1 b.1.toNat (J,(0,((0,0),(0,(0,(([]:(M L)),(([]:ae),(0,0))))))))).2.2.2.2.1,(([]:(M L)),((K a.2.2.2.2.1 b.1.toNat (J,(0,((0,0),(0,(0,(([]:(M L)),(([]:ae),(0,0))))))))).2.2.2.2.2.2.1,((K a.2.2.2.2.1 b.1.toNat (J,(0,((0,0),(0,(0,(([]:(M L)),(([]:ae),(0,0))))))))).2.2.2.2.2.2.2.1,(K a.2.2.2.2.1 b.1.toNat (J,(0,((0,0),(0,(0,(([]:(M L)),(([]:ae),(0,0))))))))).2.2.2.2.2.2.2.2))))))))
 N ((a.1,(a.2.1,(a.2.2.1,[(a.2.2.2.1,(m3,a.2.2.2.2.2))]))),e.2.1,e.2.2)) (cond (e.1==3) (let e3:=W a.2.1.length
 let d7:M Int:=[0,(-1),e3]
 (j03 e.2.1 e.2.2 d7).bind λv=>let g9:aj:=Á a.2.2.2.2.1 b.1.toNat ((K a.2.2.2.2.1 b.1.toNat (J,(0,((0,0),(0,(0,(([]:(M L)),(([]:ae),(0,0))))))))).1,((K a.2.2.2.2.1 b.1.toNat (J,(0,((0,0),(0,(0,(([]:(M L)),(([]:ae),(0,0))))))))).2.1,(((K a.2.2.2.2.1 b.1.toNat (J,(0,((0,0),(0,(0,(([]:(M L)),(([]:ae),(0,0))))))))).2.2.1.1,(K a.2.2.2.2.1 b.1.toNat (J,(0,((0,0),(0,(0,(([]:(M L)),(([]:ae),(0,0))))))))).2.2.1.2),((K a.2.2.2.2.1 b.1.toNat (J,(0,((0,0),(0,(0,(([]:(M L)),(([]:ae),(0,0))))))))).2.2.2.1,((K a.2.2.2.2.1 b.1.toNat (J,(0,((0,0),(0,(0,(([]:(M L)),(([]:ae),(0,0))))))))).2.2.2.2.1,([v.1],((K a.2.2.2.2.1 b.1.toNat (J,(0,((0,0),(0,(0,(([]:(M L)),(([]:ae),(0,0))))))))).2.2.2.2.2.2.1,((K a.2.2.2.2.1 b.1.toNat (J,(0,((0,0),(0,(0,(([]:(M L)),(([]:ae),(0,0))))))))).2.2.2.2.2.2.2.1,(K a.2.2.2.2.1 b.1.toNat (J,(0,((0,0),(0,(0,(([]:(M L)),(([]:ae),(0,0))))))))).2.2.2.2.2.2.2.2))))))))
 N ((a.1,(a.2.1,(a.2.2.1,[(a.2.2.2.1,(g9,a.2.2.2.2.2))]))),v.2.1,v.2.2)) (cond (e.1==4) (let d1:M Int:=[(-1),3]
 (j03 e.2.1 e.2.2 d1).bind λu=>let j6:aj:=Á a.2.2.2.2.1 b.1.toNat ((K a.2.2.2.2.1 b.1.toNat (J,(0,((0,0),(0,(0,(([]:(M L)),(([]:ae),(0,0))))))))).1,((K a.2.2.2.2.1 b.1.toNat (J,(0,((0,0),(0,(0,(([]:(M L)),(([]:ae),(0,0))))))))).2.1,(((K a.2.2.2.2.1 b.1.toNat (J,(0,((0,0),(0,(0,(([]:(M L)),(([]:ae),(0,0))))))))).2.2.1.1,(K a.2.2.2.2.1 b.1.toNat (J,(0,((0,0),(0,(0,(([]:(M L)),(([]:ae),(0,0))))))))).2.2.1.2),(u.1,((K a.2.2.2.2.1 b.1.toNat (J,(0,((0,0),(0,(0,(([]:(M L)),(([]:ae),(0,0))))))))).2.2.2.2.1,((K a.2.2.2.2.1 b.1.toNat (J,(0,((0,0),(0,(0,(([]:(M L)),(([]:ae),(0,0))))))))).2.2.2.2.2.1,((K a.2.2.2.2.1 b.1.toNat (J,(0,((0,0),(0,(0,(([]:(M L)),(([]:ae),(0,0))))))))).2.2.2.2.2.2.1,((K a.2.2.2.2.1 b.1.toNat (J,(0,((0,0),(0,(0,(([]:(M L)),(([]:ae),(0,0))))))))).2.2.2.2.2.2.2.1,(K a.2.2.2.2.1 b.1.toNat (J,(0,((0,0),(0,(0,(([]:(M L)),(([]:ae),(0,0))))))))).2.2.2.2.2.2.2.2))))))))
 N ((a.1,(a.2.1,(a.2.2.1,[(a.2.2.2.1,(j6,a.2.2.2.2.2))]))),u.2.1,u.2.2)) (cond (e.1==5) (let d2:M Int:=[0,1,2,3]
 (j03 e.2.1 e.2.2 d2).bind λa1=>let l1:aj:=Á a.2.2.2.2.1 b.1.toNat ((K a.2.2.2.2.1 b.1.toNat (J,(0,((0,0),(0,(0,(([]:(M L)),(([]:ae),(0,0))))))))).1,((K a.2.2.2.2.1 b.1.toNat (J,(0,((0,0),(0,(0,(([]:(M L)),(([]:ae),(0,0))))))))).2.1,(((K a.2.2.2.2.1 b.1.toNat (J,(0,((0,0),(0,(0,(([]:(M L)),(([]:ae),(0,0))))))))).2.2.1.1,(K a.2.2.2.2.1 b.1.toNat (J,(0,((0,0),(0,(0,(([]:(M L)),(([]:ae),(0,0))))))))).2.2.1.2),((K a.2.2.2.2.1 b.1.toNat (J,(0,((0,0),(0,(0,(([]:(M L)),(([]:ae),(0,0))))))))).2.2.2.1,((K a.2.2.2.2.1 b.1.toNat (J,(0,((0,0),(0,(0,(([]:(M L)),(([]:ae),(0,0))))))))).2.2.2.2.1,((K a.2.2.2.2.1 b.1.toNat (J,(0,((0,0),(0,(0,(([]:(M L)),(([]:ae),(0,0))))))))).2.2.2.2.2.1,((K a.2.2.2.2.1 b.1.toNat (J,(0,((0,0),(0,(0,(([]:(M L)),(([]:ae),(0,0))))))))).2.2.2.2.2.2.1,((K a.2.2.2.2.1 b.1.toNat (J,(0,((0,0),(0,(0,(([]:(M L)),(([]:ae),(0,0))))))))).2.2.2.2.2.2.2.1,a1.1))))))))
 N ((a.1,(a.2.1,(a.2.2.1,[(a.2.2.2.1,(l1,a.2.2.2.2.2))]))),a1.2.1,a1.2.2)) (cond (e.1==6) (let e7:M Int:=[0,1,(-1)]
 (j03 e.2.1 e.2.2 e7).bind λy=>let m0:aj:=Á a.2.2.2.2.1 b.1.toNat ((K a.2.2.2.2.1 b.1.toNat (J,(0,((0,0),(0,(0,(([]:(M L)),(([]:ae),(0,0))))))))).1,((K a.2.2.2.2.1 b.1.toNat (J,(0,((0,0),(0,(0,(([]:(M L)),(([]:ae),(0,0))))))))).2.1,(((K a.2.2.2.2.1 b.1.toNat (J,(0,((0,0),(0,(0,(([]:(M L)),(([]:ae),(0,0))))))))).2.2.1.1,(K a.2.2.2.2.1 b.1.toNat (J,(0,((0,0),(0,(0,(([]:(M L)),(([]:ae),(0,0))))))))).2.2.1.2),((K a.2.2.2.2.1 b.1.toNat (J,(0,((0,0),(0,(0,(([]:(M L)),(([]:ae),(0,0))))))))).2.2.2.1,((K a.2.2.2.2.1 b.1.toNat (J,(0,((0,0),(0,(0,(([]:(M L)),(([]:ae),(0,0))))))))).2.2.2.2.1,((K a.2.2.2.2.1 b.1.toNat (J,(0,((0,0),(0,(0,(([]:(M L)),(([]:ae),(0,0))))))))).2.2.2.2.2.1,((K a.2.2.2.2.1 b.1.toNat (J,(0,((0,0),(0,(0,(([]:(M L)),(([]:ae),(0,0))))))))).2.2.2.2.2.2.1,(y.1,(K a.2.2.2.2.1 b.1.toNat (J,(0,((0,0),(0,(0,(([]:(M L)),(([]:ae),(0,0))))))))).2.2.2.2.2.2.2.2))))))))
 N ((a.1,(a.2.1,(a.2.2.1,[(a.2.2.2.1,(m0,a.2.2.2.2.2))]))),y.2.1,y.2.2)) (cond (e.1==7) (let b2:M ByteArray:=[(Z #[97,100,97]),(Z #[98,111,98]),(Z #[120,32,121])]
 (j02 e.2.1 e.2.2 3).bind λs=>cond (inR s.1 b2.length) (let f6:=K b2 s.1.toNat J
 let m2:aj:=Á a.2.2.2.2.1 b.1.toNat (f6,((K a.2.2.2.2.1 b.1.toNat (J,(0,((0,0),(0,(0,(([]:(M L)),(([]:ae),(0,0))))))))).2.1,(((K a.2.2.2.2.1 b.1.toNat (J,(0,((0,0),(0,(0,(([]:(M L)),(([]:ae),(0,0))))))))).2.2.1.1,(K a.2.2.2.2.1 b.1.toNat (J,(0,((0,0),(0,(0,(([]:(M L)),(([]:ae),(0,0))))))))).2.2.1.2),((K a.2.2.2.2.1 b.1.toNat (J,(0,((0,0),(0,(0,(([]:(M L)),(([]:ae),(0,0))))))))).2.2.2.1,((K a.2.2.2.2.1 b.1.toNat (J,(0,((0,0),(0,(0,(([]:(M L)),(([]:ae),(0,0))))))))).2.2.2.2.1,((K a.2.2.2.2.1 b.1.toNat (J,(0,((0,0),(0,(0,(([]:(M L)),(([]:ae),(0,0))))))))).2.2.2.2.2.1,((K a.2.2.2.2.1 b.1.toNat (J,(0,((0,0),(0,(0,(([]:(M L)),(([]:ae),(0,0))))))))).2.2.2.2.2.2.1,((K a.2.2.2.2.1 b.1.toNat (J,(0,((0,0),(0,(0,(([]:(M L)),(([]:ae),(0,0))))))))).2.2.2.2.2.2.2.1,(K a.2.2.2.2.1 b.1.toNat (J,(0,((0,0),(0,(0,(([]:(M L)),(([]:ae),(0,0))))))))).2.2.2.2.2.2.2.2))))))))
 N ((a.1,(a.2.1,(a.2.2.1,[(a.2.2.2.1,(m2,a.2.2.2.2.2))]))),s.2.1,s.2.2)) Y) (N ((a.1,(a.2.1,(a.2.2.1,[(a.2.2.2.1,(a.2.2.2.2.1,a.2.2.2.2.2))]))),e.2.1,e.2.2)))))))))) Y)) Y) (cond (i.1==9) ((j02 i.2.1 i.2.2 1).bind λp=>cond (inR p.1 1) (let d3:=W a.2.2.2.2.1.length
 cond (d3==0) (N ((a.1,(a.2.1,(a.2.2.1,[(a.2.2.2.1,(a.2.2.2.2.1,a.2.2.2.2.2))]))),p.2.1,p.2.2)) (let e5:=W a.2.2.2.2.1.length
 (j02 p.2.1 p.2.2 e5).bind λc=>cond (inR c.1 a.2.2.2.2.1.length) ((j02 c.2.1 c.2.2 8).bind λf=>cond (f.1==0) (let d4:M Int:=[0,1,400,401]
 (j03 f.2.1 f.2.2 d4).bind λa4=>let l4:aj:=Á a.2.2.2.2.1 c.1.toNat ((K a.2.2.2.2.1 c.1.toNat (J,(0,((0,0),(0,(0,(([]:(M L)),(([]:ae),(0,0))))))))).1,((K a.2.2.2.2.1 c.1.toNat (J,(0,((0,0),(0,(0,(([]:(M L)),(([]:ae),(0,0))))))))).2.1,(((K a.2.2.2.2.1 c.1.toNat (J,(0,((0,0),(0,(0,(([]:(M L)),(([]:ae),(0,0))))))))).2.2.1.1,(K a.2.2.2.2.1 c.1.toNat (J,(0,((0,0),(0,(0,(([]:(M L)),(([]:ae),(0,0))))))))).2.2.1.2),((K a.2.2.2.2.1 c.1.toNat (J,(0,((0,0),(0,(0,(([]:(M L)),(([]:ae),(0,0))))))))).2.2.2.1,(a4.1,((K a.2.2.2.2.1 c.1.toNat (J,(0,((0,0),(0,(0,(([]:(M L)),(([]:ae),(0,0))))))))).2.2.2.2.2.1,((K a.2.2.2.2.1 c.1.toNat (J,(0,((0,0),(0,(0,(([]:(M L)),(([]:ae),(0,0))))))))).2.2.2.2.2.2.1,((K a.2.2.2.2.1 c.1.toNat (J,(0,((0,0),(0,(0,(([]:(M L)),(([]:ae),(0,0))))))))).2.2.2.2.2.2.2.1,(K a.2.2.2.2.1 c.1.toNat (J,(0,((0,0),(0,(0,(([]:(M L)),(([]:ae),(0,0))))))))).2.2.2.2.2.2.2.2))))))))
 N ((a.1,(a.2.1,(a.2.2.1,[(a.2.2.2.1,(l4,a.2.2.2.2.2))]))),a4.2.1,a4.2.2)) (cond (f.1==1) (let f2:M Int:=[0,1,(-5),98979,98981]
 (j03 f.2.1 f.2.2 f2).bind λa5=>let i6:aj:=Á a.2.2.2.2.1 c.1.toNat ((K a.2.2.2.2.1 c.1.toNat (J,(0,((0,0),(0,(0,(([]:(M L)),(([]:ae),(0,0))))))))).1,((K a.2.2.2.2.1 c.1.toNat (J,(0,((0,0),(0,(0,(([]:(M L)),(([]:ae),(0,0))))))))).2.1,((a5.1,(K a.2.2.2.2.1 c.1.toNat (J,(0,((0,0),(0,(0,(([]:(M L)),(([]:ae),(0,0))))))))).2.2.1.2),((K a.2.2.2.2.1 c.1.toNat (J,(0,((0,0),(0,(0,(([]:(M L)),(([]:ae),(0,0))))))))).2.2.2.1,((K a.2.2.2.2.1 c.1.toNat (J,(0,((0,0),(0,(0,(([]:(M L)),(([]:ae),(0,0))))))))).2.2.2.2.1,((K a.2.2.2.2.1 c.1.toNat (J,(0,((0,0),(0,(0,(([]:(M L)),(([]:ae),(0,0))))))))).2.2.2.2.2.1,((K a.2.2.2.2.1 c.1.toNat (J,(0,((0,0),(0,(0,(([]:(M L)),(([]:ae),(0,0))))))))).2.2.2.2.2.2.1,((K a.2.2.2.2.1 c.1.toNat (J,(0,((0,0),(0,(0,(([]:(M L)),(([]:ae),(0,0))))))))).2.2.2.2.2.2.2.1,(K a.2.2.2.2.1 c.1.toNat (J,(0,((0,0),(0,(0,(([]:(M L)),(([]:ae),(0,0))))))))).2.2.2.2.2.2.2.2))))))))
 N ((a.1,(a.2.1,(a.2.2.1,[(a.2.2.2.1,(i6,a.2.2.2.2.2))]))),a5.2.1,a5.2.2)) (cond (f.1==2) (let j3:aj:=Á a.2.2.2.2.1 c.1.toNat ((K a.2.2.2.2.1 c.1.toNat (J,(0,((0,0),(0,(0,(([]:(M L)),(([]:ae),(0,0))))))))).1,((K a.2.2.2.2.1 c.1.toNat (J,(0,((0,0),(0,(0,(([]:(M L)),(([]:ae),(0,0))))))))).2.1,(((K a.2.2.2.2.1 c.1.toNat (J,(0,((0,0),(0,(0,(([]:(M L)),(([]:ae),(0,0))))))))).2.2.1.1,(K a.2.2.2.2.1 c.1.toNat (J,(0,((0,0),(0,(0,(([]:(M L)),(([]:ae),(0,0))))))))).2.2.1.2),((K a.2.2.2.2.1 c.1.toNat (J,(0,((0,0),(0,(0,(([]:(M L)),(([]:ae),(0,0))))))))).2.2.2.1,((K a.2.2.2.2.1 c.1.toNat (J,(0,((0,0),(0,(0,(([]:(M L)),(([]:ae),(0,0))))))))).2.2.2.2.1,(([]:(M L)),((K a.2.2.2.2.1 c.1.toNat (J,(0,((0,0),(0,(0,(([]:(M L)),(([]:ae),(0,0))))))))).2.2.2.2.2.2.1,((K a.2.2.2.2.1 c.1.toNat (J,(0,((0,0),(0,(0,(([]:(M L)),(([]:ae),(0,0))))))))).2.2.2.2.2.2.2.1,(K a.2.2.2.2.1 c.1.toNat (J,(0,((0,0),(0,(0,(([]:(M L)),(([]:ae),(0,0))))))))).2.2.2.2.2.2.2.2))))))))
 N ((a.1,(a.2.1,(a.2.2.1,[(a.2.2.2.1,(j3,a.2.2.2.2.2))]))),f.2.1,f.2.2)) (cond (f.1==3) (let g3:=W a.2.1.length
 let d5:M Int:=[0,(-1),g3]
 (j03 f.2.1 f.2.2 d5).bind λa2=>let i3:aj:=Á a.2.2.2.2.1 c.1.toNat ((K a.2.2.2.2.1 c.1.toNat (J,(0,((0,0),(0,(0,(([]:(M L)),(([]:ae),(0,0))))))))).1,((K a.2.2.2.2.1 c.1.toNat (J,(0,((0,0),(0,(0,(([]:(M L)),(([]:ae),(0,0))))))))).2.1,(((K a.2.2.2.2.1 c.1.toNat (J,(0,((0,0),(0,(0,(([]:(M L)),(([]:ae),(0,0))))))))).2.2.1.1,(K a.2.2.2.2.1 c.1.toNat (J,(0,((0,0),(0,(0,(([]:(M L)),(([]:ae),(0,0))))))))).2.2.1.2),((K a.2.2.2.2.1 c.1.toNat (J,(0,((0,0),(0,(0,(([]:(M L)),(([]:ae),(0,0))))))))).2.2.2.1,((K a.2.2.2.2.1 c.1.toNat (J,(0,((0,0),(0,(0,(([]:(M L)),(([]:ae),(0,0))))))))).2.2.2.2.1,([a2.1],((K a.2.2.2.2.1 c.1.toNat (J,(0,((0,0),(0,(0,(([]:(M L)),(([]:ae),(0,0))))))))).2.2.2.2.2.2.1,((K a.2.2.2.2.1 c.1.toNat (J,(0,((0,0),(0,(0,(([]:(M L)),(([]:ae),(0,0))))))))).2.2.2.2.2.2.2.1,(K a.2.2.2.2.1 c.1.toNat (J,(0,((0,0),(0,(0,(([]:(M L)),(([]:ae),(0,0))))))))).2.2.2.2.2.2.2.2))))))))
 N ((a.1,(a.2.1,(a.2.2.1,[(a.2.2.2.1,(i3,a.2.2.2.2.2))]))),a2.2.1,a2.2.2)) (cond (f.1==4) (let f9:M Int:=[(-1),3]
 (j03 f.2.1 f.2.2 f9).bind λa3=>let l3:aj:=Á a.2.2.2.2.1 c.1.toNat ((K a.2.2.2.2.1 c.1.toNat (J,(0,((0,0),(0,(0,(([]:(M L)),(([]:ae),(0,0))))))))).1,((K a.2.2.2.2.1 c.1.toNat (J,(0,((0,0),(0,(0,(([]:(M L)),(([]:ae),(0,0))))))))).2.1,(((K a.2.2.2.2.1 c.1.toNat (J,(0,((0,0),(0,(0,(([]:(M L)),(([]:ae),(0,0))))))))).2.2.1.1,(K a.2.2.2.2.1 c.1.toNat (J,(0,((0,0),(0,(0,(([]:(M L)),(([]:ae),(0,0))))))))).2.2.1.2),(a3.1,((K a.2.2.2.2.1 c.1.toNat (J,(0,((0,0),(0,(0,(([]:(M L)),(([]:ae),(0,0))))))))).2.2.2.2.1,((K a.2.2.2.2.1 c.1.toNat (J,(0,((0,0),(0,(0,(([]:(M L)),(([]:ae),(0,0))))))))).2.2.2.2.2.1,((K a.2.2.2.2.1 c.1.toNat (J,(0,((0,0),(0,(0,(([]:(M L)),(([]:ae),(0,0))))))))).2.2.2.2.2.2.1,((K a.2.2.2.2.1 c.1.toNat (J,(0,((0,0),(0,(0,(([]:(M L)),(([]:ae),(0,0))))))))).2.2.2.2.2.2.2.1,(K a.2.2.2.2.1 c.1.toNat (J,(0,((0,0),(0,(0,(([]:(M L)),(([]:ae),(0,0))))))))).2.2.2.2.2.2.2.2))))))))
 N ((a.1,(a.2.1,(a.2.2.1,[(a.2.2.2.1,(l3,a.2.2.2.2.2))]))),a3.2.1,a3.2.2)) (cond (f.1==5) (let e0:M Int:=[0,1,2,3]
 (j03 f.2.1 f.2.2 e0).bind λa0=>let g5:aj:=Á a.2.2.2.2.1 c.1.toNat ((K a.2.2.2.2.1 c.1.toNat (J,(0,((0,0),(0,(0,(([]:(M L)),(([]:ae),(0,0))))))))).1,((K a.2.2.2.2.1 c.1.toNat (J,(0,((0,0),(0,(0,(([]:(M L)),(([]:ae),(0,0))))))))).2.1,(((K a.2.2.2.2.1 c.1.toNat (J,(0,((0,0),(0,(0,(([]:(M L)),(([]:ae),(0,0))))))))).2.2.1.1,(K a.2.2.2.2.1 c.1.toNat (J,(0,((0,0),(0,(0,(([]:(M L)),(([]:ae),(0,0))))))))).2.2.1.2),((K a.2.2.2.2.1 c.1.toNat (J,(0,((0,0),(0,(0,(([]:(M L)),(([]:ae),(0,0))))))))).2.2.2.1,((K a.2.2.2.2.1 c.1.toNat (J,(0,((0,0),(0,(0,(([]:(M L)),(([]:ae),(0,0))))))))).2.2.2.2.1,((K a.2.2.2.2.1 c.1.toNat (J,(0,((0,0),(0,(0,(([]:(M L)),(([]:ae),(0,0))))))))).2.2.2.2.2.1,((K a.2.2.2.2.1 c.1.toNat (J,(0,((0,0),(0,(0,(([]:(M L)),(([]:ae),(0,0))))))))).2.2.2.2.2.2.1,((K a.2.2.2.2.1 c.1.toNat (J,(0,((0,0),(0,(0,(([]:(M L)),(([]:ae),(0,0))))))))).2.2.2.2.2.2.2.1,a0.1))))))))
 N ((a.1,(a.2.1,(a.2.2.1,[(a.2.2.2.1,(g5,a.2.2.2.2.2))]))),a0.2.1,a0.2.2)) (cond (f.1==6) (let g2:M Int:=[0,1,(-1)]
 (j03 f.2.1 f.2.2 g2).bind λt=>let g7:aj:=Á a.2.2.2.2.1 c.1.toNat ((K a.2.2.2.2.1 c.1.toNat (J,(0,((0,0),(0,(0,(([]:(M L)),(([]:ae),(0,0))))))))).1,((K a.2.2.2.2.1 c.1.toNat (J,(0,((0,0),(0,(0,(([]:(M L)),(([]:ae),(0,0))))))))).2.1,(((K a.2.2.2.2.1 c.1.toNat (J,(0,((0,0),(0,(0,(([]:(M L)),(([]:ae),(0,0))))))))).2.2.1.1,(K a.2.2.2.2.1 c.1.toNat (J,(0,((0,0),(0,(0,(([]:(M L)),(([]:ae),(0,0))))))))).2.2.1.2),((K a.2.2.2.2.1 c.1.toNat (J,(0,((0,0),(0,(0,(([]:(M L)),(([]:ae),(0,0))))))))).2.2.2.1,((K a.2.2.2.2.1 c.1.toNat (J,(0,((0,0),(0,(0,(([]:(M L)),(([]:ae),(0,0))))))))).2.2.2.2.1,((K a.2.2.2.2.1 c.1.toNat (J,(0,((0,0),(0,(0,(([]:(M L)),(([]:ae),(0,0))))))))).2.2.2.2.2.1,((K a.2.2.2.2.1 c.1.toNat (J,(0,((0,0),(0,(0,(([]:(M L)),(([]:ae),(0,0))))))))).2.2.2.2.2.2.1,(t.1,(K a.2.2.2.2.1 c.1.toNat (J,(0,((0,0),(0,(0,(([]:(M L)),(([]:ae),(0,0))))))))).2.2.2.2.2.2.2.2))))))))
 N ((a.1,(a.2.1,(a.2.2.1,[(a.2.2.2.1,(g7,a.2.2.2.2.2))]))),t.2.1,t.2.2)) (cond (f.1==7) (let b3:M ByteArray:=[(Z #[97,100,97]),(Z #[98,111,98]),(Z #[120,32,121])]
 (j02 f.2.1 f.2.2 3).bind λr=>cond (inR r.1 b3.length) (let e1:=K b3 r.1.toNat J
 let l2:aj:=Á a.2.2.2.2.1 c.1.toNat (e1,((K a.2.2.2.2.1 c.1.toNat (J,(0,((0,0),(0,(0,(([]:(M L)),(([]:ae),(0,0))))))))).2.1,(((K a.2.2.2.2.1 c.1.toNat (J,(0,((0,0),(0,(0,(([]:(M L)),(([]:ae),(0,0))))))))).2.2.1.1,(K a.2.2.2.2.1 c.1.toNat (J,(0,((0,0),(0,(0,(([]:(M L)),(([]:ae),(0,0))))))))).2.2.1.2),((K a.2.2.2.2.1 c.1.toNat (J,(0,((0,0),(0,(0,(([]:(M L)),(([]:ae),(0,0))))))))).2.2.2.1,((K a.2.2.2.2.1 c.1.toNat (J,(0,((0,0),(0,(0,(([]:(M L)),(([]:ae),(0,0))))))))).2.2.2.2.1,((K a.2.2.2.2.1 c.1.toNat (J,(0,((0,0),(0,(0,(([]:(M L)),(([]:ae),(0,0))))))))).2.2.2.2.2.1,((K a.2.2.2.2.1 c.1.toNat (J,(0,((0,0),(0,(0,(([]:(M L)),(([]:ae),(0,0))))))))).2.2.2.2.2.2.1,((K a.2.2.2.2.1 c.1.toNat (J,(0,((0,0),(0,(0,(([]:(M L)),(([]:ae),(0,0))))))))).2.2.2.2.2.2.2.1,(K a.2.2.2.2.1 c.1.toNat (J,(0,((0,0),(0,(0,(([]:(M L)),(([]:ae),(0,0))))))))).2.2.2.2.2.2.2.2))))))))
 N ((a.1,(a.2.1,(a.2.2.1,[(a.2.2.2.1,(l2,a.2.2.2.2.2))]))),r.2.1,r.2.2)) Y) (N ((a.1,(a.2.1,(a.2.2.1,[(a.2.2.2.1,(a.2.2.2.2.1,a.2.2.2.2.2))]))),f.2.1,f.2.2)))))))))) Y)) Y) ((j02 i.2.1 i.2.2 1).bind λe6=>cond (inR e6.1 1) ((j3x e6.2.1 e6.2.2 ((Ã a.1.length ()),((Ã a.2.1.length ()),((Ã a.2.2.1.length ()),(Ã 1 ()))))).bind λj=>(j02 j.2.1 j.2.2 5).bind λk=>cond (k.1==0) (let i4:aq:=[(j.1.1,(j.1.2.1,(j.1.2.2.1,(j.1.2.2.2.1,j.1.2.2.2.1))))]
 cond (O (X a.2.2.2.2.2+X i4<=aR)) (let n9:aq:=a.2.2.2.2.2++i4
 N ((a.1,(a.2.1,(a.2.2.1,[(a.2.2.2.1,(a.2.2.2.2.1,n9))]))),k.2.1,k.2.2)) Y) (cond (k.1==1) (let n1:=W a.2.1.length
 let n7:M Int:=[(-1),(-2),n1]
 (j03 k.2.1 k.2.2 n7).bind λe2=>let d0:aq:=[(j.1.1,(e2.1,(j.1.2.2.1,(j.1.2.2.2.1,j.1.2.2.2.2))))]
 cond (O (X a.2.2.2.2.2+X d0<=aR)) (let g6:aq:=a.2.2.2.2.2++d0
 N ((a.1,(a.2.1,(a.2.2.1,[(a.2.2.2.1,(a.2.2.2.2.1,g6))]))),e2.2.1,e2.2.2)) Y) (cond (k.1==2) (let n4:M Int:=[0,1,j.1.2.1]
 (j03 k.2.1 k.2.2 n4).bind λe4=>let c9:aq:=[(j.1.1,(j.1.2.1,(e4.1,(j.1.2.2.2.1,j.1.2.2.2.2))))]
 cond (O (X a.2.2.2.2.2+X c9<=aR)) (let g8:aq:=a.2.2.2.2.2++c9
 N ((a.1,(a.2.1,(a.2.2.1,[(a.2.2.2.1,(a.2.2.2.2.1,g8))]))),e4.2.1,e4.2.2)) Y) (cond (k.1==3) (let o1:M Int:=[0,(-1)]
 (j03 k.2.1 k.2.2 o1).bind λf0=>let n3:M Int:=[8551872000,8551958399,8551958400,8589934592]
 (j03 f0.2.1 f0.2.2 n3).bind λf3=>let c7:aq:=[(j.1.1,(j.1.2.1,(j.1.2.2.1,(f0.1,f3.1))))]
 cond (O (X a.2.2.2.2.2+X c7<=aR)) (let g4:aq:=a.2.2.2.2.2++c7
 N ((a.1,(a.2.1,(a.2.2.1,[(a.2.2.2.1,(a.2.2.2.2.1,g4))]))),f3.2.1,f3.2.2)) Y) (cond (k.1==4) (let n8:M Int:=[(-1),3]
 (j03 k.2.1 k.2.2 n8).bind λg1=>let c6:aq:=[(g1.1,(j.1.2.1,(j.1.2.2.1,(j.1.2.2.2.1,j.1.2.2.2.2))))]
 cond (O (X a.2.2.2.2.2+X c6<=aR)) (let i1:aq:=a.2.2.2.2.2++c6
 N ((a.1,(a.2.1,(a.2.2.1,[(a.2.2.2.1,(a.2.2.2.2.1,i1))]))),g1.2.1,g1.2.2)) Y) (let c8:aq:=[(j.1.1,(j.1.2.1,(j.1.2.2.1,(j.1.2.2.2.1,j.1.2.2.2.2))))]
 cond (O (X a.2.2.2.2.2+X c8<=aR)) (let i2:aq:=a.2.2.2.2.2++c8
 N ((a.1,(a.2.1,(a.2.2.1,[(a.2.2.2.1,(a.2.2.2.2.1,i2))]))),k.2.1,k.2.2)) Y)))))) Y))))))))))
def jiX(a:L):S Bool:=N (cond (O (a>=48)) (O (a<=57)) À)
def j57(a:U)(b:L):S ((U×L) ⊕ (Å ⊕ Ç)):=
 let l:=W (Æ a)
 cond (O (b<l)) (cond (inR b (Æ a)) (let c:=dz a b
 cond ((inR b (Æ a)) || !(!(O (c<97)))) (let f:=dz a b
 cond ((inR b (Æ a)) || !(cond (O (c<97)) Â (O (f>122)))) (let k:=dz a b
 cond (cond (O (c<97)) Â (O (f>122))) ((jiX k).bind λd=>cond ((inR b (Æ a)) || !(!d)) (let e:=dz a b
 cond ((inR b (Æ a)) || !(cond (!d) (e != 95) À)) (let i:=dz a b
 cond (cond (cond (!d) (e != 95) À) (i != 45) À) (N (.inr (.inl À))) (let j:=w64 (b+1)
 N (.inl (a,j)))) Y) Y) (cond ((inR b (Æ a)) || !À) (let m:=dz a b
 cond ((inR b (Æ a)) || !À) (let n:=dz a b
 let g:=w64 (b+1)
 N (.inl (a,g))) Y) Y)) Y) Y) Y) (N (.inr (.inr ())))
def Fx[LP](b:U)(a:L):S (Å ⊕ Ç):=LP.lp (unc2 j57) (b,a)
theorem R9(b a):Fx b a=lpK (j57 b a) (λh=>Fx h.1 h.2):=bJ _ _
def jia[LP](a:U):S Bool:=
 let f:=W (Æ a)
 let d:=W (Æ a)
 cond ((inR 0 (Æ a)) || !(!(cond (O (f<1)) Â (O (d>24))))) (let e:=dz a 0
 let b:Bool:=cond (cond (O (f<1)) Â (O (d>24))) Â (O (e<97))
 cond ((inR 0 (Æ a)) || !(!b)) (let c:=dz a 0
 cond (cond b Â (O (c>122))) (N À) ((Fx a 0).bind λg=>sumC g (λi=>N i) (λj=>N Â))) Y) Y
def j58(a:M U)(b d:L):S (((M U)×L×L) ⊕ (L ⊕ Ç)):=cond (O (d<b)) (cond (inR d a.length) (let e:=K a d.toNat J
 cond (inR b a.length) (let f:=K a b.toNat J
 cond (É e==É f) (N (.inr (.inl 4))) (let c:=w64 (d+1)
 N (.inl (a,b,c)))) Y) Y) (N (.inr (.inr ())))
def Fy[LP](b:M U)(a c:L):S (L ⊕ Ç):=LP.lp (unc3 j58) (b,a,c)
theorem Sa(b a c):Fy b a c=lpK (j58 b a c) (λh=>Fy h.1 h.2.1 h.2.2):=bJ _ _
def jaS[LP](b:M U)(a:L):S Int:=cond (inR a b.length) (let e:=K b a.toNat J
 (jia e).bind λc=>cond (!c) (N 2) ((Fy b a 0).bind λd=>sumC d (λf=>N f) (λg=>N 0))) Y
def j7d(a c b:L):S Bool:=N (cond (O (a>=c)) (O (a<=b)) À)
def j8S(a:sg):S Bool:=(j7d a.1 1970 2240).bind λi=>cond i ((j7d a.2.1 a.1 2240).bind λe=>cond e ((j7d a.2.2.1 1 12).bind λd=>cond d ((j7d a.2.2.2.1 1 5).bind λc=>cond c ((j7d a.2.2.2.2.1 0 6).bind λb=>cond b ((j7d a.2.2.2.2.2.1 0 86399).bind λf=>cond f ((j7d a.2.2.2.2.2.2 (-64800) 64800).bind λg=>N g) (N À)) (N À)) (N À)) (N À)) (N À)) (N À)
def j1i(a:L):S Bool:=
 let c:=Ä a 4
 let d:=Ä a 100
 let b:=Ä a 400
 N (cond (c==0) (cond (d != 0) Â (b==0)) À)
def jci(b a:L):S Int:=cond (a==1) (cond (a==1) (N 31) (cond (a==4) (cond (a==4) (N 30) (cond (a==2) ((j1i b).bind λa4=>cond a4 (N 29) (N 28)) (N 0))) (cond (a==6) (cond (a==6) (N 30) (cond (a==2) ((j1i b).bind λa3=>cond a3 (N 29) (N 28)) (N 0))) (cond (a==9) (cond (a==9) (N 30) (cond (a==2) ((j1i b).bind λa0=>cond a0 (N 29) (N 28)) (N 0))) (cond (a==11) (N 30) (cond (a==2) ((j1i b).bind λw=>cond w (N 29) (N 28)) (N 0))))))) (cond (a==3) (cond (a==3) (N 31) (cond (a==4) (cond (a==4) (N 30) (cond (a==2) ((j1i b).bind λa2=>cond a2 (N 29) (N 28)) (N 0))) (cond (a==6) (cond (a==6) (N 30) (cond (a==2) ((j1i b).bind λy=>cond y (N 29) (N 28)) (N 0))) (cond (a==9) (cond (a==9) (N 30) (cond (a==2) ((j1i b).bind λa1=>cond a1 (N 29) (N 28)) (N 0))) (cond (a==11) (N 30) (cond (a==2) ((j1i b).bind λv=>cond v (N 29) (N 28)) (N 0))))))) (cond (a==5) (cond (a==5) (N 31) (cond (a==4) (cond (a==4) (N 30) (cond (a==2) ((j1i b).bind λx=>cond x (N 29) (N 28)) (N 0))) (cond (a==6) (cond (a==6) (N 30) (cond (a==2) ((j1i b).bind λz=>cond z (N 29) (N 28)) (N 0))) (cond (a==9) (cond (a==9) (N 30) (cond (a==2) ((j1i b).bind λu=>cond u (N 29) (N 28)) (N 0))) (cond (a==11) (N 30) (cond (a==2) ((j1i b).bind λd=>cond d (N 29) (N 28)) (N 0))))))) (cond (a==7) (cond (a==7) (N 31) (cond (a==4) (cond (a==4) (N 30) (cond (a==2) ((j1i b).bind λi=>cond i (N 29) (N 28)) (N 0))) (cond (a==6) (cond (a==6) (N 30) (cond (a==2) ((j1i b).bind λq=>cond q (N 29) (N 28)) (N 0))) (cond (a==9) (cond (a==9) (N 30) (cond (a==2) ((j1i b).bind λk=>cond k (N 29) (N 28)) (N 0))) (cond (a==11) (N 30) (cond (a==2) ((j1i b).bind λg=>cond g (N 29) (N 28)) (N 0))))))) (cond (a==8) (cond (a==8) (N 31) (cond (a==4) (cond (a==4) (N 30) (cond (a==2) ((j1i b).bind λc=>cond c (N 29) (N 28)) (N 0))) (cond (a==6) (cond (a==6) (N 30) (cond (a==2) ((j1i b).bind λj=>cond j (N 29) (N 28)) (N 0))) (cond (a==9) (cond (a==9) (N 30) (cond (a==2) ((j1i b).bind λt=>cond t (N 29) (N 28)) (N 0))) (cond (a==11) (N 30) (cond (a==2) ((j1i b).bind λr=>cond r (N 29) (N 28)) (N 0))))))) (cond (a==10) (cond (a==10) (N 31) (cond (a==4) (cond (a==4) (N 30) (cond (a==2) ((j1i b).bind λn=>cond n (N 29) (N 28)) (N 0))) (cond (a==6) (cond (a==6) (N 30) (cond (a==2) ((j1i b).bind λl=>cond l (N 29) (N 28)) (N 0))) (cond (a==9) (cond (a==9) (N 30) (cond (a==2) ((j1i b).bind λm=>cond m (N 29) (N 28)) (N 0))) (cond (a==11) (N 30) (cond (a==2) ((j1i b).bind λs=>cond s (N 29) (N 28)) (N 0))))))) (cond (a==12) (N 31) (cond (a==4) (cond (a==4) (N 30) (cond (a==2) ((j1i b).bind λe=>cond e (N 29) (N 28)) (N 0))) (cond (a==6) (cond (a==6) (N 30) (cond (a==2) ((j1i b).bind λp=>cond p (N 29) (N 28)) (N 0))) (cond (a==9) (cond (a==9) (N 30) (cond (a==2) ((j1i b).bind λf=>cond f (N 29) (N 28)) (N 0))) (cond (a==11) (N 30) (cond (a==2) ((j1i b).bind λo=>cond o (N 29) (N 28)) (N 0))))))))))))
def jfU(a:wG):S Bool:=cond (O (a.1>=1970)) (cond (O (a.1<=2240)) (cond (O (a.2.1>=1)) (cond (O (a.2.1<=12)) (cond (O (a.2.2>=1)) ((jci a.1 a.2.1).bind λb=>N (O (a.2.2<=b))) (N À)) (N À)) (N À)) (N À)) (N À)
def jfV(a:L):S Int:=
 let j:=w64 (a-1970)
 let m:=w64 (j*365)
 let l:=w64 (a-1969)
 let k:=w64 (È l 4)
 let i:=w64 (m+k)
 let e:=w64 (a-1901)
 let g:=w64 (È e 100)
 let b:=w64 (i-g)
 let d:=w64 (a-1601)
 let f:=w64 (È d 400)
 let c:=w64 (b+f)
 N c
def j5z(i g f a b:L):S ((L×L×L×L×L) ⊕ (L×L×L×L)):=cond (O (g<a)) ((jci f g).bind λe=>let c:=w64 (i+e)
 let d:=w64 (g+1)
 N (.inl (c,d,f,a,b))) (N (.inr (i,f,a,b)))
def Fz[LP](c e d b a:L):S (L×L×L×L):=LP.lp (unc5 j5z) (c,e,d,b,a)
theorem Sb(c e d b a):Fz c e d b a=lpK (j5z c e d b a) (λh=>Fz h.1 h.2.1 h.2.2.1 h.2.2.2.1 h.2.2.2.2):=bJ _ _
def jlx[LP](a:wG):S (L×L):=(jfU (a.1,(a.2.1,a.2.2))).bind λf=>cond (!f) (N (0,1)) ((jfV a.1).bind λd=>(Fz d 1 a.1 a.2.1 a.2.2).bind λb=>let c:=w64 (b.1+b.2.2.2)
 let e:=w64 (c-1)
 N (e,0))
def jcj(a:L):S Int:=
 let b:=Ä a 7
 let d:=w64 (b+10)
 let c:=Ä d 7
 N c
def j5A(e i f g d a:L):S ((L×L×L×L×L×L) ⊕ (L×L×L×L×L)):=(jcj a).bind λc=>cond (c != g) (let b:=w64 (a+1)
 N (.inl (e,i,f,g,d,b))) (N (.inr (e,i,f,d,a)))
def FA[LP](c f d e b a:L):S (L×L×L×L×L):=LP.lp (unc6 j5A) (c,f,d,e,b,a)
theorem Sc(c f d e b a):FA c f d e b a=lpK (j5A c f d e b a) (λh=>FA h.1 h.2.1 h.2.2.1 h.2.2.2.1 h.2.2.2.2.1 h.2.2.2.2.2):=bJ _ _
def j5B(g i f a:L):S ((L×L×L×L) ⊕ (L)):=
 let d:=w64 (a+7)
 (jci g i).bind λc=>let e:=w64 (f+c)
 cond (O (d<e)) (let b:=w64 (a+7)
 N (.inl (g,i,f,b))) (N (.inr a))
def FB[LP](d c a b:L):S Int:=LP.lp (unc4 j5B) (d,c,a,b)
theorem Sd(c d b a):FB c d b a=lpK (j5B c d b a) (λh=>FB h.1 h.2.1 h.2.2.1 h.2.2.2):=bJ _ _
def jly[LP](e c b a:L):S (L×L):=(jlx (e,(c,1))).bind λf=>let l:Bool:=cond (cond (f.2 != 0) Â (O (b<1))) Â (O (b>5))
 let i:Bool:=cond (cond l Â (O (a<0))) Â (O (a>6))
 cond i (N (0,1)) ((FA e c b a f.1 f.1).bind λd=>cond (O (d.2.2.1<5)) (let j:=w64 (d.2.2.1-1)
 let k:=w64 (7*j)
 let g:=w64 (d.2.2.2.2+k)
 N (g,0)) ((FB d.1 d.2.1 d.2.2.2.1 d.2.2.2.2).bind λm=>N (m,0)))
def j2m(j:aQ)(i k c f a:L)(d:ae):S ((aQ×L×L×L×L×L×ae) ⊕ (aQ×L×L×L×L×L×ae)):=cond (O (c>0)) (let b:=w64 (c-1)
 cond (inR b d.length) (let g:=(K d b.toNat (0,0)).1
 cond (O (g>f)) (let e:=w64 (c-1)
 N (.inl (j,i,k,e,f,a,d))) (N (.inr (j,i,k,c,f,a,d)))) Y) (N (.inr (j,i,k,c,f,a,d)))
def Cr[LP](e:aQ)(b g c d a:L)(f:ae):S (aQ×L×L×L×L×L×ae):=LP.lp (unc7 j2m) (e,b,g,c,d,a,f)
theorem Se(e b g c d a f):Cr e b g c d a f=lpK (j2m e b g c d a f) (λh=>Cr h.1 h.2.1 h.2.2.1 h.2.2.2.1 h.2.2.2.2.1 h.2.2.2.2.2.1 h.2.2.2.2.2.2):=bJ _ _
def j2n[LP](d:aQ)(c v:L)(t:ae):S ((aQ×L×L×ae) ⊕ (aQ×L×ae)):=cond (inR c d.length) (let s:=K d c.toNat (0,(0,(0,(0,(0,(0,0))))))
 cond (O (v<=s.2.1)) (cond (inR c d.length) (let m:=K d c.toNat (0,(0,(0,(0,(0,(0,0))))))
 cond (inR c d.length) (let j:=K d c.toNat (0,(0,(0,(0,(0,(0,0))))))
 cond (inR c d.length) (let r:=K d c.toNat (0,(0,(0,(0,(0,(0,0))))))
 (jly v m.2.2.1 j.2.2.2.1 r.2.2.2.2.1).bind λp=>let q:=w64 (p.1*86400)
 cond (inR c d.length) (let l:=K d c.toNat (0,(0,(0,(0,(0,(0,0))))))
 let n:=w64 (q+l.2.2.2.2.2.1)
 cond (inR c d.length) (let o:=K d c.toNat (0,(0,(0,(0,(0,(0,0))))))
 let k:=W t.length
 (Cr d c v k n o.2.2.2.2.2.2 t).bind λa=>let g:ae:=[(a.2.2.2.2.1,a.2.2.2.2.2.1)]
 cond (O (X a.2.2.2.2.2.2+X g<=aR)) (let b:ae:=a.2.2.2.2.2.2++g
 let e:=w64 (a.2.2.2.1+1)
 cond (O (0<=e)&&O (e<=(W b.length))) (cond (O (0<=a.2.2.2.1)&&O (a.2.2.2.1<=(W b.length))) (let f:ae:=over b e.toNat (Ë a.2.2.2.1.toNat b)
 let w:=W (min (X (Ë a.2.2.2.1.toNat b)) (X b-e.toNat))
 cond (inR a.2.2.2.1 f.length) (let u:ae:=Á f a.2.2.2.1.toNat (a.2.2.2.2.1,a.2.2.2.2.2.1)
 let i:=w64 (a.2.2.1+1)
 N (.inl (a.1,a.2.1,i,u))) Y) Y) Y) Y) Y) Y) Y) Y) Y) (N (.inr (d,c,t)))) Y
def FC[LP](c:aQ)(a d:L)(b:ae):S (aQ×L×ae):=LP.lp (unc4 j2n) (c,a,d,b)
theorem Sf(b a d c):FC b a d c=lpK (j2n b a d c) (λh=>FC h.1 h.2.1 h.2.2.1 h.2.2.2):=bJ _ _
def j2o[LP](d:aQ)(b:L)(g:ae):S ((aQ×L×ae) ⊕ (ae)):=
 let f:=W d.length
 cond (O (b<f)) (cond (inR b d.length) (let e:=K d b.toNat (0,(0,(0,(0,(0,(0,0))))))
 (FC d b e.1 g).bind λa=>let c:=w64 (a.2.1+1)
 N (.inl (a.1,c,a.2.2))) Y) (N (.inr g))
def Cs[LP](c:aQ)(a:L)(b:ae):S ae:=LP.lp (unc3 j2o) (c,a,b)
theorem Sh(c a b):Cs c a b=lpK (j2o c a b) (λh=>Cs h.1 h.2.1 h.2.2):=bJ _ _
def j7v[LP](a:aQ):S ae:=(Cs a 0 ([]:ae)).bind λb=>N b
def j1C(n c:L)(o:U)(d:L)(b:aQ):S ((L×L×U×L×aQ) ⊕ (L ⊕ (L×U×L×aQ))):=
 let i:=W b.length
 cond (O (c<i)) (cond (inR c b.length) (let a:=K b c.toNat (0,(0,(0,(0,(0,(0,0))))))
 (j8S (a.1,(a.2.1,(a.2.2.1,(a.2.2.2.1,(a.2.2.2.2.1,(a.2.2.2.2.2.1,a.2.2.2.2.2.2))))))).bind λk=>cond (!k) (N (.inr (.inl 1))) (cond (inR c b.length) (let e:=K b c.toNat (0,(0,(0,(0,(0,(0,0))))))
 cond (inR c b.length) (let g:=K b c.toNat (0,(0,(0,(0,(0,(0,0))))))
 let f:=w64 (e.2.1-g.1)
 let j:=w64 (f+1)
 let l:=w64 (n+j)
 let m:=w64 (c+1)
 N (.inl (l,m,o,d,b))) Y) Y)) Y) (N (.inr (.inr (n,o,d,b))))
def yI[LP](c e:L)(d:U)(b:L)(a:aQ):S (L ⊕ (L×U×L×aQ)):=LP.lp (unc5 j1C) (c,e,d,b,a)
theorem Ki(c e d b a):yI c e d b a=lpK (j1C c e d b a) (λh=>yI h.1 h.2.1 h.2.2.1 h.2.2.2.1 h.2.2.2.2):=bJ _ _
def j1j(y e:L)(d c:ae):S ((L×L×ae×ae) ⊕ (L ⊕ ae)):=
 let p:=W c.length
 cond (O (e<p)) (cond (inR e c.length) (let r:=(K c e.toNat (0,0)).2
 cond (r==y) (let v:=w64 (e+1)
 N (.inl (y,v,d,c))) (cond (inR e c.length) (let q:=(K c e.toNat (0,0)).1
 let b:=w64 (q-y)
 cond (inR e c.length) (let a:=(K c e.toNat (0,0)).2
 let u:=w64 (a-y)
 (j7d u (-86399) 86399).bind λx=>cond (!x) (N (.inr (.inl 6))) ((j7d b 0 8589934592).bind λs=>cond (!s) (N (.inr (.inl 6))) (let o:=W d.length
 cond (O (o>0)) (let k:=W d.length
 let g:=w64 (k-1)
 cond (inR g d.length) (let l:=(K d g.toNat (0,0)).1
 let n:=w64 (b-l)
 cond (O (n<604800)) (N (.inr (.inl 6))) (let i:ae:=[(b,a)]
 cond (O (X d+X i<=aR)) (let m:ae:=d++i
 let w:=w64 (e+1)
 N (.inl (a,w,m,c))) Y)) Y) (let f:ae:=[(b,a)]
 cond (O (X d+X f<=aR)) (let j:ae:=d++f
 let t:=w64 (e+1)
 N (.inl (a,t,j,c))) Y)))) Y) Y)) Y) (N (.inr (.inr d)))
def yJ[LP](c a:L)(b d:ae):S (L ⊕ ae):=LP.lp (unc4 j1j) (c,a,b,d)
theorem FD(c a d b):yJ c a d b=lpK (j1j c a d b) (λh=>yJ h.1 h.2.1 h.2.2.1 h.2.2.2):=bJ _ _
def j0g[LP](a:du):S (ae×L):=(j7d a.2.1 (-64800) 64800).bind λb=>cond (!b) (N (([]:ae),1)) (let d:=W a.2.2.length
 cond (O (d>16)) (N (([]:ae),5)) ((yI 0 0 a.1 a.2.1 a.2.2).bind λg=>sumC g (λk=>N (([]:ae),k)) (λj=>cond (O (j.1>640)) (N (([]:ae),5)) ((j7v j.2.2.2).bind λe=>(yJ j.2.2.1 0 ([]:ae) e).bind λi=>sumC i (λc=>N (([]:ae),c)) (λf=>N (f,0))))))
def j5D[LP](a:du):S Int:=(j0g (a.1,(a.2.1,a.2.2))).bind λb=>N b.2
def j3M(g:Å)(b:L)(j:U)(i:L)(a:aQ):S ((Å×L×U×L×aQ) ⊕ (Å)):=
 let c:=W a.length
 cond (O (b<c)) (cond ((inR b a.length) || !g) (let d:=K a b.toNat (0,(0,(0,(0,(0,(0,0))))))
 let e:=Ä d.2.2.2.2.2.2 60
 let f:=w64 (b+1)
 N (.inl ((cond g (e==0) À),f,j,i,a))) Y) (N (.inr g))
def FE[LP](e:Å)(c:L)(d:U)(b:L)(a:aQ):S Bool:=LP.lp (unc5 j3M) (e,c,d,b,a)
theorem Si(e c d b a):FE e c d b a=lpK (j3M e c d b a) (λh=>FE h.1 h.2.1 h.2.2.1 h.2.2.2.1 h.2.2.2.2):=bJ _ _
def j8d[LP](a:du):S Bool:=
 let b:=Ä a.2.1 60
 (FE (b==0) 0 a.1 a.2.1 a.2.2).bind λc=>N c
def j4D[LP](a:L)(d:ag)(o:ah)(n:ak)(m:an)(p:M U):S ((L×ag×ah×ak×an×(M U)) ⊕ (L ⊕ Ç)):=
 let l:=W d.length
 cond (O (a<l)) (cond (inR a d.length) (let i:=K d a.toNat (J,(0,([]:aQ)))
 cond (O (X p+X [i.1]<=aR)) (let f:M ByteArray:=p++[i.1]
 (jaS f a).bind λe=>cond (e != 0) (N (.inr (.inl e))) (cond (inR a d.length) (let b:=K d a.toNat (J,(0,([]:aQ)))
 (j5D (b.1,(b.2.1,b.2.2))).bind λg=>cond ((inR a d.length) || !(!(g != 0))) (let c:=K d a.toNat (J,(0,([]:aQ)))
 cond (g != 0) (N (.inr (.inl 8))) ((j8d (c.1,(c.2.1,c.2.2))).bind λk=>cond (!k) (N (.inr (.inl 8))) (let j:=w64 (a+1)
 N (.inl (j,d,o,n,m,f))))) Y) Y)) Y) Y) (N (.inr (.inr ())))
def FF[LP](d:L)(e:ag)(c:ah)(b:ak)(a:an)(f:M U):S (L ⊕ Ç):=LP.lp (unc6 j4D) (d,e,c,b,a,f)
theorem Sj(d e c b a f):FF d e c b a f=lpK (j4D d e c b a f) (λh=>FF h.1 h.2.1 h.2.2.1 h.2.2.2.1 h.2.2.2.2.1 h.2.2.2.2.2):=bJ _ _
def jfZ[LP](a:bH):S Int:=(FF 0 a.1 a.2.1 a.2.2.1 a.2.2.2 ([]:(M U))).bind λb=>sumC b (λc=>N c) (λd=>N 0)
def j68(a c b:L):S Bool:=N (cond (O (a>=c)) (O (a<=b)) À)
def j2E(a:ae)(b:L):S ((ae×L) ⊕ (L ⊕ Ç)):=
 let m:=W a.length
 cond (O (b<m)) (cond (inR b a.length) (let l:=K a b.toNat (0,0)
 cond (O (l.1<0)) (N (.inr (.inl 1))) (cond (inR b a.length) (let f:=K a b.toNat (0,0)
 cond (inR b a.length) (let d:=K a b.toNat (0,0)
 cond (O (f.1>=d.2)) (N (.inr (.inl 1))) (cond (inR b a.length) (let k:=K a b.toNat (0,0)
 cond (O (k.2>604800)) (N (.inr (.inl 1))) (cond (O (b>0)) (cond (inR b a.length) (let g:=K a b.toNat (0,0)
 let c:=w64 (b-1)
 cond (inR c a.length) (let j:=K a c.toNat (0,0)
 cond (O (g.1<j.2)) (N (.inr (.inl 6))) (let i:=w64 (b+1)
 N (.inl (a,i)))) Y) Y) (let e:=w64 (b+1)
 N (.inl (a,e))))) Y)) Y) Y)) Y) (N (.inr (.inr ())))
def yK[LP](b:ae)(a:L):S (L ⊕ Ç):=LP.lp (unc2 j2E) (b,a)
theorem FG(b a):yK b a=lpK (j2E b a) (λh=>yK h.1 h.2):=bJ _ _
def j7x[LP](a:ae):S Int:=
 let c:=W a.length
 cond (O (c>14)) (N 5) ((yK a 0).bind λb=>sumC b (λd=>N d) (λe=>N 0))
def jds(a:L):S Bool:=(j68 a 0 604800).bind λb=>let c:=Ä a 3600
 N (cond b (c==0) À)
def j46[LP](e:L)(r:ag)(b:ah)(q:ak)(p:an)(s:M U):S ((L×ag×ah×ak×an×(M U)) ⊕ (L ⊕ Ç)):=
 let i:=W b.length
 cond (O (e<i)) (cond (inR e b.length) (let a:=K b e.toNat (J,(0,(([]:ae),(0,(0,À)))))
 cond (O (X s+X [a.1]<=aR)) (let c:M ByteArray:=s++[a.1]
 let f:Bool:=É a.1==É (Z #[110,111,98,111,100,121])
 cond f (N (.inr (.inl 2))) ((jaS c e).bind λd=>cond (d != 0) (N (.inr (.inl d))) (let o:=W r.length
 let l:=w64 (o-1)
 (j68 a.2.1 0 l).bind λg=>cond (!g) (N (.inr (.inl 3))) ((j7x a.2.2.1).bind λm=>cond (m != 0) (N (.inr (.inl 8))) ((jds a.2.2.2.1).bind λk=>cond (!k) (N (.inr (.inl 1))) ((jds a.2.2.2.2.1).bind λn=>cond (!n) (N (.inr (.inl 1))) (let j:=w64 (e+1)
 N (.inl (j,r,b,q,p,c))))))))) Y) Y) (N (.inr (.inr ())))
def FH[LP](d:L)(e:ag)(c:ah)(b:ak)(a:an)(f:M U):S (L ⊕ Ç):=LP.lp (unc6 j46) (d,e,c,b,a,f)
theorem Sk(d e c b a f):FH d e c b a f=lpK (j46 d e c b a f) (λh=>FH h.1 h.2.1 h.2.2.1 h.2.2.2.1 h.2.2.2.2.1 h.2.2.2.2.2):=bJ _ _
def jeb[LP](a:bH):S Int:=(FH 0 a.1 a.2.1 a.2.2.1 a.2.2.2 ([]:(M U))).bind λb=>sumC b (λc=>N c) (λd=>N 0)
def j8e  : S Int:=(jfV 2241).bind λb=>let a:=w64 (b-1)
 N a
def j2P(m g:L)(n:ag)(e:ah)(c:ak)(b:an)(o:U)(d:L)(a:M L)(p:M U):S ((L×L×ag×ah×ak×an×U×L×(M L)×(M U)) ⊕ (L ⊕ (L×ag×ah×ak×an×U×L×(M L)×(M U)))):=
 let k:=W a.length
 cond (O (g<k)) (cond (inR g a.length) (let l:=K a g.toNat 0
 (j8e).bind λi=>(j68 l 0 i).bind λj=>cond (!j) (N (.inr (.inl 1))) (let f:=w64 (g+1)
 N (.inl (m,f,n,e,c,b,o,d,a,p)))) Y) (N (.inr (.inr (m,n,e,c,b,o,d,a,p))))
def FI[LP](f g:L)(i:ag)(e:ah)(c:ak)(b:an)(j:U)(d:L)(a:M L)(k:M U):S (L ⊕ (L×ag×ah×ak×an×U×L×(M L)×(M U))):=LP.lp (u8 unc2 j2P) (f,g,i,e,c,b,j,d,a,k)
theorem Sl(f g i e c b j d a k):FI f g i e c b j d a k=lpK (j2P f g i e c b j d a k) (λh=>FI h.1 h.2.1 h.2.2.1 h.2.2.2.1 h.2.2.2.2.1 h.2.2.2.2.2.1 h.2.2.2.2.2.2.1 h.2.2.2.2.2.2.2.1 h.2.2.2.2.2.2.2.2.1 h.2.2.2.2.2.2.2.2.2):=bJ _ _
def j2Q(m f:L)(n:ag)(e:ah)(d:ak)(c:an)(p:U)(l:L)(a:M L)(o:M U):S ((L×L×ag×ah×ak×an×U×L×(M L)×(M U)) ⊕ (L ⊕ (L×ag×ah×ak×an×(M U)))):=
 let g:=W a.length
 cond (O (f<g)) (cond (inR f a.length) (let j:=K a f.toNat 0
 let b:=w64 (f-1)
 cond (inR b a.length) (let i:=K a b.toNat 0
 cond (O (j<=i)) (N (.inr (.inl 6))) (let k:=w64 (f+1)
 N (.inl (m,k,n,e,d,c,p,l,a,o)))) Y) Y) (N (.inr (.inr (m,n,e,d,c,o))))
def FJ[LP](f k:L)(g:ag)(e:ah)(c:ak)(b:an)(i:U)(d:L)(a:M L)(j:M U):S (L ⊕ (L×ag×ah×ak×an×(M U))):=LP.lp (u8 unc2 j2Q) (f,k,g,e,c,b,i,d,a,j)
theorem Sn(f k g e c b i d a j):FJ f k g e c b i d a j=lpK (j2Q f k g e c b i d a j) (λh=>FJ h.1 h.2.1 h.2.2.1 h.2.2.2.1 h.2.2.2.2.1 h.2.2.2.2.2.1 h.2.2.2.2.2.2.1 h.2.2.2.2.2.2.2.1 h.2.2.2.2.2.2.2.2.1 h.2.2.2.2.2.2.2.2.2):=bJ _ _
def j2R[LP](g:L)(u:ag)(r:ah)(d:ak)(p:an)(s:M U):S ((L×ag×ah×ak×an×(M U)) ⊕ (L ⊕ Ç)):=
 let l:=W d.length
 cond (O (g<l)) (cond (inR g d.length) (let a:=K d g.toNat (J,(0,([]:(M L))))
 cond (O (X s+X [a.1]<=aR)) (let e:M ByteArray:=s++[a.1]
 (jaS e g).bind λf=>cond (f != 0) (N (.inr (.inl f))) (let k:=W u.length
 let j:=w64 (k-1)
 (j68 a.2.1 0 j).bind λm=>cond (!m) (N (.inr (.inl 3))) (let i:=W a.2.2.length
 cond (O (i>64)) (N (.inr (.inl 5))) ((FI g 0 u r d p a.1 a.2.1 a.2.2 e).bind λo=>sumC o (λt=>N (.inr (.inl t))) (λb=>(FJ b.1 1 b.2.1 b.2.2.1 b.2.2.2.1 b.2.2.2.2.1 b.2.2.2.2.2.1 b.2.2.2.2.2.2.1 b.2.2.2.2.2.2.2.1 b.2.2.2.2.2.2.2.2).bind λq=>sumC q (λv=>N (.inr (.inl v))) (λc=>let n:=w64 (c.1+1)
 N (.inl (n,c.2.1,c.2.2.1,c.2.2.2.1,c.2.2.2.2.1,c.2.2.2.2.2)))))))) Y) Y) (N (.inr (.inr ())))
def FK[LP](d:L)(e:ag)(c:ah)(b:ak)(a:an)(f:M U):S (L ⊕ Ç):=LP.lp (unc6 j2R) (d,e,c,b,a,f)
theorem Sp(d e c b a f):FK d e c b a f=lpK (j2R d e c b a f) (λh=>FK h.1 h.2.1 h.2.2.1 h.2.2.2.1 h.2.2.2.2.1 h.2.2.2.2.2):=bJ _ _
def j9y[LP](a:bH):S Int:=(FK 0 a.1 a.2.1 a.2.2.1 a.2.2.2 ([]:(M U))).bind λb=>sumC b (λc=>N c) (λd=>N 0)
def j4E(p:L)(u:ag)(b:ah)(g:ak)(d:an)(v:U)(k l i f j:L)(a:M L)(m:ae)(c e:L):S ((L×ag×ah×ak×an×U×L×L×L×L×L×(M L)×ae×L×L) ⊕ (L ⊕ (ag×ah×ak×an×U×L×L×L×L×L×(M L)×ae×L×L))):=
 let r:=W a.length
 cond (O (p<r)) (cond (inR p a.length) (let n:=K a p.toNat 0
 let t:=W b.length
 let o:=w64 (t-1)
 (j68 n 0 o).bind λs=>cond (!s) (N (.inr (.inl 3))) (let q:=w64 (p+1)
 N (.inl (q,u,b,g,d,v,k,l,i,f,j,a,m,c,e)))) Y) (N (.inr (.inr (u,b,g,d,v,k,l,i,f,j,a,m,c,e))))
def FL[LP](p:L)(o:ag)(a:ah)(k:ak)(c:an)(n:U)(e i m f b:L)(g:M L)(l:ae)(d j:L):S (L ⊕ (ag×ah×ak×an×U×L×L×L×L×L×(M L)×ae×L×L)):=LP.lp (u8 unc7 j4E) (p,o,a,k,c,n,e,i,m,f,b,g,l,d,j)
theorem Sq(p o a k c n e i m f b g l d j):FL p o a k c n e i m f b g l d j=lpK (j4E p o a k c n e i m f b g l d j) (λh=>FL h.1 h.2.1 h.2.2.1 h.2.2.2.1 h.2.2.2.2.1 h.2.2.2.2.2.1 h.2.2.2.2.2.2.1 h.2.2.2.2.2.2.2.1 h.2.2.2.2.2.2.2.2.1 h.2.2.2.2.2.2.2.2.2.1 h.2.2.2.2.2.2.2.2.2.2.1 h.2.2.2.2.2.2.2.2.2.2.2.1 h.2.2.2.2.2.2.2.2.2.2.2.2.1 h.2.2.2.2.2.2.2.2.2.2.2.2.2.1 h.2.2.2.2.2.2.2.2.2.2.2.2.2.2):=bJ _ _
def jdu[LP](b:bH)(a:dv):S Int:=
 let u:=W b.1.length
 let n:=w64 (u-1)
 (j68 a.2.1 0 n).bind λg=>cond (!g) (N 3) ((j8e).bind λi=>(j68 a.2.2.1.1 1 i).bind λo=>cond (!o) (N 1) ((j68 a.2.2.1.2 0 86399).bind λr=>cond (!r) (N 1) ((j68 a.2.2.2.1 0 2).bind λl=>cond (!l) (N 1) ((j68 a.2.2.2.2.1 1 400).bind λt=>cond (!t) (N 1) (let q:=W a.2.2.2.2.2.1.length
 cond (q==0) (N 7) (let p:=W a.2.2.2.2.2.1.length
 cond (O (p>12)) (N 5) ((FL 0 b.1 b.2.1 b.2.2.1 b.2.2.2 a.1 a.2.1 a.2.2.1.1 a.2.2.1.2 a.2.2.2.1 a.2.2.2.2.1 a.2.2.2.2.2.1 a.2.2.2.2.2.2.1 a.2.2.2.2.2.2.2.1 a.2.2.2.2.2.2.2.2).bind λv=>sumC v (λw=>N w) (λd=>(j7x d.2.2.2.2.2.2.2.2.2.2.2.1).bind λs=>cond (s != 0) (N 8) ((j68 d.2.2.2.2.2.2.2.2.2.2.2.2.2 0 2).bind λk=>cond (!k) (N 1) (let j:=W d.2.2.1.length
 let m:=w64 (j-1)
 cond (d.2.2.2.2.2.2.2.2.2.2.2.2.2 != 0) ((j68 d.2.2.2.2.2.2.2.2.2.2.2.2.1 0 m).bind λf=>cond (!f) (N 3) (let e:Bool:=cond (d.2.2.2.2.2.2.2.2.2.2.2.2.2==0) (d.2.2.2.2.2.2.2.2.2.2.2.2.1 != 0) À
 cond e (N 1) (N 0))) (let c:Bool:=cond (d.2.2.2.2.2.2.2.2.2.2.2.2.2==0) (d.2.2.2.2.2.2.2.2.2.2.2.2.1 != 0) À
 cond c (N 1) (N 0))))))))))))
def jg0(d:bH)(a:mi):S Int:=
 let j:=W d.2.1.length
 (j68 a.1 0 2).bind λe=>cond (!e) (N 1) (let l:=w64 (j-1)
 (j68 a.2.1 0 l).bind λi=>let g:=w64 (j-1)
 cond (cond (!i) (cond (a.1 != 1) Â (a.2.1 != (-1))) À) (cond ((!(a.1==2)) || !(!Â)) (N 3) Y) (cond (a.1==2) ((j68 a.2.2.1 0 g).bind λk=>cond (!k) (N 3) (cond (cond (a.1 != 2) (a.2.2.1 != 0) À) (N 1) (cond (cond (a.1==2) (a.2.1==a.2.2.1) À) (N 4) (cond (O (a.2.2.2.1<0)) (N 1) (cond (O (a.2.2.2.2<0)) (N 1) (let m:=w64 (È a.2.2.2.2 86400)
 (j8e).bind λf=>cond (O (m>f)) (N 1) (cond (O (a.2.2.2.1>=a.2.2.2.2)) (N 6) (N 0)))))))) (cond (cond (a.1 != 2) (a.2.2.1 != 0) À) (N 1) (cond (cond (a.1==2) (a.2.1==a.2.2.1) À) (N 4) (cond (O (a.2.2.2.1<0)) (N 1) (cond (O (a.2.2.2.2<0)) (N 1) (let b:=w64 (È a.2.2.2.2 86400)
 (j8e).bind λc=>cond (O (b>c)) (N 1) (cond (O (a.2.2.2.1>=a.2.2.2.2)) (N 6) (N 0)))))))))
def j2S[LP](p f:L)(o:ag)(e:ah)(d:ak)(c:an)(r:U)(b:aj)(l:aq)(s q:M U):S ((L×L×ag×ah×ak×an×U×aj×aq×(M U)×(M U)) ⊕ (L ⊕ (L×ag×ah×ak×an×U×aj×aq×(M U)))):=
 let n:=W b.length
 cond (O (f<n)) (cond (inR f b.length) (let k:=K b f.toNat (J,(0,((0,0),(0,(0,(([]:(M L)),(([]:ae),(0,0))))))))
 cond (O (X q+X [k.1]<=aR)) (let j:M ByteArray:=q++[k.1]
 (jaS j f).bind λg=>cond (g != 0) (N (.inr (.inl g))) (cond (inR f b.length) (let a:=K b f.toNat (J,(0,((0,0),(0,(0,(([]:(M L)),(([]:ae),(0,0))))))))
 (jdu (o,(e,(d,c))) (a.1,(a.2.1,((a.2.2.1.1,a.2.2.1.2),(a.2.2.2.1,(a.2.2.2.2.1,(a.2.2.2.2.2.1,(a.2.2.2.2.2.2.1,(a.2.2.2.2.2.2.2.1,a.2.2.2.2.2.2.2.2))))))))).bind λi=>cond (i != 0) (N (.inr (.inl i))) (let m:=w64 (f+1)
 N (.inl (p,m,o,e,d,c,r,b,l,s,j)))) Y)) Y) Y) (N (.inr (.inr (p,o,e,d,c,r,b,l,s))))
def FM[LP](f l:L)(i:ag)(e:ah)(c:ak)(b:an)(j:U)(d:aj)(a:aq)(k g:M U):S (L ⊕ (L×ag×ah×ak×an×U×aj×aq×(M U))):=LP.lp (u8 unc3 j2S) (f,l,i,e,c,b,j,d,a,k,g)
theorem Sr(f l i e c b j d a k g):FM f l i e c b j d a k g=lpK (j2S f l i e c b j d a k g) (λh=>FM h.1 h.2.1 h.2.2.1 h.2.2.2.1 h.2.2.2.2.1 h.2.2.2.2.2.1 h.2.2.2.2.2.2.1 h.2.2.2.2.2.2.2.1 h.2.2.2.2.2.2.2.2.1 h.2.2.2.2.2.2.2.2.2.1 h.2.2.2.2.2.2.2.2.2.2):=bJ _ _
def j2T(m g:L)(k:ag)(e:ah)(d:ak)(c:an)(o:U)(l:aj)(b:aq)(n:M U):S ((L×L×ag×ah×ak×an×U×aj×aq×(M U)) ⊕ (L ⊕ (L×ag×ah×ak×an×(M U)))):=
 let j:=W b.length
 cond (O (g<j)) (cond (inR g b.length) (let a:=K b g.toNat (0,(0,(0,(0,0))))
 (jg0 (k,(e,(d,c))) (a.1,(a.2.1,(a.2.2.1,(a.2.2.2.1,a.2.2.2.2))))).bind λf=>cond (f != 0) (N (.inr (.inl f))) (let i:=w64 (g+1)
 N (.inl (m,i,k,e,d,c,o,l,b,n)))) Y) (N (.inr (.inr (m,k,e,d,c,n))))
def FN[LP](g f:L)(i:ag)(e:ah)(c:ak)(b:an)(j:U)(d:aj)(a:aq)(k:M U):S (L ⊕ (L×ag×ah×ak×an×(M U))):=LP.lp (u8 unc2 j2T) (g,f,i,e,c,b,j,d,a,k)
theorem Ss(g f i e c b j d a k):FN g f i e c b j d a k=lpK (j2T g f i e c b j d a k) (λh=>FN h.1 h.2.1 h.2.2.1 h.2.2.2.1 h.2.2.2.2.1 h.2.2.2.2.2.1 h.2.2.2.2.2.2.1 h.2.2.2.2.2.2.2.1 h.2.2.2.2.2.2.2.2.1 h.2.2.2.2.2.2.2.2.2):=bJ _ _
def j2U[LP](g:L)(t:ag)(p:ah)(o:ak)(d:an)(q:M U):S ((L×ag×ah×ak×an×(M U)) ⊕ (L ⊕ Ç)):=
 let l:=W d.length
 cond (O (g<l)) (cond (inR g d.length) (let a:=K d g.toNat (J,(([]:aj),([]:aq)))
 cond (O (X q+X [a.1]<=aR)) (let f:M ByteArray:=q++[a.1]
 (jaS f g).bind λe=>cond (e != 0) (N (.inr (.inl e))) (let i:=W a.2.1.length
 let j:=W a.2.2.length
 cond (cond (O (i>6)) Â (O (j>48))) (N (.inr (.inl 5))) ((FM g 0 t p o d a.1 a.2.1 a.2.2 f ([]:(M U))).bind λm=>sumC m (λr=>N (.inr (.inl r))) (λb=>(FN b.1 0 b.2.1 b.2.2.1 b.2.2.2.1 b.2.2.2.2.1 b.2.2.2.2.2.1 b.2.2.2.2.2.2.1 b.2.2.2.2.2.2.2.1 b.2.2.2.2.2.2.2.2).bind λn=>sumC n (λs=>N (.inr (.inl s))) (λc=>let k:=w64 (c.1+1)
 N (.inl (k,c.2.1,c.2.2.1,c.2.2.2.1,c.2.2.2.2.1,c.2.2.2.2.2))))))) Y) Y) (N (.inr (.inr ())))
def FO[LP](d:L)(e:ag)(c:ah)(b:ak)(a:an)(f:M U):S (L ⊕ Ç):=LP.lp (unc6 j2U) (d,e,c,b,a,f)
theorem Su(d e c b a f):FO d e c b a f=lpK (j2U d e c b a f) (λh=>FO h.1 h.2.1 h.2.2.1 h.2.2.2.1 h.2.2.2.2.1 h.2.2.2.2.2):=bJ _ _
def jck[LP](a:bH):S Int:=(FO 0 a.1 a.2.1 a.2.2.1 a.2.2.2 ([]:(M U))).bind λb=>sumC b (λc=>N c) (λd=>N 0)
def j6s[LP](a:bH):S Int:=
 let k:=W a.1.length
 let e:=W a.2.1.length
 let f:=W a.2.2.1.length
 let i:Bool:=cond (cond (O (k>16)) Â (O (e>32))) Â (O (f>8))
 let j:=W a.2.2.2.length
 cond (cond i Â (O (j>12))) (N 5) ((jfZ (a.1,(a.2.1,(a.2.2.1,a.2.2.2)))).bind λb=>cond (b != 0) (N b) ((jeb (a.1,(a.2.1,(a.2.2.1,a.2.2.2)))).bind λd=>cond (d != 0) (N d) ((j9y (a.1,(a.2.1,(a.2.2.1,a.2.2.2)))).bind λc=>cond (c != 0) (N c) ((jck (a.1,(a.2.1,(a.2.2.1,a.2.2.2)))).bind λg=>N g))))
def j7y(c b:L):S ((L×L) ⊕ (L)):=cond (b != 0) (cond (!(b==0)) (let a:=Ä c b
 N (.inl (b,a))) Y) (N (.inr c))
def FP[LP](b a:L):S Int:=LP.lp (unc2 j7y) (b,a)
theorem _9(b a):FP b a=lpK (j7y b a) (λh=>FP h.1 h.2):=bJ _ _
def jlA[LP](b a:L):S Int:=(FP b a).bind λc=>N c
def j47[LP](k:L)(e:aj)(j:L):S ((L×aj×L) ⊕ ((L×L) ⊕ L)):=
 let g:=W e.length
 cond (O (j<g)) (cond (inR j e.length) (let a:=K e j.toNat (J,(0,((0,0),(0,(0,(([]:(M L)),(([]:ae),(0,0))))))))
 (j5y (a.1,(a.2.1,((a.2.2.1.1,a.2.2.1.2),(a.2.2.2.1,(a.2.2.2.2.1,(a.2.2.2.2.2.1,(a.2.2.2.2.2.2.1,(a.2.2.2.2.2.2.2.1,a.2.2.2.2.2.2.2.2))))))))).bind λd=>(jlA k d.1).bind λb=>cond (!(b==0)) (let i:=w64 (È k b)
 let c:=w64 (i*d.1)
 cond (O (c>4294967296)) (N (.inr (.inl (0,5)))) (let f:=w64 (j+1)
 N (.inl (c,e,f)))) Y) Y) (N (.inr (.inr k)))
def Ct[LP](a:L)(b:aj)(c:L):S ((L×L) ⊕ L):=LP.lp (unc3 j47) (a,b,c)
theorem Sv(a b c):Ct a b c=lpK (j47 a b c) (λh=>Ct h.1 h.2.1 h.2.2):=bJ _ _
def j5Z[LP](b:bH)(a:L):S (L×L):=(j6s (b.1,(b.2.1,(b.2.2.1,b.2.2.2)))).bind λc=>cond (c != 0) (N (0,8)) (let d:=W b.2.2.2.length
 cond (cond (O (a<0)) Â (O (a>=d))) (N (0,3)) (cond (inR a b.2.2.2.length) (let e:=K b.2.2.2 a.toNat (J,(([]:aj),([]:aq)))
 (Ct 604800 e.2.1 0).bind λf=>sumC f (λg=>N (g.1,g.2)) (λi=>N (i,0))) Y))
def jg1(b a:L):S Int:=cond (!(a==0)) (let e:=Ä b a
 let d:=w64 (e+a)
 cond (!(a==0)) (let c:=Ä d a
 N c) Y) Y
def jeY[LP](a:du):S Int:=(j0g (a.1,(a.2.1,a.2.2))).bind λb=>let e:=W b.1.length
 cond (cond (b.2 != 0) Â (e==0)) (N 0) (let d:=W b.1.length
 let c:=w64 (d-1)
 cond (inR c b.1.length) (let f:=(K b.1 c.toNat (0,0)).1
 N f) Y)
def jaV[LP](a:du):S Int:=(j0g (a.1,(a.2.1,a.2.2))).bind λb=>let e:=W b.1.length
 cond (cond (b.2 != 0) Â (e==0)) (N 0) ((jeY (a.1,(a.2.1,a.2.2))).bind λd=>let c:=w64 (d+86400)
 N c)
def ja4[LP](b:du)(a:dv):S Int:=(j5D (b.1,(b.2.1,b.2.2))).bind λi=>let c:Bool:=cond (cond (i != 0) Â (O (a.2.2.1.1<1))) Â (O (a.2.2.1.1>100000))
 let g:Bool:=cond (cond c Â (O (a.2.2.1.2<0))) Â (O (a.2.2.1.2>=86400))
 let f:Bool:=cond (cond g Â (O (a.2.2.2.1<0))) Â (O (a.2.2.2.1>2))
 let d:Bool:=cond (cond f Â (O (a.2.2.2.2.1<1))) Â (O (a.2.2.2.2.1>400))
 let e:=W a.2.2.2.2.2.1.length
 cond (cond d Â (e==0)) (N 8) (N 0)
def jdv(a:L):S Bool:=(j7d a (-2) 99422).bind λb=>N b
def j3C(c:L)(a2:U)(d:L)(f:aQ)(g a:L)(b:ae):S ((L×U×L×aQ×L×L×ae) ⊕ ((L×L) ⊕ Ç)):=
 let t:=W b.length
 cond (O (c<t)) (cond (O (c>=0)) (cond (inR c b.length) (let l:=(K b c.toNat (0,0)).2
 cond (inR c b.length) (let e:=(K b c.toNat (0,0)).1
 let b2:=w64 (c+1)
 let a8:=W b.length
 cond (O (b2<a8)) (let p:=w64 (c+1)
 cond (inR p b.length) (let a3:=(K b p.toNat (0,0)).1
 let a7:=w64 (g*86400)
 let z:=w64 (a7+a)
 let j:=w64 (z-l)
 let i:Int:=if j>e then j else e
 cond (O (i<a3)) (N (.inr (.inl (i,0)))) (let b1:=w64 (c+1)
 N (.inl (b1,a2,d,f,g,a,b)))) Y) (let a0:=w64 (g*86400)
 let a5:=w64 (a0+a)
 let q:=w64 (a5-l)
 let s:Int:=if q>e then q else e
 cond (O (s<8589934593)) (N (.inr (.inl (s,0)))) (let a1:=w64 (c+1)
 N (.inl (a1,a2,d,f,g,a,b))))) Y) Y) (let a9:=w64 (c+1)
 let w:=W b.length
 cond (O (a9<w)) (let k:=w64 (c+1)
 cond (inR k b.length) (let a6:=(K b k.toNat (0,0)).1
 let u:=w64 (g*86400)
 let y:=w64 (u+a)
 let o:=w64 (y-d)
 let r:Int:=if o>0 then o else 0
 cond (O (r<a6)) (N (.inr (.inl (r,0)))) (let a4:=w64 (c+1)
 N (.inl (a4,a2,d,f,g,a,b)))) Y) (let x:=w64 (g*86400)
 let b0:=w64 (x+a)
 let m:=w64 (b0-d)
 let n:Int:=if m>0 then m else 0
 cond (O (n<8589934593)) (N (.inr (.inl (n,0)))) (let v:=w64 (c+1)
 N (.inl (v,a2,d,f,g,a,b)))))) (N (.inr (.inr ())))
def si[LP](g:L)(e:U)(a:L)(c:aQ)(d b:L)(f:ae):S ((L×L) ⊕ Ç):=LP.lp (unc7 j3C) (g,e,a,c,d,b,f)
theorem Kj(g e a c d b f):si g e a c d b f=lpK (j3C g e a c d b f) (λh=>si h.1 h.2.1 h.2.2.1 h.2.2.2.1 h.2.2.2.2.1 h.2.2.2.2.2.1 h.2.2.2.2.2.2):=bJ _ _
def j2V[LP](a:du)(b:L×L):S (L×L):=(j0g (a.1,(a.2.1,a.2.2))).bind λc=>cond (c.2 != 0) (N (0,8)) ((j7d b.2 0 86399).bind λe=>cond (!e) (N (0,1)) (cond (O (b.1<(-2))) (N (0,0)) ((jdv b.1).bind λd=>cond (!d) (N (0,10)) ((si (-1) a.1 a.2.1 a.2.2 b.1 b.2 c.1).bind λf=>sumC f (λg=>N (g.1,g.2)) (λi=>N (0,10))))))
def j5E[LP](b:du)(a:dv)(e:L):S (L×Å):=cond (a.2.2.2.1==0) ((j2V (b.1,(b.2.1,b.2.2)) (a.2.2.1.1,a.2.2.1.2)).bind λd=>let n:=w64 (e*a.2.2.2.2.1)
 let j:=w64 (n*3600)
 let o:=w64 (d.1+j)
 let l:=w64 (d.1+j)
 N (o,(cond (d.2==0) (O (l<=8589934592)) À))) (let i:=w64 (e*a.2.2.2.2.1)
 cond (a.2.2.2.1==2) (let m:=w64 (i*7)
 let k:=w64 (a.2.2.1.1+m)
 (j2V (b.1,(b.2.1,b.2.2)) (k,a.2.2.1.2)).bind λg=>N (g.1,(g.2==0))) (let f:=w64 (a.2.2.1.1+i)
 (j2V (b.1,(b.2.1,b.2.2)) (f,a.2.2.1.2)).bind λc=>N (c.1,(c.2==0))))
def jaW[LP](b:du)(a:dv)(c:L):S (L×L):=(ja4 (b.1,(b.2.1,b.2.2)) (a.1,(a.2.1,((a.2.2.1.1,a.2.2.1.2),(a.2.2.2.1,(a.2.2.2.2.1,(a.2.2.2.2.2.1,(a.2.2.2.2.2.2.1,(a.2.2.2.2.2.2.2.1,a.2.2.2.2.2.2.2.2))))))))).bind λe=>cond (e != 0) (N (0,8)) (cond (O (c<0)) (N (0,1)) (cond (O (c>2386092)) (N (0,10)) ((j5E (b.1,(b.2.1,b.2.2)) (a.1,(a.2.1,((a.2.2.1.1,a.2.2.1.2),(a.2.2.2.1,(a.2.2.2.2.1,(a.2.2.2.2.2.1,(a.2.2.2.2.2.2.1,(a.2.2.2.2.2.2.2.1,a.2.2.2.2.2.2.2.2)))))))) c).bind λd=>cond (!d.2) (N (0,10)) (N (d.1,0)))))
def j2F[LP](c1 o:L)(d:ag)(i:ah)(b:ak)(j:an)(t:U)(c:aj)(f:aq):S ((L×L×ag×ah×ak×an×U×aj×aq) ⊕ (L×U×aj×aq)):=
 let c0:=W c.length
 cond (O (o<c0)) (cond (inR o c.length) (let a:=K c o.toNat (J,(0,((0,0),(0,(0,(([]:(M L)),(([]:ae),(0,0))))))))
 cond (inR a.2.1 d.length) (let u:=K d a.2.1.toNat (J,(0,([]:aQ)))
 (jaV (u.1,(u.2.1,u.2.2))).bind λa2=>let k:Int:=if a2>c1 then a2 else c1
 cond (inR a.2.1 d.length) (let s:=K d a.2.1.toNat (J,(0,([]:aQ)))
 (jaW (s.1,(s.2.1,s.2.2)) (a.1,(a.2.1,((a.2.2.1.1,a.2.2.1.2),(a.2.2.2.1,(a.2.2.2.2.1,(a.2.2.2.2.2.1,(a.2.2.2.2.2.2.1,(a.2.2.2.2.2.2.2.1,a.2.2.2.2.2.2.2.2)))))))) 0).bind λv=>cond (v.2==0) (let w:Int:=if v.1>k then v.1 else k
 cond (a.2.2.2.2.2.2.2.2==0) (let b9:=w64 (o+1)
 N (.inl (w,b9,d,i,b,j,t,c,f))) (cond (inR a.2.2.2.2.2.2.2.1 b.length) (let g:=K b a.2.2.2.2.2.2.2.1.toNat (J,(0,([]:(M L))))
 cond (inR g.2.1 d.length) (let y:=K d g.2.1.toNat (J,(0,([]:aQ)))
 (jaV (y.1,(y.2.1,y.2.2))).bind λa4=>let m:Int:=if a4>w then a4 else w
 let a1:=W g.2.2.length
 cond (O (a1>0)) (cond (inR g.2.1 d.length) (let n:=K d g.2.1.toNat (J,(0,([]:aQ)))
 let z:=w64 (a1-1)
 cond (inR z g.2.2.length) (let b2:=K g.2.2 z.toNat 0
 let a7:=w64 (b2+1)
 (j2V (n.1,(n.2.1,n.2.2)) (a7,0)).bind λp=>cond (p.2==0) (let a8:Int:=if p.1>m then p.1 else m
 let b8:=w64 (o+1)
 N (.inl (a8,b8,d,i,b,j,t,c,f))) (let b7:=w64 (o+1)
 N (.inl (m,b7,d,i,b,j,t,c,f)))) Y) Y) (let a6:=w64 (o+1)
 N (.inl (m,a6,d,i,b,j,t,c,f)))) Y) Y)) (cond (a.2.2.2.2.2.2.2.2==0) (let b6:=w64 (o+1)
 N (.inl (k,b6,d,i,b,j,t,c,f))) (cond (inR a.2.2.2.2.2.2.2.1 b.length) (let e:=K b a.2.2.2.2.2.2.2.1.toNat (J,(0,([]:(M L))))
 cond (inR e.2.1 d.length) (let x:=K d e.2.1.toNat (J,(0,([]:aQ)))
 (jaV (x.1,(x.2.1,x.2.2))).bind λa5=>let l:Int:=if a5>k then a5 else k
 let a3:=W e.2.2.length
 cond (O (a3>0)) (cond (inR e.2.1 d.length) (let r:=K d e.2.1.toNat (J,(0,([]:aQ)))
 let a0:=w64 (a3-1)
 cond (inR a0 e.2.2.length) (let b0:=K e.2.2 a0.toNat 0
 let b5:=w64 (b0+1)
 (j2V (r.1,(r.2.1,r.2.2)) (b5,0)).bind λq=>cond (q.2==0) (let b3:Int:=if q.1>l then q.1 else l
 let b4:=w64 (o+1)
 N (.inl (b3,b4,d,i,b,j,t,c,f))) (let a9:=w64 (o+1)
 N (.inl (l,a9,d,i,b,j,t,c,f)))) Y) Y) (let b1:=w64 (o+1)
 N (.inl (l,b1,d,i,b,j,t,c,f)))) Y) Y))) Y) Y) Y) (N (.inr (c1,t,c,f)))
def Cu[LP](j f:L)(g:ag)(a:ah)(d:ak)(b:an)(i:U)(e:aj)(c:aq):S (L×U×aj×aq):=LP.lp (unc9 j2F) (j,f,g,a,d,b,i,e,c)
theorem Sw(j f g a d b i e c):Cu j f g a d b i e c=lpK (j2F j f g a d b i e c) (λh=>Cu h.1 h.2.1 h.2.2.1 h.2.2.2.1 h.2.2.2.2.1 h.2.2.2.2.2.1 h.2.2.2.2.2.2.1 h.2.2.2.2.2.2.2.1 h.2.2.2.2.2.2.2.2):=bJ _ _
def j3N(i c:L)(j:U)(g:aj)(a:aq):S ((L×L×U×aj×aq) ⊕ (L)):=
 let f:=W a.length
 cond (O (c<f)) (cond (inR c a.length) (let b:=K a c.toNat (0,(0,(0,(0,0))))
 let d:Int:=if b.2.2.2.2>i then b.2.2.2.2 else i
 let e:=w64 (c+1)
 N (.inl (d,e,j,g,a))) Y) (N (.inr i))
def Cv[LP](e c:L)(d:U)(b:aj)(a:aq):S Int:=LP.lp (unc5 j3N) (e,c,d,b,a)
theorem Sz(e c d b a):Cv e c d b a=lpK (j3N e c d b a) (λh=>Cv h.1 h.2.1 h.2.2.1 h.2.2.2.1 h.2.2.2.2):=bJ _ _
def jcl[LP](b:bH)(a:L):S Int:=(j6s (b.1,(b.2.1,(b.2.2.1,b.2.2.2)))).bind λf=>let e:=W b.2.2.2.length
 let g:Bool:=cond (cond (f != 0) Â (O (a<0))) Â (O (a>=e))
 cond g (N 0) (cond (inR a b.2.2.2.length) (let c:=K b.2.2.2 a.toNat (J,(([]:aj),([]:aq)))
 (Cu 0 0 b.1 b.2.1 b.2.2.1 b.2.2.2 c.1 c.2.1 c.2.2).bind λd=>(Cv d.1 0 d.2.1 d.2.2.1 d.2.2.2).bind λi=>N i) Y)
def j9L[LP](a:bH)(b c:L):S (L×L):=(j5Z (a.1,(a.2.1,(a.2.2.1,a.2.2.2))) b).bind λd=>cond (d.2 != 0) (N (0,d.2)) (cond (cond (O (c<0)) Â (O (c>8589934592))) (N (0,1)) ((jcl (a.1,(a.2.1,(a.2.2.1,a.2.2.2))) b).bind λe=>let f:=w64 (e+d.1)
 cond (O (c<f)) (N (c,0)) (let g:=w64 (c-e)
 cond (!(d.1==0)) (let j:=Ä g d.1
 let i:=w64 (e+j)
 N (i,0)) Y)))
def jt6[LP](b:bH)(a c:L):S Bool:=
 let d:=W b.2.2.2.length
 let f:Bool:=cond (cond (O (a>=0)) (O (a<d)) À) (O (c>=0)) À
 cond (cond f (O (c<=8589934592)) À) ((j6s (b.1,(b.2.1,(b.2.2.1,b.2.2.2)))).bind λe=>N (e==0)) (N À)
def j49(c:ae)(g i a:L):S ((ae×L×L×L) ⊕ (L)):=
 let b:=W c.length
 cond ((inR a c.length) || !(O (a<b))) (let e:=K c a.toNat (0,0)
 cond (cond (O (a<b)) (O (e.1<=g)) À) (cond (inR a c.length) (let d:=K c a.toNat (0,0)
 let f:=w64 (a+1)
 N (.inl (c,g,d.2,f))) Y) (N (.inr i))) Y
def Cw[LP](a:ae)(d b c:L):S Int:=LP.lp (unc4 j49) (a,d,b,c)
theorem SA(c b a d):Cw c b a d=lpK (j49 c b a d) (λh=>Cw h.1 h.2.1 h.2.2.1 h.2.2.2):=bJ _ _
def jed[LP](b:du)(a:ae)(c:L):S Int:=(Cw a c b.2.1 0).bind λd=>N d
def j8W[LP](a:du)(b:L):S (L×L):=(j0g (a.1,(a.2.1,a.2.2))).bind λc=>cond (c.2 != 0) (N (0,8)) ((j7d b 0 8589934592).bind λe=>cond (!e) (N (0,1)) ((jed (a.1,(a.2.1,a.2.2)) c.1 b).bind λd=>N (d,0)))
def jg2(b a:L):S (L×L):=
 let g:=w64 (b+a)
 let c:=w64 (g+864000)
 let f:=w64 (È c 86400)
 let e:=w64 (f-10)
 let d:=Ä c 86400
 N (e,d)
def j3b[LP](a:du)(c:L):S ((L×L)×L):=(j8W (a.1,(a.2.1,a.2.2)) c).bind λb=>cond (b.2 != 0) (N ((0,0),b.2)) ((jg2 c b.1).bind λd=>N ((d.1,d.2),0))
def j4F[LP](r c:L)(q:U)(d:L)(g:aQ)(p:U)(e k m j i:L)(b:M L)(f:ae)(n l:L):S ((L×L×U×L×aQ×U×L×L×L×L×L×(M L)×ae×L×L) ⊕ (L)):=cond (O (c>=0)) ((j5E (q,(d,g)) (p,(e,((k,m),(j,(i,(b,(f,(n,l)))))))) c).bind λa=>cond (cond a.2 (O (a.1<=r)) À) (N (.inr c)) (let o:=w64 (c-1)
 N (.inl (r,o,q,d,g,p,e,k,m,j,i,b,f,n,l)))) (N (.inr c))
def wL[LP](p m:L)(o:U)(b:L)(e:aQ)(n:U)(c i k g f:L)(a:M L)(d:ae)(l j:L):S Int:=LP.lp (u8 unc7 j4F) (p,m,o,b,e,n,c,i,k,g,f,a,d,l,j)
theorem SB(p m o b e n c i k g f a d l j):wL p m o b e n c i k g f a d l j=lpK (j4F p m o b e n c i k g f a d l j) (λh=>wL h.1 h.2.1 h.2.2.1 h.2.2.2.1 h.2.2.2.2.1 h.2.2.2.2.2.1 h.2.2.2.2.2.2.1 h.2.2.2.2.2.2.2.1 h.2.2.2.2.2.2.2.2.1 h.2.2.2.2.2.2.2.2.2.1 h.2.2.2.2.2.2.2.2.2.2.1 h.2.2.2.2.2.2.2.2.2.2.2.1 h.2.2.2.2.2.2.2.2.2.2.2.2.1 h.2.2.2.2.2.2.2.2.2.2.2.2.2.1 h.2.2.2.2.2.2.2.2.2.2.2.2.2.2):=bJ _ _
def jdx[LP](b:du)(a:dv)(c:L):S Int:=cond (a.2.2.2.1==0) ((j2V (b.1,(b.2.1,b.2.2)) (a.2.2.1.1,a.2.2.1.2)).bind λe=>cond (cond (e.2==0) (O (e.1<=c)) À) (let p:=w64 (c-e.1)
 let m:=w64 (3600*a.2.2.2.2.1)
 cond (!(m==0)) (let r:=w64 (È p m)
 N r) Y) (N (-1))) ((j3b (b.1,(b.2.1,b.2.2)) c).bind λj=>cond (a.2.2.2.1==2) (let l:=w64 (a.2.2.2.2.1*7)
 let q:=w64 (j.1.1+2)
 let k:=w64 (q-a.2.2.1.1)
 let o:Int:=if 0>k then 0 else k
 cond (!(l==0)) (let s:=w64 (È o l)
 (wL c s b.1 b.2.1 b.2.2 a.1 a.2.1 a.2.2.1.1 a.2.2.1.2 a.2.2.2.1 a.2.2.2.2.1 a.2.2.2.2.2.1 a.2.2.2.2.2.2.1 a.2.2.2.2.2.2.2.1 a.2.2.2.2.2.2.2.2).bind λt=>N t) Y) (let i:=w64 (j.1.1+2)
 let d:=w64 (i-a.2.2.1.1)
 let g:Int:=if 0>d then 0 else d
 cond (!(a.2.2.2.2.1==0)) (let f:=w64 (È g a.2.2.2.2.1)
 (wL c f b.1 b.2.1 b.2.2 a.1 a.2.1 a.2.2.1.1 a.2.2.1.2 a.2.2.2.1 a.2.2.2.2.1 a.2.2.2.2.2.1 a.2.2.2.2.2.2.1 a.2.2.2.2.2.2.2.1 a.2.2.2.2.2.2.2.2).bind λn=>N n) Y))
def jdy[LP](b:du)(a:dv)(c:L):S (L×L):=(ja4 (b.1,(b.2.1,b.2.2)) (a.1,(a.2.1,((a.2.2.1.1,a.2.2.1.2),(a.2.2.2.1,(a.2.2.2.2.1,(a.2.2.2.2.2.1,(a.2.2.2.2.2.2.1,(a.2.2.2.2.2.2.2.1,a.2.2.2.2.2.2.2.2))))))))).bind λd=>cond (d != 0) (N (0,8)) (cond (cond (O (c<0)) Â (O (c>8589934592))) (N (0,1)) ((jdx (b.1,(b.2.1,b.2.2)) (a.1,(a.2.1,((a.2.2.1.1,a.2.2.1.2),(a.2.2.2.1,(a.2.2.2.2.1,(a.2.2.2.2.2.1,(a.2.2.2.2.2.2.1,(a.2.2.2.2.2.2.2.1,a.2.2.2.2.2.2.2.2)))))))) c).bind λe=>N (e,0)))
def jee(a:L×L):S Int:=(jcj a.1).bind λc=>let d:=w64 (c*86400)
 let b:=w64 (d+a.2)
 N b
def j9M[LP](a:du)(c:L):S (L×L):=(j3b (a.1,(a.2.1,a.2.2)) c).bind λb=>cond (b.2 != 0) (N (0,b.2)) ((jee (b.1.1,b.1.2)).bind λd=>N (d,0))
def j4a(b:ae)(e c:L):S ((ae×L×L) ⊕ (Å ⊕ Ç)):=
 let g:=W b.length
 cond (O (c<g)) (cond (inR c b.length) (let a:=K b c.toNat (0,0)
 cond ((inR c b.length) || !(O (e>=a.1))) (let f:=K b c.toNat (0,0)
 cond (cond (O (e>=a.1)) (O (e<f.2)) À) (N (.inr (.inl Â))) (let d:=w64 (c+1)
 N (.inl (b,e,d)))) Y) Y) (N (.inr (.inr ())))
def Cx[LP](b:ae)(a c:L):S (Å ⊕ Ç):=LP.lp (unc3 j4a) (b,a,c)
theorem SC(b a c):Cx b a c=lpK (j4a b a c) (λh=>Cx h.1 h.2.1 h.2.2):=bJ _ _
def jef[LP](a:ae)(b:L):S Bool:=(Cx a b 0).bind λc=>sumC c (λd=>N d) (λe=>N À)
def jnd[LP](a:du)(b:ae)(d:L):S Bool:=(j9M (a.1,(a.2.1,a.2.2)) d).bind λc=>cond (c.2==0) ((j7x b).bind λf=>cond (f==0) ((jef b c.1).bind λe=>N e) (N À)) (N À)
def j59(v:L)(t:Å)(b:L)(w:U)(c d g f k:L)(i:M L)(e:ae)(l j:L)(u:U)(m:L)(a:M L)(o n:L):S ((L×Å×L×U×L×L×L×L×L×(M L)×ae×L×L×U×L×(M L)×L×L) ⊕ (L×Å×U×L×L×L×L×L×(M L)×ae×L×L)):=
 let q:=W a.length
 cond (O (b<q)) (cond t (let p:=w64 (b+1)
 N (.inl (v,Â,p,w,c,d,g,f,k,i,e,l,j,u,m,a,o,n))) (cond (inR b a.length) (let s:=K a b.toNat 0
 let r:=w64 (b+1)
 N (.inl (v,(s==o),r,w,c,d,g,f,k,i,e,l,j,u,m,a,o,n))) Y)) (N (.inr (v,t,w,c,d,g,f,k,i,e,l,j)))
def wM[LP](r:L)(n:Å)(o:L)(s:U)(e j l i g:L)(d:M L)(f:ae)(m k:L)(p:U)(b:L)(a:M L)(q c:L):S (L×Å×U×L×L×L×L×L×(M L)×ae×L×L):=LP.lp (u8 (u8 unc2) j59) (r,n,o,s,e,j,l,i,g,d,f,m,k,p,b,a,q,c)
theorem SD(r o n s d e i g l j f m k q a c p b):wM r o n s d e i g l j f m k q a c p b=lpK (j59 r o n s d e i g l j f m k q a c p b) (λh=>wM h.1 h.2.1 h.2.2.1 h.2.2.2.1 h.2.2.2.2.1 h.2.2.2.2.2.1 h.2.2.2.2.2.2.1 h.2.2.2.2.2.2.2.1 h.2.2.2.2.2.2.2.2.1 h.2.2.2.2.2.2.2.2.2.1 h.2.2.2.2.2.2.2.2.2.2.1 h.2.2.2.2.2.2.2.2.2.2.2.1 h.2.2.2.2.2.2.2.2.2.2.2.2.1 h.2.2.2.2.2.2.2.2.2.2.2.2.2.1 h.2.2.2.2.2.2.2.2.2.2.2.2.2.2.1 h.2.2.2.2.2.2.2.2.2.2.2.2.2.2.2.1 h.2.2.2.2.2.2.2.2.2.2.2.2.2.2.2.2.1 h.2.2.2.2.2.2.2.2.2.2.2.2.2.2.2.2.2):=bJ _ _
def jg3[LP](b:bH)(a:dv)(g:L):S (L×Å):=cond (inR a.2.1 b.1.length) (let e:=K b.1 a.2.1.toNat (J,(0,([]:aQ)))
 (jdy (e.1,(e.2.1,e.2.2)) (a.1,(a.2.1,((a.2.2.1.1,a.2.2.1.2),(a.2.2.2.1,(a.2.2.2.2.1,(a.2.2.2.2.2.1,(a.2.2.2.2.2.2.1,(a.2.2.2.2.2.2.2.1,a.2.2.2.2.2.2.2.2)))))))) g).bind λd=>let n:=W a.2.2.2.2.2.2.1.length
 cond (cond (d.2 != 0) Â (O (d.1<0))) (cond ((!(O (n>0))) || !(!Â)) (N (0,À)) Y) (cond (O (n>0)) ((jnd (e.1,(e.2.1,e.2.2)) a.2.2.2.2.2.2.1 g).bind λp=>cond (!p) (N (0,À)) (cond (a.2.2.2.2.2.2.2.2==0) (N (d.1,Â)) (cond (inR a.2.2.2.2.2.2.2.1 b.2.2.1.length) (let i:=K b.2.2.1 a.2.2.2.2.2.2.2.1.toNat (J,(0,([]:(M L))))
 cond (inR i.2.1 b.1.length) (let l:=K b.1 i.2.1.toNat (J,(0,([]:aQ)))
 (j3b (l.1,(l.2.1,l.2.2)) g).bind λm=>(wM d.1 À 0 a.1 a.2.1 a.2.2.1.1 a.2.2.1.2 a.2.2.2.1 a.2.2.2.2.1 a.2.2.2.2.2.1 a.2.2.2.2.2.2.1 a.2.2.2.2.2.2.2.1 a.2.2.2.2.2.2.2.2 i.1 i.2.1 i.2.2 m.1.1 m.1.2).bind λo=>N (o.1,(o.2.1==(o.2.2.2.2.2.2.2.2.2.2.2==2)))) Y) Y))) (cond (a.2.2.2.2.2.2.2.2==0) (N (d.1,Â)) (cond (inR a.2.2.2.2.2.2.2.1 b.2.2.1.length) (let c:=K b.2.2.1 a.2.2.2.2.2.2.2.1.toNat (J,(0,([]:(M L))))
 cond (inR c.2.1 b.1.length) (let f:=K b.1 c.2.1.toNat (J,(0,([]:aQ)))
 (j3b (f.1,(f.2.1,f.2.2)) g).bind λk=>(wM d.1 À 0 a.1 a.2.1 a.2.2.1.1 a.2.2.1.2 a.2.2.2.1 a.2.2.2.2.1 a.2.2.2.2.2.1 a.2.2.2.2.2.2.1 a.2.2.2.2.2.2.2.1 a.2.2.2.2.2.2.2.2 c.1 c.2.1 c.2.2 k.1.1 k.1.2).bind λj=>N (j.1,(j.2.1==(j.2.2.2.2.2.2.2.2.2.2.2==2)))) Y) Y)))) Y
def jiY[LP](b:bH)(a:dv)(f:L):S Int:=(jg3 (b.1,(b.2.1,(b.2.2.1,b.2.2.2))) (a.1,(a.2.1,((a.2.2.1.1,a.2.2.1.2),(a.2.2.2.1,(a.2.2.2.2.1,(a.2.2.2.2.2.1,(a.2.2.2.2.2.2.1,(a.2.2.2.2.2.2.2.1,a.2.2.2.2.2.2.2.2)))))))) f).bind λc=>cond (!c.2) (N (-1)) (let e:=W a.2.2.2.2.2.1.length
 cond (!(e==0)) (let d:=Ä c.1 e
 cond (inR d a.2.2.2.2.2.1.length) (let g:=K a.2.2.2.2.2.1 d.toNat 0
 N g) Y) Y)
def j5a(j g c:L)(k:U)(f:aj)(b:aq):S ((L×L×L×U×aj×aq) ⊕ (Å ⊕ Ç)):=
 let d:=W b.length
 cond (O (c<d)) (cond (inR c b.length) (let a:=K b c.toNat (0,(0,(0,(0,0))))
 let i:Bool:=cond (cond (a.1==0) (a.2.1==j) À) (O (a.2.2.2.1<=g)) À
 cond (cond i (O (g<a.2.2.2.2)) À) (N (.inr (.inl Â))) (let e:=w64 (c+1)
 N (.inl (j,g,e,k,f,b)))) Y) (N (.inr (.inr ())))
def Cy[LP](f e c:L)(d:U)(a:aj)(b:aq):S (Å ⊕ Ç):=LP.lp (unc6 j5a) (f,e,c,d,a,b)
theorem SE(f e c d a b):Cy f e c d a b=lpK (j5a f e c d a b) (λh=>Cy h.1 h.2.1 h.2.2.1 h.2.2.2.1 h.2.2.2.2.1 h.2.2.2.2.2):=bJ _ _
def jib[LP](b:jK)(a c:L):S Bool:=(Cy a c 0 b.1 b.2.1 b.2.2).bind λd=>sumC d (λe=>N e) (λf=>N À)
def j5G[LP](l i:L)(o:ag)(d:ah)(f:ak)(g:an)(n:U)(b:aj)(e:aq):S ((L×L×ag×ah×ak×an×U×aj×aq) ⊕ ((L×L) ⊕ Ç)):=cond (O (i>=0)) (cond (inR i b.length) (let a:=K b i.toNat (J,(0,((0,0),(0,(0,(([]:(M L)),(([]:ae),(0,0))))))))
 (jiY (o,(d,(f,g))) (a.1,(a.2.1,((a.2.2.1.1,a.2.2.1.2),(a.2.2.2.1,(a.2.2.2.2.1,(a.2.2.2.2.2.1,(a.2.2.2.2.2.2.1,(a.2.2.2.2.2.2.2.1,a.2.2.2.2.2.2.2.2)))))))) l).bind λc=>cond (O (c>=0)) ((jib (n,(b,e)) c l).bind λm=>cond (!m) (N (.inr (.inl (i,c)))) (let k:=w64 (i-1)
 N (.inl (l,k,o,d,f,g,n,b,e)))) (let j:=w64 (i-1)
 N (.inl (l,j,o,d,f,g,n,b,e)))) Y) (N (.inr (.inr ())))
def Cz[LP](j f:L)(i:ag)(a:ah)(c:ak)(d:an)(g:U)(e:aj)(b:aq):S ((L×L) ⊕ Ç):=LP.lp (unc9 j5G) (j,f,i,a,c,d,g,e,b)
theorem SF(j f i a c d g e b):Cz j f i a c d g e b=lpK (j5G j f i a c d g e b) (λh=>Cz h.1 h.2.1 h.2.2.1 h.2.2.2.1 h.2.2.2.2.1 h.2.2.2.2.2.1 h.2.2.2.2.2.2.1 h.2.2.2.2.2.2.2.1 h.2.2.2.2.2.2.2.2):=bJ _ _
def jlB[LP](b:bH)(a d:L):S (L×L):=cond (inR a b.2.2.2.length) (let c:=K b.2.2.2 a.toNat (J,(([]:aj),([]:aq)))
 let f:=W c.2.1.length
 let e:=w64 (f-1)
 (Cz d e b.1 b.2.1 b.2.2.1 b.2.2.2 c.1 c.2.1 c.2.2).bind λg=>sumC g (λi=>N (i.1,i.2)) (λj=>N ((-1),(-1)))) Y
def j5b(c:aq)(e d b:L):S ((aq×L×L×L) ⊕ (L)):=
 let l:=W c.length
 cond (O (b<l)) (cond (inR b c.length) (let a:=K c b.toNat (0,(0,(0,(0,0))))
 cond (cond (O (d<a.2.2.2.1)) Â (O (d>=a.2.2.2.2))) (let g:=w64 (b+1)
 N (.inl (c,e,d,g))) (cond (a.1==1) (let i:=w64 (b+1)
 N (.inl (c,a.2.1,d,i))) (cond (cond (a.1==2) (e==a.2.1) À) (let k:=w64 (b+1)
 N (.inl (c,a.2.2.1,d,k))) (cond (cond (a.1==2) (e==a.2.2.1) À) (let f:=w64 (b+1)
 N (.inl (c,a.2.1,d,f))) (let j:=w64 (b+1)
 N (.inl (c,e,d,j))))))) Y) (N (.inr e))
def CA[LP](c:aq)(a d b:L):S Int:=LP.lp (unc4 j5b) (c,a,d,b)
theorem SH(b d c a):CA b d c a=lpK (j5b b d c a) (λh=>CA h.1 h.2.1 h.2.2.1 h.2.2.2):=bJ _ _
def jlC[LP](b:aq)(a c:L):S Int:=(CA b a c 0).bind λd=>N d
def joO[LP](b:bH)(a c:L):S Int:=(jlB (b.1,(b.2.1,(b.2.2.1,b.2.2.2))) a c).bind λd=>cond (inR a b.2.2.2.length) (let e:=K b.2.2.2 a.toNat (J,(([]:aj),([]:aq)))
 (jlC e.2.2 d.2 c).bind λf=>N f) Y
def joP[LP](a:bH)(b c:L):S Int:=(jt6 (a.1,(a.2.1,(a.2.2.1,a.2.2.2))) b c).bind λd=>cond (!d) (N (-1)) ((joO (a.1,(a.2.1,(a.2.2.1,a.2.2.2))) b c).bind λe=>N e)
def jlD[LP](b:bH)(a c:L):S Int:=(joP (b.1,(b.2.1,(b.2.2.1,b.2.2.2))) a c).bind λd=>N d
def jiZ[LP](a:bH)(b d:L):S (L×L):=(j9L (a.1,(a.2.1,(a.2.2.1,a.2.2.2))) b d).bind λc=>cond (c.2 != 0) (N (0,c.2)) ((jlD (a.1,(a.2.1,(a.2.2.1,a.2.2.2))) b c.1).bind λe=>N (e,0))
def j1Q[LP](v w g:L)(t:bU)(r:L)(n:M L)(p:L)(q:M L)(f:L)(e:ag)(b:ah)(c:ak)(a:an)(s:M L)(m:L):S ((L×L×L×bU×L×(M L)×L×(M L)×L×ag×ah×ak×an×(M L)×L) ⊕ (Å ⊕ (L×L×bU×L×(M L)×L×ag×ah×ak×an×(M L)×L))):=cond (O (f<3)) (cond (inR f 3) (let d:=K q f.toNat 0
 (j5w (e,(b,(c,a))) g d).bind λk=>(j9L (e,(b,(c,a))) g d).bind λj=>(jbP (e,(b,(c,a))) g d).bind λl=>(jiZ (e,(b,(c,a))) g d).bind λi=>let u:Bool:=cond (cond (k.1 != j.1) Â (k.2 != j.2)) Â (l.1 != i.1)
 cond (cond u Â (l.2 != i.2)) (N (.inr (.inl À))) (let o:=w64 (f+1)
 N (.inl (v,w,g,t,r,n,p,q,o,e,b,c,a,s,m)))) Y) (N (.inr (.inr (v,w,t,r,n,p,e,b,c,a,s,m))))
def FQ[LP](o p j:L)(m:bU)(k:L)(e:M L)(f:L)(i:M L)(g:L)(n:ag)(c:ah)(a:ak)(b:an)(l:M L)(d:L):S (Å ⊕ (L×L×bU×L×(M L)×L×ag×ah×ak×an×(M L)×L)):=LP.lp (u8 unc7 j1Q) (o,p,j,m,k,e,f,i,g,n,c,a,b,l,d)
theorem SI(o p j m k e f i g n c a b l d):FQ o p j m k e f i g n c a b l d=lpK (j1Q o p j m k e f i g n c a b l d) (λh=>FQ h.1 h.2.1 h.2.2.1 h.2.2.2.1 h.2.2.2.2.1 h.2.2.2.2.2.1 h.2.2.2.2.2.2.1 h.2.2.2.2.2.2.2.1 h.2.2.2.2.2.2.2.2.1 h.2.2.2.2.2.2.2.2.2.1 h.2.2.2.2.2.2.2.2.2.2.1 h.2.2.2.2.2.2.2.2.2.2.2.1 h.2.2.2.2.2.2.2.2.2.2.2.2.1 h.2.2.2.2.2.2.2.2.2.2.2.2.2.1 h.2.2.2.2.2.2.2.2.2.2.2.2.2.2):=bJ _ _
def j1R[LP](r x:L)(u:bU)(s:L)(m:M L)(e:L)(o:ag)(f:ah)(g:ak)(d:an)(t:M L)(k:L):S ((L×L×bU×L×(M L)×L×ag×ah×ak×an×(M L)×L) ⊕ (Å ⊕ (L×L×bU×L×(M L)×L))):=cond (O (e<2)) (cond (inR e 2) (let c:=K m e.toNat 0
 (j3v (o,(f,(g,d))) c).bind λi=>(j5Z (o,(f,(g,d))) c).bind λj=>cond (cond (i.1 != j.1) Â (i.2 != j.2)) (N (.inr (.inl À))) ((j3B t k).bind λb=>(jg1 r 77760000).bind λq=>let n:=w64 (1767225600+q)
 let p:M Int:=[r,b.1,n]
 (FQ r x c u s m e p 0 o f g d b.2.1 b.2.2).bind λv=>sumC v (λw=>N (.inr (.inl w))) (λa=>let l:=w64 (a.2.2.2.2.2.1+1)
 N (.inl (a.1,a.2.1,a.2.2.1,a.2.2.2.1,a.2.2.2.2.1,l,a.2.2.2.2.2.2.1,a.2.2.2.2.2.2.2.1,a.2.2.2.2.2.2.2.2.1,a.2.2.2.2.2.2.2.2.2.1,a.2.2.2.2.2.2.2.2.2.2.1,a.2.2.2.2.2.2.2.2.2.2.2))))) Y) (N (.inr (.inr (r,x,u,s,t,k))))
def FT[LP](l m:L)(i:bU)(g:L)(e:M L)(f:L)(j:ag)(c:ah)(a:ak)(b:an)(k:M L)(d:L):S (Å ⊕ (L×L×bU×L×(M L)×L)):=LP.lp (u8 unc4 j1R) (l,m,i,g,e,f,j,c,a,b,k,d)
theorem SJ(l m i g e f j c a b k d):FT l m i g e f j c a b k d=lpK (j1R l m i g e f j c a b k d) (λh=>FT h.1 h.2.1 h.2.2.1 h.2.2.2.1 h.2.2.2.2.1 h.2.2.2.2.2.1 h.2.2.2.2.2.2.1 h.2.2.2.2.2.2.2.1 h.2.2.2.2.2.2.2.2.1 h.2.2.2.2.2.2.2.2.2.1 h.2.2.2.2.2.2.2.2.2.2.1 h.2.2.2.2.2.2.2.2.2.2.2):=bJ _ _
def j1S[LP](n k:L)(i:bU)(d:L)(m:M L)(g:L):S ((L×L×bU×L×(M L)×L) ⊕ (Å ⊕ Ç)):=cond (O (d<3)) (cond (inR d 3) (let a:=K i d.toNat (([]:ag),(([]:ah),(([]:ak),([]:an))))
 (j02 m g 3).bind λb=>let e:M Int:=[b.1,k]
 (FT n k i d e 0 a.1 a.2.1 a.2.2.1 a.2.2.2 b.2.1 b.2.2).bind λj=>sumC j (λl=>N (.inr (.inl l))) (λc=>let f:=w64 (c.2.2.2.1+1)
 N (.inl (c.1,c.2.1,c.2.2.1,f,c.2.2.2.2.1,c.2.2.2.2.2)))) Y) (N (.inr (.inr ())))
def CB[LP](e f:L)(c:bU)(b:L)(d:M L)(a:L):S (Å ⊕ Ç):=LP.lp (unc6 j1S) (e,f,c,b,d,a)
theorem SK(e f c b d a):CB e f c b d a=lpK (j1S e f c b d a) (λh=>CB h.1 h.2.1 h.2.2.1 h.2.2.2.1 h.2.2.2.2.1 h.2.2.2.2.2):=bJ _ _
def j27[LP](k:M L)(a:dv)(m g:L):S Bool:=(j8b k).bind λw=>cond (!w) ((j7c).bind λz=>N z) ((jbQ k).bind λq=>(j3a q.1 q.2 2).bind λc=>(j2y (a.1,(a.2.1,((a.2.2.1.1,a.2.2.1.2),(a.2.2.2.1,(a.2.2.2.2.1,(a.2.2.2.2.2.1,(a.2.2.2.2.2.2.1,(a.2.2.2.2.2.2.2.1,a.2.2.2.2.2.2.2.2))))))))).bind λs=>(j5y (a.1,(a.2.1,((a.2.2.1.1,a.2.2.1.2),(a.2.2.2.1,(a.2.2.2.2.1,(a.2.2.2.2.2.1,(a.2.2.2.2.2.2.1,(a.2.2.2.2.2.2.2.1,a.2.2.2.2.2.2.2.2))))))))).bind λr=>cond (cond (s.1 != r.1) Â (s.2 != r.2)) (N À) ((j5Y (c.1.1,(c.1.2.1,(c.1.2.2.1,c.1.2.2.2)))).bind λb=>let v:=W b.2.2.2.2.1.length
 cond (O (v>1)) (cond (inR 0 b.2.2.2.2.1.length) (let d:aj:=Á b.2.2.2.2.1 0 ((K b.2.2.2.2.1 0 (J,(0,((0,0),(0,(0,(([]:(M L)),(([]:ae),(0,0))))))))).1,((K b.2.2.2.2.1 0 (J,(0,((0,0),(0,(0,(([]:(M L)),(([]:ae),(0,0))))))))).2.1,(((K b.2.2.2.2.1 0 (J,(0,((0,0),(0,(0,(([]:(M L)),(([]:ae),(0,0))))))))).2.2.1.1,(K b.2.2.2.2.1 0 (J,(0,((0,0),(0,(0,(([]:(M L)),(([]:ae),(0,0))))))))).2.2.1.2),((K b.2.2.2.2.1 0 (J,(0,((0,0),(0,(0,(([]:(M L)),(([]:ae),(0,0))))))))).2.2.2.1,(397,((K b.2.2.2.2.1 0 (J,(0,((0,0),(0,(0,(([]:(M L)),(([]:ae),(0,0))))))))).2.2.2.2.2.1,((K b.2.2.2.2.1 0 (J,(0,((0,0),(0,(0,(([]:(M L)),(([]:ae),(0,0))))))))).2.2.2.2.2.2.1,((K b.2.2.2.2.1 0 (J,(0,((0,0),(0,(0,(([]:(M L)),(([]:ae),(0,0))))))))).2.2.2.2.2.2.2.1,(K b.2.2.2.2.1 0 (J,(0,((0,0),(0,(0,(([]:(M L)),(([]:ae),(0,0))))))))).2.2.2.2.2.2.2.2))))))))
 cond (inR 0 d.length) (let e:aj:=Á d 0 ((K d 0 (J,(0,((0,0),(0,(0,(([]:(M L)),(([]:ae),(0,0))))))))).1,((K d 0 (J,(0,((0,0),(0,(0,(([]:(M L)),(([]:ae),(0,0))))))))).2.1,(((K d 0 (J,(0,((0,0),(0,(0,(([]:(M L)),(([]:ae),(0,0))))))))).2.2.1.1,(K d 0 (J,(0,((0,0),(0,(0,(([]:(M L)),(([]:ae),(0,0))))))))).2.2.1.2),(2,((K d 0 (J,(0,((0,0),(0,(0,(([]:(M L)),(([]:ae),(0,0))))))))).2.2.2.2.1,((K d 0 (J,(0,((0,0),(0,(0,(([]:(M L)),(([]:ae),(0,0))))))))).2.2.2.2.2.1,((K d 0 (J,(0,((0,0),(0,(0,(([]:(M L)),(([]:ae),(0,0))))))))).2.2.2.2.2.2.1,((K d 0 (J,(0,((0,0),(0,(0,(([]:(M L)),(([]:ae),(0,0))))))))).2.2.2.2.2.2.2.1,(K d 0 (J,(0,((0,0),(0,(0,(([]:(M L)),(([]:ae),(0,0))))))))).2.2.2.2.2.2.2.2))))))))
 let y:M Int:=[399,400,5]
 (j03 c.2.1 c.2.2 y).bind λj=>cond (inR 1 e.length) (let p:aj:=Á e 1 ((K e 1 (J,(0,((0,0),(0,(0,(([]:(M L)),(([]:ae),(0,0))))))))).1,((K e 1 (J,(0,((0,0),(0,(0,(([]:(M L)),(([]:ae),(0,0))))))))).2.1,(((K e 1 (J,(0,((0,0),(0,(0,(([]:(M L)),(([]:ae),(0,0))))))))).2.2.1.1,(K e 1 (J,(0,((0,0),(0,(0,(([]:(M L)),(([]:ae),(0,0))))))))).2.2.1.2),((K e 1 (J,(0,((0,0),(0,(0,(([]:(M L)),(([]:ae),(0,0))))))))).2.2.2.1,(j.1,((K e 1 (J,(0,((0,0),(0,(0,(([]:(M L)),(([]:ae),(0,0))))))))).2.2.2.2.2.1,((K e 1 (J,(0,((0,0),(0,(0,(([]:(M L)),(([]:ae),(0,0))))))))).2.2.2.2.2.2.1,((K e 1 (J,(0,((0,0),(0,(0,(([]:(M L)),(([]:ae),(0,0))))))))).2.2.2.2.2.2.2.1,(K e 1 (J,(0,((0,0),(0,(0,(([]:(M L)),(([]:ae),(0,0))))))))).2.2.2.2.2.2.2.2))))))))
 (j6r j.2.1 j.2.2 (c.1.1,(c.1.2.1,(c.1.2.2.1,c.1.2.2.2)))).bind λi=>let a3:an:=[(b.2.2.2.1,(p,b.2.2.2.2.2))]
 let n:bU:=[(c.1.1,(c.1.2.1,(c.1.2.2.1,c.1.2.2.2))),(i.1.1,(i.1.2.1,(i.1.2.2.1,i.1.2.2.2))),(b.1,(b.2.1,(b.2.2.1,[(b.2.2.2.1,(p,b.2.2.2.2.2))])))]
 (CB m g n 0 i.2.1 i.2.2).bind λa1=>sumC a1 (λa4=>N a4) (λa5=>(j7c).bind λu=>N u)) Y) Y) Y) ((j6r c.2.1 c.2.2 (c.1.1,(c.1.2.1,(c.1.2.2.1,c.1.2.2.2)))).bind λf=>let a0:an:=[(b.2.2.2.1,(b.2.2.2.2.1,b.2.2.2.2.2))]
 let o:bU:=[(c.1.1,(c.1.2.1,(c.1.2.2.1,c.1.2.2.2))),(f.1.1,(f.1.2.1,(f.1.2.2.1,f.1.2.2.2))),(b.1,(b.2.1,(b.2.2.1,[(b.2.2.2.1,(b.2.2.2.2.1,b.2.2.2.2.2))])))]
 (CB m g o 0 f.2.1 f.2.2).bind λt=>sumC t (λx=>N x) (λa2=>(j7c).bind λl=>N l))))
def j8f(a:bH):S (ag×ah×ak×U×U×aj×aq×aj×aq):=cond (O (X ([]:ag)+X a.1<=aR)) (let q:ag:=([]:ag)++a.1
 cond (O (X ([]:ah)+X a.2.1<=aR)) (let n:ah:=([]:ah)++a.2.1
 cond (O (X ([]:ak)+X a.2.2.1<=aR)) (let m:ak:=([]:ak)++a.2.2.1
 let j:=W a.2.2.2.length
 cond (O (0<j)) (cond (inR 0 a.2.2.2.length) (let d:=K a.2.2.2 0 (J,(([]:aj),([]:aq)))
 cond (O (X ([]:aj)+X d.2.1<=aR)) (let k:aj:=([]:aj)++d.2.1
 cond (O (X ([]:aq)+X d.2.2<=aR)) (let l:aq:=([]:aq)++d.2.2
 let g:=W a.2.2.2.length
 cond (O (1<g)) (cond (inR 1 a.2.2.2.length) (let b:=K a.2.2.2 1 (J,(([]:aj),([]:aq)))
 cond (O (X ([]:aj)+X b.2.1<=aR)) (let f:aj:=([]:aj)++b.2.1
 cond (O (X ([]:aq)+X b.2.2<=aR)) (let e:aq:=([]:aq)++b.2.2
 let i:=W a.2.2.2.length
 cond (O (2<i)) (cond (inR 2 a.2.2.2.length) (let c:=K a.2.2.2 2 (J,(([]:aj),([]:aq)))
 cond (O (X ([]:aj)+X c.2.1<=aR)) (let p:aj:=([]:aj)++c.2.1
 cond (O (X ([]:aq)+X c.2.2<=aR)) (let o:aq:=([]:aq)++c.2.2
 Y) Y) Y) Y) (N (q,n,m,d.1,b.1,k,l,f,e))) Y) Y) Y) (Y)) Y) Y) Y) (Y)) Y) Y) Y
def j6v(x2:M L)(n3:L)(e3:bH):S (bH×(M L)×L):=(j8f (e3.1,(e3.2.1,(e3.2.2.1,e3.2.2.2)))).bind λa=>(j02 x2 n3 12).bind λp=>cond (p.1==0) (let x8:=W a.1.length
 (j02 p.2.1 p.2.2 x8).bind λd6=>let x7:M Int:=[30,64800,64860,(-64800),(-64801)]
 (j03 d6.2.1 d6.2.2 x7).bind λn6=>cond (inR d6.1 a.1.length) (let y5:ag:=Á a.1 d6.1.toNat ((K a.1 d6.1.toNat (J,(0,([]:aQ)))).1,(n6.1,(K a.1 d6.1.toNat (J,(0,([]:aQ)))).2.2))
 N ((y5,(a.2.1,(a.2.2.1,[(a.2.2.2.1,(a.2.2.2.2.2.1,a.2.2.2.2.2.2.1)),(a.2.2.2.2.1,(a.2.2.2.2.2.2.2.1,a.2.2.2.2.2.2.2.2))]))),n6.2.1,n6.2.2)) Y) (cond (p.1==1) (let y9:=W a.2.1.length
 (j02 p.2.1 p.2.2 y9).bind λz=>let w9:=W a.1.length
 let u9:M Int:=[(-1),w9]
 (j03 z.2.1 z.2.2 u9).bind λg3=>cond (inR z.1 a.2.1.length) (let y1:ah:=Á a.2.1 z.1.toNat ((K a.2.1 z.1.toNat (J,(0,(([]:ae),(0,(0,À)))))).1,(g3.1,((K a.2.1 z.1.toNat (J,(0,(([]:ae),(0,(0,À)))))).2.2.1,((K a.2.1 z.1.toNat (J,(0,(([]:ae),(0,(0,À)))))).2.2.2.1,((K a.2.1 z.1.toNat (J,(0,(([]:ae),(0,(0,À)))))).2.2.2.2.1,(K a.2.1 z.1.toNat (J,(0,(([]:ae),(0,(0,À)))))).2.2.2.2.2)))))
 N ((a.1,(y1,(a.2.2.1,[(a.2.2.2.1,(a.2.2.2.2.2.1,a.2.2.2.2.2.2.1)),(a.2.2.2.2.1,(a.2.2.2.2.2.2.2.1,a.2.2.2.2.2.2.2.2))]))),g3.2.1,g3.2.2)) Y) (cond (p.1==2) (let w3:=W a.2.1.length
 (j02 p.2.1 p.2.2 w3).bind λx=>let m0:M ByteArray:=[(Z #[110,111,98,111,100,121]),J,(Z #[65,100,97]),(Z #[97,100,97]),(Z #[97,45,49,95,98])]
 (j02 x.2.1 x.2.2 5).bind λd7=>cond (inR d7.1 m0.length) (let u2:=K m0 d7.1.toNat J
 cond (inR x.1 a.2.1.length) (let x9:ah:=Á a.2.1 x.1.toNat (u2,((K a.2.1 x.1.toNat (J,(0,(([]:ae),(0,(0,À)))))).2.1,((K a.2.1 x.1.toNat (J,(0,(([]:ae),(0,(0,À)))))).2.2.1,((K a.2.1 x.1.toNat (J,(0,(([]:ae),(0,(0,À)))))).2.2.2.1,((K a.2.1 x.1.toNat (J,(0,(([]:ae),(0,(0,À)))))).2.2.2.2.1,(K a.2.1 x.1.toNat (J,(0,(([]:ae),(0,(0,À)))))).2.2.2.2.2)))))
 N ((a.1,(x9,(a.2.2.1,[(a.2.2.2.1,(a.2.2.2.2.2.1,a.2.2.2.2.2.2.1)),(a.2.2.2.2.1,(a.2.2.2.2.2.2.2.1,a.2.2.2.2.2.2.2.2))]))),d7.2.1,d7.2.2)) Y) Y) (cond (p.1==3) (let t9:=W a.2.1.length
 (j02 p.2.1 p.2.2 t9).bind λy=>let u1:M Int:=[1,(-3600),604800,608400]
 (j03 y.2.1 y.2.2 u1).bind λg1=>cond (inR y.1 a.2.1.length) (let q6:ah:=Á a.2.1 y.1.toNat ((K a.2.1 y.1.toNat (J,(0,(([]:ae),(0,(0,À)))))).1,((K a.2.1 y.1.toNat (J,(0,(([]:ae),(0,(0,À)))))).2.1,((K a.2.1 y.1.toNat (J,(0,(([]:ae),(0,(0,À)))))).2.2.1,((K a.2.1 y.1.toNat (J,(0,(([]:ae),(0,(0,À)))))).2.2.2.1,(g1.1,(K a.2.1 y.1.toNat (J,(0,(([]:ae),(0,(0,À)))))).2.2.2.2.2)))))
 N ((a.1,(q6,(a.2.2.1,[(a.2.2.2.1,(a.2.2.2.2.2.1,a.2.2.2.2.2.2.1)),(a.2.2.2.2.1,(a.2.2.2.2.2.2.2.1,a.2.2.2.2.2.2.2.2))]))),g1.2.1,g1.2.2)) Y) (cond (p.1==4) (let s8:=W a.2.1.length
 (j02 p.2.1 p.2.2 s8).bind λw=>let x5:M Int:=[0,(-1),5]
 (j03 w.2.1 w.2.2 x5).bind λg5=>let v1:M Int:=[5,604800,604801]
 (j03 g5.2.1 g5.2.2 v1).bind λf9=>let v3:ae:=[(g5.1,f9.1)]
 cond (inR w.1 a.2.1.length) (let y4:ah:=Á a.2.1 w.1.toNat ((K a.2.1 w.1.toNat (J,(0,(([]:ae),(0,(0,À)))))).1,((K a.2.1 w.1.toNat (J,(0,(([]:ae),(0,(0,À)))))).2.1,(v3,((K a.2.1 w.1.toNat (J,(0,(([]:ae),(0,(0,À)))))).2.2.2.1,((K a.2.1 w.1.toNat (J,(0,(([]:ae),(0,(0,À)))))).2.2.2.2.1,(K a.2.1 w.1.toNat (J,(0,(([]:ae),(0,(0,À)))))).2.2.2.2.2)))))
 N ((a.1,(y4,(a.2.2.1,[(a.2.2.2.1,(a.2.2.2.2.2.1,a.2.2.2.2.2.2.1)),(a.2.2.2.2.1,(a.2.2.2.2.2.2.2.1,a.2.2.2.2.2.2.2.2))]))),f9.2.1,f9.2.2)) Y) (cond (p.1==5) (let j8:M ByteArray:=[(Z #[100,97,121,115]),(Z #[111,116,104,101,114])]
 (j02 p.2.1 p.2.2 2).bind λd8=>cond (inR d8.1 j8.length) (let w0:=K j8 d8.1.toNat J
 let v4:M Int:=[5,(-1)]
 (j03 d8.2.1 d8.2.2 v4).bind λg2=>let t6:M Int:=[5,6,100000]
 (j03 g2.2.1 g2.2.2 t6).bind λf6=>let t5:M Int:=[g2.1,f6.1]
 let m3:ak:=[(w0,(0,t5))]
 cond (O (X a.2.2.1+X m3<=aR)) (let u6:ak:=a.2.2.1++m3
 N ((a.1,(a.2.1,(u6,[(a.2.2.2.1,(a.2.2.2.2.2.1,a.2.2.2.2.2.2.1)),(a.2.2.2.2.1,(a.2.2.2.2.2.2.2.1,a.2.2.2.2.2.2.2.2))]))),f6.2.1,f6.2.2)) Y) Y) (cond (p.1==6) (let j5:M ByteArray:=[(Z #[102,105,114,115,116]),(Z #[102,111,117,114,116,104])]
 (j02 p.2.1 p.2.2 2).bind λe4=>cond (inR e4.1 j5.length) (let v0:=K j5 e4.1.toNat J
 N ((a.1,(a.2.1,(a.2.2.1,[(a.2.2.2.1,(a.2.2.2.2.2.1,a.2.2.2.2.2.2.1)),(a.2.2.2.2.1,(a.2.2.2.2.2.2.2.1,a.2.2.2.2.2.2.2.2)),(v0,(([]:aj),([]:aq)))]))),e4.2.1,e4.2.2)) Y) (cond (p.1==7) ((j02 p.2.1 p.2.2 2).bind λv=>cond (v.1==0) (let n7:=W a.2.2.2.2.2.1.length
 cond (n7==0) (N ((a.1,(a.2.1,(a.2.2.1,[(a.2.2.2.1,(a.2.2.2.2.2.1,a.2.2.2.2.2.2.1)),(a.2.2.2.2.1,(a.2.2.2.2.2.2.2.1,a.2.2.2.2.2.2.2.2))]))),v.2.1,v.2.2)) (let o3:=W a.2.2.2.2.2.1.length
 (j02 v.2.1 v.2.2 o3).bind λb=>cond (inR b.1 a.2.2.2.2.2.1.length) ((j02 b.2.1 b.2.2 8).bind λk=>cond (k.1==0) (let l6:M Int:=[0,1,400,401]
 (j03 k.2.1 k.2.2 l6).bind λb9=>let u8:aj:=Á a.2.2.2.2.2.1 b.1.toNat ((K a.2.2.2.2.2.1 b.1.toNat (J,(0,((0,0),(0,(0,(([]:(M L)),(([]:ae),(0,0))))))))).1,((K a.2.2.2.2.2.1 b.1.toNat (J,(0,((0,0),(0,(0,(([]:(M L)),(([]:ae),(0,0))))))))).2.1,(((K a.2.2.2.2.2.1 b.1.toNat (J,(0,((0,0),(0,(0,(([]:(M L)),(([]:ae),(0,0))))))))).2.2.1.1,(K a.2.2.2.2.2.1 b.1.toNat (J,(0,((0,0),(0,(0,(([]:(M L)),(([]:ae),(0,0))))))))).2.2.1.2),((K a.2.2.2.2.2.1 b.1.toNat (J,(0,((0,0),(0,(0,(([]:(M L)),(([]:ae),(0,0))))))))).2.2.2.1,(b9.1,((K a.2.2.2.2.2.1 b.1.toNat (J,(0,((0,0),(0,(0,(([]:(M L)),(([]:ae),(0,0))))))))).2.2.2.2.2.1,((K a.2.2.2.2.2.1 b.1.toNat (J,(0,((0,0),(0,(0,(([]:(M L)),(([]:ae),(0,0))))))))).2.2.2.2.2.2.1,((K a.2.2.2.2.2.1 b.1.toNat (J,(0,((0,0),(0,(0,(([]:(M L)),(([]:ae),(0,0))))))))).2.2.2.2.2.2.2.1,(K a.2.2.2.2.2.1 b.1.toNat (J,(0,((0,0),(0,(0,(([]:(M L)),(([]:ae),(0,0))))))))).2.2.2.2.2.2.2.2))))))))
 N ((a.1,(a.2.1,(a.2.2.1,[(a.2.2.2.1,(u8,a.2.2.2.2.2.2.1)),(a.2.2.2.2.1,(a.2.2.2.2.2.2.2.1,a.2.2.2.2.2.2.2.2))]))),b9.2.1,b9.2.2)) (cond (k.1==1) (let j7:M Int:=[0,1,(-5),98979,98981]
 (j03 k.2.1 k.2.2 j7).bind λb4=>let u7:aj:=Á a.2.2.2.2.2.1 b.1.toNat ((K a.2.2.2.2.2.1 b.1.toNat (J,(0,((0,0),(0,(0,(([]:(M L)),(([]:ae),(0,0))))))))).1,((K a.2.2.2.2.2.1 b.1.toNat (J,(0,((0,0),(0,(0,(([]:(M L)),(([]:ae),(0,0))))))))).2.1,((b4.1,(K a.2.2.2.2.2.1 b.1.toNat (J,(0,((0,0),(0,(0,(([]:(M L)),(([]:ae),(0,0))))))))).2.2.1.2),((K a.2.2.2.2.2.1 b.1.toNat (J,(0,((0,0),(0,(0,(([]:(M L)),(([]:ae),(0,0))))))))).2.2.2.1,((K a.2.2.2.2.2.1 b.1.toNat (J,(0,((0,0),(0,(0,(([]:(M L)),(([]:ae),(0,0))))))))).2.2.2.2.1,((K a.2.2.2.2.2.1 b.1.toNat (J,(0,((0,0),(0,(0,(([]:(M L)),(([]:ae),(0,0))))))))).2.2.2.2.2.1,((K a.2.2.2.2.2.1 b.1.toNat (J,(0,((0,0),(0,(0,(([]:(M L)),(([]:ae),(0,0))))))))).2.2.2.2.2.2.1,((K a.2.2.2.2.2.1 b.1.toNat (J,(0,((0,0),(0,(0,(([]:(M L)),(([]:ae),(0,0))))))))).2.2.2.2.2.2.2.1,(K a.2.2.2.2.2.1 b.1.toNat (J,(0,((0,0),(0,(0,(([]:(M L)),(([]:ae),(0,0))))))))).2.2.2.2.2.2.2.2))))))))
 N ((a.1,(a.2.1,(a.2.2.1,[(a.2.2.2.1,(u7,a.2.2.2.2.2.2.1)),(a.2.2.2.2.1,(a.2.2.2.2.2.2.2.1,a.2.2.2.2.2.2.2.2))]))),b4.2.1,b4.2.2)) (cond (k.1==2) (let x1:aj:=Á a.2.2.2.2.2.1 b.1.toNat ((K a.2.2.2.2.2.1 b.1.toNat (J,(0,((0,0),(0,(0,(([]:(M L)),(([]:ae),(0,0))))))))).1,((K a.2.2.2.2.2.1 b.1.toNat (J,(0,((0,0),(0,(0,(([]:(M L)),(([]:ae),(0,0))))))))).2.1,(((K a.2.2.2.2.2.1 b.1.toNat (J,(0,((0,0),(0,(0,(([]:(M L)),(([]:ae),(0,0))))))))).2.2.1.1,(K a.2.2.2.2.2.1 b.1.toNat (J,(0,((0,0),(0,(0,(([]:(M L)),(([]:ae),(0,0))))))))).2.2.1.2),((K a.2.2.2.2.2.1 b.1.toNat (J,(0,((0,0),(0,(0,(([]:(M L)),(([]:ae),(0,0))))))))).2.2.2.1,((K a.2.2.2.2.2.1 b.1.toNat (J,(0,((0,0),(0,(0,(([]:(M L)),(([]:ae),(0,0))))))))).2.2.2.2.1,(([]:(M L)),((K a.2.2.2.2.2.1 b.1.toNat (J,(0,((0,0),(0,(0,(([]:(M L)),(([]:ae),(0,0))))))))).2.2.2.2.2.2.1,((K a.2.2.2.2.2.1 b.1.toNat (J,(0,((0,0),(0,(0,(([]:(M L)),(([]:ae),(0,0))))))))).2.2.2.2.2.2.2.1,(K a.2.2.2.2.2.1 b.1.toNat (J,(0,((0,0),(0,(0,(([]:(M L)),(([]:ae),(0,0))))))))).2.2.2.2.2.2.2.2))))))))
 N ((a.1,(a.2.1,(a.2.2.1,[(a.2.2.2.1,(x1,a.2.2.2.2.2.2.1)),(a.2.2.2.2.1,(a.2.2.2.2.2.2.2.1,a.2.2.2.2.2.2.2.2))]))),k.2.1,k.2.2)) (cond (k.1==3) (let k9:=W a.2.1.length
 let j6:M Int:=[0,(-1),k9]
 (j03 k.2.1 k.2.2 j6).bind λa9=>let q3:aj:=Á a.2.2.2.2.2.1 b.1.toNat ((K a.2.2.2.2.2.1 b.1.toNat (J,(0,((0,0),(0,(0,(([]:(M L)),(([]:ae),(0,0))))))))).1,((K a.2.2.2.2.2.1 b.1.toNat (J,(0,((0,0),(0,(0,(([]:(M L)),(([]:ae),(0,0))))))))).2.1,(((K a.2.2.2.2.2.1 b.1.toNat (J,(0,((0,0),(0,(0,(([]:(M L)),(([]:ae),(0,0))))))))).2.2.1.1,(K a.2.2.2.2.2.1 b.1.toNat (J,(0,((0,0),(0,(0,(([]:(M L)),(([]:ae),(0,0))))))))).2.2.1.2),((K a.2.2.2.2.2.1 b.1.toNat (J,(0,((0,0),(0,(0,(([]:(M L)),(([]:ae),(0,0))))))))).2.2.2.1,((K a.2.2.2.2.2.1 b.1.toNat (J,(0,((0,0),(0,(0,(([]:(M L)),(([]:ae),(0,0))))))))).2.2.2.2.1,([a9.1],((K a.2.2.2.2.2.1 b.1.toNat (J,(0,((0,0),(0,(0,(([]:(M L)),(([]:ae),(0,0))))))))).2.2.2.2.2.2.1,((K a.2.2.2.2.2.1 b.1.toNat (J,(0,((0,0),(0,(0,(([]:(M L)),(([]:ae),(0,0))))))))).2.2.2.2.2.2.2.1,(K a.2.2.2.2.2.1 b.1.toNat (J,(0,((0,0),(0,(0,(([]:(M L)),(([]:ae),(0,0))))))))).2.2.2.2.2.2.2.2))))))))
 N ((a.1,(a.2.1,(a.2.2.1,[(a.2.2.2.1,(q3,a.2.2.2.2.2.2.1)),(a.2.2.2.2.1,(a.2.2.2.2.2.2.2.1,a.2.2.2.2.2.2.2.2))]))),a9.2.1,a9.2.2)) (cond (k.1==4) (let i6:M Int:=[(-1),3]
 (j03 k.2.1 k.2.2 i6).bind λa8=>let t8:aj:=Á a.2.2.2.2.2.1 b.1.toNat ((K a.2.2.2.2.2.1 b.1.toNat (J,(0,((0,0),(0,(0,(([]:(M L)),(([]:ae),(0,0))))))))).1,((K a.2.2.2.2.2.1 b.1.toNat (J,(0,((0,0),(0,(0,(([]:(M L)),(([]:ae),(0,0))))))))).2.1,(((K a.2.2.2.2.2.1 b.1.toNat (J,(0,((0,0),(0,(0,(([]:(M L)),(([]:ae),(0,0))))))))).2.2.1.1,(K a.2.2.2.2.2.1 b.1.toNat (J,(0,((0,0),(0,(0,(([]:(M L)),(([]:ae),(0,0))))))))).2.2.1.2),(a8.1,((K a.2.2.2.2.2.1 b.1.toNat (J,(0,((0,0),(0,(0,(([]:(M L)),(([]:ae),(0,0))))))))).2.2.2.2.1,((K a.2.2.2.2.2.1 b.1.toNat (J,(0,((0,0),(0,(0,(([]:(M L)),(([]:ae),(0,0))))))))).2.2.2.2.2.1,((K a.2.2.2.2.2.1 b.1.toNat (J,(0,((0,0),(0,(0,(([]:(M L)),(([]:ae),(0,0))))))))).2.2.2.2.2.2.1,((K a.2.2.2.2.2.1 b.1.toNat (J,(0,((0,0),(0,(0,(([]:(M L)),(([]:ae),(0,0))))))))).2.2.2.2.2.2.2.1,(K a.2.2.2.2.2.1 b.1.toNat (J,(0,((0,0),(0,(0,(([]:(M L)),(([]:ae),(0,0))))))))).2.2.2.2.2.2.2.2))))))))
 N ((a.1,(a.2.1,(a.2.2.1,[(a.2.2.2.1,(t8,a.2.2.2.2.2.2.1)),(a.2.2.2.2.1,(a.2.2.2.2.2.2.2.1,a.2.2.2.2.2.2.2.2))]))),a8.2.1,a8.2.2)) (cond (k.1==5) (let i7:M Int:=[0,1,2,3]
 (j03 k.2.1 k.2.2 i7).bind λc1=>let v6:aj:=Á a.2.2.2.2.2.1 b.1.toNat ((K a.2.2.2.2.2.1 b.1.toNat (J,(0,((0,0),(0,(0,(([]:(M L)),(([]:ae),(0,0))))))))).1,((K a.2.2.2.2.2.1 b.1.toNat (J,(0,((0,0),(0,(0,(([]:(M L)),(([]:ae),(0,0))))))))).2.1,(((K a.2.2.2.2.2.1 b.1.toNat (J,(0,((0,0),(0,(0,(([]:(M L)),(([]:ae),(0,0))))))))).2.2.1.1,(K a.2.2.2.2.2.1 b.1.toNat (J,(0,((0,0),(0,(0,(([]:(M L)),(([]:ae),(0,0))))))))).2.2.1.2),((K a.2.2.2.2.2.1 b.1.toNat (J,(0,((0,0),(0,(0,(([]:(M L)),(([]:ae),(0,0))))))))).2.2.2.1,((K a.2.2.2.2.2.1 b.1.toNat (J,(0,((0,0),(0,(0,(([]:(M L)),(([]:ae),(0,0))))))))).2.2.2.2.1,((K a.2.2.2.2.2.1 b.1.toNat (J,(0,((0,0),(0,(0,(([]:(M L)),(([]:ae),(0,0))))))))).2.2.2.2.2.1,((K a.2.2.2.2.2.1 b.1.toNat (J,(0,((0,0),(0,(0,(([]:(M L)),(([]:ae),(0,0))))))))).2.2.2.2.2.2.1,((K a.2.2.2.2.2.1 b.1.toNat (J,(0,((0,0),(0,(0,(([]:(M L)),(([]:ae),(0,0))))))))).2.2.2.2.2.2.2.1,c1.1))))))))
 N ((a.1,(a.2.1,(a.2.2.1,[(a.2.2.2.1,(v6,a.2.2.2.2.2.2.1)),(a.2.2.2.2.1,(a.2.2.2.2.2.2.2.1,a.2.2.2.2.2.2.2.2))]))),c1.2.1,c1.2.2)) (cond (k.1==6) (let l5:M Int:=[0,1,(-1)]
 (j03 k.2.1 k.2.2 l5).bind λb6=>let w8:aj:=Á a.2.2.2.2.2.1 b.1.toNat ((K a.2.2.2.2.2.1 b.1.toNat (J,(0,((0,0),(0,(0,(([]:(M L)),(([]:ae),(0,0))))))))).1,((K a.2.2.2.2.2.1 b.1.toNat (J,(0,((0,0),(0,(0,(([]:(M L)),(([]:ae),(0,0))))))))).2.1,(((K a.2.2.2.2.2.1 b.1.toNat (J,(0,((0,0),(0,(0,(([]:(M L)),(([]:ae),(0,0))))))))).2.2.1.1,(K a.2.2.2.2.2.1 b.1.toNat (J,(0,((0,0),(0,(0,(([]:(M L)),(([]:ae),(0,0))))))))).2.2.1.2),((K a.2.2.2.2.2.1 b.1.toNat (J,(0,((0,0),(0,(0,(([]:(M L)),(([]:ae),(0,0))))))))).2.2.2.1,((K a.2.2.2.2.2.1 b.1.toNat (J,(0,((0,0),(0,(0,(([]:(M L)),(([]:ae),(0,0))))))))).2.2.2.2.1,((K a.2.2.2.2.2.1 b.1.toNat (J,(0,((0,0),(0,(0,(([]:(M L)),(([]:ae),(0,0))))))))).2.2.2.2.2.1,((K a.2.2.2.2.2.1 b.1.toNat (J,(0,((0,0),(0,(0,(([]:(M L)),(([]:ae),(0,0))))))))).2.2.2.2.2.2.1,(b6.1,(K a.2.2.2.2.2.1 b.1.toNat (J,(0,((0,0),(0,(0,(([]:(M L)),(([]:ae),(0,0))))))))).2.2.2.2.2.2.2.2))))))))
 N ((a.1,(a.2.1,(a.2.2.1,[(a.2.2.2.1,(w8,a.2.2.2.2.2.2.1)),(a.2.2.2.2.1,(a.2.2.2.2.2.2.2.1,a.2.2.2.2.2.2.2.2))]))),b6.2.1,b6.2.2)) (cond (k.1==7) (let f0:M ByteArray:=[(Z #[97,100,97]),(Z #[98,111,98]),(Z #[120,32,121])]
 (j02 k.2.1 k.2.2 3).bind λa2=>cond (inR a2.1 f0.length) (let n5:=K f0 a2.1.toNat J
 let x0:aj:=Á a.2.2.2.2.2.1 b.1.toNat (n5,((K a.2.2.2.2.2.1 b.1.toNat (J,(0,((0,0),(0,(0,(([]:(M L)),(([]:ae),(0,0))))))))).2.1,(((K a.2.2.2.2.2.1 b.1.toNat (J,(0,((0,0),(0,(0,(([]:(M L)),(([]:ae),(0,0))))))))).2.2.1.1,(K a.2.2.2.2.2.1 b.1.toNat (J,(0,((0,0),(0,(0,(([]:(M L)),(([]:ae),(0,0))))))))).2.2.1.2),((K a.2.2.2.2.2.1 b.1.toNat (J,(0,((0,0),(0,(0,(([]:(M L)),(([]:ae),(0,0))))))))).2.2.2.1,((K a.2.2.2.2.2.1 b.1.toNat (J,(0,((0,0),(0,(0,(([]:(M L)),(([]:ae),(0,0))))))))).2.2.2.2.1,((K a.2.2.2.2.2.1 b.1.toNat (J,(0,((0,0),(0,(0,(([]:(M L)),(([]:ae),(0,0))))))))).2.2.2.2.2.1,((K a.2.2.2.2.2.1 b.1.toNat (J,(0,((0,0),(0,(0,(([]:(M L)),(([]:ae),(0,0))))))))).2.2.2.2.2.2.1,((K a.2.2.2.2.2.1 b.1.toNat (J,(0,((0,0),(0,(0,(([]:(M L)),(([]:ae),(0,0))))))))).2.2.2.2.2.2.2.1,(K a.2.2.2.2.2.1 b.1.toNat (J,(0,((0,0),(0,(0,(([]:(M L)),(([]:ae),(0,0))))))))).2.2.2.2.2.2.2.2))))))))
 N ((a.1,(a.2.1,(a.2.2.1,[(a.2.2.2.1,(x0,a.2.2.2.2.2.2.1)),(a.2.2.2.2.1,(a.2.2.2.2.2.2.2.1,a.2.2.2.2.2.2.2.2))]))),a2.2.1,a2.2.2)) Y) (N ((a.1,(a.2.1,(a.2.2.1,[(a.2.2.2.1,(a.2.2.2.2.2.1,a.2.2.2.2.2.2.1)),(a.2.2.2.2.1,(a.2.2.2.2.2.2.2.1,a.2.2.2.2.2.2.2.2))]))),k.2.1,k.2.2)))))))))) Y)) (cond (v.1==1) (let t1:=W a.2.2.2.2.2.2.2.1.length
 cond (t1==0) (N ((a.1,(a.2.1,(a.2.2.1,[(a.2.2.2.1,(a.2.2.2.2.2.1,a.2.2.2.2.2.2.1)),(a.2.2.2.2.1,(a.2.2.2.2.2.2.2.1,a.2.2.2.2.2.2.2.2))]))),v.2.1,v.2.2)) (let t2:=W a.2.2.2.2.2.2.2.1.length
 (j02 v.2.1 v.2.2 t2).bind λg=>cond (inR g.1 a.2.2.2.2.2.2.2.1.length) ((j02 g.2.1 g.2.2 8).bind λo=>cond (o.1==0) (let s9:M Int:=[0,1,400,401]
 (j03 o.2.1 o.2.2 s9).bind λf8=>let z1:aj:=Á a.2.2.2.2.2.2.2.1 g.1.toNat ((K a.2.2.2.2.2.2.2.1 g.1.toNat (J,(0,((0,0),(0,(0,(([]:(M L)),(([]:ae),(0,0))))))))).1,((K a.2.2.2.2.2.2.2.1 g.1.toNat (J,(0,((0,0),(0,(0,(([]:(M L)),(([]:ae),(0,0))))))))).2.1,(((K a.2.2.2.2.2.2.2.1 g.1.toNat (J,(0,((0,0),(0,(0,(([]:(M L)),(([]:ae),(0,0))))))))).2.2.1.1,(K a.2.2.2.2.2.2.2.1 g.1.toNat (J,(0,((0,0),(0,(0,(([]:(M L)),(([]:ae),(0,0))))))))).2.2.1.2),((K a.2.2.2.2.2.2.2.1 g.1.toNat (J,(0,((0,0),(0,(0,(([]:(M L)),(([]:ae),(0,0))))))))).2.2.2.1,(f8.1,((K a.2.2.2.2.2.2.2.1 g.1.toNat (J,(0,((0,0),(0,(0,(([]:(M L)),(([]:ae),(0,0))))))))).2.2.2.2.2.1,((K a.2.2.2.2.2.2.2.1 g.1.toNat (J,(0,((0,0),(0,(0,(([]:(M L)),(([]:ae),(0,0))))))))).2.2.2.2.2.2.1,((K a.2.2.2.2.2.2.2.1 g.1.toNat (J,(0,((0,0),(0,(0,(([]:(M L)),(([]:ae),(0,0))))))))).2.2.2.2.2.2.2.1,(K a.2.2.2.2.2.2.2.1 g.1.toNat (J,(0,((0,0),(0,(0,(([]:(M L)),(([]:ae),(0,0))))))))).2.2.2.2.2.2.2.2))))))))
 N ((a.1,(a.2.1,(a.2.2.1,[(a.2.2.2.1,(a.2.2.2.2.2.1,a.2.2.2.2.2.2.1)),(a.2.2.2.2.1,(z1,a.2.2.2.2.2.2.2.2))]))),f8.2.1,f8.2.2)) (cond (o.1==1) (let v2:M Int:=[0,1,(-5),98979,98981]
 (j03 o.2.1 o.2.2 v2).bind λf7=>let z4:aj:=Á a.2.2.2.2.2.2.2.1 g.1.toNat ((K a.2.2.2.2.2.2.2.1 g.1.toNat (J,(0,((0,0),(0,(0,(([]:(M L)),(([]:ae),(0,0))))))))).1,((K a.2.2.2.2.2.2.2.1 g.1.toNat (J,(0,((0,0),(0,(0,(([]:(M L)),(([]:ae),(0,0))))))))).2.1,((f7.1,(K a.2.2.2.2.2.2.2.1 g.1.toNat (J,(0,((0,0),(0,(0,(([]:(M L)),(([]:ae),(0,0))))))))).2.2.1.2),((K a.2.2.2.2.2.2.2.1 g.1.toNat (J,(0,((0,0),(0,(0,(([]:(M L)),(([]:ae),(0,0))))))))).2.2.2.1,((K a.2.2.2.2.2.2.2.1 g.1.toNat (J,(0,((0,0),(0,(0,(([]:(M L)),(([]:ae),(0,0))))))))).2.2.2.2.1,((K a.2.2.2.2.2.2.2.1 g.1.toNat (J,(0,((0,0),(0,(0,(([]:(M L)),(([]:ae),(0,0))))))))).2.2.2.2.2.1,((K a.2.2.2.2.2.2.2.1 g.1.toNat (J,(0,((0,0),(0,(0,(([]:(M L)),(([]:ae),(0,0))))))))).2.2.2.2.2.2.1,((K a.2.2.2.2.2.2.2.1 g.1.toNat (J,(0,((0,0),(0,(0,(([]:(M L)),(([]:ae),(0,0))))))))).2.2.2.2.2.2.2.1,(K a.2.2.2.2.2.2.2.1 g.1.toNat (J,(0,((0,0),(0,(0,(([]:(M L)),(([]:ae),(0,0))))))))).2.2.2.2.2.2.2.2))))))))
 N ((a.1,(a.2.1,(a.2.2.1,[(a.2.2.2.1,(a.2.2.2.2.2.1,a.2.2.2.2.2.2.1)),(a.2.2.2.2.1,(z4,a.2.2.2.2.2.2.2.2))]))),f7.2.1,f7.2.2)) (cond (o.1==2) (let z3:aj:=Á a.2.2.2.2.2.2.2.1 g.1.toNat ((K a.2.2.2.2.2.2.2.1 g.1.toNat (J,(0,((0,0),(0,(0,(([]:(M L)),(([]:ae),(0,0))))))))).1,((K a.2.2.2.2.2.2.2.1 g.1.toNat (J,(0,((0,0),(0,(0,(([]:(M L)),(([]:ae),(0,0))))))))).2.1,(((K a.2.2.2.2.2.2.2.1 g.1.toNat (J,(0,((0,0),(0,(0,(([]:(M L)),(([]:ae),(0,0))))))))).2.2.1.1,(K a.2.2.2.2.2.2.2.1 g.1.toNat (J,(0,((0,0),(0,(0,(([]:(M L)),(([]:ae),(0,0))))))))).2.2.1.2),((K a.2.2.2.2.2.2.2.1 g.1.toNat (J,(0,((0,0),(0,(0,(([]:(M L)),(([]:ae),(0,0))))))))).2.2.2.1,((K a.2.2.2.2.2.2.2.1 g.1.toNat (J,(0,((0,0),(0,(0,(([]:(M L)),(([]:ae),(0,0))))))))).2.2.2.2.1,(([]:(M L)),((K a.2.2.2.2.2.2.2.1 g.1.toNat (J,(0,((0,0),(0,(0,(([]:(M L)),(([]:ae),(0,0))))))))).2.2.2.2.2.2.1,((K a.2.2.2.2.2.2.2.1 g.1.toNat (J,(0,((0,0),(0,(0,(([]:(M L)),(([]:ae),(0,0))))))))).2.2.2.2.2.2.2.1,(K a.2.2.2.2.2.2.2.1 g.1.toNat (J,(0,((0,0),(0,(0,(([]:(M L)),(([]:ae),(0,0))))))))).2.2.2.2.2.2.2.2))))))))
 N ((a.1,(a.2.1,(a.2.2.1,[(a.2.2.2.1,(a.2.2.2.2.2.1,a.2.2.2.2.2.2.1)),(a.2.2.2.2.1,(z3,a.2.2.2.2.2.2.2.2))]))),o.2.1,o.2.2)) (cond (o.1==3) (let s5:=W a.2.1.length
 let t3:M Int:=[0,(-1),s5]
 (j03 o.2.1 o.2.2 t3).bind λf4=>let x6:aj:=Á a.2.2.2.2.2.2.2.1 g.1.toNat ((K a.2.2.2.2.2.2.2.1 g.1.toNat (J,(0,((0,0),(0,(0,(([]:(M L)),(([]:ae),(0,0))))))))).1,((K a.2.2.2.2.2.2.2.1 g.1.toNat (J,(0,((0,0),(0,(0,(([]:(M L)),(([]:ae),(0,0))))))))).2.1,(((K a.2.2.2.2.2.2.2.1 g.1.toNat (J,(0,((0,0),(0,(0,(([]:(M L)),(([]:ae),(0,0))))))))).2.2.1.1,(K a.2.2.2.2.2.2.2.1 g.1.toNat (J,(0,((0,0),(0,(0,(([]:(M L)),(([]:ae),(0,0))))))))).2.2.1.2),((K a.2.2.2.2.2.2.2.1 g.1.toNat (J,(0,((0,0),(0,(0,(([]:(M L)),(([]:ae),(0,0))))))))).2.2.2.1,((K a.2.2.2.2.2.2.2.1 g.1.toNat (J,(0,((0,0),(0,(0,(([]:(M L)),(([]:ae),(0,0))))))))).2.2.2.2.1,([f4.1],((K a.2.2.2.2.2.2.2.1 g.1.toNat (J,(0,((0,0),(0,(0,(([]:(M L)),(([]:ae),(0,0))))))))).2.2.2.2.2.2.1,((K a.2.2.2.2.2.2.2.1 g.1.toNat (J,(0,((0,0),(0,(0,(([]:(M L)),(([]:ae),(0,0))))))))).2.2.2.2.2.2.2.1,(K a.2.2.2.2.2.2.2.1 g.1.toNat (J,(0,((0,0),(0,(0,(([]:(M L)),(([]:ae),(0,0))))))))).2.2.2.2.2.2.2.2))))))))
 N ((a.1,(a.2.1,(a.2.2.1,[(a.2.2.2.1,(a.2.2.2.2.2.1,a.2.2.2.2.2.2.1)),(a.2.2.2.2.1,(x6,a.2.2.2.2.2.2.2.2))]))),f4.2.1,f4.2.2)) (cond (o.1==4) (let w6:M Int:=[(-1),3]
 (j03 o.2.1 o.2.2 w6).bind λg4=>let t0:aj:=Á a.2.2.2.2.2.2.2.1 g.1.toNat ((K a.2.2.2.2.2.2.2.1 g.1.toNat (J,(0,((0,0),(0,(0,(([]:(M L)),(([]:ae),(0,0))))))))).1,((K a.2.2.2.2.2.2.2.1 g.1.toNat (J,(0,((0,0),(0,(0,(([]:(M L)),(([]:ae),(0,0))))))))).2.1,(((K a.2.2.2.2.2.2.2.1 g.1.toNat (J,(0,((0,0),(0,(0,(([]:(M L)),(([]:ae),(0,0))))))))).2.2.1.1,(K a.2.2.2.2.2.2.2.1 g.1.toNat (J,(0,((0,0),(0,(0,(([]:(M L)),(([]:ae),(0,0))))))))).2.2.1.2),(g4.1,((K a.2.2.2.2.2.2.2.1 g.1.toNat (J,(0,((0,0),(0,(0,(([]:(M L)),(([]:ae),(0,0))))))))).2.2.2.2.1,((K a.2.2.2.2.2.2.2.1 g.1.toNat (J,(0,((0,0),(0,(0,(([]:(M L)),(([]:ae),(0,0))))))))).2.2.2.2.2.1,((K a.2.2.2.2.2.2.2.1 g.1.toNat (J,(0,((0,0),(0,(0,(([]:(M L)),(([]:ae),(0,0))))))))).2.2.2.2.2.2.1,((K a.2.2.2.2.2.2.2.1 g.1.toNat (J,(0,((0,0),(0,(0,(([]:(M L)),(([]:ae),(0,0))))))))).2.2.2.2.2.2.2.1,(K a.2.2.2.2.2.2.2.1 g.1.toNat (J,(0,((0,0),(0,(0,(([]:(M L)),(([]:ae),(0,0))))))))).2.2.2.2.2.2.2.2))))))))
 N ((a.1,(a.2.1,(a.2.2.1,[(a.2.2.2.1,(a.2.2.2.2.2.1,a.2.2.2.2.2.2.1)),(a.2.2.2.2.1,(t0,a.2.2.2.2.2.2.2.2))]))),g4.2.1,g4.2.2)) (cond (o.1==5) (let w2:M Int:=[0,1,2,3]
 (j03 o.2.1 o.2.2 w2).bind λf5=>let x3:aj:=Á a.2.2.2.2.2.2.2.1 g.1.toNat ((K a.2.2.2.2.2.2.2.1 g.1.toNat (J,(0,((0,0),(0,(0,(([]:(M L)),(([]:ae),(0,0))))))))).1,((K a.2.2.2.2.2.2.2.1 g.1.toNat (J,(0,((0,0),(0,(0,(([]:(M L)),(([]:ae),(0,0))))))))).2.1,(((K a.2.2.2.2.2.2.2.1 g.1.toNat (J,(0,((0,0),(0,(0,(([]:(M L)),(([]:ae),(0,0))))))))).2.2.1.1,(K a.2.2.2.2.2.2.2.1 g.1.toNat (J,(0,((0,0),(0,(0,(([]:(M L)),(([]:ae),(0,0))))))))).2.2.1.2),((K a.2.2.2.2.2.2.2.1 g.1.toNat (J,(0,((0,0),(0,(0,(([]:(M L)),(([]:ae),(0,0))))))))).2.2.2.1,((K a.2.2.2.2.2.2.2.1 g.1.toNat (J,(0,((0,0),(0,(0,(([]:(M L)),(([]:ae),(0,0))))))))).2.2.2.2.1,((K a.2.2.2.2.2.2.2.1 g.1.toNat (J,(0,((0,0),(0,(0,(([]:(M L)),(([]:ae),(0,0))))))))).2.2.2.2.2.1,((K a.2.2.2.2.2.2.2.1 g.1.toNat (J,(0,((0,0),(0,(0,(([]:(M L)),(([]:ae),(0,0))))))))).2.2.2.2.2.2.1,((K a.2.2.2.2.2.2.2.1 g.1.toNat (J,(0,((0,0),(0,(0,(([]:(M L)),(([]:ae),(0,0))))))))).2.2.2.2.2.2.2.1,f5.1))))))))
 N ((a.1,(a.2.1,(a.2.2.1,[(a.2.2.2.1,(a.2.2.2.2.2.1,a.2.2.2.2.2.2.1)),(a.2.2.2.2.1,(x3,a.2.2.2.2.2.2.2.2))]))),f5.2.1,f5.2.2)) (cond (o.1==6) (let v5:M Int:=[0,1,(-1)]
 (j03 o.2.1 o.2.2 v5).bind λg0=>let u0:aj:=Á a.2.2.2.2.2.2.2.1 g.1.toNat ((K a.2.2.2.2.2.2.2.1 g.1.toNat (J,(0,((0,0),(0,(0,(([]:(M L)),(([]:ae),(0,0))))))))).1,((K a.2.2.2.2.2.2.2.1 g.1.toNat (J,(0,((0,0),(0,(0,(([]:(M L)),(([]:ae),(0,0))))))))).2.1,(((K a.2.2.2.2.2.2.2.1 g.1.toNat (J,(0,((0,0),(0,(0,(([]:(M L)),(([]:ae),(0,0))))))))).2.2.1.1,(K a.2.2.2.2.2.2.2.1 g.1.toNat (J,(0,((0,0),(0,(0,(([]:(M L)),(([]:ae),(0,0))))))))).2.2.1.2),((K a.2.2.2.2.2.2.2.1 g.1.toNat (J,(0,((0,0),(0,(0,(([]:(M L)),(([]:ae),(0,0))))))))).2.2.2.1,((K a.2.2.2.2.2.2.2.1 g.1.toNat (J,(0,((0,0),(0,(0,(([]:(M L)),(([]:ae),(0,0))))))))).2.2.2.2.1,((K a.2.2.2.2.2.2.2.1 g.1.toNat (J,(0,((0,0),(0,(0,(([]:(M L)),(([]:ae),(0,0))))))))).2.2.2.2.2.1,((K a.2.2.2.2.2.2.2.1 g.1.toNat (J,(0,((0,0),(0,(0,(([]:(M L)),(([]:ae),(0,0))))))))).2.2.2.2.2.2.1,(g0.1,(K a.2.2.2.2.2.2.2.1 g.1.toNat (J,(0,((0,0),(0,(0,(([]:(M L)),(([]:ae),(0,0))))))))).2.2.2.2.2.2.2.2))))))))
 N ((a.1,(a.2.1,(a.2.2.1,[(a.2.2.2.1,(a.2.2.2.2.2.1,a.2.2.2.2.2.2.1)),(a.2.2.2.2.1,(u0,a.2.2.2.2.2.2.2.2))]))),g0.2.1,g0.2.2)) (cond (o.1==7) (let n9:M ByteArray:=[(Z #[97,100,97]),(Z #[98,111,98]),(Z #[120,32,121])]
 (j02 o.2.1 o.2.2 3).bind λe2=>cond (inR e2.1 n9.length) (let w4:=K n9 e2.1.toNat J
 let z2:aj:=Á a.2.2.2.2.2.2.2.1 g.1.toNat (w4,((K a.2.2.2.2.2.2.2.1 g.1.toNat (J,(0,((0,0),(0,(0,(([]:(M L)),(([]:ae),(0,0))))))))).2.1,(((K a.2.2.2.2.2.2.2.1 g.1.toNat (J,(0,((0,0),(0,(0,(([]:(M L)),(([]:ae),(0,0))))))))).2.2.1.1,(K a.2.2.2.2.2.2.2.1 g.1.toNat (J,(0,((0,0),(0,(0,(([]:(M L)),(([]:ae),(0,0))))))))).2.2.1.2),((K a.2.2.2.2.2.2.2.1 g.1.toNat (J,(0,((0,0),(0,(0,(([]:(M L)),(([]:ae),(0,0))))))))).2.2.2.1,((K a.2.2.2.2.2.2.2.1 g.1.toNat (J,(0,((0,0),(0,(0,(([]:(M L)),(([]:ae),(0,0))))))))).2.2.2.2.1,((K a.2.2.2.2.2.2.2.1 g.1.toNat (J,(0,((0,0),(0,(0,(([]:(M L)),(([]:ae),(0,0))))))))).2.2.2.2.2.1,((K a.2.2.2.2.2.2.2.1 g.1.toNat (J,(0,((0,0),(0,(0,(([]:(M L)),(([]:ae),(0,0))))))))).2.2.2.2.2.2.1,((K a.2.2.2.2.2.2.2.1 g.1.toNat (J,(0,((0,0),(0,(0,(([]:(M L)),(([]:ae),(0,0))))))))).2.2.2.2.2.2.2.1,(K a.2.2.2.2.2.2.2.1 g.1.toNat (J,(0,((0,0),(0,(0,(([]:(M L)),(([]:ae),(0,0))))))))).2.2.2.2.2.2.2.2))))))))
 N ((a.1,(a.2.1,(a.2.2.1,[(a.2.2.2.1,(a.2.2.2.2.2.1,a.2.2.2.2.2.2.1)),(a.2.2.2.2.1,(z2,a.2.2.2.2.2.2.2.2))]))),e2.2.1,e2.2.2)) Y) (N ((a.1,(a.2.1,(a.2.2.1,[(a.2.2.2.1,(a.2.2.2.2.2.1,a.2.2.2.2.2.2.1)),(a.2.2.2.2.1,(a.2.2.2.2.2.2.2.1,a.2.2.2.2.2.2.2.2))]))),o.2.1,o.2.2)))))))))) Y)) Y)) (cond (p.1==8) ((j02 p.2.1 p.2.2 2).bind λs=>cond (s.1==0) (let o6:=W a.2.2.2.2.2.1.length
 cond (o6==0) (N ((a.1,(a.2.1,(a.2.2.1,[(a.2.2.2.1,(a.2.2.2.2.2.1,a.2.2.2.2.2.2.1)),(a.2.2.2.2.1,(a.2.2.2.2.2.2.2.1,a.2.2.2.2.2.2.2.2))]))),s.2.1,s.2.2)) (let j0:=W a.2.2.2.2.2.1.length
 (j02 s.2.1 s.2.2 j0).bind λe=>cond (inR e.1 a.2.2.2.2.2.1.length) ((j02 e.2.1 e.2.2 8).bind λi=>cond (i.1==0) (let m7:M Int:=[0,1,400,401]
 (j03 i.2.1 i.2.2 m7).bind λb7=>let o9:aj:=Á a.2.2.2.2.2.1 e.1.toNat ((K a.2.2.2.2.2.1 e.1.toNat (J,(0,((0,0),(0,(0,(([]:(M L)),(([]:ae),(0,0))))))))).1,((K a.2.2.2.2.2.1 e.1.toNat (J,(0,((0,0),(0,(0,(([]:(M L)),(([]:ae),(0,0))))))))).2.1,(((K a.2.2.2.2.2.1 e.1.toNat (J,(0,((0,0),(0,(0,(([]:(M L)),(([]:ae),(0,0))))))))).2.2.1.1,(K a.2.2.2.2.2.1 e.1.toNat (J,(0,((0,0),(0,(0,(([]:(M L)),(([]:ae),(0,0))))))))).2.2.1.2),((K a.2.2.2.2.2.1 e.1.toNat (J,(0,((0,0),(0,(0,(([]:(M L)),(([]:ae),(0,0))))))))).2.2.2.1,(b7.1,((K a.2.2.2.2.2.1 e.1.toNat (J,(0,((0,0),(0,(0,(([]:(M L)),(([]:ae),(0,0))))))))).2.2.2.2.2.1,((K a.2.2.2.2.2.1 e.1.toNat (J,(0,((0,0),(0,(0,(([]:(M L)),(([]:ae),(0,0))))))))).2.2.2.2.2.2.1,((K a.2.2.2.2.2.1 e.1.toNat (J,(0,((0,0),(0,(0,(([]:(M L)),(([]:ae),(0,0))))))))).2.2.2.2.2.2.2.1,(K a.2.2.2.2.2.1 e.1.toNat (J,(0,((0,0),(0,(0,(([]:(M L)),(([]:ae),(0,0))))))))).2.2.2.2.2.2.2.2))))))))
 N ((a.1,(a.2.1,(a.2.2.1,[(a.2.2.2.1,(o9,a.2.2.2.2.2.2.1)),(a.2.2.2.2.1,(a.2.2.2.2.2.2.2.1,a.2.2.2.2.2.2.2.2))]))),b7.2.1,b7.2.2)) (cond (i.1==1) (let m6:M Int:=[0,1,(-5),98979,98981]
 (j03 i.2.1 i.2.2 m6).bind λc9=>let w7:aj:=Á a.2.2.2.2.2.1 e.1.toNat ((K a.2.2.2.2.2.1 e.1.toNat (J,(0,((0,0),(0,(0,(([]:(M L)),(([]:ae),(0,0))))))))).1,((K a.2.2.2.2.2.1 e.1.toNat (J,(0,((0,0),(0,(0,(([]:(M L)),(([]:ae),(0,0))))))))).2.1,((c9.1,(K a.2.2.2.2.2.1 e.1.toNat (J,(0,((0,0),(0,(0,(([]:(M L)),(([]:ae),(0,0))))))))).2.2.1.2),((K a.2.2.2.2.2.1 e.1.toNat (J,(0,((0,0),(0,(0,(([]:(M L)),(([]:ae),(0,0))))))))).2.2.2.1,((K a.2.2.2.2.2.1 e.1.toNat (J,(0,((0,0),(0,(0,(([]:(M L)),(([]:ae),(0,0))))))))).2.2.2.2.1,((K a.2.2.2.2.2.1 e.1.toNat (J,(0,((0,0),(0,(0,(([]:(M L)),(([]:ae),(0,0))))))))).2.2.2.2.2.1,((K a.2.2.2.2.2.1 e.1.toNat (J,(0,((0,0),(0,(0,(([]:(M L)),(([]:ae),(0,0))))))))).2.2.2.2.2.2.1,((K a.2.2.2.2.2.1 e.1.toNat (J,(0,((0,0),(0,(0,(([]:(M L)),(([]:ae),(0,0))))))))).2.2.2.2.2.2.2.1,(K a.2.2.2.2.2.1 e.1.toNat (J,(0,((0,0),(0,(0,(([]:(M L)),(([]:ae),(0,0))))))))).2.2.2.2.2.2.2.2))))))))
 N ((a.1,(a.2.1,(a.2.2.1,[(a.2.2.2.1,(w7,a.2.2.2.2.2.2.1)),(a.2.2.2.2.1,(a.2.2.2.2.2.2.2.1,a.2.2.2.2.2.2.2.2))]))),c9.2.1,c9.2.2)) (cond (i.1==2) (let u5:aj:=Á a.2.2.2.2.2.1 e.1.toNat ((K a.2.2.2.2.2.1 e.1.toNat (J,(0,((0,0),(0,(0,(([]:(M L)),(([]:ae),(0,0))))))))).1,((K a.2.2.2.2.2.1 e.1.toNat (J,(0,((0,0),(0,(0,(([]:(M L)),(([]:ae),(0,0))))))))).2.1,(((K a.2.2.2.2.2.1 e.1.toNat (J,(0,((0,0),(0,(0,(([]:(M L)),(([]:ae),(0,0))))))))).2.2.1.1,(K a.2.2.2.2.2.1 e.1.toNat (J,(0,((0,0),(0,(0,(([]:(M L)),(([]:ae),(0,0))))))))).2.2.1.2),((K a.2.2.2.2.2.1 e.1.toNat (J,(0,((0,0),(0,(0,(([]:(M L)),(([]:ae),(0,0))))))))).2.2.2.1,((K a.2.2.2.2.2.1 e.1.toNat (J,(0,((0,0),(0,(0,(([]:(M L)),(([]:ae),(0,0))))))))).2.2.2.2.1,(([]:(M L)),((K a.2.2.2.2.2.1 e.1.toNat (J,(0,((0,0),(0,(0,(([]:(M L)),(([]:ae),(0,0))))))))).2.2.2.2.2.2.1,((K a.2.2.2.2.2.1 e.1.toNat (J,(0,((0,0),(0,(0,(([]:(M L)),(([]:ae),(0,0))))))))).2.2.2.2.2.2.2.1,(K a.2.2.2.2.2.1 e.1.toNat (J,(0,((0,0),(0,(0,(([]:(M L)),(([]:ae),(0,0))))))))).2.2.2.2.2.2.2.2))))))))
 N ((a.1,(a.2.1,(a.2.2.1,[(a.2.2.2.1,(u5,a.2.2.2.2.2.2.1)),(a.2.2.2.2.1,(a.2.2.2.2.2.2.2.1,a.2.2.2.2.2.2.2.2))]))),i.2.1,i.2.2)) (cond (i.1==3) (let l2:=W a.2.1.length
 let n1:M Int:=[0,(-1),l2]
 (j03 i.2.1 i.2.2 n1).bind λd2=>let p4:aj:=Á a.2.2.2.2.2.1 e.1.toNat ((K a.2.2.2.2.2.1 e.1.toNat (J,(0,((0,0),(0,(0,(([]:(M L)),(([]:ae),(0,0))))))))).1,((K a.2.2.2.2.2.1 e.1.toNat (J,(0,((0,0),(0,(0,(([]:(M L)),(([]:ae),(0,0))))))))).2.1,(((K a.2.2.2.2.2.1 e.1.toNat (J,(0,((0,0),(0,(0,(([]:(M L)),(([]:ae),(0,0))))))))).2.2.1.1,(K a.2.2.2.2.2.1 e.1.toNat (J,(0,((0,0),(0,(0,(([]:(M L)),(([]:ae),(0,0))))))))).2.2.1.2),((K a.2.2.2.2.2.1 e.1.toNat (J,(0,((0,0),(0,(0,(([]:(M L)),(([]:ae),(0,0))))))))).2.2.2.1,((K a.2.2.2.2.2.1 e.1.toNat (J,(0,((0,0),(0,(0,(([]:(M L)),(([]:ae),(0,0))))))))).2.2.2.2.1,([d2.1],((K a.2.2.2.2.2.1 e.1.toNat (J,(0,((0,0),(0,(0,(([]:(M L)),(([]:ae),(0,0))))))))).2.2.2.2.2.2.1,((K a.2.2.2.2.2.1 e.1.toNat (J,(0,((0,0),(0,(0,(([]:(M L)),(([]:ae),(0,0))))))))).2.2.2.2.2.2.2.1,(K a.2.2.2.2.2.1 e.1.toNat (J,(0,((0,0),(0,(0,(([]:(M L)),(([]:ae),(0,0))))))))).2.2.2.2.2.2.2.2))))))))
 N ((a.1,(a.2.1,(a.2.2.1,[(a.2.2.2.1,(p4,a.2.2.2.2.2.2.1)),(a.2.2.2.2.1,(a.2.2.2.2.2.2.2.1,a.2.2.2.2.2.2.2.2))]))),d2.2.1,d2.2.2)) (cond (i.1==4) (let j2:M Int:=[(-1),3]
 (j03 i.2.1 i.2.2 j2).bind λc3=>let p8:aj:=Á a.2.2.2.2.2.1 e.1.toNat ((K a.2.2.2.2.2.1 e.1.toNat (J,(0,((0,0),(0,(0,(([]:(M L)),(([]:ae),(0,0))))))))).1,((K a.2.2.2.2.2.1 e.1.toNat (J,(0,((0,0),(0,(0,(([]:(M L)),(([]:ae),(0,0))))))))).2.1,(((K a.2.2.2.2.2.1 e.1.toNat (J,(0,((0,0),(0,(0,(([]:(M L)),(([]:ae),(0,0))))))))).2.2.1.1,(K a.2.2.2.2.2.1 e.1.toNat (J,(0,((0,0),(0,(0,(([]:(M L)),(([]:ae),(0,0))))))))).2.2.1.2),(c3.1,((K a.2.2.2.2.2.1 e.1.toNat (J,(0,((0,0),(0,(0,(([]:(M L)),(([]:ae),(0,0))))))))).2.2.2.2.1,((K a.2.2.2.2.2.1 e.1.toNat (J,(0,((0,0),(0,(0,(([]:(M L)),(([]:ae),(0,0))))))))).2.2.2.2.2.1,((K a.2.2.2.2.2.1 e.1.toNat (J,(0,((0,0),(0,(0,(([]:(M L)),(([]:ae),(0,0))))))))).2.2.2.2.2.2.1,((K a.2.2.2.2.2.1 e.1.toNat (J,(0,((0,0),(0,(0,(([]:(M L)),(([]:ae),(0,0))))))))).2.2.2.2.2.2.2.1,(K a.2.2.2.2.2.1 e.1.toNat (J,(0,((0,0),(0,(0,(([]:(M L)),(([]:ae),(0,0))))))))).2.2.2.2.2.2.2.2))))))))
 N ((a.1,(a.2.1,(a.2.2.1,[(a.2.2.2.1,(p8,a.2.2.2.2.2.2.1)),(a.2.2.2.2.1,(a.2.2.2.2.2.2.2.1,a.2.2.2.2.2.2.2.2))]))),c3.2.1,c3.2.2)) (cond (i.1==5) (let o2:M Int:=[0,1,2,3]
 (j03 i.2.1 i.2.2 o2).bind λc4=>let s1:aj:=Á a.2.2.2.2.2.1 e.1.toNat ((K a.2.2.2.2.2.1 e.1.toNat (J,(0,((0,0),(0,(0,(([]:(M L)),(([]:ae),(0,0))))))))).1,((K a.2.2.2.2.2.1 e.1.toNat (J,(0,((0,0),(0,(0,(([]:(M L)),(([]:ae),(0,0))))))))).2.1,(((K a.2.2.2.2.2.1 e.1.toNat (J,(0,((0,0),(0,(0,(([]:(M L)),(([]:ae),(0,0))))))))).2.2.1.1,(K a.2.2.2.2.2.1 e.1.toNat (J,(0,((0,0),(0,(0,(([]:(M L)),(([]:ae),(0,0))))))))).2.2.1.2),((K a.2.2.2.2.2.1 e.1.toNat (J,(0,((0,0),(0,(0,(([]:(M L)),(([]:ae),(0,0))))))))).2.2.2.1,((K a.2.2.2.2.2.1 e.1.toNat (J,(0,((0,0),(0,(0,(([]:(M L)),(([]:ae),(0,0))))))))).2.2.2.2.1,((K a.2.2.2.2.2.1 e.1.toNat (J,(0,((0,0),(0,(0,(([]:(M L)),(([]:ae),(0,0))))))))).2.2.2.2.2.1,((K a.2.2.2.2.2.1 e.1.toNat (J,(0,((0,0),(0,(0,(([]:(M L)),(([]:ae),(0,0))))))))).2.2.2.2.2.2.1,((K a.2.2.2.2.2.1 e.1.toNat (J,(0,((0,0),(0,(0,(([]:(M L)),(([]:ae),(0,0))))))))).2.2.2.2.2.2.2.1,c4.1))))))))
 N ((a.1,(a.2.1,(a.2.2.1,[(a.2.2.2.1,(s1,a.2.2.2.2.2.2.1)),(a.2.2.2.2.1,(a.2.2.2.2.2.2.2.1,a.2.2.2.2.2.2.2.2))]))),c4.2.1,c4.2.2)) (cond (i.1==6) (let o7:M Int:=[0,1,(-1)]
 (j03 i.2.1 i.2.2 o7).bind λb0=>let r3:aj:=Á a.2.2.2.2.2.1 e.1.toNat ((K a.2.2.2.2.2.1 e.1.toNat (J,(0,((0,0),(0,(0,(([]:(M L)),(([]:ae),(0,0))))))))).1,((K a.2.2.2.2.2.1 e.1.toNat (J,(0,((0,0),(0,(0,(([]:(M L)),(([]:ae),(0,0))))))))).2.1,(((K a.2.2.2.2.2.1 e.1.toNat (J,(0,((0,0),(0,(0,(([]:(M L)),(([]:ae),(0,0))))))))).2.2.1.1,(K a.2.2.2.2.2.1 e.1.toNat (J,(0,((0,0),(0,(0,(([]:(M L)),(([]:ae),(0,0))))))))).2.2.1.2),((K a.2.2.2.2.2.1 e.1.toNat (J,(0,((0,0),(0,(0,(([]:(M L)),(([]:ae),(0,0))))))))).2.2.2.1,((K a.2.2.2.2.2.1 e.1.toNat (J,(0,((0,0),(0,(0,(([]:(M L)),(([]:ae),(0,0))))))))).2.2.2.2.1,((K a.2.2.2.2.2.1 e.1.toNat (J,(0,((0,0),(0,(0,(([]:(M L)),(([]:ae),(0,0))))))))).2.2.2.2.2.1,((K a.2.2.2.2.2.1 e.1.toNat (J,(0,((0,0),(0,(0,(([]:(M L)),(([]:ae),(0,0))))))))).2.2.2.2.2.2.1,(b0.1,(K a.2.2.2.2.2.1 e.1.toNat (J,(0,((0,0),(0,(0,(([]:(M L)),(([]:ae),(0,0))))))))).2.2.2.2.2.2.2.2))))))))
 N ((a.1,(a.2.1,(a.2.2.1,[(a.2.2.2.1,(r3,a.2.2.2.2.2.2.1)),(a.2.2.2.2.1,(a.2.2.2.2.2.2.2.1,a.2.2.2.2.2.2.2.2))]))),b0.2.1,b0.2.2)) (cond (i.1==7) (let e9:M ByteArray:=[(Z #[97,100,97]),(Z #[98,111,98]),(Z #[120,32,121])]
 (j02 i.2.1 i.2.2 3).bind λa3=>cond (inR a3.1 e9.length) (let l0:=K e9 a3.1.toNat J
 let s7:aj:=Á a.2.2.2.2.2.1 e.1.toNat (l0,((K a.2.2.2.2.2.1 e.1.toNat (J,(0,((0,0),(0,(0,(([]:(M L)),(([]:ae),(0,0))))))))).2.1,(((K a.2.2.2.2.2.1 e.1.toNat (J,(0,((0,0),(0,(0,(([]:(M L)),(([]:ae),(0,0))))))))).2.2.1.1,(K a.2.2.2.2.2.1 e.1.toNat (J,(0,((0,0),(0,(0,(([]:(M L)),(([]:ae),(0,0))))))))).2.2.1.2),((K a.2.2.2.2.2.1 e.1.toNat (J,(0,((0,0),(0,(0,(([]:(M L)),(([]:ae),(0,0))))))))).2.2.2.1,((K a.2.2.2.2.2.1 e.1.toNat (J,(0,((0,0),(0,(0,(([]:(M L)),(([]:ae),(0,0))))))))).2.2.2.2.1,((K a.2.2.2.2.2.1 e.1.toNat (J,(0,((0,0),(0,(0,(([]:(M L)),(([]:ae),(0,0))))))))).2.2.2.2.2.1,((K a.2.2.2.2.2.1 e.1.toNat (J,(0,((0,0),(0,(0,(([]:(M L)),(([]:ae),(0,0))))))))).2.2.2.2.2.2.1,((K a.2.2.2.2.2.1 e.1.toNat (J,(0,((0,0),(0,(0,(([]:(M L)),(([]:ae),(0,0))))))))).2.2.2.2.2.2.2.1,(K a.2.2.2.2.2.1 e.1.toNat (J,(0,((0,0),(0,(0,(([]:(M L)),(([]:ae),(0,0))))))))).2.2.2.2.2.2.2.2))))))))
 N ((a.1,(a.2.1,(a.2.2.1,[(a.2.2.2.1,(s7,a.2.2.2.2.2.2.1)),(a.2.2.2.2.1,(a.2.2.2.2.2.2.2.1,a.2.2.2.2.2.2.2.2))]))),a3.2.1,a3.2.2)) Y) (N ((a.1,(a.2.1,(a.2.2.1,[(a.2.2.2.1,(a.2.2.2.2.2.1,a.2.2.2.2.2.2.1)),(a.2.2.2.2.1,(a.2.2.2.2.2.2.2.1,a.2.2.2.2.2.2.2.2))]))),i.2.1,i.2.2)))))))))) Y)) (cond (s.1==1) (let i8:=W a.2.2.2.2.2.2.2.1.length
 cond (i8==0) (N ((a.1,(a.2.1,(a.2.2.1,[(a.2.2.2.1,(a.2.2.2.2.2.1,a.2.2.2.2.2.2.1)),(a.2.2.2.2.1,(a.2.2.2.2.2.2.2.1,a.2.2.2.2.2.2.2.2))]))),s.2.1,s.2.2)) (let l3:=W a.2.2.2.2.2.2.2.1.length
 (j02 s.2.1 s.2.2 l3).bind λd=>cond (inR d.1 a.2.2.2.2.2.2.2.1.length) ((j02 d.2.1 d.2.2 8).bind λl=>cond (l.1==0) (let i9:M Int:=[0,1,400,401]
 (j03 l.2.1 l.2.2 i9).bind λc8=>let v9:aj:=Á a.2.2.2.2.2.2.2.1 d.1.toNat ((K a.2.2.2.2.2.2.2.1 d.1.toNat (J,(0,((0,0),(0,(0,(([]:(M L)),(([]:ae),(0,0))))))))).1,((K a.2.2.2.2.2.2.2.1 d.1.toNat (J,(0,((0,0),(0,(0,(([]:(M L)),(([]:ae),(0,0))))))))).2.1,(((K a.2.2.2.2.2.2.2.1 d.1.toNat (J,(0,((0,0),(0,(0,(([]:(M L)),(([]:ae),(0,0))))))))).2.2.1.1,(K a.2.2.2.2.2.2.2.1 d.1.toNat (J,(0,((0,0),(0,(0,(([]:(M L)),(([]:ae),(0,0))))))))).2.2.1.2),((K a.2.2.2.2.2.2.2.1 d.1.toNat (J,(0,((0,0),(0,(0,(([]:(M L)),(([]:ae),(0,0))))))))).2.2.2.1,(c8.1,((K a.2.2.2.2.2.2.2.1 d.1.toNat (J,(0,((0,0),(0,(0,(([]:(M L)),(([]:ae),(0,0))))))))).2.2.2.2.2.1,((K a.2.2.2.2.2.2.2.1 d.1.toNat (J,(0,((0,0),(0,(0,(([]:(M L)),(([]:ae),(0,0))))))))).2.2.2.2.2.2.1,((K a.2.2.2.2.2.2.2.1 d.1.toNat (J,(0,((0,0),(0,(0,(([]:(M L)),(([]:ae),(0,0))))))))).2.2.2.2.2.2.2.1,(K a.2.2.2.2.2.2.2.1 d.1.toNat (J,(0,((0,0),(0,(0,(([]:(M L)),(([]:ae),(0,0))))))))).2.2.2.2.2.2.2.2))))))))
 N ((a.1,(a.2.1,(a.2.2.1,[(a.2.2.2.1,(a.2.2.2.2.2.1,a.2.2.2.2.2.2.1)),(a.2.2.2.2.1,(v9,a.2.2.2.2.2.2.2.2))]))),c8.2.1,c8.2.2)) (cond (l.1==1) (let n0:M Int:=[0,1,(-5),98979,98981]
 (j03 l.2.1 l.2.2 n0).bind λd4=>let s6:aj:=Á a.2.2.2.2.2.2.2.1 d.1.toNat ((K a.2.2.2.2.2.2.2.1 d.1.toNat (J,(0,((0,0),(0,(0,(([]:(M L)),(([]:ae),(0,0))))))))).1,((K a.2.2.2.2.2.2.2.1 d.1.toNat (J,(0,((0,0),(0,(0,(([]:(M L)),(([]:ae),(0,0))))))))).2.1,((d4.1,(K a.2.2.2.2.2.2.2.1 d.1.toNat (J,(0,((0,0),(0,(0,(([]:(M L)),(([]:ae),(0,0))))))))).2.2.1.2),((K a.2.2.2.2.2.2.2.1 d.1.toNat (J,(0,((0,0),(0,(0,(([]:(M L)),(([]:ae),(0,0))))))))).2.2.2.1,((K a.2.2.2.2.2.2.2.1 d.1.toNat (J,(0,((0,0),(0,(0,(([]:(M L)),(([]:ae),(0,0))))))))).2.2.2.2.1,((K a.2.2.2.2.2.2.2.1 d.1.toNat (J,(0,((0,0),(0,(0,(([]:(M L)),(([]:ae),(0,0))))))))).2.2.2.2.2.1,((K a.2.2.2.2.2.2.2.1 d.1.toNat (J,(0,((0,0),(0,(0,(([]:(M L)),(([]:ae),(0,0))))))))).2.2.2.2.2.2.1,((K a.2.2.2.2.2.2.2.1 d.1.toNat (J,(0,((0,0),(0,(0,(([]:(M L)),(([]:ae),(0,0))))))))).2.2.2.2.2.2.2.1,(K a.2.2.2.2.2.2.2.1 d.1.toNat (J,(0,((0,0),(0,(0,(([]:(M L)),(([]:ae),(0,0))))))))).2.2.2.2.2.2.2.2))))))))
 N ((a.1,(a.2.1,(a.2.2.1,[(a.2.2.2.1,(a.2.2.2.2.2.1,a.2.2.2.2.2.2.1)),(a.2.2.2.2.1,(s6,a.2.2.2.2.2.2.2.2))]))),d4.2.1,d4.2.2)) (cond (l.1==2) (let t4:aj:=Á a.2.2.2.2.2.2.2.1 d.1.toNat ((K a.2.2.2.2.2.2.2.1 d.1.toNat (J,(0,((0,0),(0,(0,(([]:(M L)),(([]:ae),(0,0))))))))).1,((K a.2.2.2.2.2.2.2.1 d.1.toNat (J,(0,((0,0),(0,(0,(([]:(M L)),(([]:ae),(0,0))))))))).2.1,(((K a.2.2.2.2.2.2.2.1 d.1.toNat (J,(0,((0,0),(0,(0,(([]:(M L)),(([]:ae),(0,0))))))))).2.2.1.1,(K a.2.2.2.2.2.2.2.1 d.1.toNat (J,(0,((0,0),(0,(0,(([]:(M L)),(([]:ae),(0,0))))))))).2.2.1.2),((K a.2.2.2.2.2.2.2.1 d.1.toNat (J,(0,((0,0),(0,(0,(([]:(M L)),(([]:ae),(0,0))))))))).2.2.2.1,((K a.2.2.2.2.2.2.2.1 d.1.toNat (J,(0,((0,0),(0,(0,(([]:(M L)),(([]:ae),(0,0))))))))).2.2.2.2.1,(([]:(M L)),((K a.2.2.2.2.2.2.2.1 d.1.toNat (J,(0,((0,0),(0,(0,(([]:(M L)),(([]:ae),(0,0))))))))).2.2.2.2.2.2.1,((K a.2.2.2.2.2.2.2.1 d.1.toNat (J,(0,((0,0),(0,(0,(([]:(M L)),(([]:ae),(0,0))))))))).2.2.2.2.2.2.2.1,(K a.2.2.2.2.2.2.2.1 d.1.toNat (J,(0,((0,0),(0,(0,(([]:(M L)),(([]:ae),(0,0))))))))).2.2.2.2.2.2.2.2))))))))
 N ((a.1,(a.2.1,(a.2.2.1,[(a.2.2.2.1,(a.2.2.2.2.2.1,a.2.2.2.2.2.2.1)),(a.2.2.2.2.1,(t4,a.2.2.2.2.2.2.2.2))]))),l.2.1,l.2.2)) (cond (l.1==3) (let o8:=W a.2.1.length
 let j1:M Int:=[0,(-1),o8]
 (j03 l.2.1 l.2.2 j1).bind λc2=>let r5:aj:=Á a.2.2.2.2.2.2.2.1 d.1.toNat ((K a.2.2.2.2.2.2.2.1 d.1.toNat (J,(0,((0,0),(0,(0,(([]:(M L)),(([]:ae),(0,0))))))))).1,((K a.2.2.2.2.2.2.2.1 d.1.toNat (J,(0,((0,0),(0,(0,(([]:(M L)),(([]:ae),(0,0))))))))).2.1,(((K a.2.2.2.2.2.2.2.1 d.1.toNat (J,(0,((0,0),(0,(0,(([]:(M L)),(([]:ae),(0,0))))))))).2.2.1.1,(K a.2.2.2.2.2.2.2.1 d.1.toNat (J,(0,((0,0),(0,(0,(([]:(M L)),(([]:ae),(0,0))))))))).2.2.1.2),((K a.2.2.2.2.2.2.2.1 d.1.toNat (J,(0,((0,0),(0,(0,(([]:(M L)),(([]:ae),(0,0))))))))).2.2.2.1,((K a.2.2.2.2.2.2.2.1 d.1.toNat (J,(0,((0,0),(0,(0,(([]:(M L)),(([]:ae),(0,0))))))))).2.2.2.2.1,([c2.1],((K a.2.2.2.2.2.2.2.1 d.1.toNat (J,(0,((0,0),(0,(0,(([]:(M L)),(([]:ae),(0,0))))))))).2.2.2.2.2.2.1,((K a.2.2.2.2.2.2.2.1 d.1.toNat (J,(0,((0,0),(0,(0,(([]:(M L)),(([]:ae),(0,0))))))))).2.2.2.2.2.2.2.1,(K a.2.2.2.2.2.2.2.1 d.1.toNat (J,(0,((0,0),(0,(0,(([]:(M L)),(([]:ae),(0,0))))))))).2.2.2.2.2.2.2.2))))))))
 N ((a.1,(a.2.1,(a.2.2.1,[(a.2.2.2.1,(a.2.2.2.2.2.1,a.2.2.2.2.2.2.1)),(a.2.2.2.2.1,(r5,a.2.2.2.2.2.2.2.2))]))),c2.2.1,c2.2.2)) (cond (l.1==4) (let o0:M Int:=[(-1),3]
 (j03 l.2.1 l.2.2 o0).bind λc5=>let v8:aj:=Á a.2.2.2.2.2.2.2.1 d.1.toNat ((K a.2.2.2.2.2.2.2.1 d.1.toNat (J,(0,((0,0),(0,(0,(([]:(M L)),(([]:ae),(0,0))))))))).1,((K a.2.2.2.2.2.2.2.1 d.1.toNat (J,(0,((0,0),(0,(0,(([]:(M L)),(([]:ae),(0,0))))))))).2.1,(((K a.2.2.2.2.2.2.2.1 d.1.toNat (J,(0,((0,0),(0,(0,(([]:(M L)),(([]:ae),(0,0))))))))).2.2.1.1,(K a.2.2.2.2.2.2.2.1 d.1.toNat (J,(0,((0,0),(0,(0,(([]:(M L)),(([]:ae),(0,0))))))))).2.2.1.2),(c5.1,((K a.2.2.2.2.2.2.2.1 d.1.toNat (J,(0,((0,0),(0,(0,(([]:(M L)),(([]:ae),(0,0))))))))).2.2.2.2.1,((K a.2.2.2.2.2.2.2.1 d.1.toNat (J,(0,((0,0),(0,(0,(([]:(M L)),(([]:ae),(0,0))))))))).2.2.2.2.2.1,((K a.2.2.2.2.2.2.2.1 d.1.toNat (J,(0,((0,0),(0,(0,(([]:(M L)),(([]:ae),(0,0))))))))).2.2.2.2.2.2.1,((K a.2.2.2.2.2.2.2.1 d.1.toNat (J,(0,((0,0),(0,(0,(([]:(M L)),(([]:ae),(0,0))))))))).2.2.2.2.2.2.2.1,(K a.2.2.2.2.2.2.2.1 d.1.toNat (J,(0,((0,0),(0,(0,(([]:(M L)),(([]:ae),(0,0))))))))).2.2.2.2.2.2.2.2))))))))
 N ((a.1,(a.2.1,(a.2.2.1,[(a.2.2.2.1,(a.2.2.2.2.2.1,a.2.2.2.2.2.2.1)),(a.2.2.2.2.1,(v8,a.2.2.2.2.2.2.2.2))]))),c5.2.1,c5.2.2)) (cond (l.1==5) (let k3:M Int:=[0,1,2,3]
 (j03 l.2.1 l.2.2 k3).bind λc0=>let p2:aj:=Á a.2.2.2.2.2.2.2.1 d.1.toNat ((K a.2.2.2.2.2.2.2.1 d.1.toNat (J,(0,((0,0),(0,(0,(([]:(M L)),(([]:ae),(0,0))))))))).1,((K a.2.2.2.2.2.2.2.1 d.1.toNat (J,(0,((0,0),(0,(0,(([]:(M L)),(([]:ae),(0,0))))))))).2.1,(((K a.2.2.2.2.2.2.2.1 d.1.toNat (J,(0,((0,0),(0,(0,(([]:(M L)),(([]:ae),(0,0))))))))).2.2.1.1,(K a.2.2.2.2.2.2.2.1 d.1.toNat (J,(0,((0,0),(0,(0,(([]:(M L)),(([]:ae),(0,0))))))))).2.2.1.2),((K a.2.2.2.2.2.2.2.1 d.1.toNat (J,(0,((0,0),(0,(0,(([]:(M L)),(([]:ae),(0,0))))))))).2.2.2.1,((K a.2.2.2.2.2.2.2.1 d.1.toNat (J,(0,((0,0),(0,(0,(([]:(M L)),(([]:ae),(0,0))))))))).2.2.2.2.1,((K a.2.2.2.2.2.2.2.1 d.1.toNat (J,(0,((0,0),(0,(0,(([]:(M L)),(([]:ae),(0,0))))))))).2.2.2.2.2.1,((K a.2.2.2.2.2.2.2.1 d.1.toNat (J,(0,((0,0),(0,(0,(([]:(M L)),(([]:ae),(0,0))))))))).2.2.2.2.2.2.1,((K a.2.2.2.2.2.2.2.1 d.1.toNat (J,(0,((0,0),(0,(0,(([]:(M L)),(([]:ae),(0,0))))))))).2.2.2.2.2.2.2.1,c0.1))))))))
 N ((a.1,(a.2.1,(a.2.2.1,[(a.2.2.2.1,(a.2.2.2.2.2.1,a.2.2.2.2.2.2.1)),(a.2.2.2.2.1,(p2,a.2.2.2.2.2.2.2.2))]))),c0.2.1,c0.2.2)) (cond (l.1==6) (let o5:M Int:=[0,1,(-1)]
 (j03 l.2.1 l.2.2 o5).bind λa6=>let q0:aj:=Á a.2.2.2.2.2.2.2.1 d.1.toNat ((K a.2.2.2.2.2.2.2.1 d.1.toNat (J,(0,((0,0),(0,(0,(([]:(M L)),(([]:ae),(0,0))))))))).1,((K a.2.2.2.2.2.2.2.1 d.1.toNat (J,(0,((0,0),(0,(0,(([]:(M L)),(([]:ae),(0,0))))))))).2.1,(((K a.2.2.2.2.2.2.2.1 d.1.toNat (J,(0,((0,0),(0,(0,(([]:(M L)),(([]:ae),(0,0))))))))).2.2.1.1,(K a.2.2.2.2.2.2.2.1 d.1.toNat (J,(0,((0,0),(0,(0,(([]:(M L)),(([]:ae),(0,0))))))))).2.2.1.2),((K a.2.2.2.2.2.2.2.1 d.1.toNat (J,(0,((0,0),(0,(0,(([]:(M L)),(([]:ae),(0,0))))))))).2.2.2.1,((K a.2.2.2.2.2.2.2.1 d.1.toNat (J,(0,((0,0),(0,(0,(([]:(M L)),(([]:ae),(0,0))))))))).2.2.2.2.1,((K a.2.2.2.2.2.2.2.1 d.1.toNat (J,(0,((0,0),(0,(0,(([]:(M L)),(([]:ae),(0,0))))))))).2.2.2.2.2.1,((K a.2.2.2.2.2.2.2.1 d.1.toNat (J,(0,((0,0),(0,(0,(([]:(M L)),(([]:ae),(0,0))))))))).2.2.2.2.2.2.1,(a6.1,(K a.2.2.2.2.2.2.2.1 d.1.toNat (J,(0,((0,0),(0,(0,(([]:(M L)),(([]:ae),(0,0))))))))).2.2.2.2.2.2.2.2))))))))
 N ((a.1,(a.2.1,(a.2.2.1,[(a.2.2.2.1,(a.2.2.2.2.2.1,a.2.2.2.2.2.2.1)),(a.2.2.2.2.1,(q0,a.2.2.2.2.2.2.2.2))]))),a6.2.1,a6.2.2)) (cond (l.1==7) (let f2:M ByteArray:=[(Z #[97,100,97]),(Z #[98,111,98]),(Z #[120,32,121])]
 (j02 l.2.1 l.2.2 3).bind λa1=>cond (inR a1.1 f2.length) (let k5:=K f2 a1.1.toNat J
 let v7:aj:=Á a.2.2.2.2.2.2.2.1 d.1.toNat (k5,((K a.2.2.2.2.2.2.2.1 d.1.toNat (J,(0,((0,0),(0,(0,(([]:(M L)),(([]:ae),(0,0))))))))).2.1,(((K a.2.2.2.2.2.2.2.1 d.1.toNat (J,(0,((0,0),(0,(0,(([]:(M L)),(([]:ae),(0,0))))))))).2.2.1.1,(K a.2.2.2.2.2.2.2.1 d.1.toNat (J,(0,((0,0),(0,(0,(([]:(M L)),(([]:ae),(0,0))))))))).2.2.1.2),((K a.2.2.2.2.2.2.2.1 d.1.toNat (J,(0,((0,0),(0,(0,(([]:(M L)),(([]:ae),(0,0))))))))).2.2.2.1,((K a.2.2.2.2.2.2.2.1 d.1.toNat (J,(0,((0,0),(0,(0,(([]:(M L)),(([]:ae),(0,0))))))))).2.2.2.2.1,((K a.2.2.2.2.2.2.2.1 d.1.toNat (J,(0,((0,0),(0,(0,(([]:(M L)),(([]:ae),(0,0))))))))).2.2.2.2.2.1,((K a.2.2.2.2.2.2.2.1 d.1.toNat (J,(0,((0,0),(0,(0,(([]:(M L)),(([]:ae),(0,0))))))))).2.2.2.2.2.2.1,((K a.2.2.2.2.2.2.2.1 d.1.toNat (J,(0,((0,0),(0,(0,(([]:(M L)),(([]:ae),(0,0))))))))).2.2.2.2.2.2.2.1,(K a.2.2.2.2.2.2.2.1 d.1.toNat (J,(0,((0,0),(0,(0,(([]:(M L)),(([]:ae),(0,0))))))))).2.2.2.2.2.2.2.2))))))))
 N ((a.1,(a.2.1,(a.2.2.1,[(a.2.2.2.1,(a.2.2.2.2.2.1,a.2.2.2.2.2.2.1)),(a.2.2.2.2.1,(v7,a.2.2.2.2.2.2.2.2))]))),a1.2.1,a1.2.2)) Y) (N ((a.1,(a.2.1,(a.2.2.1,[(a.2.2.2.1,(a.2.2.2.2.2.1,a.2.2.2.2.2.2.1)),(a.2.2.2.2.1,(a.2.2.2.2.2.2.2.1,a.2.2.2.2.2.2.2.2))]))),l.2.1,l.2.2)))))))))) Y)) Y)) (cond (p.1==9) ((j02 p.2.1 p.2.2 2).bind λt=>cond (t.1==0) (let m2:=W a.2.2.2.2.2.1.length
 cond (m2==0) (N ((a.1,(a.2.1,(a.2.2.1,[(a.2.2.2.1,(a.2.2.2.2.2.1,a.2.2.2.2.2.2.1)),(a.2.2.2.2.1,(a.2.2.2.2.2.2.2.1,a.2.2.2.2.2.2.2.2))]))),t.2.1,t.2.2)) (let l9:=W a.2.2.2.2.2.1.length
 (j02 t.2.1 t.2.2 l9).bind λc=>cond (inR c.1 a.2.2.2.2.2.1.length) ((j02 c.2.1 c.2.2 8).bind λj=>cond (j.1==0) (let k7:M Int:=[0,1,400,401]
 (j03 j.2.1 j.2.2 k7).bind λd1=>let p0:aj:=Á a.2.2.2.2.2.1 c.1.toNat ((K a.2.2.2.2.2.1 c.1.toNat (J,(0,((0,0),(0,(0,(([]:(M L)),(([]:ae),(0,0))))))))).1,((K a.2.2.2.2.2.1 c.1.toNat (J,(0,((0,0),(0,(0,(([]:(M L)),(([]:ae),(0,0))))))))).2.1,(((K a.2.2.2.2.2.1 c.1.toNat (J,(0,((0,0),(0,(0,(([]:(M L)),(([]:ae),(0,0))))))))).2.2.1.1,(K a.2.2.2.2.2.1 c.1.toNat (J,(0,((0,0),(0,(0,(([]:(M L)),(([]:ae),(0,0))))))))).2.2.1.2),((K a.2.2.2.2.2.1 c.1.toNat (J,(0,((0,0),(0,(0,(([]:(M L)),(([]:ae),(0,0))))))))).2.2.2.1,(d1.1,((K a.2.2.2.2.2.1 c.1.toNat (J,(0,((0,0),(0,(0,(([]:(M L)),(([]:ae),(0,0))))))))).2.2.2.2.2.1,((K a.2.2.2.2.2.1 c.1.toNat (J,(0,((0,0),(0,(0,(([]:(M L)),(([]:ae),(0,0))))))))).2.2.2.2.2.2.1,((K a.2.2.2.2.2.1 c.1.toNat (J,(0,((0,0),(0,(0,(([]:(M L)),(([]:ae),(0,0))))))))).2.2.2.2.2.2.2.1,(K a.2.2.2.2.2.1 c.1.toNat (J,(0,((0,0),(0,(0,(([]:(M L)),(([]:ae),(0,0))))))))).2.2.2.2.2.2.2.2))))))))
 N ((a.1,(a.2.1,(a.2.2.1,[(a.2.2.2.1,(p0,a.2.2.2.2.2.2.1)),(a.2.2.2.2.1,(a.2.2.2.2.2.2.2.1,a.2.2.2.2.2.2.2.2))]))),d1.2.1,d1.2.2)) (cond (j.1==1) (let o1:M Int:=[0,1,(-5),98979,98981]
 (j03 j.2.1 j.2.2 o1).bind λd3=>let w5:aj:=Á a.2.2.2.2.2.1 c.1.toNat ((K a.2.2.2.2.2.1 c.1.toNat (J,(0,((0,0),(0,(0,(([]:(M L)),(([]:ae),(0,0))))))))).1,((K a.2.2.2.2.2.1 c.1.toNat (J,(0,((0,0),(0,(0,(([]:(M L)),(([]:ae),(0,0))))))))).2.1,((d3.1,(K a.2.2.2.2.2.1 c.1.toNat (J,(0,((0,0),(0,(0,(([]:(M L)),(([]:ae),(0,0))))))))).2.2.1.2),((K a.2.2.2.2.2.1 c.1.toNat (J,(0,((0,0),(0,(0,(([]:(M L)),(([]:ae),(0,0))))))))).2.2.2.1,((K a.2.2.2.2.2.1 c.1.toNat (J,(0,((0,0),(0,(0,(([]:(M L)),(([]:ae),(0,0))))))))).2.2.2.2.1,((K a.2.2.2.2.2.1 c.1.toNat (J,(0,((0,0),(0,(0,(([]:(M L)),(([]:ae),(0,0))))))))).2.2.2.2.2.1,((K a.2.2.2.2.2.1 c.1.toNat (J,(0,((0,0),(0,(0,(([]:(M L)),(([]:ae),(0,0))))))))).2.2.2.2.2.2.1,((K a.2.2.2.2.2.1 c.1.toNat (J,(0,((0,0),(0,(0,(([]:(M L)),(([]:ae),(0,0))))))))).2.2.2.2.2.2.2.1,(K a.2.2.2.2.2.1 c.1.toNat (J,(0,((0,0),(0,(0,(([]:(M L)),(([]:ae),(0,0))))))))).2.2.2.2.2.2.2.2))))))))
 N ((a.1,(a.2.1,(a.2.2.1,[(a.2.2.2.1,(w5,a.2.2.2.2.2.2.1)),(a.2.2.2.2.1,(a.2.2.2.2.2.2.2.1,a.2.2.2.2.2.2.2.2))]))),d3.2.1,d3.2.2)) (cond (j.1==2) (let w1:aj:=Á a.2.2.2.2.2.1 c.1.toNat ((K a.2.2.2.2.2.1 c.1.toNat (J,(0,((0,0),(0,(0,(([]:(M L)),(([]:ae),(0,0))))))))).1,((K a.2.2.2.2.2.1 c.1.toNat (J,(0,((0,0),(0,(0,(([]:(M L)),(([]:ae),(0,0))))))))).2.1,(((K a.2.2.2.2.2.1 c.1.toNat (J,(0,((0,0),(0,(0,(([]:(M L)),(([]:ae),(0,0))))))))).2.2.1.1,(K a.2.2.2.2.2.1 c.1.toNat (J,(0,((0,0),(0,(0,(([]:(M L)),(([]:ae),(0,0))))))))).2.2.1.2),((K a.2.2.2.2.2.1 c.1.toNat (J,(0,((0,0),(0,(0,(([]:(M L)),(([]:ae),(0,0))))))))).2.2.2.1,((K a.2.2.2.2.2.1 c.1.toNat (J,(0,((0,0),(0,(0,(([]:(M L)),(([]:ae),(0,0))))))))).2.2.2.2.1,(([]:(M L)),((K a.2.2.2.2.2.1 c.1.toNat (J,(0,((0,0),(0,(0,(([]:(M L)),(([]:ae),(0,0))))))))).2.2.2.2.2.2.1,((K a.2.2.2.2.2.1 c.1.toNat (J,(0,((0,0),(0,(0,(([]:(M L)),(([]:ae),(0,0))))))))).2.2.2.2.2.2.2.1,(K a.2.2.2.2.2.1 c.1.toNat (J,(0,((0,0),(0,(0,(([]:(M L)),(([]:ae),(0,0))))))))).2.2.2.2.2.2.2.2))))))))
 N ((a.1,(a.2.1,(a.2.2.1,[(a.2.2.2.1,(w1,a.2.2.2.2.2.2.1)),(a.2.2.2.2.1,(a.2.2.2.2.2.2.2.1,a.2.2.2.2.2.2.2.2))]))),j.2.1,j.2.2)) (cond (j.1==3) (let n4:=W a.2.1.length
 let k4:M Int:=[0,(-1),n4]
 (j03 j.2.1 j.2.2 k4).bind λc7=>let s2:aj:=Á a.2.2.2.2.2.1 c.1.toNat ((K a.2.2.2.2.2.1 c.1.toNat (J,(0,((0,0),(0,(0,(([]:(M L)),(([]:ae),(0,0))))))))).1,((K a.2.2.2.2.2.1 c.1.toNat (J,(0,((0,0),(0,(0,(([]:(M L)),(([]:ae),(0,0))))))))).2.1,(((K a.2.2.2.2.2.1 c.1.toNat (J,(0,((0,0),(0,(0,(([]:(M L)),(([]:ae),(0,0))))))))).2.2.1.1,(K a.2.2.2.2.2.1 c.1.toNat (J,(0,((0,0),(0,(0,(([]:(M L)),(([]:ae),(0,0))))))))).2.2.1.2),((K a.2.2.2.2.2.1 c.1.toNat (J,(0,((0,0),(0,(0,(([]:(M L)),(([]:ae),(0,0))))))))).2.2.2.1,((K a.2.2.2.2.2.1 c.1.toNat (J,(0,((0,0),(0,(0,(([]:(M L)),(([]:ae),(0,0))))))))).2.2.2.2.1,([c7.1],((K a.2.2.2.2.2.1 c.1.toNat (J,(0,((0,0),(0,(0,(([]:(M L)),(([]:ae),(0,0))))))))).2.2.2.2.2.2.1,((K a.2.2.2.2.2.1 c.1.toNat (J,(0,((0,0),(0,(0,(([]:(M L)),(([]:ae),(0,0))))))))).2.2.2.2.2.2.2.1,(K a.2.2.2.2.2.1 c.1.toNat (J,(0,((0,0),(0,(0,(([]:(M L)),(([]:ae),(0,0))))))))).2.2.2.2.2.2.2.2))))))))
 N ((a.1,(a.2.1,(a.2.2.1,[(a.2.2.2.1,(s2,a.2.2.2.2.2.2.1)),(a.2.2.2.2.1,(a.2.2.2.2.2.2.2.1,a.2.2.2.2.2.2.2.2))]))),c7.2.1,c7.2.2)) (cond (j.1==4) (let i5:M Int:=[(-1),3]
 (j03 j.2.1 j.2.2 i5).bind λb3=>let q4:aj:=Á a.2.2.2.2.2.1 c.1.toNat ((K a.2.2.2.2.2.1 c.1.toNat (J,(0,((0,0),(0,(0,(([]:(M L)),(([]:ae),(0,0))))))))).1,((K a.2.2.2.2.2.1 c.1.toNat (J,(0,((0,0),(0,(0,(([]:(M L)),(([]:ae),(0,0))))))))).2.1,(((K a.2.2.2.2.2.1 c.1.toNat (J,(0,((0,0),(0,(0,(([]:(M L)),(([]:ae),(0,0))))))))).2.2.1.1,(K a.2.2.2.2.2.1 c.1.toNat (J,(0,((0,0),(0,(0,(([]:(M L)),(([]:ae),(0,0))))))))).2.2.1.2),(b3.1,((K a.2.2.2.2.2.1 c.1.toNat (J,(0,((0,0),(0,(0,(([]:(M L)),(([]:ae),(0,0))))))))).2.2.2.2.1,((K a.2.2.2.2.2.1 c.1.toNat (J,(0,((0,0),(0,(0,(([]:(M L)),(([]:ae),(0,0))))))))).2.2.2.2.2.1,((K a.2.2.2.2.2.1 c.1.toNat (J,(0,((0,0),(0,(0,(([]:(M L)),(([]:ae),(0,0))))))))).2.2.2.2.2.2.1,((K a.2.2.2.2.2.1 c.1.toNat (J,(0,((0,0),(0,(0,(([]:(M L)),(([]:ae),(0,0))))))))).2.2.2.2.2.2.2.1,(K a.2.2.2.2.2.1 c.1.toNat (J,(0,((0,0),(0,(0,(([]:(M L)),(([]:ae),(0,0))))))))).2.2.2.2.2.2.2.2))))))))
 N ((a.1,(a.2.1,(a.2.2.1,[(a.2.2.2.1,(q4,a.2.2.2.2.2.2.1)),(a.2.2.2.2.1,(a.2.2.2.2.2.2.2.1,a.2.2.2.2.2.2.2.2))]))),b3.2.1,b3.2.2)) (cond (j.1==5) (let l7:M Int:=[0,1,2,3]
 (j03 j.2.1 j.2.2 l7).bind λb5=>let r4:aj:=Á a.2.2.2.2.2.1 c.1.toNat ((K a.2.2.2.2.2.1 c.1.toNat (J,(0,((0,0),(0,(0,(([]:(M L)),(([]:ae),(0,0))))))))).1,((K a.2.2.2.2.2.1 c.1.toNat (J,(0,((0,0),(0,(0,(([]:(M L)),(([]:ae),(0,0))))))))).2.1,(((K a.2.2.2.2.2.1 c.1.toNat (J,(0,((0,0),(0,(0,(([]:(M L)),(([]:ae),(0,0))))))))).2.2.1.1,(K a.2.2.2.2.2.1 c.1.toNat (J,(0,((0,0),(0,(0,(([]:(M L)),(([]:ae),(0,0))))))))).2.2.1.2),((K a.2.2.2.2.2.1 c.1.toNat (J,(0,((0,0),(0,(0,(([]:(M L)),(([]:ae),(0,0))))))))).2.2.2.1,((K a.2.2.2.2.2.1 c.1.toNat (J,(0,((0,0),(0,(0,(([]:(M L)),(([]:ae),(0,0))))))))).2.2.2.2.1,((K a.2.2.2.2.2.1 c.1.toNat (J,(0,((0,0),(0,(0,(([]:(M L)),(([]:ae),(0,0))))))))).2.2.2.2.2.1,((K a.2.2.2.2.2.1 c.1.toNat (J,(0,((0,0),(0,(0,(([]:(M L)),(([]:ae),(0,0))))))))).2.2.2.2.2.2.1,((K a.2.2.2.2.2.1 c.1.toNat (J,(0,((0,0),(0,(0,(([]:(M L)),(([]:ae),(0,0))))))))).2.2.2.2.2.2.2.1,b5.1))))))))
 N ((a.1,(a.2.1,(a.2.2.1,[(a.2.2.2.1,(r4,a.2.2.2.2.2.2.1)),(a.2.2.2.2.1,(a.2.2.2.2.2.2.2.1,a.2.2.2.2.2.2.2.2))]))),b5.2.1,b5.2.2)) (cond (j.1==6) (let k0:M Int:=[0,1,(-1)]
 (j03 j.2.1 j.2.2 k0).bind λd0=>let s3:aj:=Á a.2.2.2.2.2.1 c.1.toNat ((K a.2.2.2.2.2.1 c.1.toNat (J,(0,((0,0),(0,(0,(([]:(M L)),(([]:ae),(0,0))))))))).1,((K a.2.2.2.2.2.1 c.1.toNat (J,(0,((0,0),(0,(0,(([]:(M L)),(([]:ae),(0,0))))))))).2.1,(((K a.2.2.2.2.2.1 c.1.toNat (J,(0,((0,0),(0,(0,(([]:(M L)),(([]:ae),(0,0))))))))).2.2.1.1,(K a.2.2.2.2.2.1 c.1.toNat (J,(0,((0,0),(0,(0,(([]:(M L)),(([]:ae),(0,0))))))))).2.2.1.2),((K a.2.2.2.2.2.1 c.1.toNat (J,(0,((0,0),(0,(0,(([]:(M L)),(([]:ae),(0,0))))))))).2.2.2.1,((K a.2.2.2.2.2.1 c.1.toNat (J,(0,((0,0),(0,(0,(([]:(M L)),(([]:ae),(0,0))))))))).2.2.2.2.1,((K a.2.2.2.2.2.1 c.1.toNat (J,(0,((0,0),(0,(0,(([]:(M L)),(([]:ae),(0,0))))))))).2.2.2.2.2.1,((K a.2.2.2.2.2.1 c.1.toNat (J,(0,((0,0),(0,(0,(([]:(M L)),(([]:ae),(0,0))))))))).2.2.2.2.2.2.1,(d0.1,(K a.2.2.2.2.2.1 c.1.toNat (J,(0,((0,0),(0,(0,(([]:(M L)),(([]:ae),(0,0))))))))).2.2.2.2.2.2.2.2))))))))
 N ((a.1,(a.2.1,(a.2.2.1,[(a.2.2.2.1,(s3,a.2.2.2.2.2.2.1)),(a.2.2.2.2.1,(a.2.2.2.2.2.2.2.1,a.2.2.2.2.2.2.2.2))]))),d0.2.1,d0.2.2)) (cond (j.1==7) (let e8:M ByteArray:=[(Z #[97,100,97]),(Z #[98,111,98]),(Z #[120,32,121])]
 (j02 j.2.1 j.2.2 3).bind λa0=>cond (inR a0.1 e8.length) (let l1:=K e8 a0.1.toNat J
 let t7:aj:=Á a.2.2.2.2.2.1 c.1.toNat (l1,((K a.2.2.2.2.2.1 c.1.toNat (J,(0,((0,0),(0,(0,(([]:(M L)),(([]:ae),(0,0))))))))).2.1,(((K a.2.2.2.2.2.1 c.1.toNat (J,(0,((0,0),(0,(0,(([]:(M L)),(([]:ae),(0,0))))))))).2.2.1.1,(K a.2.2.2.2.2.1 c.1.toNat (J,(0,((0,0),(0,(0,(([]:(M L)),(([]:ae),(0,0))))))))).2.2.1.2),((K a.2.2.2.2.2.1 c.1.toNat (J,(0,((0,0),(0,(0,(([]:(M L)),(([]:ae),(0,0))))))))).2.2.2.1,((K a.2.2.2.2.2.1 c.1.toNat (J,(0,((0,0),(0,(0,(([]:(M L)),(([]:ae),(0,0))))))))).2.2.2.2.1,((K a.2.2.2.2.2.1 c.1.toNat (J,(0,((0,0),(0,(0,(([]:(M L)),(([]:ae),(0,0))))))))).2.2.2.2.2.1,((K a.2.2.2.2.2.1 c.1.toNat (J,(0,((0,0),(0,(0,(([]:(M L)),(([]:ae),(0,0))))))))).2.2.2.2.2.2.1,((K a.2.2.2.2.2.1 c.1.toNat (J,(0,((0,0),(0,(0,(([]:(M L)),(([]:ae),(0,0))))))))).2.2.2.2.2.2.2.1,(K a.2.2.2.2.2.1 c.1.toNat (J,(0,((0,0),(0,(0,(([]:(M L)),(([]:ae),(0,0))))))))).2.2.2.2.2.2.2.2))))))))
 N ((a.1,(a.2.1,(a.2.2.1,[(a.2.2.2.1,(t7,a.2.2.2.2.2.2.1)),(a.2.2.2.2.1,(a.2.2.2.2.2.2.2.1,a.2.2.2.2.2.2.2.2))]))),a0.2.1,a0.2.2)) Y) (N ((a.1,(a.2.1,(a.2.2.1,[(a.2.2.2.1,(a.2.2.2.2.2.1,a.2.2.2.2.2.2.1)),(a.2.2.2.2.1,(a.2.2.2.2.2.2.2.1,a.2.2.2.2.2.2.2.2))]))),j.2.1,j.2.2)))))))))) Y)) (cond (t.1==1) (let m8:=W a.2.2.2.2.2.2.2.1.length
 cond (m8==0) (N ((a.1,(a.2.1,(a.2.2.1,[(a.2.2.2.1,(a.2.2.2.2.2.1,a.2.2.2.2.2.2.1)),(a.2.2.2.2.1,(a.2.2.2.2.2.2.2.1,a.2.2.2.2.2.2.2.2))]))),t.2.1,t.2.2)) (let k8:=W a.2.2.2.2.2.2.2.1.length
 (j02 t.2.1 t.2.2 k8).bind λf=>cond (inR f.1 a.2.2.2.2.2.2.2.1.length) ((j02 f.2.1 f.2.2 8).bind λm=>cond (m.1==0) (let k1:M Int:=[0,1,400,401]
 (j03 m.2.1 m.2.2 k1).bind λa5=>let p9:aj:=Á a.2.2.2.2.2.2.2.1 f.1.toNat ((K a.2.2.2.2.2.2.2.1 f.1.toNat (J,(0,((0,0),(0,(0,(([]:(M L)),(([]:ae),(0,0))))))))).1,((K a.2.2.2.2.2.2.2.1 f.1.toNat (J,(0,((0,0),(0,(0,(([]:(M L)),(([]:ae),(0,0))))))))).2.1,(((K a.2.2.2.2.2.2.2.1 f.1.toNat (J,(0,((0,0),(0,(0,(([]:(M L)),(([]:ae),(0,0))))))))).2.2.1.1,(K a.2.2.2.2.2.2.2.1 f.1.toNat (J,(0,((0,0),(0,(0,(([]:(M L)),(([]:ae),(0,0))))))))).2.2.1.2),((K a.2.2.2.2.2.2.2.1 f.1.toNat (J,(0,((0,0),(0,(0,(([]:(M L)),(([]:ae),(0,0))))))))).2.2.2.1,(a5.1,((K a.2.2.2.2.2.2.2.1 f.1.toNat (J,(0,((0,0),(0,(0,(([]:(M L)),(([]:ae),(0,0))))))))).2.2.2.2.2.1,((K a.2.2.2.2.2.2.2.1 f.1.toNat (J,(0,((0,0),(0,(0,(([]:(M L)),(([]:ae),(0,0))))))))).2.2.2.2.2.2.1,((K a.2.2.2.2.2.2.2.1 f.1.toNat (J,(0,((0,0),(0,(0,(([]:(M L)),(([]:ae),(0,0))))))))).2.2.2.2.2.2.2.1,(K a.2.2.2.2.2.2.2.1 f.1.toNat (J,(0,((0,0),(0,(0,(([]:(M L)),(([]:ae),(0,0))))))))).2.2.2.2.2.2.2.2))))))))
 N ((a.1,(a.2.1,(a.2.2.1,[(a.2.2.2.1,(a.2.2.2.2.2.1,a.2.2.2.2.2.2.1)),(a.2.2.2.2.1,(p9,a.2.2.2.2.2.2.2.2))]))),a5.2.1,a5.2.2)) (cond (m.1==1) (let j3:M Int:=[0,1,(-5),98979,98981]
 (j03 m.2.1 m.2.2 j3).bind λb2=>let u3:aj:=Á a.2.2.2.2.2.2.2.1 f.1.toNat ((K a.2.2.2.2.2.2.2.1 f.1.toNat (J,(0,((0,0),(0,(0,(([]:(M L)),(([]:ae),(0,0))))))))).1,((K a.2.2.2.2.2.2.2.1 f.1.toNat (J,(0,((0,0),(0,(0,(([]:(M L)),(([]:ae),(0,0))))))))).2.1,((b2.1,(K a.2.2.2.2.2.2.2.1 f.1.toNat (J,(0,((0,0),(0,(0,(([]:(M L)),(([]:ae),(0,0))))))))).2.2.1.2),((K a.2.2.2.2.2.2.2.1 f.1.toNat (J,(0,((0,0),(0,(0,(([]:(M L)),(([]:ae),(0,0))))))))).2.2.2.1,((K a.2.2.2.2.2.2.2.1 f.1.toNat (J,(0,((0,0),(0,(0,(([]:(M L)),(([]:ae),(0,0))))))))).2.2.2.2.1,((K a.2.2.2.2.2.2.2.1 f.1.toNat (J,(0,((0,0),(0,(0,(([]:(M L)),(([]:ae),(0,0))))))))).2.2.2.2.2.1,((K a.2.2.2.2.2.2.2.1 f.1.toNat (J,(0,((0,0),(0,(0,(([]:(M L)),(([]:ae),(0,0))))))))).2.2.2.2.2.2.1,((K a.2.2.2.2.2.2.2.1 f.1.toNat (J,(0,((0,0),(0,(0,(([]:(M L)),(([]:ae),(0,0))))))))).2.2.2.2.2.2.2.1,(K a.2.2.2.2.2.2.2.1 f.1.toNat (J,(0,((0,0),(0,(0,(([]:(M L)),(([]:ae),(0,0))))))))).2.2.2.2.2.2.2.2))))))))
 N ((a.1,(a.2.1,(a.2.2.1,[(a.2.2.2.1,(a.2.2.2.2.2.1,a.2.2.2.2.2.2.1)),(a.2.2.2.2.1,(u3,a.2.2.2.2.2.2.2.2))]))),b2.2.1,b2.2.2)) (cond (m.1==2) (let x4:aj:=Á a.2.2.2.2.2.2.2.1 f.1.toNat ((K a.2.2.2.2.2.2.2.1 f.1.toNat (J,(0,((0,0),(0,(0,(([]:(M L)),(([]:ae),(0,0))))))))).1,((K a.2.2.2.2.2.2.2.1 f.1.toNat (J,(0,((0,0),(0,(0,(([]:(M L)),(([]:ae),(0,0))))))))).2.1,(((K a.2.2.2.2.2.2.2.1 f.1.toNat (J,(0,((0,0),(0,(0,(([]:(M L)),(([]:ae),(0,0))))))))).2.2.1.1,(K a.2.2.2.2.2.2.2.1 f.1.toNat (J,(0,((0,0),(0,(0,(([]:(M L)),(([]:ae),(0,0))))))))).2.2.1.2),((K a.2.2.2.2.2.2.2.1 f.1.toNat (J,(0,((0,0),(0,(0,(([]:(M L)),(([]:ae),(0,0))))))))).2.2.2.1,((K a.2.2.2.2.2.2.2.1 f.1.toNat (J,(0,((0,0),(0,(0,(([]:(M L)),(([]:ae),(0,0))))))))).2.2.2.2.1,(([]:(M L)),((K a.2.2.2.2.2.2.2.1 f.1.toNat (J,(0,((0,0),(0,(0,(([]:(M L)),(([]:ae),(0,0))))))))).2.2.2.2.2.2.1,((K a.2.2.2.2.2.2.2.1 f.1.toNat (J,(0,((0,0),(0,(0,(([]:(M L)),(([]:ae),(0,0))))))))).2.2.2.2.2.2.2.1,(K a.2.2.2.2.2.2.2.1 f.1.toNat (J,(0,((0,0),(0,(0,(([]:(M L)),(([]:ae),(0,0))))))))).2.2.2.2.2.2.2.2))))))))
 N ((a.1,(a.2.1,(a.2.2.1,[(a.2.2.2.1,(a.2.2.2.2.2.1,a.2.2.2.2.2.2.1)),(a.2.2.2.2.1,(x4,a.2.2.2.2.2.2.2.2))]))),m.2.1,m.2.2)) (cond (m.1==3) (let m9:=W a.2.1.length
 let m5:M Int:=[0,(-1),m9]
 (j03 m.2.1 m.2.2 m5).bind λc6=>let q8:aj:=Á a.2.2.2.2.2.2.2.1 f.1.toNat ((K a.2.2.2.2.2.2.2.1 f.1.toNat (J,(0,((0,0),(0,(0,(([]:(M L)),(([]:ae),(0,0))))))))).1,((K a.2.2.2.2.2.2.2.1 f.1.toNat (J,(0,((0,0),(0,(0,(([]:(M L)),(([]:ae),(0,0))))))))).2.1,(((K a.2.2.2.2.2.2.2.1 f.1.toNat (J,(0,((0,0),(0,(0,(([]:(M L)),(([]:ae),(0,0))))))))).2.2.1.1,(K a.2.2.2.2.2.2.2.1 f.1.toNat (J,(0,((0,0),(0,(0,(([]:(M L)),(([]:ae),(0,0))))))))).2.2.1.2),((K a.2.2.2.2.2.2.2.1 f.1.toNat (J,(0,((0,0),(0,(0,(([]:(M L)),(([]:ae),(0,0))))))))).2.2.2.1,((K a.2.2.2.2.2.2.2.1 f.1.toNat (J,(0,((0,0),(0,(0,(([]:(M L)),(([]:ae),(0,0))))))))).2.2.2.2.1,([c6.1],((K a.2.2.2.2.2.2.2.1 f.1.toNat (J,(0,((0,0),(0,(0,(([]:(M L)),(([]:ae),(0,0))))))))).2.2.2.2.2.2.1,((K a.2.2.2.2.2.2.2.1 f.1.toNat (J,(0,((0,0),(0,(0,(([]:(M L)),(([]:ae),(0,0))))))))).2.2.2.2.2.2.2.1,(K a.2.2.2.2.2.2.2.1 f.1.toNat (J,(0,((0,0),(0,(0,(([]:(M L)),(([]:ae),(0,0))))))))).2.2.2.2.2.2.2.2))))))))
 N ((a.1,(a.2.1,(a.2.2.1,[(a.2.2.2.1,(a.2.2.2.2.2.1,a.2.2.2.2.2.2.1)),(a.2.2.2.2.1,(q8,a.2.2.2.2.2.2.2.2))]))),c6.2.1,c6.2.2)) (cond (m.1==4) (let n8:M Int:=[(-1),3]
 (j03 m.2.1 m.2.2 n8).bind λa7=>let r6:aj:=Á a.2.2.2.2.2.2.2.1 f.1.toNat ((K a.2.2.2.2.2.2.2.1 f.1.toNat (J,(0,((0,0),(0,(0,(([]:(M L)),(([]:ae),(0,0))))))))).1,((K a.2.2.2.2.2.2.2.1 f.1.toNat (J,(0,((0,0),(0,(0,(([]:(M L)),(([]:ae),(0,0))))))))).2.1,(((K a.2.2.2.2.2.2.2.1 f.1.toNat (J,(0,((0,0),(0,(0,(([]:(M L)),(([]:ae),(0,0))))))))).2.2.1.1,(K a.2.2.2.2.2.2.2.1 f.1.toNat (J,(0,((0,0),(0,(0,(([]:(M L)),(([]:ae),(0,0))))))))).2.2.1.2),(a7.1,((K a.2.2.2.2.2.2.2.1 f.1.toNat (J,(0,((0,0),(0,(0,(([]:(M L)),(([]:ae),(0,0))))))))).2.2.2.2.1,((K a.2.2.2.2.2.2.2.1 f.1.toNat (J,(0,((0,0),(0,(0,(([]:(M L)),(([]:ae),(0,0))))))))).2.2.2.2.2.1,((K a.2.2.2.2.2.2.2.1 f.1.toNat (J,(0,((0,0),(0,(0,(([]:(M L)),(([]:ae),(0,0))))))))).2.2.2.2.2.2.1,((K a.2.2.2.2.2.2.2.1 f.1.toNat (J,(0,((0,0),(0,(0,(([]:(M L)),(([]:ae),(0,0))))))))).2.2.2.2.2.2.2.1,(K a.2.2.2.2.2.2.2.1 f.1.toNat (J,(0,((0,0),(0,(0,(([]:(M L)),(([]:ae),(0,0))))))))).2.2.2.2.2.2.2.2))))))))
 N ((a.1,(a.2.1,(a.2.2.1,[(a.2.2.2.1,(a.2.2.2.2.2.1,a.2.2.2.2.2.2.1)),(a.2.2.2.2.1,(r6,a.2.2.2.2.2.2.2.2))]))),a7.2.1,a7.2.2)) (cond (m.1==5) (let m4:M Int:=[0,1,2,3]
 (j03 m.2.1 m.2.2 m4).bind λb1=>let p7:aj:=Á a.2.2.2.2.2.2.2.1 f.1.toNat ((K a.2.2.2.2.2.2.2.1 f.1.toNat (J,(0,((0,0),(0,(0,(([]:(M L)),(([]:ae),(0,0))))))))).1,((K a.2.2.2.2.2.2.2.1 f.1.toNat (J,(0,((0,0),(0,(0,(([]:(M L)),(([]:ae),(0,0))))))))).2.1,(((K a.2.2.2.2.2.2.2.1 f.1.toNat (J,(0,((0,0),(0,(0,(([]:(M L)),(([]:ae),(0,0))))))))).2.2.1.1,(K a.2.2.2.2.2.2.2.1 f.1.toNat (J,(0,((0,0),(0,(0,(([]:(M L)),(([]:ae),(0,0))))))))).2.2.1.2),((K a.2.2.2.2.2.2.2.1 f.1.toNat (J,(0,((0,0),(0,(0,(([]:(M L)),(([]:ae),(0,0))))))))).2.2.2.1,((K a.2.2.2.2.2.2.2.1 f.1.toNat (J,(0,((0,0),(0,(0,(([]:(M L)),(([]:ae),(0,0))))))))).2.2.2.2.1,((K a.2.2.2.2.2.2.2.1 f.1.toNat (J,(0,((0,0),(0,(0,(([]:(M L)),(([]:ae),(0,0))))))))).2.2.2.2.2.1,((K a.2.2.2.2.2.2.2.1 f.1.toNat (J,(0,((0,0),(0,(0,(([]:(M L)),(([]:ae),(0,0))))))))).2.2.2.2.2.2.1,((K a.2.2.2.2.2.2.2.1 f.1.toNat (J,(0,((0,0),(0,(0,(([]:(M L)),(([]:ae),(0,0))))))))).2.2.2.2.2.2.2.1,b1.1))))))))
 N ((a.1,(a.2.1,(a.2.2.1,[(a.2.2.2.1,(a.2.2.2.2.2.1,a.2.2.2.2.2.2.1)),(a.2.2.2.2.1,(p7,a.2.2.2.2.2.2.2.2))]))),b1.2.1,b1.2.2)) (cond (m.1==6) (let l8:M Int:=[0,1,(-1)]
 (j03 m.2.1 m.2.2 l8).bind λb8=>let r8:aj:=Á a.2.2.2.2.2.2.2.1 f.1.toNat ((K a.2.2.2.2.2.2.2.1 f.1.toNat (J,(0,((0,0),(0,(0,(([]:(M L)),(([]:ae),(0,0))))))))).1,((K a.2.2.2.2.2.2.2.1 f.1.toNat (J,(0,((0,0),(0,(0,(([]:(M L)),(([]:ae),(0,0))))))))).2.1,(((K a.2.2.2.2.2.2.2.1 f.1.toNat (J,(0,((0,0),(0,(0,(([]:(M L)),(([]:ae),(0,0))))))))).2.2.1.1,(K a.2.2.2.2.2.2.2.1 f.1.toNat (J,(0,((0,0),(0,(0,(([]:(M L)),(([]:ae),(0,0))))))))).2.2.1.2),((K a.2.2.2.2.2.2.2.1 f.1.toNat (J,(0,((0,0),(0,(0,(([]:(M L)),(([]:ae),(0,0))))))))).2.2.2.1,((K a.2.2.2.2.2.2.2.1 f.1.toNat (J,(0,((0,0),(0,(0,(([]:(M L)),(([]:ae),(0,0))))))))).2.2.2.2.1,((K a.2.2.2.2.2.2.2.1 f.1.toNat (J,(0,((0,0),(0,(0,(([]:(M L)),(([]:ae),(0,0))))))))).2.2.2.2.2.1,((K a.2.2.2.2.2.2.2.1 f.1.toNat (J,(0,((0,0),(0,(0,(([]:(M L)),(([]:ae),(0,0))))))))).2.2.2.2.2.2.1,(b8.1,(K a.2.2.2.2.2.2.2.1 f.1.toNat (J,(0,((0,0),(0,(0,(([]:(M L)),(([]:ae),(0,0))))))))).2.2.2.2.2.2.2.2))))))))
 N ((a.1,(a.2.1,(a.2.2.1,[(a.2.2.2.1,(a.2.2.2.2.2.1,a.2.2.2.2.2.2.1)),(a.2.2.2.2.1,(r8,a.2.2.2.2.2.2.2.2))]))),b8.2.1,b8.2.2)) (cond (m.1==7) (let e7:M ByteArray:=[(Z #[97,100,97]),(Z #[98,111,98]),(Z #[120,32,121])]
 (j02 m.2.1 m.2.2 3).bind λa4=>cond (inR a4.1 e7.length) (let j9:=K e7 a4.1.toNat J
 let u4:aj:=Á a.2.2.2.2.2.2.2.1 f.1.toNat (j9,((K a.2.2.2.2.2.2.2.1 f.1.toNat (J,(0,((0,0),(0,(0,(([]:(M L)),(([]:ae),(0,0))))))))).2.1,(((K a.2.2.2.2.2.2.2.1 f.1.toNat (J,(0,((0,0),(0,(0,(([]:(M L)),(([]:ae),(0,0))))))))).2.2.1.1,(K a.2.2.2.2.2.2.2.1 f.1.toNat (J,(0,((0,0),(0,(0,(([]:(M L)),(([]:ae),(0,0))))))))).2.2.1.2),((K a.2.2.2.2.2.2.2.1 f.1.toNat (J,(0,((0,0),(0,(0,(([]:(M L)),(([]:ae),(0,0))))))))).2.2.2.1,((K a.2.2.2.2.2.2.2.1 f.1.toNat (J,(0,((0,0),(0,(0,(([]:(M L)),(([]:ae),(0,0))))))))).2.2.2.2.1,((K a.2.2.2.2.2.2.2.1 f.1.toNat (J,(0,((0,0),(0,(0,(([]:(M L)),(([]:ae),(0,0))))))))).2.2.2.2.2.1,((K a.2.2.2.2.2.2.2.1 f.1.toNat (J,(0,((0,0),(0,(0,(([]:(M L)),(([]:ae),(0,0))))))))).2.2.2.2.2.2.1,((K a.2.2.2.2.2.2.2.1 f.1.toNat (J,(0,((0,0),(0,(0,(([]:(M L)),(([]:ae),(0,0))))))))).2.2.2.2.2.2.2.1,(K a.2.2.2.2.2.2.2.1 f.1.toNat (J,(0,((0,0),(0,(0,(([]:(M L)),(([]:ae),(0,0))))))))).2.2.2.2.2.2.2.2))))))))
 N ((a.1,(a.2.1,(a.2.2.1,[(a.2.2.2.1,(a.2.2.2.2.2.1,a.2.2.2.2.2.2.1)),(a.2.2.2.2.1,(u4,a.2.2.2.2.2.2.2.2))]))),a4.2.1,a4.2.2)) Y) (N ((a.1,(a.2.1,(a.2.2.1,[(a.2.2.2.1,(a.2.2.2.2.2.1,a.2.2.2.2.2.2.1)),(a.2.2.2.2.1,(a.2.2.2.2.2.2.2.1,a.2.2.2.2.2.2.2.2))]))),m.2.1,m.2.2)))))))))) Y)) Y)) ((j02 p.2.1 p.2.2 2).bind λd5=>cond (d5.1==0) ((j3x d5.2.1 d5.2.2 ((Ã a.1.length ()),((Ã a.2.1.length ()),((Ã a.2.2.1.length ()),(Ã 2 ()))))).bind λn=>(j02 n.2.1 n.2.2 5).bind λq=>cond (q.1==0) (let g9:aq:=[(n.1.1,(n.1.2.1,(n.1.2.2.1,(n.1.2.2.2.1,n.1.2.2.2.1))))]
 cond (O (X a.2.2.2.2.2.2.1+X g9<=aR)) (let s0:aq:=a.2.2.2.2.2.2.1++g9
 N ((a.1,(a.2.1,(a.2.2.1,[(a.2.2.2.1,(a.2.2.2.2.2.1,s0)),(a.2.2.2.2.1,(a.2.2.2.2.2.2.2.1,a.2.2.2.2.2.2.2.2))]))),q.2.1,q.2.2)) Y) (cond (q.1==1) (let q2:=W a.2.1.length
 let p5:M Int:=[(-1),(-2),q2]
 (j03 q.2.1 q.2.2 p5).bind λe1=>let i2:aq:=[(n.1.1,(e1.1,(n.1.2.2.1,(n.1.2.2.2.1,n.1.2.2.2.2))))]
 cond (O (X a.2.2.2.2.2.2.1+X i2<=aR)) (let r9:aq:=a.2.2.2.2.2.2.1++i2
 N ((a.1,(a.2.1,(a.2.2.1,[(a.2.2.2.1,(a.2.2.2.2.2.1,r9)),(a.2.2.2.2.1,(a.2.2.2.2.2.2.2.1,a.2.2.2.2.2.2.2.2))]))),e1.2.1,e1.2.2)) Y) (cond (q.1==2) (let q1:M Int:=[0,1,n.1.2.1]
 (j03 q.2.1 q.2.2 q1).bind λe0=>let g8:aq:=[(n.1.1,(n.1.2.1,(e0.1,(n.1.2.2.2.1,n.1.2.2.2.2))))]
 cond (O (X a.2.2.2.2.2.2.1+X g8<=aR)) (let r1:aq:=a.2.2.2.2.2.2.1++g8
 N ((a.1,(a.2.1,(a.2.2.1,[(a.2.2.2.1,(a.2.2.2.2.2.1,r1)),(a.2.2.2.2.1,(a.2.2.2.2.2.2.2.1,a.2.2.2.2.2.2.2.2))]))),e0.2.1,e0.2.2)) Y) (cond (q.1==3) (let r7:M Int:=[0,(-1)]
 (j03 q.2.1 q.2.2 r7).bind λd9=>let p3:M Int:=[8551872000,8551958399,8551958400,8589934592]
 (j03 d9.2.1 d9.2.2 p3).bind λe5=>let i3:aq:=[(n.1.1,(n.1.2.1,(n.1.2.2.1,(d9.1,e5.1))))]
 cond (O (X a.2.2.2.2.2.2.1+X i3<=aR)) (let r2:aq:=a.2.2.2.2.2.2.1++i3
 N ((a.1,(a.2.1,(a.2.2.1,[(a.2.2.2.1,(a.2.2.2.2.2.1,r2)),(a.2.2.2.2.1,(a.2.2.2.2.2.2.2.1,a.2.2.2.2.2.2.2.2))]))),e5.2.1,e5.2.2)) Y) (cond (q.1==4) (let q9:M Int:=[(-1),3]
 (j03 q.2.1 q.2.2 q9).bind λe6=>let f3:aq:=[(e6.1,(n.1.2.1,(n.1.2.2.1,(n.1.2.2.2.1,n.1.2.2.2.2))))]
 cond (O (X a.2.2.2.2.2.2.1+X f3<=aR)) (let k2:aq:=a.2.2.2.2.2.2.1++f3
 N ((a.1,(a.2.1,(a.2.2.1,[(a.2.2.2.1,(a.2.2.2.2.2.1,k2)),(a.2.2.2.2.1,(a.2.2.2.2.2.2.2.1,a.2.2.2.2.2.2.2.2))]))),e6.2.1,e6.2.2)) Y) (let f1:aq:=[(n.1.1,(n.1.2.1,(n.1.2.2.1,(n.1.2.2.2.1,n.1.2.2.2.2))))]
 cond (O (X a.2.2.2.2.2.2.1+X f1<=aR)) (let j4:aq:=a.2.2.2.2.2.2.1++f1
 N ((a.1,(a.2.1,(a.2.2.1,[(a.2.2.2.1,(a.2.2.2.2.2.1,j4)),(a.2.2.2.2.1,(a.2.2.2.2.2.2.2.1,a.2.2.2.2.2.2.2.2))]))),q.2.1,q.2.2)) Y)))))) (cond (d5.1==1) ((j3x d5.2.1 d5.2.2 ((Ã a.1.length ()),((Ã a.2.1.length ()),((Ã a.2.2.1.length ()),(Ã 2 ()))))).bind λr=>(j02 r.2.1 r.2.2 5).bind λu=>cond (u.1==0) (let s4:aq:=[(r.1.1,(r.1.2.1,(r.1.2.2.1,(r.1.2.2.2.1,r.1.2.2.2.1))))]
 cond (O (X a.2.2.2.2.2.2.2.2+X s4<=aR)) (let y8:aq:=a.2.2.2.2.2.2.2.2++s4
 N ((a.1,(a.2.1,(a.2.2.1,[(a.2.2.2.1,(a.2.2.2.2.2.1,a.2.2.2.2.2.2.1)),(a.2.2.2.2.1,(a.2.2.2.2.2.2.2.1,y8))]))),u.2.1,u.2.2)) Y) (cond (u.1==1) (let y0:=W a.2.1.length
 let y6:M Int:=[(-1),(-2),y0]
 (j03 u.2.1 u.2.2 y6).bind λk6=>let i4:aq:=[(r.1.1,(k6.1,(r.1.2.2.1,(r.1.2.2.2.1,r.1.2.2.2.2))))]
 cond (O (X a.2.2.2.2.2.2.2.2+X i4<=aR)) (let p6:aq:=a.2.2.2.2.2.2.2.2++i4
 N ((a.1,(a.2.1,(a.2.2.1,[(a.2.2.2.1,(a.2.2.2.2.2.1,a.2.2.2.2.2.2.1)),(a.2.2.2.2.1,(a.2.2.2.2.2.2.2.1,p6))]))),k6.2.1,k6.2.2)) Y) (cond (u.1==2) (let y3:M Int:=[0,1,r.1.2.1]
 (j03 u.2.1 u.2.2 y3).bind λl4=>let i1:aq:=[(r.1.1,(r.1.2.1,(l4.1,(r.1.2.2.2.1,r.1.2.2.2.2))))]
 cond (O (X a.2.2.2.2.2.2.2.2+X i1<=aR)) (let q5:aq:=a.2.2.2.2.2.2.2.2++i1
 N ((a.1,(a.2.1,(a.2.2.1,[(a.2.2.2.1,(a.2.2.2.2.2.1,a.2.2.2.2.2.2.1)),(a.2.2.2.2.1,(a.2.2.2.2.2.2.2.1,q5))]))),l4.2.1,l4.2.2)) Y) (cond (u.1==3) (let z0:M Int:=[0,(-1)]
 (j03 u.2.1 u.2.2 z0).bind λm1=>let y2:M Int:=[8551872000,8551958399,8551958400,8589934592]
 (j03 m1.2.1 m1.2.2 y2).bind λn2=>let g7:aq:=[(r.1.1,(r.1.2.1,(r.1.2.2.1,(m1.1,n2.1))))]
 cond (O (X a.2.2.2.2.2.2.2.2+X g7<=aR)) (let p1:aq:=a.2.2.2.2.2.2.2.2++g7
 N ((a.1,(a.2.1,(a.2.2.1,[(a.2.2.2.1,(a.2.2.2.2.2.1,a.2.2.2.2.2.2.1)),(a.2.2.2.2.1,(a.2.2.2.2.2.2.2.1,p1))]))),n2.2.1,n2.2.2)) Y) (cond (u.1==4) (let y7:M Int:=[(-1),3]
 (j03 u.2.1 u.2.2 y7).bind λo4=>let g6:aq:=[(o4.1,(r.1.2.1,(r.1.2.2.1,(r.1.2.2.2.1,r.1.2.2.2.2))))]
 cond (O (X a.2.2.2.2.2.2.2.2+X g6<=aR)) (let q7:aq:=a.2.2.2.2.2.2.2.2++g6
 N ((a.1,(a.2.1,(a.2.2.1,[(a.2.2.2.1,(a.2.2.2.2.2.1,a.2.2.2.2.2.2.1)),(a.2.2.2.2.1,(a.2.2.2.2.2.2.2.1,q7))]))),o4.2.1,o4.2.2)) Y) (let i0:aq:=[(r.1.1,(r.1.2.1,(r.1.2.2.1,(r.1.2.2.2.1,r.1.2.2.2.2))))]
 cond (O (X a.2.2.2.2.2.2.2.2+X i0<=aR)) (let r0:aq:=a.2.2.2.2.2.2.2.2++i0
 N ((a.1,(a.2.1,(a.2.2.1,[(a.2.2.2.1,(a.2.2.2.2.2.1,a.2.2.2.2.2.2.1)),(a.2.2.2.2.1,(a.2.2.2.2.2.2.2.1,r0))]))),u.2.1,u.2.2)) Y)))))) Y)))))))))))
def j1T[LP](v w g:L)(t:bU)(r:L)(n:M L)(p:L)(q:M L)(f:L)(e:ag)(b:ah)(c:ak)(a:an)(s:M L)(m:L):S ((L×L×L×bU×L×(M L)×L×(M L)×L×ag×ah×ak×an×(M L)×L) ⊕ (Å ⊕ (L×L×bU×L×(M L)×L×ag×ah×ak×an×(M L)×L))):=cond (O (f<3)) (cond (inR f 3) (let d:=K q f.toNat 0
 (j5w (e,(b,(c,a))) g d).bind λk=>(j9L (e,(b,(c,a))) g d).bind λj=>(jbP (e,(b,(c,a))) g d).bind λl=>(jiZ (e,(b,(c,a))) g d).bind λi=>let u:Bool:=cond (cond (k.1 != j.1) Â (k.2 != j.2)) Â (l.1 != i.1)
 cond (cond u Â (l.2 != i.2)) (N (.inr (.inl À))) (let o:=w64 (f+1)
 N (.inl (v,w,g,t,r,n,p,q,o,e,b,c,a,s,m)))) Y) (N (.inr (.inr (v,w,t,r,n,p,e,b,c,a,s,m))))
def FU[LP](o p j:L)(m:bU)(k:L)(e:M L)(f:L)(i:M L)(g:L)(n:ag)(c:ah)(a:ak)(b:an)(l:M L)(d:L):S (Å ⊕ (L×L×bU×L×(M L)×L×ag×ah×ak×an×(M L)×L)):=LP.lp (u8 unc7 j1T) (o,p,j,m,k,e,f,i,g,n,c,a,b,l,d)
theorem SM(o p j m k e f i g n c a b l d):FU o p j m k e f i g n c a b l d=lpK (j1T o p j m k e f i g n c a b l d) (λh=>FU h.1 h.2.1 h.2.2.1 h.2.2.2.1 h.2.2.2.2.1 h.2.2.2.2.2.1 h.2.2.2.2.2.2.1 h.2.2.2.2.2.2.2.1 h.2.2.2.2.2.2.2.2.1 h.2.2.2.2.2.2.2.2.2.1 h.2.2.2.2.2.2.2.2.2.2.1 h.2.2.2.2.2.2.2.2.2.2.2.1 h.2.2.2.2.2.2.2.2.2.2.2.2.1 h.2.2.2.2.2.2.2.2.2.2.2.2.2.1 h.2.2.2.2.2.2.2.2.2.2.2.2.2.2):=bJ _ _
def j1U[LP](r x:L)(u:bU)(s:L)(m:M L)(e:L)(o:ag)(f:ah)(g:ak)(d:an)(t:M L)(k:L):S ((L×L×bU×L×(M L)×L×ag×ah×ak×an×(M L)×L) ⊕ (Å ⊕ (L×L×bU×L×(M L)×L))):=cond (O (e<2)) (cond (inR e 2) (let c:=K m e.toNat 0
 (j3v (o,(f,(g,d))) c).bind λi=>(j5Z (o,(f,(g,d))) c).bind λj=>cond (cond (i.1 != j.1) Â (i.2 != j.2)) (N (.inr (.inl À))) ((j3B t k).bind λb=>(jg1 r 77760000).bind λq=>let n:=w64 (1767225600+q)
 let p:M Int:=[r,b.1,n]
 (FU r x c u s m e p 0 o f g d b.2.1 b.2.2).bind λv=>sumC v (λw=>N (.inr (.inl w))) (λa=>let l:=w64 (a.2.2.2.2.2.1+1)
 N (.inl (a.1,a.2.1,a.2.2.1,a.2.2.2.1,a.2.2.2.2.1,l,a.2.2.2.2.2.2.1,a.2.2.2.2.2.2.2.1,a.2.2.2.2.2.2.2.2.1,a.2.2.2.2.2.2.2.2.2.1,a.2.2.2.2.2.2.2.2.2.2.1,a.2.2.2.2.2.2.2.2.2.2.2))))) Y) (N (.inr (.inr (r,x,u,s,t,k))))
def FV[LP](l m:L)(i:bU)(g:L)(e:M L)(f:L)(j:ag)(c:ah)(a:ak)(b:an)(k:M L)(d:L):S (Å ⊕ (L×L×bU×L×(M L)×L)):=LP.lp (u8 unc4 j1U) (l,m,i,g,e,f,j,c,a,b,k,d)
theorem SN(l m i g e f j c a b k d):FV l m i g e f j c a b k d=lpK (j1U l m i g e f j c a b k d) (λh=>FV h.1 h.2.1 h.2.2.1 h.2.2.2.1 h.2.2.2.2.1 h.2.2.2.2.2.1 h.2.2.2.2.2.2.1 h.2.2.2.2.2.2.2.1 h.2.2.2.2.2.2.2.2.1 h.2.2.2.2.2.2.2.2.2.1 h.2.2.2.2.2.2.2.2.2.2.1 h.2.2.2.2.2.2.2.2.2.2.2):=bJ _ _
def j1V[LP](n k:L)(i:bU)(d:L)(m:M L)(g:L):S ((L×L×bU×L×(M L)×L) ⊕ (Å ⊕ Ç)):=cond (O (d<3)) (cond (inR d 3) (let a:=K i d.toNat (([]:ag),(([]:ah),(([]:ak),([]:an))))
 (j02 m g 3).bind λb=>let e:M Int:=[b.1,k]
 (FV n k i d e 0 a.1 a.2.1 a.2.2.1 a.2.2.2 b.2.1 b.2.2).bind λj=>sumC j (λl=>N (.inr (.inl l))) (λc=>let f:=w64 (c.2.2.2.1+1)
 N (.inl (c.1,c.2.1,c.2.2.1,f,c.2.2.2.2.1,c.2.2.2.2.2)))) Y) (N (.inr (.inr ())))
def CC[LP](e f:L)(c:bU)(b:L)(d:M L)(a:L):S (Å ⊕ Ç):=LP.lp (unc6 j1V) (e,f,c,b,d,a)
theorem SO(e f c b d a):CC e f c b d a=lpK (j1V e f c b d a) (λh=>CC h.1 h.2.1 h.2.2.1 h.2.2.2.1 h.2.2.2.2.1 h.2.2.2.2.2):=bJ _ _
def j60[LP](k:M L)(a:dv)(m g:L):S Bool:=(j8b k).bind λw=>cond (!w) ((j7c).bind λz=>N z) ((jbQ k).bind λq=>(j3a q.1 q.2 2).bind λc=>(j2y (a.1,(a.2.1,((a.2.2.1.1,a.2.2.1.2),(a.2.2.2.1,(a.2.2.2.2.1,(a.2.2.2.2.2.1,(a.2.2.2.2.2.2.1,(a.2.2.2.2.2.2.2.1,a.2.2.2.2.2.2.2.2))))))))).bind λs=>(j5y (a.1,(a.2.1,((a.2.2.1.1,a.2.2.1.2),(a.2.2.2.1,(a.2.2.2.2.1,(a.2.2.2.2.2.1,(a.2.2.2.2.2.2.1,(a.2.2.2.2.2.2.2.1,a.2.2.2.2.2.2.2.2))))))))).bind λr=>cond (cond (s.1 != r.1) Â (s.2 != r.2)) (N À) ((j8f (c.1.1,(c.1.2.1,(c.1.2.2.1,c.1.2.2.2)))).bind λb=>let v:=W b.2.2.2.2.2.1.length
 cond (O (v>1)) (cond (inR 0 b.2.2.2.2.2.1.length) (let d:aj:=Á b.2.2.2.2.2.1 0 ((K b.2.2.2.2.2.1 0 (J,(0,((0,0),(0,(0,(([]:(M L)),(([]:ae),(0,0))))))))).1,((K b.2.2.2.2.2.1 0 (J,(0,((0,0),(0,(0,(([]:(M L)),(([]:ae),(0,0))))))))).2.1,(((K b.2.2.2.2.2.1 0 (J,(0,((0,0),(0,(0,(([]:(M L)),(([]:ae),(0,0))))))))).2.2.1.1,(K b.2.2.2.2.2.1 0 (J,(0,((0,0),(0,(0,(([]:(M L)),(([]:ae),(0,0))))))))).2.2.1.2),((K b.2.2.2.2.2.1 0 (J,(0,((0,0),(0,(0,(([]:(M L)),(([]:ae),(0,0))))))))).2.2.2.1,(397,((K b.2.2.2.2.2.1 0 (J,(0,((0,0),(0,(0,(([]:(M L)),(([]:ae),(0,0))))))))).2.2.2.2.2.1,((K b.2.2.2.2.2.1 0 (J,(0,((0,0),(0,(0,(([]:(M L)),(([]:ae),(0,0))))))))).2.2.2.2.2.2.1,((K b.2.2.2.2.2.1 0 (J,(0,((0,0),(0,(0,(([]:(M L)),(([]:ae),(0,0))))))))).2.2.2.2.2.2.2.1,(K b.2.2.2.2.2.1 0 (J,(0,((0,0),(0,(0,(([]:(M L)),(([]:ae),(0,0))))))))).2.2.2.2.2.2.2.2))))))))
 cond (inR 0 d.length) (let e:aj:=Á d 0 ((K d 0 (J,(0,((0,0),(0,(0,(([]:(M L)),(([]:ae),(0,0))))))))).1,((K d 0 (J,(0,((0,0),(0,(0,(([]:(M L)),(([]:ae),(0,0))))))))).2.1,(((K d 0 (J,(0,((0,0),(0,(0,(([]:(M L)),(([]:ae),(0,0))))))))).2.2.1.1,(K d 0 (J,(0,((0,0),(0,(0,(([]:(M L)),(([]:ae),(0,0))))))))).2.2.1.2),(2,((K d 0 (J,(0,((0,0),(0,(0,(([]:(M L)),(([]:ae),(0,0))))))))).2.2.2.2.1,((K d 0 (J,(0,((0,0),(0,(0,(([]:(M L)),(([]:ae),(0,0))))))))).2.2.2.2.2.1,((K d 0 (J,(0,((0,0),(0,(0,(([]:(M L)),(([]:ae),(0,0))))))))).2.2.2.2.2.2.1,((K d 0 (J,(0,((0,0),(0,(0,(([]:(M L)),(([]:ae),(0,0))))))))).2.2.2.2.2.2.2.1,(K d 0 (J,(0,((0,0),(0,(0,(([]:(M L)),(([]:ae),(0,0))))))))).2.2.2.2.2.2.2.2))))))))
 let y:M Int:=[399,400,5]
 (j03 c.2.1 c.2.2 y).bind λj=>cond (inR 1 e.length) (let p:aj:=Á e 1 ((K e 1 (J,(0,((0,0),(0,(0,(([]:(M L)),(([]:ae),(0,0))))))))).1,((K e 1 (J,(0,((0,0),(0,(0,(([]:(M L)),(([]:ae),(0,0))))))))).2.1,(((K e 1 (J,(0,((0,0),(0,(0,(([]:(M L)),(([]:ae),(0,0))))))))).2.2.1.1,(K e 1 (J,(0,((0,0),(0,(0,(([]:(M L)),(([]:ae),(0,0))))))))).2.2.1.2),((K e 1 (J,(0,((0,0),(0,(0,(([]:(M L)),(([]:ae),(0,0))))))))).2.2.2.1,(j.1,((K e 1 (J,(0,((0,0),(0,(0,(([]:(M L)),(([]:ae),(0,0))))))))).2.2.2.2.2.1,((K e 1 (J,(0,((0,0),(0,(0,(([]:(M L)),(([]:ae),(0,0))))))))).2.2.2.2.2.2.1,((K e 1 (J,(0,((0,0),(0,(0,(([]:(M L)),(([]:ae),(0,0))))))))).2.2.2.2.2.2.2.1,(K e 1 (J,(0,((0,0),(0,(0,(([]:(M L)),(([]:ae),(0,0))))))))).2.2.2.2.2.2.2.2))))))))
 (j6v j.2.1 j.2.2 (c.1.1,(c.1.2.1,(c.1.2.2.1,c.1.2.2.2)))).bind λi=>let a3:an:=[(b.2.2.2.1,(p,b.2.2.2.2.2.2.1)),(b.2.2.2.2.1,(b.2.2.2.2.2.2.2.1,b.2.2.2.2.2.2.2.2))]
 let n:bU:=[(c.1.1,(c.1.2.1,(c.1.2.2.1,c.1.2.2.2))),(i.1.1,(i.1.2.1,(i.1.2.2.1,i.1.2.2.2))),(b.1,(b.2.1,(b.2.2.1,[(b.2.2.2.1,(p,b.2.2.2.2.2.2.1)),(b.2.2.2.2.1,(b.2.2.2.2.2.2.2.1,b.2.2.2.2.2.2.2.2))])))]
 (CC m g n 0 i.2.1 i.2.2).bind λa1=>sumC a1 (λa4=>N a4) (λa5=>(j7c).bind λu=>N u)) Y) Y) Y) ((j6v c.2.1 c.2.2 (c.1.1,(c.1.2.1,(c.1.2.2.1,c.1.2.2.2)))).bind λf=>let a0:an:=[(b.2.2.2.1,(b.2.2.2.2.2.1,b.2.2.2.2.2.2.1)),(b.2.2.2.2.1,(b.2.2.2.2.2.2.2.1,b.2.2.2.2.2.2.2.2))]
 let o:bU:=[(c.1.1,(c.1.2.1,(c.1.2.2.1,c.1.2.2.2))),(f.1.1,(f.1.2.1,(f.1.2.2.1,f.1.2.2.2))),(b.1,(b.2.1,(b.2.2.1,[(b.2.2.2.1,(b.2.2.2.2.2.1,b.2.2.2.2.2.2.1)),(b.2.2.2.2.1,(b.2.2.2.2.2.2.2.1,b.2.2.2.2.2.2.2.2))])))]
 (CC m g o 0 f.2.1 f.2.2).bind λt=>sumC t (λx=>N x) (λa2=>(j7c).bind λl=>N l))))
def j5c[LP](c:M L)(b:dv)(d a:L):S Bool:=
 wz (j27 c b d a) (j60 c b d a)
end
end Go.Proofs.Pw
