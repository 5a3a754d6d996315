/- Plain pP, printed by a program out of the given code. -/
import Derived.Test.YtmccfdihkphfaaaGreatRELS
open _root_ renaming Int->J,Option->M,ByteArray->O,List->W,Bool->Ã,Unit->Æ
open Option renaming some->K,none->X
open Decidable renaming decide->L
open List renaming getD->N,length->U,replicate->Å,set->É,take->Ê,drop->Ë
open Int renaming ofNat->S,tmod->Â,tdiv->Ç,toNat->Í,fdiv->Î
open ByteArray renaming empty->Y,mk->À,size->Ä,toList->È
open Bool renaming false->Z,true->Á
open Go Go.Lft
set_option linter.unusedVariables false
namespace Go.Proofs.Pw
noncomputable section
abbrev ah:Type:=(W (J×J))
abbrev ou:Type:=(J×(W J))
abbrev sv:Type:=(J×(J×J))
abbrev ak:Type:=(W sv)
abbrev gi:Type:=(J×ah)
abbrev sw:Type:=(O×ou)
abbrev ct:Type:=(W gi)
abbrev nf:Type:=(J×(J×sv))
abbrev al:Type:=(W sw)
abbrev aJ:Type:=(W nf)
abbrev u9:Type:=(J×(J×nf))
abbrev ba:Type:=(W u9)
abbrev vA:Type:=(O×(J×(ah×(J×(J×Ã)))))
abbrev aj:Type:=(W vA)
abbrev dW:Type:=(O×(J×ba))
abbrev ai:Type:=(W dW)
abbrev eB:Type:=(O×(J×((J×J)×(J×(J×((W J)×(ah×(J×J))))))))
abbrev aK:Type:=(W eB)
abbrev iQ:Type:=(O×(aK×aJ))
abbrev ao:Type:=(W iQ)
abbrev bB:Type:=(ai×(aj×(al×ao)))
abbrev bW:Type:=(W bB)
abbrev iR:Type:=(bB×ct)
abbrev u8{A B C D E F G H T I R:Type}(u:T->I->R)(f:A->B->C->D->E->F->G->H->T)(h:A×B×C×D×E×F×G×H×I):R:=u (f h.1 h.2.1 h.2.2.1 h.2.2.2.1 h.2.2.2.2.1 h.2.2.2.2.2.1 h.2.2.2.2.2.2.1 h.2.2.2.2.2.2.2.1) h.2.2.2.2.2.2.2.2
abbrev unc2{A0 A1 R:Type}(f:A0->A1->R)(h:A0×A1):R:=f h.1 h.2
abbrev unc3{A0 A1 A2 R:Type}(f:A0->A1->A2->R)(h:A0×A1×A2):R:=f h.1 h.2.1 h.2.2
abbrev unc4{A0 A1 A2 A3 R:Type}(f:A0->A1->A2->A3->R)(h:A0×A1×A2×A3):R:=f h.1 h.2.1 h.2.2.1 h.2.2.2
abbrev unc5{A0 A1 A2 A3 A4 R:Type}(f:A0->A1->A2->A3->A4->R)(h:A0×A1×A2×A3×A4):R:=f h.1 h.2.1 h.2.2.1 h.2.2.2.1 h.2.2.2.2
abbrev unc6{A0 A1 A2 A3 A4 A5 R:Type}(f:A0->A1->A2->A3->A4->A5->R)(h:A0×A1×A2×A3×A4×A5):R:=f h.1 h.2.1 h.2.2.1 h.2.2.2.1 h.2.2.2.2.1 h.2.2.2.2.2
abbrev unc7{A0 A1 A2 A3 A4 A5 A6 R:Type}(f:A0->A1->A2->A3->A4->A5->A6->R)(h:A0×A1×A2×A3×A4×A5×A6):R:=f h.1 h.2.1 h.2.2.1 h.2.2.2.1 h.2.2.2.2.1 h.2.2.2.2.2.1 h.2.2.2.2.2.2
abbrev unc8{A0 A1 A2 A3 A4 A5 A6 A7 R:Type}(f:A0->A1->A2->A3->A4->A5->A6->A7->R)(h:A0×A1×A2×A3×A4×A5×A6×A7):R:=f h.1 h.2.1 h.2.2.1 h.2.2.2.1 h.2.2.2.2.1 h.2.2.2.2.2.1 h.2.2.2.2.2.2.1 h.2.2.2.2.2.2.2
abbrev unc9{A0 A1 A2 A3 A4 A5 A6 A7 A8 R:Type}(f:A0->A1->A2->A3->A4->A5->A6->A7->A8->R)(h:A0×A1×A2×A3×A4×A5×A6×A7×A8):R:=f h.1 h.2.1 h.2.2.1 h.2.2.2.1 h.2.2.2.2.1 h.2.2.2.2.2.1 h.2.2.2.2.2.2.1 h.2.2.2.2.2.2.2.1 h.2.2.2.2.2.2.2.2
def jll(a:W J):M Bool:=
 let b:=S a.length
 K (L (b<=500))
def jnP  : M (ai×aj×al×ao):=
 let g:ai:=[((À #[122]),(0,([]:ba)))]
 let f:aj:=[((À #[97]),(0,(([]:ah),(0,(0,Z))))),((À #[98]),(0,(([]:ah),(0,(0,Z))))),((À #[99]),(0,(([]:ah),(0,(0,Z)))))]
 let d:W Int:=[0,1]
 let e:W Int:=[2]
 let a:ah:=[(0,86400)]
 let c:aK:=[((À #[108,111,119]),(0,((4,0),(2,(1,(d,(([]:ah),(0,0)))))))),((À #[116,111,112]),(0,((4,0),(2,(1,(e,(a,(0,0))))))))]
 let b:ao:=[((À #[115]),(c,([]:aJ)))]
 K (g,f,([]:al),b)
def jfL  : M bB:=(jnP).bind λa=>let b:aJ:=[(2,(0,(1,(432000,518400)))),(1,(2,(0,(432000,475200))))]
 cond (inR 0 a.2.2.2.length) (let c:ao:=É a.2.2.2 0 ((N a.2.2.2 0 (Y,(([]:aK),([]:aJ)))).1,((N a.2.2.2 0 (Y,(([]:aK),([]:aJ)))).2.1,b))
 K (a.1,(a.2.1,(a.2.2.1,c)))) X
def j8I(a:dW):M ByteArray:=K a.1
def jcN(a:J):M Bool:=K (cond (L (a>=97)) (L (a<=122)) Z)
def jj5(a:J):M Bool:=K (cond (L (a>=48)) (L (a<=57)) Z)
def j51(g:O)(c b:J):M ((O×J×J) ⊕ (Ã ⊕ Æ)):=cond (L (b<c)) (cond (inR b (Ä g)) (let a:=dY g b
 (jcN a).bind λd=>cond (!d) ((jj5 a).bind λe=>cond (cond (cond (!e) (a != 95) Z) (a != 45) Z) (K (.inr (.inl Z))) (let f:=w64 (b+1)
 K (.inl (g,c,f)))) (let i:=w64 (b+1)
 K (.inl (g,c,i)))) X) (K (.inr (.inr ())))
def Is[LP](c:O)(b a:J):M (Ã ⊕ Æ):=LP.lp (unc3 j51) (c,b,a)
theorem Xt(c b a):Is c b a=lpK (j51 c b a) (λh=>Is h.1 h.2.1 h.2.2):=bj _ _
def jf7[LP](a:O):M Bool:=
 let g:=S (Ä a)
 let b:Bool:=cond (È a==È Y) Á (L (g>24))
 cond ((inR 0 (Ä a)) || !(!b)) (let c:=dY a 0
 cond b (K Z) ((jcN c).bind λe=>cond (!e) (K Z) (let d:=S (Ä a)
 (Is a d 0).bind λf=>sumC f (λi=>K i) (λj=>K Á)))) X
def j4r[LP](b:O)(a:W (O×Ã)):M (J×(W (O×Ã))):=(jf7 b).bind λc=>cond (!c) (K (2,a)) (cond (hQ Z a b) (K (4,a)) (let d:(W (O×Ã)):=iI a b Á
 K (0,d)))
def j87(a b c:J):M Bool:=K (cond (L (a>=b)) (L (a<=c)) Z)
def jbj(a:u9):M Int:=(j87 a.1 1970 2240).bind λi=>cond (!i) (K 1) ((j87 a.2.1 a.1 2240).bind λe=>cond (!e) (K 1) ((j87 a.2.2.1 1 12).bind λb=>cond (!b) (K 1) ((j87 a.2.2.2.1 1 5).bind λd=>cond (!d) (K 1) ((j87 a.2.2.2.2.1 0 6).bind λg=>cond (!g) (K 1) ((j87 a.2.2.2.2.2.1 0 86399).bind λc=>cond (!c) (K 1) ((j87 a.2.2.2.2.2.2 (-64800) 64800).bind λf=>cond (!f) (K 1) (K 0)))))))
def jlm(a:J):M Bool:=
 let d:=Â a 4
 let c:=Â a 100
 let b:=Â a 400
 K (cond (d==0) (cond (c != 0) Á (b==0)) Z)
def j7N(c a:J):M Int:=cond (cond (L (a<1)) Á (L (a>12))) (K 0) (let f:W Int:=[31,28,31,30,31,30,31,31,30,31,30,31]
 let j:W Int:=Å 12 0
 cond (a==2) ((jlm c).bind λg=>cond g (K 29) (let e:=w64 (a-1)
 cond (inR e 12) (let i:=N f e.toNat 0
 K i) X)) (let b:=w64 (a-1)
 cond (inR b 12) (let d:=N f b.toNat 0
 K d) X))
def jcO(a:sv):M Bool:=cond (L (a.1>=1970)) (cond (L (a.1<=2240)) (cond (L (a.2.2>=1)) ((j7N a.1 a.2.1).bind λb=>K (L (a.2.2<=b))) (K Z)) (K Z)) (K Z)
def j92(b a:J):M Int:=cond (!(a==0)) (let e:=w64 (Ç b a)
 cond (!(a==0)) (let d:=Â b a
 cond (L (d<0)) (let c:=w64 (e-1)
 K c) (K e)) X) X
def j5w(a:J):M Int:=
 let b:=w64 (a-1)
 let l:=w64 (a-1970)
 let k:=w64 (365*l)
 (j92 b 4).bind λg=>let e:=w64 (k+g)
 (j92 b 100).bind λi=>let d:=w64 (e-i)
 (j92 b 400).bind λf=>let c:=w64 (d+f)
 let j:=w64 (c-477)
 K j
def j48(i e g a f:J):M ((J×J×J×J×J) ⊕ (J)):=cond (L (e<a)) ((j7N g e).bind λb=>let c:=w64 (i+b)
 let d:=w64 (e+1)
 K (.inl (c,d,g,a,f))) (K (.inr i))
def It[LP](d e c a b:J):M Int:=LP.lp (unc5 j48) (d,e,c,a,b)
theorem Xu(d e c a b):It d e c a b=lpK (j48 d e c a b) (λh=>It h.1 h.2.1 h.2.2.1 h.2.2.2.1 h.2.2.2.2):=bj _ _
def jdU[LP](a:sv):M Int:=(j5w a.1).bind λd=>let b:=w64 (d+a.2.2)
 let c:=w64 (b-1)
 (It c 1 a.1 a.2.1 a.2.2).bind λe=>K e
def j6g(a:J):M Int:=
 let c:=Â a 7
 let b:=w64 (c+10)
 let d:=Â b 7
 K d
def jk7[LP](c b d a:J):M (J×J):=(jcO (c,(b,1))).bind λm=>let l:Bool:=cond (cond (!m) Á (L (d<1))) Á (L (d>5))
 let k:Bool:=cond (cond l Á (L (a<0))) Á (L (a>6))
 cond k (K (0,1)) ((jdU (c,(b,1))).bind λe=>(j6g e).bind λp=>let n:=w64 (a-p)
 let i:=w64 (n+7)
 let j:=Â i 7
 let t:=w64 (e+j)
 let o:=w64 (d-1)
 let g:=w64 (7*o)
 let f:=w64 (t+g)
 (j7N c b).bind λq=>let r:=w64 (e+q)
 cond (L (f>=r)) (let s:=w64 (f-7)
 K (s,0)) (K (f,0)))
def j93(b a:J×J):M Int:=
 let c:=w64 (b.1-a.1)
 K c
def j0h(n p q b:J)(a:ah):M ((J×J×J×J×ah) ⊕ (J×J×J×ah)):=cond (L (b>n)) (cond (inR b a.length) (let f:=N a b.toNat (0,0)
 let c:=w64 (b-1)
 cond (inR c a.length) (let e:=N a c.toNat (0,0)
 (j93 (f.1,f.2) (e.1,e.2)).bind λm=>cond (L (m<0)) (let k:=w64 (b-1)
 let d:=w64 (b-1)
 cond (inR d a.length) (let i:=N a d.toNat (0,0)
 cond (inR b a.length) (let g:=N a b.toNat (0,0)
 cond (inR b a.length) (let j:ah:=É a b.toNat (i.1,i.2)
 cond (inR k j.length) (let l:ah:=É j k.toNat (g.1,g.2)
 let o:=w64 (b-1)
 K (.inl (n,p,q,o,l))) X) X) X) X) (K (.inr (n,p,q,a)))) X) X) (K (.inr (n,p,q,a)))
def Iu[LP](d b c e:J)(a:ah):M (J×J×J×ah):=LP.lp (unc5 j0h) (d,b,c,e,a)
theorem Xv(d b c e a):Iu d b c e a=lpK (j0h d b c e a) (λh=>Iu h.1 h.2.1 h.2.2.1 h.2.2.2.1 h.2.2.2.2):=bj _ _
def j0i[LP](f e c:J)(d:ah):M ((J×J×J×ah) ⊕ (ah)):=cond (L (c<e)) ((Iu f e c c d).bind λa=>let b:=w64 (a.2.2.1+1)
 K (.inl (a.1,a.2.1,b,a.2.2.2))) (K (.inr d))
def Iv[LP](c d a:J)(b:ah):M ah:=LP.lp (unc4 j0i) (c,d,a,b)
theorem Ov(d b c a):Iv d b c a=lpK (j0i d b c a) (λh=>Iv h.1 h.2.1 h.2.2.1 h.2.2.2):=bj _ _
def j0s[LP](a:ah)(b c:J):M ah:=
 let d:=w64 (b+1)
 (Iv b c d a).bind λe=>K e
def j0O[LP](d e g c:J)(f:ah):M ((J×J×J×J×ah) ⊕ (J×J×J×ah)):=cond (L (c<=d)) ((j0s f g c).bind λb=>let a:=w64 (c+e)
 K (.inl (d,e,c,a,b))) (K (.inr (d,e,g,f)))
def Iw[LP](a e d c:J)(b:ah):M (J×J×J×ah):=LP.lp (unc5 j0O) (a,e,d,c,b)
theorem j6x(a e d c b):Iw a e d c b=lpK (j0O a e d c b) (λh=>Iw h.1 h.2.1 h.2.2.1 h.2.2.2.1 h.2.2.2.2):=bj _ _
def j2F(a c b f:J)(e:ah):M ((J×J×J×J×ah) ⊕ (J×J×J×ah)):=cond (L (f<=a)) (let d:=w64 (b+c)
 X) (K (.inr (a,c,b,e)))
def j7l[LP](a e d c:J)(b:ah):M (J×J×J×ah):=LP.lp (unc5 j2F) (a,e,d,c,b)
def j0P[LP](f e:J)(g:ah):M ((J×J×ah) ⊕ (ah)):=cond (L (e<f)) (let b:=w64 (2*e)
 (j7l f e 0 b g).bind λa=>let c:=w64 (a.2.2.1+a.2.1)
 cond (L (c<a.1)) (X) (let d:=w64 (a.2.1*2)
 K (.inl (a.1,d,a.2.2.2)))) (K (.inr g))
def Ix[LP](b a:J)(c:ah):M ah:=LP.lp (unc3 j0P) (b,a,c)
theorem j6y(b a c):Ix b a c=lpK (j0P b a c) (λh=>Ix h.1 h.2.1 h.2.2):=bj _ _
def j2e[LP](a:ah)(c:J):M ah:=(Iw c 20 0 20 a).bind λb=>(j0s b.2.2.2 b.2.2.1 b.1).bind λd=>(Ix b.1 b.2.1 d).bind λe=>K e
def j0g[LP](a:ah):M ah:=
 let c:=S a.length
 (j2e a c).bind λb=>K b
def j1M(n:J)(d:ba)(l b:J)(m:O)(e:J)(f:ba):M ((J×ba×J×J×O×J×ba) ⊕ (J ⊕ (J×O×J×ba))):=cond (L (b<l)) (cond (inR b d.length) (let a:=N d b.toNat (0,(0,(0,(0,(0,(0,0))))))
 (jbj (a.1,(a.2.1,(a.2.2.1,(a.2.2.2.1,(a.2.2.2.2.1,(a.2.2.2.2.2.1,a.2.2.2.2.2.2))))))).bind λc=>cond (c != 0) (K (.inr (.inl c))) (let j:=w64 (a.2.1-a.1)
 let i:=w64 (j+1)
 let g:=w64 (n+i)
 let k:=w64 (b+1)
 K (.inl (g,d,l,k,m,e,f)))) X) (K (.inr (.inr (n,m,e,f))))
def Ce[LP](g:J)(c:ba)(e d:J)(f:O)(a:J)(b:ba):M (J ⊕ (J×O×J×ba)):=LP.lp (unc7 j1M) (g,c,e,d,f,a,b)
theorem Ow(g c e d f a b):Ce g c e d f a b=lpK (j1M g c e d f a b) (λh=>Ce h.1 h.2.1 h.2.2.1 h.2.2.2.1 h.2.2.2.2.1 h.2.2.2.2.2.1 h.2.2.2.2.2.2):=bj _ _
def j2r[LP](i:J)(o:ba)(q p s b f d e a c:J)(r:ah):M ((J×ba×J×J×J×J×J×J×J×J×J×ah) ⊕ (ba×J×J×ah)):=cond (L (i<=b)) ((jk7 i f d e).bind λn=>let k:=w64 (n.1*86400)
 let j:=w64 (k+a)
 let g:ah:=[(j,c)]
 cond (L (U r+U g<=aG)) (let l:ah:=r++g
 let m:=w64 (i+1)
 K (.inl (m,o,q,p,s,b,f,d,e,a,c,l))) X) (K (.inr (o,q,p,r)))
def Iy[LP](k:J)(g:ba)(l i j b f d e a c:J)(m:ah):M (ba×J×J×ah):=LP.lp (u8 unc4 j2r) (k,g,l,i,j,b,f,d,e,a,c,m)
theorem Xw(k g l i j b f d e a c m):Iy k g l i j b f d e a c m=lpK (j2r k g l i j b f d e a c m) (λh=>Iy h.1 h.2.1 h.2.2.1 h.2.2.2.1 h.2.2.2.2.1 h.2.2.2.2.2.1 h.2.2.2.2.2.2.1 h.2.2.2.2.2.2.2.1 h.2.2.2.2.2.2.2.2.1 h.2.2.2.2.2.2.2.2.2.1 h.2.2.2.2.2.2.2.2.2.2.1 h.2.2.2.2.2.2.2.2.2.2.2):=bj _ _
def j2s[LP](d:ba)(f c:J)(g:ah):M ((ba×J×J×ah) ⊕ (ah)):=cond (L (c<f)) (cond (inR c d.length) (let a:=N d c.toNat (0,(0,(0,(0,(0,(0,0))))))
 (Iy a.1 d f c a.1 a.2.1 a.2.2.1 a.2.2.2.1 a.2.2.2.2.1 a.2.2.2.2.2.1 a.2.2.2.2.2.2 g).bind λb=>let e:=w64 (b.2.2.1+1)
 K (.inl (b.1,b.2.1,e,b.2.2.2))) X) (K (.inr g))
def E3[LP](b:ba)(c a:J)(d:ah):M ah:=LP.lp (unc4 j2s) (b,c,a,d)
theorem Xx(a b c d):E3 a b c d=lpK (j2s a b c d) (λh=>E3 h.1 h.2.1 h.2.2.1 h.2.2.2):=bj _ _
def j2n[LP](a:dW):M (ah×J):=(j87 a.2.1 (-64800) 64800).bind λd=>cond (!d) (K (([]:ah),1)) (let e:=S a.2.2.length
 cond (L (e>16)) (K (([]:ah),5)) (let c:=S a.2.2.length
 (Ce 0 a.2.2 c 0 a.1 a.2.1 a.2.2).bind λj=>sumC j (λk=>K (([]:ah),k)) (λg=>cond (L (g.1>640)) (K (([]:ah),5)) (let b:=S g.2.2.2.length
 (E3 g.2.2.2 b 0 ([]:ah)).bind λi=>(j0g i).bind λf=>K (f,0)))))
def j1o(u m d:J)(b k:ah):M ((J×J×J×ah×ah) ⊕ (J ⊕ ah)):=cond (L (d<m)) (cond (inR d k.length) (let a:=N k d.toNat (0,0)
 cond (a.2==u) (let t:=w64 (d+1)
 K (.inl (u,m,t,b,k))) (let c:=w64 (a.1-u)
 let f:=w64 (a.2-u)
 cond (cond (L (f>=86400)) Á (L (f<=(-86400)))) (let o:=S b.length
 let v:=S b.length
 let j:=w64 (v-1)
 cond ((inR j b.length) || !((!Á)&&(L (o>0)))) (let w:=(N b j.toNat (0,0)).1
 let x:=w64 (w+604800)
 K (.inr (.inl 6))) X) ((j87 c 0 8589934592).bind λi=>let e:=S b.length
 let q:=S b.length
 let l:=w64 (q-1)
 cond ((inR l b.length) || !((!(!i))&&(L (e>0)))) (let s:=(N b l.toNat (0,0)).1
 let p:=w64 (s+604800)
 cond (cond (!i) Á (cond (L (e>0)) (L (c<p)) Z)) (K (.inr (.inl 6))) (let g:ah:=[(c,a.2)]
 cond (L (U b+U g<=aG)) (let r:ah:=b++g
 let n:=w64 (d+1)
 K (.inl (a.2,m,n,r,k))) X)) X))) X) (K (.inr (.inr b)))
def Cf[LP](e a c:J)(d b:ah):M (J ⊕ ah):=LP.lp (unc5 j1o) (e,a,c,d,b)
theorem Iz(e a c d b):Cf e a c d b=lpK (j1o e a c d b) (λh=>Cf h.1 h.2.1 h.2.2.1 h.2.2.2.1 h.2.2.2.2):=bj _ _
def j0U[LP](a:dW):M (ah×J):=(j2n (a.1,(a.2.1,a.2.2))).bind λb=>cond (b.2 != 0) (K (([]:ah),b.2)) (let c:=S b.1.length
 (Cf a.2.1 c 0 ([]:ah) b.1).bind λd=>sumC d (λf=>K (([]:ah),f)) (λe=>K (e,0)))
def jf8[LP](a:dW):M Int:=(j0U (a.1,(a.2.1,a.2.2))).bind λb=>K b.2
def j88(a:u9):M Bool:=
 let b:=Â a.2.2.2.2.2.2 60
 K (b != 0)
def j0l(e:ba)(f b:J):M ((ba×J×J) ⊕ (J ⊕ Æ)):=cond (L (b<f)) (cond (inR b e.length) (let a:=N e b.toNat (0,(0,(0,(0,(0,(0,0))))))
 (j88 (a.1,(a.2.1,(a.2.2.1,(a.2.2.2.1,(a.2.2.2.2.1,(a.2.2.2.2.2.1,a.2.2.2.2.2.2))))))).bind λc=>cond c (K (.inr (.inl b))) (let d:=w64 (b+1)
 K (.inl (e,f,d)))) X) (K (.inr (.inr ())))
def IA[LP](c:ba)(b a:J):M (J ⊕ Æ):=LP.lp (unc3 j0l) (c,b,a)
theorem Xy(c b a):IA c b a=lpK (j0l c b a) (λh=>IA h.1 h.2.1 h.2.2):=bj _ _
def j1E[LP](a:ba):M Int:=
 let c:=S a.length
 (IA a c 0).bind λb=>sumC b (λd=>K d) (λe=>K (-1))
def j0J[LP](a:ba):M Bool:=(j1E a).bind λb=>K (L (b>=0))
def j1V[LP](a:dW):M Int:=(jf8 (a.1,(a.2.1,a.2.2))).bind λd=>let c:=Â a.2.1 60
 cond (cond (d != 0) Á (c != 0)) (K 8) ((j0J a.2.2).bind λb=>cond b (K 8) (K 0))
def j0Z[LP](e:ai)(i c:J)(j:W (O×Ã)):M ((ai×J×J×(W (O×Ã))) ⊕ (J ⊕ Æ)):=cond (L (c<i)) (cond (inR c e.length) (let a:=N e c.toNat (Y,(0,([]:ba)))
 (j8I (a.1,(a.2.1,a.2.2))).bind λg=>(j4r g j).bind λb=>cond (b.1 != 0) (K (.inr (.inl b.1))) ((j1V (a.1,(a.2.1,a.2.2))).bind λd=>cond (d != 0) (K (.inr (.inl d))) (let f:=w64 (c+1)
 K (.inl (e,i,f,b.2))))) X) (K (.inr (.inr ())))
def zZ[LP](c:ai)(a b:J)(d:W (O×Ã)):M (J ⊕ Æ):=LP.lp (unc4 j0Z) (c,a,b,d)
theorem Ox(b:ai)(c a:J)(d:W (O×Ã)):zZ b c a d=lpK (j0Z b c a d) (λh=>zZ h.1 h.2.1 h.2.2.1 h.2.2.2):=bj _ _
def j34[LP](a:ai):M Int:=
 let c:(W (O×Ã)):=[]
 let b:=S a.length
 (zZ a b 0 c).bind λd=>sumC d (λe=>K e) (λf=>K 0)
def j1m(a b:J):M Bool:=K (cond (L (a>=0)) (L (a<b)) Z)
def j52(f g:ah)(k b:J):M ((ah×ah×J×J) ⊕ (J ⊕ Æ)):=cond (L (b<k)) (cond (inR b g.length) (let a:=N g b.toNat (0,0)
 let j:Bool:=cond (cond (L (a.1<0)) Á (L (a.1>=a.2))) Á (L (a.2>604800))
 cond j (K (.inr (.inl 1))) (cond (L (b>0)) (let c:=w64 (b-1)
 cond (inR c f.length) (let e:=N f c.toNat (0,0)
 cond (L (a.1<e.2)) (K (.inr (.inl 6))) (let d:=w64 (b+1)
 K (.inl (f,g,k,d)))) X) (let i:=w64 (b+1)
 K (.inl (f,g,k,i))))) X) (K (.inr (.inr ())))
def IB[LP](c b:ah)(d a:J):M (J ⊕ Æ):=LP.lp (unc4 j52) (c,b,d,a)
theorem Xz(b c d a):IB b c d a=lpK (j52 b c d a) (λh=>IB h.1 h.2.1 h.2.2.1 h.2.2.2):=bj _ _
def jcD[LP](a:ah):M Int:=
 let d:=S a.length
 cond (L (d>14)) (K 5) (let c:=S a.length
 (IB a a c 0).bind λb=>sumC b (λe=>K e) (λf=>K 0))
def j3d(a b c:J):M Bool:=K (cond (L (a>=b)) (L (a<=c)) Z)
def j6i(a:J):M Bool:=(j3d a 0 604800).bind λc=>let b:=Â a 3600
 K (cond c (b==0) Z)
def j4z[LP](b:bB)(a:vA):M Int:=
 let c:=S b.1.length
 (j1m a.2.1 c).bind λe=>cond (!e) (K 3) ((jcD a.2.2.1).bind λg=>cond (g != 0) (K 8) ((j6i a.2.2.2.1).bind λd=>cond (!d) (K 1) ((j6i a.2.2.2.2.1).bind λf=>cond (!f) (K 1) (K 0))))
def j8J(a:sw):M ByteArray:=K a.1
def j53(e c:J):M ((J×J) ⊕ (J)):=
 let d:=w64 (c+1)
 (j5w d).bind λb=>cond (L (b<=e)) (let a:=w64 (c+1)
 K (.inl (e,a))) (K (.inr c))
def IC[LP](b a:J):M Int:=LP.lp (unc2 j53) (b,a)
theorem XA(b a):IC b a=lpK (j53 b a) (λh=>IC h.1 h.2):=bj _ _
def ji4[LP](a:J):M Int:=(j92 a 366).bind λb=>let d:=w64 (1970+b)
 (IC a d).bind λc=>K c
def j49(k l d b e a c:J):M ((J×J×J×J×J×J×J) ⊕ (J×J×J×J×J×J×J)):=(j7N e a).bind λi=>cond (L (k>=i)) ((j7N e a).bind λg=>let j:=w64 (k-g)
 let f:=w64 (a+1)
 K (.inl (j,l,d,b,e,f,c))) (K (.inr (k,l,d,b,e,a,c)))
def ID[LP](f g d b e a c:J):M (J×J×J×J×J×J×J):=LP.lp (unc7 j49) (f,g,d,b,e,a,c)
theorem XB(f g d b e a c):ID f g d b e a c=lpK (j49 f g d b e a c) (λh=>ID h.1 h.2.1 h.2.2.1 h.2.2.2.1 h.2.2.2.2.1 h.2.2.2.2.2.1 h.2.2.2.2.2.2):=bj _ _
def j6a[LP](a:J):M (sv×J):=(j5w 1970).bind λi=>cond (L (a<i)) (K ((0,(0,0)),1)) ((j5w 2241).bind λe=>cond (L (a>=e)) (K ((0,(0,0)),1)) ((ji4 a).bind λb=>(j5w b).bind λd=>let g:=w64 (a-d)
 (ID g 0 0 0 b 1 0).bind λc=>let f:=w64 (c.1+1)
 K ((c.2.2.2.2.1,(c.2.2.2.2.2.1,f)),0)))
def j1g[LP](a:J):M Bool:=(j6a a).bind λb=>K (b.2==0)
def j3Q[LP](a:J):M Bool:=(j1g a).bind λb=>K (!b)
def j0z[LP](e:W J)(f a:J):M (((W J)×J×J) ⊕ (J ⊕ Æ)):=cond (L (a<f)) (cond (inR a e.length) (let c:=N e a.toNat 0
 (j3Q c).bind λb=>cond b (K (.inr (.inl a))) (let d:=w64 (a+1)
 K (.inl (e,f,d)))) X) (K (.inr (.inr ())))
def E4[LP](c:W J)(b a:J):M (J ⊕ Æ):=LP.lp (unc3 j0z) (c,b,a)
theorem IE(c b a):E4 c b a=lpK (j0z c b a) (λh=>E4 h.1 h.2.1 h.2.2):=bj _ _
def j3R[LP](a:W J):M Int:=
 let c:=S a.length
 (E4 a c 0).bind λb=>sumC b (λd=>K d) (λe=>K (-1))
def j1p[LP](a:W J):M Bool:=(j3R a).bind λb=>K (L (b>=0))
def j0o(d b:J)(k:O)(e:J)(a:W J):M ((J×J×O×J×(W J)) ⊕ (J ⊕ Æ)):=cond (L (b<d)) (cond (L (b>0)) (cond (inR b a.length) (let f:=N a b.toNat 0
 let c:=w64 (b-1)
 cond (inR c a.length) (let i:=N a c.toNat 0
 cond (L (f<=i)) (K (.inr (.inl 6))) (let g:=w64 (b+1)
 K (.inl (d,g,k,e,a)))) X) X) (let j:=w64 (b+1)
 K (.inl (d,j,k,e,a)))) (K (.inr (.inr ())))
def Cg[LP](c d:J)(e:O)(b:J)(a:W J):M (J ⊕ Æ):=LP.lp (unc5 j0o) (c,d,e,b,a)
theorem Ci(c d e b a):Cg c d e b a=lpK (j0o c d e b a) (λh=>Cg h.1 h.2.1 h.2.2.1 h.2.2.2.1 h.2.2.2.2):=bj _ _
def j1u[LP](b:bB)(a:sw):M Int:=
 let d:=S b.1.length
 (j1m a.2.1 d).bind λf=>cond (!f) (K 3) (let c:=S a.2.2.length
 cond (L (c>64)) (K 5) ((j1p a.2.2).bind λg=>cond g (K 1) (let e:=S a.2.2.length
 (Cg e 0 a.1 a.2.1 a.2.2).bind λi=>sumC i (λj=>K j) (λk=>K 0))))
def j8K[LP](a:sw)(f:ai)(c:aj)(d:al)(b:ao):M Int:=(j1u (f,(c,(d,b))) (a.1,(a.2.1,a.2.2))).bind λe=>K e
def j0D[LP](m:ai)(e:aj)(i:al)(f:ao)(g:al)(l c:J)(n:W (O×Ã)):M ((ai×aj×al×ao×al×J×J×(W (O×Ã))) ⊕ (J ⊕ Æ)):=cond (L (c<l)) (cond (inR c g.length) (let a:=N g c.toNat (Y,(0,([]:(W J))))
 (j8J (a.1,(a.2.1,a.2.2))).bind λk=>(j4r k n).bind λb=>cond (b.1 != 0) (K (.inr (.inl b.1))) ((j8K (a.1,(a.2.1,a.2.2)) m e i f).bind λd=>cond (d != 0) (K (.inr (.inl d))) (let j:=w64 (c+1)
 K (.inl (m,e,i,f,g,l,j,b.2))))) X) (K (.inr (.inr ())))
def Aa[LP](g:ai)(a:aj)(c:al)(b:ao)(e:al)(f d:J)(i:W (O×Ã)):M (J ⊕ Æ):=LP.lp (unc8 j0D) (g,a,c,b,e,f,d,i)
theorem Oy(g:ai)(a:aj)(c:al)(b:ao)(e:al)(f d:J)(i:W (O×Ã)):Aa g a c b e f d i=lpK (j0D g a c b e f d i) (λh=>Aa h.1 h.2.1 h.2.2.1 h.2.2.2.1 h.2.2.2.2.1 h.2.2.2.2.2.1 h.2.2.2.2.2.2.1 h.2.2.2.2.2.2.2):=bj _ _
def j24[LP](e:al)(d:ai)(c:aj)(b:al)(a:ao):M Int:=
 let g:(W (O×Ã)):=[]
 let f:=S e.length
 (Aa d c b a e f 0 g).bind λi=>sumC i (λj=>K j) (λk=>K 0)
def j8L(a:iQ):M ByteArray:=K a.1
def j3S(a:eB):M ByteArray:=K a.1
def j54(b:J)(g:ai)(a:aj)(d:al)(c:ao):M Bool:=
 let e:=S a.length
 (j1m b e).bind λf=>K (!f)
def j0q(i:W J)(k:ai)(b:aj)(d:al)(a:ao)(j c:J):M (((W J)×ai×aj×al×ao×J×J) ⊕ (J ⊕ Æ)):=cond (L (c<j)) (cond (inR c i.length) (let f:=N i c.toNat 0
 (j54 f k b d a).bind λe=>cond e (K (.inr (.inl c))) (let g:=w64 (c+1)
 K (.inl (i,k,b,d,a,j,g)))) X) (K (.inr (.inr ())))
def E5[LP](d:W J)(g:ai)(b:aj)(c:al)(a:ao)(f e:J):M (J ⊕ Æ):=LP.lp (unc7 j0q) (d,g,b,c,a,f,e)
theorem IF(d g b c a f e):E5 d g b c a f e=lpK (j0q d g b c a f e) (λh=>E5 h.1 h.2.1 h.2.2.1 h.2.2.2.1 h.2.2.2.2.1 h.2.2.2.2.2.1 h.2.2.2.2.2.2):=bj _ _
def j2I[LP](c:W J)(e:ai)(b:aj)(a:al)(d:ao):M Int:=
 let g:=S c.length
 (E5 c e b a d g 0).bind λf=>sumC f (λi=>K i) (λj=>K (-1))
def j10[LP](d:W J)(e:ai)(b:aj)(a:al)(c:ao):M Bool:=(j2I d e b a c).bind λf=>K (L (f>=0))
def j1s[LP](b:bB)(a:eB):M Int:=
 let c:=S b.1.length
 (j1m a.2.1 c).bind λi=>cond (!i) (K 3) (cond (L (a.2.2.1.1<1)) (K 1) ((j1g a.2.2.1.1).bind λl=>cond (!l) (K 1) ((j3d a.2.2.1.2 0 86399).bind λk=>cond (!k) (K 1) ((j3d a.2.2.2.1 0 2).bind λo=>cond (!o) (K 1) ((j3d a.2.2.2.2.1 1 400).bind λm=>cond (!m) (K 1) (let f:=S a.2.2.2.2.2.1.length
 cond (f==0) (K 7) (let j:=S a.2.2.2.2.2.1.length
 cond (L (j>12)) (K 5) ((j10 a.2.2.2.2.2.1 b.1 b.2.1 b.2.2.1 b.2.2.2).bind λe=>cond e (K 3) ((jcD a.2.2.2.2.2.2.1).bind λp=>cond (p != 0) (K 8) ((j3d a.2.2.2.2.2.2.2.2 0 2).bind λd=>cond (!d) (K 1) (let g:=S b.2.2.1.length
 cond (a.2.2.2.2.2.2.2.2 != 0) ((j1m a.2.2.2.2.2.2.2.1 g).bind λn=>cond (!n) (K 3) (cond (cond (a.2.2.2.2.2.2.2.2==0) (a.2.2.2.2.2.2.2.1 != 0) Z) (K 1) (K 0))) (cond (cond (a.2.2.2.2.2.2.2.2==0) (a.2.2.2.2.2.2.2.1 != 0) Z) (K 1) (K 0)))))))))))))
def j3T[LP](a:eB)(f:ai)(c:aj)(d:al)(b:ao):M Int:=(j1s (f,(c,(d,b))) (a.1,(a.2.1,((a.2.2.1.1,a.2.2.1.2),(a.2.2.2.1,(a.2.2.2.2.1,(a.2.2.2.2.2.1,(a.2.2.2.2.2.2.1,(a.2.2.2.2.2.2.2.1,a.2.2.2.2.2.2.2.2))))))))).bind λe=>K e
def j0T[LP](m:ai)(e:aj)(i:al)(f:ao)(g:aK)(l c:J)(n:W (O×Ã)):M ((ai×aj×al×ao×aK×J×J×(W (O×Ã))) ⊕ (J ⊕ Æ)):=cond (L (c<l)) (cond (inR c g.length) (let a:=N g c.toNat (Y,(0,((0,0),(0,(0,(([]:(W J)),(([]:ah),(0,0))))))))
 (j3S (a.1,(a.2.1,((a.2.2.1.1,a.2.2.1.2),(a.2.2.2.1,(a.2.2.2.2.1,(a.2.2.2.2.2.1,(a.2.2.2.2.2.2.1,(a.2.2.2.2.2.2.2.1,a.2.2.2.2.2.2.2.2))))))))).bind λk=>(j4r k n).bind λb=>cond (b.1 != 0) (K (.inr (.inl b.1))) ((j3T (a.1,(a.2.1,((a.2.2.1.1,a.2.2.1.2),(a.2.2.2.1,(a.2.2.2.2.1,(a.2.2.2.2.2.1,(a.2.2.2.2.2.2.1,(a.2.2.2.2.2.2.2.1,a.2.2.2.2.2.2.2.2)))))))) m e i f).bind λd=>cond (d != 0) (K (.inr (.inl d))) (let j:=w64 (c+1)
 K (.inl (m,e,i,f,g,l,j,b.2))))) X) (K (.inr (.inr ())))
def Ab[LP](g:ai)(a:aj)(c:al)(b:ao)(e:aK)(f d:J)(i:W (O×Ã)):M (J ⊕ Æ):=LP.lp (unc8 j0T) (g,a,c,b,e,f,d,i)
theorem Oz(g:ai)(a:aj)(c:al)(b:ao)(e:aK)(f d:J)(i:W (O×Ã)):Ab g a c b e f d i=lpK (j0T g a c b e f d i) (λh=>Ab h.1 h.2.1 h.2.2.1 h.2.2.2.1 h.2.2.2.2.1 h.2.2.2.2.2.1 h.2.2.2.2.2.2.1 h.2.2.2.2.2.2.2):=bj _ _
def j2J[LP](e:aK)(d:ai)(c:aj)(b:al)(a:ao):M Int:=
 let g:(W (O×Ã)):=[]
 let f:=S e.length
 (Ab d c b a e f 0 g).bind λi=>sumC i (λj=>K j) (λk=>K 0)
def j17[LP](g:bB)(a:nf):M Int:=
 let l:=S g.2.1.length
 (j3d a.1 0 2).bind λj=>cond (!j) (K 1) ((j1m a.2.1 l).bind λf=>cond (cond (!f) (!(cond (a.1==1) (a.2.1==(-1)) Z)) Z) (cond (cond (!f) (!(cond (a.1==1) (a.2.1==(-1)) Z)) Z) (K 3) (cond (cond (a.1 != 2) (a.2.2.1 != 0) Z) (K 1) (cond (cond (a.1==2) (a.2.1==a.2.2.1) Z) (K 4) (let m:=w64 (Ç a.2.2.2.2 86400)
 cond (cond (L (a.2.2.2.1<0)) Á (L (a.2.2.2.2<0))) (K 1) ((j1g m).bind λi=>cond (!i) (K 1) (cond (L (a.2.2.2.1>=a.2.2.2.2)) (K 6) (K 0))))))) (cond (a.1==2) ((j1m a.2.2.1 l).bind λk=>cond (!k) (K 3) (cond (cond (a.1 != 2) (a.2.2.1 != 0) Z) (K 1) (cond (cond (a.1==2) (a.2.1==a.2.2.1) Z) (K 4) (let e:=w64 (Ç a.2.2.2.2 86400)
 cond (cond (L (a.2.2.2.1<0)) Á (L (a.2.2.2.2<0))) (K 1) ((j1g e).bind λd=>cond (!d) (K 1) (cond (L (a.2.2.2.1>=a.2.2.2.2)) (K 6) (K 0))))))) (cond (cond (a.1 != 2) (a.2.2.1 != 0) Z) (K 1) (cond (cond (a.1==2) (a.2.1==a.2.2.1) Z) (K 4) (let c:=w64 (Ç a.2.2.2.2 86400)
 cond (cond (L (a.2.2.2.1<0)) Á (L (a.2.2.2.2<0))) (K 1) ((j1g c).bind λb=>cond (!b) (K 1) (cond (L (a.2.2.2.1>=a.2.2.2.2)) (K 6) (K 0))))))))
def j18[LP](d:aJ)(j c:J)(k:ai)(g:aj)(e:al)(f:ao):M ((aJ×J×J×ai×aj×al×ao) ⊕ (J ⊕ Æ)):=cond (L (c<j)) (cond (inR c d.length) (let a:=N d c.toNat (0,(0,(0,(0,0))))
 (j17 (k,(g,(e,f))) (a.1,(a.2.1,(a.2.2.1,(a.2.2.2.1,a.2.2.2.2))))).bind λb=>cond (b != 0) (K (.inr (.inl b))) (let i:=w64 (c+1)
 K (.inl (d,j,i,k,g,e,f)))) X) (K (.inr (.inr ())))
def Cj[LP](d:aJ)(e f:J)(g:ai)(c:aj)(a:al)(b:ao):M (J ⊕ Æ):=LP.lp (unc7 j18) (d,e,f,g,c,a,b)
theorem OA(d e f g c a b):Cj d e f g c a b=lpK (j18 d e f g c a b) (λh=>Cj h.1 h.2.1 h.2.2.1 h.2.2.2.1 h.2.2.2.2.1 h.2.2.2.2.2.1 h.2.2.2.2.2.2):=bj _ _
def j1w[LP](a:bB)(b:iQ):M Int:=
 let e:=S b.2.1.length
 let f:=S b.2.2.length
 cond (cond (L (e>6)) Á (L (f>48))) (K 5) ((j2J b.2.1 a.1 a.2.1 a.2.2.1 a.2.2.2).bind λc=>cond (c != 0) (K c) (let d:=S b.2.2.length
 (Cj b.2.2 d 0 a.1 a.2.1 a.2.2.1 a.2.2.2).bind λg=>sumC g (λi=>K i) (λj=>K 0)))
def j8M[LP](a:iQ)(f:ai)(c:aj)(d:al)(b:ao):M Int:=(j1w (f,(c,(d,b))) (a.1,(a.2.1,a.2.2))).bind λe=>K e
def j0E[LP](m:ai)(e:aj)(i:al)(f g:ao)(l c:J)(n:W (O×Ã)):M ((ai×aj×al×ao×ao×J×J×(W (O×Ã))) ⊕ (J ⊕ Æ)):=cond (L (c<l)) (cond (inR c g.length) (let a:=N g c.toNat (Y,(([]:aK),([]:aJ)))
 (j8L (a.1,(a.2.1,a.2.2))).bind λk=>(j4r k n).bind λb=>cond (b.1 != 0) (K (.inr (.inl b.1))) ((j8M (a.1,(a.2.1,a.2.2)) m e i f).bind λd=>cond (d != 0) (K (.inr (.inl d))) (let j:=w64 (c+1)
 K (.inl (m,e,i,f,g,l,j,b.2))))) X) (K (.inr (.inr ())))
def Ac[LP](g:ai)(a:aj)(c:al)(b e:ao)(f d:J)(i:W (O×Ã)):M (J ⊕ Æ):=LP.lp (unc8 j0E) (g,a,c,b,e,f,d,i)
theorem OC(g:ai)(a:aj)(c:al)(b e:ao)(f d:J)(i:W (O×Ã)):Ac g a c b e f d i=lpK (j0E g a c b e f d i) (λh=>Ac h.1 h.2.1 h.2.2.1 h.2.2.2.1 h.2.2.2.2.1 h.2.2.2.2.2.1 h.2.2.2.2.2.2.1 h.2.2.2.2.2.2.2):=bj _ _
def j32[LP](e:ao)(d:ai)(c:aj)(b:al)(a:ao):M Int:=
 let g:(W (O×Ã)):=[]
 let f:=S e.length
 (Ac d c b a e f 0 g).bind λi=>sumC i (λj=>K j) (λk=>K 0)
def j3u[LP](g:aj)(i f:J)(j:ai)(d:aj)(e:al)(c:ao)(r:W (O×Ã)):M ((aj×J×J×ai×aj×al×ao×(W (O×Ã))) ⊕ (J ⊕ (ai×aj×al×ao))):=cond (L (f<i)) (cond (inR f g.length) (let a:=N g f.toNat (Y,(0,(([]:ah),(0,(0,Z)))))
 (j4r a.1 r).bind λb=>let q:Bool:=È a.1==È (À #[110,111,98,111,100,121])
 cond q (cond (2==0) ((j4z (j,(d,(e,c))) (a.1,(a.2.1,(a.2.2.1,(a.2.2.2.1,(a.2.2.2.2.1,a.2.2.2.2.2)))))).bind λk=>cond (k != 0) (K (.inr (.inl k))) (let o:=w64 (f+1)
 K (.inl (g,i,o,j,d,e,c,b.2)))) (cond (2 != 0) (K (.inr (.inl 2))) (let n:=w64 (f+1)
 K (.inl (g,i,n,j,d,e,c,b.2))))) (cond (b.1==0) ((j4z (j,(d,(e,c))) (a.1,(a.2.1,(a.2.2.1,(a.2.2.2.1,(a.2.2.2.2.1,a.2.2.2.2.2)))))).bind λl=>cond (l != 0) (K (.inr (.inl l))) (let m:=w64 (f+1)
 K (.inl (g,i,m,j,d,e,c,b.2)))) (cond (b.1 != 0) (K (.inr (.inl b.1))) (let p:=w64 (f+1)
 K (.inl (g,i,p,j,d,e,c,b.2)))))) X) (K (.inr (.inr (j,d,e,c))))
def E6[LP](f:aj)(e d:J)(g:ai)(b:aj)(c:al)(a:ao)(i:W (O×Ã)):M (J ⊕ (ai×aj×al×ao)):=LP.lp (unc8 j3u) (f,e,d,g,b,c,a,i)
theorem XC(f:aj)(e d:J)(g:ai)(b:aj)(c:al)(a:ao)(i:W (O×Ã)):E6 f e d g b c a i=lpK (j3u f e d g b c a i) (λh=>E6 h.1 h.2.1 h.2.2.1 h.2.2.2.1 h.2.2.2.2.1 h.2.2.2.2.2.1 h.2.2.2.2.2.2.1 h.2.2.2.2.2.2.2):=bj _ _
def j4l[LP](a:bB):M Int:=
 let g:=S a.1.length
 let k:=S a.2.1.length
 let m:=S a.2.2.1.length
 let j:Bool:=cond (cond (L (g>16)) Á (L (k>32))) Á (L (m>8))
 let f:=S a.2.2.2.length
 cond (cond j Á (L (f>12))) (K 5) ((j34 a.1).bind λc=>cond (c != 0) (K c) (let i:(W (O×Ã)):=[]
 let e:=S a.2.1.length
 (E6 a.2.1 e 0 a.1 a.2.1 a.2.2.1 a.2.2.2 i).bind λn=>sumC n (λo=>K o) (λb=>(j24 b.2.2.1 b.1 b.2.1 b.2.2.1 b.2.2.2).bind λd=>cond (d != 0) (K d) ((j32 b.2.2.2 b.1 b.2.1 b.2.2.1 b.2.2.2).bind λl=>K l))))
def jnQ[LP](a:dW):M (gi×J):=(j0U (a.1,(a.2.1,a.2.2))).bind λb=>K ((a.2.1,b.1),b.2)
def j4B[LP](i:ai)(j c:J)(g:ct):M ((ai×J×J×ct) ⊕ (ct)):=cond (L (c<j)) (cond (inR c i.length) (let a:=N i c.toNat (Y,(0,([]:ba)))
 (jnQ (a.1,(a.2.1,a.2.2))).bind λb=>let d:ct:=[(b.1.1,b.1.2)]
 cond (L (U g+U d<=aG)) (let f:ct:=g++d
 let e:=w64 (c+1)
 K (.inl (i,j,e,f))) X) X) (K (.inr g))
def E7[LP](c:ai)(d a:J)(b:ct):M ct:=LP.lp (unc4 j4B) (c,d,a,b)
theorem XE(c d a b):E7 c d a b=lpK (j4B c d a b) (λh=>E7 h.1 h.2.1 h.2.2.1 h.2.2.2):=bj _ _
def jj6[LP](a:ai):M ct:=
 let c:=S a.length
 (E7 a c 0 ([]:ct)).bind λb=>K b
def jk8[LP](a:bB):M iR:=(jj6 a.1).bind λb=>K ((a.1,(a.2.1,(a.2.2.1,a.2.2.2))),b)
def jfM[LP](a:bB):M (iR×Ã):=(j4l (a.1,(a.2.1,(a.2.2.1,a.2.2.2)))).bind λc=>cond (c != 0) (K (((([]:ai),(([]:aj),(([]:al),([]:ao)))),([]:ct)),Z)) ((jk8 (a.1,(a.2.1,(a.2.2.1,a.2.2.2)))).bind λb=>K (((b.1.1,(b.1.2.1,(b.1.2.2.1,b.1.2.2.2))),b.2),Á))
def j5x(b:bB)(a:J):M Bool:=
 let c:=S b.2.2.2.length
 K (cond (L (a>=0)) (L (a<c)) Z)
def jln(a b:J):M Bool:=
 let e:Bool:=cond (cond (L (a>=0)) (L (a<=8589934592)) Z) (L (b>=a)) Z
 let c:=w64 (b-a)
 let d:Bool:=cond (cond e (L (b<=8589934592)) Z) (L (c<=34560000)) Z
 K d
def j94[LP](b:bB)(c d e:J):M (iR×J):=(jfM (b.1,(b.2.1,(b.2.2.1,b.2.2.2)))).bind λa=>cond (!a.2) (K (((a.1.1.1,(a.1.1.2.1,(a.1.1.2.2.1,a.1.1.2.2.2))),a.1.2),8)) ((j5x (b.1,(b.2.1,(b.2.2.1,b.2.2.2))) c).bind λf=>cond (!f) (K (((a.1.1.1,(a.1.1.2.1,(a.1.1.2.2.1,a.1.1.2.2.2))),a.1.2),3)) ((jln d e).bind λg=>cond (!g) (K (((a.1.1.1,(a.1.1.2.1,(a.1.1.2.2.1,a.1.1.2.2.2))),a.1.2),1)) (K (((a.1.1.1,(a.1.1.2.1,(a.1.1.2.2.1,a.1.1.2.2.2))),a.1.2),0))))
def j89(a:W J):M (W J):=cond (L (U ([]:W (J))+U a<=aG)) (K (([]:W (J))++a)) X
def jbk(a b c:J):M Bool:=K (cond (L (a<=b)) Á (L (a>=c)))
def j0W(i a g c:J)(b:W J):M ((J×J×J×J×(W J)) ⊕ (ou ⊕ (W J))):=cond (L (c<g)) (cond (inR c b.length) (let d:=N b c.toNat 0
 (jbk d i a).bind λe=>cond e (K (.inr (.inl (c,b)))) (let f:=w64 (c+1)
 K (.inl (i,a,g,f,b)))) X) (K (.inr (.inr b)))
def E8[LP](e a d c:J)(b:W J):M (ou ⊕ (W J)):=LP.lp (unc5 j0W) (e,a,d,c,b)
theorem XF(e a d c b):E8 e a d c b=lpK (j0W e a d c b) (λh=>E8 h.1 h.2.1 h.2.2.1 h.2.2.2.1 h.2.2.2.2):=bj _ _
def j4C[LP](b:W J)(c a:J):M ou:=
 let e:=S b.length
 (E8 c a e 0 b).bind λd=>sumC d (λf=>K (f.1,f.2)) (λg=>K ((-1),g))
def j1c(l a d e:J)(b:W J):M ((J×J×J×J×(W J)) ⊕ (ou)):=
 let k:=S b.length
 cond (L (e<k)) (cond (inR e b.length) (let c:=N b e.toNat 0
 (jbk c l a).bind λj=>cond (!j) (cond (inR d b.length) (let m:W Int:=É b d.toNat c
 let f:=w64 (d+1)
 let g:=w64 (e+1)
 K (.inl (l,a,f,g,m))) X) (let i:=w64 (e+1)
 K (.inl (l,a,d,i,b)))) X) (K (.inr (d,b)))
def IG[LP](b a d e:J)(c:W J):M ou:=LP.lp (unc5 j1c) (b,a,d,e,c)
theorem XG(b a d e c):IG b a d e c=lpK (j1c b a d e c) (λh=>IG h.1 h.2.1 h.2.2.1 h.2.2.2.1 h.2.2.2.2):=bj _ _
def j3o[LP](e:W J)(d a:J):M ou:=(j4C e d a).bind λc=>cond (c.1==(-1)) (K ((S c.2.length),c.2)) (let g:=w64 (c.1+1)
 (IG d a c.1 g c.2).bind λb=>cond (L (0<=b.1)&&L (b.1<=(S b.2.length))) (let f:W Int:=Ê b.1.toNat b.2++Å (U b.2-b.1.toNat) 0
 cond (L (0<=b.1)&&L (b.1<=(S f.length))) (K ((S b.1.toNat),f)) X) X)
def j6j(a:W J):M (W J):=
 zY a
def j1y(e b c:J)(a:W J):M ((J×J×J×(W J)) ⊕ (ou)):=
 let k:=S (U a-b.toNat)
 cond (L (c<k)) (cond (inR c (U a-b.toNat)) (let g:=N a (b.toNat+c.toNat) 0
 let d:=w64 (c-1)
 cond (inR d (U a-b.toNat)) (let j:=N a (b.toNat+d.toNat) 0
 cond (g != j) (cond (inR c (U a-b.toNat)) (let m:=N a (b.toNat+c.toNat) 0
 cond (inR e a.length) (let n:W Int:=É a e.toNat m
 let f:=w64 (e+1)
 let i:=w64 (c+1)
 K (.inl (f,(S b.toNat),i,n))) X) X) (let l:=w64 (c+1)
 K (.inl (e,(S b.toNat),l,a)))) X) X) (K (.inr (e,a)))
def E9[LP](b c a:J)(d:W J):M ou:=LP.lp (unc4 j1y) (b,c,a,d)
theorem XH(a b d c):E9 a b d c=lpK (j1y a b d c) (λh=>E9 h.1 h.2.1 h.2.2.1 h.2.2.2):=bj _ _
def j1z[LP](b:J)(c:W J):M (ou ⊕ (ou ⊕ (W J))):=
 let i:=S c.length
 cond (L (b<i)) (cond (inR b c.length) (let j:=N c b.toNat 0
 let d:=w64 (b-1)
 cond (inR d c.length) (let g:=N c d.toNat 0
 cond (j==g) (cond (L (0<=b)&&L (b<=(S c.length))) ((E9 b (S b.toNat) 1 c).bind λa=>cond (L (0<=a.1)&&L (a.1<=(S a.2.length))) (let e:W Int:=Ê a.1.toNat a.2++Å (U a.2-a.1.toNat) 0
 cond (L (0<=a.1)&&L (a.1<=(S e.length))) (K (.inr (.inl ((S a.1.toNat),e)))) X) X) X) (let f:=w64 (b+1)
 K (.inl (f,c)))) X) X) (K (.inr (.inr c)))
def Ad[LP](a:J)(b:W J):M (ou ⊕ (W J)):=LP.lp (unc2 j1z) (a,b)
theorem XI(a b):Ad a b=lpK (j1z a b) (λh=>Ad h.1 h.2):=bj _ _
def j4O[LP](a:W J):M ou:=
 let c:=S a.length
 cond (L (c<2)) (K ((S a.length),a)) ((Ad 1 a).bind λb=>sumC b (λe=>K ((S e.1.toNat),e.2)) (λd=>K ((S d.length),d)))
def jk9[LP](f:W J)(b a:J):M (W J):=(j89 f).bind λk=>(j3o k b a).bind λc=>let g:W Int:=Ê c.1.toNat c.2
 (j6j g).bind λi=>(j4O i).bind λe=>let d:W Int:=Ê e.1.toNat e.2
 cond (L (U d+U [a]<=aG)) (let j:W Int:=d++[a]
 K j) X
def j0X(a:aK):M aK:=K a
def jaw(a:eB):M Int:=cond (a.2.2.2.1==2) (let b:=w64 (7*a.2.2.2.2.1)
 K b) (K a.2.2.2.2.1)
def j95(b e:J)(a:ah)(d:J):M Bool:=cond (inR b a.length) (let c:=N a b.toNat (0,0)
 K (L (c.1>d))) X
def j3e(l:J)(a:ah)(b i k:J):M ((J×ah×J×J×J) ⊕ (J)):=cond (L (i<k)) (let j:=w64 (i+k)
 let d:Int:=IntKind.wrap .u64 j
 let g:Int:=Î d 2
 let c:=w64 g
 (j95 c l a b).bind λe=>cond (!e) (let f:=w64 (c+1)
 K (.inl (l,a,b,f,k))) (K (.inl (l,a,b,i,c)))) (K (.inr i))
def IH[LP](e:J)(a:ah)(b d c:J):M Int:=LP.lp (unc5 j3e) (e,a,b,d,c)
theorem XJ(e a b d c):IH e a b d c=lpK (j3e e a b d c) (λh=>IH h.1 h.2.1 h.2.2.1 h.2.2.2.1 h.2.2.2.2):=bj _ _
def jj7[LP](c d:J)(b:ah)(a:J):M Int:=(IH d b a 0 c).bind λe=>K e
def j6A[LP](a:gi)(b:J):M Int:=
 let c:=S a.2.length
 (jj7 c a.1 a.2 b).bind λd=>K d
def j4u(a:gi)(b:J):M Int:=cond (b==0) (K a.1) (let c:=w64 (b-1)
 cond (inR c a.2.length) (let d:=N a.2 c.toNat (0,0)
 K d.2) X)
def j0B[LP](p c i:J)(a:ah)(j:ak):M ((J×J×J×ah×ak) ⊕ (ak)):=cond (L (p<c)) ((j6A (i,a) p).bind λb=>let m:=S a.length
 cond (L (b<m)) (cond (inR b a.length) (let g:=N a b.toNat (0,0)
 let d:Int:=if g.1<c then g.1 else c
 (j4u (i,a) b).bind λl=>let e:ak:=[(p,(d,l))]
 cond (L (U j+U e<=aG)) (let n:ak:=j++e
 K (.inl (d,c,i,a,n))) X) X) ((j4u (i,a) b).bind λk=>let f:ak:=[(p,(c,k))]
 cond (L (U j+U f<=aG)) (let o:ak:=j++f
 K (.inl (c,c,i,a,o))) X)) (K (.inr j))
def Ck[LP](e c b:J)(a:ah)(d:ak):M ak:=LP.lp (unc5 j0B) (e,c,b,a,d)
theorem Cl(e c b a d):Ck e c b a d=lpK (j0B e c b a d) (λh=>Ck h.1 h.2.1 h.2.2.1 h.2.2.2.1 h.2.2.2.2):=bj _ _
def j1X[LP](b:gi)(a c:J):M ak:=(Ck a c b.1 b.2 ([]:ak)).bind λd=>K d
def j4s(a:J×J):M Int:=
 let c:Int:=if (-1048576)>a.1 then (-1048576) else a.1
 let e:Int:=if 1048576<c then 1048576 else c
 let d:=w64 (e*86400)
 let b:=w64 (d+a.2)
 K b
def j1r(j d k f:J)(e:ak):M ((J×J×J×J×ak) ⊕ ((J×Ã) ⊕ Æ)):=cond (L (d<j)) (cond (inR d e.length) (let a:=N e d.toNat (0,(0,0))
 (j4s (k,f)).bind λi=>let b:=w64 (i-a.2.2)
 let c:Int:=if b>a.1 then b else a.1
 cond (L (c<a.2.1)) (K (.inr (.inl (c,Á)))) (let g:=w64 (d+1)
 K (.inl (j,g,k,f,e)))) X) (K (.inr (.inr ())))
def Fa[LP](d b e a:J)(c:ak):M ((J×Ã) ⊕ Æ):=LP.lp (unc5 j1r) (d,b,e,a,c)
theorem II(d b e a c):Fa d b e a c=lpK (j1r d b e a c) (λh=>Fa h.1 h.2.1 h.2.2.1 h.2.2.2.1 h.2.2.2.2):=bj _ _
def j2X[LP](b:gi)(a:J×J):M (J×Ã):=(j1X (b.1,b.2) 0 8589934593).bind λc=>let d:=S c.length
 (Fa d 0 a.1 a.2 c).bind λe=>sumC e (λf=>K (f.1,f.2)) (λg=>K (0,Z))
def j0V[LP](b:gi)(a:eB)(c:J):M (J×Ã):=cond (L (c>8589934592)) (K (0,Z)) (cond (a.2.2.2.1 != 0) ((jaw (a.1,(a.2.1,((a.2.2.1.1,a.2.2.1.2),(a.2.2.2.1,(a.2.2.2.2.1,(a.2.2.2.2.2.1,(a.2.2.2.2.2.2.1,(a.2.2.2.2.2.2.2.1,a.2.2.2.2.2.2.2.2))))))))).bind λl=>let i:=w64 (c*l)
 let j:=w64 (a.2.2.1.1+i)
 (j2X (b.1,b.2) (j,a.2.2.1.2)).bind λe=>K (e.1,e.2)) ((j2X (b.1,b.2) (a.2.2.1.1,a.2.2.1.2)).bind λf=>let g:=w64 (3600*a.2.2.2.2.1)
 let k:=w64 (g*c)
 let d:=w64 (f.1+k)
 K (d,(cond f.2 (L (d<=8589934592)) Z))))
def j3v(a:ah):M ah:=cond (L (U ([]:W (J×J))+U a<=aG)) (K (([]:W (J×J))++a)) X
def j9E(a:J×J):M Bool:=K (L (a.2<=a.1))
def j0x(f c:J)(b:ah):M ((J×J×ah) ⊕ (gi ⊕ ah)):=cond (L (c<f)) (cond (inR c b.length) (let a:=N b c.toNat (0,0)
 (j9E (a.1,a.2)).bind λd=>cond d (K (.inr (.inl (c,b)))) (let e:=w64 (c+1)
 K (.inl (f,e,b)))) X) (K (.inr (.inr b)))
def Fb[LP](a b:J)(c:ah):M (gi ⊕ ah):=LP.lp (unc3 j0x) (a,b,c)
theorem XK(a b c):Fb a b c=lpK (j0x a b c) (λh=>Fb h.1 h.2.1 h.2.2):=bj _ _
def j2B[LP](a:ah):M gi:=
 let c:=S a.length
 (Fb c 0 a).bind λb=>sumC b (λd=>K (d.1,d.2)) (λe=>K ((-1),e))
def j0t(c d:J)(b:ah):M ((J×J×ah) ⊕ (gi)):=
 let j:=S b.length
 cond (L (d<j)) (cond (inR d b.length) (let a:=N b d.toNat (0,0)
 (j9E (a.1,a.2)).bind λi=>cond (!i) (cond (inR c b.length) (let k:ah:=É b c.toNat (a.1,a.2)
 let e:=w64 (c+1)
 let f:=w64 (d+1)
 K (.inl (e,f,k))) X) (let g:=w64 (d+1)
 K (.inl (c,g,b)))) X) (K (.inr (c,b)))
def IJ[LP](a b:J)(c:ah):M gi:=LP.lp (unc3 j0t) (a,b,c)
theorem XL(a b c):IJ a b c=lpK (j0t a b c) (λh=>IJ h.1 h.2.1 h.2.2):=bj _ _
def j1A[LP](c:ah):M gi:=(j2B c).bind λb=>cond (b.1==(-1)) (K ((S b.2.length),b.2)) (let e:=w64 (b.1+1)
 (IJ b.1 e b.2).bind λa=>cond (L (0<=a.1)&&L (a.1<=(S a.2.length))) (let d:ah:=Ê a.1.toNat a.2++Å (U a.2-a.1.toNat) (0,0)
 cond (L (0<=a.1)&&L (a.1<=(S d.length))) (K ((S a.1.toNat),d)) X) X)
def j7O(b a:J×J):M Int:=
 let c:=w64 (b.1-a.1)
 K c
def j12(a:ah):M ah:=
 xl (.pair (.int .i64) (.int .i64)) (λb c=>(j7O b c).getD 0) a
def j3U(l d:J)(b f:ah):M ((J×J×ah×ah) ⊕ (ah)):=cond (L (d<l)) (cond (inR d f.length) (let a:=N f d.toNat (0,0)
 let c:=S b.length
 cond (L (c>0)) (let k:=w64 (c-1)
 cond (inR k b.length) (let p:=(N b k.toNat (0,0)).2
 cond (L (a.1<=p)) (let e:=w64 (c-1)
 let j:=w64 (c-1)
 cond (inR j b.length) (let g:=(N b j.toNat (0,0)).2
 let q:Int:=if a.2>g then a.2 else g
 cond (inR e b.length) (let u:ah:=É b e.toNat ((N b e.toNat (0,0)).1,q)
 let r:=w64 (d+1)
 K (.inl (l,r,u,f))) X) X) (let i:ah:=[(a.1,a.2)]
 cond (L (U b+U i<=aG)) (let t:ah:=b++i
 let n:=w64 (d+1)
 K (.inl (l,n,t,f))) X)) X) (let m:ah:=[(a.1,a.2)]
 cond (L (U b+U m<=aG)) (let o:ah:=b++m
 let s:=w64 (d+1)
 K (.inl (l,s,o,f))) X)) X) (K (.inr b))
def Fc[LP](a b:J)(d c:ah):M ah:=LP.lp (unc4 j3U) (a,b,d,c)
theorem OD(c b d a):Fc c b d a=lpK (j3U c b d a) (λh=>Fc h.1 h.2.1 h.2.2.1 h.2.2.2):=bj _ _
def j9h[LP](c:ah):M ah:=(j3v c).bind λf=>(j1A f).bind λb=>let d:ah:=Ê b.1.toNat b.2
 (j12 d).bind λa=>let e:=S a.length
 (Fc e 0 ([]:ah) a).bind λg=>K g
def j4a(u:ah)(e q s:J)(k:ah)(p c g a d:J)(t:ah)(r:ak):M ((ah×J×J×J×ah×J×J×J×J×J×ah×ak) ⊕ (ah×J×J×J×J×J×J×ah×ak)):=cond (L (c<p)) (cond (inR c k.length) (let f:=N k c.toNat (0,0)
 let j:=w64 (e+f.1)
 let m:Int:=if j>g then j else g
 let b:=w64 (e+f.2)
 let o:Int:=if b<a then b else a
 let i:ah:=[(m,o)]
 cond (L (U t+U i<=aG)) (let n:ah:=t++i
 let l:=w64 (c+1)
 K (.inl (u,e,q,s,k,p,l,g,a,d,n,r))) X) X) (K (.inr (u,e,q,s,g,a,d,t,r)))
def IK[LP](m:ah)(i j f:J)(k:ah)(d e g a b:J)(l:ah)(c:ak):M (ah×J×J×J×J×J×J×ah×ak):=LP.lp (u8 unc4 j4a) (m,i,j,f,k,d,e,g,a,b,l,c)
theorem XM(m i j f k d e g a b l c):IK m i j f k d e g a b l c=lpK (j4a m i j f k d e g a b l c) (λh=>IK h.1 h.2.1 h.2.2.1 h.2.2.2.1 h.2.2.2.2.1 h.2.2.2.2.2.1 h.2.2.2.2.2.2.1 h.2.2.2.2.2.2.2.1 h.2.2.2.2.2.2.2.2.1 h.2.2.2.2.2.2.2.2.2.1 h.2.2.2.2.2.2.2.2.2.2.1 h.2.2.2.2.2.2.2.2.2.2.2):=bj _ _
def j4b[LP](f:ah)(j k i m b c:J)(l:ah)(g:ak):M ((ah×J×J×J×J×J×J×ah×ak) ⊕ (ah×J×J×ah×ak)):=cond (L (j<b)) (let d:=S f.length
 (IK f j k i f d 0 m b c l g).bind λa=>let e:=w64 (a.2.1+604800)
 K (.inl (a.1,e,a.2.2.1,a.2.2.2.1,a.2.2.2.2.1,a.2.2.2.2.2.1,a.2.2.2.2.2.2.1,a.2.2.2.2.2.2.2.1,a.2.2.2.2.2.2.2.2))) (K (.inr (f,k,i,l,g)))
def IL[LP](j:ah)(f g d e a b:J)(i:ah)(c:ak):M (ah×J×J×ah×ak):=LP.lp (unc9 j4b) (j,f,g,d,e,a,b,i,c)
theorem XN(j f g d e a b i c):IL j f g d e a b i c=lpK (j4b j f g d e a b i c) (λh=>IL h.1 h.2.1 h.2.2.1 h.2.2.2.1 h.2.2.2.2.1 h.2.2.2.2.2.1 h.2.2.2.2.2.2.1 h.2.2.2.2.2.2.2.1 h.2.2.2.2.2.2.2.2):=bj _ _
def j4c[LP](o:ah)(m d:J)(n:ah)(e:ak):M ((ah×J×J×ah×ak) ⊕ (ah)):=cond (L (d<m)) (cond (inR d e.length) (let a:=N e d.toNat (0,(0,0))
 let i:=w64 (a.1+a.2.2)
 let c:=w64 (i-(-259200))
 let j:=Â c 604800
 let f:=w64 (c-j)
 let g:=w64 (f+(-259200))
 let l:=w64 (g-a.2.2)
 (IL o l m d a.1 a.2.1 a.2.2 n e).bind λb=>let k:=w64 (b.2.2.1+1)
 K (.inl (b.1,b.2.1,k,b.2.2.2.1,b.2.2.2.2))) X) (K (.inr n))
def IM[LP](e:ah)(c b:J)(d:ah)(a:ak):M ah:=LP.lp (unc5 j4c) (e,c,b,d,a)
theorem XO(e c b d a):IM e c b d a=lpK (j4c e c b d a) (λh=>IM h.1 h.2.1 h.2.2.1 h.2.2.2.1 h.2.2.2.2):=bj _ _
def j6b[LP](b:gi)(e:ah)(a c:J):M ah:=(j1X (b.1,b.2) a c).bind λd=>let g:=S d.length
 (IM e g 0 ([]:ah) d).bind λi=>(j9h i).bind λf=>K f
def j36(u r:J)(k:W J)(t c:J)(w:O)(g:J)(i:W J)(j a d:J)(v:ah)(s:ak):M ((J×J×(W J)×J×J×O×J×(W J)×J×J×J×ah×ak) ⊕ (J×J×O×J×(W J)×ah×ak)):=cond (L (c<t)) (cond (inR c k.length) (let p:=N k c.toNat 0
 let m:=w64 (p*86400)
 let b:=w64 (m-d)
 let n:Int:=if b>j then b else j
 let f:=w64 (b+86400)
 let q:Int:=if f<a then f else a
 let e:ah:=[(n,q)]
 cond (L (U v+U e<=aG)) (let l:ah:=v++e
 let o:=w64 (c+1)
 K (.inl (u,r,k,t,o,w,g,i,j,a,d,l,s))) X) X) (K (.inr (u,r,w,g,i,v,s)))
def Fe[LP](j e:J)(l:W J)(i g:J)(m:O)(d:J)(c:W J)(k a b:J)(n:ah)(f:ak):M (J×J×O×J×(W J)×ah×ak):=LP.lp (u8 unc5 j36) (j,e,l,i,g,m,d,c,k,a,b,n,f)
theorem XP(j e l i g m d c k a b n f):Fe j e l i g m d c k a b n f=lpK (j36 j e l i g m d c k a b n f) (λh=>Fe h.1 h.2.1 h.2.2.1 h.2.2.2.1 h.2.2.2.2.1 h.2.2.2.2.2.1 h.2.2.2.2.2.2.1 h.2.2.2.2.2.2.2.1 h.2.2.2.2.2.2.2.2.1 h.2.2.2.2.2.2.2.2.2.1 h.2.2.2.2.2.2.2.2.2.2.1 h.2.2.2.2.2.2.2.2.2.2.2.1 h.2.2.2.2.2.2.2.2.2.2.2.2):=bj _ _
def j37[LP](i d:J)(l:O)(j:J)(c:W J)(k:ah)(e:ak):M ((J×J×O×J×(W J)×ah×ak) ⊕ (ah)):=cond (L (d<i)) (cond (inR d e.length) (let b:=N e d.toNat (0,(0,0))
 let g:=S c.length
 (Fe i d c g 0 l j c b.1 b.2.1 b.2.2 k e).bind λa=>let f:=w64 (a.2.1+1)
 K (.inl (a.1,f,a.2.2.1,a.2.2.2.1,a.2.2.2.2.1,a.2.2.2.2.2.1,a.2.2.2.2.2.2))) X) (K (.inr k))
def Ff[LP](e c:J)(f:O)(b:J)(a:W J)(g:ah)(d:ak):M ah:=LP.lp (unc7 j37) (e,c,f,b,a,g,d)
theorem XQ(e c f b a g d):Ff e c f b a g d=lpK (j37 e c f b a g d) (λh=>Ff h.1 h.2.1 h.2.2.1 h.2.2.2.1 h.2.2.2.2.1 h.2.2.2.2.2.1 h.2.2.2.2.2.2):=bj _ _
def j2g[LP](c:iR)(a:sw)(b d:J):M ah:=cond (inR a.2.1 c.2.length) (let f:=N c.2 a.2.1.toNat (0,([]:ah))
 (j1X (f.1,f.2) b d).bind λe=>let i:=S e.length
 (Ff i 0 a.1 a.2.1 a.2.2 ([]:ah) e).bind λj=>(j9h j).bind λg=>K g) X
def j4d(b:ah)(c:J)(e:ah)(d f g a:J)(l:ah):M ((ah×J×ah×J×J×J×J×ah) ⊕ (ah×J×ah×J×J×J×J×ah)):=
 let i:=S b.length
 cond (L (c<i)) (cond (inR c b.length) (let k:=N b c.toNat (0,0)
 cond (L (k.2<=g)) (let j:=w64 (c+1)
 K (.inl (b,j,e,d,f,g,a,l))) (K (.inr (b,c,e,d,f,g,a,l)))) X) (K (.inr (b,c,e,d,f,g,a,l)))
def IP[LP](e:ah)(i:J)(c:ah)(b d f a:J)(g:ah):M (ah×J×ah×J×J×J×J×ah):=LP.lp (unc8 j4d) (e,i,c,b,d,f,a,g)
theorem XR(e i c b d f a g):IP e i c b d f a g=lpK (j4d e i c b d f a g) (λh=>IP h.1 h.2.1 h.2.2.1 h.2.2.2.1 h.2.2.2.2.1 h.2.2.2.2.2.1 h.2.2.2.2.2.2.1 h.2.2.2.2.2.2.2):=bj _ _
def j4e(b:ah)(v d a:J)(f:ah)(k g n c:J)(l:ah):M ((ah×J×J×J×ah×J×J×J×J×ah) ⊕ (ah×J×J×ah×J×J×J×J×ah)):=
 let o:=S b.length
 cond (L (a<o)) (cond (inR a b.length) (let q:=N b a.toNat (0,0)
 cond (L (q.1<c)) (cond (inR a b.length) (let w:=N b a.toNat (0,0)
 cond (L (d<w.1)) (cond (inR a b.length) (let r:=N b a.toNat (0,0)
 let j:ah:=[(d,r.1)]
 cond (L (U l+U j<=aG)) (let s:ah:=l++j
 cond (inR a b.length) (let e:=N b a.toNat (0,0)
 let t:Int:=if e.2>d then e.2 else d
 let p:=w64 (a+1)
 K (.inl (b,v,t,p,f,k,g,n,c,s))) X) X) X) (cond (inR a b.length) (let i:=N b a.toNat (0,0)
 let m:Int:=if i.2>d then i.2 else d
 let u:=w64 (a+1)
 K (.inl (b,v,m,u,f,k,g,n,c,l))) X)) X) (K (.inr (b,v,d,f,k,g,n,c,l)))) X) (K (.inr (b,v,d,f,k,g,n,c,l)))
def Fg[LP](f:ah)(j k c:J)(d:ah)(b e g a:J)(i:ah):M (ah×J×J×ah×J×J×J×J×ah):=LP.lp (u8 unc2 j4e) (f,j,k,c,d,b,e,g,a,i)
theorem XS(f j k c d b e g a i):Fg f j k c d b e g a i=lpK (j4e f j k c d b e g a i) (λh=>Fg h.1 h.2.1 h.2.2.1 h.2.2.2.1 h.2.2.2.2.1 h.2.2.2.2.2.1 h.2.2.2.2.2.2.1 h.2.2.2.2.2.2.2.1 h.2.2.2.2.2.2.2.2.1 h.2.2.2.2.2.2.2.2.2):=bj _ _
def j4f[LP](m:ah)(n:J)(f:ah)(k d:J)(l:ah):M ((ah×J×ah×J×J×ah) ⊕ (ah)):=cond (L (d<k)) (cond (inR d f.length) (let c:=N f d.toNat (0,0)
 (IP m n f k d c.1 c.2 l).bind λb=>(Fg b.1 b.2.1 b.2.2.2.2.2.1 b.2.1 b.2.2.1 b.2.2.2.1 b.2.2.2.2.1 b.2.2.2.2.2.1 b.2.2.2.2.2.2.1 b.2.2.2.2.2.2.2).bind λa=>cond (L (a.2.2.1<a.2.2.2.2.2.2.2.1)) (let e:ah:=[(a.2.2.1,a.2.2.2.2.2.2.2.1)]
 cond (L (U a.2.2.2.2.2.2.2.2+U e<=aG)) (let j:ah:=a.2.2.2.2.2.2.2.2++e
 let g:=w64 (a.2.2.2.2.2.1+1)
 K (.inl (a.1,a.2.1,a.2.2.2.1,a.2.2.2.2.1,g,j))) X) (let i:=w64 (a.2.2.2.2.2.1+1)
 K (.inl (a.1,a.2.1,a.2.2.2.1,a.2.2.2.2.1,i,a.2.2.2.2.2.2.2.2)))) X) (K (.inr l))
def Cm[LP](d:ah)(f:J)(b:ah)(a c:J)(e:ah):M ah:=LP.lp (unc6 j4f) (d,f,b,a,c,e)
theorem XU(d f b a c e):Cm d f b a c e=lpK (j4f d f b a c e) (λh=>Cm h.1 h.2.1 h.2.2.1 h.2.2.2.1 h.2.2.2.2.1 h.2.2.2.2.2):=bj _ _
def j2Y[LP](a b:ah):M ah:=
 let c:=S a.length
 (Cm b 0 a c 0 ([]:ah)).bind λd=>K d
def j6k(a b:ah)(d c:J)(n:ah):M ((ah×ah×J×J×ah) ⊕ (ah)):=
 let x:=S a.length
 let q:=S b.length
 cond (cond (L (d<x)) (L (c<q)) Z) (cond (inR d a.length) (let l:=N a d.toNat (0,0)
 cond (inR c b.length) (let m:=N b c.toNat (0,0)
 let e:Int:=if m.1>l.1 then m.1 else l.1
 cond (inR d a.length) (let j:=N a d.toNat (0,0)
 cond (inR c b.length) (let k:=N b c.toNat (0,0)
 let g:Int:=if k.2<j.2 then k.2 else j.2
 cond (L (e<g)) (let f:ah:=[(e,g)]
 cond (L (U n+U f<=aG)) (let i:ah:=n++f
 cond (inR d a.length) (let t:=N a d.toNat (0,0)
 cond (inR c b.length) (let u:=N b c.toNat (0,0)
 cond (L (t.2<u.2)) (let v:=w64 (d+1)
 K (.inl (a,b,v,c,i))) (let w:=w64 (c+1)
 K (.inl (a,b,d,w,i)))) X) X) X) (cond (inR d a.length) (let s:=N a d.toNat (0,0)
 cond (inR c b.length) (let p:=N b c.toNat (0,0)
 cond (L (s.2<p.2)) (let o:=w64 (d+1)
 K (.inl (a,b,o,c,n))) (let r:=w64 (c+1)
 K (.inl (a,b,d,r,n)))) X) X)) X) X) X) X) (K (.inr n))
def Ae[LP](c a:ah)(e d:J)(b:ah):M ah:=LP.lp (unc5 j6k) (c,a,e,d,b)
theorem jlo(c a e d b):Ae c a e d b=lpK (j6k c a e d b) (λh=>Ae h.1 h.2.1 h.2.2.1 h.2.2.2.1 h.2.2.2.2):=bj _ _
def jcQ[LP](b a:ah):M ah:=(Ae b a 0 0 ([]:ah)).bind λc=>K c
def j7n[LP](a:iR)(b:eB)(d c:J):M ah:=cond (inR b.2.1 a.2.length) (let r:=N a.2 b.2.1.toNat (0,([]:ah))
 (j0V (r.1,r.2) (b.1,(b.2.1,((b.2.2.1.1,b.2.2.1.2),(b.2.2.2.1,(b.2.2.2.2.1,(b.2.2.2.2.2.1,(b.2.2.2.2.2.2.1,(b.2.2.2.2.2.2.2.1,b.2.2.2.2.2.2.2.2)))))))) 0).bind λi=>cond (cond (cond (!i.2) Á (L (i.1>=c))) Á (L (d>=c))) (K ([]:ah)) (let e:Int:=if i.1>d then i.1 else d
 let m:ah:=[(e,c)]
 let v:=S b.2.2.2.2.2.2.1.length
 cond (L (v>0)) (cond (inR b.2.1 a.2.length) (let s:=N a.2 b.2.1.toNat (0,([]:ah))
 (j6b (s.1,s.2) b.2.2.2.2.2.2.1 e c).bind λl=>cond (b.2.2.2.2.2.2.2.2==1) (cond (inR b.2.2.2.2.2.2.2.1 a.1.2.2.1.length) (let k:=N a.1.2.2.1 b.2.2.2.2.2.2.2.1.toNat (Y,(0,([]:(W J))))
 (j2g ((a.1.1,(a.1.2.1,(a.1.2.2.1,a.1.2.2.2))),a.2) (k.1,(k.2.1,k.2.2)) e c).bind λw=>(j2Y l w).bind λu=>K u) X) (cond (b.2.2.2.2.2.2.2.2==2) (cond (inR b.2.2.2.2.2.2.2.1 a.1.2.2.1.length) (let j:=N a.1.2.2.1 b.2.2.2.2.2.2.2.1.toNat (Y,(0,([]:(W J))))
 (j2g ((a.1.1,(a.1.2.1,(a.1.2.2.1,a.1.2.2.2))),a.2) (j.1,(j.2.1,j.2.2)) e c).bind λt=>(jcQ l t).bind λx=>K x) X) (K l))) X) (cond (b.2.2.2.2.2.2.2.2==1) (cond (inR b.2.2.2.2.2.2.2.1 a.1.2.2.1.length) (let g:=N a.1.2.2.1 b.2.2.2.2.2.2.2.1.toNat (Y,(0,([]:(W J))))
 (j2g ((a.1.1,(a.1.2.1,(a.1.2.2.1,a.1.2.2.2))),a.2) (g.1,(g.2.1,g.2.2)) e c).bind λo=>(j2Y m o).bind λq=>K q) X) (cond (b.2.2.2.2.2.2.2.2==2) (cond (inR b.2.2.2.2.2.2.2.1 a.1.2.2.1.length) (let f:=N a.1.2.2.1 b.2.2.2.2.2.2.2.1.toNat (Y,(0,([]:(W J))))
 (j2g ((a.1.1,(a.1.2.1,(a.1.2.2.1,a.1.2.2.2))),a.2) (f.1,(f.2.1,f.2.2)) e c).bind λn=>(jcQ m n).bind λp=>K p) X) (K m))))) X
def j7P[LP](a:gi)(b:J):M Int:=(j6A (a.1,a.2) b).bind λc=>(j4u (a.1,a.2) c).bind λd=>K d
def ji5(a:J):M (J×J):=
 let e:=w64 (Ç a 86400)
 let i:=Â a 86400
 cond (L (i<0)) (let d:=w64 (e-1)
 let f:=w64 (d*86400)
 let g:=w64 (a-f)
 K (d,g)) (let c:=w64 (e*86400)
 let b:=w64 (a-c)
 K (e,b))
def j0p[LP](b:gi)(a:J):M (J×J):=(j7P (b.1,b.2) a).bind λe=>let d:=w64 (a+e)
 (ji5 d).bind λc=>K (c.1,c.2)
def j3w[LP](q m n:J)(f:ah)(p:O)(a i g k j:J)(b:W J)(c:ah)(e d:J):M ((J×J×J×ah×O×J×J×J×J×J×(W J)×ah×J×J) ⊕ (J×J×J×ah×O×J×J×J×J×J×(W J)×ah×J×J)):=cond (L (m>0)) ((j0V (n,f) (p,(a,((i,g),(k,(j,(b,(c,(e,d)))))))) m).bind λl=>cond (cond l.2 (L (l.1<=q)) Z) (K (.inr (q,m,n,f,p,a,i,g,k,j,b,c,e,d))) (let o:=w64 (m-1)
 K (.inl (q,o,n,f,p,a,i,g,k,j,b,c,e,d)))) (K (.inr (q,m,n,f,p,a,i,g,k,j,b,c,e,d)))
def IQ[LP](n o l:J)(f:ah)(m:O)(a i g k j:J)(b:W J)(c:ah)(e d:J):M (J×J×J×ah×O×J×J×J×J×J×(W J)×ah×J×J):=LP.lp (u8 unc6 j3w) (n,o,l,f,m,a,i,g,k,j,b,c,e,d)
theorem XV(n o l f m a i g k j b c e d):IQ n o l f m a i g k j b c e d=lpK (j3w n o l f m a i g k j b c e d) (λh=>IQ h.1 h.2.1 h.2.2.1 h.2.2.2.1 h.2.2.2.2.1 h.2.2.2.2.2.1 h.2.2.2.2.2.2.1 h.2.2.2.2.2.2.2.1 h.2.2.2.2.2.2.2.2.1 h.2.2.2.2.2.2.2.2.2.1 h.2.2.2.2.2.2.2.2.2.2.1 h.2.2.2.2.2.2.2.2.2.2.2.1 h.2.2.2.2.2.2.2.2.2.2.2.2.1 h.2.2.2.2.2.2.2.2.2.2.2.2.2):=bj _ _
def j56[LP](r o p:J)(g:ah)(q:O)(b j i l k:J)(c:W J)(d:ah)(f e:J):M ((J×J×J×ah×O×J×J×J×J×J×(W J)×ah×J×J) ⊕ (J)):=
 let n:=w64 (o+1)
 (j0V (p,g) (q,(b,((j,i),(l,(k,(c,(d,(f,e)))))))) n).bind λa=>cond (cond (!a.2) Á (L (a.1>r))) (K (.inr o)) (let m:=w64 (o+1)
 K (.inl (r,m,p,g,q,b,j,i,l,k,c,d,f,e)))
def IU[LP](n o l:J)(f:ah)(m:O)(a i g k j:J)(b:W J)(c:ah)(e d:J):M Int:=LP.lp (u8 unc6 j56) (n,o,l,f,m,a,i,g,k,j,b,c,e,d)
theorem jj8(n o l f m a i g k j b c e d):IU n o l f m a i g k j b c e d=lpK (j56 n o l f m a i g k j b c e d) (λh=>IU h.1 h.2.1 h.2.2.1 h.2.2.2.1 h.2.2.2.2.1 h.2.2.2.2.2.1 h.2.2.2.2.2.2.1 h.2.2.2.2.2.2.2.1 h.2.2.2.2.2.2.2.2.1 h.2.2.2.2.2.2.2.2.2.1 h.2.2.2.2.2.2.2.2.2.2.1 h.2.2.2.2.2.2.2.2.2.2.2.1 h.2.2.2.2.2.2.2.2.2.2.2.2.1 h.2.2.2.2.2.2.2.2.2.2.2.2.2):=bj _ _
def j2o[LP](c:gi)(a:eB)(d:J):M Int:=(j0V (c.1,c.2) (a.1,(a.2.1,((a.2.2.1.1,a.2.2.1.2),(a.2.2.2.1,(a.2.2.2.2.1,(a.2.2.2.2.2.1,(a.2.2.2.2.2.2.1,(a.2.2.2.2.2.2.2.1,a.2.2.2.2.2.2.2.2)))))))) 0).bind λe=>cond (cond (!e.2) Á (L (e.1>d))) (K (-1)) (cond (a.2.2.2.1==0) (let l:=w64 (d-e.1)
 let f:=w64 (3600*a.2.2.2.2.1)
 cond (!(f==0)) (let m:=w64 (Ç l f)
 K m) X) ((j0p (c.1,c.2) d).bind λk=>let n:=w64 (k.1-a.2.2.1.1)
 (jaw (a.1,(a.2.1,((a.2.2.1.1,a.2.2.1.2),(a.2.2.2.1,(a.2.2.2.2.1,(a.2.2.2.2.2.1,(a.2.2.2.2.2.2.1,(a.2.2.2.2.2.2.2.1,a.2.2.2.2.2.2.2.2))))))))).bind λi=>cond (!(i==0)) (let g:=w64 (Ç n i)
 let j:Int:=if g>0 then g else 0
 (IQ d j c.1 c.2 a.1 a.2.1 a.2.2.1.1 a.2.2.1.2 a.2.2.2.1 a.2.2.2.2.1 a.2.2.2.2.2.1 a.2.2.2.2.2.2.1 a.2.2.2.2.2.2.2.1 a.2.2.2.2.2.2.2.2).bind λb=>(IU b.1 b.2.1 b.2.2.1 b.2.2.2.1 b.2.2.2.2.1 b.2.2.2.2.2.1 b.2.2.2.2.2.2.1 b.2.2.2.2.2.2.2.1 b.2.2.2.2.2.2.2.2.1 b.2.2.2.2.2.2.2.2.2.1 b.2.2.2.2.2.2.2.2.2.2.1 b.2.2.2.2.2.2.2.2.2.2.2.1 b.2.2.2.2.2.2.2.2.2.2.2.2.1 b.2.2.2.2.2.2.2.2.2.2.2.2.2).bind λo=>K o) X))
def j57(f:ak)(m e:J)(b:ak):M ((ak×J×J×ak) ⊕ (ak)):=cond (L (e<m)) (cond (inR e f.length) (let a:=N f e.toNat (0,(0,0))
 cond (L (a.2.1<=a.1)) (let u:=w64 (e+1)
 K (.inl (f,m,u,b))) (let d:=S b.length
 cond (L (d>0)) (let l:=w64 (d-1)
 cond (inR l b.length) (let s:=(N b l.toNat (0,(0,0))).2.1
 cond (s==a.1) (let k:=w64 (d-1)
 cond (inR k b.length) (let q:=(N b k.toNat (0,(0,0))).2.2
 cond (q==a.2.2) (let c:=w64 (d-1)
 cond (inR c b.length) (let x:ak:=É b c.toNat ((N b c.toNat (0,(0,0))).1,(a.2.1,(N b c.toNat (0,(0,0))).2.2))
 let p:=w64 (e+1)
 K (.inl (f,m,p,x))) X) (let i:ak:=[(a.1,(a.2.1,a.2.2))]
 cond (L (U b+U i<=aG)) (let v:ak:=b++i
 let t:=w64 (e+1)
 K (.inl (f,m,t,v))) X)) X) (let g:ak:=[(a.1,(a.2.1,a.2.2))]
 cond (L (U b+U g<=aG)) (let w:ak:=b++g
 let n:=w64 (e+1)
 K (.inl (f,m,n,w))) X)) X) (let j:ak:=[(a.1,(a.2.1,a.2.2))]
 cond (L (U b+U j<=aG)) (let r:ak:=b++j
 let o:=w64 (e+1)
 K (.inl (f,m,o,r))) X))) X) (K (.inr b))
def Cn[LP](b:ak)(c d:J)(a:ak):M ak:=LP.lp (unc4 j57) (b,c,d,a)
theorem XW(d b c a):Cn d b c a=lpK (j57 d b c a) (λh=>Cn h.1 h.2.1 h.2.2.1 h.2.2.2):=bj _ _
def jax[LP](a:ak):M ak:=
 let b:=S a.length
 (Cn a b 0 ([]:ak)).bind λc=>K c
def j33[LP](b5 o b2 r a6 a1:J)(a7:O)(f g m j i:J)(a:W J)(e:ah)(k l p:J)(c:ah)(a9 b:J)(z:ak)(a4:ah):M ((J×J×J×J×J×J×O×J×J×J×J×J×(W J)×ah×J×J×J×ah×J×J×ak×ah) ⊕ (J×J×J×J×J×J×O×J×J×J×J×J×(W J)×ah×J×J×J×ah×ak×ah)):=cond (L (o<b)) (cond (L (o>=r)) ((j2o (p,c) (a7,(f,((g,m),(j,(i,(a,(e,(k,l)))))))) o).bind λd=>let b7:=w64 (d+1)
 (j0V (p,c) (a7,(f,((g,m),(j,(i,(a,(e,(k,l)))))))) b7).bind λn=>cond (!n.2) (let a0:Int:=if 8589934593<b then 8589934593 else b
 let a3:=S a.length
 cond (!(a3==0)) (let a5:=Â d a3
 cond (inR a5 a.length) (let b6:=N a a5.toNat 0
 let a2:ak:=[(o,(a0,b6))]
 cond (L (U z+U a2<=aG)) (let b4:ak:=z++a2
 K (.inl (b5,a0,d,8589934593,a6,a1,a7,f,g,m,j,i,a,e,k,l,p,c,a9,b,b4,a4))) X) X) X) (let t:Int:=if n.1<b then n.1 else b
 let w:=S a.length
 cond (!(w==0)) (let u:=Â d w
 cond (inR u a.length) (let b3:=N a u.toNat 0
 let s:ak:=[(o,(t,b3))]
 cond (L (U z+U s<=aG)) (let b0:ak:=z++s
 K (.inl (b5,t,d,n.1,a6,a1,a7,f,g,m,j,i,a,e,k,l,p,c,a9,b,b0,a4))) X) X) X)) (let q:Int:=if r<b then r else b
 let y:=S a.length
 cond (!(y==0)) (let x:=Â b2 y
 cond (inR x a.length) (let b1:=N a x.toNat 0
 let v:ak:=[(o,(q,b1))]
 cond (L (U z+U v<=aG)) (let a8:ak:=z++v
 K (.inl (b5,q,b2,r,a6,a1,a7,f,g,m,j,i,a,e,k,l,p,c,a9,b,a8,a4))) X) X) X)) (K (.inr (b5,o,b2,r,a6,a1,a7,f,g,m,j,i,a,e,k,l,p,c,z,a4)))
def Fh[LP](v m s p t o:J)(w:O)(e f l i g:J)(d:W J)(c:ah)(j k q:J)(b:ah)(n a:J)(u:ak)(r:ah):M (J×J×J×J×J×J×O×J×J×J×J×J×(W J)×ah×J×J×J×ah×ak×ah):=LP.lp (u8 (u8 unc6) j33) (v,m,s,p,t,o,w,e,f,l,i,g,d,c,j,k,q,b,n,a,u,r)
theorem jfb(v m s p t o w e f l i g d c j k q b n a u r):Fh v m s p t o w e f l i g d c j k q b n a u r=lpK (j33 v m s p t o w e f l i g d c j k q b n a u r) (λh=>Fh h.1 h.2.1 h.2.2.1 h.2.2.2.1 h.2.2.2.2.1 h.2.2.2.2.2.1 h.2.2.2.2.2.2.1 h.2.2.2.2.2.2.2.1 h.2.2.2.2.2.2.2.2.1 h.2.2.2.2.2.2.2.2.2.1 h.2.2.2.2.2.2.2.2.2.2.1 h.2.2.2.2.2.2.2.2.2.2.2.1 h.2.2.2.2.2.2.2.2.2.2.2.2.1 h.2.2.2.2.2.2.2.2.2.2.2.2.2.1 h.2.2.2.2.2.2.2.2.2.2.2.2.2.2.1 h.2.2.2.2.2.2.2.2.2.2.2.2.2.2.2.1 h.2.2.2.2.2.2.2.2.2.2.2.2.2.2.2.2.1 h.2.2.2.2.2.2.2.2.2.2.2.2.2.2.2.2.2.1 h.2.2.2.2.2.2.2.2.2.2.2.2.2.2.2.2.2.2.1 h.2.2.2.2.2.2.2.2.2.2.2.2.2.2.2.2.2.2.2.1 h.2.2.2.2.2.2.2.2.2.2.2.2.2.2.2.2.2.2.2.2.1 h.2.2.2.2.2.2.2.2.2.2.2.2.2.2.2.2.2.2.2.2.2):=bj _ _
def j25[LP](v j y w k d:J)(z:O)(n p u r q:J)(m:W J)(l:ah)(s t x:J)(i:ah)(o:ak)(e:ah):M ((J×J×J×J×J×J×O×J×J×J×J×J×(W J)×ah×J×J×J×ah×ak×ah) ⊕ (J×J×ak)):=cond (L (d<k)) (cond (inR d e.length) (let b:=N e d.toNat (0,0)
 let c:ak:=[(j,(b.1,(-1)))]
 cond (L (U o+U c<=aG)) (let f:ak:=o++c
 (Fh v b.1 y w k d z n p u r q m l s t x i b.1 b.2 f e).bind λa=>let g:=w64 (a.2.2.2.2.2.1+1)
 K (.inl (a.1,a.2.1,a.2.2.1,a.2.2.2.1,a.2.2.2.2.1,g,a.2.2.2.2.2.2.1,a.2.2.2.2.2.2.2.1,a.2.2.2.2.2.2.2.2.1,a.2.2.2.2.2.2.2.2.2.1,a.2.2.2.2.2.2.2.2.2.2.1,a.2.2.2.2.2.2.2.2.2.2.2.1,a.2.2.2.2.2.2.2.2.2.2.2.2.1,a.2.2.2.2.2.2.2.2.2.2.2.2.2.1,a.2.2.2.2.2.2.2.2.2.2.2.2.2.2.1,a.2.2.2.2.2.2.2.2.2.2.2.2.2.2.2.1,a.2.2.2.2.2.2.2.2.2.2.2.2.2.2.2.2.1,a.2.2.2.2.2.2.2.2.2.2.2.2.2.2.2.2.2.1,a.2.2.2.2.2.2.2.2.2.2.2.2.2.2.2.2.2.2.1,a.2.2.2.2.2.2.2.2.2.2.2.2.2.2.2.2.2.2.2))) X) X) (K (.inr (v,j,o)))
def Fi[LP](t l q n r m:J)(u:O)(d e k g f:J)(c:W J)(b:ah)(i j o:J)(a:ah)(s:ak)(p:ah):M (J×J×ak):=LP.lp (u8 (u8 unc4) j25) (t,l,q,n,r,m,u,d,e,k,g,f,c,b,i,j,o,a,s,p)
theorem XX(t l q n r m u d e k g f c b i j o a s p):Fi t l q n r m u d e k g f c b i j o a s p=lpK (j25 t l q n r m u d e k g f c b i j o a s p) (λh=>Fi h.1 h.2.1 h.2.2.1 h.2.2.2.1 h.2.2.2.2.1 h.2.2.2.2.2.1 h.2.2.2.2.2.2.1 h.2.2.2.2.2.2.2.1 h.2.2.2.2.2.2.2.2.1 h.2.2.2.2.2.2.2.2.2.1 h.2.2.2.2.2.2.2.2.2.2.1 h.2.2.2.2.2.2.2.2.2.2.2.1 h.2.2.2.2.2.2.2.2.2.2.2.2.1 h.2.2.2.2.2.2.2.2.2.2.2.2.2.1 h.2.2.2.2.2.2.2.2.2.2.2.2.2.2.1 h.2.2.2.2.2.2.2.2.2.2.2.2.2.2.2.1 h.2.2.2.2.2.2.2.2.2.2.2.2.2.2.2.2.1 h.2.2.2.2.2.2.2.2.2.2.2.2.2.2.2.2.2.1 h.2.2.2.2.2.2.2.2.2.2.2.2.2.2.2.2.2.2.1 h.2.2.2.2.2.2.2.2.2.2.2.2.2.2.2.2.2.2.2):=bj _ _
def j2K[LP](b:iR)(a:eB)(c d:J):M ak:=cond (inR a.2.1 b.2.length) (let g:=N b.2 a.2.1.toNat (0,([]:ah))
 (j7n ((b.1.1,(b.1.2.1,(b.1.2.2.1,b.1.2.2.2))),b.2) (a.1,(a.2.1,((a.2.2.1.1,a.2.2.1.2),(a.2.2.2.1,(a.2.2.2.2.1,(a.2.2.2.2.2.1,(a.2.2.2.2.2.2.1,(a.2.2.2.2.2.2.2.1,a.2.2.2.2.2.2.2.2)))))))) c d).bind λi=>let k:=S i.length
 (Fi d c (-1) (-1) k 0 a.1 a.2.1 a.2.2.1.1 a.2.2.1.2 a.2.2.2.1 a.2.2.2.2.1 a.2.2.2.2.2.1 a.2.2.2.2.2.2.1 a.2.2.2.2.2.2.2.1 a.2.2.2.2.2.2.2.2 g.1 g.2 ([]:ak) i).bind λe=>let f:ak:=[(e.2.1,(e.1,(-1)))]
 cond (L (U e.2.2+U f<=aG)) (let j:ak:=e.2.2++f
 (jax j).bind λl=>K l) X) X
def j4g(k:J)(i:aJ)(d b:J)(e:ah):M ((J×aJ×J×J×ah) ⊕ (ah)):=cond (L (b<d)) (cond (inR b i.length) (let a:=N i b.toNat (0,(0,(0,(0,0))))
 cond (cond (a.1==0) (a.2.1==k) Z) (let c:ah:=[(a.2.2.2.1,a.2.2.2.2)]
 cond (L (U e+U c<=aG)) (let g:ah:=e++c
 let f:=w64 (b+1)
 K (.inl (k,i,d,f,g))) X) (let j:=w64 (b+1)
 K (.inl (k,i,d,j,e)))) X) (K (.inr e))
def Fj[LP](c:J)(e:aJ)(a b:J)(d:ah):M ah:=LP.lp (unc5 j4g) (c,e,a,b,d)
theorem XY(c e a b d):Fj c e a b d=lpK (j4g c e a b d) (λh=>Fj h.1 h.2.1 h.2.2.1 h.2.2.2.1 h.2.2.2.2):=bj _ _
def j7p[LP](b:iQ)(a:J):M ah:=
 let c:=S b.2.2.length
 (Fj a b.2.2 c 0 ([]:ah)).bind λe=>(j9h e).bind λd=>K d
def j3z(l:ak)(k m n c:J)(q:O)(g:aK)(d:aJ)(s o e:J)(r:ct)(p:ak)(f:ah):M ((ak×J×J×J×J×O×aK×aJ×J×J×J×ct×ak×ah) ⊕ (ak×J×J×O×aK×aJ×ct×ak)):=cond (L (c<n)) (cond (inR c f.length) (let b:=N f c.toNat (0,0)
 let a:ak:=[(b.1,(b.2,e))]
 cond (L (U p+U a<=aG)) (let i:ak:=p++a
 let j:=w64 (c+1)
 K (.inl (l,k,m,n,j,q,g,d,s,o,e,r,i,f))) X) X) (K (.inr (l,k,m,q,g,d,r,p)))
def Af[LP](g:ak)(e i k f:J)(l:O)(d:aK)(b:aJ)(n a c:J)(o:ct)(m:ak)(j:ah):M (ak×J×J×O×aK×aJ×ct×ak):=LP.lp (u8 unc6 j3z) (g,e,i,k,f,l,d,b,n,a,c,o,m,j)
theorem XZ(g e i k f l d b n a c o m j):Af g e i k f l d b n a c o m j=lpK (j3z g e i k f l d b n a c o m j) (λh=>Af h.1 h.2.1 h.2.2.1 h.2.2.2.1 h.2.2.2.2.1 h.2.2.2.2.2.1 h.2.2.2.2.2.2.1 h.2.2.2.2.2.2.2.1 h.2.2.2.2.2.2.2.2.1 h.2.2.2.2.2.2.2.2.2.1 h.2.2.2.2.2.2.2.2.2.2.1 h.2.2.2.2.2.2.2.2.2.2.2.1 h.2.2.2.2.2.2.2.2.2.2.2.2.1 h.2.2.2.2.2.2.2.2.2.2.2.2.2):=bj _ _
def j3A[LP](g:ak)(k d:J)(x:O)(e:aK)(f:aJ)(l:ct)(o:ak):M ((ak×J×J×O×aK×aJ×ct×ak) ⊕ (ak)):=cond (L (d<k)) (cond (inR d g.length) (let a:=N g d.toNat (0,(0,0))
 cond (L (a.2.2<0)) (let q:=w64 (d+1)
 K (.inl (g,k,q,x,e,f,l,o))) (let z:ah:=hQ ([]:ah) l a.2.2
 cond (!(jH l a.2.2)) ((j7p (x,(e,f)) a.2.2).bind λs=>let m:ct:=iI l a.2.2 s
 let w:ah:=[(a.1,a.2.1)]
 let v:ah:=hQ ([]:ah) m a.2.2
 (j2Y w v).bind λi=>let u:=S i.length
 (Af g k d u 0 x e f a.1 a.2.1 a.2.2 m o i).bind λc=>let t:=w64 (c.2.2.1+1)
 K (.inl (c.1,c.2.1,t,c.2.2.2.1,c.2.2.2.2.1,c.2.2.2.2.2.1,c.2.2.2.2.2.2.1,c.2.2.2.2.2.2.2))) (let r:ah:=[(a.1,a.2.1)]
 let y:ah:=hQ ([]:ah) l a.2.2
 (j2Y r y).bind λj=>let p:=S j.length
 (Af g k d p 0 x e f a.1 a.2.1 a.2.2 l o j).bind λb=>let n:=w64 (b.2.2.1+1)
 K (.inl (b.1,b.2.1,n,b.2.2.2.1,b.2.2.2.2.1,b.2.2.2.2.2.1,b.2.2.2.2.2.2.1,b.2.2.2.2.2.2.2))))) X) (K (.inr o))
def Co[LP](d:ak)(c e:J)(f:O)(b:aK)(a:aJ)(i:ct)(g:ak):M ak:=LP.lp (unc8 j3A) (d,c,e,f,b,a,i,g)
theorem X0(d c e f b a i g):Co d c e f b a i g=lpK (j3A d c e f b a i g) (λh=>Co h.1 h.2.1 h.2.2.1 h.2.2.2.1 h.2.2.2.2.1 h.2.2.2.2.2.1 h.2.2.2.2.2.2.1 h.2.2.2.2.2.2.2):=bj _ _
def j9K[LP](a:iQ)(b:ak):M ak:=
 let c:ct:=[]
 let d:=S b.length
 (Co b d 0 a.1 a.2.1 a.2.2 c ([]:ak)).bind λe=>K e
def j5H(a:ak)(c:ah)(b d:J)(n:ak):M ((ak×ah×J×J×ak) ⊕ (ak)):=
 let y:=S a.length
 let t:=S c.length
 cond (cond (L (b<y)) (L (d<t)) Z) (cond (inR b a.length) (let l:=N a b.toNat (0,(0,0))
 cond (inR d c.length) (let m:=N c d.toNat (0,0)
 let e:Int:=if m.1>l.1 then m.1 else l.1
 cond (inR b a.length) (let j:=N a b.toNat (0,(0,0))
 cond (inR d c.length) (let k:=N c d.toNat (0,0)
 let g:Int:=if k.2<j.2.1 then k.2 else j.2.1
 cond (inR b a.length) (let s:=N a b.toNat (0,(0,0))
 cond (L (e<g)) (let i:ak:=[(e,(g,s.2.2))]
 cond (L (U n+U i<=aG)) (let f:ak:=n++i
 cond (inR b a.length) (let u:=N a b.toNat (0,(0,0))
 cond (inR d c.length) (let v:=N c d.toNat (0,0)
 cond (L (u.2.1<v.2)) (let w:=w64 (b+1)
 K (.inl (a,c,w,d,f))) (let x:=w64 (d+1)
 K (.inl (a,c,b,x,f)))) X) X) X) (cond (inR b a.length) (let q:=N a b.toNat (0,(0,0))
 cond (inR d c.length) (let p:=N c d.toNat (0,0)
 cond (L (q.2.1<p.2)) (let o:=w64 (b+1)
 K (.inl (a,c,o,d,n))) (let r:=w64 (d+1)
 K (.inl (a,c,b,r,n)))) X) X)) X) X) X) X) X) (K (.inr n))
def Ag[LP](c:ak)(a:ah)(e d:J)(b:ak):M ak:=LP.lp (unc5 j5H) (c,a,e,d,b)
theorem jka(c a e d b):Ag c a e d b=lpK (j5H c a e d b) (λh=>Ag h.1 h.2.1 h.2.2.1 h.2.2.2.1 h.2.2.2.2):=bj _ _
def je3[LP](b:ak)(a:ah):M ak:=(Ag b a 0 0 ([]:ak)).bind λc=>K c
def j4F(g:ak)(i d:J)(f:ah):M ((ak×J×J×ah) ⊕ (ah)):=cond (L (d<i)) (cond (inR d g.length) (let b:=N g d.toNat (0,(0,0))
 let a:ah:=[(b.1,b.2.1)]
 cond (L (U f+U a<=aG)) (let c:ah:=f++a
 let e:=w64 (d+1)
 K (.inl (g,i,e,c))) X) X) (K (.inr f))
def Fk[LP](d:ak)(c b:J)(a:ah):M ah:=LP.lp (unc4 j4F) (d,c,b,a)
theorem X1(d c b a):Fk d c b a=lpK (j4F d c b a) (λh=>Fk h.1 h.2.1 h.2.2.1 h.2.2.2):=bj _ _
def jcU[LP](a:ak):M ah:=
 let d:=S a.length
 (Fk a d 0 ([]:ah)).bind λc=>(j9h c).bind λb=>K b
def j3f(b a:sv):M Int:=
 let c:=w64 (b.1-a.1)
 K c
def j0v(a:ak):M ak:=
 xl (.pair (.int .i64) (.pair (.int .i64) (.int .i64))) (λb c=>(j3f b c).getD 0) a
def j2t[LP](o:J)(f:aK)(t:ai)(g:aj)(l:al)(k:ao)(j:ct)(w:O)(e:aK)(i:aJ)(u v:J)(d:ah)(c:ak):M ((J×aK×ai×aj×al×ao×ct×O×aK×aJ×J×J×ah×ak) ⊕ (ah×ak)):=cond (L (o<=0)) (K (.inr (d,c))) (cond (L (o<=S f.length)) (let q:Int:=o-1
 let a:=N f q.toNat (Y,(0,((0,0),(0,(0,(([]:(W J)),(([]:ah),(0,0))))))))
 (j2K ((t,(g,(l,k))),j) (a.1,(a.2.1,((a.2.2.1.1,a.2.2.1.2),(a.2.2.2.1,(a.2.2.2.2.1,(a.2.2.2.2.2.1,(a.2.2.2.2.2.2.1,(a.2.2.2.2.2.2.2.1,a.2.2.2.2.2.2.2.2)))))))) u v).bind λr=>(j9K (w,(e,i)) r).bind λs=>(je3 s d).bind λb=>cond (L (U c+U b<=aG)) (let n:ak:=c++b
 (jcU b).bind λm=>(j2Y d m).bind λp=>K (.inl ((o-1),f,t,g,l,k,j,w,e,i,u,v,p,n))) X) X)
def Fl[LP](n:J)(j:aK)(k:ai)(b:aj)(e:al)(i:ao)(g:ct)(m:O)(d:aK)(c:aJ)(l o:J)(f:ah)(a:ak):M (ah×ak):=LP.lp (u8 unc6 j2t) (n,j,k,b,e,i,g,m,d,c,l,o,f,a)
theorem X2(n j k b e i g m d c l o f a):Fl n j k b e i g m d c l o f a=lpK (j2t n j k b e i g m d c l o f a) (λh=>Fl h.1 h.2.1 h.2.2.1 h.2.2.2.1 h.2.2.2.2.1 h.2.2.2.2.2.1 h.2.2.2.2.2.2.1 h.2.2.2.2.2.2.2.1 h.2.2.2.2.2.2.2.2.1 h.2.2.2.2.2.2.2.2.2.1 h.2.2.2.2.2.2.2.2.2.2.1 h.2.2.2.2.2.2.2.2.2.2.2.1 h.2.2.2.2.2.2.2.2.2.2.2.2.1 h.2.2.2.2.2.2.2.2.2.2.2.2.2):=bj _ _
def j2u(i b:J)(e:ah)(a:ak):M ((J×J×ah×ak) ⊕ (ak)):=cond (L (b<i)) (cond (inR b e.length) (let c:=N e b.toNat (0,0)
 let d:ak:=[(c.1,(c.2,(-1)))]
 cond (L (U a+U d<=aG)) (let f:ak:=a++d
 let g:=w64 (b+1)
 K (.inl (i,g,e,f))) X) X) (K (.inr a))
def Fm[LP](d b:J)(c:ah)(a:ak):M ak:=LP.lp (unc4 j2u) (d,b,c,a)
theorem X3(d b c a):Fm d b c a=lpK (j2u d b c a) (λh=>Fm h.1 h.2.1 h.2.2.1 h.2.2.2):=bj _ _
def j4V[LP](b:iR)(c:iQ)(a d:J):M ak:=cond (L (a>=d)) (K ([]:ak)) (let j:ah:=[(a,d)]
 (j0X c.2.1).bind λe=>(Fl (S e.length) e b.1.1 b.1.2.1 b.1.2.2.1 b.1.2.2.2 b.2 c.1 c.2.1 c.2.2 a d j ([]:ak)).bind λf=>let i:=S f.1.length
 (Fm i 0 f.1 f.2).bind λl=>(j0v l).bind λg=>(jax g).bind λk=>K k)
def jce(a:J):M Bool:=K (a != a)
def je4(b a:J):M Bool:=(jce b).bind λc=>cond c ((jce a).bind λd=>K (cond (!d) Á (L (b<a)))) (K (L (b<a)))
def j6B(a:J):M Bool:=K (a != a)
def j1B(b:W J)(d m j l:J):M (((W J)×J×J×J×J) ⊕ ((W J)×J×J×J)):=cond (L (j<l)) (let i:=w64 (j+l)
 let k:Int:=IntKind.wrap .u64 i
 let f:Int:=Î k 2
 let a:=w64 f
 cond (inR a b.length) (let g:=N b a.toNat 0
 (je4 g d).bind λc=>cond c (let e:=w64 (a+1)
 K (.inl (b,d,m,e,l))) (K (.inl (b,d,m,j,a)))) X) (K (.inr (b,d,m,j)))
def IV[LP](b:W J)(a e d c:J):M ((W J)×J×J×J):=LP.lp (unc5 j1B) (b,a,e,d,c)
theorem j9L(b a e d c):IV b a e d c=lpK (j1B b a e d c) (λh=>IV h.1 h.2.1 h.2.2.1 h.2.2.2.1 h.2.2.2.2):=bj _ _
def j0u[LP](c:W J)(b:J):M (J×Ã):=
 let e:=S c.length
 (IV c b e 0 e).bind λa=>cond ((inR a.2.2.2 a.1.length) || !(L (a.2.2.2<a.2.2.1))) (let d:=N a.1 a.2.2.2.toNat 0
 cond ((inR a.2.2.2 a.1.length) || !((L (a.2.2.2<a.2.2.1))&&(!(d==a.2.1)))) (let i:=N a.1 a.2.2.2.toNat 0
 cond (L (a.2.2.2<a.2.2.1)) (cond (d==a.2.1) (K (a.2.2.2,Á)) ((j6B i).bind λf=>cond f ((j6B a.2.1).bind λg=>K (a.2.2.2,g)) (K (a.2.2.2,Z)))) (cond ((d==a.2.1) || !Z) (K (a.2.2.2,Z)) X)) X) X
def jj9(a:nf)(b:J):M Bool:=K (cond (L (a.2.2.2.1<=b)) (L (b<a.2.2.2.2)) Z)
def j5V(f e:J)(d:aJ)(c b:J):M ((J×J×aJ×J×J) ⊕ (J)):=cond (L (b<c)) (cond (inR b d.length) (let a:=N d b.toNat (0,(0,(0,(0,0))))
 (jj9 (a.1,(a.2.1,(a.2.2.1,(a.2.2.2.1,a.2.2.2.2)))) e).bind λk=>cond (cond (!k) Á (a.1==0)) (let m:=w64 (b+1)
 K (.inl (f,e,d,c,m))) (cond (a.1==1) (let l:=w64 (b+1)
 K (.inl (a.2.1,e,d,c,l))) (cond (a.1 != 2) (let j:=w64 (b+1)
 K (.inl (f,e,d,c,j))) (cond (f==a.2.1) (let n:=w64 (b+1)
 K (.inl (a.2.2.1,e,d,c,n))) (cond (f==a.2.2.1) (let i:=w64 (b+1)
 K (.inl (a.2.1,e,d,c,i))) (let g:=w64 (b+1)
 K (.inl (f,e,d,c,g)))))))) X) (K (.inr f))
def Cp[LP](c d:J)(e:aJ)(a b:J):M Int:=LP.lp (unc5 j5V) (c,d,e,a,b)
theorem X4(c d e a b):Cp c d e a b=lpK (j5V c d e a b) (λh=>Cp h.1 h.2.1 h.2.2.1 h.2.2.2.1 h.2.2.2.2):=bj _ _
def jfd[LP](b:aJ)(a c:J):M Int:=
 let d:=S b.length
 (Cp a c b d 0).bind λe=>K e
def j2L(s q:J)(g:aJ)(n a:J)(p:ai)(d:aj)(i:al)(k:ao)(j:ct)(r:O)(f:aK)(e:aJ)(o:W J):M ((J×J×aJ×J×J×ai×aj×al×ao×ct×O×aK×aJ×(W J)) ⊕ (J×J×ai×aj×al×ao×ct×O×aK×aJ×(W J))):=cond (L (a<n)) (cond (inR a g.length) (let c:=N g a.toNat (0,(0,(0,(0,0))))
 let b:W Int:=[c.2.2.2.1,c.2.2.2.2]
 cond (L (U o+U b<=aG)) (let m:W Int:=o++b
 let l:=w64 (a+1)
 K (.inl (s,q,g,n,l,p,d,i,k,j,r,f,e,m))) X) X) (K (.inr (s,q,p,d,i,k,j,r,f,e,o)))
def Fo[LP](n l:J)(i:aJ)(j g:J)(k:ai)(a:aj)(d:al)(f:ao)(e:ct)(m:O)(c:aK)(b:aJ)(o:W J):M (J×J×ai×aj×al×ao×ct×O×aK×aJ×(W J)):=LP.lp (u8 unc6 j2L) (n,l,i,j,g,k,a,d,f,e,m,c,b,o)
theorem X5(n l i j g k a d f e m c b o):Fo n l i j g k a d f e m c b o=lpK (j2L n l i j g k a d f e m c b o) (λh=>Fo h.1 h.2.1 h.2.2.1 h.2.2.2.1 h.2.2.2.2.1 h.2.2.2.2.2.1 h.2.2.2.2.2.2.1 h.2.2.2.2.2.2.2.1 h.2.2.2.2.2.2.2.2.1 h.2.2.2.2.2.2.2.2.2.1 h.2.2.2.2.2.2.2.2.2.2.1 h.2.2.2.2.2.2.2.2.2.2.2.1 h.2.2.2.2.2.2.2.2.2.2.2.2.1 h.2.2.2.2.2.2.2.2.2.2.2.2.2):=bj _ _
def j2M[LP](k l p r:J)(t:O)(j:aK)(b:aJ)(s a d:J)(c:W J)(i q:ak):M ((J×J×J×J×O×aK×aJ×J×J×J×(W J)×ak×ak) ⊕ (J×J×O×aK×aJ×(W J)×ak×ak)):=cond (L (l<a)) (cond (inR k c.length) (let g:=N c k.toNat 0
 let e:Int:=if g<a then g else a
 (jfd b d l).bind λm=>let f:ak:=[(l,(e,m))]
 cond (L (U i+U f<=aG)) (let o:ak:=i++f
 let n:=w64 (k+1)
 K (.inl (n,e,p,r,t,j,b,s,a,d,c,o,q))) X) X) (K (.inr (p,r,t,j,b,c,i,q)))
def IW[LP](k i f m:J)(n:O)(d:aK)(c:aJ)(g b a:J)(j:W J)(e l:ak):M (J×J×O×aK×aJ×(W J)×ak×ak):=LP.lp (u8 unc5 j2M) (k,i,f,m,n,d,c,g,b,a,j,e,l)
theorem X6(k i f m n d c g b a j e l):IW k i f m n d c g b a j e l=lpK (j2M k i f m n d c g b a j e l) (λh=>IW h.1 h.2.1 h.2.2.1 h.2.2.2.1 h.2.2.2.2.1 h.2.2.2.2.2.1 h.2.2.2.2.2.2.1 h.2.2.2.2.2.2.2.1 h.2.2.2.2.2.2.2.2.1 h.2.2.2.2.2.2.2.2.2.1 h.2.2.2.2.2.2.2.2.2.2.1 h.2.2.2.2.2.2.2.2.2.2.2.1 h.2.2.2.2.2.2.2.2.2.2.2.2):=bj _ _
def j2N[LP](j c:J)(n:O)(m:aK)(l:aJ)(k:W J)(i d:ak):M ((J×J×O×aK×aJ×(W J)×ak×ak) ⊕ (ak)):=cond (L (c<j)) (cond (inR c d.length) (let b:=N d c.toNat (0,(0,0))
 let g:=w64 (b.1+1)
 (j0u k g).bind λe=>(IW e.1 b.1 j c n m l b.1 b.2.1 b.2.2 k i d).bind λa=>let f:=w64 (a.2.1+1)
 K (.inl (a.1,f,a.2.2.1,a.2.2.2.1,a.2.2.2.2.1,a.2.2.2.2.2.1,a.2.2.2.2.2.2.1,a.2.2.2.2.2.2.2))) X) (K (.inr i))
def Fp[LP](d g:J)(i:O)(b:aK)(a:aJ)(e:W J)(c f:ak):M ak:=LP.lp (unc8 j2N) (d,g,i,b,a,e,c,f)
theorem X7(d g i b a e c f):Fp d g i b a e c f=lpK (j2N d g i b a e c f) (λh=>Fp h.1 h.2.1 h.2.2.1 h.2.2.2.1 h.2.2.2.2.1 h.2.2.2.2.2.1 h.2.2.2.2.2.2.1 h.2.2.2.2.2.2.2):=bj _ _
def j4I[LP](b:iR)(c:iQ)(d e:J):M ak:=
 let k:=S c.2.2.length
 (Fo d e c.2.2 k 0 b.1.1 b.1.2.1 b.1.2.2.1 b.1.2.2.2 b.2 c.1 c.2.1 c.2.2 ([]:(W J))).bind λa=>(jk9 a.2.2.2.2.2.2.2.2.2.2 a.1 a.2.1).bind λg=>(j4V ((a.2.2.1,(a.2.2.2.1,(a.2.2.2.2.1,a.2.2.2.2.2.1))),a.2.2.2.2.2.2.1) (a.2.2.2.2.2.2.2.1,(a.2.2.2.2.2.2.2.2.1,a.2.2.2.2.2.2.2.2.2.1)) a.1 a.2.1).bind λf=>let i:=S f.length
 (Fp i 0 a.2.2.2.2.2.2.2.1 a.2.2.2.2.2.2.2.2.1 a.2.2.2.2.2.2.2.2.2.1 g ([]:ak) f).bind λl=>(jax l).bind λj=>K j
def j3B[LP](b:bB)(a d e:J):M (ak×J):=(j94 (b.1,(b.2.1,(b.2.2.1,b.2.2.2))) a d e).bind λc=>cond (c.2 != 0) (K (([]:ak),c.2)) (cond (inR a b.2.2.2.length) (let f:=N b.2.2.2 a.toNat (Y,(([]:aK),([]:aJ)))
 (j4I ((c.1.1.1,(c.1.1.2.1,(c.1.1.2.2.1,c.1.1.2.2.2))),c.1.2) (f.1,(f.2.1,f.2.2)) d e).bind λg=>let i:=S g.length
 cond (L (i>16384)) (K (([]:ak),5)) (K (g,0))) X)
def j8u(a:ak):M ak:=K a
def j38(d:J)(b a:ak):M ((J×ak×ak) ⊕ (ak)):=cond (L (S b.length<=d)) (K (.inr a)) (cond (L (1<=d)) (let e:=(N b d.toNat (0,(0,0))).1
 let f:=(N b (Í (d-1)) (0,(0,0))).2.2
 let g:=(N b d.toNat (0,(0,0))).2.2
 let c:ak:=[(e,(f,g))]
 cond (L (U a+U c<=aG)) (let i:ak:=a++c
 K (.inl ((d+1),b,i))) X) X)
def IX[LP](c:J)(b a:ak):M ak:=LP.lp (unc3 j38) (c,b,a)
theorem X8(c b a):IX c b a=lpK (j38 c b a) (λh=>IX h.1 h.2.1 h.2.2):=bj _ _
def j8v[LP](b:bB)(a c e:J):M (ak×J):=(j3B (b.1,(b.2.1,(b.2.2.1,b.2.2.2))) a c e).bind λd=>cond (d.2 != 0) (K (([]:ak),d.2)) ((j8u d.1).bind λf=>(IX 1 f ([]:ak)).bind λg=>K (g,0))
def j3p(a:J×J):M Int:=(j6g a.1).bind λb=>let d:=w64 (b*86400)
 let c:=w64 (d+a.2)
 K c
def j6C(e:J)(d:ah)(f c:J):M ((J×ah×J×J) ⊕ (Ã ⊕ Æ)):=cond (L (c<f)) (cond (inR c d.length) (let a:=N d c.toNat (0,0)
 cond (cond (L (a.1<=e)) (L (e<a.2)) Z) (K (.inr (.inl Á))) (let b:=w64 (c+1)
 K (.inl (e,d,f,b)))) X) (K (.inr (.inr ())))
def IY[LP](c:J)(b:ah)(a d:J):M (Ã ⊕ Æ):=LP.lp (unc4 j6C) (c,b,a,d)
theorem X9(d c a b):IY d c a b=lpK (j6C d c a b) (λh=>IY h.1 h.2.1 h.2.2.1 h.2.2.2):=bj _ _
def jmX[LP](a:ah)(b:J):M Bool:=
 let d:=S a.length
 (IY b a d 0).bind λc=>sumC c (λe=>K e) (λf=>K Z)
def j7q[LP](b:iR)(a:eB)(c:J):M (J×Ã):=cond (cond (L (c<0)) Á (L (c>8589934592))) (K (0,Z)) (cond (inR a.2.1 b.2.length) (let g:=N b.2 a.2.1.toNat (0,([]:ah))
 (j2o (g.1,g.2) (a.1,(a.2.1,((a.2.2.1.1,a.2.2.1.2),(a.2.2.2.1,(a.2.2.2.2.1,(a.2.2.2.2.2.1,(a.2.2.2.2.2.2.1,(a.2.2.2.2.2.2.2.1,a.2.2.2.2.2.2.2.2)))))))) c).bind λe=>cond (L (e<0)) (K (0,Z)) (let q:=S a.2.2.2.2.2.2.1.length
 cond (L (q>0)) ((j0p (g.1,g.2) c).bind λm=>(j3p (m.1,m.2)).bind λr=>(jmX a.2.2.2.2.2.2.1 r).bind λo=>cond (!o) (K (0,Z)) (cond (a.2.2.2.2.2.2.2.2==0) (K (e,Á)) (cond (inR a.2.2.2.2.2.2.2.1 b.1.2.2.1.length) (let i:=N b.1.2.2.1 a.2.2.2.2.2.2.2.1.toNat (Y,(0,([]:(W J))))
 cond (inR i.2.1 b.2.length) (let l:=N b.2 i.2.1.toNat (0,([]:ah))
 (j0p (l.1,l.2) c).bind λn=>(j0u i.2.2 n.1).bind λp=>K (e,(p.2==(a.2.2.2.2.2.2.2.2==2)))) X) X))) (cond (a.2.2.2.2.2.2.2.2==0) (K (e,Á)) (cond (inR a.2.2.2.2.2.2.2.1 b.1.2.2.1.length) (let d:=N b.1.2.2.1 a.2.2.2.2.2.2.2.1.toNat (Y,(0,([]:(W J))))
 cond (inR d.2.1 b.2.length) (let f:=N b.2 d.2.1.toNat (0,([]:ah))
 (j0p (f.1,f.2) c).bind λk=>(j0u d.2.2 k.1).bind λj=>K (e,(j.2==(a.2.2.2.2.2.2.2.2==2)))) X) X)))) X)
def j2Z[LP](b:iR)(a:eB)(f:J):M Int:=(j7q ((b.1.1,(b.1.2.1,(b.1.2.2.1,b.1.2.2.2))),b.2) (a.1,(a.2.1,((a.2.2.1.1,a.2.2.1.2),(a.2.2.2.1,(a.2.2.2.2.1,(a.2.2.2.2.2.1,(a.2.2.2.2.2.2.1,(a.2.2.2.2.2.2.2.1,a.2.2.2.2.2.2.2.2)))))))) f).bind λe=>cond (!e.2) (K (-1)) (let c:=S a.2.2.2.2.2.1.length
 cond (!(c==0)) (let d:=Â e.1 c
 cond (inR d a.2.2.2.2.2.1.length) (let g:=N a.2.2.2.2.2.1 d.toNat 0
 K g) X) X)
def jfO(a:nf)(d c:J):M Bool:=
 let b:Bool:=cond (cond (a.1==0) (a.2.1==d) Z) (L (a.2.2.2.1<=c)) Z
 K (cond b (L (c<a.2.2.2.2)) Z)
def j0y(f:aJ)(i b g c:J):M ((aJ×J×J×J×J) ⊕ (J ⊕ Æ)):=cond (L (c<g)) (cond (inR c f.length) (let a:=N f c.toNat (0,(0,(0,(0,0))))
 (jfO (a.1,(a.2.1,(a.2.2.1,(a.2.2.2.1,a.2.2.2.2)))) i b).bind λd=>cond d (K (.inr (.inl c))) (let e:=w64 (c+1)
 K (.inl (f,i,b,g,e)))) X) (K (.inr (.inr ())))
def Fq[LP](b:aJ)(e a d c:J):M (J ⊕ Æ):=LP.lp (unc5 j0y) (b,e,a,d,c)
theorem Ya(b e a d c):Fq b e a d c=lpK (j0y b e a d c) (λh=>Fq h.1 h.2.1 h.2.2.1 h.2.2.2.1 h.2.2.2.2):=bj _ _
def j2C[LP](b:aJ)(c a:J):M Int:=
 let e:=S b.length
 (Fq b c a e 0).bind λd=>sumC d (λf=>K f) (λg=>K (-1))
def j28[LP](b:aJ)(c a:J):M Bool:=(j2C b c a).bind λd=>K (L (d>=0))
def ji6[LP](b:iQ)(a c:J):M Bool:=(j28 b.2.2 a c).bind λd=>K d
def j3C[LP](l:J)(k:aK)(o:ai)(f:aj)(d:al)(g:ao)(e:ct)(p:O)(c:aK)(i:aJ)(n q r:J):M ((J×aK×ai×aj×al×ao×ct×O×aK×aJ×J×J×J) ⊕ ((J×J) ⊕ (J×J))):=cond (L (l<=0)) (K (.inr (.inl (q,r)))) (cond (L (l<=S k.length)) (let j:Int:=l-1
 let a:=N k j.toNat (Y,(0,((0,0),(0,(0,(([]:(W J)),(([]:ah),(0,0))))))))
 (j2Z ((o,(f,(d,g))),e) (a.1,(a.2.1,((a.2.2.1.1,a.2.2.1.2),(a.2.2.2.1,(a.2.2.2.2.1,(a.2.2.2.2.2.1,(a.2.2.2.2.2.2.1,(a.2.2.2.2.2.2.2.1,a.2.2.2.2.2.2.2.2)))))))) n).bind λb=>cond (L (b<0)) (K (.inl ((l-1),k,o,f,d,g,e,p,c,i,n,q,r))) ((ji6 (p,(c,i)) b n).bind λm=>cond (!m) (K (.inr (.inr (j,b)))) (K (.inl ((l-1),k,o,f,d,g,e,p,c,i,n,q,r))))) X)
def Fs[LP](m:J)(g:aK)(i:ai)(d:aj)(b:al)(e:ao)(c:ct)(j:O)(a:aK)(f:aJ)(l k n:J):M ((J×J) ⊕ (J×J)):=LP.lp (u8 unc5 j3C) (m,g,i,d,b,e,c,j,a,f,l,k,n)
theorem Yb(m g i d b e c j a f l k n):Fs m g i d b e c j a f l k n=lpK (j3C m g i d b e c j a f l k n) (λh=>Fs h.1 h.2.1 h.2.2.1 h.2.2.2.1 h.2.2.2.2.1 h.2.2.2.2.2.1 h.2.2.2.2.2.2.1 h.2.2.2.2.2.2.2.1 h.2.2.2.2.2.2.2.2.1 h.2.2.2.2.2.2.2.2.2.1 h.2.2.2.2.2.2.2.2.2.2.1 h.2.2.2.2.2.2.2.2.2.2.2.1 h.2.2.2.2.2.2.2.2.2.2.2.2):=bj _ _
def j7S[LP](a:iR)(b:iQ)(d:J):M (J×J):=(j0X b.2.1).bind λc=>(Fs (S c.length) c a.1.1 a.1.2.1 a.1.2.2.1 a.1.2.2.2 a.2 b.1 b.2.1 b.2.2 d 0 0).bind λe=>sumC e (λg=>K ((-1),(-1))) (λf=>K (f.1,f.2))
def j6U[LP](a:iR)(c:iQ)(b:J):M Int:=cond (cond (L (b<0)) Á (L (b>8589934592))) (K (-1)) ((j7S ((a.1.1,(a.1.2.1,(a.1.2.2.1,a.1.2.2.2))),a.2) (c.1,(c.2.1,c.2.2)) b).bind λe=>(jfd c.2.2 e.2 b).bind λd=>K d)
def j6l(b u q:J)(a:ak)(s:ai)(n:aj)(l:al)(o:ao)(r m g v:J)(t:ai)(i:aj)(j:al)(f:ao)(k:ct)(p:ak):M ((J×J×J×ak×ai×aj×al×ao×J×J×J×J×ai×aj×al×ao×ct×ak) ⊕ ((J×J×ai×aj×al×ao×J×J×J×J×ai×aj×al×ao×ct×ak) ⊕ (J×J×J×J))):=cond (L (S a.length<=b)) (K (.inr (.inl (u,q,s,n,l,o,r,m,g,v,t,i,j,f,k,p)))) (cond (L (1<=b)) (let e:=(N a b.toNat (0,(0,0))).1
 let d:=(N a (Í (b-1)) (0,(0,0))).2.2
 let c:=(N a b.toNat (0,(0,0))).2.2
 K (.inr (.inr (e,d,c,0)))) X)
def OE[LP](q s k:J)(m:ak)(n:ai)(f:aj)(c:al)(i:ao)(p d g r:J)(o:ai)(a:aj)(b:al)(e:ao)(j:ct)(l:ak):M ((J×J×ai×aj×al×ao×J×J×J×J×ai×aj×al×ao×ct×ak) ⊕ (J×J×J×J)):=LP.lp (u8 (u8 unc2) j6l) (q,s,k,m,n,f,c,i,p,d,g,r,o,a,b,e,j,l)
theorem jlp(r q l m o i f j n g b s p c d a e k):OE r q l m o i f j n g b s p c d a e k=lpK (j6l r q l m o i f j n g b s p c d a e k) (λh=>OE h.1 h.2.1 h.2.2.1 h.2.2.2.1 h.2.2.2.2.1 h.2.2.2.2.2.1 h.2.2.2.2.2.2.1 h.2.2.2.2.2.2.2.1 h.2.2.2.2.2.2.2.2.1 h.2.2.2.2.2.2.2.2.2.1 h.2.2.2.2.2.2.2.2.2.2.1 h.2.2.2.2.2.2.2.2.2.2.2.1 h.2.2.2.2.2.2.2.2.2.2.2.2.1 h.2.2.2.2.2.2.2.2.2.2.2.2.2.1 h.2.2.2.2.2.2.2.2.2.2.2.2.2.2.1 h.2.2.2.2.2.2.2.2.2.2.2.2.2.2.2.1 h.2.2.2.2.2.2.2.2.2.2.2.2.2.2.2.2.1 h.2.2.2.2.2.2.2.2.2.2.2.2.2.2.2.2.2):=bj _ _
def jay[LP](b:bB)(a d:J):M (sv×J):=(j94 (b.1,(b.2.1,(b.2.2.1,b.2.2.2))) a d d).bind λc=>cond (c.2 != 0) (K ((0,(0,0)),c.2)) (let i:=w64 (d+34560000)
 let j:Int:=if 8589934592<i then 8589934592 else i
 cond (inR a b.2.2.2.length) (let g:=N b.2.2.2 a.toNat (Y,(([]:aK),([]:aJ)))
 (j4I ((c.1.1.1,(c.1.1.2.1,(c.1.1.2.2.1,c.1.1.2.2.2))),c.1.2) (g.1,(g.2.1,g.2.2)) d j).bind λl=>(j8u l).bind λo=>(OE 1 a j o b.1 b.2.1 b.2.2.1 b.2.2.2 0 0 0 0 c.1.1.1 c.1.1.2.1 c.1.1.2.2.1 c.1.1.2.2.2 c.1.2 l).bind λr=>sumC r (λe=>let m:=S e.2.2.2.2.2.2.2.2.2.2.2.2.2.2.2.length
 cond (L (m>0)) (cond (inR e.1 e.2.2.2.2.2.1.length) (let f:=N e.2.2.2.2.2.1 e.1.toNat (Y,(([]:aK),([]:aJ)))
 (j6U ((e.2.2.2.2.2.2.2.2.2.2.1,(e.2.2.2.2.2.2.2.2.2.2.2.1,(e.2.2.2.2.2.2.2.2.2.2.2.2.1,e.2.2.2.2.2.2.2.2.2.2.2.2.2.1))),e.2.2.2.2.2.2.2.2.2.2.2.2.2.2.1) (f.1,(f.2.1,f.2.2)) e.2.1).bind λk=>cond (inR 0 e.2.2.2.2.2.2.2.2.2.2.2.2.2.2.2.length) (let p:=(N e.2.2.2.2.2.2.2.2.2.2.2.2.2.2.2 0 (0,(0,0))).2.2
 cond (k != p) (cond (inR 0 e.2.2.2.2.2.2.2.2.2.2.2.2.2.2.2.length) (let n:=(N e.2.2.2.2.2.2.2.2.2.2.2.2.2.2.2 0 (0,(0,0))).2.2
 K ((e.2.1,(n,k)),0)) X) (K ((0,(0,0)),10))) X) X) (K ((0,(0,0)),10))) (λq=>K ((q.1,(q.2.1,q.2.2.1)),q.2.2.2))) X)
def j39(j:J)(i:ak)(k b:J)(d:ah):M ((J×ak×J×J×ah) ⊕ (ah)):=cond (L (b<k)) (cond (inR b i.length) (let a:=N i b.toNat (0,(0,0))
 cond (a.2.2==j) (let c:ah:=[(a.1,a.2.1)]
 cond (L (U d+U c<=aG)) (let e:ah:=d++c
 let g:=w64 (b+1)
 K (.inl (j,i,k,g,e))) X) (let f:=w64 (b+1)
 K (.inl (j,i,k,f,d)))) X) (K (.inr d))
def IZ[LP](d:J)(c:ak)(e a:J)(b:ah):M ah:=LP.lp (unc5 j39) (d,c,e,a,b)
theorem Yc(d c e a b):IZ d c e a b=lpK (j39 d c e a b) (λh=>IZ h.1 h.2.1 h.2.2.1 h.2.2.2.1 h.2.2.2.2):=bj _ _
def jaW[LP](b:ak)(a:J):M ah:=
 let e:=S b.length
 (IZ a b e 0 ([]:ah)).bind λd=>(j9h d).bind λc=>K c
def jbo[LP](b:bB)(a c d f:J):M (ah×J):=(j3B (b.1,(b.2.1,(b.2.2.1,b.2.2.2))) a d f).bind λe=>cond (e.2 != 0) (K (([]:ah),e.2)) ((jaW e.1 c).bind λg=>let i:=S g.length
 cond (L (i>4096)) (K (([]:ah),5)) (K (g,0)))
def j5a[LP](o:J)(f:ao)(l c:J)(n:ai)(g:aj)(d:al)(e:ao)(i:ct)(m:W J):M ((J×ao×J×J×ai×aj×al×ao×ct×(W J)) ⊕ (W J)):=cond (L (c<l)) (cond (inR c f.length) (let a:=N f c.toNat (Y,(([]:aK),([]:aJ)))
 (j6U ((n,(g,(d,e))),i) (a.1,(a.2.1,a.2.2)) o).bind λb=>cond (L (U m+U [b]<=aG)) (let j:W Int:=m++[b]
 let k:=w64 (c+1)
 K (.inl (o,f,l,k,n,g,d,e,i,j))) X) X) (K (.inr m))
def I0[LP](k:J)(e:ao)(g f:J)(i:ai)(c:aj)(a:al)(b:ao)(d:ct)(j:W J):M (W J):=LP.lp (u8 unc2 j5a) (k,e,g,f,i,c,a,b,d,j)
theorem Yd(k e g f i c a b d j):I0 k e g f i c a b d j=lpK (j5a k e g f i c a b d j) (λh=>I0 h.1 h.2.1 h.2.2.1 h.2.2.2.1 h.2.2.2.2.1 h.2.2.2.2.2.1 h.2.2.2.2.2.2.1 h.2.2.2.2.2.2.2.1 h.2.2.2.2.2.2.2.2.1 h.2.2.2.2.2.2.2.2.2):=bj _ _
def jcE[LP](a:bB)(c:J):M (W J):=(jfM (a.1,(a.2.1,(a.2.2.1,a.2.2.2)))).bind λb=>cond (!b.2) (K ([]:(W J))) (let d:=S a.2.2.2.length
 (I0 c a.2.2.2 d 0 b.1.1.1 b.1.1.2.1 b.1.1.2.2.1 b.1.1.2.2.2 b.1.2 ([]:(W J))).bind λe=>K e)
def je5[LP](a:bB)(b e:J):M Int:=(jfM (a.1,(a.2.1,(a.2.2.1,a.2.2.2)))).bind λc=>cond (!c.2) (K (-1)) ((j5x (a.1,(a.2.1,(a.2.2.1,a.2.2.2))) b).bind λg=>cond (!g) (K (-1)) (cond (inR b a.2.2.2.length) (let d:=N a.2.2.2 b.toNat (Y,(([]:aK),([]:aJ)))
 (j6U ((c.1.1.1,(c.1.1.2.1,(c.1.1.2.2.1,c.1.1.2.2.2))),c.1.2) (d.1,(d.2.1,d.2.2)) e).bind λf=>K f) X))
def j4W[LP](b:bB)(a c:J):M Int:=(je5 (b.1,(b.2.1,(b.2.2.1,b.2.2.2))) a c).bind λd=>K d
def jja[LP](p:M (bB)):M Bool:=
 p.bind λa=>(j8v (a.1,(a.2.1,(a.2.2.1,a.2.2.2))) 0 432000 518400).bind λb=>(jay (a.1,(a.2.1,(a.2.2.1,a.2.2.2))) 0 432000).bind λc=>(j3B (a.1,(a.2.1,(a.2.2.1,a.2.2.2))) 0 432000 518400).bind λg=>(jbo (a.1,(a.2.1,(a.2.2.1,a.2.2.2))) 0 2 432000 518400).bind λi=>(jcE (a.1,(a.2.1,(a.2.2.1,a.2.2.2))) 432000).bind λd=>cond (b.2==0) (cond (c.2==0) (cond (g.2==0) (cond (i.2==0) (let o:=S b.1.length
 cond (o==1) (cond (inR 0 b.1.length) (let e:=N b.1 0 (0,(0,0))
 cond ((e.1==475200)&&((e.2.1==2)&&(e.2.2==1))) (cond (inR 0 b.1.length) (let f:=N b.1 0 (0,(0,0))
 cond ((c.1.1==f.1)&&((c.1.2.1==f.2.1)&&(c.1.2.2==f.2.2))) (let n:=S g.1.length
 cond (n==2) (let k:=S i.1.length
 cond (k==1) (let m:=S d.length
 cond (m==1) (cond (inR 0 d.length) (let j:=N d 0 0
 cond (j==2) ((j4W (a.1,(a.2.1,(a.2.2.1,a.2.2.2))) 0 432000).bind λl=>K (l==2)) (K Z)) X) (K Z)) (K Z)) (K Z)) (K Z)) X) (K Z)) X) (K Z)) (K Z)) (K Z)) (K Z)) (K Z)
def ji7[LP]:M Bool:=
 jja jfL
def jnR(a:W J):M ((W J)×J):=K (a,0)
def j06(b:W J)(a c:J):M (J×(W J)×J):=
 let g:=S b.length
 cond (L (a>=g)) (K (0,b,a)) (cond (L (c<1)) (K (0,b,a)) (cond (inR a b.length) (let i:=N b a.toNat 0
 cond (!(c==0)) (let d:=Â i c
 let e:=w64 (a+1)
 cond (L (d<0)) (let f:=w64 (d+c)
 K (f,b,e)) (K (d,b,e))) X) X))
def j0c(d:W J)(b:J)(a:W J):M (J×(W J)×J):=
 let f:=S a.length
 (j06 d b f).bind λc=>cond (inR c.1 a.length) (let e:=N a c.1.toNat 0
 K (e,c.2.1,c.2.2)) X
def jaX(a0:W J)(v:J)(a:O):M (dW×(W J)×J):=
 let b5:W Int:=[0,4,(-20),22,48,(-47)]
 (j0c a0 v b5).bind λr=>(j06 r.2.1 r.2.2 2).bind λn=>(j06 n.2.1 n.2.2 3).bind λt=>let a9:=w64 (n.1*t.1)
 let a2:=w64 (r.1+a9)
 let c:=w64 (900*a2)
 (j06 t.2.1 t.2.2 2).bind λi=>let g:=w64 (2025+i.1)
 (j06 i.2.1 i.2.2 4).bind λb=>cond (b.1==1) (let b1:=w64 (c+3600)
 let a8:ba:=[(2025,(g,(3,(5,(6,(7200,b1)))))),(2025,(g,(10,(5,(6,(10800,c))))))]
 K ((a,(c,a8)),b.2.1,b.2.2)) (cond (b.1==2) ((j06 b.2.1 b.2.2 4).bind λq=>let a5:=w64 (1+q.1)
 (j06 q.2.1 q.2.2 7).bind λs=>(j06 s.2.1 s.2.2 24).bind λu=>let b2:=w64 (3600*u.1)
 (j06 u.2.1 u.2.2 8).bind λj=>let a3:=w64 (1+j.1)
 let b6:=w64 (1800*a3)
 let b7:=w64 (c+b6)
 (j06 j.2.1 j.2.2 2).bind λp=>let b0:=w64 (2+p.1)
 let a1:W Int:=[2,3,5]
 (j0c p.2.1 p.2.2 a1).bind λk=>(j06 k.2.1 k.2.2 7).bind λl=>(j06 l.2.1 l.2.2 24).bind λo=>let b3:=w64 (3600*o.1)
 let a7:ba:=[(2025,(g,(1,(a5,(s.1,(b2,b7)))))),(2025,(g,(b0,(k.1,(l.1,(b3,c))))))]
 K ((a,(c,a7)),o.2.1,o.2.2)) (cond (b.1==3) (let a4:W Int:=[3600,(-3600),82800,(-82800),43200]
 (j0c b.2.1 b.2.2 a4).bind λf=>let x:=w64 (c+f.1)
 cond (cond (L (x>64800)) Á (L (x<(-64800)))) ((j06 f.2.1 f.2.2 7).bind λm=>(j06 m.2.1 m.2.2 48).bind λw=>let a6:=w64 (1800*w.1)
 let b4:ba:=[(2026,(2026,(1,(2,(m.1,(a6,0))))))]
 K ((a,(c,b4)),w.2.1,w.2.2)) ((j06 f.2.1 f.2.2 7).bind λd=>(j06 d.2.1 d.2.2 48).bind λe=>let y:=w64 (1800*e.1)
 let z:ba:=[(2026,(2026,(1,(2,(d.1,(y,x))))))]
 K ((a,(c,z)),e.2.1,e.2.2))) (K ((a,(c,([]:ba))),b.2.1,b.2.2))))
def jfe  : M (W O):=
 let a:W ByteArray:=[(À #[97,100,97]),(À #[98,111,98]),(À #[99,108,101,111]),(À #[100,97,110]),(À #[101,118,101]),(À #[102,97,121]),(À #[103,117,115]),(À #[104,97,108])]
 K a
def j1i(d:W J)(a b:J):M (Ã×(W J)×J):=(j06 d a b).bind λc=>let e:=w64 (b-1)
 K ((c.1==e),c.2.1,c.2.2)
def j2h(r q:J)(p:W J)(g:J)(i:ah):M ((J×J×(W J)×J×ah) ⊕ ((W J)×J×ah)):=cond (L (q>0)) ((j06 p g 30).bind λb=>let n:=w64 (3600*b.1)
 let m:=w64 (r+n)
 (j06 b.2.1 b.2.2 2).bind λc=>let o:=w64 (60*c.1)
 let f:=w64 (m+o)
 let k:W Int:=[3600,28800,43200,86400,61,1]
 (j0c c.2.1 c.2.2 k).bind λa=>let d:=w64 (f+a.1)
 cond (L (d>604800)) (K (.inr (a.2.1,a.2.2,i))) (let e:ah:=[(f,d)]
 cond (L (U i+U e<=aG)) (let l:ah:=i++e
 let j:=w64 (q-1)
 K (.inl (d,j,a.2.1,a.2.2,l))) X)) (K (.inr (p,g,i)))
def I1[LP](c e:J)(d:W J)(a:J)(b:ah):M ((W J)×J×ah):=LP.lp (unc5 j2h) (c,e,d,a,b)
theorem Ye(c e d a b):I1 c e d a b=lpK (j2h c e d a b) (λh=>I1 h.1 h.2.1 h.2.2.1 h.2.2.2.1 h.2.2.2.2):=bj _ _
def j4v[LP](d:W J)(a:J):M (ah×(W J)×J):=(j06 d a 4).bind λc=>(I1 0 c.1 c.2.1 c.2.2 ([]:ah)).bind λb=>K (b.2.2,b.1,b.2.1)
def j2O(k:J)(l:W J)(f:J)(b:ai):M ((J×(W J)×J×ai) ⊕ ((W J)×J×ai)):=cond (L (k>0)) (let d:W ByteArray:=[(À #[104,101,114,101]),(À #[116,104,101,114,101])]
 let e:=S b.length
 cond (inR e d.length) (let j:=N d e.toNat Y
 (jaX l f j).bind λa=>let c:ai:=[(a.1.1,(a.1.2.1,a.1.2.2))]
 cond (L (U b+U c<=aG)) (let g:ai:=b++c
 let i:=w64 (k-1)
 K (.inl (i,a.2.1,a.2.2,g))) X) X) (K (.inr (l,f,b)))
def I2[LP](c:J)(d:W J)(a:J)(b:ai):M ((W J)×J×ai):=LP.lp (unc4 j2O) (c,d,a,b)
theorem Yf(c d a b):I2 c d a b=lpK (j2O c d a b) (λh=>I2 h.1 h.2.1 h.2.2.1 h.2.2.2):=bj _ _
def j2P[LP](a4:J)(a5:W J)(q:J)(j:ai)(b:aj):M ((J×(W J)×J×ai×aj) ⊕ ((W J)×J×ai×aj)):=cond (L (a4>0)) ((jfe).bind λn=>let o:=S b.length
 cond (inR o n.length) (let m:=N n o.toNat Y
 let x:=S j.length
 (j06 a5 q x).bind λd=>(j1i d.2.1 d.2.2 3).bind λc=>(j1i c.2.1 c.2.2 2).bind λa=>cond a.1 ((j4v a.2.1 a.2.2).bind λe=>let y:W Int:=[0,40,100,12]
 (j0c e.2.1 e.2.2 y).bind λi=>let a0:=w64 (3600*i.1)
 let w:W Int:=[0,11,24,1]
 (j0c i.2.1 i.2.2 w).bind λf=>let a1:=w64 (3600*f.1)
 let p:aj:=[(m,(d.1,(e.1,(a0,(a1,c.1)))))]
 cond (L (U b+U p<=aG)) (let v:aj:=b++p
 let a2:=w64 (a4-1)
 K (.inl (a2,f.2.1,f.2.2,j,v))) X) (let t:W Int:=[0,40,100,12]
 (j0c a.2.1 a.2.2 t).bind λg=>let a3:=w64 (3600*g.1)
 let s:W Int:=[0,11,24,1]
 (j0c g.2.1 g.2.2 s).bind λk=>let r:=w64 (3600*k.1)
 let l:aj:=[(m,(d.1,(([]:ah),(a3,(r,c.1)))))]
 cond (L (U b+U l<=aG)) (let u:aj:=b++l
 let z:=w64 (a4-1)
 K (.inl (z,k.2.1,k.2.2,j,u))) X)) X) (K (.inr (a5,q,j,b)))
def I3[LP](e:J)(d:W J)(b:J)(c:ai)(a:aj):M ((W J)×J×ai×aj):=LP.lp (unc5 j2P) (e,d,b,c,a)
theorem Yg(e d b c a):I3 e d b c a=lpK (j2P e d b c a) (λh=>I3 h.1 h.2.1 h.2.2.1 h.2.2.2.1 h.2.2.2.2):=bj _ _
def j2Q(p q o:J)(n:W J)(i:J)(m:O)(d:J)(j:ai)(e:aj)(f:al)(c:W J):M ((J×J×J×(W J)×J×O×J×ai×aj×al×(W J)) ⊕ (J×(W J)×J×O×J×ai×aj×al×(W J))):=cond (L (q>0)) ((j06 n i 6).bind λa=>let l:=w64 (1+a.1)
 let b:=w64 (o+l)
 cond (L (U c+U [b]<=aG)) (let g:W Int:=c++[b]
 let k:=w64 (q-1)
 K (.inl (p,k,b,a.2.1,a.2.2,m,d,j,e,f,g))) X) (K (.inr (p,n,i,m,d,j,e,f,c)))
def I4[LP](k l g:J)(j:W J)(d:J)(i:O)(a:J)(f:ai)(b:aj)(c:al)(e:W J):M (J×(W J)×J×O×J×ai×aj×al×(W J)):=LP.lp (u8 unc3 j2Q) (k,l,g,j,d,i,a,f,b,c,e)
theorem Yh(k l g j d i a f b c e):I4 k l g j d i a f b c e=lpK (j2Q k l g j d i a f b c e) (λh=>I4 h.1 h.2.1 h.2.2.1 h.2.2.2.1 h.2.2.2.2.1 h.2.2.2.2.2.1 h.2.2.2.2.2.2.1 h.2.2.2.2.2.2.2.1 h.2.2.2.2.2.2.2.2.1 h.2.2.2.2.2.2.2.2.2.1 h.2.2.2.2.2.2.2.2.2.2):=bj _ _
def j2R[LP](n:J)(m:W J)(i:J)(e:ai)(f:aj)(g:al):M ((J×(W J)×J×ai×aj×al) ⊕ ((W J)×J×ai×aj×al)):=cond (L (n>0)) (let k:=S e.length
 (j06 m i k).bind λb=>(j06 b.2.1 b.2.2 4).bind λc=>(I4 n c.1 20454 c.2.1 c.2.2 (À #[100,97,121,115]) b.1 e f g ([]:(W J))).bind λa=>let d:al:=[(a.2.2.2.1,(a.2.2.2.2.1,a.2.2.2.2.2.2.2.2))]
 cond (L (U a.2.2.2.2.2.2.2.1+U d<=aG)) (let j:al:=a.2.2.2.2.2.2.2.1++d
 let l:=w64 (a.1-1)
 K (.inl (l,a.2.1,a.2.2.1,a.2.2.2.2.2.1,a.2.2.2.2.2.2.1,j))) X) (K (.inr (m,i,e,f,g)))
def I5[LP](f:J)(e:W J)(c:J)(d:ai)(a:aj)(b:al):M ((W J)×J×ai×aj×al):=LP.lp (unc6 j2R) (f,e,c,d,a,b)
theorem Yi(f e c d a b):I5 f e c d a b=lpK (j2R f e c d a b) (λh=>I5 h.1 h.2.1 h.2.2.1 h.2.2.2.1 h.2.2.2.2.1 h.2.2.2.2.2):=bj _ _
def j9N[LP](i:W J)(b:J):M (bB×(W J)×J):=(j06 i b 2).bind λc=>let j:=w64 (1+c.1)
 (I2 j c.2.1 c.2.2 ([]:ai)).bind λg=>(j06 g.1 g.2.1 4).bind λd=>let k:=w64 (1+d.1)
 (I3 k d.2.1 d.2.2 g.2.2 ([]:aj)).bind λf=>(j06 f.1 f.2.1 2).bind λa=>(I5 a.1 a.2.1 a.2.2 f.2.2.1 f.2.2.2 ([]:al)).bind λe=>K ((e.2.2.1,(e.2.2.2.1,(e.2.2.2.2,([]:ao)))),e.1,e.2.1)
def j2S(a2:J)(a0:W J)(m:J)(y:ai)(b:aj)(u:al)(p:ao)(z:O)(r i n s o q f:J)(a1:O)(t d l j g e k:J)(c:W J):M ((J×(W J)×J×ai×aj×al×ao×O×J×J×J×J×J×J×J×O×J×J×J×J×J×J×J×(W J)) ⊕ ((W J)×J×ai×aj×al×ao×O×J×J×J×J×J×J×J×O×J×J×J×J×J×J×J×(W J))):=cond (L (a2>0)) (let x:=S b.length
 (j06 a0 m x).bind λa=>cond (L (U c+U [a.1]<=aG)) (let v:W Int:=c++[a.1]
 let w:=w64 (a2-1)
 K (.inl (w,a.2.1,a.2.2,y,b,u,p,z,r,i,n,s,o,q,f,a1,t,d,l,j,g,e,k,v))) X) (K (.inr (a0,m,y,b,u,p,z,r,i,n,s,o,q,f,a1,t,d,l,j,g,e,k,c)))
def Ft[LP](y:J)(w:W J)(k:J)(u:ai)(i:aj)(t:al)(n:ao)(v:O)(p e l r m o c:J)(x:O)(s a j f d b g:J)(q:W J):M ((W J)×J×ai×aj×al×ao×O×J×J×J×J×J×J×J×O×J×J×J×J×J×J×J×(W J)):=LP.lp (u8 (u8 unc8) j2S) (y,w,k,u,i,t,n,v,p,e,l,r,m,o,c,x,s,a,j,f,d,b,g,q)
theorem Yj(y w k u i t n v p e l r m o c x s a j f d b g q):Ft y w k u i t n v p e l r m o c x s a j f d b g q=lpK (j2S y w k u i t n v p e l r m o c x s a j f d b g q) (λh=>Ft h.1 h.2.1 h.2.2.1 h.2.2.2.1 h.2.2.2.2.1 h.2.2.2.2.2.1 h.2.2.2.2.2.2.1 h.2.2.2.2.2.2.2.1 h.2.2.2.2.2.2.2.2.1 h.2.2.2.2.2.2.2.2.2.1 h.2.2.2.2.2.2.2.2.2.2.1 h.2.2.2.2.2.2.2.2.2.2.2.1 h.2.2.2.2.2.2.2.2.2.2.2.2.1 h.2.2.2.2.2.2.2.2.2.2.2.2.2.1 h.2.2.2.2.2.2.2.2.2.2.2.2.2.2.1 h.2.2.2.2.2.2.2.2.2.2.2.2.2.2.2.1 h.2.2.2.2.2.2.2.2.2.2.2.2.2.2.2.2.1 h.2.2.2.2.2.2.2.2.2.2.2.2.2.2.2.2.2.1 h.2.2.2.2.2.2.2.2.2.2.2.2.2.2.2.2.2.2.1 h.2.2.2.2.2.2.2.2.2.2.2.2.2.2.2.2.2.2.2.1 h.2.2.2.2.2.2.2.2.2.2.2.2.2.2.2.2.2.2.2.2.1 h.2.2.2.2.2.2.2.2.2.2.2.2.2.2.2.2.2.2.2.2.2.1 h.2.2.2.2.2.2.2.2.2.2.2.2.2.2.2.2.2.2.2.2.2.2.1 h.2.2.2.2.2.2.2.2.2.2.2.2.2.2.2.2.2.2.2.2.2.2.2):=bj _ _
def j9O[LP](b5:W J)(a1:J)(c:bB)(j:O):M (eB×(W J)×J):=
 let b7:=S c.1.length
 (j06 b5 a1 b7).bind λv=>(j06 v.2.1 v.2.2 6).bind λz=>let b6:=w64 (20454+z.1)
 let b4:=w64 (b6-2)
 let c3:W Int:=[0,32400,7200,9000,79200,1]
 (j0c z.2.1 z.2.2 c3).bind λw=>(j06 w.2.1 w.2.2 3).bind λt=>(j06 t.2.1 t.2.2 2).bind λr=>let b8:=w64 (1+r.1)
 cond (t.1==0) (let c4:W Int:=[6,8,12,24,23,49]
 (j0c r.2.1 r.2.2 c4).bind λa2=>(j06 a2.2.1 a2.2.2 3).bind λa0=>let b9:=w64 (1+a0.1)
 (Ft b9 a0.2.1 a0.2.2 c.1 c.2.1 c.2.2.1 c.2.2.2 Y 0 0 0 0 0 0 0 j v.1 b4 w.1 t.1 a2.1 0 0 ([]:(W J))).bind λb=>(j1i b.1 b.2.1 2).bind λu=>cond u.1 ((j4v u.2.1 u.2.2).bind λx=>(j1i x.2.1 x.2.2 4).bind λs=>let c2:=S b.2.2.2.2.1.length
 cond (cond s.1 (L (c2>0)) Z) (let c0:=S b.2.2.2.2.1.length
 (j06 s.2.1 s.2.2 c0).bind λy=>(j06 y.2.1 y.2.2 2).bind λa3=>let c1:=w64 (1+a3.1)
 K ((b.2.2.2.2.2.2.2.2.2.2.2.2.2.2.1,(b.2.2.2.2.2.2.2.2.2.2.2.2.2.2.2.1,((b.2.2.2.2.2.2.2.2.2.2.2.2.2.2.2.2.1,b.2.2.2.2.2.2.2.2.2.2.2.2.2.2.2.2.2.1),(b.2.2.2.2.2.2.2.2.2.2.2.2.2.2.2.2.2.2.1,(b.2.2.2.2.2.2.2.2.2.2.2.2.2.2.2.2.2.2.2.1,(b.2.2.2.2.2.2.2.2.2.2.2.2.2.2.2.2.2.2.2.2.2.2,(x.1,(y.1,c1)))))))),a3.2.1,a3.2.2)) (K ((b.2.2.2.2.2.2.2.2.2.2.2.2.2.2.1,(b.2.2.2.2.2.2.2.2.2.2.2.2.2.2.2.1,((b.2.2.2.2.2.2.2.2.2.2.2.2.2.2.2.2.1,b.2.2.2.2.2.2.2.2.2.2.2.2.2.2.2.2.2.1),(b.2.2.2.2.2.2.2.2.2.2.2.2.2.2.2.2.2.2.1,(b.2.2.2.2.2.2.2.2.2.2.2.2.2.2.2.2.2.2.2.1,(b.2.2.2.2.2.2.2.2.2.2.2.2.2.2.2.2.2.2.2.2.2.2,(x.1,(b.2.2.2.2.2.2.2.2.2.2.2.2.2.2.2.2.2.2.2.2.1,b.2.2.2.2.2.2.2.2.2.2.2.2.2.2.2.2.2.2.2.2.2.1)))))))),s.2.1,s.2.2))) ((j1i u.2.1 u.2.2 4).bind λf=>let a4:=S b.2.2.2.2.1.length
 cond (cond f.1 (L (a4>0)) Z) (let b0:=S b.2.2.2.2.1.length
 (j06 f.2.1 f.2.2 b0).bind λp=>(j06 p.2.1 p.2.2 2).bind λl=>let b1:=w64 (1+l.1)
 K ((b.2.2.2.2.2.2.2.2.2.2.2.2.2.2.1,(b.2.2.2.2.2.2.2.2.2.2.2.2.2.2.2.1,((b.2.2.2.2.2.2.2.2.2.2.2.2.2.2.2.2.1,b.2.2.2.2.2.2.2.2.2.2.2.2.2.2.2.2.2.1),(b.2.2.2.2.2.2.2.2.2.2.2.2.2.2.2.2.2.2.1,(b.2.2.2.2.2.2.2.2.2.2.2.2.2.2.2.2.2.2.2.1,(b.2.2.2.2.2.2.2.2.2.2.2.2.2.2.2.2.2.2.2.2.2.2,(([]:ah),(p.1,b1)))))))),l.2.1,l.2.2)) (K ((b.2.2.2.2.2.2.2.2.2.2.2.2.2.2.1,(b.2.2.2.2.2.2.2.2.2.2.2.2.2.2.2.1,((b.2.2.2.2.2.2.2.2.2.2.2.2.2.2.2.2.1,b.2.2.2.2.2.2.2.2.2.2.2.2.2.2.2.2.2.1),(b.2.2.2.2.2.2.2.2.2.2.2.2.2.2.2.2.2.2.1,(b.2.2.2.2.2.2.2.2.2.2.2.2.2.2.2.2.2.2.2.1,(b.2.2.2.2.2.2.2.2.2.2.2.2.2.2.2.2.2.2.2.2.2.2,(([]:ah),(b.2.2.2.2.2.2.2.2.2.2.2.2.2.2.2.2.2.2.2.2.1,b.2.2.2.2.2.2.2.2.2.2.2.2.2.2.2.2.2.2.2.2.2.1)))))))),f.2.1,f.2.2)))) ((j06 r.2.1 r.2.2 3).bind λn=>let a8:=w64 (1+n.1)
 (Ft a8 n.2.1 n.2.2 c.1 c.2.1 c.2.2.1 c.2.2.2 Y 0 0 0 0 0 0 0 j v.1 b4 w.1 t.1 b8 0 0 ([]:(W J))).bind λa=>(j1i a.1 a.2.1 2).bind λe=>cond e.1 ((j4v e.2.1 e.2.2).bind λi=>(j1i i.2.1 i.2.2 4).bind λd=>let b3:=S a.2.2.2.2.1.length
 cond (cond d.1 (L (b3>0)) Z) (let a6:=S a.2.2.2.2.1.length
 (j06 d.2.1 d.2.2 a6).bind λo=>(j06 o.2.1 o.2.2 2).bind λq=>let a5:=w64 (1+q.1)
 K ((a.2.2.2.2.2.2.2.2.2.2.2.2.2.2.1,(a.2.2.2.2.2.2.2.2.2.2.2.2.2.2.2.1,((a.2.2.2.2.2.2.2.2.2.2.2.2.2.2.2.2.1,a.2.2.2.2.2.2.2.2.2.2.2.2.2.2.2.2.2.1),(a.2.2.2.2.2.2.2.2.2.2.2.2.2.2.2.2.2.2.1,(a.2.2.2.2.2.2.2.2.2.2.2.2.2.2.2.2.2.2.2.1,(a.2.2.2.2.2.2.2.2.2.2.2.2.2.2.2.2.2.2.2.2.2.2,(i.1,(o.1,a5)))))))),q.2.1,q.2.2)) (K ((a.2.2.2.2.2.2.2.2.2.2.2.2.2.2.1,(a.2.2.2.2.2.2.2.2.2.2.2.2.2.2.2.1,((a.2.2.2.2.2.2.2.2.2.2.2.2.2.2.2.2.1,a.2.2.2.2.2.2.2.2.2.2.2.2.2.2.2.2.2.1),(a.2.2.2.2.2.2.2.2.2.2.2.2.2.2.2.2.2.2.1,(a.2.2.2.2.2.2.2.2.2.2.2.2.2.2.2.2.2.2.2.1,(a.2.2.2.2.2.2.2.2.2.2.2.2.2.2.2.2.2.2.2.2.2.2,(i.1,(a.2.2.2.2.2.2.2.2.2.2.2.2.2.2.2.2.2.2.2.2.1,a.2.2.2.2.2.2.2.2.2.2.2.2.2.2.2.2.2.2.2.2.2.1)))))))),d.2.1,d.2.2))) ((j1i e.2.1 e.2.2 4).bind λg=>let a9:=S a.2.2.2.2.1.length
 cond (cond g.1 (L (a9>0)) Z) (let a7:=S a.2.2.2.2.1.length
 (j06 g.2.1 g.2.2 a7).bind λk=>(j06 k.2.1 k.2.2 2).bind λm=>let b2:=w64 (1+m.1)
 K ((a.2.2.2.2.2.2.2.2.2.2.2.2.2.2.1,(a.2.2.2.2.2.2.2.2.2.2.2.2.2.2.2.1,((a.2.2.2.2.2.2.2.2.2.2.2.2.2.2.2.2.1,a.2.2.2.2.2.2.2.2.2.2.2.2.2.2.2.2.2.1),(a.2.2.2.2.2.2.2.2.2.2.2.2.2.2.2.2.2.2.1,(a.2.2.2.2.2.2.2.2.2.2.2.2.2.2.2.2.2.2.2.1,(a.2.2.2.2.2.2.2.2.2.2.2.2.2.2.2.2.2.2.2.2.2.2,(([]:ah),(k.1,b2)))))))),m.2.1,m.2.2)) (K ((a.2.2.2.2.2.2.2.2.2.2.2.2.2.2.1,(a.2.2.2.2.2.2.2.2.2.2.2.2.2.2.2.1,((a.2.2.2.2.2.2.2.2.2.2.2.2.2.2.2.2.1,a.2.2.2.2.2.2.2.2.2.2.2.2.2.2.2.2.2.1),(a.2.2.2.2.2.2.2.2.2.2.2.2.2.2.2.2.2.2.1,(a.2.2.2.2.2.2.2.2.2.2.2.2.2.2.2.2.2.2.2.1,(a.2.2.2.2.2.2.2.2.2.2.2.2.2.2.2.2.2.2.2.2.2.2,(([]:ah),(a.2.2.2.2.2.2.2.2.2.2.2.2.2.2.2.2.2.2.2.2.1,a.2.2.2.2.2.2.2.2.2.2.2.2.2.2.2.2.2.2.2.2.2.1)))))))),g.2.1,g.2.2))))
def j5W(d:W J)(b:J):M (J×(W J)×J):=(j06 d b 576).bind λe=>let j:=w64 (3600*e.1)
 let i:=w64 (1767139200+j)
 (j1i e.2.1 e.2.2 3).bind λa=>cond a.1 (let g:W Int:=[(-1),1,1800,3599]
 (j0c a.2.1 a.2.2 g).bind λc=>let f:=w64 (i+c.1)
 K (f,c.2.1,c.2.2)) (K (i,a.2.1,a.2.2))
def j6V(n:W J)(j:J)(m:(W Æ)×((W Æ)×((W Æ)×(W Æ)))):M (nf×(W J)×J):=
 let k:=S m.2.1.length
 (j06 n j 3).bind λa=>(j06 a.2.1 a.2.2 k).bind λe=>(j5W e.2.1 e.2.2).bind λb=>let p:W Int:=[3600,86400,7,259200,40000]
 (j0c b.2.1 b.2.2 p).bind λd=>let f:=w64 (b.1+d.1)
 cond (a.1==2) (cond (L (k<2)) (K ((0,(e.1,(0,(b.1,f)))),d.2.1,d.2.2)) (let r:=w64 (e.1+1)
 let q:=w64 (k-1)
 (j06 d.2.1 d.2.2 q).bind λg=>let o:=w64 (r+g.1)
 cond (!(k==0)) (let l:=Â o k
 cond (a.1==1) ((j1i g.2.1 g.2.2 4).bind λi=>cond i.1 (K ((a.1,((-1),(l,(b.1,f)))),i.2.1,i.2.2)) (K ((a.1,(e.1,(l,(b.1,f)))),i.2.1,i.2.2))) (K ((a.1,(e.1,(l,(b.1,f)))),g.2.1,g.2.2))) X)) (cond (a.1==1) ((j1i d.2.1 d.2.2 4).bind λc=>cond c.1 (K ((a.1,((-1),(0,(b.1,f)))),c.2.1,c.2.2)) (K ((a.1,(e.1,(0,(b.1,f)))),c.2.1,c.2.2))) (K ((a.1,(e.1,(0,(b.1,f)))),d.2.1,d.2.2)))
def j2v[LP](r q:J)(o:W J)(j:J)(n:ai)(d:aj)(c:al)(p:O)(e:ao)(b:aK):M ((J×J×(W J)×J×ai×aj×al×O×ao×aK) ⊕ (J×(W J)×J×ai×aj×al×O×ao×aK)):=cond (L (q>0)) ((jfe).bind λi=>let f:=S b.length
 cond (inR f i.length) (let m:=N i f.toNat Y
 (j9O o j (n,(d,(c,e))) m).bind λa=>let g:aK:=[(a.1.1,(a.1.2.1,((a.1.2.2.1.1,a.1.2.2.1.2),(a.1.2.2.2.1,(a.1.2.2.2.2.1,(a.1.2.2.2.2.2.1,(a.1.2.2.2.2.2.2.1,(a.1.2.2.2.2.2.2.2.1,a.1.2.2.2.2.2.2.2.2))))))))]
 cond (L (U b+U g<=aG)) (let l:aK:=b++g
 let k:=w64 (q-1)
 K (.inl (r,k,a.2.1,a.2.2,n,d,c,p,e,l))) X) X) (K (.inr (r,o,j,n,d,c,p,e,b)))
def I6[LP](k j:J)(g:W J)(c:J)(f:ai)(d:aj)(a:al)(i:O)(e:ao)(b:aK):M (J×(W J)×J×ai×aj×al×O×ao×aK):=LP.lp (u8 unc2 j2v) (k,j,g,c,f,d,a,i,e,b)
theorem Yk(k j g c f d a i e b):I6 k j g c f d a i e b=lpK (j2v k j g c f d a i e b) (λh=>I6 h.1 h.2.1 h.2.2.1 h.2.2.2.1 h.2.2.2.2.1 h.2.2.2.2.2.1 h.2.2.2.2.2.2.1 h.2.2.2.2.2.2.2.1 h.2.2.2.2.2.2.2.2.1 h.2.2.2.2.2.2.2.2.2):=bj _ _
def j2w(o p:J)(m:W J)(i:J)(l:ai)(c:aj)(b:al)(n:O)(d:ao)(g:aK)(e:aJ):M ((J×J×(W J)×J×ai×aj×al×O×ao×aK×aJ) ⊕ (J×(W J)×J×ai×aj×al×O×ao×aK×aJ)):=cond (L (p>0)) ((j6V m i ((Å l.length ()),((Å c.length ()),((Å b.length ()),(Å d.length ()))))).bind λa=>let f:aJ:=[(a.1.1,(a.1.2.1,(a.1.2.2.1,(a.1.2.2.2.1,a.1.2.2.2.2))))]
 cond (L (U e+U f<=aG)) (let k:aJ:=e++f
 let j:=w64 (p-1)
 K (.inl (o,j,a.2.1,a.2.2,l,c,b,n,d,g,k))) X) (K (.inr (o,m,i,l,c,b,n,d,g,e)))
def I7[LP](k l:J)(i:W J)(c:J)(g:ai)(d:aj)(a:al)(j:O)(e:ao)(b:aK)(f:aJ):M (J×(W J)×J×ai×aj×al×O×ao×aK×aJ):=LP.lp (u8 unc3 j2w) (k,l,i,c,g,d,a,j,e,b,f)
theorem Yl(k l i c g d a j e b f):I7 k l i c g d a j e b f=lpK (j2w k l i c g d a j e b f) (λh=>I7 h.1 h.2.1 h.2.2.1 h.2.2.2.1 h.2.2.2.2.1 h.2.2.2.2.2.1 h.2.2.2.2.2.2.1 h.2.2.2.2.2.2.2.1 h.2.2.2.2.2.2.2.2.1 h.2.2.2.2.2.2.2.2.2.1 h.2.2.2.2.2.2.2.2.2.2):=bj _ _
def j2x[LP](s:J)(r:W J)(k:J)(q:ai)(l:aj)(j:al)(e:ao):M ((J×(W J)×J×ai×aj×al×ao) ⊕ ((W J)×J×ai×aj×al×ao)):=cond (L (s>0)) (let f:W ByteArray:=[(À #[102,105,114,115,116]),(À #[115,101,99,111,110,100]),(À #[116,104,105,114,100])]
 let o:=S e.length
 let g:=Â o 3
 cond (inR g f.length) (let p:=N f g.toNat Y
 (j06 r k 4).bind λd=>(I6 s d.1 d.2.1 d.2.2 q l j p e ([]:aK)).bind λb=>(j06 b.2.1 b.2.2.1 4).bind λc=>(I7 b.1 c.1 c.2.1 c.2.2 b.2.2.2.1 b.2.2.2.2.1 b.2.2.2.2.2.1 b.2.2.2.2.2.2.1 b.2.2.2.2.2.2.2.1 b.2.2.2.2.2.2.2.2 ([]:aJ)).bind λa=>let i:ao:=[(a.2.2.2.2.2.2.1,(a.2.2.2.2.2.2.2.2.1,a.2.2.2.2.2.2.2.2.2))]
 cond (L (U a.2.2.2.2.2.2.2.1+U i<=aG)) (let n:ao:=a.2.2.2.2.2.2.2.1++i
 let m:=w64 (a.1-1)
 K (.inl (m,a.2.1,a.2.2.1,a.2.2.2.1,a.2.2.2.2.1,a.2.2.2.2.2.1,n))) X) X) (K (.inr (r,k,q,l,j,e)))
def I8[LP](g:J)(f:W J)(b:J)(e:ai)(c:aj)(a:al)(d:ao):M ((W J)×J×ai×aj×al×ao):=LP.lp (unc7 j2x) (g,f,b,e,c,a,d)
theorem Ym(g f b e c a d):I8 g f b e c a d=lpK (j2x g f b e c a d) (λh=>I8 h.1 h.2.1 h.2.2.1 h.2.2.2.1 h.2.2.2.2.1 h.2.2.2.2.2.1 h.2.2.2.2.2.2):=bj _ _
def j8P[LP](f:W J)(d e:J):M (bB×(W J)×J):=(j9N f d).bind λa=>(j06 a.2.1 a.2.2 e).bind λc=>let g:=w64 (1+c.1)
 (I8 g c.2.1 c.2.2 a.1.1 a.1.2.1 a.1.2.2.1 ([]:ao)).bind λb=>K ((b.2.2.1,(b.2.2.2.1,(b.2.2.2.2.1,b.2.2.2.2.2))),b.1,b.2.1)
def jcF(a:bB):M (ai×aj×al×O×aK×aJ):=cond (L (U ([]:ai)+U a.1<=aG)) (let m:ai:=([]:ai)++a.1
 cond (L (U ([]:aj)+U a.2.1<=aG)) (let f:aj:=([]:aj)++a.2.1
 cond (L (U ([]:al)+U a.2.2.1<=aG)) (let e:al:=([]:al)++a.2.2.1
 let g:=S a.2.2.2.length
 cond (L (0<g)) (cond (inR 0 a.2.2.2.length) (let c:=N a.2.2.2 0 (Y,(([]:aK),([]:aJ)))
 cond (L (U ([]:aK)+U c.2.1<=aG)) (let j:aK:=([]:aK)++c.2.1
 cond (L (U ([]:aJ)+U c.2.2<=aG)) (let i:aJ:=([]:aJ)++c.2.2
 let d:=S a.2.2.2.length
 cond (L (1<d)) (cond (inR 1 a.2.2.2.length) (let b:=N a.2.2.2 1 (Y,(([]:aK),([]:aJ)))
 cond (L (U ([]:aK)+U b.2.1<=aG)) (let l:aK:=([]:aK)++b.2.1
 cond (L (U ([]:aJ)+U b.2.2<=aG)) (let k:aJ:=([]:aJ)++b.2.2
 X) X) X) X) (K (m,f,e,c.1,j,i))) X) X) X) (X)) X) X) X
def tG(a:aK)(b:J)(c:eB->eB):aK:=É a b.toNat (c (N a b.toNat (Y,(0,((0,0),(0,(0,(([]:(W J)),(([]:ah),(0,0))))))))))
def Fu(a:aj)(b:J)(c:vA->vA):aj:=É a b.toNat (c (N a b.toNat (Y,(0,(([]:ah),(0,(0,Z)))))))
def Fv{k:Type}(m:J)(d:aK)(j:W J)(l:J)(f:aK->W J->J->M  k):M k:=
 let i:=S d.length
 cond (i==0) (f d j l) ((j06 j l i).bind λe=>cond (inR e.1 d.length) ((j06 e.2.1 e.2.2 8).bind λc=>(cond (c.1==0) ((j0c c.2.1 c.2.2 [0,1,400,401]).bind λb=>
(f (tG d e.1 λa=>(a.1,(a.2.1,(a.2.2.1,(a.2.2.2.1,(b.1,a.2.2.2.2.2)))))) b.2.1 b.2.2)) (cond (c.1==1) ((j0c c.2.1 c.2.2 [0,1,(-5),98979,98981]).bind λb=>
(f (tG d e.1 λa=>(a.1,(a.2.1,((b.1,a.2.2.1.2),a.2.2.2)))) b.2.1 b.2.2)) (cond (c.1==2) (f (tG d e.1 λa=>(a.1,(a.2.1,(a.2.2.1,(a.2.2.2.1,(a.2.2.2.2.1,([],a.2.2.2.2.2.2))))))) c.2.1 c.2.2) (cond (c.1==3) ((j0c c.2.1 c.2.2 [0,(-1),m]).bind λb=>
(f (tG d e.1 λa=>(a.1,(a.2.1,(a.2.2.1,(a.2.2.2.1,(a.2.2.2.2.1,([b.1],a.2.2.2.2.2.2))))))) b.2.1 b.2.2)) (cond (c.1==4) ((j0c c.2.1 c.2.2 [(-1),3]).bind λb=>
(f (tG d e.1 λa=>(a.1,(a.2.1,(a.2.2.1,(b.1,a.2.2.2.2))))) b.2.1 b.2.2)) (cond (c.1==5) ((j0c c.2.1 c.2.2 [0,1,2,3]).bind λb=>
(f (tG d e.1 λa=>(a.1,(a.2.1,(a.2.2.1,(a.2.2.2.1,(a.2.2.2.2.1,(a.2.2.2.2.2.1,(a.2.2.2.2.2.2.1,(a.2.2.2.2.2.2.2.1,b.1))))))))) b.2.1 b.2.2)) (cond (c.1==6) ((j0c c.2.1 c.2.2 [0,1,(-1)]).bind λb=>
(f (tG d e.1 λa=>(a.1,(a.2.1,(a.2.2.1,(a.2.2.2.1,(a.2.2.2.2.1,(a.2.2.2.2.2.1,(a.2.2.2.2.2.2.1,(b.1,a.2.2.2.2.2.2.2.2))))))))) b.2.1 b.2.2)) (cond (c.1==7) (
let g:W ByteArray:=[(À #[97,100,97]),(À #[98,111,98]),(À #[120,32,121])]
(j06 c.2.1 c.2.2 3).bind λb=>
cond (inR b.1 g.length) (f (tG d e.1 λa=>((N g b.1.toNat Y),a.2)) b.2.1 b.2.2) X) (f d c.2.1 c.2.2)))))))))) X)
def Fw{f:Type}(l g i m:Nat)(k:W J)(j:J)(d:nf->W J->J->M  f):M f:=(j6V k j ((Å l ()),((Å g ()),((Å i ()),(Å m ()))))).bind λa=>(j06 a.2.1 a.2.2 5).bind λb=>(cond (b.1==0) (d (a.1.1,(a.1.2.1,(a.1.2.2.1,(a.1.2.2.2.1,a.1.2.2.2.1)))) b.2.1 b.2.2) (cond (b.1==1) ((j0c b.2.1 b.2.2 [(-1),(-2),(S g)]).bind λc=>
(d (a.1.1,(c.1,a.1.2.2)) c.2.1 c.2.2)) (cond (b.1==2) ((j0c b.2.1 b.2.2 [0,1,a.1.2.1]).bind λc=>
(d (a.1.1,(a.1.2.1,(c.1,a.1.2.2.2))) c.2.1 c.2.2)) (cond (b.1==3) ((j0c b.2.1 b.2.2 [0,(-1)]).bind λc=>
(j0c c.2.1 c.2.2 [8551872000,8551958399,8551958400,8589934592]).bind λe=>
(d (a.1.1,(a.1.2.1,(a.1.2.2.1,(c.1,e.1)))) e.2.1 e.2.2)) (cond (b.1==4) ((j0c b.2.1 b.2.2 [(-1),3]).bind λc=>
(d (c.1,a.1.2) c.2.1 c.2.2)) (d a.1 b.2.1 b.2.2))))))
def I9(g:ai)(e:aj)(i:al)(k:ao)(o:W J)(n:J)(m p:W J->J->M  (bB×(W J)×J)):M (bB×(W J)×J):=(j06 o n 12).bind λb=>(cond (b.1==0) ((j06 b.2.1 b.2.2 (S g.length)).bind λa=>
(j0c a.2.1 a.2.2 [30,64800,64860,(-64800),(-64801)]).bind λc=>
(cond (inR a.1 g.length) (K (((É g a.1.toNat ((N g a.1.toNat (Y,(0,([]:ba)))).1,(c.1,(N g a.1.toNat (Y,(0,([]:ba)))).2.2))),(e,(i,k))),c.2.1,c.2.2)) X)) (cond (b.1==1) ((j06 b.2.1 b.2.2 (S e.length)).bind λa=>
(j0c a.2.1 a.2.2 [(-1),(S g.length)]).bind λc=>
(cond (inR a.1 e.length) (K ((g,((Fu e a.1 λf=>(f.1,(c.1,f.2.2))),(i,k))),c.2.1,c.2.2)) X)) (cond (b.1==2) ((j06 b.2.1 b.2.2 (S e.length)).bind λa=>
let d:W ByteArray:=[(À #[110,111,98,111,100,121]),Y,(À #[65,100,97]),(À #[97,100,97]),(À #[97,45,49,95,98])]
(j06 a.2.1 a.2.2 5).bind λc=>
cond (inR c.1 d.length) (cond (inR a.1 e.length) (K ((g,((Fu e a.1 λf=>((N d c.1.toNat Y),f.2)),(i,k))),c.2.1,c.2.2)) X) X) (cond (b.1==3) ((j06 b.2.1 b.2.2 (S e.length)).bind λa=>
(j0c a.2.1 a.2.2 [1,(-3600),604800,608400]).bind λc=>
(cond (inR a.1 e.length) (K ((g,((Fu e a.1 λf=>(f.1,(f.2.1,(f.2.2.1,(f.2.2.2.1,(c.1,f.2.2.2.2.2)))))),(i,k))),c.2.1,c.2.2)) X)) (cond (b.1==4) ((j06 b.2.1 b.2.2 (S e.length)).bind λa=>
(j0c a.2.1 a.2.2 [0,(-1),5]).bind λc=>
(j0c c.2.1 c.2.2 [5,604800,604801]).bind λj=>
(cond (inR a.1 e.length) (K ((g,((Fu e a.1 λf=>(f.1,(f.2.1,([(c.1,j.1)],f.2.2.2)))),(i,k))),j.2.1,j.2.2)) X)) (cond (b.1==5) (
let d:W ByteArray:=[(À #[100,97,121,115]),(À #[111,116,104,101,114])]
(j06 b.2.1 b.2.2 2).bind λa=>
cond (inR a.1 d.length) ((j0c a.2.1 a.2.2 [5,(-1)]).bind λc=>
(j0c c.2.1 c.2.2 [5,6,100000]).bind λj=>
let l:al:=[((N d a.1.toNat Y),(0,[c.1,j.1]))]
(cond (L (U i+U l<=aG)) (K ((g,(e,((i++l),k))),j.2.1,j.2.2)) X)) X) (cond (b.1==6) (
let d:W ByteArray:=[(À #[102,105,114,115,116]),(À #[102,111,117,114,116,104])]
(j06 b.2.1 b.2.2 2).bind λa=>
cond (inR a.1 d.length) (K ((g,(e,(i,(k++[((N d a.1.toNat Y),([],[]))])))),a.2.1,a.2.2)) X) (cond (b.1==7) (m b.2.1 b.2.2) (cond (b.1==8) (m b.2.1 b.2.2) (cond (b.1==9) (m b.2.1 b.2.2) (p b.2.1 b.2.2)))))))))))
def j6W(g:W J)(c:J)(b:bB):M (bB×(W J)×J):=(jcF (b.1,(b.2.1,(b.2.2.1,b.2.2.2)))).bind λa=>I9 a.1 a.2.1 a.2.2.1 [(a.2.2.2.1,(a.2.2.2.2.1,a.2.2.2.2.2))] g c (λf e=>(j06 f e 1).bind λd=>cond (inR d.1 1) (Fv (S a.2.1.length) a.2.2.2.2.1 d.2.1 d.2.2 λj f e=>K ((a.1,(a.2.1,(a.2.2.1,[(a.2.2.2.1,(j,a.2.2.2.2.2))]))),f,e)) X) (λf e=>(j06 f e 1).bind λd=>cond (inR d.1 1) (Fw a.1.length a.2.1.length a.2.2.1.length 1 d.2.1 d.2.2 λi f e=>cond (L (U a.2.2.2.2.2+U [i]<=aG)) (K ((a.1,(a.2.1,(a.2.2.1,[(a.2.2.2.1,(a.2.2.2.2.1,(a.2.2.2.2.2++[i])))]))),f,e)) X) X)
def ji8(a:bB):M (ai×aj×al×O×O×aK×aJ×aK×aJ):=cond (L (U ([]:ai)+U a.1<=aG)) (let q:ai:=([]:ai)++a.1
 cond (L (U ([]:aj)+U a.2.1<=aG)) (let k:aj:=([]:aj)++a.2.1
 cond (L (U ([]:al)+U a.2.2.1<=aG)) (let j:al:=([]:al)++a.2.2.1
 let l:=S a.2.2.2.length
 cond (L (0<l)) (cond (inR 0 a.2.2.2.length) (let d:=N a.2.2.2 0 (Y,(([]:aK),([]:aJ)))
 cond (L (U ([]:aK)+U d.2.1<=aG)) (let n:aK:=([]:aK)++d.2.1
 cond (L (U ([]:aJ)+U d.2.2<=aG)) (let m:aJ:=([]:aJ)++d.2.2
 let g:=S a.2.2.2.length
 cond (L (1<g)) (cond (inR 1 a.2.2.2.length) (let b:=N a.2.2.2 1 (Y,(([]:aK),([]:aJ)))
 cond (L (U ([]:aK)+U b.2.1<=aG)) (let f:aK:=([]:aK)++b.2.1
 cond (L (U ([]:aJ)+U b.2.2<=aG)) (let e:aJ:=([]:aJ)++b.2.2
 let i:=S a.2.2.2.length
 cond (L (2<i)) (cond (inR 2 a.2.2.2.length) (let c:=N a.2.2.2 2 (Y,(([]:aK),([]:aJ)))
 cond (L (U ([]:aK)+U c.2.1<=aG)) (let o:aK:=([]:aK)++c.2.1
 cond (L (U ([]:aJ)+U c.2.2<=aG)) (let p:aJ:=([]:aJ)++c.2.2
 X) X) X) X) (K (q,k,j,d.1,b.1,n,m,f,e))) X) X) X) (X)) X) X) X) (X)) X) X) X
def jaY(g:W J)(d:J)(b:bB):M (bB×(W J)×J):=(ji8 (b.1,(b.2.1,(b.2.2.1,b.2.2.2)))).bind λa=>I9 a.1 a.2.1 a.2.2.1 [(a.2.2.2.1,(a.2.2.2.2.2.1,a.2.2.2.2.2.2.1)),(a.2.2.2.2.1,(a.2.2.2.2.2.2.2.1,a.2.2.2.2.2.2.2.2))] g d (λf e=>(j06 f e 2).bind λc=>(cond (c.1==0) (Fv (S a.2.1.length) a.2.2.2.2.2.1 c.2.1 c.2.2 λj f e=>K ((a.1,(a.2.1,(a.2.2.1,[(a.2.2.2.1,(j,a.2.2.2.2.2.2.1)),(a.2.2.2.2.1,(a.2.2.2.2.2.2.2.1,a.2.2.2.2.2.2.2.2))]))),f,e)) (cond (c.1==1) (Fv (S a.2.1.length) a.2.2.2.2.2.2.2.1 c.2.1 c.2.2 λj f e=>K ((a.1,(a.2.1,(a.2.2.1,[(a.2.2.2.1,(a.2.2.2.2.2.1,a.2.2.2.2.2.2.1)),(a.2.2.2.2.1,(j,a.2.2.2.2.2.2.2.2))]))),f,e)) X))) (λf e=>(j06 f e 2).bind λc=>(cond (c.1==0) (Fw a.1.length a.2.1.length a.2.2.1.length 2 c.2.1 c.2.2 λi f e=>cond (L (U a.2.2.2.2.2.2.1+U [i]<=aG)) (K ((a.1,(a.2.1,(a.2.2.1,[(a.2.2.2.1,(a.2.2.2.2.2.1,(a.2.2.2.2.2.2.1++[i]))),(a.2.2.2.2.1,(a.2.2.2.2.2.2.2.1,a.2.2.2.2.2.2.2.2))]))),f,e)) X) (cond (c.1==1) (Fw a.1.length a.2.1.length a.2.2.1.length 2 c.2.1 c.2.2 λi f e=>cond (L (U a.2.2.2.2.2.2.2.2+U [i]<=aG)) (K ((a.1,(a.2.1,(a.2.2.1,[(a.2.2.2.1,(a.2.2.2.2.2.1,a.2.2.2.2.2.2.1)),(a.2.2.2.2.1,(a.2.2.2.2.2.2.2.1,(a.2.2.2.2.2.2.2.2++[i])))]))),f,e)) X) X)))
def j9P(c:W J)(a:J)(b:bB):M (bB×(W J)×J):=
 orF (j6W c a b) (jaY c a b)
def jqM(b a:J):M Int:=cond (!(a==0)) (let e:=Â b a
 let d:=w64 (e+a)
 cond (!(a==0)) (let c:=Â d a
 K c) X) X
def jnS(a:J):M Bool:=K (cond (L (a>=48)) (L (a<=57)) Z)
def j6E(b:O)(a:J):M ((O×J) ⊕ (Ã ⊕ Æ)):=
 let j:=S (Ä b)
 cond (L (a<j)) (cond (inR a (Ä b)) (let d:=dY b a
 cond ((inR a (Ä b)) || !(!(L (d<97)))) (let e:=dY b a
 cond ((inR a (Ä b)) || !(cond (L (d<97)) Á (L (e>122)))) (let l:=dY b a
 cond (cond (L (d<97)) Á (L (e>122))) ((jnS l).bind λc=>cond ((inR a (Ä b)) || !(!c)) (let f:=dY b a
 cond ((inR a (Ä b)) || !(cond (!c) (f != 95) Z)) (let g:=dY b a
 cond (cond (cond (!c) (f != 95) Z) (g != 45) Z) (K (.inr (.inl Z))) (let i:=w64 (a+1)
 K (.inl (b,i)))) X) X) (cond ((inR a (Ä b)) || !Z) (let n:=dY b a
 cond ((inR a (Ä b)) || !Z) (let m:=dY b a
 let k:=w64 (a+1)
 K (.inl (b,k))) X) X)) X) X) X) (K (.inr (.inr ())))
def Ja[LP](b:O)(a:J):M (Ã ⊕ Æ):=LP.lp (unc2 j6E) (b,a)
theorem Yn(b a):Ja b a=lpK (j6E b a) (λh=>Ja h.1 h.2):=bj _ _
def jmY[LP](a:O):M Bool:=
 let e:=S (Ä a)
 let d:=S (Ä a)
 cond ((inR 0 (Ä a)) || !(!(cond (L (e<1)) Á (L (d>24))))) (let c:=dY a 0
 let b:Bool:=cond (cond (L (e<1)) Á (L (d>24))) Á (L (c<97))
 cond ((inR 0 (Ä a)) || !(!b)) (let f:=dY a 0
 cond (cond b Á (L (f>122))) (K Z) ((Ja a 0).bind λg=>sumC g (λi=>K i) (λj=>K Á))) X) X
def j6F(a:W O)(f d:J):M (((W O)×J×J) ⊕ (J ⊕ Æ)):=cond (L (d<f)) (cond (inR d a.length) (let e:=N a d.toNat Y
 cond (inR f a.length) (let b:=N a f.toNat Y
 cond (È e==È b) (K (.inr (.inl 4))) (let c:=w64 (d+1)
 K (.inl (a,f,c)))) X) X) (K (.inr (.inr ())))
def Jb[LP](c:W O)(b a:J):M (J ⊕ Æ):=LP.lp (unc3 j6F) (c,b,a)
theorem Yo(c b a):Jb c b a=lpK (j6F c b a) (λh=>Jb h.1 h.2.1 h.2.2):=bj _ _
def je6[LP](b:W O)(a:J):M Int:=cond (inR a b.length) (let e:=N b a.toNat Y
 (jmY e).bind λc=>cond (!c) (K 2) ((Jb b a 0).bind λd=>sumC d (λf=>K f) (λg=>K 0))) X
def j8x(a b c:J):M Bool:=K (cond (L (a>=b)) (L (a<=c)) Z)
def jbu(a:u9):M Bool:=(j8x a.1 1970 2240).bind λi=>cond i ((j8x a.2.1 a.1 2240).bind λe=>cond e ((j8x a.2.2.1 1 12).bind λg=>cond g ((j8x a.2.2.2.1 1 5).bind λb=>cond b ((j8x a.2.2.2.2.1 0 6).bind λf=>cond f ((j8x a.2.2.2.2.2.1 0 86399).bind λd=>cond d ((j8x a.2.2.2.2.2.2 (-64800) 64800).bind λc=>K c) (K Z)) (K Z)) (K Z)) (K Z)) (K Z)) (K Z)
def j1C(a:J):M Bool:=
 let d:=Â a 4
 let c:=Â a 100
 let b:=Â a 400
 K (cond (d==0) (cond (c != 0) Á (b==0)) Z)
def jfR(b a:J):M Int:=cond (a==1) (cond (a==1) (K 31) (cond (a==4) (cond (a==4) (K 30) (cond (a==2) ((j1C b).bind λa4=>cond a4 (K 29) (K 28)) (K 0))) (cond (a==6) (cond (a==6) (K 30) (cond (a==2) ((j1C b).bind λx=>cond x (K 29) (K 28)) (K 0))) (cond (a==9) (cond (a==9) (K 30) (cond (a==2) ((j1C b).bind λa2=>cond a2 (K 29) (K 28)) (K 0))) (cond (a==11) (K 30) (cond (a==2) ((j1C b).bind λv=>cond v (K 29) (K 28)) (K 0))))))) (cond (a==3) (cond (a==3) (K 31) (cond (a==4) (cond (a==4) (K 30) (cond (a==2) ((j1C b).bind λy=>cond y (K 29) (K 28)) (K 0))) (cond (a==6) (cond (a==6) (K 30) (cond (a==2) ((j1C b).bind λa3=>cond a3 (K 29) (K 28)) (K 0))) (cond (a==9) (cond (a==9) (K 30) (cond (a==2) ((j1C b).bind λw=>cond w (K 29) (K 28)) (K 0))) (cond (a==11) (K 30) (cond (a==2) ((j1C b).bind λa0=>cond a0 (K 29) (K 28)) (K 0))))))) (cond (a==5) (cond (a==5) (K 31) (cond (a==4) (cond (a==4) (K 30) (cond (a==2) ((j1C b).bind λa1=>cond a1 (K 29) (K 28)) (K 0))) (cond (a==6) (cond (a==6) (K 30) (cond (a==2) ((j1C b).bind λz=>cond z (K 29) (K 28)) (K 0))) (cond (a==9) (cond (a==9) (K 30) (cond (a==2) ((j1C b).bind λl=>cond l (K 29) (K 28)) (K 0))) (cond (a==11) (K 30) (cond (a==2) ((j1C b).bind λm=>cond m (K 29) (K 28)) (K 0))))))) (cond (a==7) (cond (a==7) (K 31) (cond (a==4) (cond (a==4) (K 30) (cond (a==2) ((j1C b).bind λf=>cond f (K 29) (K 28)) (K 0))) (cond (a==6) (cond (a==6) (K 30) (cond (a==2) ((j1C b).bind λj=>cond j (K 29) (K 28)) (K 0))) (cond (a==9) (cond (a==9) (K 30) (cond (a==2) ((j1C b).bind λp=>cond p (K 29) (K 28)) (K 0))) (cond (a==11) (K 30) (cond (a==2) ((j1C b).bind λk=>cond k (K 29) (K 28)) (K 0))))))) (cond (a==8) (cond (a==8) (K 31) (cond (a==4) (cond (a==4) (K 30) (cond (a==2) ((j1C b).bind λq=>cond q (K 29) (K 28)) (K 0))) (cond (a==6) (cond (a==6) (K 30) (cond (a==2) ((j1C b).bind λr=>cond r (K 29) (K 28)) (K 0))) (cond (a==9) (cond (a==9) (K 30) (cond (a==2) ((j1C b).bind λd=>cond d (K 29) (K 28)) (K 0))) (cond (a==11) (K 30) (cond (a==2) ((j1C b).bind λn=>cond n (K 29) (K 28)) (K 0))))))) (cond (a==10) (cond (a==10) (K 31) (cond (a==4) (cond (a==4) (K 30) (cond (a==2) ((j1C b).bind λo=>cond o (K 29) (K 28)) (K 0))) (cond (a==6) (cond (a==6) (K 30) (cond (a==2) ((j1C b).bind λu=>cond u (K 29) (K 28)) (K 0))) (cond (a==9) (cond (a==9) (K 30) (cond (a==2) ((j1C b).bind λs=>cond s (K 29) (K 28)) (K 0))) (cond (a==11) (K 30) (cond (a==2) ((j1C b).bind λg=>cond g (K 29) (K 28)) (K 0))))))) (cond (a==12) (K 31) (cond (a==4) (cond (a==4) (K 30) (cond (a==2) ((j1C b).bind λe=>cond e (K 29) (K 28)) (K 0))) (cond (a==6) (cond (a==6) (K 30) (cond (a==2) ((j1C b).bind λc=>cond c (K 29) (K 28)) (K 0))) (cond (a==9) (cond (a==9) (K 30) (cond (a==2) ((j1C b).bind λt=>cond t (K 29) (K 28)) (K 0))) (cond (a==11) (K 30) (cond (a==2) ((j1C b).bind λi=>cond i (K 29) (K 28)) (K 0))))))))))))
def jkc(a:sv):M Bool:=cond (L (a.1>=1970)) (cond (L (a.1<=2240)) (cond (L (a.2.1>=1)) (cond (L (a.2.1<=12)) (cond (L (a.2.2>=1)) ((jfR a.1 a.2.1).bind λb=>K (L (a.2.2<=b))) (K Z)) (K Z)) (K Z)) (K Z)) (K Z)
def jkd(a:J):M Int:=
 let i:=w64 (a-1970)
 let j:=w64 (i*365)
 let m:=w64 (a-1969)
 let l:=w64 (Ç m 4)
 let k:=w64 (j+l)
 let c:=w64 (a-1901)
 let e:=w64 (Ç c 100)
 let d:=w64 (k-e)
 let g:=w64 (a-1601)
 let f:=w64 (Ç g 400)
 let b:=w64 (d+f)
 K b
def j7r(i g f a b:J):M ((J×J×J×J×J) ⊕ (J×J×J×J)):=cond (L (g<a)) ((jfR f g).bind λc=>let d:=w64 (i+c)
 let e:=w64 (g+1)
 K (.inl (d,e,f,a,b))) (K (.inr (i,f,a,b)))
def Jc[LP](d e c a b:J):M (J×J×J×J):=LP.lp (unc5 j7r) (d,e,c,a,b)
theorem Yp(d e c a b):Jc d e c a b=lpK (j7r d e c a b) (λh=>Jc h.1 h.2.1 h.2.2.1 h.2.2.2.1 h.2.2.2.2):=bj _ _
def jqN[LP](a:sv):M (J×J):=(jkc (a.1,(a.2.1,a.2.2))).bind λf=>cond (!f) (K (0,1)) ((jkd a.1).bind λc=>(Jc c 1 a.1 a.2.1 a.2.2).bind λe=>let b:=w64 (e.1+e.2.2.2)
 let d:=w64 (b-1)
 K (d,0))
def jcW(a:J):M Int:=
 let c:=Â a 7
 let b:=w64 (c+10)
 let d:=Â b 7
 K d
def j7s(f i g e d a:J):M ((J×J×J×J×J×J) ⊕ (J×J×J×J×J)):=(jcW a).bind λc=>cond (c != e) (let b:=w64 (a+1)
 K (.inl (f,i,g,e,d,b))) (K (.inr (f,i,g,d,a)))
def Jd[LP](d f e c a b:J):M (J×J×J×J×J):=LP.lp (unc6 j7s) (d,f,e,c,a,b)
theorem Yq(d f e c a b):Jd d f e c a b=lpK (j7s d f e c a b) (λh=>Jd h.1 h.2.1 h.2.2.1 h.2.2.2.1 h.2.2.2.2.1 h.2.2.2.2.2):=bj _ _
def j7t(g i f a:J):M ((J×J×J×J) ⊕ (J)):=
 let b:=w64 (a+7)
 (jfR g i).bind λe=>let d:=w64 (f+e)
 cond (L (b<d)) (let c:=w64 (a+7)
 K (.inl (g,i,f,c))) (K (.inr a))
def Jf[LP](d c b a:J):M Int:=LP.lp (unc4 j7t) (d,c,b,a)
theorem Yr(c d b a):Jf c d b a=lpK (j7t c d b a) (λh=>Jf h.1 h.2.1 h.2.2.1 h.2.2.2):=bj _ _
def jqO[LP](f c b a:J):M (J×J):=(jqN (f,(c,1))).bind λe=>let k:Bool:=cond (cond (e.2 != 0) Á (L (b<1))) Á (L (b>5))
 let i:Bool:=cond (cond k Á (L (a<0))) Á (L (a>6))
 cond i (K (0,1)) ((Jd f c b a e.1 e.1).bind λd=>cond (L (d.2.2.1<5)) (let j:=w64 (d.2.2.1-1)
 let l:=w64 (7*j)
 let g:=w64 (d.2.2.2.2+l)
 K (g,0)) ((Jf d.1 d.2.1 d.2.2.2.1 d.2.2.2.2).bind λm=>K (m,0)))
def j2T(j:ba)(i k d f a:J)(c:ah):M ((ba×J×J×J×J×J×ah) ⊕ (ba×J×J×J×J×J×ah)):=cond (L (d>0)) (let b:=w64 (d-1)
 cond (inR b c.length) (let e:=(N c b.toNat (0,0)).1
 cond (L (e>f)) (let g:=w64 (d-1)
 K (.inl (j,i,k,g,f,a,c))) (K (.inr (j,i,k,d,f,a,c)))) X) (K (.inr (j,i,k,d,f,a,c)))
def Fx[LP](e:ba)(d f g c a:J)(b:ah):M (ba×J×J×J×J×J×ah):=LP.lp (unc7 j2T) (e,d,f,g,c,a,b)
theorem Ys(e d f g c a b):Fx e d f g c a b=lpK (j2T e d f g c a b) (λh=>Fx h.1 h.2.1 h.2.2.1 h.2.2.2.1 h.2.2.2.2.1 h.2.2.2.2.2.1 h.2.2.2.2.2.2):=bj _ _
def j2U[LP](d:ba)(c v:J)(t:ah):M ((ba×J×J×ah) ⊕ (ba×J×ah)):=cond (inR c d.length) (let l:=N d c.toNat (0,(0,(0,(0,(0,(0,0))))))
 cond (L (v<=l.2.1)) (cond (inR c d.length) (let r:=N d c.toNat (0,(0,(0,(0,(0,(0,0))))))
 cond (inR c d.length) (let k:=N d c.toNat (0,(0,(0,(0,(0,(0,0))))))
 cond (inR c d.length) (let q:=N d c.toNat (0,(0,(0,(0,(0,(0,0))))))
 (jqO v r.2.2.1 k.2.2.2.1 q.2.2.2.2.1).bind λi=>let j:=w64 (i.1*86400)
 cond (inR c d.length) (let p:=N d c.toNat (0,(0,(0,(0,(0,(0,0))))))
 let s:=w64 (j+p.2.2.2.2.2.1)
 cond (inR c d.length) (let o:=N d c.toNat (0,(0,(0,(0,(0,(0,0))))))
 let m:=S t.length
 (Fx d c v m s o.2.2.2.2.2.2 t).bind λa=>let g:ah:=[(a.2.2.2.2.1,a.2.2.2.2.2.1)]
 cond (L (U a.2.2.2.2.2.2+U g<=aG)) (let b:ah:=a.2.2.2.2.2.2++g
 let e:=w64 (a.2.2.2.1+1)
 cond (L (0<=e)&&L (e<=(S b.length))) (cond (L (0<=a.2.2.2.1)&&L (a.2.2.2.1<=(S b.length))) (let f:ah:=over b e.toNat (Ë a.2.2.2.1.toNat b)
 let w:=S (min (U (Ë a.2.2.2.1.toNat b)) (U b-e.toNat))
 cond (inR a.2.2.2.1 f.length) (let u:ah:=É f a.2.2.2.1.toNat (a.2.2.2.2.1,a.2.2.2.2.2.1)
 let n:=w64 (a.2.2.1+1)
 K (.inl (a.1,a.2.1,n,u))) X) X) X) X) X) X) X) X) X) (K (.inr (d,c,t)))) X
def Jg[LP](d:ba)(c a:J)(b:ah):M (ba×J×ah):=LP.lp (unc4 j2U) (d,c,a,b)
theorem Yt(c b d a):Jg c b d a=lpK (j2U c b d a) (λh=>Jg h.1 h.2.1 h.2.2.1 h.2.2.2):=bj _ _
def j2V[LP](d:ba)(b:J)(g:ah):M ((ba×J×ah) ⊕ (ah)):=
 let f:=S d.length
 cond (L (b<f)) (cond (inR b d.length) (let c:=N d b.toNat (0,(0,(0,(0,(0,(0,0))))))
 (Jg d b c.1 g).bind λa=>let e:=w64 (a.2.1+1)
 K (.inl (a.1,e,a.2.2))) X) (K (.inr g))
def Fy[LP](c:ba)(b:J)(a:ah):M ah:=LP.lp (unc3 j2V) (c,b,a)
theorem Yu(c b a):Fy c b a=lpK (j2V c b a) (λh=>Fy h.1 h.2.1 h.2.2):=bj _ _
def j9Q[LP](a:ba):M ah:=(Fy a 0 ([]:ah)).bind λb=>K b
def j1Y(o c:J)(n:O)(d:J)(b:ba):M ((J×J×O×J×ba) ⊕ (J ⊕ (J×O×J×ba))):=
 let g:=S b.length
 cond (L (c<g)) (cond (inR c b.length) (let a:=N b c.toNat (0,(0,(0,(0,(0,(0,0))))))
 (jbu (a.1,(a.2.1,(a.2.2.1,(a.2.2.2.1,(a.2.2.2.2.1,(a.2.2.2.2.2.1,a.2.2.2.2.2.2))))))).bind λi=>cond (!i) (K (.inr (.inl 1))) (cond (inR c b.length) (let k:=N b c.toNat (0,(0,(0,(0,(0,(0,0))))))
 cond (inR c b.length) (let f:=N b c.toNat (0,(0,(0,(0,(0,(0,0))))))
 let m:=w64 (k.2.1-f.1)
 let l:=w64 (m+1)
 let e:=w64 (o+l)
 let j:=w64 (c+1)
 K (.inl (e,j,n,d,b))) X) X)) X) (K (.inr (.inr (o,n,d,b))))
def Cq[LP](d e:J)(c:O)(a:J)(b:ba):M (J ⊕ (J×O×J×ba)):=LP.lp (unc5 j1Y) (d,e,c,a,b)
theorem OG(d e c a b):Cq d e c a b=lpK (j1Y d e c a b) (λh=>Cq h.1 h.2.1 h.2.2.1 h.2.2.2.1 h.2.2.2.2):=bj _ _
def j1D(x e:J)(c d:ah):M ((J×J×ah×ah) ⊕ (J ⊕ ah)):=
 let y:=S d.length
 cond (L (e<y)) (cond (inR e d.length) (let t:=(N d e.toNat (0,0)).2
 cond (t==x) (let w:=w64 (e+1)
 K (.inl (x,w,c,d))) (cond (inR e d.length) (let p:=(N d e.toNat (0,0)).1
 let b:=w64 (p-x)
 cond (inR e d.length) (let a:=(N d e.toNat (0,0)).2
 let r:=w64 (a-x)
 (j8x r (-86399) 86399).bind λu=>cond (!u) (K (.inr (.inl 6))) ((j8x b 0 8589934592).bind λo=>cond (!o) (K (.inr (.inl 6))) (let q:=S c.length
 cond (L (q>0)) (let k:=S c.length
 let g:=w64 (k-1)
 cond (inR g c.length) (let j:=(N c g.toNat (0,0)).1
 let n:=w64 (b-j)
 cond (L (n<604800)) (K (.inr (.inl 6))) (let f:ah:=[(b,a)]
 cond (L (U c+U f<=aG)) (let l:ah:=c++f
 let v:=w64 (e+1)
 K (.inl (a,v,l,d))) X)) X) (let i:ah:=[(b,a)]
 cond (L (U c+U i<=aG)) (let m:ah:=c++i
 let s:=w64 (e+1)
 K (.inl (a,s,m,d))) X)))) X) X)) X) (K (.inr (.inr c)))
def Cr[LP](b c:J)(a d:ah):M (J ⊕ ah):=LP.lp (unc4 j1D) (b,c,a,d)
theorem Jh(b c a d):Cr b c a d=lpK (j1D b c a d) (λh=>Cr h.1 h.2.1 h.2.2.1 h.2.2.2):=bj _ _
def j0e[LP](a:dW):M (ah×J):=(j8x a.2.1 (-64800) 64800).bind λf=>cond (!f) (K (([]:ah),1)) (let c:=S a.2.2.length
 cond (L (c>16)) (K (([]:ah),5)) ((Cq 0 0 a.1 a.2.1 a.2.2).bind λj=>sumC j (λk=>K (([]:ah),k)) (λg=>cond (L (g.1>640)) (K (([]:ah),5)) ((j9Q g.2.2.2).bind λb=>(Cr g.2.2.1 0 ([]:ah) b).bind λi=>sumC i (λd=>K (([]:ah),d)) (λe=>K (e,0))))))
def j7v[LP](a:dW):M Int:=(j0e (a.1,(a.2.1,a.2.2))).bind λb=>K b.2
def j4J(g:Ã)(c:J)(j:O)(i:J)(a:ba):M ((Ã×J×O×J×ba) ⊕ (Ã)):=
 let f:=S a.length
 cond (L (c<f)) (cond ((inR c a.length) || !g) (let d:=N a c.toNat (0,(0,(0,(0,(0,(0,0))))))
 let e:=Â d.2.2.2.2.2.2 60
 let b:=w64 (c+1)
 K (.inl ((cond g (e==0) Z),b,j,i,a))) X) (K (.inr g))
def Ji[LP](d:Ã)(e:J)(c:O)(a:J)(b:ba):M Bool:=LP.lp (unc5 j4J) (d,e,c,a,b)
theorem Yv(d e c a b):Ji d e c a b=lpK (j4J d e c a b) (λh=>Ji h.1 h.2.1 h.2.2.1 h.2.2.2.1 h.2.2.2.2):=bj _ _
def jaz[LP](a:dW):M Bool:=
 let c:=Â a.2.1 60
 (Ji (c==0) 0 a.1 a.2.1 a.2.2).bind λb=>K b
def j5X[LP](b:J)(d:ai)(m:aj)(o:al)(n:ao)(p:W O):M ((J×ai×aj×al×ao×(W O)) ⊕ (J ⊕ Æ)):=
 let l:=S d.length
 cond (L (b<l)) (cond (inR b d.length) (let f:=N d b.toNat (Y,(0,([]:ba)))
 cond (L (U p+U [f.1]<=aG)) (let g:W ByteArray:=p++[f.1]
 (je6 g b).bind λe=>cond (e != 0) (K (.inr (.inl e))) (cond (inR b d.length) (let c:=N d b.toNat (Y,(0,([]:ba)))
 (j7v (c.1,(c.2.1,c.2.2))).bind λi=>cond ((inR b d.length) || !(!(i != 0))) (let a:=N d b.toNat (Y,(0,([]:ba)))
 cond (i != 0) (K (.inr (.inl 8))) ((jaz (a.1,(a.2.1,a.2.2))).bind λk=>cond (!k) (K (.inr (.inl 8))) (let j:=w64 (b+1)
 K (.inl (j,d,m,o,n,g))))) X) X)) X) X) (K (.inr (.inr ())))
def Jj[LP](f:J)(d:ai)(a:aj)(c:al)(b:ao)(e:W O):M (J ⊕ Æ):=LP.lp (unc6 j5X) (f,d,a,c,b,e)
theorem Yw(f d a c b e):Jj f d a c b e=lpK (j5X f d a c b e) (λh=>Jj h.1 h.2.1 h.2.2.1 h.2.2.2.1 h.2.2.2.2.1 h.2.2.2.2.2):=bj _ _
def jkh[LP](a:bB):M Int:=(Jj 0 a.1 a.2.1 a.2.2.1 a.2.2.2 ([]:(W O))).bind λb=>sumC b (λc=>K c) (λd=>K 0)
def j85(a b c:J):M Bool:=K (cond (L (a>=b)) (L (a<=c)) Z)
def j3g(b:ah)(a:J):M ((ah×J) ⊕ (J ⊕ Æ)):=
 let m:=S b.length
 cond (L (a<m)) (cond (inR a b.length) (let g:=N b a.toNat (0,0)
 cond (L (g.1<0)) (K (.inr (.inl 1))) (cond (inR a b.length) (let f:=N b a.toNat (0,0)
 cond (inR a b.length) (let k:=N b a.toNat (0,0)
 cond (L (f.1>=k.2)) (K (.inr (.inl 1))) (cond (inR a b.length) (let d:=N b a.toNat (0,0)
 cond (L (d.2>604800)) (K (.inr (.inl 1))) (cond (L (a>0)) (cond (inR a b.length) (let j:=N b a.toNat (0,0)
 let c:=w64 (a-1)
 cond (inR c b.length) (let i:=N b c.toNat (0,0)
 cond (L (j.1<i.2)) (K (.inr (.inl 6))) (let l:=w64 (a+1)
 K (.inl (b,l)))) X) X) (let e:=w64 (a+1)
 K (.inl (b,e))))) X)) X) X)) X) (K (.inr (.inr ())))
def Cs[LP](b:ah)(a:J):M (J ⊕ Æ):=LP.lp (unc2 j3g) (b,a)
theorem Jk(b a):Cs b a=lpK (j3g b a) (λh=>Cs h.1 h.2):=bj _ _
def j7w[LP](a:ah):M Int:=
 let c:=S a.length
 cond (L (c>14)) (K 5) ((Cs a 0).bind λb=>sumC b (λd=>K d) (λe=>K 0))
def jhk(a:J):M Bool:=(j85 a 0 604800).bind λc=>let b:=Â a 3600
 K (cond c (b==0) Z)
def j5f[LP](e:J)(r:ai)(b:aj)(q:al)(p:ao)(s:W O):M ((J×ai×aj×al×ao×(W O)) ⊕ (J ⊕ Æ)):=
 let n:=S b.length
 cond (L (e<n)) (cond (inR e b.length) (let a:=N b e.toNat (Y,(0,(([]:ah),(0,(0,Z)))))
 cond (L (U s+U [a.1]<=aG)) (let d:W ByteArray:=s++[a.1]
 let k:Bool:=È a.1==È (À #[110,111,98,111,100,121])
 cond k (K (.inr (.inl 2))) ((je6 d e).bind λc=>cond (c != 0) (K (.inr (.inl c))) (let m:=S r.length
 let g:=w64 (m-1)
 (j85 a.2.1 0 g).bind λl=>cond (!l) (K (.inr (.inl 3))) ((j7w a.2.2.1).bind λi=>cond (i != 0) (K (.inr (.inl 8))) ((jhk a.2.2.2.1).bind λo=>cond (!o) (K (.inr (.inl 1))) ((jhk a.2.2.2.2.1).bind λj=>cond (!j) (K (.inr (.inl 1))) (let f:=w64 (e+1)
 K (.inl (f,r,b,q,p,d))))))))) X) X) (K (.inr (.inr ())))
def Jl[LP](f:J)(d:ai)(a:aj)(c:al)(b:ao)(e:W O):M (J ⊕ Æ):=LP.lp (unc6 j5f) (f,d,a,c,b,e)
theorem Yx(f d a c b e):Jl f d a c b e=lpK (j5f f d a c b e) (λh=>Jl h.1 h.2.1 h.2.2.1 h.2.2.2.1 h.2.2.2.2.1 h.2.2.2.2.2):=bj _ _
def jic[LP](a:bB):M Int:=(Jl 0 a.1 a.2.1 a.2.2.1 a.2.2.2 ([]:(W O))).bind λb=>sumC b (λc=>K c) (λd=>K 0)
def jaA  : M Int:=(jkd 2241).bind λa=>let b:=w64 (a-1)
 K b
def j3D(p l:J)(m:ai)(d:aj)(e:al)(b:ao)(o:O)(c:J)(a:W J)(n:W O):M ((J×J×ai×aj×al×ao×O×J×(W J)×(W O)) ⊕ (J ⊕ (J×ai×aj×al×ao×O×J×(W J)×(W O)))):=
 let f:=S a.length
 cond (L (l<f)) (cond (inR l a.length) (let i:=N a l.toNat 0
 (jaA).bind λk=>(j85 i 0 k).bind λj=>cond (!j) (K (.inr (.inl 1))) (let g:=w64 (l+1)
 K (.inl (p,g,m,d,e,b,o,c,a,n)))) X) (K (.inr (.inr (p,m,d,e,b,o,c,a,n))))
def Jm[LP](j k:J)(f:ai)(d:aj)(e:al)(a:ao)(i:O)(c:J)(b:W J)(g:W O):M (J ⊕ (J×ai×aj×al×ao×O×J×(W J)×(W O))):=LP.lp (u8 unc2 j3D) (j,k,f,d,e,a,i,c,b,g)
theorem Yy(j k f d e a i c b g):Jm j k f d e a i c b g=lpK (j3D j k f d e a i c b g) (λh=>Jm h.1 h.2.1 h.2.2.1 h.2.2.2.1 h.2.2.2.2.1 h.2.2.2.2.2.1 h.2.2.2.2.2.2.1 h.2.2.2.2.2.2.2.1 h.2.2.2.2.2.2.2.2.1 h.2.2.2.2.2.2.2.2.2):=bj _ _
def j3E(o c:J)(m:ai)(d:aj)(f:al)(e:ao)(p:O)(l:J)(a:W J)(n:W O):M ((J×J×ai×aj×al×ao×O×J×(W J)×(W O)) ⊕ (J ⊕ (J×ai×aj×al×ao×(W O)))):=
 let k:=S a.length
 cond (L (c<k)) (cond (inR c a.length) (let g:=N a c.toNat 0
 let b:=w64 (c-1)
 cond (inR b a.length) (let i:=N a b.toNat 0
 cond (L (g<=i)) (K (.inr (.inl 6))) (let j:=w64 (c+1)
 K (.inl (o,j,m,d,f,e,p,l,a,n)))) X) X) (K (.inr (.inr (o,m,d,f,e,n))))
def Jn[LP](j k:J)(f:ai)(c:aj)(e:al)(d:ao)(i:O)(b:J)(a:W J)(g:W O):M (J ⊕ (J×ai×aj×al×ao×(W O))):=LP.lp (u8 unc2 j3E) (j,k,f,c,e,d,i,b,a,g)
theorem Yz(j k f c e d i b a g):Jn j k f c e d i b a g=lpK (j3E j k f c e d i b a g) (λh=>Jn h.1 h.2.1 h.2.2.1 h.2.2.2.1 h.2.2.2.2.1 h.2.2.2.2.2.1 h.2.2.2.2.2.2.1 h.2.2.2.2.2.2.2.1 h.2.2.2.2.2.2.2.2.1 h.2.2.2.2.2.2.2.2.2):=bj _ _
def j3F[LP](g:J)(s:ai)(p:aj)(d:al)(q:ao)(u:W O):M ((J×ai×aj×al×ao×(W O)) ⊕ (J ⊕ Æ)):=
 let n:=S d.length
 cond (L (g<n)) (cond (inR g d.length) (let a:=N d g.toNat (Y,(0,([]:(W J))))
 cond (L (U u+U [a.1]<=aG)) (let f:W ByteArray:=u++[a.1]
 (je6 f g).bind λe=>cond (e != 0) (K (.inr (.inl e))) (let l:=S s.length
 let m:=w64 (l-1)
 (j85 a.2.1 0 m).bind λk=>cond (!k) (K (.inr (.inl 3))) (let i:=S a.2.2.length
 cond (L (i>64)) (K (.inr (.inl 5))) ((Jm g 0 s p d q a.1 a.2.1 a.2.2 f).bind λo=>sumC o (λt=>K (.inr (.inl t))) (λb=>(Jn b.1 1 b.2.1 b.2.2.1 b.2.2.2.1 b.2.2.2.2.1 b.2.2.2.2.2.1 b.2.2.2.2.2.2.1 b.2.2.2.2.2.2.2.1 b.2.2.2.2.2.2.2.2).bind λr=>sumC r (λv=>K (.inr (.inl v))) (λc=>let j:=w64 (c.1+1)
 K (.inl (j,c.2.1,c.2.2.1,c.2.2.2.1,c.2.2.2.2.1,c.2.2.2.2.2)))))))) X) X) (K (.inr (.inr ())))
def Jo[LP](f:J)(d:ai)(a:aj)(c:al)(b:ao)(e:W O):M (J ⊕ Æ):=LP.lp (unc6 j3F) (f,d,a,c,b,e)
theorem YA(f d a c b e):Jo f d a c b e=lpK (j3F f d a c b e) (λh=>Jo h.1 h.2.1 h.2.2.1 h.2.2.2.1 h.2.2.2.2.1 h.2.2.2.2.2):=bj _ _
def jch[LP](a:bB):M Int:=(Jo 0 a.1 a.2.1 a.2.2.1 a.2.2.2 ([]:(W O))).bind λb=>sumC b (λc=>K c) (λd=>K 0)
def j5Y(t:J)(v:ai)(b:aj)(j:al)(g:ao)(u:O)(k i m d e:J)(a:W J)(c:ah)(f l:J):M ((J×ai×aj×al×ao×O×J×J×J×J×J×(W J)×ah×J×J) ⊕ (J ⊕ (ai×aj×al×ao×O×J×J×J×J×J×(W J)×ah×J×J))):=
 let s:=S a.length
 cond (L (t<s)) (cond (inR t a.length) (let p:=N a t.toNat 0
 let n:=S b.length
 let r:=w64 (n-1)
 (j85 p 0 r).bind λq=>cond (!q) (K (.inr (.inl 3))) (let o:=w64 (t+1)
 K (.inl (o,v,b,j,g,u,k,i,m,d,e,a,c,f,l)))) X) (K (.inr (.inr (v,b,j,g,u,k,i,m,d,e,a,c,f,l))))
def Jp[LP](o:J)(p:ai)(m:aj)(i:al)(l:ao)(n:O)(j d e f g:J)(a:W J)(b:ah)(c k:J):M (J ⊕ (ai×aj×al×ao×O×J×J×J×J×J×(W J)×ah×J×J)):=LP.lp (u8 unc7 j5Y) (o,p,m,i,l,n,j,d,e,f,g,a,b,c,k)
theorem YB(o p m i l n j d e f g a b c k):Jp o p m i l n j d e f g a b c k=lpK (j5Y o p m i l n j d e f g a b c k) (λh=>Jp h.1 h.2.1 h.2.2.1 h.2.2.2.1 h.2.2.2.2.1 h.2.2.2.2.2.1 h.2.2.2.2.2.2.1 h.2.2.2.2.2.2.2.1 h.2.2.2.2.2.2.2.2.1 h.2.2.2.2.2.2.2.2.2.1 h.2.2.2.2.2.2.2.2.2.2.1 h.2.2.2.2.2.2.2.2.2.2.2.1 h.2.2.2.2.2.2.2.2.2.2.2.2.1 h.2.2.2.2.2.2.2.2.2.2.2.2.2.1 h.2.2.2.2.2.2.2.2.2.2.2.2.2.2):=bj _ _
def jhm[LP](b:bB)(a:eB):M Int:=
 let k:=S b.1.length
 let m:=w64 (k-1)
 (j85 a.2.1 0 m).bind λf=>cond (!f) (K 3) ((jaA).bind λo=>(j85 a.2.2.1.1 1 o).bind λq=>cond (!q) (K 1) ((j85 a.2.2.1.2 0 86399).bind λg=>cond (!g) (K 1) ((j85 a.2.2.2.1 0 2).bind λs=>cond (!s) (K 1) ((j85 a.2.2.2.2.1 1 400).bind λl=>cond (!l) (K 1) (let u:=S a.2.2.2.2.2.1.length
 cond (u==0) (K 7) (let p:=S a.2.2.2.2.2.1.length
 cond (L (p>12)) (K 5) ((Jp 0 b.1 b.2.1 b.2.2.1 b.2.2.2 a.1 a.2.1 a.2.2.1.1 a.2.2.1.2 a.2.2.2.1 a.2.2.2.2.1 a.2.2.2.2.2.1 a.2.2.2.2.2.2.1 a.2.2.2.2.2.2.2.1 a.2.2.2.2.2.2.2.2).bind λv=>sumC v (λw=>K w) (λd=>(j7w d.2.2.2.2.2.2.2.2.2.2.2.1).bind λn=>cond (n != 0) (K 8) ((j85 d.2.2.2.2.2.2.2.2.2.2.2.2.2 0 2).bind λj=>cond (!j) (K 1) (let i:=S d.2.2.1.length
 let r:=w64 (i-1)
 cond (d.2.2.2.2.2.2.2.2.2.2.2.2.2 != 0) ((j85 d.2.2.2.2.2.2.2.2.2.2.2.2.1 0 r).bind λt=>cond (!t) (K 3) (let e:Bool:=cond (d.2.2.2.2.2.2.2.2.2.2.2.2.2==0) (d.2.2.2.2.2.2.2.2.2.2.2.2.1 != 0) Z
 cond e (K 1) (K 0))) (let c:Bool:=cond (d.2.2.2.2.2.2.2.2.2.2.2.2.2==0) (d.2.2.2.2.2.2.2.2.2.2.2.2.1 != 0) Z
 cond c (K 1) (K 0))))))))))))
def jki(d:bB)(a:nf):M Int:=
 let l:=S d.2.1.length
 (j85 a.1 0 2).bind λj=>cond (!j) (K 1) (let m:=w64 (l-1)
 (j85 a.2.1 0 m).bind λk=>let e:=w64 (l-1)
 cond (cond (!k) (cond (a.1 != 1) Á (a.2.1 != (-1))) Z) (cond ((!(a.1==2)) || !(!Á)) (K 3) X) (cond (a.1==2) ((j85 a.2.2.1 0 e).bind λf=>cond (!f) (K 3) (cond (cond (a.1 != 2) (a.2.2.1 != 0) Z) (K 1) (cond (cond (a.1==2) (a.2.1==a.2.2.1) Z) (K 4) (cond (L (a.2.2.2.1<0)) (K 1) (cond (L (a.2.2.2.2<0)) (K 1) (let g:=w64 (Ç a.2.2.2.2 86400)
 (jaA).bind λi=>cond (L (g>i)) (K 1) (cond (L (a.2.2.2.1>=a.2.2.2.2)) (K 6) (K 0)))))))) (cond (cond (a.1 != 2) (a.2.2.1 != 0) Z) (K 1) (cond (cond (a.1==2) (a.2.1==a.2.2.1) Z) (K 4) (cond (L (a.2.2.2.1<0)) (K 1) (cond (L (a.2.2.2.2<0)) (K 1) (let b:=w64 (Ç a.2.2.2.2 86400)
 (jaA).bind λc=>cond (L (b>c)) (K 1) (cond (L (a.2.2.2.1>=a.2.2.2.2)) (K 6) (K 0)))))))))
def j3G[LP](r c:J)(o:ai)(d:aj)(f:al)(e:ao)(q:O)(b:aK)(l:aJ)(p s:W O):M ((J×J×ai×aj×al×ao×O×aK×aJ×(W O)×(W O)) ⊕ (J ⊕ (J×ai×aj×al×ao×O×aK×aJ×(W O)))):=
 let n:=S b.length
 cond (L (c<n)) (cond (inR c b.length) (let k:=N b c.toNat (Y,(0,((0,0),(0,(0,(([]:(W J)),(([]:ah),(0,0))))))))
 cond (L (U s+U [k.1]<=aG)) (let g:W ByteArray:=s++[k.1]
 (je6 g c).bind λj=>cond (j != 0) (K (.inr (.inl j))) (cond (inR c b.length) (let a:=N b c.toNat (Y,(0,((0,0),(0,(0,(([]:(W J)),(([]:ah),(0,0))))))))
 (jhm (o,(d,(f,e))) (a.1,(a.2.1,((a.2.2.1.1,a.2.2.1.2),(a.2.2.2.1,(a.2.2.2.2.1,(a.2.2.2.2.2.1,(a.2.2.2.2.2.2.1,(a.2.2.2.2.2.2.2.1,a.2.2.2.2.2.2.2.2))))))))).bind λi=>cond (i != 0) (K (.inr (.inl i))) (let m:=w64 (c+1)
 K (.inl (r,m,o,d,f,e,q,b,l,p,g)))) X)) X) X) (K (.inr (.inr (r,o,d,f,e,q,b,l,p))))
def Jq[LP](j k:J)(f:ai)(c:aj)(e:al)(d:ao)(i:O)(b:aK)(a:aJ)(g l:W O):M (J ⊕ (J×ai×aj×al×ao×O×aK×aJ×(W O))):=LP.lp (u8 unc3 j3G) (j,k,f,c,e,d,i,b,a,g,l)
theorem YC(j k f c e d i b a g l):Jq j k f c e d i b a g l=lpK (j3G j k f c e d i b a g l) (λh=>Jq h.1 h.2.1 h.2.2.1 h.2.2.2.1 h.2.2.2.2.1 h.2.2.2.2.2.1 h.2.2.2.2.2.2.1 h.2.2.2.2.2.2.2.1 h.2.2.2.2.2.2.2.2.1 h.2.2.2.2.2.2.2.2.2.1 h.2.2.2.2.2.2.2.2.2.2):=bj _ _
def j3H(n g:J)(k:ai)(c:aj)(e:al)(d:ao)(o:O)(l:aK)(b:aJ)(m:W O):M ((J×J×ai×aj×al×ao×O×aK×aJ×(W O)) ⊕ (J ⊕ (J×ai×aj×al×ao×(W O)))):=
 let j:=S b.length
 cond (L (g<j)) (cond (inR g b.length) (let a:=N b g.toNat (0,(0,(0,(0,0))))
 (jki (k,(c,(e,d))) (a.1,(a.2.1,(a.2.2.1,(a.2.2.2.1,a.2.2.2.2))))).bind λf=>cond (f != 0) (K (.inr (.inl f))) (let i:=w64 (g+1)
 K (.inl (n,i,k,c,e,d,o,l,b,m)))) X) (K (.inr (.inr (n,k,c,e,d,m))))
def Jr[LP](k f:J)(g:ai)(c:aj)(e:al)(d:ao)(j:O)(b:aK)(a:aJ)(i:W O):M (J ⊕ (J×ai×aj×al×ao×(W O))):=LP.lp (u8 unc2 j3H) (k,f,g,c,e,d,j,b,a,i)
theorem YD(k f g c e d j b a i):Jr k f g c e d j b a i=lpK (j3H k f g c e d j b a i) (λh=>Jr h.1 h.2.1 h.2.2.1 h.2.2.2.1 h.2.2.2.2.1 h.2.2.2.2.2.1 h.2.2.2.2.2.2.1 h.2.2.2.2.2.2.2.1 h.2.2.2.2.2.2.2.2.1 h.2.2.2.2.2.2.2.2.2):=bj _ _
def j3I[LP](g:J)(t:ai)(n:aj)(o:al)(d:ao)(r:W O):M ((J×ai×aj×al×ao×(W O)) ⊕ (J ⊕ Æ)):=
 let k:=S d.length
 cond (L (g<k)) (cond (inR g d.length) (let a:=N d g.toNat (Y,(([]:aK),([]:aJ)))
 cond (L (U r+U [a.1]<=aG)) (let e:W ByteArray:=r++[a.1]
 (je6 e g).bind λf=>cond (f != 0) (K (.inr (.inl f))) (let j:=S a.2.1.length
 let i:=S a.2.2.length
 cond (cond (L (j>6)) Á (L (i>48))) (K (.inr (.inl 5))) ((Jq g 0 t n o d a.1 a.2.1 a.2.2 e ([]:(W O))).bind λm=>sumC m (λq=>K (.inr (.inl q))) (λb=>(Jr b.1 0 b.2.1 b.2.2.1 b.2.2.2.1 b.2.2.2.2.1 b.2.2.2.2.2.1 b.2.2.2.2.2.2.1 b.2.2.2.2.2.2.2.1 b.2.2.2.2.2.2.2.2).bind λp=>sumC p (λs=>K (.inr (.inl s))) (λc=>let l:=w64 (c.1+1)
 K (.inl (l,c.2.1,c.2.2.1,c.2.2.2.1,c.2.2.2.2.1,c.2.2.2.2.2))))))) X) X) (K (.inr (.inr ())))
def Js[LP](f:J)(d:ai)(a:aj)(c:al)(b:ao)(e:W O):M (J ⊕ Æ):=LP.lp (unc6 j3I) (f,d,a,c,b,e)
theorem YE(f d a c b e):Js f d a c b e=lpK (j3I f d a c b e) (λh=>Js h.1 h.2.1 h.2.2.1 h.2.2.2.1 h.2.2.2.2.1 h.2.2.2.2.2):=bj _ _
def jfS[LP](a:bB):M Int:=(Js 0 a.1 a.2.1 a.2.2.1 a.2.2.2 ([]:(W O))).bind λb=>sumC b (λc=>K c) (λd=>K 0)
def j8y[LP](a:bB):M Int:=
 let k:=S a.1.length
 let g:=S a.2.1.length
 let j:=S a.2.2.1.length
 let f:Bool:=cond (cond (L (k>16)) Á (L (g>32))) Á (L (j>8))
 let i:=S a.2.2.2.length
 cond (cond f Á (L (i>12))) (K 5) ((jkh (a.1,(a.2.1,(a.2.2.1,a.2.2.2)))).bind λd=>cond (d != 0) (K d) ((jic (a.1,(a.2.1,(a.2.2.1,a.2.2.2)))).bind λc=>cond (c != 0) (K c) ((jch (a.1,(a.2.1,(a.2.2.1,a.2.2.2)))).bind λb=>cond (b != 0) (K b) ((jfS (a.1,(a.2.1,(a.2.2.1,a.2.2.2)))).bind λe=>K e))))
def j9S(a b:J):M Bool:=
 let e:Bool:=cond (cond (L (a>=0)) (L (a<=8589934592)) Z) (L (b>=a)) Z
 let c:=w64 (b-a)
 let d:Bool:=cond (cond e (L (b<=8589934592)) Z) (L (c<=34560000)) Z
 K d
def jd3[LP](b:bB)(a c d:J):M Int:=(j8y (b.1,(b.2.1,(b.2.2.1,b.2.2.2)))).bind λe=>cond (e != 0) (K 8) (let g:=S b.2.2.2.length
 cond (cond (L (a<0)) Á (L (a>=g))) (K 3) ((j9S c d).bind λf=>cond (!f) (K 1) (K 0)))
def jd4[LP](b:dW)(a:eB):M Int:=(j7v (b.1,(b.2.1,b.2.2))).bind λi=>let e:Bool:=cond (cond (i != 0) Á (L (a.2.2.1.1<1))) Á (L (a.2.2.1.1>100000))
 let d:Bool:=cond (cond e Á (L (a.2.2.1.2<0))) Á (L (a.2.2.1.2>=86400))
 let g:Bool:=cond (cond d Á (L (a.2.2.2.1<0))) Á (L (a.2.2.2.1>2))
 let c:Bool:=cond (cond g Á (L (a.2.2.2.2.1<1))) Á (L (a.2.2.2.2.1>400))
 let f:=S a.2.2.2.2.2.1.length
 cond (cond c Á (f==0)) (K 8) (K 0)
def jfg(a:J):M Bool:=(j8x a (-2) 99422).bind λb=>K b
def j4w(c:J)(b1:O)(d:J)(f:ba)(g a:J)(b:ah):M ((J×O×J×ba×J×J×ah) ⊕ ((J×J) ⊕ Æ)):=
 let a8:=S b.length
 cond (L (c<a8)) (cond (L (c>=0)) (cond (inR c b.length) (let p:=(N b c.toNat (0,0)).2
 cond (inR c b.length) (let e:=(N b c.toNat (0,0)).1
 let a2:=w64 (c+1)
 let x:=S b.length
 cond (L (a2<x)) (let s:=w64 (c+1)
 cond (inR s b.length) (let b0:=(N b s.toNat (0,0)).1
 let a3:=w64 (g*86400)
 let a4:=w64 (a3+a)
 let r:=w64 (a4-p)
 let o:Int:=if r>e then r else e
 cond (L (o<b0)) (K (.inr (.inl (o,0)))) (let a1:=w64 (c+1)
 K (.inl (a1,b1,d,f,g,a,b)))) X) (let z:=w64 (g*86400)
 let t:=w64 (z+a)
 let m:=w64 (t-p)
 let l:Int:=if m>e then m else e
 cond (L (l<8589934593)) (K (.inr (.inl (l,0)))) (let b2:=w64 (c+1)
 K (.inl (b2,b1,d,f,g,a,b))))) X) X) (let w:=w64 (c+1)
 let a9:=S b.length
 cond (L (w<a9)) (let i:=w64 (c+1)
 cond (inR i b.length) (let v:=(N b i.toNat (0,0)).1
 let a6:=w64 (g*86400)
 let y:=w64 (a6+a)
 let q:=w64 (y-d)
 let k:Int:=if q>0 then q else 0
 cond (L (k<v)) (K (.inr (.inl (k,0)))) (let a0:=w64 (c+1)
 K (.inl (a0,b1,d,f,g,a,b)))) X) (let a5:=w64 (g*86400)
 let a7:=w64 (a5+a)
 let n:=w64 (a7-d)
 let j:Int:=if n>0 then n else 0
 cond (L (j<8589934593)) (K (.inr (.inl (j,0)))) (let u:=w64 (c+1)
 K (.inl (u,b1,d,f,g,a,b)))))) (K (.inr (.inr ())))
def vB[LP](f:J)(g:O)(c:J)(a:ba)(d b:J)(e:ah):M ((J×J) ⊕ Æ):=LP.lp (unc7 j4w) (f,g,c,a,d,b,e)
theorem OH(f g c a d b e):vB f g c a d b e=lpK (j4w f g c a d b e) (λh=>vB h.1 h.2.1 h.2.2.1 h.2.2.2.1 h.2.2.2.2.1 h.2.2.2.2.2.1 h.2.2.2.2.2.2):=bj _ _
def j5h[LP](a:dW)(b:J×J):M (J×J):=(j0e (a.1,(a.2.1,a.2.2))).bind λc=>cond (c.2 != 0) (K (0,8)) ((j8x b.2 0 86399).bind λe=>cond (!e) (K (0,1)) (cond (L (b.1<(-2))) (K (0,0)) ((jfg b.1).bind λd=>cond (!d) (K (0,10)) ((vB (-1) a.1 a.2.1 a.2.2 b.1 b.2 c.1).bind λf=>sumC f (λg=>K (g.1,g.2)) (λi=>K (0,10))))))
def j5i(c:ah)(g i a:J):M ((ah×J×J×J) ⊕ (J)):=
 let b:=S c.length
 cond ((inR a c.length) || !(L (a<b))) (let f:=N c a.toNat (0,0)
 cond (cond (L (a<b)) (L (f.1<=g)) Z) (cond (inR a c.length) (let d:=N c a.toNat (0,0)
 let e:=w64 (a+1)
 K (.inl (c,g,d.2,e))) X) (K (.inr i))) X
def Fz[LP](c:ah)(d b a:J):M Int:=LP.lp (unc4 j5i) (c,d,b,a)
theorem YF(d a c b):Fz d a c b=lpK (j5i d a c b) (λh=>Fz h.1 h.2.1 h.2.2.1 h.2.2.2):=bj _ _
def jid[LP](a:dW)(c:ah)(b:J):M Int:=(Fz c b a.2.1 0).bind λd=>K d
def jby[LP](a:dW)(b:J):M (J×J):=(j0e (a.1,(a.2.1,a.2.2))).bind λc=>cond (c.2 != 0) (K (0,8)) ((j8x b 0 8589934592).bind λe=>cond (!e) (K (0,1)) ((jid (a.1,(a.2.1,a.2.2)) c.1 b).bind λd=>K (d,0)))
def jkj(b a:J):M (J×J):=
 let g:=w64 (b+a)
 let f:=w64 (g+864000)
 let d:=w64 (Ç f 86400)
 let e:=w64 (d-10)
 let c:=Â f 86400
 K (e,c)
def j43[LP](a:dW)(c:J):M ((J×J)×J):=(jby (a.1,(a.2.1,a.2.2)) c).bind λb=>cond (b.2 != 0) (K ((0,0),b.2)) ((jkj c b.1).bind λd=>K ((d.1,d.2),0))
def j7x[LP](b:dW)(a:eB)(e:J):M (J×Ã):=cond (a.2.2.2.1==0) ((j5h (b.1,(b.2.1,b.2.2)) (a.2.2.1.1,a.2.2.1.2)).bind λd=>let l:=w64 (e*a.2.2.2.2.1)
 let j:=w64 (l*3600)
 let m:=w64 (d.1+j)
 let n:=w64 (d.1+j)
 K (m,(cond (d.2==0) (L (n<=8589934592)) Z))) (let g:=w64 (e*a.2.2.2.2.1)
 cond (a.2.2.2.1==2) (let k:=w64 (g*7)
 let o:=w64 (a.2.2.1.1+k)
 (j5h (b.1,(b.2.1,b.2.2)) (o,a.2.2.1.2)).bind λi=>K (i.1,(i.2==0))) (let f:=w64 (a.2.2.1.1+g)
 (j5h (b.1,(b.2.1,b.2.2)) (f,a.2.2.1.2)).bind λc=>K (c.1,(c.2==0))))
def j5Z[LP](r l:J)(p:O)(i:J)(e:ba)(q:O)(b j n m k:J)(c:W J)(d:ah)(g f:J):M ((J×J×O×J×ba×O×J×J×J×J×J×(W J)×ah×J×J) ⊕ (J)):=cond (L (l>=0)) ((j7x (p,(i,e)) (q,(b,((j,n),(m,(k,(c,(d,(g,f)))))))) l).bind λa=>cond (cond a.2 (L (a.1<=r)) Z) (K (.inr l)) (let o:=w64 (l-1)
 K (.inl (r,o,p,i,e,q,b,j,n,m,k,c,d,g,f)))) (K (.inr l))
def Ah[LP](o p:J)(m:O)(g:J)(d:ba)(n:O)(a i l k j:J)(b:W J)(c:ah)(f e:J):M Int:=LP.lp (u8 unc7 j5Z) (o,p,m,g,d,n,a,i,l,k,j,b,c,f,e)
theorem YG(o p m g d n a i l k j b c f e):Ah o p m g d n a i l k j b c f e=lpK (j5Z o p m g d n a i l k j b c f e) (λh=>Ah h.1 h.2.1 h.2.2.1 h.2.2.2.1 h.2.2.2.2.1 h.2.2.2.2.2.1 h.2.2.2.2.2.2.1 h.2.2.2.2.2.2.2.1 h.2.2.2.2.2.2.2.2.1 h.2.2.2.2.2.2.2.2.2.1 h.2.2.2.2.2.2.2.2.2.2.1 h.2.2.2.2.2.2.2.2.2.2.2.1 h.2.2.2.2.2.2.2.2.2.2.2.2.1 h.2.2.2.2.2.2.2.2.2.2.2.2.2.1 h.2.2.2.2.2.2.2.2.2.2.2.2.2.2):=bj _ _
def jd6[LP](b:dW)(a:eB)(c:J):M Int:=cond (a.2.2.2.1==0) ((j5h (b.1,(b.2.1,b.2.2)) (a.2.2.1.1,a.2.2.1.2)).bind λe=>cond (cond (e.2==0) (L (e.1<=c)) Z) (let r:=w64 (c-e.1)
 let k:=w64 (3600*a.2.2.2.2.1)
 cond (!(k==0)) (let p:=w64 (Ç r k)
 K p) X) (K (-1))) ((j43 (b.1,(b.2.1,b.2.2)) c).bind λm=>cond (a.2.2.2.1==2) (let j:=w64 (a.2.2.2.2.1*7)
 let s:=w64 (m.1.1+2)
 let l:=w64 (s-a.2.2.1.1)
 let q:Int:=if 0>l then 0 else l
 cond (!(j==0)) (let o:=w64 (Ç q j)
 (Ah c o b.1 b.2.1 b.2.2 a.1 a.2.1 a.2.2.1.1 a.2.2.1.2 a.2.2.2.1 a.2.2.2.2.1 a.2.2.2.2.2.1 a.2.2.2.2.2.2.1 a.2.2.2.2.2.2.2.1 a.2.2.2.2.2.2.2.2).bind λt=>K t) X) (let i:=w64 (m.1.1+2)
 let d:=w64 (i-a.2.2.1.1)
 let f:Int:=if 0>d then 0 else d
 cond (!(a.2.2.2.2.1==0)) (let g:=w64 (Ç f a.2.2.2.2.1)
 (Ah c g b.1 b.2.1 b.2.2 a.1 a.2.1 a.2.2.1.1 a.2.2.1.2 a.2.2.2.1 a.2.2.2.2.1 a.2.2.2.2.2.1 a.2.2.2.2.2.2.1 a.2.2.2.2.2.2.2.1 a.2.2.2.2.2.2.2.2).bind λn=>K n) X))
def jho[LP](b:dW)(a:eB)(c:J):M (J×J):=(jd4 (b.1,(b.2.1,b.2.2)) (a.1,(a.2.1,((a.2.2.1.1,a.2.2.1.2),(a.2.2.2.1,(a.2.2.2.2.1,(a.2.2.2.2.2.1,(a.2.2.2.2.2.2.1,(a.2.2.2.2.2.2.2.1,a.2.2.2.2.2.2.2.2))))))))).bind λe=>cond (e != 0) (K (0,8)) (cond (cond (L (c<0)) Á (L (c>8589934592))) (K (0,1)) ((jd6 (b.1,(b.2.1,b.2.2)) (a.1,(a.2.1,((a.2.2.1.1,a.2.2.1.2),(a.2.2.2.1,(a.2.2.2.2.1,(a.2.2.2.2.2.1,(a.2.2.2.2.2.2.1,(a.2.2.2.2.2.2.2.1,a.2.2.2.2.2.2.2.2)))))))) c).bind λd=>K (d,0)))
def j7U(a:J×J):M Int:=(jcW a.1).bind λb=>let d:=w64 (b*86400)
 let c:=w64 (d+a.2)
 K c
def jcG[LP](a:dW)(c:J):M (J×J):=(j43 (a.1,(a.2.1,a.2.2)) c).bind λb=>cond (b.2 != 0) (K (0,b.2)) ((j7U (b.1.1,b.1.2)).bind λd=>K (d,0))
def j5j(b:ah)(f c:J):M ((ah×J×J) ⊕ (Ã ⊕ Æ)):=
 let g:=S b.length
 cond (L (c<g)) (cond (inR c b.length) (let a:=N b c.toNat (0,0)
 cond ((inR c b.length) || !(L (f>=a.1))) (let e:=N b c.toNat (0,0)
 cond (cond (L (f>=a.1)) (L (f<e.2)) Z) (K (.inr (.inl Á))) (let d:=w64 (c+1)
 K (.inl (b,f,d)))) X) X) (K (.inr (.inr ())))
def FA[LP](c:ah)(b a:J):M (Ã ⊕ Æ):=LP.lp (unc3 j5j) (c,b,a)
theorem YH(c b a):FA c b a=lpK (j5j c b a) (λh=>FA h.1 h.2.1 h.2.2):=bj _ _
def jie[LP](b:ah)(a:J):M Bool:=(FA b a 0).bind λc=>sumC c (λd=>K d) (λe=>K Z)
def jsB[LP](a:dW)(b:ah)(d:J):M Bool:=(jcG (a.1,(a.2.1,a.2.2)) d).bind λc=>cond (c.2==0) ((j7w b).bind λf=>cond (f==0) ((jie b c.1).bind λe=>K e) (K Z)) (K Z)
def j6G(w:J)(u:Ã)(b:J)(v:O)(c f g e d:J)(i:W J)(j:ah)(l k:J)(t:O)(n:J)(a:W J)(o m:J):M ((J×Ã×J×O×J×J×J×J×J×(W J)×ah×J×J×O×J×(W J)×J×J) ⊕ (J×Ã×O×J×J×J×J×J×(W J)×ah×J×J)):=
 let r:=S a.length
 cond (L (b<r)) (cond u (let s:=w64 (b+1)
 K (.inl (w,Á,s,v,c,f,g,e,d,i,j,l,k,t,n,a,o,m))) (cond (inR b a.length) (let q:=N a b.toNat 0
 let p:=w64 (b+1)
 K (.inl (w,(q==o),p,v,c,f,g,e,d,i,j,l,k,t,n,a,o,m))) X)) (K (.inr (w,u,v,c,f,g,e,d,i,j,l,k)))
def Aj[LP](s:J)(q:Ã)(n:J)(r:O)(d m j l k:J)(e:W J)(f:ah)(i g:J)(p:O)(b:J)(c:W J)(o a:J):M (J×Ã×O×J×J×J×J×J×(W J)×ah×J×J):=LP.lp (u8 (u8 unc2) j6G) (s,q,n,r,d,m,j,l,k,e,f,i,g,p,b,c,o,a)
theorem YI(s q p r d g i f e j k m l o c b n a):Aj s q p r d g i f e j k m l o c b n a=lpK (j6G s q p r d g i f e j k m l o c b n a) (λh=>Aj h.1 h.2.1 h.2.2.1 h.2.2.2.1 h.2.2.2.2.1 h.2.2.2.2.2.1 h.2.2.2.2.2.2.1 h.2.2.2.2.2.2.2.1 h.2.2.2.2.2.2.2.2.1 h.2.2.2.2.2.2.2.2.2.1 h.2.2.2.2.2.2.2.2.2.2.1 h.2.2.2.2.2.2.2.2.2.2.2.1 h.2.2.2.2.2.2.2.2.2.2.2.2.1 h.2.2.2.2.2.2.2.2.2.2.2.2.2.1 h.2.2.2.2.2.2.2.2.2.2.2.2.2.2.1 h.2.2.2.2.2.2.2.2.2.2.2.2.2.2.2.1 h.2.2.2.2.2.2.2.2.2.2.2.2.2.2.2.2.1 h.2.2.2.2.2.2.2.2.2.2.2.2.2.2.2.2.2):=bj _ _
def jkk[LP](b:bB)(a:eB)(f:J):M (J×Ã):=cond (inR a.2.1 b.1.length) (let e:=N b.1 a.2.1.toNat (Y,(0,([]:ba)))
 (jho (e.1,(e.2.1,e.2.2)) (a.1,(a.2.1,((a.2.2.1.1,a.2.2.1.2),(a.2.2.2.1,(a.2.2.2.2.1,(a.2.2.2.2.2.1,(a.2.2.2.2.2.2.1,(a.2.2.2.2.2.2.2.1,a.2.2.2.2.2.2.2.2)))))))) f).bind λd=>let n:=S a.2.2.2.2.2.2.1.length
 cond (cond (d.2 != 0) Á (L (d.1<0))) (cond ((!(L (n>0))) || !(!Á)) (K (0,Z)) X) (cond (L (n>0)) ((jsB (e.1,(e.2.1,e.2.2)) a.2.2.2.2.2.2.1 f).bind λp=>cond (!p) (K (0,Z)) (cond (a.2.2.2.2.2.2.2.2==0) (K (d.1,Á)) (cond (inR a.2.2.2.2.2.2.2.1 b.2.2.1.length) (let i:=N b.2.2.1 a.2.2.2.2.2.2.2.1.toNat (Y,(0,([]:(W J))))
 cond (inR i.2.1 b.1.length) (let l:=N b.1 i.2.1.toNat (Y,(0,([]:ba)))
 (j43 (l.1,(l.2.1,l.2.2)) f).bind λm=>(Aj d.1 Z 0 a.1 a.2.1 a.2.2.1.1 a.2.2.1.2 a.2.2.2.1 a.2.2.2.2.1 a.2.2.2.2.2.1 a.2.2.2.2.2.2.1 a.2.2.2.2.2.2.2.1 a.2.2.2.2.2.2.2.2 i.1 i.2.1 i.2.2 m.1.1 m.1.2).bind λo=>K (o.1,(o.2.1==(o.2.2.2.2.2.2.2.2.2.2.2==2)))) X) X))) (cond (a.2.2.2.2.2.2.2.2==0) (K (d.1,Á)) (cond (inR a.2.2.2.2.2.2.2.1 b.2.2.1.length) (let c:=N b.2.2.1 a.2.2.2.2.2.2.2.1.toNat (Y,(0,([]:(W J))))
 cond (inR c.2.1 b.1.length) (let g:=N b.1 c.2.1.toNat (Y,(0,([]:ba)))
 (j43 (g.1,(g.2.1,g.2.2)) f).bind λk=>(Aj d.1 Z 0 a.1 a.2.1 a.2.2.1.1 a.2.2.1.2 a.2.2.2.1 a.2.2.2.2.1 a.2.2.2.2.2.1 a.2.2.2.2.2.2.1 a.2.2.2.2.2.2.2.1 a.2.2.2.2.2.2.2.2 c.1 c.2.1 c.2.2 k.1.1 k.1.2).bind λj=>K (j.1,(j.2.1==(j.2.2.2.2.2.2.2.2.2.2.2==2)))) X) X)))) X
def jnT[LP](b:bB)(a:eB)(f:J):M Int:=(jkk (b.1,(b.2.1,(b.2.2.1,b.2.2.2))) (a.1,(a.2.1,((a.2.2.1.1,a.2.2.1.2),(a.2.2.2.1,(a.2.2.2.2.1,(a.2.2.2.2.2.1,(a.2.2.2.2.2.2.1,(a.2.2.2.2.2.2.2.1,a.2.2.2.2.2.2.2.2)))))))) f).bind λe=>cond (!e.2) (K (-1)) (let c:=S a.2.2.2.2.2.1.length
 cond (!(c==0)) (let d:=Â e.1 c
 cond (inR d a.2.2.2.2.2.1.length) (let g:=N a.2.2.2.2.2.1 d.toNat 0
 K g) X) X)
def j6H(j f e:J)(k:O)(g:aK)(b:aJ):M ((J×J×J×O×aK×aJ) ⊕ (Ã ⊕ Æ)):=
 let d:=S b.length
 cond (L (e<d)) (cond (inR e b.length) (let a:=N b e.toNat (0,(0,(0,(0,0))))
 let i:Bool:=cond (cond (a.1==0) (a.2.1==j) Z) (L (a.2.2.2.1<=f)) Z
 cond (cond i (L (f<a.2.2.2.2)) Z) (K (.inr (.inl Á))) (let c:=w64 (e+1)
 K (.inl (j,f,c,k,g,b)))) X) (K (.inr (.inr ())))
def FB[LP](f d e:J)(c:O)(b:aK)(a:aJ):M (Ã ⊕ Æ):=LP.lp (unc6 j6H) (f,d,e,c,b,a)
theorem YJ(f d e c b a):FB f d e c b a=lpK (j6H f d e c b a) (λh=>FB h.1 h.2.1 h.2.2.1 h.2.2.2.1 h.2.2.2.2.1 h.2.2.2.2.2):=bj _ _
def jmZ[LP](b:iQ)(a c:J):M Bool:=(FB a c 0 b.1 b.2.1 b.2.2).bind λd=>sumC d (λe=>K e) (λf=>K Z)
def j7z[LP](j i:J)(n:ai)(e:aj)(d:al)(g:ao)(o:O)(b:aK)(f:aJ):M ((J×J×ai×aj×al×ao×O×aK×aJ) ⊕ ((J×J) ⊕ Æ)):=cond (L (i>=0)) (cond (inR i b.length) (let a:=N b i.toNat (Y,(0,((0,0),(0,(0,(([]:(W J)),(([]:ah),(0,0))))))))
 (jnT (n,(e,(d,g))) (a.1,(a.2.1,((a.2.2.1.1,a.2.2.1.2),(a.2.2.2.1,(a.2.2.2.2.1,(a.2.2.2.2.2.1,(a.2.2.2.2.2.2.1,(a.2.2.2.2.2.2.2.1,a.2.2.2.2.2.2.2.2)))))))) j).bind λc=>cond (L (c>=0)) ((jmZ (o,(b,f)) c j).bind λk=>cond (!k) (K (.inr (.inl (i,c)))) (let m:=w64 (i-1)
 K (.inl (j,m,n,e,d,g,o,b,f)))) (let l:=w64 (i-1)
 K (.inl (j,l,n,e,d,g,o,b,f)))) X) (K (.inr (.inr ())))
def Ct[LP](i j:J)(f:ai)(c:aj)(b:al)(e:ao)(g:O)(a:aK)(d:aJ):M ((J×J) ⊕ Æ):=LP.lp (unc9 j7z) (i,j,f,c,b,e,g,a,d)
theorem YK(i j f c b e g a d):Ct i j f c b e g a d=lpK (j7z i j f c b e g a d) (λh=>Ct h.1 h.2.1 h.2.2.1 h.2.2.2.1 h.2.2.2.2.1 h.2.2.2.2.2.1 h.2.2.2.2.2.2.1 h.2.2.2.2.2.2.2.1 h.2.2.2.2.2.2.2.2):=bj _ _
def jlq[LP](b:bB)(a d:J):M (J×J):=cond (inR a b.2.2.2.length) (let c:=N b.2.2.2 a.toNat (Y,(([]:aK),([]:aJ)))
 let f:=S c.2.1.length
 let e:=w64 (f-1)
 (Ct d e b.1 b.2.1 b.2.2.1 b.2.2.2 c.1 c.2.1 c.2.2).bind λg=>sumC g (λi=>K (i.1,i.2)) (λj=>K ((-1),(-1)))) X
def j6I(b:aJ)(e d c:J):M ((aJ×J×J×J) ⊕ (J)):=
 let f:=S b.length
 cond (L (c<f)) (cond (inR c b.length) (let a:=N b c.toNat (0,(0,(0,(0,0))))
 cond (cond (L (d<a.2.2.2.1)) Á (L (d>=a.2.2.2.2))) (let g:=w64 (c+1)
 K (.inl (b,e,d,g))) (cond (a.1==1) (let j:=w64 (c+1)
 K (.inl (b,a.2.1,d,j))) (cond (cond (a.1==2) (e==a.2.1) Z) (let l:=w64 (c+1)
 K (.inl (b,a.2.2.1,d,l))) (cond (cond (a.1==2) (e==a.2.2.1) Z) (let k:=w64 (c+1)
 K (.inl (b,a.2.1,d,k))) (let i:=w64 (c+1)
 K (.inl (b,e,d,i))))))) X) (K (.inr e))
def Cu[LP](b:aJ)(a c d:J):M Int:=LP.lp (unc4 j6I) (b,a,c,d)
theorem YL(a d b c):Cu a d b c=lpK (j6I a d b c) (λh=>Cu h.1 h.2.1 h.2.2.1 h.2.2.2):=bj _ _
def jn0[LP](b:aJ)(a c:J):M Int:=(Cu b a c 0).bind λd=>K d
def jfT[LP](b:bB)(a c:J):M Int:=(jlq (b.1,(b.2.1,(b.2.2.1,b.2.2.2))) a c).bind λf=>cond (inR a b.2.2.2.length) (let e:=N b.2.2.2 a.toNat (Y,(([]:aK),([]:aJ)))
 (jn0 e.2.2 f.2 c).bind λd=>K d) X
def j5k[LP](u t o:J)(s:O)(e:J)(m:ba)(v:O)(d f l i g:J)(c:W J)(b:ah)(j k:J)(n:W J):M ((J×J×J×O×J×ba×O×J×J×J×J×J×(W J)×ah×J×J×(W J)) ⊕ (ou)):=(j7x (s,(e,m)) (v,(d,((f,l),(i,(g,(c,(b,(j,k)))))))) o).bind λa=>cond (cond (!a.2) Á (L (a.1>=t))) (K (.inr (0,n))) (cond (L (a.1>=u)) (cond (L (U n+U [a.1]<=aG)) (let q:W Int:=n++[a.1]
 let r:=w64 (o+1)
 K (.inl (u,t,r,s,e,m,v,d,f,l,i,g,c,b,j,k,q))) X) (let p:=w64 (o+1)
 K (.inl (u,t,p,s,e,m,v,d,f,l,i,g,c,b,j,k,n))))
def Jt[LP](r p n:J)(o:O)(a:J)(l:ba)(q:O)(i b f j c:J)(g:W J)(d:ah)(k e:J)(m:W J):M ou:=LP.lp (u8 unc9 j5k) (r,p,n,o,a,l,q,i,b,f,j,c,g,d,k,e,m)
theorem jjb(r p n o a l q i b f j c g d k e m):Jt r p n o a l q i b f j c g d k e m=lpK (j5k r p n o a l q i b f j c g d k e m) (λh=>Jt h.1 h.2.1 h.2.2.1 h.2.2.2.1 h.2.2.2.2.1 h.2.2.2.2.2.1 h.2.2.2.2.2.2.1 h.2.2.2.2.2.2.2.1 h.2.2.2.2.2.2.2.2.1 h.2.2.2.2.2.2.2.2.2.1 h.2.2.2.2.2.2.2.2.2.2.1 h.2.2.2.2.2.2.2.2.2.2.2.1 h.2.2.2.2.2.2.2.2.2.2.2.2.1 h.2.2.2.2.2.2.2.2.2.2.2.2.2.1 h.2.2.2.2.2.2.2.2.2.2.2.2.2.2.1 h.2.2.2.2.2.2.2.2.2.2.2.2.2.2.2.1 h.2.2.2.2.2.2.2.2.2.2.2.2.2.2.2.2):=bj _ _
def j9V[LP](b:dW)(a:eB)(c d:J):M ((W J)×J):=(jd4 (b.1,(b.2.1,b.2.2)) (a.1,(a.2.1,((a.2.2.1.1,a.2.2.1.2),(a.2.2.2.1,(a.2.2.2.2.1,(a.2.2.2.2.2.1,(a.2.2.2.2.2.2.1,(a.2.2.2.2.2.2.2.1,a.2.2.2.2.2.2.2.2))))))))).bind λg=>cond (g != 0) (K (([]:(W J)),8)) ((j9S c d).bind λj=>cond (!j) (K (([]:(W J)),1)) ((jd6 (b.1,(b.2.1,b.2.2)) (a.1,(a.2.1,((a.2.2.1.1,a.2.2.1.2),(a.2.2.2.1,(a.2.2.2.2.1,(a.2.2.2.2.2.1,(a.2.2.2.2.2.2.1,(a.2.2.2.2.2.2.2.1,a.2.2.2.2.2.2.2.2)))))))) c).bind λe=>let i:Int:=if e>0 then e else 0
 (Jt c d i b.1 b.2.1 b.2.2 a.1 a.2.1 a.2.2.1.1 a.2.2.1.2 a.2.2.2.1 a.2.2.2.2.1 a.2.2.2.2.2.1 a.2.2.2.2.2.2.1 a.2.2.2.2.2.2.2.1 a.2.2.2.2.2.2.2.2 ([]:(W J))).bind λf=>K (f.2,f.1)))
def j60(b:ah)(j k c a:J)(n:ah):M ((ah×J×J×J×J×ah) ⊕ (ah×J×J×J×ah)):=
 let p:=S b.length
 cond (L (a<p)) (cond (inR a b.length) (let o:=N b a.toNat (0,0)
 let i:=w64 (c+o.1)
 let e:Int:=if i>j then i else j
 cond (inR a b.length) (let r:=N b a.toNat (0,0)
 let f:=w64 (c+r.2)
 let g:Int:=if f<k then f else k
 cond (L (e<g)) (let d:ah:=[(e,g)]
 cond (L (U n+U d<=aG)) (let m:ah:=n++d
 let q:=w64 (a+1)
 K (.inl (b,j,k,c,q,m))) X) (let l:=w64 (a+1)
 K (.inl (b,j,k,c,l,n)))) X) X) (K (.inr (b,j,k,c,n)))
def Ju[LP](d:ah)(c e a b:J)(f:ah):M (ah×J×J×J×ah):=LP.lp (unc6 j60) (d,c,e,a,b,f)
theorem YM(d c e a b f):Ju d c e a b f=lpK (j60 d c e a b f) (λh=>Ju h.1 h.2.1 h.2.2.1 h.2.2.2.1 h.2.2.2.2.1 h.2.2.2.2.2):=bj _ _
def j61[LP](f:ah)(g d c:J)(e:ah):M ((ah×J×J×J×ah) ⊕ (ah)):=cond (L (c<d)) ((Ju f g d c 0 e).bind λa=>let b:=w64 (a.2.2.2.1+604800)
 K (.inl (a.1,a.2.1,a.2.2.1,b,a.2.2.2.2))) (K (.inr e))
def Jv[LP](b:ah)(e c a:J)(d:ah):M ah:=LP.lp (unc5 j61) (b,e,c,a,d)
theorem YN(b e c a d):Jv b e c a d=lpK (j61 b e c a d) (λh=>Jv h.1 h.2.1 h.2.2.1 h.2.2.2.1 h.2.2.2.2):=bj _ _
def jbz[LP](d:ah)(a c b:J):M ah:=
 let i:=w64 (a+b)
 let p:=w64 (a+b)
 let m:=w64 (p+864000)
 let n:=w64 (Ç m 86400)
 let j:=w64 (n-10)
 let l:=w64 (a+b)
 let k:=w64 (l+864000)
 let o:=Â k 86400
 (j7U (j,o)).bind λf=>let e:=w64 (i-f)
 let g:=w64 (e-b)
 (Jv d a c g ([]:ah)).bind λq=>K q
def j6J(a:ah)(b:J)(c:ah):M ((ah×J×ah) ⊕ (ah)):=
 let u:=S a.length
 cond (L (b<u)) (let e:=S c.length
 cond (L (e>0)) (let i:=w64 (e-1)
 cond (inR i c.length) (let m:=(N c i.toNat (0,0)).2
 cond (inR b a.length) (let t:=N a b.toNat (0,0)
 cond (m==t.1) (let d:=w64 (e-1)
 cond (inR b a.length) (let s:=N a b.toNat (0,0)
 cond (inR d c.length) (let p:ah:=É c d.toNat ((N c d.toNat (0,0)).1,s.2)
 let o:=w64 (b+1)
 K (.inl (a,o,p))) X) X) (cond (inR b a.length) (let k:=N a b.toNat (0,0)
 let g:ah:=[(k.1,k.2)]
 cond (L (U c+U g<=aG)) (let q:ah:=c++g
 let n:=w64 (b+1)
 K (.inl (a,n,q))) X) X)) X) X) (cond (inR b a.length) (let j:=N a b.toNat (0,0)
 let f:ah:=[(j.1,j.2)]
 cond (L (U c+U f<=aG)) (let l:ah:=c++f
 let r:=w64 (b+1)
 K (.inl (a,r,l))) X) X)) (K (.inr c))
def Jw[LP](c:ah)(a:J)(b:ah):M ah:=LP.lp (unc3 j6J) (c,a,b)
theorem YO(c a b):Jw c a b=lpK (j6J c a b) (λh=>Jw h.1 h.2.1 h.2.2):=bj _ _
def jeb[LP](b a:ah):M ah:=(Jw a 0 b).bind λc=>K c
def j62[LP](i:ah)(g e b:J)(k:O)(c:J)(d:ba)(a f:ah):M ((ah×J×J×J×O×J×ba×ah×ah) ⊕ (ah)):=
 let b2:=S a.length
 cond (L (b<b2)) (cond (L (b>=0)) (cond (inR b a.length) (let o:=(N a b.toNat (0,0)).2
 cond (inR b a.length) (let m:=(N a b.toNat (0,0)).1
 let j:Int:=if m>g then m else g
 let a8:=w64 (b+1)
 let b1:=S a.length
 cond (L (a8<b1)) (let r:=w64 (b+1)
 cond (inR r a.length) (let s:=(N a r.toNat (0,0)).1
 let p:Int:=if s<e then s else e
 cond (L (j<p)) ((jbz i j p o).bind λa7=>(jeb f a7).bind λa9=>let u:=w64 (b+1)
 K (.inl (i,g,e,u,k,c,d,a,a9))) (let y:=w64 (b+1)
 K (.inl (i,g,e,y,k,c,d,a,f)))) X) (cond (L (j<e)) ((jbz i j e o).bind λa5=>(jeb f a5).bind λb0=>let v:=w64 (b+1)
 K (.inl (i,g,e,v,k,c,d,a,b0))) (let a2:=w64 (b+1)
 K (.inl (i,g,e,a2,k,c,d,a,f))))) X) X) (let a6:=w64 (b+1)
 let b3:=S a.length
 cond (L (a6<b3)) (let q:=w64 (b+1)
 cond (inR q a.length) (let l:=(N a q.toNat (0,0)).1
 let n:Int:=if l<e then l else e
 cond (L (g<n)) ((jbz i g n c).bind λw=>(jeb f w).bind λt=>let a3:=w64 (b+1)
 K (.inl (i,g,e,a3,k,c,d,a,t))) (let a4:=w64 (b+1)
 K (.inl (i,g,e,a4,k,c,d,a,f)))) X) (cond (L (g<e)) ((jbz i g e c).bind λx=>(jeb f x).bind λz=>let a1:=w64 (b+1)
 K (.inl (i,g,e,a1,k,c,d,a,z))) (let a0:=w64 (b+1)
 K (.inl (i,g,e,a0,k,c,d,a,f)))))) (K (.inr f))
def FC[LP](j:ah)(i g e:J)(f:O)(a:J)(b:ba)(d c:ah):M ah:=LP.lp (unc9 j62) (j,i,g,e,f,a,b,d,c)
theorem YP(j i g e f a b d c):FC j i g e f a b d c=lpK (j62 j i g e f a b d c) (λh=>FC h.1 h.2.1 h.2.2.1 h.2.2.2.1 h.2.2.2.2.1 h.2.2.2.2.2.1 h.2.2.2.2.2.2.1 h.2.2.2.2.2.2.2.1 h.2.2.2.2.2.2.2.2):=bj _ _
def jfh[LP](a:dW)(d:ah)(b c:J):M (ah×J):=(j0e (a.1,(a.2.1,a.2.2))).bind λe=>cond (e.2 != 0) (K (([]:ah),8)) ((j7w d).bind λg=>cond (g != 0) (K (([]:ah),8)) ((j9S b c).bind λf=>cond (!f) (K (([]:ah),1)) ((FC d b c (-1) a.1 a.2.1 a.2.2 e.1 ([]:ah)).bind λi=>let j:=S i.length
 cond (L (j>4096)) (K (([]:ah),5)) (K (i,0)))))
def j3J(d:J)(m:O)(b:J)(e:ba)(j a:J)(c:ah)(i:W J):M ((J×O×J×ba×J×J×ah×(W J)) ⊕ (W J)):=
 let a7:=S c.length
 cond (L (d<a7)) (cond (L (d>=0)) (cond (inR d c.length) (let o:=(N c d.toNat (0,0)).2
 cond (inR d c.length) (let p:=(N c d.toNat (0,0)).1
 let b7:=w64 (d+1)
 let a9:=S c.length
 cond (L (b7<a9)) (let q:=w64 (d+1)
 cond (inR q c.length) (let b3:=(N c q.toNat (0,0)).1
 let b6:=w64 (j*86400)
 let a8:=w64 (b6+a)
 let k:=w64 (a8-o)
 cond (cond (L (k>=p)) (L (k<b3)) Z) (cond (L (U i+U [k]<=aG)) (let b0:W Int:=i++[k]
 let s:=w64 (d+1)
 K (.inl (s,m,b,e,j,a,c,b0))) X) (let y:=w64 (d+1)
 K (.inl (y,m,b,e,j,a,c,i)))) X) (let b1:=w64 (j*86400)
 let b5:=w64 (b1+a)
 let l:=w64 (b5-o)
 cond (cond (L (l>=p)) (L (l<8589934593)) Z) (cond (L (U i+U [l]<=aG)) (let b2:W Int:=i++[l]
 let a4:=w64 (d+1)
 K (.inl (a4,m,b,e,j,a,c,b2))) X) (let z:=w64 (d+1)
 K (.inl (z,m,b,e,j,a,c,i))))) X) X) (let a6:=w64 (d+1)
 let a5:=S c.length
 cond (L (a6<a5)) (let n:=w64 (d+1)
 cond (inR n c.length) (let b4:=(N c n.toNat (0,0)).1
 let a3:=w64 (j*86400)
 let a2:=w64 (a3+a)
 let f:=w64 (a2-b)
 cond (cond (L (f>=0)) (L (f<b4)) Z) (cond (L (U i+U [f]<=aG)) (let a0:W Int:=i++[f]
 let u:=w64 (d+1)
 K (.inl (u,m,b,e,j,a,c,a0))) X) (let v:=w64 (d+1)
 K (.inl (v,m,b,e,j,a,c,i)))) X) (let a1:=w64 (j*86400)
 let t:=w64 (a1+a)
 let g:=w64 (t-b)
 cond (cond (L (g>=0)) (L (g<8589934593)) Z) (cond (L (U i+U [g]<=aG)) (let w:W Int:=i++[g]
 let x:=w64 (d+1)
 K (.inl (x,m,b,e,j,a,c,w))) X) (let r:=w64 (d+1)
 K (.inl (r,m,b,e,j,a,c,i)))))) (K (.inr i))
def Ak[LP](f:J)(g:O)(c:J)(a:ba)(d b:J)(e:ah)(i:W J):M (W J):=LP.lp (unc8 j3J) (f,g,c,a,d,b,e,i)
theorem YQ(f g c a d b e i):Ak f g c a d b e i=lpK (j3J f g c a d b e i) (λh=>Ak h.1 h.2.1 h.2.2.1 h.2.2.2.1 h.2.2.2.2.1 h.2.2.2.2.2.1 h.2.2.2.2.2.2.1 h.2.2.2.2.2.2.2):=bj _ _
def j7V[LP](a:dW)(b:J×J):M ((W J)×J):=(j0e (a.1,(a.2.1,a.2.2))).bind λc=>cond (c.2 != 0) (K (([]:(W J)),8)) ((j8x b.2 0 86399).bind λd=>cond (!d) (K (([]:(W J)),1)) ((jfg b.1).bind λe=>cond (!e) (K (([]:(W J)),0)) ((Ak (-1) a.1 a.2.1 a.2.2 b.1 b.2 c.1 ([]:(W J))).bind λf=>K (f,0))))
def j6K(b:J)(w:ai)(f:aj)(m:al)(n:ao)(x:O)(e g o j i:J)(d:W J)(c:ah)(k l:J)(p:W J)(a:ah):M ((J×ai×aj×al×ao×O×J×J×J×J×J×(W J)×ah×J×J×(W J)×ah) ⊕ (ai×aj×al×ao×O×J×J×J×J×J×(W J)×ah×J×J×(W J))):=
 let u:=S a.length
 cond (L (b<u)) (cond (inR b a.length) (let r:=(N a b.toNat (0,0)).1
 cond (inR b a.length) (let t:=(N a b.toNat (0,0)).2
 let v:W Int:=[r,t]
 cond (L (U p+U v<=aG)) (let s:W Int:=p++v
 let q:=w64 (b+1)
 K (.inl (q,w,f,m,n,x,e,g,o,j,i,d,c,k,l,s,a))) X) X) X) (K (.inr (w,f,m,n,x,e,g,o,j,i,d,c,k,l,p)))
def Jy[LP](p:J)(q:ai)(a:aj)(l:al)(m:ao)(r:O)(i b f j c:J)(g:W J)(d:ah)(k e:J)(o:W J)(n:ah):M (ai×aj×al×ao×O×J×J×J×J×J×(W J)×ah×J×J×(W J)):=LP.lp (u8 unc9 j6K) (p,q,a,l,m,r,i,b,f,j,c,g,d,k,e,o,n)
theorem YR(p q a l m r i b f j c g d k e o n):Jy p q a l m r i b f j c g d k e o n=lpK (j6K p q a l m r i b f j c g d k e o n) (λh=>Jy h.1 h.2.1 h.2.2.1 h.2.2.2.1 h.2.2.2.2.1 h.2.2.2.2.2.1 h.2.2.2.2.2.2.1 h.2.2.2.2.2.2.2.1 h.2.2.2.2.2.2.2.2.1 h.2.2.2.2.2.2.2.2.2.1 h.2.2.2.2.2.2.2.2.2.2.1 h.2.2.2.2.2.2.2.2.2.2.2.1 h.2.2.2.2.2.2.2.2.2.2.2.2.1 h.2.2.2.2.2.2.2.2.2.2.2.2.2.1 h.2.2.2.2.2.2.2.2.2.2.2.2.2.2.1 h.2.2.2.2.2.2.2.2.2.2.2.2.2.2.2.1 h.2.2.2.2.2.2.2.2.2.2.2.2.2.2.2.2):=bj _ _
def j6L(d:J)(o:ai)(f:aj)(i:al)(k:ao)(n:O)(e:J)(c g:W J)(b:ah):M ((J×ai×aj×al×ao×O×J×(W J)×(W J)×ah) ⊕ (ai×aj×al×ao×O×J×(W J)×(W J))):=
 let l:=S b.length
 cond (L (d<l)) (cond (inR d b.length) (let a:=(N b d.toNat (0,0)).1
 cond (L (U g+U [a]<=aG)) (let j:W Int:=g++[a]
 let m:=w64 (d+1)
 K (.inl (m,o,f,i,k,n,e,c,j,b))) X) X) (K (.inr (o,f,i,k,n,e,c,g)))
def Al[LP](i:J)(k:ai)(c:aj)(d:al)(e:ao)(g:O)(b:J)(a j:W J)(f:ah):M (ai×aj×al×ao×O×J×(W J)×(W J)):=LP.lp (u8 unc2 j6L) (i,k,c,d,e,g,b,a,j,f)
theorem YS(i k c d e g b a j f):Al i k c d e g b a j f=lpK (j6L i k c d e g b a j f) (λh=>Al h.1 h.2.1 h.2.2.1 h.2.2.2.1 h.2.2.2.2.1 h.2.2.2.2.2.1 h.2.2.2.2.2.2.1 h.2.2.2.2.2.2.2.1 h.2.2.2.2.2.2.2.2.1 h.2.2.2.2.2.2.2.2.2):=bj _ _
def j4X[LP](e m:J)(p:ai)(f:aj)(l:al)(o:ao)(q:O)(b:J)(a k:W J):M ((J×J×ai×aj×al×ao×O×J×(W J)×(W J)) ⊕ (J×ai×aj×al×ao×O×J×(W J)×(W J))):=cond (L (m<2)) (cond (inR b p.length) (let c:=N p b.toNat (Y,(0,([]:ba)))
 cond (inR e a.length) (let i:=N a e.toNat 0
 let j:=w64 (i+m)
 (j7V (c.1,(c.2.1,c.2.2)) (j,0)).bind λd=>cond (L (U k+U d.1<=aG)) (let n:W Int:=k++d.1
 let g:=w64 (m+1)
 K (.inl (e,g,p,f,l,o,q,b,a,n))) X) X) X) (K (.inr (e,p,f,l,o,q,b,a,k)))
def Jz[LP](j i:J)(k:ai)(c:aj)(d:al)(e:ao)(f:O)(b:J)(a g:W J):M (J×ai×aj×al×ao×O×J×(W J)×(W J)):=LP.lp (u8 unc2 j4X) (j,i,k,c,d,e,f,b,a,g)
theorem OI(j i k c d e f b a g):Jz j i k c d e f b a g=lpK (j4X j i k c d e f b a g) (λh=>Jz h.1 h.2.1 h.2.2.1 h.2.2.2.1 h.2.2.2.2.1 h.2.2.2.2.2.1 h.2.2.2.2.2.2.1 h.2.2.2.2.2.2.2.1 h.2.2.2.2.2.2.2.2.1 h.2.2.2.2.2.2.2.2.2):=bj _ _
def j6M[LP](g:J)(m:ai)(i:aj)(j:al)(k:ao)(l:O)(e:J)(b f:W J):M ((J×ai×aj×al×ao×O×J×(W J)×(W J)) ⊕ (W J)):=
 let d:=S b.length
 cond (L (g<d)) ((Jz g 0 m i j k l e b f).bind λa=>let c:=w64 (a.1+1)
 K (.inl (c,a.2.1,a.2.2.1,a.2.2.2.1,a.2.2.2.2.1,a.2.2.2.2.2.1,a.2.2.2.2.2.2.1,a.2.2.2.2.2.2.2.1,a.2.2.2.2.2.2.2.2))) (K (.inr f))
def Cv[LP](i:J)(j:ai)(c:aj)(d:al)(e:ao)(f:O)(b:J)(a g:W J):M (W J):=LP.lp (unc9 j6M) (i,j,c,d,e,f,b,a,g)
theorem YT(i j c d e f b a g):Cv i j c d e f b a g=lpK (j6M i j c d e f b a g) (λh=>Cv h.1 h.2.1 h.2.2.1 h.2.2.2.1 h.2.2.2.2.1 h.2.2.2.2.2.1 h.2.2.2.2.2.2.1 h.2.2.2.2.2.2.2.1 h.2.2.2.2.2.2.2.2):=bj _ _
def jkm[LP](b:bB)(a:eB)(f l:J):M (W J):=cond (inR a.2.1 b.1.length) (let g:=N b.1 a.2.1.toNat (Y,(0,([]:ba)))
 (j9V (g.1,(g.2.1,g.2.2)) (a.1,(a.2.1,((a.2.2.1.1,a.2.2.1.2),(a.2.2.2.1,(a.2.2.2.2.1,(a.2.2.2.2.2.1,(a.2.2.2.2.2.2.1,(a.2.2.2.2.2.2.2.1,a.2.2.2.2.2.2.2.2)))))))) f l).bind λp=>cond (L (U ([]:(W J))+U p.1<=aG)) (let n:W Int:=([]:(W J))++p.1
 let s:=S a.2.2.2.2.2.2.1.length
 cond (L (s>0)) ((jfh (g.1,(g.2.1,g.2.2)) a.2.2.2.2.2.2.1 f l).bind λr=>(Jy 0 b.1 b.2.1 b.2.2.1 b.2.2.2 a.1 a.2.1 a.2.2.1.1 a.2.2.1.2 a.2.2.2.1 a.2.2.2.2.1 a.2.2.2.2.2.1 a.2.2.2.2.2.2.1 a.2.2.2.2.2.2.2.1 a.2.2.2.2.2.2.2.2 n r.1).bind λe=>cond (e.2.2.2.2.2.2.2.2.2.2.2.2.2.1==0) (K e.2.2.2.2.2.2.2.2.2.2.2.2.2.2) (cond (inR e.2.2.2.2.2.2.2.2.2.2.2.2.1 e.2.2.1.length) (let j:=N e.2.2.1 e.2.2.2.2.2.2.2.2.2.2.2.2.1.toNat (Y,(0,([]:(W J))))
 cond (inR j.2.1 e.1.length) (let m:=N e.1 j.2.1.toNat (Y,(0,([]:ba)))
 (j0e (m.1,(m.2.1,m.2.2))).bind λt=>(Al 0 e.1 e.2.1 e.2.2.1 e.2.2.2.1 j.1 j.2.1 j.2.2 e.2.2.2.2.2.2.2.2.2.2.2.2.2.2 t.1).bind λk=>(Cv 0 k.1 k.2.1 k.2.2.1 k.2.2.2.1 k.2.2.2.2.1 k.2.2.2.2.2.1 k.2.2.2.2.2.2.1 k.2.2.2.2.2.2.2).bind λu=>K u) X) X)) (cond (a.2.2.2.2.2.2.2.2==0) (K n) (cond (inR a.2.2.2.2.2.2.2.1 b.2.2.1.length) (let d:=N b.2.2.1 a.2.2.2.2.2.2.2.1.toNat (Y,(0,([]:(W J))))
 cond (inR d.2.1 b.1.length) (let i:=N b.1 d.2.1.toNat (Y,(0,([]:ba)))
 (j0e (i.1,(i.2.1,i.2.2))).bind λo=>(Al 0 b.1 b.2.1 b.2.2.1 b.2.2.2 d.1 d.2.1 d.2.2 n o.1).bind λc=>(Cv 0 c.1 c.2.1 c.2.2.1 c.2.2.2.1 c.2.2.2.2.1 c.2.2.2.2.2.1 c.2.2.2.2.2.2.1 c.2.2.2.2.2.2.2).bind λq=>K q) X) X))) X) X
def j6N(b4:(W J)->M (W J))(e d:J)(a c b:W J):M ((J×J×(W J)×(W J)×(W J)) ⊕ (W J)):=
 let a0:=S c.length
 let y:=S b.length
 cond (cond (L (e<a0)) Á (L (d<y))) (let z:=S b.length
 cond (d==z) (cond (inR e c.length) (let g:=N c e.toNat 0
 let v:=w64 (e+1)
 let t:=S a.length
 let a4:=S a.length
 let n:=w64 (a4-1)
 cond ((inR n a.length) || !(!(t==0))) (let b0:=N a n.toNat 0
 cond (cond (t==0) Á (b0 != g)) (cond (L (U a+U [g]<=aG)) (let a2:W Int:=a++[g]
 K (.inl (v,d,a2,c,b))) X) (K (.inl (v,d,a,c,b)))) X) X) (let b1:=S c.length
 cond (L (e<b1)) (cond (inR e c.length) (let a7:=N c e.toNat 0
 cond (inR d b.length) (let a3:=N b d.toNat 0
 cond (L (a7<=a3)) (cond (inR e c.length) (let j:=N c e.toNat 0
 let o:=w64 (e+1)
 let r:=S a.length
 let b2:=S a.length
 let p:=w64 (b2-1)
 cond ((inR p a.length) || !(!(r==0))) (let a9:=N a p.toNat 0
 cond (cond (r==0) Á (a9 != j)) (cond (L (U a+U [j]<=aG)) (let a5:W Int:=a++[j]
 K (.inl (o,d,a5,c,b))) X) (K (.inl (o,d,a,c,b)))) X) X) (cond (inR d b.length) (let i:=N b d.toNat 0
 let u:=w64 (d+1)
 let q:=S a.length
 let a8:=S a.length
 let l:=w64 (a8-1)
 cond ((inR l a.length) || !(!(q==0))) (let a1:=N a l.toNat 0
 cond (cond (q==0) Á (a1 != i)) (cond (L (U a+U [i]<=aG)) (let w:W Int:=a++[i]
 K (.inl (e,u,w,c,b))) X) (K (.inl (e,u,a,c,b)))) X) X)) X) X) (cond (inR d b.length) (let f:=N b d.toNat 0
 let s:=w64 (d+1)
 let m:=S a.length
 let a6:=S a.length
 let k:=w64 (a6-1)
 cond ((inR k a.length) || !(!(m==0))) (let b3:=N a k.toNat 0
 cond (cond (m==0) Á (b3 != f)) (cond (L (U a+U [f]<=aG)) (let x:W Int:=a++[f]
 K (.inl (e,s,x,c,b))) X) (K (.inl (e,s,a,c,b)))) X) X))) (K (.inr a))
def JA[LP](a:(W J)->M (W J))(f e:J)(b d c:W J):M (W J):=LP.lp (unc5 (j6N a)) (f,e,b,d,c)
theorem YU(a:(W J)->M (W J))(f e:J)(b d c:W J):JA a f e b d c=lpK (j6N a f e b d c) (λh=>JA a h.1 h.2.1 h.2.2.1 h.2.2.2.1 h.2.2.2.2):=bj _ _
def JB[LP](b:(W J)->M (W J))(a:W J):M (W J):=
 let e:=S a.length
 cond (L (e<2)) (cond (L (U ([]:(W J))+U a<=aG)) (let g:W Int:=([]:(W J))++a
 K g) X) (let f:=S a.length
 let d:=w64 (Ç f 2)
 cond (L ((0:J)<=0)&&(L (0<=d)&&L (d<=(S a.length)))) (let l:W Int:=Ë 0 (Ê d.toNat a)
 (b l).bind λm=>let i:=S a.length
 let c:=w64 (Ç i 2)
 cond (L (0<=c)&&(L (c<=(S a.length))&&L ((S a.length)<=(S a.length)))) (let j:W Int:=Ë c.toNat (Ê a.length a)
 (b j).bind λk=>(JA b 0 0 ([]:(W J)) m k).bind λn=>K n) X) X)
def j5l[LP](b:(W J)->M (W J))(h:W J):M (W J):=JB (λa=>b a) h
def jqP[LP](a:W J):M (W J):=LP.rp j5l a
def j4K(e j b:J)(m a:W J):M ((J×J×J×(W J)×(W J)) ⊕ (J×J×(W J))):=
 let i:=S a.length
 cond (L (b<i)) (cond (inR b a.length) (let d:=N a b.toNat 0
 cond ((inR b a.length) || !(L (d>e))) (let k:=N a b.toNat 0
 cond (cond (L (d>e)) (L (k<j)) Z) (cond (inR b a.length) (let c:=N a b.toNat 0
 cond (L (U m+U [c]<=aG)) (let g:W Int:=m++[c]
 let l:=w64 (b+1)
 K (.inl (e,j,l,g,a))) X) X) (let f:=w64 (b+1)
 K (.inl (e,j,f,m,a)))) X) X) (K (.inr (e,j,m)))
def JC[LP](d a e:J)(c b:W J):M (J×J×(W J)):=LP.lp (unc5 j4K) (d,a,e,c,b)
theorem YV(d a e c b):JC d a e c b=lpK (j4K d a e c b) (λh=>JC h.1 h.2.1 h.2.2.1 h.2.2.2.1 h.2.2.2.2):=bj _ _
def jfY[LP](c:W J)(a d:J):M (W J):=(jqP c).bind λf=>(JC a d 0 [a] f).bind λb=>cond (L (b.2.1>b.1)) (cond (L (U b.2.2+U [b.2.1]<=aG)) (let e:W Int:=b.2.2++[b.2.1]
 K e) X) (K b.2.2)
def j6O[LP](o n d:J)(p:ai)(e:aj)(i:al)(j:ao)(q:O)(b:aK)(f:aJ)(g:W J):M ((J×J×J×ai×aj×al×ao×O×aK×aJ×(W J)) ⊕ (J×J×O×aK×aJ×(W J))):=
 let l:=S b.length
 cond (L (d<l)) (cond (inR d b.length) (let a:=N b d.toNat (Y,(0,((0,0),(0,(0,(([]:(W J)),(([]:ah),(0,0))))))))
 (jkm (p,(e,(i,j))) (a.1,(a.2.1,((a.2.2.1.1,a.2.2.1.2),(a.2.2.2.1,(a.2.2.2.2.1,(a.2.2.2.2.2.1,(a.2.2.2.2.2.2.1,(a.2.2.2.2.2.2.2.1,a.2.2.2.2.2.2.2.2)))))))) o n).bind λc=>cond (L (U g+U c<=aG)) (let k:W Int:=g++c
 let m:=w64 (d+1)
 K (.inl (o,n,m,p,e,i,j,q,b,f,k))) X) X) (K (.inr (o,n,q,b,f,g)))
def JD[LP](l j g:J)(i:ai)(a:aj)(d:al)(e:ao)(k:O)(c:aK)(b:aJ)(f:W J):M (J×J×O×aK×aJ×(W J)):=LP.lp (u8 unc3 j6O) (l,j,g,i,a,d,e,k,c,b,f)
theorem YW(l j g i a d e k c b f):JD l j g i a d e k c b f=lpK (j6O l j g i a d e k c b f) (λh=>JD h.1 h.2.1 h.2.2.1 h.2.2.2.1 h.2.2.2.2.1 h.2.2.2.2.2.1 h.2.2.2.2.2.2.1 h.2.2.2.2.2.2.2.1 h.2.2.2.2.2.2.2.2.1 h.2.2.2.2.2.2.2.2.2.1 h.2.2.2.2.2.2.2.2.2.2):=bj _ _
def j6P(m l b:J)(n:O)(k:aK)(a:aJ)(d:W J):M ((J×J×J×O×aK×aJ×(W J)) ⊕ (J×J×(W J))):=
 let g:=S a.length
 cond (L (b<g)) (cond (inR b a.length) (let j:=N a b.toNat (0,(0,(0,(0,0))))
 cond (inR b a.length) (let e:=N a b.toNat (0,(0,(0,(0,0))))
 let c:W Int:=[j.2.2.2.1,e.2.2.2.2]
 cond (L (U d+U c<=aG)) (let f:W Int:=d++c
 let i:=w64 (b+1)
 K (.inl (m,l,i,n,k,a,f))) X) X) X) (K (.inr (m,l,d)))
def JE[LP](g e c:J)(f:O)(b:aK)(a:aJ)(d:W J):M (J×J×(W J)):=LP.lp (unc7 j6P) (g,e,c,f,b,a,d)
theorem YX(g e c f b a d):JE g e c f b a d=lpK (j6P g e c f b a d) (λh=>JE h.1 h.2.1 h.2.2.1 h.2.2.2.1 h.2.2.2.2.1 h.2.2.2.2.2.1 h.2.2.2.2.2.2):=bj _ _
def jn1[LP](b:bB)(a c f:J):M (W J):=cond (inR a b.2.2.2.length) (let e:=N b.2.2.2 a.toNat (Y,(([]:aK),([]:aJ)))
 (JD c f 0 b.1 b.2.1 b.2.2.1 b.2.2.2 e.1 e.2.1 e.2.2 ([]:(W J))).bind λd=>(JE d.1 d.2.1 0 d.2.2.1 d.2.2.2.1 d.2.2.2.2.1 d.2.2.2.2.2).bind λg=>(jfY g.2.2 g.1 g.2.1).bind λi=>K i) X
def jif(a:ak)(b:sv):M ak:=cond (L (b.2.1<=b.1)) (K a) (let e:=S a.length
 cond (L (e>0)) (let k:=w64 (e-1)
 cond (inR k a.length) (let o:=(N a k.toNat (0,(0,0))).2.1
 cond (o==b.1) (let l:=w64 (e-1)
 cond (inR l a.length) (let n:=(N a l.toNat (0,(0,0))).2.2
 cond (n==b.2.2) (let c:=w64 (e-1)
 cond (inR c a.length) (let p:ak:=É a c.toNat ((N a c.toNat (0,(0,0))).1,(b.2.1,(N a c.toNat (0,(0,0))).2.2))
 K p) X) (let j:ak:=[(b.1,(b.2.1,b.2.2))]
 cond (L (U a+U j<=aG)) (let m:ak:=a++j
 K m) X)) X) (let d:ak:=[(b.1,(b.2.1,b.2.2))]
 cond (L (U a+U d<=aG)) (let i:ak:=a++d
 K i) X)) X) (let f:ak:=[(b.1,(b.2.1,b.2.2))]
 cond (L (U a+U f<=aG)) (let g:ak:=a++f
 K g) X))
def j5m[LP](r a:J)(q:ai)(d:aj)(e:al)(f:ao)(b:W J)(p:ak):M ((J×J×ai×aj×al×ao×(W J)×ak) ⊕ (ak)):=
 let k:=w64 (a+1)
 let m:=S b.length
 cond (L (k<m)) (cond (inR a b.length) (let i:=N b a.toNat 0
 let c:=w64 (a+1)
 cond (inR c b.length) (let l:=N b c.toNat 0
 cond (inR a b.length) (let j:=N b a.toNat 0
 (jfT (q,(d,(e,f))) r j).bind λo=>(jif p (i,(l,o))).bind λg=>let n:=w64 (a+1)
 K (.inl (r,n,q,d,e,f,b,g))) X) X) X) (K (.inr p))
def JF[LP](i e:J)(f:ai)(a:aj)(b:al)(c:ao)(g:W J)(d:ak):M ak:=LP.lp (unc8 j5m) (i,e,f,a,b,c,g,d)
theorem YY(i e f a b c g d):JF i e f a b c g d=lpK (j5m i e f a b c g d) (λh=>JF h.1 h.2.1 h.2.2.1 h.2.2.2.1 h.2.2.2.2.1 h.2.2.2.2.2.1 h.2.2.2.2.2.2.1 h.2.2.2.2.2.2.2):=bj _ _
def jfj[LP](a:bB)(b c d:J):M ak:=(jn1 (a.1,(a.2.1,(a.2.2.1,a.2.2.2))) b c d).bind λe=>(JF b 0 a.1 a.2.1 a.2.2.1 a.2.2.2 e ([]:ak)).bind λf=>K f
def j6Q(r s c o b:J)(p:ai)(g:aj)(d:al)(f:ao)(q e i:J)(a:ak):M ((J×J×J×J×J×ai×aj×al×ao×J×J×J×ak) ⊕ ((J×J×J×J) ⊕ (J×J×J×J×ai×aj×al×ao×J×J×J))):=
 let n:=S a.length
 cond (L (b<n)) (cond (inR b a.length) (let j:=(N a b.toNat (0,(0,0))).2.2
 cond (j != c) (cond (inR b a.length) (let m:=(N a b.toNat (0,(0,0))).1
 cond (inR b a.length) (let k:=(N a b.toNat (0,(0,0))).2.2
 K (.inr (.inl (0,m,c,k)))) X) X) (let l:=w64 (b+1)
 K (.inl (r,s,c,o,l,p,g,d,f,q,e,i,a)))) X) (K (.inr (.inr (r,s,c,o,p,g,d,f,q,e,i))))
def FD[LP](m n i g j:J)(k:ai)(d:aj)(a:al)(c:ao)(l b e:J)(f:ak):M ((J×J×J×J) ⊕ (J×J×J×J×ai×aj×al×ao×J×J×J)):=LP.lp (u8 unc5 j6Q) (m,n,i,g,j,k,d,a,c,l,b,e,f)
theorem YZ(m n i g j k d a c l b e f):FD m n i g j k d a c l b e f=lpK (j6Q m n i g j k d a c l b e f) (λh=>FD h.1 h.2.1 h.2.2.1 h.2.2.2.1 h.2.2.2.2.1 h.2.2.2.2.2.1 h.2.2.2.2.2.2.1 h.2.2.2.2.2.2.2.1 h.2.2.2.2.2.2.2.2.1 h.2.2.2.2.2.2.2.2.2.1 h.2.2.2.2.2.2.2.2.2.2.1 h.2.2.2.2.2.2.2.2.2.2.2.1 h.2.2.2.2.2.2.2.2.2.2.2.2):=bj _ _
def j4Y[LP](p l n k:J)(o:ai)(c:aj)(b:al)(d:ao)(r i j:J):M ((J×J×J×J×ai×aj×al×ao×J×J×J) ⊕ ((J×J×J×J) ⊕ (J×J×J×ai×aj×al×ao×J×J×J))):=cond (L (k<l)) (let e:=w64 (k+691200)
 let g:Int:=if e<l then e else l
 (jfj (o,(c,(b,d))) p k g).bind λm=>(FD p l n g 0 o c b d r i j m).bind λq=>sumC q (λf=>K (.inr (.inl (f.1,f.2.1,f.2.2.1,f.2.2.2)))) (λa=>K (.inl (a.1,a.2.1,a.2.2.1,a.2.2.2.1,a.2.2.2.2.1,a.2.2.2.2.2.1,a.2.2.2.2.2.2.1,a.2.2.2.2.2.2.2.1,a.2.2.2.2.2.2.2.2.1,a.2.2.2.2.2.2.2.2.2.1,a.2.2.2.2.2.2.2.2.2.2)))) (K (.inr (.inr (p,l,n,o,c,b,d,r,i,j))))
def FE[LP](j l f g:J)(i:ai)(c:aj)(a:al)(e:ao)(k b d:J):M ((J×J×J×J) ⊕ (J×J×J×ai×aj×al×ao×J×J×J)):=LP.lp (u8 unc3 j4Y) (j,l,f,g,i,c,a,e,k,b,d)
theorem OJ(j l f g i c a e k b d):FE j l f g i c a e k b d=lpK (j4Y j l f g i c a e k b d) (λh=>FE h.1 h.2.1 h.2.2.1 h.2.2.2.1 h.2.2.2.2.1 h.2.2.2.2.2.1 h.2.2.2.2.2.2.1 h.2.2.2.2.2.2.2.1 h.2.2.2.2.2.2.2.2.1 h.2.2.2.2.2.2.2.2.2.1 h.2.2.2.2.2.2.2.2.2.2):=bj _ _
def jkn[LP](a:bB)(b c:J):M (sv×J):=(jd3 (a.1,(a.2.1,(a.2.2.1,a.2.2.2))) b c c).bind λf=>cond (f != 0) (K ((0,(0,0)),f)) (let g:=w64 (c+34560000)
 let i:Int:=if 8589934592<g then 8589934592 else g
 (jfT (a.1,(a.2.1,(a.2.2.1,a.2.2.2))) b c).bind λj=>(FE b i j c a.1 a.2.1 a.2.2.1 a.2.2.2 0 0 0).bind λl=>sumC l (λk=>K ((k.2.1,(k.2.2.1,k.2.2.2)),k.1)) (λd=>(jfT (d.2.2.2.1,(d.2.2.2.2.1,(d.2.2.2.2.2.1,d.2.2.2.2.2.2.1))) d.1 d.2.1).bind λe=>cond (e != d.2.2.1) (K ((d.2.1,(d.2.2.1,e)),0)) (K ((0,(0,0)),10))))
def jpP[LP](b:bB)(a c:J):M Bool:=
 let d:=S b.2.2.2.length
 let f:Bool:=cond (cond (L (a>=0)) (L (a<d)) Z) (L (c>=0)) Z
 cond (cond f (L (c<=8589934592)) Z) ((j8y (b.1,(b.2.1,(b.2.2.1,b.2.2.2)))).bind λe=>K (e==0)) (K Z)
def jlr[LP](a:bB)(b c:J):M Int:=(jpP (a.1,(a.2.1,(a.2.2.1,a.2.2.2))) b c).bind λd=>cond (!d) (K (-1)) ((jfT (a.1,(a.2.1,(a.2.2.1,a.2.2.2))) b c).bind λe=>K e)
def jer[LP](b:bB)(a c:J):M Int:=(jlr (b.1,(b.2.1,(b.2.2.1,b.2.2.2))) a c).bind λd=>K d
def j7A[LP](a:bB)(b c d:J):M (ak×J):=(jd3 (a.1,(a.2.1,(a.2.2.1,a.2.2.2))) b c d).bind λf=>cond (f != 0) (K (([]:ak),f)) ((jfj (a.1,(a.2.1,(a.2.2.1,a.2.2.2))) b c d).bind λe=>let g:=S e.length
 cond (L (g>16384)) (K (([]:ak),5)) (K (e,0)))
def j4L(b:J)(a e:ak):M ((J×ak×ak) ⊕ (ak)):=
 let k:=S a.length
 cond (L (b<k)) (cond (inR b a.length) (let g:=(N a b.toNat (0,(0,0))).1
 let c:=w64 (b-1)
 cond (inR c a.length) (let i:=(N a c.toNat (0,(0,0))).2.2
 cond (inR b a.length) (let j:=(N a b.toNat (0,(0,0))).2.2
 let d:ak:=[(g,(i,j))]
 cond (L (U e+U d<=aG)) (let l:ak:=e++d
 let f:=w64 (b+1)
 K (.inl (f,a,l))) X) X) X) X) (K (.inr e))
def JG[LP](c:J)(a b:ak):M ak:=LP.lp (unc3 j4L) (c,a,b)
theorem Y0(c a b):JG c a b=lpK (j4L c a b) (λh=>JG h.1 h.2.1 h.2.2):=bj _ _
def jg1[LP](b:bB)(a c e:J):M (ak×J):=(j7A (b.1,(b.2.1,(b.2.2.1,b.2.2.2))) a c e).bind λd=>cond (d.2 != 0) (K (([]:ak),d.2)) ((JG 1 d.1 ([]:ak)).bind λf=>K (f,0))
def j63(m b:J)(a:ak)(c:ah):M ((J×J×ak×ah) ⊕ (ah)):=
 let i:=S a.length
 cond (L (b<i)) (cond (inR b a.length) (let g:=(N a b.toNat (0,(0,0))).2.2
 cond (g==m) (cond (inR b a.length) (let e:=(N a b.toNat (0,(0,0))).1
 cond (inR b a.length) (let j:=(N a b.toNat (0,(0,0))).2.1
 let d:ah:=[(e,j)]
 cond (L (U c+U d<=aG)) (let k:ah:=c++d
 let f:=w64 (b+1)
 K (.inl (m,f,a,k))) X) X) X) (let l:=w64 (b+1)
 K (.inl (m,l,a,c)))) X) (K (.inr c))
def FF[LP](d a:J)(c:ak)(b:ah):M ah:=LP.lp (unc4 j63) (d,a,c,b)
theorem Y1(d c b a):FF d c b a=lpK (j63 d c b a) (λh=>FF h.1 h.2.1 h.2.2.1 h.2.2.2):=bj _ _
def jko[LP](b:bB)(a c d f:J):M (ah×J):=(j7A (b.1,(b.2.1,(b.2.2.1,b.2.2.2))) a d f).bind λe=>cond (e.2 != 0) (K (([]:ah),e.2)) ((FF c 0 e.1 ([]:ah)).bind λg=>let i:=S g.length
 cond (L (i>4096)) (K (([]:ah),5)) (K (g,0)))
def j5n(f g:ak)(e a:J):M ((ak×ak×J×J) ⊕ (Ã ⊕ Æ)):=cond (L (a<e)) (cond (inR a f.length) (let c:=N f a.toNat (0,(0,0))
 cond (inR a g.length) (let b:=N g a.toNat (0,(0,0))
 cond (!((c.1==b.1)&&((c.2.1==b.2.1)&&(c.2.2==b.2.2)))) (K (.inr (.inl Z))) (let d:=w64 (a+1)
 K (.inl (f,g,e,d)))) X) X) (K (.inr (.inr ())))
def FG[LP](d c:ak)(b a:J):M (Ã ⊕ Æ):=LP.lp (unc4 j5n) (d,c,b,a)
theorem Y2(c d a b):FG c d a b=lpK (j5n c d a b) (λh=>FG h.1 h.2.1 h.2.2.1 h.2.2.2):=bj _ _
def jig[LP](a b:ak):M Bool:=
 let f:=S a.length
 let e:=S b.length
 cond (f != e) (K Z) (let c:=S a.length
 (FG a b c 0).bind λd=>sumC d (λg=>K g) (λi=>K Á))
def j7B[LP](k j:J)(l:ai)(d:aj)(c:al)(a:ao)(i:W J):M ((J×J×ai×aj×al×ao×(W J)) ⊕ (W J)):=
 let e:=S a.length
 cond (L (j<e)) ((jer (l,(d,(c,a))) j k).bind λb=>cond (L (U i+U [b]<=aG)) (let g:W Int:=i++[b]
 let f:=w64 (j+1)
 K (.inl (k,f,l,d,c,a,g))) X) (K (.inr i))
def JH[LP](d g:J)(f:ai)(c:aj)(a:al)(b:ao)(e:W J):M (W J):=LP.lp (unc7 j7B) (d,g,f,c,a,b,e)
theorem Y3(d g f c a b e):JH d g f c a b e=lpK (j7B d g f c a b e) (λh=>JH h.1 h.2.1 h.2.2.1 h.2.2.2.1 h.2.2.2.2.1 h.2.2.2.2.2.1 h.2.2.2.2.2.2):=bj _ _
def jnU[LP](a:bB)(b:J):M (W J):=(j8y (a.1,(a.2.1,(a.2.2.1,a.2.2.2)))).bind λc=>cond (c != 0) (K ([]:(W J))) ((JH b 0 a.1 a.2.1 a.2.2.1 a.2.2.2 ([]:(W J))).bind λd=>K d)
def j2i[LP](x z v w a0 s i:J)(t:bW)(o:J)(p:W J)(q:J)(u:W J)(k:J)(g:ai)(b:aj)(c:al)(a:ao)(r:W J)(j:J):M ((J×J×J×J×J×J×J×bW×J×(W J)×J×(W J)×J×ai×aj×al×ao×(W J)×J) ⊕ (Ã ⊕ (J×J×J×J×J×J×J×bW×J×(W J)×J×ai×aj×al×ao×(W J)×J))):=cond (L (k<3)) (cond (inR k 3) (let d:=N u k.toNat 0
 (jay (g,(b,(c,a))) i d).bind λe=>(jkn (g,(b,(c,a))) i d).bind λf=>let y:Bool:= !((e.1.1==f.1.1)&&((e.1.2.1==f.1.2.1)&&(e.1.2.2==f.1.2.2)))
 cond y (K (.inr (.inl Z))) (cond (e.2 != f.2) (K (.inr (.inl Z))) ((j4W (g,(b,(c,a))) i d).bind λl=>(jer (g,(b,(c,a))) i d).bind λn=>cond (l != n) (K (.inr (.inl Z))) (let m:=w64 (k+1)
 K (.inl (x,z,v,w,a0,s,i,t,o,p,q,u,m,g,b,c,a,r,j)))))) X) (K (.inr (.inr (x,z,v,w,a0,s,i,t,o,p,q,g,b,c,a,r,j))))
def JI[LP](r s p q t k o:J)(l:bW)(e:J)(f:W J)(g:J)(m:W J)(n:J)(j:ai)(b:aj)(c:al)(a:ao)(i:W J)(d:J):M (Ã ⊕ (J×J×J×J×J×J×J×bW×J×(W J)×J×ai×aj×al×ao×(W J)×J)):=LP.lp (u8 (u8 unc3) j2i) (r,s,p,q,t,k,o,l,e,f,g,m,n,j,b,c,a,i,d)
theorem Y4(r s p q t k o l e f g m n j b c a i d):JI r s p q t k o l e f g m n j b c a i d=lpK (j2i r s p q t k o l e f g m n j b c a i d) (λh=>JI h.1 h.2.1 h.2.2.1 h.2.2.2.1 h.2.2.2.2.1 h.2.2.2.2.2.1 h.2.2.2.2.2.2.1 h.2.2.2.2.2.2.2.1 h.2.2.2.2.2.2.2.2.1 h.2.2.2.2.2.2.2.2.2.1 h.2.2.2.2.2.2.2.2.2.2.1 h.2.2.2.2.2.2.2.2.2.2.2.1 h.2.2.2.2.2.2.2.2.2.2.2.2.1 h.2.2.2.2.2.2.2.2.2.2.2.2.2.1 h.2.2.2.2.2.2.2.2.2.2.2.2.2.2.1 h.2.2.2.2.2.2.2.2.2.2.2.2.2.2.2.1 h.2.2.2.2.2.2.2.2.2.2.2.2.2.2.2.2.1 h.2.2.2.2.2.2.2.2.2.2.2.2.2.2.2.2.2.1 h.2.2.2.2.2.2.2.2.2.2.2.2.2.2.2.2.2.2):=bj _ _
def j2j(a0 a1 y z a2 v x:J)(w:bW)(o:J)(p:W J)(q:J)(l:W (W J))(k j a:J)(u:ai)(e:aj)(f:al)(d:ao)(t:W J)(g:J)(n m:ak)(r s:ah):M ((J×J×J×J×J×J×J×bW×J×(W J)×J×(W (W J))×J×J×J×ai×aj×al×ao×(W J)×J×ak×ak×ah×ah) ⊕ (Ã ⊕ (J×J×J×J×J×J×J×bW×J×(W J)×J×(W (W J))×J×ai×aj×al×ao×(W J)×J×ah×ah))):=cond (L (a<j)) (cond (inR a n.length) (let c:=N n a.toNat (0,(0,0))
 cond (inR a m.length) (let b:=N m a.toNat (0,(0,0))
 cond (!((c.1==b.1)&&((c.2.1==b.2.1)&&(c.2.2==b.2.2)))) (K (.inr (.inl Z))) (let i:=w64 (a+1)
 K (.inl (a0,a1,y,z,a2,v,x,w,o,p,q,l,k,j,i,u,e,f,d,t,g,n,m,r,s)))) X) X) (K (.inr (.inr (a0,a1,y,z,a2,v,x,w,o,p,q,l,k,u,e,f,d,t,g,r,s))))
def JJ[LP](x y v w z q u:J)(s:bW)(j:J)(k:W J)(l:J)(i:W (W J))(g e f:J)(p:ai)(b:aj)(c:al)(a:ao)(o:W J)(d:J)(t r:ak)(m n:ah):M (Ã ⊕ (J×J×J×J×J×J×J×bW×J×(W J)×J×(W (W J))×J×ai×aj×al×ao×(W J)×J×ah×ah)):=LP.lp (u8 (u8 unc9) j2j) (x,y,v,w,z,q,u,s,j,k,l,i,g,e,f,p,b,c,a,o,d,t,r,m,n)
theorem Y5(x y v w z q u:J)(s:bW)(j:J)(k:W J)(l:J)(i:W (W J))(g e f:J)(p:ai)(b:aj)(c:al)(a:ao)(o:W J)(d:J)(t r:ak)(m n:ah):JJ x y v w z q u s j k l i g e f p b c a o d t r m n=lpK (j2j x y v w z q u s j k l i g e f p b c a o d t r m n) (λh=>JJ h.1 h.2.1 h.2.2.1 h.2.2.2.1 h.2.2.2.2.1 h.2.2.2.2.2.1 h.2.2.2.2.2.2.1 h.2.2.2.2.2.2.2.1 h.2.2.2.2.2.2.2.2.1 h.2.2.2.2.2.2.2.2.2.1 h.2.2.2.2.2.2.2.2.2.2.1 h.2.2.2.2.2.2.2.2.2.2.2.1 h.2.2.2.2.2.2.2.2.2.2.2.2.1 h.2.2.2.2.2.2.2.2.2.2.2.2.2.1 h.2.2.2.2.2.2.2.2.2.2.2.2.2.2.1 h.2.2.2.2.2.2.2.2.2.2.2.2.2.2.2.1 h.2.2.2.2.2.2.2.2.2.2.2.2.2.2.2.2.1 h.2.2.2.2.2.2.2.2.2.2.2.2.2.2.2.2.2.1 h.2.2.2.2.2.2.2.2.2.2.2.2.2.2.2.2.2.2.1 h.2.2.2.2.2.2.2.2.2.2.2.2.2.2.2.2.2.2.2.1 h.2.2.2.2.2.2.2.2.2.2.2.2.2.2.2.2.2.2.2.2.1 h.2.2.2.2.2.2.2.2.2.2.2.2.2.2.2.2.2.2.2.2.2.1 h.2.2.2.2.2.2.2.2.2.2.2.2.2.2.2.2.2.2.2.2.2.2.1 h.2.2.2.2.2.2.2.2.2.2.2.2.2.2.2.2.2.2.2.2.2.2.2.1 h.2.2.2.2.2.2.2.2.2.2.2.2.2.2.2.2.2.2.2.2.2.2.2.2):=bj _ _
def j26(y z w x a0 t v:J)(u:bW)(o:J)(p:W J)(q:J)(l:W (W J))(j i a:J)(s:ai)(e:aj)(f:al)(d:ao)(r:W J)(g:J)(k m:ah):M ((J×J×J×J×J×J×J×bW×J×(W J)×J×(W (W J))×J×J×J×ai×aj×al×ao×(W J)×J×ah×ah) ⊕ (Ã ⊕ (J×J×J×J×J×J×J×bW×J×(W J)×J×(W (W J))×J×ai×aj×al×ao×(W J)×J))):=cond (L (a<i)) (cond (inR a k.length) (let c:=N k a.toNat (0,0)
 cond (inR a m.length) (let b:=N m a.toNat (0,0)
 cond (!((c.1==b.1)&&(c.2==b.2))) (K (.inr (.inl Z))) (let n:=w64 (a+1)
 K (.inl (y,z,w,x,a0,t,v,u,o,p,q,l,j,i,n,s,e,f,d,r,g,k,m)))) X) X) (K (.inr (.inr (y,z,w,x,a0,t,v,u,o,p,q,l,j,s,e,f,d,r,g))))
def JK[LP](v w t u x q s:J)(r:bW)(j:J)(k:W J)(l:J)(i:W (W J))(g e f:J)(p:ai)(b:aj)(c:al)(a:ao)(o:W J)(d:J)(m n:ah):M (Ã ⊕ (J×J×J×J×J×J×J×bW×J×(W J)×J×(W (W J))×J×ai×aj×al×ao×(W J)×J)):=LP.lp (u8 (u8 unc7) j26) (v,w,t,u,x,q,s,r,j,k,l,i,g,e,f,p,b,c,a,o,d,m,n)
theorem Y6(v w t u x q s:J)(r:bW)(j:J)(k:W J)(l:J)(i:W (W J))(g e f:J)(p:ai)(b:aj)(c:al)(a:ao)(o:W J)(d:J)(m n:ah):JK v w t u x q s r j k l i g e f p b c a o d m n=lpK (j26 v w t u x q s r j k l i g e f p b c a o d m n) (λh=>JK h.1 h.2.1 h.2.2.1 h.2.2.2.1 h.2.2.2.2.1 h.2.2.2.2.2.1 h.2.2.2.2.2.2.1 h.2.2.2.2.2.2.2.1 h.2.2.2.2.2.2.2.2.1 h.2.2.2.2.2.2.2.2.2.1 h.2.2.2.2.2.2.2.2.2.2.1 h.2.2.2.2.2.2.2.2.2.2.2.1 h.2.2.2.2.2.2.2.2.2.2.2.2.1 h.2.2.2.2.2.2.2.2.2.2.2.2.2.1 h.2.2.2.2.2.2.2.2.2.2.2.2.2.2.1 h.2.2.2.2.2.2.2.2.2.2.2.2.2.2.2.1 h.2.2.2.2.2.2.2.2.2.2.2.2.2.2.2.2.1 h.2.2.2.2.2.2.2.2.2.2.2.2.2.2.2.2.2.1 h.2.2.2.2.2.2.2.2.2.2.2.2.2.2.2.2.2.2.1 h.2.2.2.2.2.2.2.2.2.2.2.2.2.2.2.2.2.2.2.1 h.2.2.2.2.2.2.2.2.2.2.2.2.2.2.2.2.2.2.2.2.1 h.2.2.2.2.2.2.2.2.2.2.2.2.2.2.2.2.2.2.2.2.2.1 h.2.2.2.2.2.2.2.2.2.2.2.2.2.2.2.2.2.2.2.2.2.2):=bj _ _
def j2k[LP](c6 c7 c3 c4 b4 b9 m:J)(c0:bW)(b5:J)(b6:W J)(b7:J)(y:W (W J))(n:J)(i:ai)(e:aj)(f:al)(d:ao)(b8:W J)(q:J):M ((J×J×J×J×J×J×J×bW×J×(W J)×J×(W (W J))×J×ai×aj×al×ao×(W J)×J) ⊕ (Ã ⊕ (J×J×J×J×J×J×bW×J×(W J)×J×ai×aj×al×ao×(W J)×J))):=cond (L (n<2)) (cond (inR n 2) (let a:=N y n.toNat (Å 2 0)
 let c8:W Int:=Å 2 0
 let v:=N a 0 0
 let b2:=N a 1 0
 (j3B (i,(e,(f,d))) m v b2).bind λo=>let s:=N a 0 0
 let a6:=N a 1 0
 (j7A (i,(e,(f,d))) m s a6).bind λp=>let a9:=N a 0 0
 let a5:=N a 1 0
 (j8v (i,(e,(f,d))) m a9 a5).bind λg=>let a7:=N a 0 0
 let a0:=N a 1 0
 (jg1 (i,(e,(f,d))) m a7 a0).bind λk=>let a4:=N a 0 0
 let x:=N a 1 0
 (jbo (i,(e,(f,d))) m b4 a4 x).bind λl=>let a2:=N a 0 0
 let a3:=N a 1 0
 (jko (i,(e,(f,d))) m b4 a2 a3).bind λj=>(jig o.1 p.1).bind λt=>let r:=S g.1.length
 let a1:=S k.1.length
 let z:Bool:=cond (cond (cond (!t) Á (o.2 != p.2)) Á (r != a1)) Á (g.2 != k.2)
 let u:=S l.1.length
 let w:=S j.1.length
 cond (cond (cond z Á (u != w)) Á (l.2 != j.2)) (K (.inr (.inl Z))) (let b0:=S g.1.length
 (JJ c6 c7 c3 c4 b4 b9 m c0 b5 b6 b7 y n b0 0 i e f d b8 q g.1 k.1 l.1 j.1).bind λc1=>sumC c1 (λc2=>K (.inr (.inl c2))) (λb=>let a8:=S b.2.2.2.2.2.2.2.2.2.2.2.2.2.2.2.2.2.2.2.1.length
 (JK b.1 b.2.1 b.2.2.1 b.2.2.2.1 b.2.2.2.2.1 b.2.2.2.2.2.1 b.2.2.2.2.2.2.1 b.2.2.2.2.2.2.2.1 b.2.2.2.2.2.2.2.2.1 b.2.2.2.2.2.2.2.2.2.1 b.2.2.2.2.2.2.2.2.2.2.1 b.2.2.2.2.2.2.2.2.2.2.2.1 b.2.2.2.2.2.2.2.2.2.2.2.2.1 a8 0 b.2.2.2.2.2.2.2.2.2.2.2.2.2.1 b.2.2.2.2.2.2.2.2.2.2.2.2.2.2.1 b.2.2.2.2.2.2.2.2.2.2.2.2.2.2.2.1 b.2.2.2.2.2.2.2.2.2.2.2.2.2.2.2.2.1 b.2.2.2.2.2.2.2.2.2.2.2.2.2.2.2.2.2.1 b.2.2.2.2.2.2.2.2.2.2.2.2.2.2.2.2.2.2.1 b.2.2.2.2.2.2.2.2.2.2.2.2.2.2.2.2.2.2.2.1 b.2.2.2.2.2.2.2.2.2.2.2.2.2.2.2.2.2.2.2.2).bind λb3=>sumC b3 (λc5=>K (.inr (.inl c5))) (λc=>let b1:=w64 (c.2.2.2.2.2.2.2.2.2.2.2.2.1+1)
 K (.inl (c.1,c.2.1,c.2.2.1,c.2.2.2.1,c.2.2.2.2.1,c.2.2.2.2.2.1,c.2.2.2.2.2.2.1,c.2.2.2.2.2.2.2.1,c.2.2.2.2.2.2.2.2.1,c.2.2.2.2.2.2.2.2.2.1,c.2.2.2.2.2.2.2.2.2.2.1,c.2.2.2.2.2.2.2.2.2.2.2.1,b1,c.2.2.2.2.2.2.2.2.2.2.2.2.2.1,c.2.2.2.2.2.2.2.2.2.2.2.2.2.2.1,c.2.2.2.2.2.2.2.2.2.2.2.2.2.2.2.1,c.2.2.2.2.2.2.2.2.2.2.2.2.2.2.2.2.1,c.2.2.2.2.2.2.2.2.2.2.2.2.2.2.2.2.2.1,c.2.2.2.2.2.2.2.2.2.2.2.2.2.2.2.2.2.2)))))) X) (K (.inr (.inr (c6,c7,c3,c4,b4,b9,c0,b5,b6,b7,i,e,f,d,b8,q))))
def JL[LP](r s p q t m o:J)(n:bW)(g:J)(i:W J)(j:J)(f:W (W J))(e:J)(l:ai)(b:aj)(c:al)(a:ao)(k:W J)(d:J):M (Ã ⊕ (J×J×J×J×J×J×bW×J×(W J)×J×ai×aj×al×ao×(W J)×J)):=LP.lp (u8 (u8 unc3) j2k) (r,s,p,q,t,m,o,n,g,i,j,f,e,l,b,c,a,k,d)
theorem Y7(r s p q t m o:J)(n:bW)(g:J)(i:W J)(j:J)(f:W (W J))(e:J)(l:ai)(b:aj)(c:al)(a:ao)(k:W J)(d:J):JL r s p q t m o n g i j f e l b c a k d=lpK (j2k r s p q t m o n g i j f e l b c a k d) (λh=>JL h.1 h.2.1 h.2.2.1 h.2.2.2.1 h.2.2.2.2.1 h.2.2.2.2.2.1 h.2.2.2.2.2.2.1 h.2.2.2.2.2.2.2.1 h.2.2.2.2.2.2.2.2.1 h.2.2.2.2.2.2.2.2.2.1 h.2.2.2.2.2.2.2.2.2.2.1 h.2.2.2.2.2.2.2.2.2.2.2.1 h.2.2.2.2.2.2.2.2.2.2.2.2.1 h.2.2.2.2.2.2.2.2.2.2.2.2.2.1 h.2.2.2.2.2.2.2.2.2.2.2.2.2.2.1 h.2.2.2.2.2.2.2.2.2.2.2.2.2.2.2.1 h.2.2.2.2.2.2.2.2.2.2.2.2.2.2.2.2.1 h.2.2.2.2.2.2.2.2.2.2.2.2.2.2.2.2.2.1 h.2.2.2.2.2.2.2.2.2.2.2.2.2.2.2.2.2.2):=bj _ _
def j2l[LP](p a3 a1 a2 a5 m:J)(x:bW)(t:J)(u:W J)(c:J)(w:ai)(e:aj)(f:al)(d:ao)(v:W J)(g:J):M ((J×J×J×J×J×J×bW×J×(W J)×J×ai×aj×al×ao×(W J)×J) ⊕ (Ã ⊕ (J×J×J×J×J×J×bW×J×ai×aj×al×ao×(W J)×J))):=cond (L (c<2)) (cond (inR c 2) (let r:=N u c.toNat 0
 (jqM p 3).bind λq=>let s:=w64 (8589934592-q)
 let o:W Int:=[p,m,s]
 (JI p a3 a1 a2 a5 m r x t u c o 0 w e f d v g).bind λz=>sumC z (λa4=>K (.inr (.inl a4))) (λa=>let j:=w64 (a.2.2.2.2.2.1+691200)
 let i:W Int:=[a.2.2.2.2.2.1,j]
 let k:W Int:=[a.2.1,a.2.2.1]
 let l:(W (W J)):=[i,k]
 (JL a.1 a.2.1 a.2.2.1 a.2.2.2.1 a.2.2.2.2.1 a.2.2.2.2.2.1 a.2.2.2.2.2.2.1 a.2.2.2.2.2.2.2.1 a.2.2.2.2.2.2.2.2.1 a.2.2.2.2.2.2.2.2.2.1 a.2.2.2.2.2.2.2.2.2.2.1 l 0 a.2.2.2.2.2.2.2.2.2.2.2.1 a.2.2.2.2.2.2.2.2.2.2.2.2.1 a.2.2.2.2.2.2.2.2.2.2.2.2.2.1 a.2.2.2.2.2.2.2.2.2.2.2.2.2.2.1 a.2.2.2.2.2.2.2.2.2.2.2.2.2.2.2.1 a.2.2.2.2.2.2.2.2.2.2.2.2.2.2.2.2).bind λy=>sumC y (λa0=>K (.inr (.inl a0))) (λb=>let n:=w64 (b.2.2.2.2.2.2.2.2.2.1+1)
 K (.inl (b.1,b.2.1,b.2.2.1,b.2.2.2.1,b.2.2.2.2.1,b.2.2.2.2.2.1,b.2.2.2.2.2.2.1,b.2.2.2.2.2.2.2.1,b.2.2.2.2.2.2.2.2.1,n,b.2.2.2.2.2.2.2.2.2.2.1,b.2.2.2.2.2.2.2.2.2.2.2.1,b.2.2.2.2.2.2.2.2.2.2.2.2.1,b.2.2.2.2.2.2.2.2.2.2.2.2.2.1,b.2.2.2.2.2.2.2.2.2.2.2.2.2.2.1,b.2.2.2.2.2.2.2.2.2.2.2.2.2.2.2))))) X) (K (.inr (.inr (p,a3,a1,a2,a5,m,x,t,w,e,f,d,v,g))))
def JM[LP](q o m n p i:J)(j:bW)(k:J)(l:W J)(g:J)(f:ai)(b:aj)(d:al)(a:ao)(e:W J)(c:J):M (Ã ⊕ (J×J×J×J×J×J×bW×J×ai×aj×al×ao×(W J)×J)):=LP.lp (u8 unc8 j2l) (q,o,m,n,p,i,j,k,l,g,f,b,d,a,e,c)
theorem Y8(q o m n p i j k l g f b d a e c):JM q o m n p i j k l g f b d a e c=lpK (j2l q o m n p i j k l g f b d a e c) (λh=>JM h.1 h.2.1 h.2.2.1 h.2.2.2.1 h.2.2.2.2.1 h.2.2.2.2.2.1 h.2.2.2.2.2.2.1 h.2.2.2.2.2.2.2.1 h.2.2.2.2.2.2.2.2.1 h.2.2.2.2.2.2.2.2.2.1 h.2.2.2.2.2.2.2.2.2.2.1 h.2.2.2.2.2.2.2.2.2.2.2.1 h.2.2.2.2.2.2.2.2.2.2.2.2.1 h.2.2.2.2.2.2.2.2.2.2.2.2.2.1 h.2.2.2.2.2.2.2.2.2.2.2.2.2.2.1 h.2.2.2.2.2.2.2.2.2.2.2.2.2.2.2):=bj _ _
def j27(q o m n p:J)(k:bW)(l e a:J)(j:W J)(b:J)(d i:W J):M ((J×J×J×J×J×bW×J×J×J×(W J)×J×(W J)×(W J)) ⊕ (Ã ⊕ (J×J×J×J×J×bW×J×(W J)×J))):=cond (L (a<e)) (cond (inR a d.length) (let g:=N d a.toNat 0
 cond (inR a i.length) (let c:=N i a.toNat 0
 cond (g != c) (K (.inr (.inl Z))) (let f:=w64 (a+1)
 K (.inl (q,o,m,n,p,k,l,e,f,j,b,d,i)))) X) X) (K (.inr (.inr (q,o,m,n,p,k,l,j,b))))
def JN[LP](n l j k m:J)(f:bW)(g b c:J)(d:W J)(a:J)(e i:W J):M (Ã ⊕ (J×J×J×J×J×bW×J×(W J)×J)):=LP.lp (u8 unc5 j27) (n,l,j,k,m,f,g,b,c,d,a,e,i)
theorem Y9(n l j k m f g b c d a e i):JN n l j k m f g b c d a e i=lpK (j27 n l j k m f g b c d a e i) (λh=>JN h.1 h.2.1 h.2.2.1 h.2.2.2.1 h.2.2.2.2.1 h.2.2.2.2.2.1 h.2.2.2.2.2.2.1 h.2.2.2.2.2.2.2.1 h.2.2.2.2.2.2.2.2.1 h.2.2.2.2.2.2.2.2.2.1 h.2.2.2.2.2.2.2.2.2.2.1 h.2.2.2.2.2.2.2.2.2.2.2.1 h.2.2.2.2.2.2.2.2.2.2.2.2):=bj _ _
def j2m[LP](x y w u z:J)(q:bW)(i:J)(v:W J)(p:J):M ((J×J×J×J×J×bW×J×(W J)×J) ⊕ (Ã ⊕ Æ)):=cond (L (i<2)) (cond (inR i 2) (let c:=N q i.toNat (([]:ai),(([]:aj),(([]:al),([]:ao))))
 (j5W v p).bind λf=>(j06 f.2.1 f.2.2 3).bind λe=>let n:W Int:=[e.1,u]
 (JM x y w u z f.1 q i n 0 c.1 c.2.1 c.2.2.1 c.2.2.2 e.2.1 e.2.2).bind λr=>sumC r (λt=>K (.inr (.inl t))) (λa=>(jcE (a.2.2.2.2.2.2.2.2.1,(a.2.2.2.2.2.2.2.2.2.1,(a.2.2.2.2.2.2.2.2.2.2.1,a.2.2.2.2.2.2.2.2.2.2.2.1))) a.2.2.2.2.2.1).bind λd=>(jnU (a.2.2.2.2.2.2.2.2.1,(a.2.2.2.2.2.2.2.2.2.1,(a.2.2.2.2.2.2.2.2.2.2.1,a.2.2.2.2.2.2.2.2.2.2.2.1))) a.2.2.2.2.2.1).bind λg=>let j:=S d.length
 let m:=S g.length
 cond (j != m) (K (.inr (.inl Z))) (let l:=S d.length
 (JN a.1 a.2.1 a.2.2.1 a.2.2.2.1 a.2.2.2.2.1 a.2.2.2.2.2.2.1 a.2.2.2.2.2.2.2.1 l 0 a.2.2.2.2.2.2.2.2.2.2.2.2.1 a.2.2.2.2.2.2.2.2.2.2.2.2.2 d g).bind λo=>sumC o (λs=>K (.inr (.inl s))) (λb=>let k:=w64 (b.2.2.2.2.2.2.1+1)
 K (.inl (b.1,b.2.1,b.2.2.1,b.2.2.2.1,b.2.2.2.2.1,b.2.2.2.2.2.1,k,b.2.2.2.2.2.2.2.1,b.2.2.2.2.2.2.2.2)))))) X) (K (.inr (.inr ())))
def JO[LP](j g e f i:J)(c:bW)(d:J)(b:W J)(a:J):M (Ã ⊕ Æ):=LP.lp (unc9 j2m) (j,g,e,f,i,c,d,b,a)
theorem Za(j g e f i c d b a):JO j g e f i c d b a=lpK (j2m j g e f i c d b a) (λh=>JO h.1 h.2.1 h.2.2.1 h.2.2.2.1 h.2.2.2.2.1 h.2.2.2.2.2.1 h.2.2.2.2.2.2.1 h.2.2.2.2.2.2.2.1 h.2.2.2.2.2.2.2.2):=bj _ _
def jaD[LP](f:W J)(j e g b d:J):M Bool:=(jll f).bind λm=>cond (!m) ((ji7).bind λn=>K n) ((jnR f).bind λi=>(j8P i.1 i.2 2).bind λa=>(j9P a.2.1 a.2.2 (a.1.1,(a.1.2.1,(a.1.2.2.1,a.1.2.2.2)))).bind λc=>let l:bW:=[(a.1.1,(a.1.2.1,(a.1.2.2.1,a.1.2.2.2))),(c.1.1,(c.1.2.1,(c.1.2.2.1,c.1.2.2.2)))]
 (JO j e g b d l 0 c.2.1 c.2.2).bind λo=>sumC o (λp=>K p) (λq=>(ji7).bind λk=>K k))
end
end Go.Proofs.Pw
