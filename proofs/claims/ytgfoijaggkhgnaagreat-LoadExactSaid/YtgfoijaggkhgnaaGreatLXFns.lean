/- Plain qW, printed by a program out of the given code. -/
import Derived.Test.YtgfoijaggkhgnaaGreatLXLS
open _root_ renaming Int->J,Option->O,ByteArray->W,List->Y,Bool->Å,Unit->Æ
open Option renaming some->M,none->Z
open Decidable renaming decide->N
open List renaming getD->S,length->X,set->Ê,replicate->Ë,take->Ì,drop->Í
open Int renaming ofNat->U,tmod->Ã,tdiv->È,fdiv->Ï
open ByteArray renaming empty->À,size->Ä,mk->Ç,toList->É
open Bool renaming false->Á,true->Â
open Go Go.Lft
set_option linter.unusedVariables false
namespace Go.Proofs.Pw
noncomputable section
abbrev ai:Type:=(Y (J×J))
abbrev pb:Type:=(J×(Y J))
abbrev od:Type:=(J×(J×J))
abbrev wy:Type:=((J×J)×J)
abbrev af:Type:=(Y od)
abbrev bn:Type:=(Y wy)
abbrev fX:Type:=(J×ai)
abbrev tG:Type:=(W×pb)
abbrev fY:Type:=(Y af)
abbrev mz:Type:=(Y bn)
abbrev dz:Type:=(Y fX)
abbrev dM:Type:=(Y (J×od))
abbrev qX:Type:=(J×(J×od))
abbrev ar:Type:=(Y tG)
abbrev kU:Type:=(Y fY)
abbrev aX:Type:=(Y qX)
abbrev wz:Type:=(J×(J×qX))
abbrev aY:Type:=(Y wz)
abbrev Fz:Type:=(W×(J×(ai×(J×(J×Å)))))
abbrev aq:Type:=(Y Fz)
abbrev eh:Type:=(W×(J×aY))
abbrev ao:Type:=(Y eh)
abbrev fq:Type:=(W×(J×((J×J)×(J×(J×((Y J)×(ai×(J×J))))))))
abbrev ba:Type:=(Y fq)
abbrev mA:Type:=(W×(ba×aX))
abbrev au:Type:=(Y mA)
abbrev cO:Type:=(ao×(aq×(ar×au)))
abbrev nF:Type:=(cO×dz)
abbrev u8{A B C D E F G H T I R:Type}(u:T->I->R)(f:A->B->C->D->E->F->G->H->T)(h:A×B×C×D×E×F×G×H×I):R:=u (f h.1 h.2.1 h.2.2.1 h.2.2.2.1 h.2.2.2.2.1 h.2.2.2.2.2.1 h.2.2.2.2.2.2.1 h.2.2.2.2.2.2.2.1) h.2.2.2.2.2.2.2.2
abbrev unc2{A0 A1 R:Type}(f:A0->A1->R)(h:A0×A1):R:=f h.1 h.2
abbrev unc3{A0 A1 A2 R:Type}(f:A0->A1->A2->R)(h:A0×A1×A2):R:=f h.1 h.2.1 h.2.2
abbrev unc4{A0 A1 A2 A3 R:Type}(f:A0->A1->A2->A3->R)(h:A0×A1×A2×A3):R:=f h.1 h.2.1 h.2.2.1 h.2.2.2
abbrev unc5{A0 A1 A2 A3 A4 R:Type}(f:A0->A1->A2->A3->A4->R)(h:A0×A1×A2×A3×A4):R:=f h.1 h.2.1 h.2.2.1 h.2.2.2.1 h.2.2.2.2
abbrev unc6{A0 A1 A2 A3 A4 A5 R:Type}(f:A0->A1->A2->A3->A4->A5->R)(h:A0×A1×A2×A3×A4×A5):R:=f h.1 h.2.1 h.2.2.1 h.2.2.2.1 h.2.2.2.2.1 h.2.2.2.2.2
abbrev unc7{A0 A1 A2 A3 A4 A5 A6 R:Type}(f:A0->A1->A2->A3->A4->A5->A6->R)(h:A0×A1×A2×A3×A4×A5×A6):R:=f h.1 h.2.1 h.2.2.1 h.2.2.2.1 h.2.2.2.2.1 h.2.2.2.2.2.1 h.2.2.2.2.2.2
abbrev unc8{A0 A1 A2 A3 A4 A5 A6 A7 R:Type}(f:A0->A1->A2->A3->A4->A5->A6->A7->R)(h:A0×A1×A2×A3×A4×A5×A6×A7):R:=f h.1 h.2.1 h.2.2.1 h.2.2.2.1 h.2.2.2.2.1 h.2.2.2.2.2.1 h.2.2.2.2.2.2.1 h.2.2.2.2.2.2.2
abbrev unc9{A0 A1 A2 A3 A4 A5 A6 A7 A8 R:Type}(f:A0->A1->A2->A3->A4->A5->A6->A7->A8->R)(h:A0×A1×A2×A3×A4×A5×A6×A7×A8):R:=f h.1 h.2.1 h.2.2.1 h.2.2.2.1 h.2.2.2.2.1 h.2.2.2.2.2.1 h.2.2.2.2.2.2.1 h.2.2.2.2.2.2.2.1 h.2.2.2.2.2.2.2.2
def jlQ(a:Y J):O Bool:=
 let b:=U a.length
 M (N (b<=500))
def j3D(k e:af)(l b:J):O ((af×af×J×J) ⊕ (Å ⊕ Æ)):=cond (N (b<l)) (cond (inR b e.length) (let a:=S e b.toNat (0,(0,0))
 cond (N (a.1<0)) (M (.inr (.inl Á))) (cond (N (a.1>=32)) (M (.inr (.inl Á))) (cond (N (b>0)) (let c:=w64 (b-1)
 cond (inR c k.length) (let d:=S k c.toNat (0,(0,0))
 cond (N (a.1<=d.1)) (M (.inr (.inl Á))) (cond (N (a.2.1<0)) (M (.inr (.inl Á))) (cond (N (a.2.1>8589934592)) (M (.inr (.inl Á))) (cond (N (a.2.2<a.2.1)) (M (.inr (.inl Á))) (let f:=w64 (8*a.2.1)
 cond (N (a.2.2>f)) (M (.inr (.inl Á))) (let j:=w64 (b+1)
 M (.inl (k,e,l,j)))))))) Z) (cond (N (a.2.1<0)) (M (.inr (.inl Á))) (cond (N (a.2.1>8589934592)) (M (.inr (.inl Á))) (cond (N (a.2.2<a.2.1)) (M (.inr (.inl Á))) (let g:=w64 (8*a.2.1)
 cond (N (a.2.2>g)) (M (.inr (.inl Á))) (let i:=w64 (b+1)
 M (.inl (k,e,l,i)))))))))) Z) (M (.inr (.inr ())))
def FA[LP](b c:af)(d a:J):O (Å ⊕ Æ):=LP.lp (unc4 j3D) (b,c,d,a)
theorem Yr(d b c a):FA d b c a=lpK (j3D d b c a) (λh=>FA h.1 h.2.1 h.2.2.1 h.2.2.2):=bc _ _
def j75[LP](a:af):O Bool:=
 let d:=U a.length
 cond (N (d>32)) (M Á) (let b:=U a.length
 (FA a a b 0).bind λc=>sumC c (λe=>M e) (λf=>M Â))
def j3f(f:J)(d:af)(e c:J):O ((J×af×J×J) ⊕ (J ⊕ Æ)):=cond (N (c<e)) (cond (inR c d.length) (let a:=S d c.toNat (0,(0,0))
 cond (a.1==f) (M (.inr (.inl a.2.2))) (let b:=w64 (c+1)
 M (.inl (f,d,e,b)))) Z) (M (.inr (.inr ())))
def JG[LP](a:J)(b:af)(c d:J):O (J ⊕ Æ):=LP.lp (unc4 j3f) (a,b,c,d)
theorem Ys(c d a b):JG c d a b=lpK (j3f c d a b) (λh=>JG h.1 h.2.1 h.2.2.1 h.2.2.2):=bc _ _
def j2u[LP](b:af)(a:J):O Int:=
 let d:=U b.length
 (JG a b d 0).bind λc=>sumC c (λe=>M e) (λf=>M 0)
def j6z(d:af)(l a n f c m e g:J):O ((af×J×J×J×J×J×J×J×J) ⊕ (J×J×J×J×J×J)):=cond (N (a<l)) (cond (inR a d.length) (let b:=S d a.toNat (0,(0,0))
 let i:=w64 (e+b.2.1)
 let j:=w64 (g+b.2.2)
 let k:=w64 (a+1)
 M (.inl (d,l,k,n,f,c,m,i,j))) Z) (M (.inr (n,f,c,m,e,g)))
def FB[LP](g:af)(e f j c a i b d:J):O (J×J×J×J×J×J):=LP.lp (unc9 j6z) (g,e,f,j,c,a,i,b,d)
theorem Yt(g e f j c a i b d):FB g e f j c a i b d=lpK (j6z g e f j c a i b d) (λh=>FB h.1 h.2.1 h.2.2.1 h.2.2.2.1 h.2.2.2.2.1 h.2.2.2.2.2.1 h.2.2.2.2.2.2.1 h.2.2.2.2.2.2.2.1 h.2.2.2.2.2.2.2.2):=bc _ _
def jiB[LP](a:af):O od:=(j75 a).bind λd=>cond (!d) (M ((-1),(0,0))) (let c:=U a.length
 (FB a c 0 0 0 0 (-1) 0 0).bind λb=>M (b.2.2.2.1,(b.2.2.2.2.1,b.2.2.2.2.2)))
def jhB(a:J):O Bool:=
 let b:Bool:=cond (N (a>=(-4611686018427387904))) (N (a<=4611686018427387904)) Á
 M b
def jlR(a:J):O Int:=cond (N (a<0)) (let b:=w64 (0-a)
 M b) (M a)
def j5H(c b:J):O ((J×J) ⊕ (J)):=cond (b != 0) (cond (!(b==0)) (let a:=Ã c b
 M (.inl (b,a))) Z) (M (.inr c))
def JH[LP](b a:J):O Int:=LP.lp (unc2 j5H) (b,a)
theorem jo5(b a):JH b a=lpK (j5H b a) (λh=>JH h.1 h.2):=bc _ _
def jo6[LP](a b:J):O Int:=(JH a b).bind λc=>M c
def jfm[LP](b a:J):O wy:=cond (cond (N (a<1)) Â (N (a>4611686018427387904))) (M ((0,0),1)) ((jhB b).bind λf=>cond (!f) (M ((0,0),1)) ((jlR b).bind λd=>(jo6 d a).bind λc=>cond (!(c==0)) (let g:=w64 (È b c)
 cond (!(c==0)) (let e:=w64 (È a c)
 M ((g,e),0)) Z) Z))
def jfn[LP](b:af)(a:J):O wy:=(j75 b).bind λg=>cond (!g) (M ((0,0),8)) ((j2u b a).bind λe=>(jiB b).bind λd=>let f:Int:=if d.2.2>1 then d.2.2 else 1
 (jfm e f).bind λc=>M ((c.1.1,c.1.2),c.2))
def j5I[LP](j:af)(l:Y J)(m:J)(c:Y J)(i a k b:J):O ((af×(Y J)×J×(Y J)×J×J×J×J) ⊕ (af×(Y J)×J×J×J)):=cond (N (a<i)) (cond (inR a c.length) (let g:=S c a.toNat 0
 (j2u j g).bind λe=>let d:=w64 (m+e)
 let f:=w64 (a+1)
 M (.inl (j,l,d,c,i,f,k,b))) Z) (M (.inr (j,l,m,k,b)))
def FC[LP](i:af)(f:Y J)(g:J)(b:Y J)(d c e a:J):O (af×(Y J)×J×J×J):=LP.lp (unc8 j5I) (i,f,g,b,d,c,e,a)
theorem Yu(i f g b d c e a):FC i f g b d c e a=lpK (j5I i f g b d c e a) (λh=>FC h.1 h.2.1 h.2.2.1 h.2.2.2.1 h.2.2.2.2.1 h.2.2.2.2.2.1 h.2.2.2.2.2.2.1 h.2.2.2.2.2.2.2):=bc _ _
def j5J[LP](l:af)(o:Y J)(p n:J)(d:Y J)(k a m c:J):O ((af×(Y J)×J×J×(Y J)×J×J×J×J) ⊕ ((Y J)×J×J×J×J)):=cond (N (a<k)) (cond (inR a d.length) (let b:=S d a.toNat 0
 (j2u l b).bind λf=>(j2u l b).bind λe=>let g:=w64 (f*e)
 let i:=w64 (n+g)
 let j:=w64 (a+1)
 M (.inl (l,o,p,i,d,k,j,m,c))) Z) (M (.inr (o,p,n,m,c)))
def FD[LP](j:af)(g:Y J)(i f:J)(d:Y J)(b c e a:J):O ((Y J)×J×J×J×J):=LP.lp (unc9 j5J) (j,g,i,f,d,b,c,e,a)
theorem Yv(j g i f d b c e a):FD j g i f d b c e a=lpK (j5J j g i f d b c e a) (λh=>FD h.1 h.2.1 h.2.2.1 h.2.2.2.1 h.2.2.2.2.1 h.2.2.2.2.2.1 h.2.2.2.2.2.2.1 h.2.2.2.2.2.2.2.1 h.2.2.2.2.2.2.2.2):=bc _ _
def jhE[LP](c:af)(a:Y J):O wy:=(j75 c).bind λi=>cond (!i) (M ((0,0),8)) (let g:=U a.length
 cond (N (g>32)) (M ((0,0),5)) (let f:=U a.length
 (FC c a 0 a f 0 0 0).bind λb=>cond (N (b.2.2.1>268435456)) (M ((0,0),5)) (cond (b.2.2.1==0) (M ((1,1),0)) (let m:=U b.2.1.length
 (FD b.1 b.2.1 b.2.2.1 0 b.2.1 m 0 b.2.2.2.1 b.2.2.2.2).bind λe=>let j:=w64 (e.2.1*e.2.1)
 let l:=U e.1.length
 let k:=w64 (l*e.2.2.1)
 (jfm j k).bind λd=>M ((d.1.1,d.1.2),d.2)))))
def j30[LP](m:af)(k l:J)(e:Y J)(j d:J):O ((af×J×J×(Y J)×J×J) ⊕ (J×J)):=cond (N (d<j)) (cond (inR d e.length) (let c:=S e d.toNat 0
 (j2u m c).bind λb=>let g:Int:=if b<k then b else k
 (j2u m c).bind λa=>let f:Int:=if a>l then a else l
 let i:=w64 (d+1)
 M (.inl (m,g,f,e,j,i))) Z) (M (.inr (k,l)))
def JJ[LP](f:af)(d e:J)(c:Y J)(a b:J):O (J×J):=LP.lp (unc6 j30) (f,d,e,c,a,b)
theorem Pr(f d e c a b):JJ f d e c a b=lpK (j30 f d e c a b) (λh=>JJ h.1 h.2.1 h.2.2.1 h.2.2.2.1 h.2.2.2.2.1 h.2.2.2.2.2):=bc _ _
def jd8[LP](b:af)(a:Y J):O Int:=(j75 b).bind λc=>let e:=U a.length
 cond (cond (!c) Â (e==0)) (M 0) (cond (inR 0 a.length) (let d:=S a 0 0
 (j2u b d).bind λf=>cond (inR 0 a.length) (let l:=S a 0 0
 (j2u b l).bind λg=>let i:=U a.length
 (JJ b f g a i 0).bind λj=>let k:=w64 (j.2-j.1)
 M k) Z) Z)
def jiC[LP]  : O Bool:=
 let d:af:=[(0,(100,100)),(1,(300,300))]
 (jfn d 0).bind λb=>let g:Y Int:=[0,1]
 (jhE d g).bind λa=>let e:Bool:=cond (cond (b.2==0) (a.2==0) Á) ((b.1.1==1)&&(b.1.2==4)) Á
 cond (cond e ((a.1.1==4)&&(a.1.2==5)) Á) (let f:Y Int:=[0,1]
 (jd8 d f).bind λi=>cond (i==200) ((jiB d).bind λc=>M ((c.1==(-1))&&((c.2.1==400)&&(c.2.2==400)))) (M Á)) (M Á)
def jo7(a:Y J):O ((Y J)×J):=M (a,0)
def j08(b:Y J)(a c:J):O (J×(Y J)×J):=
 let f:=U b.length
 cond (N (a>=f)) (M (0,b,a)) (cond (N (c<1)) (M (0,b,a)) (cond (inR a b.length) (let g:=S b a.toNat 0
 cond (!(c==0)) (let d:=Ã g c
 let e:=w64 (a+1)
 cond (N (d<0)) (let i:=w64 (d+c)
 M (i,b,e)) (M (d,b,e))) Z) Z))
def j0D(d:Y J)(b:J)(a:Y J):O (J×(Y J)×J):=
 let f:=U a.length
 (j08 d b f).bind λc=>cond (inR c.1 a.length) (let e:=S a c.1.toNat 0
 M (e,c.2.1,c.2.2)) Z
def j4h(a0:Y J)(x:J)(a:W):O (eh×(Y J)×J):=
 let a5:Y Int:=[0,4,(-20),22,48,(-47)]
 (j0D a0 x a5).bind λw=>(j08 w.2.1 w.2.2 2).bind λl=>(j08 l.2.1 l.2.2 3).bind λq=>let b4:=w64 (l.1*q.1)
 let a1:=w64 (w.1+b4)
 let c:=w64 (900*a1)
 (j08 q.2.1 q.2.2 2).bind λv=>let g:=w64 (2025+v.1)
 (j08 v.2.1 v.2.2 4).bind λb=>cond (b.1==1) (let a8:=w64 (c+3600)
 let a3:aY:=[(2025,(g,(3,(5,(6,(7200,a8)))))),(2025,(g,(10,(5,(6,(10800,c))))))]
 M ((a,(c,a3)),b.2.1,b.2.2)) (cond (b.1==2) ((j08 b.2.1 b.2.2 4).bind λj=>let b2:=w64 (1+j.1)
 (j08 j.2.1 j.2.2 7).bind λk=>(j08 k.2.1 k.2.2 24).bind λn=>let b5:=w64 (3600*n.1)
 (j08 n.2.1 n.2.2 8).bind λr=>let b7:=w64 (1+r.1)
 let b3:=w64 (1800*b7)
 let a2:=w64 (c+b3)
 (j08 r.2.1 r.2.2 2).bind λu=>let b6:=w64 (2+u.1)
 let b0:Y Int:=[2,3,5]
 (j0D u.2.1 u.2.2 b0).bind λt=>(j08 t.2.1 t.2.2 7).bind λm=>(j08 m.2.1 m.2.2 24).bind λi=>let a6:=w64 (3600*i.1)
 let b1:aY:=[(2025,(g,(1,(b2,(k.1,(b5,a2)))))),(2025,(g,(b6,(t.1,(m.1,(a6,c))))))]
 M ((a,(c,b1)),i.2.1,i.2.2)) (cond (b.1==3) (let a9:Y Int:=[3600,(-3600),82800,(-82800),43200]
 (j0D b.2.1 b.2.2 a9).bind λf=>let s:=w64 (c+f.1)
 cond (cond (N (s>64800)) Â (N (s<(-64800)))) ((j08 f.2.1 f.2.2 7).bind λp=>(j08 p.2.1 p.2.2 48).bind λo=>let a7:=w64 (1800*o.1)
 let a4:aY:=[(2026,(2026,(1,(2,(p.1,(a7,0))))))]
 M ((a,(c,a4)),o.2.1,o.2.2)) ((j08 f.2.1 f.2.2 7).bind λe=>(j08 e.2.1 e.2.2 48).bind λd=>let z:=w64 (1800*d.1)
 let y:aY:=[(2026,(2026,(1,(2,(e.1,(z,s))))))]
 M ((a,(c,y)),d.2.1,d.2.2))) (M ((a,(c,([]:aY))),b.2.1,b.2.2))))
def jiD  : O (Y W):=
 let a:Y ByteArray:=[(Ç #[97,100,97]),(Ç #[98,111,98]),(Ç #[99,108,101,111]),(Ç #[100,97,110]),(Ç #[101,118,101]),(Ç #[102,97,121]),(Ç #[103,117,115]),(Ç #[104,97,108])]
 M a
def j0Q(c:Y J)(b a:J):O (Å×(Y J)×J):=(j08 c b a).bind λd=>let e:=w64 (a-1)
 M ((d.1==e),d.2.1,d.2.2)
def j22(r p:J)(q:Y J)(g:J)(o:ai):O ((J×J×(Y J)×J×ai) ⊕ ((Y J)×J×ai)):=cond (N (p>0)) ((j08 q g 30).bind λd=>let l:=w64 (3600*d.1)
 let n:=w64 (r+l)
 (j08 d.2.1 d.2.2 2).bind λb=>let k:=w64 (60*b.1)
 let e:=w64 (n+k)
 let j:Y Int:=[3600,28800,43200,86400,61,1]
 (j0D b.2.1 b.2.2 j).bind λa=>let c:=w64 (e+a.1)
 cond (N (c>604800)) (M (.inr (a.2.1,a.2.2,o))) (let f:ai:=[(e,c)]
 cond (N (X o+X f<=aM)) (let m:ai:=o++f
 let i:=w64 (p-1)
 M (.inl (c,i,a.2.1,a.2.2,m))) Z)) (M (.inr (q,g,o)))
def JK[LP](b c:J)(d:Y J)(a:J)(e:ai):O ((Y J)×J×ai):=LP.lp (unc5 j22) (b,c,d,a,e)
theorem Yw(b c d a e):JK b c d a e=lpK (j22 b c d a e) (λh=>JK h.1 h.2.1 h.2.2.1 h.2.2.2.1 h.2.2.2.2):=bc _ _
def j31[LP](c:Y J)(a:J):O (ai×(Y J)×J):=(j08 c a 4).bind λd=>(JK 0 d.1 d.2.1 d.2.2 ([]:ai)).bind λb=>M (b.2.2,b.1,b.2.1)
def j2v(k:J)(l:Y J)(f:J)(b:ao):O ((J×(Y J)×J×ao) ⊕ ((Y J)×J×ao)):=cond (N (k>0)) (let d:Y ByteArray:=[(Ç #[104,101,114,101]),(Ç #[116,104,101,114,101])]
 let e:=U b.length
 cond (inR e d.length) (let g:=S d e.toNat À
 (j4h l f g).bind λa=>let c:ao:=[(a.1.1,(a.1.2.1,a.1.2.2))]
 cond (N (X b+X c<=aM)) (let i:ao:=b++c
 let j:=w64 (k-1)
 M (.inl (j,a.2.1,a.2.2,i))) Z) Z) (M (.inr (l,f,b)))
def JL[LP](c:J)(d:Y J)(b:J)(a:ao):O ((Y J)×J×ao):=LP.lp (unc4 j2v) (c,d,b,a)
theorem Yx(c d a b):JL c d a b=lpK (j2v c d a b) (λh=>JL h.1 h.2.1 h.2.2.1 h.2.2.2):=bc _ _
def j2w[LP](a4:J)(a5:Y J)(q:J)(g:ao)(b:aq):O ((J×(Y J)×J×ao×aq) ⊕ ((Y J)×J×ao×aq)):=cond (N (a4>0)) ((jiD).bind λo=>let n:=U b.length
 cond (inR n o.length) (let p:=S o n.toNat À
 let a1:=U g.length
 (j08 a5 q a1).bind λd=>(j0Q d.2.1 d.2.2 3).bind λc=>(j0Q c.2.1 c.2.2 2).bind λa=>cond a.1 ((j31 a.2.1 a.2.2).bind λj=>let y:Y Int:=[0,40,100,12]
 (j0D j.2.1 j.2.2 y).bind λi=>let s:=w64 (3600*i.1)
 let x:Y Int:=[0,11,24,1]
 (j0D i.2.1 i.2.2 x).bind λk=>let z:=w64 (3600*k.1)
 let m:aq:=[(p,(d.1,(j.1,(s,(z,c.1)))))]
 cond (N (X b+X m<=aM)) (let a0:aq:=b++m
 let v:=w64 (a4-1)
 M (.inl (v,k.2.1,k.2.2,g,a0))) Z) (let t:Y Int:=[0,40,100,12]
 (j0D a.2.1 a.2.2 t).bind λf=>let a3:=w64 (3600*f.1)
 let a2:Y Int:=[0,11,24,1]
 (j0D f.2.1 f.2.2 a2).bind λe=>let w:=w64 (3600*e.1)
 let l:aq:=[(p,(d.1,(([]:ai),(a3,(w,c.1)))))]
 cond (N (X b+X l<=aM)) (let r:aq:=b++l
 let u:=w64 (a4-1)
 M (.inl (u,e.2.1,e.2.2,g,r))) Z)) Z) (M (.inr (a5,q,g,b)))
def JM[LP](d:J)(e:Y J)(b:J)(c:ao)(a:aq):O ((Y J)×J×ao×aq):=LP.lp (unc5 j2w) (d,e,b,c,a)
theorem Yy(d e b c a):JM d e b c a=lpK (j2w d e b c a) (λh=>JM h.1 h.2.1 h.2.2.1 h.2.2.2.1 h.2.2.2.2):=bc _ _
def j2x(q p n:J)(o:Y J)(g:J)(m:W)(d:J)(i:ao)(e:aq)(f:ar)(c:Y J):O ((J×J×J×(Y J)×J×W×J×ao×aq×ar×(Y J)) ⊕ (J×(Y J)×J×W×J×ao×aq×ar×(Y J))):=cond (N (p>0)) ((j08 o g 6).bind λb=>let l:=w64 (1+b.1)
 let a:=w64 (n+l)
 cond (N (X c+X [a]<=aM)) (let j:Y Int:=c++[a]
 let k:=w64 (p-1)
 M (.inl (q,k,a,b.2.1,b.2.2,m,d,i,e,f,j))) Z) (M (.inr (q,o,g,m,d,i,e,f,c)))
def JN[LP](l k g:J)(j:Y J)(e:J)(i:W)(b:J)(f:ao)(c:aq)(d:ar)(a:Y J):O (J×(Y J)×J×W×J×ao×aq×ar×(Y J)):=LP.lp (u8 unc3 j2x) (l,k,g,j,e,i,b,f,c,d,a)
theorem Yz(l k g j e i b f c d a):JN l k g j e i b f c d a=lpK (j2x l k g j e i b f c d a) (λh=>JN h.1 h.2.1 h.2.2.1 h.2.2.2.1 h.2.2.2.2.1 h.2.2.2.2.2.1 h.2.2.2.2.2.2.1 h.2.2.2.2.2.2.2.1 h.2.2.2.2.2.2.2.2.1 h.2.2.2.2.2.2.2.2.2.1 h.2.2.2.2.2.2.2.2.2.2):=bc _ _
def j1L[LP](n:J)(m:Y J)(j:J)(e:ao)(f:aq)(i:ar):O ((J×(Y J)×J×ao×aq×ar) ⊕ ((Y J)×J×ao×aq×ar)):=cond (N (n>0)) (let k:=U e.length
 (j08 m j k).bind λb=>(j08 b.2.1 b.2.2 4).bind λc=>(JN n c.1 20454 c.2.1 c.2.2 (Ç #[100,97,121,115]) b.1 e f i ([]:(Y J))).bind λa=>let d:ar:=[(a.2.2.2.1,(a.2.2.2.2.1,a.2.2.2.2.2.2.2.2))]
 cond (N (X a.2.2.2.2.2.2.2.1+X d<=aM)) (let g:ar:=a.2.2.2.2.2.2.2.1++d
 let l:=w64 (a.1-1)
 M (.inl (l,a.2.1,a.2.2.1,a.2.2.2.2.2.1,a.2.2.2.2.2.2.1,g))) Z) (M (.inr (m,j,e,f,i)))
def JO[LP](f:J)(e:Y J)(c:J)(d:ao)(a:aq)(b:ar):O ((Y J)×J×ao×aq×ar):=LP.lp (unc6 j1L) (f,e,c,d,a,b)
theorem Ps(f e c d a b):JO f e c d a b=lpK (j1L f e c d a b) (λh=>JO h.1 h.2.1 h.2.2.1 h.2.2.2.1 h.2.2.2.2.1 h.2.2.2.2.2):=bc _ _
def j9L[LP](g:Y J)(e:J):O (cO×(Y J)×J):=(j08 g e 2).bind λc=>let k:=w64 (1+c.1)
 (JL k c.2.1 c.2.2 ([]:ao)).bind λi=>(j08 i.1 i.2.1 4).bind λa=>let j:=w64 (1+a.1)
 (JM j a.2.1 a.2.2 i.2.2 ([]:aq)).bind λf=>(j08 f.1 f.2.1 2).bind λd=>(JO d.1 d.2.1 d.2.2 f.2.2.1 f.2.2.2 ([]:ar)).bind λb=>M ((b.2.2.1,(b.2.2.2.1,(b.2.2.2.2,([]:au)))),b.1,b.2.1)
def j2y(z:J)(a0:Y J)(j:J)(a1:ao)(b:aq)(n:ar)(q:au)(a2:W)(k s e p i u g:J)(y:W)(t m f l r o d:J)(c:Y J):O ((J×(Y J)×J×ao×aq×ar×au×W×J×J×J×J×J×J×J×W×J×J×J×J×J×J×J×(Y J)) ⊕ ((Y J)×J×ao×aq×ar×au×W×J×J×J×J×J×J×J×W×J×J×J×J×J×J×J×(Y J))):=cond (N (z>0)) (let x:=U b.length
 (j08 a0 j x).bind λa=>cond (N (X c+X [a.1]<=aM)) (let v:Y Int:=c++[a.1]
 let w:=w64 (z-1)
 M (.inl (w,a.2.1,a.2.2,a1,b,n,q,a2,k,s,e,p,i,u,g,y,t,m,f,l,r,o,d,v))) Z) (M (.inr (a0,j,a1,b,n,q,a2,k,s,e,p,i,u,g,y,t,m,f,l,r,o,d,c)))
def FE[LP](v:J)(w:Y J)(f:J)(x:ao)(l:aq)(k:ar)(o:au)(y:W)(g q b n e t d:J)(u:W)(r j c i p m a:J)(s:Y J):O ((Y J)×J×ao×aq×ar×au×W×J×J×J×J×J×J×J×W×J×J×J×J×J×J×J×(Y J)):=LP.lp (u8 (u8 unc8) j2y) (v,w,f,x,l,k,o,y,g,q,b,n,e,t,d,u,r,j,c,i,p,m,a,s)
theorem YA(v w f x l k o y g q b n e t d u r j c i p m a s):FE v w f x l k o y g q b n e t d u r j c i p m a s=lpK (j2y v w f x l k o y g q b n e t d u r j c i p m a s) (λh=>FE h.1 h.2.1 h.2.2.1 h.2.2.2.1 h.2.2.2.2.1 h.2.2.2.2.2.1 h.2.2.2.2.2.2.1 h.2.2.2.2.2.2.2.1 h.2.2.2.2.2.2.2.2.1 h.2.2.2.2.2.2.2.2.2.1 h.2.2.2.2.2.2.2.2.2.2.1 h.2.2.2.2.2.2.2.2.2.2.2.1 h.2.2.2.2.2.2.2.2.2.2.2.2.1 h.2.2.2.2.2.2.2.2.2.2.2.2.2.1 h.2.2.2.2.2.2.2.2.2.2.2.2.2.2.1 h.2.2.2.2.2.2.2.2.2.2.2.2.2.2.2.1 h.2.2.2.2.2.2.2.2.2.2.2.2.2.2.2.2.1 h.2.2.2.2.2.2.2.2.2.2.2.2.2.2.2.2.2.1 h.2.2.2.2.2.2.2.2.2.2.2.2.2.2.2.2.2.2.1 h.2.2.2.2.2.2.2.2.2.2.2.2.2.2.2.2.2.2.2.1 h.2.2.2.2.2.2.2.2.2.2.2.2.2.2.2.2.2.2.2.2.1 h.2.2.2.2.2.2.2.2.2.2.2.2.2.2.2.2.2.2.2.2.2.1 h.2.2.2.2.2.2.2.2.2.2.2.2.2.2.2.2.2.2.2.2.2.2.1 h.2.2.2.2.2.2.2.2.2.2.2.2.2.2.2.2.2.2.2.2.2.2.2):=bc _ _
def j9M[LP](b5:Y J)(a3:J)(c:cO)(j:W):O (fq×(Y J)×J):=
 let b7:=U c.1.length
 (j08 b5 a3 b7).bind λw=>(j08 w.2.1 w.2.2 6).bind λa1=>let b6:=w64 (20454+a1.1)
 let b4:=w64 (b6-2)
 let c1:Y Int:=[0,32400,7200,9000,79200,1]
 (j0D a1.2.1 a1.2.2 c1).bind λx=>(j08 x.2.1 x.2.2 3).bind λr=>(j08 r.2.1 r.2.2 2).bind λt=>let c0:=w64 (1+t.1)
 cond (r.1==0) (let b9:Y Int:=[6,8,12,24,23,49]
 (j0D t.2.1 t.2.2 b9).bind λy=>(j08 y.2.1 y.2.2 3).bind λz=>let c3:=w64 (1+z.1)
 (FE c3 z.2.1 z.2.2 c.1 c.2.1 c.2.2.1 c.2.2.2 À 0 0 0 0 0 0 0 j w.1 b4 x.1 r.1 y.1 0 0 ([]:(Y J))).bind λb=>(j0Q b.1 b.2.1 2).bind λu=>cond u.1 ((j31 u.2.1 u.2.2).bind λv=>(j0Q v.2.1 v.2.2 4).bind λs=>let b8:=U b.2.2.2.2.1.length
 cond (cond s.1 (N (b8>0)) Á) (let c2:=U b.2.2.2.2.1.length
 (j08 s.2.1 s.2.2 c2).bind λa2=>(j08 a2.2.1 a2.2.2 2).bind λa0=>let c4:=w64 (1+a0.1)
 M ((b.2.2.2.2.2.2.2.2.2.2.2.2.2.2.1,(b.2.2.2.2.2.2.2.2.2.2.2.2.2.2.2.1,((b.2.2.2.2.2.2.2.2.2.2.2.2.2.2.2.2.1,b.2.2.2.2.2.2.2.2.2.2.2.2.2.2.2.2.2.1),(b.2.2.2.2.2.2.2.2.2.2.2.2.2.2.2.2.2.2.1,(b.2.2.2.2.2.2.2.2.2.2.2.2.2.2.2.2.2.2.2.1,(b.2.2.2.2.2.2.2.2.2.2.2.2.2.2.2.2.2.2.2.2.2.2,(v.1,(a2.1,c4)))))))),a0.2.1,a0.2.2)) (M ((b.2.2.2.2.2.2.2.2.2.2.2.2.2.2.1,(b.2.2.2.2.2.2.2.2.2.2.2.2.2.2.2.1,((b.2.2.2.2.2.2.2.2.2.2.2.2.2.2.2.2.1,b.2.2.2.2.2.2.2.2.2.2.2.2.2.2.2.2.2.1),(b.2.2.2.2.2.2.2.2.2.2.2.2.2.2.2.2.2.2.1,(b.2.2.2.2.2.2.2.2.2.2.2.2.2.2.2.2.2.2.2.1,(b.2.2.2.2.2.2.2.2.2.2.2.2.2.2.2.2.2.2.2.2.2.2,(v.1,(b.2.2.2.2.2.2.2.2.2.2.2.2.2.2.2.2.2.2.2.2.1,b.2.2.2.2.2.2.2.2.2.2.2.2.2.2.2.2.2.2.2.2.2.1)))))))),s.2.1,s.2.2))) ((j0Q u.2.1 u.2.2 4).bind λg=>let a6:=U b.2.2.2.2.1.length
 cond (cond g.1 (N (a6>0)) Á) (let a8:=U b.2.2.2.2.1.length
 (j08 g.2.1 g.2.2 a8).bind λm=>(j08 m.2.1 m.2.2 2).bind λp=>let a7:=w64 (1+p.1)
 M ((b.2.2.2.2.2.2.2.2.2.2.2.2.2.2.1,(b.2.2.2.2.2.2.2.2.2.2.2.2.2.2.2.1,((b.2.2.2.2.2.2.2.2.2.2.2.2.2.2.2.2.1,b.2.2.2.2.2.2.2.2.2.2.2.2.2.2.2.2.2.1),(b.2.2.2.2.2.2.2.2.2.2.2.2.2.2.2.2.2.2.1,(b.2.2.2.2.2.2.2.2.2.2.2.2.2.2.2.2.2.2.2.1,(b.2.2.2.2.2.2.2.2.2.2.2.2.2.2.2.2.2.2.2.2.2.2,(([]:ai),(m.1,a7)))))))),p.2.1,p.2.2)) (M ((b.2.2.2.2.2.2.2.2.2.2.2.2.2.2.1,(b.2.2.2.2.2.2.2.2.2.2.2.2.2.2.2.1,((b.2.2.2.2.2.2.2.2.2.2.2.2.2.2.2.2.1,b.2.2.2.2.2.2.2.2.2.2.2.2.2.2.2.2.2.1),(b.2.2.2.2.2.2.2.2.2.2.2.2.2.2.2.2.2.2.1,(b.2.2.2.2.2.2.2.2.2.2.2.2.2.2.2.2.2.2.2.1,(b.2.2.2.2.2.2.2.2.2.2.2.2.2.2.2.2.2.2.2.2.2.2,(([]:ai),(b.2.2.2.2.2.2.2.2.2.2.2.2.2.2.2.2.2.2.2.2.1,b.2.2.2.2.2.2.2.2.2.2.2.2.2.2.2.2.2.2.2.2.2.1)))))))),g.2.1,g.2.2)))) ((j08 t.2.1 t.2.2 3).bind λn=>let a5:=w64 (1+n.1)
 (FE a5 n.2.1 n.2.2 c.1 c.2.1 c.2.2.1 c.2.2.2 À 0 0 0 0 0 0 0 j w.1 b4 x.1 r.1 c0 0 0 ([]:(Y J))).bind λa=>(j0Q a.1 a.2.1 2).bind λf=>cond f.1 ((j31 f.2.1 f.2.2).bind λi=>(j0Q i.2.1 i.2.2 4).bind λd=>let b3:=U a.2.2.2.2.1.length
 cond (cond d.1 (N (b3>0)) Á) (let a9:=U a.2.2.2.2.1.length
 (j08 d.2.1 d.2.2 a9).bind λq=>(j08 q.2.1 q.2.2 2).bind λl=>let b1:=w64 (1+l.1)
 M ((a.2.2.2.2.2.2.2.2.2.2.2.2.2.2.1,(a.2.2.2.2.2.2.2.2.2.2.2.2.2.2.2.1,((a.2.2.2.2.2.2.2.2.2.2.2.2.2.2.2.2.1,a.2.2.2.2.2.2.2.2.2.2.2.2.2.2.2.2.2.1),(a.2.2.2.2.2.2.2.2.2.2.2.2.2.2.2.2.2.2.1,(a.2.2.2.2.2.2.2.2.2.2.2.2.2.2.2.2.2.2.2.1,(a.2.2.2.2.2.2.2.2.2.2.2.2.2.2.2.2.2.2.2.2.2.2,(i.1,(q.1,b1)))))))),l.2.1,l.2.2)) (M ((a.2.2.2.2.2.2.2.2.2.2.2.2.2.2.1,(a.2.2.2.2.2.2.2.2.2.2.2.2.2.2.2.1,((a.2.2.2.2.2.2.2.2.2.2.2.2.2.2.2.2.1,a.2.2.2.2.2.2.2.2.2.2.2.2.2.2.2.2.2.1),(a.2.2.2.2.2.2.2.2.2.2.2.2.2.2.2.2.2.2.1,(a.2.2.2.2.2.2.2.2.2.2.2.2.2.2.2.2.2.2.2.1,(a.2.2.2.2.2.2.2.2.2.2.2.2.2.2.2.2.2.2.2.2.2.2,(i.1,(a.2.2.2.2.2.2.2.2.2.2.2.2.2.2.2.2.2.2.2.2.1,a.2.2.2.2.2.2.2.2.2.2.2.2.2.2.2.2.2.2.2.2.2.1)))))))),d.2.1,d.2.2))) ((j0Q f.2.1 f.2.2 4).bind λe=>let b2:=U a.2.2.2.2.1.length
 cond (cond e.1 (N (b2>0)) Á) (let b0:=U a.2.2.2.2.1.length
 (j08 e.2.1 e.2.2 b0).bind λk=>(j08 k.2.1 k.2.2 2).bind λo=>let a4:=w64 (1+o.1)
 M ((a.2.2.2.2.2.2.2.2.2.2.2.2.2.2.1,(a.2.2.2.2.2.2.2.2.2.2.2.2.2.2.2.1,((a.2.2.2.2.2.2.2.2.2.2.2.2.2.2.2.2.1,a.2.2.2.2.2.2.2.2.2.2.2.2.2.2.2.2.2.1),(a.2.2.2.2.2.2.2.2.2.2.2.2.2.2.2.2.2.2.1,(a.2.2.2.2.2.2.2.2.2.2.2.2.2.2.2.2.2.2.2.1,(a.2.2.2.2.2.2.2.2.2.2.2.2.2.2.2.2.2.2.2.2.2.2,(([]:ai),(k.1,a4)))))))),o.2.1,o.2.2)) (M ((a.2.2.2.2.2.2.2.2.2.2.2.2.2.2.1,(a.2.2.2.2.2.2.2.2.2.2.2.2.2.2.2.1,((a.2.2.2.2.2.2.2.2.2.2.2.2.2.2.2.2.1,a.2.2.2.2.2.2.2.2.2.2.2.2.2.2.2.2.2.1),(a.2.2.2.2.2.2.2.2.2.2.2.2.2.2.2.2.2.2.1,(a.2.2.2.2.2.2.2.2.2.2.2.2.2.2.2.2.2.2.2.1,(a.2.2.2.2.2.2.2.2.2.2.2.2.2.2.2.2.2.2.2.2.2.2,(([]:ai),(a.2.2.2.2.2.2.2.2.2.2.2.2.2.2.2.2.2.2.2.2.1,a.2.2.2.2.2.2.2.2.2.2.2.2.2.2.2.2.2.2.2.2.2.1)))))))),e.2.1,e.2.2))))
def j5K(d:Y J)(b:J):O (J×(Y J)×J):=(j08 d b 576).bind λe=>let j:=w64 (3600*e.1)
 let i:=w64 (1767139200+j)
 (j0Q e.2.1 e.2.2 3).bind λc=>cond c.1 (let g:Y Int:=[(-1),1,1800,3599]
 (j0D c.2.1 c.2.2 g).bind λa=>let f:=w64 (i+a.1)
 M (f,a.2.1,a.2.2)) (M (i,c.2.1,c.2.2))
def jb7(m:Y J)(l:J)(n:cO):O (qX×(Y J)×J):=
 let k:=U n.2.1.length
 (j08 m l 3).bind λa=>(j08 a.2.1 a.2.2 k).bind λe=>(j5K e.2.1 e.2.2).bind λb=>let q:Y Int:=[3600,86400,7,259200,40000]
 (j0D b.2.1 b.2.2 q).bind λc=>let f:=w64 (b.1+c.1)
 cond (a.1==2) (cond (N (k<2)) (M ((0,(e.1,(0,(b.1,f)))),c.2.1,c.2.2)) (let o:=w64 (e.1+1)
 let r:=w64 (k-1)
 (j08 c.2.1 c.2.2 r).bind λi=>let p:=w64 (o+i.1)
 cond (!(k==0)) (let j:=Ã p k
 cond (a.1==1) ((j0Q i.2.1 i.2.2 4).bind λg=>cond g.1 (M ((a.1,((-1),(j,(b.1,f)))),g.2.1,g.2.2)) (M ((a.1,(e.1,(j,(b.1,f)))),g.2.1,g.2.2))) (M ((a.1,(e.1,(j,(b.1,f)))),i.2.1,i.2.2))) Z)) (cond (a.1==1) ((j0Q c.2.1 c.2.2 4).bind λd=>cond d.1 (M ((a.1,((-1),(0,(b.1,f)))),d.2.1,d.2.2)) (M ((a.1,(e.1,(0,(b.1,f)))),d.2.1,d.2.2))) (M ((a.1,(e.1,(0,(b.1,f)))),c.2.1,c.2.2)))
def j2c[LP](r o:J)(p:Y J)(j:J)(n:ao)(e:aq)(c:ar)(q:W)(d:au)(b:ba):O ((J×J×(Y J)×J×ao×aq×ar×W×au×ba) ⊕ (J×(Y J)×J×ao×aq×ar×W×au×ba)):=cond (N (o>0)) ((jiD).bind λg=>let f:=U b.length
 cond (inR f g.length) (let l:=S g f.toNat À
 (j9M p j (n,(e,(c,d))) l).bind λa=>let i:ba:=[(a.1.1,(a.1.2.1,((a.1.2.2.1.1,a.1.2.2.1.2),(a.1.2.2.2.1,(a.1.2.2.2.2.1,(a.1.2.2.2.2.2.1,(a.1.2.2.2.2.2.2.1,(a.1.2.2.2.2.2.2.2.1,a.1.2.2.2.2.2.2.2.2))))))))]
 cond (N (X b+X i<=aM)) (let m:ba:=b++i
 let k:=w64 (o-1)
 M (.inl (r,k,a.2.1,a.2.2,n,e,c,q,d,m))) Z) Z) (M (.inr (r,p,j,n,e,c,q,d,b)))
def FF[LP](j f:J)(g:Y J)(d:J)(k:ao)(e:aq)(a:ar)(i:W)(c:au)(b:ba):O (J×(Y J)×J×ao×aq×ar×W×au×ba):=LP.lp (u8 unc2 j2c) (j,f,g,d,k,e,a,i,c,b)
theorem YB(j f g d k e a i c b):FF j f g d k e a i c b=lpK (j2c j f g d k e a i c b) (λh=>FF h.1 h.2.1 h.2.2.1 h.2.2.2.1 h.2.2.2.2.1 h.2.2.2.2.2.1 h.2.2.2.2.2.2.1 h.2.2.2.2.2.2.2.1 h.2.2.2.2.2.2.2.2.1 h.2.2.2.2.2.2.2.2.2):=bc _ _
def j2d(p o:J)(m:Y J)(i:J)(l:ao)(e:aq)(b:ar)(n:W)(d:au)(g:ba)(c:aX):O ((J×J×(Y J)×J×ao×aq×ar×W×au×ba×aX) ⊕ (J×(Y J)×J×ao×aq×ar×W×au×ba×aX)):=cond (N (o>0)) ((jb7 m i (l,(e,(b,d)))).bind λa=>let f:aX:=[(a.1.1,(a.1.2.1,(a.1.2.2.1,(a.1.2.2.2.1,a.1.2.2.2.2))))]
 cond (N (X c+X f<=aM)) (let k:aX:=c++f
 let j:=w64 (o-1)
 M (.inl (p,j,a.2.1,a.2.2,l,e,b,n,d,g,k))) Z) (M (.inr (p,m,i,l,e,b,n,d,g,c)))
def JP[LP](k j:J)(g:Y J)(e:J)(l:ao)(f:aq)(a:ar)(i:W)(d:au)(c:ba)(b:aX):O (J×(Y J)×J×ao×aq×ar×W×au×ba×aX):=LP.lp (u8 unc3 j2d) (k,j,g,e,l,f,a,i,d,c,b)
theorem YC(k j g e l f a i d c b):JP k j g e l f a i d c b=lpK (j2d k j g e l f a i d c b) (λh=>JP h.1 h.2.1 h.2.2.1 h.2.2.2.1 h.2.2.2.2.1 h.2.2.2.2.2.1 h.2.2.2.2.2.2.1 h.2.2.2.2.2.2.2.1 h.2.2.2.2.2.2.2.2.1 h.2.2.2.2.2.2.2.2.2.1 h.2.2.2.2.2.2.2.2.2.2):=bc _ _
def j2e[LP](r:J)(q:Y J)(k:J)(s:ao)(l:aq)(j:ar)(e:au):O ((J×(Y J)×J×ao×aq×ar×au) ⊕ ((Y J)×J×ao×aq×ar×au)):=cond (N (r>0)) (let f:Y ByteArray:=[(Ç #[102,105,114,115,116]),(Ç #[115,101,99,111,110,100]),(Ç #[116,104,105,114,100])]
 let m:=U e.length
 let i:=Ã m 3
 cond (inR i f.length) (let n:=S f i.toNat À
 (j08 q k 4).bind λd=>(FF r d.1 d.2.1 d.2.2 s l j n e ([]:ba)).bind λb=>(j08 b.2.1 b.2.2.1 4).bind λc=>(JP b.1 c.1 c.2.1 c.2.2 b.2.2.2.1 b.2.2.2.2.1 b.2.2.2.2.2.1 b.2.2.2.2.2.2.1 b.2.2.2.2.2.2.2.1 b.2.2.2.2.2.2.2.2 ([]:aX)).bind λa=>let g:au:=[(a.2.2.2.2.2.2.1,(a.2.2.2.2.2.2.2.2.1,a.2.2.2.2.2.2.2.2.2))]
 cond (N (X a.2.2.2.2.2.2.2.1+X g<=aM)) (let o:au:=a.2.2.2.2.2.2.2.1++g
 let p:=w64 (a.1-1)
 M (.inl (p,a.2.1,a.2.2.1,a.2.2.2.1,a.2.2.2.2.1,a.2.2.2.2.2.1,o))) Z) Z) (M (.inr (q,k,s,l,j,e)))
def JQ[LP](f:J)(e:Y J)(c:J)(g:ao)(d:aq)(a:ar)(b:au):O ((Y J)×J×ao×aq×ar×au):=LP.lp (unc7 j2e) (f,e,c,g,d,a,b)
theorem YD(f e c g d a b):JQ f e c g d a b=lpK (j2e f e c g d a b) (λh=>JQ h.1 h.2.1 h.2.2.1 h.2.2.2.1 h.2.2.2.2.1 h.2.2.2.2.2.1 h.2.2.2.2.2.2):=bc _ _
def j92[LP](e:Y J)(d f:J):O (cO×(Y J)×J):=(j9L e d).bind λa=>(j08 a.2.1 a.2.2 f).bind λc=>let g:=w64 (1+c.1)
 (JQ g c.2.1 c.2.2 a.1.1 a.1.2.1 a.1.2.2.1 ([]:au)).bind λb=>M ((b.2.2.1,(b.2.2.2.1,(b.2.2.2.2.1,b.2.2.2.2.2))),b.1,b.2.1)
def j23(g:J)(m:Y J)(d:J)(l:bn)(i:ai):O ((J×(Y J)×J×bn×ai) ⊕ ((Y J)×J×bn)):=
 let f:=U i.length
 cond (N (g<f)) (cond (inR g i.length) (let c:=S i g.toNat (0,0)
 (j08 m d 4).bind λa=>let j:=w64 (1+a.1)
 let b:bn:=[((c.1,c.2),j)]
 cond (N (X l+X b<=aM)) (let k:bn:=l++b
 let e:=w64 (g+1)
 M (.inl (e,a.2.1,a.2.2,k,i))) Z) Z) (M (.inr (m,d,l)))
def FG[LP](b:J)(c:Y J)(a:J)(e:bn)(d:ai):O ((Y J)×J×bn):=LP.lp (unc5 j23) (b,c,a,e,d)
theorem YE(b c a e d):FG b c a e d=lpK (j23 b c a e d) (λh=>FG h.1 h.2.1 h.2.2.1 h.2.2.2.1 h.2.2.2.2):=bc _ _
def j85[LP](d:Y J)(a:J):O (bn×(Y J)×J):=(j31 d a).bind λb=>(FG 0 b.2.1 b.2.2 ([]:bn) b.1).bind λc=>M (c.2.2,c.1,c.2.1)
def j3X(f:bn)(i d:J)(g:ai):O ((bn×J×J×ai) ⊕ (ai)):=cond (N (d<i)) (cond (inR d f.length) (let a:=S f d.toNat ((0,0),0)
 let b:ai:=[(a.1.1,a.1.2)]
 cond (N (X g+X b<=aM)) (let c:ai:=g++b
 let e:=w64 (d+1)
 M (.inl (f,i,e,c))) Z) Z) (M (.inr g))
def FH[LP](b:bn)(d a:J)(c:ai):O ai:=LP.lp (unc4 j3X) (b,d,a,c)
theorem YF(c b a d):FH c b a d=lpK (j3X c b a d) (λh=>FH h.1 h.2.1 h.2.2.1 h.2.2.2):=bc _ _
def jeb[LP](a:bn):O ai:=
 let b:=U a.length
 (FH a b 0 ([]:ai)).bind λc=>M c
def j2z(j d:ai)(k b:J):O ((ai×ai×J×J) ⊕ (J ⊕ Æ)):=cond (N (b<k)) (cond (inR b d.length) (let a:=S d b.toNat (0,0)
 let f:Bool:=cond (cond (N (a.1<0)) Â (N (a.1>=a.2))) Â (N (a.2>604800))
 cond f (M (.inr (.inl 1))) (cond (N (b>0)) (let c:=w64 (b-1)
 cond (inR c j.length) (let i:=S j c.toNat (0,0)
 cond (N (a.1<i.2)) (M (.inr (.inl 6))) (let g:=w64 (b+1)
 M (.inl (j,d,k,g)))) Z) (let e:=w64 (b+1)
 M (.inl (j,d,k,e))))) Z) (M (.inr (.inr ())))
def FI[LP](b c:ai)(d a:J):O (J ⊕ Æ):=LP.lp (unc4 j2z) (b,c,d,a)
theorem JR(d b c a):FI d b c a=lpK (j2z d b c a) (λh=>FI h.1 h.2.1 h.2.2.1 h.2.2.2):=bc _ _
def j86[LP](a:ai):O Int:=
 let d:=U a.length
 cond (N (d>14)) (M 5) (let b:=U a.length
 (FI a a b 0).bind λc=>sumC c (λe=>M e) (λf=>M 0))
def jg8(a:wy):O Bool:=M (cond (N (a.2<1)) Â (N (a.2>8)))
def j0k(e:bn)(f b:J):O ((bn×J×J) ⊕ (J ⊕ Æ)):=cond (N (b<f)) (cond (inR b e.length) (let a:=S e b.toNat ((0,0),0)
 (jg8 ((a.1.1,a.1.2),a.2)).bind λd=>cond d (M (.inr (.inl b))) (let c:=w64 (b+1)
 M (.inl (e,f,c)))) Z) (M (.inr (.inr ())))
def FJ[LP](b:bn)(a c:J):O (J ⊕ Æ):=LP.lp (unc3 j0k) (b,a,c)
theorem YG(b a c):FJ b a c=lpK (j0k b a c) (λh=>FJ h.1 h.2.1 h.2.2):=bc _ _
def j1M[LP](a:bn):O Int:=
 let b:=U a.length
 (FJ a b 0).bind λc=>sumC c (λd=>M d) (λe=>M (-1))
def j1B[LP](a:bn):O Bool:=(j1M a).bind λb=>M (N (b>=0))
def jfo[LP](a:bn):O Int:=(jeb a).bind λd=>(j86 d).bind λc=>cond (c != 0) (M c) ((j1B a).bind λb=>cond b (M 1) (M 0))
def j32(b:ai)(a:J):O ((ai×J) ⊕ (J ⊕ Æ)):=
 let m:=U b.length
 cond (N (a<m)) (cond (inR a b.length) (let k:=S b a.toNat (0,0)
 cond (N (k.1<0)) (M (.inr (.inl 1))) (cond (inR a b.length) (let l:=S b a.toNat (0,0)
 cond (inR a b.length) (let f:=S b a.toNat (0,0)
 cond (N (l.1>=f.2)) (M (.inr (.inl 1))) (cond (inR a b.length) (let g:=S b a.toNat (0,0)
 cond (N (g.2>604800)) (M (.inr (.inl 1))) (cond (N (a>0)) (cond (inR a b.length) (let d:=S b a.toNat (0,0)
 let c:=w64 (a-1)
 cond (inR c b.length) (let i:=S b c.toNat (0,0)
 cond (N (d.1<i.2)) (M (.inr (.inl 6))) (let e:=w64 (a+1)
 M (.inl (b,e)))) Z) Z) (let j:=w64 (a+1)
 M (.inl (b,j))))) Z)) Z) Z)) Z) (M (.inr (.inr ())))
def CR[LP](b:ai)(a:J):O (J ⊕ Æ):=LP.lp (unc2 j32) (b,a)
theorem JS(b a):CR b a=lpK (j32 b a) (λh=>CR h.1 h.2):=bc _ _
def j3g[LP](a:ai):O Int:=
 let b:=U a.length
 cond (N (b>14)) (M 5) ((CR a 0).bind λc=>sumC c (λd=>M d) (λe=>M 0))
def j5L(d:bn)(c:J)(i:ai):O ((bn×J×ai) ⊕ (bn×ai)):=
 let g:=U d.length
 cond (cond (N (c<g)) (N (c<=14)) Á) (cond (inR c d.length) (let b:=S d c.toNat ((0,0),0)
 let a:ai:=[(b.1.1,b.1.2)]
 cond (N (X i+X a<=aM)) (let f:ai:=i++a
 let e:=w64 (c+1)
 M (.inl (d,e,f))) Z) Z) (M (.inr (d,i)))
def CS[LP](b:bn)(a:J)(c:ai):O (bn×ai):=LP.lp (unc3 j5L) (b,a,c)
theorem YH(b a c):CS b a c=lpK (j5L b a c) (λh=>CS h.1 h.2.1 h.2.2):=bc _ _
def j5M(c:bn)(b:J):O ((bn×J) ⊕ (J ⊕ Æ)):=
 let e:=U c.length
 cond (N (b<e)) (cond (inR b c.length) (let a:=S c b.toNat ((0,0),0)
 cond ((inR b c.length) || !(!(N (a.2<1)))) (let d:=S c b.toNat ((0,0),0)
 cond (cond (N (a.2<1)) Â (N (d.2>8))) (M (.inr (.inl 1))) (let f:=w64 (b+1)
 M (.inl (c,f)))) Z) Z) (M (.inr (.inr ())))
def FK[LP](b:bn)(a:J):O (J ⊕ Æ):=LP.lp (unc2 j5M) (b,a)
theorem YI(b a):FK b a=lpK (j5M b a) (λh=>FK h.1 h.2):=bc _ _
def jhH[LP](b:bn):O Int:=(CS b 0 ([]:ai)).bind λc=>(j3g c.2).bind λa=>cond (a != 0) (M a) ((FK c.1 0).bind λd=>sumC d (λe=>M e) (λf=>M 0))
def jbY(a:eh):O ByteArray:=M a.1
def jd9(a:J):O Bool:=M (cond (N (a>=97)) (N (a<=122)) Á)
def jjG(a:J):O Bool:=M (cond (N (a>=48)) (N (a<=57)) Á)
def j7j(i:W)(c b:J):O ((W×J×J) ⊕ (Å ⊕ Æ)):=cond (N (b<c)) (cond (inR b (Ä i)) (let a:=dG i b
 (jd9 a).bind λg=>cond (!g) ((jjG a).bind λd=>cond (cond (cond (!d) (a != 95) Á) (a != 45) Á) (M (.inr (.inl Á))) (let f:=w64 (b+1)
 M (.inl (i,c,f)))) (let e:=w64 (b+1)
 M (.inl (i,c,e)))) Z) (M (.inr (.inr ())))
def FL[LP](c:W)(a b:J):O (Å ⊕ Æ):=LP.lp (unc3 j7j) (c,a,b)
theorem jmL(c a b):FL c a b=lpK (j7j c a b) (λh=>FL h.1 h.2.1 h.2.2):=bc _ _
def j9w[LP](a:W):O Bool:=
 let f:=U (Ä a)
 let b:Bool:=cond (É a==É À) Â (N (f>24))
 cond ((inR 0 (Ä a)) || !(!b)) (let d:=dG a 0
 cond b (M Á) ((jd9 d).bind λe=>cond (!e) (M Á) (let c:=U (Ä a)
 (FL a c 0).bind λg=>sumC g (λi=>M i) (λj=>M Â)))) Z
def j6g[LP](b:W)(a:Y (W×Å)):O (J×(Y (W×Å))):=(j9w b).bind λd=>cond (!d) (M (2,a)) (cond (di Á a b) (M (4,a)) (let c:(Y (W×Å)):=eD a b Â
 M (0,c)))
def jbZ(a b c:J):O Bool:=M (cond (N (a>=b)) (N (a<=c)) Á)
def jhI(a:wz):O Int:=(jbZ a.1 1970 2240).bind λi=>cond (!i) (M 1) ((jbZ a.2.1 a.1 2240).bind λb=>cond (!b) (M 1) ((jbZ a.2.2.1 1 12).bind λc=>cond (!c) (M 1) ((jbZ a.2.2.2.1 1 5).bind λf=>cond (!f) (M 1) ((jbZ a.2.2.2.2.1 0 6).bind λe=>cond (!e) (M 1) ((jbZ a.2.2.2.2.2.1 0 86399).bind λg=>cond (!g) (M 1) ((jbZ a.2.2.2.2.2.2 (-64800) 64800).bind λd=>cond (!d) (M 1) (M 0)))))))
def jlS(a:J):O Bool:=
 let d:=Ã a 4
 let c:=Ã a 100
 let b:=Ã a 400
 M (cond (d==0) (cond (c != 0) Â (b==0)) Á)
def j87(c a:J):O Int:=cond (cond (N (a<1)) Â (N (a>12))) (M 0) (let e:Y Int:=[31,28,31,30,31,30,31,31,30,31,30,31]
 let j:Y Int:=Ë 12 0
 cond (a==2) ((jlS c).bind λi=>cond i (M 29) (let f:=w64 (a-1)
 cond (inR f 12) (let g:=S e f.toNat 0
 M g) Z)) (let b:=w64 (a-1)
 cond (inR b 12) (let d:=S e b.toNat 0
 M d) Z))
def jda(a:od):O Bool:=cond (N (a.1>=1970)) (cond (N (a.1<=2240)) (cond (N (a.2.2>=1)) ((j87 a.1 a.2.1).bind λb=>M (N (a.2.2<=b))) (M Á)) (M Á)) (M Á)
def j9c(b a:J):O Int:=cond (!(a==0)) (let e:=w64 (È b a)
 cond (!(a==0)) (let d:=Ã b a
 cond (N (d<0)) (let c:=w64 (e-1)
 M c) (M e)) Z) Z
def j5o(a:J):O Int:=
 let b:=w64 (a-1)
 let k:=w64 (a-1970)
 let l:=w64 (365*k)
 (j9c b 4).bind λc=>let f:=w64 (l+c)
 (j9c b 100).bind λj=>let g:=w64 (f-j)
 (j9c b 400).bind λi=>let e:=w64 (g+i)
 let d:=w64 (e-477)
 M d
def j3Y(g e i a f:J):O ((J×J×J×J×J) ⊕ (J)):=cond (N (e<a)) ((j87 i e).bind λc=>let b:=w64 (g+c)
 let d:=w64 (e+1)
 M (.inl (b,d,i,a,f))) (M (.inr g))
def JT[LP](c e d b a:J):O Int:=LP.lp (unc5 j3Y) (c,e,d,b,a)
theorem YJ(c e d b a):JT c e d b a=lpK (j3Y c e d b a) (λh=>JT h.1 h.2.1 h.2.2.1 h.2.2.2.1 h.2.2.2.2):=bc _ _
def jed[LP](a:od):O Int:=(j5o a.1).bind λe=>let b:=w64 (e+a.2.2)
 let c:=w64 (b-1)
 (JT c 1 a.1 a.2.1 a.2.2).bind λd=>M d
def j6m(a:J):O Int:=
 let b:=Ã a 7
 let d:=w64 (b+10)
 let c:=Ã d 7
 M c
def jkI[LP](c b d a:J):O (J×J):=(jda (c,(b,1))).bind λp=>let g:Bool:=cond (cond (!p) Â (N (d<1))) Â (N (d>5))
 let o:Bool:=cond (cond g Â (N (a<0))) Â (N (a>6))
 cond o (M (0,1)) ((jed (c,(b,1))).bind λf=>(j6m f).bind λl=>let k:=w64 (a-l)
 let m:=w64 (k+7)
 let q:=Ã m 7
 let n:=w64 (f+q)
 let t:=w64 (d-1)
 let i:=w64 (7*t)
 let e:=w64 (n+i)
 (j87 c b).bind λj=>let r:=w64 (f+j)
 cond (N (e>=r)) (let s:=w64 (e-7)
 M (s,0)) (M (e,0)))
def j9d(a b:J×J):O Int:=
 let c:=w64 (a.1-b.1)
 M c
def j0d(o q p b:J)(a:ai):O ((J×J×J×J×ai) ⊕ (J×J×J×ai)):=cond (N (b>o)) (cond (inR b a.length) (let f:=S a b.toNat (0,0)
 let k:=w64 (b-1)
 cond (inR k a.length) (let j:=S a k.toNat (0,0)
 (j9d (f.1,f.2) (j.1,j.2)).bind λm=>cond (N (m<0)) (let i:=w64 (b-1)
 let c:=w64 (b-1)
 cond (inR c a.length) (let g:=S a c.toNat (0,0)
 cond (inR b a.length) (let d:=S a b.toNat (0,0)
 cond (inR b a.length) (let e:ai:=Ê a b.toNat (g.1,g.2)
 cond (inR i e.length) (let n:ai:=Ê e i.toNat (d.1,d.2)
 let l:=w64 (b-1)
 M (.inl (o,q,p,l,n))) Z) Z) Z) Z) (M (.inr (o,q,p,a)))) Z) Z) (M (.inr (o,q,p,a)))
def JU[LP](e b a d:J)(c:ai):O (J×J×J×ai):=LP.lp (unc5 j0d) (e,b,a,d,c)
theorem YK(e b a d c):JU e b a d c=lpK (j0d e b a d c) (λh=>JU h.1 h.2.1 h.2.2.1 h.2.2.2.1 h.2.2.2.2):=bc _ _
def j0e[LP](f d c:J)(e:ai):O ((J×J×J×ai) ⊕ (ai)):=cond (N (c<d)) ((JU f d c c e).bind λa=>let b:=w64 (a.2.2.1+1)
 M (.inl (a.1,a.2.1,b,a.2.2.2))) (M (.inr e))
def JV[LP](b c d:J)(a:ai):O ai:=LP.lp (unc4 j0e) (b,c,d,a)
theorem Pt(d b a c):JV d b a c=lpK (j0e d b a c) (λh=>JV h.1 h.2.1 h.2.2.1 h.2.2.2):=bc _ _
def j0q[LP](a:ai)(b c:J):O ai:=
 let d:=w64 (b+1)
 (JV b c d a).bind λe=>M e
def j0E[LP](d e g a:J)(f:ai):O ((J×J×J×J×ai) ⊕ (J×J×J×ai)):=cond (N (a<=d)) ((j0q f g a).bind λb=>let c:=w64 (a+e)
 M (.inl (d,e,a,c,b))) (M (.inr (d,e,g,f)))
def JW[LP](d e c a:J)(b:ai):O (J×J×J×ai):=LP.lp (unc5 j0E) (d,e,c,a,b)
theorem j6A(d e c a b):JW d e c a b=lpK (j0E d e c a b) (λh=>JW h.1 h.2.1 h.2.2.1 h.2.2.2.1 h.2.2.2.2):=bc _ _
def j2s(b c a e:J)(f:ai):O ((J×J×J×J×ai) ⊕ (J×J×J×ai)):=cond (N (e<=b)) (let d:=w64 (a+c)
 Z) (M (.inr (b,c,a,f)))
def j7x[LP](d e c a:J)(b:ai):O (J×J×J×ai):=LP.lp (unc5 j2s) (d,e,c,a,b)
def j0F[LP](g e:J)(f:ai):O ((J×J×ai) ⊕ (ai)):=cond (N (e<g)) (let b:=w64 (2*e)
 (j7x g e 0 b f).bind λa=>let d:=w64 (a.2.2.1+a.2.1)
 cond (N (d<a.1)) (Z) (let c:=w64 (a.2.1*2)
 M (.inl (a.1,c,a.2.2.2)))) (M (.inr f))
def JX[LP](b c:J)(a:ai):O ai:=LP.lp (unc3 j0F) (b,c,a)
theorem j6B(b c a):JX b c a=lpK (j0F b c a) (λh=>JX h.1 h.2.1 h.2.2):=bc _ _
def j24[LP](a:ai)(c:J):O ai:=(JW c 20 0 20 a).bind λb=>(j0q b.2.2.2 b.2.2.1 b.1).bind λd=>(JX b.1 b.2.1 d).bind λe=>M e
def j0o[LP](a:ai):O ai:=
 let b:=U a.length
 (j24 a b).bind λc=>M c
def j2f(n:J)(f:aY)(l b:J)(m:W)(e:J)(d:aY):O ((J×aY×J×J×W×J×aY) ⊕ (J ⊕ (J×W×J×aY))):=cond (N (b<l)) (cond (inR b f.length) (let a:=S f b.toNat (0,(0,(0,(0,(0,(0,0))))))
 (jhI (a.1,(a.2.1,(a.2.2.1,(a.2.2.2.1,(a.2.2.2.2.1,(a.2.2.2.2.2.1,a.2.2.2.2.2.2))))))).bind λc=>cond (c != 0) (M (.inr (.inl c))) (let g:=w64 (a.2.1-a.1)
 let k:=w64 (g+1)
 let j:=w64 (n+k)
 let i:=w64 (b+1)
 M (.inl (j,f,l,i,m,e,d)))) Z) (M (.inr (.inr (n,m,e,d))))
def FM[LP](g:J)(e:aY)(d c:J)(f:W)(b:J)(a:aY):O (J ⊕ (J×W×J×aY)):=LP.lp (unc7 j2f) (g,e,d,c,f,b,a)
theorem YL(g e d c f b a):FM g e d c f b a=lpK (j2f g e d c f b a) (λh=>FM h.1 h.2.1 h.2.2.1 h.2.2.2.1 h.2.2.2.2.1 h.2.2.2.2.2.1 h.2.2.2.2.2.2):=bc _ _
def j2g[LP](i:J)(q:aY)(p o s g e a b d c:J)(r:ai):O ((J×aY×J×J×J×J×J×J×J×J×J×ai) ⊕ (aY×J×J×ai)):=cond (N (i<=g)) ((jkI i e a b).bind λk=>let m:=w64 (k.1*86400)
 let j:=w64 (m+d)
 let f:ai:=[(j,c)]
 cond (N (X r+X f<=aM)) (let l:ai:=r++f
 let n:=w64 (i+1)
 M (.inl (n,q,p,o,s,g,e,a,b,d,c,l))) Z) (M (.inr (q,p,o,r)))
def JY[LP](g:J)(l:aY)(k j i f e a b d c:J)(m:ai):O (aY×J×J×ai):=LP.lp (u8 unc4 j2g) (g,l,k,j,i,f,e,a,b,d,c,m)
theorem YM(g l k j i f e a b d c m):JY g l k j i f e a b d c m=lpK (j2g g l k j i f e a b d c m) (λh=>JY h.1 h.2.1 h.2.2.1 h.2.2.2.1 h.2.2.2.2.1 h.2.2.2.2.2.1 h.2.2.2.2.2.2.1 h.2.2.2.2.2.2.2.1 h.2.2.2.2.2.2.2.2.1 h.2.2.2.2.2.2.2.2.2.1 h.2.2.2.2.2.2.2.2.2.2.1 h.2.2.2.2.2.2.2.2.2.2.2):=bc _ _
def j2h[LP](d:aY)(f c:J)(g:ai):O ((aY×J×J×ai) ⊕ (ai)):=cond (N (c<f)) (cond (inR c d.length) (let a:=S d c.toNat (0,(0,(0,(0,(0,(0,0))))))
 (JY a.1 d f c a.1 a.2.1 a.2.2.1 a.2.2.2.1 a.2.2.2.2.1 a.2.2.2.2.2.1 a.2.2.2.2.2.2 g).bind λb=>let e:=w64 (b.2.2.1+1)
 M (.inl (b.1,b.2.1,e,b.2.2.2))) Z) (M (.inr g))
def FN[LP](c:aY)(b a:J)(d:ai):O ai:=LP.lp (unc4 j2h) (c,b,a,d)
theorem YN(c b a d):FN c b a d=lpK (j2h c b a d) (λh=>FN h.1 h.2.1 h.2.2.1 h.2.2.2):=bc _ _
def j94[LP](a:eh):O (ai×J):=(jbZ a.2.1 (-64800) 64800).bind λc=>cond (!c) (M (([]:ai),1)) (let d:=U a.2.2.length
 cond (N (d>16)) (M (([]:ai),5)) (let f:=U a.2.2.length
 (FM 0 a.2.2 f 0 a.1 a.2.1 a.2.2).bind λi=>sumC i (λk=>M (([]:ai),k)) (λj=>cond (N (j.1>640)) (M (([]:ai),5)) (let e:=U j.2.2.2.length
 (FN j.2.2.2 e 0 ([]:ai)).bind λg=>(j0o g).bind λb=>M (b,0)))))
def j2i(v m d:J)(b k:ai):O ((J×J×J×ai×ai) ⊕ (J ⊕ ai)):=cond (N (d<m)) (cond (inR d k.length) (let a:=S k d.toNat (0,0)
 cond (a.2==v) (let t:=w64 (d+1)
 M (.inl (v,m,t,b,k))) (let c:=w64 (a.1-v)
 let f:=w64 (a.2-v)
 cond (cond (N (f>=86400)) Â (N (f<=(-86400)))) (let o:=U b.length
 let w:=U b.length
 let e:=w64 (w-1)
 cond ((inR e b.length) || !((!Â)&&(N (o>0)))) (let p:=(S b e.toNat (0,0)).1
 let x:=w64 (p+604800)
 M (.inr (.inl 6))) Z) ((jbZ c 0 8589934592).bind λj=>let g:=U b.length
 let r:=U b.length
 let l:=w64 (r-1)
 cond ((inR l b.length) || !((!(!j))&&(N (g>0)))) (let u:=(S b l.toNat (0,0)).1
 let n:=w64 (u+604800)
 cond (cond (!j) Â (cond (N (g>0)) (N (c<n)) Á)) (M (.inr (.inl 6))) (let i:ai:=[(c,a.2)]
 cond (N (X b+X i<=aM)) (let s:ai:=b++i
 let q:=w64 (d+1)
 M (.inl (a.2,m,q,s,k))) Z)) Z))) Z) (M (.inr (.inr b)))
def FO[LP](e c a:J)(d b:ai):O (J ⊕ ai):=LP.lp (unc5 j2i) (e,c,a,d,b)
theorem YO(e c a d b):FO e c a d b=lpK (j2i e c a d b) (λh=>FO h.1 h.2.1 h.2.2.1 h.2.2.2.1 h.2.2.2.2):=bc _ _
def j3O[LP](a:eh):O (ai×J):=(j94 (a.1,(a.2.1,a.2.2))).bind λb=>cond (b.2 != 0) (M (([]:ai),b.2)) (let c:=U b.1.length
 (FO a.2.1 c 0 ([]:ai) b.1).bind λd=>sumC d (λe=>M (([]:ai),e)) (λf=>M (f,0)))
def jfp[LP](a:eh):O Int:=(j3O (a.1,(a.2.1,a.2.2))).bind λb=>M b.2
def j8p(a:wz):O Bool:=
 let b:=Ã a.2.2.2.2.2.2 60
 M (b != 0)
def j0h(e:aY)(f b:J):O ((aY×J×J) ⊕ (J ⊕ Æ)):=cond (N (b<f)) (cond (inR b e.length) (let a:=S e b.toNat (0,(0,(0,(0,(0,(0,0))))))
 (j8p (a.1,(a.2.1,(a.2.2.1,(a.2.2.2.1,(a.2.2.2.2.1,(a.2.2.2.2.2.1,a.2.2.2.2.2.2))))))).bind λd=>cond d (M (.inr (.inl b))) (let c:=w64 (b+1)
 M (.inl (e,f,c)))) Z) (M (.inr (.inr ())))
def JZ[LP](b:aY)(a c:J):O (J ⊕ Æ):=LP.lp (unc3 j0h) (b,a,c)
theorem YP(b a c):JZ b a c=lpK (j0h b a c) (λh=>JZ h.1 h.2.1 h.2.2):=bc _ _
def j1t[LP](a:aY):O Int:=
 let b:=U a.length
 (JZ a b 0).bind λc=>sumC c (λd=>M d) (λe=>M (-1))
def j1c[LP](a:aY):O Bool:=(j1t a).bind λb=>M (N (b>=0))
def j5N[LP](a:eh):O Int:=(jfp (a.1,(a.2.1,a.2.2))).bind λd=>let c:=Ã a.2.1 60
 cond (cond (d != 0) Â (c != 0)) (M 8) ((j1c a.2.2).bind λb=>cond b (M 8) (M 0))
def j1i[LP](e:ao)(i c:J)(j:Y (W×Å)):O ((ao×J×J×(Y (W×Å))) ⊕ (J ⊕ Æ)):=cond (N (c<i)) (cond (inR c e.length) (let a:=S e c.toNat (À,(0,([]:aY)))
 (jbY (a.1,(a.2.1,a.2.2))).bind λf=>(j6g f j).bind λb=>cond (b.1 != 0) (M (.inr (.inl b.1))) ((j5N (a.1,(a.2.1,a.2.2))).bind λd=>cond (d != 0) (M (.inr (.inl d))) (let g:=w64 (c+1)
 M (.inl (e,i,g,b.2))))) Z) (M (.inr (.inr ())))
def FP[LP](a:ao)(b c:J)(d:Y (W×Å)):O (J ⊕ Æ):=LP.lp (unc4 j1i) (a,b,c,d)
theorem YQ(a:ao)(c b:J)(d:Y (W×Å)):FP a c b d=lpK (j1i a c b d) (λh=>FP h.1 h.2.1 h.2.2.1 h.2.2.2):=bc _ _
def j4F[LP](a:ao):O Int:=
 let c:(Y (W×Å)):=[]
 let b:=U a.length
 (FP a b 0 c).bind λd=>sumC d (λe=>M e) (λf=>M 0)
def j1N(a b:J):O Bool:=M (cond (N (a>=0)) (N (a<b)) Á)
def j88(a b c:J):O Bool:=M (cond (N (a>=b)) (N (a<=c)) Á)
def j4T(a:J):O Bool:=(j88 a 0 604800).bind λc=>let b:=Ã a 3600
 M (cond c (b==0) Á)
def j33[LP](b:cO)(a:Fz):O Int:=
 let c:=U b.1.length
 (j1N a.2.1 c).bind λg=>cond (!g) (M 3) ((j86 a.2.2.1).bind λd=>cond (d != 0) (M 8) ((j4T a.2.2.2.1).bind λe=>cond (!e) (M 1) ((j4T a.2.2.2.2.1).bind λf=>cond (!f) (M 1) (M 0))))
def jc0(a:tG):O ByteArray:=M a.1
def jee(e b:J):O ((J×J) ⊕ (J)):=
 let c:=w64 (b+1)
 (j5o c).bind λd=>cond (N (d<=e)) (let a:=w64 (b+1)
 M (.inl (e,a))) (M (.inr b))
def jr9[LP](b a:J):O Int:=LP.lp (unc2 jee) (b,a)
def jqb[LP](a:J):O Int:=(j9c a 366).bind λb=>let c:=w64 (1970+b)
 (jr9 a c).bind λd=>M d
def jcp(k l d c g a b:J):O ((J×J×J×J×J×J×J) ⊕ (J×J×J×J×J×J×J)):=(j87 g a).bind λj=>cond (N (k>=j)) ((j87 g a).bind λi=>let f:=w64 (k-i)
 let e:=w64 (a+1)
 M (.inl (f,l,d,c,g,e,b))) (M (.inr (k,l,d,c,g,a,b)))
def jo8[LP](e g d b f c a:J):O (J×J×J×J×J×J×J):=LP.lp (unc7 jcp) (e,g,d,b,f,c,a)
def j9x[LP](a:J):O (od×J):=(j5o 1970).bind λi=>cond (N (a<i)) (M ((0,(0,0)),1)) ((j5o 2241).bind λg=>cond (N (a>=g)) (M ((0,(0,0)),1)) ((jqb a).bind λb=>(j5o b).bind λe=>let f:=w64 (a-e)
 (jo8 f 0 0 0 b 1 0).bind λc=>let d:=w64 (c.1+1)
 M ((c.2.2.2.2.1,(c.2.2.2.2.2.1,d)),0)))
def j0W[LP](a:J):O Bool:=(j9x a).bind λb=>M (b.2==0)
def j5O[LP](a:J):O Bool:=(j0W a).bind λb=>M (!b)
def j18[LP](e:Y J)(f a:J):O (((Y J)×J×J) ⊕ (J ⊕ Æ)):=cond (N (a<f)) (cond (inR a e.length) (let d:=S e a.toNat 0
 (j5O d).bind λc=>cond c (M (.inr (.inl a))) (let b:=w64 (a+1)
 M (.inl (e,f,b)))) Z) (M (.inr (.inr ())))
def J1[LP](b:Y J)(a c:J):O (J ⊕ Æ):=LP.lp (unc3 j18) (b,a,c)
theorem YR(b a c):J1 b a c=lpK (j18 b a c) (λh=>J1 h.1 h.2.1 h.2.2):=bc _ _
def j5P[LP](a:Y J):O Int:=
 let b:=U a.length
 (J1 a b 0).bind λc=>sumC c (λd=>M d) (λe=>M (-1))
def j4r[LP](a:Y J):O Bool:=(j5P a).bind λb=>M (N (b>=0))
def j1u(d b:J)(k:W)(e:J)(a:Y J):O ((J×J×W×J×(Y J)) ⊕ (J ⊕ Æ)):=cond (N (b<d)) (cond (N (b>0)) (cond (inR b a.length) (let i:=S a b.toNat 0
 let c:=w64 (b-1)
 cond (inR c a.length) (let j:=S a c.toNat 0
 cond (N (i<=j)) (M (.inr (.inl 6))) (let g:=w64 (b+1)
 M (.inl (d,g,k,e,a)))) Z) Z) (let f:=w64 (b+1)
 M (.inl (d,f,k,e,a)))) (M (.inr (.inr ())))
def J2[LP](d c:J)(e:W)(a:J)(b:Y J):O (J ⊕ Æ):=LP.lp (unc5 j1u) (d,c,e,a,b)
theorem YS(d c e a b):J2 d c e a b=lpK (j1u d c e a b) (λh=>J2 h.1 h.2.1 h.2.2.1 h.2.2.2.1 h.2.2.2.2):=bc _ _
def j3h[LP](b:cO)(a:tG):O Int:=
 let e:=U b.1.length
 (j1N a.2.1 e).bind λf=>cond (!f) (M 3) (let d:=U a.2.2.length
 cond (N (d>64)) (M 5) ((j4r a.2.2).bind λc=>cond c (M 1) (let g:=U a.2.2.length
 (J2 g 0 a.1 a.2.1 a.2.2).bind λi=>sumC i (λj=>M j) (λk=>M 0))))
def jc1[LP](a:tG)(e:ao)(b:aq)(d:ar)(c:au):O Int:=(j3h (e,(b,(d,c))) (a.1,(a.2.1,a.2.2))).bind λf=>M f
def j0R[LP](m:ao)(i:aq)(g:ar)(e:au)(f:ar)(l c:J)(n:Y (W×Å)):O ((ao×aq×ar×au×ar×J×J×(Y (W×Å))) ⊕ (J ⊕ Æ)):=cond (N (c<l)) (cond (inR c f.length) (let a:=S f c.toNat (À,(0,([]:(Y J))))
 (jc0 (a.1,(a.2.1,a.2.2))).bind λj=>(j6g j n).bind λb=>cond (b.1 != 0) (M (.inr (.inl b.1))) ((jc1 (a.1,(a.2.1,a.2.2)) m i g e).bind λd=>cond (d != 0) (M (.inr (.inl d))) (let k:=w64 (c+1)
 M (.inl (m,i,g,e,f,l,k,b.2))))) Z) (M (.inr (.inr ())))
def FQ[LP](i:ao)(c:aq)(b:ar)(a:au)(d:ar)(f e:J)(g:Y (W×Å)):O (J ⊕ Æ):=LP.lp (unc8 j0R) (i,c,b,a,d,f,e,g)
theorem YT(i:ao)(c:aq)(b:ar)(a:au)(d:ar)(f e:J)(g:Y (W×Å)):FQ i c b a d f e g=lpK (j0R i c b a d f e g) (λh=>FQ h.1 h.2.1 h.2.2.1 h.2.2.2.1 h.2.2.2.2.1 h.2.2.2.2.2.1 h.2.2.2.2.2.2.1 h.2.2.2.2.2.2.2):=bc _ _
def j2S[LP](e:ar)(d:ao)(c:aq)(a:ar)(b:au):O Int:=
 let g:(Y (W×Å)):=[]
 let f:=U e.length
 (FQ d c a b e f 0 g).bind λi=>sumC i (λj=>M j) (λk=>M 0)
def jc2(a:mA):O ByteArray:=M a.1
def j5Q(a:fq):O ByteArray:=M a.1
def j7z(b:J)(g:ao)(a:aq)(d:ar)(c:au):O Bool:=
 let e:=U a.length
 (j1N b e).bind λf=>M (!f)
def j0K(i:Y J)(j:ao)(b:aq)(d:ar)(c:au)(k a:J):O (((Y J)×ao×aq×ar×au×J×J) ⊕ (J ⊕ Æ)):=cond (N (a<k)) (cond (inR a i.length) (let g:=S i a.toNat 0
 (j7z g j b d c).bind λf=>cond f (M (.inr (.inl a))) (let e:=w64 (a+1)
 M (.inl (i,j,b,d,c,k,e)))) Z) (M (.inr (.inr ())))
def J3[LP](g:Y J)(e:ao)(a:aq)(c:ar)(b:au)(f d:J):O (J ⊕ Æ):=LP.lp (unc7 j0K) (g,e,a,c,b,f,d)
theorem YU(g e a c b f d):J3 g e a c b f d=lpK (j0K g e a c b f d) (λh=>J3 h.1 h.2.1 h.2.2.1 h.2.2.2.1 h.2.2.2.2.1 h.2.2.2.2.2.1 h.2.2.2.2.2.2):=bc _ _
def j4s[LP](b:Y J)(e:ao)(a:aq)(c:ar)(d:au):O Int:=
 let f:=U b.length
 (J3 b e a c d f 0).bind λg=>sumC g (λi=>M i) (λj=>M (-1))
def j3i[LP](e:Y J)(d:ao)(a:aq)(b:ar)(c:au):O Bool:=(j4s e d a b c).bind λf=>M (N (f>=0))
def j4V[LP](b:cO)(a:fq):O Int:=
 let f:=U b.1.length
 (j1N a.2.1 f).bind λo=>cond (!o) (M 3) (cond (N (a.2.2.1.1<1)) (M 1) ((j0W a.2.2.1.1).bind λd=>cond (!d) (M 1) ((j88 a.2.2.1.2 0 86399).bind λp=>cond (!p) (M 1) ((j88 a.2.2.2.1 0 2).bind λl=>cond (!l) (M 1) ((j88 a.2.2.2.2.1 1 400).bind λg=>cond (!g) (M 1) (let j:=U a.2.2.2.2.2.1.length
 cond (j==0) (M 7) (let m:=U a.2.2.2.2.2.1.length
 cond (N (m>12)) (M 5) ((j3i a.2.2.2.2.2.1 b.1 b.2.1 b.2.2.1 b.2.2.2).bind λk=>cond k (M 3) ((j86 a.2.2.2.2.2.2.1).bind λc=>cond (c != 0) (M 8) ((j88 a.2.2.2.2.2.2.2.2 0 2).bind λe=>cond (!e) (M 1) (let i:=U b.2.2.1.length
 cond (a.2.2.2.2.2.2.2.2 != 0) ((j1N a.2.2.2.2.2.2.2.1 i).bind λn=>cond (!n) (M 3) (cond (cond (a.2.2.2.2.2.2.2.2==0) (a.2.2.2.2.2.2.2.1 != 0) Á) (M 1) (M 0))) (cond (cond (a.2.2.2.2.2.2.2.2==0) (a.2.2.2.2.2.2.2.1 != 0) Á) (M 1) (M 0)))))))))))))
def j5R[LP](a:fq)(e:ao)(b:aq)(d:ar)(c:au):O Int:=(j4V (e,(b,(d,c))) (a.1,(a.2.1,((a.2.2.1.1,a.2.2.1.2),(a.2.2.2.1,(a.2.2.2.2.1,(a.2.2.2.2.2.1,(a.2.2.2.2.2.2.1,(a.2.2.2.2.2.2.2.1,a.2.2.2.2.2.2.2.2))))))))).bind λf=>M f
def j1d[LP](m:ao)(i:aq)(g:ar)(e:au)(f:ba)(l c:J)(n:Y (W×Å)):O ((ao×aq×ar×au×ba×J×J×(Y (W×Å))) ⊕ (J ⊕ Æ)):=cond (N (c<l)) (cond (inR c f.length) (let a:=S f c.toNat (À,(0,((0,0),(0,(0,(([]:(Y J)),(([]:ai),(0,0))))))))
 (j5Q (a.1,(a.2.1,((a.2.2.1.1,a.2.2.1.2),(a.2.2.2.1,(a.2.2.2.2.1,(a.2.2.2.2.2.1,(a.2.2.2.2.2.2.1,(a.2.2.2.2.2.2.2.1,a.2.2.2.2.2.2.2.2))))))))).bind λj=>(j6g j n).bind λb=>cond (b.1 != 0) (M (.inr (.inl b.1))) ((j5R (a.1,(a.2.1,((a.2.2.1.1,a.2.2.1.2),(a.2.2.2.1,(a.2.2.2.2.1,(a.2.2.2.2.2.1,(a.2.2.2.2.2.2.1,(a.2.2.2.2.2.2.2.1,a.2.2.2.2.2.2.2.2)))))))) m i g e).bind λd=>cond (d != 0) (M (.inr (.inl d))) (let k:=w64 (c+1)
 M (.inl (m,i,g,e,f,l,k,b.2))))) Z) (M (.inr (.inr ())))
def FT[LP](i:ao)(c:aq)(b:ar)(a:au)(d:ba)(f e:J)(g:Y (W×Å)):O (J ⊕ Æ):=LP.lp (unc8 j1d) (i,c,b,a,d,f,e,g)
theorem YV(i:ao)(c:aq)(b:ar)(a:au)(d:ba)(f e:J)(g:Y (W×Å)):FT i c b a d f e g=lpK (j1d i c b a d f e g) (λh=>FT h.1 h.2.1 h.2.2.1 h.2.2.2.1 h.2.2.2.2.1 h.2.2.2.2.2.1 h.2.2.2.2.2.2.1 h.2.2.2.2.2.2.2):=bc _ _
def j4a[LP](e:ba)(d:ao)(c:aq)(a:ar)(b:au):O Int:=
 let g:(Y (W×Å)):=[]
 let f:=U e.length
 (FT d c a b e f 0 g).bind λi=>sumC i (λj=>M j) (λk=>M 0)
def j5S[LP](g:cO)(a:qX):O Int:=
 let m:=U g.2.1.length
 (j88 a.1 0 2).bind λi=>cond (!i) (M 1) ((j1N a.2.1 m).bind λf=>cond (cond (!f) (!(cond (a.1==1) (a.2.1==(-1)) Á)) Á) (cond (cond (!f) (!(cond (a.1==1) (a.2.1==(-1)) Á)) Á) (M 3) (cond (cond (a.1 != 2) (a.2.2.1 != 0) Á) (M 1) (cond (cond (a.1==2) (a.2.1==a.2.2.1) Á) (M 4) (let k:=w64 (È a.2.2.2.2 86400)
 cond (cond (N (a.2.2.2.1<0)) Â (N (a.2.2.2.2<0))) (M 1) ((j0W k).bind λj=>cond (!j) (M 1) (cond (N (a.2.2.2.1>=a.2.2.2.2)) (M 6) (M 0))))))) (cond (a.1==2) ((j1N a.2.2.1 m).bind λl=>cond (!l) (M 3) (cond (cond (a.1 != 2) (a.2.2.1 != 0) Á) (M 1) (cond (cond (a.1==2) (a.2.1==a.2.2.1) Á) (M 4) (let c:=w64 (È a.2.2.2.2 86400)
 cond (cond (N (a.2.2.2.1<0)) Â (N (a.2.2.2.2<0))) (M 1) ((j0W c).bind λe=>cond (!e) (M 1) (cond (N (a.2.2.2.1>=a.2.2.2.2)) (M 6) (M 0))))))) (cond (cond (a.1 != 2) (a.2.2.1 != 0) Á) (M 1) (cond (cond (a.1==2) (a.2.1==a.2.2.1) Á) (M 4) (let b:=w64 (È a.2.2.2.2 86400)
 cond (cond (N (a.2.2.2.1<0)) Â (N (a.2.2.2.2<0))) (M 1) ((j0W b).bind λd=>cond (!d) (M 1) (cond (N (a.2.2.2.1>=a.2.2.2.2)) (M 6) (M 0))))))))
def j1w[LP](g:aX)(j b:J)(k:ao)(e:aq)(d:ar)(f:au):O ((aX×J×J×ao×aq×ar×au) ⊕ (J ⊕ Æ)):=cond (N (b<j)) (cond (inR b g.length) (let a:=S g b.toNat (0,(0,(0,(0,0))))
 (j5S (k,(e,(d,f))) (a.1,(a.2.1,(a.2.2.1,(a.2.2.2.1,a.2.2.2.2))))).bind λc=>cond (c != 0) (M (.inr (.inl c))) (let i:=w64 (b+1)
 M (.inl (g,j,i,k,e,d,f)))) Z) (M (.inr (.inr ())))
def J4[LP](f:aX)(d e:J)(g:ao)(b:aq)(a:ar)(c:au):O (J ⊕ Æ):=LP.lp (unc7 j1w) (f,d,e,g,b,a,c)
theorem YW(f d e g b a c):J4 f d e g b a c=lpK (j1w f d e g b a c) (λh=>J4 h.1 h.2.1 h.2.2.1 h.2.2.2.1 h.2.2.2.2.1 h.2.2.2.2.2.1 h.2.2.2.2.2.2):=bc _ _
def j3j[LP](a:cO)(b:mA):O Int:=
 let d:=U b.2.1.length
 let e:=U b.2.2.length
 cond (cond (N (d>6)) Â (N (e>48))) (M 5) ((j4a b.2.1 a.1 a.2.1 a.2.2.1 a.2.2.2).bind λc=>cond (c != 0) (M c) (let f:=U b.2.2.length
 (J4 b.2.2 f 0 a.1 a.2.1 a.2.2.1 a.2.2.2).bind λg=>sumC g (λi=>M i) (λj=>M 0)))
def jc3[LP](a:mA)(e:ao)(b:aq)(d:ar)(c:au):O Int:=(j3j (e,(b,(d,c))) (a.1,(a.2.1,a.2.2))).bind λf=>M f
def j0S[LP](m:ao)(i:aq)(g:ar)(e f:au)(l c:J)(n:Y (W×Å)):O ((ao×aq×ar×au×au×J×J×(Y (W×Å))) ⊕ (J ⊕ Æ)):=cond (N (c<l)) (cond (inR c f.length) (let a:=S f c.toNat (À,(([]:ba),([]:aX)))
 (jc2 (a.1,(a.2.1,a.2.2))).bind λj=>(j6g j n).bind λb=>cond (b.1 != 0) (M (.inr (.inl b.1))) ((jc3 (a.1,(a.2.1,a.2.2)) m i g e).bind λd=>cond (d != 0) (M (.inr (.inl d))) (let k:=w64 (c+1)
 M (.inl (m,i,g,e,f,l,k,b.2))))) Z) (M (.inr (.inr ())))
def FU[LP](i:ao)(c:aq)(b:ar)(a d:au)(f e:J)(g:Y (W×Å)):O (J ⊕ Æ):=LP.lp (unc8 j0S) (i,c,b,a,d,f,e,g)
theorem YX(i:ao)(c:aq)(b:ar)(a d:au)(f e:J)(g:Y (W×Å)):FU i c b a d f e g=lpK (j0S i c b a d f e g) (λh=>FU h.1 h.2.1 h.2.2.1 h.2.2.2.1 h.2.2.2.2.1 h.2.2.2.2.2.1 h.2.2.2.2.2.2.1 h.2.2.2.2.2.2.2):=bc _ _
def j4K[LP](e:au)(d:ao)(c:aq)(a:ar)(b:au):O Int:=
 let g:(Y (W×Å)):=[]
 let f:=U e.length
 (FU d c a b e f 0 g).bind λi=>sumC i (λj=>M j) (λk=>M 0)
def j3k[LP](g:aq)(i f:J)(j:ao)(e:aq)(c:ar)(d:au)(r:Y (W×Å)):O ((aq×J×J×ao×aq×ar×au×(Y (W×Å))) ⊕ (J ⊕ (ao×aq×ar×au))):=cond (N (f<i)) (cond (inR f g.length) (let a:=S g f.toNat (À,(0,(([]:ai),(0,(0,Á)))))
 (j6g a.1 r).bind λb=>let q:Bool:=É a.1==É (Ç #[110,111,98,111,100,121])
 cond q (cond (2==0) ((j33 (j,(e,(c,d))) (a.1,(a.2.1,(a.2.2.1,(a.2.2.2.1,(a.2.2.2.2.1,a.2.2.2.2.2)))))).bind λk=>cond (k != 0) (M (.inr (.inl k))) (let n:=w64 (f+1)
 M (.inl (g,i,n,j,e,c,d,b.2)))) (cond (2 != 0) (M (.inr (.inl 2))) (let p:=w64 (f+1)
 M (.inl (g,i,p,j,e,c,d,b.2))))) (cond (b.1==0) ((j33 (j,(e,(c,d))) (a.1,(a.2.1,(a.2.2.1,(a.2.2.2.1,(a.2.2.2.2.1,a.2.2.2.2.2)))))).bind λl=>cond (l != 0) (M (.inr (.inl l))) (let m:=w64 (f+1)
 M (.inl (g,i,m,j,e,c,d,b.2)))) (cond (b.1 != 0) (M (.inr (.inl b.1))) (let o:=w64 (f+1)
 M (.inl (g,i,o,j,e,c,d,b.2)))))) Z) (M (.inr (.inr (j,e,c,d))))
def FV[LP](d:aq)(f e:J)(g:ao)(c:aq)(a:ar)(b:au)(i:Y (W×Å)):O (J ⊕ (ao×aq×ar×au)):=LP.lp (unc8 j3k) (d,f,e,g,c,a,b,i)
theorem YY(d:aq)(f e:J)(g:ao)(c:aq)(a:ar)(b:au)(i:Y (W×Å)):FV d f e g c a b i=lpK (j3k d f e g c a b i) (λh=>FV h.1 h.2.1 h.2.2.1 h.2.2.2.1 h.2.2.2.2.1 h.2.2.2.2.2.1 h.2.2.2.2.2.2.1 h.2.2.2.2.2.2.2):=bc _ _
def j9S[LP](a:cO):O Int:=
 let f:=U a.1.length
 let g:=U a.2.1.length
 let k:=U a.2.2.1.length
 let m:Bool:=cond (cond (N (f>16)) Â (N (g>32))) Â (N (k>8))
 let i:=U a.2.2.2.length
 cond (cond m Â (N (i>12))) (M 5) ((j4F a.1).bind λd=>cond (d != 0) (M d) (let l:(Y (W×Å)):=[]
 let j:=U a.2.1.length
 (FV a.2.1 j 0 a.1 a.2.1 a.2.2.1 a.2.2.2 l).bind λn=>sumC n (λo=>M o) (λb=>(j2S b.2.2.1 b.1 b.2.1 b.2.2.1 b.2.2.2).bind λc=>cond (c != 0) (M c) ((j4K b.2.2.2 b.1 b.2.1 b.2.2.1 b.2.2.2).bind λe=>M e))))
def jjH[LP](a:eh):O (fX×J):=(j3O (a.1,(a.2.1,a.2.2))).bind λb=>M ((a.2.1,b.1),b.2)
def j4t[LP](g:ao)(j b:J)(i:dz):O ((ao×J×J×dz) ⊕ (dz)):=cond (N (b<j)) (cond (inR b g.length) (let a:=S g b.toNat (À,(0,([]:aY)))
 (jjH (a.1,(a.2.1,a.2.2))).bind λd=>let c:dz:=[(d.1.1,d.1.2)]
 cond (N (X i+X c<=aM)) (let f:dz:=i++c
 let e:=w64 (b+1)
 M (.inl (g,j,e,f))) Z) Z) (M (.inr i))
def FW[LP](c:ao)(d a:J)(b:dz):O dz:=LP.lp (unc4 j4t) (c,d,a,b)
theorem YZ(b c a d):FW b c a d=lpK (j4t b c a d) (λh=>FW h.1 h.2.1 h.2.2.1 h.2.2.2):=bc _ _
def jjI[LP](a:ao):O dz:=
 let b:=U a.length
 (FW a b 0 ([]:dz)).bind λc=>M c
def jkJ[LP](a:cO):O nF:=(jjI a.1).bind λb=>M ((a.1,(a.2.1,(a.2.2.1,a.2.2.2))),b)
def jo9[LP](a:cO):O (nF×Å):=(j9S (a.1,(a.2.1,(a.2.2.1,a.2.2.2)))).bind λc=>cond (c != 0) (M (((([]:ao),(([]:aq),(([]:ar),([]:au)))),([]:dz)),Á)) ((jkJ (a.1,(a.2.1,(a.2.2.1,a.2.2.2)))).bind λb=>M (((b.1.1,(b.1.2.1,(b.1.2.2.1,b.1.2.2.2))),b.2),Â))
def jaJ(b:cO)(a:J):O Bool:=
 let c:=U b.2.2.2.length
 M (cond (N (a>=0)) (N (a<c)) Á)
def jlT(a b:J):O Bool:=
 let d:Bool:=cond (cond (N (a>=0)) (N (a<=8589934592)) Á) (N (b>=a)) Á
 let c:=w64 (b-a)
 let e:Bool:=cond (cond d (N (b<=8589934592)) Á) (N (c<=34560000)) Á
 M e
def jaK[LP](b:cO)(c d e:J):O (nF×J):=(jo9 (b.1,(b.2.1,(b.2.2.1,b.2.2.2)))).bind λa=>cond (!a.2) (M (((a.1.1.1,(a.1.1.2.1,(a.1.1.2.2.1,a.1.1.2.2.2))),a.1.2),8)) ((jaJ (b.1,(b.2.1,(b.2.2.1,b.2.2.2))) c).bind λg=>cond (!g) (M (((a.1.1.1,(a.1.1.2.1,(a.1.1.2.2.1,a.1.1.2.2.2))),a.1.2),3)) ((jlT d e).bind λf=>cond (!f) (M (((a.1.1.1,(a.1.1.2.1,(a.1.1.2.2.1,a.1.1.2.2.2))),a.1.2),1)) (M (((a.1.1.1,(a.1.1.2.1,(a.1.1.2.2.1,a.1.1.2.2.2))),a.1.2),0))))
def j8q(a:Y J):O (Y J):=cond (N (X ([]:Y (J))+X a<=aM)) (M (([]:Y (J))++a)) Z
def jbs(a b c:J):O Bool:=M (cond (N (a<=b)) Â (N (a>=c)))
def j0L(g b i a:J)(c:Y J):O ((J×J×J×J×(Y J)) ⊕ (pb ⊕ (Y J))):=cond (N (a<i)) (cond (inR a c.length) (let f:=S c a.toNat 0
 (jbs f g b).bind λe=>cond e (M (.inr (.inl (a,c)))) (let d:=w64 (a+1)
 M (.inl (g,b,i,d,c)))) Z) (M (.inr (.inr c)))
def FX[LP](d a e b:J)(c:Y J):O (pb ⊕ (Y J)):=LP.lp (unc5 j0L) (d,a,e,b,c)
theorem Y0(d a e b c):FX d a e b c=lpK (j0L d a e b c) (λh=>FX h.1 h.2.1 h.2.2.1 h.2.2.2.1 h.2.2.2.2):=bc _ _
def j4u[LP](b:Y J)(c a:J):O pb:=
 let d:=U b.length
 (FX c a d 0 b).bind λe=>sumC e (λf=>M (f.1,f.2)) (λg=>M ((-1),g))
def j13(l a d e:J)(b:Y J):O ((J×J×J×J×(Y J)) ⊕ (pb)):=
 let f:=U b.length
 cond (N (e<f)) (cond (inR e b.length) (let c:=S b e.toNat 0
 (jbs c l a).bind λk=>cond (!k) (cond (inR d b.length) (let m:Y Int:=Ê b d.toNat c
 let j:=w64 (d+1)
 let i:=w64 (e+1)
 M (.inl (l,a,j,i,m))) Z) (let g:=w64 (e+1)
 M (.inl (l,a,d,g,b)))) Z) (M (.inr (d,b)))
def J5[LP](d a b e:J)(c:Y J):O pb:=LP.lp (unc5 j13) (d,a,b,e,c)
theorem Y1(d a b e c):J5 d a b e c=lpK (j13 d a b e c) (λh=>J5 h.1 h.2.1 h.2.2.1 h.2.2.2.1 h.2.2.2.2):=bc _ _
def j3d[LP](e:Y J)(d a:J):O pb:=(j4u e d a).bind λc=>cond (c.1==(-1)) (M ((U c.2.length),c.2)) (let g:=w64 (c.1+1)
 (J5 d a c.1 g c.2).bind λb=>cond (N (0<=b.1)&&N (b.1<=(U b.2.length))) (let f:Y Int:=Ì b.1.toNat b.2++Ë (X b.2-b.1.toNat) 0
 cond (N (0<=b.1)&&N (b.1<=(U f.length))) (M ((U b.1.toNat),f)) Z) Z)
def j6o(a:Y J):O (Y J):=
 AL a
def j1k(e b c:J)(a:Y J):O ((J×J×J×(Y J)) ⊕ (pb)):=
 let k:=U (X a-b.toNat)
 cond (N (c<k)) (cond (inR c (X a-b.toNat)) (let i:=S a (b.toNat+c.toNat) 0
 let d:=w64 (c-1)
 cond (inR d (X a-b.toNat)) (let m:=S a (b.toNat+d.toNat) 0
 cond (i != m) (cond (inR c (X a-b.toNat)) (let f:=S a (b.toNat+c.toNat) 0
 cond (inR e a.length) (let n:Y Int:=Ê a e.toNat f
 let j:=w64 (e+1)
 let l:=w64 (c+1)
 M (.inl (j,(U b.toNat),l,n))) Z) Z) (let g:=w64 (c+1)
 M (.inl (e,(U b.toNat),g,a)))) Z) Z) (M (.inr (e,a)))
def FY[LP](b a d:J)(c:Y J):O pb:=LP.lp (unc4 j1k) (b,a,d,c)
theorem Y2(a b c d):FY a b c d=lpK (j1k a b c d) (λh=>FY h.1 h.2.1 h.2.2.1 h.2.2.2):=bc _ _
def j1l[LP](b:J)(c:Y J):O (pb ⊕ (pb ⊕ (Y J))):=
 let g:=U c.length
 cond (N (b<g)) (cond (inR b c.length) (let f:=S c b.toNat 0
 let d:=w64 (b-1)
 cond (inR d c.length) (let i:=S c d.toNat 0
 cond (f==i) (cond (N (0<=b)&&N (b<=(U c.length))) ((FY b (U b.toNat) 1 c).bind λa=>cond (N (0<=a.1)&&N (a.1<=(U a.2.length))) (let e:Y Int:=Ì a.1.toNat a.2++Ë (X a.2-a.1.toNat) 0
 cond (N (0<=a.1)&&N (a.1<=(U e.length))) (M (.inr (.inl ((U a.1.toNat),e)))) Z) Z) Z) (let j:=w64 (b+1)
 M (.inl (j,c)))) Z) Z) (M (.inr (.inr c)))
def AN[LP](b:J)(a:Y J):O (pb ⊕ (Y J)):=LP.lp (unc2 j1l) (b,a)
theorem Y3(b a):AN b a=lpK (j1l b a) (λh=>AN h.1 h.2):=bc _ _
def j4G[LP](a:Y J):O pb:=
 let b:=U a.length
 cond (N (b<2)) (M ((U a.length),a)) ((AN 1 a).bind λc=>sumC c (λd=>M ((U d.1.toNat),d.2)) (λe=>M ((U e.length),e)))
def jkK[LP](f:Y J)(b a:J):O (Y J):=(j8q f).bind λk=>(j3d k b a).bind λe=>let i:Y Int:=Ì e.1.toNat e.2
 (j6o i).bind λj=>(j4G j).bind λd=>let c:Y Int:=Ì d.1.toNat d.2
 cond (N (X c+X [a]<=aM)) (let g:Y Int:=c++[a]
 M g) Z
def j29(a:ba):O ba:=M a
def jaL(a:fq):O Int:=cond (a.2.2.2.1==2) (let b:=w64 (7*a.2.2.2.2.1)
 M b) (M a.2.2.2.2.1)
def j9e(b e:J)(a:ai)(c:J):O Bool:=cond (inR b a.length) (let d:=S a b.toNat (0,0)
 M (N (d.1>c))) Z
def j34(k:J)(a:ai)(b f l:J):O ((J×ai×J×J×J) ⊕ (J)):=cond (N (f<l)) (let i:=w64 (f+l)
 let d:Int:=IntKind.wrap .u64 i
 let e:Int:=Ï d 2
 let c:=w64 e
 (j9e c k a b).bind λj=>cond (!j) (let g:=w64 (c+1)
 M (.inl (k,a,b,g,l))) (M (.inl (k,a,b,f,c)))) (M (.inr f))
def J6[LP](d:J)(a:ai)(b c e:J):O Int:=LP.lp (unc5 j34) (d,a,b,c,e)
theorem Y4(d a b c e):J6 d a b c e=lpK (j34 d a b c e) (λh=>J6 h.1 h.2.1 h.2.2.1 h.2.2.2.1 h.2.2.2.2):=bc _ _
def jjJ[LP](d c:J)(a:ai)(b:J):O Int:=(J6 c a b 0 d).bind λe=>M e
def j6E[LP](a:fX)(b:J):O Int:=
 let c:=U a.2.length
 (jjJ c a.1 a.2 b).bind λd=>M d
def j4k(a:fX)(b:J):O Int:=cond (b==0) (M a.1) (let c:=w64 (b-1)
 cond (inR c a.2.length) (let d:=S a.2 c.toNat (0,0)
 M d.2) Z)
def j0y[LP](p c j:J)(a:ai)(i:af):O ((J×J×J×ai×af) ⊕ (af)):=cond (N (p<c)) ((j6E (j,a) p).bind λb=>let l:=U a.length
 cond (N (b<l)) (cond (inR b a.length) (let e:=S a b.toNat (0,0)
 let f:Int:=if e.1<c then e.1 else c
 (j4k (j,a) b).bind λn=>let g:af:=[(p,(f,n))]
 cond (N (X i+X g<=aM)) (let m:af:=i++g
 M (.inl (f,c,j,a,m))) Z) Z) ((j4k (j,a) b).bind λo=>let d:af:=[(p,(c,o))]
 cond (N (X i+X d<=aM)) (let k:af:=i++d
 M (.inl (c,c,j,a,k))) Z)) (M (.inr i))
def CT[LP](e c d:J)(a:ai)(b:af):O af:=LP.lp (unc5 j0y) (e,c,d,a,b)
theorem CU(e c d a b):CT e c d a b=lpK (j0y e c d a b) (λh=>CT h.1 h.2.1 h.2.2.1 h.2.2.2.1 h.2.2.2.2):=bc _ _
def j1P[LP](b:fX)(a c:J):O af:=(CT a c b.1 b.2 ([]:af)).bind λd=>M d
def j4i(a:J×J):O Int:=
 let c:Int:=if (-1048576)>a.1 then (-1048576) else a.1
 let e:Int:=if 1048576<c then 1048576 else c
 let d:=w64 (e*86400)
 let b:=w64 (d+a.2)
 M b
def j1e(j b k e:J)(f:af):O ((J×J×J×J×af) ⊕ ((J×Å) ⊕ Æ)):=cond (N (b<j)) (cond (inR b f.length) (let a:=S f b.toNat (0,(0,0))
 (j4i (k,e)).bind λi=>let d:=w64 (i-a.2.2)
 let c:Int:=if d>a.1 then d else a.1
 cond (N (c<a.2.1)) (M (.inr (.inl (c,Â)))) (let g:=w64 (b+1)
 M (.inl (j,g,k,e,f)))) Z) (M (.inr (.inr ())))
def FZ[LP](c b e a:J)(d:af):O ((J×Å) ⊕ Æ):=LP.lp (unc5 j1e) (c,b,e,a,d)
theorem J7(c b e a d):FZ c b e a d=lpK (j1e c b e a d) (λh=>FZ h.1 h.2.1 h.2.2.1 h.2.2.2.1 h.2.2.2.2):=bc _ _
def j2P[LP](b:fX)(a:J×J):O (J×Å):=(j1P (b.1,b.2) 0 8589934593).bind λc=>let d:=U c.length
 (FZ d 0 a.1 a.2 c).bind λe=>sumC e (λf=>M (f.1,f.2)) (λg=>M (0,Á))
def j0J[LP](b:fX)(a:fq)(c:J):O (J×Å):=cond (N (c>8589934592)) (M (0,Á)) (cond (a.2.2.2.1 != 0) ((jaL (a.1,(a.2.1,((a.2.2.1.1,a.2.2.1.2),(a.2.2.2.1,(a.2.2.2.2.1,(a.2.2.2.2.2.1,(a.2.2.2.2.2.2.1,(a.2.2.2.2.2.2.2.1,a.2.2.2.2.2.2.2.2))))))))).bind λg=>let i:=w64 (c*g)
 let l:=w64 (a.2.2.1.1+i)
 (j2P (b.1,b.2) (l,a.2.2.1.2)).bind λf=>M (f.1,f.2)) ((j2P (b.1,b.2) (a.2.2.1.1,a.2.2.1.2)).bind λd=>let k:=w64 (3600*a.2.2.2.2.1)
 let j:=w64 (k*c)
 let e:=w64 (d.1+j)
 M (e,(cond d.2 (N (e<=8589934592)) Á))))
def j3l(a:ai):O ai:=cond (N (X ([]:Y (J×J))+X a<=aM)) (M (([]:Y (J×J))++a)) Z
def j9T(a:J×J):O Bool:=M (N (a.2<=a.1))
def j0t(f b:J)(c:ai):O ((J×J×ai) ⊕ (fX ⊕ ai)):=cond (N (b<f)) (cond (inR b c.length) (let a:=S c b.toNat (0,0)
 (j9T (a.1,a.2)).bind λe=>cond e (M (.inr (.inl (b,c)))) (let d:=w64 (b+1)
 M (.inl (f,d,c)))) Z) (M (.inr (.inr c)))
def F0[LP](b c:J)(a:ai):O (fX ⊕ ai):=LP.lp (unc3 j0t) (b,c,a)
theorem Y5(b c a):F0 b c a=lpK (j0t b c a) (λh=>F0 h.1 h.2.1 h.2.2):=bc _ _
def j2o[LP](a:ai):O fX:=
 let b:=U a.length
 (F0 b 0 a).bind λc=>sumC c (λd=>M (d.1,d.2)) (λe=>M ((-1),e))
def j0r(c d:J)(b:ai):O ((J×J×ai) ⊕ (fX)):=
 let e:=U b.length
 cond (N (d<e)) (cond (inR d b.length) (let a:=S b d.toNat (0,0)
 (j9T (a.1,a.2)).bind λj=>cond (!j) (cond (inR c b.length) (let k:ai:=Ê b c.toNat (a.1,a.2)
 let i:=w64 (c+1)
 let g:=w64 (d+1)
 M (.inl (i,g,k))) Z) (let f:=w64 (d+1)
 M (.inl (c,f,b)))) Z) (M (.inr (c,b)))
def J8[LP](b c:J)(a:ai):O fX:=LP.lp (unc3 j0r) (b,c,a)
theorem Y6(b c a):J8 b c a=lpK (j0r b c a) (λh=>J8 h.1 h.2.1 h.2.2):=bc _ _
def j1m[LP](c:ai):O fX:=(j2o c).bind λb=>cond (b.1==(-1)) (M ((U b.2.length),b.2)) (let e:=w64 (b.1+1)
 (J8 b.1 e b.2).bind λa=>cond (N (0<=a.1)&&N (a.1<=(U a.2.length))) (let d:ai:=Ì a.1.toNat a.2++Ë (X a.2-a.1.toNat) (0,0)
 cond (N (0<=a.1)&&N (a.1<=(U d.length))) (M ((U a.1.toNat),d)) Z) Z)
def j89(a b:J×J):O Int:=
 let c:=w64 (a.1-b.1)
 M c
def j0P(a:ai):O ai:=
 xU (.pair (.int .i64) (.int .i64)) (λb c=>(j89 b c).getD 0) a
def j3G(m d:J)(b f:ai):O ((J×J×ai×ai) ⊕ (ai)):=cond (N (d<m)) (cond (inR d f.length) (let a:=S f d.toNat (0,0)
 let c:=U b.length
 cond (N (c>0)) (let i:=w64 (c-1)
 cond (inR i b.length) (let t:=(S b i.toNat (0,0)).2
 cond (N (a.1<=t)) (let e:=w64 (c-1)
 let l:=w64 (c-1)
 cond (inR l b.length) (let j:=(S b l.toNat (0,0)).2
 let u:Int:=if a.2>j then a.2 else j
 cond (inR e b.length) (let q:ai:=Ê b e.toNat ((S b e.toNat (0,0)).1,u)
 let o:=w64 (d+1)
 M (.inl (m,o,q,f))) Z) Z) (let k:ai:=[(a.1,a.2)]
 cond (N (X b+X k<=aM)) (let r:ai:=b++k
 let n:=w64 (d+1)
 M (.inl (m,n,r,f))) Z)) Z) (let g:ai:=[(a.1,a.2)]
 cond (N (X b+X g<=aM)) (let p:ai:=b++g
 let s:=w64 (d+1)
 M (.inl (m,s,p,f))) Z)) Z) (M (.inr b))
def F1[LP](b c:J)(d a:ai):O ai:=LP.lp (unc4 j3G) (b,c,d,a)
theorem Pu(b a d c):F1 b a d c=lpK (j3G b a d c) (λh=>F1 h.1 h.2.1 h.2.2.1 h.2.2.2):=bc _ _
def j9y[LP](c:ai):O ai:=(j3l c).bind λg=>(j1m g).bind λa=>let d:ai:=Ì a.1.toNat a.2
 (j0P d).bind λb=>let e:=U b.length
 (F1 e 0 ([]:ai) b).bind λf=>M f
def j3Z(u:ai)(e s r:J)(k:ai)(q c j a g:J)(t:ai)(p:af):O ((ai×J×J×J×ai×J×J×J×J×J×ai×af) ⊕ (ai×J×J×J×J×J×J×ai×af)):=cond (N (c<q)) (cond (inR c k.length) (let i:=S k c.toNat (0,0)
 let f:=w64 (e+i.1)
 let n:Int:=if f>j then f else j
 let b:=w64 (e+i.2)
 let o:Int:=if b<a then b else a
 let d:ai:=[(n,o)]
 cond (N (X t+X d<=aM)) (let m:ai:=t++d
 let l:=w64 (c+1)
 M (.inl (u,e,s,r,k,q,l,j,a,g,m,p))) Z) Z) (M (.inr (u,e,s,r,j,a,g,t,p)))
def J9[LP](m:ai)(d f e:J)(i:ai)(k j g a b:J)(l:ai)(c:af):O (ai×J×J×J×J×J×J×ai×af):=LP.lp (u8 unc4 j3Z) (m,d,f,e,i,k,j,g,a,b,l,c)
theorem Y7(m d f e i k j g a b l c):J9 m d f e i k j g a b l c=lpK (j3Z m d f e i k j g a b l c) (λh=>J9 h.1 h.2.1 h.2.2.1 h.2.2.2.1 h.2.2.2.2.1 h.2.2.2.2.2.1 h.2.2.2.2.2.2.1 h.2.2.2.2.2.2.2.1 h.2.2.2.2.2.2.2.2.1 h.2.2.2.2.2.2.2.2.2.1 h.2.2.2.2.2.2.2.2.2.2.1 h.2.2.2.2.2.2.2.2.2.2.2):=bc _ _
def j40[LP](d:ai)(i k j m b f:J)(l:ai)(g:af):O ((ai×J×J×J×J×J×J×ai×af) ⊕ (ai×J×J×ai×af)):=cond (N (i<b)) (let c:=U d.length
 (J9 d i k j d c 0 m b f l g).bind λa=>let e:=w64 (a.2.1+604800)
 M (.inl (a.1,e,a.2.2.1,a.2.2.2.1,a.2.2.2.2.1,a.2.2.2.2.2.1,a.2.2.2.2.2.2.1,a.2.2.2.2.2.2.2.1,a.2.2.2.2.2.2.2.2))) (M (.inr (d,k,j,l,g)))
def Ka[LP](j:ai)(d f e g a b:J)(i:ai)(c:af):O (ai×J×J×ai×af):=LP.lp (unc9 j40) (j,d,f,e,g,a,b,i,c)
theorem Y8(j d f e g a b i c):Ka j d f e g a b i c=lpK (j40 j d f e g a b i c) (λh=>Ka h.1 h.2.1 h.2.2.1 h.2.2.2.1 h.2.2.2.2.1 h.2.2.2.2.2.1 h.2.2.2.2.2.2.1 h.2.2.2.2.2.2.2.1 h.2.2.2.2.2.2.2.2):=bc _ _
def j41[LP](o:ai)(m c:J)(n:ai)(e:af):O ((ai×J×J×ai×af) ⊕ (ai)):=cond (N (c<m)) (cond (inR c e.length) (let a:=S e c.toNat (0,(0,0))
 let j:=w64 (a.1+a.2.2)
 let d:=w64 (j-(-259200))
 let g:=Ã d 604800
 let l:=w64 (d-g)
 let i:=w64 (l+(-259200))
 let f:=w64 (i-a.2.2)
 (Ka o f m c a.1 a.2.1 a.2.2 n e).bind λb=>let k:=w64 (b.2.2.1+1)
 M (.inl (b.1,b.2.1,k,b.2.2.2.1,b.2.2.2.2))) Z) (M (.inr n))
def Kb[LP](e:ai)(c b:J)(d:ai)(a:af):O ai:=LP.lp (unc5 j41) (e,c,b,d,a)
theorem Y9(e c b d a):Kb e c b d a=lpK (j41 e c b d a) (λh=>Kb h.1 h.2.1 h.2.2.1 h.2.2.2.1 h.2.2.2.2):=bc _ _
def j2j[LP](b:fX)(e:ai)(a c:J):O ai:=(j1P (b.1,b.2) a c).bind λd=>let g:=U d.length
 (Kb e g 0 ([]:ai) d).bind λi=>(j9y i).bind λf=>M f
def j2X(t u:J)(g:Y J)(r c:J)(w:W)(k:J)(i:Y J)(j b f:J)(v:ai)(s:af):O ((J×J×(Y J)×J×J×W×J×(Y J)×J×J×J×ai×af) ⊕ (J×J×W×J×(Y J)×ai×af)):=cond (N (c<r)) (cond (inR c g.length) (let q:=S g c.toNat 0
 let o:=w64 (q*86400)
 let a:=w64 (o-f)
 let n:Int:=if a>j then a else j
 let e:=w64 (a+86400)
 let m:Int:=if e<b then e else b
 let d:ai:=[(n,m)]
 cond (N (X v+X d<=aM)) (let p:ai:=v++d
 let l:=w64 (c+1)
 M (.inl (t,u,g,r,l,w,k,i,j,b,f,p,s))) Z) Z) (M (.inr (t,u,w,k,i,v,s)))
def F2[LP](k g:J)(e:Y J)(f l:J)(n:W)(d:J)(c:Y J)(j a b:J)(m:ai)(i:af):O (J×J×W×J×(Y J)×ai×af):=LP.lp (u8 unc5 j2X) (k,g,e,f,l,n,d,c,j,a,b,m,i)
theorem Za(k g e f l n d c j a b m i):F2 k g e f l n d c j a b m i=lpK (j2X k g e f l n d c j a b m i) (λh=>F2 h.1 h.2.1 h.2.2.1 h.2.2.2.1 h.2.2.2.2.1 h.2.2.2.2.2.1 h.2.2.2.2.2.2.1 h.2.2.2.2.2.2.2.1 h.2.2.2.2.2.2.2.2.1 h.2.2.2.2.2.2.2.2.2.1 h.2.2.2.2.2.2.2.2.2.2.1 h.2.2.2.2.2.2.2.2.2.2.2.1 h.2.2.2.2.2.2.2.2.2.2.2.2):=bc _ _
def j2Y[LP](i d:J)(l:W)(j:J)(c:Y J)(k:ai)(e:af):O ((J×J×W×J×(Y J)×ai×af) ⊕ (ai)):=cond (N (d<i)) (cond (inR d e.length) (let b:=S e d.toNat (0,(0,0))
 let g:=U c.length
 (F2 i d c g 0 l j c b.1 b.2.1 b.2.2 k e).bind λa=>let f:=w64 (a.2.1+1)
 M (.inl (a.1,f,a.2.2.1,a.2.2.2.1,a.2.2.2.2.1,a.2.2.2.2.2.1,a.2.2.2.2.2.2))) Z) (M (.inr k))
def F3[LP](e d:J)(g:W)(b:J)(a:Y J)(f:ai)(c:af):O ai:=LP.lp (unc7 j2Y) (e,d,g,b,a,f,c)
theorem Zb(e d g b a f c):F3 e d g b a f c=lpK (j2Y e d g b a f c) (λh=>F3 h.1 h.2.1 h.2.2.1 h.2.2.2.1 h.2.2.2.2.1 h.2.2.2.2.2.1 h.2.2.2.2.2.2):=bc _ _
def j27[LP](c:nF)(a:tG)(b d:J):O ai:=cond (inR a.2.1 c.2.length) (let e:=S c.2 a.2.1.toNat (0,([]:ai))
 (j1P (e.1,e.2) b d).bind λf=>let i:=U f.length
 (F3 i 0 a.1 a.2.1 a.2.2 ([]:ai) f).bind λj=>(j9y j).bind λg=>M g) Z
def j42(b:ai)(c:J)(f:ai)(d e g a:J)(l:ai):O ((ai×J×ai×J×J×J×J×ai) ⊕ (ai×J×ai×J×J×J×J×ai)):=
 let i:=U b.length
 cond (N (c<i)) (cond (inR c b.length) (let k:=S b c.toNat (0,0)
 cond (N (k.2<=g)) (let j:=w64 (c+1)
 M (.inl (b,j,f,d,e,g,a,l))) (M (.inr (b,c,f,d,e,g,a,l)))) Z) (M (.inr (b,c,f,d,e,g,a,l)))
def Kd[LP](g:ai)(i:J)(d:ai)(b c e a:J)(f:ai):O (ai×J×ai×J×J×J×J×ai):=LP.lp (unc8 j42) (g,i,d,b,c,e,a,f)
theorem Zc(g i d b c e a f):Kd g i d b c e a f=lpK (j42 g i d b c e a f) (λh=>Kd h.1 h.2.1 h.2.2.1 h.2.2.2.1 h.2.2.2.2.1 h.2.2.2.2.2.1 h.2.2.2.2.2.2.1 h.2.2.2.2.2.2.2):=bc _ _
def j43(b:ai)(v d a:J)(e:ai)(g i r c:J)(l:ai):O ((ai×J×J×J×ai×J×J×J×J×ai) ⊕ (ai×J×J×ai×J×J×J×J×ai)):=
 let o:=U b.length
 cond (N (a<o)) (cond (inR a b.length) (let w:=S b a.toNat (0,0)
 cond (N (w.1<c)) (cond (inR a b.length) (let q:=S b a.toNat (0,0)
 cond (N (d<q.1)) (cond (inR a b.length) (let u:=S b a.toNat (0,0)
 let f:ai:=[(d,u.1)]
 cond (N (X l+X f<=aM)) (let s:ai:=l++f
 cond (inR a b.length) (let k:=S b a.toNat (0,0)
 let m:Int:=if k.2>d then k.2 else d
 let t:=w64 (a+1)
 M (.inl (b,v,m,t,e,g,i,r,c,s))) Z) Z) Z) (cond (inR a b.length) (let j:=S b a.toNat (0,0)
 let n:Int:=if j.2>d then j.2 else d
 let p:=w64 (a+1)
 M (.inl (b,v,n,p,e,g,i,r,c,l))) Z)) Z) (M (.inr (b,v,d,e,g,i,r,c,l)))) Z) (M (.inr (b,v,d,e,g,i,r,c,l)))
def F4[LP](j:ai)(k i d:J)(e:ai)(b c f a:J)(g:ai):O (ai×J×J×ai×J×J×J×J×ai):=LP.lp (u8 unc2 j43) (j,k,i,d,e,b,c,f,a,g)
theorem Zd(j k i d e b c f a g):F4 j k i d e b c f a g=lpK (j43 j k i d e b c f a g) (λh=>F4 h.1 h.2.1 h.2.2.1 h.2.2.2.1 h.2.2.2.2.1 h.2.2.2.2.2.1 h.2.2.2.2.2.2.1 h.2.2.2.2.2.2.2.1 h.2.2.2.2.2.2.2.2.1 h.2.2.2.2.2.2.2.2.2):=bc _ _
def j44[LP](m:ai)(n:J)(f:ai)(k d:J)(l:ai):O ((ai×J×ai×J×J×ai) ⊕ (ai)):=cond (N (d<k)) (cond (inR d f.length) (let e:=S f d.toNat (0,0)
 (Kd m n f k d e.1 e.2 l).bind λb=>(F4 b.1 b.2.1 b.2.2.2.2.2.1 b.2.1 b.2.2.1 b.2.2.2.1 b.2.2.2.2.1 b.2.2.2.2.2.1 b.2.2.2.2.2.2.1 b.2.2.2.2.2.2.2).bind λa=>cond (N (a.2.2.1<a.2.2.2.2.2.2.2.1)) (let c:ai:=[(a.2.2.1,a.2.2.2.2.2.2.2.1)]
 cond (N (X a.2.2.2.2.2.2.2.2+X c<=aM)) (let j:ai:=a.2.2.2.2.2.2.2.2++c
 let i:=w64 (a.2.2.2.2.2.1+1)
 M (.inl (a.1,a.2.1,a.2.2.2.1,a.2.2.2.2.1,i,j))) Z) (let g:=w64 (a.2.2.2.2.2.1+1)
 M (.inl (a.1,a.2.1,a.2.2.2.1,a.2.2.2.2.1,g,a.2.2.2.2.2.2.2.2)))) Z) (M (.inr l))
def CV[LP](e:ai)(f:J)(c:ai)(a b:J)(d:ai):O ai:=LP.lp (unc6 j44) (e,f,c,a,b,d)
theorem Ze(e f c a b d):CV e f c a b d=lpK (j44 e f c a b d) (λh=>CV h.1 h.2.1 h.2.2.1 h.2.2.2.1 h.2.2.2.2.1 h.2.2.2.2.2):=bc _ _
def j2Q[LP](a b:ai):O ai:=
 let c:=U a.length
 (CV b 0 a c 0 ([]:ai)).bind λd=>M d
def j6p(c a:ai)(b d:J)(n:ai):O ((ai×ai×J×J×ai) ⊕ (ai)):=
 let q:=U c.length
 let o:=U a.length
 cond (cond (N (b<q)) (N (d<o)) Á) (cond (inR b c.length) (let g:=S c b.toNat (0,0)
 cond (inR d a.length) (let l:=S a d.toNat (0,0)
 let k:Int:=if l.1>g.1 then l.1 else g.1
 cond (inR b c.length) (let f:=S c b.toNat (0,0)
 cond (inR d a.length) (let m:=S a d.toNat (0,0)
 let e:Int:=if m.2<f.2 then m.2 else f.2
 cond (N (k<e)) (let j:ai:=[(k,e)]
 cond (N (X n+X j<=aM)) (let i:ai:=n++j
 cond (inR b c.length) (let w:=S c b.toNat (0,0)
 cond (inR d a.length) (let u:=S a d.toNat (0,0)
 cond (N (w.2<u.2)) (let v:=w64 (b+1)
 M (.inl (c,a,v,d,i))) (let t:=w64 (d+1)
 M (.inl (c,a,b,t,i)))) Z) Z) Z) (cond (inR b c.length) (let r:=S c b.toNat (0,0)
 cond (inR d a.length) (let s:=S a d.toNat (0,0)
 cond (N (r.2<s.2)) (let x:=w64 (b+1)
 M (.inl (c,a,x,d,n))) (let p:=w64 (d+1)
 M (.inl (c,a,b,p,n)))) Z) Z)) Z) Z) Z) Z) (M (.inr n))
def AO[LP](e c:ai)(d b:J)(a:ai):O ai:=LP.lp (unc5 j6p) (e,c,d,b,a)
theorem jlU(e c d b a):AO e c d b a=lpK (j6p e c d b a) (λh=>AO h.1 h.2.1 h.2.2.1 h.2.2.2.1 h.2.2.2.2):=bc _ _
def j9f[LP](a b:ai):O ai:=(AO a b 0 0 ([]:ai)).bind λc=>M c
def j7C[LP](a:nF)(b:fq)(d c:J):O ai:=cond (inR b.2.1 a.2.length) (let r:=S a.2 b.2.1.toNat (0,([]:ai))
 (j0J (r.1,r.2) (b.1,(b.2.1,((b.2.2.1.1,b.2.2.1.2),(b.2.2.2.1,(b.2.2.2.2.1,(b.2.2.2.2.2.1,(b.2.2.2.2.2.2.1,(b.2.2.2.2.2.2.2.1,b.2.2.2.2.2.2.2.2)))))))) 0).bind λi=>cond (cond (cond (!i.2) Â (N (i.1>=c))) Â (N (d>=c))) (M ([]:ai)) (let e:Int:=if i.1>d then i.1 else d
 let k:ai:=[(e,c)]
 let u:=U b.2.2.2.2.2.2.1.length
 cond (N (u>0)) (cond (inR b.2.1 a.2.length) (let s:=S a.2 b.2.1.toNat (0,([]:ai))
 (j2j (s.1,s.2) b.2.2.2.2.2.2.1 e c).bind λj=>cond (b.2.2.2.2.2.2.2.2==1) (cond (inR b.2.2.2.2.2.2.2.1 a.1.2.2.1.length) (let l:=S a.1.2.2.1 b.2.2.2.2.2.2.2.1.toNat (À,(0,([]:(Y J))))
 (j27 ((a.1.1,(a.1.2.1,(a.1.2.2.1,a.1.2.2.2))),a.2) (l.1,(l.2.1,l.2.2)) e c).bind λv=>(j2Q j v).bind λw=>M w) Z) (cond (b.2.2.2.2.2.2.2.2==2) (cond (inR b.2.2.2.2.2.2.2.1 a.1.2.2.1.length) (let m:=S a.1.2.2.1 b.2.2.2.2.2.2.2.1.toNat (À,(0,([]:(Y J))))
 (j27 ((a.1.1,(a.1.2.1,(a.1.2.2.1,a.1.2.2.2))),a.2) (m.1,(m.2.1,m.2.2)) e c).bind λt=>(j9f j t).bind λx=>M x) Z) (M j))) Z) (cond (b.2.2.2.2.2.2.2.2==1) (cond (inR b.2.2.2.2.2.2.2.1 a.1.2.2.1.length) (let g:=S a.1.2.2.1 b.2.2.2.2.2.2.2.1.toNat (À,(0,([]:(Y J))))
 (j27 ((a.1.1,(a.1.2.1,(a.1.2.2.1,a.1.2.2.2))),a.2) (g.1,(g.2.1,g.2.2)) e c).bind λp=>(j2Q k p).bind λo=>M o) Z) (cond (b.2.2.2.2.2.2.2.2==2) (cond (inR b.2.2.2.2.2.2.2.1 a.1.2.2.1.length) (let f:=S a.1.2.2.1 b.2.2.2.2.2.2.2.1.toNat (À,(0,([]:(Y J))))
 (j27 ((a.1.1,(a.1.2.1,(a.1.2.2.1,a.1.2.2.2))),a.2) (f.1,(f.2.1,f.2.2)) e c).bind λq=>(j9f k q).bind λn=>M n) Z) (M k))))) Z
def j8a[LP](a:fX)(b:J):O Int:=(j6E (a.1,a.2) b).bind λc=>(j4k (a.1,a.2) c).bind λd=>M d
def jiE(a:J):O (J×J):=
 let e:=w64 (È a 86400)
 let i:=Ã a 86400
 cond (N (i<0)) (let d:=w64 (e-1)
 let f:=w64 (d*86400)
 let g:=w64 (a-f)
 M (d,g)) (let c:=w64 (e*86400)
 let b:=w64 (a-c)
 M (e,b))
def j1y[LP](b:fX)(a:J):O (J×J):=(j8a (b.1,b.2) a).bind λe=>let d:=w64 (a+e)
 (jiE d).bind λc=>M (c.1,c.2)
def j3m[LP](o m p:J)(f:ai)(q:W)(e b j d k:J)(i:Y J)(a:ai)(g c:J):O ((J×J×J×ai×W×J×J×J×J×J×(Y J)×ai×J×J) ⊕ (J×J×J×ai×W×J×J×J×J×J×(Y J)×ai×J×J)):=cond (N (m>0)) ((j0J (p,f) (q,(e,((b,j),(d,(k,(i,(a,(g,c)))))))) m).bind λl=>cond (cond l.2 (N (l.1<=o)) Á) (M (.inr (o,m,p,f,q,e,b,j,d,k,i,a,g,c))) (let n:=w64 (m-1)
 M (.inl (o,n,p,f,q,e,b,j,d,k,i,a,g,c)))) (M (.inr (o,m,p,f,q,e,b,j,d,k,i,a,g,c)))
def Ke[LP](l o m:J)(f:ai)(n:W)(e b j d k:J)(i:Y J)(a:ai)(g c:J):O (J×J×J×ai×W×J×J×J×J×J×(Y J)×ai×J×J):=LP.lp (u8 unc6 j3m) (l,o,m,f,n,e,b,j,d,k,i,a,g,c)
theorem Zf(l o m f n e b j d k i a g c):Ke l o m f n e b j d k i a g c=lpK (j3m l o m f n e b j d k i a g c) (λh=>Ke h.1 h.2.1 h.2.2.1 h.2.2.2.1 h.2.2.2.2.1 h.2.2.2.2.2.1 h.2.2.2.2.2.2.1 h.2.2.2.2.2.2.2.1 h.2.2.2.2.2.2.2.2.1 h.2.2.2.2.2.2.2.2.2.1 h.2.2.2.2.2.2.2.2.2.2.1 h.2.2.2.2.2.2.2.2.2.2.2.1 h.2.2.2.2.2.2.2.2.2.2.2.2.1 h.2.2.2.2.2.2.2.2.2.2.2.2.2):=bc _ _
def j4X[LP](p o q:J)(g:ai)(r:W)(f c k e l:J)(j:Y J)(b:ai)(i d:J):O ((J×J×J×ai×W×J×J×J×J×J×(Y J)×ai×J×J) ⊕ (J)):=
 let m:=w64 (o+1)
 (j0J (q,g) (r,(f,((c,k),(e,(l,(j,(b,(i,d)))))))) m).bind λa=>cond (cond (!a.2) Â (N (a.1>p))) (M (.inr o)) (let n:=w64 (o+1)
 M (.inl (p,n,q,g,r,f,c,k,e,l,j,b,i,d)))
def Kf[LP](l o m:J)(f:ai)(n:W)(e b j d k:J)(i:Y J)(a:ai)(g c:J):O Int:=LP.lp (u8 unc6 j4X) (l,o,m,f,n,e,b,j,d,k,i,a,g,c)
theorem jjK(l o m f n e b j d k i a g c):Kf l o m f n e b j d k i a g c=lpK (j4X l o m f n e b j d k i a g c) (λh=>Kf h.1 h.2.1 h.2.2.1 h.2.2.2.1 h.2.2.2.2.1 h.2.2.2.2.2.1 h.2.2.2.2.2.2.1 h.2.2.2.2.2.2.2.1 h.2.2.2.2.2.2.2.2.1 h.2.2.2.2.2.2.2.2.2.1 h.2.2.2.2.2.2.2.2.2.2.1 h.2.2.2.2.2.2.2.2.2.2.2.1 h.2.2.2.2.2.2.2.2.2.2.2.2.1 h.2.2.2.2.2.2.2.2.2.2.2.2.2):=bc _ _
def j4b[LP](c:fX)(a:fq)(d:J):O Int:=(j0J (c.1,c.2) (a.1,(a.2.1,((a.2.2.1.1,a.2.2.1.2),(a.2.2.2.1,(a.2.2.2.2.1,(a.2.2.2.2.2.1,(a.2.2.2.2.2.2.1,(a.2.2.2.2.2.2.2.1,a.2.2.2.2.2.2.2.2)))))))) 0).bind λe=>cond (cond (!e.2) Â (N (e.1>d))) (M (-1)) (cond (a.2.2.2.1==0) (let m:=w64 (d-e.1)
 let i:=w64 (3600*a.2.2.2.2.1)
 cond (!(i==0)) (let k:=w64 (È m i)
 M k) Z) ((j1y (c.1,c.2) d).bind λn=>let j:=w64 (n.1-a.2.2.1.1)
 (jaL (a.1,(a.2.1,((a.2.2.1.1,a.2.2.1.2),(a.2.2.2.1,(a.2.2.2.2.1,(a.2.2.2.2.2.1,(a.2.2.2.2.2.2.1,(a.2.2.2.2.2.2.2.1,a.2.2.2.2.2.2.2.2))))))))).bind λg=>cond (!(g==0)) (let f:=w64 (È j g)
 let l:Int:=if f>0 then f else 0
 (Ke d l c.1 c.2 a.1 a.2.1 a.2.2.1.1 a.2.2.1.2 a.2.2.2.1 a.2.2.2.2.1 a.2.2.2.2.2.1 a.2.2.2.2.2.2.1 a.2.2.2.2.2.2.2.1 a.2.2.2.2.2.2.2.2).bind λb=>(Kf b.1 b.2.1 b.2.2.1 b.2.2.2.1 b.2.2.2.2.1 b.2.2.2.2.2.1 b.2.2.2.2.2.2.1 b.2.2.2.2.2.2.2.1 b.2.2.2.2.2.2.2.2.1 b.2.2.2.2.2.2.2.2.2.1 b.2.2.2.2.2.2.2.2.2.2.1 b.2.2.2.2.2.2.2.2.2.2.2.1 b.2.2.2.2.2.2.2.2.2.2.2.2.1 b.2.2.2.2.2.2.2.2.2.2.2.2.2).bind λo=>M o) Z))
def j4Y(f:af)(m e:J)(b:af):O ((af×J×J×af) ⊕ (af)):=cond (N (e<m)) (cond (inR e f.length) (let a:=S f e.toNat (0,(0,0))
 cond (N (a.2.1<=a.1)) (let v:=w64 (e+1)
 M (.inl (f,m,v,b))) (let c:=U b.length
 cond (N (c>0)) (let i:=w64 (c-1)
 cond (inR i b.length) (let w:=(S b i.toNat (0,(0,0))).2.1
 cond (w==a.1) (let g:=w64 (c-1)
 cond (inR g b.length) (let u:=(S b g.toNat (0,(0,0))).2.2
 cond (u==a.2.2) (let d:=w64 (c-1)
 cond (inR d b.length) (let x:af:=Ê b d.toNat ((S b d.toNat (0,(0,0))).1,(a.2.1,(S b d.toNat (0,(0,0))).2.2))
 let t:=w64 (e+1)
 M (.inl (f,m,t,x))) Z) (let l:af:=[(a.1,(a.2.1,a.2.2))]
 cond (N (X b+X l<=aM)) (let p:af:=b++l
 let s:=w64 (e+1)
 M (.inl (f,m,s,p))) Z)) Z) (let j:af:=[(a.1,(a.2.1,a.2.2))]
 cond (N (X b+X j<=aM)) (let r:af:=b++j
 let n:=w64 (e+1)
 M (.inl (f,m,n,r))) Z)) Z) (let k:af:=[(a.1,(a.2.1,a.2.2))]
 cond (N (X b+X k<=aM)) (let q:af:=b++k
 let o:=w64 (e+1)
 M (.inl (f,m,o,q))) Z))) Z) (M (.inr b))
def CW[LP](a:af)(c d:J)(b:af):O af:=LP.lp (unc4 j4Y) (a,c,d,b)
theorem Zg(c a b d):CW c a b d=lpK (j4Y c a b d) (λh=>CW h.1 h.2.1 h.2.2.1 h.2.2.2):=bc _ _
def jaM[LP](a:af):O af:=
 let c:=U a.length
 (CW a c 0 ([]:af)).bind λb=>M b
def j2T[LP](b4 o b0 u a0 a2:J)(a7:W)(m k e f j:J)(a:Y J)(l:ai)(g i p:J)(c:ai)(b2 b:J)(z:af)(a4:ai):O ((J×J×J×J×J×J×W×J×J×J×J×J×(Y J)×ai×J×J×J×ai×J×J×af×ai) ⊕ (J×J×J×J×J×J×W×J×J×J×J×J×(Y J)×ai×J×J×J×ai×af×ai)):=cond (N (o<b)) (cond (N (o>=u)) ((j4b (p,c) (a7,(m,((k,e),(f,(j,(a,(l,(g,i)))))))) o).bind λd=>let b7:=w64 (d+1)
 (j0J (p,c) (a7,(m,((k,e),(f,(j,(a,(l,(g,i)))))))) b7).bind λn=>cond (!n.2) (let a3:Int:=if 8589934593<b then 8589934593 else b
 let a1:=U a.length
 cond (!(a1==0)) (let a6:=Ã d a1
 cond (inR a6 a.length) (let b6:=S a a6.toNat 0
 let a5:af:=[(o,(a3,b6))]
 cond (N (X z+X a5<=aM)) (let b5:af:=z++a5
 M (.inl (b4,a3,d,8589934593,a0,a2,a7,m,k,e,f,j,a,l,g,i,p,c,b2,b,b5,a4))) Z) Z) Z) (let y:Int:=if n.1<b then n.1 else b
 let w:=U a.length
 cond (!(w==0)) (let t:=Ã d w
 cond (inR t a.length) (let a8:=S a t.toNat 0
 let q:af:=[(o,(y,a8))]
 cond (N (X z+X q<=aM)) (let b3:af:=z++q
 M (.inl (b4,y,d,n.1,a0,a2,a7,m,k,e,f,j,a,l,g,i,p,c,b2,b,b3,a4))) Z) Z) Z)) (let s:Int:=if u<b then u else b
 let x:=U a.length
 cond (!(x==0)) (let v:=Ã b0 x
 cond (inR v a.length) (let a9:=S a v.toNat 0
 let r:af:=[(o,(s,a9))]
 cond (N (X z+X r<=aM)) (let b1:af:=z++r
 M (.inl (b4,s,b0,u,a0,a2,a7,m,k,e,f,j,a,l,g,i,p,c,b2,b,b1,a4))) Z) Z) Z)) (M (.inr (b4,o,b0,u,a0,a2,a7,m,k,e,f,j,a,l,g,i,p,c,z,a4)))
def F5[LP](v o q r m n:J)(u:W)(l i c d g:J)(j:Y J)(k:ai)(e f s:J)(b:ai)(t a:J)(w:af)(p:ai):O (J×J×J×J×J×J×W×J×J×J×J×J×(Y J)×ai×J×J×J×ai×af×ai):=LP.lp (u8 (u8 unc6) j2T) (v,o,q,r,m,n,u,l,i,c,d,g,j,k,e,f,s,b,t,a,w,p)
theorem jfs(v o q r m n u l i c d g j k e f s b t a w p):F5 v o q r m n u l i c d g j k e f s b t a w p=lpK (j2T v o q r m n u l i c d g j k e f s b t a w p) (λh=>F5 h.1 h.2.1 h.2.2.1 h.2.2.2.1 h.2.2.2.2.1 h.2.2.2.2.2.1 h.2.2.2.2.2.2.1 h.2.2.2.2.2.2.2.1 h.2.2.2.2.2.2.2.2.1 h.2.2.2.2.2.2.2.2.2.1 h.2.2.2.2.2.2.2.2.2.2.1 h.2.2.2.2.2.2.2.2.2.2.2.1 h.2.2.2.2.2.2.2.2.2.2.2.2.1 h.2.2.2.2.2.2.2.2.2.2.2.2.2.1 h.2.2.2.2.2.2.2.2.2.2.2.2.2.2.1 h.2.2.2.2.2.2.2.2.2.2.2.2.2.2.2.1 h.2.2.2.2.2.2.2.2.2.2.2.2.2.2.2.2.1 h.2.2.2.2.2.2.2.2.2.2.2.2.2.2.2.2.2.1 h.2.2.2.2.2.2.2.2.2.2.2.2.2.2.2.2.2.2.1 h.2.2.2.2.2.2.2.2.2.2.2.2.2.2.2.2.2.2.2.1 h.2.2.2.2.2.2.2.2.2.2.2.2.2.2.2.2.2.2.2.2.1 h.2.2.2.2.2.2.2.2.2.2.2.2.2.2.2.2.2.2.2.2.2):=bc _ _
def j1U[LP](w k v x j c:J)(z:W)(u q l m p:J)(s:Y J)(t:ai)(n o y:J)(f:ai)(r:af)(e:ai):O ((J×J×J×J×J×J×W×J×J×J×J×J×(Y J)×ai×J×J×J×ai×af×ai) ⊕ (J×J×af)):=cond (N (c<j)) (cond (inR c e.length) (let b:=S e c.toNat (0,0)
 let d:af:=[(k,(b.1,(-1)))]
 cond (N (X r+X d<=aM)) (let i:af:=r++d
 (F5 w b.1 v x j c z u q l m p s t n o y f b.1 b.2 i e).bind λa=>let g:=w64 (a.2.2.2.2.2.1+1)
 M (.inl (a.1,a.2.1,a.2.2.1,a.2.2.2.1,a.2.2.2.2.1,g,a.2.2.2.2.2.2.1,a.2.2.2.2.2.2.2.1,a.2.2.2.2.2.2.2.2.1,a.2.2.2.2.2.2.2.2.2.1,a.2.2.2.2.2.2.2.2.2.2.1,a.2.2.2.2.2.2.2.2.2.2.2.1,a.2.2.2.2.2.2.2.2.2.2.2.2.1,a.2.2.2.2.2.2.2.2.2.2.2.2.2.1,a.2.2.2.2.2.2.2.2.2.2.2.2.2.2.1,a.2.2.2.2.2.2.2.2.2.2.2.2.2.2.2.1,a.2.2.2.2.2.2.2.2.2.2.2.2.2.2.2.2.1,a.2.2.2.2.2.2.2.2.2.2.2.2.2.2.2.2.2.1,a.2.2.2.2.2.2.2.2.2.2.2.2.2.2.2.2.2.2.1,a.2.2.2.2.2.2.2.2.2.2.2.2.2.2.2.2.2.2.2))) Z) Z) (M (.inr (w,k,r)))
def F6[LP](t n p q l m:J)(s:W)(k g b c f:J)(i:Y J)(j:ai)(d e r:J)(a:ai)(u:af)(o:ai):O (J×J×af):=LP.lp (u8 (u8 unc4) j1U) (t,n,p,q,l,m,s,k,g,b,c,f,i,j,d,e,r,a,u,o)
theorem Zh(t n p q l m s k g b c f i j d e r a u o):F6 t n p q l m s k g b c f i j d e r a u o=lpK (j1U t n p q l m s k g b c f i j d e r a u o) (λh=>F6 h.1 h.2.1 h.2.2.1 h.2.2.2.1 h.2.2.2.2.1 h.2.2.2.2.2.1 h.2.2.2.2.2.2.1 h.2.2.2.2.2.2.2.1 h.2.2.2.2.2.2.2.2.1 h.2.2.2.2.2.2.2.2.2.1 h.2.2.2.2.2.2.2.2.2.2.1 h.2.2.2.2.2.2.2.2.2.2.2.1 h.2.2.2.2.2.2.2.2.2.2.2.2.1 h.2.2.2.2.2.2.2.2.2.2.2.2.2.1 h.2.2.2.2.2.2.2.2.2.2.2.2.2.2.1 h.2.2.2.2.2.2.2.2.2.2.2.2.2.2.2.1 h.2.2.2.2.2.2.2.2.2.2.2.2.2.2.2.2.1 h.2.2.2.2.2.2.2.2.2.2.2.2.2.2.2.2.2.1 h.2.2.2.2.2.2.2.2.2.2.2.2.2.2.2.2.2.2.1 h.2.2.2.2.2.2.2.2.2.2.2.2.2.2.2.2.2.2.2):=bc _ _
def j1Z[LP](b:nF)(a:fq)(c d:J):O af:=cond (inR a.2.1 b.2.length) (let f:=S b.2 a.2.1.toNat (0,([]:ai))
 (j7C ((b.1.1,(b.1.2.1,(b.1.2.2.1,b.1.2.2.2))),b.2) (a.1,(a.2.1,((a.2.2.1.1,a.2.2.1.2),(a.2.2.2.1,(a.2.2.2.2.1,(a.2.2.2.2.2.1,(a.2.2.2.2.2.2.1,(a.2.2.2.2.2.2.2.1,a.2.2.2.2.2.2.2.2)))))))) c d).bind λi=>let k:=U i.length
 (F6 d c (-1) (-1) k 0 a.1 a.2.1 a.2.2.1.1 a.2.2.1.2 a.2.2.2.1 a.2.2.2.2.1 a.2.2.2.2.2.1 a.2.2.2.2.2.2.1 a.2.2.2.2.2.2.2.1 a.2.2.2.2.2.2.2.2 f.1 f.2 ([]:af) i).bind λe=>let g:af:=[(e.2.1,(e.1,(-1)))]
 cond (N (X e.2.2+X g<=aM)) (let l:af:=e.2.2++g
 (jaM l).bind λj=>M j) Z) Z
def j45(k:J)(i:aX)(d b:J)(e:ai):O ((J×aX×J×J×ai) ⊕ (ai)):=cond (N (b<d)) (cond (inR b i.length) (let a:=S i b.toNat (0,(0,(0,(0,0))))
 cond (cond (a.1==0) (a.2.1==k) Á) (let c:ai:=[(a.2.2.2.1,a.2.2.2.2)]
 cond (N (X e+X c<=aM)) (let g:ai:=e++c
 let j:=w64 (b+1)
 M (.inl (k,i,d,j,g))) Z) (let f:=w64 (b+1)
 M (.inl (k,i,d,f,e)))) Z) (M (.inr e))
def F7[LP](e:J)(d:aX)(a b:J)(c:ai):O ai:=LP.lp (unc5 j45) (e,d,a,b,c)
theorem Zi(e d a b c):F7 e d a b c=lpK (j45 e d a b c) (λh=>F7 h.1 h.2.1 h.2.2.1 h.2.2.2.1 h.2.2.2.2):=bc _ _
def j7E[LP](b:mA)(a:J):O ai:=
 let d:=U b.2.2.length
 (F7 a b.2.2 d 0 ([]:ai)).bind λe=>(j9y e).bind λc=>M c
def j3p(m:af)(k l n b:J)(r:W)(f:ba)(d:aX)(s o e:J)(q:dz)(p:af)(g:ai):O ((af×J×J×J×J×W×ba×aX×J×J×J×dz×af×ai) ⊕ (af×J×J×W×ba×aX×dz×af)):=cond (N (b<n)) (cond (inR b g.length) (let a:=S g b.toNat (0,0)
 let c:af:=[(a.1,(a.2,e))]
 cond (N (X p+X c<=aM)) (let i:af:=p++c
 let j:=w64 (b+1)
 M (.inl (m,k,l,n,j,r,f,d,s,o,e,q,i,g))) Z) Z) (M (.inr (m,k,l,r,f,d,q,p)))
def AP[LP](i:af)(e g k f:J)(o:W)(d:ba)(a:aX)(l b c:J)(m:dz)(n:af)(j:ai):O (af×J×J×W×ba×aX×dz×af):=LP.lp (u8 unc6 j3p) (i,e,g,k,f,o,d,a,l,b,c,m,n,j)
theorem Zj(i e g k f o d a l b c m n j):AP i e g k f o d a l b c m n j=lpK (j3p i e g k f o d a l b c m n j) (λh=>AP h.1 h.2.1 h.2.2.1 h.2.2.2.1 h.2.2.2.2.1 h.2.2.2.2.2.1 h.2.2.2.2.2.2.1 h.2.2.2.2.2.2.2.1 h.2.2.2.2.2.2.2.2.1 h.2.2.2.2.2.2.2.2.2.1 h.2.2.2.2.2.2.2.2.2.2.1 h.2.2.2.2.2.2.2.2.2.2.2.1 h.2.2.2.2.2.2.2.2.2.2.2.2.1 h.2.2.2.2.2.2.2.2.2.2.2.2.2):=bc _ _
def j3q[LP](g:af)(i d:J)(r:W)(e:ba)(f:aX)(l:dz)(u:af):O ((af×J×J×W×ba×aX×dz×af) ⊕ (af)):=cond (N (d<i)) (cond (inR d g.length) (let a:=S g d.toNat (0,(0,0))
 cond (N (a.2.2<0)) (let t:=w64 (d+1)
 M (.inl (g,i,t,r,e,f,l,u))) (let z:ai:=di ([]:ai) l a.2.2
 cond (!(ej l a.2.2)) ((j7E (r,(e,f)) a.2.2).bind λs=>let m:dz:=eD l a.2.2 s
 let y:ai:=[(a.1,a.2.1)]
 let v:ai:=di ([]:ai) m a.2.2
 (j2Q y v).bind λk=>let p:=U k.length
 (AP g i d p 0 r e f a.1 a.2.1 a.2.2 m u k).bind λc=>let o:=w64 (c.2.2.1+1)
 M (.inl (c.1,c.2.1,o,c.2.2.2.1,c.2.2.2.2.1,c.2.2.2.2.2.1,c.2.2.2.2.2.2.1,c.2.2.2.2.2.2.2))) (let n:ai:=[(a.1,a.2.1)]
 let x:ai:=di ([]:ai) l a.2.2
 (j2Q n x).bind λj=>let q:=U j.length
 (AP g i d q 0 r e f a.1 a.2.1 a.2.2 l u j).bind λb=>let w:=w64 (b.2.2.1+1)
 M (.inl (b.1,b.2.1,w,b.2.2.2.1,b.2.2.2.2.1,b.2.2.2.2.2.1,b.2.2.2.2.2.2.1,b.2.2.2.2.2.2.2))))) Z) (M (.inr u))
def CX[LP](e:af)(c d:J)(i:W)(b:ba)(a:aX)(f:dz)(g:af):O af:=LP.lp (unc8 j3q) (e,c,d,i,b,a,f,g)
theorem Zk(e c d i b a f g):CX e c d i b a f g=lpK (j3q e c d i b a f g) (λh=>CX h.1 h.2.1 h.2.2.1 h.2.2.2.1 h.2.2.2.2.1 h.2.2.2.2.2.1 h.2.2.2.2.2.2.1 h.2.2.2.2.2.2.2):=bc _ _
def j9Z[LP](a:mA)(b:af):O af:=
 let d:dz:=[]
 let c:=U b.length
 (CX b c 0 a.1 a.2.1 a.2.2 d ([]:af)).bind λe=>M e
def j5C(b:af)(c:ai)(a d:J)(n:af):O ((af×ai×J×J×af) ⊕ (af)):=
 let r:=U b.length
 let o:=U c.length
 cond (cond (N (a<r)) (N (d<o)) Á) (cond (inR a b.length) (let g:=S b a.toNat (0,(0,0))
 cond (inR d c.length) (let l:=S c d.toNat (0,0)
 let k:Int:=if l.1>g.1 then l.1 else g.1
 cond (inR a b.length) (let f:=S b a.toNat (0,(0,0))
 cond (inR d c.length) (let m:=S c d.toNat (0,0)
 let e:Int:=if m.2<f.2.1 then m.2 else f.2.1
 cond (inR a b.length) (let u:=S b a.toNat (0,(0,0))
 cond (N (k<e)) (let i:af:=[(k,(e,u.2.2))]
 cond (N (X n+X i<=aM)) (let j:af:=n++i
 cond (inR a b.length) (let t:=S b a.toNat (0,(0,0))
 cond (inR d c.length) (let w:=S c d.toNat (0,0)
 cond (N (t.2.1<w.2)) (let v:=w64 (a+1)
 M (.inl (b,c,v,d,j))) (let q:=w64 (d+1)
 M (.inl (b,c,a,q,j)))) Z) Z) Z) (cond (inR a b.length) (let s:=S b a.toNat (0,(0,0))
 cond (inR d c.length) (let y:=S c d.toNat (0,0)
 cond (N (s.2.1<y.2)) (let x:=w64 (a+1)
 M (.inl (b,c,x,d,n))) (let p:=w64 (d+1)
 M (.inl (b,c,a,p,n)))) Z) Z)) Z) Z) Z) Z) Z) (M (.inr n))
def AQ[LP](e:af)(c:ai)(d b:J)(a:af):O af:=LP.lp (unc5 j5C) (e,c,d,b,a)
theorem jkL(e c d b a):AQ e c d b a=lpK (j5C e c d b a) (λh=>AQ h.1 h.2.1 h.2.2.1 h.2.2.2.1 h.2.2.2.2):=bc _ _
def jem[LP](b:af)(a:ai):O af:=(AQ b a 0 0 ([]:af)).bind λc=>M c
def j4x(f:af)(i c:J)(g:ai):O ((af×J×J×ai) ⊕ (ai)):=cond (N (c<i)) (cond (inR c f.length) (let a:=S f c.toNat (0,(0,0))
 let b:ai:=[(a.1,a.2.1)]
 cond (N (X g+X b<=aM)) (let e:ai:=g++b
 let d:=w64 (c+1)
 M (.inl (f,i,d,e))) Z) Z) (M (.inr g))
def F8[LP](b:af)(d a:J)(c:ai):O ai:=LP.lp (unc4 j4x) (b,d,a,c)
theorem Zl(c b a d):F8 c b a d=lpK (j4x c b a d) (λh=>F8 h.1 h.2.1 h.2.2.1 h.2.2.2):=bc _ _
def jdf[LP](a:af):O ai:=
 let c:=U a.length
 (F8 a c 0 ([]:ai)).bind λd=>(j9y d).bind λb=>M b
def j35(a b:od):O Int:=
 let c:=w64 (a.1-b.1)
 M c
def j0s(a:af):O af:=
 xU (.pair (.int .i64) (.pair (.int .i64) (.int .i64))) (λb c=>(j35 b c).getD 0) a
def j2k[LP](s:J)(k:ba)(v:ao)(g:aq)(e:ar)(i:au)(j:dz)(t:W)(l:ba)(f:aX)(w u:J)(d:ai)(b:af):O ((J×ba×ao×aq×ar×au×dz×W×ba×aX×J×J×ai×af) ⊕ (ai×af)):=cond (N (s<=0)) (M (.inr (d,b))) (cond (N (s<=U k.length)) (let q:Int:=s-1
 let a:=S k q.toNat (À,(0,((0,0),(0,(0,(([]:(Y J)),(([]:ai),(0,0))))))))
 (j1Z ((v,(g,(e,i))),j) (a.1,(a.2.1,((a.2.2.1.1,a.2.2.1.2),(a.2.2.2.1,(a.2.2.2.2.1,(a.2.2.2.2.2.1,(a.2.2.2.2.2.2.1,(a.2.2.2.2.2.2.2.1,a.2.2.2.2.2.2.2.2)))))))) w u).bind λn=>(j9Z (t,(l,f)) n).bind λr=>(jem r d).bind λc=>cond (N (X b+X c<=aM)) (let o:af:=b++c
 (jdf c).bind λp=>(j2Q d p).bind λm=>M (.inl ((s-1),k,v,g,e,i,j,t,l,f,w,u,m,o))) Z) Z)
def F9[LP](o:J)(j:ba)(m:ao)(e:aq)(b:ar)(i:au)(d:dz)(n:W)(g:ba)(c:aX)(k l:J)(f:ai)(a:af):O (ai×af):=LP.lp (u8 unc6 j2k) (o,j,m,e,b,i,d,n,g,c,k,l,f,a)
theorem Zm(o j m e b i d n g c k l f a):F9 o j m e b i d n g c k l f a=lpK (j2k o j m e b i d n g c k l f a) (λh=>F9 h.1 h.2.1 h.2.2.1 h.2.2.2.1 h.2.2.2.2.1 h.2.2.2.2.2.1 h.2.2.2.2.2.2.1 h.2.2.2.2.2.2.2.1 h.2.2.2.2.2.2.2.2.1 h.2.2.2.2.2.2.2.2.2.1 h.2.2.2.2.2.2.2.2.2.2.1 h.2.2.2.2.2.2.2.2.2.2.2.1 h.2.2.2.2.2.2.2.2.2.2.2.2.1 h.2.2.2.2.2.2.2.2.2.2.2.2.2):=bc _ _
def j2l(i d:J)(e:ai)(a:af):O ((J×J×ai×af) ⊕ (af)):=cond (N (d<i)) (cond (inR d e.length) (let b:=S e d.toNat (0,0)
 let c:af:=[(b.1,(b.2,(-1)))]
 cond (N (X a+X c<=aM)) (let f:af:=a++c
 let g:=w64 (d+1)
 M (.inl (i,g,e,f))) Z) Z) (M (.inr a))
def Ga[LP](c d:J)(b:ai)(a:af):O af:=LP.lp (unc4 j2l) (c,d,b,a)
theorem Zn(b d c a):Ga b d c a=lpK (j2l b d c a) (λh=>Ga h.1 h.2.1 h.2.2.1 h.2.2.2):=bc _ _
def j4O[LP](b:nF)(c:mA)(a d:J):O af:=cond (N (a>=d)) (M ([]:af)) (let j:ai:=[(a,d)]
 (j29 c.2.1).bind λe=>(F9 (U e.length) e b.1.1 b.1.2.1 b.1.2.2.1 b.1.2.2.2 b.2 c.1 c.2.1 c.2.2 a d j ([]:af)).bind λf=>let i:=U f.1.length
 (Ga i 0 f.1 f.2).bind λl=>(j0s l).bind λk=>(jaM k).bind λg=>M g)
def jcA(a:J):O Bool:=M (a != a)
def jen(b a:J):O Bool:=(jcA b).bind λd=>cond d ((jcA a).bind λc=>M (cond (!c) Â (N (b<a)))) (M (N (b<a)))
def j97(a:J):O Bool:=M (a != a)
def j1n(b:Y J)(k m g l:J):O (((Y J)×J×J×J×J) ⊕ ((Y J)×J×J×J)):=cond (N (g<l)) (let c:=w64 (g+l)
 let d:Int:=IntKind.wrap .u64 c
 let i:Int:=Ï d 2
 let a:=w64 i
 cond (inR a b.length) (let j:=S b a.toNat 0
 (jen j k).bind λf=>cond f (let e:=w64 (a+1)
 M (.inl (b,k,m,e,l))) (M (.inl (b,k,m,g,a)))) Z) (M (.inr (b,k,m,g)))
def Kg[LP](e:Y J)(c d b a:J):O ((Y J)×J×J×J):=LP.lp (unc5 j1n) (e,c,d,b,a)
theorem ja0(e c d b a):Kg e c d b a=lpK (j1n e c d b a) (λh=>Kg h.1 h.2.1 h.2.2.1 h.2.2.2.1 h.2.2.2.2):=bc _ _
def j2B[LP](c:Y J)(b:J):O (J×Å):=
 let e:=U c.length
 (Kg c b e 0 e).bind λa=>cond ((inR a.2.2.2 a.1.length) || !(N (a.2.2.2<a.2.2.1))) (let d:=S a.1 a.2.2.2.toNat 0
 cond ((inR a.2.2.2 a.1.length) || !((N (a.2.2.2<a.2.2.1))&&(!(d==a.2.1)))) (let g:=S a.1 a.2.2.2.toNat 0
 cond (N (a.2.2.2<a.2.2.1)) (cond (d==a.2.1) (M (a.2.2.2,Â)) ((j97 g).bind λf=>cond f ((j97 a.2.1).bind λi=>M (a.2.2.2,i)) (M (a.2.2.2,Á)))) (cond ((d==a.2.1) || !Á) (M (a.2.2.2,Á)) Z)) Z) Z
def jjL(b:qX)(a:J):O Bool:=M (cond (N (b.2.2.2.1<=a)) (N (a<b.2.2.2.2)) Á)
def j5X(f e:J)(d:aX)(c b:J):O ((J×J×aX×J×J) ⊕ (J)):=cond (N (b<c)) (cond (inR b d.length) (let a:=S d b.toNat (0,(0,(0,(0,0))))
 (jjL (a.1,(a.2.1,(a.2.2.1,(a.2.2.2.1,a.2.2.2.2)))) e).bind λm=>cond (cond (!m) Â (a.1==0)) (let l:=w64 (b+1)
 M (.inl (f,e,d,c,l))) (cond (a.1==1) (let j:=w64 (b+1)
 M (.inl (a.2.1,e,d,c,j))) (cond (a.1 != 2) (let n:=w64 (b+1)
 M (.inl (f,e,d,c,n))) (cond (f==a.2.1) (let k:=w64 (b+1)
 M (.inl (a.2.2.1,e,d,c,k))) (cond (f==a.2.2.1) (let g:=w64 (b+1)
 M (.inl (a.2.1,e,d,c,g))) (let i:=w64 (b+1)
 M (.inl (f,e,d,c,i)))))))) Z) (M (.inr f))
def Gb[LP](e c:J)(d:aX)(a b:J):O Int:=LP.lp (unc5 j5X) (e,c,d,a,b)
theorem Zo(e c d a b):Gb e c d a b=lpK (j5X e c d a b) (λh=>Gb h.1 h.2.1 h.2.2.1 h.2.2.2.1 h.2.2.2.2):=bc _ _
def jkM[LP](b:aX)(a c:J):O Int:=
 let d:=U b.length
 (Gb a c b d 0).bind λe=>M e
def j2C(q p:J)(g:aX)(n c:J)(r:ao)(i:aq)(d:ar)(k:au)(f:dz)(s:W)(j:ba)(e:aX)(o:Y J):O ((J×J×aX×J×J×ao×aq×ar×au×dz×W×ba×aX×(Y J)) ⊕ (J×J×ao×aq×ar×au×dz×W×ba×aX×(Y J))):=cond (N (c<n)) (cond (inR c g.length) (let a:=S g c.toNat (0,(0,(0,(0,0))))
 let b:Y Int:=[a.2.2.2.1,a.2.2.2.2]
 cond (N (X o+X b<=aM)) (let m:Y Int:=o++b
 let l:=w64 (c+1)
 M (.inl (q,p,g,n,l,r,i,d,k,f,s,j,e,m))) Z) Z) (M (.inr (q,p,r,i,d,k,f,s,j,e,o)))
def Gc[LP](l k:J)(g:aX)(i j:J)(n:ao)(d:aq)(a:ar)(f:au)(c:dz)(o:W)(e:ba)(b:aX)(m:Y J):O (J×J×ao×aq×ar×au×dz×W×ba×aX×(Y J)):=LP.lp (u8 unc6 j2C) (l,k,g,i,j,n,d,a,f,c,o,e,b,m)
theorem Zp(l k g i j n d a f c o e b m):Gc l k g i j n d a f c o e b m=lpK (j2C l k g i j n d a f c o e b m) (λh=>Gc h.1 h.2.1 h.2.2.1 h.2.2.2.1 h.2.2.2.2.1 h.2.2.2.2.2.1 h.2.2.2.2.2.2.1 h.2.2.2.2.2.2.2.1 h.2.2.2.2.2.2.2.2.1 h.2.2.2.2.2.2.2.2.2.1 h.2.2.2.2.2.2.2.2.2.2.1 h.2.2.2.2.2.2.2.2.2.2.2.1 h.2.2.2.2.2.2.2.2.2.2.2.2.1 h.2.2.2.2.2.2.2.2.2.2.2.2.2):=bc _ _
def j2D[LP](j k r p:J)(s:W)(l:ba)(b:aX)(t a f:J)(e:Y J)(i q:af):O ((J×J×J×J×W×ba×aX×J×J×J×(Y J)×af×af) ⊕ (J×J×W×ba×aX×(Y J)×af×af)):=cond (N (k<a)) (cond (inR j e.length) (let d:=S e j.toNat 0
 let g:Int:=if d<a then d else a
 (jkM b f k).bind λo=>let c:af:=[(k,(g,o))]
 cond (N (X i+X c<=aM)) (let n:af:=i++c
 let m:=w64 (j+1)
 M (.inl (m,g,r,p,s,l,b,t,a,f,e,n,q))) Z) Z) (M (.inr (r,p,s,l,b,e,i,q)))
def Kh[LP](e i g j:J)(n:W)(d:ba)(c:aX)(k b a:J)(l:Y J)(m f:af):O (J×J×W×ba×aX×(Y J)×af×af):=LP.lp (u8 unc5 j2D) (e,i,g,j,n,d,c,k,b,a,l,m,f)
theorem Zq(e i g j n d c k b a l m f):Kh e i g j n d c k b a l m f=lpK (j2D e i g j n d c k b a l m f) (λh=>Kh h.1 h.2.1 h.2.2.1 h.2.2.2.1 h.2.2.2.2.1 h.2.2.2.2.2.1 h.2.2.2.2.2.2.1 h.2.2.2.2.2.2.2.1 h.2.2.2.2.2.2.2.2.1 h.2.2.2.2.2.2.2.2.2.1 h.2.2.2.2.2.2.2.2.2.2.1 h.2.2.2.2.2.2.2.2.2.2.2.1 h.2.2.2.2.2.2.2.2.2.2.2.2):=bc _ _
def j2E[LP](i c:J)(n:W)(m:ba)(l:aX)(j:Y J)(k d:af):O ((J×J×W×ba×aX×(Y J)×af×af) ⊕ (af)):=cond (N (c<i)) (cond (inR c d.length) (let b:=S d c.toNat (0,(0,0))
 let g:=w64 (b.1+1)
 (j2B j g).bind λf=>(Kh f.1 b.1 i c n m l b.1 b.2.1 b.2.2 j k d).bind λa=>let e:=w64 (a.2.1+1)
 M (.inl (a.1,e,a.2.2.1,a.2.2.2.1,a.2.2.2.2.1,a.2.2.2.2.2.1,a.2.2.2.2.2.2.1,a.2.2.2.2.2.2.2))) Z) (M (.inr k))
def Gd[LP](d e:J)(i:W)(b:ba)(a:aX)(f:Y J)(g c:af):O af:=LP.lp (unc8 j2E) (d,e,i,b,a,f,g,c)
theorem Zr(d e i b a f g c):Gd d e i b a f g c=lpK (j2E d e i b a f g c) (λh=>Gd h.1 h.2.1 h.2.2.1 h.2.2.2.1 h.2.2.2.2.1 h.2.2.2.2.2.1 h.2.2.2.2.2.2.1 h.2.2.2.2.2.2.2):=bc _ _
def j7F[LP](b:nF)(c:mA)(d e:J):O af:=
 let k:=U c.2.2.length
 (Gc d e c.2.2 k 0 b.1.1 b.1.2.1 b.1.2.2.1 b.1.2.2.2 b.2 c.1 c.2.1 c.2.2 ([]:(Y J))).bind λa=>(jkK a.2.2.2.2.2.2.2.2.2.2 a.1 a.2.1).bind λj=>(j4O ((a.2.2.1,(a.2.2.2.1,(a.2.2.2.2.1,a.2.2.2.2.2.1))),a.2.2.2.2.2.2.1) (a.2.2.2.2.2.2.2.1,(a.2.2.2.2.2.2.2.2.1,a.2.2.2.2.2.2.2.2.2.1)) a.1 a.2.1).bind λf=>let g:=U f.length
 (Gd g 0 a.2.2.2.2.2.2.2.1 a.2.2.2.2.2.2.2.2.1 a.2.2.2.2.2.2.2.2.2.1 j ([]:af) f).bind λl=>(jaM l).bind λi=>M i
def j3r[LP](b:cO)(a d e:J):O (af×J):=(jaK (b.1,(b.2.1,(b.2.2.1,b.2.2.2))) a d e).bind λc=>cond (c.2 != 0) (M (([]:af),c.2)) (cond (inR a b.2.2.2.length) (let f:=S b.2.2.2 a.toNat (À,(([]:ba),([]:aX)))
 (j7F ((c.1.1.1,(c.1.1.2.1,(c.1.1.2.2.1,c.1.1.2.2.2))),c.1.2) (f.1,(f.2.1,f.2.2)) d e).bind λg=>let i:=U g.length
 cond (N (i>16384)) (M (([]:af),5)) (M (g,0))) Z)
def j2Z(k:J)(f:af)(j b:J)(g:ai):O ((J×af×J×J×ai) ⊕ (ai)):=cond (N (b<j)) (cond (inR b f.length) (let a:=S f b.toNat (0,(0,0))
 cond (a.2.2==k) (let c:ai:=[(a.1,a.2.1)]
 cond (N (X g+X c<=aM)) (let d:ai:=g++c
 let i:=w64 (b+1)
 M (.inl (k,f,j,i,d))) Z) (let e:=w64 (b+1)
 M (.inl (k,f,j,e,g)))) Z) (M (.inr g))
def Ge[LP](e:J)(b:af)(d a:J)(c:ai):O ai:=LP.lp (unc5 j2Z) (e,b,d,a,c)
theorem Zs(e b d a c):Ge e b d a c=lpK (j2Z e b d a c) (λh=>Ge h.1 h.2.1 h.2.2.1 h.2.2.2.1 h.2.2.2.2):=bc _ _
def j8K[LP](b:af)(a:J):O ai:=
 let d:=U b.length
 (Ge a b d 0 ([]:ai)).bind λe=>(j9y e).bind λc=>M c
def j4A(g:J)(f:ai)(i d:J):O ((J×ai×J×J) ⊕ (J)):=cond (N (d<i)) (cond (inR d f.length) (let a:=S f d.toNat (0,0)
 let e:=w64 (a.2-a.1)
 let b:=w64 (g+e)
 let c:=w64 (d+1)
 M (.inl (b,f,i,c))) Z) (M (.inr g))
def Gf[LP](b:J)(c:ai)(d a:J):O Int:=LP.lp (unc4 j4A) (b,c,d,a)
theorem Zt(a d c b):Gf a d c b=lpK (j4A a d c b) (λh=>Gf h.1 h.2.1 h.2.2.1 h.2.2.2):=bc _ _
def jg9[LP](a:ai):O Int:=
 let b:=U a.length
 (Gf 0 a b 0).bind λc=>M c
def j4B(m b:J)(d:dM)(l:af)(k:Y J):O ((J×J×dM×af×(Y J)) ⊕ (dM×af)):=cond (N (b<m)) (cond (inR b k.length) (let a:=S k b.toNat 0
 let e:Int:=(di (0,(0,0)) d a).1
 let j:Int:=(di (0,(0,0)) d a).2.1
 let g:Int:=(di (0,(0,0)) d a).2.2
 let c:af:=[(e,(j,g))]
 cond (N (X l+X c<=aM)) (let f:af:=l++c
 let i:=w64 (b+1)
 M (.inl (m,i,d,f,k))) Z) Z) (M (.inr (d,l)))
def Gg[LP](c a:J)(b:dM)(e:af)(d:Y J):O (dM×af):=LP.lp (unc5 j4B) (c,a,b,e,d)
theorem Zu(c a b e d):Gg c a b e d=lpK (j4B c a b e d) (λh=>Gg h.1 h.2.1 h.2.2.1 h.2.2.2.1 h.2.2.2.2):=bc _ _
def jaN[LP](a:dM):O (af×dM):=cond (Dt a) (let b:Y Int:=lh a
 let d:=U b.length
 (Gg d 0 a ([]:af) b).bind λc=>M (c.2,c.1)) Z
def j51(p n:J)(o:bn)(g e i:J)(c:ai)(d:af)(b:dM):O ((J×J×bn×J×J×J×ai×af×dM) ⊕ (J×J×bn×J×ai×af×dM)):=cond (N (e<g)) (cond (inR e d.length) (let a:=S d e.toNat (0,(0,0))
 cond (N (a.2.2>=0)) (let s:Int:=(di (0,(0,0)) b a.2.2).1
 let k:Int:=(di (0,(0,0)) b a.2.2).2.1
 let r:Int:=(di (0,(0,0)) b a.2.2).2.2
 let l:=w64 (k+a.2.1)
 let f:=w64 (l-a.1)
 let q:dM:=eD b a.2.2 (a.2.2,(f,f))
 let j:=w64 (e+1)
 M (.inl (p,n,o,g,j,i,c,d,q))) (let m:=w64 (e+1)
 M (.inl (p,n,o,g,m,i,c,d,b)))) Z) (M (.inr (p,n,o,i,c,d,b)))
def Gj[LP](j g:J)(i:bn)(c f e:J)(a:ai)(d:af)(b:dM):O (J×J×bn×J×ai×af×dM):=LP.lp (unc9 j51) (j,g,i,c,f,e,a,d,b)
theorem Zv(j g i c f e a d b):Gj j g i c f e a d b=lpK (j51 j g i c f e a d b) (λh=>Gj h.1 h.2.1 h.2.2.1 h.2.2.2.1 h.2.2.2.2.1 h.2.2.2.2.2.1 h.2.2.2.2.2.2.1 h.2.2.2.2.2.2.2.1 h.2.2.2.2.2.2.2.2):=bc _ _
def jcB[LP](x w:J)(u:bn)(p v s:J)(m:ai)(r n b:J)(l:af)(k:ai)(q:dM)(j:J)(a:od){t:Type}(o:od->O t):O t:=
 let i:=w64 (b-1)
 (j8K l j).bind λf=>(j9f f k).bind λc=>(jg9 c).bind λe=>let g:=w64 (i*e)
 let d:=w64 (a.2.2+g)
 o (a.1,(a.2.1,d))
def j52[LP](p o:J)(d:bn)(m c j:J)(b:ai)(n:af)(e:dM):O ((J×J×bn×J×J×J×ai×af×dM) ⊕ (dM)):=cond (N (c<m)) (cond (inR c d.length) (let a:=S d c.toNat ((0,0),0)
 let i:ai:=[(a.1.1,a.1.2)]
 (j2j (j,b) i p o).bind λl=>(rF (λ(g:J)(f:od)=>jcB p o d m c j b a.1.1 a.1.2 a.2 n l e g f M) e).bind λq=>let k:=w64 (c+1)
 M (.inl (p,o,d,m,k,j,b,n,q))) Z) (M (.inr e))
def Gk[LP](j i:J)(f:bn)(e g d:J)(a:ai)(c:af)(b:dM):O dM:=LP.lp (unc9 j52) (j,i,f,e,g,d,a,c,b)
theorem Zw(j i f e g d a c b):Gk j i f e g d a c b=lpK (j52 j i f e g d a c b) (λh=>Gk h.1 h.2.1 h.2.2.1 h.2.2.2.1 h.2.2.2.2.1 h.2.2.2.2.2.1 h.2.2.2.2.2.2.1 h.2.2.2.2.2.2.2.1 h.2.2.2.2.2.2.2.2):=bc _ _
def jaO[LP](a:cO)(c d g b:J)(j:bn):O (af×J):=(j3r (a.1,(a.2.1,(a.2.2.1,a.2.2.2))) c d g).bind λf=>cond (f.2 != 0) (M (([]:af),f.2)) (let q:=U a.1.length
 cond (cond (N (b<0)) Â (N (b>=q))) (M (([]:af),3)) ((jfo j).bind λo=>cond (o != 0) (M (([]:af),8)) (cond (inR b a.1.length) (let i:=S a.1 b.toNat (À,(0,([]:aY)))
 (jjH (i.1,(i.2.1,i.2.2))).bind λk=>let n:dM:=[]
 let m:=U f.1.length
 (Gj d g j m 0 k.1.1 k.1.2 f.1 n).bind λe=>let p:=U e.2.2.1.length
 (Gk e.1 e.2.1 e.2.2.1 p 0 e.2.2.2.1 e.2.2.2.2.1 e.2.2.2.2.2.1 e.2.2.2.2.2.2).bind λr=>(jaN r).bind λl=>M (l.1,0)) Z)))
def joa(a:J):O Bool:=M (cond (N (a>=48)) (N (a<=57)) Á)
def j6F(b:W)(a:J):O ((W×J) ⊕ (Å ⊕ Æ)):=
 let l:=U (Ä b)
 cond (N (a<l)) (cond (inR a (Ä b)) (let d:=dG b a
 cond ((inR a (Ä b)) || !(!(N (d<97)))) (let e:=dG b a
 cond ((inR a (Ä b)) || !(cond (N (d<97)) Â (N (e>122)))) (let k:=dG b a
 cond (cond (N (d<97)) Â (N (e>122))) ((joa k).bind λc=>cond ((inR a (Ä b)) || !(!c)) (let f:=dG b a
 cond ((inR a (Ä b)) || !(cond (!c) (f != 95) Á)) (let g:=dG b a
 cond (cond (cond (!c) (f != 95) Á) (g != 45) Á) (M (.inr (.inl Á))) (let j:=w64 (a+1)
 M (.inl (b,j)))) Z) Z) (cond ((inR a (Ä b)) || !Á) (let m:=dG b a
 cond ((inR a (Ä b)) || !Á) (let n:=dG b a
 let i:=w64 (a+1)
 M (.inl (b,i))) Z) Z)) Z) Z) Z) (M (.inr (.inr ())))
def CY[LP](b:W)(a:J):O (Å ⊕ Æ):=LP.lp (unc2 j6F) (b,a)
theorem Zx(b a):CY b a=lpK (j6F b a) (λh=>CY h.1 h.2):=bc _ _
def jne[LP](a:W):O Bool:=
 let e:=U (Ä a)
 let f:=U (Ä a)
 cond ((inR 0 (Ä a)) || !(!(cond (N (e<1)) Â (N (f>24))))) (let d:=dG a 0
 let b:Bool:=cond (cond (N (e<1)) Â (N (f>24))) Â (N (d<97))
 cond ((inR 0 (Ä a)) || !(!b)) (let c:=dG a 0
 cond (cond b Â (N (c>122))) (M Á) ((CY a 0).bind λg=>sumC g (λi=>M i) (λj=>M Â))) Z) Z
def j6G(a:Y W)(f e:J):O (((Y W)×J×J) ⊕ (J ⊕ Æ)):=cond (N (e<f)) (cond (inR e a.length) (let b:=S a e.toNat À
 cond (inR f a.length) (let c:=S a f.toNat À
 cond (É b==É c) (M (.inr (.inl 4))) (let d:=w64 (e+1)
 M (.inl (a,f,d)))) Z) Z) (M (.inr (.inr ())))
def Gl[LP](c:Y W)(a b:J):O (J ⊕ Æ):=LP.lp (unc3 j6G) (c,a,b)
theorem Zy(c a b):Gl c a b=lpK (j6G c a b) (λh=>Gl h.1 h.2.1 h.2.2):=bc _ _
def jcC[LP](b:Y W)(a:J):O Int:=cond (inR a b.length) (let e:=S b a.toNat À
 (jne e).bind λc=>cond (!c) (M 2) ((Gl b a 0).bind λd=>sumC d (λf=>M f) (λg=>M 0))) Z
def ja3(a b c:J):O Bool:=M (cond (N (a>=b)) (N (a<=c)) Á)
def jhK(a:wz):O Bool:=(ja3 a.1 1970 2240).bind λi=>cond i ((ja3 a.2.1 a.1 2240).bind λg=>cond g ((ja3 a.2.2.1 1 12).bind λc=>cond c ((ja3 a.2.2.2.1 1 5).bind λb=>cond b ((ja3 a.2.2.2.2.1 0 6).bind λd=>cond d ((ja3 a.2.2.2.2.2.1 0 86399).bind λe=>cond e ((ja3 a.2.2.2.2.2.2 (-64800) 64800).bind λf=>M f) (M Á)) (M Á)) (M Á)) (M Á)) (M Á)) (M Á)
def j1o(a:J):O Bool:=
 let d:=Ã a 4
 let c:=Ã a 100
 let b:=Ã a 400
 M (cond (d==0) (cond (c != 0) Â (b==0)) Á)
def jga(b a:J):O Int:=cond (a==1) (cond (a==1) (M 31) (cond (a==4) (cond (a==4) (M 30) (cond (a==2) ((j1o b).bind λa4=>cond a4 (M 29) (M 28)) (M 0))) (cond (a==6) (cond (a==6) (M 30) (cond (a==2) ((j1o b).bind λa0=>cond a0 (M 29) (M 28)) (M 0))) (cond (a==9) (cond (a==9) (M 30) (cond (a==2) ((j1o b).bind λv=>cond v (M 29) (M 28)) (M 0))) (cond (a==11) (M 30) (cond (a==2) ((j1o b).bind λy=>cond y (M 29) (M 28)) (M 0))))))) (cond (a==3) (cond (a==3) (M 31) (cond (a==4) (cond (a==4) (M 30) (cond (a==2) ((j1o b).bind λa1=>cond a1 (M 29) (M 28)) (M 0))) (cond (a==6) (cond (a==6) (M 30) (cond (a==2) ((j1o b).bind λw=>cond w (M 29) (M 28)) (M 0))) (cond (a==9) (cond (a==9) (M 30) (cond (a==2) ((j1o b).bind λx=>cond x (M 29) (M 28)) (M 0))) (cond (a==11) (M 30) (cond (a==2) ((j1o b).bind λz=>cond z (M 29) (M 28)) (M 0))))))) (cond (a==5) (cond (a==5) (M 31) (cond (a==4) (cond (a==4) (M 30) (cond (a==2) ((j1o b).bind λa3=>cond a3 (M 29) (M 28)) (M 0))) (cond (a==6) (cond (a==6) (M 30) (cond (a==2) ((j1o b).bind λa2=>cond a2 (M 29) (M 28)) (M 0))) (cond (a==9) (cond (a==9) (M 30) (cond (a==2) ((j1o b).bind λl=>cond l (M 29) (M 28)) (M 0))) (cond (a==11) (M 30) (cond (a==2) ((j1o b).bind λm=>cond m (M 29) (M 28)) (M 0))))))) (cond (a==7) (cond (a==7) (M 31) (cond (a==4) (cond (a==4) (M 30) (cond (a==2) ((j1o b).bind λd=>cond d (M 29) (M 28)) (M 0))) (cond (a==6) (cond (a==6) (M 30) (cond (a==2) ((j1o b).bind λp=>cond p (M 29) (M 28)) (M 0))) (cond (a==9) (cond (a==9) (M 30) (cond (a==2) ((j1o b).bind λi=>cond i (M 29) (M 28)) (M 0))) (cond (a==11) (M 30) (cond (a==2) ((j1o b).bind λj=>cond j (M 29) (M 28)) (M 0))))))) (cond (a==8) (cond (a==8) (M 31) (cond (a==4) (cond (a==4) (M 30) (cond (a==2) ((j1o b).bind λg=>cond g (M 29) (M 28)) (M 0))) (cond (a==6) (cond (a==6) (M 30) (cond (a==2) ((j1o b).bind λo=>cond o (M 29) (M 28)) (M 0))) (cond (a==9) (cond (a==9) (M 30) (cond (a==2) ((j1o b).bind λs=>cond s (M 29) (M 28)) (M 0))) (cond (a==11) (M 30) (cond (a==2) ((j1o b).bind λu=>cond u (M 29) (M 28)) (M 0))))))) (cond (a==10) (cond (a==10) (M 31) (cond (a==4) (cond (a==4) (M 30) (cond (a==2) ((j1o b).bind λk=>cond k (M 29) (M 28)) (M 0))) (cond (a==6) (cond (a==6) (M 30) (cond (a==2) ((j1o b).bind λf=>cond f (M 29) (M 28)) (M 0))) (cond (a==9) (cond (a==9) (M 30) (cond (a==2) ((j1o b).bind λq=>cond q (M 29) (M 28)) (M 0))) (cond (a==11) (M 30) (cond (a==2) ((j1o b).bind λt=>cond t (M 29) (M 28)) (M 0))))))) (cond (a==12) (M 31) (cond (a==4) (cond (a==4) (M 30) (cond (a==2) ((j1o b).bind λe=>cond e (M 29) (M 28)) (M 0))) (cond (a==6) (cond (a==6) (M 30) (cond (a==2) ((j1o b).bind λc=>cond c (M 29) (M 28)) (M 0))) (cond (a==9) (cond (a==9) (M 30) (cond (a==2) ((j1o b).bind λr=>cond r (M 29) (M 28)) (M 0))) (cond (a==11) (M 30) (cond (a==2) ((j1o b).bind λn=>cond n (M 29) (M 28)) (M 0))))))))))))
def jkN(a:od):O Bool:=cond (N (a.1>=1970)) (cond (N (a.1<=2240)) (cond (N (a.2.1>=1)) (cond (N (a.2.1<=12)) (cond (N (a.2.2>=1)) ((jga a.1 a.2.1).bind λb=>M (N (a.2.2<=b))) (M Á)) (M Á)) (M Á)) (M Á)) (M Á)
def jkO(a:J):O Int:=
 let i:=w64 (a-1970)
 let j:=w64 (i*365)
 let k:=w64 (a-1969)
 let m:=w64 (È k 4)
 let l:=w64 (j+m)
 let c:=w64 (a-1901)
 let e:=w64 (È c 100)
 let g:=w64 (l-e)
 let f:=w64 (a-1601)
 let d:=w64 (È f 400)
 let b:=w64 (g+d)
 M b
def j7G(i g f a b:J):O ((J×J×J×J×J) ⊕ (J×J×J×J)):=cond (N (g<a)) ((jga f g).bind λd=>let c:=w64 (i+d)
 let e:=w64 (g+1)
 M (.inl (c,e,f,a,b))) (M (.inr (i,f,a,b)))
def Ki[LP](d e c b a:J):O (J×J×J×J):=LP.lp (unc5 j7G) (d,e,c,b,a)
theorem Zz(d e c b a):Ki d e c b a=lpK (j7G d e c b a) (λh=>Ki h.1 h.2.1 h.2.2.1 h.2.2.2.1 h.2.2.2.2):=bc _ _
def jra[LP](a:od):O (J×J):=(jkN (a.1,(a.2.1,a.2.2))).bind λf=>cond (!f) (M (0,1)) ((jkO a.1).bind λe=>(Ki e 1 a.1 a.2.1 a.2.2).bind λd=>let b:=w64 (d.1+d.2.2.2)
 let c:=w64 (b-1)
 M (c,0))
def jdh(a:J):O Int:=
 let b:=Ã a 7
 let d:=w64 (b+10)
 let c:=Ã d 7
 M c
def j7H(i g f e d a:J):O ((J×J×J×J×J×J) ⊕ (J×J×J×J×J)):=(jdh a).bind λc=>cond (c != e) (let b:=w64 (a+1)
 M (.inl (i,g,f,e,d,b))) (M (.inr (i,g,f,d,a)))
def Kj[LP](f e d c b a:J):O (J×J×J×J×J):=LP.lp (unc6 j7H) (f,e,d,c,b,a)
theorem ZA(f e d c b a):Kj f e d c b a=lpK (j7H f e d c b a) (λh=>Kj h.1 h.2.1 h.2.2.1 h.2.2.2.1 h.2.2.2.2.1 h.2.2.2.2.2):=bc _ _
def j7I(i g f a:J):O ((J×J×J×J) ⊕ (J)):=
 let d:=w64 (a+7)
 (jga i g).bind λc=>let e:=w64 (f+c)
 cond (N (d<e)) (let b:=w64 (a+7)
 M (.inl (i,g,f,b))) (M (.inr a))
def Kk[LP](d c b a:J):O Int:=LP.lp (unc4 j7I) (d,c,b,a)
theorem ZB(d c b a):Kk d c b a=lpK (j7I d c b a) (λh=>Kk h.1 h.2.1 h.2.2.1 h.2.2.2):=bc _ _
def jrb[LP](f c b a:J):O (J×J):=(jra (f,(c,1))).bind λe=>let g:Bool:=cond (cond (e.2 != 0) Â (N (b<1))) Â (N (b>5))
 let l:Bool:=cond (cond g Â (N (a<0))) Â (N (a>6))
 cond l (M (0,1)) ((Kj f c b a e.1 e.1).bind λd=>cond (N (d.2.2.1<5)) (let i:=w64 (d.2.2.1-1)
 let j:=w64 (7*i)
 let k:=w64 (d.2.2.2.2+j)
 M (k,0)) ((Kk d.1 d.2.1 d.2.2.2.1 d.2.2.2.2).bind λm=>M (m,0)))
def j2F(k:aY)(i j c g a:J)(d:ai):O ((aY×J×J×J×J×J×ai) ⊕ (aY×J×J×J×J×J×ai)):=cond (N (c>0)) (let b:=w64 (c-1)
 cond (inR b d.length) (let e:=(S d b.toNat (0,0)).1
 cond (N (e>g)) (let f:=w64 (c-1)
 M (.inl (k,i,j,f,g,a,d))) (M (.inr (k,i,j,c,g,a,d)))) Z) (M (.inr (k,i,j,c,g,a,d)))
def Gm[LP](f:aY)(c d e b a:J)(g:ai):O (aY×J×J×J×J×J×ai):=LP.lp (unc7 j2F) (f,c,d,e,b,a,g)
theorem ZC(f c d e b a g):Gm f c d e b a g=lpK (j2F f c d e b a g) (λh=>Gm h.1 h.2.1 h.2.2.1 h.2.2.2.1 h.2.2.2.2.1 h.2.2.2.2.2.1 h.2.2.2.2.2.2):=bc _ _
def j2G[LP](d:aY)(c t:J)(u:ai):O ((aY×J×J×ai) ⊕ (aY×J×ai)):=cond (inR c d.length) (let m:=S d c.toNat (0,(0,(0,(0,(0,(0,0))))))
 cond (N (t<=m.2.1)) (cond (inR c d.length) (let q:=S d c.toNat (0,(0,(0,(0,(0,(0,0))))))
 cond (inR c d.length) (let j:=S d c.toNat (0,(0,(0,(0,(0,(0,0))))))
 cond (inR c d.length) (let s:=S d c.toNat (0,(0,(0,(0,(0,(0,0))))))
 (jrb t q.2.2.1 j.2.2.2.1 s.2.2.2.2.1).bind λr=>let l:=w64 (r.1*86400)
 cond (inR c d.length) (let i:=S d c.toNat (0,(0,(0,(0,(0,(0,0))))))
 let o:=w64 (l+i.2.2.2.2.2.1)
 cond (inR c d.length) (let k:=S d c.toNat (0,(0,(0,(0,(0,(0,0))))))
 let p:=U u.length
 (Gm d c t p o k.2.2.2.2.2.2 u).bind λa=>let f:ai:=[(a.2.2.2.2.1,a.2.2.2.2.2.1)]
 cond (N (X a.2.2.2.2.2.2+X f<=aM)) (let b:ai:=a.2.2.2.2.2.2++f
 let e:=w64 (a.2.2.2.1+1)
 cond (N (0<=e)&&N (e<=(U b.length))) (cond (N (0<=a.2.2.2.1)&&N (a.2.2.2.1<=(U b.length))) (let g:ai:=over b e.toNat (Í a.2.2.2.1.toNat b)
 let w:=U (min (X (Í a.2.2.2.1.toNat b)) (X b-e.toNat))
 cond (inR a.2.2.2.1 g.length) (let v:ai:=Ê g a.2.2.2.1.toNat (a.2.2.2.2.1,a.2.2.2.2.2.1)
 let n:=w64 (a.2.2.1+1)
 M (.inl (a.1,a.2.1,n,v))) Z) Z) Z) Z) Z) Z) Z) Z) Z) (M (.inr (d,c,u)))) Z
def Kl[LP](c:aY)(a b:J)(d:ai):O (aY×J×ai):=LP.lp (unc4 j2G) (c,a,b,d)
theorem ZD(c a b d):Kl c a b d=lpK (j2G c a b d) (λh=>Kl h.1 h.2.1 h.2.2.1 h.2.2.2):=bc _ _
def j2H[LP](c:aY)(b:J)(g:ai):O ((aY×J×ai) ⊕ (ai)):=
 let d:=U c.length
 cond (N (b<d)) (cond (inR b c.length) (let f:=S c b.toNat (0,(0,(0,(0,(0,(0,0))))))
 (Kl c b f.1 g).bind λa=>let e:=w64 (a.2.1+1)
 M (.inl (a.1,e,a.2.2))) Z) (M (.inr g))
def Gn[LP](b:aY)(a:J)(c:ai):O ai:=LP.lp (unc3 j2H) (b,a,c)
theorem ZE(b a c):Gn b a c=lpK (j2H b a c) (λh=>Gn h.1 h.2.1 h.2.2):=bc _ _
def ja4[LP](a:aY):O ai:=(Gn a 0 ([]:ai)).bind λb=>M b
def j2I(o c:J)(n:W)(d:J)(b:aY):O ((J×J×W×J×aY) ⊕ (J ⊕ (J×W×J×aY))):=
 let m:=U b.length
 cond (N (c<m)) (cond (inR c b.length) (let a:=S b c.toNat (0,(0,(0,(0,(0,(0,0))))))
 (jhK (a.1,(a.2.1,(a.2.2.1,(a.2.2.2.1,(a.2.2.2.2.1,(a.2.2.2.2.2.1,a.2.2.2.2.2.2))))))).bind λg=>cond (!g) (M (.inr (.inl 1))) (cond (inR c b.length) (let k:=S b c.toNat (0,(0,(0,(0,(0,(0,0))))))
 cond (inR c b.length) (let j:=S b c.toNat (0,(0,(0,(0,(0,(0,0))))))
 let l:=w64 (k.2.1-j.1)
 let e:=w64 (l+1)
 let i:=w64 (o+e)
 let f:=w64 (c+1)
 M (.inl (i,f,n,d,b))) Z) Z)) Z) (M (.inr (.inr (o,n,d,b))))
def Gp[LP](d e:J)(c:W)(b:J)(a:aY):O (J ⊕ (J×W×J×aY)):=LP.lp (unc5 j2I) (d,e,c,b,a)
theorem ZF(d e c b a):Gp d e c b a=lpK (j2I d e c b a) (λh=>Gp h.1 h.2.1 h.2.2.1 h.2.2.2.1 h.2.2.2.2):=bc _ _
def j2J(s c:J)(e d:ai):O ((J×J×ai×ai) ⊕ (J ⊕ ai)):=
 let t:=U d.length
 cond (N (c<t)) (cond (inR c d.length) (let w:=(S d c.toNat (0,0)).2
 cond (w==s) (let o:=w64 (c+1)
 M (.inl (s,o,e,d))) (cond (inR c d.length) (let y:=(S d c.toNat (0,0)).1
 let b:=w64 (y-s)
 cond (inR c d.length) (let a:=(S d c.toNat (0,0)).2
 let r:=w64 (a-s)
 (ja3 r (-86399) 86399).bind λq=>cond (!q) (M (.inr (.inl 6))) ((ja3 b 0 8589934592).bind λu=>cond (!u) (M (.inr (.inl 6))) (let x:=U e.length
 cond (N (x>0)) (let l:=U e.length
 let f:=w64 (l-1)
 cond (inR f e.length) (let j:=(S e f.toNat (0,0)).1
 let n:=w64 (b-j)
 cond (N (n<604800)) (M (.inr (.inl 6))) (let i:ai:=[(b,a)]
 cond (N (X e+X i<=aM)) (let k:ai:=e++i
 let p:=w64 (c+1)
 M (.inl (a,p,k,d))) Z)) Z) (let g:ai:=[(b,a)]
 cond (N (X e+X g<=aM)) (let m:ai:=e++g
 let v:=w64 (c+1)
 M (.inl (a,v,m,d))) Z)))) Z) Z)) Z) (M (.inr (.inr e)))
def Gq[LP](c d:J)(b a:ai):O (J ⊕ ai):=LP.lp (unc4 j2J) (c,d,b,a)
theorem ZG(a d c b):Gq a d c b=lpK (j2J a d c b) (λh=>Gq h.1 h.2.1 h.2.2.1 h.2.2.2):=bc _ _
def j0j[LP](a:eh):O (ai×J):=(ja3 a.2.1 (-64800) 64800).bind λf=>cond (!f) (M (([]:ai),1)) (let b:=U a.2.2.length
 cond (N (b>16)) (M (([]:ai),5)) ((Gp 0 0 a.1 a.2.1 a.2.2).bind λi=>sumC i (λk=>M (([]:ai),k)) (λj=>cond (N (j.1>640)) (M (([]:ai),5)) ((ja4 j.2.2.2).bind λe=>(Gq j.2.2.1 0 ([]:ai) e).bind λg=>sumC g (λc=>M (([]:ai),c)) (λd=>M (d,0))))))
def j7J[LP](a:eh):O Int:=(j0j (a.1,(a.2.1,a.2.2))).bind λb=>M b.2
def j4C(g:Å)(b:J)(j:W)(i:J)(a:aY):O ((Å×J×W×J×aY) ⊕ (Å)):=
 let d:=U a.length
 cond (N (b<d)) (cond ((inR b a.length) || !g) (let c:=S a b.toNat (0,(0,(0,(0,(0,(0,0))))))
 let e:=Ã c.2.2.2.2.2.2 60
 let f:=w64 (b+1)
 M (.inl ((cond g (e==0) Á),f,j,i,a))) Z) (M (.inr g))
def Gr[LP](c:Å)(e:J)(d:W)(b:J)(a:aY):O Bool:=LP.lp (unc5 j4C) (c,e,d,b,a)
theorem ZH(c e d b a):Gr c e d b a=lpK (j4C c e d b a) (λh=>Gr h.1 h.2.1 h.2.2.1 h.2.2.2.1 h.2.2.2.2):=bc _ _
def jdi[LP](a:eh):O Bool:=
 let b:=Ã a.2.1 60
 (Gr (b==0) 0 a.1 a.2.1 a.2.2).bind λc=>M c
def j5Z[LP](a:J)(d:ao)(o:aq)(l:ar)(m:au)(p:Y W):O ((J×ao×aq×ar×au×(Y W)) ⊕ (J ⊕ Æ)):=
 let n:=U d.length
 cond (N (a<n)) (cond (inR a d.length) (let i:=S d a.toNat (À,(0,([]:aY)))
 cond (N (X p+X [i.1]<=aM)) (let g:Y ByteArray:=p++[i.1]
 (jcC g a).bind λe=>cond (e != 0) (M (.inr (.inl e))) (cond (inR a d.length) (let c:=S d a.toNat (À,(0,([]:aY)))
 (j7J (c.1,(c.2.1,c.2.2))).bind λf=>cond ((inR a d.length) || !(!(f != 0))) (let b:=S d a.toNat (À,(0,([]:aY)))
 cond (f != 0) (M (.inr (.inl 8))) ((jdi (b.1,(b.2.1,b.2.2))).bind λj=>cond (!j) (M (.inr (.inl 8))) (let k:=w64 (a+1)
 M (.inl (k,d,o,l,m,g))))) Z) Z)) Z) Z) (M (.inr (.inr ())))
def Gs[LP](e:J)(d:ao)(c:aq)(a:ar)(b:au)(f:Y W):O (J ⊕ Æ):=LP.lp (unc6 j5Z) (e,d,c,a,b,f)
theorem ZI(e d c a b f):Gs e d c a b f=lpK (j5Z e d c a b f) (λh=>Gs h.1 h.2.1 h.2.2.1 h.2.2.2.1 h.2.2.2.2.1 h.2.2.2.2.2):=bc _ _
def job[LP](a:cO):O Int:=(Gs 0 a.1 a.2.1 a.2.2.1 a.2.2.2 ([]:(Y W))).bind λb=>sumC b (λc=>M c) (λd=>M 0)
def j8O(a b c:J):O Bool:=M (cond (N (a>=b)) (N (a<=c)) Á)
def jkS(a:J):O Bool:=(j8O a 0 604800).bind λc=>let b:=Ã a 3600
 M (cond c (b==0) Á)
def j57[LP](e:J)(r:ao)(b:aq)(p:ar)(q:au)(s:Y W):O ((J×ao×aq×ar×au×(Y W)) ⊕ (J ⊕ Æ)):=
 let j:=U b.length
 cond (N (e<j)) (cond (inR e b.length) (let a:=S b e.toNat (À,(0,(([]:ai),(0,(0,Á)))))
 cond (N (X s+X [a.1]<=aM)) (let c:Y ByteArray:=s++[a.1]
 let m:Bool:=É a.1==É (Ç #[110,111,98,111,100,121])
 cond m (M (.inr (.inl 2))) ((jcC c e).bind λd=>cond (d != 0) (M (.inr (.inl d))) (let o:=U r.length
 let k:=w64 (o-1)
 (j8O a.2.1 0 k).bind λn=>cond (!n) (M (.inr (.inl 3))) ((j3g a.2.2.1).bind λi=>cond (i != 0) (M (.inr (.inl 8))) ((jkS a.2.2.2.1).bind λg=>cond (!g) (M (.inr (.inl 1))) ((jkS a.2.2.2.2.1).bind λl=>cond (!l) (M (.inr (.inl 1))) (let f:=w64 (e+1)
 M (.inl (f,r,b,p,q,c))))))))) Z) Z) (M (.inr (.inr ())))
def Gt[LP](e:J)(d:ao)(c:aq)(a:ar)(b:au)(f:Y W):O (J ⊕ Æ):=LP.lp (unc6 j57) (e,d,c,a,b,f)
theorem ZJ(e d c a b f):Gt e d c a b f=lpK (j57 e d c a b f) (λh=>Gt h.1 h.2.1 h.2.2.1 h.2.2.2.1 h.2.2.2.2.1 h.2.2.2.2.2):=bc _ _
def jlV[LP](a:cO):O Int:=(Gt 0 a.1 a.2.1 a.2.2.1 a.2.2.2 ([]:(Y W))).bind λb=>sumC b (λc=>M c) (λd=>M 0)
def jcX  : O Int:=(jkO 2241).bind λa=>let b:=w64 (a-1)
 M b
def j3s(n k:J)(m:ao)(e:aq)(c:ar)(d:au)(o:W)(b:J)(a:Y J)(p:Y W):O ((J×J×ao×aq×ar×au×W×J×(Y J)×(Y W)) ⊕ (J ⊕ (J×ao×aq×ar×au×W×J×(Y J)×(Y W)))):=
 let f:=U a.length
 cond (N (k<f)) (cond (inR k a.length) (let j:=S a k.toNat 0
 (jcX).bind λg=>(j8O j 0 g).bind λi=>cond (!i) (M (.inr (.inl 1))) (let l:=w64 (k+1)
 M (.inl (n,l,m,e,c,d,o,b,a,p)))) Z) (M (.inr (.inr (n,m,e,c,d,o,b,a,p))))
def Gu[LP](g i:J)(f:ao)(e:aq)(c:ar)(d:au)(j:W)(b:J)(a:Y J)(k:Y W):O (J ⊕ (J×ao×aq×ar×au×W×J×(Y J)×(Y W))):=LP.lp (u8 unc2 j3s) (g,i,f,e,c,d,j,b,a,k)
theorem ZK(g i f e c d j b a k):Gu g i f e c d j b a k=lpK (j3s g i f e c d j b a k) (λh=>Gu h.1 h.2.1 h.2.2.1 h.2.2.2.1 h.2.2.2.2.1 h.2.2.2.2.2.1 h.2.2.2.2.2.2.1 h.2.2.2.2.2.2.2.1 h.2.2.2.2.2.2.2.2.1 h.2.2.2.2.2.2.2.2.2):=bc _ _
def j58(n c:J)(m:ao)(f:aq)(d:ar)(e:au)(p:W)(l:J)(a:Y J)(o:Y W):O ((J×J×ao×aq×ar×au×W×J×(Y J)×(Y W)) ⊕ (J ⊕ (J×ao×aq×ar×au×(Y W)))):=
 let g:=U a.length
 cond (N (c<g)) (cond (inR c a.length) (let j:=S a c.toNat 0
 let b:=w64 (c-1)
 cond (inR b a.length) (let k:=S a b.toNat 0
 cond (N (j<=k)) (M (.inr (.inl 6))) (let i:=w64 (c+1)
 M (.inl (n,i,m,f,d,e,p,l,a,o)))) Z) Z) (M (.inr (.inr (n,m,f,d,e,o))))
def Gv[LP](i g:J)(f:ao)(e:aq)(c:ar)(d:au)(j:W)(b:J)(a:Y J)(k:Y W):O (J ⊕ (J×ao×aq×ar×au×(Y W))):=LP.lp (u8 unc2 j58) (i,g,f,e,c,d,j,b,a,k)
theorem jjM(i g f e c d j b a k):Gv i g f e c d j b a k=lpK (j58 i g f e c d j b a k) (λh=>Gv h.1 h.2.1 h.2.2.1 h.2.2.2.1 h.2.2.2.2.1 h.2.2.2.2.2.1 h.2.2.2.2.2.2.1 h.2.2.2.2.2.2.2.1 h.2.2.2.2.2.2.2.2.1 h.2.2.2.2.2.2.2.2.2):=bc _ _
def j3t[LP](g:J)(s:ao)(o:aq)(d:ar)(r:au)(t:Y W):O ((J×ao×aq×ar×au×(Y W)) ⊕ (J ⊕ Æ)):=
 let j:=U d.length
 cond (N (g<j)) (cond (inR g d.length) (let a:=S d g.toNat (À,(0,([]:(Y J))))
 cond (N (X t+X [a.1]<=aM)) (let e:Y ByteArray:=t++[a.1]
 (jcC e g).bind λf=>cond (f != 0) (M (.inr (.inl f))) (let l:=U s.length
 let i:=w64 (l-1)
 (j8O a.2.1 0 i).bind λk=>cond (!k) (M (.inr (.inl 3))) (let m:=U a.2.2.length
 cond (N (m>64)) (M (.inr (.inl 5))) ((Gu g 0 s o d r a.1 a.2.1 a.2.2 e).bind λq=>sumC q (λv=>M (.inr (.inl v))) (λb=>(Gv b.1 1 b.2.1 b.2.2.1 b.2.2.2.1 b.2.2.2.2.1 b.2.2.2.2.2.1 b.2.2.2.2.2.2.1 b.2.2.2.2.2.2.2.1 b.2.2.2.2.2.2.2.2).bind λp=>sumC p (λu=>M (.inr (.inl u))) (λc=>let n:=w64 (c.1+1)
 M (.inl (n,c.2.1,c.2.2.1,c.2.2.2.1,c.2.2.2.2.1,c.2.2.2.2.2)))))))) Z) Z) (M (.inr (.inr ())))
def Gw[LP](e:J)(d:ao)(c:aq)(a:ar)(b:au)(f:Y W):O (J ⊕ Æ):=LP.lp (unc6 j3t) (e,d,c,a,b,f)
theorem ZL(e d c a b f):Gw e d c a b f=lpK (j3t e d c a b f) (λh=>Gw h.1 h.2.1 h.2.2.1 h.2.2.2.1 h.2.2.2.2.1 h.2.2.2.2.2):=bc _ _
def jgb[LP](a:cO):O Int:=(Gw 0 a.1 a.2.1 a.2.2.1 a.2.2.2 ([]:(Y W))).bind λb=>sumC b (λc=>M c) (λd=>M 0)
def j60(o:J)(u:ao)(b:aq)(d:ar)(g:au)(v:W)(k f l j e:J)(a:Y J)(m:ai)(c i:J):O ((J×ao×aq×ar×au×W×J×J×J×J×J×(Y J)×ai×J×J) ⊕ (J ⊕ (ao×aq×ar×au×W×J×J×J×J×J×(Y J)×ai×J×J))):=
 let q:=U a.length
 cond (N (o<q)) (cond (inR o a.length) (let p:=S a o.toNat 0
 let n:=U b.length
 let s:=w64 (n-1)
 (j8O p 0 s).bind λt=>cond (!t) (M (.inr (.inl 3))) (let r:=w64 (o+1)
 M (.inl (r,u,b,d,g,v,k,f,l,j,e,a,m,c,i)))) Z) (M (.inr (.inr (u,b,d,g,v,k,f,l,j,e,a,m,c,i))))
def Gx[LP](n:J)(p:ao)(c:aq)(a:ar)(d:au)(o:W)(b k g j e:J)(m:Y J)(f:ai)(l i:J):O (J ⊕ (ao×aq×ar×au×W×J×J×J×J×J×(Y J)×ai×J×J)):=LP.lp (u8 unc7 j60) (n,p,c,a,d,o,b,k,g,j,e,m,f,l,i)
theorem ZM(n p c a d o b k g j e m f l i):Gx n p c a d o b k g j e m f l i=lpK (j60 n p c a d o b k g j e m f l i) (λh=>Gx h.1 h.2.1 h.2.2.1 h.2.2.2.1 h.2.2.2.2.1 h.2.2.2.2.2.1 h.2.2.2.2.2.2.1 h.2.2.2.2.2.2.2.1 h.2.2.2.2.2.2.2.2.1 h.2.2.2.2.2.2.2.2.2.1 h.2.2.2.2.2.2.2.2.2.2.1 h.2.2.2.2.2.2.2.2.2.2.2.1 h.2.2.2.2.2.2.2.2.2.2.2.2.1 h.2.2.2.2.2.2.2.2.2.2.2.2.2.1 h.2.2.2.2.2.2.2.2.2.2.2.2.2.2):=bc _ _
def jhN[LP](b:cO)(a:fq):O Int:=
 let i:=U b.1.length
 let k:=w64 (i-1)
 (j8O a.2.1 0 k).bind λm=>cond (!m) (M 3) ((jcX).bind λl=>(j8O a.2.2.1.1 1 l).bind λj=>cond (!j) (M 1) ((j8O a.2.2.1.2 0 86399).bind λt=>cond (!t) (M 1) ((j8O a.2.2.2.1 0 2).bind λg=>cond (!g) (M 1) ((j8O a.2.2.2.2.1 1 400).bind λs=>cond (!s) (M 1) (let p:=U a.2.2.2.2.2.1.length
 cond (p==0) (M 7) (let f:=U a.2.2.2.2.2.1.length
 cond (N (f>12)) (M 5) ((Gx 0 b.1 b.2.1 b.2.2.1 b.2.2.2 a.1 a.2.1 a.2.2.1.1 a.2.2.1.2 a.2.2.2.1 a.2.2.2.2.1 a.2.2.2.2.2.1 a.2.2.2.2.2.2.1 a.2.2.2.2.2.2.2.1 a.2.2.2.2.2.2.2.2).bind λv=>sumC v (λw=>M w) (λd=>(j3g d.2.2.2.2.2.2.2.2.2.2.2.1).bind λq=>cond (q != 0) (M 8) ((j8O d.2.2.2.2.2.2.2.2.2.2.2.2.2 0 2).bind λo=>cond (!o) (M 1) (let u:=U d.2.2.1.length
 let n:=w64 (u-1)
 cond (d.2.2.2.2.2.2.2.2.2.2.2.2.2 != 0) ((j8O d.2.2.2.2.2.2.2.2.2.2.2.2.1 0 n).bind λr=>cond (!r) (M 3) (let e:Bool:=cond (d.2.2.2.2.2.2.2.2.2.2.2.2.2==0) (d.2.2.2.2.2.2.2.2.2.2.2.2.1 != 0) Á
 cond e (M 1) (M 0))) (let c:Bool:=cond (d.2.2.2.2.2.2.2.2.2.2.2.2.2==0) (d.2.2.2.2.2.2.2.2.2.2.2.2.1 != 0) Á
 cond c (M 1) (M 0))))))))))))
def jkT(d:cO)(a:qX):O Int:=
 let l:=U d.2.1.length
 (j8O a.1 0 2).bind λg=>cond (!g) (M 1) (let f:=w64 (l-1)
 (j8O a.2.1 0 f).bind λj=>let i:=w64 (l-1)
 cond (cond (!j) (cond (a.1 != 1) Â (a.2.1 != (-1))) Á) (cond ((!(a.1==2)) || !(!Â)) (M 3) Z) (cond (a.1==2) ((j8O a.2.2.1 0 i).bind λe=>cond (!e) (M 3) (cond (cond (a.1 != 2) (a.2.2.1 != 0) Á) (M 1) (cond (cond (a.1==2) (a.2.1==a.2.2.1) Á) (M 4) (cond (N (a.2.2.2.1<0)) (M 1) (cond (N (a.2.2.2.2<0)) (M 1) (let k:=w64 (È a.2.2.2.2 86400)
 (jcX).bind λm=>cond (N (k>m)) (M 1) (cond (N (a.2.2.2.1>=a.2.2.2.2)) (M 6) (M 0)))))))) (cond (cond (a.1 != 2) (a.2.2.1 != 0) Á) (M 1) (cond (cond (a.1==2) (a.2.1==a.2.2.1) Á) (M 4) (cond (N (a.2.2.2.1<0)) (M 1) (cond (N (a.2.2.2.2<0)) (M 1) (let b:=w64 (È a.2.2.2.2 86400)
 (jcX).bind λc=>cond (N (b>c)) (M 1) (cond (N (a.2.2.2.1>=a.2.2.2.2)) (M 6) (M 0)))))))))
def j3u[LP](q c:J)(o:ao)(f:aq)(d:ar)(e:au)(r:W)(b:ba)(l:aX)(s p:Y W):O ((J×J×ao×aq×ar×au×W×ba×aX×(Y W)×(Y W)) ⊕ (J ⊕ (J×ao×aq×ar×au×W×ba×aX×(Y W)))):=
 let n:=U b.length
 cond (N (c<n)) (cond (inR c b.length) (let g:=S b c.toNat (À,(0,((0,0),(0,(0,(([]:(Y J)),(([]:ai),(0,0))))))))
 cond (N (X p+X [g.1]<=aM)) (let i:Y ByteArray:=p++[g.1]
 (jcC i c).bind λj=>cond (j != 0) (M (.inr (.inl j))) (cond (inR c b.length) (let a:=S b c.toNat (À,(0,((0,0),(0,(0,(([]:(Y J)),(([]:ai),(0,0))))))))
 (jhN (o,(f,(d,e))) (a.1,(a.2.1,((a.2.2.1.1,a.2.2.1.2),(a.2.2.2.1,(a.2.2.2.2.1,(a.2.2.2.2.2.1,(a.2.2.2.2.2.2.1,(a.2.2.2.2.2.2.2.1,a.2.2.2.2.2.2.2.2))))))))).bind λk=>cond (k != 0) (M (.inr (.inl k))) (let m:=w64 (c+1)
 M (.inl (q,m,o,f,d,e,r,b,l,s,i)))) Z)) Z) Z) (M (.inr (.inr (q,o,f,d,e,r,b,l,s))))
def Gy[LP](j g:J)(f:ao)(e:aq)(c:ar)(d:au)(k:W)(b:ba)(a:aX)(l i:Y W):O (J ⊕ (J×ao×aq×ar×au×W×ba×aX×(Y W))):=LP.lp (u8 unc3 j3u) (j,g,f,e,c,d,k,b,a,l,i)
theorem ZN(j g f e c d k b a l i):Gy j g f e c d k b a l i=lpK (j3u j g f e c d k b a l i) (λh=>Gy h.1 h.2.1 h.2.2.1 h.2.2.2.1 h.2.2.2.2.1 h.2.2.2.2.2.1 h.2.2.2.2.2.2.1 h.2.2.2.2.2.2.2.1 h.2.2.2.2.2.2.2.2.1 h.2.2.2.2.2.2.2.2.2.1 h.2.2.2.2.2.2.2.2.2.2):=bc _ _
def j3v(m f:J)(k:ao)(e:aq)(c:ar)(d:au)(o:W)(l:ba)(b:aX)(n:Y W):O ((J×J×ao×aq×ar×au×W×ba×aX×(Y W)) ⊕ (J ⊕ (J×ao×aq×ar×au×(Y W)))):=
 let j:=U b.length
 cond (N (f<j)) (cond (inR f b.length) (let a:=S b f.toNat (0,(0,(0,(0,0))))
 (jkT (k,(e,(c,d))) (a.1,(a.2.1,(a.2.2.1,(a.2.2.2.1,a.2.2.2.2))))).bind λg=>cond (g != 0) (M (.inr (.inl g))) (let i:=w64 (f+1)
 M (.inl (m,i,k,e,c,d,o,l,b,n)))) Z) (M (.inr (.inr (m,k,e,c,d,n))))
def Gz[LP](i f:J)(g:ao)(e:aq)(c:ar)(d:au)(j:W)(b:ba)(a:aX)(k:Y W):O (J ⊕ (J×ao×aq×ar×au×(Y W))):=LP.lp (u8 unc2 j3v) (i,f,g,e,c,d,j,b,a,k)
theorem ZO(i f g e c d j b a k):Gz i f g e c d j b a k=lpK (j3v i f g e c d j b a k) (λh=>Gz h.1 h.2.1 h.2.2.1 h.2.2.2.1 h.2.2.2.2.1 h.2.2.2.2.2.1 h.2.2.2.2.2.2.1 h.2.2.2.2.2.2.2.1 h.2.2.2.2.2.2.2.2.1 h.2.2.2.2.2.2.2.2.2):=bc _ _
def j3w[LP](g:J)(t:ao)(m:aq)(p:ar)(d:au)(q:Y W):O ((J×ao×aq×ar×au×(Y W)) ⊕ (J ⊕ Æ)):=
 let i:=U d.length
 cond (N (g<i)) (cond (inR g d.length) (let a:=S d g.toNat (À,(([]:ba),([]:aX)))
 cond (N (X q+X [a.1]<=aM)) (let e:Y ByteArray:=q++[a.1]
 (jcC e g).bind λf=>cond (f != 0) (M (.inr (.inl f))) (let k:=U a.2.1.length
 let l:=U a.2.2.length
 cond (cond (N (k>6)) Â (N (l>48))) (M (.inr (.inl 5))) ((Gy g 0 t m p d a.1 a.2.1 a.2.2 e ([]:(Y W))).bind λo=>sumC o (λs=>M (.inr (.inl s))) (λb=>(Gz b.1 0 b.2.1 b.2.2.1 b.2.2.2.1 b.2.2.2.2.1 b.2.2.2.2.2.1 b.2.2.2.2.2.2.1 b.2.2.2.2.2.2.2.1 b.2.2.2.2.2.2.2.2).bind λn=>sumC n (λr=>M (.inr (.inl r))) (λc=>let j:=w64 (c.1+1)
 M (.inl (j,c.2.1,c.2.2.1,c.2.2.2.1,c.2.2.2.2.1,c.2.2.2.2.2))))))) Z) Z) (M (.inr (.inr ())))
def GA[LP](e:J)(d:ao)(c:aq)(a:ar)(b:au)(f:Y W):O (J ⊕ Æ):=LP.lp (unc6 j3w) (e,d,c,a,b,f)
theorem ZP(e d c a b f):GA e d c a b f=lpK (j3w e d c a b f) (λh=>GA h.1 h.2.1 h.2.2.1 h.2.2.2.1 h.2.2.2.2.1 h.2.2.2.2.2):=bc _ _
def jgc[LP](a:cO):O Int:=(GA 0 a.1 a.2.1 a.2.2.1 a.2.2.2 ([]:(Y W))).bind λb=>sumC b (λc=>M c) (λd=>M 0)
def jfx[LP](a:cO):O Int:=
 let k:=U a.1.length
 let g:=U a.2.1.length
 let e:=U a.2.2.1.length
 let i:Bool:=cond (cond (N (k>16)) Â (N (g>32))) Â (N (e>8))
 let f:=U a.2.2.2.length
 cond (cond i Â (N (f>12))) (M 5) ((job (a.1,(a.2.1,(a.2.2.1,a.2.2.2)))).bind λd=>cond (d != 0) (M d) ((jlV (a.1,(a.2.1,(a.2.2.1,a.2.2.2)))).bind λb=>cond (b != 0) (M b) ((jgb (a.1,(a.2.1,(a.2.2.1,a.2.2.2)))).bind λc=>cond (c != 0) (M c) ((jgc (a.1,(a.2.1,(a.2.2.1,a.2.2.2)))).bind λj=>M j))))
def j8P(a b:J):O Bool:=
 let d:Bool:=cond (cond (N (a>=0)) (N (a<=8589934592)) Á) (N (b>=a)) Á
 let c:=w64 (b-a)
 let e:Bool:=cond (cond d (N (b<=8589934592)) Á) (N (c<=34560000)) Á
 M e
def jhO[LP](b:cO)(a c d:J):O Int:=(jfx (b.1,(b.2.1,(b.2.2.1,b.2.2.2)))).bind λg=>cond (g != 0) (M 8) (let f:=U b.2.2.2.length
 cond (cond (N (a<0)) Â (N (a>=f))) (M 3) ((j8P c d).bind λe=>cond (!e) (M 1) (M 0)))
def jdo[LP](b:eh)(a:fq):O Int:=(j7J (b.1,(b.2.1,b.2.2))).bind λi=>let d:Bool:=cond (cond (i != 0) Â (N (a.2.2.1.1<1))) Â (N (a.2.2.1.1>100000))
 let f:Bool:=cond (cond d Â (N (a.2.2.1.2<0))) Â (N (a.2.2.1.2>=86400))
 let g:Bool:=cond (cond f Â (N (a.2.2.2.1<0))) Â (N (a.2.2.2.1>2))
 let c:Bool:=cond (cond g Â (N (a.2.2.2.2.1<1))) Â (N (a.2.2.2.2.1>400))
 let e:=U a.2.2.2.2.2.1.length
 cond (cond c Â (e==0)) (M 8) (M 0)
def jfy(a:J):O Bool:=(ja3 a (-2) 99422).bind λb=>M b
def j4l(c:J)(a0:W)(d:J)(f:aY)(g a:J)(b:ai):O ((J×W×J×aY×J×J×ai) ⊕ ((J×J) ⊕ Æ)):=
 let x:=U b.length
 cond (N (c<x)) (cond (N (c>=0)) (cond (inR c b.length) (let r:=(S b c.toNat (0,0)).2
 cond (inR c b.length) (let e:=(S b c.toNat (0,0)).1
 let a8:=w64 (c+1)
 let w:=U b.length
 cond (N (a8<w)) (let q:=w64 (c+1)
 cond (inR q b.length) (let b1:=(S b q.toNat (0,0)).1
 let a1:=w64 (g*86400)
 let a7:=w64 (a1+a)
 let i:=w64 (a7-r)
 let o:Int:=if i>e then i else e
 cond (N (o<b1)) (M (.inr (.inl (o,0)))) (let a3:=w64 (c+1)
 M (.inl (a3,a0,d,f,g,a,b)))) Z) (let u:=w64 (g*86400)
 let a9:=w64 (u+a)
 let j:=w64 (a9-r)
 let k:Int:=if j>e then j else e
 cond (N (k<8589934593)) (M (.inr (.inl (k,0)))) (let b0:=w64 (c+1)
 M (.inl (b0,a0,d,f,g,a,b))))) Z) Z) (let z:=w64 (c+1)
 let v:=U b.length
 cond (N (z<v)) (let n:=w64 (c+1)
 cond (inR n b.length) (let a4:=(S b n.toNat (0,0)).1
 let b2:=w64 (g*86400)
 let a2:=w64 (b2+a)
 let m:=w64 (a2-d)
 let s:Int:=if m>0 then m else 0
 cond (N (s<a4)) (M (.inr (.inl (s,0)))) (let y:=w64 (c+1)
 M (.inl (y,a0,d,f,g,a,b)))) Z) (let a5:=w64 (g*86400)
 let t:=w64 (a5+a)
 let l:=w64 (t-d)
 let p:Int:=if l>0 then l else 0
 cond (N (p<8589934593)) (M (.inr (.inl (p,0)))) (let a6:=w64 (c+1)
 M (.inl (a6,a0,d,f,g,a,b)))))) (M (.inr (.inr ())))
def wA[LP](d:J)(g:W)(c:J)(a:aY)(e b:J)(f:ai):O ((J×J) ⊕ Æ):=LP.lp (unc7 j4l) (d,g,c,a,e,b,f)
theorem Pv(d g c a e b f):wA d g c a e b f=lpK (j4l d g c a e b f) (λh=>wA h.1 h.2.1 h.2.2.1 h.2.2.2.1 h.2.2.2.2.1 h.2.2.2.2.2.1 h.2.2.2.2.2.2):=bc _ _
def j5a[LP](a:eh)(b:J×J):O (J×J):=(j0j (a.1,(a.2.1,a.2.2))).bind λc=>cond (c.2 != 0) (M (0,8)) ((ja3 b.2 0 86399).bind λd=>cond (!d) (M (0,1)) (cond (N (b.1<(-2))) (M (0,0)) ((jfy b.1).bind λe=>cond (!e) (M (0,10)) ((wA (-1) a.1 a.2.1 a.2.2 b.1 b.2 c.1).bind λf=>sumC f (λg=>M (g.1,g.2)) (λi=>M (0,10))))))
def j5b(c:ai)(g i a:J):O ((ai×J×J×J) ⊕ (J)):=
 let b:=U c.length
 cond ((inR a c.length) || !(N (a<b))) (let d:=S c a.toNat (0,0)
 cond (cond (N (a<b)) (N (d.1<=g)) Á) (cond (inR a c.length) (let f:=S c a.toNat (0,0)
 let e:=w64 (a+1)
 M (.inl (c,g,f.2,e))) Z) (M (.inr i))) Z
def GB[LP](a:ai)(c b d:J):O Int:=LP.lp (unc4 j5b) (a,c,b,d)
theorem ZQ(c b d a):GB c b d a=lpK (j5b c b d a) (λh=>GB h.1 h.2.1 h.2.2.1 h.2.2.2):=bc _ _
def jiI[LP](c:eh)(a:ai)(b:J):O Int:=(GB a b c.2.1 0).bind λd=>M d
def jbE[LP](a:eh)(b:J):O (J×J):=(j0j (a.1,(a.2.1,a.2.2))).bind λc=>cond (c.2 != 0) (M (0,8)) ((ja3 b 0 8589934592).bind λe=>cond (!e) (M (0,1)) ((jiI (a.1,(a.2.1,a.2.2)) c.1 b).bind λd=>M (d,0)))
def jkU(b a:J):O (J×J):=
 let g:=w64 (b+a)
 let f:=w64 (g+864000)
 let c:=w64 (È f 86400)
 let e:=w64 (c-10)
 let d:=Ã f 86400
 M (e,d)
def j3Q[LP](a:eh)(b:J):O wy:=(jbE (a.1,(a.2.1,a.2.2)) b).bind λc=>cond (c.2 != 0) (M ((0,0),c.2)) ((jkU b c.1).bind λd=>M ((d.1,d.2),0))
def j7K[LP](b:eh)(a:fq)(e:J):O (J×Å):=cond (a.2.2.2.1==0) ((j5a (b.1,(b.2.1,b.2.2)) (a.2.2.1.1,a.2.2.1.2)).bind λd=>let k:=w64 (e*a.2.2.2.2.1)
 let g:=w64 (k*3600)
 let n:=w64 (d.1+g)
 let o:=w64 (d.1+g)
 M (n,(cond (d.2==0) (N (o<=8589934592)) Á))) (let j:=w64 (e*a.2.2.2.2.1)
 cond (a.2.2.2.1==2) (let m:=w64 (j*7)
 let l:=w64 (a.2.2.1.1+m)
 (j5a (b.1,(b.2.1,b.2.2)) (l,a.2.2.1.2)).bind λi=>M (i.1,(i.2==0))) (let f:=w64 (a.2.2.1.1+j)
 (j5a (b.1,(b.2.1,b.2.2)) (f,a.2.2.1.2)).bind λc=>M (c.1,(c.2==0))))
def j61[LP](p k:J)(q:W)(g:J)(l:aY)(r:W)(f c m e n:J)(j:Y J)(b:ai)(i d:J):O ((J×J×W×J×aY×W×J×J×J×J×J×(Y J)×ai×J×J) ⊕ (J)):=cond (N (k>=0)) ((j7K (q,(g,l)) (r,(f,((c,m),(e,(n,(j,(b,(i,d)))))))) k).bind λa=>cond (cond a.2 (N (a.1<=p)) Á) (M (.inr k)) (let o:=w64 (k-1)
 M (.inl (p,o,q,g,l,r,f,c,m,e,n,j,b,i,d)))) (M (.inr k))
def AR[LP](m p:J)(n:W)(f:J)(j:aY)(o:W)(e b k d l:J)(i:Y J)(a:ai)(g c:J):O Int:=LP.lp (u8 unc7 j61) (m,p,n,f,j,o,e,b,k,d,l,i,a,g,c)
theorem ZR(m p n f j o e b k d l i a g c):AR m p n f j o e b k d l i a g c=lpK (j61 m p n f j o e b k d l i a g c) (λh=>AR h.1 h.2.1 h.2.2.1 h.2.2.2.1 h.2.2.2.2.1 h.2.2.2.2.2.1 h.2.2.2.2.2.2.1 h.2.2.2.2.2.2.2.1 h.2.2.2.2.2.2.2.2.1 h.2.2.2.2.2.2.2.2.2.1 h.2.2.2.2.2.2.2.2.2.2.1 h.2.2.2.2.2.2.2.2.2.2.2.1 h.2.2.2.2.2.2.2.2.2.2.2.2.1 h.2.2.2.2.2.2.2.2.2.2.2.2.2.1 h.2.2.2.2.2.2.2.2.2.2.2.2.2.2):=bc _ _
def jdq[LP](b:eh)(a:fq)(c:J):O Int:=cond (a.2.2.2.1==0) ((j5a (b.1,(b.2.1,b.2.2)) (a.2.2.1.1,a.2.2.1.2)).bind λe=>cond (cond (e.2==0) (N (e.1<=c)) Á) (let q:=w64 (c-e.1)
 let k:=w64 (3600*a.2.2.2.2.1)
 cond (!(k==0)) (let p:=w64 (È q k)
 M p) Z) (M (-1))) ((j3Q (b.1,(b.2.1,b.2.2)) c).bind λm=>cond (a.2.2.2.1==2) (let j:=w64 (a.2.2.2.2.1*7)
 let o:=w64 (m.1.1+2)
 let l:=w64 (o-a.2.2.1.1)
 let s:Int:=if 0>l then 0 else l
 cond (!(j==0)) (let r:=w64 (È s j)
 (AR c r b.1 b.2.1 b.2.2 a.1 a.2.1 a.2.2.1.1 a.2.2.1.2 a.2.2.2.1 a.2.2.2.2.1 a.2.2.2.2.2.1 a.2.2.2.2.2.2.1 a.2.2.2.2.2.2.2.1 a.2.2.2.2.2.2.2.2).bind λt=>M t) Z) (let i:=w64 (m.1.1+2)
 let d:=w64 (i-a.2.2.1.1)
 let f:Int:=if 0>d then 0 else d
 cond (!(a.2.2.2.2.1==0)) (let g:=w64 (È f a.2.2.2.2.1)
 (AR c g b.1 b.2.1 b.2.2 a.1 a.2.1 a.2.2.1.1 a.2.2.1.2 a.2.2.2.1 a.2.2.2.2.1 a.2.2.2.2.2.1 a.2.2.2.2.2.2.1 a.2.2.2.2.2.2.2.1 a.2.2.2.2.2.2.2.2).bind λn=>M n) Z))
def j5c[LP](u t o:J)(v:W)(j:J)(g:aY)(s:W)(m i b c f:J)(k:Y J)(l:ai)(d e:J)(n:Y J):O ((J×J×J×W×J×aY×W×J×J×J×J×J×(Y J)×ai×J×J×(Y J)) ⊕ (pb)):=(j7K (v,(j,g)) (s,(m,((i,b),(c,(f,(k,(l,(d,e)))))))) o).bind λa=>cond (cond (!a.2) Â (N (a.1>=t))) (M (.inr (0,n))) (cond (N (a.1>=u)) (cond (N (X n+X [a.1]<=aM)) (let r:Y Int:=n++[a.1]
 let p:=w64 (o+1)
 M (.inl (u,t,p,v,j,g,s,m,i,b,c,f,k,l,d,e,r))) Z) (let q:=w64 (o+1)
 M (.inl (u,t,q,v,j,g,s,m,i,b,c,f,k,l,d,e,n))))
def Km[LP](p o m:J)(q:W)(e:J)(a:aY)(r:W)(k b d f l:J)(c:Y J)(g:ai)(i j:J)(n:Y J):O pb:=LP.lp (u8 unc9 j5c) (p,o,m,q,e,a,r,k,b,d,f,l,c,g,i,j,n)
theorem jjN(p o m q e a r k b d f l c g i j n):Km p o m q e a r k b d f l c g i j n=lpK (j5c p o m q e a r k b d f l c g i j n) (λh=>Km h.1 h.2.1 h.2.2.1 h.2.2.2.1 h.2.2.2.2.1 h.2.2.2.2.2.1 h.2.2.2.2.2.2.1 h.2.2.2.2.2.2.2.1 h.2.2.2.2.2.2.2.2.1 h.2.2.2.2.2.2.2.2.2.1 h.2.2.2.2.2.2.2.2.2.2.1 h.2.2.2.2.2.2.2.2.2.2.2.1 h.2.2.2.2.2.2.2.2.2.2.2.2.1 h.2.2.2.2.2.2.2.2.2.2.2.2.2.1 h.2.2.2.2.2.2.2.2.2.2.2.2.2.2.1 h.2.2.2.2.2.2.2.2.2.2.2.2.2.2.2.1 h.2.2.2.2.2.2.2.2.2.2.2.2.2.2.2.2):=bc _ _
def ja7[LP](b:eh)(a:fq)(c d:J):O ((Y J)×J):=(jdo (b.1,(b.2.1,b.2.2)) (a.1,(a.2.1,((a.2.2.1.1,a.2.2.1.2),(a.2.2.2.1,(a.2.2.2.2.1,(a.2.2.2.2.2.1,(a.2.2.2.2.2.2.1,(a.2.2.2.2.2.2.2.1,a.2.2.2.2.2.2.2.2))))))))).bind λf=>cond (f != 0) (M (([]:(Y J)),8)) ((j8P c d).bind λg=>cond (!g) (M (([]:(Y J)),1)) ((jdq (b.1,(b.2.1,b.2.2)) (a.1,(a.2.1,((a.2.2.1.1,a.2.2.1.2),(a.2.2.2.1,(a.2.2.2.2.1,(a.2.2.2.2.2.1,(a.2.2.2.2.2.2.1,(a.2.2.2.2.2.2.2.1,a.2.2.2.2.2.2.2.2)))))))) c).bind λe=>let i:Int:=if e>0 then e else 0
 (Km c d i b.1 b.2.1 b.2.2 a.1 a.2.1 a.2.2.1.1 a.2.2.1.2 a.2.2.2.1 a.2.2.2.2.1 a.2.2.2.2.2.1 a.2.2.2.2.2.2.1 a.2.2.2.2.2.2.2.1 a.2.2.2.2.2.2.2.2 ([]:(Y J))).bind λj=>M (j.2,j.1)))
def j8c(a:J×J):O Int:=(jdh a.1).bind λb=>let c:=w64 (b*86400)
 let d:=w64 (c+a.2)
 M d
def j62(c:ai)(k j b a:J)(n:ai):O ((ai×J×J×J×J×ai) ⊕ (ai×J×J×J×ai)):=
 let l:=U c.length
 cond (N (a<l)) (cond (inR a c.length) (let m:=S c a.toNat (0,0)
 let f:=w64 (b+m.1)
 let e:Int:=if f>k then f else k
 cond (inR a c.length) (let r:=S c a.toNat (0,0)
 let g:=w64 (b+r.2)
 let i:Int:=if g<j then g else j
 cond (N (e<i)) (let d:ai:=[(e,i)]
 cond (N (X n+X d<=aM)) (let o:ai:=n++d
 let p:=w64 (a+1)
 M (.inl (c,k,j,b,p,o))) Z) (let q:=w64 (a+1)
 M (.inl (c,k,j,b,q,n)))) Z) Z) (M (.inr (c,k,j,b,n)))
def Kn[LP](f:ai)(e c a b:J)(d:ai):O (ai×J×J×J×ai):=LP.lp (unc6 j62) (f,e,c,a,b,d)
theorem ZS(f e c a b d):Kn f e c a b d=lpK (j62 f e c a b d) (λh=>Kn h.1 h.2.1 h.2.2.1 h.2.2.2.1 h.2.2.2.2.1 h.2.2.2.2.2):=bc _ _
def j63[LP](g:ai)(f d c:J)(e:ai):O ((ai×J×J×J×ai) ⊕ (ai)):=cond (N (c<d)) ((Kn g f d c 0 e).bind λa=>let b:=w64 (a.2.2.2.1+604800)
 M (.inl (a.1,a.2.1,a.2.2.1,b,a.2.2.2.2))) (M (.inr e))
def Ko[LP](e:ai)(d b a:J)(c:ai):O ai:=LP.lp (unc5 j63) (e,d,b,a,c)
theorem ZT(e d b a c):Ko e d b a c=lpK (j63 e d b a c) (λh=>Ko h.1 h.2.1 h.2.2.1 h.2.2.2.1 h.2.2.2.2):=bc _ _
def jbF[LP](d:ai)(a c b:J):O ai:=
 let l:=w64 (a+b)
 let f:=w64 (a+b)
 let g:=w64 (f+864000)
 let k:=w64 (È g 86400)
 let o:=w64 (k-10)
 let p:=w64 (a+b)
 let m:=w64 (p+864000)
 let i:=Ã m 86400
 (j8c (o,i)).bind λn=>let e:=w64 (l-n)
 let j:=w64 (e-b)
 (Ko d a c j ([]:ai)).bind λq=>M q
def j6N(b:ai)(a:J)(c:ai):O ((ai×J×ai) ⊕ (ai)):=
 let u:=U b.length
 cond (N (a<u)) (let e:=U c.length
 cond (N (e>0)) (let k:=w64 (e-1)
 cond (inR k c.length) (let n:=(S c k.toNat (0,0)).2
 cond (inR a b.length) (let m:=S b a.toNat (0,0)
 cond (n==m.1) (let d:=w64 (e-1)
 cond (inR a b.length) (let l:=S b a.toNat (0,0)
 cond (inR d c.length) (let t:ai:=Ê c d.toNat ((S c d.toNat (0,0)).1,l.2)
 let s:=w64 (a+1)
 M (.inl (b,s,t))) Z) Z) (cond (inR a b.length) (let g:=S b a.toNat (0,0)
 let j:ai:=[(g.1,g.2)]
 cond (N (X c+X j<=aM)) (let q:ai:=c++j
 let r:=w64 (a+1)
 M (.inl (b,r,q))) Z) Z)) Z) Z) (cond (inR a b.length) (let f:=S b a.toNat (0,0)
 let i:ai:=[(f.1,f.2)]
 cond (N (X c+X i<=aM)) (let o:ai:=c++i
 let p:=w64 (a+1)
 M (.inl (b,p,o))) Z) Z)) (M (.inr c))
def Kp[LP](a:ai)(b:J)(c:ai):O ai:=LP.lp (unc3 j6N) (a,b,c)
theorem ZU(a b c):Kp a b c=lpK (j6N a b c) (λh=>Kp h.1 h.2.1 h.2.2):=bc _ _
def jeq[LP](a b:ai):O ai:=(Kp b 0 a).bind λc=>M c
def j64[LP](i:ai)(g e b:J)(k:W)(c:J)(d:aY)(a f:ai):O ((ai×J×J×J×W×J×aY×ai×ai) ⊕ (ai)):=
 let a7:=U a.length
 cond (N (b<a7)) (cond (N (b>=0)) (cond (inR b a.length) (let q:=(S a b.toNat (0,0)).2
 cond (inR b a.length) (let p:=(S a b.toNat (0,0)).1
 let j:Int:=if p>g then p else g
 let b1:=w64 (b+1)
 let a8:=U a.length
 cond (N (b1<a8)) (let o:=w64 (b+1)
 cond (inR o a.length) (let r:=(S a o.toNat (0,0)).1
 let n:Int:=if r<e then r else e
 cond (N (j<n)) ((jbF i j n q).bind λb2=>(jeq f b2).bind λa6=>let t:=w64 (b+1)
 M (.inl (i,g,e,t,k,c,d,a,a6))) (let a3:=w64 (b+1)
 M (.inl (i,g,e,a3,k,c,d,a,f)))) Z) (cond (N (j<e)) ((jbF i j e q).bind λa5=>(jeq f a5).bind λb0=>let v:=w64 (b+1)
 M (.inl (i,g,e,v,k,c,d,a,b0))) (let a4:=w64 (b+1)
 M (.inl (i,g,e,a4,k,c,d,a,f))))) Z) Z) (let a9:=w64 (b+1)
 let b3:=U a.length
 cond (N (a9<b3)) (let l:=w64 (b+1)
 cond (inR l a.length) (let s:=(S a l.toNat (0,0)).1
 let m:Int:=if s<e then s else e
 cond (N (g<m)) ((jbF i g m c).bind λa1=>(jeq f a1).bind λu=>let w:=w64 (b+1)
 M (.inl (i,g,e,w,k,c,d,a,u))) (let z:=w64 (b+1)
 M (.inl (i,g,e,z,k,c,d,a,f)))) Z) (cond (N (g<e)) ((jbF i g e c).bind λa2=>(jeq f a2).bind λy=>let x:=w64 (b+1)
 M (.inl (i,g,e,x,k,c,d,a,y))) (let a0:=w64 (b+1)
 M (.inl (i,g,e,a0,k,c,d,a,f)))))) (M (.inr f))
def GC[LP](j:ai)(g f c:J)(i:W)(b:J)(a:aY)(e d:ai):O ai:=LP.lp (unc9 j64) (j,g,f,c,i,b,a,e,d)
theorem ZV(j g f c i b a e d):GC j g f c i b a e d=lpK (j64 j g f c i b a e d) (λh=>GC h.1 h.2.1 h.2.2.1 h.2.2.2.1 h.2.2.2.2.1 h.2.2.2.2.2.1 h.2.2.2.2.2.2.1 h.2.2.2.2.2.2.2.1 h.2.2.2.2.2.2.2.2):=bc _ _
def j5d[LP](a:eh)(d:ai)(b c:J):O (ai×J):=(j0j (a.1,(a.2.1,a.2.2))).bind λe=>cond (e.2 != 0) (M (([]:ai),8)) ((j3g d).bind λg=>cond (g != 0) (M (([]:ai),8)) ((j8P b c).bind λj=>cond (!j) (M (([]:ai),1)) ((GC d b c (-1) a.1 a.2.1 a.2.2 e.1 ([]:ai)).bind λi=>let f:=U i.length
 cond (N (f>4096)) (M (([]:ai),5)) (M (i,0)))))
def j3x(d:J)(m:W)(b:J)(e:aY)(j a:J)(c:ai)(i:Y J):O ((J×W×J×aY×J×J×ai×(Y J)) ⊕ (Y J)):=
 let b7:=U c.length
 cond (N (d<b7)) (cond (N (d>=0)) (cond (inR d c.length) (let o:=(S c d.toNat (0,0)).2
 cond (inR d c.length) (let q:=(S c d.toNat (0,0)).1
 let a6:=w64 (d+1)
 let b4:=U c.length
 cond (N (a6<b4)) (let n:=w64 (d+1)
 cond (inR n c.length) (let a9:=(S c n.toNat (0,0)).1
 let b5:=w64 (j*86400)
 let b2:=w64 (b5+a)
 let k:=w64 (b2-o)
 cond (cond (N (k>=q)) (N (k<a9)) Á) (cond (N (X i+X [k]<=aM)) (let b6:Y Int:=i++[k]
 let a0:=w64 (d+1)
 M (.inl (a0,m,b,e,j,a,c,b6))) Z) (let v:=w64 (d+1)
 M (.inl (v,m,b,e,j,a,c,i)))) Z) (let b1:=w64 (j*86400)
 let b3:=w64 (b1+a)
 let l:=w64 (b3-o)
 cond (cond (N (l>=q)) (N (l<8589934593)) Á) (cond (N (X i+X [l]<=aM)) (let b0:Y Int:=i++[l]
 let u:=w64 (d+1)
 M (.inl (u,m,b,e,j,a,c,b0))) Z) (let x:=w64 (d+1)
 M (.inl (x,m,b,e,j,a,c,i))))) Z) Z) (let a7:=w64 (d+1)
 let a5:=U c.length
 cond (N (a7<a5)) (let p:=w64 (d+1)
 cond (inR p c.length) (let a8:=(S c p.toNat (0,0)).1
 let z:=w64 (j*86400)
 let a1:=w64 (z+a)
 let f:=w64 (a1-b)
 cond (cond (N (f>=0)) (N (f<a8)) Á) (cond (N (X i+X [f]<=aM)) (let a2:Y Int:=i++[f]
 let r:=w64 (d+1)
 M (.inl (r,m,b,e,j,a,c,a2))) Z) (let y:=w64 (d+1)
 M (.inl (y,m,b,e,j,a,c,i)))) Z) (let a4:=w64 (j*86400)
 let s:=w64 (a4+a)
 let g:=w64 (s-b)
 cond (cond (N (g>=0)) (N (g<8589934593)) Á) (cond (N (X i+X [g]<=aM)) (let a3:Y Int:=i++[g]
 let t:=w64 (d+1)
 M (.inl (t,m,b,e,j,a,c,a3))) Z) (let w:=w64 (d+1)
 M (.inl (w,m,b,e,j,a,c,i)))))) (M (.inr i))
def AS[LP](d:J)(g:W)(c:J)(a:aY)(e b:J)(f:ai)(i:Y J):O (Y J):=LP.lp (unc8 j3x) (d,g,c,a,e,b,f,i)
theorem ZW(d g c a e b f i):AS d g c a e b f i=lpK (j3x d g c a e b f i) (λh=>AS h.1 h.2.1 h.2.2.1 h.2.2.2.1 h.2.2.2.2.1 h.2.2.2.2.2.1 h.2.2.2.2.2.2.1 h.2.2.2.2.2.2.2):=bc _ _
def j8d[LP](a:eh)(b:J×J):O ((Y J)×J):=(j0j (a.1,(a.2.1,a.2.2))).bind λc=>cond (c.2 != 0) (M (([]:(Y J)),8)) ((ja3 b.2 0 86399).bind λe=>cond (!e) (M (([]:(Y J)),1)) ((jfy b.1).bind λd=>cond (!d) (M (([]:(Y J)),0)) ((AS (-1) a.1 a.2.1 a.2.2 b.1 b.2 c.1 ([]:(Y J))).bind λf=>M (f,0))))
def j6O(b:J)(x:ao)(k:aq)(i:ar)(m:au)(w:W)(p j c d g:J)(n:Y J)(o:ai)(e f:J)(l:Y J)(a:ai):O ((J×ao×aq×ar×au×W×J×J×J×J×J×(Y J)×ai×J×J×(Y J)×ai) ⊕ (ao×aq×ar×au×W×J×J×J×J×J×(Y J)×ai×J×J×(Y J))):=
 let t:=U a.length
 cond (N (b<t)) (cond (inR b a.length) (let q:=(S a b.toNat (0,0)).1
 cond (inR b a.length) (let r:=(S a b.toNat (0,0)).2
 let v:Y Int:=[q,r]
 cond (N (X l+X v<=aM)) (let s:Y Int:=l++v
 let u:=w64 (b+1)
 M (.inl (u,x,k,i,m,w,p,j,c,d,g,n,o,e,f,s,a))) Z) Z) Z) (M (.inr (x,k,i,m,w,p,j,c,d,g,n,o,e,f,l)))
def Kq[LP](n:J)(q:ao)(e:aq)(b:ar)(l:au)(r:W)(k c d f m:J)(a:Y J)(g:ai)(i j:J)(o:Y J)(p:ai):O (ao×aq×ar×au×W×J×J×J×J×J×(Y J)×ai×J×J×(Y J)):=LP.lp (u8 unc9 j6O) (n,q,e,b,l,r,k,c,d,f,m,a,g,i,j,o,p)
theorem ZX(n q e b l r k c d f m a g i j o p):Kq n q e b l r k c d f m a g i j o p=lpK (j6O n q e b l r k c d f m a g i j o p) (λh=>Kq h.1 h.2.1 h.2.2.1 h.2.2.2.1 h.2.2.2.2.1 h.2.2.2.2.2.1 h.2.2.2.2.2.2.1 h.2.2.2.2.2.2.2.1 h.2.2.2.2.2.2.2.2.1 h.2.2.2.2.2.2.2.2.2.1 h.2.2.2.2.2.2.2.2.2.2.1 h.2.2.2.2.2.2.2.2.2.2.2.1 h.2.2.2.2.2.2.2.2.2.2.2.2.1 h.2.2.2.2.2.2.2.2.2.2.2.2.2.1 h.2.2.2.2.2.2.2.2.2.2.2.2.2.2.1 h.2.2.2.2.2.2.2.2.2.2.2.2.2.2.2.1 h.2.2.2.2.2.2.2.2.2.2.2.2.2.2.2.2):=bc _ _
def j6P(c:J)(o:ao)(g:aq)(f:ar)(j:au)(n:W)(e:J)(d i:Y J)(b:ai):O ((J×ao×aq×ar×au×W×J×(Y J)×(Y J)×ai) ⊕ (ao×aq×ar×au×W×J×(Y J)×(Y J))):=
 let m:=U b.length
 cond (N (c<m)) (cond (inR c b.length) (let a:=(S b c.toNat (0,0)).1
 cond (N (X i+X [a]<=aM)) (let k:Y Int:=i++[a]
 let l:=w64 (c+1)
 M (.inl (l,o,g,f,j,n,e,d,k,b))) Z) Z) (M (.inr (o,g,f,j,n,e,d,i)))
def AU[LP](g:J)(k:ao)(d:aq)(c:ar)(e:au)(i:W)(b:J)(a j:Y J)(f:ai):O (ao×aq×ar×au×W×J×(Y J)×(Y J)):=LP.lp (u8 unc2 j6P) (g,k,d,c,e,i,b,a,j,f)
theorem ZY(g k d c e i b a j f):AU g k d c e i b a j f=lpK (j6P g k d c e i b a j f) (λh=>AU h.1 h.2.1 h.2.2.1 h.2.2.2.1 h.2.2.2.2.1 h.2.2.2.2.2.1 h.2.2.2.2.2.2.1 h.2.2.2.2.2.2.2.1 h.2.2.2.2.2.2.2.2.1 h.2.2.2.2.2.2.2.2.2):=bc _ _
def j4P[LP](e i:J)(p:ao)(g:aq)(f:ar)(o:au)(q:W)(a:J)(b n:Y J):O ((J×J×ao×aq×ar×au×W×J×(Y J)×(Y J)) ⊕ (J×ao×aq×ar×au×W×J×(Y J)×(Y J))):=cond (N (i<2)) (cond (inR a p.length) (let c:=S p a.toNat (À,(0,([]:aY)))
 cond (inR e b.length) (let j:=S b e.toNat 0
 let l:=w64 (j+i)
 (j8d (c.1,(c.2.1,c.2.2)) (l,0)).bind λd=>cond (N (X n+X d.1<=aM)) (let k:Y Int:=n++d.1
 let m:=w64 (i+1)
 M (.inl (e,m,p,g,f,o,q,a,b,k))) Z) Z) Z) (M (.inr (e,p,g,f,o,q,a,b,n)))
def Kr[LP](i f:J)(k:ao)(d:aq)(c:ar)(e:au)(g:W)(a:J)(b j:Y J):O (J×ao×aq×ar×au×W×J×(Y J)×(Y J)):=LP.lp (u8 unc2 j4P) (i,f,k,d,c,e,g,a,b,j)
theorem Px(i f k d c e g a b j):Kr i f k d c e g a b j=lpK (j4P i f k d c e g a b j) (λh=>Kr h.1 h.2.1 h.2.2.1 h.2.2.2.1 h.2.2.2.2.1 h.2.2.2.2.2.1 h.2.2.2.2.2.2.1 h.2.2.2.2.2.2.2.1 h.2.2.2.2.2.2.2.2.1 h.2.2.2.2.2.2.2.2.2):=bc _ _
def j6Q[LP](f:J)(m:ao)(j:aq)(i:ar)(k:au)(l:W)(e:J)(b g:Y J):O ((J×ao×aq×ar×au×W×J×(Y J)×(Y J)) ⊕ (Y J)):=
 let d:=U b.length
 cond (N (f<d)) ((Kr f 0 m j i k l e b g).bind λa=>let c:=w64 (a.1+1)
 M (.inl (c,a.2.1,a.2.2.1,a.2.2.2.1,a.2.2.2.2.1,a.2.2.2.2.2.1,a.2.2.2.2.2.2.1,a.2.2.2.2.2.2.2.1,a.2.2.2.2.2.2.2.2))) (M (.inr g))
def CZ[LP](g:J)(j:ao)(d:aq)(c:ar)(e:au)(f:W)(a:J)(b i:Y J):O (Y J):=LP.lp (unc9 j6Q) (g,j,d,c,e,f,a,b,i)
theorem ZZ(g j d c e f a b i):CZ g j d c e f a b i=lpK (j6Q g j d c e f a b i) (λh=>CZ h.1 h.2.1 h.2.2.1 h.2.2.2.1 h.2.2.2.2.1 h.2.2.2.2.2.1 h.2.2.2.2.2.2.1 h.2.2.2.2.2.2.2.1 h.2.2.2.2.2.2.2.2):=bc _ _
def jkV[LP](b:cO)(a:fq)(g l:J):O (Y J):=cond (inR a.2.1 b.1.length) (let f:=S b.1 a.2.1.toNat (À,(0,([]:aY)))
 (ja7 (f.1,(f.2.1,f.2.2)) (a.1,(a.2.1,((a.2.2.1.1,a.2.2.1.2),(a.2.2.2.1,(a.2.2.2.2.1,(a.2.2.2.2.2.1,(a.2.2.2.2.2.2.1,(a.2.2.2.2.2.2.2.1,a.2.2.2.2.2.2.2.2)))))))) g l).bind λp=>cond (N (X ([]:(Y J))+X p.1<=aM)) (let m:Y Int:=([]:(Y J))++p.1
 let r:=U a.2.2.2.2.2.2.1.length
 cond (N (r>0)) ((j5d (f.1,(f.2.1,f.2.2)) a.2.2.2.2.2.2.1 g l).bind λs=>(Kq 0 b.1 b.2.1 b.2.2.1 b.2.2.2 a.1 a.2.1 a.2.2.1.1 a.2.2.1.2 a.2.2.2.1 a.2.2.2.2.1 a.2.2.2.2.2.1 a.2.2.2.2.2.2.1 a.2.2.2.2.2.2.2.1 a.2.2.2.2.2.2.2.2 m s.1).bind λe=>cond (e.2.2.2.2.2.2.2.2.2.2.2.2.2.1==0) (M e.2.2.2.2.2.2.2.2.2.2.2.2.2.2) (cond (inR e.2.2.2.2.2.2.2.2.2.2.2.2.1 e.2.2.1.length) (let k:=S e.2.2.1 e.2.2.2.2.2.2.2.2.2.2.2.2.1.toNat (À,(0,([]:(Y J))))
 cond (inR k.2.1 e.1.length) (let n:=S e.1 k.2.1.toNat (À,(0,([]:aY)))
 (j0j (n.1,(n.2.1,n.2.2))).bind λt=>(AU 0 e.1 e.2.1 e.2.2.1 e.2.2.2.1 k.1 k.2.1 k.2.2 e.2.2.2.2.2.2.2.2.2.2.2.2.2.2 t.1).bind λj=>(CZ 0 j.1 j.2.1 j.2.2.1 j.2.2.2.1 j.2.2.2.2.1 j.2.2.2.2.2.1 j.2.2.2.2.2.2.1 j.2.2.2.2.2.2.2).bind λu=>M u) Z) Z)) (cond (a.2.2.2.2.2.2.2.2==0) (M m) (cond (inR a.2.2.2.2.2.2.2.1 b.2.2.1.length) (let d:=S b.2.2.1 a.2.2.2.2.2.2.2.1.toNat (À,(0,([]:(Y J))))
 cond (inR d.2.1 b.1.length) (let i:=S b.1 d.2.1.toNat (À,(0,([]:aY)))
 (j0j (i.1,(i.2.1,i.2.2))).bind λo=>(AU 0 b.1 b.2.1 b.2.2.1 b.2.2.2 d.1 d.2.1 d.2.2 m o.1).bind λc=>(CZ 0 c.1 c.2.1 c.2.2.1 c.2.2.2.1 c.2.2.2.2.1 c.2.2.2.2.2.1 c.2.2.2.2.2.2.1 c.2.2.2.2.2.2.2).bind λq=>M q) Z) Z))) Z) Z
def j6R(b4:(Y J)->O (Y J))(d e:J)(a c b:Y J):O ((J×J×(Y J)×(Y J)×(Y J)) ⊕ (Y J)):=
 let a8:=U c.length
 let a9:=U b.length
 cond (cond (N (d<a8)) Â (N (e<a9))) (let a4:=U b.length
 cond (e==a4) (cond (inR d c.length) (let j:=S c d.toNat 0
 let t:=w64 (d+1)
 let r:=U a.length
 let b2:=U a.length
 let o:=w64 (b2-1)
 cond ((inR o a.length) || !(!(r==0))) (let b0:=S a o.toNat 0
 cond (cond (r==0) Â (b0 != j)) (cond (N (X a+X [j]<=aM)) (let b3:Y Int:=a++[j]
 M (.inl (t,e,b3,c,b))) Z) (M (.inl (t,e,a,c,b)))) Z) Z) (let z:=U c.length
 cond (N (d<z)) (cond (inR d c.length) (let a1:=S c d.toNat 0
 cond (inR e b.length) (let a2:=S b e.toNat 0
 cond (N (a1<=a2)) (cond (inR d c.length) (let f:=S c d.toNat 0
 let v:=w64 (d+1)
 let m:=U a.length
 let a0:=U a.length
 let p:=w64 (a0-1)
 cond ((inR p a.length) || !(!(m==0))) (let a6:=S a p.toNat 0
 cond (cond (m==0) Â (a6 != f)) (cond (N (X a+X [f]<=aM)) (let a3:Y Int:=a++[f]
 M (.inl (v,e,a3,c,b))) Z) (M (.inl (v,e,a,c,b)))) Z) Z) (cond (inR e b.length) (let g:=S b e.toNat 0
 let q:=w64 (e+1)
 let u:=U a.length
 let a5:=U a.length
 let l:=w64 (a5-1)
 cond ((inR l a.length) || !(!(u==0))) (let y:=S a l.toNat 0
 cond (cond (u==0) Â (y != g)) (cond (N (X a+X [g]<=aM)) (let w:Y Int:=a++[g]
 M (.inl (d,q,w,c,b))) Z) (M (.inl (d,q,a,c,b)))) Z) Z)) Z) Z) (cond (inR e b.length) (let i:=S b e.toNat 0
 let n:=w64 (e+1)
 let s:=U a.length
 let a7:=U a.length
 let k:=w64 (a7-1)
 cond ((inR k a.length) || !(!(s==0))) (let b1:=S a k.toNat 0
 cond (cond (s==0) Â (b1 != i)) (cond (N (X a+X [i]<=aM)) (let x:Y Int:=a++[i]
 M (.inl (d,n,x,c,b))) Z) (M (.inl (d,n,a,c,b)))) Z) Z))) (M (.inr a))
def Ks[LP](a:(Y J)->O (Y J))(e d:J)(f c b:Y J):O (Y J):=LP.lp (unc5 (j6R a)) (e,d,f,c,b)
theorem Z0(a:(Y J)->O (Y J))(e d:J)(f c b:Y J):Ks a e d f c b=lpK (j6R a e d f c b) (λh=>Ks a h.1 h.2.1 h.2.2.1 h.2.2.2.1 h.2.2.2.2):=bc _ _
def Kt[LP](c:(Y J)->O (Y J))(a:Y J):O (Y J):=
 let e:=U a.length
 cond (N (e<2)) (cond (N (X ([]:(Y J))+X a<=aM)) (let j:Y Int:=([]:(Y J))++a
 M j) Z) (let f:=U a.length
 let b:=w64 (È f 2)
 cond (N ((0:J)<=0)&&(N (0<=b)&&N (b<=(U a.length)))) (let i:Y Int:=Í 0 (Ì b.toNat a)
 (c i).bind λk=>let g:=U a.length
 let d:=w64 (È g 2)
 cond (N (0<=d)&&(N (d<=(U a.length))&&N ((U a.length)<=(U a.length)))) (let m:Y Int:=Í d.toNat (Ì a.length a)
 (c m).bind λl=>(Ks c 0 0 ([]:(Y J)) k l).bind λn=>M n) Z) Z)
def j5e[LP](b:(Y J)->O (Y J))(h:Y J):O (Y J):=Kt (λa=>b a) h
def jrc[LP](a:Y J):O (Y J):=LP.rp j5e a
def j4D(e j a:J)(f b:Y J):O ((J×J×J×(Y J)×(Y J)) ⊕ (J×J×(Y J))):=
 let g:=U b.length
 cond (N (a<g)) (cond (inR a b.length) (let c:=S b a.toNat 0
 cond ((inR a b.length) || !(N (c>e))) (let k:=S b a.toNat 0
 cond (cond (N (c>e)) (N (k<j)) Á) (cond (inR a b.length) (let d:=S b a.toNat 0
 cond (N (X f+X [d]<=aM)) (let m:Y Int:=f++[d]
 let i:=w64 (a+1)
 M (.inl (e,j,i,m,b))) Z) Z) (let l:=w64 (a+1)
 M (.inl (e,j,l,f,b)))) Z) Z) (M (.inr (e,j,f)))
def Ku[LP](d b c:J)(a e:Y J):O (J×J×(Y J)):=LP.lp (unc5 j4D) (d,b,c,a,e)
theorem Z1(d b c a e):Ku d b c a e=lpK (j4D d b c a e) (λh=>Ku h.1 h.2.1 h.2.2.1 h.2.2.2.1 h.2.2.2.2):=bc _ _
def jgh[LP](c:Y J)(a d:J):O (Y J):=(jrc c).bind λf=>(Ku a d 0 [a] f).bind λb=>cond (N (b.2.1>b.1)) (cond (N (X b.2.2+X [b.2.1]<=aM)) (let e:Y Int:=b.2.2++[b.2.1]
 M e) Z) (M b.2.2)
def j6S[LP](o n c:J)(q:ao)(f:aq)(e:ar)(j:au)(p:W)(b:ba)(g:aX)(i:Y J):O ((J×J×J×ao×aq×ar×au×W×ba×aX×(Y J)) ⊕ (J×J×W×ba×aX×(Y J))):=
 let k:=U b.length
 cond (N (c<k)) (cond (inR c b.length) (let a:=S b c.toNat (À,(0,((0,0),(0,(0,(([]:(Y J)),(([]:ai),(0,0))))))))
 (jkV (q,(f,(e,j))) (a.1,(a.2.1,((a.2.2.1.1,a.2.2.1.2),(a.2.2.2.1,(a.2.2.2.2.1,(a.2.2.2.2.2.1,(a.2.2.2.2.2.2.1,(a.2.2.2.2.2.2.2.1,a.2.2.2.2.2.2.2.2)))))))) o n).bind λd=>cond (N (X i+X d<=aM)) (let l:Y Int:=i++d
 let m:=w64 (c+1)
 M (.inl (o,n,m,q,f,e,j,p,b,g,l))) Z) Z) (M (.inr (o,n,p,b,g,i)))
def Kv[LP](k i f:J)(l:ao)(c:aq)(a:ar)(e:au)(j:W)(b:ba)(d:aX)(g:Y J):O (J×J×W×ba×aX×(Y J)):=LP.lp (u8 unc3 j6S) (k,i,f,l,c,a,e,j,b,d,g)
theorem Z2(k i f l c a e j b d g):Kv k i f l c a e j b d g=lpK (j6S k i f l c a e j b d g) (λh=>Kv h.1 h.2.1 h.2.2.1 h.2.2.2.1 h.2.2.2.2.1 h.2.2.2.2.2.1 h.2.2.2.2.2.2.1 h.2.2.2.2.2.2.2.1 h.2.2.2.2.2.2.2.2.1 h.2.2.2.2.2.2.2.2.2.1 h.2.2.2.2.2.2.2.2.2.2):=bc _ _
def j6T(m l b:J)(n:W)(k:ba)(a:aX)(d:Y J):O ((J×J×J×W×ba×aX×(Y J)) ⊕ (J×J×(Y J))):=
 let e:=U a.length
 cond (N (b<e)) (cond (inR b a.length) (let i:=S a b.toNat (0,(0,(0,(0,0))))
 cond (inR b a.length) (let g:=S a b.toNat (0,(0,(0,(0,0))))
 let c:Y Int:=[i.2.2.2.1,g.2.2.2.2]
 cond (N (X d+X c<=aM)) (let j:Y Int:=d++c
 let f:=w64 (b+1)
 M (.inl (m,l,f,n,k,a,j))) Z) Z) Z) (M (.inr (m,l,d)))
def Kw[LP](g e c:J)(f:W)(a:ba)(b:aX)(d:Y J):O (J×J×(Y J)):=LP.lp (unc7 j6T) (g,e,c,f,a,b,d)
theorem Z3(g e c f a b d):Kw g e c f a b d=lpK (j6T g e c f a b d) (λh=>Kw h.1 h.2.1 h.2.2.1 h.2.2.2.1 h.2.2.2.2.1 h.2.2.2.2.2.1 h.2.2.2.2.2.2):=bc _ _
def jnf[LP](b:cO)(a d f:J):O (Y J):=cond (inR a b.2.2.2.length) (let e:=S b.2.2.2 a.toNat (À,(([]:ba),([]:aX)))
 (Kv d f 0 b.1 b.2.1 b.2.2.1 b.2.2.2 e.1 e.2.1 e.2.2 ([]:(Y J))).bind λc=>(Kw c.1 c.2.1 0 c.2.2.1 c.2.2.2.1 c.2.2.2.2.1 c.2.2.2.2.2).bind λg=>(jgh g.2.2 g.1 g.2.1).bind λi=>M i) Z
def jhT[LP](b:eh)(a:fq)(c:J):O (J×J):=(jdo (b.1,(b.2.1,b.2.2)) (a.1,(a.2.1,((a.2.2.1.1,a.2.2.1.2),(a.2.2.2.1,(a.2.2.2.2.1,(a.2.2.2.2.2.1,(a.2.2.2.2.2.2.1,(a.2.2.2.2.2.2.2.1,a.2.2.2.2.2.2.2.2))))))))).bind λd=>cond (d != 0) (M (0,8)) (cond (cond (N (c<0)) Â (N (c>8589934592))) (M (0,1)) ((jdq (b.1,(b.2.1,b.2.2)) (a.1,(a.2.1,((a.2.2.1.1,a.2.2.1.2),(a.2.2.2.1,(a.2.2.2.2.1,(a.2.2.2.2.2.1,(a.2.2.2.2.2.2.1,(a.2.2.2.2.2.2.2.1,a.2.2.2.2.2.2.2.2)))))))) c).bind λe=>M (e,0)))
def jcY[LP](a:eh)(c:J):O (J×J):=(j3Q (a.1,(a.2.1,a.2.2)) c).bind λb=>cond (b.2 != 0) (M (0,b.2)) ((j8c (b.1.1,b.1.2)).bind λd=>M (d,0))
def j5f(c:ai)(f b:J):O ((ai×J×J) ⊕ (Å ⊕ Æ)):=
 let g:=U c.length
 cond (N (b<g)) (cond (inR b c.length) (let a:=S c b.toNat (0,0)
 cond ((inR b c.length) || !(N (f>=a.1))) (let d:=S c b.toNat (0,0)
 cond (cond (N (f>=a.1)) (N (f<d.2)) Á) (M (.inr (.inl Â))) (let e:=w64 (b+1)
 M (.inl (c,f,e)))) Z) Z) (M (.inr (.inr ())))
def GD[LP](c:ai)(a b:J):O (Å ⊕ Æ):=LP.lp (unc3 j5f) (c,a,b)
theorem Z5(c a b):GD c a b=lpK (j5f c a b) (λh=>GD h.1 h.2.1 h.2.2):=bc _ _
def jiJ[LP](a:ai)(b:J):O Bool:=(GD a b 0).bind λc=>sumC c (λd=>M d) (λe=>M Á)
def jta[LP](a:eh)(b:ai)(d:J):O Bool:=(jcY (a.1,(a.2.1,a.2.2)) d).bind λc=>cond (c.2==0) ((j3g b).bind λf=>cond (f==0) ((jiJ b c.1).bind λe=>M e) (M Á)) (M Á)
def j6U(v:J)(t:Å)(b:J)(w:W)(i g j k f:J)(c:Y J)(d:ai)(l e:J)(u:W)(n:J)(a:Y J)(o m:J):O ((J×Å×J×W×J×J×J×J×J×(Y J)×ai×J×J×W×J×(Y J)×J×J) ⊕ (J×Å×W×J×J×J×J×J×(Y J)×ai×J×J)):=
 let q:=U a.length
 cond (N (b<q)) (cond t (let r:=w64 (b+1)
 M (.inl (v,Â,r,w,i,g,j,k,f,c,d,l,e,u,n,a,o,m))) (cond (inR b a.length) (let s:=S a b.toNat 0
 let p:=w64 (b+1)
 M (.inl (v,(s==o),p,w,i,g,j,k,f,c,d,l,e,u,n,a,o,m))) Z)) (M (.inr (v,t,w,i,g,j,k,f,c,d,l,e)))
def AV[LP](s:J)(o:Å)(n:J)(r:W)(i e l g m:J)(k:Y J)(d:ai)(j f:J)(p:W)(a:J)(b:Y J)(q c:J):O (J×Å×W×J×J×J×J×J×(Y J)×ai×J×J):=LP.lp (u8 (u8 unc2) j6U) (s,o,n,r,i,e,l,g,m,k,d,j,f,p,a,b,q,c)
theorem Z6(r p n s j i k l g d e m f q c b o a):AV r p n s j i k l g d e m f q c b o a=lpK (j6U r p n s j i k l g d e m f q c b o a) (λh=>AV h.1 h.2.1 h.2.2.1 h.2.2.2.1 h.2.2.2.2.1 h.2.2.2.2.2.1 h.2.2.2.2.2.2.1 h.2.2.2.2.2.2.2.1 h.2.2.2.2.2.2.2.2.1 h.2.2.2.2.2.2.2.2.2.1 h.2.2.2.2.2.2.2.2.2.2.1 h.2.2.2.2.2.2.2.2.2.2.2.1 h.2.2.2.2.2.2.2.2.2.2.2.2.1 h.2.2.2.2.2.2.2.2.2.2.2.2.2.1 h.2.2.2.2.2.2.2.2.2.2.2.2.2.2.1 h.2.2.2.2.2.2.2.2.2.2.2.2.2.2.2.1 h.2.2.2.2.2.2.2.2.2.2.2.2.2.2.2.2.1 h.2.2.2.2.2.2.2.2.2.2.2.2.2.2.2.2.2):=bc _ _
def jkW[LP](b:cO)(a:fq)(g:J):O (J×Å):=cond (inR a.2.1 b.1.length) (let e:=S b.1 a.2.1.toNat (À,(0,([]:aY)))
 (jhT (e.1,(e.2.1,e.2.2)) (a.1,(a.2.1,((a.2.2.1.1,a.2.2.1.2),(a.2.2.2.1,(a.2.2.2.2.1,(a.2.2.2.2.2.1,(a.2.2.2.2.2.2.1,(a.2.2.2.2.2.2.2.1,a.2.2.2.2.2.2.2.2)))))))) g).bind λd=>let n:=U a.2.2.2.2.2.2.1.length
 cond (cond (d.2 != 0) Â (N (d.1<0))) (cond ((!(N (n>0))) || !(!Â)) (M (0,Á)) Z) (cond (N (n>0)) ((jta (e.1,(e.2.1,e.2.2)) a.2.2.2.2.2.2.1 g).bind λp=>cond (!p) (M (0,Á)) (cond (a.2.2.2.2.2.2.2.2==0) (M (d.1,Â)) (cond (inR a.2.2.2.2.2.2.2.1 b.2.2.1.length) (let i:=S b.2.2.1 a.2.2.2.2.2.2.2.1.toNat (À,(0,([]:(Y J))))
 cond (inR i.2.1 b.1.length) (let l:=S b.1 i.2.1.toNat (À,(0,([]:aY)))
 (j3Q (l.1,(l.2.1,l.2.2)) g).bind λm=>(AV d.1 Á 0 a.1 a.2.1 a.2.2.1.1 a.2.2.1.2 a.2.2.2.1 a.2.2.2.2.1 a.2.2.2.2.2.1 a.2.2.2.2.2.2.1 a.2.2.2.2.2.2.2.1 a.2.2.2.2.2.2.2.2 i.1 i.2.1 i.2.2 m.1.1 m.1.2).bind λo=>M (o.1,(o.2.1==(o.2.2.2.2.2.2.2.2.2.2.2==2)))) Z) Z))) (cond (a.2.2.2.2.2.2.2.2==0) (M (d.1,Â)) (cond (inR a.2.2.2.2.2.2.2.1 b.2.2.1.length) (let c:=S b.2.2.1 a.2.2.2.2.2.2.2.1.toNat (À,(0,([]:(Y J))))
 cond (inR c.2.1 b.1.length) (let f:=S b.1 c.2.1.toNat (À,(0,([]:aY)))
 (j3Q (f.1,(f.2.1,f.2.2)) g).bind λk=>(AV d.1 Á 0 a.1 a.2.1 a.2.2.1.1 a.2.2.1.2 a.2.2.2.1 a.2.2.2.2.1 a.2.2.2.2.2.1 a.2.2.2.2.2.2.1 a.2.2.2.2.2.2.2.1 a.2.2.2.2.2.2.2.2 c.1 c.2.1 c.2.2 k.1.1 k.1.2).bind λj=>M (j.1,(j.2.1==(j.2.2.2.2.2.2.2.2.2.2.2==2)))) Z) Z)))) Z
def joc[LP](b:cO)(a:fq)(f:J):O Int:=(jkW (b.1,(b.2.1,(b.2.2.1,b.2.2.2))) (a.1,(a.2.1,((a.2.2.1.1,a.2.2.1.2),(a.2.2.2.1,(a.2.2.2.2.1,(a.2.2.2.2.2.1,(a.2.2.2.2.2.2.1,(a.2.2.2.2.2.2.2.1,a.2.2.2.2.2.2.2.2)))))))) f).bind λd=>cond (!d.2) (M (-1)) (let c:=U a.2.2.2.2.2.1.length
 cond (!(c==0)) (let e:=Ã d.1 c
 cond (inR e a.2.2.2.2.2.1.length) (let g:=S a.2.2.2.2.2.1 e.toNat 0
 M g) Z) Z)
def j6V(i f e:J)(k:W)(g:ba)(b:aX):O ((J×J×J×W×ba×aX) ⊕ (Å ⊕ Æ)):=
 let d:=U b.length
 cond (N (e<d)) (cond (inR e b.length) (let a:=S b e.toNat (0,(0,(0,(0,0))))
 let j:Bool:=cond (cond (a.1==0) (a.2.1==i) Á) (N (a.2.2.2.1<=f)) Á
 cond (cond j (N (f<a.2.2.2.2)) Á) (M (.inr (.inl Â))) (let c:=w64 (e+1)
 M (.inl (i,f,c,k,g,b)))) Z) (M (.inr (.inr ())))
def GF[LP](e c f:J)(d:W)(b:ba)(a:aX):O (Å ⊕ Æ):=LP.lp (unc6 j6V) (e,c,f,d,b,a)
theorem Z7(e c f d b a):GF e c f d b a=lpK (j6V e c f d b a) (λh=>GF h.1 h.2.1 h.2.2.1 h.2.2.2.1 h.2.2.2.2.1 h.2.2.2.2.2):=bc _ _
def jng[LP](b:mA)(a c:J):O Bool:=(GF a c 0 b.1 b.2.1 b.2.2).bind λd=>sumC d (λe=>M e) (λf=>M Á)
def j7M[LP](l i:J)(o:ao)(e:aq)(g:ar)(f:au)(n:W)(b:ba)(d:aX):O ((J×J×ao×aq×ar×au×W×ba×aX) ⊕ ((J×J) ⊕ Æ)):=cond (N (i>=0)) (cond (inR i b.length) (let a:=S b i.toNat (À,(0,((0,0),(0,(0,(([]:(Y J)),(([]:ai),(0,0))))))))
 (joc (o,(e,(g,f))) (a.1,(a.2.1,((a.2.2.1.1,a.2.2.1.2),(a.2.2.2.1,(a.2.2.2.2.1,(a.2.2.2.2.2.1,(a.2.2.2.2.2.2.1,(a.2.2.2.2.2.2.2.1,a.2.2.2.2.2.2.2.2)))))))) l).bind λc=>cond (N (c>=0)) ((jng (n,(b,d)) c l).bind λm=>cond (!m) (M (.inr (.inl (i,c)))) (let k:=w64 (i-1)
 M (.inl (l,k,o,e,g,f,n,b,d)))) (let j:=w64 (i-1)
 M (.inl (l,j,o,e,g,f,n,b,d)))) Z) (M (.inr (.inr ())))
def GG[LP](g j:J)(i:ao)(c:aq)(e:ar)(d:au)(f:W)(b:ba)(a:aX):O ((J×J) ⊕ Æ):=LP.lp (unc9 j7M) (g,j,i,c,e,d,f,b,a)
theorem Z8(g j i c e d f b a):GG g j i c e d f b a=lpK (j7M g j i c e d f b a) (λh=>GG h.1 h.2.1 h.2.2.1 h.2.2.2.1 h.2.2.2.2.1 h.2.2.2.2.2.1 h.2.2.2.2.2.2.1 h.2.2.2.2.2.2.2.1 h.2.2.2.2.2.2.2.2):=bc _ _
def jrd[LP](b:cO)(a d:J):O (J×J):=cond (inR a b.2.2.2.length) (let c:=S b.2.2.2 a.toNat (À,(([]:ba),([]:aX)))
 let e:=U c.2.1.length
 let f:=w64 (e-1)
 (GG d f b.1 b.2.1 b.2.2.1 b.2.2.2 c.1 c.2.1 c.2.2).bind λg=>sumC g (λi=>M (i.1,i.2)) (λj=>M ((-1),(-1)))) Z
def j6W(c:aX)(e d b:J):O ((aX×J×J×J) ⊕ (J)):=
 let l:=U c.length
 cond (N (b<l)) (cond (inR b c.length) (let a:=S c b.toNat (0,(0,(0,(0,0))))
 cond (cond (N (d<a.2.2.2.1)) Â (N (d>=a.2.2.2.2))) (let g:=w64 (b+1)
 M (.inl (c,e,d,g))) (cond (a.1==1) (let i:=w64 (b+1)
 M (.inl (c,a.2.1,d,i))) (cond (cond (a.1==2) (e==a.2.1) Á) (let j:=w64 (b+1)
 M (.inl (c,a.2.2.1,d,j))) (cond (cond (a.1==2) (e==a.2.2.1) Á) (let k:=w64 (b+1)
 M (.inl (c,a.2.1,d,k))) (let f:=w64 (b+1)
 M (.inl (c,e,d,f))))))) Z) (M (.inr e))
def GH[LP](d:aX)(a c b:J):O Int:=LP.lp (unc4 j6W) (d,a,c,b)
theorem Z9(d b a c):GH d b a c=lpK (j6W d b a c) (λh=>GH h.1 h.2.1 h.2.2.1 h.2.2.2):=bc _ _
def jre[LP](b:aX)(a c:J):O Int:=(GH b a c 0).bind λd=>M d
def jod[LP](b:cO)(a c:J):O Int:=(jrd (b.1,(b.2.1,(b.2.2.1,b.2.2.2))) a c).bind λf=>cond (inR a b.2.2.2.length) (let e:=S b.2.2.2 a.toNat (À,(([]:ba),([]:aX)))
 (jre e.2.2 f.2 c).bind λd=>M d) Z
def jiK(a:af)(b:od):O af:=cond (N (b.2.1<=b.1)) (M a) (let f:=U a.length
 cond (N (f>0)) (let k:=w64 (f-1)
 cond (inR k a.length) (let o:=(S a k.toNat (0,(0,0))).2.1
 cond (o==b.1) (let j:=w64 (f-1)
 cond (inR j a.length) (let m:=(S a j.toNat (0,(0,0))).2.2
 cond (m==b.2.2) (let e:=w64 (f-1)
 cond (inR e a.length) (let p:af:=Ê a e.toNat ((S a e.toNat (0,(0,0))).1,(b.2.1,(S a e.toNat (0,(0,0))).2.2))
 M p) Z) (let l:af:=[(b.1,(b.2.1,b.2.2))]
 cond (N (X a+X l<=aM)) (let n:af:=a++l
 M n) Z)) Z) (let c:af:=[(b.1,(b.2.1,b.2.2))]
 cond (N (X a+X c<=aM)) (let g:af:=a++c
 M g) Z)) Z) (let d:af:=[(b.1,(b.2.1,b.2.2))]
 cond (N (X a+X d<=aM)) (let i:af:=a++d
 M i) Z))
def j5g[LP](r a:J)(q:ao)(e:aq)(d:ar)(f:au)(b:Y J)(p:af):O ((J×J×ao×aq×ar×au×(Y J)×af) ⊕ (af)):=
 let o:=w64 (a+1)
 let j:=U b.length
 cond (N (o<j)) (cond (inR a b.length) (let g:=S b a.toNat 0
 let c:=w64 (a+1)
 cond (inR c b.length) (let l:=S b c.toNat 0
 cond (inR a b.length) (let k:=S b a.toNat 0
 (jod (q,(e,(d,f))) r k).bind λn=>(jiK p (g,(l,n))).bind λm=>let i:=w64 (a+1)
 M (.inl (r,i,q,e,d,f,b,m))) Z) Z) Z) (M (.inr p))
def Kx[LP](i d:J)(g:ao)(b:aq)(a:ar)(c:au)(f:Y J)(e:af):O af:=LP.lp (unc8 j5g) (i,d,g,b,a,c,f,e)
theorem _a(i d g b a c f e):Kx i d g b a c f e=lpK (j5g i d g b a c f e) (λh=>Kx h.1 h.2.1 h.2.2.1 h.2.2.2.1 h.2.2.2.2.1 h.2.2.2.2.2.1 h.2.2.2.2.2.2.1 h.2.2.2.2.2.2.2):=bc _ _
def jiL[LP](a:cO)(b c d:J):O af:=(jnf (a.1,(a.2.1,(a.2.2.1,a.2.2.2))) b c d).bind λe=>(Kx b 0 a.1 a.2.1 a.2.2.1 a.2.2.2 e ([]:af)).bind λf=>M f
def j6i[LP](a:cO)(b c d:J):O (af×J):=(jhO (a.1,(a.2.1,(a.2.2.1,a.2.2.2))) b c d).bind λe=>cond (e != 0) (M (([]:af),e)) ((jiL (a.1,(a.2.1,(a.2.2.1,a.2.2.2))) b c d).bind λf=>let g:=U f.length
 cond (N (g>16384)) (M (([]:af),5)) (M (f,0)))
def j7N(c e a b:J)(d:af):O ((J×J×J×J×af) ⊕ (J×J×J×J×af)):=
 let i:=U d.length
 cond (N (c<i)) (cond (inR c d.length) (let g:=(S d c.toNat (0,(0,0))).1
 cond (N (g<e)) (let f:=w64 (c+1)
 M (.inl (f,e,a,b,d))) (M (.inr (c,e,a,b,d)))) Z) (M (.inr (c,e,a,b,d)))
def GI[LP](c d a b:J)(e:af):O (J×J×J×J×af):=LP.lp (unc5 j7N) (c,d,a,b,e)
theorem _b(c d a b e):GI c d a b e=lpK (j7N c d a b e) (λh=>GI h.1 h.2.1 h.2.2.1 h.2.2.2.1 h.2.2.2.2):=bc _ _
def jjO[LP](n:af)(f:od):O af:=(GI 0 f.1 f.2.1 f.2.2 n).bind λa=>let r:=U a.2.2.2.2.length
 cond (N (a.1<r)) (cond (inR a.1 a.2.2.2.2.length) (let s:=(S a.2.2.2.2 a.1.toNat (0,(0,0))).1
 cond (s==a.2.1) (cond (inR a.1 a.2.2.2.2.length) (let q:=(S a.2.2.2.2 a.1.toNat (0,(0,0))).2.1
 let t:=w64 (q+a.2.2.1)
 cond (inR a.1 a.2.2.2.2.length) (let d:af:=Ê a.2.2.2.2 a.1.toNat ((S a.2.2.2.2 a.1.toNat (0,(0,0))).1,(t,(S a.2.2.2.2 a.1.toNat (0,(0,0))).2.2))
 cond (inR a.1 d.length) (let p:=(S d a.1.toNat (0,(0,0))).2.2
 let u:=w64 (p+a.2.2.2.1)
 cond (inR a.1 d.length) (let k:af:=Ê d a.1.toNat ((S d a.1.toNat (0,(0,0))).1,((S d a.1.toNat (0,(0,0))).2.1,u))
 M k) Z) Z) Z) Z) (let m:af:=[(a.2.1,(a.2.2.1,a.2.2.2.1))]
 cond (N (X a.2.2.2.2+X m<=aM)) (let e:af:=a.2.2.2.2++m
 let g:=w64 (a.1+1)
 cond (N (0<=g)&&N (g<=(U e.length))) (cond (N (0<=a.1)&&N (a.1<=(U e.length))) (let l:af:=over e g.toNat (Í a.1.toNat e)
 let v:=U (min (X (Í a.1.toNat e)) (X e-g.toNat))
 cond (inR a.1 l.length) (let x:af:=Ê l a.1.toNat (a.2.1,(a.2.2.1,a.2.2.2.1))
 M x) Z) Z) Z) Z)) Z) (let i:af:=[(a.2.1,(a.2.2.1,a.2.2.2.1))]
 cond (N (X a.2.2.2.2+X i<=aM)) (let b:af:=a.2.2.2.2++i
 let c:=w64 (a.1+1)
 cond (N (0<=c)&&N (c<=(U b.length))) (cond (N (0<=a.1)&&N (a.1<=(U b.length))) (let j:af:=over b c.toNat (Í a.1.toNat b)
 let w:=U (min (X (Í a.1.toNat b)) (X b-c.toNat))
 cond (inR a.1 j.length) (let o:af:=Ê j a.1.toNat (a.2.1,(a.2.2.1,a.2.2.2.1))
 M o) Z) Z) Z) Z)
def j65[LP](t s r:J)(q:bn)(b:J)(u:ao)(d:aq)(e:ar)(c:au)(a g:af):O ((J×J×J×bn×J×ao×aq×ar×au×af×af) ⊕ (J×J×J×bn×ao×aq×ar×au×af×af)):=
 let i:=U a.length
 cond (N (b<i)) (cond (inR b a.length) (let p:=(S a b.toNat (0,(0,0))).2.2
 cond (N (p>=0)) (cond (inR b a.length) (let l:=(S a b.toNat (0,(0,0))).2.1
 cond (inR b a.length) (let j:=(S a b.toNat (0,(0,0))).1
 let f:=w64 (l-j)
 cond (inR b a.length) (let n:=(S a b.toNat (0,(0,0))).2.2
 (jjO g (n,(f,f))).bind λo=>let k:=w64 (b+1)
 M (.inl (t,s,r,q,k,u,d,e,c,a,o))) Z) Z) Z) (let m:=w64 (b+1)
 M (.inl (t,s,r,q,m,u,d,e,c,a,g)))) Z) (M (.inr (t,s,r,q,u,d,e,c,a,g)))
def GJ[LP](k g i:J)(j:bn)(d:J)(l:ao)(c:aq)(a:ar)(b:au)(e f:af):O (J×J×J×bn×ao×aq×ar×au×af×af):=LP.lp (u8 unc3 j65) (k,g,i,j,d,l,c,a,b,e,f)
theorem _c(k g i j d l c a b e f):GJ k g i j d l c a b e f=lpK (j65 k g i j d l c a b e f) (λh=>GJ h.1 h.2.1 h.2.2.1 h.2.2.2.1 h.2.2.2.2.1 h.2.2.2.2.2.1 h.2.2.2.2.2.2.1 h.2.2.2.2.2.2.2.1 h.2.2.2.2.2.2.2.2.1 h.2.2.2.2.2.2.2.2.2.1 h.2.2.2.2.2.2.2.2.2.2):=bc _ _
def j66[LP](a6 z v:J)(p:bn)(j b c:J)(a9:ao)(g:aq)(i:ar)(e:au)(a q:af)(d:ai):O ((J×J×J×bn×J×J×J×ao×aq×ar×au×af×af×ai) ⊕ (J×J×J×bn×J×ao×aq×ar×au×af×af)):=
 let a1:=U a.length
 let a3:=U d.length
 cond (cond (N (b<a1)) (N (c<a3)) Á) (cond (inR b a.length) (let m:=(S a b.toNat (0,(0,0))).2.1
 cond (inR c d.length) (let l:=(S d c.toNat (0,0)).2
 let t:Int:=if l<m then l else m
 cond (inR b a.length) (let o:=(S a b.toNat (0,(0,0))).1
 cond (inR c d.length) (let k:=(S d c.toNat (0,0)).1
 let b0:Int:=if k>o then k else o
 let f:=w64 (t-b0)
 cond ((inR b a.length) || !(N (f>0))) (let r:=(S a b.toNat (0,(0,0))).2.2
 cond (cond (N (f>0)) (N (r>=0)) Á) (cond (inR b a.length) (let w:=(S a b.toNat (0,(0,0))).2.2
 cond (inR j p.length) (let a7:=S p j.toNat ((0,0),0)
 let b1:=w64 (a7.2-1)
 let x:=w64 (f*b1)
 (jjO q (w,(0,x))).bind λn=>cond (inR b a.length) (let a2:=(S a b.toNat (0,(0,0))).2.1
 cond (inR c d.length) (let u:=(S d c.toNat (0,0)).2
 cond (N (a2<=u)) (let a8:=w64 (b+1)
 M (.inl (a6,z,v,p,j,a8,c,a9,g,i,e,a,n,d))) (let a4:=w64 (c+1)
 M (.inl (a6,z,v,p,j,b,a4,a9,g,i,e,a,n,d)))) Z) Z) Z) Z) (cond (inR b a.length) (let s:=(S a b.toNat (0,(0,0))).2.1
 cond (inR c d.length) (let y:=(S d c.toNat (0,0)).2
 cond (N (s<=y)) (let a5:=w64 (b+1)
 M (.inl (a6,z,v,p,j,a5,c,a9,g,i,e,a,q,d))) (let a0:=w64 (c+1)
 M (.inl (a6,z,v,p,j,b,a0,a9,g,i,e,a,q,d)))) Z) Z)) Z) Z) Z) Z) Z) (M (.inr (a6,z,v,p,j,a9,g,i,e,a,q)))
def AW[LP](n k l:J)(m:bn)(g e j:J)(o:ao)(c:aq)(a:ar)(b:au)(f d:af)(i:ai):O (J×J×J×bn×J×ao×aq×ar×au×af×af):=LP.lp (u8 unc6 j66) (n,k,l,m,g,e,j,o,c,a,b,f,d,i)
theorem _d(n k l m g e j o c a b f d i):AW n k l m g e j o c a b f d i=lpK (j66 n k l m g e j o c a b f d i) (λh=>AW h.1 h.2.1 h.2.2.1 h.2.2.2.1 h.2.2.2.2.1 h.2.2.2.2.2.1 h.2.2.2.2.2.2.1 h.2.2.2.2.2.2.2.1 h.2.2.2.2.2.2.2.2.1 h.2.2.2.2.2.2.2.2.2.1 h.2.2.2.2.2.2.2.2.2.2.1 h.2.2.2.2.2.2.2.2.2.2.2.1 h.2.2.2.2.2.2.2.2.2.2.2.2.1 h.2.2.2.2.2.2.2.2.2.2.2.2.2):=bc _ _
def j67[LP](r q m:J)(g:bn)(d:J)(p:ao)(o:aq)(l:ar)(n:au)(s k:af):O ((J×J×J×bn×J×ao×aq×ar×au×af×af) ⊕ (af)):=
 let i:=U g.length
 cond (N (d<i)) (cond (inR m p.length) (let b:=S p m.toNat (À,(0,([]:aY)))
 cond (inR d g.length) (let c:=S g d.toNat ((0,0),0)
 let e:ai:=[(c.1.1,c.1.2)]
 (j5d (b.1,(b.2.1,b.2.2)) e r q).bind λf=>(AW r q m g d 0 0 p o l n s k f.1).bind λa=>let j:=w64 (a.2.2.2.2.1+1)
 M (.inl (a.1,a.2.1,a.2.2.1,a.2.2.2.1,j,a.2.2.2.2.2.1,a.2.2.2.2.2.2.1,a.2.2.2.2.2.2.2.1,a.2.2.2.2.2.2.2.2.1,a.2.2.2.2.2.2.2.2.2.1,a.2.2.2.2.2.2.2.2.2.2))) Z) Z) (M (.inr k))
def GK[LP](k g i:J)(j:bn)(f:J)(l:ao)(c:aq)(a:ar)(b:au)(e d:af):O af:=LP.lp (u8 unc3 j67) (k,g,i,j,f,l,c,a,b,e,d)
theorem _e(k g i j f l c a b e d):GK k g i j f l c a b e d=lpK (j67 k g i j f l c a b e d) (λh=>GK h.1 h.2.1 h.2.2.1 h.2.2.2.1 h.2.2.2.2.1 h.2.2.2.2.2.1 h.2.2.2.2.2.2.1 h.2.2.2.2.2.2.2.1 h.2.2.2.2.2.2.2.2.1 h.2.2.2.2.2.2.2.2.2.1 h.2.2.2.2.2.2.2.2.2.2):=bc _ _
def jdu[LP](a:cO)(c e f b:J)(g:bn):O (af×J):=(j6i (a.1,(a.2.1,(a.2.2.1,a.2.2.2))) c e f).bind λi=>cond (i.2 != 0) (M (([]:af),i.2)) (let j:=U a.1.length
 cond (cond (N (b<0)) Â (N (b>=j))) (M (([]:af),3)) ((jhH g).bind λk=>cond (k != 0) (M (([]:af),8)) ((GJ e f b g 0 a.1 a.2.1 a.2.2.1 a.2.2.2 i.1 ([]:af)).bind λd=>(GK d.1 d.2.1 d.2.2.1 d.2.2.2.1 0 d.2.2.2.2.1 d.2.2.2.2.2.1 d.2.2.2.2.2.2.1 d.2.2.2.2.2.2.2.1 d.2.2.2.2.2.2.2.2.1 d.2.2.2.2.2.2.2.2.2).bind λl=>M (l,0))))
def j5h(g f:af)(e a:J):O ((af×af×J×J) ⊕ (Å ⊕ Æ)):=cond (N (a<e)) (cond (inR a g.length) (let b:=S g a.toNat (0,(0,0))
 cond (inR a f.length) (let c:=S f a.toNat (0,(0,0))
 cond (!((b.1==c.1)&&((b.2.1==c.2.1)&&(b.2.2==c.2.2)))) (M (.inr (.inl Á))) (let d:=w64 (a+1)
 M (.inl (g,f,e,d)))) Z) Z) (M (.inr (.inr ())))
def GL[LP](d c:af)(a b:J):O (Å ⊕ Æ):=LP.lp (unc4 j5h) (d,c,a,b)
theorem _g(d c a b):GL d c a b=lpK (j5h d c a b) (λh=>GL h.1 h.2.1 h.2.2.1 h.2.2.2):=bc _ _
def jfC[LP](a b:af):O Bool:=
 let d:=U a.length
 let e:=U b.length
 cond (d != e) (M Á) (let c:=U a.length
 (GL a b c 0).bind λf=>sumC f (λg=>M g) (λi=>M Â))
def j2K(o p:J)(q:Y J)(e:J)(n:af):O ((J×J×(Y J)×J×af) ⊕ ((Y J)×J×af)):=cond (N (p>0)) (let g:Y Int:=[0,1,100,300,86400,7]
 (j0D q e g).bind λa=>(j08 a.2.1 a.2.2 3).bind λb=>let m:=w64 (1+b.1)
 let f:=w64 (a.1*m)
 let d:af:=[(o,(a.1,f))]
 cond (N (X n+X d<=aM)) (let i:af:=n++d
 (j08 b.2.1 b.2.2 2).bind λc=>let j:=w64 (1+c.1)
 let k:=w64 (o+j)
 let l:=w64 (p-1)
 M (.inl (k,l,c.2.1,c.2.2,i))) Z) (M (.inr (q,e,n)))
def Ky[LP](b c:J)(d:Y J)(a:J)(e:af):O ((Y J)×J×af):=LP.lp (unc5 j2K) (b,c,d,a,e)
theorem _i(b c d a e):Ky b c d a e=lpK (j2K b c d a e) (λh=>Ky h.1 h.2.1 h.2.2.1 h.2.2.2.1 h.2.2.2.2):=bc _ _
def j7P[LP](c:Y J)(b:J):O (af×(Y J)×J):=(j08 c b 3).bind λe=>(j08 e.2.1 e.2.2 5).bind λa=>(Ky e.1 a.1 a.2.1 a.2.2 ([]:af)).bind λd=>M (d.2.2,d.1,d.2.1)
def j0m(j:fY)(i:J)(g:fY)(f b:J):O ((fY×J×fY×J×J) ⊕ (fY×J)):=cond (N (b<f)) (cond (inR b g.length) (let c:=S g b.toNat ([]:af)
 let d:=U c.length
 let a:=w64 (i+d)
 cond (N (a<0)) (Z) (let e:=w64 (b+1)
 M (.inl (j,a,g,f,e)))) Z) (M (.inr (j,i)))
def GM[LP](e:fY)(c:J)(d:fY)(a b:J):O (fY×J):=LP.lp (unc5 j0m) (e,c,d,a,b)
theorem Py(e c d a b):GM e c d a b=lpK (j0m e c d a b) (λh=>GM h.1 h.2.1 h.2.2.1 h.2.2.2.1 h.2.2.2.2):=bc _ _
def j0n(c:fY)(f b:J)(g:af):O ((fY×J×J×af) ⊕ (af)):=cond (N (b<f)) (cond (inR b c.length) (let a:=S c b.toNat ([]:af)
 cond (N (X g+X a<=aM)) (let d:af:=g++a
 let e:=w64 (b+1)
 M (.inl (c,f,e,d))) Z) Z) (M (.inr g))
def GN[LP](b:fY)(a c:J)(d:af):O af:=LP.lp (unc4 j0n) (b,a,c,d)
theorem Pz(b a c d):GN b a c d=lpK (j0n b a c d) (λh=>GN h.1 h.2.1 h.2.2.1 h.2.2.2):=bc _ _
def j1Q[LP](a:fY):O af:=
 let c:=U a.length
 (GM a 0 a c 0).bind λb=>cond (N (0<=b.2)&&N (b.2<=1000000)) (let e:af:=[]
 let d:=U b.1.length
 (GN b.1 d 0 e).bind λf=>M f) Z
def j68(m c:J)(d:dM)(e:af):O ((J×J×dM×af) ⊕ (J ⊕ dM)):=cond (N (c<m)) (cond (inR c e.length) (let a:=S e c.toNat (0,(0,0))
 let n:Int:=(di (0,(0,0)) d a.1).1
 let b:Int:=(di (0,(0,0)) d a.1).2.1
 let f:Int:=(di (0,(0,0)) d a.1).2.2
 let g:=w64 (b+a.2.1)
 cond (N (g>8589934592)) (M (.inr (.inl 5))) (let i:=w64 (b+a.2.1)
 let k:=w64 (f+a.2.2)
 let j:dM:=eD d a.1 (a.1,(i,k))
 let l:=w64 (c+1)
 M (.inl (m,l,j,e)))) Z) (M (.inr (.inr d)))
def AX[LP](c b:J)(d:dM)(a:af):O (J ⊕ dM):=LP.lp (unc4 j68) (c,b,d,a)
theorem _j(c a d b):AX c a d b=lpK (j68 c a d b) (λh=>AX h.1 h.2.1 h.2.2.1 h.2.2.2):=bc _ _
def jkZ[LP](a b:af):O (af×J):=(j75 a).bind λj=>cond (!j) (M (([]:af),8)) ((j75 b).bind λg=>cond (!g) (M (([]:af),8)) (let d:dM:=[]
 let i:fY:=[a,b]
 (j1Q i).bind λc=>let e:=U c.length
 (AX e 0 d c).bind λk=>sumC k (λl=>M (([]:af),l)) (λm=>(jaN m).bind λf=>M (f.1,0))))
def j4m(c:af)(b:J):O ((af×J) ⊕ (Å ⊕ Æ)):=
 let f:=U c.length
 cond (N (b<f)) (cond (inR b c.length) (let a:=S c b.toNat (0,(0,0))
 cond (N (a.1<0)) (M (.inr (.inl Á))) (cond (N (a.1>=32)) (M (.inr (.inl Á))) (cond (N (b>0)) (let d:=w64 (b-1)
 cond (inR d c.length) (let i:=S c d.toNat (0,(0,0))
 cond (N (a.1<=i.1)) (M (.inr (.inl Á))) (cond (N (a.2.1<0)) (M (.inr (.inl Á))) (cond (N (a.2.1>8589934592)) (M (.inr (.inl Á))) (cond (N (a.2.2<a.2.1)) (M (.inr (.inl Á))) (let k:=w64 (8*a.2.1)
 cond (N (a.2.2>k)) (M (.inr (.inl Á))) (let e:=w64 (b+1)
 M (.inl (c,e)))))))) Z) (cond (N (a.2.1<0)) (M (.inr (.inl Á))) (cond (N (a.2.1>8589934592)) (M (.inr (.inl Á))) (cond (N (a.2.2<a.2.1)) (M (.inr (.inl Á))) (let j:=w64 (8*a.2.1)
 cond (N (a.2.2>j)) (M (.inr (.inl Á))) (let g:=w64 (b+1)
 M (.inl (c,g)))))))))) Z) (M (.inr (.inr ())))
def GO[LP](b:af)(a:J):O (Å ⊕ Æ):=LP.lp (unc2 j4m) (b,a)
theorem _k(b a):GO b a=lpK (j4m b a) (λh=>GO h.1 h.2):=bc _ _
def j8Q[LP](a:af):O Bool:=
 let c:=U a.length
 cond (N (c>32)) (M Á) ((GO a 0).bind λb=>sumC b (λd=>M d) (λe=>M Â))
def j6X[LP](d:af)(e:J)(g:af):O ((af×J×af) ⊕ (af)):=
 let b:=U d.length
 cond (N (e<b)) (cond (inR e d.length) (let a:=S d e.toNat (0,(0,0))
 (jjO g (a.1,(a.2.1,a.2.2))).bind λc=>let f:=w64 (e+1)
 M (.inl (d,f,c))) Z) (M (.inr g))
def GP[LP](a:af)(b:J)(c:af):O af:=LP.lp (unc3 j6X) (a,b,c)
theorem _l(a b c):GP a b c=lpK (j6X a b c) (λh=>GP h.1 h.2.1 h.2.2):=bc _ _
def j6Y(c:J)(a:af):O ((J×af) ⊕ (J ⊕ af)):=
 let d:=U a.length
 cond (N (c<d)) (cond (inR c a.length) (let e:=(S a c.toNat (0,(0,0))).2.1
 cond (N (e>8589934592)) (M (.inr (.inl 5))) (let b:=w64 (c+1)
 M (.inl (b,a)))) Z) (M (.inr (.inr a)))
def GQ[LP](b:J)(a:af):O (J ⊕ af):=LP.lp (unc2 j6Y) (b,a)
theorem _m(b a):GQ b a=lpK (j6Y b a) (λh=>GQ h.1 h.2):=bc _ _
def jnh[LP](a b:af):O (af×J):=(j8Q a).bind λc=>cond (!c) (M (([]:af),8)) ((j8Q b).bind λe=>cond (!e) (M (([]:af),8)) (cond (N (X ([]:af)+X a<=aM)) (let d:af:=([]:af)++a
 (GP b 0 d).bind λg=>(GQ 0 g).bind λf=>sumC f (λi=>M (([]:af),i)) (λj=>M (j,0))) Z))
def j69[LP](e:af)(f p c a o b d:J):O ((af×J×J×J×J×J×J×J) ⊕ (J×J×J×J×J×J)):=
 let n:=U e.length
 cond (N (f<n)) ((j8Q e).bind λg=>cond g (cond (inR f e.length) (let i:=S e f.toNat (0,(0,0))
 let k:=w64 (b+i.2.1)
 cond (inR f e.length) (let l:=S e f.toNat (0,(0,0))
 let j:=w64 (d+l.2.2)
 let m:=w64 (f+1)
 M (.inl (e,m,p,c,a,o,k,j))) Z) Z) (M (.inr (p,c,a,o,b,d)))) (M (.inr (p,c,a,o,b,d)))
def C0[LP](i:af)(e g c a f b d:J):O (J×J×J×J×J×J):=LP.lp (unc8 j69) (i,e,g,c,a,f,b,d)
theorem PA(i e g c a f b d):C0 i e g c a f b d=lpK (j69 i e g c a f b d) (λh=>C0 h.1 h.2.1 h.2.2.1 h.2.2.2.1 h.2.2.2.2.1 h.2.2.2.2.2.1 h.2.2.2.2.2.2.1 h.2.2.2.2.2.2.2):=bc _ _
def joe[LP](a:af):O od:=(C0 a 0 0 0 0 (-1) 0 0).bind λb=>M (b.2.2.2.1,(b.2.2.2.2.1,b.2.2.2.2.2))
def j46(b:af)(g a:J):O ((af×J×J) ⊕ (J ⊕ Æ)):=
 let f:=U b.length
 cond (N (a<f)) (cond (inR a b.length) (let e:=S b a.toNat (0,(0,0))
 cond (e.1==g) (cond (inR a b.length) (let c:=S b a.toNat (0,(0,0))
 M (.inr (.inl c.2.2))) Z) (let d:=w64 (a+1)
 M (.inl (b,g,d)))) Z) (M (.inr (.inr ())))
def Kz[LP](c:af)(a b:J):O (J ⊕ Æ):=LP.lp (unc3 j46) (c,a,b)
theorem _n(c a b):Kz c a b=lpK (j46 c a b) (λh=>Kz h.1 h.2.1 h.2.2):=bc _ _
def j5i[LP](b:af)(a:J):O Int:=(Kz b a 0).bind λc=>sumC c (λd=>M d) (λe=>M 0)
def jAm(a:J):O Bool:=
 let b:Bool:=cond (N (a>=(-4611686018427387904))) (N (a<=4611686018427387904)) Á
 M b
def jrf(a:J):O Int:=cond (N (a<0)) (let b:=w64 (0-a)
 M b) (M a)
def j7R(c b:J):O ((J×J) ⊕ (J)):=cond (b != 0) (cond (!(b==0)) (let a:=Ã c b
 M (.inl (b,a))) Z) (M (.inr c))
def KA[LP](b a:J):O Int:=LP.lp (unc2 j7R) (b,a)
theorem jrg(b a):KA b a=lpK (j7R b a) (λh=>KA h.1 h.2):=bc _ _
def jv0[LP](a b:J):O Int:=(KA a b).bind λc=>M c
def jof[LP](b a:J):O wy:=(jAm b).bind λi=>let d:Bool:=cond (cond (!i) Â (N (a<1))) Â (N (a>4611686018427387904))
 cond d (M ((0,0),1)) ((jrf b).bind λe=>(jv0 e a).bind λc=>cond (!(c==0)) (let g:=w64 (È b c)
 cond (!(c==0)) (let f:=w64 (È a c)
 M ((g,f),0)) Z) Z)
def j6Z[LP](j:af)(b:Y J)(m l c k a:J):O ((af×(Y J)×J×J×J×J×J) ⊕ (af×(Y J)×J×J×J×J)):=
 let f:=U b.length
 cond (N (c<f)) (cond (inR c b.length) (let e:=S b c.toNat 0
 (j5i j e).bind λg=>let i:=w64 (m+g)
 let d:=w64 (c+1)
 M (.inl (j,b,i,l,d,k,a))) Z) (M (.inr (j,b,m,l,k,a)))
def GR[LP](g:af)(e:Y J)(f d b c a:J):O (af×(Y J)×J×J×J×J):=LP.lp (unc7 j6Z) (g,e,f,d,b,c,a)
theorem _o(g e f d b c a):GR g e f d b c a=lpK (j6Z g e f d b c a) (λh=>GR h.1 h.2.1 h.2.2.1 h.2.2.2.1 h.2.2.2.2.1 h.2.2.2.2.2.1 h.2.2.2.2.2.2):=bc _ _
def j70[LP](m:af)(a:Y J)(p o b n c:J):O ((af×(Y J)×J×J×J×J×J) ⊕ ((Y J)×J×J×J×J)):=
 let j:=U a.length
 cond (N (b<j)) (cond (inR b a.length) (let f:=S a b.toNat 0
 (j5i m f).bind λg=>cond (inR b a.length) (let k:=S a b.toNat 0
 (j5i m k).bind λe=>let l:=w64 (g*e)
 let d:=w64 (o+l)
 let i:=w64 (b+1)
 M (.inl (m,a,p,d,i,n,c))) Z) Z) (M (.inr (a,p,o,n,c)))
def GS[LP](g:af)(e:Y J)(f c d b a:J):O ((Y J)×J×J×J×J):=LP.lp (unc7 j70) (g,e,f,c,d,b,a)
theorem _p(g e f c d b a):GS g e f c d b a=lpK (j70 g e f c d b a) (λh=>GS h.1 h.2.1 h.2.2.1 h.2.2.2.1 h.2.2.2.2.1 h.2.2.2.2.2.1 h.2.2.2.2.2.2):=bc _ _
def jni[LP](c:af)(a:Y J):O wy:=(j8Q c).bind λi=>cond (!i) (M ((0,0),8)) (let j:=U a.length
 cond (N (j>32)) (M ((0,0),5)) ((GR c a 0 0 0 0 0).bind λb=>cond (N (b.2.2.1>268435456)) (M ((0,0),5)) (cond (b.2.2.1==0) (M ((1,1),0)) ((GS b.1 b.2.1 b.2.2.1 b.2.2.2.1 0 b.2.2.2.2.1 b.2.2.2.2.2).bind λe=>let k:=w64 (e.2.1*e.2.1)
 let f:=U e.1.length
 let g:=w64 (f*e.2.2.1)
 (jof k g).bind λd=>M ((d.1.1,d.1.2),d.2)))))
def jl0[LP](b:af)(a:J):O wy:=(j8Q b).bind λf=>cond (!f) (M ((0,0),8)) ((joe b).bind λd=>cond (d.2.2==0) (M ((0,1),0)) ((j5i b a).bind λe=>(jof e d.2.2).bind λc=>M ((c.1.1,c.1.2),c.2)))
def j3H[LP](n:af)(c:Y J)(m l d:J):O ((af×(Y J)×J×J×J) ⊕ (J×J)):=
 let f:=U c.length
 cond (N (d<f)) (cond (inR d c.length) (let k:=S c d.toNat 0
 (j5i n k).bind λa=>let g:Int:=if a<m then a else m
 cond (inR d c.length) (let e:=S c d.toNat 0
 (j5i n e).bind λb=>let i:Int:=if b>l then b else l
 let j:=w64 (d+1)
 M (.inl (n,c,g,i,j))) Z) Z) (M (.inr (m,l)))
def KB[LP](e:af)(c:Y J)(b a d:J):O (J×J):=LP.lp (unc5 j3H) (e,c,b,a,d)
theorem PB(e c b a d):KB e c b a d=lpK (j3H e c b a d) (λh=>KB h.1 h.2.1 h.2.2.1 h.2.2.2.1 h.2.2.2.2):=bc _ _
def jiN[LP](b:af)(a:Y J):O Int:=(j8Q b).bind λi=>let g:=U a.length
 cond (cond (!i) Â (g==0)) (M 0) (cond (inR 0 a.length) (let c:=S a 0 0
 (j5i b c).bind λe=>(KB b a e 0 0).bind λf=>let d:=w64 (f.2-f.1)
 M d) Z)
def j1p[LP](x:af)(y:Y J)(w v e:J)(q:bn)(r:mz)(s:J)(t:Y J)(f:J)(k:ao)(d:aq)(b:ar)(c:au)(u:Y J)(l:J):O ((af×(Y J)×J×J×J×bn×mz×J×(Y J)×J×ao×aq×ar×au×(Y J)×J) ⊕ (Å ⊕ (af×(Y J)×J×J×J×mz×J×ao×aq×ar×au×(Y J)×J))):=cond (N (f<2)) (cond (inR f 2) (let g:=S t f.toNat 0
 (j08 u l 2).bind λa=>let o:=w64 (e+604800)
 (jaO (k,(d,(b,c))) a.1 e o g q).bind λi=>let m:=w64 (e+604800)
 (jdu (k,(d,(b,c))) a.1 e m g q).bind λj=>(jfC i.1 j.1).bind λp=>cond (cond (!p) Â (i.2 != j.2)) (M (.inr (.inl Á))) (let n:=w64 (f+1)
 M (.inl (x,y,w,v,e,q,r,s,t,n,k,d,b,c,a.2.1,a.2.2)))) Z) (M (.inr (.inr (x,y,w,v,e,r,s,k,d,b,c,u,l))))
def C1[LP](q:af)(n:Y J)(o p j:J)(m:bn)(f:mz)(l:J)(i:Y J)(e:J)(g:ao)(a:aq)(b:ar)(c:au)(k:Y J)(d:J):O (Å ⊕ (af×(Y J)×J×J×J×mz×J×ao×aq×ar×au×(Y J)×J)):=LP.lp (u8 unc8 j1p) (q,n,o,p,j,m,f,l,i,e,g,a,b,c,k,d)
theorem PC(q n o p j m f l i e g a b c k d):C1 q n o p j m f l i e g a b c k d=lpK (j1p q n o p j m f l i e g a b c k d) (λh=>C1 h.1 h.2.1 h.2.2.1 h.2.2.2.1 h.2.2.2.2.1 h.2.2.2.2.2.1 h.2.2.2.2.2.2.1 h.2.2.2.2.2.2.2.1 h.2.2.2.2.2.2.2.2.1 h.2.2.2.2.2.2.2.2.2.1 h.2.2.2.2.2.2.2.2.2.2.1 h.2.2.2.2.2.2.2.2.2.2.2.1 h.2.2.2.2.2.2.2.2.2.2.2.2.1 h.2.2.2.2.2.2.2.2.2.2.2.2.2.1 h.2.2.2.2.2.2.2.2.2.2.2.2.2.2.1 h.2.2.2.2.2.2.2.2.2.2.2.2.2.2.2):=bc _ _
def j1q[LP](u:af)(v:Y J)(s q t:J)(n:mz)(d:J)(r:ao)(m:aq)(g:ar)(l:au)(o:Y J)(e:J):O ((af×(Y J)×J×J×J×mz×J×ao×aq×ar×au×(Y J)×J) ⊕ (Å ⊕ (af×(Y J)×J×(Y J)×J))):=cond (N (d<3)) (cond (inR d 3) (let b:=S n d.toNat ([]:bn)
 (jfo b).bind λj=>(jhH b).bind λi=>cond (j != i) (M (.inr (.inl Á))) ((j08 o e 3).bind λc=>let k:Y Int:=[c.1,q]
 (C1 u v s q t b n d k 0 r m g l c.2.1 c.2.2).bind λp=>sumC p (λw=>M (.inr (.inl w))) (λa=>let f:=w64 (a.2.2.2.2.2.2.1+1)
 M (.inl (a.1,a.2.1,a.2.2.1,a.2.2.2.1,a.2.2.2.2.1,a.2.2.2.2.2.1,f,a.2.2.2.2.2.2.2.1,a.2.2.2.2.2.2.2.2.1,a.2.2.2.2.2.2.2.2.2.1,a.2.2.2.2.2.2.2.2.2.2.1,a.2.2.2.2.2.2.2.2.2.2.2.1,a.2.2.2.2.2.2.2.2.2.2.2.2))))) Z) (M (.inr (.inr (u,v,s,o,e))))
def AY[LP](n:af)(k:Y J)(l m g:J)(e:mz)(j:J)(f:ao)(a:aq)(b:ar)(c:au)(i:Y J)(d:J):O (Å ⊕ (af×(Y J)×J×(Y J)×J)):=LP.lp (u8 unc5 j1q) (n,k,l,m,g,e,j,f,a,b,c,i,d)
theorem KC(n k l m g e j f a b c i d):AY n k l m g e j f a b c i d=lpK (j1q n k l m g e j f a b c i d) (λh=>AY h.1 h.2.1 h.2.2.1 h.2.2.2.1 h.2.2.2.2.1 h.2.2.2.2.2.1 h.2.2.2.2.2.2.1 h.2.2.2.2.2.2.2.1 h.2.2.2.2.2.2.2.2.1 h.2.2.2.2.2.2.2.2.2.1 h.2.2.2.2.2.2.2.2.2.2.1 h.2.2.2.2.2.2.2.2.2.2.2.1 h.2.2.2.2.2.2.2.2.2.2.2.2):=bc _ _
def j1r[LP](u:Y J)(s:J)(m:kU)(q:J)(l:Y (Y J))(g:J)(f r:af)(t:Y J)(i:J):O (((Y J)×J×kU×J×(Y (Y J))×J×af×af×(Y J)×J) ⊕ (Å ⊕ ((Y J)×J×kU×J×(Y J)×J))):=cond (N (g<2)) (cond (inR g 2) (let a:=S l g.toNat ([]:(Y J))
 (jhE f a).bind λe=>(jni f a).bind λc=>let p:=Ã s 7
 (jfn f p).bind λb=>let k:=Ã s 7
 (jl0 f k).bind λd=>cond (!((e.1.1==c.1.1)&&(e.1.2==c.1.2))) (M (.inr (.inl Á))) (cond (e.2 != c.2) (M (.inr (.inl Á))) (cond (!((b.1.1==d.1.1)&&(b.1.2==d.1.2))) (M (.inr (.inl Á))) (cond (b.2 != d.2) (M (.inr (.inl Á))) ((jd8 f a).bind λo=>(jiN f a).bind λj=>cond (o != j) (M (.inr (.inl Á))) (let n:=w64 (g+1)
 M (.inl (u,s,m,q,l,n,f,r,t,i)))))))) Z) (M (.inr (.inr (u,s,m,q,t,i))))
def C2[LP](j:Y J)(k:J)(c:kU)(e:J)(f:Y (Y J))(d:J)(i a:af)(g:Y J)(b:J):O (Å ⊕ ((Y J)×J×kU×J×(Y J)×J)):=LP.lp (u8 unc2 j1r) (j,k,c,e,f,d,i,a,g,b)
theorem PD(j:Y J)(k:J)(c:kU)(e:J)(f:Y (Y J))(d:J)(i a:af)(g:Y J)(b:J):C2 j k c e f d i a g b=lpK (j1r j k c e f d i a g b) (λh=>C2 h.1 h.2.1 h.2.2.1 h.2.2.2.1 h.2.2.2.2.1 h.2.2.2.2.2.1 h.2.2.2.2.2.2.1 h.2.2.2.2.2.2.2.1 h.2.2.2.2.2.2.2.2.1 h.2.2.2.2.2.2.2.2.2):=bc _ _
def j1s[LP](u:Y J)(s:J)(m:kU)(f:J)(v:Y J)(p:J):O (((Y J)×J×kU×J×(Y J)×J) ⊕ (Å ⊕ Æ)):=cond (N (f<3)) (cond (inR f 3) (let g:=S m f.toNat (Ë 2 ([]:af))
 let b:=S g 0 ([]:af)
 let k:=S g 1 ([]:af)
 (jkZ b k).bind λi=>(jnh b k).bind λj=>(jfC i.1 j.1).bind λn=>cond (!n) (M (.inr (.inl Á))) (cond (i.2 != j.2) (M (.inr (.inl Á))) ((jiB b).bind λc=>(joe b).bind λd=>cond (!((c.1==d.1)&&((c.2.1==d.2.1)&&(c.2.2==d.2.2)))) (M (.inr (.inl Á))) ((j08 v p 5).bind λa=>let o:Y Int:=[0,a.1,s]
 let q:(Y (Y J)):=[u,o]
 (C2 u s m f q 0 b k a.2.1 a.2.2).bind λr=>sumC r (λt=>M (.inr (.inl t))) (λe=>let l:=w64 (e.2.2.2.1+1)
 M (.inl (e.1,e.2.1,e.2.2.1,l,e.2.2.2.2.1,e.2.2.2.2.2))))))) Z) (M (.inr (.inr ())))
def AZ[LP](e:Y J)(f:J)(b:kU)(c:J)(d:Y J)(a:J):O (Å ⊕ Æ):=LP.lp (unc6 j1s) (e,f,b,c,d,a)
theorem KD(e f b c d a):AZ e f b c d a=lpK (j1s e f b c d a) (λh=>AZ h.1 h.2.1 h.2.2.1 h.2.2.2.1 h.2.2.2.2.1 h.2.2.2.2.2):=bc _ _
def jdz[LP](j:Y J)(e:af)(m:bn)(a:Y J)(u g:J):O Bool:=(jlQ j).bind λa0=>let x:=U e.length
 let y:=U m.length
 let a7:=U a.length
 let a3:Bool:=cond (cond (cond (!a0) Â (N (x>50))) Â (N (y>30))) Â (N (a7>60))
 cond a3 ((jiC).bind λa2=>M a2) ((jo7 j).bind λn=>(j92 n.1 n.2 2).bind λc=>(j85 c.2.1 c.2.2).bind λd=>(j5K d.2.1 d.2.2).bind λl=>cond (N (X ([]:bn)+X d.1<=aM)) (let p:bn:=([]:bn)++d.1
 let a4:Y Int:=[0,600000]
 (j0D l.2.1 l.2.2 a4).bind λk=>let a1:Y Int:=[0,1,8,9]
 (j0D k.2.1 k.2.2 a1).bind λi=>let o:bn:=[((k.1,604800),i.1)]
 cond (N (X p+X o<=aM)) (let a6:bn:=p++o
 let z:mz:=[d.1,a6,m]
 (AY e a u g l.1 z 0 c.1.1 c.1.2.1 c.1.2.2.1 c.1.2.2.2 i.2.1 i.2.2).bind λa8=>sumC a8 (λb1=>M b1) (λw=>(j7P w.2.2.2.1 w.2.2.2.2).bind λb=>(j7P b.2.1 b.2.2).bind λf=>let v:fY:=[b.1,f.1]
 let q:fY:=[w.1,b.1]
 let t:fY:=[b.1,w.1]
 let s:kU:=[v,q,t]
 (AZ w.2.1 w.2.2.1 s 0 f.2.1 f.2.2).bind λa9=>sumC a9 (λa5=>M a5) (λb0=>(jiC).bind λr=>M r))) Z) Z)
end
end Go.Proofs.Pw
