/- Plain re, printed by a program out of the given code. -/
import Derived.Test.YtkoifkkadkmecaaGreatLRLS
open _root_ renaming Int->J,Option->M,ByteArray->S,List->W,Bool->Ã,Unit->Å
open Option renaming some->K,none->X
open Decidable renaming decide->L
open List renaming getD->N,length->U,take->Ç,set->È,replicate->Ë,drop->Ì
open Int renaming ofNat->O,tmod->Ä,tdiv->Æ,fdiv->Í
open ByteArray renaming empty->Y,mk->Á,size->Â,toList->É
open Bool renaming false->Z,true->À
open Go.IntKind renaming wrap->Ê
open Go Go.Lft
set_option linter.unusedVariables false
namespace Go.Proofs.Pw
noncomputable section
abbrev af:Type:=(W (J×J))
abbrev ph:Type:=(J×(W J))
abbrev uW:Type:=(J×(J×J))
abbrev ag:Type:=(W uW)
abbrev fD:Type:=(J×af)
abbrev tS:Type:=(S×ph)
abbrev cY:Type:=(W ag)
abbrev cE:Type:=(W fD)
abbrev nO:Type:=(J×(J×uW))
abbrev ao:Type:=(W tS)
abbrev ae:Type:=(W nO)
abbrev wO:Type:=(J×(J×nO))
abbrev aZ:Type:=(W wO)
abbrev EY:Type:=(S×(J×(af×(J×(J×Ã)))))
abbrev al:Type:=(W EY)
abbrev dM:Type:=(S×(J×aZ))
abbrev ak:Type:=(W dM)
abbrev fj:Type:=(S×(J×((J×J)×(J×(J×((W J)×(af×(J×J))))))))
abbrev aX:Type:=(W fj)
abbrev mN:Type:=(S×(aX×ae))
abbrev ar:Type:=(W mN)
abbrev cF:Type:=(ak×(al×(ao×ar)))
abbrev kW:Type:=(cF×cE)
abbrev u8{A B C D E F G H T I R:Type}(u:T->I->R)(f:A->B->C->D->E->F->G->H->T)(h:A×B×C×D×E×F×G×H×I):R:=u (f h.1 h.2.1 h.2.2.1 h.2.2.2.1 h.2.2.2.2.1 h.2.2.2.2.2.1 h.2.2.2.2.2.2.1 h.2.2.2.2.2.2.2.1) h.2.2.2.2.2.2.2.2
abbrev unc2{A0 A1 R:Type}(f:A0->A1->R)(h:A0×A1):R:=f h.1 h.2
abbrev unc3{A0 A1 A2 R:Type}(f:A0->A1->A2->R)(h:A0×A1×A2):R:=f h.1 h.2.1 h.2.2
abbrev unc4{A0 A1 A2 A3 R:Type}(f:A0->A1->A2->A3->R)(h:A0×A1×A2×A3):R:=f h.1 h.2.1 h.2.2.1 h.2.2.2
abbrev unc5{A0 A1 A2 A3 A4 R:Type}(f:A0->A1->A2->A3->A4->R)(h:A0×A1×A2×A3×A4):R:=f h.1 h.2.1 h.2.2.1 h.2.2.2.1 h.2.2.2.2
abbrev unc6{A0 A1 A2 A3 A4 A5 R:Type}(f:A0->A1->A2->A3->A4->A5->R)(h:A0×A1×A2×A3×A4×A5):R:=f h.1 h.2.1 h.2.2.1 h.2.2.2.1 h.2.2.2.2.1 h.2.2.2.2.2
abbrev unc7{A0 A1 A2 A3 A4 A5 A6 R:Type}(f:A0->A1->A2->A3->A4->A5->A6->R)(h:A0×A1×A2×A3×A4×A5×A6):R:=f h.1 h.2.1 h.2.2.1 h.2.2.2.1 h.2.2.2.2.1 h.2.2.2.2.2.1 h.2.2.2.2.2.2
abbrev unc8{A0 A1 A2 A3 A4 A5 A6 A7 R:Type}(f:A0->A1->A2->A3->A4->A5->A6->A7->R)(h:A0×A1×A2×A3×A4×A5×A6×A7):R:=f h.1 h.2.1 h.2.2.1 h.2.2.2.1 h.2.2.2.2.1 h.2.2.2.2.2.1 h.2.2.2.2.2.2.1 h.2.2.2.2.2.2.2
abbrev unc9{A0 A1 A2 A3 A4 A5 A6 A7 A8 R:Type}(f:A0->A1->A2->A3->A4->A5->A6->A7->A8->R)(h:A0×A1×A2×A3×A4×A5×A6×A7×A8):R:=f h.1 h.2.1 h.2.2.1 h.2.2.2.1 h.2.2.2.2.1 h.2.2.2.2.2.1 h.2.2.2.2.2.2.1 h.2.2.2.2.2.2.2.1 h.2.2.2.2.2.2.2.2
def jm6(a:W J):M Bool:=
 let b:=O a.length
 K (L (b<=500))
def jog(c b:J)(a:Ã):M (ak×al×ao×ar):=
 let j:ak:=[((Á #[122]),(0,([]:aZ)))]
 let e:af:=[(432000,435600)]
 let f:al:=[((Á #[97]),(0,(e,(c,(b,a)))))]
 let g:W Int:=[0]
 let d:aX:=[((Á #[108]),(0,((1,0),(1,(1,(g,(([]:af),(0,0))))))))]
 let i:ar:=[((Á #[115]),(d,([]:ae)))]
 K (j,f,([]:ao),i)
def jcS(a:dM):M ByteArray:=K a.1
def jdZ(a:J):M Bool:=K (cond (L (a>=97)) (L (a<=122)) Z)
def jjZ(a:J):M Bool:=K (cond (L (a>=48)) (L (a<=57)) Z)
def j88(d:S)(c b:J):M ((S×J×J) ⊕ (Ã ⊕ Å)):=cond (L (b<c)) (cond (inR b (Â d)) (let a:=dr d b
 (jdZ a).bind λi=>cond (!i) ((jjZ a).bind λe=>cond (cond (cond (!e) (a != 95) Z) (a != 45) Z) (K (.inr (.inl Z))) (let g:=w64 (b+1)
 K (.inl (d,c,g)))) (let f:=w64 (b+1)
 K (.inl (d,c,f)))) X) (K (.inr (.inr ())))
def EZ[LP](c:S)(b a:J):M (Ã ⊕ Å):=LP.lp (unc3 j88) (c,b,a)
theorem jmU(c b a):EZ c b a=lpK (j88 c b a) (λh=>EZ h.1 h.2.1 h.2.2):=bc _ _
def jam[LP](a:S):M Bool:=
 let g:=O (Â a)
 let b:Bool:=cond (É a==É Y) À (L (g>24))
 cond ((inR 0 (Â a)) || !(!b)) (let c:=dr a 0
 cond b (K Z) ((jdZ c).bind λd=>cond (!d) (K Z) (let e:=O (Â a)
 (EZ a e 0).bind λf=>sumC f (λi=>K i) (λj=>K À)))) X
def j78[LP](b:S)(a:W (S×Ã)):M (J×(W (S×Ã))):=(jam b).bind λc=>cond (!c) (K (2,a)) (cond (iN Z a b) (K (4,a)) (let d:(W (S×Ã)):=jW a b À
 K (0,d)))
def jcT(a b c:J):M Bool:=K (cond (L (a>=b)) (L (a<=c)) Z)
def ji9(a:wO):M Int:=(jcT a.1 1970 2240).bind λi=>cond (!i) (K 1) ((jcT a.2.1 a.1 2240).bind λd=>cond (!d) (K 1) ((jcT a.2.2.1 1 12).bind λf=>cond (!f) (K 1) ((jcT a.2.2.2.1 1 5).bind λe=>cond (!e) (K 1) ((jcT a.2.2.2.2.1 0 6).bind λc=>cond (!c) (K 1) ((jcT a.2.2.2.2.2.1 0 86399).bind λb=>cond (!b) (K 1) ((jcT a.2.2.2.2.2.2 (-64800) 64800).bind λg=>cond (!g) (K 1) (K 0)))))))
def jm7(a:J):M Bool:=
 let c:=Ä a 4
 let d:=Ä a 100
 let b:=Ä a 400
 K (cond (c==0) (cond (d != 0) À (b==0)) Z)
def j8T(c a:J):M Int:=cond (cond (L (a<1)) À (L (a>12))) (K 0) (let f:W Int:=[31,28,31,30,31,30,31,31,30,31,30,31]
 let j:W Int:=Ë 12 0
 cond (a==2) ((jm7 c).bind λg=>cond g (K 29) (let e:=w64 (a-1)
 cond (inR e 12) (let i:=N f e.toNat 0
 K i) X)) (let b:=w64 (a-1)
 cond (inR b 12) (let d:=N f b.toNat 0
 K d) X))
def je0(a:uW):M Bool:=cond (L (a.1>=1970)) (cond (L (a.1<=2240)) (cond (L (a.2.2>=1)) ((j8T a.1 a.2.1).bind λb=>K (L (a.2.2<=b))) (K Z)) (K Z)) (K Z)
def ja4(b a:J):M Int:=cond (!(a==0)) (let c:=w64 (Æ b a)
 cond (!(a==0)) (let e:=Ä b a
 cond (L (e<0)) (let d:=w64 (c-1)
 K d) (K c)) X) X
def j6m(a:J):M Int:=
 let b:=w64 (a-1)
 let l:=w64 (a-1970)
 let k:=w64 (365*l)
 (ja4 b 4).bind λd=>let f:=w64 (k+d)
 (ja4 b 100).bind λj=>let g:=w64 (f-j)
 (ja4 b 400).bind λe=>let i:=w64 (g+e)
 let c:=w64 (i-477)
 K c
def j4I(i f g a e:J):M ((J×J×J×J×J) ⊕ (J)):=cond (L (f<a)) ((j8T g f).bind λc=>let d:=w64 (i+c)
 let b:=w64 (f+1)
 K (.inl (d,b,g,a,e))) (K (.inr i))
def I5[LP](e d c b a:J):M Int:=LP.lp (unc5 j4I) (e,d,c,b,a)
theorem XA(e d c b a):I5 e d c b a=lpK (j4I e d c b a) (λh=>I5 h.1 h.2.1 h.2.2.1 h.2.2.2.1 h.2.2.2.2):=bc _ _
def jf0[LP](a:uW):M Int:=(j6m a.1).bind λd=>let c:=w64 (d+a.2.2)
 let b:=w64 (c-1)
 (I5 b 1 a.1 a.2.1 a.2.2).bind λe=>K e
def j7a(a:J):M Int:=
 let d:=Ä a 7
 let b:=w64 (d+10)
 let c:=Ä b 7
 K c
def jl0[LP](c b d a:J):M (J×J):=(je0 (c,(b,1))).bind λo=>let g:Bool:=cond (cond (!o) À (L (d<1))) À (L (d>5))
 let t:Bool:=cond (cond g À (L (a<0))) À (L (a>6))
 cond t (K (0,1)) ((jf0 (c,(b,1))).bind λe=>(j7a e).bind λn=>let j:=w64 (a-n)
 let s:=w64 (j+7)
 let i:=Ä s 7
 let k:=w64 (e+i)
 let p:=w64 (d-1)
 let r:=w64 (7*p)
 let f:=w64 (k+r)
 (j8T c b).bind λm=>let q:=w64 (e+m)
 cond (L (f>=q)) (let l:=w64 (f-7)
 K (l,0)) (K (f,0)))
def ja5(a b:J×J):M Int:=
 let c:=w64 (a.1-b.1)
 K c
def j0i(l p q b:J)(a:af):M ((J×J×J×J×af) ⊕ (J×J×J×af)):=cond (L (b>l)) (cond (inR b a.length) (let g:=N a b.toNat (0,0)
 let d:=w64 (b-1)
 cond (inR d a.length) (let i:=N a d.toNat (0,0)
 (ja5 (g.1,g.2) (i.1,i.2)).bind λn=>cond (L (n<0)) (let f:=w64 (b-1)
 let j:=w64 (b-1)
 cond (inR j a.length) (let k:=N a j.toNat (0,0)
 cond (inR b a.length) (let c:=N a b.toNat (0,0)
 cond (inR b a.length) (let e:af:=È a b.toNat (k.1,k.2)
 cond (inR f e.length) (let m:af:=È e f.toNat (c.1,c.2)
 let o:=w64 (b-1)
 K (.inl (l,p,q,o,m))) X) X) X) X) (K (.inr (l,p,q,a)))) X) X) (K (.inr (l,p,q,a)))
def I6[LP](a b e c:J)(d:af):M (J×J×J×af):=LP.lp (unc5 j0i) (a,b,e,c,d)
theorem XB(a b e c d):I6 a b e c d=lpK (j0i a b e c d) (λh=>I6 h.1 h.2.1 h.2.2.1 h.2.2.2.1 h.2.2.2.2):=bc _ _
def j0j[LP](f d c:J)(e:af):M ((J×J×J×af) ⊕ (af)):=cond (L (c<d)) ((I6 f d c c e).bind λa=>let b:=w64 (a.2.2.1+1)
 K (.inl (a.1,a.2.1,b,a.2.2.2))) (K (.inr e))
def I7[LP](a d c:J)(b:af):M af:=LP.lp (unc4 j0j) (a,d,c,b)
theorem OD(a b d c):I7 a b d c=lpK (j0j a b d c) (λh=>I7 h.1 h.2.1 h.2.2.1 h.2.2.2):=bc _ _
def j0y[LP](a:af)(b c:J):M af:=
 let d:=w64 (b+1)
 (I7 b c d a).bind λe=>K e
def j0Z[LP](e d f c:J)(g:af):M ((J×J×J×J×af) ⊕ (J×J×J×af)):=cond (L (c<=e)) ((j0y g f c).bind λa=>let b:=w64 (c+d)
 K (.inl (e,d,c,b,a))) (K (.inr (e,d,f,g)))
def I8[LP](b a c e:J)(d:af):M (J×J×J×af):=LP.lp (unc5 j0Z) (b,a,c,e,d)
theorem j7x(b a c e d):I8 b a c e d=lpK (j0Z b a c e d) (λh=>I8 h.1 h.2.1 h.2.2.1 h.2.2.2.1 h.2.2.2.2):=bc _ _
def j39(b a c f:J)(e:af):M ((J×J×J×J×af) ⊕ (J×J×J×af)):=cond (L (f<=b)) (let d:=w64 (c+a)
 X) (K (.inr (b,a,c,e)))
def j8m[LP](b a c e:J)(d:af):M (J×J×J×af):=LP.lp (unc5 j39) (b,a,c,e,d)
def j10[LP](f e:J)(g:af):M ((J×J×af) ⊕ (af)):=cond (L (e<f)) (let b:=w64 (2*e)
 (j8m f e 0 b g).bind λa=>let d:=w64 (a.2.2.1+a.2.1)
 cond (L (d<a.1)) (X) (let c:=w64 (a.2.1*2)
 K (.inl (a.1,c,a.2.2.2)))) (K (.inr g))
def I9[LP](b a:J)(c:af):M af:=LP.lp (unc3 j10) (b,a,c)
theorem j7y(b a c):I9 b a c=lpK (j10 b a c) (λh=>I9 h.1 h.2.1 h.2.2):=bc _ _
def j2z[LP](a:af)(c:J):M af:=(I8 c 20 0 20 a).bind λb=>(j0y b.2.2.2 b.2.2.1 b.1).bind λd=>(I9 b.1 b.2.1 d).bind λe=>K e
def j0t[LP](a:af):M af:=
 let c:=O a.length
 (j2z a c).bind λb=>K b
def j2O(m:J)(f:aZ)(l b:J)(n:S)(e:J)(d:aZ):M ((J×aZ×J×J×S×J×aZ) ⊕ (J ⊕ (J×S×J×aZ))):=cond (L (b<l)) (cond (inR b f.length) (let a:=N f b.toNat (0,(0,(0,(0,(0,(0,0))))))
 (ji9 (a.1,(a.2.1,(a.2.2.1,(a.2.2.2.1,(a.2.2.2.2.1,(a.2.2.2.2.2.1,a.2.2.2.2.2.2))))))).bind λc=>cond (c != 0) (K (.inr (.inl c))) (let k:=w64 (a.2.1-a.1)
 let j:=w64 (k+1)
 let g:=w64 (m+j)
 let i:=w64 (b+1)
 K (.inl (g,f,l,i,n,e,d)))) X) (K (.inr (.inr (m,n,e,d))))
def E0[LP](f:J)(c:aZ)(e d:J)(g:S)(b:J)(a:aZ):M (J ⊕ (J×S×J×aZ)):=LP.lp (unc7 j2O) (f,c,e,d,g,b,a)
theorem XC(f c e d g b a):E0 f c e d g b a=lpK (j2O f c e d g b a) (λh=>E0 h.1 h.2.1 h.2.2.1 h.2.2.2.1 h.2.2.2.2.1 h.2.2.2.2.2.1 h.2.2.2.2.2.2):=bc _ _
def j2P[LP](i:J)(q:aZ)(p o s f a g d e b:J)(r:af):M ((J×aZ×J×J×J×J×J×J×J×J×J×af) ⊕ (aZ×J×J×af)):=cond (L (i<=f)) ((jl0 i a g d).bind λn=>let k:=w64 (n.1*86400)
 let l:=w64 (k+e)
 let c:af:=[(l,b)]
 cond (L (U r+U c<=aG)) (let j:af:=r++c
 let m:=w64 (i+1)
 K (.inl (m,q,p,o,s,f,a,g,d,e,b,j))) X) (K (.inr (q,p,o,r)))
def Ja[LP](k:J)(l:aZ)(j g i e a f c d b:J)(m:af):M (aZ×J×J×af):=LP.lp (u8 unc4 j2P) (k,l,j,g,i,e,a,f,c,d,b,m)
theorem XE(k l j g i e a f c d b m):Ja k l j g i e a f c d b m=lpK (j2P k l j g i e a f c d b m) (λh=>Ja h.1 h.2.1 h.2.2.1 h.2.2.2.1 h.2.2.2.2.1 h.2.2.2.2.2.1 h.2.2.2.2.2.2.1 h.2.2.2.2.2.2.2.1 h.2.2.2.2.2.2.2.2.1 h.2.2.2.2.2.2.2.2.2.1 h.2.2.2.2.2.2.2.2.2.2.1 h.2.2.2.2.2.2.2.2.2.2.2):=bc _ _
def j2Q[LP](d:aZ)(f c:J)(g:af):M ((aZ×J×J×af) ⊕ (af)):=cond (L (c<f)) (cond (inR c d.length) (let a:=N d c.toNat (0,(0,(0,(0,(0,(0,0))))))
 (Ja a.1 d f c a.1 a.2.1 a.2.2.1 a.2.2.2.1 a.2.2.2.2.1 a.2.2.2.2.2.1 a.2.2.2.2.2.2 g).bind λb=>let e:=w64 (b.2.2.1+1)
 K (.inl (b.1,b.2.1,e,b.2.2.2))) X) (K (.inr g))
def E3[LP](c:aZ)(a b:J)(d:af):M af:=LP.lp (unc4 j2Q) (c,a,b,d)
theorem XF(c b a d):E3 c b a d=lpK (j2Q c b a d) (λh=>E3 h.1 h.2.1 h.2.2.1 h.2.2.2):=bc _ _
def j9S[LP](a:dM):M (af×J):=(jcT a.2.1 (-64800) 64800).bind λe=>cond (!e) (K (([]:af),1)) (let b:=O a.2.2.length
 cond (L (b>16)) (K (([]:af),5)) (let f:=O a.2.2.length
 (E0 0 a.2.2 f 0 a.1 a.2.1 a.2.2).bind λg=>sumC g (λk=>K (([]:af),k)) (λi=>cond (L (i.1>640)) (K (([]:af),5)) (let d:=O i.2.2.2.length
 (E3 i.2.2.2 d 0 ([]:af)).bind λj=>(j0t j).bind λc=>K (c,0)))))
def j2R(r m d:J)(b k:af):M ((J×J×J×af×af) ⊕ (J ⊕ af)):=cond (L (d<m)) (cond (inR d k.length) (let a:=N k d.toNat (0,0)
 cond (a.2==r) (let p:=w64 (d+1)
 K (.inl (r,m,p,b,k))) (let c:=w64 (a.1-r)
 let l:=w64 (a.2-r)
 cond (cond (L (l>=86400)) À (L (l<=(-86400)))) (let w:=O b.length
 let t:=O b.length
 let g:=w64 (t-1)
 cond ((inR g b.length) || !((!À)&&(L (w>0)))) (let n:=(N b g.toNat (0,0)).1
 let x:=w64 (n+604800)
 K (.inr (.inl 6))) X) ((jcT c 0 8589934592).bind λe=>let f:=O b.length
 let q:=O b.length
 let i:=w64 (q-1)
 cond ((inR i b.length) || !((!(!e))&&(L (f>0)))) (let v:=(N b i.toNat (0,0)).1
 let u:=w64 (v+604800)
 cond (cond (!e) À (cond (L (f>0)) (L (c<u)) Z)) (K (.inr (.inl 6))) (let j:af:=[(c,a.2)]
 cond (L (U b+U j<=aG)) (let s:af:=b++j
 let o:=w64 (d+1)
 K (.inl (a.2,m,o,s,k))) X)) X))) X) (K (.inr (.inr b)))
def E4[LP](d b c:J)(e a:af):M (J ⊕ af):=LP.lp (unc5 j2R) (d,b,c,e,a)
theorem XG(d b c e a):E4 d b c e a=lpK (j2R d b c e a) (λh=>E4 h.1 h.2.1 h.2.2.1 h.2.2.2.1 h.2.2.2.2):=bc _ _
def j4A[LP](a:dM):M (af×J):=(j9S (a.1,(a.2.1,a.2.2))).bind λb=>cond (b.2 != 0) (K (([]:af),b.2)) (let c:=O b.1.length
 (E4 a.2.1 c 0 ([]:af) b.1).bind λd=>sumC d (λf=>K (([]:af),f)) (λe=>K (e,0)))
def jg9[LP](a:dM):M Int:=(j4A (a.1,(a.2.1,a.2.2))).bind λb=>K b.2
def j9f(a:wO):M Bool:=
 let b:=Ä a.2.2.2.2.2.2 60
 K (b != 0)
def j0l(e:aZ)(f b:J):M ((aZ×J×J) ⊕ (J ⊕ Å)):=cond (L (b<f)) (cond (inR b e.length) (let a:=N e b.toNat (0,(0,(0,(0,(0,(0,0))))))
 (j9f (a.1,(a.2.1,(a.2.2.1,(a.2.2.2.1,(a.2.2.2.2.1,(a.2.2.2.2.2.1,a.2.2.2.2.2.2))))))).bind λd=>cond d (K (.inr (.inl b))) (let c:=w64 (b+1)
 K (.inl (e,f,c)))) X) (K (.inr (.inr ())))
def Jb[LP](a:aZ)(c b:J):M (J ⊕ Å):=LP.lp (unc3 j0l) (a,c,b)
theorem XH(a c b):Jb a c b=lpK (j0l a c b) (λh=>Jb h.1 h.2.1 h.2.2):=bc _ _
def j1Y[LP](a:aZ):M Int:=
 let c:=O a.length
 (Jb a c 0).bind λb=>sumC b (λd=>K d) (λe=>K (-1))
def j1I[LP](a:aZ):M Bool:=(j1Y a).bind λb=>K (L (b>=0))
def j6F[LP](a:dM):M Int:=(jg9 (a.1,(a.2.1,a.2.2))).bind λc=>let d:=Ä a.2.1 60
 cond (cond (c != 0) À (d != 0)) (K 8) ((j1I a.2.2).bind λb=>cond b (K 8) (K 0))
def j1O[LP](e:ak)(i d:J)(j:W (S×Ã)):M ((ak×J×J×(W (S×Ã))) ⊕ (J ⊕ Å)):=cond (L (d<i)) (cond (inR d e.length) (let a:=N e d.toNat (Y,(0,([]:aZ)))
 (jcS (a.1,(a.2.1,a.2.2))).bind λf=>(j78 f j).bind λb=>cond (b.1 != 0) (K (.inr (.inl b.1))) ((j6F (a.1,(a.2.1,a.2.2))).bind λc=>cond (c != 0) (K (.inr (.inl c))) (let g:=w64 (d+1)
 K (.inl (e,i,g,b.2))))) X) (K (.inr (.inr ())))
def E5[LP](b:ak)(c a:J)(d:W (S×Ã)):M (J ⊕ Å):=LP.lp (unc4 j1O) (b,c,a,d)
theorem XI(a:ak)(b c:J)(d:W (S×Ã)):E5 a b c d=lpK (j1O a b c d) (λh=>E5 h.1 h.2.1 h.2.2.1 h.2.2.2):=bc _ _
def j5G[LP](a:ak):M Int:=
 let b:(W (S×Ã)):=[]
 let c:=O a.length
 (E5 a c 0 b).bind λd=>sumC d (λe=>K e) (λf=>K 0)
def j2i(a b:J):M Bool:=K (cond (L (a>=0)) (L (a<b)) Z)
def j5U(d i:af)(k b:J):M ((af×af×J×J) ⊕ (J ⊕ Å)):=cond (L (b<k)) (cond (inR b i.length) (let a:=N i b.toNat (0,0)
 let j:Bool:=cond (cond (L (a.1<0)) À (L (a.1>=a.2))) À (L (a.2>604800))
 cond j (K (.inr (.inl 1))) (cond (L (b>0)) (let c:=w64 (b-1)
 cond (inR c d.length) (let g:=N d c.toNat (0,0)
 cond (L (a.1<g.2)) (K (.inr (.inl 6))) (let f:=w64 (b+1)
 K (.inl (d,i,k,f)))) X) (let e:=w64 (b+1)
 K (.inl (d,i,k,e))))) X) (K (.inr (.inr ())))
def Jc[LP](c d:af)(b a:J):M (J ⊕ Å):=LP.lp (unc4 j5U) (c,d,b,a)
theorem XJ(b d c a):Jc b d c a=lpK (j5U b d c a) (λh=>Jc h.1 h.2.1 h.2.2.1 h.2.2.2):=bc _ _
def jga[LP](a:af):M Int:=
 let d:=O a.length
 cond (L (d>14)) (K 5) (let c:=O a.length
 (Jc a a c 0).bind λb=>sumC b (λe=>K e) (λf=>K 0))
def j80(a b c:J):M Bool:=K (cond (L (a>=b)) (L (a<=c)) Z)
def j3W(a:J):M Bool:=(j80 a 0 604800).bind λc=>let b:=Ä a 3600
 K (cond c (b==0) Z)
def j3J[LP](b:cF)(a:EY):M Int:=
 let e:=O b.1.length
 (j2i a.2.1 e).bind λf=>cond (!f) (K 3) ((jga a.2.2.1).bind λc=>cond (c != 0) (K 8) ((j3W a.2.2.2.1).bind λd=>cond (!d) (K 1) ((j3W a.2.2.2.2.1).bind λg=>cond (!g) (K 1) (K 0))))
def jcU(a:tS):M ByteArray:=K a.1
def jf1(e c:J):M ((J×J) ⊕ (J)):=
 let d:=w64 (c+1)
 (j6m d).bind λb=>cond (L (b<=e)) (let a:=w64 (c+1)
 K (.inl (e,a))) (K (.inr c))
def jrd[LP](a b:J):M Int:=LP.lp (unc2 jf1) (a,b)
def jqk[LP](a:J):M Int:=(ja4 a 366).bind λb=>let d:=w64 (1970+b)
 (jrd a d).bind λc=>K c
def jdl(k l d c e a b:J):M ((J×J×J×J×J×J×J) ⊕ (J×J×J×J×J×J×J)):=(j8T e a).bind λi=>cond (L (k>=i)) ((j8T e a).bind λf=>let j:=w64 (k-f)
 let g:=w64 (a+1)
 K (.inl (j,l,d,c,e,g,b))) (K (.inr (k,l,d,c,e,a,b)))
def joh[LP](g e d c f a b:J):M (J×J×J×J×J×J×J):=LP.lp (unc7 jdl) (g,e,d,c,f,a,b)
def jan[LP](a:J):M (uW×J):=(j6m 1970).bind λi=>cond (L (a<i)) (K ((0,(0,0)),1)) ((j6m 2241).bind λf=>cond (L (a>=f)) (K ((0,(0,0)),1)) ((jqk a).bind λb=>(j6m b).bind λe=>let d:=w64 (a-e)
 (joh d 0 0 0 b 1 0).bind λc=>let g:=w64 (c.1+1)
 K ((c.2.2.2.2.1,(c.2.2.2.2.2.1,g)),0)))
def j1l[LP](a:J):M Bool:=(jan a).bind λb=>K (b.2==0)
def j6G[LP](a:J):M Bool:=(j1l a).bind λb=>K (!b)
def j1B[LP](e:W J)(f a:J):M (((W J)×J×J) ⊕ (J ⊕ Å)):=cond (L (a<f)) (cond (inR a e.length) (let d:=N e a.toNat 0
 (j6G d).bind λc=>cond c (K (.inr (.inl a))) (let b:=w64 (a+1)
 K (.inl (e,f,b)))) X) (K (.inr (.inr ())))
def Jd[LP](a:W J)(c b:J):M (J ⊕ Å):=LP.lp (unc3 j1B) (a,c,b)
theorem XK(a c b):Jd a c b=lpK (j1B a c b) (λh=>Jd h.1 h.2.1 h.2.2):=bc _ _
def j6H[LP](a:W J):M Int:=
 let c:=O a.length
 (Jd a c 0).bind λb=>sumC b (λd=>K d) (λe=>K (-1))
def j5k[LP](a:W J):M Bool:=(j6H a).bind λb=>K (L (b>=0))
def j1Z(e b:J)(k:S)(d:J)(a:W J):M ((J×J×S×J×(W J)) ⊕ (J ⊕ Å)):=cond (L (b<e)) (cond (L (b>0)) (cond (inR b a.length) (let j:=N a b.toNat 0
 let c:=w64 (b-1)
 cond (inR c a.length) (let f:=N a c.toNat 0
 cond (L (j<=f)) (K (.inr (.inl 6))) (let i:=w64 (b+1)
 K (.inl (e,i,k,d,a)))) X) X) (let g:=w64 (b+1)
 K (.inl (e,g,k,d,a)))) (K (.inr (.inr ())))
def Jf[LP](c d:J)(e:S)(b:J)(a:W J):M (J ⊕ Å):=LP.lp (unc5 j1Z) (c,d,e,b,a)
theorem XL(c d e b a):Jf c d e b a=lpK (j1Z c d e b a) (λh=>Jf h.1 h.2.1 h.2.2.1 h.2.2.2.1 h.2.2.2.2):=bc _ _
def j3Z[LP](b:cF)(a:tS):M Int:=
 let e:=O b.1.length
 (j2i a.2.1 e).bind λg=>cond (!g) (K 3) (let f:=O a.2.2.length
 cond (L (f>64)) (K 5) ((j5k a.2.2).bind λd=>cond d (K 1) (let c:=O a.2.2.length
 (Jf c 0 a.1 a.2.1 a.2.2).bind λi=>sumC i (λj=>K j) (λk=>K 0))))
def jcV[LP](a:tS)(f:ak)(b:al)(c:ao)(d:ar):M Int:=(j3Z (f,(b,(c,d))) (a.1,(a.2.1,a.2.2))).bind λe=>K e
def j1g[LP](m:ak)(g:al)(f:ao)(i:ar)(e:ao)(l d:J)(n:W (S×Ã)):M ((ak×al×ao×ar×ao×J×J×(W (S×Ã))) ⊕ (J ⊕ Å)):=cond (L (d<l)) (cond (inR d e.length) (let a:=N e d.toNat (Y,(0,([]:(W J))))
 (jcU (a.1,(a.2.1,a.2.2))).bind λj=>(j78 j n).bind λb=>cond (b.1 != 0) (K (.inr (.inl b.1))) ((jcV (a.1,(a.2.1,a.2.2)) m g f i).bind λc=>cond (c != 0) (K (.inr (.inl c))) (let k:=w64 (d+1)
 K (.inl (m,g,f,i,e,l,k,b.2))))) X) (K (.inr (.inr ())))
def E6[LP](g:ak)(b:al)(a:ao)(c:ar)(d:ao)(e f:J)(i:W (S×Ã)):M (J ⊕ Å):=LP.lp (unc8 j1g) (g,b,a,c,d,e,f,i)
theorem XM(g:ak)(b:al)(a:ao)(c:ar)(d:ao)(e f:J)(i:W (S×Ã)):E6 g b a c d e f i=lpK (j1g g b a c d e f i) (λh=>E6 h.1 h.2.1 h.2.2.1 h.2.2.2.1 h.2.2.2.2.1 h.2.2.2.2.2.1 h.2.2.2.2.2.2.1 h.2.2.2.2.2.2.2):=bc _ _
def j3C[LP](e:ao)(d:ak)(a:al)(b:ao)(c:ar):M Int:=
 let f:(W (S×Ã)):=[]
 let g:=O e.length
 (E6 d a b c e g 0 f).bind λi=>sumC i (λj=>K j) (λk=>K 0)
def jcW(a:mN):M ByteArray:=K a.1
def j6I(a:fj):M ByteArray:=K a.1
def j8o(b:J)(g:ak)(a:al)(c:ao)(e:ar):M Bool:=
 let d:=O a.length
 (j2i b d).bind λf=>K (!f)
def j18(i:W J)(j:ak)(a:al)(b:ao)(c:ar)(k d:J):M (((W J)×ak×al×ao×ar×J×J) ⊕ (J ⊕ Å)):=cond (L (d<k)) (cond (inR d i.length) (let g:=N i d.toNat 0
 (j8o g j a b c).bind λf=>cond f (K (.inr (.inl d))) (let e:=w64 (d+1)
 K (.inl (i,j,a,b,c,k,e)))) X) (K (.inr (.inr ())))
def Jg[LP](d:W J)(e:ak)(a:al)(b:ao)(c:ar)(f g:J):M (J ⊕ Å):=LP.lp (unc7 j18) (d,e,a,b,c,f,g)
theorem XN(d e a b c f g):Jg d e a b c f g=lpK (j18 d e a b c f g) (λh=>Jg h.1 h.2.1 h.2.2.1 h.2.2.2.1 h.2.2.2.2.1 h.2.2.2.2.2.1 h.2.2.2.2.2.2):=bc _ _
def j5l[LP](d:W J)(e:ak)(b:al)(c:ao)(a:ar):M Int:=
 let g:=O d.length
 (Jg d e b c a g 0).bind λf=>sumC f (λi=>K i) (λj=>K (-1))
def j40[LP](d:W J)(e:ak)(b:al)(c:ao)(a:ar):M Bool:=(j5l d e b c a).bind λf=>K (L (f>=0))
def j5W[LP](b:cF)(a:fj):M Int:=
 let k:=O b.1.length
 (j2i a.2.1 k).bind λm=>cond (!m) (K 3) (cond (L (a.2.2.1.1<1)) (K 1) ((j1l a.2.2.1.1).bind λi=>cond (!i) (K 1) ((j80 a.2.2.1.2 0 86399).bind λp=>cond (!p) (K 1) ((j80 a.2.2.2.1 0 2).bind λf=>cond (!f) (K 1) ((j80 a.2.2.2.2.1 1 400).bind λc=>cond (!c) (K 1) (let g:=O a.2.2.2.2.2.1.length
 cond (g==0) (K 7) (let l:=O a.2.2.2.2.2.1.length
 cond (L (l>12)) (K 5) ((j40 a.2.2.2.2.2.1 b.1 b.2.1 b.2.2.1 b.2.2.2).bind λo=>cond o (K 3) ((jga a.2.2.2.2.2.2.1).bind λn=>cond (n != 0) (K 8) ((j80 a.2.2.2.2.2.2.2.2 0 2).bind λe=>cond (!e) (K 1) (let j:=O b.2.2.1.length
 cond (a.2.2.2.2.2.2.2.2 != 0) ((j2i a.2.2.2.2.2.2.2.1 j).bind λd=>cond (!d) (K 3) (cond (cond (a.2.2.2.2.2.2.2.2==0) (a.2.2.2.2.2.2.2.1 != 0) Z) (K 1) (K 0))) (cond (cond (a.2.2.2.2.2.2.2.2==0) (a.2.2.2.2.2.2.2.1 != 0) Z) (K 1) (K 0)))))))))))))
def j6J[LP](a:fj)(f:ak)(b:al)(c:ao)(d:ar):M Int:=(j5W (f,(b,(c,d))) (a.1,(a.2.1,((a.2.2.1.1,a.2.2.1.2),(a.2.2.2.1,(a.2.2.2.2.1,(a.2.2.2.2.2.1,(a.2.2.2.2.2.2.1,(a.2.2.2.2.2.2.2.1,a.2.2.2.2.2.2.2.2))))))))).bind λe=>K e
def j1J[LP](m:ak)(g:al)(f:ao)(i:ar)(e:aX)(l d:J)(n:W (S×Ã)):M ((ak×al×ao×ar×aX×J×J×(W (S×Ã))) ⊕ (J ⊕ Å)):=cond (L (d<l)) (cond (inR d e.length) (let a:=N e d.toNat (Y,(0,((0,0),(0,(0,(([]:(W J)),(([]:af),(0,0))))))))
 (j6I (a.1,(a.2.1,((a.2.2.1.1,a.2.2.1.2),(a.2.2.2.1,(a.2.2.2.2.1,(a.2.2.2.2.2.1,(a.2.2.2.2.2.2.1,(a.2.2.2.2.2.2.2.1,a.2.2.2.2.2.2.2.2))))))))).bind λj=>(j78 j n).bind λb=>cond (b.1 != 0) (K (.inr (.inl b.1))) ((j6J (a.1,(a.2.1,((a.2.2.1.1,a.2.2.1.2),(a.2.2.2.1,(a.2.2.2.2.1,(a.2.2.2.2.2.1,(a.2.2.2.2.2.2.1,(a.2.2.2.2.2.2.2.1,a.2.2.2.2.2.2.2.2)))))))) m g f i).bind λc=>cond (c != 0) (K (.inr (.inl c))) (let k:=w64 (d+1)
 K (.inl (m,g,f,i,e,l,k,b.2))))) X) (K (.inr (.inr ())))
def E7[LP](g:ak)(b:al)(a:ao)(c:ar)(d:aX)(e f:J)(i:W (S×Ã)):M (J ⊕ Å):=LP.lp (unc8 j1J) (g,b,a,c,d,e,f,i)
theorem XO(g:ak)(b:al)(a:ao)(c:ar)(d:aX)(e f:J)(i:W (S×Ã)):E7 g b a c d e f i=lpK (j1J g b a c d e f i) (λh=>E7 h.1 h.2.1 h.2.2.1 h.2.2.2.1 h.2.2.2.2.1 h.2.2.2.2.2.1 h.2.2.2.2.2.2.1 h.2.2.2.2.2.2.2):=bc _ _
def j4V[LP](e:aX)(d:ak)(a:al)(b:ao)(c:ar):M Int:=
 let f:(W (S×Ã)):=[]
 let g:=O e.length
 (E7 d a b c e g 0 f).bind λi=>sumC i (λj=>K j) (λk=>K 0)
def j6K[LP](g:cF)(a:nO):M Int:=
 let k:=O g.2.1.length
 (j80 a.1 0 2).bind λl=>cond (!l) (K 1) ((j2i a.2.1 k).bind λf=>cond (cond (!f) (!(cond (a.1==1) (a.2.1==(-1)) Z)) Z) (cond (cond (!f) (!(cond (a.1==1) (a.2.1==(-1)) Z)) Z) (K 3) (cond (cond (a.1 != 2) (a.2.2.1 != 0) Z) (K 1) (cond (cond (a.1==2) (a.2.1==a.2.2.1) Z) (K 4) (let m:=w64 (Æ a.2.2.2.2 86400)
 cond (cond (L (a.2.2.2.1<0)) À (L (a.2.2.2.2<0))) (K 1) ((j1l m).bind λi=>cond (!i) (K 1) (cond (L (a.2.2.2.1>=a.2.2.2.2)) (K 6) (K 0))))))) (cond (a.1==2) ((j2i a.2.2.1 k).bind λj=>cond (!j) (K 3) (cond (cond (a.1 != 2) (a.2.2.1 != 0) Z) (K 1) (cond (cond (a.1==2) (a.2.1==a.2.2.1) Z) (K 4) (let e:=w64 (Æ a.2.2.2.2 86400)
 cond (cond (L (a.2.2.2.1<0)) À (L (a.2.2.2.2<0))) (K 1) ((j1l e).bind λd=>cond (!d) (K 1) (cond (L (a.2.2.2.1>=a.2.2.2.2)) (K 6) (K 0))))))) (cond (cond (a.1 != 2) (a.2.2.1 != 0) Z) (K 1) (cond (cond (a.1==2) (a.2.1==a.2.2.1) Z) (K 4) (let b:=w64 (Æ a.2.2.2.2 86400)
 cond (cond (L (a.2.2.2.1<0)) À (L (a.2.2.2.2<0))) (K 1) ((j1l b).bind λc=>cond (!c) (K 1) (cond (L (a.2.2.2.1>=a.2.2.2.2)) (K 6) (K 0))))))))
def j21[LP](e:ae)(j c:J)(k:ak)(g:al)(f:ao)(d:ar):M ((ae×J×J×ak×al×ao×ar) ⊕ (J ⊕ Å)):=cond (L (c<j)) (cond (inR c e.length) (let a:=N e c.toNat (0,(0,(0,(0,0))))
 (j6K (k,(g,(f,d))) (a.1,(a.2.1,(a.2.2.1,(a.2.2.2.1,a.2.2.2.2))))).bind λb=>cond (b != 0) (K (.inr (.inl b))) (let i:=w64 (c+1)
 K (.inl (e,j,i,k,g,f,d)))) X) (K (.inr (.inr ())))
def Jh[LP](e:ae)(d f:J)(g:ak)(c:al)(b:ao)(a:ar):M (J ⊕ Å):=LP.lp (unc7 j21) (e,d,f,g,c,b,a)
theorem XP(e d f g c b a):Jh e d f g c b a=lpK (j21 e d f g c b a) (λh=>Jh h.1 h.2.1 h.2.2.1 h.2.2.2.1 h.2.2.2.2.1 h.2.2.2.2.2.1 h.2.2.2.2.2.2):=bc _ _
def j41[LP](a:cF)(b:mN):M Int:=
 let d:=O b.2.1.length
 let f:=O b.2.2.length
 cond (cond (L (d>6)) À (L (f>48))) (K 5) ((j4V b.2.1 a.1 a.2.1 a.2.2.1 a.2.2.2).bind λc=>cond (c != 0) (K c) (let e:=O b.2.2.length
 (Jh b.2.2 e 0 a.1 a.2.1 a.2.2.1 a.2.2.2).bind λg=>sumC g (λi=>K i) (λj=>K 0)))
def jcX[LP](a:mN)(f:ak)(b:al)(c:ao)(d:ar):M Int:=(j41 (f,(b,(c,d))) (a.1,(a.2.1,a.2.2))).bind λe=>K e
def j1h[LP](m:ak)(g:al)(f:ao)(i e:ar)(l d:J)(n:W (S×Ã)):M ((ak×al×ao×ar×ar×J×J×(W (S×Ã))) ⊕ (J ⊕ Å)):=cond (L (d<l)) (cond (inR d e.length) (let a:=N e d.toNat (Y,(([]:aX),([]:ae)))
 (jcW (a.1,(a.2.1,a.2.2))).bind λj=>(j78 j n).bind λb=>cond (b.1 != 0) (K (.inr (.inl b.1))) ((jcX (a.1,(a.2.1,a.2.2)) m g f i).bind λc=>cond (c != 0) (K (.inr (.inl c))) (let k:=w64 (d+1)
 K (.inl (m,g,f,i,e,l,k,b.2))))) X) (K (.inr (.inr ())))
def E8[LP](g:ak)(b:al)(a:ao)(c d:ar)(e f:J)(i:W (S×Ã)):M (J ⊕ Å):=LP.lp (unc8 j1h) (g,b,a,c,d,e,f,i)
theorem XQ(g:ak)(b:al)(a:ao)(c d:ar)(e f:J)(i:W (S×Ã)):E8 g b a c d e f i=lpK (j1h g b a c d e f i) (λh=>E8 h.1 h.2.1 h.2.2.1 h.2.2.2.1 h.2.2.2.2.1 h.2.2.2.2.2.1 h.2.2.2.2.2.2.1 h.2.2.2.2.2.2.2):=bc _ _
def j5O[LP](e:ar)(d:ak)(a:al)(b:ao)(c:ar):M Int:=
 let f:(W (S×Ã)):=[]
 let g:=O e.length
 (E8 d a b c e g 0 f).bind λi=>sumC i (λj=>K j) (λk=>K 0)
def j42[LP](g:al)(i f:J)(j:ak)(e:al)(c:ao)(d:ar)(r:W (S×Ã)):M ((al×J×J×ak×al×ao×ar×(W (S×Ã))) ⊕ (J ⊕ (ak×al×ao×ar))):=cond (L (f<i)) (cond (inR f g.length) (let a:=N g f.toNat (Y,(0,(([]:af),(0,(0,Z)))))
 (j78 a.1 r).bind λb=>let q:Bool:=É a.1==É (Á #[110,111,98,111,100,121])
 cond q (cond (2==0) ((j3J (j,(e,(c,d))) (a.1,(a.2.1,(a.2.2.1,(a.2.2.2.1,(a.2.2.2.2.1,a.2.2.2.2.2)))))).bind λl=>cond (l != 0) (K (.inr (.inl l))) (let m:=w64 (f+1)
 K (.inl (g,i,m,j,e,c,d,b.2)))) (cond (2 != 0) (K (.inr (.inl 2))) (let n:=w64 (f+1)
 K (.inl (g,i,n,j,e,c,d,b.2))))) (cond (b.1==0) ((j3J (j,(e,(c,d))) (a.1,(a.2.1,(a.2.2.1,(a.2.2.2.1,(a.2.2.2.2.1,a.2.2.2.2.2)))))).bind λk=>cond (k != 0) (K (.inr (.inl k))) (let o:=w64 (f+1)
 K (.inl (g,i,o,j,e,c,d,b.2)))) (cond (b.1 != 0) (K (.inr (.inl b.1))) (let p:=w64 (f+1)
 K (.inl (g,i,p,j,e,c,d,b.2)))))) X) (K (.inr (.inr (j,e,c,d))))
def E9[LP](e:al)(f d:J)(i:ak)(c:al)(a:ao)(b:ar)(g:W (S×Ã)):M (J ⊕ (ak×al×ao×ar)):=LP.lp (unc8 j42) (e,f,d,i,c,a,b,g)
theorem XR(e:al)(f d:J)(i:ak)(c:al)(a:ao)(b:ar)(g:W (S×Ã)):E9 e f d i c a b g=lpK (j42 e f d i c a b g) (λh=>E9 h.1 h.2.1 h.2.2.1 h.2.2.2.1 h.2.2.2.2.1 h.2.2.2.2.2.1 h.2.2.2.2.2.2.1 h.2.2.2.2.2.2.2):=bc _ _
def jaB[LP](a:cF):M Int:=
 let i:=O a.1.length
 let k:=O a.2.1.length
 let e:=O a.2.2.1.length
 let j:Bool:=cond (cond (L (i>16)) À (L (k>32))) À (L (e>8))
 let l:=O a.2.2.2.length
 cond (cond j À (L (l>12))) (K 5) ((j5G a.1).bind λd=>cond (d != 0) (K d) (let g:(W (S×Ã)):=[]
 let m:=O a.2.1.length
 (E9 a.2.1 m 0 a.1 a.2.1 a.2.2.1 a.2.2.2 g).bind λn=>sumC n (λo=>K o) (λb=>(j3C b.2.2.1 b.1 b.2.1 b.2.2.1 b.2.2.2).bind λc=>cond (c != 0) (K c) ((j5O b.2.2.2 b.1 b.2.1 b.2.2.1 b.2.2.2).bind λf=>K f))))
def joi[LP](a:dM):M (fD×J):=(j4A (a.1,(a.2.1,a.2.2))).bind λb=>K ((a.2.1,b.1),b.2)
def j5m[LP](i:ak)(j d:J)(g:cE):M ((ak×J×J×cE) ⊕ (cE)):=cond (L (d<j)) (cond (inR d i.length) (let a:=N i d.toNat (Y,(0,([]:aZ)))
 (joi (a.1,(a.2.1,a.2.2))).bind λc=>let b:cE:=[(c.1.1,c.1.2)]
 cond (L (U g+U b<=aG)) (let e:cE:=g++b
 let f:=w64 (d+1)
 K (.inl (i,j,f,e))) X) X) (K (.inr g))
def Fa[LP](d:ak)(b a:J)(c:cE):M cE:=LP.lp (unc4 j5m) (d,b,a,c)
theorem XS(d b a c):Fa d b a c=lpK (j5m d b a c) (λh=>Fa h.1 h.2.1 h.2.2.1 h.2.2.2):=bc _ _
def jk0[LP](a:ak):M cE:=
 let c:=O a.length
 (Fa a c 0 ([]:cE)).bind λb=>K b
def jl1[LP](a:cF):M kW:=(jk0 a.1).bind λb=>K ((a.1,(a.2.1,(a.2.2.1,a.2.2.2))),b)
def joj[LP](a:cF):M (kW×Ã):=(jaB (a.1,(a.2.1,(a.2.2.1,a.2.2.2)))).bind λc=>cond (c != 0) (K (((([]:ak),(([]:al),(([]:ao),([]:ar)))),([]:cE)),Z)) ((jl1 (a.1,(a.2.1,(a.2.2.1,a.2.2.2)))).bind λb=>K (((b.1.1,(b.1.2.1,(b.1.2.2.1,b.1.2.2.2))),b.2),À))
def jgc(a b:J):M Bool:=
 let e:Bool:=cond (cond (L (a>=0)) (L (a<=8589934592)) Z) (L (b>=a)) Z
 let d:=w64 (b-a)
 let c:Bool:=cond (cond e (L (b<=8589934592)) Z) (L (d<=34560000)) Z
 K c
def j8q[LP](c:cF)(b d e:J):M (kW×J):=(joj (c.1,(c.2.1,(c.2.2.1,c.2.2.2)))).bind λa=>cond (!a.2) (K (((a.1.1.1,(a.1.1.2.1,(a.1.1.2.2.1,a.1.1.2.2.2))),a.1.2),8)) (let g:=O c.2.1.length
 cond (cond (L (b<0)) À (L (b>=g))) (K (((a.1.1.1,(a.1.1.2.1,(a.1.1.2.2.1,a.1.1.2.2.2))),a.1.2),3)) ((jgc d e).bind λf=>cond (!f) (K (((a.1.1.1,(a.1.1.2.1,(a.1.1.2.2.1,a.1.1.2.2.2))),a.1.2),1)) (K (((a.1.1.1,(a.1.1.2.1,(a.1.1.2.2.1,a.1.1.2.2.2))),a.1.2),0))))
def j9g(a:W J):M (W J):=cond (L (U ([]:W (J))+U a<=aG)) (K (([]:W (J))++a)) X
def jcl(a b c:J):M Bool:=K (cond (L (a<=b)) À (L (a>=c)))
def j19(g a i c:J)(b:W J):M ((J×J×J×J×(W J)) ⊕ (ph ⊕ (W J))):=cond (L (c<i)) (cond (inR c b.length) (let f:=N b c.toNat 0
 (jcl f g a).bind λe=>cond e (K (.inr (.inl (c,b)))) (let d:=w64 (c+1)
 K (.inl (g,a,i,d,b)))) X) (K (.inr (.inr b)))
def Fb[LP](b a c e:J)(d:W J):M (ph ⊕ (W J)):=LP.lp (unc5 j19) (b,a,c,e,d)
theorem XU(b a c e d):Fb b a c e d=lpK (j19 b a c e d) (λh=>Fb h.1 h.2.1 h.2.2.1 h.2.2.2.1 h.2.2.2.2):=bc _ _
def j5n[LP](b:W J)(c a:J):M ph:=
 let e:=O b.length
 (Fb c a e 0 b).bind λd=>sumC d (λf=>K (f.1,f.2)) (λg=>K ((-1),g))
def j1r(l a e d:J)(b:W J):M ((J×J×J×J×(W J)) ⊕ (ph)):=
 let i:=O b.length
 cond (L (d<i)) (cond (inR d b.length) (let c:=N b d.toNat 0
 (jcl c l a).bind λf=>cond (!f) (cond (inR e b.length) (let m:W Int:=È b e.toNat c
 let k:=w64 (e+1)
 let g:=w64 (d+1)
 K (.inl (l,a,k,g,m))) X) (let j:=w64 (d+1)
 K (.inl (l,a,e,j,b)))) X) (K (.inr (e,b)))
def Ji[LP](c a d b:J)(e:W J):M ph:=LP.lp (unc5 j1r) (c,a,d,b,e)
theorem XV(c a d b e):Ji c a d b e=lpK (j1r c a d b e) (λh=>Ji h.1 h.2.1 h.2.2.1 h.2.2.2.1 h.2.2.2.2):=bc _ _
def j3X[LP](e:W J)(d a:J):M ph:=(j5n e d a).bind λc=>cond (c.1==(-1)) (K ((O c.2.length),c.2)) (let g:=w64 (c.1+1)
 (Ji d a c.1 g c.2).bind λb=>cond (L (0<=b.1)&&L (b.1<=(O b.2.length))) (let f:W Int:=Ç b.1.toNat b.2++Ë (U b.2-b.1.toNat) 0
 cond (L (0<=b.1)&&L (b.1<=(O f.length))) (K ((O b.1.toNat),f)) X) X)
def j7c(a:W J):M (W J):=
 AV a
def j1Q(e b c:J)(a:W J):M ((J×J×J×(W J)) ⊕ (ph)):=
 let i:=O (U a-b.toNat)
 cond (L (c<i)) (cond (inR c (U a-b.toNat)) (let j:=N a (b.toNat+c.toNat) 0
 let d:=w64 (c-1)
 cond (inR d (U a-b.toNat)) (let k:=N a (b.toNat+d.toNat) 0
 cond (j != k) (cond (inR c (U a-b.toNat)) (let f:=N a (b.toNat+c.toNat) 0
 cond (inR e a.length) (let n:W Int:=È a e.toNat f
 let g:=w64 (e+1)
 let l:=w64 (c+1)
 K (.inl (g,(O b.toNat),l,n))) X) X) (let m:=w64 (c+1)
 K (.inl (e,(O b.toNat),m,a)))) X) X) (K (.inr (e,a)))
def Fc[LP](c b d:J)(a:W J):M ph:=LP.lp (unc4 j1Q) (c,b,d,a)
theorem XW(b a c d):Fc b a c d=lpK (j1Q b a c d) (λh=>Fc h.1 h.2.1 h.2.2.1 h.2.2.2):=bc _ _
def j1R[LP](b:J)(c:W J):M (ph ⊕ (ph ⊕ (W J))):=
 let f:=O c.length
 cond (L (b<f)) (cond (inR b c.length) (let j:=N c b.toNat 0
 let d:=w64 (b-1)
 cond (inR d c.length) (let g:=N c d.toNat 0
 cond (j==g) (cond (L (0<=b)&&L (b<=(O c.length))) ((Fc b (O b.toNat) 1 c).bind λa=>cond (L (0<=a.1)&&L (a.1<=(O a.2.length))) (let e:W Int:=Ç a.1.toNat a.2++Ë (U a.2-a.1.toNat) 0
 cond (L (0<=a.1)&&L (a.1<=(O e.length))) (K (.inr (.inl ((O a.1.toNat),e)))) X) X) X) (let i:=w64 (b+1)
 K (.inl (i,c)))) X) X) (K (.inr (.inr c)))
def AW[LP](b:J)(a:W J):M (ph ⊕ (W J)):=LP.lp (unc2 j1R) (b,a)
theorem XX(b a):AW b a=lpK (j1R b a) (λh=>AW h.1 h.2):=bc _ _
def j5H[LP](a:W J):M ph:=
 let c:=O a.length
 cond (L (c<2)) (K ((O a.length),a)) ((AW 1 a).bind λb=>sumC b (λe=>K ((O e.1.toNat),e.2)) (λd=>K ((O d.length),d)))
def jia[LP](f:W J)(b a:J):M (W J):=(j9g f).bind λk=>(j3X k b a).bind λd=>let i:W Int:=Ç d.1.toNat d.2
 (j7c i).bind λj=>(j5H j).bind λc=>let e:W Int:=Ç c.1.toNat c.2
 cond (L (U e+U [a]<=aG)) (let g:W Int:=e++[a]
 K g) X
def j2K(a:aX):M aX:=K a
def jbJ(a:fj):M Int:=cond (a.2.2.2.1==2) (let b:=w64 (7*a.2.2.2.2.1)
 K b) (K a.2.2.2.2.1)
def ja6(b e:J)(a:af)(c:J):M Bool:=cond (inR b a.length) (let d:=N a b.toNat (0,0)
 K (L (d.1>c))) X
def j3K(l:J)(a:af)(b f k:J):M ((J×af×J×J×J) ⊕ (J)):=cond (L (f<k)) (let j:=w64 (f+k)
 let g:Int:=Ê .u64 j
 let d:Int:=Í g 2
 let c:=w64 d
 (ja6 c l a b).bind λe=>cond (!e) (let i:=w64 (c+1)
 K (.inl (l,a,b,i,k))) (K (.inl (l,a,b,f,c)))) (K (.inr f))
def Jj[LP](d:J)(a:af)(b e c:J):M Int:=LP.lp (unc5 j3K) (d,a,b,e,c)
theorem XY(d a b e c):Jj d a b e c=lpK (j3K d a b e c) (λh=>Jj h.1 h.2.1 h.2.2.1 h.2.2.2.1 h.2.2.2.2):=bc _ _
def jk1[LP](d c:J)(a:af)(b:J):M Int:=(Jj c a b 0 d).bind λe=>K e
def j7B[LP](a:fD)(b:J):M Int:=
 let c:=O a.2.length
 (jk1 c a.1 a.2 b).bind λd=>K d
def j5c(a:fD)(b:J):M Int:=cond (b==0) (K a.1) (let c:=w64 (b-1)
 cond (inR c a.2.length) (let d:=N a.2 c.toNat (0,0)
 K d.2) X)
def j0S[LP](k c j:J)(a:af)(i:ag):M ((J×J×J×af×ag) ⊕ (ag)):=cond (L (k<c)) ((j7B (j,a) k).bind λb=>let n:=O a.length
 cond (L (b<n)) (cond (inR b a.length) (let f:=N a b.toNat (0,0)
 let d:Int:=if f.1<c then f.1 else c
 (j5c (j,a) b).bind λm=>let e:ag:=[(k,(d,m))]
 cond (L (U i+U e<=aG)) (let l:ag:=i++e
 K (.inl (d,c,j,a,l))) X) X) ((j5c (j,a) b).bind λo=>let g:ag:=[(k,(c,o))]
 cond (L (U i+U g<=aG)) (let p:ag:=i++g
 K (.inl (c,c,j,a,p))) X)) (K (.inr i))
def CE[LP](b c e:J)(a:af)(d:ag):M ag:=LP.lp (unc5 j0S) (b,c,e,a,d)
theorem CF(b c e a d):CE b c e a d=lpK (j0S b c e a d) (λh=>CE h.1 h.2.1 h.2.2.1 h.2.2.2.1 h.2.2.2.2):=bc _ _
def j2k[LP](b:fD)(a c:J):M ag:=(CE a c b.1 b.2 ([]:ag)).bind λd=>K d
def j55(a:J×J):M Int:=
 let b:Int:=if (-1048576)>a.1 then (-1048576) else a.1
 let d:Int:=if 1048576<b then 1048576 else b
 let e:=w64 (d*86400)
 let c:=w64 (e+a.2)
 K c
def j1K(j c k f:J)(e:ag):M ((J×J×J×J×ag) ⊕ ((J×Ã) ⊕ Å)):=cond (L (c<j)) (cond (inR c e.length) (let a:=N e c.toNat (0,(0,0))
 (j55 (k,f)).bind λi=>let b:=w64 (i-a.2.2)
 let d:Int:=if b>a.1 then b else a.1
 cond (L (d<a.2.1)) (K (.inr (.inl (d,À)))) (let g:=w64 (c+1)
 K (.inl (j,g,k,f,e)))) X) (K (.inr (.inr ())))
def Fe[LP](d c e a:J)(b:ag):M ((J×Ã) ⊕ Å):=LP.lp (unc5 j1K) (d,c,e,a,b)
theorem Jk(d c e a b):Fe d c e a b=lpK (j1K d c e a b) (λh=>Fe h.1 h.2.1 h.2.2.1 h.2.2.2.1 h.2.2.2.2):=bc _ _
def j3z[LP](a:fD)(b:J×J):M (J×Ã):=(j2k (a.1,a.2) 0 8589934593).bind λc=>let d:=O c.length
 (Fe d 0 b.1 b.2 c).bind λe=>sumC e (λf=>K (f.1,f.2)) (λg=>K (0,Z))
def j15[LP](b:fD)(a:fj)(c:J):M (J×Ã):=cond (L (c>8589934592)) (K (0,Z)) (cond (a.2.2.2.1 != 0) ((jbJ (a.1,(a.2.1,((a.2.2.1.1,a.2.2.1.2),(a.2.2.2.1,(a.2.2.2.2.1,(a.2.2.2.2.2.1,(a.2.2.2.2.2.2.1,(a.2.2.2.2.2.2.2.1,a.2.2.2.2.2.2.2.2))))))))).bind λg=>let l:=w64 (c*g)
 let i:=w64 (a.2.2.1.1+l)
 (j3z (b.1,b.2) (i,a.2.2.1.2)).bind λe=>K (e.1,e.2)) ((j3z (b.1,b.2) (a.2.2.1.1,a.2.2.1.2)).bind λd=>let k:=w64 (3600*a.2.2.2.2.1)
 let j:=w64 (k*c)
 let f:=w64 (d.1+j)
 K (f,(cond d.2 (L (f<=8589934592)) Z))))
def j43(a:af):M af:=cond (L (U ([]:W (J×J))+U a<=aG)) (K (([]:W (J×J))++a)) X
def jaC(a:J×J):M Bool:=K (L (a.2<=a.1))
def j0F(f c:J)(b:af):M ((J×J×af) ⊕ (fD ⊕ af)):=cond (L (c<f)) (cond (inR c b.length) (let a:=N b c.toNat (0,0)
 (jaC (a.1,a.2)).bind λe=>cond e (K (.inr (.inl (c,b)))) (let d:=w64 (c+1)
 K (.inl (f,d,b)))) X) (K (.inr (.inr b)))
def Ff[LP](c b:J)(a:af):M (fD ⊕ af):=LP.lp (unc3 j0F) (c,b,a)
theorem XZ(c b a):Ff c b a=lpK (j0F c b a) (λh=>Ff h.1 h.2.1 h.2.2):=bc _ _
def j34[LP](a:af):M fD:=
 let c:=O a.length
 (Ff c 0 a).bind λb=>sumC b (λd=>K (d.1,d.2)) (λe=>K ((-1),e))
def j0z(d c:J)(b:af):M ((J×J×af) ⊕ (fD)):=
 let g:=O b.length
 cond (L (c<g)) (cond (inR c b.length) (let a:=N b c.toNat (0,0)
 (jaC (a.1,a.2)).bind λe=>cond (!e) (cond (inR d b.length) (let k:af:=È b d.toNat (a.1,a.2)
 let j:=w64 (d+1)
 let f:=w64 (c+1)
 K (.inl (j,f,k))) X) (let i:=w64 (c+1)
 K (.inl (d,i,b)))) X) (K (.inr (d,b)))
def Jl[LP](c a:J)(b:af):M fD:=LP.lp (unc3 j0z) (c,a,b)
theorem X0(c a b):Jl c a b=lpK (j0z c a b) (λh=>Jl h.1 h.2.1 h.2.2):=bc _ _
def j1S[LP](c:af):M fD:=(j34 c).bind λb=>cond (b.1==(-1)) (K ((O b.2.length),b.2)) (let e:=w64 (b.1+1)
 (Jl b.1 e b.2).bind λa=>cond (L (0<=a.1)&&L (a.1<=(O a.2.length))) (let d:af:=Ç a.1.toNat a.2++Ë (U a.2-a.1.toNat) (0,0)
 cond (L (0<=a.1)&&L (a.1<=(O d.length))) (K ((O a.1.toNat),d)) X) X)
def j8U(a b:J×J):M Int:=
 let c:=w64 (a.1-b.1)
 K c
def j1e(a:af):M af:=
 wM (.pair (.int .i64) (.int .i64)) (λc b=>(j8U c b).getD 0) a
def j4q(m d:J)(b f:af):M ((J×J×af×af) ⊕ (af)):=cond (L (d<m)) (cond (inR d f.length) (let a:=N f d.toNat (0,0)
 let c:=O b.length
 cond (L (c>0)) (let k:=w64 (c-1)
 cond (inR k b.length) (let q:=(N b k.toNat (0,0)).2
 cond (L (a.1<=q)) (let e:=w64 (c-1)
 let l:=w64 (c-1)
 cond (inR l b.length) (let g:=(N b l.toNat (0,0)).2
 let o:Int:=if a.2>g then a.2 else g
 cond (inR e b.length) (let p:af:=È b e.toNat ((N b e.toNat (0,0)).1,o)
 let t:=w64 (d+1)
 K (.inl (m,t,p,f))) X) X) (let i:af:=[(a.1,a.2)]
 cond (L (U b+U i<=aG)) (let s:af:=b++i
 let u:=w64 (d+1)
 K (.inl (m,u,s,f))) X)) X) (let j:af:=[(a.1,a.2)]
 cond (L (U b+U j<=aG)) (let n:af:=b++j
 let r:=w64 (d+1)
 K (.inl (m,r,n,f))) X)) X) (K (.inr b))
def Fg[LP](c a:J)(d b:af):M af:=LP.lp (unc4 j4q) (c,a,d,b)
theorem OE(b c d a):Fg b c d a=lpK (j4q b c d a) (λh=>Fg h.1 h.2.1 h.2.2.1 h.2.2.2):=bc _ _
def j8V[LP](c:af):M af:=(j43 c).bind λf=>(j1S f).bind λa=>let e:af:=Ç a.1.toNat a.2
 (j1e e).bind λb=>let d:=O b.length
 (Fg d 0 ([]:af) b).bind λg=>K g
def j4J(u:af)(c q s:J)(k:af)(r e g a i:J)(t:af)(p:ag):M ((af×J×J×J×af×J×J×J×J×J×af×ag) ⊕ (af×J×J×J×J×J×J×af×ag)):=cond (L (e<r)) (cond (inR e k.length) (let b:=N k e.toNat (0,0)
 let f:=w64 (c+b.1)
 let m:Int:=if f>g then f else g
 let j:=w64 (c+b.2)
 let n:Int:=if j<a then j else a
 let d:af:=[(m,n)]
 cond (L (U t+U d<=aG)) (let l:af:=t++d
 let o:=w64 (e+1)
 K (.inl (u,c,q,s,k,r,o,g,a,i,l,p))) X) X) (K (.inr (u,c,q,s,g,a,i,t,p)))
def Jm[LP](l:af)(e k j:J)(f:af)(d i c a b:J)(m:af)(g:ag):M (af×J×J×J×J×J×J×af×ag):=LP.lp (u8 unc4 j4J) (l,e,k,j,f,d,i,c,a,b,m,g)
theorem X1(l e k j f d i c a b m g):Jm l e k j f d i c a b m g=lpK (j4J l e k j f d i c a b m g) (λh=>Jm h.1 h.2.1 h.2.2.1 h.2.2.2.1 h.2.2.2.2.1 h.2.2.2.2.2.1 h.2.2.2.2.2.2.1 h.2.2.2.2.2.2.2.1 h.2.2.2.2.2.2.2.2.1 h.2.2.2.2.2.2.2.2.2.1 h.2.2.2.2.2.2.2.2.2.2.1 h.2.2.2.2.2.2.2.2.2.2.2):=bc _ _
def j4K[LP](c:af)(g k j l b f:J)(m:af)(i:ag):M ((af×J×J×J×J×J×J×af×ag) ⊕ (af×J×J×af×ag)):=cond (L (g<b)) (let d:=O c.length
 (Jm c g k j c d 0 l b f m i).bind λa=>let e:=w64 (a.2.1+604800)
 K (.inl (a.1,e,a.2.2.1,a.2.2.2.1,a.2.2.2.2.1,a.2.2.2.2.2.1,a.2.2.2.2.2.2.1,a.2.2.2.2.2.2.2.1,a.2.2.2.2.2.2.2.2))) (K (.inr (c,k,j,m,i)))
def Jn[LP](i:af)(d g f c a b:J)(j:af)(e:ag):M (af×J×J×af×ag):=LP.lp (unc9 j4K) (i,d,g,f,c,a,b,j,e)
theorem X2(i d g f c a b j e):Jn i d g f c a b j e=lpK (j4K i d g f c a b j e) (λh=>Jn h.1 h.2.1 h.2.2.1 h.2.2.2.1 h.2.2.2.2.1 h.2.2.2.2.2.1 h.2.2.2.2.2.2.1 h.2.2.2.2.2.2.2.1 h.2.2.2.2.2.2.2.2):=bc _ _
def j4L[LP](o:af)(m d:J)(n:af)(e:ag):M ((af×J×J×af×ag) ⊕ (af)):=cond (L (d<m)) (cond (inR d e.length) (let a:=N e d.toNat (0,(0,0))
 let g:=w64 (a.1+a.2.2)
 let c:=w64 (g-(-259200))
 let l:=Ä c 604800
 let j:=w64 (c-l)
 let k:=w64 (j+(-259200))
 let i:=w64 (k-a.2.2)
 (Jn o i m d a.1 a.2.1 a.2.2 n e).bind λb=>let f:=w64 (b.2.2.1+1)
 K (.inl (b.1,b.2.1,f,b.2.2.2.1,b.2.2.2.2))) X) (K (.inr n))
def Jo[LP](d:af)(c b:J)(e:af)(a:ag):M af:=LP.lp (unc5 j4L) (d,c,b,e,a)
theorem X3(d c b e a):Jo d c b e a=lpK (j4L d c b e a) (λh=>Jo h.1 h.2.1 h.2.2.1 h.2.2.2.1 h.2.2.2.2):=bc _ _
def j2d[LP](b:fD)(e:af)(a c:J):M af:=(j2k (b.1,b.2) a c).bind λd=>let f:=O d.length
 (Jo e f 0 ([]:af) d).bind λi=>(j8V i).bind λg=>K g
def j3G(u t:J)(k:W J)(r d:J)(w:S)(j:J)(g:W J)(i a e:J)(v:af)(s:ag):M ((J×J×(W J)×J×J×S×J×(W J)×J×J×J×af×ag) ⊕ (J×J×S×J×(W J)×af×ag)):=cond (L (d<r)) (cond (inR d k.length) (let o:=N k d.toNat 0
 let p:=w64 (o*86400)
 let b:=w64 (p-e)
 let l:Int:=if b>i then b else i
 let c:=w64 (b+86400)
 let m:Int:=if c<a then c else a
 let f:af:=[(l,m)]
 cond (L (U v+U f<=aG)) (let n:af:=v++f
 let q:=w64 (d+1)
 K (.inl (u,t,k,r,q,w,j,g,i,a,e,n,s))) X) X) (K (.inr (u,t,w,j,g,v,s)))
def Fh[LP](l j:J)(i:W J)(f k:J)(n:S)(c:J)(d:W J)(e a b:J)(m:af)(g:ag):M (J×J×S×J×(W J)×af×ag):=LP.lp (u8 unc5 j3G) (l,j,i,f,k,n,c,d,e,a,b,m,g)
theorem X4(l j i f k n c d e a b m g):Fh l j i f k n c d e a b m g=lpK (j3G l j i f k n c d e a b m g) (λh=>Fh h.1 h.2.1 h.2.2.1 h.2.2.2.1 h.2.2.2.2.1 h.2.2.2.2.2.1 h.2.2.2.2.2.2.1 h.2.2.2.2.2.2.2.1 h.2.2.2.2.2.2.2.2.1 h.2.2.2.2.2.2.2.2.2.1 h.2.2.2.2.2.2.2.2.2.2.1 h.2.2.2.2.2.2.2.2.2.2.2.1 h.2.2.2.2.2.2.2.2.2.2.2.2):=bc _ _
def j3H[LP](i d:J)(l:S)(j:J)(c:W J)(k:af)(e:ag):M ((J×J×S×J×(W J)×af×ag) ⊕ (af)):=cond (L (d<i)) (cond (inR d e.length) (let b:=N e d.toNat (0,(0,0))
 let g:=O c.length
 (Fh i d c g 0 l j c b.1 b.2.1 b.2.2 k e).bind λa=>let f:=w64 (a.2.1+1)
 K (.inl (a.1,f,a.2.2.1,a.2.2.2.1,a.2.2.2.2.1,a.2.2.2.2.2.1,a.2.2.2.2.2.2))) X) (K (.inr k))
def Fi[LP](d c:J)(g:S)(a:J)(b:W J)(f:af)(e:ag):M af:=LP.lp (unc7 j3H) (d,c,g,a,b,f,e)
theorem X5(d c g a b f e):Fi d c g a b f e=lpK (j3H d c g a b f e) (λh=>Fi h.1 h.2.1 h.2.2.1 h.2.2.2.1 h.2.2.2.2.1 h.2.2.2.2.2.1 h.2.2.2.2.2.2):=bc _ _
def j2C[LP](c:kW)(a:tS)(b d:J):M af:=cond (inR a.2.1 c.2.length) (let f:=N c.2 a.2.1.toNat (0,([]:af))
 (j2k (f.1,f.2) b d).bind λe=>let i:=O e.length
 (Fi i 0 a.1 a.2.1 a.2.2 ([]:af) e).bind λj=>(j8V j).bind λg=>K g) X
def j4M(c:af)(b:J)(f:af)(e d i a:J)(l:af):M ((af×J×af×J×J×J×J×af) ⊕ (af×J×af×J×J×J×J×af)):=
 let g:=O c.length
 cond (L (b<g)) (cond (inR b c.length) (let k:=N c b.toNat (0,0)
 cond (L (k.2<=i)) (let j:=w64 (b+1)
 K (.inl (c,j,f,e,d,i,a,l))) (K (.inr (c,b,f,e,d,i,a,l)))) X) (K (.inr (c,b,f,e,d,i,a,l)))
def Jp[LP](f:af)(e:J)(d:af)(c b i a:J)(g:af):M (af×J×af×J×J×J×J×af):=LP.lp (unc8 j4M) (f,e,d,c,b,i,a,g)
theorem X6(f e d c b i a g):Jp f e d c b i a g=lpK (j4M f e d c b i a g) (λh=>Jp h.1 h.2.1 h.2.2.1 h.2.2.2.1 h.2.2.2.2.1 h.2.2.2.2.2.1 h.2.2.2.2.2.2.1 h.2.2.2.2.2.2.2):=bc _ _
def j4N(b:af)(q d a:J)(g:af)(f e r c:J)(l:af):M ((af×J×J×J×af×J×J×J×J×af) ⊕ (af×J×J×af×J×J×J×J×af)):=
 let m:=O b.length
 cond (L (a<m)) (cond (inR a b.length) (let o:=N b a.toNat (0,0)
 cond (L (o.1<c)) (cond (inR a b.length) (let p:=N b a.toNat (0,0)
 cond (L (d<p.1)) (cond (inR a b.length) (let n:=N b a.toNat (0,0)
 let k:af:=[(d,n.1)]
 cond (L (U l+U k<=aG)) (let v:af:=l++k
 cond (inR a b.length) (let j:=N b a.toNat (0,0)
 let w:Int:=if j.2>d then j.2 else d
 let s:=w64 (a+1)
 K (.inl (b,q,w,s,g,f,e,r,c,v))) X) X) X) (cond (inR a b.length) (let i:=N b a.toNat (0,0)
 let t:Int:=if i.2>d then i.2 else d
 let u:=w64 (a+1)
 K (.inl (b,q,t,u,g,f,e,r,c,l))) X)) X) (K (.inr (b,q,d,g,f,e,r,c,l)))) X) (K (.inr (b,q,d,g,f,e,r,c,l)))
def Fj[LP](g:af)(f k d:J)(e:af)(c b j a:J)(i:af):M (af×J×J×af×J×J×J×J×af):=LP.lp (u8 unc2 j4N) (g,f,k,d,e,c,b,j,a,i)
theorem X7(g f k d e c b j a i):Fj g f k d e c b j a i=lpK (j4N g f k d e c b j a i) (λh=>Fj h.1 h.2.1 h.2.2.1 h.2.2.2.1 h.2.2.2.2.1 h.2.2.2.2.2.1 h.2.2.2.2.2.2.1 h.2.2.2.2.2.2.2.1 h.2.2.2.2.2.2.2.2.1 h.2.2.2.2.2.2.2.2.2):=bc _ _
def j4O[LP](n:af)(m:J)(f:af)(k c:J)(l:af):M ((af×J×af×J×J×af) ⊕ (af)):=cond (L (c<k)) (cond (inR c f.length) (let e:=N f c.toNat (0,0)
 (Jp n m f k c e.1 e.2 l).bind λb=>(Fj b.1 b.2.1 b.2.2.2.2.2.1 b.2.1 b.2.2.1 b.2.2.2.1 b.2.2.2.2.1 b.2.2.2.2.2.1 b.2.2.2.2.2.2.1 b.2.2.2.2.2.2.2).bind λa=>cond (L (a.2.2.1<a.2.2.2.2.2.2.2.1)) (let d:af:=[(a.2.2.1,a.2.2.2.2.2.2.2.1)]
 cond (L (U a.2.2.2.2.2.2.2.2+U d<=aG)) (let i:af:=a.2.2.2.2.2.2.2.2++d
 let j:=w64 (a.2.2.2.2.2.1+1)
 K (.inl (a.1,a.2.1,a.2.2.2.1,a.2.2.2.2.1,j,i))) X) (let g:=w64 (a.2.2.2.2.2.1+1)
 K (.inl (a.1,a.2.1,a.2.2.2.1,a.2.2.2.2.1,g,a.2.2.2.2.2.2.2.2)))) X) (K (.inr l))
def CG[LP](e:af)(d:J)(c:af)(b a:J)(f:af):M af:=LP.lp (unc6 j4O) (e,d,c,b,a,f)
theorem X8(e d c b a f):CG e d c b a f=lpK (j4O e d c b a f) (λh=>CG h.1 h.2.1 h.2.2.1 h.2.2.2.1 h.2.2.2.2.1 h.2.2.2.2.2):=bc _ _
def j3A[LP](a b:af):M af:=
 let c:=O a.length
 (CG b 0 a c 0 ([]:af)).bind λd=>K d
def j7d(b c:af)(a d:J)(n:af):M ((af×af×J×J×af) ⊕ (af)):=
 let r:=O b.length
 let v:=O c.length
 cond (cond (L (a<r)) (L (d<v)) Z) (cond (inR a b.length) (let f:=N b a.toNat (0,0)
 cond (inR d c.length) (let j:=N c d.toNat (0,0)
 let i:Int:=if j.1>f.1 then j.1 else f.1
 cond (inR a b.length) (let l:=N b a.toNat (0,0)
 cond (inR d c.length) (let g:=N c d.toNat (0,0)
 let m:Int:=if g.2<l.2 then g.2 else l.2
 cond (L (i<m)) (let k:af:=[(i,m)]
 cond (L (U n+U k<=aG)) (let e:af:=n++k
 cond (inR a b.length) (let t:=N b a.toNat (0,0)
 cond (inR d c.length) (let s:=N c d.toNat (0,0)
 cond (L (t.2<s.2)) (let q:=w64 (a+1)
 K (.inl (b,c,q,d,e))) (let o:=w64 (d+1)
 K (.inl (b,c,a,o,e)))) X) X) X) (cond (inR a b.length) (let u:=N b a.toNat (0,0)
 cond (inR d c.length) (let w:=N c d.toNat (0,0)
 cond (L (u.2<w.2)) (let p:=w64 (a+1)
 K (.inl (b,c,p,d,n))) (let x:=w64 (d+1)
 K (.inl (b,c,a,x,n)))) X) X)) X) X) X) X) (K (.inr n))
def AX[LP](b c:af)(a d:J)(e:af):M af:=LP.lp (unc5 j7d) (b,c,a,d,e)
theorem jm8(b c a d e):AX b c a d e=lpK (j7d b c a d e) (λh=>AX h.1 h.2.1 h.2.2.1 h.2.2.2.1 h.2.2.2.2):=bc _ _
def j6o[LP](a b:af):M af:=(AX a b 0 0 ([]:af)).bind λc=>K c
def j8s[LP](a:kW)(b:fj)(d c:J):M af:=cond (inR b.2.1 a.2.length) (let r:=N a.2 b.2.1.toNat (0,([]:af))
 (j15 (r.1,r.2) (b.1,(b.2.1,((b.2.2.1.1,b.2.2.1.2),(b.2.2.2.1,(b.2.2.2.2.1,(b.2.2.2.2.2.1,(b.2.2.2.2.2.2.1,(b.2.2.2.2.2.2.2.1,b.2.2.2.2.2.2.2.2)))))))) 0).bind λi=>cond (cond (cond (!i.2) À (L (i.1>=c))) À (L (d>=c))) (K ([]:af)) (let e:Int:=if i.1>d then i.1 else d
 let j:af:=[(e,c)]
 let t:=O b.2.2.2.2.2.2.1.length
 cond (L (t>0)) (cond (inR b.2.1 a.2.length) (let s:=N a.2 b.2.1.toNat (0,([]:af))
 (j2d (s.1,s.2) b.2.2.2.2.2.2.1 e c).bind λk=>cond (b.2.2.2.2.2.2.2.2==1) (cond (inR b.2.2.2.2.2.2.2.1 a.1.2.2.1.length) (let m:=N a.1.2.2.1 b.2.2.2.2.2.2.2.1.toNat (Y,(0,([]:(W J))))
 (j2C ((a.1.1,(a.1.2.1,(a.1.2.2.1,a.1.2.2.2))),a.2) (m.1,(m.2.1,m.2.2)) e c).bind λw=>(j3A k w).bind λv=>K v) X) (cond (b.2.2.2.2.2.2.2.2==2) (cond (inR b.2.2.2.2.2.2.2.1 a.1.2.2.1.length) (let l:=N a.1.2.2.1 b.2.2.2.2.2.2.2.1.toNat (Y,(0,([]:(W J))))
 (j2C ((a.1.1,(a.1.2.1,(a.1.2.2.1,a.1.2.2.2))),a.2) (l.1,(l.2.1,l.2.2)) e c).bind λx=>(j6o k x).bind λu=>K u) X) (K k))) X) (cond (b.2.2.2.2.2.2.2.2==1) (cond (inR b.2.2.2.2.2.2.2.1 a.1.2.2.1.length) (let f:=N a.1.2.2.1 b.2.2.2.2.2.2.2.1.toNat (Y,(0,([]:(W J))))
 (j2C ((a.1.1,(a.1.2.1,(a.1.2.2.1,a.1.2.2.2))),a.2) (f.1,(f.2.1,f.2.2)) e c).bind λo=>(j3A j o).bind λn=>K n) X) (cond (b.2.2.2.2.2.2.2.2==2) (cond (inR b.2.2.2.2.2.2.2.1 a.1.2.2.1.length) (let g:=N a.1.2.2.1 b.2.2.2.2.2.2.2.1.toNat (Y,(0,([]:(W J))))
 (j2C ((a.1.1,(a.1.2.1,(a.1.2.2.1,a.1.2.2.2))),a.2) (g.1,(g.2.1,g.2.2)) e c).bind λq=>(j6o j q).bind λp=>K p) X) (K j))))) X
def j8W[LP](a:fD)(b:J):M Int:=(j7B (a.1,a.2) b).bind λc=>(j5c (a.1,a.2) c).bind λd=>K d
def jj5(a:J):M (J×J):=
 let e:=w64 (Æ a 86400)
 let i:=Ä a 86400
 cond (L (i<0)) (let d:=w64 (e-1)
 let f:=w64 (d*86400)
 let g:=w64 (a-f)
 K (d,g)) (let c:=w64 (e*86400)
 let b:=w64 (a-c)
 K (e,b))
def j1n[LP](a:fD)(b:J):M (J×J):=(j8W (a.1,a.2) b).bind λe=>let d:=w64 (b+e)
 (jj5 d).bind λc=>K (c.1,c.2)
def j44[LP](o m p:J)(b:af)(n:S)(g e i k f:J)(a:W J)(d:af)(c j:J):M ((J×J×J×af×S×J×J×J×J×J×(W J)×af×J×J) ⊕ (J×J×J×af×S×J×J×J×J×J×(W J)×af×J×J)):=cond (L (m>0)) ((j15 (p,b) (n,(g,((e,i),(k,(f,(a,(d,(c,j)))))))) m).bind λl=>cond (cond l.2 (L (l.1<=o)) Z) (K (.inr (o,m,p,b,n,g,e,i,k,f,a,d,c,j))) (let q:=w64 (m-1)
 K (.inl (o,q,p,b,n,g,e,i,k,f,a,d,c,j)))) (K (.inr (o,m,p,b,n,g,e,i,k,f,a,d,c,j)))
def Jq[LP](m o n:J)(b:af)(l:S)(g e i k f:J)(a:W J)(d:af)(c j:J):M (J×J×J×af×S×J×J×J×J×J×(W J)×af×J×J):=LP.lp (u8 unc6 j44) (m,o,n,b,l,g,e,i,k,f,a,d,c,j)
theorem X9(m o n b l g e i k f a d c j):Jq m o n b l g e i k f a d c j=lpK (j44 m o n b l g e i k f a d c j) (λh=>Jq h.1 h.2.1 h.2.2.1 h.2.2.2.1 h.2.2.2.2.1 h.2.2.2.2.2.1 h.2.2.2.2.2.2.1 h.2.2.2.2.2.2.2.1 h.2.2.2.2.2.2.2.2.1 h.2.2.2.2.2.2.2.2.2.1 h.2.2.2.2.2.2.2.2.2.2.1 h.2.2.2.2.2.2.2.2.2.2.2.1 h.2.2.2.2.2.2.2.2.2.2.2.2.1 h.2.2.2.2.2.2.2.2.2.2.2.2.2):=bc _ _
def j5Y[LP](q o r:J)(c:af)(p:S)(i f j l g:J)(b:W J)(e:af)(d k:J):M ((J×J×J×af×S×J×J×J×J×J×(W J)×af×J×J) ⊕ (J)):=
 let m:=w64 (o+1)
 (j15 (r,c) (p,(i,((f,j),(l,(g,(b,(e,(d,k)))))))) m).bind λa=>cond (cond (!a.2) À (L (a.1>q))) (K (.inr o)) (let n:=w64 (o+1)
 K (.inl (q,n,r,c,p,i,f,j,l,g,b,e,d,k)))
def Jr[LP](m o n:J)(b:af)(l:S)(g e i k f:J)(a:W J)(d:af)(c j:J):M Int:=LP.lp (u8 unc6 j5Y) (m,o,n,b,l,g,e,i,k,f,a,d,c,j)
theorem jk2(m o n b l g e i k f a d c j):Jr m o n b l g e i k f a d c j=lpK (j5Y m o n b l g e i k f a d c j) (λh=>Jr h.1 h.2.1 h.2.2.1 h.2.2.2.1 h.2.2.2.2.1 h.2.2.2.2.2.1 h.2.2.2.2.2.2.1 h.2.2.2.2.2.2.2.1 h.2.2.2.2.2.2.2.2.1 h.2.2.2.2.2.2.2.2.2.1 h.2.2.2.2.2.2.2.2.2.2.1 h.2.2.2.2.2.2.2.2.2.2.2.1 h.2.2.2.2.2.2.2.2.2.2.2.2.1 h.2.2.2.2.2.2.2.2.2.2.2.2.2):=bc _ _
def j4W[LP](c:fD)(a:fj)(d:J):M Int:=(j15 (c.1,c.2) (a.1,(a.2.1,((a.2.2.1.1,a.2.2.1.2),(a.2.2.2.1,(a.2.2.2.2.1,(a.2.2.2.2.2.1,(a.2.2.2.2.2.2.1,(a.2.2.2.2.2.2.2.1,a.2.2.2.2.2.2.2.2)))))))) 0).bind λe=>cond (cond (!e.2) À (L (e.1>d))) (K (-1)) (cond (a.2.2.2.1==0) (let m:=w64 (d-e.1)
 let i:=w64 (3600*a.2.2.2.2.1)
 cond (!(i==0)) (let n:=w64 (Æ m i)
 K n) X) ((j1n (c.1,c.2) d).bind λl=>let j:=w64 (l.1-a.2.2.1.1)
 (jbJ (a.1,(a.2.1,((a.2.2.1.1,a.2.2.1.2),(a.2.2.2.1,(a.2.2.2.2.1,(a.2.2.2.2.2.1,(a.2.2.2.2.2.2.1,(a.2.2.2.2.2.2.2.1,a.2.2.2.2.2.2.2.2))))))))).bind λg=>cond (!(g==0)) (let f:=w64 (Æ j g)
 let k:Int:=if f>0 then f else 0
 (Jq d k c.1 c.2 a.1 a.2.1 a.2.2.1.1 a.2.2.1.2 a.2.2.2.1 a.2.2.2.2.1 a.2.2.2.2.2.1 a.2.2.2.2.2.2.1 a.2.2.2.2.2.2.2.1 a.2.2.2.2.2.2.2.2).bind λb=>(Jr b.1 b.2.1 b.2.2.1 b.2.2.2.1 b.2.2.2.2.1 b.2.2.2.2.2.1 b.2.2.2.2.2.2.1 b.2.2.2.2.2.2.2.1 b.2.2.2.2.2.2.2.2.1 b.2.2.2.2.2.2.2.2.2.1 b.2.2.2.2.2.2.2.2.2.2.1 b.2.2.2.2.2.2.2.2.2.2.2.1 b.2.2.2.2.2.2.2.2.2.2.2.2.1 b.2.2.2.2.2.2.2.2.2.2.2.2.2).bind λo=>K o) X))
def j5Z(f:ag)(m e:J)(b:ag):M ((ag×J×J×ag) ⊕ (ag)):=cond (L (e<m)) (cond (inR e f.length) (let a:=N f e.toNat (0,(0,0))
 cond (L (a.2.1<=a.1)) (let r:=w64 (e+1)
 K (.inl (f,m,r,b))) (let d:=O b.length
 cond (L (d>0)) (let l:=w64 (d-1)
 cond (inR l b.length) (let q:=(N b l.toNat (0,(0,0))).2.1
 cond (q==a.1) (let i:=w64 (d-1)
 cond (inR i b.length) (let t:=(N b i.toNat (0,(0,0))).2.2
 cond (t==a.2.2) (let c:=w64 (d-1)
 cond (inR c b.length) (let x:ag:=È b c.toNat ((N b c.toNat (0,(0,0))).1,(a.2.1,(N b c.toNat (0,(0,0))).2.2))
 let s:=w64 (e+1)
 K (.inl (f,m,s,x))) X) (let j:ag:=[(a.1,(a.2.1,a.2.2))]
 cond (L (U b+U j<=aG)) (let w:ag:=b++j
 let u:=w64 (e+1)
 K (.inl (f,m,u,w))) X)) X) (let k:ag:=[(a.1,(a.2.1,a.2.2))]
 cond (L (U b+U k<=aG)) (let p:ag:=b++k
 let o:=w64 (e+1)
 K (.inl (f,m,o,p))) X)) X) (let g:ag:=[(a.1,(a.2.1,a.2.2))]
 cond (L (U b+U g<=aG)) (let v:ag:=b++g
 let n:=w64 (e+1)
 K (.inl (f,m,n,v))) X))) X) (K (.inr b))
def CH[LP](d:ag)(c a:J)(b:ag):M ag:=LP.lp (unc4 j5Z) (d,c,a,b)
theorem Ya(a d b c):CH a d b c=lpK (j5Z a d b c) (λh=>CH h.1 h.2.1 h.2.2.1 h.2.2.2):=bc _ _
def jbK[LP](a:ag):M ag:=
 let c:=O a.length
 (CH a c 0 ([]:ag)).bind λb=>K b
def j3D[LP](b7 o a8 q a1 a3:J)(a7:S)(k j m i g:J)(a:W J)(e:af)(l f p:J)(c:af)(b0 b:J)(z:ag)(a5:af):M ((J×J×J×J×J×J×S×J×J×J×J×J×(W J)×af×J×J×J×af×J×J×ag×af) ⊕ (J×J×J×J×J×J×S×J×J×J×J×J×(W J)×af×J×J×J×af×ag×af)):=cond (L (o<b)) (cond (L (o>=q)) ((j4W (p,c) (a7,(k,((j,m),(i,(g,(a,(e,(l,f)))))))) o).bind λd=>let b5:=w64 (d+1)
 (j15 (p,c) (a7,(k,((j,m),(i,(g,(a,(e,(l,f)))))))) b5).bind λn=>cond (!n.2) (let a2:Int:=if 8589934593<b then 8589934593 else b
 let a0:=O a.length
 cond (!(a0==0)) (let a6:=Ä d a0
 cond (inR a6 a.length) (let b4:=N a a6.toNat 0
 let a4:ag:=[(o,(a2,b4))]
 cond (L (U z+U a4<=aG)) (let b6:ag:=z++a4
 K (.inl (b7,a2,d,8589934593,a1,a3,a7,k,j,m,i,g,a,e,l,f,p,c,b0,b,b6,a5))) X) X) X) (let x:Int:=if n.1<b then n.1 else b
 let w:=O a.length
 cond (!(w==0)) (let u:=Ä d w
 cond (inR u a.length) (let b1:=N a u.toNat 0
 let t:ag:=[(o,(x,b1))]
 cond (L (U z+U t<=aG)) (let b2:ag:=z++t
 K (.inl (b7,x,d,n.1,a1,a3,a7,k,j,m,i,g,a,e,l,f,p,c,b0,b,b2,a5))) X) X) X)) (let y:Int:=if q<b then q else b
 let r:=O a.length
 cond (!(r==0)) (let s:=Ä a8 r
 cond (inR s a.length) (let a9:=N a s.toNat 0
 let v:ag:=[(o,(y,a9))]
 cond (L (U z+U v<=aG)) (let b3:ag:=z++v
 K (.inl (b7,y,a8,q,a1,a3,a7,k,j,m,i,g,a,e,l,f,p,c,b0,b,b3,a5))) X) X) X)) (K (.inr (b7,o,a8,q,a1,a3,a7,k,j,m,i,g,a,e,l,f,p,c,z,a5)))
def Fk[LP](w p o n m q:J)(v:S)(j g l f e:J)(i:W J)(c:af)(k d s:J)(a:af)(r b:J)(u:ag)(t:af):M (J×J×J×J×J×J×S×J×J×J×J×J×(W J)×af×J×J×J×af×ag×af):=LP.lp (u8 (u8 unc6) j3D) (w,p,o,n,m,q,v,j,g,l,f,e,i,c,k,d,s,a,r,b,u,t)
theorem jge(w p o n m q v j g l f e i c k d s a r b u t):Fk w p o n m q v j g l f e i c k d s a r b u t=lpK (j3D w p o n m q v j g l f e i c k d s a r b u t) (λh=>Fk h.1 h.2.1 h.2.2.1 h.2.2.2.1 h.2.2.2.2.1 h.2.2.2.2.2.1 h.2.2.2.2.2.2.1 h.2.2.2.2.2.2.2.1 h.2.2.2.2.2.2.2.2.1 h.2.2.2.2.2.2.2.2.2.1 h.2.2.2.2.2.2.2.2.2.2.1 h.2.2.2.2.2.2.2.2.2.2.2.1 h.2.2.2.2.2.2.2.2.2.2.2.2.1 h.2.2.2.2.2.2.2.2.2.2.2.2.2.1 h.2.2.2.2.2.2.2.2.2.2.2.2.2.2.1 h.2.2.2.2.2.2.2.2.2.2.2.2.2.2.2.1 h.2.2.2.2.2.2.2.2.2.2.2.2.2.2.2.2.1 h.2.2.2.2.2.2.2.2.2.2.2.2.2.2.2.2.2.1 h.2.2.2.2.2.2.2.2.2.2.2.2.2.2.2.2.2.2.1 h.2.2.2.2.2.2.2.2.2.2.2.2.2.2.2.2.2.2.2.1 h.2.2.2.2.2.2.2.2.2.2.2.2.2.2.2.2.2.2.2.2.1 h.2.2.2.2.2.2.2.2.2.2.2.2.2.2.2.2.2.2.2.2.2):=bc _ _
def j2p[LP](y k w v j c:J)(z:S)(s q u p o:J)(r:W J)(m:af)(t n x:J)(f:af)(l:ag)(e:af):M ((J×J×J×J×J×J×S×J×J×J×J×J×(W J)×af×J×J×J×af×ag×af) ⊕ (J×J×ag)):=cond (L (c<j)) (cond (inR c e.length) (let b:=N e c.toNat (0,0)
 let d:ag:=[(k,(b.1,(-1)))]
 cond (L (U l+U d<=aG)) (let i:ag:=l++d
 (Fk y b.1 w v j c z s q u p o r m t n x f b.1 b.2 i e).bind λa=>let g:=w64 (a.2.2.2.2.2.1+1)
 K (.inl (a.1,a.2.1,a.2.2.1,a.2.2.2.1,a.2.2.2.2.1,g,a.2.2.2.2.2.2.1,a.2.2.2.2.2.2.2.1,a.2.2.2.2.2.2.2.2.1,a.2.2.2.2.2.2.2.2.2.1,a.2.2.2.2.2.2.2.2.2.2.1,a.2.2.2.2.2.2.2.2.2.2.2.1,a.2.2.2.2.2.2.2.2.2.2.2.2.1,a.2.2.2.2.2.2.2.2.2.2.2.2.2.1,a.2.2.2.2.2.2.2.2.2.2.2.2.2.2.1,a.2.2.2.2.2.2.2.2.2.2.2.2.2.2.2.1,a.2.2.2.2.2.2.2.2.2.2.2.2.2.2.2.2.1,a.2.2.2.2.2.2.2.2.2.2.2.2.2.2.2.2.2.1,a.2.2.2.2.2.2.2.2.2.2.2.2.2.2.2.2.2.2.1,a.2.2.2.2.2.2.2.2.2.2.2.2.2.2.2.2.2.2.2))) X) X) (K (.inr (y,k,l)))
def Fl[LP](u o n m l p:J)(t:S)(i f k e d:J)(g:W J)(b:af)(j c q:J)(a:af)(s:ag)(r:af):M (J×J×ag):=LP.lp (u8 (u8 unc4) j2p) (u,o,n,m,l,p,t,i,f,k,e,d,g,b,j,c,q,a,s,r)
theorem Yb(u o n m l p t i f k e d g b j c q a s r):Fl u o n m l p t i f k e d g b j c q a s r=lpK (j2p u o n m l p t i f k e d g b j c q a s r) (λh=>Fl h.1 h.2.1 h.2.2.1 h.2.2.2.1 h.2.2.2.2.1 h.2.2.2.2.2.1 h.2.2.2.2.2.2.1 h.2.2.2.2.2.2.2.1 h.2.2.2.2.2.2.2.2.1 h.2.2.2.2.2.2.2.2.2.1 h.2.2.2.2.2.2.2.2.2.2.1 h.2.2.2.2.2.2.2.2.2.2.2.1 h.2.2.2.2.2.2.2.2.2.2.2.2.1 h.2.2.2.2.2.2.2.2.2.2.2.2.2.1 h.2.2.2.2.2.2.2.2.2.2.2.2.2.2.1 h.2.2.2.2.2.2.2.2.2.2.2.2.2.2.2.1 h.2.2.2.2.2.2.2.2.2.2.2.2.2.2.2.2.1 h.2.2.2.2.2.2.2.2.2.2.2.2.2.2.2.2.2.1 h.2.2.2.2.2.2.2.2.2.2.2.2.2.2.2.2.2.2.1 h.2.2.2.2.2.2.2.2.2.2.2.2.2.2.2.2.2.2.2):=bc _ _
def j2u[LP](b:kW)(a:fj)(c d:J):M ag:=cond (inR a.2.1 b.2.length) (let i:=N b.2 a.2.1.toNat (0,([]:af))
 (j8s ((b.1.1,(b.1.2.1,(b.1.2.2.1,b.1.2.2.2))),b.2) (a.1,(a.2.1,((a.2.2.1.1,a.2.2.1.2),(a.2.2.2.1,(a.2.2.2.2.1,(a.2.2.2.2.2.1,(a.2.2.2.2.2.2.1,(a.2.2.2.2.2.2.2.1,a.2.2.2.2.2.2.2.2)))))))) c d).bind λg=>let j:=O g.length
 (Fl d c (-1) (-1) j 0 a.1 a.2.1 a.2.2.1.1 a.2.2.1.2 a.2.2.2.1 a.2.2.2.2.1 a.2.2.2.2.2.1 a.2.2.2.2.2.2.1 a.2.2.2.2.2.2.2.1 a.2.2.2.2.2.2.2.2 i.1 i.2 ([]:ag) g).bind λe=>let f:ag:=[(e.2.1,(e.1,(-1)))]
 cond (L (U e.2.2+U f<=aG)) (let l:ag:=e.2.2++f
 (jbK l).bind λk=>K k) X) X
def j4P(k:J)(i:ae)(d b:J)(f:af):M ((J×ae×J×J×af) ⊕ (af)):=cond (L (b<d)) (cond (inR b i.length) (let a:=N i b.toNat (0,(0,(0,(0,0))))
 cond (cond (a.1==0) (a.2.1==k) Z) (let c:af:=[(a.2.2.2.1,a.2.2.2.2)]
 cond (L (U f+U c<=aG)) (let e:af:=f++c
 let g:=w64 (b+1)
 K (.inl (k,i,d,g,e))) X) (let j:=w64 (b+1)
 K (.inl (k,i,d,j,f)))) X) (K (.inr f))
def Fm[LP](c:J)(e:ae)(a b:J)(d:af):M af:=LP.lp (unc5 j4P) (c,e,a,b,d)
theorem Yc(c e a b d):Fm c e a b d=lpK (j4P c e a b d) (λh=>Fm h.1 h.2.1 h.2.2.1 h.2.2.2.1 h.2.2.2.2):=bc _ _
def j8u[LP](b:mN)(a:J):M af:=
 let d:=O b.2.2.length
 (Fm a b.2.2 d 0 ([]:af)).bind λe=>(j8V e).bind λc=>K c
def j47(m:ag)(n l k a:J)(q:S)(g:aX)(f:ae)(s o e:J)(r:cE)(p:ag)(d:af):M ((ag×J×J×J×J×S×aX×ae×J×J×J×cE×ag×af) ⊕ (ag×J×J×S×aX×ae×cE×ag)):=cond (L (a<k)) (cond (inR a d.length) (let b:=N d a.toNat (0,0)
 let c:ag:=[(b.1,(b.2,e))]
 cond (L (U p+U c<=aG)) (let j:ag:=p++c
 let i:=w64 (a+1)
 K (.inl (m,n,l,k,i,q,g,f,s,o,e,r,j,d))) X) X) (K (.inr (m,n,l,q,g,f,r,p)))
def AY[LP](j:ag)(k i g f:J)(l:S)(d:aX)(c:ae)(o a b:J)(m:cE)(n:ag)(e:af):M (ag×J×J×S×aX×ae×cE×ag):=LP.lp (u8 unc6 j47) (j,k,i,g,f,l,d,c,o,a,b,m,n,e)
theorem Yd(j k i g f l d c o a b m n e):AY j k i g f l d c o a b m n e=lpK (j47 j k i g f l d c o a b m n e) (λh=>AY h.1 h.2.1 h.2.2.1 h.2.2.2.1 h.2.2.2.2.1 h.2.2.2.2.2.1 h.2.2.2.2.2.2.1 h.2.2.2.2.2.2.2.1 h.2.2.2.2.2.2.2.2.1 h.2.2.2.2.2.2.2.2.2.1 h.2.2.2.2.2.2.2.2.2.2.1 h.2.2.2.2.2.2.2.2.2.2.2.1 h.2.2.2.2.2.2.2.2.2.2.2.2.1 h.2.2.2.2.2.2.2.2.2.2.2.2.2):=bc _ _
def j48[LP](g:ag)(k d:J)(n:S)(f:aX)(e:ae)(l:cE)(r:ag):M ((ag×J×J×S×aX×ae×cE×ag) ⊕ (ag)):=cond (L (d<k)) (cond (inR d g.length) (let a:=N g d.toNat (0,(0,0))
 cond (L (a.2.2<0)) (let p:=w64 (d+1)
 K (.inl (g,k,p,n,f,e,l,r))) (let z:af:=iN ([]:af) l a.2.2
 cond (!(jH l a.2.2)) ((j8u (n,(f,e)) a.2.2).bind λq=>let m:cE:=jW l a.2.2 q
 let v:af:=[(a.1,a.2.1)]
 let u:af:=iN ([]:af) m a.2.2
 (j3A v u).bind λi=>let s:=O i.length
 (AY g k d s 0 n f e a.1 a.2.1 a.2.2 m r i).bind λb=>let o:=w64 (b.2.2.1+1)
 K (.inl (b.1,b.2.1,o,b.2.2.2.1,b.2.2.2.2.1,b.2.2.2.2.2.1,b.2.2.2.2.2.2.1,b.2.2.2.2.2.2.2))) (let x:af:=[(a.1,a.2.1)]
 let w:af:=iN ([]:af) l a.2.2
 (j3A x w).bind λj=>let t:=O j.length
 (AY g k d t 0 n f e a.1 a.2.1 a.2.2 l r j).bind λc=>let y:=w64 (c.2.2.1+1)
 K (.inl (c.1,c.2.1,y,c.2.2.2.1,c.2.2.2.2.1,c.2.2.2.2.2.1,c.2.2.2.2.2.2.1,c.2.2.2.2.2.2.2))))) X) (K (.inr r))
def CI[LP](d:ag)(e c:J)(f:S)(b:aX)(a:ae)(g:cE)(i:ag):M ag:=LP.lp (unc8 j48) (d,e,c,f,b,a,g,i)
theorem Ye(d e c f b a g i):CI d e c f b a g i=lpK (j48 d e c f b a g i) (λh=>CI h.1 h.2.1 h.2.2.1 h.2.2.2.1 h.2.2.2.2.1 h.2.2.2.2.2.1 h.2.2.2.2.2.2.1 h.2.2.2.2.2.2.2):=bc _ _
def jaI[LP](a:mN)(b:ag):M ag:=
 let c:cE:=[]
 let d:=O b.length
 (CI b d 0 a.1 a.2.1 a.2.2 c ([]:ag)).bind λe=>K e
def j6y(b:ag)(c:af)(a d:J)(n:ag):M ((ag×af×J×J×ag) ⊕ (ag)):=
 let r:=O b.length
 let u:=O c.length
 cond (cond (L (a<r)) (L (d<u)) Z) (cond (inR a b.length) (let e:=N b a.toNat (0,(0,0))
 cond (inR d c.length) (let j:=N c d.toNat (0,0)
 let g:Int:=if j.1>e.1 then j.1 else e.1
 cond (inR a b.length) (let k:=N b a.toNat (0,(0,0))
 cond (inR d c.length) (let f:=N c d.toNat (0,0)
 let l:Int:=if f.2<k.2.1 then f.2 else k.2.1
 cond (inR a b.length) (let p:=N b a.toNat (0,(0,0))
 cond (L (g<l)) (let m:ag:=[(g,(l,p.2.2))]
 cond (L (U n+U m<=aG)) (let i:ag:=n++m
 cond (inR a b.length) (let s:=N b a.toNat (0,(0,0))
 cond (inR d c.length) (let q:=N c d.toNat (0,0)
 cond (L (s.2.1<q.2)) (let y:=w64 (a+1)
 K (.inl (b,c,y,d,i))) (let x:=w64 (d+1)
 K (.inl (b,c,a,x,i)))) X) X) X) (cond (inR a b.length) (let v:=N b a.toNat (0,(0,0))
 cond (inR d c.length) (let o:=N c d.toNat (0,0)
 cond (L (v.2.1<o.2)) (let w:=w64 (a+1)
 K (.inl (b,c,w,d,n))) (let t:=w64 (d+1)
 K (.inl (b,c,a,t,n)))) X) X)) X) X) X) X) X) (K (.inr n))
def AZ[LP](b:ag)(c:af)(a d:J)(e:ag):M ag:=LP.lp (unc5 j6y) (b,c,a,d,e)
theorem jl2(b c a d e):AZ b c a d e=lpK (j6y b c a d e) (λh=>AZ h.1 h.2.1 h.2.2.1 h.2.2.2.1 h.2.2.2.2):=bc _ _
def jf9[LP](b:ag)(a:af):M ag:=(AZ b a 0 0 ([]:ag)).bind λc=>K c
def j5q(f:ag)(i e:J)(g:af):M ((ag×J×J×af) ⊕ (af)):=cond (L (e<i)) (cond (inR e f.length) (let b:=N f e.toNat (0,(0,0))
 let a:af:=[(b.1,b.2.1)]
 cond (L (U g+U a<=aG)) (let c:af:=g++a
 let d:=w64 (e+1)
 K (.inl (f,i,d,c))) X) X) (K (.inr g))
def Fo[LP](a:ag)(d c:J)(b:af):M af:=LP.lp (unc4 j5q) (a,d,c,b)
theorem Yf(a b d c):Fo a b d c=lpK (j5q a b d c) (λh=>Fo h.1 h.2.1 h.2.2.1 h.2.2.2):=bc _ _
def je5[LP](a:ag):M af:=
 let c:=O a.length
 (Fo a c 0 ([]:af)).bind λd=>(j8V d).bind λb=>K b
def j3L(a b:uW):M Int:=
 let c:=w64 (a.1-b.1)
 K c
def j0E(a:ag):M ag:=
 wM (.pair (.int .i64) (.pair (.int .i64) (.int .i64))) (λc b=>(j3L c b).getD 0) a
def j2S[LP](p:J)(j:aX)(u:ak)(k:al)(e:ao)(f:ar)(l:cE)(w:S)(i:aX)(g:ae)(t v:J)(d:af)(b:ag):M ((J×aX×ak×al×ao×ar×cE×S×aX×ae×J×J×af×ag) ⊕ (af×ag)):=cond (L (p<=0)) (K (.inr (d,b))) (cond (L (p<=O j.length)) (let m:Int:=p-1
 let a:=N j m.toNat (Y,(0,((0,0),(0,(0,(([]:(W J)),(([]:af),(0,0))))))))
 (j2u ((u,(k,(e,f))),l) (a.1,(a.2.1,((a.2.2.1.1,a.2.2.1.2),(a.2.2.2.1,(a.2.2.2.2.1,(a.2.2.2.2.2.1,(a.2.2.2.2.2.2.1,(a.2.2.2.2.2.2.2.1,a.2.2.2.2.2.2.2.2)))))))) t v).bind λq=>(jaI (w,(i,g)) q).bind λn=>(jf9 n d).bind λc=>cond (L (U b+U c<=aG)) (let r:ag:=b++c
 (je5 c).bind λo=>(j3A d o).bind λs=>K (.inl ((p-1),j,u,k,e,f,l,w,i,g,t,v,s,r))) X) X)
def Fp[LP](n:J)(j:aX)(k:ak)(d:al)(e:ao)(f:ar)(g:cE)(m:S)(c:aX)(i:ae)(o l:J)(b:af)(a:ag):M (af×ag):=LP.lp (u8 unc6 j2S) (n,j,k,d,e,f,g,m,c,i,o,l,b,a)
theorem Yg(n j k d e f g m c i o l b a):Fp n j k d e f g m c i o l b a=lpK (j2S n j k d e f g m c i o l b a) (λh=>Fp h.1 h.2.1 h.2.2.1 h.2.2.2.1 h.2.2.2.2.1 h.2.2.2.2.2.1 h.2.2.2.2.2.2.1 h.2.2.2.2.2.2.2.1 h.2.2.2.2.2.2.2.2.1 h.2.2.2.2.2.2.2.2.2.1 h.2.2.2.2.2.2.2.2.2.2.1 h.2.2.2.2.2.2.2.2.2.2.2.1 h.2.2.2.2.2.2.2.2.2.2.2.2.1 h.2.2.2.2.2.2.2.2.2.2.2.2.2):=bc _ _
def j2T(i d:J)(e:af)(a:ag):M ((J×J×af×ag) ⊕ (ag)):=cond (L (d<i)) (cond (inR d e.length) (let c:=N e d.toNat (0,0)
 let b:ag:=[(c.1,(c.2,(-1)))]
 cond (L (U a+U b<=aG)) (let g:ag:=a++b
 let f:=w64 (d+1)
 K (.inl (i,f,e,g))) X) X) (K (.inr a))
def Fq[LP](c d:J)(b:af)(a:ag):M ag:=LP.lp (unc4 j2T) (c,d,b,a)
theorem Yh(b d c a):Fq b d c a=lpK (j2T b d c a) (λh=>Fq h.1 h.2.1 h.2.2.1 h.2.2.2):=bc _ _
def j5S[LP](b:kW)(c:mN)(a d:J):M ag:=cond (L (a>=d)) (K ([]:ag)) (let g:af:=[(a,d)]
 (j2K c.2.1).bind λe=>(Fp (O e.length) e b.1.1 b.1.2.1 b.1.2.2.1 b.1.2.2.2 b.2 c.1 c.2.1 c.2.2 a d g ([]:ag)).bind λf=>let i:=O f.1.length
 (Fq i 0 f.1 f.2).bind λl=>(j0E l).bind λj=>(jbK j).bind λk=>K k)
def jdz(a:J):M Bool:=K (a != a)
def jfa(a b:J):M Bool:=(jdz a).bind λd=>cond d ((jdz b).bind λc=>K (cond (!c) À (L (a<b)))) (K (L (a<b)))
def j9V(a:J):M Bool:=K (a != a)
def j1T(b:W J)(c l f m:J):M (((W J)×J×J×J×J) ⊕ ((W J)×J×J×J)):=cond (L (f<m)) (let g:=w64 (f+m)
 let k:Int:=Ê .u64 g
 let e:Int:=Í k 2
 let a:=w64 e
 cond (inR a b.length) (let i:=N b a.toNat 0
 (jfa i c).bind λj=>cond j (let d:=w64 (a+1)
 K (.inl (b,c,l,d,m))) (K (.inl (b,c,l,f,a)))) X) (K (.inr (b,c,l,f)))
def Js[LP](b:W J)(c a d e:J):M ((W J)×J×J×J):=LP.lp (unc5 j1T) (b,c,a,d,e)
theorem jaJ(b c a d e):Js b c a d e=lpK (j1T b c a d e) (λh=>Js h.1 h.2.1 h.2.2.1 h.2.2.2.1 h.2.2.2.2):=bc _ _
def j3e[LP](d:W J)(b:J):M (J×Ã):=
 let e:=O d.length
 (Js d b e 0 e).bind λa=>cond ((inR a.2.2.2 a.1.length) || !(L (a.2.2.2<a.2.2.1))) (let c:=N a.1 a.2.2.2.toNat 0
 cond ((inR a.2.2.2 a.1.length) || !((L (a.2.2.2<a.2.2.1))&&(!(c==a.2.1)))) (let f:=N a.1 a.2.2.2.toNat 0
 cond (L (a.2.2.2<a.2.2.1)) (cond (c==a.2.1) (K (a.2.2.2,À)) ((j9V f).bind λg=>cond g ((j9V a.2.1).bind λi=>K (a.2.2.2,i)) (K (a.2.2.2,Z)))) (cond ((c==a.2.1) || !Z) (K (a.2.2.2,Z)) X)) X) X
def jk3(a:nO)(b:J):M Bool:=K (cond (L (a.2.2.2.1<=b)) (L (b<a.2.2.2.2)) Z)
def j6P(f e:J)(d:ae)(c b:J):M ((J×J×ae×J×J) ⊕ (J)):=cond (L (b<c)) (cond (inR b d.length) (let a:=N d b.toNat (0,(0,(0,(0,0))))
 (jk3 (a.1,(a.2.1,(a.2.2.1,(a.2.2.2.1,a.2.2.2.2)))) e).bind λl=>cond (cond (!l) À (a.1==0)) (let j:=w64 (b+1)
 K (.inl (f,e,d,c,j))) (cond (a.1==1) (let k:=w64 (b+1)
 K (.inl (a.2.1,e,d,c,k))) (cond (a.1 != 2) (let n:=w64 (b+1)
 K (.inl (f,e,d,c,n))) (cond (f==a.2.1) (let m:=w64 (b+1)
 K (.inl (a.2.2.1,e,d,c,m))) (cond (f==a.2.2.1) (let i:=w64 (b+1)
 K (.inl (a.2.1,e,d,c,i))) (let g:=w64 (b+1)
 K (.inl (f,e,d,c,g)))))))) X) (K (.inr f))
def Fs[LP](c d:J)(e:ae)(a b:J):M Int:=LP.lp (unc5 j6P) (c,d,e,a,b)
theorem Yi(c d e a b):Fs c d e a b=lpK (j6P c d e a b) (λh=>Fs h.1 h.2.1 h.2.2.1 h.2.2.2.1 h.2.2.2.2):=bc _ _
def jl3[LP](b:ae)(a c:J):M Int:=
 let d:=O b.length
 (Fs a c b d 0).bind λe=>K e
def j3f(q s:J)(k:ae)(n b:J)(p:ak)(e:al)(g:ao)(i:ar)(j:cE)(r:S)(d:aX)(f:ae)(o:W J):M ((J×J×ae×J×J×ak×al×ao×ar×cE×S×aX×ae×(W J)) ⊕ (J×J×ak×al×ao×ar×cE×S×aX×ae×(W J))):=cond (L (b<n)) (cond (inR b k.length) (let a:=N k b.toNat (0,(0,(0,(0,0))))
 let c:W Int:=[a.2.2.2.1,a.2.2.2.2]
 cond (L (U o+U c<=aG)) (let l:W Int:=o++c
 let m:=w64 (b+1)
 K (.inl (q,s,k,n,m,p,e,g,i,j,r,d,f,l))) X) X) (K (.inr (q,s,p,e,g,i,j,r,d,f,o)))
def Ft[LP](l o:J)(j:ae)(i g:J)(k:ak)(b:al)(d:ao)(e:ar)(f:cE)(n:S)(a:aX)(c:ae)(m:W J):M (J×J×ak×al×ao×ar×cE×S×aX×ae×(W J)):=LP.lp (u8 unc6 j3f) (l,o,j,i,g,k,b,d,e,f,n,a,c,m)
theorem Yj(l o j i g k b d e f n a c m):Ft l o j i g k b d e f n a c m=lpK (j3f l o j i g k b d e f n a c m) (λh=>Ft h.1 h.2.1 h.2.2.1 h.2.2.2.1 h.2.2.2.2.1 h.2.2.2.2.2.1 h.2.2.2.2.2.2.1 h.2.2.2.2.2.2.2.1 h.2.2.2.2.2.2.2.2.1 h.2.2.2.2.2.2.2.2.2.1 h.2.2.2.2.2.2.2.2.2.2.1 h.2.2.2.2.2.2.2.2.2.2.2.1 h.2.2.2.2.2.2.2.2.2.2.2.2.1 h.2.2.2.2.2.2.2.2.2.2.2.2.2):=bc _ _
def j3g[LP](k i q r:J)(t:S)(j:aX)(b:ae)(s a e:J)(f:W J)(l p:ag):M ((J×J×J×J×S×aX×ae×J×J×J×(W J)×ag×ag) ⊕ (J×J×S×aX×ae×(W J)×ag×ag)):=cond (L (i<a)) (cond (inR k f.length) (let g:=N f k.toNat 0
 let d:Int:=if g<a then g else a
 (jl3 b e i).bind λo=>let c:ag:=[(i,(d,o))]
 cond (L (U l+U c<=aG)) (let n:ag:=l++c
 let m:=w64 (k+1)
 K (.inl (m,d,q,r,t,j,b,s,a,e,f,n,p))) X) X) (K (.inr (q,r,t,j,b,f,l,p)))
def Jt[LP](i e j g:J)(n:S)(c:aX)(d:ae)(k a b:J)(m:W J)(l f:ag):M (J×J×S×aX×ae×(W J)×ag×ag):=LP.lp (u8 unc5 j3g) (i,e,j,g,n,c,d,k,a,b,m,l,f)
theorem Yk(i e j g n c d k a b m l f):Jt i e j g n c d k a b m l f=lpK (j3g i e j g n c d k a b m l f) (λh=>Jt h.1 h.2.1 h.2.2.1 h.2.2.2.1 h.2.2.2.2.1 h.2.2.2.2.2.1 h.2.2.2.2.2.2.1 h.2.2.2.2.2.2.2.1 h.2.2.2.2.2.2.2.2.1 h.2.2.2.2.2.2.2.2.2.1 h.2.2.2.2.2.2.2.2.2.2.1 h.2.2.2.2.2.2.2.2.2.2.2.1 h.2.2.2.2.2.2.2.2.2.2.2.2):=bc _ _
def j3h[LP](i c:J)(n:S)(l:aX)(m:ae)(k:W J)(j d:ag):M ((J×J×S×aX×ae×(W J)×ag×ag) ⊕ (ag)):=cond (L (c<i)) (cond (inR c d.length) (let b:=N d c.toNat (0,(0,0))
 let f:=w64 (b.1+1)
 (j3e k f).bind λg=>(Jt g.1 b.1 i c n l m b.1 b.2.1 b.2.2 k j d).bind λa=>let e:=w64 (a.2.1+1)
 K (.inl (a.1,e,a.2.2.1,a.2.2.2.1,a.2.2.2.2.1,a.2.2.2.2.2.1,a.2.2.2.2.2.2.1,a.2.2.2.2.2.2.2))) X) (K (.inr j))
def Fu[LP](e d:J)(i:S)(a:aX)(b:ae)(g:W J)(f c:ag):M ag:=LP.lp (unc8 j3h) (e,d,i,a,b,g,f,c)
theorem Yl(e d i a b g f c):Fu e d i a b g f c=lpK (j3h e d i a b g f c) (λh=>Fu h.1 h.2.1 h.2.2.1 h.2.2.2.1 h.2.2.2.2.1 h.2.2.2.2.2.1 h.2.2.2.2.2.2.1 h.2.2.2.2.2.2.2):=bc _ _
def j0G[LP](b:kW)(c:mN)(d e:J):M ag:=
 let g:=O c.2.2.length
 (Ft d e c.2.2 g 0 b.1.1 b.1.2.1 b.1.2.2.1 b.1.2.2.2 b.2 c.1 c.2.1 c.2.2 ([]:(W J))).bind λa=>(jia a.2.2.2.2.2.2.2.2.2.2 a.1 a.2.1).bind λj=>(j5S ((a.2.2.1,(a.2.2.2.1,(a.2.2.2.2.1,a.2.2.2.2.2.1))),a.2.2.2.2.2.2.1) (a.2.2.2.2.2.2.2.1,(a.2.2.2.2.2.2.2.2.1,a.2.2.2.2.2.2.2.2.2.1)) a.1 a.2.1).bind λf=>let i:=O f.length
 (Fu i 0 a.2.2.2.2.2.2.2.1 a.2.2.2.2.2.2.2.2.1 a.2.2.2.2.2.2.2.2.2.1 j ([]:ag) f).bind λl=>(jbK l).bind λk=>K k
def j3I(j:J)(i:ag)(k b:J)(f:af):M ((J×ag×J×J×af) ⊕ (af)):=cond (L (b<k)) (cond (inR b i.length) (let a:=N i b.toNat (0,(0,0))
 cond (a.2.2==j) (let c:af:=[(a.1,a.2.1)]
 cond (L (U f+U c<=aG)) (let e:af:=f++c
 let d:=w64 (b+1)
 K (.inl (j,i,k,d,e))) X) (let g:=w64 (b+1)
 K (.inl (j,i,k,g,f)))) X) (K (.inr f))
def Fv[LP](b:J)(e:ag)(d a:J)(c:af):M af:=LP.lp (unc5 j3I) (b,e,d,a,c)
theorem Ym(b e d a c):Fv b e d a c=lpK (j3I b e d a c) (λh=>Fv h.1 h.2.1 h.2.2.1 h.2.2.2.1 h.2.2.2.2):=bc _ _
def jc6[LP](b:ag)(a:J):M af:=
 let e:=O b.length
 (Fv a b e 0 ([]:af)).bind λd=>(j8V d).bind λc=>K c
def j49[LP](q r s:J)(j:ar)(o b:J)(p:ak)(g:al)(i:ao)(f:ar)(k:cE)(e:af):M ((J×J×J×ar×J×J×ak×al×ao×ar×cE×af) ⊕ (J ⊕ af)):=cond (L (b<o)) (cond (inR b j.length) (let a:=N j b.toNat (Y,(([]:aX),([]:ae)))
 (j0G ((p,(g,(i,f))),k) (a.1,(a.2.1,a.2.2)) r s).bind λc=>let l:=O c.length
 cond (L (l>16384)) (K (.inr (.inl 5))) ((jc6 c q).bind λd=>cond (L (U e+U d<=aG)) (let m:af:=e++d
 let n:=w64 (b+1)
 K (.inl (q,r,s,j,o,n,p,g,i,f,k,m))) X)) X) (K (.inr (.inr e)))
def Fw[LP](k l m:J)(i:ar)(f g:J)(j:ak)(b:al)(c:ao)(a:ar)(d:cE)(e:af):M (J ⊕ af):=LP.lp (u8 unc4 j49) (k,l,m,i,f,g,j,b,c,a,d,e)
theorem Yn(k l m i f g j b c a d e):Fw k l m i f g j b c a d e=lpK (j49 k l m i f g j b c a d e) (λh=>Fw h.1 h.2.1 h.2.2.1 h.2.2.2.1 h.2.2.2.2.1 h.2.2.2.2.2.1 h.2.2.2.2.2.2.1 h.2.2.2.2.2.2.2.1 h.2.2.2.2.2.2.2.2.1 h.2.2.2.2.2.2.2.2.2.1 h.2.2.2.2.2.2.2.2.2.2.1 h.2.2.2.2.2.2.2.2.2.2.2):=bc _ _
def j7e[LP](a:kW)(b c d:J):M (af×J):=
 let f:=O a.1.2.2.2.length
 (Fw b c d a.1.2.2.2 f 0 a.1.1 a.1.2.1 a.1.2.2.1 a.1.2.2.2 a.2 ([]:af)).bind λi=>sumC i (λk=>K (([]:af),k)) (λj=>(j8V j).bind λe=>let g:=O e.length
 cond (L (g>4096)) (K (([]:af),5)) (K (e,0)))
def j3i(c d:ag)(p q b a:J)(o:ae):M ((ag×ag×J×J×J×J×ae) ⊕ (ae)):=
 let s:=O c.length
 let a2:=O d.length
 cond (cond (L (b<s)) (L (a<a2)) Z) (cond (inR b c.length) (let j:=N c b.toNat (0,(0,0))
 cond (inR a d.length) (let l:=N d a.toNat (0,(0,0))
 let k:Int:=if l.1>j.1 then l.1 else j.1
 cond (inR b c.length) (let f:=N c b.toNat (0,(0,0))
 cond (inR a d.length) (let g:=N d a.toNat (0,(0,0))
 let i:Int:=if g.2.1<f.2.1 then g.2.1 else f.2.1
 cond (inR b c.length) (let e:=N c b.toNat (0,(0,0))
 cond ((inR a d.length) || !(L (e.2.2>=0))) (let u:=N d a.toNat (0,(0,0))
 let a1:Bool:=cond (cond (L (e.2.2>=0)) (e.2.2==u.2.2) Z) (L (k<i)) Z
 cond a1 (let m:ae:=[(e.2.2,(p,(q,(k,i))))]
 cond (L (U o+U m<=aG)) (let n:ae:=o++m
 cond (inR b c.length) (let r:=N c b.toNat (0,(0,0))
 cond (inR a d.length) (let t:=N d a.toNat (0,(0,0))
 cond (L (r.2.1<t.2.1)) (let y:=w64 (b+1)
 K (.inl (c,d,p,q,y,a,n))) (let w:=w64 (a+1)
 K (.inl (c,d,p,q,b,w,n)))) X) X) X) (cond (inR b c.length) (let v:=N c b.toNat (0,(0,0))
 cond (inR a d.length) (let a0:=N d a.toNat (0,(0,0))
 cond (L (v.2.1<a0.2.1)) (let z:=w64 (b+1)
 K (.inl (c,d,p,q,z,a,o))) (let x:=w64 (a+1)
 K (.inl (c,d,p,q,b,x,o)))) X) X)) X) X) X) X) X) X) (K (.inr o))
def A9[LP](c d:ag)(e g a b:J)(f:ae):M ae:=LP.lp (unc7 j3i) (c,d,e,g,a,b,f)
theorem Yo(c d e g a b f):A9 c d e g a b f=lpK (j3i c d e g a b f) (λh=>A9 h.1 h.2.1 h.2.2.1 h.2.2.2.1 h.2.2.2.2.1 h.2.2.2.2.2.1 h.2.2.2.2.2.2):=bc _ _
def jaK[LP](a b:ag)(d c:J):M ae:=(A9 a b d c 0 0 ([]:ae)).bind λe=>K e
def j2L(a b:nO):M Int:=
 let c:=w64 (a.2.2.2.1-b.2.2.2.1)
 K c
def j0r(l p q f:J)(e:ae):M ((J×J×J×J×ae) ⊕ (J×J×J×ae)):=cond (L (f>l)) (cond (inR f e.length) (let b:=N e f.toNat (0,(0,(0,(0,0))))
 let g:=w64 (f-1)
 cond (inR g e.length) (let c:=N e g.toNat (0,(0,(0,(0,0))))
 (j2L (b.1,(b.2.1,(b.2.2.1,(b.2.2.2.1,b.2.2.2.2)))) (c.1,(c.2.1,(c.2.2.1,(c.2.2.2.1,c.2.2.2.2))))).bind λn=>cond (L (n<0)) (let j:=w64 (f-1)
 let k:=w64 (f-1)
 cond (inR k e.length) (let d:=N e k.toNat (0,(0,(0,(0,0))))
 cond (inR f e.length) (let a:=N e f.toNat (0,(0,(0,(0,0))))
 cond (inR f e.length) (let i:ae:=È e f.toNat (d.1,(d.2.1,(d.2.2.1,(d.2.2.2.1,d.2.2.2.2))))
 cond (inR j i.length) (let m:ae:=È i j.toNat (a.1,(a.2.1,(a.2.2.1,(a.2.2.2.1,a.2.2.2.2))))
 let o:=w64 (f-1)
 K (.inl (l,p,q,o,m))) X) X) X) X) (K (.inr (l,p,q,e)))) X) X) (K (.inr (l,p,q,e)))
def Ju[LP](a b e c:J)(d:ae):M (J×J×J×ae):=LP.lp (unc5 j0r) (a,b,e,c,d)
theorem Yp(a b e c d):Ju a b e c d=lpK (j0r a b e c d) (λh=>Ju h.1 h.2.1 h.2.2.1 h.2.2.2.1 h.2.2.2.2):=bc _ _
def j0g[LP](f d c:J)(e:ae):M ((J×J×J×ae) ⊕ (ae)):=cond (L (c<d)) ((Ju f d c c e).bind λa=>let b:=w64 (a.2.2.1+1)
 K (.inl (a.1,a.2.1,b,a.2.2.2))) (K (.inr e))
def Jv[LP](a d c:J)(b:ae):M ae:=LP.lp (unc4 j0g) (a,d,c,b)
theorem OG(a b d c):Jv a b d c=lpK (j0g a b d c) (λh=>Jv h.1 h.2.1 h.2.2.1 h.2.2.2):=bc _ _
def j0B[LP](a:ae)(b c:J):M ae:=
 let d:=w64 (b+1)
 (Jv b c d a).bind λe=>K e
def j0H(m n o c:J)(d:ae):M ((J×J×J×J×ae) ⊕ (ae)):=cond (L (c<o)) (let e:=w64 (m+c)
 let g:=w64 (n+c)
 let j:=w64 (n+c)
 cond (inR j d.length) (let a:=N d j.toNat (0,(0,(0,(0,0))))
 let f:=w64 (m+c)
 cond (inR f d.length) (let b:=N d f.toNat (0,(0,(0,(0,0))))
 cond (inR e d.length) (let i:ae:=È d e.toNat (a.1,(a.2.1,(a.2.2.1,(a.2.2.2.1,a.2.2.2.2))))
 cond (inR g i.length) (let k:ae:=È i g.toNat (b.1,(b.2.1,(b.2.2.1,(b.2.2.2.1,b.2.2.2.2))))
 let l:=w64 (c+1)
 K (.inl (m,n,o,l,k))) X) X) X) X) (K (.inr d))
def Fx[LP](b c d a:J)(e:ae):M ae:=LP.lp (unc5 j0H) (b,c,d,a,e)
theorem Yq(b c d a e):Fx b c d a e=lpK (j0H b c d a e) (λh=>Fx h.1 h.2.1 h.2.2.1 h.2.2.2.1 h.2.2.2.2):=bc _ _
def j0A[LP](a:ae)(b c d:J):M ae:=(Fx b c d 0 a).bind λe=>K e
def j1A[LP](c a b:J)(m:ae):M ((J×J×J×ae) ⊕ (J×J×ae)):=cond (a != b) (cond (L (a>b)) (let e:=w64 (c-a)
 (j0A m e c b).bind λd=>let i:=w64 (a-b)
 K (.inl (c,i,b,d))) (let k:=w64 (c-a)
 let f:=w64 (c+b)
 let l:=w64 (f-a)
 (j0A m k l a).bind λg=>let j:=w64 (b-a)
 K (.inl (c,a,j,g)))) (K (.inr (c,a,m)))
def Jw[LP](c b a:J)(d:ae):M (J×J×ae):=LP.lp (unc4 j1A) (c,b,a,d)
theorem j9B(c a b d):Jw c a b d=lpK (j1A c a b d) (λh=>Jw h.1 h.2.1 h.2.2.1 h.2.2.2):=bc _ _
def j1c[LP](b:ae)(d a e:J):M ae:=
 let g:=w64 (a-d)
 let i:=w64 (e-a)
 (Jw a g i b).bind λc=>let j:=w64 (c.1-c.2.1)
 (j0A c.2.2 j c.1 c.2.1).bind λf=>K f
def j0M(n:ae->J->J->J->M (ae))(f e g:J)(c:ae):M ((J×J×J×ae) ⊕ (J×J×ae)):=cond (L (e<g)) (let k:=w64 (e+g)
 let i:Int:=Ê .u64 k
 let m:Int:=Í i 2
 let d:=w64 m
 cond (inR d c.length) (let a:=N c d.toNat (0,(0,(0,(0,0))))
 cond (inR f c.length) (let b:=N c f.toNat (0,(0,(0,(0,0))))
 (j2L (a.1,(a.2.1,(a.2.2.1,(a.2.2.2.1,a.2.2.2.2)))) (b.1,(b.2.1,(b.2.2.1,(b.2.2.2.1,b.2.2.2.2))))).bind λj=>cond (L (j<0)) (let l:=w64 (d+1)
 K (.inl (f,l,g,c))) (K (.inl (f,e,d,c)))) X) X) (K (.inr (f,e,c)))
def Fy[LP](a:ae->J->J->J->M (ae))(d b c:J)(e:ae):M (J×J×ae):=LP.lp (unc4 (j0M a)) (d,b,c,e)
theorem Yr(a d b c e):Fy a d b c e=lpK (j0M a d b c e) (λh=>Fy a h.1 h.2.1 h.2.2.1 h.2.2.2):=bc _ _
def j0N(m:ae->J->J->J->M (ae))(l c:J)(d:ae):M ((J×J×ae) ⊕ (ae)):=
 let k:=w64 (l-1)
 cond (L (c<k)) (let g:=w64 (c+1)
 let f:=w64 (c+1)
 cond (inR f d.length) (let a:=N d f.toNat (0,(0,(0,(0,0))))
 cond (inR c d.length) (let b:=N d c.toNat (0,(0,(0,(0,0))))
 cond (inR c d.length) (let e:ae:=È d c.toNat (a.1,(a.2.1,(a.2.2.1,(a.2.2.2.1,a.2.2.2.2))))
 cond (inR g e.length) (let j:ae:=È e g.toNat (b.1,(b.2.1,(b.2.2.1,(b.2.2.2.1,b.2.2.2.2))))
 let i:=w64 (c+1)
 K (.inl (l,i,j))) X) X) X) X) (K (.inr d))
def Jy[LP](c:ae->J->J->J->M (ae))(b a:J)(d:ae):M ae:=LP.lp (unc3 (j0N c)) (b,a,d)
theorem Ys(a c b d):Jy a c b d=lpK (j0N a c b d) (λh=>Jy a h.1 h.2.1 h.2.2):=bc _ _
def j0O(n:ae->J->J->J->M (ae))(f e i:J)(c:ae):M ((J×J×J×ae) ⊕ (J×J×ae)):=cond (L (e<i)) (let l:=w64 (e+i)
 let k:Int:=Ê .u64 l
 let m:Int:=Í k 2
 let d:=w64 m
 cond (inR f c.length) (let b:=N c f.toNat (0,(0,(0,(0,0))))
 cond (inR d c.length) (let a:=N c d.toNat (0,(0,(0,(0,0))))
 (j2L (b.1,(b.2.1,(b.2.2.1,(b.2.2.2.1,b.2.2.2.2)))) (a.1,(a.2.1,(a.2.2.1,(a.2.2.2.1,a.2.2.2.2))))).bind λj=>cond (!(L (j<0))) (let g:=w64 (d+1)
 K (.inl (f,g,i,c))) (K (.inl (f,e,d,c)))) X) X) (K (.inr (f,e,c)))
def Fz[LP](a:ae->J->J->J->M (ae))(d b c:J)(e:ae):M (J×J×ae):=LP.lp (unc4 (j0O a)) (d,b,c,e)
theorem Yt(a d b c e):Fz a d b c e=lpK (j0O a d b c e) (λh=>Fz a h.1 h.2.1 h.2.2.1 h.2.2.2):=bc _ _
def j0P(l:ae->J->J->J->M (ae))(k c:J)(f:ae):M ((J×J×ae) ⊕ (ae)):=cond (L (c>k)) (let e:=w64 (c-1)
 let d:=w64 (c-1)
 cond (inR d f.length) (let b:=N f d.toNat (0,(0,(0,(0,0))))
 cond (inR c f.length) (let a:=N f c.toNat (0,(0,(0,(0,0))))
 cond (inR c f.length) (let g:ae:=È f c.toNat (b.1,(b.2.1,(b.2.2.1,(b.2.2.2.1,b.2.2.2.2))))
 cond (inR e g.length) (let j:ae:=È g e.toNat (a.1,(a.2.1,(a.2.2.1,(a.2.2.2.1,a.2.2.2.2))))
 let i:=w64 (c-1)
 K (.inl (k,i,j))) X) X) X) X) (K (.inr f))
def Jz[LP](b:ae->J->J->J->M (ae))(c a:J)(d:ae):M ae:=LP.lp (unc3 (j0P b)) (c,a,d)
theorem Yu(a b c d):Jz a b c d=lpK (j0P a b c d) (λh=>Jz a h.1 h.2.1 h.2.2):=bc _ _
def j0Q(t:ae->J->J->J->M (ae))(q r s k n f p i:J)(e:ae):M ((J×J×J×J×J×J×J×J×ae) ⊕ (J×J×J×J×J×J×ae)):=cond (L (f<p)) (let m:=w64 (f+p)
 let g:Int:=Ê .u64 m
 let l:Int:=Í g 2
 let c:=w64 l
 let d:=w64 (i-c)
 cond (inR d e.length) (let a:=N e d.toNat (0,(0,(0,(0,0))))
 cond (inR c e.length) (let b:=N e c.toNat (0,(0,(0,(0,0))))
 (j2L (a.1,(a.2.1,(a.2.2.1,(a.2.2.2.1,a.2.2.2.2)))) (b.1,(b.2.1,(b.2.2.1,(b.2.2.2.1,b.2.2.2.2))))).bind λo=>cond (!(L (o<0))) (let j:=w64 (c+1)
 K (.inl (q,r,s,k,n,j,p,i,e))) (K (.inl (q,r,s,k,n,f,c,i,e)))) X) X) (K (.inr (q,r,s,k,n,f,e)))
def CJ[LP](d:ae->J->J->J->M (ae))(g i k a b f e c:J)(j:ae):M (J×J×J×J×J×J×ae):=LP.lp (unc9 (j0Q d)) (g,i,k,a,b,f,e,c,j)
theorem Yv(a g i k b c f e d j):CJ a g i k b c f e d j=lpK (j0Q a g i k b c f e d j) (λh=>CJ a h.1 h.2.1 h.2.2.1 h.2.2.2.1 h.2.2.2.2.1 h.2.2.2.2.2.1 h.2.2.2.2.2.2.1 h.2.2.2.2.2.2.2.1 h.2.2.2.2.2.2.2.2):=bc _ _
def JA[LP](e:ae->J->J->J->M (ae))(g:ae)(i f j:J):M ae:=
 let a9:=w64 (f-i)
 cond (a9==1) ((Fy e i f j g).bind λa7=>(Jy e a7.2.1 a7.1 a7.2.2).bind λb2=>K b2) (let b0:=w64 (j-f)
 cond (b0==1) ((Fz e f i f g).bind λa6=>(Jz e a6.2.1 a6.1 a6.2.2).bind λb1=>K b1) (let a2:=w64 (i+j)
 let a8:Int:=Ê .u64 a2
 let m:Int:=Í a8 2
 let l:=w64 ((w64 m)+f)
 cond (L (f>(w64 m))) (let a4:=w64 (l-j)
 let a5:=w64 (l-1)
 (CJ e i f j (w64 m) l a4 (w64 m) a5 g).bind λc=>let d:=w64 (c.2.2.2.2.1-c.2.2.2.2.2.1)
 cond (cond (L (c.2.2.2.2.2.1<c.2.1)) (L (c.2.1<d)) Z) ((j1c c.2.2.2.2.2.2 c.2.2.2.2.2.1 c.2.1 d).bind λq=>cond (cond (L (c.1<c.2.2.2.2.2.1)) (L (c.2.2.2.2.2.1<c.2.2.2.1)) Z) ((e q c.1 c.2.2.2.2.2.1 c.2.2.2.1).bind λa0=>cond (cond (L (c.2.2.2.1<d)) (L (d<c.2.2.1)) Z) ((e a0 c.2.2.2.1 d c.2.2.1).bind λa1=>K a1) (K a0)) (cond (cond (L (c.2.2.2.1<d)) (L (d<c.2.2.1)) Z) ((e q c.2.2.2.1 d c.2.2.1).bind λu=>K u) (K q))) (cond (cond (L (c.1<c.2.2.2.2.2.1)) (L (c.2.2.2.2.2.1<c.2.2.2.1)) Z) ((e c.2.2.2.2.2.2 c.1 c.2.2.2.2.2.1 c.2.2.2.1).bind λo=>cond (cond (L (c.2.2.2.1<d)) (L (d<c.2.2.1)) Z) ((e o c.2.2.2.1 d c.2.2.1).bind λz=>K z) (K o)) (cond (cond (L (c.2.2.2.1<d)) (L (d<c.2.2.1)) Z) ((e c.2.2.2.2.2.2 c.2.2.2.1 d c.2.2.1).bind λt=>K t) (K c.2.2.2.2.2.2)))) (let v:=w64 (l-1)
 (CJ e i f j (w64 m) l i f v g).bind λa=>let b:=w64 (a.2.2.2.2.1-a.2.2.2.2.2.1)
 cond (cond (L (a.2.2.2.2.2.1<a.2.1)) (L (a.2.1<b)) Z) ((j1c a.2.2.2.2.2.2 a.2.2.2.2.2.1 a.2.1 b).bind λk=>let a3:Bool:=cond (L (a.1<a.2.2.2.2.2.1)) (L (a.2.2.2.2.2.1<a.2.2.2.1)) Z
 cond a3 ((e k a.1 a.2.2.2.2.2.1 a.2.2.2.1).bind λn=>cond (cond (L (a.2.2.2.1<b)) (L (b<a.2.2.1)) Z) ((e n a.2.2.2.1 b a.2.2.1).bind λw=>K w) (K n)) (cond (cond (L (a.2.2.2.1<b)) (L (b<a.2.2.1)) Z) ((e k a.2.2.2.1 b a.2.2.1).bind λs=>K s) (K k))) (let y:Bool:=cond (L (a.1<a.2.2.2.2.2.1)) (L (a.2.2.2.2.2.1<a.2.2.2.1)) Z
 cond y ((e a.2.2.2.2.2.2 a.1 a.2.2.2.2.2.1 a.2.2.2.1).bind λp=>cond (cond (L (a.2.2.2.1<b)) (L (b<a.2.2.1)) Z) ((e p a.2.2.2.1 b a.2.2.1).bind λr=>K r) (K p)) (cond (cond (L (a.2.2.2.1<b)) (L (b<a.2.2.1)) Z) ((e a.2.2.2.2.2.2 a.2.2.2.1 b a.2.2.1).bind λx=>K x) (K a.2.2.2.2.2.2))))))
def j0p[LP](e:(ae×J×J×J)->M (ae))(h:ae×J×J×J):M ae:=JA (λd c b a=>e (d,c,b,a)) h.1 h.2.1 h.2.2.1 h.2.2.2
def j1C[LP](a:ae)(b c d:J):M ae:=LP.rp j0p (a,b,c,d)
def j0u[LP](e d f c:J)(g:ae):M ((J×J×J×J×ae) ⊕ (J×J×J×ae)):=cond (L (c<=e)) ((j0B g f c).bind λa=>let b:=w64 (c+d)
 K (.inl (e,d,c,b,a))) (K (.inr (e,d,f,g)))
def FA[LP](b a c e:J)(d:ae):M (J×J×J×ae):=LP.lp (unc5 j0u) (b,a,c,e,d)
theorem OH(b a c e d):FA b a c e d=lpK (j0u b a c e d) (λh=>FA h.1 h.2.1 h.2.2.1 h.2.2.2.1 h.2.2.2.2):=bc _ _
def j0v[LP](g a i e:J)(j:ae):M ((J×J×J×J×ae) ⊕ (J×J×J×ae)):=cond (L (e<=g)) (let b:=w64 (i+a)
 (j1C j i b e).bind λc=>let f:=w64 (2*a)
 let d:=w64 (e+f)
 K (.inl (g,a,e,d,c))) (K (.inr (g,a,i,j)))
def FB[LP](b a c e:J)(d:ae):M (J×J×J×ae):=LP.lp (unc5 j0v) (b,a,c,e,d)
theorem OI(b a c e d):FB b a c e d=lpK (j0v b a c e d) (λh=>FB h.1 h.2.1 h.2.2.1 h.2.2.2.1 h.2.2.2.2):=bc _ _
def j0Y[LP](i g:J)(j:ae):M ((J×J×ae) ⊕ (ae)):=cond (L (g<i)) (let d:=w64 (2*g)
 (FB i g 0 d j).bind λa=>let b:=w64 (a.2.2.1+a.2.1)
 cond (L (b<a.1)) ((j1C a.2.2.2 a.2.2.1 b a.1).bind λe=>let f:=w64 (a.2.1*2)
 K (.inl (a.1,f,e))) (let c:=w64 (a.2.1*2)
 K (.inl (a.1,c,a.2.2.2)))) (K (.inr j))
def FC[LP](b a:J)(c:ae):M ae:=LP.lp (unc3 j0Y) (b,a,c)
theorem Yw(b a c):FC b a c=lpK (j0Y b a c) (λh=>FC h.1 h.2.1 h.2.2):=bc _ _
def j4b[LP](a:ae)(c:J):M ae:=(FA c 20 0 20 a).bind λb=>(j0B b.2.2.2 b.2.2.1 b.1).bind λd=>(FC b.1 b.2.1 d).bind λe=>K e
def j0I[LP](a:ae):M ae:=
 let c:=O a.length
 (j4b a c).bind λb=>K b
def j2U[LP](o p:J)(e:ar)(n c:J)(q:ak)(f:al)(g:ao)(j:ar)(i:cE)(d:cY):M ((J×J×ar×J×J×ak×al×ao×ar×cE×cY) ⊕ (J ⊕ cY)):=cond (L (c<n)) (cond (inR c e.length) (let b:=N e c.toNat (Y,(([]:aX),([]:ae)))
 (j0G ((q,(f,(g,j))),i) (b.1,(b.2.1,b.2.2)) o p).bind λa=>let k:=O a.length
 cond (L (k>16384)) (K (.inr (.inl 5))) (cond (L (U d+U [a]<=aG)) (let m:cY:=d++[a]
 let l:=w64 (c+1)
 K (.inl (o,p,e,n,l,q,f,g,j,i,m))) X)) X) (K (.inr (.inr d)))
def FD[LP](j k:J)(f:ar)(i g:J)(l:ak)(a:al)(b:ao)(d:ar)(c:cE)(e:cY):M (J ⊕ cY):=LP.lp (u8 unc3 j2U) (j,k,f,i,g,l,a,b,d,c,e)
theorem Yx(j k f i g l a b d c e):FD j k f i g l a b d c e=lpK (j2U j k f i g l a b d c e) (λh=>FD h.1 h.2.1 h.2.2.1 h.2.2.2.1 h.2.2.2.2.1 h.2.2.2.2.2.1 h.2.2.2.2.2.2.1 h.2.2.2.2.2.2.2.1 h.2.2.2.2.2.2.2.2.1 h.2.2.2.2.2.2.2.2.2.1 h.2.2.2.2.2.2.2.2.2.2):=bc _ _
def j2V[LP](d b l m:J)(a:cY)(e:ae):M ((J×J×J×J×cY×ae) ⊕ (J×J×cY×ae)):=
 let i:=O a.length
 cond (L (b<i)) (cond (inR d a.length) (let k:=N a d.toNat ([]:ag)
 cond (inR b a.length) (let f:=N a b.toNat ([]:ag)
 (jaK k f d b).bind λc=>cond (L (U e+U c<=aG)) (let g:ae:=e++c
 let j:=w64 (b+1)
 K (.inl (d,j,l,m,a,g))) X) X) X) (K (.inr (l,m,a,e)))
def FE[LP](e d b f:J)(a:cY)(c:ae):M (J×J×cY×ae):=LP.lp (unc6 j2V) (e,d,b,f,a,c)
theorem Yy(e d b f a c):FE e d b f a c=lpK (j2V e d b f a c) (λh=>FE h.1 h.2.1 h.2.2.1 h.2.2.2.1 h.2.2.2.2.1 h.2.2.2.2.2):=bc _ _
def j2W[LP](e b:J)(g:cY)(f:ae):M ((J×J×cY×ae) ⊕ (ae)):=cond (L (b<e)) (let c:=w64 (b+1)
 (FE b c e b g f).bind λa=>let d:=w64 (a.2.1+1)
 K (.inl (a.1,d,a.2.2.1,a.2.2.2))) (K (.inr f))
def FF[LP](c b:J)(a:cY)(d:ae):M ae:=LP.lp (unc4 j2W) (c,b,a,d)
theorem Yz(b d a c):FF b d a c=lpK (j2W b d a c) (λh=>FF h.1 h.2.1 h.2.2.1 h.2.2.2):=bc _ _
def j4C[LP](a:cF)(c d:J):M (ae×J):=(joj (a.1,(a.2.1,(a.2.2.1,a.2.2.2)))).bind λb=>cond (!b.2) (K (([]:ae),8)) ((jgc c d).bind λf=>cond (!f) (K (([]:ae),1)) (let i:=O a.2.2.2.length
 (FD c d a.2.2.2 i 0 b.1.1.1 b.1.1.2.1 b.1.1.2.2.1 b.1.1.2.2.2 b.1.2 ([]:cY)).bind λl=>sumC l (λn=>K (([]:ae),n)) (λm=>let g:=O m.length
 (FF g 0 m ([]:ae)).bind λe=>let j:=O e.length
 cond (L (j>16384)) (K (([]:ae),5)) ((j0I e).bind λk=>K (k,0)))))
def j4c(e m:J)(l:af)(n d:J):M ((J×J×af×J×J) ⊕ (J)):=cond (L (d<n)) (cond (inR d l.length) (let a:=N l d.toNat (0,0)
 let j:Int:=if e<a.2 then e else a.2
 let b:=w64 (e-604800)
 let k:Int:=if b>a.1 then b else a.1
 let c:=w64 (j-k)
 let g:Int:=if c>0 then c else 0
 let i:=w64 (m+g)
 let f:=w64 (d+1)
 K (.inl (e,i,l,n,f))) X) (K (.inr m))
def JB[LP](b c:J)(e:af)(d a:J):M Int:=LP.lp (unc5 j4c) (b,c,e,d,a)
theorem YA(b c e d a):JB b c e d a=lpK (j4c b c e d a) (λh=>JB h.1 h.2.1 h.2.2.1 h.2.2.2.1 h.2.2.2.2):=bc _ _
def jaL[LP](a:af)(b:J):M Int:=
 let d:=O a.length
 (JB b 0 a d 0).bind λc=>K c
def j4Q(l:af)(m n o:J)(d:af)(j c:J)(k:W J):M ((af×J×J×J×af×J×J×(W J)) ⊕ (af×J×J×J×(W J))):=cond (L (c<j)) (cond (inR c d.length) (let a:=N d c.toNat (0,0)
 let e:=w64 (a.1+604800)
 let g:=w64 (a.2+604800)
 let b:W Int:=[a.1,a.2,e,g]
 cond (L (U k+U b<=aG)) (let f:W Int:=k++b
 let i:=w64 (c+1)
 K (.inl (l,m,n,o,d,j,i,f))) X) X) (K (.inr (l,m,n,o,k)))
def FG[LP](d:af)(e f i:J)(a:af)(b c:J)(g:W J):M (af×J×J×J×(W J)):=LP.lp (unc8 j4Q) (d,e,f,i,a,b,c,g)
theorem YB(d e f i a b c g):FG d e f i a b c g=lpK (j4Q d e f i a b c g) (λh=>FG h.1 h.2.1 h.2.2.1 h.2.2.2.1 h.2.2.2.2.1 h.2.2.2.2.2.1 h.2.2.2.2.2.2.1 h.2.2.2.2.2.2.2):=bc _ _
def j4R[LP](l:af)(g q i b:J)(f e:W J):M ((af×J×J×J×J×(W J)×(W J)) ⊕ (W J)):=cond (L (b<i)) (cond (inR b e.length) (let a:=N e b.toNat 0
 (jaL l q).bind λd=>(jaL l a).bind λn=>cond (cond (L (d<=g)) (L (n>g)) Z) (let m:=w64 (q+g)
 let k:=w64 (m-d)
 let c:=w64 (k+1)
 cond (L (U f+U [c]<=aG)) (let j:W Int:=f++[c]
 let o:=w64 (b+1)
 K (.inl (l,g,a,i,o,j,e))) X) (let p:=w64 (b+1)
 K (.inl (l,g,a,i,p,f,e)))) X) (K (.inr f))
def FH[LP](f:af)(g a d b:J)(e c:W J):M (W J):=LP.lp (unc7 j4R) (f,g,a,d,b,e,c)
theorem YC(f g a d b e c):FH f g a d b e c=lpK (j4R f g a d b e c) (λh=>FH h.1 h.2.1 h.2.2.1 h.2.2.2.1 h.2.2.2.2.1 h.2.2.2.2.2.1 h.2.2.2.2.2.2):=bc _ _
def jfd[LP](a:af)(d c e:J):M (W J):=
 let g:=O a.length
 (FG a d c e a g 0 ([]:(W J))).bind λb=>(jia b.2.2.2.2 b.2.2.1 b.2.2.2.1).bind λf=>let i:=O f.length
 (FH b.1 b.2.1 b.2.2.1 i 0 ([]:(W J)) f).bind λj=>K j
def j3x(a:af)(n b:J)(e:W J):M ((af×J×J×(W J)) ⊕ (W J)):=
 let m:=O a.length
 cond (L (b<m)) (cond (inR b a.length) (let k:=N a b.toNat (0,0)
 let d:=w64 (b-1)
 cond (inR d a.length) (let f:=N a d.toNat (0,0)
 let j:=w64 (k.1-f.2)
 cond (L (j<n)) (cond (inR b a.length) (let c:=N a b.toNat (0,0)
 cond (L (U e+U [c.1]<=aG)) (let l:W Int:=e++[c.1]
 let g:=w64 (b+1)
 K (.inl (a,n,g,l))) X) X) (let i:=w64 (b+1)
 K (.inl (a,n,i,e)))) X) X) (K (.inr e))
def JC[LP](c:af)(d b:J)(a:W J):M (W J):=LP.lp (unc4 j3x) (c,d,b,a)
theorem OJ(b c a d):JC b c a d=lpK (j3x b c a d) (λh=>JC h.1 h.2.1 h.2.2.1 h.2.2.2):=bc _ _
def jcr[LP](b:af)(a:J):M (W J):=(JC b a 1 ([]:(W J))).bind λc=>K c
def j2F(b:kW)(a:J):M fD:=cond (inR a b.2.length) (let c:=N b.2 a.toNat (0,([]:af))
 K (c.1,c.2)) X
def j4d(e:af)(g d:J)(f:W J):M ((af×J×J×(W J)) ⊕ (W J)):=cond (L (d<g)) (cond (inR d e.length) (let a:=N e d.toNat (0,0)
 cond (L (U f+U [a.1]<=aG)) (let b:W Int:=f++[a.1]
 let c:=w64 (d+1)
 K (.inl (e,g,c,b))) X) X) (K (.inr f))
def FI[LP](a:af)(d c:J)(b:W J):M (W J):=LP.lp (unc4 j4d) (a,d,c,b)
theorem YD(a b d c):FI a b d c=lpK (j4d a b d c) (λh=>FI h.1 h.2.1 h.2.2.1 h.2.2.2):=bc _ _
def j7f[LP](a:af):M (W J):=
 let b:=O a.length
 (FI a b 0 ([]:(W J))).bind λc=>K c
def j57(a b:uW):M Int:=cond (a.2.2 != b.2.2) (let e:=w64 (a.2.2-b.2.2)
 K e) (cond (a.1 != b.1) (let c:=w64 (a.1-b.1)
 K c) (let d:=w64 (a.2.1-b.2.1)
 K d))
def j08(a:ag):M ag:=
 wM (.pair (.int .i64) (.pair (.int .i64) (.int .i64))) (λc b=>(j57 c b).getD 0) a
def j0m(i c f:J)(a:ag):M ((J×J×J×ag) ⊕ (J×ag)):=
 let k:=O (U a-c.toNat)
 cond (L (f<k)) (cond (inR f (U a-c.toNat)) (let d:=N a (c.toNat+f.toNat) (0,(0,0))
 let g:=w64 (f-1)
 cond (inR g (U a-c.toNat)) (let e:=N a (c.toNat+g.toNat) (0,(0,0))
 cond (!((d.1==e.1)&&((d.2.1==e.2.1)&&(d.2.2==e.2.2)))) (cond (inR f (U a-c.toNat)) (let b:=N a (c.toNat+f.toNat) (0,(0,0))
 cond (inR i a.length) (let n:ag:=È a i.toNat (b.1,(b.2.1,b.2.2))
 let j:=w64 (i+1)
 let l:=w64 (f+1)
 K (.inl (j,(O c.toNat),l,n))) X) X) (let m:=w64 (f+1)
 K (.inl (i,(O c.toNat),m,a)))) X) X) (K (.inr (i,a)))
def FJ[LP](c b d:J)(a:ag):M (J×ag):=LP.lp (unc4 j0m) (c,b,d,a)
theorem YE(b a c d):FJ b a c d=lpK (j0m b a c d) (λh=>FJ h.1 h.2.1 h.2.2.1 h.2.2.2):=bc _ _
def j0n[LP](c:J)(e:ag):M ((J×ag) ⊕ ((J×ag) ⊕ ag)):=
 let i:=O e.length
 cond (L (c<i)) (cond (inR c e.length) (let d:=N e c.toNat (0,(0,0))
 let f:=w64 (c-1)
 cond (inR f e.length) (let b:=N e f.toNat (0,(0,0))
 cond ((d.1==b.1)&&((d.2.1==b.2.1)&&(d.2.2==b.2.2))) (cond (L (0<=c)&&L (c<=(O e.length))) ((FJ c (O c.toNat) 1 e).bind λa=>cond (L (0<=a.1)&&L (a.1<=(O a.2.length))) (let g:ag:=Ç a.1.toNat a.2++Ë (U a.2-a.1.toNat) (0,(0,0))
 cond (L (0<=a.1)&&L (a.1<=(O g.length))) (K (.inr (.inl ((O a.1.toNat),g)))) X) X) X) (let j:=w64 (c+1)
 K (.inl (j,e)))) X) X) (K (.inr (.inr e)))
def Ba[LP](b:J)(a:ag):M ((J×ag) ⊕ ag):=LP.lp (unc2 j0n) (b,a)
theorem YF(b a):Ba b a=lpK (j0n b a) (λh=>Ba h.1 h.2):=bc _ _
def j0a[LP](a:ag):M (J×ag):=
 let c:=O a.length
 cond (L (c<2)) (K ((O a.length),a)) ((Ba 1 a).bind λb=>sumC b (λe=>K ((O e.1.toNat),e.2)) (λd=>K ((O d.length),d)))
def j2G(n j b:J)(f:ae)(c e d a:W J):M ((J×J×J×ae×(W J)×(W J)×(W J)×(W J)) ⊕ (J×(W J)×(W J)×(W J)×(W J))):=cond (L (b<j)) (cond (inR b f.length) (let i:=N f b.toNat (0,(0,(0,(0,0))))
 cond (i.1==n) (let g:W Int:=[i.2.2.2.1]
 cond (L (U a+U g<=aG)) (let m:W Int:=a++g
 let k:=w64 (b+1)
 K (.inl (n,j,k,f,c,e,d,m))) X) (let l:=w64 (b+1)
 K (.inl (n,j,l,f,c,e,d,a)))) X) (K (.inr (n,c,e,d,a)))
def rf[LP](i g e:J)(f:ae)(a c b d:W J):M (J×(W J)×(W J)×(W J)×(W J)):=LP.lp (unc8 j2G) (i,g,e,f,a,c,b,d)
theorem YG(i g e f a c b d):rf i g e f a c b d=lpK (j2G i g e f a c b d) (λh=>rf h.1 h.2.1 h.2.2.1 h.2.2.2.1 h.2.2.2.2.1 h.2.2.2.2.2.1 h.2.2.2.2.2.2.1 h.2.2.2.2.2.2.2):=bc _ _
def j2H(m l:J)(f:W (W J))(d:J)(c:W J)(e a:J)(g:ag):M ((J×J×(W (W J))×J×(W J)×J×J×ag) ⊕ (J×(W (W J))×J×ag)):=cond (L (a<e)) (cond (inR a c.length) (let j:=N c a.toNat 0
 let b:ag:=[(l,(m,j))]
 cond (L (U g+U b<=aG)) (let i:ag:=g++b
 let k:=w64 (a+1)
 K (.inl (m,l,f,d,c,e,k,i))) X) X) (K (.inr (m,f,d,g)))
def yM[LP](i g:J)(d:W (W J))(a:J)(c:W J)(b e:J)(f:ag):M (J×(W (W J))×J×ag):=LP.lp (unc8 j2H) (i,g,d,a,c,b,e,f)
theorem YH(i g:J)(d:W (W J))(a:J)(c:W J)(b e:J)(f:ag):yM i g d a c b e f=lpK (j2H i g d a c b e f) (λh=>yM h.1 h.2.1 h.2.2.1 h.2.2.2.1 h.2.2.2.2.1 h.2.2.2.2.2.1 h.2.2.2.2.2.2.1 h.2.2.2.2.2.2.2):=bc _ _
def j13[LP](i:J)(d:W (W J))(a:J)(g:ag):M ((J×(W (W J))×J×ag) ⊕ (ag)):=cond (L (a<4)) (cond (inR a 4) (let c:=N d a.toNat ([]:(W J))
 let f:=O c.length
 (yM i a d a c f 0 g).bind λb=>let e:=w64 (b.2.2.1+1)
 K (.inl (b.1,b.2.1,e,b.2.2.2))) X) (K (.inr g))
def sf[LP](d:J)(b:W (W J))(a:J)(c:ag):M ag:=LP.lp (unc4 j13) (d,b,a,c)
theorem FK(d:J)(b:W (W J))(a:J)(c:ag):sf d b a c=lpK (j13 d b a c) (λh=>sf h.1 h.2.1 h.2.2.1 h.2.2.2):=bc _ _
def j24[LP](g:cF)(a c f:J):M (ag×J):=(j8q (g.1,(g.2.1,(g.2.2.1,g.2.2.2))) a c f).bind λb=>cond (b.2 != 0) (K (([]:ag),b.2)) ((j7e ((b.1.1.1,(b.1.1.2.1,(b.1.1.2.2.1,b.1.1.2.2.2))),b.1.2) a c f).bind λi=>cond (i.2 != 0) (K (([]:ag),i.2)) ((j4C (g.1,(g.2.1,(g.2.2.1,g.2.2.2))) c f).bind λe=>cond (e.2 != 0) (K (([]:ag),e.2)) (cond (inR a g.2.1.length) (let d:=N g.2.1 a.toNat (Y,(0,(([]:af),(0,(0,Z)))))
 cond (d.2.2.2.1 != 0) ((jfd i.1 d.2.2.2.1 c f).bind λb0=>cond (d.2.2.2.2.1 != 0) ((jcr i.1 d.2.2.2.2.1).bind λf4=>cond (!d.2.2.2.2.2) ((j2F ((b.1.1.1,(b.1.1.2.1,(b.1.1.2.2.1,b.1.1.2.2.2))),b.1.2) d.2.1).bind λf3=>(j2d (f3.1,f3.2) d.2.2.1 c f).bind λg8=>(j6o i.1 g8).bind λf2=>let g7:=O f2.length
 cond (L (g7>4096)) (K (([]:ag),5)) ((j7f f2).bind λg6=>let f6:=O e.1.length
 (rf a f6 0 e.1 b0 f4 g6 ([]:(W J))).bind λc7=>let g3:(W (W J)):=[c7.2.1,c7.2.2.1,c7.2.2.2.1,c7.2.2.2.2]
 (sf c7.1 g3 0 ([]:ag)).bind λg9=>(j08 g9).bind λf8=>(j0a f8).bind λc0=>let b7:ag:=Ç c0.1.toNat c0.2
 let g2:=O b7.length
 cond (L (g2>16384)) (K (([]:ag),5)) (K (b7,0)))) (let c8:=O e.1.length
 (rf a c8 0 e.1 b0 f4 ([]:(W J)) ([]:(W J))).bind λo=>let e2:(W (W J)):=[o.2.1,o.2.2.1,o.2.2.2.1,o.2.2.2.2]
 (sf o.1 e2 0 ([]:ag)).bind λf9=>(j08 f9).bind λc4=>(j0a c4).bind λv=>let t:ag:=Ç v.1.toNat v.2
 let d6:=O t.length
 cond (L (d6>16384)) (K (([]:ag),5)) (K (t,0)))) (cond (!d.2.2.2.2.2) ((j2F ((b.1.1.1,(b.1.1.2.1,(b.1.1.2.2.1,b.1.1.2.2.2))),b.1.2) d.2.1).bind λa4=>(j2d (a4.1,a4.2) d.2.2.1 c f).bind λe5=>(j6o i.1 e5).bind λa5=>let e4:=O a5.length
 cond (L (e4>4096)) (K (([]:ag),5)) ((j7f a5).bind λe6=>let b8:=O e.1.length
 (rf a b8 0 e.1 b0 ([]:(W J)) e6 ([]:(W J))).bind λk=>let c3:(W (W J)):=[k.2.1,k.2.2.1,k.2.2.2.1,k.2.2.2.2]
 (sf k.1 c3 0 ([]:ag)).bind λg5=>(j08 g5).bind λb9=>(j0a b9).bind λr=>let a1:ag:=Ç r.1.toNat r.2
 let d0:=O a1.length
 cond (L (d0>16384)) (K (([]:ag),5)) (K (a1,0)))) (let d8:=O e.1.length
 (rf a d8 0 e.1 b0 ([]:(W J)) ([]:(W J)) ([]:(W J))).bind λm=>let c2:(W (W J)):=[m.2.1,m.2.2.1,m.2.2.2.1,m.2.2.2.2]
 (sf m.1 c2 0 ([]:ag)).bind λg4=>(j08 g4).bind λc9=>(j0a c9).bind λu=>let y:ag:=Ç u.1.toNat u.2
 let c5:=O y.length
 cond (L (c5>16384)) (K (([]:ag),5)) (K (y,0))))) (cond (d.2.2.2.2.1 != 0) ((jcr i.1 d.2.2.2.2.1).bind λa6=>cond (!d.2.2.2.2.2) ((j2F ((b.1.1.1,(b.1.1.2.1,(b.1.1.2.2.1,b.1.1.2.2.2))),b.1.2) d.2.1).bind λa8=>(j2d (a8.1,a8.2) d.2.2.1 c f).bind λe9=>(j6o i.1 e9).bind λa9=>let f1:=O a9.length
 cond (L (f1>4096)) (K (([]:ag),5)) ((j7f a9).bind λf0=>let b2:=O e.1.length
 (rf a b2 0 e.1 ([]:(W J)) a6 f0 ([]:(W J))).bind λn=>let d1:(W (W J)):=[n.2.1,n.2.2.1,n.2.2.2.1,n.2.2.2.2]
 (sf n.1 d1 0 ([]:ag)).bind λf7=>(j08 f7).bind λb5=>(j0a b5).bind λa3=>let x:ag:=Ç a3.1.toNat a3.2
 let d7:=O x.length
 cond (L (d7>16384)) (K (([]:ag),5)) (K (x,0)))) (let d5:=O e.1.length
 (rf a d5 0 e.1 ([]:(W J)) a6 ([]:(W J)) ([]:(W J))).bind λp=>let e0:(W (W J)):=[p.2.1,p.2.2.1,p.2.2.2.1,p.2.2.2.2]
 (sf p.1 e0 0 ([]:ag)).bind λf5=>(j08 f5).bind λc6=>(j0a c6).bind λz=>let a2:ag:=Ç z.1.toNat z.2
 let d3:=O a2.length
 cond (L (d3>16384)) (K (([]:ag),5)) (K (a2,0)))) (cond (!d.2.2.2.2.2) ((j2F ((b.1.1.1,(b.1.1.2.1,(b.1.1.2.2.1,b.1.1.2.2.2))),b.1.2) d.2.1).bind λb1=>(j2d (b1.1,b1.2) d.2.2.1 c f).bind λe7=>(j6o i.1 e7).bind λa7=>let e8:=O a7.length
 cond (L (e8>4096)) (K (([]:ag),5)) ((j7f a7).bind λe3=>let d4:=O e.1.length
 (rf a d4 0 e.1 ([]:(W J)) ([]:(W J)) e3 ([]:(W J))).bind λj=>let b6:(W (W J)):=[j.2.1,j.2.2.1,j.2.2.2.1,j.2.2.2.2]
 (sf j.1 b6 0 ([]:ag)).bind λg0=>(j08 g0).bind λd9=>(j0a d9).bind λs=>let w:ag:=Ç s.1.toNat s.2
 let b3:=O w.length
 cond (L (b3>16384)) (K (([]:ag),5)) (K (w,0)))) (let c1:=O e.1.length
 (rf a c1 0 e.1 ([]:(W J)) ([]:(W J)) ([]:(W J)) ([]:(W J))).bind λl=>let d2:(W (W J)):=[l.2.1,l.2.2.1,l.2.2.2.1,l.2.2.2.2]
 (sf l.1 d2 0 ([]:ag)).bind λg1=>(j08 g1).bind λb4=>(j0a b4).bind λa0=>let q:ag:=Ç a0.1.toNat a0.2
 let e1:=O q.length
 cond (L (e1>16384)) (K (([]:ag),5)) (K (q,0)))))) X)))
def j7g[LP](d:cF)(a c e:J):M (af×J):=(j8q (d.1,(d.2.1,(d.2.2.1,d.2.2.2))) a c e).bind λb=>cond (b.2 != 0) (K (([]:af),b.2)) ((j7e ((b.1.1.1,(b.1.1.2.1,(b.1.1.2.2.1,b.1.1.2.2.2))),b.1.2) a c e).bind λf=>K (f.1,f.2))
def j4X(a:J×J):M Int:=(j7a a.1).bind λb=>let d:=w64 (b*86400)
 let c:=w64 (d+a.2)
 K c
def jhA(d:J)(e:af)(f b:J):M ((J×af×J×J) ⊕ (Ã ⊕ Å)):=cond (L (b<f)) (cond (inR b e.length) (let a:=N e b.toNat (0,0)
 cond (cond (L (a.1<=d)) (L (d<a.2)) Z) (K (.inr (.inl À))) (let c:=w64 (b+1)
 K (.inl (d,e,f,c)))) X) (K (.inr (.inr ())))
def juM[LP](b:J)(d:af)(c a:J):M (Ã ⊕ Å):=LP.lp (unc4 jhA) (b,d,c,a)
def jre[LP](a:af)(b:J):M Bool:=
 let d:=O a.length
 (juM b a d 0).bind λc=>sumC c (λe=>K e) (λf=>K Z)
def jcZ[LP](c:cF)(b d:J)(f:Ã):M Bool:=(j8q (c.1,(c.2.1,(c.2.2.1,c.2.2.2))) b d d).bind λa=>cond (a.2 != 0) (K Z) (cond (inR b c.2.1.length) (let e:=N c.2.1 b.toNat (Y,(0,(([]:af),(0,(0,Z)))))
 cond f (cond e.2.2.2.2.2 (K À) ((j2F ((a.1.1.1,(a.1.1.2.1,(a.1.1.2.2.1,a.1.1.2.2.2))),a.1.2) e.2.1).bind λl=>(j1n (l.1,l.2) d).bind λm=>(j4X (m.1,m.2)).bind λn=>(jre e.2.2.1 n).bind λo=>K (!o))) ((j2F ((a.1.1.1,(a.1.1.2.1,(a.1.1.2.2.1,a.1.1.2.2.2))),a.1.2) e.2.1).bind λg=>(j1n (g.1,g.2) d).bind λi=>(j4X (i.1,i.2)).bind λk=>(jre e.2.2.1 k).bind λj=>K (!j))) X)
def jj6[LP]  : M Bool:=(jog 144000 39600 Z).bind λa=>(j24 (a.1,(a.2.1,(a.2.2.1,a.2.2.2))) 0 86400 286400).bind λb=>let n:ae:=[(0,(0,(0,(90000,126000))))]
 cond (inR 0 a.2.2.2.length) (let g:ar:=È a.2.2.2 0 ((N a.2.2.2 0 (Y,(([]:aX),([]:ae)))).1,((N a.2.2.2 0 (Y,(([]:aX),([]:ae)))).2.1,n))
 (j24 (a.1,(a.2.1,(a.2.2.1,g))) 0 86400 172800).bind λc=>(j7g (a.1,(a.2.1,(a.2.2.1,g))) 0 86400 172800).bind λm=>let q:=O b.1.length
 let i:Bool:=cond (cond (cond (b.2==0) (c.2==0) Z) (m.2==0) Z) (q==2) Z
 cond ((inR 0 b.1.length) || !i) (let d:=N b.1 0 (0,(0,0))
 let j:Bool:=cond i ((d.1==2)&&((d.2.1==0)&&(d.2.2==172800))) Z
 cond ((inR 1 b.1.length) || !j) (let e:=N b.1 1 (0,(0,0))
 let k:Bool:=cond j ((e.1==0)&&((e.2.1==0)&&(e.2.2==230401))) Z
 let l:=O c.1.length
 cond ((inR 0 c.1.length) || !(cond k (l==1) Z)) (let f:=N c.1 0 (0,(0,0))
 let o:Bool:=cond (cond k (l==1) Z) ((f.1==1)&&((f.2.1==0)&&(f.2.2==126000))) Z
 let s:=O m.1.length
 cond (cond o (s==2) Z) ((jcZ (a.1,(a.2.1,(a.2.2.1,g))) 0 86400 Z).bind λr=>cond r ((jcZ (a.1,(a.2.1,(a.2.2.1,g))) 0 172800 À).bind λp=>K (!p)) (K Z)) (K Z)) X) X) X) X
def jok(a:W J):M ((W J)×J):=K (a,0)
def j09(b:W J)(a c:J):M (J×(W J)×J):=
 let f:=O b.length
 cond (L (a>=f)) (K (0,b,a)) (cond (L (c<1)) (K (0,b,a)) (cond (inR a b.length) (let g:=N b a.toNat 0
 cond (!(c==0)) (let d:=Ä g c
 let e:=w64 (a+1)
 cond (L (d<0)) (let i:=w64 (d+c)
 K (i,b,e)) (K (d,b,e))) X) X))
def j1x(d:W J)(b:J)(a:W J):M (J×(W J)×J):=
 let f:=O a.length
 (j09 d b f).bind λc=>cond (inR c.1 a.length) (let e:=N a c.1.toNat 0
 K (e,c.2.1,c.2.2)) X
def j58(a0:W J)(q:J)(a:S):M (dM×(W J)×J):=
 let a2:W Int:=[0,4,(-20),22,48,(-47)]
 (j1x a0 q a2).bind λx=>(j09 x.2.1 x.2.2 2).bind λj=>(j09 j.2.1 j.2.2 3).bind λo=>let b2:=w64 (j.1*o.1)
 let a6:=w64 (x.1+b2)
 let c:=w64 (900*a6)
 (j09 o.2.1 o.2.2 2).bind λs=>let g:=w64 (2025+s.1)
 (j09 s.2.1 s.2.2 4).bind λb=>cond (b.1==1) (let a1:=w64 (c+3600)
 let b4:aZ:=[(2025,(g,(3,(5,(6,(7200,a1)))))),(2025,(g,(10,(5,(6,(10800,c))))))]
 K ((a,(c,b4)),b.2.1,b.2.2)) (cond (b.1==2) ((j09 b.2.1 b.2.2 4).bind λu=>let a3:=w64 (1+u.1)
 (j09 u.2.1 u.2.2 7).bind λp=>(j09 p.2.1 p.2.2 24).bind λv=>let a4:=w64 (3600*v.1)
 (j09 v.2.1 v.2.2 8).bind λi=>let a7:=w64 (1+i.1)
 let b3:=w64 (1800*a7)
 let b7:=w64 (c+b3)
 (j09 i.2.1 i.2.2 2).bind λl=>let a8:=w64 (2+l.1)
 let b5:W Int:=[2,3,5]
 (j1x l.2.1 l.2.2 b5).bind λk=>(j09 k.2.1 k.2.2 7).bind λt=>(j09 t.2.1 t.2.2 24).bind λr=>let b6:=w64 (3600*r.1)
 let a5:aZ:=[(2025,(g,(1,(a3,(p.1,(a4,b7)))))),(2025,(g,(a8,(k.1,(t.1,(b6,c))))))]
 K ((a,(c,a5)),r.2.1,r.2.2)) (cond (b.1==3) (let a9:W Int:=[3600,(-3600),82800,(-82800),43200]
 (j1x b.2.1 b.2.2 a9).bind λf=>let m:=w64 (c+f.1)
 cond (cond (L (m>64800)) À (L (m<(-64800)))) ((j09 f.2.1 f.2.2 7).bind λn=>(j09 n.2.1 n.2.2 48).bind λw=>let b1:=w64 (1800*w.1)
 let b0:aZ:=[(2026,(2026,(1,(2,(n.1,(b1,0))))))]
 K ((a,(c,b0)),w.2.1,w.2.2)) ((j09 f.2.1 f.2.2 7).bind λe=>(j09 e.2.1 e.2.2 48).bind λd=>let z:=w64 (1800*d.1)
 let y:aZ:=[(2026,(2026,(1,(2,(e.1,(z,m))))))]
 K ((a,(c,y)),d.2.1,d.2.2))) (K ((a,(c,([]:aZ))),b.2.1,b.2.2))))
def jj7  : M (W S):=
 let a:W ByteArray:=[(Á #[97,100,97]),(Á #[98,111,98]),(Á #[99,108,101,111]),(Á #[100,97,110]),(Á #[101,118,101]),(Á #[102,97,121]),(Á #[103,117,115]),(Á #[104,97,108])]
 K a
def j1f(d:W J)(b a:J):M (Ã×(W J)×J):=(j09 d b a).bind λc=>let e:=w64 (a-1)
 K ((c.1==e),c.2.1,c.2.2)
def j2I(r p:J)(q:W J)(g:J)(n:af):M ((J×J×(W J)×J×af) ⊕ ((W J)×J×af)):=cond (L (p>0)) ((j09 q g 30).bind λc=>let l:=w64 (3600*c.1)
 let j:=w64 (r+l)
 (j09 c.2.1 c.2.2 2).bind λb=>let k:=w64 (60*b.1)
 let e:=w64 (j+k)
 let i:W Int:=[3600,28800,43200,86400,61,1]
 (j1x b.2.1 b.2.2 i).bind λa=>let d:=w64 (e+a.1)
 cond (L (d>604800)) (K (.inr (a.2.1,a.2.2,n))) (let f:af:=[(e,d)]
 cond (L (U n+U f<=aG)) (let m:af:=n++f
 let o:=w64 (p-1)
 K (.inl (d,o,a.2.1,a.2.2,m))) X)) (K (.inr (q,g,n)))
def JD[LP](b c:J)(e:W J)(a:J)(d:af):M ((W J)×J×af):=LP.lp (unc5 j2I) (b,c,e,a,d)
theorem YI(b c e a d):JD b c e a d=lpK (j2I b c e a d) (λh=>JD h.1 h.2.1 h.2.2.1 h.2.2.2.1 h.2.2.2.2):=bc _ _
def j5d[LP](b:W J)(a:J):M (af×(W J)×J):=(j09 b a 4).bind λc=>(JD 0 c.1 c.2.1 c.2.2 ([]:af)).bind λd=>K (d.2.2,d.1,d.2.1)
def j3m(k:J)(l:W J)(f:J)(b:ak):M ((J×(W J)×J×ak) ⊕ ((W J)×J×ak)):=cond (L (k>0)) (let c:W ByteArray:=[(Á #[104,101,114,101]),(Á #[116,104,101,114,101])]
 let d:=O b.length
 cond (inR d c.length) (let i:=N c d.toNat Y
 (j58 l f i).bind λa=>let e:ak:=[(a.1.1,(a.1.2.1,a.1.2.2))]
 cond (L (U b+U e<=aG)) (let g:ak:=b++e
 let j:=w64 (k-1)
 K (.inl (j,a.2.1,a.2.2,g))) X) X) (K (.inr (l,f,b)))
def JE[LP](c:J)(d:W J)(b:J)(a:ak):M ((W J)×J×ak):=LP.lp (unc4 j3m) (c,d,b,a)
theorem YJ(c d a b):JE c d a b=lpK (j3m c d a b) (λh=>JE h.1 h.2.1 h.2.2.1 h.2.2.2):=bc _ _
def j3n[LP](a4:J)(a5:W J)(q:J)(g:ak)(b:al):M ((J×(W J)×J×ak×al) ⊕ ((W J)×J×ak×al)):=cond (L (a4>0)) ((jj7).bind λm=>let o:=O b.length
 cond (inR o m.length) (let l:=N m o.toNat Y
 let a0:=O g.length
 (j09 a5 q a0).bind λc=>(j1f c.2.1 c.2.2 3).bind λd=>(j1f d.2.1 d.2.2 2).bind λa=>cond a.1 ((j5d a.2.1 a.2.2).bind λj=>let w:W Int:=[0,40,100,12]
 (j1x j.2.1 j.2.2 w).bind λk=>let v:=w64 (3600*k.1)
 let t:W Int:=[0,11,24,1]
 (j1x k.2.1 k.2.2 t).bind λf=>let u:=w64 (3600*f.1)
 let p:al:=[(l,(c.1,(j.1,(v,(u,d.1)))))]
 cond (L (U b+U p<=aG)) (let s:al:=b++p
 let a1:=w64 (a4-1)
 K (.inl (a1,f.2.1,f.2.2,g,s))) X) (let y:W Int:=[0,40,100,12]
 (j1x a.2.1 a.2.2 y).bind λe=>let x:=w64 (3600*e.1)
 let a3:W Int:=[0,11,24,1]
 (j1x e.2.1 e.2.2 a3).bind λi=>let a2:=w64 (3600*i.1)
 let n:al:=[(l,(c.1,(([]:af),(x,(a2,d.1)))))]
 cond (L (U b+U n<=aG)) (let r:al:=b++n
 let z:=w64 (a4-1)
 K (.inl (z,i.2.1,i.2.2,g,r))) X)) X) (K (.inr (a5,q,g,b)))
def JF[LP](d:J)(e:W J)(a:J)(c:ak)(b:al):M ((W J)×J×ak×al):=LP.lp (unc5 j3n) (d,e,a,c,b)
theorem YK(d e a c b):JF d e a c b=lpK (j3n d e a c b) (λh=>JF h.1 h.2.1 h.2.2.1 h.2.2.2.1 h.2.2.2.2):=bc _ _
def j3o(m o p:J)(q:W J)(e:J)(n:S)(d:J)(j:ak)(i:al)(g:ao)(c:W J):M ((J×J×J×(W J)×J×S×J×ak×al×ao×(W J)) ⊕ (J×(W J)×J×S×J×ak×al×ao×(W J))):=cond (L (o>0)) ((j09 q e 6).bind λb=>let k:=w64 (1+b.1)
 let a:=w64 (p+k)
 cond (L (U c+U [a]<=aG)) (let f:W Int:=c++[a]
 let l:=w64 (o-1)
 K (.inl (m,l,a,b.2.1,b.2.2,n,d,j,i,g,f))) X) (K (.inr (m,q,e,n,d,j,i,g,c)))
def JG[LP](i k g:J)(l:W J)(b:J)(j:S)(a:J)(f:ak)(e:al)(d:ao)(c:W J):M (J×(W J)×J×S×J×ak×al×ao×(W J)):=LP.lp (u8 unc3 j3o) (i,k,g,l,b,j,a,f,e,d,c)
theorem YL(i k g l b j a f e d c):JG i k g l b j a f e d c=lpK (j3o i k g l b j a f e d c) (λh=>JG h.1 h.2.1 h.2.2.1 h.2.2.2.1 h.2.2.2.2.1 h.2.2.2.2.2.1 h.2.2.2.2.2.2.1 h.2.2.2.2.2.2.2.1 h.2.2.2.2.2.2.2.2.1 h.2.2.2.2.2.2.2.2.2.1 h.2.2.2.2.2.2.2.2.2.2):=bc _ _
def j2l[LP](m:J)(n:W J)(g:J)(e:ak)(j:al)(i:ao):M ((J×(W J)×J×ak×al×ao) ⊕ ((W J)×J×ak×al×ao)):=cond (L (m>0)) (let k:=O e.length
 (j09 n g k).bind λb=>(j09 b.2.1 b.2.2 4).bind λc=>(JG m c.1 20454 c.2.1 c.2.2 (Á #[100,97,121,115]) b.1 e j i ([]:(W J))).bind λa=>let d:ao:=[(a.2.2.2.1,(a.2.2.2.2.1,a.2.2.2.2.2.2.2.2))]
 cond (L (U a.2.2.2.2.2.2.2.1+U d<=aG)) (let f:ao:=a.2.2.2.2.2.2.2.1++d
 let l:=w64 (a.1-1)
 K (.inl (l,a.2.1,a.2.2.1,a.2.2.2.2.2.1,a.2.2.2.2.2.2.1,f))) X) (K (.inr (n,g,e,j,i)))
def JH[LP](e:J)(f:W J)(a:J)(d:ak)(c:al)(b:ao):M ((W J)×J×ak×al×ao):=LP.lp (unc6 j2l) (e,f,a,d,c,b)
theorem OL(e f a d c b):JH e f a d c b=lpK (j2l e f a d c b) (λh=>JH h.1 h.2.1 h.2.2.1 h.2.2.2.1 h.2.2.2.2.1 h.2.2.2.2.2):=bc _ _
def jaR[LP](i:W J)(e:J):M (cF×(W J)×J):=(j09 i e 2).bind λb=>let k:=w64 (1+b.1)
 (JE k b.2.1 b.2.2 ([]:ak)).bind λg=>(j09 g.1 g.2.1 4).bind λd=>let j:=w64 (1+d.1)
 (JF j d.2.1 d.2.2 g.2.2 ([]:al)).bind λf=>(j09 f.1 f.2.1 2).bind λa=>(JH a.1 a.2.1 a.2.2 f.2.2.1 f.2.2.2 ([]:ao)).bind λc=>K ((c.2.2.1,(c.2.2.2.1,(c.2.2.2.2,([]:ar)))),c.1,c.2.1)
def j3p(a0:J)(a2:W J)(o:J)(z:ak)(b:al)(k:ao)(l:ar)(y:S)(d s r i n g f:J)(a1:S)(q u j t m e p:J)(c:W J):M ((J×(W J)×J×ak×al×ao×ar×S×J×J×J×J×J×J×J×S×J×J×J×J×J×J×J×(W J)) ⊕ ((W J)×J×ak×al×ao×ar×S×J×J×J×J×J×J×J×S×J×J×J×J×J×J×J×(W J))):=cond (L (a0>0)) (let w:=O b.length
 (j09 a2 o w).bind λa=>cond (L (U c+U [a.1]<=aG)) (let v:W Int:=c++[a.1]
 let x:=w64 (a0-1)
 K (.inl (x,a.2.1,a.2.2,z,b,k,l,y,d,s,r,i,n,g,f,a1,q,u,j,t,m,e,p,v))) X) (K (.inr (a2,o,z,b,k,l,y,d,s,r,i,n,g,f,a1,q,u,j,t,m,e,p,c)))
def FL[LP](w:J)(y:W J)(l:J)(v:ak)(o:al)(g:ao)(i:ar)(u:S)(a q p e k d c:J)(x:S)(n t f r j b m:J)(s:W J):M ((W J)×J×ak×al×ao×ar×S×J×J×J×J×J×J×J×S×J×J×J×J×J×J×J×(W J)):=LP.lp (u8 (u8 unc8) j3p) (w,y,l,v,o,g,i,u,a,q,p,e,k,d,c,x,n,t,f,r,j,b,m,s)
theorem YM(w y l v o g i u a q p e k d c x n t f r j b m s):FL w y l v o g i u a q p e k d c x n t f r j b m s=lpK (j3p w y l v o g i u a q p e k d c x n t f r j b m s) (λh=>FL h.1 h.2.1 h.2.2.1 h.2.2.2.1 h.2.2.2.2.1 h.2.2.2.2.2.1 h.2.2.2.2.2.2.1 h.2.2.2.2.2.2.2.1 h.2.2.2.2.2.2.2.2.1 h.2.2.2.2.2.2.2.2.2.1 h.2.2.2.2.2.2.2.2.2.2.1 h.2.2.2.2.2.2.2.2.2.2.2.1 h.2.2.2.2.2.2.2.2.2.2.2.2.1 h.2.2.2.2.2.2.2.2.2.2.2.2.2.1 h.2.2.2.2.2.2.2.2.2.2.2.2.2.2.1 h.2.2.2.2.2.2.2.2.2.2.2.2.2.2.2.1 h.2.2.2.2.2.2.2.2.2.2.2.2.2.2.2.2.1 h.2.2.2.2.2.2.2.2.2.2.2.2.2.2.2.2.2.1 h.2.2.2.2.2.2.2.2.2.2.2.2.2.2.2.2.2.2.1 h.2.2.2.2.2.2.2.2.2.2.2.2.2.2.2.2.2.2.2.1 h.2.2.2.2.2.2.2.2.2.2.2.2.2.2.2.2.2.2.2.2.1 h.2.2.2.2.2.2.2.2.2.2.2.2.2.2.2.2.2.2.2.2.2.1 h.2.2.2.2.2.2.2.2.2.2.2.2.2.2.2.2.2.2.2.2.2.2.1 h.2.2.2.2.2.2.2.2.2.2.2.2.2.2.2.2.2.2.2.2.2.2.2):=bc _ _
def jaS[LP](b5:W J)(a0:J)(c:cF)(j:S):M (fj×(W J)×J):=
 let b9:=O c.1.length
 (j09 b5 a0 b9).bind λx=>(j09 x.2.1 x.2.2 6).bind λa3=>let b8:=w64 (20454+a3.1)
 let b4:=w64 (b8-2)
 let c0:W Int:=[0,32400,7200,9000,79200,1]
 (j1x a3.2.1 a3.2.2 c0).bind λw=>(j09 w.2.1 w.2.2 3).bind λu=>(j09 u.2.1 u.2.2 2).bind λt=>let b6:=w64 (1+t.1)
 cond (u.1==0) (let c1:W Int:=[6,8,12,24,23,49]
 (j1x t.2.1 t.2.2 c1).bind λa2=>(j09 a2.2.1 a2.2.2 3).bind λz=>let c3:=w64 (1+z.1)
 (FL c3 z.2.1 z.2.2 c.1 c.2.1 c.2.2.1 c.2.2.2 Y 0 0 0 0 0 0 0 j x.1 b4 w.1 u.1 a2.1 0 0 ([]:(W J))).bind λb=>(j1f b.1 b.2.1 2).bind λr=>cond r.1 ((j5d r.2.1 r.2.2).bind λv=>(j1f v.2.1 v.2.2 4).bind λs=>let c4:=O b.2.2.2.2.1.length
 cond (cond s.1 (L (c4>0)) Z) (let c2:=O b.2.2.2.2.1.length
 (j09 s.2.1 s.2.2 c2).bind λy=>(j09 y.2.1 y.2.2 2).bind λa1=>let b7:=w64 (1+a1.1)
 K ((b.2.2.2.2.2.2.2.2.2.2.2.2.2.2.1,(b.2.2.2.2.2.2.2.2.2.2.2.2.2.2.2.1,((b.2.2.2.2.2.2.2.2.2.2.2.2.2.2.2.2.1,b.2.2.2.2.2.2.2.2.2.2.2.2.2.2.2.2.2.1),(b.2.2.2.2.2.2.2.2.2.2.2.2.2.2.2.2.2.2.1,(b.2.2.2.2.2.2.2.2.2.2.2.2.2.2.2.2.2.2.2.1,(b.2.2.2.2.2.2.2.2.2.2.2.2.2.2.2.2.2.2.2.2.2.2,(v.1,(y.1,b7)))))))),a1.2.1,a1.2.2)) (K ((b.2.2.2.2.2.2.2.2.2.2.2.2.2.2.1,(b.2.2.2.2.2.2.2.2.2.2.2.2.2.2.2.1,((b.2.2.2.2.2.2.2.2.2.2.2.2.2.2.2.2.1,b.2.2.2.2.2.2.2.2.2.2.2.2.2.2.2.2.2.1),(b.2.2.2.2.2.2.2.2.2.2.2.2.2.2.2.2.2.2.1,(b.2.2.2.2.2.2.2.2.2.2.2.2.2.2.2.2.2.2.2.1,(b.2.2.2.2.2.2.2.2.2.2.2.2.2.2.2.2.2.2.2.2.2.2,(v.1,(b.2.2.2.2.2.2.2.2.2.2.2.2.2.2.2.2.2.2.2.2.1,b.2.2.2.2.2.2.2.2.2.2.2.2.2.2.2.2.2.2.2.2.2.1)))))))),s.2.1,s.2.2))) ((j1f r.2.1 r.2.2 4).bind λd=>let a7:=O b.2.2.2.2.1.length
 cond (cond d.1 (L (a7>0)) Z) (let b2:=O b.2.2.2.2.1.length
 (j09 d.2.1 d.2.2 b2).bind λk=>(j09 k.2.1 k.2.2 2).bind λl=>let b1:=w64 (1+l.1)
 K ((b.2.2.2.2.2.2.2.2.2.2.2.2.2.2.1,(b.2.2.2.2.2.2.2.2.2.2.2.2.2.2.2.1,((b.2.2.2.2.2.2.2.2.2.2.2.2.2.2.2.2.1,b.2.2.2.2.2.2.2.2.2.2.2.2.2.2.2.2.2.1),(b.2.2.2.2.2.2.2.2.2.2.2.2.2.2.2.2.2.2.1,(b.2.2.2.2.2.2.2.2.2.2.2.2.2.2.2.2.2.2.2.1,(b.2.2.2.2.2.2.2.2.2.2.2.2.2.2.2.2.2.2.2.2.2.2,(([]:af),(k.1,b1)))))))),l.2.1,l.2.2)) (K ((b.2.2.2.2.2.2.2.2.2.2.2.2.2.2.1,(b.2.2.2.2.2.2.2.2.2.2.2.2.2.2.2.1,((b.2.2.2.2.2.2.2.2.2.2.2.2.2.2.2.2.1,b.2.2.2.2.2.2.2.2.2.2.2.2.2.2.2.2.2.1),(b.2.2.2.2.2.2.2.2.2.2.2.2.2.2.2.2.2.2.1,(b.2.2.2.2.2.2.2.2.2.2.2.2.2.2.2.2.2.2.2.1,(b.2.2.2.2.2.2.2.2.2.2.2.2.2.2.2.2.2.2.2.2.2.2,(([]:af),(b.2.2.2.2.2.2.2.2.2.2.2.2.2.2.2.2.2.2.2.2.1,b.2.2.2.2.2.2.2.2.2.2.2.2.2.2.2.2.2.2.2.2.2.1)))))))),d.2.1,d.2.2)))) ((j09 t.2.1 t.2.2 3).bind λn=>let b3:=w64 (1+n.1)
 (FL b3 n.2.1 n.2.2 c.1 c.2.1 c.2.2.1 c.2.2.2 Y 0 0 0 0 0 0 0 j x.1 b4 w.1 u.1 b6 0 0 ([]:(W J))).bind λa=>(j1f a.1 a.2.1 2).bind λg=>cond g.1 ((j5d g.2.1 g.2.2).bind λi=>(j1f i.2.1 i.2.2 4).bind λf=>let a5:=O a.2.2.2.2.1.length
 cond (cond f.1 (L (a5>0)) Z) (let a4:=O a.2.2.2.2.1.length
 (j09 f.2.1 f.2.2 a4).bind λp=>(j09 p.2.1 p.2.2 2).bind λo=>let a9:=w64 (1+o.1)
 K ((a.2.2.2.2.2.2.2.2.2.2.2.2.2.2.1,(a.2.2.2.2.2.2.2.2.2.2.2.2.2.2.2.1,((a.2.2.2.2.2.2.2.2.2.2.2.2.2.2.2.2.1,a.2.2.2.2.2.2.2.2.2.2.2.2.2.2.2.2.2.1),(a.2.2.2.2.2.2.2.2.2.2.2.2.2.2.2.2.2.2.1,(a.2.2.2.2.2.2.2.2.2.2.2.2.2.2.2.2.2.2.2.1,(a.2.2.2.2.2.2.2.2.2.2.2.2.2.2.2.2.2.2.2.2.2.2,(i.1,(p.1,a9)))))))),o.2.1,o.2.2)) (K ((a.2.2.2.2.2.2.2.2.2.2.2.2.2.2.1,(a.2.2.2.2.2.2.2.2.2.2.2.2.2.2.2.1,((a.2.2.2.2.2.2.2.2.2.2.2.2.2.2.2.2.1,a.2.2.2.2.2.2.2.2.2.2.2.2.2.2.2.2.2.1),(a.2.2.2.2.2.2.2.2.2.2.2.2.2.2.2.2.2.2.1,(a.2.2.2.2.2.2.2.2.2.2.2.2.2.2.2.2.2.2.2.1,(a.2.2.2.2.2.2.2.2.2.2.2.2.2.2.2.2.2.2.2.2.2.2,(i.1,(a.2.2.2.2.2.2.2.2.2.2.2.2.2.2.2.2.2.2.2.2.1,a.2.2.2.2.2.2.2.2.2.2.2.2.2.2.2.2.2.2.2.2.2.1)))))))),f.2.1,f.2.2))) ((j1f g.2.1 g.2.2 4).bind λe=>let b0:=O a.2.2.2.2.1.length
 cond (cond e.1 (L (b0>0)) Z) (let a6:=O a.2.2.2.2.1.length
 (j09 e.2.1 e.2.2 a6).bind λq=>(j09 q.2.1 q.2.2 2).bind λm=>let a8:=w64 (1+m.1)
 K ((a.2.2.2.2.2.2.2.2.2.2.2.2.2.2.1,(a.2.2.2.2.2.2.2.2.2.2.2.2.2.2.2.1,((a.2.2.2.2.2.2.2.2.2.2.2.2.2.2.2.2.1,a.2.2.2.2.2.2.2.2.2.2.2.2.2.2.2.2.2.1),(a.2.2.2.2.2.2.2.2.2.2.2.2.2.2.2.2.2.2.1,(a.2.2.2.2.2.2.2.2.2.2.2.2.2.2.2.2.2.2.2.1,(a.2.2.2.2.2.2.2.2.2.2.2.2.2.2.2.2.2.2.2.2.2.2,(([]:af),(q.1,a8)))))))),m.2.1,m.2.2)) (K ((a.2.2.2.2.2.2.2.2.2.2.2.2.2.2.1,(a.2.2.2.2.2.2.2.2.2.2.2.2.2.2.2.1,((a.2.2.2.2.2.2.2.2.2.2.2.2.2.2.2.2.1,a.2.2.2.2.2.2.2.2.2.2.2.2.2.2.2.2.2.1),(a.2.2.2.2.2.2.2.2.2.2.2.2.2.2.2.2.2.2.1,(a.2.2.2.2.2.2.2.2.2.2.2.2.2.2.2.2.2.2.2.1,(a.2.2.2.2.2.2.2.2.2.2.2.2.2.2.2.2.2.2.2.2.2.2,(([]:af),(a.2.2.2.2.2.2.2.2.2.2.2.2.2.2.2.2.2.2.2.2.1,a.2.2.2.2.2.2.2.2.2.2.2.2.2.2.2.2.2.2.2.2.2.1)))))))),e.2.1,e.2.2))))
def j6R(d:W J)(c:J):M (J×(W J)×J):=(j09 d c 576).bind λe=>let j:=w64 (3600*e.1)
 let g:=w64 (1767139200+j)
 (j1f e.2.1 e.2.2 3).bind λa=>cond a.1 (let f:W Int:=[(-1),1,1800,3599]
 (j1x a.2.1 a.2.2 f).bind λb=>let i:=w64 (g+b.1)
 K (i,b.2.1,b.2.2)) (K (g,a.2.1,a.2.2))
def jc7(m:W J)(l:J)(n:cF):M (nO×(W J)×J):=
 let j:=O n.2.1.length
 (j09 m l 3).bind λa=>(j09 a.2.1 a.2.2 j).bind λe=>(j6R e.2.1 e.2.2).bind λb=>let p:W Int:=[3600,86400,7,259200,40000]
 (j1x b.2.1 b.2.2 p).bind λc=>let f:=w64 (b.1+c.1)
 cond (a.1==2) (cond (L (j<2)) (K ((0,(e.1,(0,(b.1,f)))),c.2.1,c.2.2)) (let r:=w64 (e.1+1)
 let q:=w64 (j-1)
 (j09 c.2.1 c.2.2 q).bind λi=>let o:=w64 (r+i.1)
 cond (!(j==0)) (let k:=Ä o j
 cond (a.1==1) ((j1f i.2.1 i.2.2 4).bind λg=>cond g.1 (K ((a.1,((-1),(k,(b.1,f)))),g.2.1,g.2.2)) (K ((a.1,(e.1,(k,(b.1,f)))),g.2.1,g.2.2))) (K ((a.1,(e.1,(k,(b.1,f)))),i.2.1,i.2.2))) X)) (cond (a.1==1) ((j1f c.2.1 c.2.2 4).bind λd=>cond d.1 (K ((a.1,((-1),(0,(b.1,f)))),d.2.1,d.2.2)) (K ((a.1,(e.1,(0,(b.1,f)))),d.2.1,d.2.2))) (K ((a.1,(e.1,(0,(b.1,f)))),c.2.1,c.2.2)))
def j2X[LP](o r:J)(q:W J)(j:J)(n:ak)(c:al)(e:ao)(p:S)(d:ar)(b:aX):M ((J×J×(W J)×J×ak×al×ao×S×ar×aX) ⊕ (J×(W J)×J×ak×al×ao×S×ar×aX)):=cond (L (r>0)) ((jj7).bind λf=>let g:=O b.length
 cond (inR g f.length) (let k:=N f g.toNat Y
 (jaS q j (n,(c,(e,d))) k).bind λa=>let i:aX:=[(a.1.1,(a.1.2.1,((a.1.2.2.1.1,a.1.2.2.1.2),(a.1.2.2.2.1,(a.1.2.2.2.2.1,(a.1.2.2.2.2.2.1,(a.1.2.2.2.2.2.2.1,(a.1.2.2.2.2.2.2.2.1,a.1.2.2.2.2.2.2.2.2))))))))]
 cond (L (U b+U i<=aG)) (let m:aX:=b++i
 let l:=w64 (r-1)
 K (.inl (o,l,a.2.1,a.2.2,n,c,e,p,d,m))) X) X) (K (.inr (o,q,j,n,c,e,p,d,b)))
def FM[LP](f k:J)(j:W J)(b:J)(i:ak)(a:al)(e:ao)(g:S)(c:ar)(d:aX):M (J×(W J)×J×ak×al×ao×S×ar×aX):=LP.lp (u8 unc2 j2X) (f,k,j,b,i,a,e,g,c,d)
theorem YN(f k j b i a e g c d):FM f k j b i a e g c d=lpK (j2X f k j b i a e g c d) (λh=>FM h.1 h.2.1 h.2.2.1 h.2.2.2.1 h.2.2.2.2.1 h.2.2.2.2.2.1 h.2.2.2.2.2.2.1 h.2.2.2.2.2.2.2.1 h.2.2.2.2.2.2.2.2.1 h.2.2.2.2.2.2.2.2.2):=bc _ _
def j2Y(m o:J)(p:W J)(g:J)(l:ak)(c:al)(e:ao)(n:S)(d:ar)(i:aX)(b:ae):M ((J×J×(W J)×J×ak×al×ao×S×ar×aX×ae) ⊕ (J×(W J)×J×ak×al×ao×S×ar×aX×ae)):=cond (L (o>0)) ((jc7 p g (l,(c,(e,d)))).bind λa=>let f:ae:=[(a.1.1,(a.1.2.1,(a.1.2.2.1,(a.1.2.2.2.1,a.1.2.2.2.2))))]
 cond (L (U b+U f<=aG)) (let k:ae:=b++f
 let j:=w64 (o-1)
 K (.inl (m,j,a.2.1,a.2.2,l,c,e,n,d,i,k))) X) (K (.inr (m,p,g,l,c,e,n,d,i,b)))
def JI[LP](g k:J)(l:W J)(c:J)(j:ak)(b:al)(f:ao)(i:S)(d:ar)(e:aX)(a:ae):M (J×(W J)×J×ak×al×ao×S×ar×aX×ae):=LP.lp (u8 unc3 j2Y) (g,k,l,c,j,b,f,i,d,e,a)
theorem YO(g k l c j b f i d e a):JI g k l c j b f i d e a=lpK (j2Y g k l c j b f i d e a) (λh=>JI h.1 h.2.1 h.2.2.1 h.2.2.2.1 h.2.2.2.2.1 h.2.2.2.2.2.1 h.2.2.2.2.2.2.1 h.2.2.2.2.2.2.2.1 h.2.2.2.2.2.2.2.2.1 h.2.2.2.2.2.2.2.2.2.1 h.2.2.2.2.2.2.2.2.2.2):=bc _ _
def j2Z[LP](q:J)(s:W J)(k:J)(r:ak)(j:al)(l:ao)(e:ar):M ((J×(W J)×J×ak×al×ao×ar) ⊕ ((W J)×J×ak×al×ao×ar)):=cond (L (q>0)) (let f:W ByteArray:=[(Á #[102,105,114,115,116]),(Á #[115,101,99,111,110,100]),(Á #[116,104,105,114,100])]
 let o:=O e.length
 let i:=Ä o 3
 cond (inR i f.length) (let p:=N f i.toNat Y
 (j09 s k 4).bind λc=>(FM q c.1 c.2.1 c.2.2 r j l p e ([]:aX)).bind λb=>(j09 b.2.1 b.2.2.1 4).bind λd=>(JI b.1 d.1 d.2.1 d.2.2 b.2.2.2.1 b.2.2.2.2.1 b.2.2.2.2.2.1 b.2.2.2.2.2.2.1 b.2.2.2.2.2.2.2.1 b.2.2.2.2.2.2.2.2 ([]:ae)).bind λa=>let g:ar:=[(a.2.2.2.2.2.2.1,(a.2.2.2.2.2.2.2.2.1,a.2.2.2.2.2.2.2.2.2))]
 cond (L (U a.2.2.2.2.2.2.2.1+U g<=aG)) (let n:ar:=a.2.2.2.2.2.2.2.1++g
 let m:=w64 (a.1-1)
 K (.inl (m,a.2.1,a.2.2.1,a.2.2.2.1,a.2.2.2.2.1,a.2.2.2.2.2.1,n))) X) X) (K (.inr (s,k,r,j,l,e)))
def JJ[LP](e:J)(g:W J)(b:J)(f:ak)(a:al)(d:ao)(c:ar):M ((W J)×J×ak×al×ao×ar):=LP.lp (unc7 j2Z) (e,g,b,f,a,d,c)
theorem YP(e g b f a d c):JJ e g b f a d c=lpK (j2Z e g b f a d c) (λh=>JJ h.1 h.2.1 h.2.2.1 h.2.2.2.1 h.2.2.2.2.1 h.2.2.2.2.2.1 h.2.2.2.2.2.2):=bc _ _
def j9X[LP](f:W J)(d e:J):M (cF×(W J)×J):=(jaR f d).bind λa=>(j09 a.2.1 a.2.2 e).bind λc=>let g:=w64 (1+c.1)
 (JJ g c.2.1 c.2.2 a.1.1 a.1.2.1 a.1.2.2.1 ([]:ar)).bind λb=>K ((b.2.2.1,(b.2.2.2.1,(b.2.2.2.2.1,b.2.2.2.2.2))),b.1,b.2.1)
def jol(a:J):M Bool:=K (cond (L (a>=48)) (L (a<=57)) Z)
def j7E(a:S)(b:J):M ((S×J) ⊕ (Ã ⊕ Å)):=
 let l:=O (Â a)
 cond (L (b<l)) (cond (inR b (Â a)) (let d:=dr a b
 cond ((inR b (Â a)) || !(!(L (d<97)))) (let f:=dr a b
 cond ((inR b (Â a)) || !(cond (L (d<97)) À (L (f>122)))) (let i:=dr a b
 cond (cond (L (d<97)) À (L (f>122))) ((jol i).bind λc=>cond ((inR b (Â a)) || !(!c)) (let e:=dr a b
 cond ((inR b (Â a)) || !(cond (!c) (e != 95) Z)) (let g:=dr a b
 cond (cond (cond (!c) (e != 95) Z) (g != 45) Z) (K (.inr (.inl Z))) (let j:=w64 (b+1)
 K (.inl (a,j)))) X) X) (cond ((inR b (Â a)) || !Z) (let n:=dr a b
 cond ((inR b (Â a)) || !Z) (let m:=dr a b
 let k:=w64 (b+1)
 K (.inl (a,k))) X) X)) X) X) X) (K (.inr (.inr ())))
def CK[LP](a:S)(b:J):M (Ã ⊕ Å):=LP.lp (unc2 j7E) (a,b)
theorem YQ(a b):CK a b=lpK (j7E a b) (λh=>CK h.1 h.2):=bc _ _
def jno[LP](a:S):M Bool:=
 let d:=O (Â a)
 let c:=O (Â a)
 cond ((inR 0 (Â a)) || !(!(cond (L (d<1)) À (L (c>24))))) (let e:=dr a 0
 let b:Bool:=cond (cond (L (d<1)) À (L (c>24))) À (L (e<97))
 cond ((inR 0 (Â a)) || !(!b)) (let f:=dr a 0
 cond (cond b À (L (f>122))) (K Z) ((CK a 0).bind λg=>sumC g (λi=>K i) (λj=>K À))) X) X
def j7F(a:W S)(b d:J):M (((W S)×J×J) ⊕ (J ⊕ Å)):=cond (L (d<b)) (cond (inR d a.length) (let f:=N a d.toNat Y
 cond (inR b a.length) (let e:=N a b.toNat Y
 cond (É f==É e) (K (.inr (.inl 4))) (let c:=w64 (d+1)
 K (.inl (a,b,c)))) X) X) (K (.inr (.inr ())))
def FN[LP](a:W S)(b c:J):M (J ⊕ Å):=LP.lp (unc3 j7F) (a,b,c)
theorem YR(a b c):FN a b c=lpK (j7F a b c) (λh=>FN h.1 h.2.1 h.2.2):=bc _ _
def jdA[LP](b:W S)(a:J):M Int:=cond (inR a b.length) (let e:=N b a.toNat Y
 (jno e).bind λc=>cond (!c) (K 2) ((FN b a 0).bind λd=>sumC d (λf=>K f) (λg=>K 0))) X
def jaT(a b c:J):M Bool:=K (cond (L (a>=b)) (L (a<=c)) Z)
def jic(a:wO):M Bool:=(jaT a.1 1970 2240).bind λi=>cond i ((jaT a.2.1 a.1 2240).bind λf=>cond f ((jaT a.2.2.1 1 12).bind λd=>cond d ((jaT a.2.2.2.1 1 5).bind λe=>cond e ((jaT a.2.2.2.2.1 0 6).bind λg=>cond g ((jaT a.2.2.2.2.2.1 0 86399).bind λb=>cond b ((jaT a.2.2.2.2.2.2 (-64800) 64800).bind λc=>K c) (K Z)) (K Z)) (K Z)) (K Z)) (K Z)) (K Z)
def j1X(a:J):M Bool:=
 let c:=Ä a 4
 let d:=Ä a 100
 let b:=Ä a 400
 K (cond (c==0) (cond (d != 0) À (b==0)) Z)
def jgO(b a:J):M Int:=cond (a==1) (cond (a==1) (K 31) (cond (a==4) (cond (a==4) (K 30) (cond (a==2) ((j1X b).bind λa4=>cond a4 (K 29) (K 28)) (K 0))) (cond (a==6) (cond (a==6) (K 30) (cond (a==2) ((j1X b).bind λa2=>cond a2 (K 29) (K 28)) (K 0))) (cond (a==9) (cond (a==9) (K 30) (cond (a==2) ((j1X b).bind λw=>cond w (K 29) (K 28)) (K 0))) (cond (a==11) (K 30) (cond (a==2) ((j1X b).bind λa1=>cond a1 (K 29) (K 28)) (K 0))))))) (cond (a==3) (cond (a==3) (K 31) (cond (a==4) (cond (a==4) (K 30) (cond (a==2) ((j1X b).bind λz=>cond z (K 29) (K 28)) (K 0))) (cond (a==6) (cond (a==6) (K 30) (cond (a==2) ((j1X b).bind λv=>cond v (K 29) (K 28)) (K 0))) (cond (a==9) (cond (a==9) (K 30) (cond (a==2) ((j1X b).bind λx=>cond x (K 29) (K 28)) (K 0))) (cond (a==11) (K 30) (cond (a==2) ((j1X b).bind λa0=>cond a0 (K 29) (K 28)) (K 0))))))) (cond (a==5) (cond (a==5) (K 31) (cond (a==4) (cond (a==4) (K 30) (cond (a==2) ((j1X b).bind λy=>cond y (K 29) (K 28)) (K 0))) (cond (a==6) (cond (a==6) (K 30) (cond (a==2) ((j1X b).bind λa3=>cond a3 (K 29) (K 28)) (K 0))) (cond (a==9) (cond (a==9) (K 30) (cond (a==2) ((j1X b).bind λm=>cond m (K 29) (K 28)) (K 0))) (cond (a==11) (K 30) (cond (a==2) ((j1X b).bind λo=>cond o (K 29) (K 28)) (K 0))))))) (cond (a==7) (cond (a==7) (K 31) (cond (a==4) (cond (a==4) (K 30) (cond (a==2) ((j1X b).bind λt=>cond t (K 29) (K 28)) (K 0))) (cond (a==6) (cond (a==6) (K 30) (cond (a==2) ((j1X b).bind λu=>cond u (K 29) (K 28)) (K 0))) (cond (a==9) (cond (a==9) (K 30) (cond (a==2) ((j1X b).bind λc=>cond c (K 29) (K 28)) (K 0))) (cond (a==11) (K 30) (cond (a==2) ((j1X b).bind λn=>cond n (K 29) (K 28)) (K 0))))))) (cond (a==8) (cond (a==8) (K 31) (cond (a==4) (cond (a==4) (K 30) (cond (a==2) ((j1X b).bind λr=>cond r (K 29) (K 28)) (K 0))) (cond (a==6) (cond (a==6) (K 30) (cond (a==2) ((j1X b).bind λd=>cond d (K 29) (K 28)) (K 0))) (cond (a==9) (cond (a==9) (K 30) (cond (a==2) ((j1X b).bind λf=>cond f (K 29) (K 28)) (K 0))) (cond (a==11) (K 30) (cond (a==2) ((j1X b).bind λq=>cond q (K 29) (K 28)) (K 0))))))) (cond (a==10) (cond (a==10) (K 31) (cond (a==4) (cond (a==4) (K 30) (cond (a==2) ((j1X b).bind λp=>cond p (K 29) (K 28)) (K 0))) (cond (a==6) (cond (a==6) (K 30) (cond (a==2) ((j1X b).bind λl=>cond l (K 29) (K 28)) (K 0))) (cond (a==9) (cond (a==9) (K 30) (cond (a==2) ((j1X b).bind λs=>cond s (K 29) (K 28)) (K 0))) (cond (a==11) (K 30) (cond (a==2) ((j1X b).bind λe=>cond e (K 29) (K 28)) (K 0))))))) (cond (a==12) (K 31) (cond (a==4) (cond (a==4) (K 30) (cond (a==2) ((j1X b).bind λg=>cond g (K 29) (K 28)) (K 0))) (cond (a==6) (cond (a==6) (K 30) (cond (a==2) ((j1X b).bind λj=>cond j (K 29) (K 28)) (K 0))) (cond (a==9) (cond (a==9) (K 30) (cond (a==2) ((j1X b).bind λi=>cond i (K 29) (K 28)) (K 0))) (cond (a==11) (K 30) (cond (a==2) ((j1X b).bind λk=>cond k (K 29) (K 28)) (K 0))))))))))))
def jl4(a:uW):M Bool:=cond (L (a.1>=1970)) (cond (L (a.1<=2240)) (cond (L (a.2.1>=1)) (cond (L (a.2.1<=12)) (cond (L (a.2.2>=1)) ((jgO a.1 a.2.1).bind λb=>K (L (a.2.2<=b))) (K Z)) (K Z)) (K Z)) (K Z)) (K Z)
def jl5(a:J):M Int:=
 let m:=w64 (a-1970)
 let j:=w64 (m*365)
 let l:=w64 (a-1969)
 let k:=w64 (Æ l 4)
 let i:=w64 (j+k)
 let b:=w64 (a-1901)
 let c:=w64 (Æ b 100)
 let d:=w64 (i-c)
 let g:=w64 (a-1601)
 let f:=w64 (Æ g 400)
 let e:=w64 (d+f)
 K e
def j8y(i g f a b:J):M ((J×J×J×J×J) ⊕ (J×J×J×J)):=cond (L (g<a)) ((jgO f g).bind λd=>let e:=w64 (i+d)
 let c:=w64 (g+1)
 K (.inl (e,c,f,a,b))) (K (.inr (i,f,a,b)))
def JK[LP](d e c b a:J):M (J×J×J×J):=LP.lp (unc5 j8y) (d,e,c,b,a)
theorem YS(d e c b a):JK d e c b a=lpK (j8y d e c b a) (λh=>JK h.1 h.2.1 h.2.2.1 h.2.2.2.1 h.2.2.2.2):=bc _ _
def jrf[LP](a:uW):M (J×J):=(jl4 (a.1,(a.2.1,a.2.2))).bind λf=>cond (!f) (K (0,1)) ((jl5 a.1).bind λe=>(JK e 1 a.1 a.2.1 a.2.2).bind λb=>let c:=w64 (b.1+b.2.2.2)
 let d:=w64 (c-1)
 K (d,0))
def jea(a:J):M Int:=
 let d:=Ä a 7
 let b:=w64 (d+10)
 let c:=Ä b 7
 K c
def j8z(e f g i d a:J):M ((J×J×J×J×J×J) ⊕ (J×J×J×J×J)):=(jea a).bind λc=>cond (c != i) (let b:=w64 (a+1)
 K (.inl (e,f,g,i,d,b))) (K (.inr (e,f,g,d,a)))
def JL[LP](c d e f b a:J):M (J×J×J×J×J):=LP.lp (unc6 j8z) (c,d,e,f,b,a)
theorem YT(c d e f b a):JL c d e f b a=lpK (j8z c d e f b a) (λh=>JL h.1 h.2.1 h.2.2.1 h.2.2.2.1 h.2.2.2.2.1 h.2.2.2.2.2):=bc _ _
def j8A(g i f a:J):M ((J×J×J×J) ⊕ (J)):=
 let b:=w64 (a+7)
 (jgO g i).bind λe=>let c:=w64 (f+e)
 cond (L (b<c)) (let d:=w64 (a+7)
 K (.inl (g,i,f,d))) (K (.inr a))
def JM[LP](c d b a:J):M Int:=LP.lp (unc4 j8A) (c,d,b,a)
theorem YU(c d b a):JM c d b a=lpK (j8A c d b a) (λh=>JM h.1 h.2.1 h.2.2.1 h.2.2.2):=bc _ _
def jrg[LP](f c b a:J):M (J×J):=(jrf (f,(c,1))).bind λe=>let l:Bool:=cond (cond (e.2 != 0) À (L (b<1))) À (L (b>5))
 let j:Bool:=cond (cond l À (L (a<0))) À (L (a>6))
 cond j (K (0,1)) ((JL f c b a e.1 e.1).bind λd=>cond (L (d.2.2.1<5)) (let g:=w64 (d.2.2.1-1)
 let k:=w64 (7*g)
 let i:=w64 (d.2.2.2.2+k)
 K (i,0)) ((JM d.1 d.2.1 d.2.2.2.1 d.2.2.2.2).bind λm=>K (m,0)))
def j3q(i:aZ)(j k c f a:J)(d:af):M ((aZ×J×J×J×J×J×af) ⊕ (aZ×J×J×J×J×J×af)):=cond (L (c>0)) (let b:=w64 (c-1)
 cond (inR b d.length) (let g:=(N d b.toNat (0,0)).1
 cond (L (g>f)) (let e:=w64 (c-1)
 K (.inl (i,j,k,e,f,a,d))) (K (.inr (i,j,k,c,f,a,d)))) X) (K (.inr (i,j,k,c,f,a,d)))
def FO[LP](b:aZ)(c e f d a:J)(g:af):M (aZ×J×J×J×J×J×af):=LP.lp (unc7 j3q) (b,c,e,f,d,a,g)
theorem YV(b c e f d a g):FO b c e f d a g=lpK (j3q b c e f d a g) (λh=>FO h.1 h.2.1 h.2.2.1 h.2.2.2.1 h.2.2.2.2.1 h.2.2.2.2.2.1 h.2.2.2.2.2.2):=bc _ _
def j3r[LP](c:aZ)(d t:J)(v:af):M ((aZ×J×J×af) ⊕ (aZ×J×af)):=cond (inR d c.length) (let m:=N c d.toNat (0,(0,(0,(0,(0,(0,0))))))
 cond (L (t<=m.2.1)) (cond (inR d c.length) (let p:=N c d.toNat (0,(0,(0,(0,(0,(0,0))))))
 cond (inR d c.length) (let s:=N c d.toNat (0,(0,(0,(0,(0,(0,0))))))
 cond (inR d c.length) (let n:=N c d.toNat (0,(0,(0,(0,(0,(0,0))))))
 (jrg t p.2.2.1 s.2.2.2.1 n.2.2.2.2.1).bind λl=>let j:=w64 (l.1*86400)
 cond (inR d c.length) (let r:=N c d.toNat (0,(0,(0,(0,(0,(0,0))))))
 let o:=w64 (j+r.2.2.2.2.2.1)
 cond (inR d c.length) (let k:=N c d.toNat (0,(0,(0,(0,(0,(0,0))))))
 let i:=O v.length
 (FO c d t i o k.2.2.2.2.2.2 v).bind λa=>let g:af:=[(a.2.2.2.2.1,a.2.2.2.2.2.1)]
 cond (L (U a.2.2.2.2.2.2+U g<=aG)) (let b:af:=a.2.2.2.2.2.2++g
 let e:=w64 (a.2.2.2.1+1)
 cond (L (0<=e)&&L (e<=(O b.length))) (cond (L (0<=a.2.2.2.1)&&L (a.2.2.2.1<=(O b.length))) (let f:af:=over b e.toNat (Ì a.2.2.2.1.toNat b)
 let w:=O (min (U (Ì a.2.2.2.1.toNat b)) (U b-e.toNat))
 cond (inR a.2.2.2.1 f.length) (let u:af:=È f a.2.2.2.1.toNat (a.2.2.2.2.1,a.2.2.2.2.2.1)
 let q:=w64 (a.2.2.1+1)
 K (.inl (a.1,a.2.1,q,u))) X) X) X) X) X) X) X) X) X) (K (.inr (c,d,v)))) X
def JN[LP](b:aZ)(a d:J)(c:af):M (aZ×J×af):=LP.lp (unc4 j3r) (b,a,d,c)
theorem YW(a b c d):JN a b c d=lpK (j3r a b c d) (λh=>JN h.1 h.2.1 h.2.2.1 h.2.2.2):=bc _ _
def j3s[LP](b:aZ)(e:J)(g:af):M ((aZ×J×af) ⊕ (af)):=
 let c:=O b.length
 cond (L (e<c)) (cond (inR e b.length) (let d:=N b e.toNat (0,(0,(0,(0,(0,(0,0))))))
 (JN b e d.1 g).bind λa=>let f:=w64 (a.2.1+1)
 K (.inl (a.1,f,a.2.2))) X) (K (.inr g))
def FP[LP](b:aZ)(a:J)(c:af):M af:=LP.lp (unc3 j3s) (b,a,c)
theorem YX(b a c):FP b a c=lpK (j3s b a c) (λh=>FP h.1 h.2.1 h.2.2):=bc _ _
def jaU[LP](a:aZ):M af:=(FP a 0 ([]:af)).bind λb=>K b
def j3t(o c:J)(n:S)(d:J)(a:aZ):M ((J×J×S×J×aZ) ⊕ (J ⊕ (J×S×J×aZ))):=
 let j:=O a.length
 cond (L (c<j)) (cond (inR c a.length) (let b:=N a c.toNat (0,(0,(0,(0,(0,(0,0))))))
 (jic (b.1,(b.2.1,(b.2.2.1,(b.2.2.2.1,(b.2.2.2.2.1,(b.2.2.2.2.2.1,b.2.2.2.2.2.2))))))).bind λe=>cond (!e) (K (.inr (.inl 1))) (cond (inR c a.length) (let f:=N a c.toNat (0,(0,(0,(0,(0,(0,0))))))
 cond (inR c a.length) (let k:=N a c.toNat (0,(0,(0,(0,(0,(0,0))))))
 let g:=w64 (f.2.1-k.1)
 let m:=w64 (g+1)
 let l:=w64 (o+m)
 let i:=w64 (c+1)
 K (.inl (l,i,n,d,a))) X) X)) X) (K (.inr (.inr (o,n,d,a))))
def FQ[LP](d e:J)(c:S)(b:J)(a:aZ):M (J ⊕ (J×S×J×aZ)):=LP.lp (unc5 j3t) (d,e,c,b,a)
theorem YY(d e c b a):FQ d e c b a=lpK (j3t d e c b a) (λh=>FQ h.1 h.2.1 h.2.2.1 h.2.2.2.1 h.2.2.2.2):=bc _ _
def j3u(t e:J)(d c:af):M ((J×J×af×af) ⊕ (J ⊕ af)):=
 let q:=O c.length
 cond (L (e<q)) (cond (inR e c.length) (let x:=(N c e.toNat (0,0)).2
 cond (x==t) (let o:=w64 (e+1)
 K (.inl (t,o,d,c))) (cond (inR e c.length) (let v:=(N c e.toNat (0,0)).1
 let b:=w64 (v-t)
 cond (inR e c.length) (let a:=(N c e.toNat (0,0)).2
 let p:=w64 (a-t)
 (jaT p (-86399) 86399).bind λw=>cond (!w) (K (.inr (.inl 6))) ((jaT b 0 8589934592).bind λu=>cond (!u) (K (.inr (.inl 6))) (let r:=O d.length
 cond (L (r>0)) (let j:=O d.length
 let i:=w64 (j-1)
 cond (inR i d.length) (let n:=(N d i.toNat (0,0)).1
 let m:=w64 (b-n)
 cond (L (m<604800)) (K (.inr (.inl 6))) (let g:af:=[(b,a)]
 cond (L (U d+U g<=aG)) (let l:af:=d++g
 let s:=w64 (e+1)
 K (.inl (a,s,l,c))) X)) X) (let f:af:=[(b,a)]
 cond (L (U d+U f<=aG)) (let k:af:=d++f
 let y:=w64 (e+1)
 K (.inl (a,y,k,c))) X)))) X) X)) X) (K (.inr (.inr d)))
def FT[LP](c a:J)(d b:af):M (J ⊕ af):=LP.lp (unc4 j3u) (c,a,d,b)
theorem YZ(d c b a):FT d c b a=lpK (j3u d c b a) (λh=>FT h.1 h.2.1 h.2.2.1 h.2.2.2):=bc _ _
def j0q[LP](a:dM):M (af×J):=(jaT a.2.1 (-64800) 64800).bind λc=>cond (!c) (K (([]:af),1)) (let b:=O a.2.2.length
 cond (L (b>16)) (K (([]:af),5)) ((FQ 0 0 a.1 a.2.1 a.2.2).bind λg=>sumC g (λk=>K (([]:af),k)) (λi=>cond (L (i.1>640)) (K (([]:af),5)) ((jaU i.2.2.2).bind λe=>(FT i.2.2.1 0 ([]:af) e).bind λj=>sumC j (λd=>K (([]:af),d)) (λf=>K (f,0))))))
def j8B[LP](a:dM):M Int:=(j0q (a.1,(a.2.1,a.2.2))).bind λb=>K b.2
def j5x(g:Ã)(d:J)(j:S)(i:J)(a:aZ):M ((Ã×J×S×J×aZ) ⊕ (Ã)):=
 let b:=O a.length
 cond (L (d<b)) (cond ((inR d a.length) || !g) (let c:=N a d.toNat (0,(0,(0,(0,(0,(0,0))))))
 let e:=Ä c.2.2.2.2.2.2 60
 let f:=w64 (d+1)
 K (.inl ((cond g (e==0) Z),f,j,i,a))) X) (K (.inr g))
def FU[LP](e:Ã)(d:J)(c:S)(b:J)(a:aZ):M Bool:=LP.lp (unc5 j5x) (e,d,c,b,a)
theorem Y0(e d c b a):FU e d c b a=lpK (j5x e d c b a) (λh=>FU h.1 h.2.1 h.2.2.1 h.2.2.2.1 h.2.2.2.2):=bc _ _
def jeb[LP](a:dM):M Bool:=
 let b:=Ä a.2.1 60
 (FU (b==0) 0 a.1 a.2.1 a.2.2).bind λc=>K c
def j6S[LP](b:J)(d:ak)(o:al)(m:ao)(n:ar)(p:W S):M ((J×ak×al×ao×ar×(W S)) ⊕ (J ⊕ Å)):=
 let l:=O d.length
 cond (L (b<l)) (cond (inR b d.length) (let g:=N d b.toNat (Y,(0,([]:aZ)))
 cond (L (U p+U [g.1]<=aG)) (let f:W ByteArray:=p++[g.1]
 (jdA f b).bind λi=>cond (i != 0) (K (.inr (.inl i))) (cond (inR b d.length) (let a:=N d b.toNat (Y,(0,([]:aZ)))
 (j8B (a.1,(a.2.1,a.2.2))).bind λe=>cond ((inR b d.length) || !(!(e != 0))) (let c:=N d b.toNat (Y,(0,([]:aZ)))
 cond (e != 0) (K (.inr (.inl 8))) ((jeb (c.1,(c.2.1,c.2.2))).bind λj=>cond (!j) (K (.inr (.inl 8))) (let k:=w64 (b+1)
 K (.inl (k,d,o,m,n,f))))) X) X)) X) X) (K (.inr (.inr ())))
def FV[LP](e:J)(d:ak)(c:al)(a:ao)(b:ar)(f:W S):M (J ⊕ Å):=LP.lp (unc6 j6S) (e,d,c,a,b,f)
theorem Y1(e d c a b f):FV e d c a b f=lpK (j6S e d c a b f) (λh=>FV h.1 h.2.1 h.2.2.1 h.2.2.2.1 h.2.2.2.2.1 h.2.2.2.2.2):=bc _ _
def jom[LP](a:cF):M Int:=(FV 0 a.1 a.2.1 a.2.2.1 a.2.2.2 ([]:(W S))).bind λb=>sumC b (λc=>K c) (λd=>K 0)
def j9D(a b c:J):M Bool:=K (cond (L (a>=b)) (L (a<=c)) Z)
def j6T(a:af)(b:J):M ((af×J) ⊕ (J ⊕ Å)):=
 let m:=O a.length
 cond (L (b<m)) (cond (inR b a.length) (let j:=N a b.toNat (0,0)
 cond (L (j.1<0)) (K (.inr (.inl 1))) (cond (inR b a.length) (let f:=N a b.toNat (0,0)
 cond (inR b a.length) (let l:=N a b.toNat (0,0)
 cond (L (f.1>=l.2)) (K (.inr (.inl 1))) (cond (inR b a.length) (let g:=N a b.toNat (0,0)
 cond (L (g.2>604800)) (K (.inr (.inl 1))) (cond (L (b>0)) (cond (inR b a.length) (let k:=N a b.toNat (0,0)
 let c:=w64 (b-1)
 cond (inR c a.length) (let i:=N a c.toNat (0,0)
 cond (L (k.1<i.2)) (K (.inr (.inl 6))) (let e:=w64 (b+1)
 K (.inl (a,e)))) X) X) (let d:=w64 (b+1)
 K (.inl (a,d))))) X)) X) X)) X) (K (.inr (.inr ())))
def FW[LP](a:af)(b:J):M (J ⊕ Å):=LP.lp (unc2 j6T) (a,b)
theorem Y2(a b):FW a b=lpK (j6T a b) (λh=>FW h.1 h.2):=bc _ _
def jcD[LP](a:af):M Int:=
 let c:=O a.length
 cond (L (c>14)) (K 5) ((FW a 0).bind λb=>sumC b (λd=>K d) (λe=>K 0))
def jl9(a:J):M Bool:=(j9D a 0 604800).bind λc=>let b:=Ä a 3600
 K (cond c (b==0) Z)
def j67[LP](e:J)(r:ak)(b:al)(p:ao)(q:ar)(s:W S):M ((J×ak×al×ao×ar×(W S)) ⊕ (J ⊕ Å)):=
 let l:=O b.length
 cond (L (e<l)) (cond (inR e b.length) (let a:=N b e.toNat (Y,(0,(([]:af),(0,(0,Z)))))
 cond (L (U s+U [a.1]<=aG)) (let c:W ByteArray:=s++[a.1]
 let k:Bool:=É a.1==É (Á #[110,111,98,111,100,121])
 cond k (K (.inr (.inl 2))) ((jdA c e).bind λd=>cond (d != 0) (K (.inr (.inl d))) (let j:=O r.length
 let m:=w64 (j-1)
 (j9D a.2.1 0 m).bind λi=>cond (!i) (K (.inr (.inl 3))) ((jcD a.2.2.1).bind λf=>cond (f != 0) (K (.inr (.inl 8))) ((jl9 a.2.2.2.1).bind λg=>cond (!g) (K (.inr (.inl 1))) ((jl9 a.2.2.2.2.1).bind λn=>cond (!n) (K (.inr (.inl 1))) (let o:=w64 (e+1)
 K (.inl (o,r,b,p,q,c))))))))) X) X) (K (.inr (.inr ())))
def FX[LP](e:J)(d:ak)(c:al)(a:ao)(b:ar)(f:W S):M (J ⊕ Å):=LP.lp (unc6 j67) (e,d,c,a,b,f)
theorem Y3(e d c a b f):FX e d c a b f=lpK (j67 e d c a b f) (λh=>FX h.1 h.2.1 h.2.2.1 h.2.2.2.1 h.2.2.2.2.1 h.2.2.2.2.2):=bc _ _
def jm9[LP](a:cF):M Int:=(FX 0 a.1 a.2.1 a.2.2.1 a.2.2.2 ([]:(W S))).bind λb=>sumC b (λc=>K c) (λd=>K 0)
def jdV  : M Int:=(jl5 2241).bind λb=>let a:=w64 (b-1)
 K a
def j4e(o f:J)(n:ak)(e:al)(b:ao)(c:ar)(m:S)(d:J)(a:W J)(p:W S):M ((J×J×ak×al×ao×ar×S×J×(W J)×(W S)) ⊕ (J ⊕ (J×ak×al×ao×ar×S×J×(W J)×(W S)))):=
 let i:=O a.length
 cond (L (f<i)) (cond (inR f a.length) (let j:=N a f.toNat 0
 (jdV).bind λg=>(j9D j 0 g).bind λl=>cond (!l) (K (.inr (.inl 1))) (let k:=w64 (f+1)
 K (.inl (o,k,n,e,b,c,m,d,a,p)))) X) (K (.inr (.inr (o,n,e,b,c,m,d,a,p))))
def FY[LP](j f:J)(i:ak)(d:al)(a:ao)(b:ar)(g:S)(c:J)(e:W J)(k:W S):M (J ⊕ (J×ak×al×ao×ar×S×J×(W J)×(W S))):=LP.lp (u8 unc2 j4e) (j,f,i,d,a,b,g,c,e,k)
theorem Y4(j f i d a b g c e k):FY j f i d a b g c e k=lpK (j4e j f i d a b g c e k) (λh=>FY h.1 h.2.1 h.2.2.1 h.2.2.2.1 h.2.2.2.2.1 h.2.2.2.2.2.1 h.2.2.2.2.2.2.1 h.2.2.2.2.2.2.2.1 h.2.2.2.2.2.2.2.2.1 h.2.2.2.2.2.2.2.2.2):=bc _ _
def j68(n f:J)(m:ak)(e:al)(c:ao)(d:ar)(p:S)(l:J)(a:W J)(o:W S):M ((J×J×ak×al×ao×ar×S×J×(W J)×(W S)) ⊕ (J ⊕ (J×ak×al×ao×ar×(W S)))):=
 let g:=O a.length
 cond (L (f<g)) (cond (inR f a.length) (let i:=N a f.toNat 0
 let b:=w64 (f-1)
 cond (inR b a.length) (let j:=N a b.toNat 0
 cond (L (i<=j)) (K (.inr (.inl 6))) (let k:=w64 (f+1)
 K (.inl (n,k,m,e,c,d,p,l,a,o)))) X) X) (K (.inr (.inr (n,m,e,c,d,o))))
def FZ[LP](i k:J)(g:ak)(e:al)(a:ao)(b:ar)(f:S)(c:J)(d:W J)(j:W S):M (J ⊕ (J×ak×al×ao×ar×(W S))):=LP.lp (u8 unc2 j68) (i,k,g,e,a,b,f,c,d,j)
theorem jk4(i k g e a b f c d j):FZ i k g e a b f c d j=lpK (j68 i k g e a b f c d j) (λh=>FZ h.1 h.2.1 h.2.2.1 h.2.2.2.1 h.2.2.2.2.1 h.2.2.2.2.2.1 h.2.2.2.2.2.2.1 h.2.2.2.2.2.2.2.1 h.2.2.2.2.2.2.2.2.1 h.2.2.2.2.2.2.2.2.2):=bc _ _
def j4f[LP](g:J)(t:ak)(p:al)(d:ao)(r:ar)(v:W S):M ((J×ak×al×ao×ar×(W S)) ⊕ (J ⊕ Å)):=
 let m:=O d.length
 cond (L (g<m)) (cond (inR g d.length) (let a:=N d g.toNat (Y,(0,([]:(W J))))
 cond (L (U v+U [a.1]<=aG)) (let f:W ByteArray:=v++[a.1]
 (jdA f g).bind λe=>cond (e != 0) (K (.inr (.inl e))) (let n:=O t.length
 let i:=w64 (n-1)
 (j9D a.2.1 0 i).bind λj=>cond (!j) (K (.inr (.inl 3))) (let l:=O a.2.2.length
 cond (L (l>64)) (K (.inr (.inl 5))) ((FY g 0 t p d r a.1 a.2.1 a.2.2 f).bind λo=>sumC o (λu=>K (.inr (.inl u))) (λb=>(FZ b.1 1 b.2.1 b.2.2.1 b.2.2.2.1 b.2.2.2.2.1 b.2.2.2.2.2.1 b.2.2.2.2.2.2.1 b.2.2.2.2.2.2.2.1 b.2.2.2.2.2.2.2.2).bind λq=>sumC q (λs=>K (.inr (.inl s))) (λc=>let k:=w64 (c.1+1)
 K (.inl (k,c.2.1,c.2.2.1,c.2.2.2.1,c.2.2.2.2.1,c.2.2.2.2.2)))))))) X) X) (K (.inr (.inr ())))
def F0[LP](e:J)(d:ak)(c:al)(a:ao)(b:ar)(f:W S):M (J ⊕ Å):=LP.lp (unc6 j4f) (e,d,c,a,b,f)
theorem Y5(e d c a b f):F0 e d c a b f=lpK (j4f e d c a b f) (λh=>F0 h.1 h.2.1 h.2.2.1 h.2.2.2.1 h.2.2.2.2.1 h.2.2.2.2.2):=bc _ _
def jgP[LP](a:cF):M Int:=(F0 0 a.1 a.2.1 a.2.2.1 a.2.2.2 ([]:(W S))).bind λb=>sumC b (λc=>K c) (λd=>K 0)
def j6U(o:J)(u:ak)(b:al)(e:ao)(k:ar)(v:S)(l j f d g:J)(a:W J)(c:af)(i m:J):M ((J×ak×al×ao×ar×S×J×J×J×J×J×(W J)×af×J×J) ⊕ (J ⊕ (ak×al×ao×ar×S×J×J×J×J×J×(W J)×af×J×J))):=
 let p:=O a.length
 cond (L (o<p)) (cond (inR o a.length) (let s:=N a o.toNat 0
 let t:=O b.length
 let n:=w64 (t-1)
 (j9D s 0 n).bind λq=>cond (!q) (K (.inr (.inl 3))) (let r:=w64 (o+1)
 K (.inl (r,u,b,e,k,v,l,j,f,d,g,a,c,i,m)))) X) (K (.inr (.inr (u,b,e,k,v,l,j,f,d,g,a,c,i,m))))
def F1[LP](p:J)(n:ak)(m:al)(j:ao)(d:ar)(o:S)(e a l g b:J)(f:W J)(c:af)(i k:J):M (J ⊕ (ak×al×ao×ar×S×J×J×J×J×J×(W J)×af×J×J)):=LP.lp (u8 unc7 j6U) (p,n,m,j,d,o,e,a,l,g,b,f,c,i,k)
theorem Y6(p n m j d o e a l g b f c i k):F1 p n m j d o e a l g b f c i k=lpK (j6U p n m j d o e a l g b f c i k) (λh=>F1 h.1 h.2.1 h.2.2.1 h.2.2.2.1 h.2.2.2.2.1 h.2.2.2.2.2.1 h.2.2.2.2.2.2.1 h.2.2.2.2.2.2.2.1 h.2.2.2.2.2.2.2.2.1 h.2.2.2.2.2.2.2.2.2.1 h.2.2.2.2.2.2.2.2.2.2.1 h.2.2.2.2.2.2.2.2.2.2.2.1 h.2.2.2.2.2.2.2.2.2.2.2.2.1 h.2.2.2.2.2.2.2.2.2.2.2.2.2.1 h.2.2.2.2.2.2.2.2.2.2.2.2.2.2):=bc _ _
def jig[LP](b:cF)(a:fj):M Int:=
 let p:=O b.1.length
 let j:=w64 (p-1)
 (j9D a.2.1 0 j).bind λk=>cond (!k) (K 3) ((jdV).bind λo=>(j9D a.2.2.1.1 1 o).bind λt=>cond (!t) (K 1) ((j9D a.2.2.1.2 0 86399).bind λr=>cond (!r) (K 1) ((j9D a.2.2.2.1 0 2).bind λn=>cond (!n) (K 1) ((j9D a.2.2.2.2.1 1 400).bind λg=>cond (!g) (K 1) (let m:=O a.2.2.2.2.2.1.length
 cond (m==0) (K 7) (let f:=O a.2.2.2.2.2.1.length
 cond (L (f>12)) (K 5) ((F1 0 b.1 b.2.1 b.2.2.1 b.2.2.2 a.1 a.2.1 a.2.2.1.1 a.2.2.1.2 a.2.2.2.1 a.2.2.2.2.1 a.2.2.2.2.2.1 a.2.2.2.2.2.2.1 a.2.2.2.2.2.2.2.1 a.2.2.2.2.2.2.2.2).bind λv=>sumC v (λw=>K w) (λd=>(jcD d.2.2.2.2.2.2.2.2.2.2.2.1).bind λu=>cond (u != 0) (K 8) ((j9D d.2.2.2.2.2.2.2.2.2.2.2.2.2 0 2).bind λq=>cond (!q) (K 1) (let s:=O d.2.2.1.length
 let l:=w64 (s-1)
 cond (d.2.2.2.2.2.2.2.2.2.2.2.2.2 != 0) ((j9D d.2.2.2.2.2.2.2.2.2.2.2.2.1 0 l).bind λi=>cond (!i) (K 3) (let e:Bool:=cond (d.2.2.2.2.2.2.2.2.2.2.2.2.2==0) (d.2.2.2.2.2.2.2.2.2.2.2.2.1 != 0) Z
 cond e (K 1) (K 0))) (let c:Bool:=cond (d.2.2.2.2.2.2.2.2.2.2.2.2.2==0) (d.2.2.2.2.2.2.2.2.2.2.2.2.1 != 0) Z
 cond c (K 1) (K 0))))))))))))
def jla(d:cF)(a:nO):M Int:=
 let j:=O d.2.1.length
 (j9D a.1 0 2).bind λl=>cond (!l) (K 1) (let g:=w64 (j-1)
 (j9D a.2.1 0 g).bind λf=>let e:=w64 (j-1)
 cond (cond (!f) (cond (a.1 != 1) À (a.2.1 != (-1))) Z) (cond ((!(a.1==2)) || !(!À)) (K 3) X) (cond (a.1==2) ((j9D a.2.2.1 0 e).bind λi=>cond (!i) (K 3) (cond (cond (a.1 != 2) (a.2.2.1 != 0) Z) (K 1) (cond (cond (a.1==2) (a.2.1==a.2.2.1) Z) (K 4) (cond (L (a.2.2.2.1<0)) (K 1) (cond (L (a.2.2.2.2<0)) (K 1) (let k:=w64 (Æ a.2.2.2.2 86400)
 (jdV).bind λm=>cond (L (k>m)) (K 1) (cond (L (a.2.2.2.1>=a.2.2.2.2)) (K 6) (K 0)))))))) (cond (cond (a.1 != 2) (a.2.2.1 != 0) Z) (K 1) (cond (cond (a.1==2) (a.2.1==a.2.2.1) Z) (K 4) (cond (L (a.2.2.2.1<0)) (K 1) (cond (L (a.2.2.2.2<0)) (K 1) (let c:=w64 (Æ a.2.2.2.2 86400)
 (jdV).bind λb=>cond (L (c>b)) (K 1) (cond (L (a.2.2.2.1>=a.2.2.2.2)) (K 6) (K 0)))))))))
def j4g[LP](r f:J)(o:ak)(e:al)(c:ao)(d:ar)(q:S)(b:aX)(l:ae)(s p:W S):M ((J×J×ak×al×ao×ar×S×aX×ae×(W S)×(W S)) ⊕ (J ⊕ (J×ak×al×ao×ar×S×aX×ae×(W S)))):=
 let n:=O b.length
 cond (L (f<n)) (cond (inR f b.length) (let g:=N b f.toNat (Y,(0,((0,0),(0,(0,(([]:(W J)),(([]:af),(0,0))))))))
 cond (L (U p+U [g.1]<=aG)) (let i:W ByteArray:=p++[g.1]
 (jdA i f).bind λk=>cond (k != 0) (K (.inr (.inl k))) (cond (inR f b.length) (let a:=N b f.toNat (Y,(0,((0,0),(0,(0,(([]:(W J)),(([]:af),(0,0))))))))
 (jig (o,(e,(c,d))) (a.1,(a.2.1,((a.2.2.1.1,a.2.2.1.2),(a.2.2.2.1,(a.2.2.2.2.1,(a.2.2.2.2.2.1,(a.2.2.2.2.2.2.1,(a.2.2.2.2.2.2.2.1,a.2.2.2.2.2.2.2.2))))))))).bind λj=>cond (j != 0) (K (.inr (.inl j))) (let m:=w64 (f+1)
 K (.inl (r,m,o,e,c,d,q,b,l,s,i)))) X)) X) X) (K (.inr (.inr (r,o,e,c,d,q,b,l,s))))
def F2[LP](j l:J)(i:ak)(e:al)(a:ao)(b:ar)(g:S)(c:aX)(d:ae)(k f:W S):M (J ⊕ (J×ak×al×ao×ar×S×aX×ae×(W S))):=LP.lp (u8 unc3 j4g) (j,l,i,e,a,b,g,c,d,k,f)
theorem Y7(j l i e a b g c d k f):F2 j l i e a b g c d k f=lpK (j4g j l i e a b g c d k f) (λh=>F2 h.1 h.2.1 h.2.2.1 h.2.2.2.1 h.2.2.2.2.1 h.2.2.2.2.2.1 h.2.2.2.2.2.2.1 h.2.2.2.2.2.2.2.1 h.2.2.2.2.2.2.2.2.1 h.2.2.2.2.2.2.2.2.2.1 h.2.2.2.2.2.2.2.2.2.2):=bc _ _
def j4h(m g:J)(l:ak)(e:al)(c:ao)(d:ar)(o:S)(k:aX)(b:ae)(n:W S):M ((J×J×ak×al×ao×ar×S×aX×ae×(W S)) ⊕ (J ⊕ (J×ak×al×ao×ar×(W S)))):=
 let i:=O b.length
 cond (L (g<i)) (cond (inR g b.length) (let a:=N b g.toNat (0,(0,(0,(0,0))))
 (jla (l,(e,(c,d))) (a.1,(a.2.1,(a.2.2.1,(a.2.2.2.1,a.2.2.2.2))))).bind λf=>cond (f != 0) (K (.inr (.inl f))) (let j:=w64 (g+1)
 K (.inl (m,j,l,e,c,d,o,k,b,n)))) X) (K (.inr (.inr (m,l,e,c,d,n))))
def F3[LP](j f:J)(i:ak)(e:al)(a:ao)(b:ar)(g:S)(c:aX)(d:ae)(k:W S):M (J ⊕ (J×ak×al×ao×ar×(W S))):=LP.lp (u8 unc2 j4h) (j,f,i,e,a,b,g,c,d,k)
theorem Y8(j f i e a b g c d k):F3 j f i e a b g c d k=lpK (j4h j f i e a b g c d k) (λh=>F3 h.1 h.2.1 h.2.2.1 h.2.2.2.1 h.2.2.2.2.1 h.2.2.2.2.2.1 h.2.2.2.2.2.2.1 h.2.2.2.2.2.2.2.1 h.2.2.2.2.2.2.2.2.1 h.2.2.2.2.2.2.2.2.2):=bc _ _
def j4i[LP](g:J)(t:ak)(n:al)(p:ao)(d:ar)(s:W S):M ((J×ak×al×ao×ar×(W S)) ⊕ (J ⊕ Å)):=
 let l:=O d.length
 cond (L (g<l)) (cond (inR g d.length) (let a:=N d g.toNat (Y,(([]:aX),([]:ae)))
 cond (L (U s+U [a.1]<=aG)) (let f:W ByteArray:=s++[a.1]
 (jdA f g).bind λe=>cond (e != 0) (K (.inr (.inl e))) (let i:=O a.2.1.length
 let j:=O a.2.2.length
 cond (cond (L (i>6)) À (L (j>48))) (K (.inr (.inl 5))) ((F2 g 0 t n p d a.1 a.2.1 a.2.2 f ([]:(W S))).bind λm=>sumC m (λr=>K (.inr (.inl r))) (λb=>(F3 b.1 0 b.2.1 b.2.2.1 b.2.2.2.1 b.2.2.2.2.1 b.2.2.2.2.2.1 b.2.2.2.2.2.2.1 b.2.2.2.2.2.2.2.1 b.2.2.2.2.2.2.2.2).bind λo=>sumC o (λq=>K (.inr (.inl q))) (λc=>let k:=w64 (c.1+1)
 K (.inl (k,c.2.1,c.2.2.1,c.2.2.2.1,c.2.2.2.2.1,c.2.2.2.2.2))))))) X) X) (K (.inr (.inr ())))
def F4[LP](e:J)(d:ak)(c:al)(a:ao)(b:ar)(f:W S):M (J ⊕ Å):=LP.lp (unc6 j4i) (e,d,c,a,b,f)
theorem Y9(e d c a b f):F4 e d c a b f=lpK (j4i e d c a b f) (λh=>F4 h.1 h.2.1 h.2.2.1 h.2.2.2.1 h.2.2.2.2.1 h.2.2.2.2.2):=bc _ _
def jgQ[LP](a:cF):M Int:=(F4 0 a.1 a.2.1 a.2.2.1 a.2.2.2 ([]:(W S))).bind λb=>sumC b (λc=>K c) (λd=>K 0)
def jeh[LP](a:cF):M Int:=
 let k:=O a.1.length
 let i:=O a.2.1.length
 let j:=O a.2.2.1.length
 let e:Bool:=cond (cond (L (k>16)) À (L (i>32))) À (L (j>8))
 let f:=O a.2.2.2.length
 cond (cond e À (L (f>12))) (K 5) ((jom (a.1,(a.2.1,(a.2.2.1,a.2.2.2)))).bind λd=>cond (d != 0) (K d) ((jm9 (a.1,(a.2.1,(a.2.2.1,a.2.2.2)))).bind λb=>cond (b != 0) (K b) ((jgP (a.1,(a.2.1,(a.2.2.1,a.2.2.2)))).bind λc=>cond (c != 0) (K c) ((jgQ (a.1,(a.2.1,(a.2.2.1,a.2.2.2)))).bind λg=>K g))))
def j6V(a b:J):M Bool:=
 let e:Bool:=cond (cond (L (a>=0)) (L (a<=8589934592)) Z) (L (b>=a)) Z
 let d:=w64 (b-a)
 let c:Bool:=cond (cond e (L (b<=8589934592)) Z) (L (d<=34560000)) Z
 K c
def jlb[LP](b:cF)(a c d:J):M Int:=(jeh (b.1,(b.2.1,(b.2.2.1,b.2.2.2)))).bind λf=>cond (f != 0) (K 8) (let e:=O b.2.2.2.length
 cond (cond (L (a<0)) À (L (a>=e))) (K 3) ((j6V c d).bind λg=>cond (!g) (K 1) (K 0)))
def jei[LP](b:dM)(a:fj):M Int:=(j8B (b.1,(b.2.1,b.2.2))).bind λi=>let e:Bool:=cond (cond (i != 0) À (L (a.2.2.1.1<1))) À (L (a.2.2.1.1>100000))
 let f:Bool:=cond (cond e À (L (a.2.2.1.2<0))) À (L (a.2.2.1.2>=86400))
 let g:Bool:=cond (cond f À (L (a.2.2.2.1<0))) À (L (a.2.2.2.1>2))
 let c:Bool:=cond (cond g À (L (a.2.2.2.2.1<1))) À (L (a.2.2.2.2.1>400))
 let d:=O a.2.2.2.2.2.1.length
 cond (cond c À (d==0)) (K 8) (K 0)
def jgh(a:J):M Bool:=(jaT a (-2) 99422).bind λb=>K b
def j5e(c:J)(u:S)(d:J)(f:aZ)(g a:J)(b:af):M ((J×S×J×aZ×J×J×af) ⊕ ((J×J) ⊕ Å)):=
 let x:=O b.length
 cond (L (c<x)) (cond (L (c>=0)) (cond (inR c b.length) (let k:=(N b c.toNat (0,0)).2
 cond (inR c b.length) (let e:=(N b c.toNat (0,0)).1
 let a2:=w64 (c+1)
 let b0:=O b.length
 cond (L (a2<b0)) (let l:=w64 (c+1)
 cond (inR l b.length) (let w:=(N b l.toNat (0,0)).1
 let t:=w64 (g*86400)
 let b1:=w64 (t+a)
 let r:=w64 (b1-k)
 let j:Int:=if r>e then r else e
 cond (L (j<w)) (K (.inr (.inl (j,0)))) (let v:=w64 (c+1)
 K (.inl (v,u,d,f,g,a,b)))) X) (let a9:=w64 (g*86400)
 let a8:=w64 (a9+a)
 let n:=w64 (a8-k)
 let i:Int:=if n>e then n else e
 cond (L (i<8589934593)) (K (.inr (.inl (i,0)))) (let a0:=w64 (c+1)
 K (.inl (a0,u,d,f,g,a,b))))) X) X) (let a4:=w64 (c+1)
 let b2:=O b.length
 cond (L (a4<b2)) (let m:=w64 (c+1)
 cond (inR m b.length) (let z:=(N b m.toNat (0,0)).1
 let a7:=w64 (g*86400)
 let y:=w64 (a7+a)
 let p:=w64 (y-d)
 let o:Int:=if p>0 then p else 0
 cond (L (o<z)) (K (.inr (.inl (o,0)))) (let a3:=w64 (c+1)
 K (.inl (a3,u,d,f,g,a,b)))) X) (let a1:=w64 (g*86400)
 let a5:=w64 (a1+a)
 let q:=w64 (a5-d)
 let s:Int:=if q>0 then q else 0
 cond (L (s<8589934593)) (K (.inr (.inl (s,0)))) (let a6:=w64 (c+1)
 K (.inl (a6,u,d,f,g,a,b)))))) (K (.inr (.inr ())))
def wP[LP](g:J)(d:S)(c:J)(b:aZ)(f a:J)(e:af):M ((J×J) ⊕ Å):=LP.lp (unc7 j5e) (g,d,c,b,f,a,e)
theorem OM(g d c b f a e):wP g d c b f a e=lpK (j5e g d c b f a e) (λh=>wP h.1 h.2.1 h.2.2.1 h.2.2.2.1 h.2.2.2.2.1 h.2.2.2.2.2.1 h.2.2.2.2.2.2):=bc _ _
def j6a[LP](a:dM)(b:J×J):M (J×J):=(j0q (a.1,(a.2.1,a.2.2))).bind λc=>cond (c.2 != 0) (K (0,8)) ((jaT b.2 0 86399).bind λd=>cond (!d) (K (0,1)) (cond (L (b.1<(-2))) (K (0,0)) ((jgh b.1).bind λe=>cond (!e) (K (0,10)) ((wP (-1) a.1 a.2.1 a.2.2 b.1 b.2 c.1).bind λf=>sumC f (λg=>K (g.1,g.2)) (λi=>K (0,10))))))
def j6b(c:af)(g i a:J):M ((af×J×J×J) ⊕ (J)):=
 let b:=O c.length
 cond ((inR a c.length) || !(L (a<b))) (let f:=N c a.toNat (0,0)
 cond (cond (L (a<b)) (L (f.1<=g)) Z) (cond (inR a c.length) (let e:=N c a.toNat (0,0)
 let d:=w64 (a+1)
 K (.inl (c,g,e.2,d))) X) (K (.inr i))) X
def F5[LP](a:af)(d c b:J):M Int:=LP.lp (unc4 j6b) (a,d,c,b)
theorem Za(a b c d):F5 a b c d=lpK (j6b a b c d) (λh=>F5 h.1 h.2.1 h.2.2.1 h.2.2.2):=bc _ _
def jjb[LP](b:dM)(a:af)(c:J):M Int:=(F5 a c b.2.1 0).bind λd=>K d
def jcF[LP](a:dM)(b:J):M (J×J):=(j0q (a.1,(a.2.1,a.2.2))).bind λc=>cond (c.2 != 0) (K (0,8)) ((jaT b 0 8589934592).bind λd=>cond (!d) (K (0,1)) ((jjb (a.1,(a.2.1,a.2.2)) c.1 b).bind λe=>K (e,0)))
def jlc(b a:J):M (J×J):=
 let g:=w64 (b+a)
 let c:=w64 (g+864000)
 let d:=w64 (Æ c 86400)
 let e:=w64 (d-10)
 let f:=Ä c 86400
 K (e,f)
def j4D[LP](a:dM)(c:J):M ((J×J)×J):=(jcF (a.1,(a.2.1,a.2.2)) c).bind λb=>cond (b.2 != 0) (K ((0,0),b.2)) ((jlc c b.1).bind λd=>K ((d.1,d.2),0))
def j8C[LP](b:dM)(a:fj)(d:J):M (J×Ã):=cond (a.2.2.2.1==0) ((j6a (b.1,(b.2.1,b.2.2)) (a.2.2.1.1,a.2.2.1.2)).bind λe=>let n:=w64 (d*a.2.2.2.2.1)
 let i:=w64 (n*3600)
 let o:=w64 (e.1+i)
 let m:=w64 (e.1+i)
 K (o,(cond (e.2==0) (L (m<=8589934592)) Z))) (let j:=w64 (d*a.2.2.2.2.1)
 cond (a.2.2.2.1==2) (let k:=w64 (j*7)
 let l:=w64 (a.2.2.1.1+k)
 (j6a (b.1,(b.2.1,b.2.2)) (l,a.2.2.1.2)).bind λg=>K (g.1,(g.2==0))) (let f:=w64 (a.2.2.1.1+j)
 (j6a (b.1,(b.2.1,b.2.2)) (f,a.2.2.1.2)).bind λc=>K (c.1,(c.2==0))))
def j6W[LP](q e:J)(r:S)(d:J)(b:aZ)(p:S)(j k l n i:J)(c:W J)(g:af)(f m:J):M ((J×J×S×J×aZ×S×J×J×J×J×J×(W J)×af×J×J) ⊕ (J)):=cond (L (e>=0)) ((j8C (r,(d,b)) (p,(j,((k,l),(n,(i,(c,(g,(f,m)))))))) e).bind λa=>cond (cond a.2 (L (a.1<=q)) Z) (K (.inr e)) (let o:=w64 (e-1)
 K (.inl (q,o,r,d,b,p,j,k,l,n,i,c,g,f,m)))) (K (.inr e))
def Bb[LP](n o:J)(p:S)(c:J)(a:aZ)(m:S)(g i j l f:J)(b:W J)(e:af)(d k:J):M Int:=LP.lp (u8 unc7 j6W) (n,o,p,c,a,m,g,i,j,l,f,b,e,d,k)
theorem Zb(n o p c a m g i j l f b e d k):Bb n o p c a m g i j l f b e d k=lpK (j6W n o p c a m g i j l f b e d k) (λh=>Bb h.1 h.2.1 h.2.2.1 h.2.2.2.1 h.2.2.2.2.1 h.2.2.2.2.2.1 h.2.2.2.2.2.2.1 h.2.2.2.2.2.2.2.1 h.2.2.2.2.2.2.2.2.1 h.2.2.2.2.2.2.2.2.2.1 h.2.2.2.2.2.2.2.2.2.2.1 h.2.2.2.2.2.2.2.2.2.2.2.1 h.2.2.2.2.2.2.2.2.2.2.2.2.1 h.2.2.2.2.2.2.2.2.2.2.2.2.2.1 h.2.2.2.2.2.2.2.2.2.2.2.2.2.2):=bc _ _
def jek[LP](b:dM)(a:fj)(c:J):M Int:=cond (a.2.2.2.1==0) ((j6a (b.1,(b.2.1,b.2.2)) (a.2.2.1.1,a.2.2.1.2)).bind λe=>cond (cond (e.2==0) (L (e.1<=c)) Z) (let s:=w64 (c-e.1)
 let m:=w64 (3600*a.2.2.2.2.1)
 cond (!(m==0)) (let r:=w64 (Æ s m)
 K r) X) (K (-1))) ((j4D (b.1,(b.2.1,b.2.2)) c).bind λk=>cond (a.2.2.2.1==2) (let l:=w64 (a.2.2.2.2.1*7)
 let q:=w64 (k.1.1+2)
 let j:=w64 (q-a.2.2.1.1)
 let o:Int:=if 0>j then 0 else j
 cond (!(l==0)) (let p:=w64 (Æ o l)
 (Bb c p b.1 b.2.1 b.2.2 a.1 a.2.1 a.2.2.1.1 a.2.2.1.2 a.2.2.2.1 a.2.2.2.2.1 a.2.2.2.2.2.1 a.2.2.2.2.2.2.1 a.2.2.2.2.2.2.2.1 a.2.2.2.2.2.2.2.2).bind λt=>K t) X) (let f:=w64 (k.1.1+2)
 let d:=w64 (f-a.2.2.1.1)
 let i:Int:=if 0>d then 0 else d
 cond (!(a.2.2.2.2.1==0)) (let g:=w64 (Æ i a.2.2.2.2.1)
 (Bb c g b.1 b.2.1 b.2.2 a.1 a.2.1 a.2.2.1.1 a.2.2.1.2 a.2.2.2.1 a.2.2.2.2.1 a.2.2.2.2.2.1 a.2.2.2.2.2.2.1 a.2.2.2.2.2.2.2.1 a.2.2.2.2.2.2.2.2).bind λn=>K n) X))
def j6c[LP](t v o:J)(s:S)(k:J)(f:aZ)(u:S)(j g m e d:J)(i:W J)(b:af)(l c:J)(n:W J):M ((J×J×J×S×J×aZ×S×J×J×J×J×J×(W J)×af×J×J×(W J)) ⊕ (ph)):=(j8C (s,(k,f)) (u,(j,((g,m),(e,(d,(i,(b,(l,c)))))))) o).bind λa=>cond (cond (!a.2) À (L (a.1>=v))) (K (.inr (0,n))) (cond (L (a.1>=t)) (cond (L (U n+U [a.1]<=aG)) (let p:W Int:=n++[a.1]
 let q:=w64 (o+1)
 K (.inl (t,v,q,s,k,f,u,j,g,m,e,d,i,b,l,c,p))) X) (let r:=w64 (o+1)
 K (.inl (t,v,r,s,k,f,u,j,g,m,e,d,i,b,l,c,n))))
def JO[LP](p r n:J)(o:S)(f:J)(i:aZ)(q:S)(d g k c a:J)(l:W J)(b:af)(j e:J)(m:W J):M ph:=LP.lp (u8 unc9 j6c) (p,r,n,o,f,i,q,d,g,k,c,a,l,b,j,e,m)
theorem jk5(p r n o f i q d g k c a l b j e m):JO p r n o f i q d g k c a l b j e m=lpK (j6c p r n o f i q d g k c a l b j e m) (λh=>JO h.1 h.2.1 h.2.2.1 h.2.2.2.1 h.2.2.2.2.1 h.2.2.2.2.2.1 h.2.2.2.2.2.2.1 h.2.2.2.2.2.2.2.1 h.2.2.2.2.2.2.2.2.1 h.2.2.2.2.2.2.2.2.2.1 h.2.2.2.2.2.2.2.2.2.2.1 h.2.2.2.2.2.2.2.2.2.2.2.1 h.2.2.2.2.2.2.2.2.2.2.2.2.1 h.2.2.2.2.2.2.2.2.2.2.2.2.2.1 h.2.2.2.2.2.2.2.2.2.2.2.2.2.2.1 h.2.2.2.2.2.2.2.2.2.2.2.2.2.2.2.1 h.2.2.2.2.2.2.2.2.2.2.2.2.2.2.2.2):=bc _ _
def jaX[LP](b:dM)(a:fj)(c d:J):M ((W J)×J):=(jei (b.1,(b.2.1,b.2.2)) (a.1,(a.2.1,((a.2.2.1.1,a.2.2.1.2),(a.2.2.2.1,(a.2.2.2.2.1,(a.2.2.2.2.2.1,(a.2.2.2.2.2.2.1,(a.2.2.2.2.2.2.2.1,a.2.2.2.2.2.2.2.2))))))))).bind λj=>cond (j != 0) (K (([]:(W J)),8)) ((j6V c d).bind λg=>cond (!g) (K (([]:(W J)),1)) ((jek (b.1,(b.2.1,b.2.2)) (a.1,(a.2.1,((a.2.2.1.1,a.2.2.1.2),(a.2.2.2.1,(a.2.2.2.2.1,(a.2.2.2.2.2.1,(a.2.2.2.2.2.2.1,(a.2.2.2.2.2.2.2.1,a.2.2.2.2.2.2.2.2)))))))) c).bind λe=>let f:Int:=if e>0 then e else 0
 (JO c d f b.1 b.2.1 b.2.2 a.1 a.2.1 a.2.2.1.1 a.2.2.1.2 a.2.2.2.1 a.2.2.2.2.1 a.2.2.2.2.2.1 a.2.2.2.2.2.2.1 a.2.2.2.2.2.2.2.1 a.2.2.2.2.2.2.2.2 ([]:(W J))).bind λi=>K (i.2,i.1)))
def j8Y(a:J×J):M Int:=(jea a.1).bind λb=>let d:=w64 (b*86400)
 let c:=w64 (d+a.2)
 K c
def j6X(b:af)(j k c a:J)(n:af):M ((af×J×J×J×J×af) ⊕ (af×J×J×J×af)):=
 let q:=O b.length
 cond (L (a<q)) (cond (inR a b.length) (let l:=N b a.toNat (0,0)
 let i:=w64 (c+l.1)
 let f:Int:=if i>j then i else j
 cond (inR a b.length) (let r:=N b a.toNat (0,0)
 let g:=w64 (c+r.2)
 let d:Int:=if g<k then g else k
 cond (L (f<d)) (let e:af:=[(f,d)]
 cond (L (U n+U e<=aG)) (let m:af:=n++e
 let o:=w64 (a+1)
 K (.inl (b,j,k,c,o,m))) X) (let p:=w64 (a+1)
 K (.inl (b,j,k,c,p,n)))) X) X) (K (.inr (b,j,k,c,n)))
def JP[LP](c:af)(d e a b:J)(f:af):M (af×J×J×J×af):=LP.lp (unc6 j6X) (c,d,e,a,b,f)
theorem Zc(c d e a b f):JP c d e a b f=lpK (j6X c d e a b f) (λh=>JP h.1 h.2.1 h.2.2.1 h.2.2.2.1 h.2.2.2.2.1 h.2.2.2.2.2):=bc _ _
def j6Y[LP](f:af)(g e c:J)(d:af):M ((af×J×J×J×af) ⊕ (af)):=cond (L (c<e)) ((JP f g e c 0 d).bind λa=>let b:=w64 (a.2.2.2.1+604800)
 K (.inl (a.1,a.2.1,a.2.2.1,b,a.2.2.2.2))) (K (.inr d))
def JQ[LP](b:af)(c e a:J)(d:af):M af:=LP.lp (unc5 j6Y) (b,c,e,a,d)
theorem Zd(b c e a d):JQ b c e a d=lpK (j6Y b c e a d) (λh=>JQ h.1 h.2.1 h.2.2.1 h.2.2.2.1 h.2.2.2.2):=bc _ _
def jcG[LP](d:af)(a c b:J):M af:=
 let p:=w64 (a+b)
 let g:=w64 (a+b)
 let n:=w64 (g+864000)
 let e:=w64 (Æ n 86400)
 let j:=w64 (e-10)
 let l:=w64 (a+b)
 let k:=w64 (l+864000)
 let f:=Ä k 86400
 (j8Y (j,f)).bind λi=>let o:=w64 (p-i)
 let m:=w64 (o-b)
 (JQ d a c m ([]:af)).bind λq=>K q
def j7M(b:af)(a:J)(c:af):M ((af×J×af) ⊕ (af)):=
 let u:=O b.length
 cond (L (a<u)) (let e:=O c.length
 cond (L (e>0)) (let k:=w64 (e-1)
 cond (inR k c.length) (let t:=(N c k.toNat (0,0)).2
 cond (inR a b.length) (let l:=N b a.toNat (0,0)
 cond (t==l.1) (let d:=w64 (e-1)
 cond (inR a b.length) (let m:=N b a.toNat (0,0)
 cond (inR d c.length) (let s:af:=È c d.toNat ((N c d.toNat (0,0)).1,m.2)
 let p:=w64 (a+1)
 K (.inl (b,p,s))) X) X) (cond (inR a b.length) (let j:=N b a.toNat (0,0)
 let g:af:=[(j.1,j.2)]
 cond (L (U c+U g<=aG)) (let r:af:=c++g
 let n:=w64 (a+1)
 K (.inl (b,n,r))) X) X)) X) X) (cond (inR a b.length) (let f:=N b a.toNat (0,0)
 let i:af:=[(f.1,f.2)]
 cond (L (U c+U i<=aG)) (let q:af:=c++i
 let o:=w64 (a+1)
 K (.inl (b,o,q))) X) X)) (K (.inr c))
def JR[LP](a:af)(c:J)(b:af):M af:=LP.lp (unc3 j7M) (a,c,b)
theorem Ze(a c b):JR a c b=lpK (j7M a c b) (λh=>JR h.1 h.2.1 h.2.2):=bc _ _
def jfg[LP](a b:af):M af:=(JR b 0 a).bind λc=>K c
def j6Z[LP](i:af)(g e b:J)(k:S)(c:J)(d:aZ)(a f:af):M ((af×J×J×J×S×J×aZ×af×af) ⊕ (af)):=
 let b0:=O a.length
 cond (L (b<b0)) (cond (L (b>=0)) (cond (inR b a.length) (let p:=(N a b.toNat (0,0)).2
 cond (inR b a.length) (let o:=(N a b.toNat (0,0)).1
 let j:Int:=if o>g then o else g
 let a6:=w64 (b+1)
 let a7:=O a.length
 cond (L (a6<a7)) (let l:=w64 (b+1)
 cond (inR l a.length) (let s:=(N a l.toNat (0,0)).1
 let m:Int:=if s<e then s else e
 cond (L (j<m)) ((jcG i j m p).bind λb3=>(jfg f b3).bind λa5=>let a4:=w64 (b+1)
 K (.inl (i,g,e,a4,k,c,d,a,a5))) (let u:=w64 (b+1)
 K (.inl (i,g,e,u,k,c,d,a,f)))) X) (cond (L (j<e)) ((jcG i j e p).bind λa8=>(jfg f a8).bind λb2=>let z:=w64 (b+1)
 K (.inl (i,g,e,z,k,c,d,a,b2))) (let a2:=w64 (b+1)
 K (.inl (i,g,e,a2,k,c,d,a,f))))) X) X) (let b1:=w64 (b+1)
 let a9:=O a.length
 cond (L (b1<a9)) (let r:=w64 (b+1)
 cond (inR r a.length) (let q:=(N a r.toNat (0,0)).1
 let n:Int:=if q<e then q else e
 cond (L (g<n)) ((jcG i g n c).bind λt=>(jfg f t).bind λa3=>let v:=w64 (b+1)
 K (.inl (i,g,e,v,k,c,d,a,a3))) (let a0:=w64 (b+1)
 K (.inl (i,g,e,a0,k,c,d,a,f)))) X) (cond (L (g<e)) ((jcG i g e c).bind λy=>(jfg f y).bind λw=>let a1:=w64 (b+1)
 K (.inl (i,g,e,a1,k,c,d,a,w))) (let x:=w64 (b+1)
 K (.inl (i,g,e,x,k,c,d,a,f)))))) (K (.inr f))
def F6[LP](g:af)(i j d:J)(f:S)(a:J)(b:aZ)(c e:af):M af:=LP.lp (unc9 j6Z) (g,i,j,d,f,a,b,c,e)
theorem Zf(g i j d f a b c e):F6 g i j d f a b c e=lpK (j6Z g i j d f a b c e) (λh=>F6 h.1 h.2.1 h.2.2.1 h.2.2.2.1 h.2.2.2.2.1 h.2.2.2.2.2.1 h.2.2.2.2.2.2.1 h.2.2.2.2.2.2.2.1 h.2.2.2.2.2.2.2.2):=bc _ _
def jaY[LP](a:dM)(d:af)(b c:J):M (af×J):=(j0q (a.1,(a.2.1,a.2.2))).bind λe=>cond (e.2 != 0) (K (([]:af),8)) ((jcD d).bind λi=>cond (i != 0) (K (([]:af),8)) ((j6V b c).bind λf=>cond (!f) (K (([]:af),1)) ((F6 d b c (-1) a.1 a.2.1 a.2.2 e.1 ([]:af)).bind λg=>let j:=O g.length
 cond (L (j>4096)) (K (([]:af),5)) (K (g,0)))))
def j4j(d:J)(m:S)(b:J)(e:aZ)(j a:J)(c:af)(i:W J):M ((J×S×J×aZ×J×J×af×(W J)) ⊕ (W J)):=
 let b0:=O c.length
 cond (L (d<b0)) (cond (L (d>=0)) (cond (inR d c.length) (let n:=(N c d.toNat (0,0)).2
 cond (inR d c.length) (let o:=(N c d.toNat (0,0)).1
 let a8:=w64 (d+1)
 let b4:=O c.length
 cond (L (a8<b4)) (let q:=w64 (d+1)
 cond (inR q c.length) (let b1:=(N c q.toNat (0,0)).1
 let a6:=w64 (j*86400)
 let b3:=w64 (a6+a)
 let k:=w64 (b3-n)
 cond (cond (L (k>=o)) (L (k<b1)) Z) (cond (L (U i+U [k]<=aG)) (let a7:W Int:=i++[k]
 let a2:=w64 (d+1)
 K (.inl (a2,m,b,e,j,a,c,a7))) X) (let u:=w64 (d+1)
 K (.inl (u,m,b,e,j,a,c,i)))) X) (let b5:=w64 (j*86400)
 let b7:=w64 (b5+a)
 let l:=w64 (b7-n)
 cond (cond (L (l>=o)) (L (l<8589934593)) Z) (cond (L (U i+U [l]<=aG)) (let a5:W Int:=i++[l]
 let a4:=w64 (d+1)
 K (.inl (a4,m,b,e,j,a,c,a5))) X) (let w:=w64 (d+1)
 K (.inl (w,m,b,e,j,a,c,i))))) X) X) (let a9:=w64 (d+1)
 let b6:=O c.length
 cond (L (a9<b6)) (let p:=w64 (d+1)
 cond (inR p c.length) (let b2:=(N c p.toNat (0,0)).1
 let s:=w64 (j*86400)
 let a0:=w64 (s+a)
 let f:=w64 (a0-b)
 cond (cond (L (f>=0)) (L (f<b2)) Z) (cond (L (U i+U [f]<=aG)) (let y:W Int:=i++[f]
 let t:=w64 (d+1)
 K (.inl (t,m,b,e,j,a,c,y))) X) (let x:=w64 (d+1)
 K (.inl (x,m,b,e,j,a,c,i)))) X) (let z:=w64 (j*86400)
 let v:=w64 (z+a)
 let g:=w64 (v-b)
 cond (cond (L (g>=0)) (L (g<8589934593)) Z) (cond (L (U i+U [g]<=aG)) (let r:W Int:=i++[g]
 let a3:=w64 (d+1)
 K (.inl (a3,m,b,e,j,a,c,r))) X) (let a1:=w64 (d+1)
 K (.inl (a1,m,b,e,j,a,c,i)))))) (K (.inr i))
def Bc[LP](i:J)(d:S)(c:J)(b:aZ)(g a:J)(e:af)(f:W J):M (W J):=LP.lp (unc8 j4j) (i,d,c,b,g,a,e,f)
theorem Zg(i d c b g a e f):Bc i d c b g a e f=lpK (j4j i d c b g a e f) (λh=>Bc h.1 h.2.1 h.2.2.1 h.2.2.2.1 h.2.2.2.2.1 h.2.2.2.2.2.1 h.2.2.2.2.2.2.1 h.2.2.2.2.2.2.2):=bc _ _
def j8Z[LP](a:dM)(b:J×J):M ((W J)×J):=(j0q (a.1,(a.2.1,a.2.2))).bind λc=>cond (c.2 != 0) (K (([]:(W J)),8)) ((jaT b.2 0 86399).bind λd=>cond (!d) (K (([]:(W J)),1)) ((jgh b.1).bind λe=>cond (!e) (K (([]:(W J)),0)) ((Bc (-1) a.1 a.2.1 a.2.2 b.1 b.2 c.1 ([]:(W J))).bind λf=>K (f,0))))
def j7N(b:J)(w:ak)(n:al)(i:ao)(j:ar)(x:S)(m k p f e:J)(l:W J)(c:af)(o d:J)(g:W J)(a:af):M ((J×ak×al×ao×ar×S×J×J×J×J×J×(W J)×af×J×J×(W J)×af) ⊕ (ak×al×ao×ar×S×J×J×J×J×J×(W J)×af×J×J×(W J))):=
 let r:=O a.length
 cond (L (b<r)) (cond (inR b a.length) (let s:=(N a b.toNat (0,0)).1
 cond (inR b a.length) (let u:=(N a b.toNat (0,0)).2
 let v:W Int:=[s,u]
 cond (L (U g+U v<=aG)) (let q:W Int:=g++v
 let t:=w64 (b+1)
 K (.inl (t,w,n,i,j,x,m,k,p,f,e,l,c,o,d,q,a))) X) X) X) (K (.inr (w,n,i,j,x,m,k,p,f,e,l,c,o,d,g)))
def JS[LP](p:J)(q:ak)(f:al)(g:ao)(i:ar)(r:S)(d k l c a:J)(m:W J)(b:af)(j e:J)(n:W J)(o:af):M (ak×al×ao×ar×S×J×J×J×J×J×(W J)×af×J×J×(W J)):=LP.lp (u8 unc9 j7N) (p,q,f,g,i,r,d,k,l,c,a,m,b,j,e,n,o)
theorem Zh(p q f g i r d k l c a m b j e n o):JS p q f g i r d k l c a m b j e n o=lpK (j7N p q f g i r d k l c a m b j e n o) (λh=>JS h.1 h.2.1 h.2.2.1 h.2.2.2.1 h.2.2.2.2.1 h.2.2.2.2.2.1 h.2.2.2.2.2.2.1 h.2.2.2.2.2.2.2.1 h.2.2.2.2.2.2.2.2.1 h.2.2.2.2.2.2.2.2.2.1 h.2.2.2.2.2.2.2.2.2.2.1 h.2.2.2.2.2.2.2.2.2.2.2.1 h.2.2.2.2.2.2.2.2.2.2.2.2.1 h.2.2.2.2.2.2.2.2.2.2.2.2.2.1 h.2.2.2.2.2.2.2.2.2.2.2.2.2.2.1 h.2.2.2.2.2.2.2.2.2.2.2.2.2.2.2.1 h.2.2.2.2.2.2.2.2.2.2.2.2.2.2.2.2):=bc _ _
def j7O(b:J)(o:ak)(g:al)(j:ao)(k:ar)(n:S)(c:J)(d f:W J)(e:af):M ((J×ak×al×ao×ar×S×J×(W J)×(W J)×af) ⊕ (ak×al×ao×ar×S×J×(W J)×(W J))):=
 let m:=O e.length
 cond (L (b<m)) (cond (inR b e.length) (let a:=(N e b.toNat (0,0)).1
 cond (L (U f+U [a]<=aG)) (let i:W Int:=f++[a]
 let l:=w64 (b+1)
 K (.inl (l,o,g,j,k,n,c,d,i,e))) X) X) (K (.inr (o,g,j,k,n,c,d,f)))
def Bd[LP](g:J)(k:ak)(c:al)(d:ao)(e:ar)(i:S)(a:J)(b f:W J)(j:af):M (ak×al×ao×ar×S×J×(W J)×(W J)):=LP.lp (u8 unc2 j7O) (g,k,c,d,e,i,a,b,f,j)
theorem Zi(g k c d e i a b f j):Bd g k c d e i a b f j=lpK (j7O g k c d e i a b f j) (λh=>Bd h.1 h.2.1 h.2.2.1 h.2.2.2.1 h.2.2.2.2.1 h.2.2.2.2.2.1 h.2.2.2.2.2.2.1 h.2.2.2.2.2.2.2.1 h.2.2.2.2.2.2.2.2.1 h.2.2.2.2.2.2.2.2.2):=bc _ _
def j5T[LP](e o:J)(p:ak)(k:al)(m:ao)(n:ar)(q:S)(a:J)(b f:W J):M ((J×J×ak×al×ao×ar×S×J×(W J)×(W J)) ⊕ (J×ak×al×ao×ar×S×J×(W J)×(W J))):=cond (L (o<2)) (cond (inR a p.length) (let c:=N p a.toNat (Y,(0,([]:aZ)))
 cond (inR e b.length) (let j:=N b e.toNat 0
 let g:=w64 (j+o)
 (j8Z (c.1,(c.2.1,c.2.2)) (g,0)).bind λd=>cond (L (U f+U d.1<=aG)) (let i:W Int:=f++d.1
 let l:=w64 (o+1)
 K (.inl (e,l,p,k,m,n,q,a,b,i))) X) X) X) (K (.inr (e,p,k,m,n,q,a,b,f)))
def JT[LP](g j:J)(k:ak)(c:al)(d:ao)(e:ar)(i:S)(a:J)(b f:W J):M (J×ak×al×ao×ar×S×J×(W J)×(W J)):=LP.lp (u8 unc2 j5T) (g,j,k,c,d,e,i,a,b,f)
theorem ON(g j k c d e i a b f):JT g j k c d e i a b f=lpK (j5T g j k c d e i a b f) (λh=>JT h.1 h.2.1 h.2.2.1 h.2.2.2.1 h.2.2.2.2.1 h.2.2.2.2.2.1 h.2.2.2.2.2.2.1 h.2.2.2.2.2.2.2.1 h.2.2.2.2.2.2.2.2.1 h.2.2.2.2.2.2.2.2.2):=bc _ _
def j7P[LP](g:J)(m:ak)(i:al)(j:ao)(k:ar)(l:S)(e:J)(b f:W J):M ((J×ak×al×ao×ar×S×J×(W J)×(W J)) ⊕ (W J)):=
 let d:=O b.length
 cond (L (g<d)) ((JT g 0 m i j k l e b f).bind λa=>let c:=w64 (a.1+1)
 K (.inl (c,a.2.1,a.2.2.1,a.2.2.2.1,a.2.2.2.2.1,a.2.2.2.2.2.1,a.2.2.2.2.2.2.1,a.2.2.2.2.2.2.2.1,a.2.2.2.2.2.2.2.2))) (K (.inr f))
def CL[LP](g:J)(j:ak)(c:al)(d:ao)(e:ar)(i:S)(a:J)(b f:W J):M (W J):=LP.lp (unc9 j7P) (g,j,c,d,e,i,a,b,f)
theorem Zj(g j c d e i a b f):CL g j c d e i a b f=lpK (j7P g j c d e i a b f) (λh=>CL h.1 h.2.1 h.2.2.1 h.2.2.2.1 h.2.2.2.2.1 h.2.2.2.2.2.1 h.2.2.2.2.2.2.1 h.2.2.2.2.2.2.2.1 h.2.2.2.2.2.2.2.2):=bc _ _
def jld[LP](b:cF)(a:fj)(g l:J):M (W J):=cond (inR a.2.1 b.1.length) (let f:=N b.1 a.2.1.toNat (Y,(0,([]:aZ)))
 (jaX (f.1,(f.2.1,f.2.2)) (a.1,(a.2.1,((a.2.2.1.1,a.2.2.1.2),(a.2.2.2.1,(a.2.2.2.2.1,(a.2.2.2.2.2.1,(a.2.2.2.2.2.2.1,(a.2.2.2.2.2.2.2.1,a.2.2.2.2.2.2.2.2)))))))) g l).bind λp=>cond (L (U ([]:(W J))+U p.1<=aG)) (let n:W Int:=([]:(W J))++p.1
 let r:=O a.2.2.2.2.2.2.1.length
 cond (L (r>0)) ((jaY (f.1,(f.2.1,f.2.2)) a.2.2.2.2.2.2.1 g l).bind λs=>(JS 0 b.1 b.2.1 b.2.2.1 b.2.2.2 a.1 a.2.1 a.2.2.1.1 a.2.2.1.2 a.2.2.2.1 a.2.2.2.2.1 a.2.2.2.2.2.1 a.2.2.2.2.2.2.1 a.2.2.2.2.2.2.2.1 a.2.2.2.2.2.2.2.2 n s.1).bind λe=>cond (e.2.2.2.2.2.2.2.2.2.2.2.2.2.1==0) (K e.2.2.2.2.2.2.2.2.2.2.2.2.2.2) (cond (inR e.2.2.2.2.2.2.2.2.2.2.2.2.1 e.2.2.1.length) (let j:=N e.2.2.1 e.2.2.2.2.2.2.2.2.2.2.2.2.1.toNat (Y,(0,([]:(W J))))
 cond (inR j.2.1 e.1.length) (let m:=N e.1 j.2.1.toNat (Y,(0,([]:aZ)))
 (j0q (m.1,(m.2.1,m.2.2))).bind λt=>(Bd 0 e.1 e.2.1 e.2.2.1 e.2.2.2.1 j.1 j.2.1 j.2.2 e.2.2.2.2.2.2.2.2.2.2.2.2.2.2 t.1).bind λk=>(CL 0 k.1 k.2.1 k.2.2.1 k.2.2.2.1 k.2.2.2.2.1 k.2.2.2.2.2.1 k.2.2.2.2.2.2.1 k.2.2.2.2.2.2.2).bind λu=>K u) X) X)) (cond (a.2.2.2.2.2.2.2.2==0) (K n) (cond (inR a.2.2.2.2.2.2.2.1 b.2.2.1.length) (let d:=N b.2.2.1 a.2.2.2.2.2.2.2.1.toNat (Y,(0,([]:(W J))))
 cond (inR d.2.1 b.1.length) (let i:=N b.1 d.2.1.toNat (Y,(0,([]:aZ)))
 (j0q (i.1,(i.2.1,i.2.2))).bind λo=>(Bd 0 b.1 b.2.1 b.2.2.1 b.2.2.2 d.1 d.2.1 d.2.2 n o.1).bind λc=>(CL 0 c.1 c.2.1 c.2.2.1 c.2.2.2.1 c.2.2.2.2.1 c.2.2.2.2.2.1 c.2.2.2.2.2.2.1 c.2.2.2.2.2.2.2).bind λq=>K q) X) X))) X) X
def j7Q(b4:(W J)->M (W J))(d e:J)(a b c:W J):M ((J×J×(W J)×(W J)×(W J)) ⊕ (W J)):=
 let a4:=O b.length
 let a3:=O c.length
 cond (cond (L (d<a4)) À (L (e<a3))) (let b1:=O c.length
 cond (e==b1) (cond (inR d b.length) (let i:=N b d.toNat 0
 let q:=w64 (d+1)
 let n:=O a.length
 let a1:=O a.length
 let t:=w64 (a1-1)
 cond ((inR t a.length) || !(!(n==0))) (let y:=N a t.toNat 0
 cond (cond (n==0) À (y != i)) (cond (L (U a+U [i]<=aG)) (let b2:W Int:=a++[i]
 K (.inl (q,e,b2,b,c))) X) (K (.inl (q,e,a,b,c)))) X) X) (let a7:=O b.length
 cond (L (d<a7)) (cond (inR d b.length) (let z:=N b d.toNat 0
 cond (inR e c.length) (let a8:=N c e.toNat 0
 cond (L (z<=a8)) (cond (inR d b.length) (let f:=N b d.toNat 0
 let m:=w64 (d+1)
 let o:=O a.length
 let b0:=O a.length
 let v:=w64 (b0-1)
 cond ((inR v a.length) || !(!(o==0))) (let a6:=N a v.toNat 0
 cond (cond (o==0) À (a6 != f)) (cond (L (U a+U [f]<=aG)) (let a2:W Int:=a++[f]
 K (.inl (m,e,a2,b,c))) X) (K (.inl (m,e,a,b,c)))) X) X) (cond (inR e c.length) (let j:=N c e.toNat 0
 let p:=w64 (e+1)
 let s:=O a.length
 let a0:=O a.length
 let k:=w64 (a0-1)
 cond ((inR k a.length) || !(!(s==0))) (let a9:=N a k.toNat 0
 cond (cond (s==0) À (a9 != j)) (cond (L (U a+U [j]<=aG)) (let x:W Int:=a++[j]
 K (.inl (d,p,x,b,c))) X) (K (.inl (d,p,a,b,c)))) X) X)) X) X) (cond (inR e c.length) (let g:=N c e.toNat 0
 let r:=w64 (e+1)
 let u:=O a.length
 let b3:=O a.length
 let l:=w64 (b3-1)
 cond ((inR l a.length) || !(!(u==0))) (let a5:=N a l.toNat 0
 cond (cond (u==0) À (a5 != g)) (cond (L (U a+U [g]<=aG)) (let w:W Int:=a++[g]
 K (.inl (d,r,w,b,c))) X) (K (.inl (d,r,a,b,c)))) X) X))) (K (.inr a))
def JU[LP](a:(W J)->M (W J))(b c:J)(f e d:W J):M (W J):=LP.lp (unc5 (j7Q a)) (b,c,f,e,d)
theorem Zk(a:(W J)->M (W J))(b c:J)(f e d:W J):JU a b c f e d=lpK (j7Q a b c f e d) (λh=>JU a h.1 h.2.1 h.2.2.1 h.2.2.2.1 h.2.2.2.2):=bc _ _
def JV[LP](d:(W J)->M (W J))(a:W J):M (W J):=
 let k:=O a.length
 cond (L (k<2)) (cond (L (U ([]:(W J))+U a<=aG)) (let i:W Int:=([]:(W J))++a
 K i) X) (let j:=O a.length
 let b:=w64 (Æ j 2)
 cond (L ((0:J)<=0)&&(L (0<=b)&&L (b<=(O a.length)))) (let l:W Int:=Ì 0 (Ç b.toNat a)
 (d l).bind λe=>let f:=O a.length
 let c:=w64 (Æ f 2)
 cond (L (0<=c)&&(L (c<=(O a.length))&&L ((O a.length)<=(O a.length)))) (let g:W Int:=Ì c.toNat (Ç a.length a)
 (d g).bind λm=>(JU d 0 0 ([]:(W J)) e m).bind λn=>K n) X) X)
def j6d[LP](b:(W J)->M (W J))(h:W J):M (W J):=JV (λa=>b a) h
def jnp[LP](a:W J):M (W J):=LP.rp j6d a
def j5y(e i b:J)(j a:W J):M ((J×J×J×(W J)×(W J)) ⊕ (J×J×(W J))):=
 let g:=O a.length
 cond (L (b<g)) (cond (inR b a.length) (let d:=N a b.toNat 0
 cond ((inR b a.length) || !(L (d>e))) (let m:=N a b.toNat 0
 cond (cond (L (d>e)) (L (m<i)) Z) (cond (inR b a.length) (let c:=N a b.toNat 0
 cond (L (U j+U [c]<=aG)) (let l:W Int:=j++[c]
 let f:=w64 (b+1)
 K (.inl (e,i,f,l,a))) X) X) (let k:=w64 (b+1)
 K (.inl (e,i,k,j,a)))) X) X) (K (.inr (e,i,j)))
def JW[LP](a b e:J)(c d:W J):M (J×J×(W J)):=LP.lp (unc5 j5y) (a,b,e,c,d)
theorem Zl(a b e c d):JW a b e c d=lpK (j5y a b e c d) (λh=>JW h.1 h.2.1 h.2.2.1 h.2.2.2.1 h.2.2.2.2):=bc _ _
def jgV[LP](c:W J)(a d:J):M (W J):=(jnp c).bind λf=>(JW a d 0 [a] f).bind λb=>cond (L (b.2.1>b.1)) (cond (L (U b.2.2+U [b.2.1]<=aG)) (let e:W Int:=b.2.2++[b.2.1]
 K e) X) (K b.2.2)
def j7R[LP](n o d:J)(p:ak)(f:al)(g:ao)(i:ar)(q:S)(b:aX)(j:ae)(e:W J):M ((J×J×J×ak×al×ao×ar×S×aX×ae×(W J)) ⊕ (J×J×S×aX×ae×(W J))):=
 let k:=O b.length
 cond (L (d<k)) (cond (inR d b.length) (let a:=N b d.toNat (Y,(0,((0,0),(0,(0,(([]:(W J)),(([]:af),(0,0))))))))
 (jld (p,(f,(g,i))) (a.1,(a.2.1,((a.2.2.1.1,a.2.2.1.2),(a.2.2.2.1,(a.2.2.2.2.1,(a.2.2.2.2.2.1,(a.2.2.2.2.2.2.1,(a.2.2.2.2.2.2.2.1,a.2.2.2.2.2.2.2.2)))))))) n o).bind λc=>cond (L (U e+U c<=aG)) (let l:W Int:=e++c
 let m:=w64 (d+1)
 K (.inl (n,o,m,p,f,g,i,q,b,j,l))) X) X) (K (.inr (n,o,q,b,j,e)))
def JX[LP](j l g:J)(i:ak)(a:al)(c:ao)(d:ar)(k:S)(b:aX)(e:ae)(f:W J):M (J×J×S×aX×ae×(W J)):=LP.lp (u8 unc3 j7R) (j,l,g,i,a,c,d,k,b,e,f)
theorem Zm(j l g i a c d k b e f):JX j l g i a c d k b e f=lpK (j7R j l g i a c d k b e f) (λh=>JX h.1 h.2.1 h.2.2.1 h.2.2.2.1 h.2.2.2.2.1 h.2.2.2.2.2.1 h.2.2.2.2.2.2.1 h.2.2.2.2.2.2.2.1 h.2.2.2.2.2.2.2.2.1 h.2.2.2.2.2.2.2.2.2.1 h.2.2.2.2.2.2.2.2.2.2):=bc _ _
def j7S(l m b:J)(n:S)(k:aX)(a:ae)(d:W J):M ((J×J×J×S×aX×ae×(W J)) ⊕ (J×J×(W J))):=
 let i:=O a.length
 cond (L (b<i)) (cond (inR b a.length) (let j:=N a b.toNat (0,(0,(0,(0,0))))
 cond (inR b a.length) (let f:=N a b.toNat (0,(0,(0,(0,0))))
 let c:W Int:=[j.2.2.2.1,f.2.2.2.2]
 cond (L (U d+U c<=aG)) (let e:W Int:=d++c
 let g:=w64 (b+1)
 K (.inl (l,m,g,n,k,a,e))) X) X) X) (K (.inr (l,m,d)))
def JY[LP](e g d:J)(f:S)(a:aX)(b:ae)(c:W J):M (J×J×(W J)):=LP.lp (unc7 j7S) (e,g,d,f,a,b,c)
theorem Zn(e g d f a b c):JY e g d f a b c=lpK (j7S e g d f a b c) (λh=>JY h.1 h.2.1 h.2.2.1 h.2.2.2.1 h.2.2.2.2.1 h.2.2.2.2.2.1 h.2.2.2.2.2.2):=bc _ _
def jnq[LP](b:cF)(a d f:J):M (W J):=cond (inR a b.2.2.2.length) (let e:=N b.2.2.2 a.toNat (Y,(([]:aX),([]:ae)))
 (JX d f 0 b.1 b.2.1 b.2.2.1 b.2.2.2 e.1 e.2.1 e.2.2 ([]:(W J))).bind λc=>(JY c.1 c.2.1 0 c.2.2.1 c.2.2.2.1 c.2.2.2.2.1 c.2.2.2.2.2).bind λg=>(jgV g.2.2 g.1 g.2.1).bind λi=>K i) X
def jil[LP](b:dM)(a:fj)(c:J):M (J×J):=(jei (b.1,(b.2.1,b.2.2)) (a.1,(a.2.1,((a.2.2.1.1,a.2.2.1.2),(a.2.2.2.1,(a.2.2.2.2.1,(a.2.2.2.2.2.1,(a.2.2.2.2.2.2.1,(a.2.2.2.2.2.2.2.1,a.2.2.2.2.2.2.2.2))))))))).bind λd=>cond (d != 0) (K (0,8)) (cond (cond (L (c<0)) À (L (c>8589934592))) (K (0,1)) ((jek (b.1,(b.2.1,b.2.2)) (a.1,(a.2.1,((a.2.2.1.1,a.2.2.1.2),(a.2.2.2.1,(a.2.2.2.2.1,(a.2.2.2.2.2.1,(a.2.2.2.2.2.2.1,(a.2.2.2.2.2.2.2.1,a.2.2.2.2.2.2.2.2)))))))) c).bind λe=>K (e,0)))
def jdW[LP](a:dM)(c:J):M (J×J):=(j4D (a.1,(a.2.1,a.2.2)) c).bind λb=>cond (b.2 != 0) (K (0,b.2)) ((j8Y (b.1.1,b.1.2)).bind λd=>K (d,0))
def j6e(b:af)(d c:J):M ((af×J×J) ⊕ (Ã ⊕ Å)):=
 let g:=O b.length
 cond (L (c<g)) (cond (inR c b.length) (let a:=N b c.toNat (0,0)
 cond ((inR c b.length) || !(L (d>=a.1))) (let f:=N b c.toNat (0,0)
 cond (cond (L (d>=a.1)) (L (d<f.2)) Z) (K (.inr (.inl À))) (let e:=w64 (c+1)
 K (.inl (b,d,e)))) X) X) (K (.inr (.inr ())))
def F7[LP](a:af)(b c:J):M (Ã ⊕ Å):=LP.lp (unc3 j6e) (a,b,c)
theorem Zo(a b c):F7 a b c=lpK (j6e a b c) (λh=>F7 h.1 h.2.1 h.2.2):=bc _ _
def jjc[LP](b:af)(a:J):M Bool:=(F7 b a 0).bind λc=>sumC c (λd=>K d) (λe=>K Z)
def jt8[LP](a:dM)(b:af)(d:J):M Bool:=(jdW (a.1,(a.2.1,a.2.2)) d).bind λc=>cond (c.2==0) ((jcD b).bind λe=>cond (e==0) ((jjc b c.1).bind λf=>K f) (K Z)) (K Z)
def j7T(w:J)(u:Ã)(b:J)(v:S)(k g i l d:J)(f:W J)(j:af)(c e:J)(t:S)(n:J)(a:W J)(o m:J):M ((J×Ã×J×S×J×J×J×J×J×(W J)×af×J×J×S×J×(W J)×J×J) ⊕ (J×Ã×S×J×J×J×J×J×(W J)×af×J×J)):=
 let q:=O a.length
 cond (L (b<q)) (cond u (let r:=w64 (b+1)
 K (.inl (w,À,r,v,k,g,i,l,d,f,j,c,e,t,n,a,o,m))) (cond (inR b a.length) (let p:=N a b.toNat 0
 let s:=w64 (b+1)
 K (.inl (w,(p==o),s,v,k,g,i,l,d,f,j,c,e,t,n,a,o,m))) X)) (K (.inr (w,u,v,k,g,i,l,d,f,j,c,e)))
def Be[LP](s:J)(q:Ã)(p:J)(r:S)(j g k m i:J)(d:W J)(f:af)(e l:J)(n:S)(c:J)(b:W J)(o a:J):M (J×Ã×S×J×J×J×J×J×(W J)×af×J×J):=LP.lp (u8 (u8 unc2) j7T) (s,q,p,r,j,g,k,m,i,d,f,e,l,n,c,b,o,a)
theorem Zp(s q o r l i j m e g k d f p b c n a):Be s q o r l i j m e g k d f p b c n a=lpK (j7T s q o r l i j m e g k d f p b c n a) (λh=>Be h.1 h.2.1 h.2.2.1 h.2.2.2.1 h.2.2.2.2.1 h.2.2.2.2.2.1 h.2.2.2.2.2.2.1 h.2.2.2.2.2.2.2.1 h.2.2.2.2.2.2.2.2.1 h.2.2.2.2.2.2.2.2.2.1 h.2.2.2.2.2.2.2.2.2.2.1 h.2.2.2.2.2.2.2.2.2.2.2.1 h.2.2.2.2.2.2.2.2.2.2.2.2.1 h.2.2.2.2.2.2.2.2.2.2.2.2.2.1 h.2.2.2.2.2.2.2.2.2.2.2.2.2.2.1 h.2.2.2.2.2.2.2.2.2.2.2.2.2.2.2.1 h.2.2.2.2.2.2.2.2.2.2.2.2.2.2.2.2.1 h.2.2.2.2.2.2.2.2.2.2.2.2.2.2.2.2.2):=bc _ _
def jle[LP](b:cF)(a:fj)(f:J):M (J×Ã):=cond (inR a.2.1 b.1.length) (let d:=N b.1 a.2.1.toNat (Y,(0,([]:aZ)))
 (jil (d.1,(d.2.1,d.2.2)) (a.1,(a.2.1,((a.2.2.1.1,a.2.2.1.2),(a.2.2.2.1,(a.2.2.2.2.1,(a.2.2.2.2.2.1,(a.2.2.2.2.2.2.1,(a.2.2.2.2.2.2.2.1,a.2.2.2.2.2.2.2.2)))))))) f).bind λe=>let n:=O a.2.2.2.2.2.2.1.length
 cond (cond (e.2 != 0) À (L (e.1<0))) (cond ((!(L (n>0))) || !(!À)) (K (0,Z)) X) (cond (L (n>0)) ((jt8 (d.1,(d.2.1,d.2.2)) a.2.2.2.2.2.2.1 f).bind λp=>cond (!p) (K (0,Z)) (cond (a.2.2.2.2.2.2.2.2==0) (K (e.1,À)) (cond (inR a.2.2.2.2.2.2.2.1 b.2.2.1.length) (let i:=N b.2.2.1 a.2.2.2.2.2.2.2.1.toNat (Y,(0,([]:(W J))))
 cond (inR i.2.1 b.1.length) (let l:=N b.1 i.2.1.toNat (Y,(0,([]:aZ)))
 (j4D (l.1,(l.2.1,l.2.2)) f).bind λm=>(Be e.1 Z 0 a.1 a.2.1 a.2.2.1.1 a.2.2.1.2 a.2.2.2.1 a.2.2.2.2.1 a.2.2.2.2.2.1 a.2.2.2.2.2.2.1 a.2.2.2.2.2.2.2.1 a.2.2.2.2.2.2.2.2 i.1 i.2.1 i.2.2 m.1.1 m.1.2).bind λo=>K (o.1,(o.2.1==(o.2.2.2.2.2.2.2.2.2.2.2==2)))) X) X))) (cond (a.2.2.2.2.2.2.2.2==0) (K (e.1,À)) (cond (inR a.2.2.2.2.2.2.2.1 b.2.2.1.length) (let c:=N b.2.2.1 a.2.2.2.2.2.2.2.1.toNat (Y,(0,([]:(W J))))
 cond (inR c.2.1 b.1.length) (let g:=N b.1 c.2.1.toNat (Y,(0,([]:aZ)))
 (j4D (g.1,(g.2.1,g.2.2)) f).bind λk=>(Be e.1 Z 0 a.1 a.2.1 a.2.2.1.1 a.2.2.1.2 a.2.2.2.1 a.2.2.2.2.1 a.2.2.2.2.2.1 a.2.2.2.2.2.2.1 a.2.2.2.2.2.2.2.1 a.2.2.2.2.2.2.2.2 c.1 c.2.1 c.2.2 k.1.1 k.1.2).bind λj=>K (j.1,(j.2.1==(j.2.2.2.2.2.2.2.2.2.2.2==2)))) X) X)))) X
def jon[LP](b:cF)(a:fj)(f:J):M Int:=(jle (b.1,(b.2.1,(b.2.2.1,b.2.2.2))) (a.1,(a.2.1,((a.2.2.1.1,a.2.2.1.2),(a.2.2.2.1,(a.2.2.2.2.1,(a.2.2.2.2.2.1,(a.2.2.2.2.2.2.1,(a.2.2.2.2.2.2.2.1,a.2.2.2.2.2.2.2.2)))))))) f).bind λc=>cond (!c.2) (K (-1)) (let e:=O a.2.2.2.2.2.1.length
 cond (!(e==0)) (let d:=Ä c.1 e
 cond (inR d a.2.2.2.2.2.1.length) (let g:=N a.2.2.2.2.2.1 d.toNat 0
 K g) X) X)
def j7U(i f d:J)(k:S)(g:aX)(b:ae):M ((J×J×J×S×aX×ae) ⊕ (Ã ⊕ Å)):=
 let c:=O b.length
 cond (L (d<c)) (cond (inR d b.length) (let a:=N b d.toNat (0,(0,(0,(0,0))))
 let j:Bool:=cond (cond (a.1==0) (a.2.1==i) Z) (L (a.2.2.2.1<=f)) Z
 cond (cond j (L (f<a.2.2.2.2)) Z) (K (.inr (.inl À))) (let e:=w64 (d+1)
 K (.inl (i,f,e,k,g,b)))) X) (K (.inr (.inr ())))
def F8[LP](c d e:J)(f:S)(b:aX)(a:ae):M (Ã ⊕ Å):=LP.lp (unc6 j7U) (c,d,e,f,b,a)
theorem Zq(c d e f b a):F8 c d e f b a=lpK (j7U c d e f b a) (λh=>F8 h.1 h.2.1 h.2.2.1 h.2.2.2.1 h.2.2.2.2.1 h.2.2.2.2.2):=bc _ _
def jnr[LP](b:mN)(a c:J):M Bool:=(F8 a c 0 b.1 b.2.1 b.2.2).bind λd=>sumC d (λe=>K e) (λf=>K Z)
def j8E[LP](j i:J)(o:ak)(e:al)(d:ao)(g:ar)(n:S)(b:aX)(f:ae):M ((J×J×ak×al×ao×ar×S×aX×ae) ⊕ ((J×J) ⊕ Å)):=cond (L (i>=0)) (cond (inR i b.length) (let a:=N b i.toNat (Y,(0,((0,0),(0,(0,(([]:(W J)),(([]:af),(0,0))))))))
 (jon (o,(e,(d,g))) (a.1,(a.2.1,((a.2.2.1.1,a.2.2.1.2),(a.2.2.2.1,(a.2.2.2.2.1,(a.2.2.2.2.2.1,(a.2.2.2.2.2.2.1,(a.2.2.2.2.2.2.2.1,a.2.2.2.2.2.2.2.2)))))))) j).bind λc=>cond (L (c>=0)) ((jnr (n,(b,f)) c j).bind λk=>cond (!k) (K (.inr (.inl (i,c)))) (let m:=w64 (i-1)
 K (.inl (j,m,o,e,d,g,n,b,f)))) (let l:=w64 (i-1)
 K (.inl (j,l,o,e,d,g,n,b,f)))) X) (K (.inr (.inr ())))
def F9[LP](f j:J)(i:ak)(b:al)(a:ao)(e:ar)(g:S)(c:aX)(d:ae):M ((J×J) ⊕ Å):=LP.lp (unc9 j8E) (f,j,i,b,a,e,g,c,d)
theorem Zr(f j i b a e g c d):F9 f j i b a e g c d=lpK (j8E f j i b a e g c d) (λh=>F9 h.1 h.2.1 h.2.2.1 h.2.2.2.1 h.2.2.2.2.1 h.2.2.2.2.2.1 h.2.2.2.2.2.2.1 h.2.2.2.2.2.2.2.1 h.2.2.2.2.2.2.2.2):=bc _ _
def jrh[LP](b:cF)(a d:J):M (J×J):=cond (inR a b.2.2.2.length) (let c:=N b.2.2.2 a.toNat (Y,(([]:aX),([]:ae)))
 let e:=O c.2.1.length
 let f:=w64 (e-1)
 (F9 d f b.1 b.2.1 b.2.2.1 b.2.2.2 c.1 c.2.1 c.2.2).bind λg=>sumC g (λi=>K (i.1,i.2)) (λj=>K ((-1),(-1)))) X
def j7V(b:ae)(e d c:J):M ((ae×J×J×J) ⊕ (J)):=
 let g:=O b.length
 cond (L (c<g)) (cond (inR c b.length) (let a:=N b c.toNat (0,(0,(0,(0,0))))
 cond (cond (L (d<a.2.2.2.1)) À (L (d>=a.2.2.2.2))) (let f:=w64 (c+1)
 K (.inl (b,e,d,f))) (cond (a.1==1) (let l:=w64 (c+1)
 K (.inl (b,a.2.1,d,l))) (cond (cond (a.1==2) (e==a.2.1) Z) (let i:=w64 (c+1)
 K (.inl (b,a.2.2.1,d,i))) (cond (cond (a.1==2) (e==a.2.2.1) Z) (let j:=w64 (c+1)
 K (.inl (b,a.2.1,d,j))) (let k:=w64 (c+1)
 K (.inl (b,e,d,k))))))) X) (K (.inr e))
def Ga[LP](a:ae)(b d c:J):M Int:=LP.lp (unc4 j7V) (a,b,d,c)
theorem Zs(a b c d):Ga a b c d=lpK (j7V a b c d) (λh=>Ga h.1 h.2.1 h.2.2.1 h.2.2.2):=bc _ _
def jri[LP](c:ae)(a b:J):M Int:=(Ga c a b 0).bind λd=>K d
def joo[LP](b:cF)(a c:J):M Int:=(jrh (b.1,(b.2.1,(b.2.2.1,b.2.2.2))) a c).bind λd=>cond (inR a b.2.2.2.length) (let f:=N b.2.2.2 a.toNat (Y,(([]:aX),([]:ae)))
 (jri f.2.2 d.2 c).bind λe=>K e) X
def jjd(a:ag)(b:uW):M ag:=cond (L (b.2.1<=b.1)) (K a) (let d:=O a.length
 cond (L (d>0)) (let l:=w64 (d-1)
 cond (inR l a.length) (let m:=(N a l.toNat (0,(0,0))).2.1
 cond (m==b.1) (let k:=w64 (d-1)
 cond (inR k a.length) (let o:=(N a k.toNat (0,(0,0))).2.2
 cond (o==b.2.2) (let f:=w64 (d-1)
 cond (inR f a.length) (let p:ag:=È a f.toNat ((N a f.toNat (0,(0,0))).1,(b.2.1,(N a f.toNat (0,(0,0))).2.2))
 K p) X) (let j:ag:=[(b.1,(b.2.1,b.2.2))]
 cond (L (U a+U j<=aG)) (let n:ag:=a++j
 K n) X)) X) (let e:ag:=[(b.1,(b.2.1,b.2.2))]
 cond (L (U a+U e<=aG)) (let i:ag:=a++e
 K i) X)) X) (let c:ag:=[(b.1,(b.2.1,b.2.2))]
 cond (L (U a+U c<=aG)) (let g:ag:=a++c
 K g) X))
def j6f[LP](r a:J)(q:ak)(d:al)(e:ao)(f:ar)(b:W J)(p:ag):M ((J×J×ak×al×ao×ar×(W J)×ag) ⊕ (ag)):=
 let i:=w64 (a+1)
 let n:=O b.length
 cond (L (i<n)) (cond (inR a b.length) (let m:=N b a.toNat 0
 let c:=w64 (a+1)
 cond (inR c b.length) (let o:=N b c.toNat 0
 cond (inR a b.length) (let k:=N b a.toNat 0
 (joo (q,(d,(e,f))) r k).bind λg=>(jjd p (m,(o,g))).bind λj=>let l:=w64 (a+1)
 K (.inl (r,l,q,d,e,f,b,j))) X) X) X) (K (.inr p))
def JZ[LP](g e:J)(f:ak)(a:al)(b:ao)(c:ar)(i:W J)(d:ag):M ag:=LP.lp (unc8 j6f) (g,e,f,a,b,c,i,d)
theorem Zt(g e f a b c i d):JZ g e f a b c i d=lpK (j6f g e f a b c i d) (λh=>JZ h.1 h.2.1 h.2.2.1 h.2.2.2.1 h.2.2.2.2.1 h.2.2.2.2.2.1 h.2.2.2.2.2.2.1 h.2.2.2.2.2.2.2):=bc _ _
def jje[LP](a:cF)(b c d:J):M ag:=(jnq (a.1,(a.2.1,(a.2.2.1,a.2.2.2))) b c d).bind λe=>(JZ b 0 a.1 a.2.1 a.2.2.1 a.2.2.2 e ([]:ag)).bind λf=>K f
def jcI[LP](a:cF)(b c d:J):M (ag×J):=(jlb (a.1,(a.2.1,(a.2.2.1,a.2.2.2))) b c d).bind λe=>cond (e != 0) (K (([]:ag),e)) ((jje (a.1,(a.2.1,(a.2.2.1,a.2.2.2))) b c d).bind λf=>let g:=O f.length
 cond (L (g>16384)) (K (([]:ag),5)) (K (f,0)))
def j7W(f g:J)(c d:ag)(a b:J)(e:ae):M ((J×J×ag×ag×J×J×ae) ⊕ (ae)):=
 let a8:=O c.length
 let y:=O d.length
 cond (cond (L (a<a8)) (L (b<y)) Z) (cond (inR a c.length) (let n:=N c a.toNat (0,(0,0))
 cond (inR b d.length) (let o:=N d b.toNat (0,(0,0))
 let k:Int:=if o.1>n.1 then o.1 else n.1
 cond (inR a c.length) (let l:=N c a.toNat (0,(0,0))
 cond (inR b d.length) (let p:=N d b.toNat (0,(0,0))
 let i:Int:=if p.2.1<l.2.1 then p.2.1 else l.2.1
 cond (L (k<i)) (cond (inR a c.length) (let a1:=N c a.toNat (0,(0,0))
 cond (inR b d.length) (let a0:=N d b.toNat (0,(0,0))
 cond (a1.2.2==a0.2.2) (cond (inR a c.length) (let a2:=N c a.toNat (0,(0,0))
 cond (L (a2.2.2>=0)) (cond (inR a c.length) (let a9:=N c a.toNat (0,(0,0))
 let m:ae:=[(a9.2.2,(f,(g,(k,i))))]
 cond (L (U e+U m<=aG)) (let j:ae:=e++m
 cond (inR a c.length) (let b1:=N c a.toNat (0,(0,0))
 cond (inR b d.length) (let a6:=N d b.toNat (0,(0,0))
 cond (L (b1.2.1<=a6.2.1)) (let a5:=w64 (a+1)
 K (.inl (f,g,c,d,a5,b,j))) (let a3:=w64 (b+1)
 K (.inl (f,g,c,d,a,a3,j)))) X) X) X) X) (cond (inR a c.length) (let b0:=N c a.toNat (0,(0,0))
 cond (inR b d.length) (let a4:=N d b.toNat (0,(0,0))
 cond (L (b0.2.1<=a4.2.1)) (let z:=w64 (a+1)
 K (.inl (f,g,c,d,z,b,e))) (let a7:=w64 (b+1)
 K (.inl (f,g,c,d,a,a7,e)))) X) X)) X) (cond (inR a c.length) (let u:=N c a.toNat (0,(0,0))
 cond (inR b d.length) (let x:=N d b.toNat (0,(0,0))
 cond (L (u.2.1<=x.2.1)) (let r:=w64 (a+1)
 K (.inl (f,g,c,d,r,b,e))) (let s:=w64 (b+1)
 K (.inl (f,g,c,d,a,s,e)))) X) X)) X) X) (cond (inR a c.length) (let w:=N c a.toNat (0,(0,0))
 cond (inR b d.length) (let q:=N d b.toNat (0,(0,0))
 cond (L (w.2.1<=q.2.1)) (let v:=w64 (a+1)
 K (.inl (f,g,c,d,v,b,e))) (let t:=w64 (b+1)
 K (.inl (f,g,c,d,a,t,e)))) X) X)) X) X) X) X) (K (.inr e))
def yN[LP](c d:J)(e g:ag)(a b:J)(f:ae):M ae:=LP.lp (unc7 j7W) (c,d,e,g,a,b,f)
theorem Zu(c d e g a b f):yN c d e g a b f=lpK (j7W c d e g a b f) (λh=>yN h.1 h.2.1 h.2.2.1 h.2.2.2.1 h.2.2.2.2.1 h.2.2.2.2.2.1 h.2.2.2.2.2.2):=bc _ _
def jns[LP](a d:J)(b c:ag):M ae:=(yN a d b c 0 0 ([]:ae)).bind λe=>K e
def jgk(a b:nO):M Bool:=cond (a.2.2.2.1 != b.2.2.2.1) (K (L (a.2.2.2.1<b.2.2.2.1))) (cond (a.2.1 != b.2.1) (K (L (a.2.1<b.2.1))) (K (L (a.2.2.1<b.2.2.1))))
def j6g(a3:ae->M (ae))(k j:ae)(g i:J)(l:ae):M ((ae×ae×J×J×ae) ⊕ (ae)):=
 let u:=O k.length
 let y:=O j.length
 cond (cond (L (g<u)) À (L (i<y))) (let a2:=O j.length
 cond (i==a2) (cond (inR g k.length) (let c:=N k g.toNat (0,(0,(0,(0,0))))
 let p:ae:=[(c.1,(c.2.1,(c.2.2.1,(c.2.2.2.1,c.2.2.2.2))))]
 cond (L (U l+U p<=aG)) (let s:ae:=l++p
 let t:=w64 (g+1)
 K (.inl (k,j,t,i,s))) X) X) (let w:=O k.length
 cond (L (g<w)) (cond (inR i j.length) (let b:=N j i.toNat (0,(0,(0,(0,0))))
 cond (inR g k.length) (let a:=N k g.toNat (0,(0,(0,(0,0))))
 (jgk (b.1,(b.2.1,(b.2.2.1,(b.2.2.2.1,b.2.2.2.2)))) (a.1,(a.2.1,(a.2.2.1,(a.2.2.2.1,a.2.2.2.2))))).bind λz=>cond (!z) (cond (inR g k.length) (let d:=N k g.toNat (0,(0,(0,(0,0))))
 let m:ae:=[(d.1,(d.2.1,(d.2.2.1,(d.2.2.2.1,d.2.2.2.2))))]
 cond (L (U l+U m<=aG)) (let a1:ae:=l++m
 let a0:=w64 (g+1)
 K (.inl (k,j,a0,i,a1))) X) X) (cond (inR i j.length) (let f:=N j i.toNat (0,(0,(0,(0,0))))
 let o:ae:=[(f.1,(f.2.1,(f.2.2.1,(f.2.2.2.1,f.2.2.2.2))))]
 cond (L (U l+U o<=aG)) (let r:ae:=l++o
 let v:=w64 (i+1)
 K (.inl (k,j,g,v,r))) X) X)) X) X) (cond (inR i j.length) (let e:=N j i.toNat (0,(0,(0,(0,0))))
 let n:ae:=[(e.1,(e.2.1,(e.2.2.1,(e.2.2.2.1,e.2.2.2.2))))]
 cond (L (U l+U n<=aG)) (let q:ae:=l++n
 let x:=w64 (i+1)
 K (.inl (k,j,g,x,q))) X) X))) (K (.inr l))
def J0[LP](a:ae->M (ae))(f e:ae)(b c:J)(d:ae):M ae:=LP.lp (unc5 (j6g a)) (f,e,b,c,d)
theorem Zv(a f e b c d):J0 a f e b c d=lpK (j6g a f e b c d) (λh=>J0 a h.1 h.2.1 h.2.2.1 h.2.2.2.1 h.2.2.2.2):=bc _ _
def J1[LP](c:ae->M (ae))(a:ae):M ae:=
 let m:=O a.length
 cond (L (m<2)) (K a) (let j:=O a.length
 let d:=w64 (Æ j 2)
 cond (L ((0:J)<=0)&&(L (0<=d)&&L (d<=(O a.length)))) (let k:ae:=Ì 0 (Ç d.toNat a)
 (c k).bind λg=>let e:=O a.length
 let b:=w64 (Æ e 2)
 cond (L (0<=b)&&(L (b<=(O a.length))&&L ((O a.length)<=(O a.length)))) (let f:ae:=Ì b.toNat (Ç a.length a)
 (c f).bind λi=>(J0 c g i 0 0 ([]:ae)).bind λl=>K l) X) X)
def j3Y[LP](b:ae->M (ae))(h:ae):M ae:=J1 (λa=>b a) h
def jma[LP](a:ae):M ae:=LP.rp j3Y a
def j5z[LP](k l j:J)(m:ak)(d:al)(c:ao)(b:ar)(i:cY):M ((J×J×J×ak×al×ao×ar×cY) ⊕ (J ⊕ cY)):=
 let e:=O b.length
 cond (L (j<e)) ((jcI (m,(d,(c,b))) j k l).bind λa=>cond (a.2 != 0) (K (.inr (.inl a.2))) (cond (L (U i+U [a.1]<=aG)) (let f:cY:=i++[a.1]
 let g:=w64 (j+1)
 K (.inl (k,l,g,m,d,c,b,f))) X)) (K (.inr (.inr i)))
def Gb[LP](d e i:J)(g:ak)(b:al)(a:ao)(c:ar)(f:cY):M (J ⊕ cY):=LP.lp (unc8 j5z) (d,e,i,g,b,a,c,f)
theorem Zw(d e i g b a c f):Gb d e i g b a c f=lpK (j5z d e i g b a c f) (λh=>Gb h.1 h.2.1 h.2.2.1 h.2.2.2.1 h.2.2.2.2.1 h.2.2.2.2.2.1 h.2.2.2.2.2.2.1 h.2.2.2.2.2.2.2):=bc _ _
def j5A[LP](a b:J)(c:cY)(e:ae):M ((J×J×cY×ae) ⊕ (J×cY×ae)):=
 let j:=O c.length
 cond (L (b<j)) (cond (inR a c.length) (let g:=N c a.toNat ([]:ag)
 cond (inR b c.length) (let i:=N c b.toNat ([]:ag)
 (jns a b g i).bind λd=>cond (L (U e+U d<=aG)) (let f:ae:=e++d
 let k:=w64 (b+1)
 K (.inl (a,k,c,f))) X) X) X) (K (.inr (a,c,e)))
def Gc[LP](a c:J)(d:cY)(b:ae):M (J×cY×ae):=LP.lp (unc4 j5A) (a,c,d,b)
theorem Zx(a c d b):Gc a c d b=lpK (j5A a c d b) (λh=>Gc h.1 h.2.1 h.2.2.1 h.2.2.2):=bc _ _
def j5B[LP](b:J)(g:cY)(f:ae):M ((J×cY×ae) ⊕ (ae)):=
 let d:=O g.length
 cond (L (b<d)) (let c:=w64 (b+1)
 (Gc b c g f).bind λa=>let e:=w64 (a.1+1)
 K (.inl (e,a.2.1,a.2.2))) (K (.inr f))
def Gd[LP](a:J)(c:cY)(b:ae):M ae:=LP.lp (unc3 j5B) (a,c,b)
theorem Zy(a c b):Gd a c b=lpK (j5B a c b) (λh=>Gd h.1 h.2.1 h.2.2):=bc _ _
def jeo[LP](a:cF)(b c:J):M (ae×J):=(jeh (a.1,(a.2.1,(a.2.2.1,a.2.2.2)))).bind λf=>cond (f != 0) (K (([]:ae),8)) ((j6V b c).bind λd=>cond (!d) (K (([]:ae),1)) ((Gb b c 0 a.1 a.2.1 a.2.2.1 a.2.2.2 ([]:cY)).bind λj=>sumC j (λl=>K (([]:ae),l)) (λk=>(Gd 0 k ([]:ae)).bind λi=>let g:=O i.length
 cond (L (g>16384)) (K (([]:ae),5)) ((jma i).bind λe=>K (e,0)))))
def j70(a:af)(b:J):M ((af×J) ⊕ (Ã ⊕ Å)):=
 let m:=O a.length
 cond (L (b<m)) (cond (inR b a.length) (let k:=N a b.toNat (0,0)
 cond (L (k.1<0)) (K (.inr (.inl Z))) (cond (inR b a.length) (let g:=N a b.toNat (0,0)
 cond (inR b a.length) (let l:=N a b.toNat (0,0)
 cond (L (g.1>=l.2)) (K (.inr (.inl Z))) (cond (inR b a.length) (let i:=N a b.toNat (0,0)
 cond (L (i.2>8589934592)) (K (.inr (.inl Z))) (cond (L (b>0)) (cond (inR b a.length) (let f:=N a b.toNat (0,0)
 let c:=w64 (b-1)
 cond (inR c a.length) (let j:=N a c.toNat (0,0)
 cond (L (f.1<=j.2)) (K (.inr (.inl Z))) (let e:=w64 (b+1)
 K (.inl (a,e)))) X) X) (let d:=w64 (b+1)
 K (.inl (a,d))))) X)) X) X)) X) (K (.inr (.inr ())))
def J2[LP](a:af)(b:J):M (Ã ⊕ Å):=LP.lp (unc2 j70) (a,b)
theorem Zz(a b):J2 a b=lpK (j70 a b) (λh=>J2 h.1 h.2):=bc _ _
def jin[LP](a:af):M Bool:=
 let c:=O a.length
 cond (L (c>4096)) (K Z) ((J2 a 0).bind λb=>sumC b (λd=>K d) (λe=>K À))
def j8G(b:af)(c e i:J):M ((af×J×J×J) ⊕ (af×J×J)):=cond (L (e<i)) (let f:=w64 (e+i)
 let a:=w64 (Æ f 2)
 cond (inR a b.length) (let g:=N b a.toNat (0,0)
 cond (L (g.2<=c)) (let d:=w64 (a+1)
 K (.inl (b,c,d,i))) (K (.inl (b,c,e,a)))) X) (K (.inr (b,c,e)))
def J3[LP](b:af)(c d a:J):M (af×J×J):=LP.lp (unc4 j8G) (b,c,d,a)
theorem ZA(b c d a):J3 b c d a=lpK (j8G b c d a) (λh=>J3 h.1 h.2.1 h.2.2.1 h.2.2.2):=bc _ _
def jk6[LP](b:af)(d:J):M Bool:=
 let f:=O b.length
 (J3 b d 0 f).bind λa=>let c:=O a.1.length
 cond ((inR a.2.2 a.1.length) || !(L (a.2.2<c))) (let e:=N a.1 a.2.2.toNat (0,0)
 K (cond (L (a.2.2<c)) (L (e.1<=a.2.1)) Z)) X
def j5C(a k:af)(l c:J)(j:W J):M ((af×af×J×J×(W J)) ⊕ (af×af×J×(W J))):=
 let g:=O a.length
 cond (L (c<g)) (cond (inR c a.length) (let i:=N a c.toNat (0,0)
 cond (inR c a.length) (let e:=N a c.toNat (0,0)
 let b:W Int:=[i.1,e.2]
 cond (L (U j+U b<=aG)) (let f:W Int:=j++b
 let d:=w64 (c+1)
 K (.inl (a,k,l,d,f))) X) X) X) (K (.inr (a,k,l,j)))
def Ge[LP](a b:af)(c e:J)(d:W J):M (af×af×J×(W J)):=LP.lp (unc5 j5C) (a,b,c,e,d)
theorem ZB(a b c e d):Ge a b c e d=lpK (j5C a b c e d) (λh=>Ge h.1 h.2.1 h.2.2.1 h.2.2.2.1 h.2.2.2.2):=bc _ _
def j5D(k b:af)(l a:J)(j:W J):M ((af×af×J×J×(W J)) ⊕ (af×af×J×(W J))):=
 let i:=O b.length
 cond (L (a<i)) (cond (inR a b.length) (let g:=N b a.toNat (0,0)
 cond (inR a b.length) (let f:=N b a.toNat (0,0)
 let c:W Int:=[g.1,f.2]
 cond (L (U j+U c<=aG)) (let d:W Int:=j++c
 let e:=w64 (a+1)
 K (.inl (k,b,l,e,d))) X) X) X) (K (.inr (k,b,l,j)))
def Gf[LP](b c:af)(d a:J)(e:W J):M (af×af×J×(W J)):=LP.lp (unc5 j5D) (b,c,d,a,e)
theorem ZC(b c d a e):Gf b c d a e=lpK (j5D b c d a e) (λh=>Gf h.1 h.2.1 h.2.2.1 h.2.2.2.1 h.2.2.2.2):=bc _ _
def j3M[LP](p q:af)(o a:J)(b:W J)(c:af):M ((af×af×J×J×(W J)×af) ⊕ (af)):=
 let a2:=w64 (a+1)
 let a7:=O b.length
 cond (L (a2<a7)) (cond (inR a b.length) (let a9:=N b a.toNat 0
 (jk6 p a9).bind λf=>cond (inR a b.length) (let a3:=N b a.toNat 0
 (jk6 q a3).bind λg=>let a0:Bool:=cond (cond (cond (o==1) (!f) Z) (!g) Z) À (cond (o==2) (cond (!f) À (!g)) Z)
 cond (cond a0 À (cond (o==3) (cond (!f) À g) Z)) (let a4:=w64 (a+1)
 K (.inl (p,q,o,a4,b,c))) (let d:=O c.length
 cond (L (d>0)) (let i:=w64 (d-1)
 cond (inR i c.length) (let z:=(N c i.toNat (0,0)).2
 cond (inR a b.length) (let y:=N b a.toNat 0
 cond (z==y) (let e:=w64 (d-1)
 let n:=w64 (a+1)
 cond (inR n b.length) (let t:=N b n.toNat 0
 cond (inR e c.length) (let a8:af:=È c e.toNat ((N c e.toNat (0,0)).1,t)
 let a5:=w64 (a+1)
 K (.inl (p,q,o,a5,b,a8))) X) X) (cond (inR a b.length) (let v:=N b a.toNat 0
 let l:=w64 (a+1)
 cond (inR l b.length) (let u:=N b l.toNat 0
 let j:af:=[(v,u)]
 cond (L (U c+U j<=aG)) (let s:af:=c++j
 let a6:=w64 (a+1)
 K (.inl (p,q,o,a6,b,s))) X) X) X)) X) X) (cond (inR a b.length) (let r:=N b a.toNat 0
 let m:=w64 (a+1)
 cond (inR m b.length) (let w:=N b m.toNat 0
 let k:af:=[(r,w)]
 cond (L (U c+U k<=aG)) (let x:af:=c++k
 let a1:=w64 (a+1)
 K (.inl (p,q,o,a1,b,x))) X) X) X))) X) X) (K (.inr c))
def Bf[LP](c d:af)(e b:J)(f:W J)(a:af):M af:=LP.lp (unc6 j3M) (c,d,e,b,f,a)
theorem OO(c d e b f a):Bf c d e b f a=lpK (j3M c d e b f a) (λh=>Bf h.1 h.2.1 h.2.2.1 h.2.2.2.1 h.2.2.2.2.1 h.2.2.2.2.2):=bc _ _
def jk7[LP](b c:af)(a:J):M (af×J):=(jin b).bind λg=>cond (!g) (K (([]:af),8)) ((jin c).bind λi=>cond (!i) (K (([]:af),8)) ((Ge b c a 0 ([]:(W J))).bind λd=>(Gf d.1 d.2.1 d.2.2.1 0 d.2.2.2).bind λe=>(jnp e.2.2.2).bind λj=>(Bf e.1 e.2.1 e.2.2.1 0 j ([]:af)).bind λk=>let f:=O k.length
 cond (L (f>4096)) (K (([]:af),5)) (K (k,0))))
def jnt[LP](a b:af):M (af×J):=(jk7 a b 2).bind λc=>K (c.1,c.2)
def j2e(f g:J)(c:ag)(i b:J):M ((J×J×ag×J×J) ⊕ (Ã ⊕ Å)):=cond (L (b<i)) (cond (inR b c.length) (let a:=N c b.toNat (0,(0,0))
 cond ((inR b c.length) || !(a.1==f)) (let d:=N c b.toNat (0,(0,0))
 cond (cond (a.1==f) (d.2.2==g) Z) (K (.inr (.inl À))) (let e:=w64 (b+1)
 K (.inl (f,g,c,i,e)))) X) X) (K (.inr (.inr ())))
def J4[LP](a b:J)(c:ag)(e d:J):M (Ã ⊕ Å):=LP.lp (unc5 j2e) (a,b,c,e,d)
theorem ZD(a b c e d):J4 a b c e d=lpK (j2e a b c e d) (λh=>J4 h.1 h.2.1 h.2.2.1 h.2.2.2.1 h.2.2.2.2):=bc _ _
def j3N[LP](a b:J)(c:ag):M Bool:=
 let e:=O c.length
 (J4 a b c e 0).bind λd=>sumC d (λf=>K f) (λg=>K Z)
def j30(r:J)(g:ae)(k:ag)(m j n b a:J)(s:ak)(f:al)(c:ao)(d:ar)(o:ag)(i l:af):M ((J×ae×ag×J×J×J×J×J×ak×al×ao×ar×ag×af×af) ⊕ (J×ae×ag×J×J×J×ak×al×ao×ar×af×af)):=cond (L (a<b)) (cond (inR a o.length) (let e:=N o a.toNat (0,(0,0))
 cond (e.1==1) (let x:=w64 (m+1)
 let q:=w64 (a+1)
 K (.inl (r,g,k,x,j,n,b,q,s,f,c,d,o,i,l))) (cond (e.1==2) (let w:=w64 (j+1)
 let u:=w64 (a+1)
 K (.inl (r,g,k,m,w,n,b,u,s,f,c,d,o,i,l))) (cond (e.1==3) (let p:=w64 (n+1)
 let t:=w64 (a+1)
 K (.inl (r,g,k,m,j,p,b,t,s,f,c,d,o,i,l))) (let v:=w64 (a+1)
 K (.inl (r,g,k,m,j,n,b,v,s,f,c,d,o,i,l)))))) X) (K (.inr (r,g,k,m,j,n,s,f,c,d,i,l)))
def J5[LP](p:J)(j:ae)(g:ag)(i m l c a:J)(n:ak)(b:al)(d:ao)(e:ar)(o:ag)(f k:af):M (J×ae×ag×J×J×J×ak×al×ao×ar×af×af):=LP.lp (u8 unc7 j30) (p,j,g,i,m,l,c,a,n,b,d,e,o,f,k)
theorem ZE(p j g i m l c a n b d e o f k):J5 p j g i m l c a n b d e o f k=lpK (j30 p j g i m l c a n b d e o f k) (λh=>J5 h.1 h.2.1 h.2.2.1 h.2.2.2.1 h.2.2.2.2.1 h.2.2.2.2.2.1 h.2.2.2.2.2.2.1 h.2.2.2.2.2.2.2.1 h.2.2.2.2.2.2.2.2.1 h.2.2.2.2.2.2.2.2.2.1 h.2.2.2.2.2.2.2.2.2.2.1 h.2.2.2.2.2.2.2.2.2.2.2.1 h.2.2.2.2.2.2.2.2.2.2.2.2.1 h.2.2.2.2.2.2.2.2.2.2.2.2.2.1 h.2.2.2.2.2.2.2.2.2.2.2.2.2.2):=bc _ _
def j2c[LP](k:J)(l:ae)(j:ag)(t q x b:J)(y:ak)(c:al)(g:ao)(i:ar)(a s:af):M ((J×ae×ag×J×J×J×J×ak×al×ao×ar×af×af) ⊕ (Ã ⊕ (J×ae×ag×J×J×J×ak×al×ao×ar×af))):=
 let u:=O a.length
 cond (L (b<u)) (cond (inR b a.length) (let o:=(N a b.toNat (0,0)).1
 let f:=w64 (b-1)
 cond (inR f a.length) (let n:=(N a f.toNat (0,0)).2
 let d:=w64 (o-n)
 cond (inR k c.length) (let e:=N c k.toNat (Y,(0,(([]:af),(0,(0,Z)))))
 cond (inR b a.length) (let v:=(N a b.toNat (0,0)).1
 (j3N 1 v j).bind λw=>cond (!(w==(L (d<e.2.2.2.2.1)))) (K (.inr (.inl Z))) (cond (L (d<e.2.2.2.2.1)) (let r:=w64 (t-1)
 let p:=w64 (b+1)
 K (.inl (k,l,j,r,q,x,p,y,c,g,i,a,s))) (let m:=w64 (b+1)
 K (.inl (k,l,j,t,q,x,m,y,c,g,i,a,s))))) X) X) X) X) (K (.inr (.inr (k,l,j,t,q,x,y,c,g,i,s))))
def Gg[LP](n:J)(i:ae)(e:ag)(f l k g:J)(m:ak)(a:al)(b:ao)(c:ar)(d j:af):M (Ã ⊕ (J×ae×ag×J×J×J×ak×al×ao×ar×af)):=LP.lp (u8 unc5 j2c) (n,i,e,f,l,k,g,m,a,b,c,d,j)
theorem OP(n i e f l k g m a b c d j):Gg n i e f l k g m a b c d j=lpK (j2c n i e f l k g m a b c d j) (λh=>Gg h.1 h.2.1 h.2.2.1 h.2.2.2.1 h.2.2.2.2.1 h.2.2.2.2.2.1 h.2.2.2.2.2.2.1 h.2.2.2.2.2.2.2.1 h.2.2.2.2.2.2.2.2.1 h.2.2.2.2.2.2.2.2.2.1 h.2.2.2.2.2.2.2.2.2.2.1 h.2.2.2.2.2.2.2.2.2.2.2.1 h.2.2.2.2.2.2.2.2.2.2.2.2):=bc _ _
def j31[LP](c:J)(i:ae)(e:ag)(q o s d b:J)(u:ak)(a:al)(l:ao)(m:ar)(f:af):M ((J×ae×ag×J×J×J×J×J×ak×al×ao×ar×af) ⊕ (Ã ⊕ (J×ae×ag×J×J×J))):=cond (L (b<d)) (cond (inR b f.length) (let n:=(N f b.toNat (0,0)).1
 (j3N 2 n e).bind λt=>cond (inR c a.length) (let p:=N a c.toNat (Y,(0,(([]:af),(0,(0,Z)))))
 cond (t==p.2.2.2.2.2) (K (.inr (.inl Z))) (cond (inR c a.length) (let g:=N a c.toNat (Y,(0,(([]:af),(0,(0,Z)))))
 cond (!g.2.2.2.2.2) (let k:=w64 (o-1)
 let j:=w64 (b+1)
 K (.inl (c,i,e,q,k,s,d,j,u,a,l,m,f))) (let r:=w64 (b+1)
 K (.inl (c,i,e,q,o,s,d,r,u,a,l,m,f)))) X)) X) X) (K (.inr (.inr (c,i,e,q,o,s))))
def J6[LP](n:J)(i:ae)(f:ag)(g l k a b:J)(m:ak)(c:al)(d:ao)(e:ar)(j:af):M (Ã ⊕ (J×ae×ag×J×J×J)):=LP.lp (u8 unc5 j31) (n,i,f,g,l,k,a,b,m,c,d,e,j)
theorem ZF(n i f g l k a b m c d e j):J6 n i f g l k a b m c d e j=lpK (j31 n i f g l k a b m c d e j) (λh=>J6 h.1 h.2.1 h.2.2.1 h.2.2.2.1 h.2.2.2.2.1 h.2.2.2.2.2.1 h.2.2.2.2.2.2.1 h.2.2.2.2.2.2.2.1 h.2.2.2.2.2.2.2.2.1 h.2.2.2.2.2.2.2.2.2.1 h.2.2.2.2.2.2.2.2.2.2.1 h.2.2.2.2.2.2.2.2.2.2.2.1 h.2.2.2.2.2.2.2.2.2.2.2.2):=bc _ _
def j32[LP](s:J)(b:ae)(e:ag)(f d g t c a:J):M ((J×ae×ag×J×J×J×J×J×J) ⊕ (Ã ⊕ (J×J×J))):=cond (L (a<c)) (cond (inR a b.length) (let o:=N b a.toNat (0,(0,(0,(0,0))))
 cond (o.1 != s) (let m:=w64 (a+1)
 K (.inl (s,b,e,f,d,g,t,c,m))) (cond (inR a b.length) (let l:=N b a.toNat (0,(0,(0,(0,0))))
 (j3N 3 l.2.2.2.1 e).bind λj=>cond (!j) (K (.inr (.inl Z))) (cond (inR a b.length) (let q:=N b a.toNat (0,(0,(0,(0,0))))
 cond (q.2.2.2.1 != t) (let k:=w64 (g-1)
 cond (inR a b.length) (let i:=N b a.toNat (0,(0,(0,(0,0))))
 let n:=w64 (a+1)
 K (.inl (s,b,e,f,d,k,i.2.2.2.1,c,n))) X) (cond (inR a b.length) (let p:=N b a.toNat (0,(0,(0,(0,0))))
 let r:=w64 (a+1)
 K (.inl (s,b,e,f,d,g,p.2.2.2.1,c,r))) X)) X)) X)) X) (K (.inr (.inr (f,d,g))))
def J7[LP](j:J)(e:ae)(c:ag)(d i g f a b:J):M (Ã ⊕ (J×J×J)):=LP.lp (unc9 j32) (j,e,c,d,i,g,f,a,b)
theorem ZG(j e c d i g f a b):J7 j e c d i g f a b=lpK (j32 j e c d i g f a b) (λh=>J7 h.1 h.2.1 h.2.2.1 h.2.2.2.1 h.2.2.2.2.1 h.2.2.2.2.2.1 h.2.2.2.2.2.2.1 h.2.2.2.2.2.2.2.1 h.2.2.2.2.2.2.2.2):=bc _ _
def jd0[LP](l:W J):M Bool:=(jm6 l).bind λa1=>cond (!a1) ((jj6).bind λa2=>K a2) ((jok l).bind λq=>(j9X q.1 q.2 3).bind λa=>let z:=O a.1.2.1.length
 (j09 a.2.1 a.2.2 z).bind λb=>(j6R b.2.1 b.2.2).bind λe=>let f:=w64 (e.1+691200)
 (j24 (a.1.1,(a.1.2.1,(a.1.2.2.1,a.1.2.2.2))) b.1 e.1 f).bind λg=>(j7g (a.1.1,(a.1.2.1,(a.1.2.2.1,a.1.2.2.2))) b.1 e.1 f).bind λn=>(jeo (a.1.1,(a.1.2.1,(a.1.2.2.1,a.1.2.2.2))) e.1 f).bind λo=>cond (inR b.1 a.1.2.1.length) (let p:=N a.1.2.1 b.1.toNat (Y,(0,(([]:af),(0,(0,Z)))))
 cond (inR p.2.1 a.1.1.length) (let k:=N a.1.1 p.2.1.toNat (Y,(0,([]:aZ)))
 cond (inR b.1 a.1.2.1.length) (let a0:=N a.1.2.1 b.1.toNat (Y,(0,(([]:af),(0,(0,Z)))))
 (jaY (k.1,(k.2.1,k.2.2)) a0.2.2.1 e.1 f).bind λr=>let s:Bool:=cond (cond (cond (g.2 != 0) À (n.2 != 0)) À (o.2 != 0)) À (r.2 != 0)
 cond s (K Z) ((jnt n.1 r.1).bind λj=>cond (j.2 != 0) (K Z) (let x:=O g.1.length
 (J5 b.1 o.1 g.1 0 0 0 x 0 a.1.1 a.1.2.1 a.1.2.2.1 a.1.2.2.2 g.1 n.1 j.1).bind λc=>(Gg c.1 c.2.1 c.2.2.1 c.2.2.2.1 c.2.2.2.2.1 c.2.2.2.2.2.1 1 c.2.2.2.2.2.2.1 c.2.2.2.2.2.2.2.1 c.2.2.2.2.2.2.2.2.1 c.2.2.2.2.2.2.2.2.2.1 c.2.2.2.2.2.2.2.2.2.2.1 c.2.2.2.2.2.2.2.2.2.2.2).bind λa4=>sumC a4 (λa7=>K a7) (λi=>let t:=O i.2.2.2.2.2.2.2.2.2.2.length
 (J6 i.1 i.2.1 i.2.2.1 i.2.2.2.1 i.2.2.2.2.1 i.2.2.2.2.2.1 t 0 i.2.2.2.2.2.2.1 i.2.2.2.2.2.2.2.1 i.2.2.2.2.2.2.2.2.1 i.2.2.2.2.2.2.2.2.2.1 i.2.2.2.2.2.2.2.2.2.2).bind λa6=>sumC a6 (λa3=>K a3) (λd=>let v:=O d.2.1.length
 (J7 d.1 d.2.1 d.2.2.1 d.2.2.2.1 d.2.2.2.2.1 d.2.2.2.2.2 (-1) v 0).bind λa5=>sumC a5 (λy=>K y) (λm=>let w:Bool:=cond (cond (m.1==0) (m.2.1==0) Z) (m.2.2==0) Z
 cond w ((jj6).bind λu=>K u) (K Z))))))) X) X) X)
end
end Go.Proofs.Pw
