/- Plain functions, printed by a program out of the given code. -/
import Derived.Test.YtgepoeafaklbjaaGreatPFLS
open _root_ renaming Int->J,Option->O,ByteArray->X,List->Y,Bool->Æ,Unit->Ê
open Option renaming some->M,none->Z
open Decidable renaming decide->N
open List renaming getD->S,length->W,set->Ç,take->Ë,replicate->Ì,drop->Í
open Int renaming ofNat->U,tmod->Ä,tdiv->É,fdiv->Ï
open ByteArray renaming empty->À,mk->Ã,size->Å,toList->È
open Bool renaming false->Á,true->Â
open Go Go.Lft
set_option linter.unusedVariables false
namespace Go.Proofs.Pw
noncomputable section
abbrev Tn2:Type:=(Y (J×J))
abbrev Tn1:Type:=(J×(Y J))
abbrev Tn0:Type:=((Y J)×J)
abbrev Tn4:Type:=(J×J×J)
abbrev Tn3:Type:=((J×J)×J)
abbrev Tn17:Type:=(Y Tn4)
abbrev Tn16:Type:=(Y Tn3)
abbrev Tn15:Type:=(J×Tn2)
abbrev Tn22:Type:=(X×Tn1)
abbrev Tn25:Type:=(Y Tn17)
abbrev Tn23:Type:=(Y Tn15)
abbrev Tn27:Type:=(Y (J×Tn4))
abbrev Tn28:Type:=(J×J×Tn4)
abbrev Tn30:Type:=(Y Tn22)
abbrev Tn34:Type:=(Y Tn28)
abbrev Tn43:Type:=(J×J×Tn28)
abbrev Tn47:Type:=(Y Tn43)
abbrev Tn49:Type:=(X×J×Tn2×J×J×Æ)
abbrev Tn53:Type:=(Y Tn49)
abbrev Tn57:Type:=(X×J×Tn47)
abbrev Tn59:Type:=(Y Tn57)
abbrev Tn64:Type:=(X×J×(J×J)×J×J×(Y J)×Tn2×J×J)
abbrev Tn65:Type:=(Y Tn64)
abbrev Tn69:Type:=(X×Tn65×Tn34)
abbrev Tn70:Type:=(Y Tn69)
abbrev Tn76:Type:=(Tn59×Tn53×Tn30×Tn70)
abbrev Tn78:Type:=(Tn76×Tn23)
abbrev u8{A B C D E F G H T I R:Type}(u:T->I->R)(f:A->B->C->D->E->F->G->H->T)(h:A×B×C×D×E×F×G×H×I):R:=u (f h.1 h.2.1 h.2.2.1 h.2.2.2.1 h.2.2.2.2.1 h.2.2.2.2.2.1 h.2.2.2.2.2.2.1 h.2.2.2.2.2.2.2.1) h.2.2.2.2.2.2.2.2
abbrev unc2{A0 A1 R:Type}(f:A0->A1->R)(h:A0×A1):R:=f h.1 h.2
abbrev unc3{A0 A1 A2 R:Type}(f:A0->A1->A2->R)(h:A0×A1×A2):R:=f h.1 h.2.1 h.2.2
abbrev unc4{A0 A1 A2 A3 R:Type}(f:A0->A1->A2->A3->R)(h:A0×A1×A2×A3):R:=f h.1 h.2.1 h.2.2.1 h.2.2.2
abbrev unc5{A0 A1 A2 A3 A4 R:Type}(f:A0->A1->A2->A3->A4->R)(h:A0×A1×A2×A3×A4):R:=f h.1 h.2.1 h.2.2.1 h.2.2.2.1 h.2.2.2.2
abbrev unc6{A0 A1 A2 A3 A4 A5 R:Type}(f:A0->A1->A2->A3->A4->A5->R)(h:A0×A1×A2×A3×A4×A5):R:=f h.1 h.2.1 h.2.2.1 h.2.2.2.1 h.2.2.2.2.1 h.2.2.2.2.2
abbrev unc7{A0 A1 A2 A3 A4 A5 A6 R:Type}(f:A0->A1->A2->A3->A4->A5->A6->R)(h:A0×A1×A2×A3×A4×A5×A6):R:=f h.1 h.2.1 h.2.2.1 h.2.2.2.1 h.2.2.2.2.1 h.2.2.2.2.2.1 h.2.2.2.2.2.2
abbrev unc8{A0 A1 A2 A3 A4 A5 A6 A7 R:Type}(f:A0->A1->A2->A3->A4->A5->A6->A7->R)(h:A0×A1×A2×A3×A4×A5×A6×A7):R:=f h.1 h.2.1 h.2.2.1 h.2.2.2.1 h.2.2.2.2.1 h.2.2.2.2.2.1 h.2.2.2.2.2.2.1 h.2.2.2.2.2.2.2
abbrev unc9{A0 A1 A2 A3 A4 A5 A6 A7 A8 R:Type}(f:A0->A1->A2->A3->A4->A5->A6->A7->A8->R)(h:A0×A1×A2×A3×A4×A5×A6×A7×A8):R:=f h.1 h.2.1 h.2.2.1 h.2.2.2.1 h.2.2.2.2.1 h.2.2.2.2.2.1 h.2.2.2.2.2.2.1 h.2.2.2.2.2.2.2.1 h.2.2.2.2.2.2.2.2
section
variable{a b c d e f g h i j k l m n o p q z:Type}
abbrev c2(y:a×b->z)(a:a)(b:b):z:=y (a,b)
abbrev c3(y:a×b×c->z)(a:a)(b:b)(c:c):z:=y (a,b,c)
abbrev c4(y:a×b×c×d->z)(a:a)(b:b)(c:c)(d:d):z:=y (a,b,c,d)
abbrev c5(y:a×b×c×d×e->z)(a:a)(b:b)(c:c)(d:d)(e:e):z:=y (a,b,c,d,e)
abbrev c6(y:a×b×c×d×e×f->z)(a:a)(b:b)(c:c)(d:d)(e:e)(f:f):z:=y (a,b,c,d,e,f)
abbrev c7(y:a×b×c×d×e×f×g->z)(a:a)(b:b)(c:c)(d:d)(e:e)(f:f)(g:g):z:=y (a,b,c,d,e,f,g)
abbrev d8(y:a×b×c×d×e×f×g×h->z)(a:a)(b:b)(c:c)(d:d)(e:e)(f:f)(g:g)(h:h):z:=y (a,b,c,d,e,f,g,h)
abbrev c9(y:a×b×c×d×e×f×g×h×i->z)(a:a)(b:b)(c:c)(d:d)(e:e)(f:f)(g:g)(h:h)(i:i):z:=y (a,b,c,d,e,f,g,h,i)
abbrev c8(u:(i->z)->j)(y:a×b×c×d×e×f×g×h×i->z)(a:a)(b:b)(c:c)(d:d)(e:e)(f:f)(g:g)(h:h):j:=u λi=>y (a,b,c,d,e,f,g,h,i)
abbrev lp2[LP](s:a->b->O ((a×b) ⊕ z)):=c2 (LP.lp (unc2 s))
theorem eq2(s:a->b->O ((a×b) ⊕ z))(f)(h:f=lp2 s:=by rfl)(a b):f a b=lpK (s a b) (λh=>f h.1 h.2):=h▸j0d _ _
abbrev lp3[LP](s:a->b->c->O ((a×b×c) ⊕ z)):=c3 (LP.lp (unc3 s))
theorem eq3(s:a->b->c->O ((a×b×c) ⊕ z))(f)(h:f=lp3 s:=by rfl)(a b c):f a b c=lpK (s a b c) (λh=>f h.1 h.2.1 h.2.2):=h▸j0d _ _
abbrev lp4[LP](s:a->b->c->d->O ((a×b×c×d) ⊕ z)):=c4 (LP.lp (unc4 s))
theorem eq4(s:a->b->c->d->O ((a×b×c×d) ⊕ z))(f)(h:f=lp4 s:=by rfl)(a b c d):f a b c d=lpK (s a b c d) (λh=>f h.1 h.2.1 h.2.2.1 h.2.2.2):=h▸j0d _ _
abbrev lp5[LP](s:a->b->c->d->e->O ((a×b×c×d×e) ⊕ z)):=c5 (LP.lp (unc5 s))
theorem eq5(s:a->b->c->d->e->O ((a×b×c×d×e) ⊕ z))(f)(h:f=lp5 s:=by rfl)(a b c d e):f a b c d e=lpK (s a b c d e) (λh=>f h.1 h.2.1 h.2.2.1 h.2.2.2.1 h.2.2.2.2):=h▸j0d _ _
abbrev lp6[LP](s:a->b->c->d->e->f->O ((a×b×c×d×e×f) ⊕ z)):=c6 (LP.lp (unc6 s))
theorem eq6(s:a->b->c->d->e->f->O ((a×b×c×d×e×f) ⊕ z))(f)(h:f=lp6 s:=by rfl)(a b c d e g):f a b c d e g=lpK (s a b c d e g) (λh=>f h.1 h.2.1 h.2.2.1 h.2.2.2.1 h.2.2.2.2.1 h.2.2.2.2.2):=h▸j0d _ _
abbrev lp7[LP](s:a->b->c->d->e->f->g->O ((a×b×c×d×e×f×g) ⊕ z)):=c7 (LP.lp (unc7 s))
theorem eq7(s:a->b->c->d->e->f->g->O ((a×b×c×d×e×f×g) ⊕ z))(f)(h:f=lp7 s:=by rfl)(a b c d e g i):f a b c d e g i=lpK (s a b c d e g i) (λh=>f h.1 h.2.1 h.2.2.1 h.2.2.2.1 h.2.2.2.2.1 h.2.2.2.2.2.1 h.2.2.2.2.2.2):=h▸j0d _ _
abbrev lp8[LP](s:a->b->c->d->e->f->g->h->O ((a×b×c×d×e×f×g×h) ⊕ z)):=d8 (LP.lp (unc8 s))
theorem eq8(s:a->b->c->d->e->f->g->h->O ((a×b×c×d×e×f×g×h) ⊕ z))(f)(h:f=lp8 s:=by rfl)(a b c d e g i j):f a b c d e g i j=lpK (s a b c d e g i j) (λh=>f h.1 h.2.1 h.2.2.1 h.2.2.2.1 h.2.2.2.2.1 h.2.2.2.2.2.1 h.2.2.2.2.2.2.1 h.2.2.2.2.2.2.2):=h▸j0d _ _
abbrev lp9[LP](s:a->b->c->d->e->f->g->h->i->O ((a×b×c×d×e×f×g×h×i) ⊕ z)):=c9 (LP.lp (unc9 s))
theorem eq9(s:a->b->c->d->e->f->g->h->i->O ((a×b×c×d×e×f×g×h×i) ⊕ z))(f)(h:f=lp9 s:=by rfl)(a b c d e g i j k):f a b c d e g i j k=lpK (s a b c d e g i j k) (λh=>f h.1 h.2.1 h.2.2.1 h.2.2.2.1 h.2.2.2.2.1 h.2.2.2.2.2.1 h.2.2.2.2.2.2.1 h.2.2.2.2.2.2.2.1 h.2.2.2.2.2.2.2.2):=h▸j0d _ _
theorem eq10(s:a->b->c->d->e->f->g->h->i->j->O ((a×b×c×d×e×f×g×h×i×j) ⊕ z))(f)(h:f=c8 c2 (LP.lp (u8 unc2 s)):=by rfl)(a b c d e g i j k l):f a b c d e g i j k l=lpK (s a b c d e g i j k l) (λh=>f h.1 h.2.1 h.2.2.1 h.2.2.2.1 h.2.2.2.2.1 h.2.2.2.2.2.1 h.2.2.2.2.2.2.1 h.2.2.2.2.2.2.2.1 h.2.2.2.2.2.2.2.2.1 h.2.2.2.2.2.2.2.2.2):=h▸j0d _ _
theorem eq11(s:a->b->c->d->e->f->g->h->i->j->k->O ((a×b×c×d×e×f×g×h×i×j×k) ⊕ z))(f)(h:f=c8 c3 (LP.lp (u8 unc3 s)):=by rfl)(a b c d e g i j k l m):f a b c d e g i j k l m=lpK (s a b c d e g i j k l m) (λh=>f h.1 h.2.1 h.2.2.1 h.2.2.2.1 h.2.2.2.2.1 h.2.2.2.2.2.1 h.2.2.2.2.2.2.1 h.2.2.2.2.2.2.2.1 h.2.2.2.2.2.2.2.2.1 h.2.2.2.2.2.2.2.2.2.1 h.2.2.2.2.2.2.2.2.2.2):=h▸j0d _ _
theorem eq12(s:a->b->c->d->e->f->g->h->i->j->k->l->O ((a×b×c×d×e×f×g×h×i×j×k×l) ⊕ z))(f)(h:f=c8 c4 (LP.lp (u8 unc4 s)):=by rfl)(a b c d e g i j k l m n):f a b c d e g i j k l m n=lpK (s a b c d e g i j k l m n) (λh=>f h.1 h.2.1 h.2.2.1 h.2.2.2.1 h.2.2.2.2.1 h.2.2.2.2.2.1 h.2.2.2.2.2.2.1 h.2.2.2.2.2.2.2.1 h.2.2.2.2.2.2.2.2.1 h.2.2.2.2.2.2.2.2.2.1 h.2.2.2.2.2.2.2.2.2.2.1 h.2.2.2.2.2.2.2.2.2.2.2):=h▸j0d _ _
theorem eq13(s:a->b->c->d->e->f->g->h->i->j->k->l->m->O ((a×b×c×d×e×f×g×h×i×j×k×l×m) ⊕ z))(f)(h:f=c8 c5 (LP.lp (u8 unc5 s)):=by rfl)(a b c d e g i j k l m n o):f a b c d e g i j k l m n o=lpK (s a b c d e g i j k l m n o) (λh=>f h.1 h.2.1 h.2.2.1 h.2.2.2.1 h.2.2.2.2.1 h.2.2.2.2.2.1 h.2.2.2.2.2.2.1 h.2.2.2.2.2.2.2.1 h.2.2.2.2.2.2.2.2.1 h.2.2.2.2.2.2.2.2.2.1 h.2.2.2.2.2.2.2.2.2.2.1 h.2.2.2.2.2.2.2.2.2.2.2.1 h.2.2.2.2.2.2.2.2.2.2.2.2):=h▸j0d _ _
theorem eq14(s:a->b->c->d->e->f->g->h->i->j->k->l->m->n->O ((a×b×c×d×e×f×g×h×i×j×k×l×m×n) ⊕ z))(f)(h:f=c8 c6 (LP.lp (u8 unc6 s)):=by rfl)(a b c d e g i j k l m n o p):f a b c d e g i j k l m n o p=lpK (s a b c d e g i j k l m n o p) (λh=>f h.1 h.2.1 h.2.2.1 h.2.2.2.1 h.2.2.2.2.1 h.2.2.2.2.2.1 h.2.2.2.2.2.2.1 h.2.2.2.2.2.2.2.1 h.2.2.2.2.2.2.2.2.1 h.2.2.2.2.2.2.2.2.2.1 h.2.2.2.2.2.2.2.2.2.2.1 h.2.2.2.2.2.2.2.2.2.2.2.1 h.2.2.2.2.2.2.2.2.2.2.2.2.1 h.2.2.2.2.2.2.2.2.2.2.2.2.2):=h▸j0d _ _
theorem eq15(s:a->b->c->d->e->f->g->h->i->j->k->l->m->n->o->O ((a×b×c×d×e×f×g×h×i×j×k×l×m×n×o) ⊕ z))(f)(h:f=c8 c7 (LP.lp (u8 unc7 s)):=by rfl)(a b c d e g i j k l m n o p q):f a b c d e g i j k l m n o p q=lpK (s a b c d e g i j k l m n o p q) (λh=>f h.1 h.2.1 h.2.2.1 h.2.2.2.1 h.2.2.2.2.1 h.2.2.2.2.2.1 h.2.2.2.2.2.2.1 h.2.2.2.2.2.2.2.1 h.2.2.2.2.2.2.2.2.1 h.2.2.2.2.2.2.2.2.2.1 h.2.2.2.2.2.2.2.2.2.2.1 h.2.2.2.2.2.2.2.2.2.2.2.1 h.2.2.2.2.2.2.2.2.2.2.2.2.1 h.2.2.2.2.2.2.2.2.2.2.2.2.2.1 h.2.2.2.2.2.2.2.2.2.2.2.2.2.2):=h▸j0d _ _
theorem eq17(s:a->b->c->d->e->f->g->h->i->j->k->l->m->n->o->p->q->O ((a×b×c×d×e×f×g×h×i×j×k×l×m×n×o×p×q) ⊕ z))(f)(h:f=c8 c9 (LP.lp (u8 unc9 s)):=by rfl)(a b c d e g i j k l m n o p q r t):f a b c d e g i j k l m n o p q r t=lpK (s a b c d e g i j k l m n o p q r t) (λh=>f h.1 h.2.1 h.2.2.1 h.2.2.2.1 h.2.2.2.2.1 h.2.2.2.2.2.1 h.2.2.2.2.2.2.1 h.2.2.2.2.2.2.2.1 h.2.2.2.2.2.2.2.2.1 h.2.2.2.2.2.2.2.2.2.1 h.2.2.2.2.2.2.2.2.2.2.1 h.2.2.2.2.2.2.2.2.2.2.2.1 h.2.2.2.2.2.2.2.2.2.2.2.2.1 h.2.2.2.2.2.2.2.2.2.2.2.2.2.1 h.2.2.2.2.2.2.2.2.2.2.2.2.2.2.1 h.2.2.2.2.2.2.2.2.2.2.2.2.2.2.2.1 h.2.2.2.2.2.2.2.2.2.2.2.2.2.2.2.2):=h▸j0d _ _
end
def jiJ(a:Y J):O Bool:=
 let b:=U a.length
 M (N (b<=500))
def jkU  : O Tn76:=
 let g:Tn59:=[((Ã #[122]),0,([]:Tn47))]
 let e:Tn2:=[(172800,194400)]
 let f:Tn53:=[((Ã #[97]),0,e,0,0,Á),((Ã #[98]),0,([]:Tn2),0,0,Á)]
 let a:Y Int:=[1]
 let d:Tn65:=[((Ã #[108]),0,(1,0),1,1,a,([]:Tn2),0,0)]
 let c:Tn34:=[(1,(-1),0,518400,525600)]
 let b:Tn70:=[((Ã #[115]),d,c)]
 M (g,f,([]:Tn30),b)
def jaR(a:Tn57):O ByteArray:=M a.1
def jbL(a:J):O Bool:=M (cond (N (a>=97)) (N (a<=122)) Á)
def jgP(a:J):O Bool:=M (cond (N (a>=48)) (N (a<=57)) Á)
def j6V(d:X)(c b:J):O ((X×J×J) ⊕ (Æ ⊕ Ê)):=cond (N (b<c)) (cond (inR b (Å d)) (let a:=j39 d b
 (jbL a).bind λi=>cond (!i) ((jgP a).bind λg=>cond (cond (cond (!g) (a != 95) Á) (a != 45) Á) (M (.inr (.inl Á))) (let e:=w64 (b+1)
 M (.inl (d,c,e)))) (let f:=w64 (b+1)
 M (.inl (d,c,f)))) Z) (M (.inr (.inr ())))
def jbh[LP]:=lp3 j6V
abbrev jjB:=eq3 j6V jbh
def j8O[LP](a:X):O Bool:=
 let g:=U (Å a)
 let b:Bool:=cond (È a==È À) Â (N (g>24))
 cond ((inR 0 (Å a)) || !(!b)) (let d:=j39 a 0
 cond b (M Á) ((jbL d).bind λc=>cond (!c) (M Á) (let e:=U (Å a)
 (jbh a e 0).bind λf=>sumC f (λi=>M i) (λj=>M Â)))) Z
def j4V[LP](b:X)(a:Y (X×Æ)):O (J×(Y (X×Æ))):=(j8O b).bind λc=>cond (!c) (M (2,a)) (cond (j1x Á a b) (M (4,a)) (let d:(Y (X×Æ)):=j2Y a b Â
 M (0,d)))
def jaS(a b c:J):O Bool:=M (cond (N (a>=b)) (N (a<=c)) Á)
def jfd(a:Tn43):O Int:=(jaS a.1 1970 2240).bind λi=>cond (!i) (M 1) ((jaS a.2.1 a.1 2240).bind λe=>cond (!e) (M 1) ((jaS a.2.2.1 1 12).bind λd=>cond (!d) (M 1) ((jaS a.2.2.2.1 1 5).bind λb=>cond (!b) (M 1) ((jaS a.2.2.2.2.1 0 6).bind λc=>cond (!c) (M 1) ((jaS a.2.2.2.2.2.1 0 86399).bind λg=>cond (!g) (M 1) ((jaS a.2.2.2.2.2.2 (-64800) 64800).bind λf=>cond (!f) (M 1) (M 0)))))))
def jiK(a:J):O Bool:=
 let d:=Ä a 4
 let c:=Ä a 100
 let b:=Ä a 400
 M (cond (d==0) (cond (c != 0) Â (b==0)) Á)
def j7F(c a:J):O Int:=cond (cond (N (a<1)) Â (N (a>12))) (M 0) (let e:Y Int:=[31,28,31,30,31,30,31,31,30,31,30,31]
 let j:Y Int:=Ì 12 0
 cond (a==2) ((jiK c).bind λi=>cond i (M 29) (let f:=w64 (a-1)
 cond (inR f 12) (let g:=S e f.toNat 0
 M g) Z)) (let b:=w64 (a-1)
 cond (inR b 12) (let d:=S e b.toNat 0
 M d) Z))
def jbM(a:Tn4):O Bool:=cond (N (a.1>=1970)) (cond (N (a.1<=2240)) (cond (N (a.2.2>=1)) ((j7F a.1 a.2.1).bind λb=>M (N (a.2.2<=b))) (M Á)) (M Á)) (M Á)
def j8A(b a:J):O Int:=cond (!(a==0)) (let e:=w64 (É b a)
 cond (!(a==0)) (let c:=Ä b a
 cond (N (c<0)) (let d:=w64 (e-1)
 M d) (M e)) Z) Z
def j5i(a:J):O Int:=
 let b:=w64 (a-1)
 let l:=w64 (a-1970)
 let k:=w64 (365*l)
 (j8A b 4).bind λf=>let d:=w64 (k+f)
 (j8A b 100).bind λi=>let g:=w64 (d-i)
 (j8A b 400).bind λc=>let e:=w64 (g+c)
 let j:=w64 (e-477)
 M j
def j44(g e i a f:J):O ((J×J×J×J×J) ⊕ (J)):=cond (N (e<a)) ((j7F i e).bind λb=>let c:=w64 (g+b)
 let d:=w64 (e+1)
 M (.inl (c,d,i,a,f))) (M (.inr g))
def jbN[LP]:=lp5 j44
abbrev jcA:=eq5 j44 jbN
def jcB[LP](a:Tn4):O Int:=(j5i a.1).bind λd=>let c:=w64 (d+a.2.2)
 let b:=w64 (c-1)
 (jbN b 1 a.1 a.2.1 a.2.2).bind λe=>M e
def j6a(a:J):O Int:=
 let d:=Ä a 7
 let b:=w64 (d+10)
 let c:=Ä b 7
 M c
def jhC[LP](d b c a:J):O (J×J):=(jbM (d,b,1)).bind λj=>let q:Bool:=cond (cond (!j) Â (N (c<1))) Â (N (c>5))
 let r:Bool:=cond (cond q Â (N (a<0))) Â (N (a>6))
 cond r (M (0,1)) ((jcB (d,b,1)).bind λf=>(j6a f).bind λp=>let n:=w64 (a-p)
 let i:=w64 (n+7)
 let l:=Ä i 7
 let k:=w64 (f+l)
 let t:=w64 (c-1)
 let s:=w64 (7*t)
 let e:=w64 (k+s)
 (j7F d b).bind λg=>let o:=w64 (f+g)
 cond (N (e>=o)) (let m:=w64 (e-7)
 M (m,0)) (M (e,0)))
def j8B(a b:J×J):O Int:=
 let c:=w64 (a.1-b.1)
 M c
def j0t(m q p b:J)(a:Tn2):O ((J×J×J×J×Tn2) ⊕ (J×J×J×Tn2)):=cond (N (b>m)) (cond (inR b a.length) (let f:=S a b.toNat (0,0)
 let e:=w64 (b-1)
 cond (inR e a.length) (let k:=S a e.toNat (0,0)
 (j8B f k).bind λn=>cond (N (n<0)) (let g:=w64 (b-1)
 let d:=w64 (b-1)
 cond (inR d a.length) (let c:=S a d.toNat (0,0)
 cond (inR b a.length) (let i:=S a b.toNat (0,0)
 cond (inR b a.length) (let j:Tn2:=Ç a b.toNat c
 cond (inR g j.length) (let l:Tn2:=Ç j g.toNat i
 let o:=w64 (b-1)
 M (.inl (m,q,p,o,l))) Z) Z) Z) Z) (M (.inr (m,q,p,a)))) Z) Z) (M (.inr (m,q,p,a)))
def j1g[LP]:=lp5 j0t
abbrev j1X:=eq5 j0t j1g
def j0g[LP](f e c:J)(d:Tn2):O ((J×J×J×Tn2) ⊕ (Tn2)):=cond (N (c<e)) ((j1g f e c c d).bind λa=>let b:=w64 (a.2.2.1+1)
 M (.inl (a.1,a.2.1,b,a.2.2.2))) (M (.inr d))
def j1h[LP]:=lp4 j0g
abbrev j12:=eq4 j0g j1h
def j0u[LP](a:Tn2)(b c:J):O Tn2:=
 let d:=w64 (b+1)
 (j1h b c d a).bind λe=>M e
def j0L[LP](d e g a:J)(f:Tn2):O ((J×J×J×J×Tn2) ⊕ (J×J×J×Tn2)):=cond (N (a<=d)) ((j0u f g a).bind λc=>let b:=w64 (a+e)
 M (.inl (d,e,a,b,c))) (M (.inr (d,e,g,f)))
def j1L[LP]:=lp5 j0L
abbrev j6t:=eq5 j0L j1L
def j2D(a b c e:J)(f:Tn2):O ((J×J×J×J×Tn2) ⊕ (J×J×J×Tn2)):=cond (N (e<=a)) (let d:=w64 (c+b)
 Z) (M (.inr (a,b,c,f)))
def j7g[LP]:=lp5 j2D
def j0M[LP](f e:J)(g:Tn2):O ((J×J×Tn2) ⊕ (Tn2)):=cond (N (e<f)) (let d:=w64 (2*e)
 (j7g f e 0 d g).bind λa=>let c:=w64 (a.2.2.1+a.2.1)
 cond (N (c<a.1)) (Z) (let b:=w64 (a.2.1*2)
 M (.inl (a.1,b,a.2.2.2)))) (M (.inr g))
def j1M[LP]:=lp3 j0M
abbrev j6u:=eq3 j0M j1M
def j2c[LP](a:Tn2)(c:J):O Tn2:=(j1L c 20 0 20 a).bind λb=>(j0u b.2.2.2 b.2.2.1 b.1).bind λd=>(j1M b.1 b.2.1 d).bind λe=>M e
def j0s[LP](a:Tn2):O Tn2:=
 let b:=U a.length
 (j2c a b).bind λc=>M c
def j2l(m:J)(d:Tn47)(l b:J)(n:X)(e:J)(f:Tn47):O ((J×Tn47×J×J×X×J×Tn47) ⊕ (J ⊕ (J×X×J×Tn47))):=cond (N (b<l)) (cond (inR b d.length) (let a:=S d b.toNat (0,0,0,0,0,0,0)
 (jfd a).bind λc=>cond (c != 0) (M (.inr (.inl c))) (let k:=w64 (a.2.1-a.1)
 let i:=w64 (k+1)
 let j:=w64 (m+i)
 let g:=w64 (b+1)
 M (.inl (j,d,l,g,n,e,f)))) Z) (M (.inr (.inr (m,n,e,f))))
def j6b[LP]:=lp7 j2l
theorem j9Q(f d c e g a b):j6b f d c e g a b=lpK (j2l f d c e g a b) (λh=>j6b h.1 h.2.1 h.2.2.1 h.2.2.2.1 h.2.2.2.2.1 h.2.2.2.2.2.1 h.2.2.2.2.2.2):=j0d _ _
def j2m[LP](i:J)(q:Tn47)(o p s f c b e a g:J)(r:Tn2):O ((J×Tn47×J×J×J×J×J×J×J×J×J×Tn2) ⊕ (Tn47×J×J×Tn2)):=cond (N (i<=f)) ((jhC i c b e).bind λj=>let l:=w64 (j.1*86400)
 let k:=w64 (l+a)
 let d:Tn2:=[(k,g)]
 cond (N (W r+W d<=j02)) (let m:Tn2:=r++d
 let n:=w64 (i+1)
 M (.inl (n,q,o,p,s,f,c,b,e,a,g,m))) Z) (M (.inr (q,o,p,r)))
def j8C[LP]:=c8 c4 (LP.lp (u8 unc4 j2m))
abbrev j9R:=eq12 j2m j8C
def j2n[LP](d:Tn47)(f c:J)(g:Tn2):O ((Tn47×J×J×Tn2) ⊕ (Tn2)):=cond (N (c<f)) (cond (inR c d.length) (let a:=S d c.toNat (0,0,0,0,0,0,0)
 (j8C a.1 d f c a.1 a.2.1 a.2.2.1 a.2.2.2.1 a.2.2.2.2.1 a.2.2.2.2.2.1 a.2.2.2.2.2.2 g).bind λb=>let e:=w64 (b.2.2.1+1)
 M (.inl (b.1,b.2.1,e,b.2.2.2))) Z) (M (.inr g))
def j6c[LP]:=lp4 j2n
theorem j9S(c a b d):j6c c a b d=lpK (j2n c a b d) (λh=>j6c h.1 h.2.1 h.2.2.1 h.2.2.2):=j0d _ _
def j8k[LP](a:Tn57):O (Tn2×J):=(jaS a.2.1 (-64800) 64800).bind λb=>cond (!b) (M (([]:Tn2),1)) (let f:=U a.2.2.length
 cond (N (f>16)) (M (([]:Tn2),5)) (let d:=U a.2.2.length
 (j6b 0 a.2.2 d 0 a.1 a.2.1 a.2.2).bind λj=>sumC j (λk=>M (([]:Tn2),k)) (λg=>cond (N (g.1>640)) (M (([]:Tn2),5)) (let e:=U g.2.2.2.length
 (j6c g.2.2.2 e 0 ([]:Tn2)).bind λi=>(j0s i).bind λc=>M (c,0)))))
def j2o(t m d:J)(b k:Tn2):O ((J×J×J×Tn2×Tn2) ⊕ (J ⊕ Tn2)):=cond (N (d<m)) (cond (inR d k.length) (let a:=S k d.toNat (0,0)
 cond (a.2==t) (let p:=w64 (d+1)
 M (.inl (t,m,p,b,k))) (let c:=w64 (a.1-t)
 let j:=w64 (a.2-t)
 cond (cond (N (j>=86400)) Â (N (j<=(-86400)))) (let q:=U b.length
 let s:=U b.length
 let g:=w64 (s-1)
 cond ((inR g b.length) || !((!Â)&&(N (q>0)))) (let n:=(S b g.toNat (0,0)).1
 let x:=w64 (n+604800)
 M (.inr (.inl 6))) Z) ((jaS c 0 8589934592).bind λl=>let i:=U b.length
 let v:=U b.length
 let e:=w64 (v-1)
 cond ((inR e b.length) || !((!(!l))&&(N (i>0)))) (let r:=(S b e.toNat (0,0)).1
 let u:=w64 (r+604800)
 cond (cond (!l) Â (cond (N (i>0)) (N (c<u)) Á)) (M (.inr (.inl 6))) (let f:Tn2:=[(c,a.2)]
 cond (N (W b+W f<=j02)) (let o:Tn2:=b++f
 let w:=w64 (d+1)
 M (.inl (a.2,m,w,o,k))) Z)) Z))) Z) (M (.inr (.inr b)))
def j6d[LP]:=lp5 j2o
theorem j9T(d b a e c):j6d d b a e c=lpK (j2o d b a e c) (λh=>j6d h.1 h.2.1 h.2.2.1 h.2.2.2.1 h.2.2.2.2):=j0d _ _
def j40[LP](a:Tn57):O (Tn2×J):=(j8k a).bind λb=>cond (b.2 != 0) (M (([]:Tn2),b.2)) (let c:=U b.1.length
 (j6d a.2.1 c 0 ([]:Tn2) b.1).bind λd=>sumC d (λf=>M (([]:Tn2),f)) (λe=>M (e,0)))
def jdD[LP](a:Tn57):O Int:=(j40 a).bind λb=>M b.2
def j7V(a:Tn43):O Bool:=
 let b:=Ä a.2.2.2.2.2.2 60
 M (b != 0)
def j0i(e:Tn47)(f b:J):O ((Tn47×J×J) ⊕ (J ⊕ Ê)):=cond (N (b<f)) (cond (inR b e.length) (let a:=S e b.toNat (0,0,0,0,0,0,0)
 (j7V a).bind λd=>cond d (M (.inr (.inl b))) (let c:=w64 (b+1)
 M (.inl (e,f,c)))) Z) (M (.inr (.inr ())))
def j1j[LP]:=lp3 j0i
abbrev j27:=eq3 j0i j1j
def j1y[LP](a:Tn47):O Int:=
 let c:=U a.length
 (j1j a c 0).bind λb=>sumC b (λd=>M d) (λe=>M (-1))
def j1k[LP](a:Tn47):O Bool:=(j1y a).bind λb=>M (N (b>=0))
def j5x[LP](a:Tn57):O Int:=(jdD a).bind λc=>let d:=Ä a.2.1 60
 cond (cond (c != 0) Â (d != 0)) (M 8) ((j1k a.2.2).bind λb=>cond b (M 8) (M 0))
def j1o[LP](e:Tn59)(i d:J)(j:Y (X×Æ)):O ((Tn59×J×J×(Y (X×Æ))) ⊕ (J ⊕ Ê)):=cond (N (d<i)) (cond (inR d e.length) (let a:=S e d.toNat (À,0,[])
 (jaR a).bind λf=>(j4V f j).bind λb=>cond (b.1 != 0) (M (.inr (.inl b.1))) ((j5x a).bind λc=>cond (c != 0) (M (.inr (.inl c))) (let g:=w64 (d+1)
 M (.inl (e,i,g,b.2))))) Z) (M (.inr (.inr ())))
def j3n[LP]:=lp4 j1o
abbrev j6W:=eq4 j1o j3n
def j4K[LP](a:Tn59):O Int:=
 let b:(Y (X×Æ)):=[]
 let c:=U a.length
 (j3n a c 0 b).bind λd=>sumC d (λe=>M e) (λf=>M 0)
def j1Q(a b:J):O Bool:=M (cond (N (a>=0)) (N (a<b)) Á)
def j4W(f e:Tn2)(k b:J):O ((Tn2×Tn2×J×J) ⊕ (J ⊕ Ê)):=cond (N (b<k)) (cond (inR b e.length) (let a:=S e b.toNat (0,0)
 let j:Bool:=cond (cond (N (a.1<0)) Â (N (a.1>=a.2))) Â (N (a.2>604800))
 cond j (M (.inr (.inl 1))) (cond (N (b>0)) (let c:=w64 (b-1)
 cond (inR c f.length) (let g:=S f c.toNat (0,0)
 cond (N (a.1<g.2)) (M (.inr (.inl 6))) (let i:=w64 (b+1)
 M (.inl (f,e,k,i)))) Z) (let d:=w64 (b+1)
 M (.inl (f,e,k,d))))) Z) (M (.inr (.inr ())))
def jec[LP]:=lp4 j4W
abbrev jeI:=eq4 j4W jec
def jbB[LP](a:Tn2):O Int:=
 let b:=U a.length
 cond (N (b>14)) (M 5) (let d:=U a.length
 (jec a a d 0).bind λc=>sumC c (λe=>M e) (λf=>M 0))
def j6R(a b c:J):O Bool:=M (cond (N (a>=b)) (N (a<=c)) Á)
def j3o(a:J):O Bool:=(j6R a 0 604800).bind λb=>let c:=Ä a 3600
 M (cond b (c==0) Á)
def j3f[LP](b:Tn76)(a:Tn49):O Int:=
 let e:=U b.1.length
 (j1Q a.2.1 e).bind λd=>cond (!d) (M 3) ((jbB a.2.2.1).bind λc=>cond (c != 0) (M 8) ((j3o a.2.2.2.1).bind λg=>cond (!g) (M 1) ((j3o a.2.2.2.2.1).bind λf=>cond (!f) (M 1) (M 0))))
def jaT(a:Tn22):O ByteArray:=M a.1
def jcC(e d:J):O ((J×J) ⊕ (J)):=
 let c:=w64 (d+1)
 (j5i c).bind λb=>cond (N (b<=e)) (let a:=w64 (d+1)
 M (.inl (e,a))) (M (.inr d))
def jnD[LP]:=lp2 jcC
def jmI[LP](a:J):O Int:=(j8A a 366).bind λd=>let b:=w64 (1970+d)
 (jnD a b).bind λc=>M c
def jb8(k l c d e a b:J):O ((J×J×J×J×J×J×J) ⊕ (J×J×J×J×J×J×J)):=(j7F e a).bind λg=>cond (N (k>=g)) ((j7F e a).bind λj=>let f:=w64 (k-j)
 let i:=w64 (a+1)
 M (.inl (f,l,c,d,e,i,b))) (M (.inr (k,l,c,d,e,a,b)))
def jkV[LP]:=lp7 jb8
def j8P[LP](a:J):O (Tn4×J):=(j5i 1970).bind λi=>cond (N (a<i)) (M ((0,0,0),1)) ((j5i 2241).bind λe=>cond (N (a>=e)) (M ((0,0,0),1)) ((jmI a).bind λb=>(j5i b).bind λf=>let g:=w64 (a-f)
 (jkV g 0 0 0 b 1 0).bind λc=>let d:=w64 (c.1+1)
 M ((c.2.2.2.2.1,c.2.2.2.2.2.1,d),0)))
def j16[LP](a:J):O Bool:=(j8P a).bind λb=>M (b.2==0)
def j5y[LP](a:J):O Bool:=(j16 a).bind λb=>M (!b)
def j1d[LP](e:Y J)(f a:J):O (((Y J)×J×J) ⊕ (J ⊕ Ê)):=cond (N (a<f)) (cond (inR a e.length) (let d:=S e a.toNat 0
 (j5y d).bind λc=>cond c (M (.inr (.inl a))) (let b:=w64 (a+1)
 M (.inl (e,f,b)))) Z) (M (.inr (.inr ())))
def j4z[LP]:=lp3 j1d
abbrev j64:=eq3 j1d j4z
def j5z[LP](a:Y J):O Int:=
 let c:=U a.length
 (j4z a c 0).bind λb=>sumC b (λd=>M d) (λe=>M (-1))
def j4A[LP](a:Y J):O Bool:=(j5z a).bind λb=>M (N (b>=0))
def j1z(d b:J)(k:X)(e:J)(a:Y J):O ((J×J×X×J×(Y J)) ⊕ (J ⊕ Ê)):=cond (N (b<d)) (cond (N (b>0)) (cond (inR b a.length) (let j:=S a b.toNat 0
 let c:=w64 (b-1)
 cond (inR c a.length) (let i:=S a c.toNat 0
 cond (N (j<=i)) (M (.inr (.inl 6))) (let g:=w64 (b+1)
 M (.inl (d,g,k,e,a)))) Z) Z) (let f:=w64 (b+1)
 M (.inl (d,f,k,e,a)))) (M (.inr (.inr ())))
def j5A[LP]:=lp5 j1z
abbrev j7h:=eq5 j1z j5A
def j3t[LP](b:Tn76)(a:Tn22):O Int:=
 let c:=U b.1.length
 (j1Q a.2.1 c).bind λg=>cond (!g) (M 3) (let d:=U a.2.2.length
 cond (N (d>64)) (M 5) ((j4A a.2.2).bind λe=>cond e (M 1) (let f:=U a.2.2.length
 (j5A f 0 a.1 a.2.1 a.2.2).bind λi=>sumC i (λj=>M j) (λk=>M 0))))
def jaU[LP](a:Tn22)(e:Tn59)(b:Tn53)(d:Tn30)(c:Tn70):O Int:=(j3t (e,b,d,c) a).bind λf=>M f
def j10[LP](m:Tn59)(f:Tn53)(g:Tn30)(e:Tn70)(i:Tn30)(l d:J)(n:Y (X×Æ)):O ((Tn59×Tn53×Tn30×Tn70×Tn30×J×J×(Y (X×Æ))) ⊕ (J ⊕ Ê)):=cond (N (d<l)) (cond (inR d i.length) (let a:=S i d.toNat (À,0,[])
 (jaT a).bind λj=>(j4V j n).bind λb=>cond (b.1 != 0) (M (.inr (.inl b.1))) ((jaU a m f g e).bind λc=>cond (c != 0) (M (.inr (.inl c))) (let k:=w64 (d+1)
 M (.inl (m,f,g,e,i,l,k,b.2))))) Z) (M (.inr (.inr ())))
def j2g[LP]:=lp8 j10
abbrev j5n:=eq8 j10 j2g
def j34[LP](e:Tn30)(d:Tn59)(b:Tn53)(c:Tn30)(a:Tn70):O Int:=
 let f:(Y (X×Æ)):=[]
 let g:=U e.length
 (j2g d b c a e g 0 f).bind λi=>sumC i (λj=>M j) (λk=>M 0)
def j8l(a:Tn69):O ByteArray:=M a.1
def j5B(a:Tn64):O ByteArray:=M a.1
def j7i(b:J)(g:Tn59)(a:Tn53)(d:Tn30)(c:Tn70):O Bool:=
 let f:=U a.length
 (j1Q b f).bind λe=>M (!e)
def j0T(i:Y J)(j:Tn59)(b:Tn53)(c:Tn30)(d:Tn70)(k a:J):O (((Y J)×Tn59×Tn53×Tn30×Tn70×J×J) ⊕ (J ⊕ Ê)):=cond (N (a<k)) (cond (inR a i.length) (let g:=S i a.toNat 0
 (j7i g j b c d).bind λf=>cond f (M (.inr (.inl a))) (let e:=w64 (a+1)
 M (.inl (i,j,b,c,d,k,e)))) Z) (M (.inr (.inr ())))
def j3u[LP]:=lp7 j0T
abbrev j4X:=eq7 j0T j3u
def j4B[LP](d:Y J)(e:Tn59)(c:Tn53)(b:Tn30)(a:Tn70):O Int:=
 let g:=U d.length
 (j3u d e c b a g 0).bind λf=>sumC f (λi=>M i) (λj=>M (-1))
def j3v[LP](e:Y J)(d:Tn59)(c:Tn53)(b:Tn30)(a:Tn70):O Bool:=(j4B e d c b a).bind λf=>M (N (f>=0))
def j4Y[LP](b:Tn76)(a:Tn64):O Int:=
 let g:=U b.1.length
 (j1Q a.2.1 g).bind λi=>cond (!i) (M 3) (cond (N (a.2.2.1.1<1)) (M 1) ((j16 a.2.2.1.1).bind λe=>cond (!e) (M 1) ((j6R a.2.2.1.2 0 86399).bind λn=>cond (!n) (M 1) ((j6R a.2.2.2.1 0 2).bind λf=>cond (!f) (M 1) ((j6R a.2.2.2.2.1 1 400).bind λc=>cond (!c) (M 1) (let p:=U a.2.2.2.2.2.1.length
 cond (p==0) (M 7) (let k:=U a.2.2.2.2.2.1.length
 cond (N (k>12)) (M 5) ((j3v a.2.2.2.2.2.1 b.1 b.2.1 b.2.2.1 b.2.2.2).bind λd=>cond d (M 3) ((jbB a.2.2.2.2.2.2.1).bind λm=>cond (m != 0) (M 8) ((j6R a.2.2.2.2.2.2.2.2 0 2).bind λl=>cond (!l) (M 1) (let o:=U b.2.2.1.length
 cond (a.2.2.2.2.2.2.2.2 != 0) ((j1Q a.2.2.2.2.2.2.2.1 o).bind λj=>cond (!j) (M 3) (cond (cond (a.2.2.2.2.2.2.2.2==0) (a.2.2.2.2.2.2.2.1 != 0) Á) (M 1) (M 0))) (cond (cond (a.2.2.2.2.2.2.2.2==0) (a.2.2.2.2.2.2.2.1 != 0) Á) (M 1) (M 0)))))))))))))
def j5C[LP](a:Tn64)(e:Tn59)(b:Tn53)(d:Tn30)(c:Tn70):O Int:=(j4Y (e,b,d,c) a).bind λf=>M f
def j1l[LP](m:Tn59)(f:Tn53)(g:Tn30)(e:Tn70)(i:Tn65)(l d:J)(n:Y (X×Æ)):O ((Tn59×Tn53×Tn30×Tn70×Tn65×J×J×(Y (X×Æ))) ⊕ (J ⊕ Ê)):=cond (N (d<l)) (cond (inR d i.length) (let a:=S i d.toNat (À,0,(0,0),0,0,[],[],0,0)
 (j5B a).bind λj=>(j4V j n).bind λb=>cond (b.1 != 0) (M (.inr (.inl b.1))) ((j5C a m f g e).bind λc=>cond (c != 0) (M (.inr (.inl c))) (let k:=w64 (d+1)
 M (.inl (m,f,g,e,i,l,k,b.2))))) Z) (M (.inr (.inr ())))
def j35[LP]:=lp8 j1l
abbrev j6v:=eq8 j1l j35
def j4k[LP](e:Tn65)(d:Tn59)(b:Tn53)(c:Tn30)(a:Tn70):O Int:=
 let f:(Y (X×Æ)):=[]
 let g:=U e.length
 (j35 d b c a e g 0 f).bind λi=>sumC i (λj=>M j) (λk=>M 0)
def j5q[LP](a:Tn28):O Int:=cond (cond (a.1 != 2) (a.2.2.1 != 0) Á) (M 1) (cond (cond (a.1==2) (a.2.1==a.2.2.1) Á) (M 4) (let c:=w64 (É a.2.2.2.2 86400)
 cond (cond (N (a.2.2.2.1<0)) Â (N (a.2.2.2.2<0))) (M 1) ((j16 c).bind λb=>cond (!b) (M 1) (cond (N (a.2.2.2.1>=a.2.2.2.2)) (M 6) (M 0)))))
def j5D[LP](c:Tn76)(a:Tn28):O Int:=
 let e:=U c.2.1.length
 (j6R a.1 0 2).bind λf=>cond (!f) (M 1) ((j1Q a.2.1 e).bind λb=>cond (cond (!b) (!(cond (a.1==1) (a.2.1==(-1)) Á)) Á) (cond (cond (!b) (!(cond (a.1==1) (a.2.1==(-1)) Á)) Á) (M 3) (j5q a)) (cond (a.1==2) ((j1Q a.2.2.1 e).bind λd=>cond (!d) (M 3) (j5q a)) (j5q a)))
def j1A[LP](g:Tn34)(j c:J)(k:Tn59)(d:Tn53)(f:Tn30)(e:Tn70):O ((Tn34×J×J×Tn59×Tn53×Tn30×Tn70) ⊕ (J ⊕ Ê)):=cond (N (c<j)) (cond (inR c g.length) (let a:=S g c.toNat (0,0,0,0,0)
 (j5D (k,d,f,e) a).bind λb=>cond (b != 0) (M (.inr (.inl b))) (let i:=w64 (c+1)
 M (.inl (g,j,i,k,d,f,e)))) Z) (M (.inr (.inr ())))
def j5E[LP]:=lp7 j1A
abbrev j7j:=eq7 j1A j5E
def j1p[LP](a:Tn76)(b:Tn69):O Int:=
 let d:=U b.2.1.length
 let e:=U b.2.2.length
 cond (cond (N (d>6)) Â (N (e>48))) (M 5) ((j4k b.2.1 a.1 a.2.1 a.2.2.1 a.2.2.2).bind λc=>cond (c != 0) (M c) (let f:=U b.2.2.length
 (j5E b.2.2 f 0 a.1 a.2.1 a.2.2.1 a.2.2.2).bind λg=>sumC g (λi=>M i) (λj=>M 0)))
def j8m[LP](a:Tn69)(f:Tn59)(b:Tn53)(d:Tn30)(c:Tn70):O Int:=(j1p (f,b,d,c) a).bind λe=>M e
def j0I[LP](m:Tn59)(f:Tn53)(g:Tn30)(e i:Tn70)(l d:J)(n:Y (X×Æ)):O ((Tn59×Tn53×Tn30×Tn70×Tn70×J×J×(Y (X×Æ))) ⊕ (J ⊕ Ê)):=cond (N (d<l)) (cond (inR d i.length) (let a:=S i d.toNat (À,[],[])
 (j8l a).bind λj=>(j4V j n).bind λb=>cond (b.1 != 0) (M (.inr (.inl b.1))) ((j8m a m f g e).bind λc=>cond (c != 0) (M (.inr (.inl c))) (let k:=w64 (d+1)
 M (.inl (m,f,g,e,i,l,k,b.2))))) Z) (M (.inr (.inr ())))
def j13[LP]:=lp8 j0I
abbrev j31:=eq8 j0I j13
def j36[LP](e:Tn70)(d:Tn59)(b:Tn53)(c:Tn30)(a:Tn70):O Int:=
 let f:(Y (X×Æ)):=[]
 let g:=U e.length
 (j13 d b c a e g 0 f).bind λi=>sumC i (λj=>M j) (λk=>M 0)
def j3w[LP](g:Tn53)(i f:J)(j:Tn59)(d:Tn53)(e:Tn30)(c:Tn70)(r:Y (X×Æ)):O ((Tn53×J×J×Tn59×Tn53×Tn30×Tn70×(Y (X×Æ))) ⊕ (J ⊕ (Tn59×Tn53×Tn30×Tn70))):=cond (N (f<i)) (cond (inR f g.length) (let a:=S g f.toNat (À,0,[],0,0,Á)
 (j4V a.1 r).bind λb=>let q:Bool:=È a.1==È (Ã #[110,111,98,111,100,121])
 cond q (cond ((2:J)==0) ((j3f (j,d,e,c) a).bind λk=>cond (k != 0) (M (.inr (.inl k))) (let p:=w64 (f+1)
 M (.inl (g,i,p,j,d,e,c,b.2)))) (cond ((2:J) != 0) (M (.inr (.inl 2))) (let m:=w64 (f+1)
 M (.inl (g,i,m,j,d,e,c,b.2))))) (cond (b.1==0) ((j3f (j,d,e,c) a).bind λl=>cond (l != 0) (M (.inr (.inl l))) (let o:=w64 (f+1)
 M (.inl (g,i,o,j,d,e,c,b.2)))) (cond (b.1 != 0) (M (.inr (.inl b.1))) (let n:=w64 (f+1)
 M (.inl (g,i,n,j,d,e,c,b.2)))))) Z) (M (.inr (.inr (j,d,e,c))))
def j6w[LP]:=lp8 j3w
abbrev jbO:=eq8 j3w j6w
def j1R[LP](a:Tn76):O Int:=
 let e:=U a.1.length
 let g:=U a.2.1.length
 let m:=U a.2.2.1.length
 let i:Bool:=cond (cond (N (e>16)) Â (N (g>32))) Â (N (m>8))
 let l:=U a.2.2.2.length
 cond (cond i Â (N (l>12))) (M 5) ((j4K a.1).bind λc=>cond (c != 0) (M c) (let f:(Y (X×Æ)):=[]
 let j:=U a.2.1.length
 (j6w a.2.1 j 0 a.1 a.2.1 a.2.2.1 a.2.2.2 f).bind λn=>sumC n (λo=>M o) (λb=>(j34 b.2.2.1 b.1 b.2.1 b.2.2.1 b.2.2.2).bind λd=>cond (d != 0) (M d) ((j36 b.2.2.2 b.1 b.2.1 b.2.2.1 b.2.2.2).bind λk=>M k))))
def j8D(b:Tn76)(a:J):O Bool:=
 let c:=U b.2.2.2.length
 M (cond (N (a>=0)) (N (a<c)) Á)
def jed[LP](a:Tn76)(c b d:J):O Int:=(j1R a).bind λg=>cond (g != 0) (M 8) ((j8D a c).bind λe=>cond (!e) (M 3) (let f:Bool:=cond (cond (N (b<0)) Â (N (b>=d))) Â (N (d>8589934592))
 let i:=w64 (d-b)
 cond (cond f Â (N (i>2419200))) (M 1) (M 0)))
def jgQ[LP](a:Tn57):O (Tn15×J):=(j40 a).bind λb=>M ((a.2.1,b.1),b.2)
def j4C[LP](g:Tn59)(j b:J)(i:Tn23):O ((Tn59×J×J×Tn23) ⊕ (Tn23)):=cond (N (b<j)) (cond (inR b g.length) (let a:=S g b.toNat (À,0,[])
 (jgQ a).bind λd=>let c:Tn23:=[d.1]
 cond (N (W i+W c<=j02)) (let f:Tn23:=i++c
 let e:=w64 (b+1)
 M (.inl (g,j,e,f))) Z) Z) (M (.inr i))
def jai[LP]:=lp4 j4C
abbrev jdE:=eq4 j4C jai
def jgR[LP](a:Tn59):O Tn23:=
 let c:=U a.length
 (jai a c 0 ([]:Tn23)).bind λb=>M b
def jhD[LP](a:Tn76):O Tn78:=(jgR a.1).bind λb=>M (a,b)
def jiL[LP](a:Tn76):O (Tn78×Æ):=(j1R a).bind λc=>cond (c != 0) (M (((([]:Tn59),([]:Tn53),([]:Tn30),([]:Tn70)),([]:Tn23)),Á)) ((jhD a).bind λb=>M (b,Â))
def ja9(a b:J):O Bool:=
 let e:Bool:=cond (cond (N (a>=0)) (N (a<=8589934592)) Á) (N (b>=a)) Á
 let d:=w64 (b-a)
 let c:Bool:=cond (cond e (N (b<=8589934592)) Á) (N (d<=34560000)) Á
 M c
def jaa[LP](b:Tn76)(c d e:J):O (Tn78×J):=(jiL b).bind λa=>cond (!a.2) (M (a.1,8)) ((j8D b c).bind λf=>cond (!f) (M (a.1,3)) ((ja9 d e).bind λg=>cond (!g) (M (a.1,1)) (M (a.1,0))))
def j23(a:Y J):O (Y J):=cond (N (W ([]:Y (J))+W a<=j02)) (M (([]:Y (J))++a)) Z
def jax(a b c:J):O Bool:=M (cond (N (a<=b)) Â (N (a>=c)))
def j0U(g b i a:J)(c:Y J):O ((J×J×J×J×(Y J)) ⊕ (Tn1 ⊕ (Y J))):=cond (N (a<i)) (cond (inR a c.length) (let f:=S c a.toNat 0
 (jax f g b).bind λe=>cond e (M (.inr (.inl (a,c)))) (let d:=w64 (a+1)
 M (.inl (g,b,i,d,c)))) Z) (M (.inr (.inr c)))
def j1q[LP]:=lp5 j0U
theorem j4Z(c a e b d):j1q c a e b d=lpK (j0U c a e b d) (λh=>j1q h.1 h.2.1 h.2.2.1 h.2.2.2.1 h.2.2.2.2):=j0d _ _
def j4D[LP](b:Y J)(c a:J):O Tn1:=
 let e:=U b.length
 (j1q c a e 0 b).bind λd=>sumC d (λf=>M f) (λg=>M ((-1),g))
def j14(l a e d:J)(b:Y J):O ((J×J×J×J×(Y J)) ⊕ (Tn1)):=
 let f:=U b.length
 cond (N (d<f)) (cond (inR d b.length) (let c:=S b d.toNat 0
 (jax c l a).bind λj=>cond (!j) (cond (inR e b.length) (let m:Y Int:=Ç b e.toNat c
 let k:=w64 (e+1)
 let i:=w64 (d+1)
 M (.inl (l,a,k,i,m))) Z) (let g:=w64 (d+1)
 M (.inl (l,a,e,g,b)))) Z) (M (.inr (e,b)))
def j2y[LP]:=lp5 j14
theorem j5F(b a e d c):j2y b a e d c=lpK (j14 b a e d c) (λh=>j2y h.1 h.2.1 h.2.2.1 h.2.2.2.1 h.2.2.2.2):=j0d _ _
def j3p[LP](e:Y J)(d a:J):O Tn1:=(j4D e d a).bind λc=>cond (c.1==(-1)) (M ((U c.2.length),c.2)) (let g:=w64 (c.1+1)
 (j2y d a c.1 g c.2).bind λb=>cond (N (0<=b.1)&&N (b.1<=(U b.2.length))) (let f:Y Int:=Ë b.1.toNat b.2++Ì (W b.2-b.1.toNat) 0
 cond (N (0<=b.1)&&N (b.1<=(U f.length))) (M ((U b.1.toNat),f)) Z) Z)
def j6e(a:Y J):O (Y J):=
 jqs a
def j1r(e b c:J)(a:Y J):O ((J×J×J×(Y J)) ⊕ (Tn1)):=
 let m:=U (W a-b.toNat)
 cond (N (c<m)) (cond (inR c (W a-b.toNat)) (let k:=S a (b.toNat+c.toNat) 0
 let d:=w64 (c-1)
 cond (inR d (W a-b.toNat)) (let l:=S a (b.toNat+d.toNat) 0
 cond (k != l) (cond (inR c (W a-b.toNat)) (let j:=S a (b.toNat+c.toNat) 0
 cond (inR e a.length) (let n:Y Int:=Ç a e.toNat j
 let i:=w64 (e+1)
 let g:=w64 (c+1)
 M (.inl (i,(U b.toNat),g,n))) Z) Z) (let f:=w64 (c+1)
 M (.inl (e,(U b.toNat),f,a)))) Z) Z) (M (.inr (e,a)))
def j3q[LP]:=lp4 j1r
abbrev j6X:=eq4 j1r j3q
def j1s[LP](c:J)(b:Y J):O (Tn1 ⊕ (Tn1 ⊕ (Y J))):=
 let i:=U b.length
 cond (N (c<i)) (cond (inR c b.length) (let f:=S b c.toNat 0
 let d:=w64 (c-1)
 cond (inR d b.length) (let j:=S b d.toNat 0
 cond (f==j) (cond (N (0<=c)&&N (c<=(U b.length))) ((j3q c (U c.toNat) 1 b).bind λa=>cond (N (0<=a.1)&&N (a.1<=(U a.2.length))) (let e:Y Int:=Ë a.1.toNat a.2++Ì (W a.2-a.1.toNat) 0
 cond (N (0<=a.1)&&N (a.1<=(U e.length))) (M (.inr (.inl ((U a.1.toNat),e)))) Z) Z) Z) (let g:=w64 (c+1)
 M (.inl (g,b)))) Z) Z) (M (.inr (.inr b)))
def j17[LP]:=lp2 j1s
theorem j6Y(b a):j17 b a=lpK (j1s b a) (λh=>j17 h.1 h.2):=j0d _ _
def j4L[LP](a:Y J):O Tn1:=
 let c:=U a.length
 cond (N (c<2)) (M ((U a.length),a)) ((j17 1 a).bind λb=>sumC b (λe=>M ((U e.1.toNat),e.2)) (λd=>M ((U d.length),d)))
def jfe[LP](f:Y J)(b a:J):O (Y J):=(j23 f).bind λk=>(j3p k b a).bind λc=>let g:Y Int:=Ë c.1.toNat c.2
 (j6e g).bind λi=>(j4L i).bind λd=>let e:Y Int:=Ë d.1.toNat d.2
 cond (N (W e+W [a]<=j02)) (let j:Y Int:=e++[a]
 M j) Z
def j2k(a:Tn65):O Tn65:=M a
def jab(a:Tn64):O Int:=cond (a.2.2.2.1==2) (let b:=w64 (7*a.2.2.2.2.1)
 M b) (M a.2.2.2.2.1)
def j8E(b e:J)(a:Tn2)(d:J):O Bool:=cond (inR b a.length) (let c:=S a b.toNat (0,0)
 M (N (c.1>d))) Z
def j3g(k:J)(a:Tn2)(b i l:J):O ((J×Tn2×J×J×J) ⊕ (J)):=cond (N (i<l)) (let f:=w64 (i+l)
 let j:Int:=IntKind.wrap .u64 f
 let d:Int:=Ï j 2
 let c:=w64 d
 (j8E c k a b).bind λg=>cond (!g) (let e:=w64 (c+1)
 M (.inl (k,a,b,e,l))) (M (.inl (k,a,b,i,c)))) (M (.inr i))
def jaj[LP]:=lp5 j3g
theorem jdF(c a b e d):jaj c a b e d=lpK (j3g c a b e d) (λh=>jaj h.1 h.2.1 h.2.2.1 h.2.2.2.1 h.2.2.2.2):=j0d _ _
def jgS[LP](d c:J)(b:Tn2)(a:J):O Int:=(jaj c b a 0 d).bind λe=>M e
def j6x[LP](a:Tn15)(b:J):O Int:=
 let d:=U a.2.length
 (jgS d a.1 a.2 b).bind λc=>M c
def j4u(a:Tn15)(b:J):O Int:=cond (b==0) (M a.1) (let c:=w64 (b-1)
 cond (inR c a.2.length) (let d:=S a.2 c.toNat (0,0)
 M d.2) Z)
def j0F[LP](k c j:J)(a:Tn2)(i:Tn17):O ((J×J×J×Tn2×Tn17) ⊕ (Tn17)):=cond (N (k<c)) ((j6x (j,a) k).bind λb=>let p:=U a.length
 cond (N (b<p)) (cond (inR b a.length) (let e:=S a b.toNat (0,0)
 let d:Int:=if e.1<c then e.1 else c
 (j4u (j,a) b).bind λl=>let f:Tn17:=[(k,d,l)]
 cond (N (W i+W f<=j02)) (let n:Tn17:=i++f
 M (.inl (d,c,j,a,n))) Z) Z) ((j4u (j,a) b).bind λo=>let g:Tn17:=[(k,c,o)]
 cond (N (W i+W g<=j02)) (let m:Tn17:=i++g
 M (.inl (c,c,j,a,m))) Z)) (M (.inr i))
def j2W[LP]:=lp5 j0F
theorem j1S(b d e a c):j2W b d e a c=lpK (j0F b d e a c) (λh=>j2W h.1 h.2.1 h.2.2.1 h.2.2.2.1 h.2.2.2.2):=j0d _ _
def j1T[LP](b:Tn15)(a c:J):O Tn17:=(j2W a c b.1 b.2 ([]:Tn17)).bind λd=>M d
def j4p(a:J×J):O Int:=
 let b:Int:=if (-1048576)>a.1 then (-1048576) else a.1
 let d:Int:=if 1048576<b then 1048576 else b
 let e:=w64 (d*86400)
 let c:=w64 (e+a.2)
 M c
def j1m(j b k f:J)(e:Tn17):O ((J×J×J×J×Tn17) ⊕ ((J×Æ) ⊕ Ê)):=cond (N (b<j)) (cond (inR b e.length) (let a:=S e b.toNat (0,0,0)
 (j4p (k,f)).bind λg=>let d:=w64 (g-a.2.2)
 let c:Int:=if d>a.1 then d else a.1
 cond (N (c<a.2.1)) (M (.inr (.inl (c,Â)))) (let i:=w64 (b+1)
 M (.inl (j,i,k,f,e)))) Z) (M (.inr (.inr ())))
def j6f[LP]:=lp5 j1m
abbrev j4M:=eq5 j1m j6f
def j2Z[LP](a:Tn15)(b:J×J):O (J×Æ):=(j1T a 0 8589934593).bind λc=>let d:=U c.length
 (j6f d 0 b.1 b.2 c).bind λe=>sumC e (λf=>M f) (λg=>M (0,Á))
def j0S[LP](b:Tn15)(a:Tn64)(c:J):O (J×Æ):=cond (N (c>8589934592)) (M (0,Á)) (cond (a.2.2.2.1 != 0) ((jab a).bind λg=>let j:=w64 (c*g)
 let k:=w64 (a.2.2.1.1+j)
 (j2Z b (k,a.2.2.1.2)).bind λd=>M d) ((j2Z b a.2.2.1).bind λf=>let l:=w64 (3600*a.2.2.2.2.1)
 let i:=w64 (l*c)
 let e:=w64 (f.1+i)
 M (e,(cond f.2 (N (e<=8589934592)) Á))))
def j3x(a:Tn2):O Tn2:=cond (N (W ([]:Y (J×J))+W a<=j02)) (M (([]:Y (J×J))++a)) Z
def j95(a:J×J):O Bool:=M (N (a.2<=a.1))
def j0z(f b:J)(c:Tn2):O ((J×J×Tn2) ⊕ (Tn15 ⊕ Tn2)):=cond (N (b<f)) (cond (inR b c.length) (let a:=S c b.toNat (0,0)
 (j95 a).bind λe=>cond e (M (.inr (.inl (b,c)))) (let d:=w64 (b+1)
 M (.inl (f,d,c)))) Z) (M (.inr (.inr c)))
def j0N[LP]:=lp3 j0z
theorem j3j(c a b):j0N c a b=lpK (j0z c a b) (λh=>j0N h.1 h.2.1 h.2.2):=j0d _ _
def j2A[LP](a:Tn2):O Tn15:=
 let c:=U a.length
 (j0N c 0 a).bind λb=>sumC b (λd=>M d) (λe=>M ((-1),e))
def j0v(d c:J)(b:Tn2):O ((J×J×Tn2) ⊕ (Tn15)):=
 let e:=U b.length
 cond (N (c<e)) (cond (inR c b.length) (let a:=S b c.toNat (0,0)
 (j95 a).bind λi=>cond (!i) (cond (inR d b.length) (let k:Tn2:=Ç b d.toNat a
 let j:=w64 (d+1)
 let g:=w64 (c+1)
 M (.inl (j,g,k))) Z) (let f:=w64 (c+1)
 M (.inl (d,f,b)))) Z) (M (.inr (d,b)))
def j19[LP]:=lp3 j0v
theorem j3a(c a b):j19 c a b=lpK (j0v c a b) (λh=>j19 h.1 h.2.1 h.2.2):=j0d _ _
def j1u[LP](c:Tn2):O Tn15:=(j2A c).bind λb=>cond (b.1==(-1)) (M ((U b.2.length),b.2)) (let e:=w64 (b.1+1)
 (j19 b.1 e b.2).bind λa=>cond (N (0<=a.1)&&N (a.1<=(U a.2.length))) (let d:Tn2:=Ë a.1.toNat a.2++Ì (W a.2-a.1.toNat) (0,0)
 cond (N (0<=a.1)&&N (a.1<=(U d.length))) (M ((U a.1.toNat),d)) Z) Z)
def j7G(a b:J×J):O Int:=
 let c:=w64 (a.1-b.1)
 M c
def j0Y(a:Tn2):O Tn2:=
 jlQ (.pair (.int .i64) (.int .i64)) (λc b=>(j7G c b).getD 0) a
def j3P(k d:J)(b f:Tn2):O ((J×J×Tn2×Tn2) ⊕ (Tn2)):=cond (N (d<k)) (cond (inR d f.length) (let a:=S f d.toNat (0,0)
 let c:=U b.length
 cond (N (c>0)) (let j:=w64 (c-1)
 cond (inR j b.length) (let t:=(S b j.toNat (0,0)).2
 cond (N (a.1<=t)) (let e:=w64 (c-1)
 let i:=w64 (c-1)
 cond (inR i b.length) (let l:=(S b i.toNat (0,0)).2
 let q:Int:=if a.2>l then a.2 else l
 cond (inR e b.length) (let s:Tn2:=Ç b e.toNat ((S b e.toNat (0,0)).1,q)
 let u:=w64 (d+1)
 M (.inl (k,u,s,f))) Z) Z) (let g:Tn2:=[a]
 cond (N (W b+W g<=j02)) (let p:Tn2:=b++g
 let n:=w64 (d+1)
 M (.inl (k,n,p,f))) Z)) Z) (let m:Tn2:=[a]
 cond (N (W b+W m<=j02)) (let r:Tn2:=b++m
 let o:=w64 (d+1)
 M (.inl (k,o,r,f))) Z)) Z) (M (.inr b))
def jbi[LP]:=lp4 j3P
abbrev jaV:=eq4 j3P jbi
def j7H[LP](c:Tn2):O Tn2:=(j3x c).bind λf=>(j1u f).bind λa=>let d:Tn2:=Ë a.1.toNat a.2
 (j0Y d).bind λb=>let e:=U b.length
 (jbi e 0 ([]:Tn2) b).bind λg=>M g
def j45(u:Tn2)(j r s:J)(k:Tn2)(q d f a c:J)(t:Tn2)(p:Tn17):O ((Tn2×J×J×J×Tn2×J×J×J×J×J×Tn2×Tn17) ⊕ (Tn2×J×J×J×J×J×J×Tn2×Tn17)):=cond (N (d<q)) (cond (inR d k.length) (let b:=S k d.toNat (0,0)
 let i:=w64 (j+b.1)
 let l:Int:=if i>f then i else f
 let g:=w64 (j+b.2)
 let o:Int:=if g<a then g else a
 let e:Tn2:=[(l,o)]
 cond (N (W t+W e<=j02)) (let n:Tn2:=t++e
 let m:=w64 (d+1)
 M (.inl (u,j,r,s,k,q,m,f,a,c,n,p))) Z) Z) (M (.inr (u,j,r,s,f,a,c,t,p)))
def j96[LP]:=c8 c4 (LP.lp (u8 unc4 j45))
theorem jcD(l j g k i f c d b a m e):j96 l j g k i f c d b a m e=lpK (j45 l j g k i f c d b a m e) (λh=>j96 h.1 h.2.1 h.2.2.1 h.2.2.2.1 h.2.2.2.2.1 h.2.2.2.2.2.1 h.2.2.2.2.2.2.1 h.2.2.2.2.2.2.2.1 h.2.2.2.2.2.2.2.2.1 h.2.2.2.2.2.2.2.2.2.1 h.2.2.2.2.2.2.2.2.2.2.1 h.2.2.2.2.2.2.2.2.2.2.2):=j0d _ _
def j46[LP](c:Tn2)(j i k l b e:J)(m:Tn2)(g:Tn17):O ((Tn2×J×J×J×J×J×J×Tn2×Tn17) ⊕ (Tn2×J×J×Tn2×Tn17)):=cond (N (j<b)) (let d:=U c.length
 (j96 c j i k c d 0 l b e m g).bind λa=>let f:=w64 (a.2.1+604800)
 M (.inl (a.1,f,a.2.2.1,a.2.2.2.1,a.2.2.2.2.1,a.2.2.2.2.2.1,a.2.2.2.2.2.2.1,a.2.2.2.2.2.2.2.1,a.2.2.2.2.2.2.2.2))) (M (.inr (c,i,k,m,g)))
def jbP[LP]:=lp9 j46
abbrev jcE:=eq9 j46 jbP
def j47[LP](o:Tn2)(m d:J)(n:Tn2)(e:Tn17):O ((Tn2×J×J×Tn2×Tn17) ⊕ (Tn2)):=cond (N (d<m)) (cond (inR d e.length) (let a:=S e d.toNat (0,0,0)
 let g:=w64 (a.1+a.2.2)
 let c:=w64 (g-(-259200))
 let k:=Ä c 604800
 let j:=w64 (c-k)
 let l:=w64 (j+(-259200))
 let f:=w64 (l-a.2.2)
 (jbP o f m d a.1 a.2.1 a.2.2 n e).bind λb=>let i:=w64 (b.2.2.1+1)
 M (.inl (b.1,b.2.1,i,b.2.2.2.1,b.2.2.2.2))) Z) (M (.inr n))
def jbQ[LP]:=lp5 j47
abbrev jcF:=eq5 j47 jbQ
def j30[LP](b:Tn15)(e:Tn2)(a c:J):O Tn2:=(j1T b a c).bind λd=>let g:=U d.length
 (jbQ e g 0 ([]:Tn2) d).bind λi=>(j7H i).bind λf=>M f
def j3b(s r:J)(g:Y J)(t d:J)(w:X)(i:J)(j:Y J)(k b c:J)(v:Tn2)(u:Tn17):O ((J×J×(Y J)×J×J×X×J×(Y J)×J×J×J×Tn2×Tn17) ⊕ (J×J×X×J×(Y J)×Tn2×Tn17)):=cond (N (d<t)) (cond (inR d g.length) (let q:=S g d.toNat 0
 let o:=w64 (q*86400)
 let a:=w64 (o-c)
 let m:Int:=if a>k then a else k
 let e:=w64 (a+86400)
 let p:Int:=if e<b then e else b
 let f:Tn2:=[(m,p)]
 cond (N (W v+W f<=j02)) (let l:Tn2:=v++f
 let n:=w64 (d+1)
 M (.inl (s,r,g,t,n,w,i,j,k,b,c,l,u))) Z) Z) (M (.inr (s,r,w,i,j,v,u)))
def j7I[LP]:=c8 c5 (LP.lp (u8 unc5 j3b))
abbrev jb9:=eq13 j3b j7I
def j3c[LP](i d:J)(l:X)(j:J)(c:Y J)(k:Tn2)(e:Tn17):O ((J×J×X×J×(Y J)×Tn2×Tn17) ⊕ (Tn2)):=cond (N (d<i)) (cond (inR d e.length) (let b:=S e d.toNat (0,0,0)
 let f:=U c.length
 (j7I i d c f 0 l j c b.1 b.2.1 b.2.2 k e).bind λa=>let g:=w64 (a.2.1+1)
 M (.inl (a.1,g,a.2.2.1,a.2.2.2.1,a.2.2.2.2.1,a.2.2.2.2.2.1,a.2.2.2.2.2.2))) Z) (M (.inr k))
def j7J[LP]:=lp7 j3c
abbrev jba:=eq7 j3c j7J
def j3r[LP](c:Tn78)(a:Tn22)(b d:J):O Tn2:=cond (inR a.2.1 c.2.length) (let f:=S c.2 a.2.1.toNat (0,[])
 (j1T f b d).bind λe=>let i:=U e.length
 (j7J i 0 a.1 a.2.1 a.2.2 ([]:Tn2) e).bind λj=>(j7H j).bind λg=>M g) Z
def j48(b:Tn2)(c:J)(e:Tn2)(d f j a:J)(l:Tn2):O ((Tn2×J×Tn2×J×J×J×J×Tn2) ⊕ (Tn2×J×Tn2×J×J×J×J×Tn2)):=
 let k:=U b.length
 cond (N (c<k)) (cond (inR c b.length) (let i:=S b c.toNat (0,0)
 cond (N (i.2<=j)) (let g:=w64 (c+1)
 M (.inl (b,g,e,d,f,j,a,l))) (M (.inr (b,c,e,d,f,j,a,l)))) Z) (M (.inr (b,c,e,d,f,j,a,l)))
def j97[LP]:=lp8 j48
theorem jcG(f g c b d i a e):j97 f g c b d i a e=lpK (j48 f g c b d i a e) (λh=>j97 h.1 h.2.1 h.2.2.1 h.2.2.2.1 h.2.2.2.2.1 h.2.2.2.2.2.1 h.2.2.2.2.2.2.1 h.2.2.2.2.2.2.2):=j0d _ _
def j49(b:Tn2)(s d a:J)(f:Tn2)(j k t c:J)(l:Tn2):O ((Tn2×J×J×J×Tn2×J×J×J×J×Tn2) ⊕ (Tn2×J×J×Tn2×J×J×J×J×Tn2)):=
 let r:=U b.length
 cond (N (a<r)) (cond (inR a b.length) (let q:=S b a.toNat (0,0)
 cond (N (q.1<c)) (cond (inR a b.length) (let u:=S b a.toNat (0,0)
 cond (N (d<u.1)) (cond (inR a b.length) (let o:=S b a.toNat (0,0)
 let e:Tn2:=[(d,o.1)]
 cond (N (W l+W e<=j02)) (let n:Tn2:=l++e
 cond (inR a b.length) (let i:=S b a.toNat (0,0)
 let m:Int:=if i.2>d then i.2 else d
 let w:=w64 (a+1)
 M (.inl (b,s,m,w,f,j,k,t,c,n))) Z) Z) Z) (cond (inR a b.length) (let g:=S b a.toNat (0,0)
 let v:Int:=if g.2>d then g.2 else d
 let p:=w64 (a+1)
 M (.inl (b,s,v,p,f,j,k,t,c,l))) Z)) Z) (M (.inr (b,s,d,f,j,k,t,c,l)))) Z) (M (.inr (b,s,d,f,j,k,t,c,l)))
def j7k[LP]:=c8 c2 (LP.lp (u8 unc2 j49))
theorem jcH(g j i c d b e k a f):j7k g j i c d b e k a f=lpK (j49 g j i c d b e k a f) (λh=>j7k h.1 h.2.1 h.2.2.1 h.2.2.2.1 h.2.2.2.2.1 h.2.2.2.2.2.1 h.2.2.2.2.2.2.1 h.2.2.2.2.2.2.2.1 h.2.2.2.2.2.2.2.2.1 h.2.2.2.2.2.2.2.2.2):=j0d _ _
def j4a[LP](m:Tn2)(n:J)(f:Tn2)(k e:J)(l:Tn2):O ((Tn2×J×Tn2×J×J×Tn2) ⊕ (Tn2)):=cond (N (e<k)) (cond (inR e f.length) (let d:=S f e.toNat (0,0)
 (j97 m n f k e d.1 d.2 l).bind λb=>(j7k b.1 b.2.1 b.2.2.2.2.2.1 b.2.1 b.2.2.1 b.2.2.2.1 b.2.2.2.2.1 b.2.2.2.2.2.1 b.2.2.2.2.2.2.1 b.2.2.2.2.2.2.2).bind λa=>cond (N (a.2.2.1<a.2.2.2.2.2.2.2.1)) (let c:Tn2:=[(a.2.2.1,a.2.2.2.2.2.2.2.1)]
 cond (N (W a.2.2.2.2.2.2.2.2+W c<=j02)) (let j:Tn2:=a.2.2.2.2.2.2.2.2++c
 let g:=w64 (a.2.2.2.2.2.1+1)
 M (.inl (a.1,a.2.1,a.2.2.2.1,a.2.2.2.2.1,g,j))) Z) (let i:=w64 (a.2.2.2.2.2.1+1)
 M (.inl (a.1,a.2.1,a.2.2.2.1,a.2.2.2.2.1,i,a.2.2.2.2.2.2.2.2)))) Z) (M (.inr l))
def j7l[LP]:=lp6 j4a
theorem jcI(e f b a c d):j7l e f b a c d=lpK (j4a e f b a c d) (λh=>j7l h.1 h.2.1 h.2.2.1 h.2.2.2.1 h.2.2.2.2.1 h.2.2.2.2.2):=j0d _ _
def j4q[LP](a b:Tn2):O Tn2:=
 let c:=U a.length
 (j7l b 0 a c 0 ([]:Tn2)).bind λd=>M d
def j6T(d:J)(b:Tn2)(i:J)(a j:Tn2):O ((Tn2×Tn2×J×J×Tn2) ⊕ (Tn2)):=cond (inR d b.length) (let f:=S b d.toNat (0,0)
 cond (inR i a.length) (let c:=S a i.toNat (0,0)
 cond (N (f.2<c.2)) (let g:=w64 (d+1)
 M (.inl (b,a,g,i,j))) (let e:=w64 (i+1)
 M (.inl (b,a,d,e,j)))) Z) Z
def j6g(b a:Tn2)(c d:J)(m:Tn2):O ((Tn2×Tn2×J×J×Tn2) ⊕ (Tn2)):=
 let p:=U b.length
 let o:=U a.length
 cond (cond (N (c<p)) (N (d<o)) Á) (cond (inR c b.length) (let k:=S b c.toNat (0,0)
 cond (inR d a.length) (let g:=S a d.toNat (0,0)
 let f:Int:=if g.1>k.1 then g.1 else k.1
 cond (inR c b.length) (let j:=S b c.toNat (0,0)
 cond (inR d a.length) (let e:=S a d.toNat (0,0)
 let l:Int:=if e.2<j.2 then e.2 else j.2
 cond (N (f<l)) (let i:Tn2:=[(f,l)]
 cond (N (W m+W i<=j02)) (let n:Tn2:=m++i
 j6T c b d a n) Z) (j6T c b d a m)) Z) Z) Z) Z) (M (.inr m))
def j84[LP]:=lp5 j6g
abbrev jiM:=eq5 j6g j84
def j8F[LP](a b:Tn2):O Tn2:=(j84 a b 0 0 ([]:Tn2)).bind λc=>M c
def j98[LP](b:Tn64)(a:Tn78)(k e:J)(l:Tn2):O Tn2:=cond (b.2.2.2.2.2.2.2.2==1) (cond (inR b.2.2.2.2.2.2.2.1 a.1.2.2.1.length) (let c:=S a.1.2.2.1 b.2.2.2.2.2.2.2.1.toNat (À,0,[])
 (j3r a c k e).bind λg=>(j4q l g).bind λj=>M j) Z) (cond (b.2.2.2.2.2.2.2.2==2) (cond (inR b.2.2.2.2.2.2.2.1 a.1.2.2.1.length) (let d:=S a.1.2.2.1 b.2.2.2.2.2.2.2.1.toNat (À,0,[])
 (j3r a d k e).bind λf=>(j8F l f).bind λi=>M i) Z) (M l))
def j7m[LP](d:Tn78)(a:Tn64)(c b:J):O Tn2:=cond (inR a.2.1 d.2.length) (let g:=S d.2 a.2.1.toNat (0,[])
 (j0S g a 0).bind λf=>cond (cond (cond (!f.2) Â (N (f.1>=b))) Â (N (c>=b))) (M ([]:Tn2)) (let e:Int:=if f.1>c then f.1 else c
 let l:Tn2:=[(e,b)]
 let j:=U a.2.2.2.2.2.2.1.length
 cond (N (j>0)) (cond (inR a.2.1 d.2.length) (let i:=S d.2 a.2.1.toNat (0,[])
 (j30 i a.2.2.2.2.2.2.1 e b).bind λk=>j98 a d e b k) Z) (j98 a d e b l))) Z
def j7K[LP](a:Tn15)(b:J):O Int:=(j6x a b).bind λd=>(j4u a d).bind λc=>M c
def jg4(a:J):O (J×J):=
 let e:=w64 (É a 86400)
 let i:=Ä a 86400
 cond (N (i<0)) (let d:=w64 (e-1)
 let f:=w64 (d*86400)
 let g:=w64 (a-f)
 M (d,g)) (let b:=w64 (e*86400)
 let c:=w64 (a-b)
 M (e,c))
def j1B[LP](a:Tn15)(b:J):O (J×J):=(j7K a b).bind λd=>let e:=w64 (b+d)
 (jg4 e).bind λc=>M c
def j3y[LP](o m q:J)(j:Tn2)(n:X)(e a k g i:J)(b:Y J)(f:Tn2)(d c:J):O ((J×J×J×Tn2×X×J×J×J×J×J×(Y J)×Tn2×J×J) ⊕ (J×J×J×Tn2×X×J×J×J×J×J×(Y J)×Tn2×J×J)):=cond (N (m>0)) ((j0S (q,j) (n,e,(a,k),g,i,b,f,d,c) m).bind λl=>cond (cond l.2 (N (l.1<=o)) Á) (M (.inr (o,m,q,j,n,e,a,k,g,i,b,f,d,c))) (let p:=w64 (m-1)
 M (.inl (o,p,q,j,n,e,a,k,g,i,b,f,d,c)))) (M (.inr (o,m,q,j,n,e,a,k,g,i,b,f,d,c)))
def j8n[LP]:=c8 c6 (LP.lp (u8 unc6 j3y))
theorem jbR(n m o j l e a k g i b f d c):j8n n m o j l e a k g i b f d c=lpK (j3y n m o j l e a k g i b f d c) (λh=>j8n h.1 h.2.1 h.2.2.1 h.2.2.2.1 h.2.2.2.2.1 h.2.2.2.2.2.1 h.2.2.2.2.2.2.1 h.2.2.2.2.2.2.2.1 h.2.2.2.2.2.2.2.2.1 h.2.2.2.2.2.2.2.2.2.1 h.2.2.2.2.2.2.2.2.2.2.1 h.2.2.2.2.2.2.2.2.2.2.2.1 h.2.2.2.2.2.2.2.2.2.2.2.2.1 h.2.2.2.2.2.2.2.2.2.2.2.2.2):=j0d _ _
def j50[LP](q o r:J)(k:Tn2)(p:X)(f b l i j:J)(c:Y J)(g:Tn2)(e d:J):O ((J×J×J×Tn2×X×J×J×J×J×J×(Y J)×Tn2×J×J) ⊕ (J)):=
 let m:=w64 (o+1)
 (j0S (r,k) (p,f,(b,l),i,j,c,g,e,d) m).bind λa=>cond (cond (!a.2) Â (N (a.1>q))) (M (.inr o)) (let n:=w64 (o+1)
 M (.inl (q,n,r,k,p,f,b,l,i,j,c,g,e,d)))
def jaW[LP]:=c8 c6 (LP.lp (u8 unc6 j50))
abbrev jgT:=eq14 j50 jaW
def j4l[LP](c:Tn15)(a:Tn64)(d:J):O Int:=(j0S c a 0).bind λe=>cond (cond (!e.2) Â (N (e.1>d))) (M (-1)) (cond (a.2.2.2.1==0) (let m:=w64 (d-e.1)
 let f:=w64 (3600*a.2.2.2.2.1)
 cond (!(f==0)) (let k:=w64 (É m f)
 M k) Z) ((j1B c d).bind λn=>let j:=w64 (n.1-a.2.2.1.1)
 (jab a).bind λg=>cond (!(g==0)) (let i:=w64 (É j g)
 let l:Int:=if i>0 then i else 0
 (j8n d l c.1 c.2 a.1 a.2.1 a.2.2.1.1 a.2.2.1.2 a.2.2.2.1 a.2.2.2.2.1 a.2.2.2.2.2.1 a.2.2.2.2.2.2.1 a.2.2.2.2.2.2.2.1 a.2.2.2.2.2.2.2.2).bind λb=>(jaW b.1 b.2.1 b.2.2.1 b.2.2.2.1 b.2.2.2.2.1 b.2.2.2.2.2.1 b.2.2.2.2.2.2.1 b.2.2.2.2.2.2.2.1 b.2.2.2.2.2.2.2.2.1 b.2.2.2.2.2.2.2.2.2.1 b.2.2.2.2.2.2.2.2.2.2.1 b.2.2.2.2.2.2.2.2.2.2.2.1 b.2.2.2.2.2.2.2.2.2.2.2.2.1 b.2.2.2.2.2.2.2.2.2.2.2.2.2).bind λo=>M o) Z))
def j3z(a:Tn4)(e:Tn17)(g:J)(i:Tn17)(f:J):O ((Tn17×J×J×Tn17) ⊕ (Tn17)):=
 let b:Tn17:=[a]
 cond (N (W e+W b<=j02)) (let d:Tn17:=e++b
 let c:=w64 (g+1)
 M (.inl (i,f,c,d))) Z
def j51(f:Tn17)(j e:J)(b:Tn17):O ((Tn17×J×J×Tn17) ⊕ (Tn17)):=cond (N (e<j)) (cond (inR e f.length) (let a:=S f e.toNat (0,0,0)
 cond (N (a.2.1<=a.1)) (let m:=w64 (e+1)
 M (.inl (f,j,m,b))) (let c:=U b.length
 cond (N (c>0)) (let g:=w64 (c-1)
 cond (inR g b.length) (let l:=(S b g.toNat (0,0,0)).2.1
 cond (l==a.1) (let i:=w64 (c-1)
 cond (inR i b.length) (let n:=(S b i.toNat (0,0,0)).2.2
 cond (n==a.2.2) (let d:=w64 (c-1)
 cond (inR d b.length) (let o:Tn17:=Ç b d.toNat ((S b d.toNat (0,0,0)).1,a.2.1,(S b d.toNat (0,0,0)).2.2)
 let k:=w64 (e+1)
 M (.inl (f,j,k,o))) Z) (j3z a b e f j)) Z) (j3z a b e f j)) Z) (j3z a b e f j))) Z) (M (.inr b))
def j99[LP]:=lp4 j51
abbrev jeJ:=eq4 j51 j99
def jac[LP](a:Tn17):O Tn17:=
 let b:=U a.length
 (j99 a b 0 ([]:Tn17)).bind λc=>M c
def j41[LP](a:J)(b:Y J)(t:J)(u:Tn17)(a2 x v:J)(a1:X)(k n m o r:J)(s:Tn2)(l p a0:J)(j:Tn2)(z:J)(y:Tn2)(q:J)(w:J):O ((J×J×J×J×J×J×X×J×J×J×J×J×(Y J)×Tn2×J×J×J×Tn2×J×J×Tn17×Tn2) ⊕ (J×J×J×J×J×J×X×J×J×J×J×J×(Y J)×Tn2×J×J×J×Tn2×Tn17×Tn2)):=
 let c:Int:=if q<a then q else a
 let e:=U b.length
 cond (!(e==0)) (let f:=Ä w e
 cond (inR f b.length) (let g:=S b f.toNat 0
 let d:Tn17:=[(t,c,g)]
 cond (N (W u+W d<=j02)) (let i:Tn17:=u++d
 M (.inl (a2,c,w,q,x,v,a1,k,n,m,o,r,b,s,l,p,a0,j,z,a,i,y))) Z) Z) Z
def j37[LP](a3 o a5 a2 v u:J)(x:X)(d g f i k:J)(a:Y J)(l:Tn2)(e j p:J)(c:Tn2)(a0 b:J)(y:Tn17)(w:Tn2):O ((J×J×J×J×J×J×X×J×J×J×J×J×(Y J)×Tn2×J×J×J×Tn2×J×J×Tn17×Tn2) ⊕ (J×J×J×J×J×J×X×J×J×J×J×J×(Y J)×Tn2×J×J×J×Tn2×Tn17×Tn2)):=cond (N (o<b)) (cond (N (o>=a2)) ((j4l (p,c) (x,d,(g,f),i,k,a,l,e,j) o).bind λm=>let a4:=w64 (m+1)
 (j0S (p,c) (x,d,(g,f),i,k,a,l,e,j) a4).bind λn=>cond (!n.2) (j41 b a o y a3 v u x d g f i k l e j p c a0 w 8589934593 m) (let q:Int:=if n.1<b then n.1 else b
 let s:=U a.length
 cond (!(s==0)) (let r:=Ä m s
 cond (inR r a.length) (let a1:=S a r.toNat 0
 let t:Tn17:=[(o,q,a1)]
 cond (N (W y+W t<=j02)) (let z:Tn17:=y++t
 M (.inl (a3,q,m,n.1,v,u,x,d,g,f,i,k,a,l,e,j,p,c,a0,b,z,w))) Z) Z) Z)) (j41 b a o y a3 v u x d g f i k l e j p c a0 w a2 a5)) (M (.inr (a3,o,a5,a2,v,u,x,d,g,f,i,k,a,l,e,j,p,c,y,w)))
def j3A[LP](w m s t o n:J)(v:X)(c f e g j:J)(k:Y J)(l:Tn2)(d i r:J)(b:Tn2)(q a:J)(u:Tn17)(p:Tn2):O (J×J×J×J×J×J×X×J×J×J×J×J×(Y J)×Tn2×J×J×J×Tn2×Tn17×Tn2):=LP.lp (u8 (u8 unc6) j37) (w,m,s,t,o,n,v,c,f,e,g,j,k,l,d,i,r,b,q,a,u,p)
theorem jdG(w m s t o n v c f e g j k l d i r b q a u p):j3A w m s t o n v c f e g j k l d i r b q a u p=lpK (j37 w m s t o n v c f e g j k l d i r b q a u p) (λh=>j3A h.1 h.2.1 h.2.2.1 h.2.2.2.1 h.2.2.2.2.1 h.2.2.2.2.2.1 h.2.2.2.2.2.2.1 h.2.2.2.2.2.2.2.1 h.2.2.2.2.2.2.2.2.1 h.2.2.2.2.2.2.2.2.2.1 h.2.2.2.2.2.2.2.2.2.2.1 h.2.2.2.2.2.2.2.2.2.2.2.1 h.2.2.2.2.2.2.2.2.2.2.2.2.1 h.2.2.2.2.2.2.2.2.2.2.2.2.2.1 h.2.2.2.2.2.2.2.2.2.2.2.2.2.2.1 h.2.2.2.2.2.2.2.2.2.2.2.2.2.2.2.1 h.2.2.2.2.2.2.2.2.2.2.2.2.2.2.2.2.1 h.2.2.2.2.2.2.2.2.2.2.2.2.2.2.2.2.2.1 h.2.2.2.2.2.2.2.2.2.2.2.2.2.2.2.2.2.2.1 h.2.2.2.2.2.2.2.2.2.2.2.2.2.2.2.2.2.2.2.1 h.2.2.2.2.2.2.2.2.2.2.2.2.2.2.2.2.2.2.2.2.1 h.2.2.2.2.2.2.2.2.2.2.2.2.2.2.2.2.2.2.2.2.2):=j0d _ _
def j1Y[LP](v j x y k c:J)(z:X)(m p o q s:J)(t:Y J)(u:Tn2)(n r w:J)(g:Tn2)(l:Tn17)(e:Tn2):O ((J×J×J×J×J×J×X×J×J×J×J×J×(Y J)×Tn2×J×J×J×Tn2×Tn17×Tn2) ⊕ (J×J×Tn17)):=cond (N (c<k)) (cond (inR c e.length) (let b:=S e c.toNat (0,0)
 let d:Tn17:=[(j,b.1,(-1))]
 cond (N (W l+W d<=j02)) (let i:Tn17:=l++d
 (j3A v b.1 x y k c z m p o q s t u n r w g b.1 b.2 i e).bind λa=>let f:=w64 (a.2.2.2.2.2.1+1)
 M (.inl (a.1,a.2.1,a.2.2.1,a.2.2.2.1,a.2.2.2.2.1,f,a.2.2.2.2.2.2.1,a.2.2.2.2.2.2.2.1,a.2.2.2.2.2.2.2.2.1,a.2.2.2.2.2.2.2.2.2.1,a.2.2.2.2.2.2.2.2.2.2.1,a.2.2.2.2.2.2.2.2.2.2.2.1,a.2.2.2.2.2.2.2.2.2.2.2.2.1,a.2.2.2.2.2.2.2.2.2.2.2.2.2.1,a.2.2.2.2.2.2.2.2.2.2.2.2.2.2.1,a.2.2.2.2.2.2.2.2.2.2.2.2.2.2.2.1,a.2.2.2.2.2.2.2.2.2.2.2.2.2.2.2.2.1,a.2.2.2.2.2.2.2.2.2.2.2.2.2.2.2.2.2.1,a.2.2.2.2.2.2.2.2.2.2.2.2.2.2.2.2.2.2.1,a.2.2.2.2.2.2.2.2.2.2.2.2.2.2.2.2.2.2.2))) Z) Z) (M (.inr (v,j,l)))
def j3B[LP](u l q r n m:J)(t:X)(b e d f i:J)(j:Y J)(k:Tn2)(c g p:J)(a:Tn2)(s:Tn17)(o:Tn2):O (J×J×Tn17):=LP.lp (u8 (u8 unc4) j1Y) (u,l,q,r,n,m,t,b,e,d,f,i,j,k,c,g,p,a,s,o)
theorem j8Q(u l q r n m t b e d f i j k c g p a s o):j3B u l q r n m t b e d f i j k c g p a s o=lpK (j1Y u l q r n m t b e d f i j k c g p a s o) (λh=>j3B h.1 h.2.1 h.2.2.1 h.2.2.2.1 h.2.2.2.2.1 h.2.2.2.2.2.1 h.2.2.2.2.2.2.1 h.2.2.2.2.2.2.2.1 h.2.2.2.2.2.2.2.2.1 h.2.2.2.2.2.2.2.2.2.1 h.2.2.2.2.2.2.2.2.2.2.1 h.2.2.2.2.2.2.2.2.2.2.2.1 h.2.2.2.2.2.2.2.2.2.2.2.2.1 h.2.2.2.2.2.2.2.2.2.2.2.2.2.1 h.2.2.2.2.2.2.2.2.2.2.2.2.2.2.1 h.2.2.2.2.2.2.2.2.2.2.2.2.2.2.2.1 h.2.2.2.2.2.2.2.2.2.2.2.2.2.2.2.2.1 h.2.2.2.2.2.2.2.2.2.2.2.2.2.2.2.2.2.1 h.2.2.2.2.2.2.2.2.2.2.2.2.2.2.2.2.2.2.1 h.2.2.2.2.2.2.2.2.2.2.2.2.2.2.2.2.2.2.2):=j0d _ _
def j28[LP](b:Tn78)(a:Tn64)(c d:J):O Tn17:=cond (inR a.2.1 b.2.length) (let f:=S b.2 a.2.1.toNat (0,[])
 (j7m b a c d).bind λg=>let l:=U g.length
 (j3B d c (-1) (-1) l 0 a.1 a.2.1 a.2.2.1.1 a.2.2.1.2 a.2.2.2.1 a.2.2.2.2.1 a.2.2.2.2.2.1 a.2.2.2.2.2.2.1 a.2.2.2.2.2.2.2.1 a.2.2.2.2.2.2.2.2 f.1 f.2 ([]:Tn17) g).bind λe=>let i:Tn17:=[(e.2.1,e.1,(-1))]
 cond (N (W e.2.2+W i<=j02)) (let j:Tn17:=e.2.2++i
 (jac j).bind λk=>M k) Z) Z
def j4b(k:J)(i:Tn34)(d b:J)(e:Tn2):O ((J×Tn34×J×J×Tn2) ⊕ (Tn2)):=cond (N (b<d)) (cond (inR b i.length) (let a:=S i b.toNat (0,0,0,0,0)
 cond (cond (a.1==0) (a.2.1==k) Á) (let c:Tn2:=[a.2.2.2]
 cond (N (W e+W c<=j02)) (let j:Tn2:=e++c
 let f:=w64 (b+1)
 M (.inl (k,i,d,f,j))) Z) (let g:=w64 (b+1)
 M (.inl (k,i,d,g,e)))) Z) (M (.inr e))
def j9a[LP]:=lp5 j4b
abbrev jcJ:=eq5 j4b j9a
def j7n[LP](b:Tn69)(a:J):O Tn2:=
 let c:=U b.2.2.length
 (j9a a b.2.2 c 0 ([]:Tn2)).bind λe=>(j7H e).bind λd=>M d
def j3C(m:Tn17)(k n l c:J)(q:X)(d:Tn65)(f:Tn34)(s p e:J)(r:Tn23)(o:Tn17)(g:Tn2):O ((Tn17×J×J×J×J×X×Tn65×Tn34×J×J×J×Tn23×Tn17×Tn2) ⊕ (Tn17×J×J×X×Tn65×Tn34×Tn23×Tn17)):=cond (N (c<l)) (cond (inR c g.length) (let a:=S g c.toNat (0,0)
 let b:Tn17:=[(a.1,a.2,e)]
 cond (N (W o+W b<=j02)) (let i:Tn17:=o++b
 let j:=w64 (c+1)
 M (.inl (m,k,n,l,j,q,d,f,s,p,e,r,i,g))) Z) Z) (M (.inr (m,k,n,q,d,f,r,o)))
def j6y[LP]:=c8 c6 (LP.lp (u8 unc6 j3C))
abbrev jbS:=eq14 j3C j6y
def j3Q[LP](b:Tn4)(m:Tn17)(k n:J)(o:X)(i:Tn65)(j:Tn34)(p:Tn17)(l:Tn23):O ((Tn17×J×J×X×Tn65×Tn34×Tn23×Tn17) ⊕ (Tn17)):=
 let e:Tn2:=[(b.1,b.2.1)]
 let g:Tn2:=j1x ([]:Tn2) l b.2.2
 (j4q e g).bind λc=>let d:=U c.length
 (j6y m k n d 0 o i j b.1 b.2.1 b.2.2 l p c).bind λa=>let f:=w64 (a.2.2.1+1)
 M (.inl (a.1,a.2.1,f,a.2.2.2.1,a.2.2.2.2.1,a.2.2.2.2.2.1,a.2.2.2.2.2.2.1,a.2.2.2.2.2.2.2))
def j3D[LP](e:Tn17)(f b:J)(i:X)(c:Tn65)(d:Tn34)(g:Tn23)(l:Tn17):O ((Tn17×J×J×X×Tn65×Tn34×Tn23×Tn17) ⊕ (Tn17)):=cond (N (b<f)) (cond (inR b e.length) (let a:=S e b.toNat (0,0,0)
 cond (N (a.2.2<0)) (let j:=w64 (b+1)
 M (.inl (e,f,j,i,c,d,g,l))) (let n:Tn2:=j1x ([]:Tn2) g a.2.2
 cond (!(j38 g a.2.2)) ((j7n (i,c,d) a.2.2).bind λk=>let m:Tn23:=j2Y g a.2.2 k
 j3Q a e f b i c d l m) (j3Q a e f b i c d l g))) Z) (M (.inr l))
def j6z[LP]:=lp8 j3D
abbrev jbT:=eq8 j3D j6z
def j9b[LP](a:Tn69)(b:Tn17):O Tn17:=
 let d:Tn23:=[]
 let c:=U b.length
 (j6z b c 0 a.1 a.2.1 a.2.2 d ([]:Tn17)).bind λe=>M e
def j6h(f:J)(d:Tn17)(i:J)(a:Tn2)(j:Tn17):O ((Tn17×Tn2×J×J×Tn17) ⊕ (Tn17)):=cond (inR f d.length) (let e:=S d f.toNat (0,0,0)
 cond (inR i a.length) (let g:=S a i.toNat (0,0)
 cond (N (e.2.1<g.2)) (let c:=w64 (f+1)
 M (.inl (d,a,c,i,j))) (let b:=w64 (i+1)
 M (.inl (d,a,f,b,j)))) Z) Z
def j5r(a:Tn17)(c:Tn2)(b d:J)(m:Tn17):O ((Tn17×Tn2×J×J×Tn17) ⊕ (Tn17)):=
 let p:=U a.length
 let o:=U c.length
 cond (cond (N (b<p)) (N (d<o)) Á) (cond (inR b a.length) (let k:=S a b.toNat (0,0,0)
 cond (inR d c.length) (let g:=S c d.toNat (0,0)
 let f:Int:=if g.1>k.1 then g.1 else k.1
 cond (inR b a.length) (let j:=S a b.toNat (0,0,0)
 cond (inR d c.length) (let e:=S c d.toNat (0,0)
 let l:Int:=if e.2<j.2.1 then e.2 else j.2.1
 cond (inR b a.length) (let n:=S a b.toNat (0,0,0)
 cond (N (f<l)) (let i:Tn17:=[(f,l,n.2.2)]
 cond (N (W m+W i<=j02)) (let q:Tn17:=m++i
 j6h b a d c q) Z) (j6h b a d c m)) Z) Z) Z) Z) Z) (M (.inr m))
def j5G[LP]:=lp5 j5r
abbrev jhE:=eq5 j5r j5G
def jcK[LP](b:Tn17)(a:Tn2):O Tn17:=(j5G b a 0 0 ([]:Tn17)).bind λc=>M c
def j4E(g:Tn17)(i c:J)(f:Tn2):O ((Tn17×J×J×Tn2) ⊕ (Tn2)):=cond (N (c<i)) (cond (inR c g.length) (let b:=S g c.toNat (0,0,0)
 let a:Tn2:=[(b.1,b.2.1)]
 cond (N (W f+W a<=j02)) (let d:Tn2:=f++a
 let e:=w64 (c+1)
 M (.inl (g,i,e,d))) Z) Z) (M (.inr f))
def jak[LP]:=lp4 j4E
abbrev jdH:=eq4 j4E jak
def jbU[LP](a:Tn17):O Tn2:=
 let d:=U a.length
 (jak a d 0 ([]:Tn2)).bind λc=>(j7H c).bind λb=>M b
def j3h(a b:Tn4):O Int:=
 let c:=w64 (a.1-b.1)
 M c
def j0x(a:Tn17):O Tn17:=
 jlQ (.pair (.int .i64) (.pair (.int .i64) (.int .i64))) (λc b=>(j3h c b).getD 0) a
def j2p[LP](s:J)(e:Tn65)(v:Tn59)(j:Tn53)(g:Tn30)(l:Tn70)(k:Tn23)(u:X)(f:Tn65)(i:Tn34)(w t:J)(d:Tn2)(c:Tn17):O ((J×Tn65×Tn59×Tn53×Tn30×Tn70×Tn23×X×Tn65×Tn34×J×J×Tn2×Tn17) ⊕ (Tn2×Tn17)):=cond (N (s<=0)) (M (.inr (d,c))) (cond (N (s<=U e.length)) (let n:Int:=s-1
 let a:=S e n.toNat (À,0,(0,0),0,0,[],[],0,0)
 (j28 ((v,j,g,l),k) a w t).bind λo=>(j9b (u,f,i) o).bind λm=>(jcK m d).bind λb=>cond (N (W c+W b<=j02)) (let q:Tn17:=c++b
 (jbU b).bind λr=>(j4q d r).bind λp=>M (.inl ((s-1),e,v,j,g,l,k,u,f,i,w,t,p,q))) Z) Z)
def j6i[LP]:=c8 c6 (LP.lp (u8 unc6 j2p))
abbrev j9U:=eq14 j2p j6i
def j2q(i c:J)(e:Tn2)(a:Tn17):O ((J×J×Tn2×Tn17) ⊕ (Tn17)):=cond (N (c<i)) (cond (inR c e.length) (let d:=S e c.toNat (0,0)
 let b:Tn17:=[(d.1,d.2,(-1))]
 cond (N (W a+W b<=j02)) (let g:Tn17:=a++b
 let f:=w64 (c+1)
 M (.inl (i,f,e,g))) Z) Z) (M (.inr a))
def j6j[LP]:=lp4 j2q
abbrev j9V:=eq4 j2q j6j
def j4Q[LP](b:Tn78)(d:Tn69)(a c:J):O Tn17:=cond (N (a>=c)) (M ([]:Tn17)) (let k:Tn2:=[(a,c)]
 (j2k d.2.1).bind λe=>(j6i (U e.length) e b.1.1 b.1.2.1 b.1.2.2.1 b.1.2.2.2 b.2 d.1 d.2.1 d.2.2 a c k ([]:Tn17)).bind λf=>let g:=U f.1.length
 (j6j g 0 f.1 f.2).bind λl=>(j0x l).bind λj=>(jac j).bind λi=>M i)
def jbj(a:J):O Bool:=M (a != a)
def jcL(a b:J):O Bool:=(jbj a).bind λc=>cond c ((jbj b).bind λd=>M (cond (!d) Â (N (a<b)))) (M (N (a<b)))
def j8o(a:J):O Bool:=M (a != a)
def j1v(b:Y J)(d m k l:J):O (((Y J)×J×J×J×J) ⊕ ((Y J)×J×J×J)):=cond (N (k<l)) (let c:=w64 (k+l)
 let e:Int:=IntKind.wrap .u64 c
 let f:Int:=Ï e 2
 let a:=w64 f
 cond (inR a b.length) (let j:=S b a.toNat 0
 (jcL j d).bind λi=>cond i (let g:=w64 (a+1)
 M (.inl (b,d,m,g,l))) (M (.inl (b,d,m,k,a)))) Z) (M (.inr (b,d,m,k)))
def j3E[LP]:=lp5 j1v
abbrev j9c:=eq5 j1v j3E
def j2I[LP](d:Y J)(b:J):O (J×Æ):=
 let e:=U d.length
 (j3E d b e 0 e).bind λa=>cond ((inR a.2.2.2 a.1.length) || !(N (a.2.2.2<a.2.2.1))) (let c:=S a.1 a.2.2.2.toNat 0
 cond ((inR a.2.2.2 a.1.length) || !((N (a.2.2.2<a.2.2.1))&&(!(c==a.2.1)))) (let f:=S a.1 a.2.2.2.toNat 0
 cond (N (a.2.2.2<a.2.2.1)) (cond (c==a.2.1) (M (a.2.2.2,Â)) ((j8o f).bind λg=>cond g ((j8o a.2.1).bind λi=>M (a.2.2.2,i)) (M (a.2.2.2,Á)))) (cond ((c==a.2.1) || !Á) (M (a.2.2.2,Á)) Z)) Z) Z
def jgU(a:Tn28)(b:J):O Bool:=M (cond (N (a.2.2.2.1<=b)) (N (b<a.2.2.2.2)) Á)
def j5H(f e:J)(d:Tn34)(c b:J):O ((J×J×Tn34×J×J) ⊕ (J)):=cond (N (b<c)) (cond (inR b d.length) (let a:=S d b.toNat (0,0,0,0,0)
 (jgU a e).bind λn=>cond (cond (!n) Â (a.1==0)) (let l:=w64 (b+1)
 M (.inl (f,e,d,c,l))) (cond (a.1==1) (let k:=w64 (b+1)
 M (.inl (a.2.1,e,d,c,k))) (cond (a.1 != 2) (let j:=w64 (b+1)
 M (.inl (f,e,d,c,j))) (cond (f==a.2.1) (let m:=w64 (b+1)
 M (.inl (a.2.2.1,e,d,c,m))) (cond (f==a.2.2.1) (let i:=w64 (b+1)
 M (.inl (a.2.1,e,d,c,i))) (let g:=w64 (b+1)
 M (.inl (f,e,d,c,g)))))))) Z) (M (.inr f))
def jcM[LP]:=lp5 j5H
abbrev jff:=eq5 j5H jcM
def jhF[LP](b:Tn34)(a c:J):O Int:=
 let d:=U b.length
 (jcM a c b d 0).bind λe=>M e
def j2J(r s:J)(k:Tn34)(n a:J)(p:Tn59)(g:Tn53)(d:Tn30)(j:Tn70)(i:Tn23)(q:X)(e:Tn65)(f:Tn34)(o:Y J):O ((J×J×Tn34×J×J×Tn59×Tn53×Tn30×Tn70×Tn23×X×Tn65×Tn34×(Y J)) ⊕ (J×J×Tn59×Tn53×Tn30×Tn70×Tn23×X×Tn65×Tn34×(Y J))):=cond (N (a<n)) (cond (inR a k.length) (let c:=S k a.toNat (0,0,0,0,0)
 let b:Y Int:=[c.2.2.2.1,c.2.2.2.2]
 cond (N (W o+W b<=j02)) (let m:Y Int:=o++b
 let l:=w64 (a+1)
 M (.inl (r,s,k,n,l,p,g,d,j,i,q,e,f,m))) Z) Z) (M (.inr (r,s,p,g,d,j,i,q,e,f,o)))
def j6Z[LP]:=c8 c6 (LP.lp (u8 unc6 j2J))
abbrev jay:=eq14 j2J j6Z
def j2K[LP](l k r q:J)(s:X)(i:Tn65)(b:Tn34)(t a g:J)(e:Y J)(j p:Tn17):O ((J×J×J×J×X×Tn65×Tn34×J×J×J×(Y J)×Tn17×Tn17) ⊕ (J×J×X×Tn65×Tn34×(Y J)×Tn17×Tn17)):=cond (N (k<a)) (cond (inR l e.length) (let d:=S e l.toNat 0
 let f:Int:=if d<a then d else a
 (jhF b g k).bind λm=>let c:Tn17:=[(k,f,m)]
 cond (N (W j+W c<=j02)) (let n:Tn17:=j++c
 let o:=w64 (l+1)
 M (.inl (o,f,r,q,s,i,b,t,a,g,e,n,p))) Z) Z) (M (.inr (r,q,s,i,b,e,j,p)))
def j9d[LP]:=c8 c5 (LP.lp (u8 unc5 j2K))
abbrev jaz:=eq13 j2K j9d
def j2L[LP](j c:J)(n:X)(l:Tn65)(m:Tn34)(i:Y J)(k d:Tn17):O ((J×J×X×Tn65×Tn34×(Y J)×Tn17×Tn17) ⊕ (Tn17)):=cond (N (c<j)) (cond (inR c d.length) (let b:=S d c.toNat (0,0,0)
 let g:=w64 (b.1+1)
 (j2I i g).bind λe=>(j9d e.1 b.1 j c n l m b.1 b.2.1 b.2.2 i k d).bind λa=>let f:=w64 (a.2.1+1)
 M (.inl (a.1,f,a.2.2.1,a.2.2.2.1,a.2.2.2.2.1,a.2.2.2.2.2.1,a.2.2.2.2.2.2.1,a.2.2.2.2.2.2.2))) Z) (M (.inr k))
def j70[LP]:=lp8 j2L
abbrev jaA:=eq8 j2L j70
def j1N[LP](c:Tn78)(b:Tn69)(d e:J):O Tn17:=
 let k:=U b.2.2.length
 (j6Z d e b.2.2 k 0 c.1.1 c.1.2.1 c.1.2.2.1 c.1.2.2.2 c.2 b.1 b.2.1 b.2.2 ([]:(Y J))).bind λa=>(jfe a.2.2.2.2.2.2.2.2.2.2 a.1 a.2.1).bind λj=>(j4Q ((a.2.2.1,a.2.2.2.1,a.2.2.2.2.1,a.2.2.2.2.2.1),a.2.2.2.2.2.2.1) (a.2.2.2.2.2.2.2.1,a.2.2.2.2.2.2.2.2.1,a.2.2.2.2.2.2.2.2.2.1) a.1 a.2.1).bind λf=>let g:=U f.length
 (j70 g 0 a.2.2.2.2.2.2.2.1 a.2.2.2.2.2.2.2.2.1 a.2.2.2.2.2.2.2.2.2.1 j ([]:Tn17) f).bind λl=>(jac l).bind λi=>M i
def j4F[LP](b:Tn76)(a d e:J):O (Tn17×J):=(jaa b a d e).bind λc=>cond (c.2 != 0) (M (([]:Tn17),c.2)) (cond (inR a b.2.2.2.length) (let f:=S b.2.2.2 a.toNat (À,[],[])
 (j1N c.1 f d e).bind λg=>let i:=U g.length
 cond (N (i>16384)) (M (([]:Tn17),5)) (M (g,0))) Z)
def j5s(g:Tn16)(i c:J)(f:Tn2):O ((Tn16×J×J×Tn2) ⊕ (Tn2)):=cond (N (c<i)) (cond (inR c g.length) (let b:=S g c.toNat ((0,0),0)
 let a:Tn2:=[b.1]
 cond (N (W f+W a<=j02)) (let d:Tn2:=f++a
 let e:=w64 (c+1)
 M (.inl (g,i,e,d))) Z) Z) (M (.inr f))
def jfg[LP]:=lp4 j5s
abbrev jhG:=eq4 j5s jfg
def jcN[LP](a:Tn16):O Tn2:=
 let c:=U a.length
 (jfg a c 0 ([]:Tn2)).bind λb=>M b
def jhH(a:Tn3):O Bool:=M (cond (N (a.2<1)) Â (N (a.2>8)))
def j0J(e:Tn16)(f b:J):O ((Tn16×J×J) ⊕ (J ⊕ Ê)):=cond (N (b<f)) (cond (inR b e.length) (let a:=S e b.toNat ((0,0),0)
 (jhH a).bind λd=>cond d (M (.inr (.inl b))) (let c:=w64 (b+1)
 M (.inl (e,f,c)))) Z) (M (.inr (.inr ())))
def j3d[LP]:=lp3 j0J
abbrev j60:=eq3 j0J j3d
def j1U[LP](a:Tn16):O Int:=
 let c:=U a.length
 (j3d a c 0).bind λb=>sumC b (λd=>M d) (λe=>M (-1))
def j0W[LP](a:Tn16):O Bool:=(j1U a).bind λb=>M (N (b>=0))
def jg5[LP](a:Tn16):O Int:=(jcN a).bind λd=>(jbB d).bind λc=>cond (c != 0) (M c) ((j0W a).bind λb=>cond b (M 1) (M 0))
def j3e(j:J)(e:Tn17)(k b:J)(d:Tn2):O ((J×Tn17×J×J×Tn2) ⊕ (Tn2)):=cond (N (b<k)) (cond (inR b e.length) (let a:=S e b.toNat (0,0,0)
 cond (a.2.2==j) (let c:Tn2:=[(a.1,a.2.1)]
 cond (N (W d+W c<=j02)) (let g:Tn2:=d++c
 let i:=w64 (b+1)
 M (.inl (j,e,k,i,g))) Z) (let f:=w64 (b+1)
 M (.inl (j,e,k,f,d)))) Z) (M (.inr d))
def j5I[LP]:=lp5 j3e
abbrev jbb:=eq5 j3e j5I
def j5j[LP](b:Tn17)(a:J):O Tn2:=
 let e:=U b.length
 (j5I a b e 0 ([]:Tn2)).bind λd=>(j7H d).bind λc=>M c
def jbV(g:J)(f:Tn2)(i c:J):O ((J×Tn2×J×J) ⊕ (J)):=cond (N (c<i)) (cond (inR c f.length) (let a:=S f c.toNat (0,0)
 let e:=w64 (a.2-a.1)
 let b:=w64 (g+e)
 let d:=w64 (c+1)
 M (.inl (b,f,i,d))) Z) (M (.inr g))
def jlR[LP]:=lp4 jbV
def jkW[LP](a:Tn2):O Int:=
 let c:=U a.length
 (jlR 0 a c 0).bind λb=>M b
def j4G(m b:J)(d:Tn27)(k:Tn17)(l:Y J):O ((J×J×Tn27×Tn17×(Y J)) ⊕ (Tn27×Tn17)):=cond (N (b<m)) (cond (inR b l.length) (let a:=S l b.toNat 0
 let g:Int:=(j1x (0,0,0) d a).1
 let e:Int:=(j1x (0,0,0) d a).2.1
 let f:Int:=(j1x (0,0,0) d a).2.2
 let c:Tn17:=[(g,e,f)]
 cond (N (W k+W c<=j02)) (let i:Tn17:=k++c
 let j:=w64 (b+1)
 M (.inl (m,j,d,i,l))) Z) Z) (M (.inr (d,k)))
def jal[LP]:=lp5 j4G
abbrev jdI:=eq5 j4G jal
def jee[LP](a:Tn27):O (Tn17×Tn27):=cond (job a) (let b:Y Int:=jdb a
 let d:=U b.length
 (jal d 0 a ([]:Tn17) b).bind λc=>M (c.2,c.1)) Z
def j52(n q:J)(o:Tn16)(g d i:J)(c:Tn2)(e:Tn17)(b:Tn27):O ((J×J×Tn16×J×J×J×Tn2×Tn17×Tn27) ⊕ (J×J×Tn16×J×Tn2×Tn17×Tn27)):=cond (N (d<g)) (cond (inR d e.length) (let a:=S e d.toNat (0,0,0)
 cond (N (a.2.2>=0)) (let r:Int:=(j1x (0,0,0) b a.2.2).1
 let k:Int:=(j1x (0,0,0) b a.2.2).2.1
 let s:Int:=(j1x (0,0,0) b a.2.2).2.2
 let m:=w64 (k+a.2.1)
 let f:=w64 (m-a.1)
 let p:Tn27:=j2Y b a.2.2 (a.2.2,f,f)
 let j:=w64 (d+1)
 M (.inl (n,q,o,g,j,i,c,e,p))) (let l:=w64 (d+1)
 M (.inl (n,q,o,g,l,i,c,e,b)))) Z) (M (.inr (n,q,o,i,c,e,b)))
def jbk[LP]:=lp9 j52
abbrev jeK:=eq9 j52 jbk
def jhI[LP](x w:J)(s:Tn16)(p t q:J)(n:Tn2)(u m b:J)(l:Tn17)(k:Tn2)(r:Tn27)(d:J)(a:Tn4){v:Type}(o:Tn4->O v):O v:=
 let g:=w64 (b-1)
 (j5j l d).bind λj=>(j8F j k).bind λf=>(jkW f).bind λe=>let c:=w64 (g*e)
 let i:=w64 (a.2.2+c)
 o (a.1,a.2.1,i)
def j71[LP](o p:J)(d:Tn16)(k c l:J)(b:Tn2)(n:Tn17)(j:Tn27):O ((J×J×Tn16×J×J×J×Tn2×Tn17×Tn27) ⊕ (Tn27)):=cond (N (c<k)) (cond (inR c d.length) (let a:=S d c.toNat ((0,0),0)
 let i:Tn2:=[a.1]
 (j30 (l,b) i o p).bind λg=>(jdc (λ(m:J)(f:Tn4)=>jhI o p d k c l b a.1.1 a.1.2 a.2 n g j m f M) j).bind λq=>let e:=w64 (c+1)
 M (.inl (o,p,d,k,e,l,b,n,q))) Z) (M (.inr j))
def jhJ[LP]:=lp9 j71
abbrev jjC:=eq9 j71 jhJ
def jdJ[LP](a:Tn76)(c d g b:J)(i:Tn16):O (Tn17×J):=(j4F a c d g).bind λf=>cond (f.2 != 0) (M (([]:Tn17),f.2)) (let q:=U a.1.length
 cond (cond (N (b<0)) Â (N (b>=q))) (M (([]:Tn17),3)) ((jg5 i).bind λo=>cond (o != 0) (M (([]:Tn17),8)) (cond (inR b a.1.length) (let j:=S a.1 b.toNat (À,0,[])
 (jgQ j).bind λk=>let p:Tn27:=[]
 let m:=U f.1.length
 (jbk d g i m 0 k.1.1 k.1.2 f.1 p).bind λe=>let n:=U e.2.2.1.length
 (jhJ e.1 e.2.1 e.2.2.1 n 0 e.2.2.2.1 e.2.2.2.2.1 e.2.2.2.2.2.1 e.2.2.2.2.2.2).bind λr=>(jee r).bind λl=>M (l.1,0)) Z)))
def j29(a:Tn59):O Tn59:=cond (N (W ([]:Y (Tn57))+W a<=j02)) (M (([]:Y (Tn57))++a)) Z
def j1C(a:Tn53):O Tn53:=cond (N (W ([]:Y (Tn49))+W a<=j02)) (M (([]:Y (Tn49))++a)) Z
def j1a(a:Tn30):O Tn30:=cond (N (W ([]:Y (Tn22))+W a<=j02)) (M (([]:Y (Tn22))++a)) Z
def j1b(a:Tn70):O Tn70:=cond (N (W ([]:Y (Tn69))+W a<=j02)) (M (([]:Y (Tn69))++a)) Z
def j1c(a:Tn47):O Tn47:=cond (N (W ([]:Y (Tn43))+W a<=j02)) (M (([]:Y (Tn43))++a)) Z
def j11(a:Tn2):O Tn2:=cond (N (W ([]:Y (J×J))+W a<=j02)) (M (([]:Y (J×J))++a)) Z
def j1e(a:Tn65):O Tn65:=cond (N (W ([]:Y (Tn64))+W a<=j02)) (M (([]:Y (Tn64))++a)) Z
def j1t(a:Tn34):O Tn34:=cond (N (W ([]:Y (Tn28))+W a<=j02)) (M (([]:Y (Tn28))++a)) Z
def j5J(k b:J)(a:Tn59)(c:Tn53)(e:Tn30)(d:Tn70):O ((J×J×Tn59×Tn53×Tn30×Tn70) ⊕ (Tn59×Tn53×Tn30×Tn70)):=cond (N (b<k)) (cond (inR b a.length) (let g:=(S a b.toNat (À,0,[])).2.2
 (j1c g).bind λf=>cond (inR b a.length) (let i:Tn59:=Ç a b.toNat ((S a b.toNat (À,0,[])).1,(S a b.toNat (À,0,[])).2.1,f)
 let j:=w64 (b+1)
 M (.inl (k,j,i,c,e,d))) Z) Z) (M (.inr (a,c,e,d)))
def jcO[LP]:=lp6 j5J
abbrev jfh:=eq6 j5J jcO
def j5K(k b:J)(c:Tn59)(a:Tn53)(e:Tn30)(d:Tn70):O ((J×J×Tn59×Tn53×Tn30×Tn70) ⊕ (Tn59×Tn53×Tn30×Tn70)):=cond (N (b<k)) (cond (inR b a.length) (let g:=(S a b.toNat (À,0,[],0,0,Á)).2.2.1
 (j11 g).bind λi=>cond (inR b a.length) (let j:Tn53:=Ç a b.toNat ((S a b.toNat (À,0,[],0,0,Á)).1,(S a b.toNat (À,0,[],0,0,Á)).2.1,i,(S a b.toNat (À,0,[],0,0,Á)).2.2.2.1,(S a b.toNat (À,0,[],0,0,Á)).2.2.2.2.1,(S a b.toNat (À,0,[],0,0,Á)).2.2.2.2.2)
 let f:=w64 (b+1)
 M (.inl (k,f,c,j,e,d))) Z) Z) (M (.inr (c,a,e,d)))
def jcP[LP]:=lp6 j5K
abbrev jfi:=eq6 j5K jcP
def j5L(k b:J)(d:Tn59)(c:Tn53)(a:Tn30)(e:Tn70):O ((J×J×Tn59×Tn53×Tn30×Tn70) ⊕ (Tn59×Tn53×Tn30×Tn70)):=cond (N (b<k)) (cond (inR b a.length) (let f:=(S a b.toNat (À,0,[])).2.2
 (j23 f).bind λi=>cond (inR b a.length) (let g:Tn30:=Ç a b.toNat ((S a b.toNat (À,0,[])).1,(S a b.toNat (À,0,[])).2.1,i)
 let j:=w64 (b+1)
 M (.inl (k,j,d,c,g,e))) Z) Z) (M (.inr (d,c,a,e)))
def jcQ[LP]:=lp6 j5L
abbrev jfj:=eq6 j5L jcQ
def j5M(r q o a:J)(e:X)(n:Tn59)(f:Tn53)(l:Tn30)(b:Tn65)(d:Tn34):O ((J×J×J×J×X×Tn59×Tn53×Tn30×Tn65×Tn34) ⊕ (J×J×X×Tn59×Tn53×Tn30×Tn65×Tn34)):=cond (N (a<o)) (cond (inR a b.length) (let j:=(S b a.toNat (À,0,(0,0),0,0,[],[],0,0)).2.2.2.2.2.1
 (j23 j).bind λm=>cond (inR a b.length) (let g:=(S b a.toNat (À,0,(0,0),0,0,[],[],0,0)).2.2.2.2.2.2.1
 (j11 g).bind λi=>cond (inR a b.length) (let c:Tn65:=Ç b a.toNat ((S b a.toNat (À,0,(0,0),0,0,[],[],0,0)).1,(S b a.toNat (À,0,(0,0),0,0,[],[],0,0)).2.1,((S b a.toNat (À,0,(0,0),0,0,[],[],0,0)).2.2.1.1,(S b a.toNat (À,0,(0,0),0,0,[],[],0,0)).2.2.1.2),(S b a.toNat (À,0,(0,0),0,0,[],[],0,0)).2.2.2.1,(S b a.toNat (À,0,(0,0),0,0,[],[],0,0)).2.2.2.2.1,m,(S b a.toNat (À,0,(0,0),0,0,[],[],0,0)).2.2.2.2.2.2.1,(S b a.toNat (À,0,(0,0),0,0,[],[],0,0)).2.2.2.2.2.2.2.1,(S b a.toNat (À,0,(0,0),0,0,[],[],0,0)).2.2.2.2.2.2.2.2)
 cond (inR a c.length) (let p:Tn65:=Ç c a.toNat ((S c a.toNat (À,0,(0,0),0,0,[],[],0,0)).1,(S c a.toNat (À,0,(0,0),0,0,[],[],0,0)).2.1,((S c a.toNat (À,0,(0,0),0,0,[],[],0,0)).2.2.1.1,(S c a.toNat (À,0,(0,0),0,0,[],[],0,0)).2.2.1.2),(S c a.toNat (À,0,(0,0),0,0,[],[],0,0)).2.2.2.1,(S c a.toNat (À,0,(0,0),0,0,[],[],0,0)).2.2.2.2.1,(S c a.toNat (À,0,(0,0),0,0,[],[],0,0)).2.2.2.2.2.1,i,(S c a.toNat (À,0,(0,0),0,0,[],[],0,0)).2.2.2.2.2.2.2.1,(S c a.toNat (À,0,(0,0),0,0,[],[],0,0)).2.2.2.2.2.2.2.2)
 let k:=w64 (a+1)
 M (.inl (r,q,o,k,e,n,f,l,p,d))) Z) Z) Z) Z) (M (.inr (r,q,e,n,f,l,b,d)))
def jaB[LP]:=c8 c2 (LP.lp (u8 unc2 j5M))
abbrev jfk:=eq10 j5M jaB
def jfl[LP](b:Tn76):O (Tn59×Tn53×Tn30×X×Tn65×Tn34):=(j29 b.1).bind λl=>(j1C b.2.1).bind λu=>(j1a b.2.2.1).bind λq=>(j1b b.2.2.2).bind λr=>let v:=U l.length
 (jcO v 0 l u q r).bind λj=>let w:=U j.2.1.length
 (jcP w 0 j.1 j.2.1 j.2.2.1 j.2.2.2).bind λi=>let t:=U i.2.2.1.length
 (jcQ t 0 i.1 i.2.1 i.2.2.1 i.2.2.2).bind λe=>cond (Nat.beq e.2.2.2.length 1) (let n:=S e.2.2.2 0 (À,[],[])
 (j1e n.2.1).bind λk=>(j1t n.2.2).bind λp=>let o:=U k.length
 (jaB 1 0 o 0 n.1 e.1 e.2.1 e.2.2.1 k p).bind λa=>let c:=w64 (a.2.1+1)
 cond (N (c<a.1)) (cond (inR c 1) ((j1e a.2.2.2.2.2.2.1).bind λd=>(j1t a.2.2.2.2.2.2.2).bind λf=>let g:=U d.length
 (jaB a.1 c g 0 a.2.2.1 a.2.2.2.1 a.2.2.2.2.1 a.2.2.2.2.2.1 d f).bind λm=>let s:=w64 (m.2.1+1)
 Z) Z) (M (a.2.2.2.1,a.2.2.2.2.1,a.2.2.2.2.2.1,a.2.2.1,a.2.2.2.2.2.2.1,a.2.2.2.2.2.2.2))) Z
def jhK[LP](a:Tn76)(b:J):O (J×Tn59×Tn53×Tn30×X×Tn65×Tn34):=(j1R a).bind λe=>cond (e != 0) (Z) ((j8D a b).bind λd=>cond (!d) (Z) ((jfl a).bind λc=>M (0,c.1,c.2.1,c.2.2.1,c.2.2.2.1,c.2.2.2.2.1,c.2.2.2.2.2)))
def jbC[LP](d:Tn76)(b:J)(c:Tn28):O (Tn76×J):=(jhK d b).bind λa=>cond (a.1 != 0) (M ((([]:Tn59),([]:Tn53),([]:Tn30),([]:Tn70)),a.1)) (cond (inR b 1) (let g:Tn34:=[c]
 cond (N (W a.2.2.2.2.2.2+W g<=j02)) (let e:Tn34:=a.2.2.2.2.2.2++g
 (j1R (a.2.1,a.2.2.1,a.2.2.2.1,[(a.2.2.2.2.1,a.2.2.2.2.2.1,e)])).bind λf=>cond (f != 0) (M ((([]:Tn59),([]:Tn53),([]:Tn30),([]:Tn70)),f)) (M ((a.2.1,a.2.2.1,a.2.2.2.1,[(a.2.2.2.2.1,a.2.2.2.2.2.1,e)]),0))) Z) Z)
def j4m[LP](b:Tn76)(a c e f:J):O (Tn76×J):=(jbC b a (1,c,0,e,f)).bind λd=>M d
def jbW(a:Tn28)(f c e:J):O Bool:=
 let d:Int:=if c>a.2.2.2.1 then c else a.2.2.2.1
 let b:Int:=if e<a.2.2.2.2 then e else a.2.2.2.2
 M (cond (cond (a.1==0) (a.2.1==f) Á) (N (d<b)) Á)
def j0A(g:Tn34)(i c d j b:J):O ((Tn34×J×J×J×J×J) ⊕ (J ⊕ Ê)):=cond (N (b<j)) (cond (inR b g.length) (let a:=S g b.toNat (0,0,0,0,0)
 (jbW a i c d).bind λf=>cond f (M (.inr (.inl b))) (let e:=w64 (b+1)
 M (.inl (g,i,c,d,j,e)))) Z) (M (.inr (.inr ())))
def j1i[LP]:=lp6 j0A
abbrev j3k:=eq6 j0A j1i
def j2B[LP](c:Tn34)(d b a:J):O Int:=
 let f:=U c.length
 (j1i c d b a f 0).bind λe=>sumC e (λg=>M g) (λi=>M (-1))
def j24[LP](d:Tn34)(c b a:J):O Bool:=(j2B d c b a).bind λe=>M (N (e>=0))
def jaC[LP](d:Tn69)(a b c:J):O Bool:=(j24 d.2.2 a b c).bind λe=>M e
def jbX[LP](c:Tn76)(b d e:J):O (Tn78×J):=(jiL c).bind λa=>cond (!a.2) (M (a.1,8)) (let g:=U c.2.1.length
 cond (cond (N (b<0)) Â (N (b>=g))) (M (a.1,3)) ((ja9 d e).bind λf=>cond (!f) (M (a.1,1)) (M (a.1,0))))
def j3F[LP](p r s:J)(g:Tn70)(o c:J)(q:Tn59)(i:Tn53)(f:Tn30)(k:Tn70)(j:Tn23)(e:Tn2):O ((J×J×J×Tn70×J×J×Tn59×Tn53×Tn30×Tn70×Tn23×Tn2) ⊕ (J ⊕ Tn2)):=cond (N (c<o)) (cond (inR c g.length) (let a:=S g c.toNat (À,[],[])
 (j1N ((q,i,f,k),j) a r s).bind λb=>let l:=U b.length
 cond (N (l>16384)) (M (.inr (.inl 5))) ((j5j b p).bind λd=>cond (N (W e+W d<=j02)) (let n:Tn2:=e++d
 let m:=w64 (c+1)
 M (.inl (p,r,s,g,o,m,q,i,f,k,j,n))) Z)) Z) (M (.inr (.inr e)))
def j8p[LP]:=c8 c4 (LP.lp (u8 unc4 j3F))
abbrev jbY:=eq12 j3F j8p
def j9e[LP](a:Tn78)(b c d:J):O (Tn2×J):=
 let g:=U a.1.2.2.2.length
 (j8p b c d a.1.2.2.2 g 0 a.1.1 a.1.2.1 a.1.2.2.1 a.1.2.2.2 a.2 ([]:Tn2)).bind λi=>sumC i (λk=>M (([]:Tn2),k)) (λj=>(j7H j).bind λe=>let f:=U e.length
 cond (N (f>4096)) (M (([]:Tn2),5)) (M (e,0)))
def j7S(a:J)(d:Tn17)(b:J)(c:Tn17)(k l:J)(j:Tn34):O ((Tn17×Tn17×J×J×J×J×Tn34) ⊕ (Tn34)):=cond (inR a d.length) (let g:=S d a.toNat (0,0,0)
 cond (inR b c.length) (let f:=S c b.toNat (0,0,0)
 cond (N (g.2.1<f.2.1)) (let e:=w64 (a+1)
 M (.inl (d,c,k,l,e,b,j))) (let i:=w64 (b+1)
 M (.inl (d,c,k,l,a,i,j)))) Z) Z
def j9f(e d:Tn17)(u t b a:J)(q:Tn34):O ((Tn17×Tn17×J×J×J×J×Tn34) ⊕ (Tn34)):=
 let r:=U e.length
 let p:=U d.length
 cond (cond (N (b<r)) (N (a<p)) Á) (cond (inR b e.length) (let l:=S e b.toNat (0,0,0)
 cond (inR a d.length) (let j:=S d a.toNat (0,0,0)
 let f:Int:=if j.1>l.1 then j.1 else l.1
 cond (inR b e.length) (let g:=S e b.toNat (0,0,0)
 cond (inR a d.length) (let i:=S d a.toNat (0,0,0)
 let k:Int:=if i.2.1<g.2.1 then i.2.1 else g.2.1
 cond (inR b e.length) (let c:=S e b.toNat (0,0,0)
 cond ((inR a d.length) || !(N (c.2.2>=0))) (let n:=S d a.toNat (0,0,0)
 let o:Bool:=cond (cond (N (c.2.2>=0)) (c.2.2==n.2.2) Á) (N (f<k)) Á
 cond o (let m:Tn34:=[(c.2.2,u,t,f,k)]
 cond (N (W q+W m<=j02)) (let s:Tn34:=q++m
 j7S b e a d u t s) Z) (j7S b e a d u t q)) Z) Z) Z) Z) Z) Z) (M (.inr q))
def jhL[LP]:=lp7 j9f
def jfm[LP](a b:Tn17)(c d:J):O Tn34:=(jhL a b c d 0 0 ([]:Tn34)).bind λe=>M e
def jbZ(a b:Tn28):O Int:=
 let c:=w64 (a.2.2.2.1-b.2.2.2.1)
 M c
def j2r(m q p f:J)(e:Tn34):O ((J×J×J×J×Tn34) ⊕ (J×J×J×Tn34)):=cond (N (f>m)) (cond (inR f e.length) (let b:=S e f.toNat (0,0,0,0,0)
 let i:=w64 (f-1)
 cond (inR i e.length) (let d:=S e i.toNat (0,0,0,0,0)
 (jbZ b d).bind λn=>cond (N (n<0)) (let j:=w64 (f-1)
 let g:=w64 (f-1)
 cond (inR g e.length) (let a:=S e g.toNat (0,0,0,0,0)
 cond (inR f e.length) (let c:=S e f.toNat (0,0,0,0,0)
 cond (inR f e.length) (let k:Tn34:=Ç e f.toNat a
 cond (inR j k.length) (let l:Tn34:=Ç k j.toNat c
 let o:=w64 (f-1)
 M (.inl (m,q,p,o,l))) Z) Z) Z) Z) (M (.inr (m,q,p,e)))) Z) Z) (M (.inr (m,q,p,e)))
def j75[LP]:=lp5 j2r
def j2s[LP](f e c:J)(d:Tn34):O ((J×J×J×Tn34) ⊕ (Tn34)):=cond (N (c<e)) ((j75 f e c c d).bind λa=>let b:=w64 (a.2.2.1+1)
 M (.inl (a.1,a.2.1,b,a.2.2.2))) (M (.inr d))
def j76[LP]:=lp4 j2s
def j25[LP](a:Tn34)(b c:J):O Tn34:=
 let d:=w64 (b+1)
 (j76 b c d a).bind λe=>M e
def j3R[LP](d e g a:J)(f:Tn34):O ((J×J×J×J×Tn34) ⊕ (J×J×J×Tn34)):=cond (N (a<=d)) ((j25 f g a).bind λc=>let b:=w64 (a+e)
 M (.inl (d,e,a,b,c))) (M (.inr (d,e,g,f)))
def j9g[LP]:=lp5 j3R
def j3S(a b c e:J)(f:Tn34):O ((J×J×J×J×Tn34) ⊕ (J×J×J×Tn34)):=cond (N (e<=a)) (let d:=w64 (c+b)
 Z) (M (.inr (a,b,c,f)))
def j9h[LP]:=lp5 j3S
def j3T[LP](f e:J)(g:Tn34):O ((J×J×Tn34) ⊕ (Tn34)):=cond (N (e<f)) (let d:=w64 (2*e)
 (j9h f e 0 d g).bind λa=>let c:=w64 (a.2.2.1+a.2.1)
 cond (N (c<a.1)) (Z) (let b:=w64 (a.2.1*2)
 M (.inl (a.1,b,a.2.2.2)))) (M (.inr g))
def j9i[LP]:=lp3 j3T
def j65[LP](a:Tn34)(c:J):O Tn34:=(j9g c 20 0 20 a).bind λb=>(j25 b.2.2.2 b.2.2.1 b.1).bind λd=>(j9i b.1 b.2.1 d).bind λe=>M e
def j1F[LP](a:Tn34):O Tn34:=
 let b:=U a.length
 (j65 a b).bind λc=>M c
def j2t[LP](o p:J)(e:Tn70)(n c:J)(q:Tn59)(g:Tn53)(j:Tn30)(i:Tn70)(f:Tn23)(d:Tn25):O ((J×J×Tn70×J×J×Tn59×Tn53×Tn30×Tn70×Tn23×Tn25) ⊕ (J ⊕ Tn25)):=cond (N (c<n)) (cond (inR c e.length) (let a:=S e c.toNat (À,[],[])
 (j1N ((q,g,j,i),f) a o p).bind λb=>let k:=U b.length
 cond (N (k>16384)) (M (.inr (.inl 5))) (cond (N (W d+W [b]<=j02)) (let m:Tn25:=d++[b]
 let l:=w64 (c+1)
 M (.inl (o,p,e,n,l,q,g,j,i,f,m))) Z)) Z) (M (.inr (.inr d)))
def j6k[LP]:=c8 c3 (LP.lp (u8 unc3 j2t))
abbrev j9W:=eq11 j2t j6k
def j3U[LP](d b m l:J)(a:Tn25)(e:Tn34):O ((J×J×J×J×Tn25×Tn34) ⊕ (J×J×Tn25×Tn34)):=
 let k:=U a.length
 cond (N (b<k)) (cond (inR d a.length) (let i:=S a d.toNat ([]:Tn17)
 cond (inR b a.length) (let f:=S a b.toNat ([]:Tn17)
 (jfm i f d b).bind λc=>cond (N (W e+W c<=j02)) (let g:Tn34:=e++c
 let j:=w64 (b+1)
 M (.inl (d,j,m,l,a,g))) Z) Z) Z) (M (.inr (m,l,a,e)))
def j8G[LP]:=lp6 j3U
abbrev jeR:=eq6 j3U j8G
def j2u[LP](e b:J)(g:Tn25)(f:Tn34):O ((J×J×Tn25×Tn34) ⊕ (Tn34)):=cond (N (b<e)) (let d:=w64 (b+1)
 (j8G b d e b g f).bind λa=>let c:=w64 (a.2.1+1)
 M (.inl (a.1,c,a.2.2.1,a.2.2.2))) (M (.inr f))
def j6l[LP]:=lp4 j2u
abbrev j9X:=eq4 j2u j6l
def j4R[LP](a:Tn76)(b d:J):O (Tn34×J):=(jiL a).bind λc=>cond (!c.2) (M (([]:Tn34),8)) ((ja9 b d).bind λf=>cond (!f) (M (([]:Tn34),1)) (let i:=U a.2.2.2.length
 (j6k b d a.2.2.2 i 0 c.1.1.1 c.1.1.2.1 c.1.1.2.2.1 c.1.1.2.2.2 c.1.2 ([]:Tn25)).bind λl=>sumC l (λn=>M (([]:Tn34),n)) (λm=>let e:=U m.length
 (j6l e 0 m ([]:Tn34)).bind λg=>let j:=U g.length
 cond (N (j>16384)) (M (([]:Tn34),5)) ((j1F g).bind λk=>M (k,0)))))
def j3G(f n:J)(l:Tn2)(m b:J):O ((J×J×Tn2×J×J) ⊕ (J)):=cond (N (b<m)) (cond (inR b l.length) (let a:=S l b.toNat (0,0)
 let e:Int:=if f<a.2 then f else a.2
 let c:=w64 (f-604800)
 let g:Int:=if c>a.1 then c else a.1
 let d:=w64 (e-g)
 let k:Int:=if d>0 then d else 0
 let i:=w64 (n+k)
 let j:=w64 (b+1)
 M (.inl (f,i,l,m,j))) Z) (M (.inr n))
def jaX[LP]:=lp5 j3G
abbrev jc0:=eq5 j3G jaX
def j9j[LP](a:Tn2)(b:J):O Int:=
 let c:=U a.length
 (jaX b 0 a c 0).bind λd=>M d
def j4c(m:Tn2)(l n o:J)(d:Tn2)(j b:J)(k:Y J):O ((Tn2×J×J×J×Tn2×J×J×(Y J)) ⊕ (Tn2×J×J×J×(Y J))):=cond (N (b<j)) (cond (inR b d.length) (let a:=S d b.toNat (0,0)
 let g:=w64 (a.1+604800)
 let f:=w64 (a.2+604800)
 let c:Y Int:=[a.1,a.2,g,f]
 cond (N (W k+W c<=j02)) (let i:Y Int:=k++c
 let e:=w64 (b+1)
 M (.inl (m,l,n,o,d,j,e,i))) Z) Z) (M (.inr (m,l,n,o,k)))
def j9k[LP]:=lp8 j4c
abbrev jcR:=eq8 j4c j9k
def j4d[LP](j:Tn2)(i q g b:J)(d c:Y J):O ((Tn2×J×J×J×J×(Y J)×(Y J)) ⊕ (Y J)):=cond (N (b<g)) (cond (inR b c.length) (let a:=S c b.toNat 0
 (j9j j q).bind λe=>(j9j j a).bind λp=>cond (cond (N (e<=i)) (N (p>i)) Á) (let k:=w64 (q+i)
 let l:=w64 (k-e)
 let f:=w64 (l+1)
 cond (N (W d+W [f]<=j02)) (let n:Y Int:=d++[f]
 let o:=w64 (b+1)
 M (.inl (j,i,a,g,o,n,c))) Z) (let m:=w64 (b+1)
 M (.inl (j,i,a,g,m,d,c)))) Z) (M (.inr d))
def j9l[LP]:=lp7 j4d
abbrev jcS:=eq7 j4d j9l
def jcT[LP](a:Tn2)(b c e:J):O (Y J):=
 let i:=U a.length
 (j9k a b c e a i 0 ([]:(Y J))).bind λd=>(jfe d.2.2.2.2 d.2.2.1 d.2.2.2.1).bind λf=>let g:=U f.length
 (j9l d.1 d.2.1 d.2.2.1 g 0 ([]:(Y J)) f).bind λj=>M j
def j2X(a:Tn2)(m b:J)(e:Y J):O ((Tn2×J×J×(Y J)) ⊕ (Y J)):=
 let n:=U a.length
 cond (N (b<n)) (cond (inR b a.length) (let i:=S a b.toNat (0,0)
 let c:=w64 (b-1)
 cond (inR c a.length) (let j:=S a c.toNat (0,0)
 let l:=w64 (i.1-j.2)
 cond (N (l<m)) (cond (inR b a.length) (let d:=S a b.toNat (0,0)
 cond (N (W e+W [d.1]<=j02)) (let g:Y Int:=e++[d.1]
 let k:=w64 (b+1)
 M (.inl (a,m,k,g))) Z) Z) (let f:=w64 (b+1)
 M (.inl (a,m,f,e)))) Z) Z) (M (.inr e))
def jc1[LP]:=lp4 j2X
abbrev j9m:=eq4 j2X jc1
def jcU[LP](b:Tn2)(a:J):O (Y J):=(jc1 b a 1 ([]:(Y J))).bind λc=>M c
def j7o(a:Tn78)(b:J):O Tn15:=cond (inR b a.2.length) (let c:=S a.2 b.toNat (0,[])
 M c) Z
def j3H(f:Tn2)(g b:J)(e:Y J):O ((Tn2×J×J×(Y J)) ⊕ (Y J)):=cond (N (b<g)) (cond (inR b f.length) (let a:=S f b.toNat (0,0)
 cond (N (W e+W [a.1]<=j02)) (let c:Y Int:=e++[a.1]
 let d:=w64 (b+1)
 M (.inl (f,g,d,c))) Z) Z) (M (.inr e))
def j8q[LP]:=lp4 j3H
abbrev jc2:=eq4 j3H j8q
def jbl[LP](a:Tn2):O (Y J):=
 let c:=U a.length
 (j8q a c 0 ([]:(Y J))).bind λb=>M b
def j4r(a b:Tn4):O Int:=cond (a.2.2 != b.2.2) (let d:=w64 (a.2.2-b.2.2)
 M d) (cond (a.1 != b.1) (let c:=w64 (a.1-b.1)
 M c) (let e:=w64 (a.2.1-b.2.1)
 M e))
def j0l(a:Tn17):O Tn17:=
 jlQ (.pair (.int .i64) (.pair (.int .i64) (.int .i64))) (λc b=>(j4r c b).getD 0) a
def j0j(i b f:J)(a:Tn17):O ((J×J×J×Tn17) ⊕ (J×Tn17)):=
 let m:=U (W a-b.toNat)
 cond (N (f<m)) (cond (inR f (W a-b.toNat)) (let d:=S a (b.toNat+f.toNat) (0,0,0)
 let g:=w64 (f-1)
 cond (inR g (W a-b.toNat)) (let e:=S a (b.toNat+g.toNat) (0,0,0)
 cond (!((d.1==e.1)&&((d.2.1==e.2.1)&&(d.2.2==e.2.2)))) (cond (inR f (W a-b.toNat)) (let c:=S a (b.toNat+f.toNat) (0,0,0)
 cond (inR i a.length) (let n:Tn17:=Ç a i.toNat c
 let l:=w64 (i+1)
 let k:=w64 (f+1)
 M (.inl (l,(U b.toNat),k,n))) Z) Z) (let j:=w64 (f+1)
 M (.inl (i,(U b.toNat),j,a)))) Z) Z) (M (.inr (i,a)))
def j0K[LP]:=lp4 j0j
abbrev j2a:=eq4 j0j j0K
def j0k[LP](d:J)(c:Tn17):O ((J×Tn17) ⊕ ((J×Tn17) ⊕ Tn17)):=
 let j:=U c.length
 cond (N (d<j)) (cond (inR d c.length) (let b:=S c d.toNat (0,0,0)
 let f:=w64 (d-1)
 cond (inR f c.length) (let e:=S c f.toNat (0,0,0)
 cond ((b.1==e.1)&&((b.2.1==e.2.1)&&(b.2.2==e.2.2))) (cond (N (0<=d)&&N (d<=(U c.length))) ((j0K d (U d.toNat) 1 c).bind λa=>cond (N (0<=a.1)&&N (a.1<=(U a.2.length))) (let g:Tn17:=Ë a.1.toNat a.2++Ì (W a.2-a.1.toNat) (0,0,0)
 cond (N (0<=a.1)&&N (a.1<=(U g.length))) (M (.inr (.inl ((U a.1.toNat),g)))) Z) Z) Z) (let i:=w64 (d+1)
 M (.inl (i,c)))) Z) Z) (M (.inr (.inr c)))
def j0c[LP]:=lp2 j0k
theorem j2b(b a):j0c b a=lpK (j0k b a) (λh=>j0c h.1 h.2):=j0d _ _
def j0B[LP](a:Tn17):O (J×Tn17):=
 let c:=U a.length
 cond (N (c<2)) (M ((U a.length),a)) ((j0c 1 a).bind λb=>sumC b (λe=>M ((U e.1.toNat),e.2)) (λd=>M ((U d.length),d)))
def j2d(n j b:J)(c:Tn34)(f e d a:Y J):O ((J×J×J×Tn34×(Y J)×(Y J)×(Y J)×(Y J)) ⊕ (J×(Y J)×(Y J)×(Y J)×(Y J))):=cond (N (b<j)) (cond (inR b c.length) (let g:=S c b.toNat (0,0,0,0,0)
 cond (g.1==n) (let i:Y Int:=[g.2.2.2.1]
 cond (N (W a+W i<=j02)) (let l:Y Int:=a++i
 let k:=w64 (b+1)
 M (.inl (n,j,k,c,f,e,d,l))) Z) (let m:=w64 (b+1)
 M (.inl (n,j,m,c,f,e,d,a)))) Z) (M (.inr (n,f,e,d,a)))
def j4e[LP]:=lp8 j2d
abbrev j9n:=eq8 j2d j4e
def j2e(m l:J)(f:Y (Y J))(g:J)(c:Y J)(i a:J)(d:Tn17):O ((J×J×(Y (Y J))×J×(Y J)×J×J×Tn17) ⊕ (J×(Y (Y J))×J×Tn17)):=cond (N (a<i)) (cond (inR a c.length) (let e:=S c a.toNat 0
 let b:Tn17:=[(l,m,e)]
 cond (N (W d+W b<=j02)) (let k:Tn17:=d++b
 let j:=w64 (a+1)
 M (.inl (m,l,f,g,c,i,j,k))) Z) Z) (M (.inr (m,f,g,d)))
def j26[LP]:=lp8 j2e
abbrev j9o:=eq8 j2e j26
def j0R[LP](i:J)(e:Y (Y J))(a:J)(g:Tn17):O ((J×(Y (Y J))×J×Tn17) ⊕ (Tn17)):=cond (N (a<4)) (cond (inR a 4) (let c:=S e a.toNat ([]:(Y J))
 let f:=U c.length
 (j26 i a e a c f 0 g).bind λb=>let d:=w64 (b.2.2.1+1)
 M (.inl (b.1,b.2.1,d,b.2.2.2))) Z) (M (.inr g))
def j5t[LP]:=lp4 j0R
abbrev j2M:=eq4 j0R j5t
def j5N[LP](j:Tn34×J)(c:J)(n l m:Y J):O (Tn17×J):=
 let f:=U j.1.length
 (j4e c f 0 j.1 n l m ([]:(Y J))).bind λa=>let i:(Y (Y J)):=[a.2.1,a.2.2.1,a.2.2.2.1,a.2.2.2.2]
 (j5t a.1 i 0 ([]:Tn17)).bind λk=>(j0l k).bind λe=>(j0B e).bind λb=>let d:Tn17:=Ë b.1.toNat b.2
 let g:=U d.length
 cond (N (g>16384)) (M (([]:Tn17),5)) (M (d,0))
def j7W[LP](f:Tn49)(b:Tn78×J)(e k:J)(m:Tn2×J)(l:Tn34×J)(a:J)(o n:Y J):O (Tn17×J):=cond (!f.2.2.2.2.2) ((j7o b.1 f.2.1).bind λc=>(j30 c f.2.2.1 e k).bind λj=>(j8F m.1 j).bind λd=>let g:=U d.length
 cond (N (g>4096)) (M (([]:Tn17),5)) ((jbl d).bind λi=>j5N l a o n i)) (j5N l a o n ([]:(Y J)))
def j7X[LP](c:Tn49)(e:Tn2×J)(g:Tn78×J)(b d:J)(i:Tn34×J)(a:J)(j:Y J):O (Tn17×J):=cond (c.2.2.2.2.1 != 0) ((jcU e.1 c.2.2.2.2.1).bind λf=>j7W c g b d e i a j f) (j7W c g b d e i a j ([]:(Y J)))
def j3i[LP](c:Tn76)(a b d:J):O (Tn17×J):=(jbX c a b d).bind λe=>cond (e.2 != 0) (M (([]:Tn17),e.2)) ((j9e e.1 a b d).bind λf=>cond (f.2 != 0) (M (([]:Tn17),f.2)) ((j4R c b d).bind λi=>cond (i.2 != 0) (M (([]:Tn17),i.2)) (cond (inR a c.2.1.length) (let g:=S c.2.1 a.toNat (À,0,[],0,0,Á)
 cond (g.2.2.2.1 != 0) ((jcT f.1 g.2.2.2.1 b d).bind λj=>j7X g f e b d i a j) (j7X g f e b d i a ([]:(Y J)))) Z)))
def j0n(f:Tn17)(i b g d c:J):O ((Tn17×J×J×J×J×J) ⊕ (J ⊕ Ê)):=cond (N (b<i)) (cond (inR b f.length) (let a:=S f b.toNat (0,0,0)
 cond ((g==a.1)&&((d==a.2.1)&&(c==a.2.2))) (M (.inr (.inl b))) (let e:=w64 (b+1)
 M (.inl (f,i,e,g,d,c)))) Z) (M (.inr (.inr ())))
def j0P[LP]:=lp6 j0n
abbrev j2j:=eq6 j0n j0P
def j1J[LP](b:Tn17)(a:Tn4):O Int:=
 let d:=U b.length
 (j0P b d 0 a.1 a.2.1 a.2.2).bind λc=>sumC c (λe=>M e) (λf=>M (-1))
def j1w[LP](b:Tn17)(a:Tn4):O Bool:=(j1J b a).bind λc=>M (N (c>=0))
def j85[LP](a:Tn4)(c:Tn17):O Bool:=(j1w c a).bind λb=>M (!b)
def j0e[LP](e f:Tn17)(g b:J):O ((Tn17×Tn17×J×J) ⊕ (J ⊕ Ê)):=cond (N (b<g)) (cond (inR b e.length) (let a:=S e b.toNat (0,0,0)
 (j85 a f).bind λd=>cond d (M (.inr (.inl b))) (let c:=w64 (b+1)
 M (.inl (e,f,g,c)))) Z) (M (.inr (.inr ())))
def j0G[LP]:=lp4 j0e
abbrev j1P:=eq4 j0e j0G
def j1n[LP](a b:Tn17):O Int:=
 let d:=U a.length
 (j0G a b d 0).bind λc=>sumC c (λe=>M e) (λf=>M (-1))
def j0H[LP](a b:Tn17):O Bool:=(j1n a b).bind λc=>M (N (c>=0))
def j5k[LP](b:Tn76)(c a d f:J):O Bool:=cond (N (a<0)) (M Á) ((j4m b c a d f).bind λe=>cond ((inR c b.2.2.2.length) || !(!(e.2 != 0))) (let g:=S b.2.2.2 c.toNat (À,[],[])
 cond (e.2 != 0) (M Á) ((jaC g a d f).bind λo=>cond o (M Á) (let l:=w64 (d-604800)
 let i:Int:=if l>0 then l else 0
 let n:=w64 (f+604800)
 let m:Int:=if n<8589934592 then n else 8589934592
 (j3i b a i m).bind λj=>(j3i e.1 a i m).bind λk=>cond (cond (j.2 != 0) Â (k.2 != 0)) (M Á) ((j0H k.1 j.1).bind λp=>M (!p))))) Z)
def j7p(a:Tn4)(b:J):O Bool:=M (a.1==b)
def j0C(e:Tn17)(f g b:J):O ((Tn17×J×J×J) ⊕ (J ⊕ Ê)):=cond (N (b<g)) (cond (inR b e.length) (let a:=S e b.toNat (0,0,0)
 (j7p a f).bind λd=>cond d (M (.inr (.inl b))) (let c:=w64 (b+1)
 M (.inl (e,f,g,c)))) Z) (M (.inr (.inr ())))
def j0w[LP]:=lp4 j0C
abbrev j3l:=eq4 j0C j0w
def j2C[LP](a:Tn17)(b:J):O Int:=
 let d:=U a.length
 (j0w a b d 0).bind λc=>sumC c (λe=>M e) (λf=>M (-1))
def j15(a b:J×J):O Int:=cond (a.2 != b.2) (let c:=w64 (a.2-b.2)
 M c) (let d:=w64 (a.1-b.1)
 M d)
def j0f(a:Tn2):O Tn2:=
 jlQ (.pair (.int .i64) (.int .i64)) (λc b=>(j15 c b).getD 0) a
def j1Z[LP](l s o j a:J)(v:Tn59)(d:Tn53)(g:Tn30)(e:Tn70)(c:Tn17)(b:Tn2):O ((J×J×J×J×J×Tn59×Tn53×Tn30×Tn70×Tn17×Tn2) ⊕ (Tn2)):=cond (N (a<j)) ((j5k (v,d,g,e) l a s o).bind λt=>cond (!t) (let u:=w64 (a+1)
 M (.inl (l,s,o,j,u,v,d,g,e,c,b))) ((j2C c a).bind λf=>cond (N (f>=0)) (cond (inR f c.length) (let m:=(S c f.toNat (0,0,0)).2.2
 let i:Tn2:=[(a,m)]
 cond (N (W b+W i<=j02)) (let q:Tn2:=b++i
 let n:=w64 (a+1)
 M (.inl (l,s,o,j,n,v,d,g,e,c,q))) Z) Z) (let k:Tn2:=[(a,0)]
 cond (N (W b+W k<=j02)) (let p:Tn2:=b++k
 let r:=w64 (a+1)
 M (.inl (l,s,o,j,r,v,d,g,e,c,p))) Z))) (M (.inr b))
def j53[LP]:=c8 c3 (LP.lp (u8 unc3 j1Z))
abbrev j8R:=eq11 j1Z j53
def j20(g b:J)(d:Y J)(c:Tn2):O ((J×J×(Y J)×Tn2) ⊕ (Y J)):=cond (N (b<g)) (cond (inR b c.length) (let a:=S c b.toNat (0,0)
 cond (N (W d+W [a.1]<=j02)) (let f:Y Int:=d++[a.1]
 let e:=w64 (b+1)
 M (.inl (g,e,f,c))) Z) Z) (M (.inr d))
def j54[LP]:=lp4 j20
abbrev j8S:=eq4 j20 j54
def j3V[LP](a:Tn76)(b c d e:J)(k:Tn16):O Tn0:=(jed a b c d).bind λg=>cond (g != 0) (M (([]:(Y J)),g)) (let i:=w64 (c-2419200)
 let l:Int:=if i>0 then i else 0
 (jdJ a b l c e k).bind λf=>cond (f.2 != 0) (M (([]:(Y J)),f.2)) (let n:=U a.2.1.length
 (j53 b c d n 0 a.1 a.2.1 a.2.2.1 a.2.2.2 f.1 ([]:Tn2)).bind λo=>(j0f o).bind λj=>let m:=U j.length
 (j54 m 0 ([]:(Y J)) j).bind λp=>M (p,0)))
def j7L[LP](a:Tn76)(b d f g:J)(i:Tn16):O (Tn76×J×J):=(j3V a b d f g i).bind λc=>cond (c.2 != 0) (M ((([]:Tn59),([]:Tn53),([]:Tn30),([]:Tn70)),0,c.2)) (let k:=U c.1.length
 cond (k==0) (M ((([]:Tn59),([]:Tn53),([]:Tn30),([]:Tn70)),0,10)) (cond (inR 0 c.1.length) (let l:=S c.1 0 0
 (j4m a b l d f).bind λe=>cond (e.2 != 0) (M ((([]:Tn59),([]:Tn53),([]:Tn30),([]:Tn70)),0,e.2)) (cond (inR 0 c.1.length) (let j:=S c.1 0 0
 M (e.1,j,0)) Z)) Z))
def jfn[LP](b:Tn76)(a c d f:J):O (Tn2×J):=(j4F b a d f).bind λe=>cond (e.2 != 0) (M (([]:Tn2),e.2)) ((j5j e.1 c).bind λg=>let i:=U g.length
 cond (N (i>4096)) (M (([]:Tn2),5)) (M (g,0)))
def j9p[LP](b:Tn76)(a c d:J):O (Tn2×J):=(jfn b a (-1) c d).bind λe=>M e
def j4f[LP](o p:J)(r:Tn16)(k c:J)(q:Tn59)(e:Tn53)(d:Tn30)(f:Tn70)(i j:Tn2):O ((J×J×Tn16×J×J×Tn59×Tn53×Tn30×Tn70×Tn2×Tn2) ⊕ (Tn59×Tn53×Tn30×Tn70×Tn2)):=cond (N (c<k)) (cond (inR c j.length) (let b:=S j c.toNat (0,0)
 (j7L (q,e,d,f) o b.1 b.2 p r).bind λa=>cond (a.2.2 != 0) (let g:Tn2:=[b]
 cond (N (W i+W g<=j02)) (let l:Tn2:=i++g
 let m:=w64 (c+1)
 M (.inl (o,p,r,k,m,q,e,d,f,l,j))) Z) (let n:=w64 (c+1)
 M (.inl (o,p,r,k,n,a.1.1,a.1.2.1,a.1.2.2.1,a.1.2.2.2,i,j)))) Z) (M (.inr (q,e,d,f,i)))
def j9q[LP]:=c8 c3 (LP.lp (u8 unc3 j4f))
abbrev jcV:=eq11 j4f j9q
def jcW[LP](a:Tn76)(b d f e:J)(i:Tn16):O (Tn76×Tn2×J):=(j3V a b d f e i).bind λk=>cond (k.2 != 0) (M ((([]:Tn59),([]:Tn53),([]:Tn30),([]:Tn70)),([]:Tn2),k.2)) ((j9p a b d f).bind λg=>cond (g.2 != 0) (M ((([]:Tn59),([]:Tn53),([]:Tn30),([]:Tn70)),([]:Tn2),g.2)) ((jfl a).bind λc=>let l:=U g.1.length
 (j9q b e i l 0 c.1 c.2.1 c.2.2.1 [c.2.2.2] ([]:Tn2) g.1).bind λj=>M ((j.1,j.2.1,j.2.2.1,j.2.2.2.1),j.2.2.2.2,0)))
def jkX(a:J):O Bool:=M (cond (N (a>=48)) (N (a<=57)) Á)
def j6A(a:X)(b:J):O ((X×J) ⊕ (Æ ⊕ Ê)):=
 let l:=U (Å a)
 cond (N (b<l)) (cond (inR b (Å a)) (let d:=j39 a b
 cond ((inR b (Å a)) || !(!(N (d<97)))) (let e:=j39 a b
 cond ((inR b (Å a)) || !(cond (N (d<97)) Â (N (e>122)))) (let k:=j39 a b
 cond (cond (N (d<97)) Â (N (e>122))) ((jkX k).bind λc=>cond ((inR b (Å a)) || !(!c)) (let f:=j39 a b
 cond ((inR b (Å a)) || !(cond (!c) (f != 95) Á)) (let g:=j39 a b
 cond (cond (cond (!c) (f != 95) Á) (g != 45) Á) (M (.inr (.inl Á))) (let j:=w64 (b+1)
 M (.inl (a,j)))) Z) Z) (cond ((inR b (Å a)) || !Á) (let n:=j39 a b
 cond ((inR b (Å a)) || !Á) (let m:=j39 a b
 let i:=w64 (b+1)
 M (.inl (a,i))) Z) Z)) Z) Z) Z) (M (.inr (.inr ())))
def jc3[LP]:=lp2 j6A
abbrev jgo:=eq2 j6A jc3
def jjX[LP](a:X):O Bool:=
 let c:=U (Å a)
 let f:=U (Å a)
 cond ((inR 0 (Å a)) || !(!(cond (N (c<1)) Â (N (f>24))))) (let d:=j39 a 0
 let b:Bool:=cond (cond (N (c<1)) Â (N (f>24))) Â (N (d<97))
 cond ((inR 0 (Å a)) || !(!b)) (let e:=j39 a 0
 cond (cond b Â (N (e>122))) (M Á) ((jc3 a 0).bind λg=>sumC g (λi=>M i) (λj=>M Â))) Z) Z
def j6B(a:Y X)(b f:J):O (((Y X)×J×J) ⊕ (J ⊕ Ê)):=cond (N (f<b)) (cond (inR f a.length) (let d:=S a f.toNat À
 cond (inR b a.length) (let e:=S a b.toNat À
 cond (È d==È e) (M (.inr (.inl 4))) (let c:=w64 (f+1)
 M (.inl (a,b,c)))) Z) Z) (M (.inr (.inr ())))
def jef[LP]:=lp3 j6B
abbrev jgp:=eq3 j6B jef
def jbm[LP](b:Y X)(a:J):O Int:=cond (inR a b.length) (let d:=S b a.toNat À
 (jjX d).bind λc=>cond (!c) (M 2) ((jef b a 0).bind λe=>sumC e (λf=>M f) (λg=>M 0))) Z
def j9r(a b c:J):O Bool:=M (cond (N (a>=b)) (N (a<=c)) Á)
def jfo(a:Tn43):O Bool:=(j9r a.1 1970 2240).bind λi=>cond i ((j9r a.2.1 a.1 2240).bind λc=>cond c ((j9r a.2.2.1 1 12).bind λb=>cond b ((j9r a.2.2.2.1 1 5).bind λe=>cond e ((j9r a.2.2.2.2.1 0 6).bind λd=>cond d ((j9r a.2.2.2.2.2.1 0 86399).bind λf=>cond f ((j9r a.2.2.2.2.2.2 (-64800) 64800).bind λg=>M g) (M Á)) (M Á)) (M Á)) (M Á)) (M Á)) (M Á)
def jjY(a:J):O Bool:=
 let d:=Ä a 4
 let c:=Ä a 100
 let b:=Ä a 400
 M (cond (d==0) (cond (c != 0) Â (b==0)) Á)
def j7q(a b d:J):O Int:=cond (a==d) (M 30) (cond (a==2) ((jjY b).bind λc=>cond c (M 29) (M 28)) (M 0))
def j7r(a b c:J):O Int:=cond (a==c) (M 31) (cond (a==4) (j7q a b 4) (cond (a==6) (j7q a b 6) (cond (a==9) (j7q a b 9) (j7q a b 11))))
def jeg(b a:J):O Int:=cond (a==1) (j7r a b 1) (cond (a==3) (j7r a b 3) (cond (a==5) (j7r a b 5) (cond (a==7) (j7r a b 7) (cond (a==8) (j7r a b 8) (cond (a==10) (j7r a b 10) (j7r a b 12))))))
def jhM(a:Tn4):O Bool:=cond (N (a.1>=1970)) (cond (N (a.1<=2240)) (cond (N (a.2.1>=1)) (cond (N (a.2.1<=12)) (cond (N (a.2.2>=1)) ((jeg a.1 a.2.1).bind λb=>M (N (a.2.2<=b))) (M Á)) (M Á)) (M Á)) (M Á)) (M Á)
def jhN(a:J):O Int:=
 let j:=w64 (a-1970)
 let i:=w64 (j*365)
 let l:=w64 (a-1969)
 let k:=w64 (É l 4)
 let m:=w64 (i+k)
 let b:=w64 (a-1901)
 let e:=w64 (É b 100)
 let g:=w64 (m-e)
 let f:=w64 (a-1601)
 let d:=w64 (É f 400)
 let c:=w64 (g+d)
 M c
def j7s(i f g a b:J):O ((J×J×J×J×J) ⊕ (J×J×J×J)):=cond (N (f<a)) ((jeg g f).bind λc=>let d:=w64 (i+c)
 let e:=w64 (f+1)
 M (.inl (d,e,g,a,b))) (M (.inr (i,g,a,b)))
def jiN[LP]:=lp5 j7s
abbrev jhO:=eq5 j7s jiN
def jnE[LP](a:Tn4):O (J×J):=(jhM a).bind λf=>cond (!f) (M (0,1)) ((jhN a.1).bind λb=>(jiN b 1 a.1 a.2.1 a.2.2).bind λc=>let d:=w64 (c.1+c.2.2.2)
 let e:=w64 (d-1)
 M (e,0))
def jc4(a:J):O Int:=
 let d:=Ä a 7
 let b:=w64 (d+10)
 let c:=Ä b 7
 M c
def j7t(f e g i d a:J):O ((J×J×J×J×J×J) ⊕ (J×J×J×J×J)):=(jc4 a).bind λb=>cond (b != i) (let c:=w64 (a+1)
 M (.inl (f,e,g,i,d,c))) (M (.inr (f,e,g,d,a)))
def jiO[LP]:=lp6 j7t
abbrev jhP:=eq6 j7t jiO
def j7u(i g f a:J):O ((J×J×J×J) ⊕ (J)):=
 let d:=w64 (a+7)
 (jeg i g).bind λe=>let c:=w64 (f+e)
 cond (N (d<c)) (let b:=w64 (a+7)
 M (.inl (i,g,f,b))) (M (.inr a))
def jiP[LP]:=lp4 j7u
abbrev jhQ:=eq4 j7u jiP
def jnF[LP](e c b a:J):O (J×J):=(jnE (e,c,1)).bind λf=>let j:Bool:=cond (cond (f.2 != 0) Â (N (b<1))) Â (N (b>5))
 let g:Bool:=cond (cond j Â (N (a<0))) Â (N (a>6))
 cond g (M (0,1)) ((jiO e c b a f.1 f.1).bind λd=>cond (N (d.2.2.1<5)) (let l:=w64 (d.2.2.1-1)
 let k:=w64 (7*l)
 let i:=w64 (d.2.2.2.2+k)
 M (i,0)) ((jiP d.1 d.2.1 d.2.2.2.1 d.2.2.2.2).bind λm=>M (m,0)))
def j4n(i:Tn47)(j k d f a:J)(c:Tn2):O ((Tn47×J×J×J×J×J×Tn2) ⊕ (Tn47×J×J×J×J×J×Tn2)):=cond (N (d>0)) (let b:=w64 (d-1)
 cond (inR b c.length) (let g:=(S c b.toNat (0,0)).1
 cond (N (g>f)) (let e:=w64 (d-1)
 M (.inl (i,j,k,e,f,a,c))) (M (.inr (i,j,k,d,f,a,c)))) Z) (M (.inr (i,j,k,d,f,a,c)))
def j72[LP]:=lp7 j4n
abbrev jaD:=eq7 j4n j72
def j2N[LP](d:Tn47)(c v:J)(t:Tn2):O ((Tn47×J×J×Tn2) ⊕ (Tn47×J×Tn2)):=cond (inR c d.length) (let l:=S d c.toNat (0,0,0,0,0,0,0)
 cond (N (v<=l.2.1)) (cond (inR c d.length) (let s:=S d c.toNat (0,0,0,0,0,0,0)
 cond (inR c d.length) (let p:=S d c.toNat (0,0,0,0,0,0,0)
 cond (inR c d.length) (let j:=S d c.toNat (0,0,0,0,0,0,0)
 (jnF v s.2.2.1 p.2.2.2.1 j.2.2.2.2.1).bind λk=>let o:=w64 (k.1*86400)
 cond (inR c d.length) (let m:=S d c.toNat (0,0,0,0,0,0,0)
 let r:=w64 (o+m.2.2.2.2.2.1)
 cond (inR c d.length) (let n:=S d c.toNat (0,0,0,0,0,0,0)
 let i:=U t.length
 (j72 d c v i r n.2.2.2.2.2.2 t).bind λa=>let f:Tn2:=[(a.2.2.2.2.1,a.2.2.2.2.2.1)]
 cond (N (W a.2.2.2.2.2.2+W f<=j02)) (let b:Tn2:=a.2.2.2.2.2.2++f
 let e:=w64 (a.2.2.2.1+1)
 cond (N (0<=e)&&N (e<=(U b.length))) (cond (N (0<=a.2.2.2.1)&&N (a.2.2.2.1<=(U b.length))) (let g:Tn2:=over b e.toNat (Í a.2.2.2.1.toNat b)
 let w:=U (min (W (Í a.2.2.2.1.toNat b)) (W b-e.toNat))
 cond (inR a.2.2.2.1 g.length) (let u:Tn2:=Ç g a.2.2.2.1.toNat (a.2.2.2.2.1,a.2.2.2.2.2.1)
 let q:=w64 (a.2.2.1+1)
 M (.inl (a.1,a.2.1,q,u))) Z) Z) Z) Z) Z) Z) Z) Z) Z) (M (.inr (d,c,t)))) Z
def j9s[LP]:=lp4 j2N
abbrev jaE:=eq4 j2N j9s
def j2O[LP](b:Tn47)(c:J)(g:Tn2):O ((Tn47×J×Tn2) ⊕ (Tn2)):=
 let f:=U b.length
 cond (N (c<f)) (cond (inR c b.length) (let d:=S b c.toNat (0,0,0,0,0,0,0)
 (j9s b c d.1 g).bind λa=>let e:=w64 (a.2.1+1)
 M (.inl (a.1,e,a.2.2))) Z) (M (.inr g))
def j73[LP]:=lp3 j2O
abbrev jaF:=eq3 j2O j73
def j9t[LP](a:Tn47):O Tn2:=(j73 a 0 ([]:Tn2)).bind λb=>M b
def j2P(n c:J)(o:X)(d:J)(b:Tn47):O ((J×J×X×J×Tn47) ⊕ (J ⊕ (J×X×J×Tn47))):=
 let l:=U b.length
 cond (N (c<l)) (cond (inR c b.length) (let a:=S b c.toNat (0,0,0,0,0,0,0)
 (jfo a).bind λg=>cond (!g) (M (.inr (.inl 1))) (cond (inR c b.length) (let i:=S b c.toNat (0,0,0,0,0,0,0)
 cond (inR c b.length) (let m:=S b c.toNat (0,0,0,0,0,0,0)
 let f:=w64 (i.2.1-m.1)
 let e:=w64 (f+1)
 let j:=w64 (n+e)
 let k:=w64 (c+1)
 M (.inl (j,k,o,d,b))) Z) Z)) Z) (M (.inr (.inr (n,o,d,b))))
def j55[LP]:=lp5 j2P
theorem jaG(c d e a b):j55 c d e a b=lpK (j2P c d e a b) (λh=>j55 h.1 h.2.1 h.2.2.1 h.2.2.2.1 h.2.2.2.2):=j0d _ _
def j2Q(v d:J)(e c:Tn2):O ((J×J×Tn2×Tn2) ⊕ (J ⊕ Tn2)):=
 let o:=U c.length
 cond (N (d<o)) (cond (inR d c.length) (let p:=(S c d.toNat (0,0)).2
 cond (p==v) (let y:=w64 (d+1)
 M (.inl (v,y,e,c))) (cond (inR d c.length) (let q:=(S c d.toNat (0,0)).1
 let b:=w64 (q-v)
 cond (inR d c.length) (let a:=(S c d.toNat (0,0)).2
 let w:=w64 (a-v)
 (j9r w (-86399) 86399).bind λt=>cond (!t) (M (.inr (.inl 6))) ((j9r b 0 8589934592).bind λu=>cond (!u) (M (.inr (.inl 6))) (let s:=U e.length
 cond (N (s>0)) (let k:=U e.length
 let g:=w64 (k-1)
 cond (inR g e.length) (let m:=(S e g.toNat (0,0)).1
 let l:=w64 (b-m)
 cond (N (l<604800)) (M (.inr (.inl 6))) (let f:Tn2:=[(b,a)]
 cond (N (W e+W f<=j02)) (let n:Tn2:=e++f
 let x:=w64 (d+1)
 M (.inl (a,x,n,c))) Z)) Z) (let i:Tn2:=[(b,a)]
 cond (N (W e+W i<=j02)) (let j:Tn2:=e++i
 let r:=w64 (d+1)
 M (.inl (a,r,j,c))) Z)))) Z) Z)) Z) (M (.inr (.inr e)))
def j56[LP]:=lp4 j2Q
theorem jaH(a c d b):j56 a c d b=lpK (j2Q a c d b) (λh=>j56 h.1 h.2.1 h.2.2.1 h.2.2.2):=j0d _ _
def j0q[LP](a:Tn57):O (Tn2×J):=(j9r a.2.1 (-64800) 64800).bind λe=>cond (!e) (M (([]:Tn2),1)) (let c:=U a.2.2.length
 cond (N (c>16)) (M (([]:Tn2),5)) ((j55 0 0 a.1 a.2.1 a.2.2).bind λi=>sumC i (λk=>M (([]:Tn2),k)) (λg=>cond (N (g.1>640)) (M (([]:Tn2),5)) ((j9t g.2.2.2).bind λb=>(j56 g.2.2.1 0 ([]:Tn2) b).bind λj=>sumC j (λd=>M (([]:Tn2),d)) (λf=>M (f,0))))))
def j7v[LP](a:Tn57):O Int:=(j0q a).bind λb=>M b.2
def j4H(i:Æ)(d:J)(j:X)(g:J)(a:Tn47):O ((Æ×J×X×J×Tn47) ⊕ (Æ)):=
 let e:=U a.length
 cond (N (d<e)) (cond ((inR d a.length) || !i) (let c:=S a d.toNat (0,0,0,0,0,0,0)
 let f:=Ä c.2.2.2.2.2.2 60
 let b:=w64 (d+1)
 M (.inl ((cond i (f==0) Á),b,j,g,a))) Z) (M (.inr i))
def jam[LP]:=lp5 j4H
abbrev jdK:=eq5 j4H jam
def jc5[LP](a:Tn57):O Bool:=
 let c:=Ä a.2.1 60
 (jam (c==0) 0 a.1 a.2.1 a.2.2).bind λb=>M b
def j5O[LP](a:J)(d:Tn59)(m:Tn53)(n:Tn30)(l:Tn70)(p:Y X):O ((J×Tn59×Tn53×Tn30×Tn70×(Y X)) ⊕ (J ⊕ Ê)):=
 let o:=U d.length
 cond (N (a<o)) (cond (inR a d.length) (let i:=S d a.toNat (À,0,[])
 cond (N (W p+W [i.1]<=j02)) (let g:Y ByteArray:=p++[i.1]
 (jbm g a).bind λe=>cond (e != 0) (M (.inr (.inl e))) (cond (inR a d.length) (let b:=S d a.toNat (À,0,[])
 (j7v b).bind λf=>cond ((inR a d.length) || !(!(f != 0))) (let c:=S d a.toNat (À,0,[])
 cond (f != 0) (M (.inr (.inl 8))) ((jc5 c).bind λk=>cond (!k) (M (.inr (.inl 8))) (let j:=w64 (a+1)
 M (.inl (j,d,m,n,l,g))))) Z) Z)) Z) Z) (M (.inr (.inr ())))
def jcX[LP]:=lp6 j5O
abbrev jfp:=eq6 j5O jcX
def jkY[LP](a:Tn76):O Int:=(jcX 0 a.1 a.2.1 a.2.2.1 a.2.2.2 ([]:(Y X))).bind λb=>sumC b (λc=>M c) (λd=>M 0)
def j86(a b c:J):O Bool:=M (cond (N (a>=b)) (N (a<=c)) Á)
def j5P(a:Tn2)(b:J):O ((Tn2×J) ⊕ (J ⊕ Ê)):=
 let m:=U a.length
 cond (N (b<m)) (cond (inR b a.length) (let j:=S a b.toNat (0,0)
 cond (N (j.1<0)) (M (.inr (.inl 1))) (cond (inR b a.length) (let k:=S a b.toNat (0,0)
 cond (inR b a.length) (let e:=S a b.toNat (0,0)
 cond (N (k.1>=e.2)) (M (.inr (.inl 1))) (cond (inR b a.length) (let l:=S a b.toNat (0,0)
 cond (N (l.2>604800)) (M (.inr (.inl 1))) (cond (N (b>0)) (cond (inR b a.length) (let g:=S a b.toNat (0,0)
 let c:=w64 (b-1)
 cond (inR c a.length) (let d:=S a c.toNat (0,0)
 cond (N (g.1<d.2)) (M (.inr (.inl 6))) (let i:=w64 (b+1)
 M (.inl (a,i)))) Z) Z) (let f:=w64 (b+1)
 M (.inl (a,f))))) Z)) Z) Z)) Z) (M (.inr (.inr ())))
def jcY[LP]:=lp2 j5P
abbrev jfq:=eq2 j5P jcY
def jaI[LP](a:Tn2):O Int:=
 let b:=U a.length
 cond (N (b>14)) (M 5) ((jcY a 0).bind λc=>sumC c (λd=>M d) (λe=>M 0))
def jhR(a:J):O Bool:=(j86 a 0 604800).bind λb=>let c:=Ä a 3600
 M (cond b (c==0) Á)
def j57[LP](e:J)(s:Tn59)(b:Tn53)(q:Tn30)(p:Tn70)(r:Y X):O ((J×Tn59×Tn53×Tn30×Tn70×(Y X)) ⊕ (J ⊕ Ê)):=
 let l:=U b.length
 cond (N (e<l)) (cond (inR e b.length) (let a:=S b e.toNat (À,0,[],0,0,Á)
 cond (N (W r+W [a.1]<=j02)) (let c:Y ByteArray:=r++[a.1]
 let k:Bool:=È a.1==È (Ã #[110,111,98,111,100,121])
 cond k (M (.inr (.inl 2))) ((jbm c e).bind λd=>cond (d != 0) (M (.inr (.inl d))) (let g:=U s.length
 let n:=w64 (g-1)
 (j86 a.2.1 0 n).bind λi=>cond (!i) (M (.inr (.inl 3))) ((jaI a.2.2.1).bind λj=>cond (j != 0) (M (.inr (.inl 8))) ((jhR a.2.2.2.1).bind λm=>cond (!m) (M (.inr (.inl 1))) ((jhR a.2.2.2.2.1).bind λo=>cond (!o) (M (.inr (.inl 1))) (let f:=w64 (e+1)
 M (.inl (f,s,b,q,p,c))))))))) Z) Z) (M (.inr (.inr ())))
def jbn[LP]:=lp6 j57
abbrev jeL:=eq6 j57 jbn
def jiQ[LP](a:Tn76):O Int:=(jbn 0 a.1 a.2.1 a.2.2.1 a.2.2.2 ([]:(Y X))).bind λb=>sumC b (λc=>M c) (λd=>M 0)
def jdL  : O Int:=(jhN 2241).bind λb=>let a:=w64 (b-1)
 M a
def j3I(o l:J)(p:Tn59)(d:Tn53)(e:Tn30)(b:Tn70)(m:X)(c:J)(a:Y J)(n:Y X):O ((J×J×Tn59×Tn53×Tn30×Tn70×X×J×(Y J)×(Y X)) ⊕ (J ⊕ (J×Tn59×Tn53×Tn30×Tn70×X×J×(Y J)×(Y X)))):=
 let f:=U a.length
 cond (N (l<f)) (cond (inR l a.length) (let j:=S a l.toNat 0
 (jdL).bind λk=>(j86 j 0 k).bind λi=>cond (!i) (M (.inr (.inl 1))) (let g:=w64 (l+1)
 M (.inl (o,g,p,d,e,b,m,c,a,n)))) Z) (M (.inr (.inr (o,p,d,e,b,m,c,a,n))))
def j8r[LP]:=c8 c2 (LP.lp (u8 unc2 j3I))
abbrev jc6:=eq10 j3I j8r
def j58(n c:J)(o:Tn59)(e:Tn53)(f:Tn30)(d:Tn70)(p:X)(l:J)(a:Y J)(m:Y X):O ((J×J×Tn59×Tn53×Tn30×Tn70×X×J×(Y J)×(Y X)) ⊕ (J ⊕ (J×Tn59×Tn53×Tn30×Tn70×(Y X)))):=
 let k:=U a.length
 cond (N (c<k)) (cond (inR c a.length) (let i:=S a c.toNat 0
 let b:=w64 (c-1)
 cond (inR b a.length) (let g:=S a b.toNat 0
 cond (N (i<=g)) (M (.inr (.inl 6))) (let j:=w64 (c+1)
 M (.inl (n,j,o,e,f,d,p,l,a,m)))) Z) Z) (M (.inr (.inr (n,o,e,f,d,m))))
def j8s[LP]:=c8 c2 (LP.lp (u8 unc2 j58))
abbrev jgV:=eq10 j58 j8s
def j3J[LP](g:J)(v:Tn59)(q:Tn53)(d:Tn30)(o:Tn70)(s:Y X):O ((J×Tn59×Tn53×Tn30×Tn70×(Y X)) ⊕ (J ⊕ Ê)):=
 let n:=U d.length
 cond (N (g<n)) (cond (inR g d.length) (let a:=S d g.toNat (À,0,[])
 cond (N (W s+W [a.1]<=j02)) (let f:Y ByteArray:=s++[a.1]
 (jbm f g).bind λe=>cond (e != 0) (M (.inr (.inl e))) (let j:=U v.length
 let k:=w64 (j-1)
 (j86 a.2.1 0 k).bind λi=>cond (!i) (M (.inr (.inl 3))) (let l:=U a.2.2.length
 cond (N (l>64)) (M (.inr (.inl 5))) ((j8r g 0 v q d o a.1 a.2.1 a.2.2 f).bind λp=>sumC p (λt=>M (.inr (.inl t))) (λb=>(j8s b.1 1 b.2.1 b.2.2.1 b.2.2.2.1 b.2.2.2.2.1 b.2.2.2.2.2.1 b.2.2.2.2.2.2.1 b.2.2.2.2.2.2.2.1 b.2.2.2.2.2.2.2.2).bind λr=>sumC r (λu=>M (.inr (.inl u))) (λc=>let m:=w64 (c.1+1)
 M (.inl (m,c.2.1,c.2.2.1,c.2.2.2.1,c.2.2.2.2.1,c.2.2.2.2.2)))))))) Z) Z) (M (.inr (.inr ())))
def j8t[LP]:=lp6 j3J
abbrev jc7:=eq6 j3J j8t
def jeh[LP](a:Tn76):O Int:=(j8t 0 a.1 a.2.1 a.2.2.1 a.2.2.2 ([]:(Y X))).bind λb=>sumC b (λc=>M c) (λd=>M 0)
def j5Q(s:J)(v:Tn59)(b:Tn53)(e:Tn30)(j:Tn70)(u:X)(i k m c f:J)(a:Y J)(d:Tn2)(l g:J):O ((J×Tn59×Tn53×Tn30×Tn70×X×J×J×J×J×J×(Y J)×Tn2×J×J) ⊕ (J ⊕ (Tn59×Tn53×Tn30×Tn70×X×J×J×J×J×J×(Y J)×Tn2×J×J))):=
 let n:=U a.length
 cond (N (s<n)) (cond (inR s a.length) (let r:=S a s.toNat 0
 let o:=U b.length
 let p:=w64 (o-1)
 (j86 r 0 p).bind λt=>cond (!t) (M (.inr (.inl 3))) (let q:=w64 (s+1)
 M (.inl (q,v,b,e,j,u,i,k,m,c,f,a,d,l,g)))) Z) (M (.inr (.inr (v,b,e,j,u,i,k,m,c,f,a,d,l,g))))
def jcZ[LP]:=c8 c7 (LP.lp (u8 unc7 j5Q))
abbrev jfr:=eq15 j5Q jcZ
def jfs[LP](b:Tn76)(a:Tn64):O Int:=
 let f:=U b.1.length
 let r:=w64 (f-1)
 (j86 a.2.1 0 r).bind λs=>cond (!s) (M 3) ((jdL).bind λo=>(j86 a.2.2.1.1 1 o).bind λj=>cond (!j) (M 1) ((j86 a.2.2.1.2 0 86399).bind λi=>cond (!i) (M 1) ((j86 a.2.2.2.1 0 2).bind λg=>cond (!g) (M 1) ((j86 a.2.2.2.2.1 1 400).bind λn=>cond (!n) (M 1) (let k:=U a.2.2.2.2.2.1.length
 cond (k==0) (M 7) (let u:=U a.2.2.2.2.2.1.length
 cond (N (u>12)) (M 5) ((jcZ 0 b.1 b.2.1 b.2.2.1 b.2.2.2 a.1 a.2.1 a.2.2.1.1 a.2.2.1.2 a.2.2.2.1 a.2.2.2.2.1 a.2.2.2.2.2.1 a.2.2.2.2.2.2.1 a.2.2.2.2.2.2.2.1 a.2.2.2.2.2.2.2.2).bind λv=>sumC v (λw=>M w) (λd=>(jaI d.2.2.2.2.2.2.2.2.2.2.2.1).bind λq=>cond (q != 0) (M 8) ((j86 d.2.2.2.2.2.2.2.2.2.2.2.2.2 0 2).bind λp=>cond (!p) (M 1) (let t:=U d.2.2.1.length
 let l:=w64 (t-1)
 cond (d.2.2.2.2.2.2.2.2.2.2.2.2.2 != 0) ((j86 d.2.2.2.2.2.2.2.2.2.2.2.2.1 0 l).bind λm=>cond (!m) (M 3) (let e:Bool:=cond (d.2.2.2.2.2.2.2.2.2.2.2.2.2==0) (d.2.2.2.2.2.2.2.2.2.2.2.2.1 != 0) Á
 cond e (M 1) (M 0))) (let c:Bool:=cond (d.2.2.2.2.2.2.2.2.2.2.2.2.2==0) (d.2.2.2.2.2.2.2.2.2.2.2.2.1 != 0) Á
 cond c (M 1) (M 0))))))))))))
def jgW(a:Tn28):O Int:=cond (cond (a.1 != 2) (a.2.2.1 != 0) Á) (M 1) (cond (cond (a.1==2) (a.2.1==a.2.2.1) Á) (M 4) (cond (N (a.2.2.2.1<0)) (M 1) (cond (N (a.2.2.2.2<0)) (M 1) (let c:=w64 (É a.2.2.2.2 86400)
 (jdL).bind λb=>cond (N (c>b)) (M 1) (cond (N (a.2.2.2.1>=a.2.2.2.2)) (M 6) (M 0))))))
def jhS(b:Tn76)(a:Tn28):O Int:=
 let e:=U b.2.1.length
 (j86 a.1 0 2).bind λf=>cond (!f) (M 1) (let i:=w64 (e-1)
 (j86 a.2.1 0 i).bind λg=>let d:=w64 (e-1)
 cond (cond (!g) (cond (a.1 != 1) Â (a.2.1 != (-1))) Á) (cond ((!(a.1==2)) || !(!Â)) (M 3) Z) (cond (a.1==2) ((j86 a.2.2.1 0 d).bind λc=>cond (!c) (M 3) (jgW a)) (jgW a)))
def j3K[LP](s c:J)(o:Tn59)(e:Tn53)(f:Tn30)(d:Tn70)(p:X)(b:Tn65)(l:Tn34)(q r:Y X):O ((J×J×Tn59×Tn53×Tn30×Tn70×X×Tn65×Tn34×(Y X)×(Y X)) ⊕ (J ⊕ (J×Tn59×Tn53×Tn30×Tn70×X×Tn65×Tn34×(Y X)))):=
 let n:=U b.length
 cond (N (c<n)) (cond (inR c b.length) (let g:=S b c.toNat (À,0,(0,0),0,0,[],[],0,0)
 cond (N (W r+W [g.1]<=j02)) (let k:Y ByteArray:=r++[g.1]
 (jbm k c).bind λi=>cond (i != 0) (M (.inr (.inl i))) (cond (inR c b.length) (let a:=S b c.toNat (À,0,(0,0),0,0,[],[],0,0)
 (jfs (o,e,f,d) a).bind λj=>cond (j != 0) (M (.inr (.inl j))) (let m:=w64 (c+1)
 M (.inl (s,m,o,e,f,d,p,b,l,q,k)))) Z)) Z) Z) (M (.inr (.inr (s,o,e,f,d,p,b,l,q))))
def j8u[LP]:=c8 c3 (LP.lp (u8 unc3 j3K))
abbrev jc8:=eq11 j3K j8u
def j3L(n f:J)(l:Tn59)(d:Tn53)(e:Tn30)(c:Tn70)(o:X)(k:Tn65)(b:Tn34)(m:Y X):O ((J×J×Tn59×Tn53×Tn30×Tn70×X×Tn65×Tn34×(Y X)) ⊕ (J ⊕ (J×Tn59×Tn53×Tn30×Tn70×(Y X)))):=
 let j:=U b.length
 cond (N (f<j)) (cond (inR f b.length) (let a:=S b f.toNat (0,0,0,0,0)
 (jhS (l,d,e,c) a).bind λg=>cond (g != 0) (M (.inr (.inl g))) (let i:=w64 (f+1)
 M (.inl (n,i,l,d,e,c,o,k,b,m)))) Z) (M (.inr (.inr (n,l,d,e,c,m))))
def j8v[LP]:=c8 c2 (LP.lp (u8 unc2 j3L))
abbrev jc9:=eq10 j3L j8v
def j3M[LP](g:J)(t:Tn59)(o:Tn53)(n:Tn30)(d:Tn70)(q:Y X):O ((J×Tn59×Tn53×Tn30×Tn70×(Y X)) ⊕ (J ⊕ Ê)):=
 let k:=U d.length
 cond (N (g<k)) (cond (inR g d.length) (let a:=S d g.toNat (À,[],[])
 cond (N (W q+W [a.1]<=j02)) (let e:Y ByteArray:=q++[a.1]
 (jbm e g).bind λf=>cond (f != 0) (M (.inr (.inl f))) (let i:=U a.2.1.length
 let j:=U a.2.2.length
 cond (cond (N (i>6)) Â (N (j>48))) (M (.inr (.inl 5))) ((j8u g 0 t o n d a.1 a.2.1 a.2.2 e ([]:(Y X))).bind λm=>sumC m (λr=>M (.inr (.inl r))) (λb=>(j8v b.1 0 b.2.1 b.2.2.1 b.2.2.2.1 b.2.2.2.2.1 b.2.2.2.2.2.1 b.2.2.2.2.2.2.1 b.2.2.2.2.2.2.2.1 b.2.2.2.2.2.2.2.2).bind λp=>sumC p (λs=>M (.inr (.inl s))) (λc=>let l:=w64 (c.1+1)
 M (.inl (l,c.2.1,c.2.2.1,c.2.2.2.1,c.2.2.2.2.1,c.2.2.2.2.2))))))) Z) Z) (M (.inr (.inr ())))
def j8w[LP]:=lp6 j3M
abbrev jca:=eq6 j3M j8w
def jei[LP](a:Tn76):O Int:=(j8w 0 a.1 a.2.1 a.2.2.1 a.2.2.2 ([]:(Y X))).bind λb=>sumC b (λc=>M c) (λd=>M 0)
def jdM[LP](a:Tn76):O Int:=
 let k:=U a.1.length
 let j:=U a.2.1.length
 let i:=U a.2.2.1.length
 let f:Bool:=cond (cond (N (k>16)) Â (N (j>32))) Â (N (i>8))
 let e:=U a.2.2.2.length
 cond (cond f Â (N (e>12))) (M 5) ((jkY a).bind λc=>cond (c != 0) (M c) ((jiQ a).bind λd=>cond (d != 0) (M d) ((jeh a).bind λb=>cond (b != 0) (M b) ((jei a).bind λg=>M g))))
def jvD[LP](b:Tn76)(a c:J):O Bool:=
 let f:=U b.2.2.2.length
 let e:Bool:=cond (cond (N (a>=0)) (N (a<f)) Á) (N (c>=0)) Á
 cond (cond e (N (c<=8589934592)) Á) ((jdM b).bind λd=>M (d==0)) (M Á)
def jcb[LP](b:Tn57)(a:Tn64):O Int:=(j7v b).bind λi=>let f:Bool:=cond (cond (i != 0) Â (N (a.2.2.1.1<1))) Â (N (a.2.2.1.1>100000))
 let g:Bool:=cond (cond f Â (N (a.2.2.1.2<0))) Â (N (a.2.2.1.2>=86400))
 let e:Bool:=cond (cond g Â (N (a.2.2.2.1<0))) Â (N (a.2.2.2.1>2))
 let c:Bool:=cond (cond e Â (N (a.2.2.2.2.1<1))) Â (N (a.2.2.2.2.1>400))
 let d:=U a.2.2.2.2.2.1.length
 cond (cond c Â (d==0)) (M 8) (M 0)
def jdN(a:J):O Bool:=(j9r a (-2) 99422).bind λb=>M b
def j4g(k c m:J)(l:X)(g:J)(i:Tn47)(p:Tn2)(o j n:J):O ((J×X×J×Tn47×J×J×Tn2) ⊕ ((J×J) ⊕ Ê)):=
 let e:=w64 (k*86400)
 let d:=w64 (e+c)
 let b:=w64 (d-o)
 let a:Int:=if b>j then b else j
 cond (N (a<n)) (M (.inr (.inl (a,0)))) (let f:=w64 (m+1)
 M (.inl (f,l,g,i,k,c,p)))
def j4h(f:J)(e:Tn2)(n d:J)(k:X)(b:J)(c:Tn47)(m l:J):O ((J×X×J×Tn47×J×J×Tn2) ⊕ ((J×J) ⊕ Ê)):=
 let i:=w64 (f+1)
 let j:=U e.length
 cond (N (i<j)) (let a:=w64 (f+1)
 cond (inR a e.length) (let g:=(S e a.toNat (0,0)).1
 j4g n d f k b c e m l g) Z) (j4g n d f k b c e m l 8589934593)
def j4v(a:J)(j:X)(b:J)(d:Tn47)(k e:J)(c:Tn2):O ((J×X×J×Tn47×J×J×Tn2) ⊕ ((J×J) ⊕ Ê)):=
 let f:=U c.length
 cond (N (a<f)) (cond (N (a>=0)) (cond (inR a c.length) (let i:=(S c a.toNat (0,0)).2
 cond (inR a c.length) (let g:=(S c a.toNat (0,0)).1
 j4h a c k e j b d i g) Z) Z) (j4h a c k e j b d b 0)) (M (.inr (.inr ())))
def j66[LP]:=lp7 j4v
abbrev jcc:=eq7 j4v j66
def j59[LP](a:Tn57)(b:J×J):O (J×J):=(j0q a).bind λc=>cond (c.2 != 0) (M (0,8)) ((j9r b.2 0 86399).bind λd=>cond (!d) (M (0,1)) (cond (N (b.1<(-2))) (M (0,0)) ((jdN b.1).bind λe=>cond (!e) (M (0,10)) ((j66 (-1) a.1 a.2.1 a.2.2 b.1 b.2 c.1).bind λf=>sumC f (λg=>M g) (λi=>M (0,10))))))
def j5a(c:Tn2)(g i a:J):O ((Tn2×J×J×J) ⊕ (J)):=
 let b:=U c.length
 cond ((inR a c.length) || !(N (a<b))) (let d:=S c a.toNat (0,0)
 cond (cond (N (a<b)) (N (d.1<=g)) Á) (cond (inR a c.length) (let e:=S c a.toNat (0,0)
 let f:=w64 (a+1)
 M (.inl (c,g,e.2,f))) Z) (M (.inr i))) Z
def jbo[LP]:=lp4 j5a
abbrev jeM:=eq4 j5a jbo
def jg6[LP](b:Tn57)(c:Tn2)(a:J):O Int:=(jbo c a b.2.1 0).bind λd=>M d
def jaJ[LP](a:Tn57)(b:J):O (J×J):=(j0q a).bind λc=>cond (c.2 != 0) (M (0,8)) ((j9r b 0 8589934592).bind λd=>cond (!d) (M (0,1)) ((jg6 a c.1 b).bind λe=>M (e,0)))
def jhT(b a:J):O (J×J):=
 let g:=w64 (b+a)
 let f:=w64 (g+864000)
 let c:=w64 (É f 86400)
 let d:=w64 (c-10)
 let e:=Ä f 86400
 M (d,e)
def j4I[LP](a:Tn57)(c:J):O Tn3:=(jaJ a c).bind λb=>cond (b.2 != 0) (M ((0,0),b.2)) ((jhT c b.1).bind λd=>M (d,0))
def j7w[LP](b:Tn57)(a:Tn64)(e:J):O (J×Æ):=cond (a.2.2.2.1==0) ((j59 b a.2.2.1).bind λd=>let n:=w64 (e*a.2.2.2.2.1)
 let j:=w64 (n*3600)
 let o:=w64 (d.1+j)
 let k:=w64 (d.1+j)
 M (o,(cond (d.2==0) (N (k<=8589934592)) Á))) (let g:=w64 (e*a.2.2.2.2.1)
 cond (a.2.2.2.1==2) (let l:=w64 (g*7)
 let m:=w64 (a.2.2.1.1+l)
 (j59 b (m,a.2.2.1.2)).bind λi=>M (i.1,(i.2==0))) (let f:=w64 (a.2.2.1.1+g)
 (j59 b (f,a.2.2.1.2)).bind λc=>M (c.1,(c.2==0))))
def j5R[LP](q n:J)(r:X)(l:J)(f:Tn47)(p:X)(g b m j k:J)(c:Y J)(i:Tn2)(e d:J):O ((J×J×X×J×Tn47×X×J×J×J×J×J×(Y J)×Tn2×J×J) ⊕ (J)):=cond (N (n>=0)) ((j7w (r,l,f) (p,g,(b,m),j,k,c,i,e,d) n).bind λa=>cond (cond a.2 (N (a.1<=q)) Á) (M (.inr n)) (let o:=w64 (n-1)
 M (.inl (q,o,r,l,f,p,g,b,m,j,k,c,i,e,d)))) (M (.inr n))
def j8T[LP]:=c8 c7 (LP.lp (u8 unc7 j5R))
abbrev jft:=eq15 j5R j8T
def jcd[LP](b:Tn57)(a:Tn64)(c:J):O Int:=cond (a.2.2.2.1==0) ((j59 b a.2.2.1).bind λe=>cond (cond (e.2==0) (N (e.1<=c)) Á) (let s:=w64 (c-e.1)
 let m:=w64 (3600*a.2.2.2.2.1)
 cond (!(m==0)) (let o:=w64 (É s m)
 M o) Z) (M (-1))) ((j4I b c).bind λl=>cond (a.2.2.2.1==2) (let k:=w64 (a.2.2.2.2.1*7)
 let p:=w64 (l.1.1+2)
 let j:=w64 (p-a.2.2.1.1)
 let q:Int:=if 0>j then 0 else j
 cond (!(k==0)) (let r:=w64 (É q k)
 (j8T c r b.1 b.2.1 b.2.2 a.1 a.2.1 a.2.2.1.1 a.2.2.1.2 a.2.2.2.1 a.2.2.2.2.1 a.2.2.2.2.2.1 a.2.2.2.2.2.2.1 a.2.2.2.2.2.2.2.1 a.2.2.2.2.2.2.2.2).bind λt=>M t) Z) (let f:=w64 (l.1.1+2)
 let d:=w64 (f-a.2.2.1.1)
 let g:Int:=if 0>d then 0 else d
 cond (!(a.2.2.2.2.1==0)) (let i:=w64 (É g a.2.2.2.2.1)
 (j8T c i b.1 b.2.1 b.2.2 a.1 a.2.1 a.2.2.1.1 a.2.2.1.2 a.2.2.2.1 a.2.2.2.2.1 a.2.2.2.2.2.1 a.2.2.2.2.2.2.1 a.2.2.2.2.2.2.2.1 a.2.2.2.2.2.2.2.2).bind λn=>M n) Z))
def jfu[LP](b:Tn57)(a:Tn64)(c:J):O (J×J):=(jcb b a).bind λd=>cond (d != 0) (M (0,8)) (cond (cond (N (c<0)) Â (N (c>8589934592))) (M (0,1)) ((jcd b a c).bind λe=>M (e,0)))
def j7M(a:J×J):O Int:=(jc4 a.1).bind λc=>let b:=w64 (c*86400)
 let d:=w64 (b+a.2)
 M d
def jbD[LP](a:Tn57)(c:J):O (J×J):=(j4I a c).bind λb=>cond (b.2 != 0) (M (0,b.2)) ((j7M b.1).bind λd=>M (d,0))
def j5b(b:Tn2)(d c:J):O ((Tn2×J×J) ⊕ (Æ ⊕ Ê)):=
 let g:=U b.length
 cond (N (c<g)) (cond (inR c b.length) (let a:=S b c.toNat (0,0)
 cond ((inR c b.length) || !(N (d>=a.1))) (let e:=S b c.toNat (0,0)
 cond (cond (N (d>=a.1)) (N (d<e.2)) Á) (M (.inr (.inl Â))) (let f:=w64 (c+1)
 M (.inl (b,d,f)))) Z) Z) (M (.inr (.inr ())))
def jbp[LP]:=lp3 j5b
abbrev jeN:=eq3 j5b jbp
def jg7[LP](b:Tn2)(a:J):O Bool:=(jbp b a 0).bind λc=>sumC c (λd=>M d) (λe=>M Á)
def jp8[LP](a:Tn57)(b:Tn2)(d:J):O Bool:=(jbD a d).bind λc=>cond (c.2==0) ((jaI b).bind λf=>cond (f==0) ((jg7 b c.1).bind λe=>M e) (M Á)) (M Á)
def j6C(v:J)(t:Æ)(b:J)(w:X)(g e l k i:J)(j:Y J)(d:Tn2)(c f:J)(u:X)(n:J)(a:Y J)(o m:J):O ((J×Æ×J×X×J×J×J×J×J×(Y J)×Tn2×J×J×X×J×(Y J)×J×J) ⊕ (J×Æ×X×J×J×J×J×J×(Y J)×Tn2×J×J)):=
 let q:=U a.length
 cond (N (b<q)) (cond t (let s:=w64 (b+1)
 M (.inl (v,Â,s,w,g,e,l,k,i,j,d,c,f,u,n,a,o,m))) (cond (inR b a.length) (let p:=S a b.toNat 0
 let r:=w64 (b+1)
 M (.inl (v,(p==o),r,w,g,e,l,k,i,j,d,c,f,u,n,a,o,m))) Z)) (M (.inr (v,t,w,g,e,l,k,i,j,d,c,f)))
def jad[LP](s:J)(q:Æ)(o:J)(r:X)(j d m l e:J)(f:Y J)(k:Tn2)(i g:J)(n:X)(b:J)(c:Y J)(p a:J):O (J×Æ×X×J×J×J×J×J×(Y J)×Tn2×J×J):=LP.lp (u8 (u8 unc2) j6C) (s,q,o,r,j,d,m,l,e,f,k,i,g,n,b,c,p,a)
theorem jgq(r p n s i f m l j k e d g q c a o b):jad r p n s i f m l j k e d g q c a o b=lpK (j6C r p n s i f m l j k e d g q c a o b) (λh=>jad h.1 h.2.1 h.2.2.1 h.2.2.2.1 h.2.2.2.2.1 h.2.2.2.2.2.1 h.2.2.2.2.2.2.1 h.2.2.2.2.2.2.2.1 h.2.2.2.2.2.2.2.2.1 h.2.2.2.2.2.2.2.2.2.1 h.2.2.2.2.2.2.2.2.2.2.1 h.2.2.2.2.2.2.2.2.2.2.2.1 h.2.2.2.2.2.2.2.2.2.2.2.2.1 h.2.2.2.2.2.2.2.2.2.2.2.2.2.1 h.2.2.2.2.2.2.2.2.2.2.2.2.2.2.1 h.2.2.2.2.2.2.2.2.2.2.2.2.2.2.2.1 h.2.2.2.2.2.2.2.2.2.2.2.2.2.2.2.2.1 h.2.2.2.2.2.2.2.2.2.2.2.2.2.2.2.2.2):=j0d _ _
def jgX[LP](a:Tn64)(g:J×J)(c:Tn76)(i:J):O (J×Æ):=cond (a.2.2.2.2.2.2.2.2==0) (M (g.1,Â)) (cond (inR a.2.2.2.2.2.2.2.1 c.2.2.1.length) (let b:=S c.2.2.1 a.2.2.2.2.2.2.2.1.toNat (À,0,[])
 cond (inR b.2.1 c.1.length) (let d:=S c.1 b.2.1.toNat (À,0,[])
 (j4I d i).bind λf=>(jad g.1 Á 0 a.1 a.2.1 a.2.2.1.1 a.2.2.1.2 a.2.2.2.1 a.2.2.2.2.1 a.2.2.2.2.2.1 a.2.2.2.2.2.2.1 a.2.2.2.2.2.2.2.1 a.2.2.2.2.2.2.2.2 b.1 b.2.1 b.2.2 f.1.1 f.1.2).bind λe=>M (e.1,(e.2.1==(e.2.2.2.2.2.2.2.2.2.2.2==2)))) Z) Z)
def jhU[LP](c:Tn76)(a:Tn64)(d:J):O (J×Æ):=cond (inR a.2.1 c.1.length) (let b:=S c.1 a.2.1.toNat (À,0,[])
 (jfu b a d).bind λe=>let f:=U a.2.2.2.2.2.2.1.length
 cond (cond (e.2 != 0) Â (N (e.1<0))) (cond ((!(N (f>0))) || !(!Â)) (M (0,Á)) Z) (cond (N (f>0)) ((jp8 b a.2.2.2.2.2.2.1 d).bind λg=>cond (!g) (M (0,Á)) (jgX a e c d)) (jgX a e c d))) Z
def jkZ[LP](b:Tn76)(a:Tn64)(f:J):O Int:=(jhU b a f).bind λe=>cond (!e.2) (M (-1)) (let c:=U a.2.2.2.2.2.1.length
 cond (!(c==0)) (let d:=Ä e.1 c
 cond (inR d a.2.2.2.2.2.1.length) (let g:=S a.2.2.2.2.2.1 d.toNat 0
 M g) Z) Z)
def j6D(i f e:J)(k:X)(g:Tn65)(b:Tn34):O ((J×J×J×X×Tn65×Tn34) ⊕ (Æ ⊕ Ê)):=
 let c:=U b.length
 cond (N (e<c)) (cond (inR e b.length) (let a:=S b e.toNat (0,0,0,0,0)
 let j:Bool:=cond (cond (a.1==0) (a.2.1==i) Á) (N (a.2.2.2.1<=f)) Á
 cond (cond j (N (f<a.2.2.2.2)) Á) (M (.inr (.inl Â))) (let d:=w64 (e+1)
 M (.inl (i,f,d,k,g,b)))) Z) (M (.inr (.inr ())))
def jej[LP]:=lp6 j6D
abbrev jgr:=eq6 j6D jej
def jjZ[LP](b:Tn69)(a c:J):O Bool:=(jej a c 0 b.1 b.2.1 b.2.2).bind λd=>sumC d (λe=>M e) (λf=>M Á)
def j7x[LP](l i:J)(o:Tn59)(e:Tn53)(d:Tn30)(g:Tn70)(n:X)(b:Tn65)(f:Tn34):O ((J×J×Tn59×Tn53×Tn30×Tn70×X×Tn65×Tn34) ⊕ ((J×J) ⊕ Ê)):=cond (N (i>=0)) (cond (inR i b.length) (let a:=S b i.toNat (À,0,(0,0),0,0,[],[],0,0)
 (jkZ (o,e,d,g) a l).bind λc=>cond (N (c>=0)) ((jjZ (n,b,f) c l).bind λm=>cond (!m) (M (.inr (.inl (i,c)))) (let j:=w64 (i-1)
 M (.inl (l,j,o,e,d,g,n,b,f)))) (let k:=w64 (i-1)
 M (.inl (l,k,o,e,d,g,n,b,f)))) Z) (M (.inr (.inr ())))
def jdO[LP]:=lp9 j7x
abbrev jhV:=eq9 j7x jdO
def jiR[LP](b:Tn76)(a d:J):O (J×J):=cond (inR a b.2.2.2.length) (let c:=S b.2.2.2 a.toNat (À,[],[])
 let e:=U c.2.1.length
 let f:=w64 (e-1)
 (jdO d f b.1 b.2.1 b.2.2.1 b.2.2.2 c.1 c.2.1 c.2.2).bind λg=>sumC g (λi=>M i) (λj=>M ((-1),(-1)))) Z
def j6E(b:Tn34)(e d c:J):O ((Tn34×J×J×J) ⊕ (J)):=
 let k:=U b.length
 cond (N (c<k)) (cond (inR c b.length) (let a:=S b c.toNat (0,0,0,0,0)
 cond (cond (N (d<a.2.2.2.1)) Â (N (d>=a.2.2.2.2))) (let g:=w64 (c+1)
 M (.inl (b,e,d,g))) (cond (a.1==1) (let i:=w64 (c+1)
 M (.inl (b,a.2.1,d,i))) (cond (cond (a.1==2) (e==a.2.1) Á) (let f:=w64 (c+1)
 M (.inl (b,a.2.2.1,d,f))) (cond (cond (a.1==2) (e==a.2.2.1) Á) (let j:=w64 (c+1)
 M (.inl (b,a.2.1,d,j))) (let l:=w64 (c+1)
 M (.inl (b,e,d,l))))))) Z) (M (.inr e))
def jce[LP]:=lp4 j6E
abbrev jgs:=eq4 j6E jce
def jk0[LP](c:Tn34)(a b:J):O Int:=(jce c a b 0).bind λd=>M d
def jgY[LP](b:Tn76)(a c:J):O Int:=(jiR b a c).bind λe=>cond (inR a b.2.2.2.length) (let f:=S b.2.2.2 a.toNat (À,[],[])
 (jk0 f.2.2 e.2 c).bind λd=>M d) Z
def jqt[LP](a:Tn76)(b c:J):O Int:=(jvD a b c).bind λe=>cond (!e) (M (-1)) ((jgY a b c).bind λd=>M d)
def jaY[LP](b:Tn76)(a c:J):O Int:=(jqt b a c).bind λd=>M d
def jgZ[LP](m:O (Tn76)):O Bool:=
 m.bind λa=>(j7L a 0 518400 525600 0 ([]:Tn16)).bind λc=>(jcW a 0 432000 691200 0 ([]:Tn16)).bind λb=>(j3V a 0 518400 525600 0 ([]:Tn16)).bind λd=>let e:Bool:=cond (cond (c.2.2==0) (b.2.2==0) Á) (d.2==0) Á
 let g:=U d.1.length
 cond (cond (cond e (c.2.1==1) Á) (g==1) Á) ((jaY c.1 0 518400).bind λi=>let j:=U b.2.1.length
 cond (cond (i==1) (j==0) Á) ((jaY b.1 0 518400).bind λf=>cond (f==1) ((j5k a 0 0 518400 518401).bind λk=>M (!k)) (M Á)) (M Á)) (let l:=U b.2.1.length
 M Á)
def jg8[LP]:O Bool:=
 jgZ jkU
def jl0(a:Y J):O Tn0:=M (a,0)
def j04(b:Y J)(a c:J):O (J×(Y J)×J):=
 let f:=U b.length
 cond (N (a>=f)) (M (0,b,a)) (cond (N (c<1)) (M (0,b,a)) (cond (inR a b.length) (let i:=S b a.toNat 0
 cond (!(c==0)) (let d:=Ä i c
 let e:=w64 (a+1)
 cond (N (d<0)) (let g:=w64 (d+c)
 M (g,b,e)) (M (d,b,e))) Z) Z))
def j18(d:Y J)(b:J)(a:Y J):O (J×(Y J)×J):=
 let f:=U a.length
 (j04 d b f).bind λc=>cond (inR c.1 a.length) (let e:=S a c.1.toNat 0
 M (e,c.2.1,c.2.2)) Z
def j4s(a0:Y J)(v:J)(a:X):O (Tn57×(Y J)×J):=
 let a5:Y Int:=[0,4,(-20),22,48,(-47)]
 (j18 a0 v a5).bind λq=>(j04 q.2.1 q.2.2 2).bind λw=>(j04 w.2.1 w.2.2 3).bind λn=>let a7:=w64 (w.1*n.1)
 let a1:=w64 (q.1+a7)
 let c:=w64 (900*a1)
 (j04 n.2.1 n.2.2 2).bind λo=>let g:=w64 (2025+o.1)
 (j04 o.2.1 o.2.2 4).bind λb=>cond (b.1==1) (let b2:=w64 (c+3600)
 let b7:Tn47:=[(2025,g,3,5,6,7200,b2),(2025,g,10,5,6,10800,c)]
 M ((a,c,b7),b.2.1,b.2.2)) (cond (b.1==2) ((j04 b.2.1 b.2.2 4).bind λx=>let a9:=w64 (1+x.1)
 (j04 x.2.1 x.2.2 7).bind λj=>(j04 j.2.1 j.2.2 24).bind λr=>let a2:=w64 (3600*r.1)
 (j04 r.2.1 r.2.2 8).bind λu=>let a6:=w64 (1+u.1)
 let b4:=w64 (1800*a6)
 let a8:=w64 (c+b4)
 (j04 u.2.1 u.2.2 2).bind λi=>let b3:=w64 (2+i.1)
 let b6:Y Int:=[2,3,5]
 (j18 i.2.1 i.2.2 b6).bind λs=>(j04 s.2.1 s.2.2 7).bind λt=>(j04 t.2.1 t.2.2 24).bind λk=>let b0:=w64 (3600*k.1)
 let a3:Tn47:=[(2025,g,1,a9,j.1,a2,a8),(2025,g,b3,s.1,t.1,b0,c)]
 M ((a,c,a3),k.2.1,k.2.2)) (cond (b.1==3) (let b5:Y Int:=[3600,(-3600),82800,(-82800),43200]
 (j18 b.2.1 b.2.2 b5).bind λf=>let m:=w64 (c+f.1)
 cond (cond (N (m>64800)) Â (N (m<(-64800)))) ((j04 f.2.1 f.2.2 7).bind λl=>(j04 l.2.1 l.2.2 48).bind λp=>let a4:=w64 (1800*p.1)
 let b1:Tn47:=[(2026,2026,1,2,l.1,a4,0)]
 M ((a,c,b1),p.2.1,p.2.2)) ((j04 f.2.1 f.2.2 7).bind λd=>(j04 d.2.1 d.2.2 48).bind λe=>let y:=w64 (1800*e.1)
 let z:Tn47:=[(2026,2026,1,2,d.1,y,m)]
 M ((a,c,z),e.2.1,e.2.2))) (M ((a,c,([]:Tn47)),b.2.1,b.2.2))))
def jg9  : O (Y X):=
 let a:Y ByteArray:=[(Ã #[97,100,97]),(Ã #[98,111,98]),(Ã #[99,108,101,111]),(Ã #[100,97,110]),(Ã #[101,118,101]),(Ã #[102,97,121]),(Ã #[103,117,115]),(Ã #[104,97,108])]
 M a
def j0Z(c:Y J)(b a:J):O (Æ×(Y J)×J):=(j04 c b a).bind λd=>let e:=w64 (a-1)
 M ((d.1==e),d.2.1,d.2.2)
def j2f(r q:J)(p:Y J)(g:J)(j:Tn2):O ((J×J×(Y J)×J×Tn2) ⊕ ((Y J)×J×Tn2)):=cond (N (q>0)) ((j04 p g 30).bind λb=>let o:=w64 (3600*b.1)
 let k:=w64 (r+o)
 (j04 b.2.1 b.2.2 2).bind λd=>let m:=w64 (60*d.1)
 let f:=w64 (k+m)
 let l:Y Int:=[3600,28800,43200,86400,61,1]
 (j18 d.2.1 d.2.2 l).bind λa=>let c:=w64 (f+a.1)
 cond (N (c>604800)) (M (.inr (a.2.1,a.2.2,j))) (let e:Tn2:=[(f,c)]
 cond (N (W j+W e<=j02)) (let n:Tn2:=j++e
 let i:=w64 (q-1)
 M (.inl (c,i,a.2.1,a.2.2,n))) Z)) (M (.inr (p,g,j)))
def j7Y[LP]:=lp5 j2f
abbrev j9u:=eq5 j2f j7Y
def j4w[LP](c:Y J)(a:J):O (Tn2×(Y J)×J):=(j04 c a 4).bind λb=>(j7Y 0 b.1 b.2.1 b.2.2 ([]:Tn2)).bind λd=>M (d.2.2,d.1,d.2.1)
def j2R(l:J)(k:Y J)(f:J)(b:Tn59):O ((J×(Y J)×J×Tn59) ⊕ ((Y J)×J×Tn59)):=cond (N (l>0)) (let d:Y ByteArray:=[(Ã #[104,101,114,101]),(Ã #[116,104,101,114,101])]
 let e:=U b.length
 cond (inR e d.length) (let i:=S d e.toNat À
 (j4s k f i).bind λa=>let c:Tn59:=[a.1]
 cond (N (W b+W c<=j02)) (let g:Tn59:=b++c
 let j:=w64 (l-1)
 M (.inl (j,a.2.1,a.2.2,g))) Z) Z) (M (.inr (k,f,b)))
def j9v[LP]:=lp4 j2R
abbrev jaK:=eq4 j2R j9v
def j2S[LP](a4:J)(a5:Y J)(q:J)(e:Tn59)(b:Tn53):O ((J×(Y J)×J×Tn59×Tn53) ⊕ ((Y J)×J×Tn59×Tn53)):=cond (N (a4>0)) ((jg9).bind λo=>let l:=U b.length
 cond (inR l o.length) (let n:=S o l.toNat À
 let a3:=U e.length
 (j04 a5 q a3).bind λd=>(j0Z d.2.1 d.2.2 3).bind λc=>(j0Z c.2.1 c.2.2 2).bind λa=>cond a.1 ((j4w a.2.1 a.2.2).bind λg=>let a1:Y Int:=[0,40,100,12]
 (j18 g.2.1 g.2.2 a1).bind λk=>let w:=w64 (3600*k.1)
 let a2:Y Int:=[0,11,24,1]
 (j18 k.2.1 k.2.2 a2).bind λi=>let y:=w64 (3600*i.1)
 let m:Tn53:=[(n,d.1,g.1,w,y,c.1)]
 cond (N (W b+W m<=j02)) (let z:Tn53:=b++m
 let x:=w64 (a4-1)
 M (.inl (x,i.2.1,i.2.2,e,z))) Z) (let t:Y Int:=[0,40,100,12]
 (j18 a.2.1 a.2.2 t).bind λj=>let r:=w64 (3600*j.1)
 let a0:Y Int:=[0,11,24,1]
 (j18 j.2.1 j.2.2 a0).bind λf=>let v:=w64 (3600*f.1)
 let p:Tn53:=[(n,d.1,([]:Tn2),r,v,c.1)]
 cond (N (W b+W p<=j02)) (let u:Tn53:=b++p
 let s:=w64 (a4-1)
 M (.inl (s,f.2.1,f.2.2,e,u))) Z)) Z) (M (.inr (a5,q,e,b)))
def j9w[LP]:=lp5 j2S
abbrev jaL:=eq5 j2S j9w
def j2T(q o m:J)(n:Y J)(i:J)(p:X)(g:J)(d:Tn59)(f:Tn53)(e:Tn30)(c:Y J):O ((J×J×J×(Y J)×J×X×J×Tn59×Tn53×Tn30×(Y J)) ⊕ (J×(Y J)×J×X×J×Tn59×Tn53×Tn30×(Y J))):=cond (N (o>0)) ((j04 n i 6).bind λb=>let l:=w64 (1+b.1)
 let a:=w64 (m+l)
 cond (N (W c+W [a]<=j02)) (let j:Y Int:=c++[a]
 let k:=w64 (o-1)
 M (.inl (q,k,a,b.2.1,b.2.2,p,g,d,f,e,j))) Z) (M (.inr (q,n,i,p,g,d,f,e,c)))
def j9x[LP]:=c8 c3 (LP.lp (u8 unc3 j2T))
abbrev jaM:=eq11 j2T j9x
def j1V[LP](n:J)(m:Y J)(j:J)(e:Tn59)(i:Tn53)(g:Tn30):O ((J×(Y J)×J×Tn59×Tn53×Tn30) ⊕ ((Y J)×J×Tn59×Tn53×Tn30)):=cond (N (n>0)) (let l:=U e.length
 (j04 m j l).bind λc=>(j04 c.2.1 c.2.2 4).bind λb=>(j9x n b.1 20454 b.2.1 b.2.2 (Ã #[100,97,121,115]) c.1 e i g ([]:(Y J))).bind λa=>let d:Tn30:=[(a.2.2.2.1,a.2.2.2.2.1,a.2.2.2.2.2.2.2.2)]
 cond (N (W a.2.2.2.2.2.2.2.1+W d<=j02)) (let f:Tn30:=a.2.2.2.2.2.2.2.1++d
 let k:=w64 (a.1-1)
 M (.inl (k,a.2.1,a.2.2.1,a.2.2.2.2.2.1,a.2.2.2.2.2.2.1,f))) Z) (M (.inr (m,j,e,i,g)))
def j9y[LP]:=lp6 j1V
abbrev j7y:=eq6 j1V j9y
def j9z[LP](g:Y J)(e:J):O (Tn76×(Y J)×J):=(j04 g e 2).bind λd=>let k:=w64 (1+d.1)
 (j9v k d.2.1 d.2.2 ([]:Tn59)).bind λi=>(j04 i.1 i.2.1 4).bind λb=>let j:=w64 (1+b.1)
 (j9w j b.2.1 b.2.2 i.2.2 ([]:Tn53)).bind λf=>(j04 f.1 f.2.1 2).bind λc=>(j9y c.1 c.2.1 c.2.2 f.2.2.1 f.2.2.2 ([]:Tn30)).bind λa=>M ((a.2.2.1,a.2.2.2.1,a.2.2.2.2,([]:Tn70)),a.1,a.2.1)
def j2U(a1:J)(a0:Y J)(k:J)(z:Tn59)(b:Tn53)(j:Tn30)(u:Tn70)(a2:X)(g p m r f s d:J)(y:X)(t q i o n e l:J)(c:Y J):O ((J×(Y J)×J×Tn59×Tn53×Tn30×Tn70×X×J×J×J×J×J×J×J×X×J×J×J×J×J×J×J×(Y J)) ⊕ ((Y J)×J×Tn59×Tn53×Tn30×Tn70×X×J×J×J×J×J×J×J×X×J×J×J×J×J×J×J×(Y J))):=cond (N (a1>0)) (let w:=U b.length
 (j04 a0 k w).bind λa=>cond (N (W c+W [a.1]<=j02)) (let v:Y Int:=c++[a.1]
 let x:=w64 (a1-1)
 M (.inl (x,a.2.1,a.2.2,z,b,j,u,a2,g,p,m,r,f,s,d,y,t,q,i,o,n,e,l,v))) Z) (M (.inr (a0,k,z,b,j,u,a2,g,p,m,r,f,s,d,y,t,q,i,o,n,e,l,c)))
def j5c[LP](x:J)(w:Y J)(i:J)(v:Tn59)(g:Tn53)(f:Tn30)(t:Tn70)(y:X)(d o l q c r a:J)(u:X)(s p e n m b k:J)(j:Y J):O ((Y J)×J×Tn59×Tn53×Tn30×Tn70×X×J×J×J×J×J×J×J×X×J×J×J×J×J×J×J×(Y J)):=LP.lp (u8 (u8 unc8) j2U) (x,w,i,v,g,f,t,y,d,o,l,q,c,r,a,u,s,p,e,n,m,b,k,j)
theorem jaN(x w i v g f t y d o l q c r a u s p e n m b k j):j5c x w i v g f t y d o l q c r a u s p e n m b k j=lpK (j2U x w i v g f t y d o l q c r a u s p e n m b k j) (λh=>j5c h.1 h.2.1 h.2.2.1 h.2.2.2.1 h.2.2.2.2.1 h.2.2.2.2.2.1 h.2.2.2.2.2.2.1 h.2.2.2.2.2.2.2.1 h.2.2.2.2.2.2.2.2.1 h.2.2.2.2.2.2.2.2.2.1 h.2.2.2.2.2.2.2.2.2.2.1 h.2.2.2.2.2.2.2.2.2.2.2.1 h.2.2.2.2.2.2.2.2.2.2.2.2.1 h.2.2.2.2.2.2.2.2.2.2.2.2.2.1 h.2.2.2.2.2.2.2.2.2.2.2.2.2.2.1 h.2.2.2.2.2.2.2.2.2.2.2.2.2.2.2.1 h.2.2.2.2.2.2.2.2.2.2.2.2.2.2.2.2.1 h.2.2.2.2.2.2.2.2.2.2.2.2.2.2.2.2.2.1 h.2.2.2.2.2.2.2.2.2.2.2.2.2.2.2.2.2.2.1 h.2.2.2.2.2.2.2.2.2.2.2.2.2.2.2.2.2.2.2.1 h.2.2.2.2.2.2.2.2.2.2.2.2.2.2.2.2.2.2.2.2.1 h.2.2.2.2.2.2.2.2.2.2.2.2.2.2.2.2.2.2.2.2.2.1 h.2.2.2.2.2.2.2.2.2.2.2.2.2.2.2.2.2.2.2.2.2.2.1 h.2.2.2.2.2.2.2.2.2.2.2.2.2.2.2.2.2.2.2.2.2.2.2):=j0d _ _
def j9A[LP](b5:Y J)(a2:J)(c:Tn76)(j:X):O (Tn64×(Y J)×J):=
 let c2:=U c.1.length
 (j04 b5 a2 c2).bind λx=>(j04 x.2.1 x.2.2 6).bind λa1=>let b6:=w64 (20454+a1.1)
 let b4:=w64 (b6-2)
 let b9:Y Int:=[0,32400,7200,9000,79200,1]
 (j18 a1.2.1 a1.2.2 b9).bind λw=>(j04 w.2.1 w.2.2 3).bind λr=>(j04 r.2.1 r.2.2 2).bind λt=>let c4:=w64 (1+t.1)
 cond (r.1==0) (let c3:Y Int:=[6,8,12,24,23,49]
 (j18 t.2.1 t.2.2 c3).bind λa3=>(j04 a3.2.1 a3.2.2 3).bind λy=>let b8:=w64 (1+y.1)
 (j5c b8 y.2.1 y.2.2 c.1 c.2.1 c.2.2.1 c.2.2.2 À 0 0 0 0 0 0 0 j x.1 b4 w.1 r.1 a3.1 0 0 ([]:(Y J))).bind λb=>(j0Z b.1 b.2.1 2).bind λu=>cond u.1 ((j4w u.2.1 u.2.2).bind λv=>(j0Z v.2.1 v.2.2 4).bind λs=>let c0:=U b.2.2.2.2.1.length
 cond (cond s.1 (N (c0>0)) Á) (let b7:=U b.2.2.2.2.1.length
 (j04 s.2.1 s.2.2 b7).bind λa0=>(j04 a0.2.1 a0.2.2 2).bind λz=>let c1:=w64 (1+z.1)
 M ((b.2.2.2.2.2.2.2.2.2.2.2.2.2.2.1,b.2.2.2.2.2.2.2.2.2.2.2.2.2.2.2.1,(b.2.2.2.2.2.2.2.2.2.2.2.2.2.2.2.2.1,b.2.2.2.2.2.2.2.2.2.2.2.2.2.2.2.2.2.1),b.2.2.2.2.2.2.2.2.2.2.2.2.2.2.2.2.2.2.1,b.2.2.2.2.2.2.2.2.2.2.2.2.2.2.2.2.2.2.2.1,b.2.2.2.2.2.2.2.2.2.2.2.2.2.2.2.2.2.2.2.2.2.2,v.1,a0.1,c1),z.2.1,z.2.2)) (M ((b.2.2.2.2.2.2.2.2.2.2.2.2.2.2.1,b.2.2.2.2.2.2.2.2.2.2.2.2.2.2.2.1,(b.2.2.2.2.2.2.2.2.2.2.2.2.2.2.2.2.1,b.2.2.2.2.2.2.2.2.2.2.2.2.2.2.2.2.2.1),b.2.2.2.2.2.2.2.2.2.2.2.2.2.2.2.2.2.2.1,b.2.2.2.2.2.2.2.2.2.2.2.2.2.2.2.2.2.2.2.1,b.2.2.2.2.2.2.2.2.2.2.2.2.2.2.2.2.2.2.2.2.2.2,v.1,b.2.2.2.2.2.2.2.2.2.2.2.2.2.2.2.2.2.2.2.2.1,b.2.2.2.2.2.2.2.2.2.2.2.2.2.2.2.2.2.2.2.2.2.1),s.2.1,s.2.2))) ((j0Z u.2.1 u.2.2 4).bind λd=>let b3:=U b.2.2.2.2.1.length
 cond (cond d.1 (N (b3>0)) Á) (let a5:=U b.2.2.2.2.1.length
 (j04 d.2.1 d.2.2 a5).bind λo=>(j04 o.2.1 o.2.2 2).bind λm=>let b1:=w64 (1+m.1)
 M ((b.2.2.2.2.2.2.2.2.2.2.2.2.2.2.1,b.2.2.2.2.2.2.2.2.2.2.2.2.2.2.2.1,(b.2.2.2.2.2.2.2.2.2.2.2.2.2.2.2.2.1,b.2.2.2.2.2.2.2.2.2.2.2.2.2.2.2.2.2.1),b.2.2.2.2.2.2.2.2.2.2.2.2.2.2.2.2.2.2.1,b.2.2.2.2.2.2.2.2.2.2.2.2.2.2.2.2.2.2.2.1,b.2.2.2.2.2.2.2.2.2.2.2.2.2.2.2.2.2.2.2.2.2.2,([]:Tn2),o.1,b1),m.2.1,m.2.2)) (M ((b.2.2.2.2.2.2.2.2.2.2.2.2.2.2.1,b.2.2.2.2.2.2.2.2.2.2.2.2.2.2.2.1,(b.2.2.2.2.2.2.2.2.2.2.2.2.2.2.2.2.1,b.2.2.2.2.2.2.2.2.2.2.2.2.2.2.2.2.2.1),b.2.2.2.2.2.2.2.2.2.2.2.2.2.2.2.2.2.2.1,b.2.2.2.2.2.2.2.2.2.2.2.2.2.2.2.2.2.2.2.1,b.2.2.2.2.2.2.2.2.2.2.2.2.2.2.2.2.2.2.2.2.2.2,([]:Tn2),b.2.2.2.2.2.2.2.2.2.2.2.2.2.2.2.2.2.2.2.2.1,b.2.2.2.2.2.2.2.2.2.2.2.2.2.2.2.2.2.2.2.2.2.1),d.2.1,d.2.2)))) ((j04 t.2.1 t.2.2 3).bind λq=>let b2:=w64 (1+q.1)
 (j5c b2 q.2.1 q.2.2 c.1 c.2.1 c.2.2.1 c.2.2.2 À 0 0 0 0 0 0 0 j x.1 b4 w.1 r.1 c4 0 0 ([]:(Y J))).bind λa=>(j0Z a.1 a.2.1 2).bind λf=>cond f.1 ((j4w f.2.1 f.2.2).bind λi=>(j0Z i.2.1 i.2.2 4).bind λe=>let a4:=U a.2.2.2.2.1.length
 cond (cond e.1 (N (a4>0)) Á) (let a8:=U a.2.2.2.2.1.length
 (j04 e.2.1 e.2.2 a8).bind λp=>(j04 p.2.1 p.2.2 2).bind λk=>let a7:=w64 (1+k.1)
 M ((a.2.2.2.2.2.2.2.2.2.2.2.2.2.2.1,a.2.2.2.2.2.2.2.2.2.2.2.2.2.2.2.1,(a.2.2.2.2.2.2.2.2.2.2.2.2.2.2.2.2.1,a.2.2.2.2.2.2.2.2.2.2.2.2.2.2.2.2.2.1),a.2.2.2.2.2.2.2.2.2.2.2.2.2.2.2.2.2.2.1,a.2.2.2.2.2.2.2.2.2.2.2.2.2.2.2.2.2.2.2.1,a.2.2.2.2.2.2.2.2.2.2.2.2.2.2.2.2.2.2.2.2.2.2,i.1,p.1,a7),k.2.1,k.2.2)) (M ((a.2.2.2.2.2.2.2.2.2.2.2.2.2.2.1,a.2.2.2.2.2.2.2.2.2.2.2.2.2.2.2.1,(a.2.2.2.2.2.2.2.2.2.2.2.2.2.2.2.2.1,a.2.2.2.2.2.2.2.2.2.2.2.2.2.2.2.2.2.1),a.2.2.2.2.2.2.2.2.2.2.2.2.2.2.2.2.2.2.1,a.2.2.2.2.2.2.2.2.2.2.2.2.2.2.2.2.2.2.2.1,a.2.2.2.2.2.2.2.2.2.2.2.2.2.2.2.2.2.2.2.2.2.2,i.1,a.2.2.2.2.2.2.2.2.2.2.2.2.2.2.2.2.2.2.2.2.1,a.2.2.2.2.2.2.2.2.2.2.2.2.2.2.2.2.2.2.2.2.2.1),e.2.1,e.2.2))) ((j0Z f.2.1 f.2.2 4).bind λg=>let b0:=U a.2.2.2.2.1.length
 cond (cond g.1 (N (b0>0)) Á) (let a6:=U a.2.2.2.2.1.length
 (j04 g.2.1 g.2.2 a6).bind λn=>(j04 n.2.1 n.2.2 2).bind λl=>let a9:=w64 (1+l.1)
 M ((a.2.2.2.2.2.2.2.2.2.2.2.2.2.2.1,a.2.2.2.2.2.2.2.2.2.2.2.2.2.2.2.1,(a.2.2.2.2.2.2.2.2.2.2.2.2.2.2.2.2.1,a.2.2.2.2.2.2.2.2.2.2.2.2.2.2.2.2.2.1),a.2.2.2.2.2.2.2.2.2.2.2.2.2.2.2.2.2.2.1,a.2.2.2.2.2.2.2.2.2.2.2.2.2.2.2.2.2.2.2.1,a.2.2.2.2.2.2.2.2.2.2.2.2.2.2.2.2.2.2.2.2.2.2,([]:Tn2),n.1,a9),l.2.1,l.2.2)) (M ((a.2.2.2.2.2.2.2.2.2.2.2.2.2.2.1,a.2.2.2.2.2.2.2.2.2.2.2.2.2.2.2.1,(a.2.2.2.2.2.2.2.2.2.2.2.2.2.2.2.2.1,a.2.2.2.2.2.2.2.2.2.2.2.2.2.2.2.2.2.1),a.2.2.2.2.2.2.2.2.2.2.2.2.2.2.2.2.2.2.1,a.2.2.2.2.2.2.2.2.2.2.2.2.2.2.2.2.2.2.2.1,a.2.2.2.2.2.2.2.2.2.2.2.2.2.2.2.2.2.2.2.2.2.2,([]:Tn2),a.2.2.2.2.2.2.2.2.2.2.2.2.2.2.2.2.2.2.2.2.1,a.2.2.2.2.2.2.2.2.2.2.2.2.2.2.2.2.2.2.2.2.2.1),g.2.1,g.2.2))))
def j5S(d:Y J)(b:J):O (J×(Y J)×J):=(j04 d b 576).bind λe=>let j:=w64 (3600*e.1)
 let i:=w64 (1767139200+j)
 (j0Z e.2.1 e.2.2 3).bind λa=>cond a.1 (let f:Y Int:=[(-1),1,1800,3599]
 (j18 a.2.1 a.2.2 f).bind λc=>let g:=w64 (i+c.1)
 M (g,c.2.1,c.2.2)) (M (i,a.2.1,a.2.2))
def jan(m:Y J)(k:J)(n:Tn76):O (Tn28×(Y J)×J):=
 let l:=U n.2.1.length
 (j04 m k 3).bind λa=>(j04 a.2.1 a.2.2 l).bind λe=>(j5S e.2.1 e.2.2).bind λb=>let q:Y Int:=[3600,86400,7,259200,40000]
 (j18 b.2.1 b.2.2 q).bind λc=>let f:=w64 (b.1+c.1)
 cond (a.1==2) (cond (N (l<2)) (M ((0,e.1,0,b.1,f),c.2.1,c.2.2)) (let r:=w64 (e.1+1)
 let o:=w64 (l-1)
 (j04 c.2.1 c.2.2 o).bind λi=>let p:=w64 (r+i.1)
 cond (!(l==0)) (let j:=Ä p l
 cond (a.1==1) ((j0Z i.2.1 i.2.2 4).bind λg=>cond g.1 (M ((a.1,(-1),j,b.1,f),g.2.1,g.2.2)) (M ((a.1,e.1,j,b.1,f),g.2.1,g.2.2))) (M ((a.1,e.1,j,b.1,f),i.2.1,i.2.2))) Z)) (cond (a.1==1) ((j0Z c.2.1 c.2.2 4).bind λd=>cond d.1 (M ((a.1,(-1),0,b.1,f),d.2.1,d.2.2)) (M ((a.1,e.1,0,b.1,f),d.2.1,d.2.2))) (M ((a.1,e.1,0,b.1,f),c.2.1,c.2.2)))
def j2v[LP](r o:J)(p:Y J)(j:J)(n:Tn59)(c:Tn53)(d:Tn30)(q:X)(e:Tn70)(b:Tn65):O ((J×J×(Y J)×J×Tn59×Tn53×Tn30×X×Tn70×Tn65) ⊕ (J×(Y J)×J×Tn59×Tn53×Tn30×X×Tn70×Tn65)):=cond (N (o>0)) ((jg9).bind λf=>let i:=U b.length
 cond (inR i f.length) (let m:=S f i.toNat À
 (j9A p j (n,c,d,e) m).bind λa=>let g:Tn65:=[a.1]
 cond (N (W b+W g<=j02)) (let k:Tn65:=b++g
 let l:=w64 (o-1)
 M (.inl (r,l,a.2.1,a.2.2,n,c,d,q,e,k))) Z) Z) (M (.inr (r,p,j,n,c,d,q,e,b)))
def j6m[LP]:=c8 c2 (LP.lp (u8 unc2 j2v))
abbrev j9Y:=eq10 j2v j6m
def j2w(p o:J)(m:Y J)(i:J)(l:Tn59)(b:Tn53)(d:Tn30)(n:X)(e:Tn70)(g:Tn65)(c:Tn34):O ((J×J×(Y J)×J×Tn59×Tn53×Tn30×X×Tn70×Tn65×Tn34) ⊕ (J×(Y J)×J×Tn59×Tn53×Tn30×X×Tn70×Tn65×Tn34)):=cond (N (o>0)) ((jan m i (l,b,d,e)).bind λa=>let f:Tn34:=[a.1]
 cond (N (W c+W f<=j02)) (let k:Tn34:=c++f
 let j:=w64 (o-1)
 M (.inl (p,j,a.2.1,a.2.2,l,b,d,n,e,g,k))) Z) (M (.inr (p,m,i,l,b,d,n,e,g,c)))
def j8H[LP]:=c8 c3 (LP.lp (u8 unc3 j2w))
abbrev j9Z:=eq11 j2w j8H
def j2x[LP](s:J)(r:Y J)(l:J)(q:Tn59)(j:Tn53)(k:Tn30)(e:Tn70):O ((J×(Y J)×J×Tn59×Tn53×Tn30×Tn70) ⊕ ((Y J)×J×Tn59×Tn53×Tn30×Tn70)):=cond (N (s>0)) (let i:Y ByteArray:=[(Ã #[102,105,114,115,116]),(Ã #[115,101,99,111,110,100]),(Ã #[116,104,105,114,100])]
 let m:=U e.length
 let f:=Ä m 3
 cond (inR f i.length) (let n:=S i f.toNat À
 (j04 r l 4).bind λc=>(j6m s c.1 c.2.1 c.2.2 q j k n e ([]:Tn65)).bind λb=>(j04 b.2.1 b.2.2.1 4).bind λd=>(j8H b.1 d.1 d.2.1 d.2.2 b.2.2.2.1 b.2.2.2.2.1 b.2.2.2.2.2.1 b.2.2.2.2.2.2.1 b.2.2.2.2.2.2.2.1 b.2.2.2.2.2.2.2.2 ([]:Tn34)).bind λa=>let g:Tn70:=[(a.2.2.2.2.2.2.1,a.2.2.2.2.2.2.2.2)]
 cond (N (W a.2.2.2.2.2.2.2.1+W g<=j02)) (let o:Tn70:=a.2.2.2.2.2.2.2.1++g
 let p:=w64 (a.1-1)
 M (.inl (p,a.2.1,a.2.2.1,a.2.2.2.1,a.2.2.2.2.1,a.2.2.2.2.2.1,o))) Z) Z) (M (.inr (r,l,q,j,k,e)))
def j8I[LP]:=lp7 j2x
abbrev ja0:=eq7 j2x j8I
def j6F[LP](e:Y J)(d f:J):O (Tn76×(Y J)×J):=(j9z e d).bind λa=>(j04 a.2.1 a.2.2 f).bind λc=>let g:=w64 (1+c.1)
 (j8I g c.2.1 c.2.2 a.1.1 a.1.2.1 a.1.2.2.1 ([]:Tn70)).bind λb=>M (b.2.2,b.1,b.2.1)
def j87(a b:J):O Bool:=
 let e:Bool:=cond (cond (N (a>=0)) (N (a<=8589934592)) Á) (N (b>=a)) Á
 let d:=w64 (b-a)
 let c:Bool:=cond (cond e (N (b<=8589934592)) Á) (N (d<=34560000)) Á
 M c
def jhW[LP](b:Tn76)(a c d:J):O Int:=(jdM b).bind λe=>cond (e != 0) (M 8) (let g:=U b.2.2.2.length
 cond (cond (N (a<0)) Â (N (a>=g))) (M 3) ((j87 c d).bind λf=>cond (!f) (M 1) (M 0)))
def j5d[LP](v t o:J)(u:X)(g:J)(c:Tn47)(s:X)(b f e i k:J)(l:Y J)(m:Tn2)(d j:J)(n:Y J):O ((J×J×J×X×J×Tn47×X×J×J×J×J×J×(Y J)×Tn2×J×J×(Y J)) ⊕ (Tn1)):=(j7w (u,g,c) (s,b,(f,e),i,k,l,m,d,j) o).bind λa=>cond (cond (!a.2) Â (N (a.1>=t))) (M (.inr (0,n))) (cond (N (a.1>=v)) (cond (N (W n+W [a.1]<=j02)) (let q:Y Int:=n++[a.1]
 let r:=w64 (o+1)
 M (.inl (v,t,r,u,g,c,s,b,f,e,i,k,l,m,d,j,q))) Z) (let p:=w64 (o+1)
 M (.inl (v,t,p,u,g,c,s,b,f,e,i,k,l,m,d,j,n))))
def jaZ[LP]:=c8 c9 (LP.lp (u8 unc9 j5d))
abbrev jh0:=eq17 j5d jaZ
def j9B[LP](b:Tn57)(a:Tn64)(c d:J):O Tn0:=(jcb b a).bind λf=>cond (f != 0) (M (([]:(Y J)),8)) ((j87 c d).bind λj=>cond (!j) (M (([]:(Y J)),1)) ((jcd b a c).bind λe=>let g:Int:=if e>0 then e else 0
 (jaZ c d g b.1 b.2.1 b.2.2 a.1 a.2.1 a.2.2.1.1 a.2.2.1.2 a.2.2.2.1 a.2.2.2.2.1 a.2.2.2.2.2.1 a.2.2.2.2.2.2.1 a.2.2.2.2.2.2.2.1 a.2.2.2.2.2.2.2.2 ([]:(Y J))).bind λi=>M (i.2,i.1)))
def j5T(c:Tn2)(j k b a:J)(p:Tn2):O ((Tn2×J×J×J×J×Tn2) ⊕ (Tn2×J×J×J×Tn2)):=
 let l:=U c.length
 cond (N (a<l)) (cond (inR a c.length) (let q:=S c a.toNat (0,0)
 let d:=w64 (b+q.1)
 let i:Int:=if d>j then d else j
 cond (inR a c.length) (let o:=S c a.toNat (0,0)
 let f:=w64 (b+o.2)
 let g:Int:=if f<k then f else k
 cond (N (i<g)) (let e:Tn2:=[(i,g)]
 cond (N (W p+W e<=j02)) (let m:Tn2:=p++e
 let n:=w64 (a+1)
 M (.inl (c,j,k,b,n,m))) Z) (let r:=w64 (a+1)
 M (.inl (c,j,k,b,r,p)))) Z) Z) (M (.inr (c,j,k,b,p)))
def jd0[LP]:=lp6 j5T
theorem jfv(d c e a b f):jd0 d c e a b f=lpK (j5T d c e a b f) (λh=>jd0 h.1 h.2.1 h.2.2.1 h.2.2.2.1 h.2.2.2.2.1 h.2.2.2.2.2):=j0d _ _
def j5U[LP](g:Tn2)(f d c:J)(e:Tn2):O ((Tn2×J×J×J×Tn2) ⊕ (Tn2)):=cond (N (c<d)) ((jd0 g f d c 0 e).bind λa=>let b:=w64 (a.2.2.2.1+604800)
 M (.inl (a.1,a.2.1,a.2.2.1,b,a.2.2.2.2))) (M (.inr e))
def jfw[LP]:=lp5 j5U
abbrev jfx:=eq5 j5U jfw
def jfy[LP](d:Tn2)(a c b:J):O Tn2:=
 let l:=w64 (a+b)
 let o:=w64 (a+b)
 let p:=w64 (o+864000)
 let k:=w64 (É p 86400)
 let m:=w64 (k-10)
 let n:=w64 (a+b)
 let i:=w64 (n+864000)
 let e:=Ä i 86400
 (j7M (m,e)).bind λj=>let g:=w64 (l-j)
 let f:=w64 (g-b)
 (jfw d a c f ([]:Tn2)).bind λq=>M q
def j6n(f:J)(e g:Tn2):O ((Tn2×J×Tn2) ⊕ (Tn2)):=cond (inR f e.length) (let b:=S e f.toNat (0,0)
 let a:Tn2:=[b]
 cond (N (W g+W a<=j02)) (let d:Tn2:=g++a
 let c:=w64 (f+1)
 M (.inl (e,c,d))) Z) Z
def j6G(d:Tn2)(e:J)(b:Tn2):O ((Tn2×J×Tn2) ⊕ (Tn2)):=
 let m:=U d.length
 cond (N (e<m)) (let a:=U b.length
 cond (N (a>0)) (let f:=w64 (a-1)
 cond (inR f b.length) (let g:=(S b f.toNat (0,0)).2
 cond (inR e d.length) (let i:=S d e.toNat (0,0)
 cond (g==i.1) (let c:=w64 (a-1)
 cond (inR e d.length) (let k:=S d e.toNat (0,0)
 cond (inR c b.length) (let l:Tn2:=Ç b c.toNat ((S b c.toNat (0,0)).1,k.2)
 let j:=w64 (e+1)
 M (.inl (d,j,l))) Z) Z) (j6n e d b)) Z) Z) (j6n e d b)) (M (.inr b))
def jek[LP]:=lp3 j6G
theorem jgt(a b c):jek a b c=lpK (j6G a b c) (λh=>jek h.1 h.2.1 h.2.2):=j0d _ _
def jhX[LP](a b:Tn2):O Tn2:=(jek b 0 a).bind λc=>M c
def j3W[LP](n:J)(k:Tn2)(q:J)(i:Tn2)(j o p:J)(l:X)(d:J)(a:Tn47)(g:Tn2)(m:J):O ((Tn2×J×J×J×X×J×Tn47×Tn2×Tn2) ⊕ (Tn2)):=cond (N (n<m)) ((jfy k n m q).bind λf=>(jhX i f).bind λe=>let b:=w64 (j+1)
 M (.inl (k,o,p,b,l,d,a,g,e))) (let c:=w64 (j+1)
 M (.inl (k,o,p,c,l,d,a,g,i)))
def j5u[LP](d:J)(a:Tn2)(g:J)(m l:Tn2)(q:J)(n:X)(f:J)(e:Tn47)(p o:J):O ((Tn2×J×J×J×X×J×Tn47×Tn2×Tn2) ⊕ (Tn2)):=
 let i:=w64 (d+1)
 let k:=U a.length
 cond (N (i<k)) (let c:=w64 (d+1)
 cond (inR c a.length) (let b:=(S a c.toNat (0,0)).1
 let j:Int:=if b<g then b else g
 j3W p m o l d q g n f e a j) Z) (j3W p m o l d q g n f e a g)
def j5V[LP](l:Tn2)(g n a:J)(m:X)(c:J)(e:Tn47)(b f:Tn2):O ((Tn2×J×J×J×X×J×Tn47×Tn2×Tn2) ⊕ (Tn2)):=
 let k:=U b.length
 cond (N (a<k)) (cond (N (a>=0)) (cond (inR a b.length) (let i:=(S b a.toNat (0,0)).2
 cond (inR a b.length) (let d:=(S b a.toNat (0,0)).1
 let j:Int:=if d>g then d else g
 j5u a b n l f g m c e j i) Z) Z) (j5u a b n l f g m c e g c)) (M (.inr f))
def jd1[LP]:=lp9 j5V
abbrev jfz:=eq9 j5V jd1
def jdP[LP](a:Tn57)(d:Tn2)(b c:J):O (Tn2×J):=(j0q a).bind λe=>cond (e.2 != 0) (M (([]:Tn2),8)) ((jaI d).bind λg=>cond (g != 0) (M (([]:Tn2),8)) ((j87 b c).bind λi=>cond (!i) (M (([]:Tn2),1)) ((jd1 d b c (-1) a.1 a.2.1 a.2.2 e.1 ([]:Tn2)).bind λj=>let f:=U j.length
 cond (N (f>4096)) (M (([]:Tn2),5)) (M (j,0)))))
def j3X(l b:J)(k:Y J)(n:J)(m:X)(e:J)(g:Tn47)(o:Tn2)(r q p:J):O ((J×X×J×Tn47×J×J×Tn2×(Y J)) ⊕ (Y J)):=
 let i:=w64 (l*86400)
 let f:=w64 (i+b)
 let a:=w64 (f-r)
 cond (cond (N (a>=q)) (N (a<p)) Á) (cond (N (W k+W [a]<=j02)) (let j:Y Int:=k++[a]
 let c:=w64 (n+1)
 M (.inl (c,m,e,g,l,b,o,j))) Z) (let d:=w64 (n+1)
 M (.inl (d,m,e,g,l,b,o,k)))
def j3Y(i:J)(e:Tn2)(o d:J)(n:Y J)(k:X)(b:J)(c:Tn47)(m l:J):O ((J×X×J×Tn47×J×J×Tn2×(Y J)) ⊕ (Y J)):=
 let g:=w64 (i+1)
 let f:=U e.length
 cond (N (g<f)) (let a:=w64 (i+1)
 cond (inR a e.length) (let j:=(S e a.toNat (0,0)).1
 j3X o d n i k b c e m l j) Z) (j3X o d n i k b c e m l 8589934593)
def j3N(a:J)(k:X)(b:J)(d:Tn47)(l e:J)(c:Tn2)(j:Y J):O ((J×X×J×Tn47×J×J×Tn2×(Y J)) ⊕ (Y J)):=
 let g:=U c.length
 cond (N (a<g)) (cond (N (a>=0)) (cond (inR a c.length) (let f:=(S c a.toNat (0,0)).2
 cond (inR a c.length) (let i:=(S c a.toNat (0,0)).1
 j3Y a c l e j k b d f i) Z) Z) (j3Y a c l e j k b d b 0)) (M (.inr j))
def j4S[LP]:=lp8 j3N
abbrev jcf:=eq8 j3N j4S
def j7N[LP](a:Tn57)(b:J×J):O Tn0:=(j0q a).bind λc=>cond (c.2 != 0) (M (([]:(Y J)),8)) ((j9r b.2 0 86399).bind λd=>cond (!d) (M (([]:(Y J)),1)) ((jdN b.1).bind λe=>cond (!e) (M (([]:(Y J)),0)) ((j4S (-1) a.1 a.2.1 a.2.2 b.1 b.2 c.1 ([]:(Y J))).bind λf=>M (f,0))))
def j6H(b:J)(x:Tn59)(j:Tn53)(e:Tn30)(p:Tn70)(w:X)(d i g k m:J)(n:Y J)(o:Tn2)(f l:J)(c:Y J)(a:Tn2):O ((J×Tn59×Tn53×Tn30×Tn70×X×J×J×J×J×J×(Y J)×Tn2×J×J×(Y J)×Tn2) ⊕ (Tn59×Tn53×Tn30×Tn70×X×J×J×J×J×J×(Y J)×Tn2×J×J×(Y J))):=
 let q:=U a.length
 cond (N (b<q)) (cond (inR b a.length) (let t:=(S a b.toNat (0,0)).1
 cond (inR b a.length) (let s:=(S a b.toNat (0,0)).2
 let v:Y Int:=[t,s]
 cond (N (W c+W v<=j02)) (let r:Y Int:=c++v
 let u:=w64 (b+1)
 M (.inl (u,x,j,e,p,w,d,i,g,k,m,n,o,f,l,r,a))) Z) Z) Z) (M (.inr (x,j,e,p,w,d,i,g,k,m,n,o,f,l,c)))
def jh1[LP]:=c8 c9 (LP.lp (u8 unc9 j6H))
abbrev jgu:=eq17 j6H jh1
def j6I(c:J)(o:Tn59)(j:Tn53)(g:Tn30)(k:Tn70)(n:X)(d:J)(e f:Y J)(b:Tn2):O ((J×Tn59×Tn53×Tn30×Tn70×X×J×(Y J)×(Y J)×Tn2) ⊕ (Tn59×Tn53×Tn30×Tn70×X×J×(Y J)×(Y J))):=
 let l:=U b.length
 cond (N (c<l)) (cond (inR c b.length) (let a:=(S b c.toNat (0,0)).1
 cond (N (W f+W [a]<=j02)) (let i:Y Int:=f++[a]
 let m:=w64 (c+1)
 M (.inl (m,o,j,g,k,n,d,e,i,b))) Z) Z) (M (.inr (o,j,g,k,n,d,e,f)))
def jae[LP]:=c8 c2 (LP.lp (u8 unc2 j6I))
abbrev jgv:=eq10 j6I jae
def j4T[LP](e n:J)(p:Tn59)(l:Tn53)(i:Tn30)(o:Tn70)(q:X)(a:J)(b f:Y J):O ((J×J×Tn59×Tn53×Tn30×Tn70×X×J×(Y J)×(Y J)) ⊕ (J×Tn59×Tn53×Tn30×Tn70×X×J×(Y J)×(Y J))):=cond (N (n<2)) (cond (inR a p.length) (let c:=S p a.toNat (À,0,[])
 cond (inR e b.length) (let k:=S b e.toNat 0
 let g:=w64 (k+n)
 (j7N c (g,0)).bind λd=>cond (N (W f+W d.1<=j02)) (let m:Y Int:=f++d.1
 let j:=w64 (n+1)
 M (.inl (e,j,p,l,i,o,q,a,b,m))) Z) Z) Z) (M (.inr (e,p,l,i,o,q,a,b,f)))
def jh2[LP]:=c8 c2 (LP.lp (u8 unc2 j4T))
abbrev jde:=eq10 j4T jh2
def j6J[LP](g:J)(m:Tn59)(j:Tn53)(i:Tn30)(k:Tn70)(l:X)(e:J)(b f:Y J):O ((J×Tn59×Tn53×Tn30×Tn70×X×J×(Y J)×(Y J)) ⊕ (Y J)):=
 let c:=U b.length
 cond (N (g<c)) ((jh2 g 0 m j i k l e b f).bind λa=>let d:=w64 (a.1+1)
 M (.inl (d,a.2.1,a.2.2.1,a.2.2.2.1,a.2.2.2.2.1,a.2.2.2.2.2.1,a.2.2.2.2.2.2.1,a.2.2.2.2.2.2.2.1,a.2.2.2.2.2.2.2.2))) (M (.inr f))
def jcg[LP]:=lp9 j6J
abbrev jgw:=eq9 j6J jcg
def jhY[LP](b:Tn76)(a:Tn64)(f l:J):O (Y J):=cond (inR a.2.1 b.1.length) (let g:=S b.1 a.2.1.toNat (À,0,[])
 (j9B g a f l).bind λp=>cond (N (W ([]:(Y J))+W p.1<=j02)) (let m:Y Int:=([]:(Y J))++p.1
 let t:=U a.2.2.2.2.2.2.1.length
 cond (N (t>0)) ((jdP g a.2.2.2.2.2.2.1 f l).bind λs=>(jh1 0 b.1 b.2.1 b.2.2.1 b.2.2.2 a.1 a.2.1 a.2.2.1.1 a.2.2.1.2 a.2.2.2.1 a.2.2.2.2.1 a.2.2.2.2.2.1 a.2.2.2.2.2.2.1 a.2.2.2.2.2.2.2.1 a.2.2.2.2.2.2.2.2 m s.1).bind λe=>cond (e.2.2.2.2.2.2.2.2.2.2.2.2.2.1==0) (M e.2.2.2.2.2.2.2.2.2.2.2.2.2.2) (cond (inR e.2.2.2.2.2.2.2.2.2.2.2.2.1 e.2.2.1.length) (let k:=S e.2.2.1 e.2.2.2.2.2.2.2.2.2.2.2.2.1.toNat (À,0,[])
 cond (inR k.2.1 e.1.length) (let n:=S e.1 k.2.1.toNat (À,0,[])
 (j0q n).bind λr=>(jae 0 e.1 e.2.1 e.2.2.1 e.2.2.2.1 k.1 k.2.1 k.2.2 e.2.2.2.2.2.2.2.2.2.2.2.2.2.2 r.1).bind λj=>(jcg 0 j.1 j.2.1 j.2.2.1 j.2.2.2.1 j.2.2.2.2.1 j.2.2.2.2.2.1 j.2.2.2.2.2.2.1 j.2.2.2.2.2.2.2).bind λu=>M u) Z) Z)) (cond (a.2.2.2.2.2.2.2.2==0) (M m) (cond (inR a.2.2.2.2.2.2.2.1 b.2.2.1.length) (let d:=S b.2.2.1 a.2.2.2.2.2.2.2.1.toNat (À,0,[])
 cond (inR d.2.1 b.1.length) (let i:=S b.1 d.2.1.toNat (À,0,[])
 (j0q i).bind λo=>(jae 0 b.1 b.2.1 b.2.2.1 b.2.2.2 d.1 d.2.1 d.2.2 m o.1).bind λc=>(jcg 0 c.1 c.2.1 c.2.2.1 c.2.2.2.1 c.2.2.2.2.1 c.2.2.2.2.2.1 c.2.2.2.2.2.2.1 c.2.2.2.2.2.2.2).bind λq=>M q) Z) Z))) Z) Z
def j6o(k:J)(g c:Y J)(m:J)(l:Y J):O ((J×J×(Y J)×(Y J)×(Y J)) ⊕ (Y J)):=cond (inR k g.length) (let a:=S g k.toNat 0
 let d:=w64 (k+1)
 let e:=U c.length
 let i:=U c.length
 let b:=w64 (i-1)
 cond ((inR b c.length) || !(!(e==0))) (let j:=S c b.toNat 0
 cond (cond (e==0) Â (j != a)) (cond (N (W c+W [a]<=j02)) (let f:Y Int:=c++[a]
 M (.inl (m,d,f,l,g))) Z) (M (.inl (m,d,c,l,g)))) Z) Z
def j6p(k:J)(g b:Y J)(m:J)(l:Y J):O ((J×J×(Y J)×(Y J)×(Y J)) ⊕ (Y J)):=cond (inR k g.length) (let a:=S g k.toNat 0
 let e:=w64 (k+1)
 let c:=U b.length
 let f:=U b.length
 let d:=w64 (f-1)
 cond ((inR d b.length) || !(!(c==0))) (let j:=S b d.toNat 0
 cond (cond (c==0) Â (j != a)) (cond (N (W b+W [a]<=j02)) (let i:Y Int:=b++[a]
 M (.inl (e,m,i,g,l))) Z) (M (.inl (e,m,b,g,l)))) Z) Z
def j6K(m:(Y J)->O (Y J))(c d:J)(e b a:Y J):O ((J×J×(Y J)×(Y J)×(Y J)) ⊕ (Y J)):=
 let g:=U b.length
 let j:=U a.length
 cond (cond (N (c<g)) Â (N (d<j))) (let k:=U a.length
 cond (d==k) (j6p c b e d a) (let l:=U b.length
 cond (N (c<l)) (cond (inR c b.length) (let i:=S b c.toNat 0
 cond (inR d a.length) (let f:=S a d.toNat 0
 cond (N (i<=f)) (j6p c b e d a) (j6o d a e c b)) Z) Z) (j6o d a e c b))) (M (.inr e))
def jel[LP](a:(Y J)->O (Y J))(e f:J)(c d b:Y J):O (Y J):=LP.lp (unc5 (j6K a)) (e,f,c,d,b)
theorem jgx(a:(Y J)->O (Y J))(e f:J)(c d b:Y J):jel a e f c d b=lpK (j6K a e f c d b) (λh=>jel a h.1 h.2.1 h.2.2.1 h.2.2.2.1 h.2.2.2.2):=j0d _ _
def jbq[LP](d:(Y J)->O (Y J))(a:Y J):O (Y J):=
 let g:=U a.length
 cond (N (g<2)) (cond (N (W ([]:(Y J))+W a<=j02)) (let k:Y Int:=([]:(Y J))++a
 M k) Z) (let e:=U a.length
 let c:=w64 (É e 2)
 cond (N ((0:J)<=0)&&(N (0<=c)&&N (c<=(U a.length)))) (let l:Y Int:=Í 0 (Ë c.toNat a)
 (d l).bind λm=>let j:=U a.length
 let b:=w64 (É j 2)
 cond (N (0<=b)&&(N (b<=(U a.length))&&N ((U a.length)<=(U a.length)))) (let f:Y Int:=Í b.toNat (Ë a.length a)
 (d f).bind λi=>(jel d 0 0 ([]:(Y J)) m i).bind λn=>M n) Z) Z)
def j5e[LP](b:(Y J)->O (Y J))(h:Y J):O (Y J):=jbq (λa=>b a) h
def jnG[LP](a:Y J):O (Y J):=LP.rp j5e a
def j4J(e j a:J)(i b:Y J):O ((J×J×J×(Y J)×(Y J)) ⊕ (J×J×(Y J))):=
 let f:=U b.length
 cond (N (a<f)) (cond (inR a b.length) (let c:=S b a.toNat 0
 cond ((inR a b.length) || !(N (c>e))) (let l:=S b a.toNat 0
 cond (cond (N (c>e)) (N (l<j)) Á) (cond (inR a b.length) (let d:=S b a.toNat 0
 cond (N (W i+W [d]<=j02)) (let g:Y Int:=i++[d]
 let k:=w64 (a+1)
 M (.inl (e,j,k,g,b))) Z) Z) (let m:=w64 (a+1)
 M (.inl (e,j,m,i,b)))) Z) Z) (M (.inr (e,j,i)))
def jao[LP]:=lp5 j4J
theorem jdQ(a d c b e):jao a d c b e=lpK (j4J a d c b e) (λh=>jao h.1 h.2.1 h.2.2.1 h.2.2.2.1 h.2.2.2.2):=j0d _ _
def jem[LP](c:Y J)(a d:J):O (Y J):=(jnG c).bind λe=>(jao a d 0 [a] e).bind λb=>cond (N (b.2.1>b.1)) (cond (N (W b.2.2+W [b.2.1]<=j02)) (let f:Y Int:=b.2.2++[b.2.1]
 M f) Z) (M b.2.2)
def j6L[LP](n o c:J)(p:Tn59)(i:Tn53)(f:Tn30)(j:Tn70)(q:X)(b:Tn65)(g:Tn34)(e:Y J):O ((J×J×J×Tn59×Tn53×Tn30×Tn70×X×Tn65×Tn34×(Y J)) ⊕ (J×J×X×Tn65×Tn34×(Y J))):=
 let k:=U b.length
 cond (N (c<k)) (cond (inR c b.length) (let a:=S b c.toNat (À,0,(0,0),0,0,[],[],0,0)
 (jhY (p,i,f,j) a n o).bind λd=>cond (N (W e+W d<=j02)) (let l:Y Int:=e++d
 let m:=w64 (c+1)
 M (.inl (n,o,m,p,i,f,j,q,b,g,l))) Z) Z) (M (.inr (n,o,q,b,g,e)))
def jh3[LP]:=c8 c3 (LP.lp (u8 unc3 j6L))
abbrev jgy:=eq11 j6L jh3
def j6M(l m b:J)(n:X)(k:Tn65)(a:Tn34)(d:Y J):O ((J×J×J×X×Tn65×Tn34×(Y J)) ⊕ (J×J×(Y J))):=
 let i:=U a.length
 cond (N (b<i)) (cond (inR b a.length) (let e:=S a b.toNat (0,0,0,0,0)
 cond (inR b a.length) (let g:=S a b.toNat (0,0,0,0,0)
 let c:Y Int:=[e.2.2.2.1,g.2.2.2.2]
 cond (N (W d+W c<=j02)) (let j:Y Int:=d++c
 let f:=w64 (b+1)
 M (.inl (l,m,f,n,k,a,j))) Z) Z) Z) (M (.inr (l,m,d)))
def jh4[LP]:=lp7 j6M
abbrev jgz:=eq7 j6M jh4
def jk1[LP](b:Tn76)(a c f:J):O (Y J):=cond (inR a b.2.2.2.length) (let e:=S b.2.2.2 a.toNat (À,[],[])
 (jh3 c f 0 b.1 b.2.1 b.2.2.1 b.2.2.2 e.1 e.2.1 e.2.2 ([]:(Y J))).bind λd=>(jh4 d.1 d.2.1 0 d.2.2.1 d.2.2.2.1 d.2.2.2.2.1 d.2.2.2.2.2).bind λg=>(jem g.2.2 g.1 g.2.1).bind λi=>M i) Z
def jbr(a:Tn4)(c:Tn17):O Tn17:=
 let b:Tn17:=[a]
 cond (N (W c+W b<=j02)) (let d:Tn17:=c++b
 M d) Z
def jga(a:Tn17)(b:Tn4):O Tn17:=cond (N (b.2.1<=b.1)) (M a) (let d:=U a.length
 cond (N (d>0)) (let f:=w64 (d-1)
 cond (inR f a.length) (let i:=(S a f.toNat (0,0,0)).2.1
 cond (i==b.1) (let e:=w64 (d-1)
 cond (inR e a.length) (let g:=(S a e.toNat (0,0,0)).2.2
 cond (g==b.2.2) (let c:=w64 (d-1)
 cond (inR c a.length) (let j:Tn17:=Ç a c.toNat ((S a c.toNat (0,0,0)).1,b.2.1,(S a c.toNat (0,0,0)).2.2)
 M j) Z) (jbr b a)) Z) (jbr b a)) Z) (jbr b a))
def j5f[LP](q a:J)(r:Tn59)(e:Tn53)(d:Tn30)(f:Tn70)(b:Y J)(p:Tn17):O ((J×J×Tn59×Tn53×Tn30×Tn70×(Y J)×Tn17) ⊕ (Tn17)):=
 let k:=w64 (a+1)
 let n:=U b.length
 cond (N (k<n)) (cond (inR a b.length) (let g:=S b a.toNat 0
 let c:=w64 (a+1)
 cond (inR c b.length) (let m:=S b c.toNat 0
 cond (inR a b.length) (let o:=S b a.toNat 0
 (jgY (r,e,d,f) q o).bind λj=>(jga p (g,m,j)).bind λl=>let i:=w64 (a+1)
 M (.inl (q,i,r,e,d,f,b,l))) Z) Z) Z) (M (.inr p))
def jen[LP]:=lp8 j5f
abbrev jeO:=eq8 j5f jen
def jgb[LP](a:Tn76)(b c d:J):O Tn17:=(jk1 a b c d).bind λe=>(jen b 0 a.1 a.2.1 a.2.2.1 a.2.2.2 e ([]:Tn17)).bind λf=>M f
def jd2[LP](a:Tn76)(b c d:J):O (Tn17×J):=(jhW a b c d).bind λe=>cond (e != 0) (M (([]:Tn17),e)) ((jgb a b c d).bind λf=>let g:=U f.length
 cond (N (g>16384)) (M (([]:Tn17),5)) (M (f,0)))
def j5W(m a:J)(b:Tn17)(d:Tn2):O ((J×J×Tn17×Tn2) ⊕ (Tn2)):=
 let g:=U b.length
 cond (N (a<g)) (cond (inR a b.length) (let e:=(S b a.toNat (0,0,0)).2.2
 cond (e==m) (cond (inR a b.length) (let k:=(S b a.toNat (0,0,0)).1
 cond (inR a b.length) (let i:=(S b a.toNat (0,0,0)).2.1
 let c:Tn2:=[(k,i)]
 cond (N (W d+W c<=j02)) (let l:Tn2:=d++c
 let f:=w64 (a+1)
 M (.inl (m,f,b,l))) Z) Z) Z) (let j:=w64 (a+1)
 M (.inl (m,j,b,d)))) Z) (M (.inr d))
def jd3[LP]:=lp4 j5W
abbrev jfA:=eq4 j5W jd3
def jfB[LP](b:Tn76)(a c d f:J):O (Tn2×J):=(jd2 b a d f).bind λe=>cond (e.2 != 0) (M (([]:Tn2),e.2)) ((jd3 c 0 e.1 ([]:Tn2)).bind λi=>let g:=U i.length
 cond (N (g>4096)) (M (([]:Tn2),5)) (M (i,0)))
def jhZ[LP](b:Tn76)(a c d:J):O (Tn2×J):=(jfB b a (-1) c d).bind λe=>M e
def jk2(b a:J):O Int:=cond (!(a==0)) (let d:=Ä b a
 let e:=w64 (d+a)
 cond (!(a==0)) (let c:=Ä e a
 M c) Z) Z
def j5X(a:Tn2)(b:J):O ((Tn2×J) ⊕ (Æ ⊕ Ê)):=
 let m:=U a.length
 cond (N (b<m)) (cond (inR b a.length) (let j:=S a b.toNat (0,0)
 cond (N (j.1<0)) (M (.inr (.inl Á))) (cond (inR b a.length) (let k:=S a b.toNat (0,0)
 cond (inR b a.length) (let f:=S a b.toNat (0,0)
 cond (N (k.1>=f.2)) (M (.inr (.inl Á))) (cond (inR b a.length) (let l:=S a b.toNat (0,0)
 cond (N (l.2>8589934592)) (M (.inr (.inl Á))) (cond (N (b>0)) (cond (inR b a.length) (let d:=S a b.toNat (0,0)
 let c:=w64 (b-1)
 cond (inR c a.length) (let e:=S a c.toNat (0,0)
 cond (N (d.1<=e.2)) (M (.inr (.inl Á))) (let i:=w64 (b+1)
 M (.inl (a,i)))) Z) Z) (let g:=w64 (b+1)
 M (.inl (a,g))))) Z)) Z) Z)) Z) (M (.inr (.inr ())))
def jfC[LP]:=lp2 j5X
abbrev jfD:=eq2 j5X jfC
def ji0[LP](a:Tn2):O Bool:=
 let b:=U a.length
 cond (N (b>4096)) (M Á) ((jfC a 0).bind λc=>sumC c (λd=>M d) (λe=>M Â))
def j7z(b:Tn2)(c f i:J):O ((Tn2×J×J×J) ⊕ (Tn2×J×J)):=cond (N (f<i)) (let g:=w64 (f+i)
 let a:=w64 (É g 2)
 cond (inR a b.length) (let d:=S b a.toNat (0,0)
 cond (N (d.2<=c)) (let e:=w64 (a+1)
 M (.inl (b,c,e,i))) (M (.inl (b,c,f,a)))) Z) (M (.inr (b,c,f)))
def jiS[LP]:=lp4 j7z
abbrev ji1:=eq4 j7z jiS
def jqu[LP](b:Tn2)(d:J):O Bool:=
 let f:=U b.length
 (jiS b d 0 f).bind λa=>let c:=U a.1.length
 cond ((inR a.2.2 a.1.length) || !(N (a.2.2<c))) (let e:=S a.1 a.2.2.toNat (0,0)
 M (cond (N (a.2.2<c)) (N (e.1<=a.2.1)) Á)) Z
def jiT[LP](a:Tn2)(b:J):O Bool:=(ji0 a).bind λd=>cond d ((jqu a b).bind λc=>M c) (M Á)
def j21(p r s n a:J)(t:Tn59)(e:Tn53)(j:Tn30)(i:Tn70)(q:Tn59)(d:Tn53)(g:Tn30)(k:Tn70)(f o l:Tn2):O ((J×J×J×J×J×Tn59×Tn53×Tn30×Tn70×Tn59×Tn53×Tn30×Tn70×Tn2×Tn2×Tn2) ⊕ (Æ ⊕ (J×J×J×Tn59×Tn53×Tn30×Tn70×Tn59×Tn53×Tn30×Tn70×Tn2))):=cond (N (a<n)) (cond (inR a l.length) (let b:=S l a.toNat (0,0)
 cond (inR a f.length) (let c:=S f a.toNat (0,0)
 cond (!((b.1==c.1)&&(b.2==c.2))) (M (.inr (.inl Á))) (let m:=w64 (a+1)
 M (.inl (p,r,s,n,m,t,e,j,i,q,d,g,k,f,o,l)))) Z) Z) (M (.inr (.inr (p,r,s,t,e,j,i,q,d,g,k,o))))
def j3O[LP](n q m k l:J)(o:Tn59)(e:Tn53)(d:Tn30)(f:Tn70)(p:Tn59)(a:Tn53)(b:Tn30)(c:Tn70)(g j i:Tn2):O (Æ ⊕ (J×J×J×Tn59×Tn53×Tn30×Tn70×Tn59×Tn53×Tn30×Tn70×Tn2)):=LP.lp (u8 unc8 j21) (n,q,m,k,l,o,e,d,f,p,a,b,c,g,j,i)
theorem j8U(n q m k l o e d f p a b c g j i):j3O n q m k l o e d f p a b c g j i=lpK (j21 n q m k l o e d f p a b c g j i) (λh=>j3O h.1 h.2.1 h.2.2.1 h.2.2.2.1 h.2.2.2.2.1 h.2.2.2.2.2.1 h.2.2.2.2.2.2.1 h.2.2.2.2.2.2.2.1 h.2.2.2.2.2.2.2.2.1 h.2.2.2.2.2.2.2.2.2.1 h.2.2.2.2.2.2.2.2.2.2.1 h.2.2.2.2.2.2.2.2.2.2.2.1 h.2.2.2.2.2.2.2.2.2.2.2.2.1 h.2.2.2.2.2.2.2.2.2.2.2.2.2.1 h.2.2.2.2.2.2.2.2.2.2.2.2.2.2.1 h.2.2.2.2.2.2.2.2.2.2.2.2.2.2.2):=j0d _ _
def j22[LP](l:Y J)(b:J)(q:Tn59)(f:Tn53)(e:Tn30)(i:Tn70)(r:Tn59)(c:Tn53)(g:Tn30)(d:Tn70)(m:Tn2):O (((Y J)×J×Tn59×Tn53×Tn30×Tn70×Tn59×Tn53×Tn30×Tn70×Tn2) ⊕ (Æ ⊕ Ê)):=cond (N (b<3)) (cond (inR b 3) (let a:=S l b.toNat 0
 (jiT m a).bind λk=>cond (!k) ((jaY (r,c,g,d) 0 a).bind λp=>(jaY (q,f,e,i) 0 a).bind λn=>cond (p != n) (M (.inr (.inl Á))) (let o:=w64 (b+1)
 M (.inl (l,o,q,f,e,i,r,c,g,d,m)))) (let j:=w64 (b+1)
 M (.inl (l,j,q,f,e,i,r,c,g,d,m)))) Z) (M (.inr (.inr ())))
def j5g[LP]:=c8 c3 (LP.lp (u8 unc3 j22))
abbrev j8V:=eq11 j22 j5g
def j9C[LP](g:Y J)(k:J):O Bool:=(jiJ g).bind λo=>cond (!o) ((jg8).bind λv=>M v) ((jl0 g).bind λi=>(j6F i.1 i.2 1).bind λa=>(j5S a.2.1 a.2.2).bind λc=>let e:=w64 (c.1+172800)
 (jcW a.1 0 c.1 e 0 ([]:Tn16)).bind λb=>(jhZ a.1 0 c.1 e).bind λj=>(jhZ b.1 0 c.1 e).bind λf=>let u:=U f.1.length
 let m:=U b.2.1.length
 let n:Bool:=cond (cond (cond (b.2.2 != 0) Â (j.2 != 0)) Â (f.2 != 0)) Â (u != m)
 cond n (M Á) (let s:=U f.1.length
 (j3O k c.1 e s 0 a.1.1 a.1.2.1 a.1.2.2.1 a.1.2.2.2 b.1.1 b.1.2.1 b.1.2.2.1 b.1.2.2.2 b.2.1 j.1 f.1).bind λz=>sumC z (λa1=>M a1) (λd=>let p:=w64 (d.2.2.1-d.2.1)
 (jk2 d.1 p).bind λq=>let x:=w64 (d.2.1+q)
 let w:=w64 (d.2.1-1)
 let t:Y Int:=[x,w,d.2.2.1]
 (j5g t 0 d.2.2.2.1 d.2.2.2.2.1 d.2.2.2.2.2.1 d.2.2.2.2.2.2.1 d.2.2.2.2.2.2.2.1 d.2.2.2.2.2.2.2.2.1 d.2.2.2.2.2.2.2.2.2.1 d.2.2.2.2.2.2.2.2.2.2.1 d.2.2.2.2.2.2.2.2.2.2.2).bind λy=>sumC y (λr=>M r) (λa0=>(jg8).bind λl=>M l))))
end
end Go.Proofs.Pw
