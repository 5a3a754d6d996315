/- Plain functions, printed by a program out of the given code. -/
import Derived.Test.YtlnljpfkgigljaaGreatPOLS
open _root_ renaming Int->J,Option->S,ByteArray->X,List->Y,Bool->Ç,Unit->Ê
open Option renaming some->M,none->Z
open Decidable renaming decide->N
open List renaming getD->O,length->W,set->Æ,take->Ë,replicate->Ì,drop->Í
open Int renaming ofNat->U,tmod->Å,tdiv->É,fdiv->Ï
open ByteArray renaming empty->À,mk->Ã,size->Ä,toList->È
open Bool renaming false->Á,true->Â
open Go Go.Lft
set_option linter.unusedVariables false
namespace Go.Proofs.Pw
noncomputable section
abbrev Tn2:Type:=(Y (J×J))
abbrev Tn1:Type:=(J×(Y J))
abbrev Tn0:Type:=((Y J)×J)
abbrev Tn4:Type:=(J×J×J)
abbrev Tn3:Type:=((J×J)×J)
abbrev Tn17:Type:=(Y Tn4)
abbrev Tn16:Type:=(Y Tn3)
abbrev Tn15:Type:=(J×Tn2)
abbrev Tn22:Type:=(X×Tn1)
abbrev Tn25:Type:=(Y Tn17)
abbrev Tn23:Type:=(Y Tn15)
abbrev Tn27:Type:=(Y (J×Tn4))
abbrev Tn28:Type:=(J×J×Tn4)
abbrev Tn30:Type:=(Y Tn22)
abbrev Tn34:Type:=(Y Tn28)
abbrev Tn43:Type:=(J×J×Tn28)
abbrev Tn47:Type:=(Y Tn43)
abbrev Tn49:Type:=(X×J×Tn2×J×J×Ç)
abbrev Tn53:Type:=(Y Tn49)
abbrev Tn57:Type:=(X×J×Tn47)
abbrev Tn59:Type:=(Y Tn57)
abbrev Tn64:Type:=(X×J×(J×J)×J×J×(Y J)×Tn2×J×J)
abbrev Tn65:Type:=(Y Tn64)
abbrev Tn69:Type:=(X×Tn65×Tn34)
abbrev Tn70:Type:=(Y Tn69)
abbrev Tn76:Type:=(Tn59×Tn53×Tn30×Tn70)
abbrev Tn78:Type:=(Tn76×Tn23)
abbrev u8{A B C D E F G H T I R:Type}(u:T->I->R)(f:A->B->C->D->E->F->G->H->T)(h:A×B×C×D×E×F×G×H×I):R:=u (f h.1 h.2.1 h.2.2.1 h.2.2.2.1 h.2.2.2.2.1 h.2.2.2.2.2.1 h.2.2.2.2.2.2.1 h.2.2.2.2.2.2.2.1) h.2.2.2.2.2.2.2.2
abbrev unc2{A0 A1 R:Type}(f:A0->A1->R)(h:A0×A1):R:=f h.1 h.2
abbrev unc3{A0 A1 A2 R:Type}(f:A0->A1->A2->R)(h:A0×A1×A2):R:=f h.1 h.2.1 h.2.2
abbrev unc4{A0 A1 A2 A3 R:Type}(f:A0->A1->A2->A3->R)(h:A0×A1×A2×A3):R:=f h.1 h.2.1 h.2.2.1 h.2.2.2
abbrev unc5{A0 A1 A2 A3 A4 R:Type}(f:A0->A1->A2->A3->A4->R)(h:A0×A1×A2×A3×A4):R:=f h.1 h.2.1 h.2.2.1 h.2.2.2.1 h.2.2.2.2
abbrev unc6{A0 A1 A2 A3 A4 A5 R:Type}(f:A0->A1->A2->A3->A4->A5->R)(h:A0×A1×A2×A3×A4×A5):R:=f h.1 h.2.1 h.2.2.1 h.2.2.2.1 h.2.2.2.2.1 h.2.2.2.2.2
abbrev unc7{A0 A1 A2 A3 A4 A5 A6 R:Type}(f:A0->A1->A2->A3->A4->A5->A6->R)(h:A0×A1×A2×A3×A4×A5×A6):R:=f h.1 h.2.1 h.2.2.1 h.2.2.2.1 h.2.2.2.2.1 h.2.2.2.2.2.1 h.2.2.2.2.2.2
abbrev unc8{A0 A1 A2 A3 A4 A5 A6 A7 R:Type}(f:A0->A1->A2->A3->A4->A5->A6->A7->R)(h:A0×A1×A2×A3×A4×A5×A6×A7):R:=f h.1 h.2.1 h.2.2.1 h.2.2.2.1 h.2.2.2.2.1 h.2.2.2.2.2.1 h.2.2.2.2.2.2.1 h.2.2.2.2.2.2.2
abbrev unc9{A0 A1 A2 A3 A4 A5 A6 A7 A8 R:Type}(f:A0->A1->A2->A3->A4->A5->A6->A7->A8->R)(h:A0×A1×A2×A3×A4×A5×A6×A7×A8):R:=f h.1 h.2.1 h.2.2.1 h.2.2.2.1 h.2.2.2.2.1 h.2.2.2.2.2.1 h.2.2.2.2.2.2.1 h.2.2.2.2.2.2.2.1 h.2.2.2.2.2.2.2.2
section
variable{a b c d e f g h i j k l m n o p q z:Type}
abbrev c2(y:a×b->z)(a:a)(b:b):z:=y (a,b)
abbrev c3(y:a×b×c->z)(a:a)(b:b)(c:c):z:=y (a,b,c)
abbrev c4(y:a×b×c×d->z)(a:a)(b:b)(c:c)(d:d):z:=y (a,b,c,d)
abbrev c5(y:a×b×c×d×e->z)(a:a)(b:b)(c:c)(d:d)(e:e):z:=y (a,b,c,d,e)
abbrev c6(y:a×b×c×d×e×f->z)(a:a)(b:b)(c:c)(d:d)(e:e)(f:f):z:=y (a,b,c,d,e,f)
abbrev c7(y:a×b×c×d×e×f×g->z)(a:a)(b:b)(c:c)(d:d)(e:e)(f:f)(g:g):z:=y (a,b,c,d,e,f,g)
abbrev d8(y:a×b×c×d×e×f×g×h->z)(a:a)(b:b)(c:c)(d:d)(e:e)(f:f)(g:g)(h:h):z:=y (a,b,c,d,e,f,g,h)
abbrev c9(y:a×b×c×d×e×f×g×h×i->z)(a:a)(b:b)(c:c)(d:d)(e:e)(f:f)(g:g)(h:h)(i:i):z:=y (a,b,c,d,e,f,g,h,i)
abbrev c8(u:(i->z)->j)(y:a×b×c×d×e×f×g×h×i->z)(a:a)(b:b)(c:c)(d:d)(e:e)(f:f)(g:g)(h:h):j:=u λi=>y (a,b,c,d,e,f,g,h,i)
abbrev lp2[LP](s:a->b->S ((a×b) ⊕ z)):=c2 (LP.lp (unc2 s))
theorem eq2(s:a->b->S ((a×b) ⊕ z))(f)(h:f=lp2 s:=by rfl)(a b):f a b=lpK (s a b) (λh=>f h.1 h.2):=h▸j0e _ _
abbrev lp3[LP](s:a->b->c->S ((a×b×c) ⊕ z)):=c3 (LP.lp (unc3 s))
theorem eq3(s:a->b->c->S ((a×b×c) ⊕ z))(f)(h:f=lp3 s:=by rfl)(a b c):f a b c=lpK (s a b c) (λh=>f h.1 h.2.1 h.2.2):=h▸j0e _ _
abbrev lp4[LP](s:a->b->c->d->S ((a×b×c×d) ⊕ z)):=c4 (LP.lp (unc4 s))
theorem eq4(s:a->b->c->d->S ((a×b×c×d) ⊕ z))(f)(h:f=lp4 s:=by rfl)(a b c d):f a b c d=lpK (s a b c d) (λh=>f h.1 h.2.1 h.2.2.1 h.2.2.2):=h▸j0e _ _
abbrev lp5[LP](s:a->b->c->d->e->S ((a×b×c×d×e) ⊕ z)):=c5 (LP.lp (unc5 s))
theorem eq5(s:a->b->c->d->e->S ((a×b×c×d×e) ⊕ z))(f)(h:f=lp5 s:=by rfl)(a b c d e):f a b c d e=lpK (s a b c d e) (λh=>f h.1 h.2.1 h.2.2.1 h.2.2.2.1 h.2.2.2.2):=h▸j0e _ _
abbrev lp6[LP](s:a->b->c->d->e->f->S ((a×b×c×d×e×f) ⊕ z)):=c6 (LP.lp (unc6 s))
theorem eq6(s:a->b->c->d->e->f->S ((a×b×c×d×e×f) ⊕ z))(f)(h:f=lp6 s:=by rfl)(a b c d e g):f a b c d e g=lpK (s a b c d e g) (λh=>f h.1 h.2.1 h.2.2.1 h.2.2.2.1 h.2.2.2.2.1 h.2.2.2.2.2):=h▸j0e _ _
abbrev lp7[LP](s:a->b->c->d->e->f->g->S ((a×b×c×d×e×f×g) ⊕ z)):=c7 (LP.lp (unc7 s))
theorem eq7(s:a->b->c->d->e->f->g->S ((a×b×c×d×e×f×g) ⊕ z))(f)(h:f=lp7 s:=by rfl)(a b c d e g i):f a b c d e g i=lpK (s a b c d e g i) (λh=>f h.1 h.2.1 h.2.2.1 h.2.2.2.1 h.2.2.2.2.1 h.2.2.2.2.2.1 h.2.2.2.2.2.2):=h▸j0e _ _
abbrev lp8[LP](s:a->b->c->d->e->f->g->h->S ((a×b×c×d×e×f×g×h) ⊕ z)):=d8 (LP.lp (unc8 s))
theorem eq8(s:a->b->c->d->e->f->g->h->S ((a×b×c×d×e×f×g×h) ⊕ z))(f)(h:f=lp8 s:=by rfl)(a b c d e g i j):f a b c d e g i j=lpK (s a b c d e g i j) (λh=>f h.1 h.2.1 h.2.2.1 h.2.2.2.1 h.2.2.2.2.1 h.2.2.2.2.2.1 h.2.2.2.2.2.2.1 h.2.2.2.2.2.2.2):=h▸j0e _ _
abbrev lp9[LP](s:a->b->c->d->e->f->g->h->i->S ((a×b×c×d×e×f×g×h×i) ⊕ z)):=c9 (LP.lp (unc9 s))
theorem eq9(s:a->b->c->d->e->f->g->h->i->S ((a×b×c×d×e×f×g×h×i) ⊕ z))(f)(h:f=lp9 s:=by rfl)(a b c d e g i j k):f a b c d e g i j k=lpK (s a b c d e g i j k) (λh=>f h.1 h.2.1 h.2.2.1 h.2.2.2.1 h.2.2.2.2.1 h.2.2.2.2.2.1 h.2.2.2.2.2.2.1 h.2.2.2.2.2.2.2.1 h.2.2.2.2.2.2.2.2):=h▸j0e _ _
theorem eq10(s:a->b->c->d->e->f->g->h->i->j->S ((a×b×c×d×e×f×g×h×i×j) ⊕ z))(f)(h:f=c8 c2 (LP.lp (u8 unc2 s)):=by rfl)(a b c d e g i j k l):f a b c d e g i j k l=lpK (s a b c d e g i j k l) (λh=>f h.1 h.2.1 h.2.2.1 h.2.2.2.1 h.2.2.2.2.1 h.2.2.2.2.2.1 h.2.2.2.2.2.2.1 h.2.2.2.2.2.2.2.1 h.2.2.2.2.2.2.2.2.1 h.2.2.2.2.2.2.2.2.2):=h▸j0e _ _
theorem eq11(s:a->b->c->d->e->f->g->h->i->j->k->S ((a×b×c×d×e×f×g×h×i×j×k) ⊕ z))(f)(h:f=c8 c3 (LP.lp (u8 unc3 s)):=by rfl)(a b c d e g i j k l m):f a b c d e g i j k l m=lpK (s a b c d e g i j k l m) (λh=>f h.1 h.2.1 h.2.2.1 h.2.2.2.1 h.2.2.2.2.1 h.2.2.2.2.2.1 h.2.2.2.2.2.2.1 h.2.2.2.2.2.2.2.1 h.2.2.2.2.2.2.2.2.1 h.2.2.2.2.2.2.2.2.2.1 h.2.2.2.2.2.2.2.2.2.2):=h▸j0e _ _
theorem eq12(s:a->b->c->d->e->f->g->h->i->j->k->l->S ((a×b×c×d×e×f×g×h×i×j×k×l) ⊕ z))(f)(h:f=c8 c4 (LP.lp (u8 unc4 s)):=by rfl)(a b c d e g i j k l m n):f a b c d e g i j k l m n=lpK (s a b c d e g i j k l m n) (λh=>f h.1 h.2.1 h.2.2.1 h.2.2.2.1 h.2.2.2.2.1 h.2.2.2.2.2.1 h.2.2.2.2.2.2.1 h.2.2.2.2.2.2.2.1 h.2.2.2.2.2.2.2.2.1 h.2.2.2.2.2.2.2.2.2.1 h.2.2.2.2.2.2.2.2.2.2.1 h.2.2.2.2.2.2.2.2.2.2.2):=h▸j0e _ _
theorem eq13(s:a->b->c->d->e->f->g->h->i->j->k->l->m->S ((a×b×c×d×e×f×g×h×i×j×k×l×m) ⊕ z))(f)(h:f=c8 c5 (LP.lp (u8 unc5 s)):=by rfl)(a b c d e g i j k l m n o):f a b c d e g i j k l m n o=lpK (s a b c d e g i j k l m n o) (λh=>f h.1 h.2.1 h.2.2.1 h.2.2.2.1 h.2.2.2.2.1 h.2.2.2.2.2.1 h.2.2.2.2.2.2.1 h.2.2.2.2.2.2.2.1 h.2.2.2.2.2.2.2.2.1 h.2.2.2.2.2.2.2.2.2.1 h.2.2.2.2.2.2.2.2.2.2.1 h.2.2.2.2.2.2.2.2.2.2.2.1 h.2.2.2.2.2.2.2.2.2.2.2.2):=h▸j0e _ _
theorem eq14(s:a->b->c->d->e->f->g->h->i->j->k->l->m->n->S ((a×b×c×d×e×f×g×h×i×j×k×l×m×n) ⊕ z))(f)(h:f=c8 c6 (LP.lp (u8 unc6 s)):=by rfl)(a b c d e g i j k l m n o p):f a b c d e g i j k l m n o p=lpK (s a b c d e g i j k l m n o p) (λh=>f h.1 h.2.1 h.2.2.1 h.2.2.2.1 h.2.2.2.2.1 h.2.2.2.2.2.1 h.2.2.2.2.2.2.1 h.2.2.2.2.2.2.2.1 h.2.2.2.2.2.2.2.2.1 h.2.2.2.2.2.2.2.2.2.1 h.2.2.2.2.2.2.2.2.2.2.1 h.2.2.2.2.2.2.2.2.2.2.2.1 h.2.2.2.2.2.2.2.2.2.2.2.2.1 h.2.2.2.2.2.2.2.2.2.2.2.2.2):=h▸j0e _ _
theorem eq15(s:a->b->c->d->e->f->g->h->i->j->k->l->m->n->o->S ((a×b×c×d×e×f×g×h×i×j×k×l×m×n×o) ⊕ z))(f)(h:f=c8 c7 (LP.lp (u8 unc7 s)):=by rfl)(a b c d e g i j k l m n o p q):f a b c d e g i j k l m n o p q=lpK (s a b c d e g i j k l m n o p q) (λh=>f h.1 h.2.1 h.2.2.1 h.2.2.2.1 h.2.2.2.2.1 h.2.2.2.2.2.1 h.2.2.2.2.2.2.1 h.2.2.2.2.2.2.2.1 h.2.2.2.2.2.2.2.2.1 h.2.2.2.2.2.2.2.2.2.1 h.2.2.2.2.2.2.2.2.2.2.1 h.2.2.2.2.2.2.2.2.2.2.2.1 h.2.2.2.2.2.2.2.2.2.2.2.2.1 h.2.2.2.2.2.2.2.2.2.2.2.2.2.1 h.2.2.2.2.2.2.2.2.2.2.2.2.2.2):=h▸j0e _ _
theorem eq17(s:a->b->c->d->e->f->g->h->i->j->k->l->m->n->o->p->q->S ((a×b×c×d×e×f×g×h×i×j×k×l×m×n×o×p×q) ⊕ z))(f)(h:f=c8 c9 (LP.lp (u8 unc9 s)):=by rfl)(a b c d e g i j k l m n o p q r t):f a b c d e g i j k l m n o p q r t=lpK (s a b c d e g i j k l m n o p q r t) (λh=>f h.1 h.2.1 h.2.2.1 h.2.2.2.1 h.2.2.2.2.1 h.2.2.2.2.2.1 h.2.2.2.2.2.2.1 h.2.2.2.2.2.2.2.1 h.2.2.2.2.2.2.2.2.1 h.2.2.2.2.2.2.2.2.2.1 h.2.2.2.2.2.2.2.2.2.2.1 h.2.2.2.2.2.2.2.2.2.2.2.1 h.2.2.2.2.2.2.2.2.2.2.2.2.1 h.2.2.2.2.2.2.2.2.2.2.2.2.2.1 h.2.2.2.2.2.2.2.2.2.2.2.2.2.2.1 h.2.2.2.2.2.2.2.2.2.2.2.2.2.2.2.1 h.2.2.2.2.2.2.2.2.2.2.2.2.2.2.2.2):=h▸j0e _ _
end
def jjd(a:Y J):S Bool:=
 let b:=U a.length
 M (N (b<=500))
def jln  : S Tn76:=
 let f:Tn59:=[((Ã #[122]),0,([]:Tn47))]
 let e:Tn2:=[(172800,194400)]
 let g:Tn53:=[((Ã #[97]),0,e,0,0,Á),((Ã #[98]),0,([]:Tn2),0,0,Á)]
 let b:Y Int:=[1]
 let c:Tn65:=[((Ã #[108]),0,(1,0),1,1,b,([]:Tn2),0,0)]
 let d:Tn34:=[(1,(-1),0,518400,525600)]
 let a:Tn70:=[((Ã #[115]),c,d)]
 M (f,g,([]:Tn30),a)
def jba(a:Tn57):S ByteArray:=M a.1
def jcc(a:J):S Bool:=M (cond (N (a>=97)) (N (a<=122)) Á)
def jhg(a:J):S Bool:=M (cond (N (a>=48)) (N (a<=57)) Á)
def j72(g:X)(c b:J):S ((X×J×J) ⊕ (Ç ⊕ Ê)):=cond (N (b<c)) (cond (inR b (Ä g)) (let a:=j3a g b
 (jcc a).bind λf=>cond (!f) ((jhg a).bind λi=>cond (cond (cond (!i) (a != 95) Á) (a != 45) Á) (M (.inr (.inl Á))) (let d:=w64 (b+1)
 M (.inl (g,c,d)))) (let e:=w64 (b+1)
 M (.inl (g,c,e)))) Z) (M (.inr (.inr ())))
def jbC[LP]:=lp3 j72
abbrev jk6:=eq3 j72 jbC
def j90[LP](a:X):S Bool:=
 let g:=U (Ä a)
 let b:Bool:=cond (È a==È À) Â (N (g>24))
 cond ((inR 0 (Ä a)) || !(!b)) (let e:=j3a a 0
 cond b (M Á) ((jcc e).bind λd=>cond (!d) (M Á) (let c:=U (Ä a)
 (jbC a c 0).bind λf=>sumC f (λi=>M i) (λj=>M Â)))) Z
def j6c[LP](b:X)(a:Y (X×Ç)):S (J×(Y (X×Ç))):=(j90 b).bind λd=>cond (!d) (M (2,a)) (cond (j1r Á a b) (M (4,a)) (let c:(Y (X×Ç)):=j28 a b Â
 M (0,c)))
def jbb(a c b:J):S Bool:=M (cond (N (a>=c)) (N (a<=b)) Á)
def jfF(a:Tn43):S Int:=(jbb a.1 1970 2240).bind λi=>cond (!i) (M 1) ((jbb a.2.1 a.1 2240).bind λg=>cond (!g) (M 1) ((jbb a.2.2.1 1 12).bind λd=>cond (!d) (M 1) ((jbb a.2.2.2.1 1 5).bind λf=>cond (!f) (M 1) ((jbb a.2.2.2.2.1 0 6).bind λe=>cond (!e) (M 1) ((jbb a.2.2.2.2.2.1 0 86399).bind λc=>cond (!c) (M 1) ((jbb a.2.2.2.2.2.2 (-64800) 64800).bind λb=>cond (!b) (M 1) (M 0)))))))
def jje(a:J):S Bool:=
 let c:=Å a 4
 let d:=Å a 100
 let b:=Å a 400
 M (cond (c==0) (cond (d != 0) Â (b==0)) Á)
def j7O(c a:J):S Int:=cond (cond (N (a<1)) Â (N (a>12))) (M 0) (let f:Y Int:=[31,28,31,30,31,30,31,31,30,31,30,31]
 let j:Y Int:=Ì 12 0
 cond (a==2) ((jje c).bind λi=>cond i (M 29) (let e:=w64 (a-1)
 cond (inR e 12) (let g:=O f e.toNat 0
 M g) Z)) (let b:=w64 (a-1)
 cond (inR b 12) (let d:=O f b.toNat 0
 M d) Z))
def jcd(a:Tn4):S Bool:=cond (N (a.1>=1970)) (cond (N (a.1<=2240)) (cond (N (a.2.2>=1)) ((j7O a.1 a.2.1).bind λb=>M (N (a.2.2<=b))) (M Á)) (M Á)) (M Á)
def j8M(b a:J):S Int:=cond (!(a==0)) (let e:=w64 (É b a)
 cond (!(a==0)) (let c:=Å b a
 cond (N (c<0)) (let d:=w64 (e-1)
 M d) (M e)) Z) Z
def j5p(a:J):S Int:=
 let b:=w64 (a-1)
 let k:=w64 (a-1970)
 let l:=w64 (365*k)
 (j8M b 4).bind λj=>let d:=w64 (l+j)
 (j8M b 100).bind λc=>let i:=w64 (d-c)
 (j8M b 400).bind λf=>let e:=w64 (i+f)
 let g:=w64 (e-477)
 M g
def j4a(g e i a f:J):S ((J×J×J×J×J) ⊕ (J)):=cond (N (e<a)) ((j7O i e).bind λb=>let d:=w64 (g+b)
 let c:=w64 (e+1)
 M (.inl (d,c,i,a,f))) (M (.inr g))
def jce[LP]:=lp5 j4a
abbrev jd1:=eq5 j4a jce
def jd2[LP](a:Tn4):S Int:=(j5p a.1).bind λe=>let b:=w64 (e+a.2.2)
 let c:=w64 (b-1)
 (jce c 1 a.1 a.2.1 a.2.2).bind λd=>M d
def j6j(a:J):S Int:=
 let b:=Å a 7
 let c:=w64 (b+10)
 let d:=Å c 7
 M d
def ji7[LP](c b d a:J):S (J×J):=(jcd (c,b,1)).bind λr=>let i:Bool:=cond (cond (!r) Â (N (d<1))) Â (N (d>5))
 let t:Bool:=cond (cond i Â (N (a<0))) Â (N (a>6))
 cond t (M (0,1)) ((jd2 (c,b,1)).bind λf=>(j6j f).bind λs=>let g:=w64 (a-s)
 let q:=w64 (g+7)
 let p:=Å q 7
 let m:=w64 (f+p)
 let o:=w64 (d-1)
 let k:=w64 (7*o)
 let e:=w64 (m+k)
 (j7O c b).bind λn=>let j:=w64 (f+n)
 cond (N (e>=j)) (let l:=w64 (e-7)
 M (l,0)) (M (e,0)))
def j8N(b a:J×J):S Int:=
 let c:=w64 (b.1-a.1)
 M c
def j0v(n q p b:J)(a:Tn2):S ((J×J×J×J×Tn2) ⊕ (J×J×J×Tn2)):=cond (N (b>n)) (cond (inR b a.length) (let d:=O a b.toNat (0,0)
 let e:=w64 (b-1)
 cond (inR e a.length) (let i:=O a e.toNat (0,0)
 (j8N d i).bind λm=>cond (N (m<0)) (let j:=w64 (b-1)
 let c:=w64 (b-1)
 cond (inR c a.length) (let g:=O a c.toNat (0,0)
 cond (inR b a.length) (let k:=O a b.toNat (0,0)
 cond (inR b a.length) (let f:Tn2:=Æ a b.toNat g
 cond (inR j f.length) (let o:Tn2:=Æ f j.toNat k
 let l:=w64 (b-1)
 M (.inl (n,q,p,l,o))) Z) Z) Z) Z) (M (.inr (n,q,p,a)))) Z) Z) (M (.inr (n,q,p,a)))
def j1i[LP]:=lp5 j0v
abbrev j1Y:=eq5 j0v j1i
def j0h[LP](f d c:J)(e:Tn2):S ((J×J×J×Tn2) ⊕ (Tn2)):=cond (N (c<d)) ((j1i f d c c e).bind λa=>let b:=w64 (a.2.2.1+1)
 M (.inl (a.1,a.2.1,b,a.2.2.2))) (M (.inr e))
def j1j[LP]:=lp4 j0h
abbrev j15:=eq4 j0h j1j
def j0w[LP](a:Tn2)(b c:J):S Tn2:=
 let d:=w64 (b+1)
 (j1j b c d a).bind λe=>M e
def j0O[LP](e d g c:J)(f:Tn2):S ((J×J×J×J×Tn2) ⊕ (J×J×J×Tn2)):=cond (N (c<=e)) ((j0w f g c).bind λb=>let a:=w64 (c+d)
 M (.inl (e,d,c,a,b))) (M (.inr (e,d,g,f)))
def j1M[LP]:=lp5 j0O
abbrev j6C:=eq5 j0O j1M
def j2H(b a c e:J)(f:Tn2):S ((J×J×J×J×Tn2) ⊕ (J×J×J×Tn2)):=cond (N (e<=b)) (let d:=w64 (c+a)
 Z) (M (.inr (b,a,c,f)))
def j7n[LP]:=lp5 j2H
def j0P[LP](f e:J)(g:Tn2):S ((J×J×Tn2) ⊕ (Tn2)):=cond (N (e<f)) (let d:=w64 (2*e)
 (j7n f e 0 d g).bind λa=>let b:=w64 (a.2.2.1+a.2.1)
 cond (N (b<a.1)) (Z) (let c:=w64 (a.2.1*2)
 M (.inl (a.1,c,a.2.2.2)))) (M (.inr g))
def j1N[LP]:=lp3 j0P
abbrev j6D:=eq3 j0P j1N
def j2e[LP](a:Tn2)(c:J):S Tn2:=(j1M c 20 0 20 a).bind λb=>(j0w b.2.2.2 b.2.2.1 b.1).bind λd=>(j1N b.1 b.2.1 d).bind λe=>M e
def j0t[LP](a:Tn2):S Tn2:=
 let b:=U a.length
 (j2e a b).bind λc=>M c
def j2p(m:J)(f:Tn47)(l c:J)(n:X)(e:J)(d:Tn47):S ((J×Tn47×J×J×X×J×Tn47) ⊕ (J ⊕ (J×X×J×Tn47))):=cond (N (c<l)) (cond (inR c f.length) (let a:=O f c.toNat (0,0,0,0,0,0,0)
 (jfF a).bind λb=>cond (b != 0) (M (.inr (.inl b))) (let j:=w64 (a.2.1-a.1)
 let g:=w64 (j+1)
 let k:=w64 (m+g)
 let i:=w64 (c+1)
 M (.inl (k,f,l,i,n,e,d)))) Z) (M (.inr (.inr (m,n,e,d))))
def j6k[LP]:=lp7 j2p
theorem ja6(f e c d g b a):j6k f e c d g b a=lpK (j2p f e c d g b a) (λh=>j6k h.1 h.2.1 h.2.2.1 h.2.2.2.1 h.2.2.2.2.1 h.2.2.2.2.2.1 h.2.2.2.2.2.2):=j0e _ _
def j2q[LP](i:J)(p:Tn47)(q o s c g e b f a:J)(r:Tn2):S ((J×Tn47×J×J×J×J×J×J×J×J×J×Tn2) ⊕ (Tn47×J×J×Tn2)):=cond (N (i<=c)) ((ji7 i g e b).bind λm=>let j:=w64 (m.1*86400)
 let k:=w64 (j+f)
 let d:Tn2:=[(k,a)]
 cond (N (W r+W d<=j02)) (let n:Tn2:=r++d
 let l:=w64 (i+1)
 M (.inl (l,p,q,o,s,c,g,e,b,f,a,n))) Z) (M (.inr (p,q,o,r)))
def j8O[LP]:=c8 c4 (LP.lp (u8 unc4 j2q))
abbrev ja7:=eq12 j2q j8O
def j2r[LP](d:Tn47)(f c:J)(g:Tn2):S ((Tn47×J×J×Tn2) ⊕ (Tn2)):=cond (N (c<f)) (cond (inR c d.length) (let a:=O d c.toNat (0,0,0,0,0,0,0)
 (j8O a.1 d f c a.1 a.2.1 a.2.2.1 a.2.2.2.1 a.2.2.2.2.1 a.2.2.2.2.2.1 a.2.2.2.2.2.2 g).bind λb=>let e:=w64 (b.2.2.1+1)
 M (.inl (b.1,b.2.1,e,b.2.2.2))) Z) (M (.inr g))
def j6l[LP]:=lp4 j2r
theorem ja8(b c a d):j6l b c a d=lpK (j2r b c a d) (λh=>j6l h.1 h.2.1 h.2.2.1 h.2.2.2):=j0e _ _
def j8w[LP](a:Tn57):S (Tn2×J):=(jbb a.2.1 (-64800) 64800).bind λc=>cond (!c) (M (([]:Tn2),1)) (let b:=U a.2.2.length
 cond (N (b>16)) (M (([]:Tn2),5)) (let e:=U a.2.2.length
 (j6k 0 a.2.2 e 0 a.1 a.2.1 a.2.2).bind λg=>sumC g (λk=>M (([]:Tn2),k)) (λi=>cond (N (i.1>640)) (M (([]:Tn2),5)) (let f:=U i.2.2.2.length
 (j6l i.2.2.2 f 0 ([]:Tn2)).bind λj=>(j0t j).bind λd=>M (d,0)))))
def j2s(v m d:J)(b e:Tn2):S ((J×J×J×Tn2×Tn2) ⊕ (J ⊕ Tn2)):=cond (N (d<m)) (cond (inR d e.length) (let a:=O e d.toNat (0,0)
 cond (a.2==v) (let s:=w64 (d+1)
 M (.inl (v,m,s,b,e))) (let c:=w64 (a.1-v)
 let f:=w64 (a.2-v)
 cond (cond (N (f>=86400)) Â (N (f<=(-86400)))) (let q:=U b.length
 let w:=U b.length
 let i:=w64 (w-1)
 cond ((inR i b.length) || !((!Â)&&(N (q>0)))) (let r:=(O b i.toNat (0,0)).1
 let x:=w64 (r+604800)
 M (.inr (.inl 6))) Z) ((jbb c 0 8589934592).bind λj=>let k:=U b.length
 let t:=U b.length
 let l:=w64 (t-1)
 cond ((inR l b.length) || !((!(!j))&&(N (k>0)))) (let p:=(O b l.toNat (0,0)).1
 let o:=w64 (p+604800)
 cond (cond (!j) Â (cond (N (k>0)) (N (c<o)) Á)) (M (.inr (.inl 6))) (let g:Tn2:=[(c,a.2)]
 cond (N (W b+W g<=j02)) (let u:Tn2:=b++g
 let n:=w64 (d+1)
 M (.inl (a.2,m,n,u,e))) Z)) Z))) Z) (M (.inr (.inr b)))
def j6m[LP]:=lp5 j2s
theorem ja9(e c b d a):j6m e c b d a=lpK (j2s e c b d a) (λh=>j6m h.1 h.2.1 h.2.2.1 h.2.2.2.1 h.2.2.2.2):=j0e _ _
def j46[LP](a:Tn57):S (Tn2×J):=(j8w a).bind λb=>cond (b.2 != 0) (M (([]:Tn2),b.2)) (let c:=U b.1.length
 (j6m a.2.1 c 0 ([]:Tn2) b.1).bind λd=>sumC d (λf=>M (([]:Tn2),f)) (λe=>M (e,0)))
def je1[LP](a:Tn57):S Int:=(j46 a).bind λb=>M b.2
def j86(a:Tn43):S Bool:=
 let b:=Å a.2.2.2.2.2.2 60
 M (b != 0)
def j0j(e:Tn47)(f b:J):S ((Tn47×J×J) ⊕ (J ⊕ Ê)):=cond (N (b<f)) (cond (inR b e.length) (let a:=O e b.toNat (0,0,0,0,0,0,0)
 (j86 a).bind λd=>cond d (M (.inr (.inl b))) (let c:=w64 (b+1)
 M (.inl (e,f,c)))) Z) (M (.inr (.inr ())))
def j1l[LP]:=lp3 j0j
abbrev j29:=eq3 j0j j1l
def j1A[LP](a:Tn47):S Int:=
 let b:=U a.length
 (j1l a b 0).bind λc=>sumC c (λd=>M d) (λe=>M (-1))
def j1m[LP](a:Tn47):S Bool:=(j1A a).bind λb=>M (N (b>=0))
def j5D[LP](a:Tn57):S Int:=(je1 a).bind λd=>let c:=Å a.2.1 60
 cond (cond (d != 0) Â (c != 0)) (M 8) ((j1m a.2.2).bind λb=>cond b (M 8) (M 0))
def j1s[LP](e:Tn59)(i c:J)(j:Y (X×Ç)):S ((Tn59×J×J×(Y (X×Ç))) ⊕ (J ⊕ Ê)):=cond (N (c<i)) (cond (inR c e.length) (let a:=O e c.toNat (À,0,[])
 (jba a).bind λf=>(j6c f j).bind λb=>cond (b.1 != 0) (M (.inr (.inl b.1))) ((j5D a).bind λd=>cond (d != 0) (M (.inr (.inl d))) (let g:=w64 (c+1)
 M (.inl (e,i,g,b.2))))) Z) (M (.inr (.inr ())))
def j3s[LP]:=lp4 j1s
abbrev j73:=eq4 j1s j3s
def j4P[LP](a:Tn59):S Int:=
 let c:(Y (X×Ç)):=[]
 let b:=U a.length
 (j3s a b 0 c).bind λd=>sumC d (λe=>M e) (λf=>M 0)
def j1R(a b:J):S Bool:=M (cond (N (a>=0)) (N (a<b)) Á)
def j2M(g f:Tn2)(k b:J):S ((Tn2×Tn2×J×J) ⊕ (J ⊕ Ê)):=cond (N (b<k)) (cond (inR b f.length) (let a:=O f b.toNat (0,0)
 let e:Bool:=cond (cond (N (a.1<0)) Â (N (a.1>=a.2))) Â (N (a.2>604800))
 cond e (M (.inr (.inl 1))) (cond (N (b>0)) (let c:=w64 (b-1)
 cond (inR c g.length) (let d:=O g c.toNat (0,0)
 cond (N (a.1<d.2)) (M (.inr (.inl 6))) (let j:=w64 (b+1)
 M (.inl (g,f,k,j)))) Z) (let i:=w64 (b+1)
 M (.inl (g,f,k,i))))) Z) (M (.inr (.inr ())))
def jbD[LP]:=lp4 j2M
abbrev j8x:=eq4 j2M jbD
def j7P[LP](a:Tn2):S Int:=
 let c:=U a.length
 cond (N (c>14)) (M 5) (let d:=U a.length
 (jbD a a d 0).bind λb=>sumC b (λe=>M e) (λf=>M 0))
def j6Y(a c b:J):S Bool:=M (cond (N (a>=c)) (N (a<=b)) Á)
def j3t(a:J):S Bool:=(j6Y a 0 604800).bind λc=>let b:=Å a 3600
 M (cond c (b==0) Á)
def j3f[LP](b:Tn76)(a:Tn49):S Int:=
 let d:=U b.1.length
 (j1R a.2.1 d).bind λc=>cond (!c) (M 3) ((j7P a.2.2.1).bind λe=>cond (e != 0) (M 8) ((j3t a.2.2.2.1).bind λf=>cond (!f) (M 1) ((j3t a.2.2.2.2.1).bind λg=>cond (!g) (M 1) (M 0))))
def jbc(a:Tn22):S ByteArray:=M a.1
def jd3(e b:J):S ((J×J) ⊕ (J)):=
 let c:=w64 (b+1)
 (j5p c).bind λd=>cond (N (d<=e)) (let a:=w64 (b+1)
 M (.inl (e,a))) (M (.inr b))
def jod[LP]:=lp2 jd3
def jnf[LP](a:J):S Int:=(j8M a 366).bind λd=>let c:=w64 (1970+d)
 (jod a c).bind λb=>M b
def jbs(k l c d i a b:J):S ((J×J×J×J×J×J×J) ⊕ (J×J×J×J×J×J×J)):=(j7O i a).bind λg=>cond (N (k>=g)) ((j7O i a).bind λf=>let e:=w64 (k-f)
 let j:=w64 (a+1)
 M (.inl (e,l,c,d,i,j,b))) (M (.inr (k,l,c,d,i,a,b)))
def jlo[LP]:=lp7 jbs
def j91[LP](a:J):S (Tn4×J):=(j5p 1970).bind λi=>cond (N (a<i)) (M ((0,0,0),1)) ((j5p 2241).bind λd=>cond (N (a>=d)) (M ((0,0,0),1)) ((jnf a).bind λb=>(j5p b).bind λf=>let g:=w64 (a-f)
 (jlo g 0 0 0 b 1 0).bind λc=>let e:=w64 (c.1+1)
 M ((c.2.2.2.2.1,c.2.2.2.2.2.1,e),0)))
def j18[LP](a:J):S Bool:=(j91 a).bind λb=>M (b.2==0)
def j5E[LP](a:J):S Bool:=(j18 a).bind λb=>M (!b)
def j1f[LP](e:Y J)(f a:J):S (((Y J)×J×J) ⊕ (J ⊕ Ê)):=cond (N (a<f)) (cond (inR a e.length) (let c:=O e a.toNat 0
 (j5E c).bind λd=>cond d (M (.inr (.inl a))) (let b:=w64 (a+1)
 M (.inl (e,f,b)))) Z) (M (.inr (.inr ())))
def j4E[LP]:=lp3 j1f
abbrev j6d:=eq3 j1f j4E
def j5F[LP](a:Y J):S Int:=
 let b:=U a.length
 (j4E a b 0).bind λc=>sumC c (λd=>M d) (λe=>M (-1))
def j4F[LP](a:Y J):S Bool:=(j5F a).bind λb=>M (N (b>=0))
def j1B(d b:J)(k:X)(e:J)(a:Y J):S ((J×J×X×J×(Y J)) ⊕ (J ⊕ Ê)):=cond (N (b<d)) (cond (N (b>0)) (cond (inR b a.length) (let f:=O a b.toNat 0
 let c:=w64 (b-1)
 cond (inR c a.length) (let g:=O a c.toNat 0
 cond (N (f<=g)) (M (.inr (.inl 6))) (let j:=w64 (b+1)
 M (.inl (d,j,k,e,a)))) Z) Z) (let i:=w64 (b+1)
 M (.inl (d,i,k,e,a)))) (M (.inr (.inr ())))
def j5G[LP]:=lp5 j1B
abbrev j7o:=eq5 j1B j5G
def j3z[LP](b:Tn76)(a:Tn22):S Int:=
 let e:=U b.1.length
 (j1R a.2.1 e).bind λg=>cond (!g) (M 3) (let d:=U a.2.2.length
 cond (N (d>64)) (M 5) ((j4F a.2.2).bind λc=>cond c (M 1) (let f:=U a.2.2.length
 (j5G f 0 a.1 a.2.1 a.2.2).bind λi=>sumC i (λj=>M j) (λk=>M 0))))
def jbd[LP](a:Tn22)(e:Tn59)(d:Tn53)(b:Tn30)(c:Tn70):S Int:=(j3z (e,d,b,c) a).bind λf=>M f
def j12[LP](m:Tn59)(i:Tn53)(e:Tn30)(f:Tn70)(g:Tn30)(l c:J)(n:Y (X×Ç)):S ((Tn59×Tn53×Tn30×Tn70×Tn30×J×J×(Y (X×Ç))) ⊕ (J ⊕ Ê)):=cond (N (c<l)) (cond (inR c g.length) (let a:=O g c.toNat (À,0,[])
 (jbc a).bind λj=>(j6c j n).bind λb=>cond (b.1 != 0) (M (.inr (.inl b.1))) ((jbd a m i e f).bind λd=>cond (d != 0) (M (.inr (.inl d))) (let k:=w64 (c+1)
 M (.inl (m,i,e,f,g,l,k,b.2))))) Z) (M (.inr (.inr ())))
def j2k[LP]:=lp8 j12
abbrev j5s:=eq8 j12 j2k
def j37[LP](e:Tn30)(d:Tn59)(c:Tn53)(a:Tn30)(b:Tn70):S Int:=
 let g:(Y (X×Ç)):=[]
 let f:=U e.length
 (j2k d c a b e f 0 g).bind λi=>sumC i (λj=>M j) (λk=>M 0)
def jbe(a:Tn69):S ByteArray:=M a.1
def j5H(a:Tn64):S ByteArray:=M a.1
def j7p(a:J)(g:Tn59)(b:Tn53)(d:Tn30)(f:Tn70):S Bool:=
 let c:=U b.length
 (j1R a c).bind λe=>M (!e)
def j0W(i:Y J)(j:Tn59)(b:Tn53)(a:Tn30)(d:Tn70)(k c:J):S (((Y J)×Tn59×Tn53×Tn30×Tn70×J×J) ⊕ (J ⊕ Ê)):=cond (N (c<k)) (cond (inR c i.length) (let f:=O i c.toNat 0
 (j7p f j b a d).bind λg=>cond g (M (.inr (.inl c))) (let e:=w64 (c+1)
 M (.inl (i,j,b,a,d,k,e)))) Z) (M (.inr (.inr ())))
def j3A[LP]:=lp7 j0W
abbrev j51:=eq7 j0W j3A
def j4G[LP](c:Y J)(e:Tn59)(d:Tn53)(b:Tn30)(a:Tn70):S Int:=
 let f:=U c.length
 (j3A c e d b a f 0).bind λg=>sumC g (λi=>M i) (λj=>M (-1))
def j3B[LP](d:Y J)(e:Tn59)(c:Tn53)(b:Tn30)(a:Tn70):S Bool:=(j4G d e c b a).bind λf=>M (N (f>=0))
def j52[LP](b:Tn76)(a:Tn64):S Int:=
 let e:=U b.1.length
 (j1R a.2.1 e).bind λc=>cond (!c) (M 3) (cond (N (a.2.2.1.1<1)) (M 1) ((j18 a.2.2.1.1).bind λf=>cond (!f) (M 1) ((j6Y a.2.2.1.2 0 86399).bind λl=>cond (!l) (M 1) ((j6Y a.2.2.2.1 0 2).bind λn=>cond (!n) (M 1) ((j6Y a.2.2.2.2.1 1 400).bind λd=>cond (!d) (M 1) (let m:=U a.2.2.2.2.2.1.length
 cond (m==0) (M 7) (let j:=U a.2.2.2.2.2.1.length
 cond (N (j>12)) (M 5) ((j3B a.2.2.2.2.2.1 b.1 b.2.1 b.2.2.1 b.2.2.2).bind λk=>cond k (M 3) ((j7P a.2.2.2.2.2.2.1).bind λi=>cond (i != 0) (M 8) ((j6Y a.2.2.2.2.2.2.2.2 0 2).bind λo=>cond (!o) (M 1) (let p:=U b.2.2.1.length
 cond (a.2.2.2.2.2.2.2.2 != 0) ((j1R a.2.2.2.2.2.2.2.1 p).bind λg=>cond (!g) (M 3) (cond (cond (a.2.2.2.2.2.2.2.2==0) (a.2.2.2.2.2.2.2.1 != 0) Á) (M 1) (M 0))) (cond (cond (a.2.2.2.2.2.2.2.2==0) (a.2.2.2.2.2.2.2.1 != 0) Á) (M 1) (M 0)))))))))))))
def j5I[LP](a:Tn64)(e:Tn59)(d:Tn53)(b:Tn30)(c:Tn70):S Int:=(j52 (e,d,b,c) a).bind λf=>M f
def j1n[LP](m:Tn59)(i:Tn53)(e:Tn30)(f:Tn70)(g:Tn65)(l c:J)(n:Y (X×Ç)):S ((Tn59×Tn53×Tn30×Tn70×Tn65×J×J×(Y (X×Ç))) ⊕ (J ⊕ Ê)):=cond (N (c<l)) (cond (inR c g.length) (let a:=O g c.toNat (À,0,(0,0),0,0,[],[],0,0)
 (j5H a).bind λj=>(j6c j n).bind λb=>cond (b.1 != 0) (M (.inr (.inl b.1))) ((j5I a m i e f).bind λd=>cond (d != 0) (M (.inr (.inl d))) (let k:=w64 (c+1)
 M (.inl (m,i,e,f,g,l,k,b.2))))) Z) (M (.inr (.inr ())))
def j38[LP]:=lp8 j1n
abbrev j6E:=eq8 j1n j38
def j4r[LP](e:Tn65)(d:Tn59)(c:Tn53)(a:Tn30)(b:Tn70):S Int:=
 let g:(Y (X×Ç)):=[]
 let f:=U e.length
 (j38 d c a b e f 0 g).bind λi=>sumC i (λj=>M j) (λk=>M 0)
def j5w[LP](a:Tn28):S Int:=cond (cond (a.1 != 2) (a.2.2.1 != 0) Á) (M 1) (cond (cond (a.1==2) (a.2.1==a.2.2.1) Á) (M 4) (let c:=w64 (É a.2.2.2.2 86400)
 cond (cond (N (a.2.2.2.1<0)) Â (N (a.2.2.2.2<0))) (M 1) ((j18 c).bind λb=>cond (!b) (M 1) (cond (N (a.2.2.2.1>=a.2.2.2.2)) (M 6) (M 0)))))
def j5J[LP](c:Tn76)(a:Tn28):S Int:=
 let f:=U c.2.1.length
 (j6Y a.1 0 2).bind λe=>cond (!e) (M 1) ((j1R a.2.1 f).bind λb=>cond (cond (!b) (!(cond (a.1==1) (a.2.1==(-1)) Á)) Á) (cond (cond (!b) (!(cond (a.1==1) (a.2.1==(-1)) Á)) Á) (M 3) (j5w a)) (cond (a.1==2) ((j1R a.2.2.1 f).bind λd=>cond (!d) (M 3) (j5w a)) (j5w a)))
def j1C[LP](g:Tn34)(j b:J)(k:Tn59)(e:Tn53)(f:Tn30)(d:Tn70):S ((Tn34×J×J×Tn59×Tn53×Tn30×Tn70) ⊕ (J ⊕ Ê)):=cond (N (b<j)) (cond (inR b g.length) (let a:=O g b.toNat (0,0,0,0,0)
 (j5J (k,e,f,d) a).bind λc=>cond (c != 0) (M (.inr (.inl c))) (let i:=w64 (b+1)
 M (.inl (g,j,i,k,e,f,d)))) Z) (M (.inr (.inr ())))
def j5K[LP]:=lp7 j1C
abbrev j7q:=eq7 j1C j5K
def j3C[LP](a:Tn76)(b:Tn69):S Int:=
 let d:=U b.2.1.length
 let f:=U b.2.2.length
 cond (cond (N (d>6)) Â (N (f>48))) (M 5) ((j4r b.2.1 a.1 a.2.1 a.2.2.1 a.2.2.2).bind λc=>cond (c != 0) (M c) (let e:=U b.2.2.length
 (j5K b.2.2 e 0 a.1 a.2.1 a.2.2.1 a.2.2.2).bind λg=>sumC g (λi=>M i) (λj=>M 0)))
def jbf[LP](a:Tn69)(e:Tn59)(d:Tn53)(b:Tn30)(c:Tn70):S Int:=(j3C (e,d,b,c) a).bind λf=>M f
def j13[LP](m:Tn59)(i:Tn53)(e:Tn30)(f g:Tn70)(l c:J)(n:Y (X×Ç)):S ((Tn59×Tn53×Tn30×Tn70×Tn70×J×J×(Y (X×Ç))) ⊕ (J ⊕ Ê)):=cond (N (c<l)) (cond (inR c g.length) (let a:=O g c.toNat (À,[],[])
 (jbe a).bind λj=>(j6c j n).bind λb=>cond (b.1 != 0) (M (.inr (.inl b.1))) ((jbf a m i e f).bind λd=>cond (d != 0) (M (.inr (.inl d))) (let k:=w64 (c+1)
 M (.inl (m,i,e,f,g,l,k,b.2))))) Z) (M (.inr (.inr ())))
def j2l[LP]:=lp8 j13
abbrev j5t:=eq8 j13 j2l
def j4U[LP](e:Tn70)(d:Tn59)(c:Tn53)(a:Tn30)(b:Tn70):S Int:=
 let g:(Y (X×Ç)):=[]
 let f:=U e.length
 (j2l d c a b e f 0 g).bind λi=>sumC i (λj=>M j) (λk=>M 0)
def j3D[LP](g:Tn53)(i f:J)(j:Tn59)(e:Tn53)(c:Tn30)(d:Tn70)(r:Y (X×Ç)):S ((Tn53×J×J×Tn59×Tn53×Tn30×Tn70×(Y (X×Ç))) ⊕ (J ⊕ (Tn59×Tn53×Tn30×Tn70))):=cond (N (f<i)) (cond (inR f g.length) (let a:=O g f.toNat (À,0,[],0,0,Á)
 (j6c a.1 r).bind λb=>let q:Bool:=È a.1==È (Ã #[110,111,98,111,100,121])
 cond q (cond ((2:J)==0) ((j3f (j,e,c,d) a).bind λl=>cond (l != 0) (M (.inr (.inl l))) (let n:=w64 (f+1)
 M (.inl (g,i,n,j,e,c,d,b.2)))) (cond ((2:J) != 0) (M (.inr (.inl 2))) (let o:=w64 (f+1)
 M (.inl (g,i,o,j,e,c,d,b.2))))) (cond (b.1==0) ((j3f (j,e,c,d) a).bind λk=>cond (k != 0) (M (.inr (.inl k))) (let p:=w64 (f+1)
 M (.inl (g,i,p,j,e,c,d,b.2)))) (cond (b.1 != 0) (M (.inr (.inl b.1))) (let m:=w64 (f+1)
 M (.inl (g,i,m,j,e,c,d,b.2)))))) Z) (M (.inr (.inr (j,e,c,d))))
def j8y[LP]:=lp8 j3D
abbrev jcf:=eq8 j3D j8y
def j2N[LP](a:Tn76):S Int:=
 let e:=U a.1.length
 let j:=U a.2.1.length
 let k:=U a.2.2.1.length
 let l:Bool:=cond (cond (N (e>16)) Â (N (j>32))) Â (N (k>8))
 let g:=U a.2.2.2.length
 cond (cond l Â (N (g>12))) (M 5) ((j4P a.1).bind λc=>cond (c != 0) (M c) (let m:(Y (X×Ç)):=[]
 let f:=U a.2.1.length
 (j8y a.2.1 f 0 a.1 a.2.1 a.2.2.1 a.2.2.2 m).bind λn=>sumC n (λo=>M o) (λb=>(j37 b.2.2.1 b.1 b.2.1 b.2.2.1 b.2.2.2).bind λd=>cond (d != 0) (M d) ((j4U b.2.2.2 b.1 b.2.1 b.2.2.1 b.2.2.2).bind λi=>M i))))
def j8P(b:Tn76)(a:J):S Bool:=
 let c:=U b.2.2.2.length
 M (cond (N (a>=0)) (N (a<c)) Á)
def jeG[LP](a:Tn76)(c b d:J):S Int:=(j2N a).bind λe=>cond (e != 0) (M 8) ((j8P a c).bind λf=>cond (!f) (M 3) (let g:Bool:=cond (cond (N (b<0)) Â (N (b>=d))) Â (N (d>8589934592))
 let i:=w64 (d-b)
 cond (cond g Â (N (i>2419200))) (M 1) (M 0)))
def jhh[LP](a:Tn57):S (Tn15×J):=(j46 a).bind λb=>M ((a.2.1,b.1),b.2)
def j4H[LP](i:Tn59)(j c:J)(g:Tn23):S ((Tn59×J×J×Tn23) ⊕ (Tn23)):=cond (N (c<j)) (cond (inR c i.length) (let a:=O i c.toNat (À,0,[])
 (jhh a).bind λb=>let d:Tn23:=[b.1]
 cond (N (W g+W d<=j02)) (let e:Tn23:=g++d
 let f:=w64 (c+1)
 M (.inl (i,j,f,e))) Z) Z) (M (.inr g))
def jax[LP]:=lp4 j4H
abbrev je2:=eq4 j4H jax
def jhi[LP](a:Tn59):S Tn23:=
 let b:=U a.length
 (jax a b 0 ([]:Tn23)).bind λc=>M c
def ji8[LP](a:Tn76):S Tn78:=(jhi a.1).bind λb=>M (a,b)
def jjf[LP](a:Tn76):S (Tn78×Ç):=(j2N a).bind λc=>cond (c != 0) (M (((([]:Tn59),([]:Tn53),([]:Tn30),([]:Tn70)),([]:Tn23)),Á)) ((ji8 a).bind λb=>M (b,Â))
def jap(a b:J):S Bool:=
 let e:Bool:=cond (cond (N (a>=0)) (N (a<=8589934592)) Á) (N (b>=a)) Á
 let c:=w64 (b-a)
 let d:Bool:=cond (cond e (N (b<=8589934592)) Á) (N (c<=34560000)) Á
 M d
def jcg[LP](b:Tn76)(c d e:J):S (Tn78×J):=(jjf b).bind λa=>cond (!a.2) (M (a.1,8)) ((j8P b c).bind λg=>cond (!g) (M (a.1,3)) ((jap d e).bind λf=>cond (!f) (M (a.1,1)) (M (a.1,0))))
def j24(a:Y J):S (Y J):=cond (N (W ([]:Y (J))+W a<=j02)) (M (([]:Y (J))++a)) Z
def jaM(a b c:J):S Bool:=M (cond (N (a<=b)) Â (N (a>=c)))
def j0X(g b i a:J)(c:Y J):S ((J×J×J×J×(Y J)) ⊕ (Tn1 ⊕ (Y J))):=cond (N (a<i)) (cond (inR a c.length) (let e:=O c a.toNat 0
 (jaM e g b).bind λf=>cond f (M (.inr (.inl (a,c)))) (let d:=w64 (a+1)
 M (.inl (g,b,i,d,c)))) Z) (M (.inr (.inr c)))
def j1t[LP]:=lp5 j0X
theorem j53(c a e b d):j1t c a e b d=lpK (j0X c a e b d) (λh=>j1t h.1 h.2.1 h.2.2.1 h.2.2.2.1 h.2.2.2.2):=j0e _ _
def j4I[LP](a:Y J)(c b:J):S Tn1:=
 let d:=U a.length
 (j1t c b d 0 a).bind λe=>sumC e (λf=>M f) (λg=>M ((-1),g))
def j16(m a e d:J)(b:Y J):S ((J×J×J×J×(Y J)) ⊕ (Tn1)):=
 let f:=U b.length
 cond (N (d<f)) (cond (inR d b.length) (let c:=O b d.toNat 0
 (jaM c m a).bind λg=>cond (!g) (cond (inR e b.length) (let l:Y Int:=Æ b e.toNat c
 let j:=w64 (e+1)
 let k:=w64 (d+1)
 M (.inl (m,a,j,k,l))) Z) (let i:=w64 (d+1)
 M (.inl (m,a,e,i,b)))) Z) (M (.inr (e,b)))
def j2C[LP]:=lp5 j16
theorem j5L(c a d b e):j2C c a d b e=lpK (j16 c a d b e) (λh=>j2C h.1 h.2.1 h.2.2.1 h.2.2.2.1 h.2.2.2.2):=j0e _ _
def j3u[LP](e:Y J)(d a:J):S Tn1:=(j4I e d a).bind λc=>cond (c.1==(-1)) (M ((U c.2.length),c.2)) (let g:=w64 (c.1+1)
 (j2C d a c.1 g c.2).bind λb=>cond (N (0<=b.1)&&N (b.1<=(U b.2.length))) (let f:Y Int:=Ë b.1.toNat b.2++Ì (W b.2-b.1.toNat) 0
 cond (N (0<=b.1)&&N (b.1<=(U f.length))) (M ((U b.1.toNat),f)) Z) Z)
def j6n(a:Y J):S (Y J):=
 jr1 a
def j1u(e b c:J)(a:Y J):S ((J×J×J×(Y J)) ⊕ (Tn1)):=
 let j:=U (W a-b.toNat)
 cond (N (c<j)) (cond (inR c (W a-b.toNat)) (let g:=O a (b.toNat+c.toNat) 0
 let d:=w64 (c-1)
 cond (inR d (W a-b.toNat)) (let l:=O a (b.toNat+d.toNat) 0
 cond (g != l) (cond (inR c (W a-b.toNat)) (let m:=O a (b.toNat+c.toNat) 0
 cond (inR e a.length) (let n:Y Int:=Æ a e.toNat m
 let f:=w64 (e+1)
 let k:=w64 (c+1)
 M (.inl (f,(U b.toNat),k,n))) Z) Z) (let i:=w64 (c+1)
 M (.inl (e,(U b.toNat),i,a)))) Z) Z) (M (.inr (e,a)))
def j3v[LP]:=lp4 j1u
abbrev j74:=eq4 j1u j3v
def j1v[LP](b:J)(c:Y J):S (Tn1 ⊕ (Tn1 ⊕ (Y J))):=
 let i:=U c.length
 cond (N (b<i)) (cond (inR b c.length) (let j:=O c b.toNat 0
 let d:=w64 (b-1)
 cond (inR d c.length) (let f:=O c d.toNat 0
 cond (j==f) (cond (N (0<=b)&&N (b<=(U c.length))) ((j3v b (U b.toNat) 1 c).bind λa=>cond (N (0<=a.1)&&N (a.1<=(U a.2.length))) (let e:Y Int:=Ë a.1.toNat a.2++Ì (W a.2-a.1.toNat) 0
 cond (N (0<=a.1)&&N (a.1<=(U e.length))) (M (.inr (.inl ((U a.1.toNat),e)))) Z) Z) Z) (let g:=w64 (b+1)
 M (.inl (g,c)))) Z) Z) (M (.inr (.inr c)))
def j19[LP]:=lp2 j1v
theorem j75(a b):j19 a b=lpK (j1v a b) (λh=>j19 h.1 h.2):=j0e _ _
def j4Q[LP](a:Y J):S Tn1:=
 let b:=U a.length
 cond (N (b<2)) (M ((U a.length),a)) ((j19 1 a).bind λc=>sumC c (λe=>M ((U e.1.toNat),e.2)) (λd=>M ((U d.length),d)))
def jfG[LP](f:Y J)(b a:J):S (Y J):=(j24 f).bind λk=>(j3u k b a).bind λc=>let i:Y Int:=Ë c.1.toNat c.2
 (j6n i).bind λg=>(j4Q g).bind λd=>let e:Y Int:=Ë d.1.toNat d.2
 cond (N (W e+W [a]<=j02)) (let j:Y Int:=e++[a]
 M j) Z
def j2o(a:Tn65):S Tn65:=M a
def jaq(a:Tn64):S Int:=cond (a.2.2.2.1==2) (let b:=w64 (7*a.2.2.2.2.1)
 M b) (M a.2.2.2.2.1)
def j8Q(a e:J)(b:Tn2)(c:J):S Bool:=cond (inR a b.length) (let d:=O b a.toNat (0,0)
 M (N (d.1>c))) Z
def j3g(l:J)(b:Tn2)(a g k:J):S ((J×Tn2×J×J×J) ⊕ (J)):=cond (N (g<k)) (let e:=w64 (g+k)
 let d:Int:=IntKind.wrap .u64 e
 let f:Int:=Ï d 2
 let c:=w64 f
 (j8Q c l b a).bind λj=>cond (!j) (let i:=w64 (c+1)
 M (.inl (l,b,a,i,k))) (M (.inl (l,b,a,g,c)))) (M (.inr g))
def jay[LP]:=lp5 j3g
theorem je3(d b a e c):jay d b a e c=lpK (j3g d b a e c) (λh=>jay h.1 h.2.1 h.2.2.1 h.2.2.2.1 h.2.2.2.2):=j0e _ _
def jhj[LP](c d:J)(b:Tn2)(a:J):S Int:=(jay d b a 0 c).bind λe=>M e
def j6F[LP](a:Tn15)(b:J):S Int:=
 let c:=U a.2.length
 (jhj c a.1 a.2 b).bind λd=>M d
def j4A(a:Tn15)(b:J):S Int:=cond (b==0) (M a.1) (let c:=w64 (b-1)
 cond (inR c a.2.length) (let d:=O a.2 c.toNat (0,0)
 M d.2) Z)
def j0I[LP](l c j:J)(a:Tn2)(i:Tn17):S ((J×J×J×Tn2×Tn17) ⊕ (Tn17)):=cond (N (l<c)) ((j6F (j,a) l).bind λb=>let m:=U a.length
 cond (N (b<m)) (cond (inR b a.length) (let d:=O a b.toNat (0,0)
 let g:Int:=if d.1<c then d.1 else c
 (j4A (j,a) b).bind λp=>let e:Tn17:=[(l,g,p)]
 cond (N (W i+W e<=j02)) (let n:Tn17:=i++e
 M (.inl (g,c,j,a,n))) Z) Z) ((j4A (j,a) b).bind λo=>let f:Tn17:=[(l,c,o)]
 cond (N (W i+W f<=j02)) (let k:Tn17:=i++f
 M (.inl (c,c,j,a,k))) Z)) (M (.inr i))
def j33[LP]:=lp5 j0I
theorem j1S(b c e a d):j33 b c e a d=lpK (j0I b c e a d) (λh=>j33 h.1 h.2.1 h.2.2.1 h.2.2.2.1 h.2.2.2.2):=j0e _ _
def j1T[LP](b:Tn15)(a c:J):S Tn17:=(j33 a c b.1 b.2 ([]:Tn17)).bind λd=>M d
def j4v(a:J×J):S Int:=
 let b:Int:=if (-1048576)>a.1 then (-1048576) else a.1
 let e:Int:=if 1048576<b then 1048576 else b
 let d:=w64 (e*86400)
 let c:=w64 (d+a.2)
 M c
def j1o(j d k e:J)(f:Tn17):S ((J×J×J×J×Tn17) ⊕ ((J×Ç) ⊕ Ê)):=cond (N (d<j)) (cond (inR d f.length) (let a:=O f d.toNat (0,0,0)
 (j4v (k,e)).bind λg=>let b:=w64 (g-a.2.2)
 let c:Int:=if b>a.1 then b else a.1
 cond (N (c<a.2.1)) (M (.inr (.inl (c,Â)))) (let i:=w64 (d+1)
 M (.inl (j,i,k,e,f)))) Z) (M (.inr (.inr ())))
def j6o[LP]:=lp5 j1o
abbrev j4R:=eq5 j1o j6o
def j35[LP](a:Tn15)(b:J×J):S (J×Ç):=(j1T a 0 8589934593).bind λc=>let d:=U c.length
 (j6o d 0 b.1 b.2 c).bind λe=>sumC e (λf=>M f) (λg=>M (0,Á))
def j0V[LP](b:Tn15)(a:Tn64)(c:J):S (J×Ç):=cond (N (c>8589934592)) (M (0,Á)) (cond (a.2.2.2.1 != 0) ((jaq a).bind λi=>let j:=w64 (c*i)
 let l:=w64 (a.2.2.1.1+j)
 (j35 b (l,a.2.2.1.2)).bind λd=>M d) ((j35 b a.2.2.1).bind λf=>let k:=w64 (3600*a.2.2.2.2.1)
 let g:=w64 (k*c)
 let e:=w64 (f.1+g)
 M (e,(cond f.2 (N (e<=8589934592)) Á))))
def j3E(a:Tn2):S Tn2:=cond (N (W ([]:Y (J×J))+W a<=j02)) (M (([]:Y (J×J))++a)) Z
def j9j(a:J×J):S Bool:=M (N (a.2<=a.1))
def j0C(f b:J)(c:Tn2):S ((J×J×Tn2) ⊕ (Tn15 ⊕ Tn2)):=cond (N (b<f)) (cond (inR b c.length) (let a:=O c b.toNat (0,0)
 (j9j a).bind λe=>cond e (M (.inr (.inl (b,c)))) (let d:=w64 (b+1)
 M (.inl (f,d,c)))) Z) (M (.inr (.inr c)))
def j0R[LP]:=lp3 j0C
theorem j3o(b a c):j0R b a c=lpK (j0C b a c) (λh=>j0R h.1 h.2.1 h.2.2):=j0e _ _
def j2E[LP](a:Tn2):S Tn15:=
 let b:=U a.length
 (j0R b 0 a).bind λc=>sumC c (λd=>M d) (λe=>M ((-1),e))
def j0x(d c:J)(b:Tn2):S ((J×J×Tn2) ⊕ (Tn15)):=
 let e:=U b.length
 cond (N (c<e)) (cond (inR c b.length) (let a:=O b c.toNat (0,0)
 (j9j a).bind λf=>cond (!f) (cond (inR d b.length) (let k:Tn2:=Æ b d.toNat a
 let i:=w64 (d+1)
 let j:=w64 (c+1)
 M (.inl (i,j,k))) Z) (let g:=w64 (c+1)
 M (.inl (d,g,b)))) Z) (M (.inr (d,b)))
def j1a[LP]:=lp3 j0x
theorem j3b(c b a):j1a c b a=lpK (j0x c b a) (λh=>j1a h.1 h.2.1 h.2.2):=j0e _ _
def j1x[LP](c:Tn2):S Tn15:=(j2E c).bind λb=>cond (b.1==(-1)) (M ((U b.2.length),b.2)) (let e:=w64 (b.1+1)
 (j1a b.1 e b.2).bind λa=>cond (N (0<=a.1)&&N (a.1<=(U a.2.length))) (let d:Tn2:=Ë a.1.toNat a.2++Ì (W a.2-a.1.toNat) (0,0)
 cond (N (0<=a.1)&&N (a.1<=(U d.length))) (M ((U a.1.toNat),d)) Z) Z)
def j7Q(b a:J×J):S Int:=
 let c:=w64 (b.1-a.1)
 M c
def j0Z(a:Tn2):S Tn2:=
 jmn (.pair (.int .i64) (.int .i64)) (λb c=>(j7Q b c).getD 0) a
def j3W(l d:J)(b f:Tn2):S ((J×J×Tn2×Tn2) ⊕ (Tn2)):=cond (N (d<l)) (cond (inR d f.length) (let a:=O f d.toNat (0,0)
 let c:=U b.length
 cond (N (c>0)) (let m:=w64 (c-1)
 cond (inR m b.length) (let s:=(O b m.toNat (0,0)).2
 cond (N (a.1<=s)) (let e:=w64 (c-1)
 let g:=w64 (c-1)
 cond (inR g b.length) (let k:=(O b g.toNat (0,0)).2
 let p:Int:=if a.2>k then a.2 else k
 cond (inR e b.length) (let t:Tn2:=Æ b e.toNat ((O b e.toNat (0,0)).1,p)
 let q:=w64 (d+1)
 M (.inl (l,q,t,f))) Z) Z) (let i:Tn2:=[a]
 cond (N (W b+W i<=j02)) (let n:Tn2:=b++i
 let r:=w64 (d+1)
 M (.inl (l,r,n,f))) Z)) Z) (let j:Tn2:=[a]
 cond (N (W b+W j<=j02)) (let u:Tn2:=b++j
 let o:=w64 (d+1)
 M (.inl (l,o,u,f))) Z)) Z) (M (.inr b))
def jbE[LP]:=lp4 j3W
abbrev jbg:=eq4 j3W jbE
def j7R[LP](c:Tn2):S Tn2:=(j3E c).bind λg=>(j1x g).bind λa=>let d:Tn2:=Ë a.1.toNat a.2
 (j0Z d).bind λb=>let e:=U b.length
 (jbE e 0 ([]:Tn2) b).bind λf=>M f
def j4b(u:Tn2)(c q r:J)(k:Tn2)(s f b a i:J)(t:Tn2)(p:Tn17):S ((Tn2×J×J×J×Tn2×J×J×J×J×J×Tn2×Tn17) ⊕ (Tn2×J×J×J×J×J×J×Tn2×Tn17)):=cond (N (f<s)) (cond (inR f k.length) (let e:=O k f.toNat (0,0)
 let g:=w64 (c+e.1)
 let o:Int:=if g>b then g else b
 let d:=w64 (c+e.2)
 let n:Int:=if d<a then d else a
 let j:Tn2:=[(o,n)]
 cond (N (W t+W j<=j02)) (let l:Tn2:=t++j
 let m:=w64 (f+1)
 M (.inl (u,c,q,r,k,s,m,b,a,i,l,p))) Z) Z) (M (.inr (u,c,q,r,b,a,i,t,p)))
def j9k[LP]:=c8 c4 (LP.lp (u8 unc4 j4b))
theorem jd4(l e f i g j k c a b m d):j9k l e f i g j k c a b m d=lpK (j4b l e f i g j k c a b m d) (λh=>j9k h.1 h.2.1 h.2.2.1 h.2.2.2.1 h.2.2.2.2.1 h.2.2.2.2.2.1 h.2.2.2.2.2.2.1 h.2.2.2.2.2.2.2.1 h.2.2.2.2.2.2.2.2.1 h.2.2.2.2.2.2.2.2.2.1 h.2.2.2.2.2.2.2.2.2.2.1 h.2.2.2.2.2.2.2.2.2.2.2):=j0e _ _
def j4c[LP](c:Tn2)(i j k l b f:J)(m:Tn2)(g:Tn17):S ((Tn2×J×J×J×J×J×J×Tn2×Tn17) ⊕ (Tn2×J×J×Tn2×Tn17)):=cond (N (i<b)) (let d:=U c.length
 (j9k c i j k c d 0 l b f m g).bind λa=>let e:=w64 (a.2.1+604800)
 M (.inl (a.1,e,a.2.2.1,a.2.2.2.1,a.2.2.2.2.1,a.2.2.2.2.2.1,a.2.2.2.2.2.2.1,a.2.2.2.2.2.2.2.1,a.2.2.2.2.2.2.2.2))) (M (.inr (c,j,k,m,g)))
def jch[LP]:=lp9 j4c
abbrev jd5:=eq9 j4c jch
def j4d[LP](o:Tn2)(m c:J)(n:Tn2)(e:Tn17):S ((Tn2×J×J×Tn2×Tn17) ⊕ (Tn2)):=cond (N (c<m)) (cond (inR c e.length) (let a:=O e c.toNat (0,0,0)
 let l:=w64 (a.1+a.2.2)
 let d:=w64 (l-(-259200))
 let g:=Å d 604800
 let k:=w64 (d-g)
 let j:=w64 (k+(-259200))
 let f:=w64 (j-a.2.2)
 (jch o f m c a.1 a.2.1 a.2.2 n e).bind λb=>let i:=w64 (b.2.2.1+1)
 M (.inl (b.1,b.2.1,i,b.2.2.2.1,b.2.2.2.2))) Z) (M (.inr n))
def jci[LP]:=lp5 j4d
abbrev jd6:=eq5 j4d jci
def j1F[LP](b:Tn15)(e:Tn2)(a c:J):S Tn2:=(j1T b a c).bind λd=>let f:=U d.length
 (jci e f 0 ([]:Tn2) d).bind λi=>(j7R i).bind λg=>M g
def j3c(s u:J)(k:Y J)(r e:J)(w:X)(j:J)(i:Y J)(g a f:J)(v:Tn2)(t:Tn17):S ((J×J×(Y J)×J×J×X×J×(Y J)×J×J×J×Tn2×Tn17) ⊕ (J×J×X×J×(Y J)×Tn2×Tn17)):=cond (N (e<r)) (cond (inR e k.length) (let m:=O k e.toNat 0
 let l:=w64 (m*86400)
 let b:=w64 (l-f)
 let q:Int:=if b>g then b else g
 let d:=w64 (b+86400)
 let p:Int:=if d<a then d else a
 let c:Tn2:=[(q,p)]
 cond (N (W v+W c<=j02)) (let o:Tn2:=v++c
 let n:=w64 (e+1)
 M (.inl (s,u,k,r,n,w,j,i,g,a,f,o,t))) Z) Z) (M (.inr (s,u,w,j,i,v,t)))
def j7S[LP]:=c8 c5 (LP.lp (u8 unc5 j3c))
abbrev jbt:=eq13 j3c j7S
def j3d[LP](i d:J)(l:X)(j:J)(c:Y J)(k:Tn2)(e:Tn17):S ((J×J×X×J×(Y J)×Tn2×Tn17) ⊕ (Tn2)):=cond (N (d<i)) (cond (inR d e.length) (let b:=O e d.toNat (0,0,0)
 let f:=U c.length
 (j7S i d c f 0 l j c b.1 b.2.1 b.2.2 k e).bind λa=>let g:=w64 (a.2.1+1)
 M (.inl (a.1,g,a.2.2.1,a.2.2.2.1,a.2.2.2.2.1,a.2.2.2.2.2.1,a.2.2.2.2.2.2))) Z) (M (.inr k))
def j7T[LP]:=lp7 j3d
abbrev jbu:=eq7 j3d j7T
def j3w[LP](c:Tn78)(a:Tn22)(b d:J):S Tn2:=cond (inR a.2.1 c.2.length) (let e:=O c.2 a.2.1.toNat (0,[])
 (j1T e b d).bind λf=>let i:=U f.length
 (j7T i 0 a.1 a.2.1 a.2.2 ([]:Tn2) f).bind λj=>(j7R j).bind λg=>M g) Z
def j4e(c:Tn2)(b:J)(f:Tn2)(e d j a:J)(l:Tn2):S ((Tn2×J×Tn2×J×J×J×J×Tn2) ⊕ (Tn2×J×Tn2×J×J×J×J×Tn2)):=
 let k:=U c.length
 cond (N (b<k)) (cond (inR b c.length) (let g:=O c b.toNat (0,0)
 cond (N (g.2<=j)) (let i:=w64 (b+1)
 M (.inl (c,i,f,e,d,j,a,l))) (M (.inr (c,b,f,e,d,j,a,l)))) Z) (M (.inr (c,b,f,e,d,j,a,l)))
def j9l[LP]:=lp8 j4e
theorem jd7(g e d c b i a f):j9l g e d c b i a f=lpK (j4e g e d c b i a f) (λh=>j9l h.1 h.2.1 h.2.2.1 h.2.2.2.1 h.2.2.2.2.1 h.2.2.2.2.2.1 h.2.2.2.2.2.2.1 h.2.2.2.2.2.2.2):=j0e _ _
def j4f(b:Tn2)(r d a:J)(k:Tn2)(j f s c:J)(l:Tn2):S ((Tn2×J×J×J×Tn2×J×J×J×J×Tn2) ⊕ (Tn2×J×J×Tn2×J×J×J×J×Tn2)):=
 let q:=U b.length
 cond (N (a<q)) (cond (inR a b.length) (let o:=O b a.toNat (0,0)
 cond (N (o.1<c)) (cond (inR a b.length) (let t:=O b a.toNat (0,0)
 cond (N (d<t.1)) (cond (inR a b.length) (let p:=O b a.toNat (0,0)
 let e:Tn2:=[(d,p.1)]
 cond (N (W l+W e<=j02)) (let w:Tn2:=l++e
 cond (inR a b.length) (let i:=O b a.toNat (0,0)
 let u:Int:=if i.2>d then i.2 else d
 let n:=w64 (a+1)
 M (.inl (b,r,u,n,k,j,f,s,c,w))) Z) Z) Z) (cond (inR a b.length) (let g:=O b a.toNat (0,0)
 let m:Int:=if g.2>d then g.2 else d
 let v:=w64 (a+1)
 M (.inl (b,r,m,v,k,j,f,s,c,l))) Z)) Z) (M (.inr (b,r,d,k,j,f,s,c,l)))) Z) (M (.inr (b,r,d,k,j,f,s,c,l)))
def j7r[LP]:=c8 c2 (LP.lp (u8 unc2 j4f))
theorem jd8(j g f d e c b k a i):j7r j g f d e c b k a i=lpK (j4f j g f d e c b k a i) (λh=>j7r h.1 h.2.1 h.2.2.1 h.2.2.2.1 h.2.2.2.2.1 h.2.2.2.2.2.1 h.2.2.2.2.2.2.1 h.2.2.2.2.2.2.2.1 h.2.2.2.2.2.2.2.2.1 h.2.2.2.2.2.2.2.2.2):=j0e _ _
def j4g[LP](n:Tn2)(m:J)(f:Tn2)(k d:J)(l:Tn2):S ((Tn2×J×Tn2×J×J×Tn2) ⊕ (Tn2)):=cond (N (d<k)) (cond (inR d f.length) (let e:=O f d.toNat (0,0)
 (j9l n m f k d e.1 e.2 l).bind λb=>(j7r b.1 b.2.1 b.2.2.2.2.2.1 b.2.1 b.2.2.1 b.2.2.2.1 b.2.2.2.2.1 b.2.2.2.2.2.1 b.2.2.2.2.2.2.1 b.2.2.2.2.2.2.2).bind λa=>cond (N (a.2.2.1<a.2.2.2.2.2.2.2.1)) (let c:Tn2:=[(a.2.2.1,a.2.2.2.2.2.2.2.1)]
 cond (N (W a.2.2.2.2.2.2.2.2+W c<=j02)) (let j:Tn2:=a.2.2.2.2.2.2.2.2++c
 let g:=w64 (a.2.2.2.2.2.1+1)
 M (.inl (a.1,a.2.1,a.2.2.2.1,a.2.2.2.2.1,g,j))) Z) (let i:=w64 (a.2.2.2.2.2.1+1)
 M (.inl (a.1,a.2.1,a.2.2.2.1,a.2.2.2.2.1,i,a.2.2.2.2.2.2.2.2)))) Z) (M (.inr l))
def j7s[LP]:=lp6 j4g
theorem jd9(f d c b a e):j7s f d c b a e=lpK (j4g f d c b a e) (λh=>j7s h.1 h.2.1 h.2.2.1 h.2.2.2.1 h.2.2.2.2.1 h.2.2.2.2.2):=j0e _ _
def j4w[LP](a b:Tn2):S Tn2:=
 let c:=U a.length
 (j7s b 0 a c 0 ([]:Tn2)).bind λd=>M d
def j70(b:J)(g:Tn2)(i:J)(c j:Tn2):S ((Tn2×Tn2×J×J×Tn2) ⊕ (Tn2)):=cond (inR b g.length) (let d:=O g b.toNat (0,0)
 cond (inR i c.length) (let e:=O c i.toNat (0,0)
 cond (N (d.2<e.2)) (let f:=w64 (b+1)
 M (.inl (g,c,f,i,j))) (let a:=w64 (i+1)
 M (.inl (g,c,b,a,j)))) Z) Z
def j6p(c b:Tn2)(a d:J)(p:Tn2):S ((Tn2×Tn2×J×J×Tn2) ⊕ (Tn2)):=
 let m:=U c.length
 let o:=U b.length
 cond (cond (N (a<m)) (N (d<o)) Á) (cond (inR a c.length) (let l:=O c a.toNat (0,0)
 cond (inR d b.length) (let e:=O b d.toNat (0,0)
 let i:Int:=if e.1>l.1 then e.1 else l.1
 cond (inR a c.length) (let j:=O c a.toNat (0,0)
 cond (inR d b.length) (let g:=O b d.toNat (0,0)
 let f:Int:=if g.2<j.2 then g.2 else j.2
 cond (N (i<f)) (let k:Tn2:=[(i,f)]
 cond (N (W p+W k<=j02)) (let n:Tn2:=p++k
 j70 a c d b n) Z) (j70 a c d b p)) Z) Z) Z) Z) (M (.inr p))
def j8g[LP]:=lp5 j6p
abbrev jjg:=eq5 j6p j8g
def j7t[LP](b a:Tn2):S Tn2:=(j8g b a 0 0 ([]:Tn2)).bind λc=>M c
def j9m[LP](b:Tn64)(a:Tn78)(k e:J)(l:Tn2):S Tn2:=cond (b.2.2.2.2.2.2.2.2==1) (cond (inR b.2.2.2.2.2.2.2.1 a.1.2.2.1.length) (let d:=O a.1.2.2.1 b.2.2.2.2.2.2.2.1.toNat (À,0,[])
 (j3w a d k e).bind λg=>(j4w l g).bind λi=>M i) Z) (cond (b.2.2.2.2.2.2.2.2==2) (cond (inR b.2.2.2.2.2.2.2.1 a.1.2.2.1.length) (let c:=O a.1.2.2.1 b.2.2.2.2.2.2.2.1.toNat (À,0,[])
 (j3w a c k e).bind λf=>(j7t l f).bind λj=>M j) Z) (M l))
def j7u[LP](d:Tn78)(a:Tn64)(c b:J):S Tn2:=cond (inR a.2.1 d.2.length) (let g:=O d.2 a.2.1.toNat (0,[])
 (j0V g a 0).bind λe=>cond (cond (cond (!e.2) Â (N (e.1>=b))) Â (N (c>=b))) (M ([]:Tn2)) (let f:Int:=if e.1>c then e.1 else c
 let j:Tn2:=[(f,b)]
 let l:=U a.2.2.2.2.2.2.1.length
 cond (N (l>0)) (cond (inR a.2.1 d.2.length) (let i:=O d.2 a.2.1.toNat (0,[])
 (j1F i a.2.2.2.2.2.2.1 f b).bind λk=>j9m a d f b k) Z) (j9m a d f b j))) Z
def j7U[LP](a:Tn15)(b:J):S Int:=(j6F a b).bind λc=>(j4A a c).bind λd=>M d
def jgu(a:J):S (J×J):=
 let e:=w64 (É a 86400)
 let i:=Å a 86400
 cond (N (i<0)) (let d:=w64 (e-1)
 let f:=w64 (d*86400)
 let g:=w64 (a-f)
 M (d,g)) (let c:=w64 (e*86400)
 let b:=w64 (a-c)
 M (e,b))
def j1D[LP](a:Tn15)(b:J):S (J×J):=(j7U a b).bind λd=>let e:=w64 (b+d)
 (jgu e).bind λc=>M c
def j3F[LP](o m p:J)(j:Tn2)(q:X)(b i a c d:J)(k:Y J)(g:Tn2)(f e:J):S ((J×J×J×Tn2×X×J×J×J×J×J×(Y J)×Tn2×J×J) ⊕ (J×J×J×Tn2×X×J×J×J×J×J×(Y J)×Tn2×J×J)):=cond (N (m>0)) ((j0V (p,j) (q,b,(i,a),c,d,k,g,f,e) m).bind λl=>cond (cond l.2 (N (l.1<=o)) Á) (M (.inr (o,m,p,j,q,b,i,a,c,d,k,g,f,e))) (let n:=w64 (m-1)
 M (.inl (o,n,p,j,q,b,i,a,c,d,k,g,f,e)))) (M (.inr (o,m,p,j,q,b,i,a,c,d,k,g,f,e)))
def j8z[LP]:=c8 c6 (LP.lp (u8 unc6 j3F))
theorem jcj(m l n j o b i a c d k g f e):j8z m l n j o b i a c d k g f e=lpK (j3F m l n j o b i a c d k g f e) (λh=>j8z h.1 h.2.1 h.2.2.1 h.2.2.2.1 h.2.2.2.2.1 h.2.2.2.2.2.1 h.2.2.2.2.2.2.1 h.2.2.2.2.2.2.2.1 h.2.2.2.2.2.2.2.2.1 h.2.2.2.2.2.2.2.2.2.1 h.2.2.2.2.2.2.2.2.2.2.1 h.2.2.2.2.2.2.2.2.2.2.2.1 h.2.2.2.2.2.2.2.2.2.2.2.2.1 h.2.2.2.2.2.2.2.2.2.2.2.2.2):=j0e _ _
def j54[LP](p o q:J)(k:Tn2)(r:X)(c j b d e:J)(l:Y J)(i:Tn2)(g f:J):S ((J×J×J×Tn2×X×J×J×J×J×J×(Y J)×Tn2×J×J) ⊕ (J)):=
 let n:=w64 (o+1)
 (j0V (q,k) (r,c,(j,b),d,e,l,i,g,f) n).bind λa=>cond (cond (!a.2) Â (N (a.1>p))) (M (.inr o)) (let m:=w64 (o+1)
 M (.inl (p,m,q,k,r,c,j,b,d,e,l,i,g,f)))
def jbh[LP]:=c8 c6 (LP.lp (u8 unc6 j54))
abbrev jhk:=eq14 j54 jbh
def j4s[LP](c:Tn15)(a:Tn64)(d:J):S Int:=(j0V c a 0).bind λe=>cond (cond (!e.2) Â (N (e.1>d))) (M (-1)) (cond (a.2.2.2.1==0) (let n:=w64 (d-e.1)
 let g:=w64 (3600*a.2.2.2.2.1)
 cond (!(g==0)) (let j:=w64 (É n g)
 M j) Z) ((j1D c d).bind λm=>let k:=w64 (m.1-a.2.2.1.1)
 (jaq a).bind λf=>cond (!(f==0)) (let i:=w64 (É k f)
 let l:Int:=if i>0 then i else 0
 (j8z d l c.1 c.2 a.1 a.2.1 a.2.2.1.1 a.2.2.1.2 a.2.2.2.1 a.2.2.2.2.1 a.2.2.2.2.2.1 a.2.2.2.2.2.2.1 a.2.2.2.2.2.2.2.1 a.2.2.2.2.2.2.2.2).bind λb=>(jbh b.1 b.2.1 b.2.2.1 b.2.2.2.1 b.2.2.2.2.1 b.2.2.2.2.2.1 b.2.2.2.2.2.2.1 b.2.2.2.2.2.2.2.1 b.2.2.2.2.2.2.2.2.1 b.2.2.2.2.2.2.2.2.2.1 b.2.2.2.2.2.2.2.2.2.2.1 b.2.2.2.2.2.2.2.2.2.2.2.1 b.2.2.2.2.2.2.2.2.2.2.2.2.1 b.2.2.2.2.2.2.2.2.2.2.2.2.2).bind λo=>M o) Z))
def j3G(a:Tn4)(e:Tn17)(f:J)(i:Tn17)(g:J):S ((Tn17×J×J×Tn17) ⊕ (Tn17)):=
 let b:Tn17:=[a]
 cond (N (W e+W b<=j02)) (let d:Tn17:=e++b
 let c:=w64 (f+1)
 M (.inl (i,g,c,d))) Z
def j55(f:Tn17)(j e:J)(b:Tn17):S ((Tn17×J×J×Tn17) ⊕ (Tn17)):=cond (N (e<j)) (cond (inR e f.length) (let a:=O f e.toNat (0,0,0)
 cond (N (a.2.1<=a.1)) (let k:=w64 (e+1)
 M (.inl (f,j,k,b))) (let d:=U b.length
 cond (N (d>0)) (let g:=w64 (d-1)
 cond (inR g b.length) (let l:=(O b g.toNat (0,0,0)).2.1
 cond (l==a.1) (let i:=w64 (d-1)
 cond (inR i b.length) (let n:=(O b i.toNat (0,0,0)).2.2
 cond (n==a.2.2) (let c:=w64 (d-1)
 cond (inR c b.length) (let o:Tn17:=Æ b c.toNat ((O b c.toNat (0,0,0)).1,a.2.1,(O b c.toNat (0,0,0)).2.2)
 let m:=w64 (e+1)
 M (.inl (f,j,m,o))) Z) (j3G a b e f j)) Z) (j3G a b e f j)) Z) (j3G a b e f j))) Z) (M (.inr b))
def j9n[LP]:=lp4 j55
abbrev jfa:=eq4 j55 j9n
def jar[LP](a:Tn17):S Tn17:=
 let c:=U a.length
 (j9n a c 0 ([]:Tn17)).bind λb=>M b
def j47[LP](b:J)(a:Y J)(a0:J)(y:Tn17)(a1 t w:J)(a2:X)(q n p s r:J)(k:Tn2)(l m u:J)(j:Tn2)(x:J)(v:Tn2)(o:J)(z:J):S ((J×J×J×J×J×J×X×J×J×J×J×J×(Y J)×Tn2×J×J×J×Tn2×J×J×Tn17×Tn2) ⊕ (J×J×J×J×J×J×X×J×J×J×J×J×(Y J)×Tn2×J×J×J×Tn2×Tn17×Tn2)):=
 let c:Int:=if o<b then o else b
 let d:=U a.length
 cond (!(d==0)) (let e:=Å z d
 cond (inR e a.length) (let i:=O a e.toNat 0
 let f:Tn17:=[(a0,c,i)]
 cond (N (W y+W f<=j02)) (let g:Tn17:=y++f
 M (.inl (a1,c,z,o,t,w,a2,q,n,p,s,r,a,k,l,m,u,j,x,b,g,v))) Z) Z) Z
def j39[LP](a3 o a5 y u w:J)(x:X)(j g i l k:J)(a:Y J)(d:Tn2)(e f p:J)(b:Tn2)(a0 c:J)(a2:Tn17)(v:Tn2):S ((J×J×J×J×J×J×X×J×J×J×J×J×(Y J)×Tn2×J×J×J×Tn2×J×J×Tn17×Tn2) ⊕ (J×J×J×J×J×J×X×J×J×J×J×J×(Y J)×Tn2×J×J×J×Tn2×Tn17×Tn2)):=cond (N (o<c)) (cond (N (o>=y)) ((j4s (p,b) (x,j,(g,i),l,k,a,d,e,f) o).bind λm=>let a4:=w64 (m+1)
 (j0V (p,b) (x,j,(g,i),l,k,a,d,e,f) a4).bind λn=>cond (!n.2) (j47 c a o a2 a3 u w x j g i l k d e f p b a0 v 8589934593 m) (let t:Int:=if n.1<c then n.1 else c
 let s:=U a.length
 cond (!(s==0)) (let q:=Å m s
 cond (inR q a.length) (let z:=O a q.toNat 0
 let r:Tn17:=[(o,t,z)]
 cond (N (W a2+W r<=j02)) (let a1:Tn17:=a2++r
 M (.inl (a3,t,m,n.1,u,w,x,j,g,i,l,k,a,d,e,f,p,b,a0,c,a1,v))) Z) Z) Z)) (j47 c a o a2 a3 u w x j g i l k d e f p b a0 v y a5)) (M (.inr (a3,o,a5,y,u,w,x,j,g,i,l,k,a,d,e,f,p,b,a2,v)))
def j3H[LP](u t s m n q:J)(w:X)(j g i l k:J)(f:Y J)(c:Tn2)(d e o:J)(a:Tn2)(r b:J)(v:Tn17)(p:Tn2):S (J×J×J×J×J×J×X×J×J×J×J×J×(Y J)×Tn2×J×J×J×Tn2×Tn17×Tn2):=LP.lp (u8 (u8 unc6) j39) (u,t,s,m,n,q,w,j,g,i,l,k,f,c,d,e,o,a,r,b,v,p)
theorem je4(u t s m n q w j g i l k f c d e o a r b v p):j3H u t s m n q w j g i l k f c d e o a r b v p=lpK (j39 u t s m n q w j g i l k f c d e o a r b v p) (λh=>j3H h.1 h.2.1 h.2.2.1 h.2.2.2.1 h.2.2.2.2.1 h.2.2.2.2.2.1 h.2.2.2.2.2.2.1 h.2.2.2.2.2.2.2.1 h.2.2.2.2.2.2.2.2.1 h.2.2.2.2.2.2.2.2.2.1 h.2.2.2.2.2.2.2.2.2.2.1 h.2.2.2.2.2.2.2.2.2.2.2.1 h.2.2.2.2.2.2.2.2.2.2.2.2.1 h.2.2.2.2.2.2.2.2.2.2.2.2.2.1 h.2.2.2.2.2.2.2.2.2.2.2.2.2.2.1 h.2.2.2.2.2.2.2.2.2.2.2.2.2.2.2.1 h.2.2.2.2.2.2.2.2.2.2.2.2.2.2.2.2.1 h.2.2.2.2.2.2.2.2.2.2.2.2.2.2.2.2.2.1 h.2.2.2.2.2.2.2.2.2.2.2.2.2.2.2.2.2.2.1 h.2.2.2.2.2.2.2.2.2.2.2.2.2.2.2.2.2.2.2.1 h.2.2.2.2.2.2.2.2.2.2.2.2.2.2.2.2.2.2.2.2.1 h.2.2.2.2.2.2.2.2.2.2.2.2.2.2.2.2.2.2.2.2.2):=j0e _ _
def j1Z[LP](x k y v j c:J)(z:X)(r p q u t:J)(o:Y J)(l:Tn2)(m n w:J)(g:Tn2)(s:Tn17)(e:Tn2):S ((J×J×J×J×J×J×X×J×J×J×J×J×(Y J)×Tn2×J×J×J×Tn2×Tn17×Tn2) ⊕ (J×J×Tn17)):=cond (N (c<j)) (cond (inR c e.length) (let b:=O e c.toNat (0,0)
 let d:Tn17:=[(k,b.1,(-1))]
 cond (N (W s+W d<=j02)) (let i:Tn17:=s++d
 (j3H x b.1 y v j c z r p q u t o l m n w g b.1 b.2 i e).bind λa=>let f:=w64 (a.2.2.2.2.2.1+1)
 M (.inl (a.1,a.2.1,a.2.2.1,a.2.2.2.1,a.2.2.2.2.1,f,a.2.2.2.2.2.2.1,a.2.2.2.2.2.2.2.1,a.2.2.2.2.2.2.2.2.1,a.2.2.2.2.2.2.2.2.2.1,a.2.2.2.2.2.2.2.2.2.2.1,a.2.2.2.2.2.2.2.2.2.2.2.1,a.2.2.2.2.2.2.2.2.2.2.2.2.1,a.2.2.2.2.2.2.2.2.2.2.2.2.2.1,a.2.2.2.2.2.2.2.2.2.2.2.2.2.2.1,a.2.2.2.2.2.2.2.2.2.2.2.2.2.2.2.1,a.2.2.2.2.2.2.2.2.2.2.2.2.2.2.2.2.1,a.2.2.2.2.2.2.2.2.2.2.2.2.2.2.2.2.2.1,a.2.2.2.2.2.2.2.2.2.2.2.2.2.2.2.2.2.2.1,a.2.2.2.2.2.2.2.2.2.2.2.2.2.2.2.2.2.2.2))) Z) Z) (M (.inr (x,k,s)))
def j3I[LP](s r q l m p:J)(u:X)(i f g k j:J)(e:Y J)(b:Tn2)(c d n:J)(a:Tn2)(t:Tn17)(o:Tn2):S (J×J×Tn17):=LP.lp (u8 (u8 unc4) j1Z) (s,r,q,l,m,p,u,i,f,g,k,j,e,b,c,d,n,a,t,o)
theorem j92(s r q l m p u i f g k j e b c d n a t o):j3I s r q l m p u i f g k j e b c d n a t o=lpK (j1Z s r q l m p u i f g k j e b c d n a t o) (λh=>j3I h.1 h.2.1 h.2.2.1 h.2.2.2.1 h.2.2.2.2.1 h.2.2.2.2.2.1 h.2.2.2.2.2.2.1 h.2.2.2.2.2.2.2.1 h.2.2.2.2.2.2.2.2.1 h.2.2.2.2.2.2.2.2.2.1 h.2.2.2.2.2.2.2.2.2.2.1 h.2.2.2.2.2.2.2.2.2.2.2.1 h.2.2.2.2.2.2.2.2.2.2.2.2.1 h.2.2.2.2.2.2.2.2.2.2.2.2.2.1 h.2.2.2.2.2.2.2.2.2.2.2.2.2.2.1 h.2.2.2.2.2.2.2.2.2.2.2.2.2.2.2.1 h.2.2.2.2.2.2.2.2.2.2.2.2.2.2.2.2.1 h.2.2.2.2.2.2.2.2.2.2.2.2.2.2.2.2.2.1 h.2.2.2.2.2.2.2.2.2.2.2.2.2.2.2.2.2.2.1 h.2.2.2.2.2.2.2.2.2.2.2.2.2.2.2.2.2.2.2):=j0e _ _
def j2a[LP](b:Tn78)(a:Tn64)(c d:J):S Tn17:=cond (inR a.2.1 b.2.length) (let g:=O b.2 a.2.1.toNat (0,[])
 (j7u b a c d).bind λi=>let k:=U i.length
 (j3I d c (-1) (-1) k 0 a.1 a.2.1 a.2.2.1.1 a.2.2.1.2 a.2.2.2.1 a.2.2.2.2.1 a.2.2.2.2.2.1 a.2.2.2.2.2.2.1 a.2.2.2.2.2.2.2.1 a.2.2.2.2.2.2.2.2 g.1 g.2 ([]:Tn17) i).bind λe=>let f:Tn17:=[(e.2.1,e.1,(-1))]
 cond (N (W e.2.2+W f<=j02)) (let j:Tn17:=e.2.2++f
 (jar j).bind λl=>M l) Z) Z
def j4h(k:J)(e:Tn34)(d b:J)(f:Tn2):S ((J×Tn34×J×J×Tn2) ⊕ (Tn2)):=cond (N (b<d)) (cond (inR b e.length) (let a:=O e b.toNat (0,0,0,0,0)
 cond (cond (a.1==0) (a.2.1==k) Á) (let c:Tn2:=[a.2.2.2]
 cond (N (W f+W c<=j02)) (let j:Tn2:=f++c
 let g:=w64 (b+1)
 M (.inl (k,e,d,g,j))) Z) (let i:=w64 (b+1)
 M (.inl (k,e,d,i,f)))) Z) (M (.inr f))
def j9o[LP]:=lp5 j4h
abbrev jda:=eq5 j4h j9o
def j7v[LP](b:Tn69)(a:J):S Tn2:=
 let c:=U b.2.2.length
 (j9o a b.2.2 c 0 ([]:Tn2)).bind λe=>(j7R e).bind λd=>M d
def j3J(k:Tn17)(l m n b:J)(q:X)(e:Tn65)(g:Tn34)(s p f:J)(r:Tn23)(o:Tn17)(d:Tn2):S ((Tn17×J×J×J×J×X×Tn65×Tn34×J×J×J×Tn23×Tn17×Tn2) ⊕ (Tn17×J×J×X×Tn65×Tn34×Tn23×Tn17)):=cond (N (b<n)) (cond (inR b d.length) (let a:=O d b.toNat (0,0)
 let c:Tn17:=[(a.1,a.2,f)]
 cond (N (W o+W c<=j02)) (let j:Tn17:=o++c
 let i:=w64 (b+1)
 M (.inl (k,l,m,n,i,q,e,g,s,p,f,r,j,d))) Z) Z) (M (.inr (k,l,m,q,e,g,r,o)))
def j6G[LP]:=c8 c6 (LP.lp (u8 unc6 j3J))
abbrev jck:=eq14 j3J j6G
def j3X[LP](b:Tn4)(k:Tn17)(l m:J)(o:X)(i:Tn65)(j:Tn34)(p:Tn17)(n:Tn23):S ((Tn17×J×J×X×Tn65×Tn34×Tn23×Tn17) ⊕ (Tn17)):=
 let f:Tn2:=[(b.1,b.2.1)]
 let e:Tn2:=j1r ([]:Tn2) n b.2.2
 (j4w f e).bind λc=>let d:=U c.length
 (j6G k l m d 0 o i j b.1 b.2.1 b.2.2 n p c).bind λa=>let g:=w64 (a.2.2.1+1)
 M (.inl (a.1,a.2.1,g,a.2.2.2.1,a.2.2.2.2.1,a.2.2.2.2.2.1,a.2.2.2.2.2.2.1,a.2.2.2.2.2.2.2))
def j3K[LP](e:Tn17)(f b:J)(j:X)(c:Tn65)(d:Tn34)(g:Tn23)(l:Tn17):S ((Tn17×J×J×X×Tn65×Tn34×Tn23×Tn17) ⊕ (Tn17)):=cond (N (b<f)) (cond (inR b e.length) (let a:=O e b.toNat (0,0,0)
 cond (N (a.2.2<0)) (let k:=w64 (b+1)
 M (.inl (e,f,k,j,c,d,g,l))) (let n:Tn2:=j1r ([]:Tn2) g a.2.2
 cond (!(j1W g a.2.2)) ((j7v (j,c,d) a.2.2).bind λi=>let m:Tn23:=j28 g a.2.2 i
 j3X a e f b j c d l m) (j3X a e f b j c d l g))) Z) (M (.inr l))
def j6H[LP]:=lp8 j3K
abbrev jcl:=eq8 j3K j6H
def j9p[LP](a:Tn69)(b:Tn17):S Tn17:=
 let c:Tn23:=[]
 let d:=U b.length
 (j6H b d 0 a.1 a.2.1 a.2.2 c ([]:Tn17)).bind λe=>M e
def j6q(a:J)(f:Tn17)(i:J)(b:Tn2)(j:Tn17):S ((Tn17×Tn2×J×J×Tn17) ⊕ (Tn17)):=cond (inR a f.length) (let d:=O f a.toNat (0,0,0)
 cond (inR i b.length) (let e:=O b i.toNat (0,0)
 cond (N (d.2.1<e.2)) (let c:=w64 (a+1)
 M (.inl (f,b,c,i,j))) (let g:=w64 (i+1)
 M (.inl (f,b,a,g,j)))) Z) Z
def j5x(b:Tn17)(c:Tn2)(a d:J)(o:Tn17):S ((Tn17×Tn2×J×J×Tn17) ⊕ (Tn17)):=
 let m:=U b.length
 let n:=U c.length
 cond (cond (N (a<m)) (N (d<n)) Á) (cond (inR a b.length) (let l:=O b a.toNat (0,0,0)
 cond (inR d c.length) (let e:=O c d.toNat (0,0)
 let i:Int:=if e.1>l.1 then e.1 else l.1
 cond (inR a b.length) (let j:=O b a.toNat (0,0,0)
 cond (inR d c.length) (let g:=O c d.toNat (0,0)
 let f:Int:=if g.2<j.2.1 then g.2 else j.2.1
 cond (inR a b.length) (let p:=O b a.toNat (0,0,0)
 cond (N (i<f)) (let k:Tn17:=[(i,f,p.2.2)]
 cond (N (W o+W k<=j02)) (let q:Tn17:=o++k
 j6q a b d c q) Z) (j6q a b d c o)) Z) Z) Z) Z) Z) (M (.inr o))
def j5M[LP]:=lp5 j5x
abbrev ji9:=eq5 j5x j5M
def jdb[LP](b:Tn17)(a:Tn2):S Tn17:=(j5M b a 0 0 ([]:Tn17)).bind λc=>M c
def j4J(f:Tn17)(i c:J)(g:Tn2):S ((Tn17×J×J×Tn2) ⊕ (Tn2)):=cond (N (c<i)) (cond (inR c f.length) (let a:=O f c.toNat (0,0,0)
 let b:Tn2:=[(a.1,a.2.1)]
 cond (N (W g+W b<=j02)) (let d:Tn2:=g++b
 let e:=w64 (c+1)
 M (.inl (f,i,e,d))) Z) Z) (M (.inr g))
def jaz[LP]:=lp4 j4J
abbrev je5:=eq4 j4J jaz
def jcm[LP](a:Tn17):S Tn2:=
 let d:=U a.length
 (jaz a d 0 ([]:Tn2)).bind λc=>(j7R c).bind λb=>M b
def j3h(b a:Tn4):S Int:=
 let c:=w64 (b.1-a.1)
 M c
def j0A(a:Tn17):S Tn17:=
 jmn (.pair (.int .i64) (.pair (.int .i64) (.int .i64))) (λb c=>(j3h b c).getD 0) a
def j2t[LP](r:J)(l:Tn65)(t:Tn59)(k:Tn53)(i:Tn30)(e:Tn70)(g:Tn23)(w:X)(j:Tn65)(f:Tn34)(u v:J)(d:Tn2)(b:Tn17):S ((J×Tn65×Tn59×Tn53×Tn30×Tn70×Tn23×X×Tn65×Tn34×J×J×Tn2×Tn17) ⊕ (Tn2×Tn17)):=cond (N (r<=0)) (M (.inr (d,b))) (cond (N (r<=U l.length)) (let m:Int:=r-1
 let a:=O l m.toNat (À,0,(0,0),0,0,[],[],0,0)
 (j2a ((t,k,i,e),g) a u v).bind λo=>(j9p (w,j,f) o).bind λs=>(jdb s d).bind λc=>cond (N (W b+W c<=j02)) (let p:Tn17:=b++c
 (jcm c).bind λq=>(j4w d q).bind λn=>M (.inl ((r-1),l,t,k,i,e,g,w,j,f,u,v,n,p))) Z) Z)
def j6r[LP]:=c8 c6 (LP.lp (u8 unc6 j2t))
abbrev jaa:=eq14 j2t j6r
def j2u(i d:J)(e:Tn2)(a:Tn17):S ((J×J×Tn2×Tn17) ⊕ (Tn17)):=cond (N (d<i)) (cond (inR d e.length) (let b:=O e d.toNat (0,0)
 let c:Tn17:=[(b.1,b.2,(-1))]
 cond (N (W a+W c<=j02)) (let g:Tn17:=a++c
 let f:=w64 (d+1)
 M (.inl (i,f,e,g))) Z) Z) (M (.inr a))
def j6s[LP]:=lp4 j2u
abbrev jab:=eq4 j2u j6s
def j4W[LP](b:Tn78)(d:Tn69)(a c:J):S Tn17:=cond (N (a>=c)) (M ([]:Tn17)) (let k:Tn2:=[(a,c)]
 (j2o d.2.1).bind λe=>(j6r (U e.length) e b.1.1 b.1.2.1 b.1.2.2.1 b.1.2.2.2 b.2 d.1 d.2.1 d.2.2 a c k ([]:Tn17)).bind λf=>let i:=U f.1.length
 (j6s i 0 f.1 f.2).bind λl=>(j0A l).bind λg=>(jar g).bind λj=>M j)
def jbF(a:J):S Bool:=M (a != a)
def jdc(b a:J):S Bool:=(jbF b).bind λd=>cond d ((jbF a).bind λc=>M (cond (!c) Â (N (b<a)))) (M (N (b<a)))
def j8A(a:J):S Bool:=M (a != a)
def j1y(b:Y J)(f l k m:J):S (((Y J)×J×J×J×J) ⊕ ((Y J)×J×J×J)):=cond (N (k<m)) (let c:=w64 (k+m)
 let j:Int:=IntKind.wrap .u64 c
 let i:Int:=Ï j 2
 let a:=w64 i
 cond (inR a b.length) (let d:=O b a.toNat 0
 (jdc d f).bind λg=>cond g (let e:=w64 (a+1)
 M (.inl (b,f,l,e,m))) (M (.inl (b,f,l,k,a)))) Z) (M (.inr (b,f,l,k)))
def j3L[LP]:=lp5 j1y
abbrev j9q:=eq5 j1y j3L
def j2O[LP](d:Y J)(b:J):S (J×Ç):=
 let e:=U d.length
 (j3L d b e 0 e).bind λa=>cond ((inR a.2.2.2 a.1.length) || !(N (a.2.2.2<a.2.2.1))) (let c:=O a.1 a.2.2.2.toNat 0
 cond ((inR a.2.2.2 a.1.length) || !((N (a.2.2.2<a.2.2.1))&&(!(c==a.2.1)))) (let g:=O a.1 a.2.2.2.toNat 0
 cond (N (a.2.2.2<a.2.2.1)) (cond (c==a.2.1) (M (a.2.2.2,Â)) ((j8A g).bind λf=>cond f ((j8A a.2.1).bind λi=>M (a.2.2.2,i)) (M (a.2.2.2,Á)))) (cond ((c==a.2.1) || !Á) (M (a.2.2.2,Á)) Z)) Z) Z
def jhl(a:Tn28)(b:J):S Bool:=M (cond (N (a.2.2.2.1<=b)) (N (b<a.2.2.2.2)) Á)
def j5N(f e:J)(d:Tn34)(c b:J):S ((J×J×Tn34×J×J) ⊕ (J)):=cond (N (b<c)) (cond (inR b d.length) (let a:=O d b.toNat (0,0,0,0,0)
 (jhl a e).bind λj=>cond (cond (!j) Â (a.1==0)) (let m:=w64 (b+1)
 M (.inl (f,e,d,c,m))) (cond (a.1==1) (let k:=w64 (b+1)
 M (.inl (a.2.1,e,d,c,k))) (cond (a.1 != 2) (let n:=w64 (b+1)
 M (.inl (f,e,d,c,n))) (cond (f==a.2.1) (let l:=w64 (b+1)
 M (.inl (a.2.2.1,e,d,c,l))) (cond (f==a.2.2.1) (let g:=w64 (b+1)
 M (.inl (a.2.1,e,d,c,g))) (let i:=w64 (b+1)
 M (.inl (f,e,d,c,i)))))))) Z) (M (.inr f))
def jdd[LP]:=lp5 j5N
abbrev jfH:=eq5 j5N jdd
def jia[LP](b:Tn34)(a c:J):S Int:=
 let d:=U b.length
 (jdd a c b d 0).bind λe=>M e
def j2P(q p:J)(i:Tn34)(n c:J)(r:Tn59)(e:Tn53)(j:Tn30)(d:Tn70)(f:Tn23)(s:X)(k:Tn65)(g:Tn34)(o:Y J):S ((J×J×Tn34×J×J×Tn59×Tn53×Tn30×Tn70×Tn23×X×Tn65×Tn34×(Y J)) ⊕ (J×J×Tn59×Tn53×Tn30×Tn70×Tn23×X×Tn65×Tn34×(Y J))):=cond (N (c<n)) (cond (inR c i.length) (let a:=O i c.toNat (0,0,0,0,0)
 let b:Y Int:=[a.2.2.2.1,a.2.2.2.2]
 cond (N (W o+W b<=j02)) (let l:Y Int:=o++b
 let m:=w64 (c+1)
 M (.inl (q,p,i,n,m,r,e,j,d,f,s,k,g,l))) Z) Z) (M (.inr (q,p,r,e,j,d,f,s,k,g,o)))
def j76[LP]:=c8 c6 (LP.lp (u8 unc6 j2P))
abbrev jaN:=eq14 j2P j76
def j2Q[LP](j k p r:J)(t:X)(l:Tn65)(b:Tn34)(s a e:J)(d:Y J)(i q:Tn17):S ((J×J×J×J×X×Tn65×Tn34×J×J×J×(Y J)×Tn17×Tn17) ⊕ (J×J×X×Tn65×Tn34×(Y J)×Tn17×Tn17)):=cond (N (k<a)) (cond (inR j d.length) (let g:=O d j.toNat 0
 let f:Int:=if g<a then g else a
 (jia b e k).bind λm=>let c:Tn17:=[(k,f,m)]
 cond (N (W i+W c<=j02)) (let o:Tn17:=i++c
 let n:=w64 (j+1)
 M (.inl (n,f,p,r,t,l,b,s,a,e,d,o,q))) Z) Z) (M (.inr (p,r,t,l,b,d,i,q)))
def j9r[LP]:=c8 c5 (LP.lp (u8 unc5 j2Q))
abbrev jaO:=eq13 j2Q j9r
def j2R[LP](i c:J)(n:X)(m:Tn65)(l:Tn34)(k:Y J)(j d:Tn17):S ((J×J×X×Tn65×Tn34×(Y J)×Tn17×Tn17) ⊕ (Tn17)):=cond (N (c<i)) (cond (inR c d.length) (let b:=O d c.toNat (0,0,0)
 let g:=w64 (b.1+1)
 (j2O k g).bind λe=>(j9r e.1 b.1 i c n m l b.1 b.2.1 b.2.2 k j d).bind λa=>let f:=w64 (a.2.1+1)
 M (.inl (a.1,f,a.2.2.1,a.2.2.2.1,a.2.2.2.2.1,a.2.2.2.2.2.1,a.2.2.2.2.2.2.1,a.2.2.2.2.2.2.2))) Z) (M (.inr j))
def j77[LP]:=lp8 j2R
abbrev jaP:=eq8 j2R j77
def j2f[LP](c:Tn78)(b:Tn69)(d e:J):S Tn17:=
 let k:=U b.2.2.length
 (j76 d e b.2.2 k 0 c.1.1 c.1.2.1 c.1.2.2.1 c.1.2.2.2 c.2 b.1 b.2.1 b.2.2 ([]:(Y J))).bind λa=>(jfG a.2.2.2.2.2.2.2.2.2.2 a.1 a.2.1).bind λg=>(j4W ((a.2.2.1,a.2.2.2.1,a.2.2.2.2.1,a.2.2.2.2.2.1),a.2.2.2.2.2.2.1) (a.2.2.2.2.2.2.2.1,a.2.2.2.2.2.2.2.2.1,a.2.2.2.2.2.2.2.2.2.1) a.1 a.2.1).bind λf=>let i:=U f.length
 (j77 i 0 a.2.2.2.2.2.2.2.1 a.2.2.2.2.2.2.2.2.1 a.2.2.2.2.2.2.2.2.2.1 g ([]:Tn17) f).bind λl=>(jar l).bind λj=>M j
def j5O[LP](b:Tn76)(a d e:J):S (Tn17×J):=(jcg b a d e).bind λc=>cond (c.2 != 0) (M (([]:Tn17),c.2)) (cond (inR a b.2.2.2.length) (let f:=O b.2.2.2 a.toNat (À,[],[])
 (j2f c.1 f d e).bind λg=>let i:=U g.length
 cond (N (i>16384)) (M (([]:Tn17),5)) (M (g,0))) Z)
def j4i(f:Tn16)(i e:J)(g:Tn2):S ((Tn16×J×J×Tn2) ⊕ (Tn2)):=cond (N (e<i)) (cond (inR e f.length) (let a:=O f e.toNat ((0,0),0)
 let b:Tn2:=[a.1]
 cond (N (W g+W b<=j02)) (let d:Tn2:=g++b
 let c:=w64 (e+1)
 M (.inl (f,i,c,d))) Z) Z) (M (.inr g))
def j7w[LP]:=lp4 j4i
abbrev jde:=eq4 j4i j7w
def j93[LP](a:Tn16):S Tn2:=
 let c:=U a.length
 (j7w a c 0 ([]:Tn2)).bind λb=>M b
def jbG(a:Tn3):S Bool:=M (cond (N (a.2<1)) Â (N (a.2>8)))
def j0a(e:Tn16)(f b:J):S ((Tn16×J×J) ⊕ (J ⊕ Ê)):=cond (N (b<f)) (cond (inR b e.length) (let a:=O e b.toNat ((0,0),0)
 (jbG a).bind λd=>cond d (M (.inr (.inl b))) (let c:=w64 (b+1)
 M (.inl (e,f,c)))) Z) (M (.inr (.inr ())))
def j0q[LP]:=lp3 j0a
abbrev j0Q:=eq3 j0a j0q
def j1b[LP](a:Tn16):S Int:=
 let b:=U a.length
 (j0q a b 0).bind λc=>sumC c (λd=>M d) (λe=>M (-1))
def j0G[LP](a:Tn16):S Bool:=(j1b a).bind λb=>M (N (b>=0))
def jc2[LP](a:Tn16):S Int:=(j93 a).bind λd=>(j7P d).bind λc=>cond (c != 0) (M c) ((j0G a).bind λb=>cond b (M 1) (M 0))
def j3e(k:J)(g:Tn17)(j b:J)(f:Tn2):S ((J×Tn17×J×J×Tn2) ⊕ (Tn2)):=cond (N (b<j)) (cond (inR b g.length) (let a:=O g b.toNat (0,0,0)
 cond (a.2.2==k) (let c:Tn2:=[(a.1,a.2.1)]
 cond (N (W f+W c<=j02)) (let e:Tn2:=f++c
 let i:=w64 (b+1)
 M (.inl (k,g,j,i,e))) Z) (let d:=w64 (b+1)
 M (.inl (k,g,j,d,f)))) Z) (M (.inr f))
def j5P[LP]:=lp5 j3e
abbrev jbv:=eq5 j3e j5P
def j3x[LP](b:Tn17)(a:J):S Tn2:=
 let e:=U b.length
 (j5P a b e 0 ([]:Tn2)).bind λd=>(j7R d).bind λc=>M c
def j4K(g:J)(f:Tn2)(i c:J):S ((J×Tn2×J×J) ⊕ (J)):=cond (N (c<i)) (cond (inR c f.length) (let a:=O f c.toNat (0,0)
 let d:=w64 (a.2-a.1)
 let b:=w64 (g+d)
 let e:=w64 (c+1)
 M (.inl (b,f,i,e))) Z) (M (.inr g))
def jaA[LP]:=lp4 j4K
abbrev je6:=eq4 j4K jaA
def jeH[LP](a:Tn2):S Int:=
 let c:=U a.length
 (jaA 0 a c 0).bind λb=>M b
def j4L(m c:J)(d:Tn27)(l:Tn17)(k:Y J):S ((J×J×Tn27×Tn17×(Y J)) ⊕ (Tn27×Tn17)):=cond (N (c<m)) (cond (inR c k.length) (let a:=O k c.toNat 0
 let j:Int:=(j1r (0,0,0) d a).1
 let e:Int:=(j1r (0,0,0) d a).2.1
 let f:Int:=(j1r (0,0,0) d a).2.2
 let b:Tn17:=[(j,e,f)]
 cond (N (W l+W b<=j02)) (let g:Tn17:=l++b
 let i:=w64 (c+1)
 M (.inl (m,i,d,g,k))) Z) Z) (M (.inr (d,l)))
def jaB[LP]:=lp5 j4L
abbrev je7:=eq5 j4L jaB
def jcn[LP](a:Tn27):S (Tn17×Tn27):=cond (joK a) (let c:Y Int:=jep a
 let d:=U c.length
 (jaB d 0 a ([]:Tn17) c).bind λb=>M (b.2,b.1)) Z
def j56(o n:J)(p:Tn16)(i d g:J)(c:Tn2)(e:Tn17)(b:Tn27):S ((J×J×Tn16×J×J×J×Tn2×Tn17×Tn27) ⊕ (J×J×Tn16×J×Tn2×Tn17×Tn27)):=cond (N (d<i)) (cond (inR d e.length) (let a:=O e d.toNat (0,0,0)
 cond (N (a.2.2>=0)) (let r:Int:=(j1r (0,0,0) b a.2.2).1
 let j:Int:=(j1r (0,0,0) b a.2.2).2.1
 let s:Int:=(j1r (0,0,0) b a.2.2).2.2
 let k:=w64 (j+a.2.1)
 let f:=w64 (k-a.1)
 let q:Tn27:=j28 b a.2.2 (a.2.2,f,f)
 let l:=w64 (d+1)
 M (.inl (o,n,p,i,l,g,c,e,q))) (let m:=w64 (d+1)
 M (.inl (o,n,p,i,m,g,c,e,b)))) Z) (M (.inr (o,n,p,g,c,e,b)))
def jbH[LP]:=lp9 j56
abbrev jfb:=eq9 j56 jbH
def jbI[LP](x w:J)(v:Tn16)(p s r:J)(m:Tn2)(t n b:J)(l:Tn17)(k:Tn2)(u:Tn27)(i:J)(a:Tn4){q:Type}(o:Tn4->S q):S q:=
 let g:=w64 (b-1)
 (j3x l i).bind λe=>(j7t e k).bind λc=>(jeH c).bind λj=>let f:=w64 (g*j)
 let d:=w64 (a.2.2+f)
 o (a.1,a.2.1,d)
def j57[LP](q o:J)(d:Tn16)(g c e:J)(b:Tn2)(n:Tn17)(l:Tn27):S ((J×J×Tn16×J×J×J×Tn2×Tn17×Tn27) ⊕ (Tn27)):=cond (N (c<g)) (cond (inR c d.length) (let a:=O d c.toNat ((0,0),0)
 let i:Tn2:=[a.1]
 (j1F (e,b) i q o).bind λk=>(jb8 (λ(j:J)(m:Tn4)=>jbI q o d g c e b a.1.1 a.1.2 a.2 n k l j m M) l).bind λp=>let f:=w64 (c+1)
 M (.inl (q,o,d,g,f,e,b,n,p))) Z) (M (.inr l))
def jbJ[LP]:=lp9 j57
abbrev jfc:=eq9 j57 jbJ
def je8[LP](a:Tn76)(c d f b:J)(j:Tn16):S (Tn17×J):=(j5O a c d f).bind λg=>cond (g.2 != 0) (M (([]:Tn17),g.2)) (let o:=U a.1.length
 cond (cond (N (b<0)) Â (N (b>=o))) (M (([]:Tn17),3)) ((jc2 j).bind λn=>cond (n != 0) (M (([]:Tn17),8)) (cond (inR b a.1.length) (let i:=O a.1 b.toNat (À,0,[])
 (jhh i).bind λk=>let p:Tn27:=[]
 let q:=U g.1.length
 (jbH d f j q 0 k.1.1 k.1.2 g.1 p).bind λe=>let m:=U e.2.2.1.length
 (jbJ e.1 e.2.1 e.2.2.1 m 0 e.2.2.2.1 e.2.2.2.2.1 e.2.2.2.2.2.1 e.2.2.2.2.2.2).bind λr=>(jcn r).bind λl=>M (l.1,0)) Z)))
def j2b(a:Tn59):S Tn59:=cond (N (W ([]:Y (Tn57))+W a<=j02)) (M (([]:Y (Tn57))++a)) Z
def j1E(a:Tn53):S Tn53:=cond (N (W ([]:Y (Tn49))+W a<=j02)) (M (([]:Y (Tn49))++a)) Z
def j1c(a:Tn30):S Tn30:=cond (N (W ([]:Y (Tn22))+W a<=j02)) (M (([]:Y (Tn22))++a)) Z
def j1d(a:Tn70):S Tn70:=cond (N (W ([]:Y (Tn69))+W a<=j02)) (M (([]:Y (Tn69))++a)) Z
def j1e(a:Tn47):S Tn47:=cond (N (W ([]:Y (Tn43))+W a<=j02)) (M (([]:Y (Tn43))++a)) Z
def j14(a:Tn2):S Tn2:=cond (N (W ([]:Y (J×J))+W a<=j02)) (M (([]:Y (J×J))++a)) Z
def j1g(a:Tn65):S Tn65:=cond (N (W ([]:Y (Tn64))+W a<=j02)) (M (([]:Y (Tn64))++a)) Z
def j1w(a:Tn34):S Tn34:=cond (N (W ([]:Y (Tn28))+W a<=j02)) (M (([]:Y (Tn28))++a)) Z
def j5Q(k b:J)(a:Tn59)(d:Tn53)(e:Tn30)(c:Tn70):S ((J×J×Tn59×Tn53×Tn30×Tn70) ⊕ (Tn59×Tn53×Tn30×Tn70)):=cond (N (b<k)) (cond (inR b a.length) (let g:=(O a b.toNat (À,0,[])).2.2
 (j1e g).bind λf=>cond (inR b a.length) (let i:Tn59:=Æ a b.toNat ((O a b.toNat (À,0,[])).1,(O a b.toNat (À,0,[])).2.1,f)
 let j:=w64 (b+1)
 M (.inl (k,j,i,d,e,c))) Z) Z) (M (.inr (a,d,e,c)))
def jdf[LP]:=lp6 j5Q
abbrev jfI:=eq6 j5Q jdf
def j5R(k b:J)(d:Tn59)(a:Tn53)(e:Tn30)(c:Tn70):S ((J×J×Tn59×Tn53×Tn30×Tn70) ⊕ (Tn59×Tn53×Tn30×Tn70)):=cond (N (b<k)) (cond (inR b a.length) (let g:=(O a b.toNat (À,0,[],0,0,Á)).2.2.1
 (j14 g).bind λi=>cond (inR b a.length) (let j:Tn53:=Æ a b.toNat ((O a b.toNat (À,0,[],0,0,Á)).1,(O a b.toNat (À,0,[],0,0,Á)).2.1,i,(O a b.toNat (À,0,[],0,0,Á)).2.2.2.1,(O a b.toNat (À,0,[],0,0,Á)).2.2.2.2.1,(O a b.toNat (À,0,[],0,0,Á)).2.2.2.2.2)
 let f:=w64 (b+1)
 M (.inl (k,f,d,j,e,c))) Z) Z) (M (.inr (d,a,e,c)))
def jdg[LP]:=lp6 j5R
abbrev jfJ:=eq6 j5R jdg
def j5S(k b:J)(d:Tn59)(e:Tn53)(a:Tn30)(c:Tn70):S ((J×J×Tn59×Tn53×Tn30×Tn70) ⊕ (Tn59×Tn53×Tn30×Tn70)):=cond (N (b<k)) (cond (inR b a.length) (let i:=(O a b.toNat (À,0,[])).2.2
 (j24 i).bind λg=>cond (inR b a.length) (let j:Tn30:=Æ a b.toNat ((O a b.toNat (À,0,[])).1,(O a b.toNat (À,0,[])).2.1,g)
 let f:=w64 (b+1)
 M (.inl (k,f,d,e,j,c))) Z) Z) (M (.inr (d,e,a,c)))
def jdh[LP]:=lp6 j5S
abbrev jfK:=eq6 j5S jdh
def j5T(r q j a:J)(e:X)(k:Tn59)(l:Tn53)(o:Tn30)(b:Tn65)(d:Tn34):S ((J×J×J×J×X×Tn59×Tn53×Tn30×Tn65×Tn34) ⊕ (J×J×X×Tn59×Tn53×Tn30×Tn65×Tn34)):=cond (N (a<j)) (cond (inR a b.length) (let m:=(O b a.toNat (À,0,(0,0),0,0,[],[],0,0)).2.2.2.2.2.1
 (j24 m).bind λi=>cond (inR a b.length) (let f:=(O b a.toNat (À,0,(0,0),0,0,[],[],0,0)).2.2.2.2.2.2.1
 (j14 f).bind λn=>cond (inR a b.length) (let c:Tn65:=Æ b a.toNat ((O b a.toNat (À,0,(0,0),0,0,[],[],0,0)).1,(O b a.toNat (À,0,(0,0),0,0,[],[],0,0)).2.1,((O b a.toNat (À,0,(0,0),0,0,[],[],0,0)).2.2.1.1,(O b a.toNat (À,0,(0,0),0,0,[],[],0,0)).2.2.1.2),(O b a.toNat (À,0,(0,0),0,0,[],[],0,0)).2.2.2.1,(O b a.toNat (À,0,(0,0),0,0,[],[],0,0)).2.2.2.2.1,i,(O b a.toNat (À,0,(0,0),0,0,[],[],0,0)).2.2.2.2.2.2.1,(O b a.toNat (À,0,(0,0),0,0,[],[],0,0)).2.2.2.2.2.2.2.1,(O b a.toNat (À,0,(0,0),0,0,[],[],0,0)).2.2.2.2.2.2.2.2)
 cond (inR a c.length) (let p:Tn65:=Æ c a.toNat ((O c a.toNat (À,0,(0,0),0,0,[],[],0,0)).1,(O c a.toNat (À,0,(0,0),0,0,[],[],0,0)).2.1,((O c a.toNat (À,0,(0,0),0,0,[],[],0,0)).2.2.1.1,(O c a.toNat (À,0,(0,0),0,0,[],[],0,0)).2.2.1.2),(O c a.toNat (À,0,(0,0),0,0,[],[],0,0)).2.2.2.1,(O c a.toNat (À,0,(0,0),0,0,[],[],0,0)).2.2.2.2.1,(O c a.toNat (À,0,(0,0),0,0,[],[],0,0)).2.2.2.2.2.1,n,(O c a.toNat (À,0,(0,0),0,0,[],[],0,0)).2.2.2.2.2.2.2.1,(O c a.toNat (À,0,(0,0),0,0,[],[],0,0)).2.2.2.2.2.2.2.2)
 let g:=w64 (a+1)
 M (.inl (r,q,j,g,e,k,l,o,p,d))) Z) Z) Z) Z) (M (.inr (r,q,e,k,l,o,b,d)))
def jaQ[LP]:=c8 c2 (LP.lp (u8 unc2 j5T))
abbrev jfL:=eq10 j5T jaQ
def jfM[LP](b:Tn76):S (Tn59×Tn53×Tn30×X×Tn65×Tn34):=(j2b b.1).bind λl=>(j1E b.2.1).bind λs=>(j1c b.2.2.1).bind λv=>(j1d b.2.2.2).bind λt=>let q:=U l.length
 (jdf q 0 l s v t).bind λf=>let r:=U f.2.1.length
 (jdg r 0 f.1 f.2.1 f.2.2.1 f.2.2.2).bind λi=>let u:=U i.2.2.1.length
 (jdh u 0 i.1 i.2.1 i.2.2.1 i.2.2.2).bind λj=>cond (Nat.beq j.2.2.2.length 1) (let p:=O j.2.2.2 0 (À,[],[])
 (j1g p.2.1).bind λk=>(j1w p.2.2).bind λo=>let n:=U k.length
 (jaQ 1 0 n 0 p.1 j.1 j.2.1 j.2.2.1 k o).bind λa=>let c:=w64 (a.2.1+1)
 cond (N (c<a.1)) (cond (inR c 1) ((j1g a.2.2.2.2.2.2.1).bind λd=>(j1w a.2.2.2.2.2.2.2).bind λg=>let e:=U d.length
 (jaQ a.1 c e 0 a.2.2.1 a.2.2.2.1 a.2.2.2.2.1 a.2.2.2.2.2.1 d g).bind λm=>let w:=w64 (m.2.1+1)
 Z) Z) (M (a.2.2.2.1,a.2.2.2.2.1,a.2.2.2.2.2.1,a.2.2.1,a.2.2.2.2.2.2.1,a.2.2.2.2.2.2.2))) Z
def jib[LP](a:Tn76)(b:J):S (J×Tn59×Tn53×Tn30×X×Tn65×Tn34):=(j2N a).bind λe=>cond (e != 0) (Z) ((j8P a b).bind λd=>cond (!d) (Z) ((jfM a).bind λc=>M (0,c.1,c.2.1,c.2.2.1,c.2.2.2.1,c.2.2.2.2.1,c.2.2.2.2.2)))
def je9[LP](d:Tn76)(b:J)(c:Tn28):S (Tn76×J):=(jib d b).bind λa=>cond (a.1 != 0) (M ((([]:Tn59),([]:Tn53),([]:Tn30),([]:Tn70)),a.1)) (cond (inR b 1) (let f:Tn34:=[c]
 cond (N (W a.2.2.2.2.2.2+W f<=j02)) (let g:Tn34:=a.2.2.2.2.2.2++f
 (j2N (a.2.1,a.2.2.1,a.2.2.2.1,[(a.2.2.2.2.1,a.2.2.2.2.2.1,g)])).bind λe=>cond (e != 0) (M ((([]:Tn59),([]:Tn53),([]:Tn30),([]:Tn70)),e)) (M ((a.2.1,a.2.2.1,a.2.2.2.1,[(a.2.2.2.2.1,a.2.2.2.2.2.1,g)]),0))) Z) Z)
def j7V[LP](b:Tn76)(a c e f:J):S (Tn76×J):=(je9 b a (1,c,0,e,f)).bind λd=>M d
def jco(a:Tn28)(f c d:J):S Bool:=
 let b:Int:=if c>a.2.2.2.1 then c else a.2.2.2.1
 let e:Int:=if d<a.2.2.2.2 then d else a.2.2.2.2
 M (cond (cond (a.1==0) (a.2.1==f) Á) (N (b<e)) Á)
def j0D(g:Tn34)(i c b j d:J):S ((Tn34×J×J×J×J×J) ⊕ (J ⊕ Ê)):=cond (N (d<j)) (cond (inR d g.length) (let a:=O g d.toNat (0,0,0,0,0)
 (jco a i c b).bind λf=>cond f (M (.inr (.inl d))) (let e:=w64 (d+1)
 M (.inl (g,i,c,b,j,e)))) Z) (M (.inr (.inr ())))
def j1k[LP]:=lp6 j0D
abbrev j3p:=eq6 j0D j1k
def j2F[LP](b:Tn34)(d c a:J):S Int:=
 let e:=U b.length
 (j1k b d c a e 0).bind λf=>sumC f (λg=>M g) (λi=>M (-1))
def j25[LP](c:Tn34)(d b a:J):S Bool:=(j2F c d b a).bind λe=>M (N (e>=0))
def jaR[LP](d:Tn69)(a b c:J):S Bool:=(j25 d.2.2 a b c).bind λe=>M e
def jcp[LP](c:Tn76)(b d e:J):S (Tn78×J):=(jjf c).bind λa=>cond (!a.2) (M (a.1,8)) (let f:=U c.2.1.length
 cond (cond (N (b<0)) Â (N (b>=f))) (M (a.1,3)) ((jap d e).bind λg=>cond (!g) (M (a.1,1)) (M (a.1,0))))
def j3M[LP](q r p:J)(g:Tn70)(o c:J)(s:Tn59)(f:Tn53)(j:Tn30)(e:Tn70)(i:Tn23)(k:Tn2):S ((J×J×J×Tn70×J×J×Tn59×Tn53×Tn30×Tn70×Tn23×Tn2) ⊕ (J ⊕ Tn2)):=cond (N (c<o)) (cond (inR c g.length) (let a:=O g c.toNat (À,[],[])
 (j2f ((s,f,j,e),i) a r p).bind λb=>let n:=U b.length
 cond (N (n>16384)) (M (.inr (.inl 5))) ((j3x b q).bind λd=>cond (N (W k+W d<=j02)) (let m:Tn2:=k++d
 let l:=w64 (c+1)
 M (.inl (q,r,p,g,o,l,s,f,j,e,i,m))) Z)) Z) (M (.inr (.inr k)))
def j8B[LP]:=c8 c4 (LP.lp (u8 unc4 j3M))
abbrev jcq:=eq12 j3M j8B
def j9s[LP](a:Tn78)(b c d:J):S (Tn2×J):=
 let g:=U a.1.2.2.2.length
 (j8B b c d a.1.2.2.2 g 0 a.1.1 a.1.2.1 a.1.2.2.1 a.1.2.2.2 a.2 ([]:Tn2)).bind λi=>sumC i (λk=>M (([]:Tn2),k)) (λj=>(j7R j).bind λe=>let f:=U e.length
 cond (N (f>4096)) (M (([]:Tn2),5)) (M (e,0)))
def j83(a:J)(g:Tn17)(b:J)(f:Tn17)(k j:J)(l:Tn34):S ((Tn17×Tn17×J×J×J×J×Tn34) ⊕ (Tn34)):=cond (inR a g.length) (let e:=O g a.toNat (0,0,0)
 cond (inR b f.length) (let c:=O f b.toNat (0,0,0)
 cond (N (e.2.1<c.2.1)) (let i:=w64 (a+1)
 M (.inl (g,f,k,j,i,b,l))) (let d:=w64 (b+1)
 M (.inl (g,f,k,j,a,d,l)))) Z) Z
def j9t(d e:Tn17)(u t a b:J)(q:Tn34):S ((Tn17×Tn17×J×J×J×J×Tn34) ⊕ (Tn34)):=
 let r:=U d.length
 let n:=U e.length
 cond (cond (N (a<r)) (N (b<n)) Á) (cond (inR a d.length) (let k:=O d a.toNat (0,0,0)
 cond (inR b e.length) (let g:=O e b.toNat (0,0,0)
 let m:Int:=if g.1>k.1 then g.1 else k.1
 cond (inR a d.length) (let f:=O d a.toNat (0,0,0)
 cond (inR b e.length) (let l:=O e b.toNat (0,0,0)
 let i:Int:=if l.2.1<f.2.1 then l.2.1 else f.2.1
 cond (inR a d.length) (let c:=O d a.toNat (0,0,0)
 cond ((inR b e.length) || !(N (c.2.2>=0))) (let o:=O e b.toNat (0,0,0)
 let s:Bool:=cond (cond (N (c.2.2>=0)) (c.2.2==o.2.2) Á) (N (m<i)) Á
 cond s (let j:Tn34:=[(c.2.2,u,t,m,i)]
 cond (N (W q+W j<=j02)) (let p:Tn34:=q++j
 j83 a d b e u t p) Z) (j83 a d b e u t q)) Z) Z) Z) Z) Z) Z) (M (.inr q))
def jic[LP]:=lp7 j9t
def jfN[LP](c b:Tn17)(d a:J):S Tn34:=(jic c b d a 0 0 ([]:Tn34)).bind λe=>M e
def jcr(b a:Tn28):S Int:=
 let c:=w64 (b.2.2.2.1-a.2.2.2.1)
 M c
def j2v(n q p f:J)(e:Tn34):S ((J×J×J×J×Tn34) ⊕ (J×J×J×Tn34)):=cond (N (f>n)) (cond (inR f e.length) (let a:=O e f.toNat (0,0,0,0,0)
 let i:=w64 (f-1)
 cond (inR i e.length) (let c:=O e i.toNat (0,0,0,0,0)
 (jcr a c).bind λm=>cond (N (m<0)) (let k:=w64 (f-1)
 let g:=w64 (f-1)
 cond (inR g e.length) (let b:=O e g.toNat (0,0,0,0,0)
 cond (inR f e.length) (let d:=O e f.toNat (0,0,0,0,0)
 cond (inR f e.length) (let j:Tn34:=Æ e f.toNat b
 cond (inR k j.length) (let o:Tn34:=Æ j k.toNat d
 let l:=w64 (f-1)
 M (.inl (n,q,p,l,o))) Z) Z) Z) Z) (M (.inr (n,q,p,e)))) Z) Z) (M (.inr (n,q,p,e)))
def j7c[LP]:=lp5 j2v
def j2w[LP](f d c:J)(e:Tn34):S ((J×J×J×Tn34) ⊕ (Tn34)):=cond (N (c<d)) ((j7c f d c c e).bind λa=>let b:=w64 (a.2.2.1+1)
 M (.inl (a.1,a.2.1,b,a.2.2.2))) (M (.inr e))
def j7d[LP]:=lp4 j2w
def j26[LP](a:Tn34)(b c:J):S Tn34:=
 let d:=w64 (b+1)
 (j7d b c d a).bind λe=>M e
def j3Y[LP](e d g c:J)(f:Tn34):S ((J×J×J×J×Tn34) ⊕ (J×J×J×Tn34)):=cond (N (c<=e)) ((j26 f g c).bind λb=>let a:=w64 (c+d)
 M (.inl (e,d,c,a,b))) (M (.inr (e,d,g,f)))
def j9u[LP]:=lp5 j3Y
def j3Z(b a c e:J)(f:Tn34):S ((J×J×J×J×Tn34) ⊕ (J×J×J×Tn34)):=cond (N (e<=b)) (let d:=w64 (c+a)
 Z) (M (.inr (b,a,c,f)))
def j9v[LP]:=lp5 j3Z
def j40[LP](f e:J)(g:Tn34):S ((J×J×Tn34) ⊕ (Tn34)):=cond (N (e<f)) (let d:=w64 (2*e)
 (j9v f e 0 d g).bind λa=>let b:=w64 (a.2.2.1+a.2.1)
 cond (N (b<a.1)) (Z) (let c:=w64 (a.2.1*2)
 M (.inl (a.1,c,a.2.2.2)))) (M (.inr g))
def j9w[LP]:=lp3 j40
def j6e[LP](a:Tn34)(c:J):S Tn34:=(j9u c 20 0 20 a).bind λb=>(j26 b.2.2.2 b.2.2.1 b.1).bind λd=>(j9w b.1 b.2.1 d).bind λe=>M e
def j1H[LP](a:Tn34):S Tn34:=
 let b:=U a.length
 (j6e a b).bind λc=>M c
def j2x[LP](o p:J)(e:Tn70)(n c:J)(q:Tn59)(j:Tn53)(i:Tn30)(f:Tn70)(d:Tn23)(g:Tn25):S ((J×J×Tn70×J×J×Tn59×Tn53×Tn30×Tn70×Tn23×Tn25) ⊕ (J ⊕ Tn25)):=cond (N (c<n)) (cond (inR c e.length) (let b:=O e c.toNat (À,[],[])
 (j2f ((q,j,i,f),d) b o p).bind λa=>let l:=U a.length
 cond (N (l>16384)) (M (.inr (.inl 5))) (cond (N (W g+W [a]<=j02)) (let m:Tn25:=g++[a]
 let k:=w64 (c+1)
 M (.inl (o,p,e,n,k,q,j,i,f,d,m))) Z)) Z) (M (.inr (.inr g)))
def j6t[LP]:=c8 c3 (LP.lp (u8 unc3 j2x))
abbrev jac:=eq11 j2x j6t
def j41[LP](c b m l:J)(a:Tn25)(e:Tn34):S ((J×J×J×J×Tn25×Tn34) ⊕ (J×J×Tn25×Tn34)):=
 let f:=U a.length
 cond (N (b<f)) (cond (inR c a.length) (let g:=O a c.toNat ([]:Tn17)
 cond (inR b a.length) (let j:=O a b.toNat ([]:Tn17)
 (jfN g j c b).bind λd=>cond (N (W e+W d<=j02)) (let i:Tn34:=e++d
 let k:=w64 (b+1)
 M (.inl (c,k,m,l,a,i))) Z) Z) Z) (M (.inr (m,l,a,e)))
def j8R[LP]:=lp6 j41
abbrev jfj:=eq6 j41 j8R
def j2y[LP](e b:J)(g:Tn25)(f:Tn34):S ((J×J×Tn25×Tn34) ⊕ (Tn34)):=cond (N (b<e)) (let c:=w64 (b+1)
 (j8R b c e b g f).bind λa=>let d:=w64 (a.2.1+1)
 M (.inl (a.1,d,a.2.2.1,a.2.2.2))) (M (.inr f))
def j6u[LP]:=lp4 j2y
abbrev jad:=eq4 j2y j6u
def j4X[LP](a:Tn76)(c d:J):S (Tn34×J):=(jjf a).bind λb=>cond (!b.2) (M (([]:Tn34),8)) ((jap c d).bind λe=>cond (!e) (M (([]:Tn34),1)) (let k:=U a.2.2.2.length
 (j6t c d a.2.2.2 k 0 b.1.1.1 b.1.1.2.1 b.1.1.2.2.1 b.1.1.2.2.2 b.1.2 ([]:Tn25)).bind λl=>sumC l (λn=>M (([]:Tn34),n)) (λm=>let g:=U m.length
 (j6u g 0 m ([]:Tn34)).bind λf=>let i:=U f.length
 cond (N (i>16384)) (M (([]:Tn34),5)) ((j1H f).bind λj=>M (j,0)))))
def j3N(i n:J)(l:Tn2)(m d:J):S ((J×J×Tn2×J×J) ⊕ (J)):=cond (N (d<m)) (cond (inR d l.length) (let a:=O l d.toNat (0,0)
 let e:Int:=if i<a.2 then i else a.2
 let b:=w64 (i-604800)
 let j:Int:=if b>a.1 then b else a.1
 let c:=w64 (e-j)
 let k:Int:=if c>0 then c else 0
 let g:=w64 (n+k)
 let f:=w64 (d+1)
 M (.inl (i,g,l,m,f))) Z) (M (.inr n))
def jbi[LP]:=lp5 j3N
abbrev jcs:=eq5 j3N jbi
def j9x[LP](a:Tn2)(b:J):S Int:=
 let c:=U a.length
 (jbi b 0 a c 0).bind λd=>M d
def j4j(o:Tn2)(m n l:J)(d:Tn2)(j b:J)(k:Y J):S ((Tn2×J×J×J×Tn2×J×J×(Y J)) ⊕ (Tn2×J×J×J×(Y J))):=cond (N (b<j)) (cond (inR b d.length) (let a:=O d b.toNat (0,0)
 let f:=w64 (a.1+604800)
 let g:=w64 (a.2+604800)
 let c:Y Int:=[a.1,a.2,f,g]
 cond (N (W k+W c<=j02)) (let e:Y Int:=k++c
 let i:=w64 (b+1)
 M (.inl (o,m,n,l,d,j,i,e))) Z) Z) (M (.inr (o,m,n,l,k)))
def j9y[LP]:=lp8 j4j
abbrev jdi:=eq8 j4j j9y
def j4k[LP](p:Tn2)(i q g b:J)(e d:Y J):S ((Tn2×J×J×J×J×(Y J)×(Y J)) ⊕ (Y J)):=cond (N (b<g)) (cond (inR b d.length) (let a:=O d b.toNat 0
 (j9x p q).bind λc=>(j9x p a).bind λk=>cond (cond (N (c<=i)) (N (k>i)) Á) (let j:=w64 (q+i)
 let n:=w64 (j-c)
 let f:=w64 (n+1)
 cond (N (W e+W [f]<=j02)) (let m:Y Int:=e++[f]
 let o:=w64 (b+1)
 M (.inl (p,i,a,g,o,m,d))) Z) (let l:=w64 (b+1)
 M (.inl (p,i,a,g,l,e,d)))) Z) (M (.inr e))
def j9z[LP]:=lp7 j4k
abbrev jdj:=eq7 j4k j9z
def jdk[LP](a:Tn2)(c b e:J):S (Y J):=
 let g:=U a.length
 (j9y a c b e a g 0 ([]:(Y J))).bind λd=>(jfG d.2.2.2.2 d.2.2.1 d.2.2.2.1).bind λf=>let i:=U f.length
 (j9z d.1 d.2.1 d.2.2.1 i 0 ([]:(Y J)) f).bind λj=>M j
def j34(a:Tn2)(m b:J)(g:Y J):S ((Tn2×J×J×(Y J)) ⊕ (Y J)):=
 let n:=U a.length
 cond (N (b<n)) (cond (inR b a.length) (let l:=O a b.toNat (0,0)
 let c:=w64 (b-1)
 cond (inR c a.length) (let k:=O a c.toNat (0,0)
 let i:=w64 (l.1-k.2)
 cond (N (i<m)) (cond (inR b a.length) (let d:=O a b.toNat (0,0)
 cond (N (W g+W [d.1]<=j02)) (let j:Y Int:=g++[d.1]
 let f:=w64 (b+1)
 M (.inl (a,m,f,j))) Z) Z) (let e:=w64 (b+1)
 M (.inl (a,m,e,g)))) Z) Z) (M (.inr g))
def jct[LP]:=lp4 j34
abbrev j9A:=eq4 j34 jct
def jdl[LP](b:Tn2)(a:J):S (Y J):=(jct b a 1 ([]:(Y J))).bind λc=>M c
def j7x(b:Tn78)(a:J):S Tn15:=cond (inR a b.2.length) (let c:=O b.2 a.toNat (0,[])
 M c) Z
def j3O(e:Tn2)(g d:J)(f:Y J):S ((Tn2×J×J×(Y J)) ⊕ (Y J)):=cond (N (d<g)) (cond (inR d e.length) (let a:=O e d.toNat (0,0)
 cond (N (W f+W [a.1]<=j02)) (let c:Y Int:=f++[a.1]
 let b:=w64 (d+1)
 M (.inl (e,g,b,c))) Z) Z) (M (.inr f))
def j8C[LP]:=lp4 j3O
abbrev jcu:=eq4 j3O j8C
def jbK[LP](a:Tn2):S (Y J):=
 let c:=U a.length
 (j8C a c 0 ([]:(Y J))).bind λb=>M b
def j4x(b a:Tn4):S Int:=cond (b.2.2 != a.2.2) (let e:=w64 (b.2.2-a.2.2)
 M e) (cond (b.1 != a.1) (let c:=w64 (b.1-a.1)
 M c) (let d:=w64 (b.2.1-a.2.1)
 M d))
def j0m(a:Tn17):S Tn17:=
 jmn (.pair (.int .i64) (.pair (.int .i64) (.int .i64))) (λb c=>(j4x b c).getD 0) a
def j0k(i b f:J)(a:Tn17):S ((J×J×J×Tn17) ⊕ (J×Tn17)):=
 let l:=U (W a-b.toNat)
 cond (N (f<l)) (cond (inR f (W a-b.toNat)) (let c:=O a (b.toNat+f.toNat) (0,0,0)
 let g:=w64 (f-1)
 cond (inR g (W a-b.toNat)) (let d:=O a (b.toNat+g.toNat) (0,0,0)
 cond (!((c.1==d.1)&&((c.2.1==d.2.1)&&(c.2.2==d.2.2)))) (cond (inR f (W a-b.toNat)) (let e:=O a (b.toNat+f.toNat) (0,0,0)
 cond (inR i a.length) (let n:Tn17:=Æ a i.toNat e
 let j:=w64 (i+1)
 let m:=w64 (f+1)
 M (.inl (j,(U b.toNat),m,n))) Z) Z) (let k:=w64 (f+1)
 M (.inl (i,(U b.toNat),k,a)))) Z) Z) (M (.inr (i,a)))
def j0M[LP]:=lp4 j0k
abbrev j2c:=eq4 j0k j0M
def j0l[LP](b:J)(d:Tn17):S ((J×Tn17) ⊕ ((J×Tn17) ⊕ Tn17)):=
 let j:=U d.length
 cond (N (b<j)) (cond (inR b d.length) (let e:=O d b.toNat (0,0,0)
 let f:=w64 (b-1)
 cond (inR f d.length) (let c:=O d f.toNat (0,0,0)
 cond ((e.1==c.1)&&((e.2.1==c.2.1)&&(e.2.2==c.2.2))) (cond (N (0<=b)&&N (b<=(U d.length))) ((j0M b (U b.toNat) 1 d).bind λa=>cond (N (0<=a.1)&&N (a.1<=(U a.2.length))) (let g:Tn17:=Ë a.1.toNat a.2++Ì (W a.2-a.1.toNat) (0,0,0)
 cond (N (0<=a.1)&&N (a.1<=(U g.length))) (M (.inr (.inl ((U a.1.toNat),g)))) Z) Z) Z) (let i:=w64 (b+1)
 M (.inl (i,d)))) Z) Z) (M (.inr (.inr d)))
def j0b[LP]:=lp2 j0l
theorem j2d(a b):j0b a b=lpK (j0l a b) (λh=>j0b h.1 h.2):=j0e _ _
def j0E[LP](a:Tn17):S (J×Tn17):=
 let b:=U a.length
 cond (N (b<2)) (M ((U a.length),a)) ((j0b 1 a).bind λc=>sumC c (λe=>M ((U e.1.toNat),e.2)) (λd=>M ((U d.length),d)))
def j2g(n j b:J)(f:Tn34)(e d c a:Y J):S ((J×J×J×Tn34×(Y J)×(Y J)×(Y J)×(Y J)) ⊕ (J×(Y J)×(Y J)×(Y J)×(Y J))):=cond (N (b<j)) (cond (inR b f.length) (let i:=O f b.toNat (0,0,0,0,0)
 cond (i.1==n) (let g:Y Int:=[i.2.2.2.1]
 cond (N (W a+W g<=j02)) (let m:Y Int:=a++g
 let l:=w64 (b+1)
 M (.inl (n,j,l,f,e,d,c,m))) Z) (let k:=w64 (b+1)
 M (.inl (n,j,k,f,e,d,c,a)))) Z) (M (.inr (n,e,d,c,a)))
def j4l[LP]:=lp8 j2g
abbrev j9B:=eq8 j2g j4l
def j2h(m l:J)(i:Y (Y J))(d:J)(c:Y J)(e a:J)(f:Tn17):S ((J×J×(Y (Y J))×J×(Y J)×J×J×Tn17) ⊕ (J×(Y (Y J))×J×Tn17)):=cond (N (a<e)) (cond (inR a c.length) (let k:=O c a.toNat 0
 let b:Tn17:=[(l,m,k)]
 cond (N (W f+W b<=j02)) (let j:Tn17:=f++b
 let g:=w64 (a+1)
 M (.inl (m,l,i,d,c,e,g,j))) Z) Z) (M (.inr (m,i,d,f)))
def j27[LP]:=lp8 j2h
abbrev j9C:=eq8 j2h j27
def j0U[LP](i:J)(f:Y (Y J))(a:J)(g:Tn17):S ((J×(Y (Y J))×J×Tn17) ⊕ (Tn17)):=cond (N (a<4)) (cond (inR a 4) (let c:=O f a.toNat ([]:(Y J))
 let e:=U c.length
 (j27 i a f a c e 0 g).bind λb=>let d:=w64 (b.2.2.1+1)
 M (.inl (b.1,b.2.1,d,b.2.2.2))) Z) (M (.inr g))
def j5y[LP]:=lp4 j0U
abbrev j2S:=eq4 j0U j5y
def j5U[LP](j:Tn34×J)(d:J)(l m n:Y J):S (Tn17×J):=
 let e:=U j.1.length
 (j4l d e 0 j.1 l m n ([]:(Y J))).bind λa=>let i:(Y (Y J)):=[a.2.1,a.2.2.1,a.2.2.2.1,a.2.2.2.2]
 (j5y a.1 i 0 ([]:Tn17)).bind λk=>(j0m k).bind λf=>(j0E f).bind λb=>let c:Tn17:=Ë b.1.toNat b.2
 let g:=U c.length
 cond (N (g>16384)) (M (([]:Tn17),5)) (M (c,0))
def j87[LP](f:Tn49)(b:Tn78×J)(e g:J)(n:Tn2×J)(l:Tn34×J)(a:J)(o m:Y J):S (Tn17×J):=cond (!f.2.2.2.2.2) ((j7x b.1 f.2.1).bind λc=>(j1F c f.2.2.1 e g).bind λk=>(j7t n.1 k).bind λd=>let i:=U d.length
 cond (N (i>4096)) (M (([]:Tn17),5)) ((jbK d).bind λj=>j5U l a o m j)) (j5U l a o m ([]:(Y J)))
def j88[LP](d:Tn49)(e:Tn2×J)(g:Tn78×J)(b c:J)(i:Tn34×J)(a:J)(j:Y J):S (Tn17×J):=cond (d.2.2.2.2.1 != 0) ((jdl e.1 d.2.2.2.2.1).bind λf=>j87 d g b c e i a j f) (j87 d g b c e i a j ([]:(Y J)))
def j3i[LP](c:Tn76)(a b d:J):S (Tn17×J):=(jcp c a b d).bind λe=>cond (e.2 != 0) (M (([]:Tn17),e.2)) ((j9s e.1 a b d).bind λf=>cond (f.2 != 0) (M (([]:Tn17),f.2)) ((j4X c b d).bind λi=>cond (i.2 != 0) (M (([]:Tn17),i.2)) (cond (inR a c.2.1.length) (let g:=O c.2.1 a.toNat (À,0,[],0,0,Á)
 cond (g.2.2.2.1 != 0) ((jdk f.1 g.2.2.2.1 b d).bind λj=>j88 g f e b d i a j) (j88 g f e b d i a ([]:(Y J)))) Z)))
def j0o(f:Tn17)(i b g d c:J):S ((Tn17×J×J×J×J×J) ⊕ (J ⊕ Ê)):=cond (N (b<i)) (cond (inR b f.length) (let a:=O f b.toNat (0,0,0)
 cond ((g==a.1)&&((d==a.2.1)&&(c==a.2.2))) (M (.inr (.inl b))) (let e:=w64 (b+1)
 M (.inl (f,i,e,g,d,c)))) Z) (M (.inr (.inr ())))
def j0S[LP]:=lp6 j0o
abbrev j2n:=eq6 j0o j0S
def j1K[LP](b:Tn17)(a:Tn4):S Int:=
 let c:=U b.length
 (j0S b c 0 a.1 a.2.1 a.2.2).bind λd=>sumC d (λe=>M e) (λf=>M (-1))
def j1z[LP](b:Tn17)(a:Tn4):S Bool:=(j1K b a).bind λc=>M (N (c>=0))
def j8h[LP](a:Tn4)(b:Tn17):S Bool:=(j1z b a).bind λc=>M (!c)
def j0f[LP](e f:Tn17)(g b:J):S ((Tn17×Tn17×J×J) ⊕ (J ⊕ Ê)):=cond (N (b<g)) (cond (inR b e.length) (let a:=O e b.toNat (0,0,0)
 (j8h a f).bind λd=>cond d (M (.inr (.inl b))) (let c:=w64 (b+1)
 M (.inl (e,f,g,c)))) Z) (M (.inr (.inr ())))
def j0J[LP]:=lp4 j0f
abbrev j1Q:=eq4 j0f j0J
def j1q[LP](a b:Tn17):S Int:=
 let c:=U a.length
 (j0J a b c 0).bind λd=>sumC d (λe=>M e) (λf=>M (-1))
def j0K[LP](a b:Tn17):S Bool:=(j1q a b).bind λc=>M (N (c>=0))
def j3j[LP](c:Tn76)(b a d f:J):S Bool:=cond (N (a<0)) (M Á) ((j7V c b a d f).bind λe=>cond ((inR b c.2.2.2.length) || !(!(e.2 != 0))) (let g:=O c.2.2.2 b.toNat (À,[],[])
 cond (e.2 != 0) (M Á) ((jaR g a d f).bind λo=>cond o (M Á) (let i:=w64 (d-604800)
 let k:Int:=if i>0 then i else 0
 let l:=w64 (f+604800)
 let n:Int:=if l<8589934592 then l else 8589934592
 (j3i c a k n).bind λm=>(j3i e.1 a k n).bind λj=>cond (cond (m.2 != 0) Â (j.2 != 0)) (M Á) ((j0K j.1 m.1).bind λp=>M (!p))))) Z)
def j7y(a:Tn4)(b:J):S Bool:=M (a.1==b)
def j0F(e:Tn17)(f g b:J):S ((Tn17×J×J×J) ⊕ (J ⊕ Ê)):=cond (N (b<g)) (cond (inR b e.length) (let a:=O e b.toNat (0,0,0)
 (j7y a f).bind λd=>cond d (M (.inr (.inl b))) (let c:=w64 (b+1)
 M (.inl (e,f,g,c)))) Z) (M (.inr (.inr ())))
def j0y[LP]:=lp4 j0F
abbrev j3q:=eq4 j0F j0y
def j2G[LP](a:Tn17)(b:J):S Int:=
 let c:=U a.length
 (j0y a b c 0).bind λd=>sumC d (λe=>M e) (λf=>M (-1))
def j17(b a:J×J):S Int:=cond (b.2 != a.2) (let d:=w64 (b.2-a.2)
 M d) (let c:=w64 (b.1-a.1)
 M c)
def j0g(a:Tn2):S Tn2:=
 jmn (.pair (.int .i64) (.int .i64)) (λb c=>(j17 b c).getD 0) a
def j20[LP](u s p i a:J)(o:Tn59)(e:Tn53)(f:Tn30)(d:Tn70)(c:Tn17)(b:Tn2):S ((J×J×J×J×J×Tn59×Tn53×Tn30×Tn70×Tn17×Tn2) ⊕ (Tn2)):=cond (N (a<i)) ((j3j (o,e,f,d) u a s p).bind λv=>cond (!v) (let n:=w64 (a+1)
 M (.inl (u,s,p,i,n,o,e,f,d,c,b))) ((j2G c a).bind λg=>cond (N (g>=0)) (cond (inR g c.length) (let q:=(O c g.toNat (0,0,0)).2.2
 let k:Tn2:=[(a,q)]
 cond (N (W b+W k<=j02)) (let l:Tn2:=b++k
 let m:=w64 (a+1)
 M (.inl (u,s,p,i,m,o,e,f,d,c,l))) Z) Z) (let j:Tn2:=[(a,0)]
 cond (N (W b+W j<=j02)) (let t:Tn2:=b++j
 let r:=w64 (a+1)
 M (.inl (u,s,p,i,r,o,e,f,d,c,t))) Z))) (M (.inr b))
def j58[LP]:=c8 c3 (LP.lp (u8 unc3 j20))
abbrev j94:=eq11 j20 j58
def j21(g b:J)(d:Y J)(c:Tn2):S ((J×J×(Y J)×Tn2) ⊕ (Y J)):=cond (N (b<g)) (cond (inR b c.length) (let a:=O c b.toNat (0,0)
 cond (N (W d+W [a.1]<=j02)) (let e:Y Int:=d++[a.1]
 let f:=w64 (b+1)
 M (.inl (g,f,e,c))) Z) Z) (M (.inr d))
def j59[LP]:=lp4 j21
abbrev j95:=eq4 j21 j59
def j2T[LP](a:Tn76)(b c d e:J)(k:Tn16):S Tn0:=(jeG a b c d).bind λg=>cond (g != 0) (M (([]:(Y J)),g)) (let j:=w64 (c-2419200)
 let l:Int:=if j>0 then j else 0
 (je8 a b l c e k).bind λf=>cond (f.2 != 0) (M (([]:(Y J)),f.2)) (let m:=U a.2.1.length
 (j58 b c d m 0 a.1 a.2.1 a.2.2.1 a.2.2.2 f.1 ([]:Tn2)).bind λo=>(j0g o).bind λi=>let n:=U i.length
 (j59 n 0 ([]:(Y J)) i).bind λp=>M (p,0)))
def j9D[LP](a:Tn76)(b d f g:J)(i:Tn16):S (Tn76×J×J):=(j2T a b d f g i).bind λc=>cond (c.2 != 0) (M ((([]:Tn59),([]:Tn53),([]:Tn30),([]:Tn70)),0,c.2)) (let k:=U c.1.length
 cond (k==0) (M ((([]:Tn59),([]:Tn53),([]:Tn30),([]:Tn70)),0,10)) (cond (inR 0 c.1.length) (let j:=O c.1 0 0
 (j7V a b j d f).bind λe=>cond (e.2 != 0) (M ((([]:Tn59),([]:Tn53),([]:Tn30),([]:Tn70)),0,e.2)) (cond (inR 0 c.1.length) (let l:=O c.1 0 0
 M (e.1,l,0)) Z)) Z))
def jjT[LP](b:Tn76)(a c d f:J):S (Tn2×J):=(j5O b a d f).bind λe=>cond (e.2 != 0) (M (([]:Tn2),e.2)) ((j3x e.1 c).bind λg=>let i:=U g.length
 cond (N (i>4096)) (M (([]:Tn2),5)) (M (g,0)))
def jid[LP](b:Tn76)(a c d:J):S (Tn2×J):=(jjT b a (-1) c d).bind λe=>M e
def jbw[LP](q o:J)(r:Tn16)(k c:J)(p:Tn59)(e:Tn53)(d:Tn30)(f:Tn70)(g i:Tn2):S ((J×J×Tn16×J×J×Tn59×Tn53×Tn30×Tn70×Tn2×Tn2) ⊕ (Tn59×Tn53×Tn30×Tn70×Tn2)):=cond (N (c<k)) (cond (inR c i.length) (let b:=O i c.toNat (0,0)
 (j9D (p,e,d,f) q b.1 b.2 o r).bind λa=>cond (a.2.2 != 0) (let j:Tn2:=[b]
 cond (N (W g+W j<=j02)) (let l:Tn2:=g++j
 let n:=w64 (c+1)
 M (.inl (q,o,r,k,n,p,e,d,f,l,i))) Z) (let m:=w64 (c+1)
 M (.inl (q,o,r,k,m,a.1.1,a.1.2.1,a.1.2.2.1,a.1.2.2.2,g,i)))) Z) (M (.inr (p,e,d,f,g)))
def jlp[LP]:=c8 c3 (LP.lp (u8 unc3 jbw))
def jjU[LP](a:Tn76)(b c f e:J)(j:Tn16):S (Tn76×Tn2×J):=(j2T a b c f e j).bind λk=>cond (k.2 != 0) (M ((([]:Tn59),([]:Tn53),([]:Tn30),([]:Tn70)),([]:Tn2),k.2)) ((jid a b c f).bind λg=>cond (g.2 != 0) (M ((([]:Tn59),([]:Tn53),([]:Tn30),([]:Tn70)),([]:Tn2),g.2)) ((jfM a).bind λd=>let l:=U g.1.length
 (jlp b e j l 0 d.1 d.2.1 d.2.2.1 [d.2.2.2] ([]:Tn2) g.1).bind λi=>M ((i.1,i.2.1,i.2.2.1,i.2.2.2.1),i.2.2.2.2,0)))
def jlq(a:J):S Bool:=M (cond (N (a>=48)) (N (a<=57)) Á)
def j6I(b:X)(a:J):S ((X×J) ⊕ (Ç ⊕ Ê)):=
 let g:=U (Ä b)
 cond (N (a<g)) (cond (inR a (Ä b)) (let c:=j3a b a
 cond ((inR a (Ä b)) || !(!(N (c<97)))) (let f:=j3a b a
 cond ((inR a (Ä b)) || !(cond (N (c<97)) Â (N (f>122)))) (let l:=j3a b a
 cond (cond (N (c<97)) Â (N (f>122))) ((jlq l).bind λd=>cond ((inR a (Ä b)) || !(!d)) (let e:=j3a b a
 cond ((inR a (Ä b)) || !(cond (!d) (e != 95) Á)) (let k:=j3a b a
 cond (cond (cond (!d) (e != 95) Á) (k != 45) Á) (M (.inr (.inl Á))) (let j:=w64 (a+1)
 M (.inl (b,j)))) Z) Z) (cond ((inR a (Ä b)) || !Á) (let n:=j3a b a
 cond ((inR a (Ä b)) || !Á) (let m:=j3a b a
 let i:=w64 (a+1)
 M (.inl (b,i))) Z) Z)) Z) Z) Z) (M (.inr (.inr ())))
def jcv[LP]:=lp2 j6I
abbrev jgO:=eq2 j6I jcv
def jkr[LP](a:X):S Bool:=
 let c:=U (Ä a)
 let f:=U (Ä a)
 cond ((inR 0 (Ä a)) || !(!(cond (N (c<1)) Â (N (f>24))))) (let e:=j3a a 0
 let b:Bool:=cond (cond (N (c<1)) Â (N (f>24))) Â (N (e<97))
 cond ((inR 0 (Ä a)) || !(!b)) (let d:=j3a a 0
 cond (cond b Â (N (d>122))) (M Á) ((jcv a 0).bind λg=>sumC g (λi=>M i) (λj=>M Â))) Z) Z
def j6J(a:Y X)(b e:J):S (((Y X)×J×J) ⊕ (J ⊕ Ê)):=cond (N (e<b)) (cond (inR e a.length) (let f:=O a e.toNat À
 cond (inR b a.length) (let c:=O a b.toNat À
 cond (È f==È c) (M (.inr (.inl 4))) (let d:=w64 (e+1)
 M (.inl (a,b,d)))) Z) Z) (M (.inr (.inr ())))
def jeI[LP]:=lp3 j6J
abbrev jgP:=eq3 j6J jeI
def jbL[LP](b:Y X)(a:J):S Int:=cond (inR a b.length) (let e:=O b a.toNat À
 (jkr e).bind λc=>cond (!c) (M 2) ((jeI b a 0).bind λd=>sumC d (λf=>M f) (λg=>M 0))) Z
def j9E(a c b:J):S Bool:=M (cond (N (a>=c)) (N (a<=b)) Á)
def jfO(a:Tn43):S Bool:=(j9E a.1 1970 2240).bind λi=>cond i ((j9E a.2.1 a.1 2240).bind λc=>cond c ((j9E a.2.2.1 1 12).bind λe=>cond e ((j9E a.2.2.2.1 1 5).bind λf=>cond f ((j9E a.2.2.2.2.1 0 6).bind λg=>cond g ((j9E a.2.2.2.2.2.1 0 86399).bind λb=>cond b ((j9E a.2.2.2.2.2.2 (-64800) 64800).bind λd=>M d) (M Á)) (M Á)) (M Á)) (M Á)) (M Á)) (M Á)
def jks(a:J):S Bool:=
 let c:=Å a 4
 let d:=Å a 100
 let b:=Å a 400
 M (cond (c==0) (cond (d != 0) Â (b==0)) Á)
def j7z(a b d:J):S Int:=cond (a==d) (M 30) (cond (a==2) ((jks b).bind λc=>cond c (M 29) (M 28)) (M 0))
def j7A(a b c:J):S Int:=cond (a==c) (M 31) (cond (a==4) (j7z a b 4) (cond (a==6) (j7z a b 6) (cond (a==9) (j7z a b 9) (j7z a b 11))))
def jeJ(b a:J):S Int:=cond (a==1) (j7A a b 1) (cond (a==3) (j7A a b 3) (cond (a==5) (j7A a b 5) (cond (a==7) (j7A a b 7) (cond (a==8) (j7A a b 8) (cond (a==10) (j7A a b 10) (j7A a b 12))))))
def jie(a:Tn4):S Bool:=cond (N (a.1>=1970)) (cond (N (a.1<=2240)) (cond (N (a.2.1>=1)) (cond (N (a.2.1<=12)) (cond (N (a.2.2>=1)) ((jeJ a.1 a.2.1).bind λb=>M (N (a.2.2<=b))) (M Á)) (M Á)) (M Á)) (M Á)) (M Á)
def jif(a:J):S Int:=
 let i:=w64 (a-1970)
 let j:=w64 (i*365)
 let k:=w64 (a-1969)
 let l:=w64 (É k 4)
 let m:=w64 (j+l)
 let c:=w64 (a-1901)
 let g:=w64 (É c 100)
 let d:=w64 (m-g)
 let f:=w64 (a-1601)
 let e:=w64 (É f 400)
 let b:=w64 (d+e)
 M b
def j7B(i f g a b:J):S ((J×J×J×J×J) ⊕ (J×J×J×J)):=cond (N (f<a)) ((jeJ g f).bind λc=>let e:=w64 (i+c)
 let d:=w64 (f+1)
 M (.inl (e,d,g,a,b))) (M (.inr (i,g,a,b)))
def jjh[LP]:=lp5 j7B
abbrev jig:=eq5 j7B jjh
def joe[LP](a:Tn4):S (J×J):=(jie a).bind λf=>cond (!f) (M (0,1)) ((jif a.1).bind λb=>(jjh b 1 a.1 a.2.1 a.2.2).bind λc=>let e:=w64 (c.1+c.2.2.2)
 let d:=w64 (e-1)
 M (d,0))
def jcw(a:J):S Int:=
 let b:=Å a 7
 let c:=w64 (b+10)
 let d:=Å c 7
 M d
def j7C(i f g e d a:J):S ((J×J×J×J×J×J) ⊕ (J×J×J×J×J)):=(jcw a).bind λc=>cond (c != e) (let b:=w64 (a+1)
 M (.inl (i,f,g,e,d,b))) (M (.inr (i,f,g,d,a)))
def jji[LP]:=lp6 j7C
abbrev jih:=eq6 j7C jji
def j7D(i g f a:J):S ((J×J×J×J) ⊕ (J)):=
 let d:=w64 (a+7)
 (jeJ i g).bind λe=>let c:=w64 (f+e)
 cond (N (d<c)) (let b:=w64 (a+7)
 M (.inl (i,g,f,b))) (M (.inr a))
def jjj[LP]:=lp4 j7D
abbrev jii:=eq4 j7D jjj
def jof[LP](f c b a:J):S (J×J):=(joe (f,c,1)).bind λe=>let j:Bool:=cond (cond (e.2 != 0) Â (N (b<1))) Â (N (b>5))
 let k:Bool:=cond (cond j Â (N (a<0))) Â (N (a>6))
 cond k (M (0,1)) ((jji f c b a e.1 e.1).bind λd=>cond (N (d.2.2.1<5)) (let l:=w64 (d.2.2.1-1)
 let i:=w64 (7*l)
 let g:=w64 (d.2.2.2.2+i)
 M (g,0)) ((jjj d.1 d.2.1 d.2.2.2.1 d.2.2.2.2).bind λm=>M (m,0)))
def j4t(k:Tn47)(i j c g a:J)(d:Tn2):S ((Tn47×J×J×J×J×J×Tn2) ⊕ (Tn47×J×J×J×J×J×Tn2)):=cond (N (c>0)) (let b:=w64 (c-1)
 cond (inR b d.length) (let e:=(O d b.toNat (0,0)).1
 cond (N (e>g)) (let f:=w64 (c-1)
 M (.inl (k,i,j,f,g,a,d))) (M (.inr (k,i,j,c,g,a,d)))) Z) (M (.inr (k,i,j,c,g,a,d)))
def j78[LP]:=lp7 j4t
abbrev jaS:=eq7 j4t j78
def j2U[LP](d:Tn47)(c v:J)(u:Tn2):S ((Tn47×J×J×Tn2) ⊕ (Tn47×J×Tn2)):=cond (inR c d.length) (let p:=O d c.toNat (0,0,0,0,0,0,0)
 cond (N (v<=p.2.1)) (cond (inR c d.length) (let i:=O d c.toNat (0,0,0,0,0,0,0)
 cond (inR c d.length) (let k:=O d c.toNat (0,0,0,0,0,0,0)
 cond (inR c d.length) (let o:=O d c.toNat (0,0,0,0,0,0,0)
 (jof v i.2.2.1 k.2.2.2.1 o.2.2.2.2.1).bind λr=>let s:=w64 (r.1*86400)
 cond (inR c d.length) (let j:=O d c.toNat (0,0,0,0,0,0,0)
 let q:=w64 (s+j.2.2.2.2.2.1)
 cond (inR c d.length) (let l:=O d c.toNat (0,0,0,0,0,0,0)
 let n:=U u.length
 (j78 d c v n q l.2.2.2.2.2.2 u).bind λa=>let g:Tn2:=[(a.2.2.2.2.1,a.2.2.2.2.2.1)]
 cond (N (W a.2.2.2.2.2.2+W g<=j02)) (let b:Tn2:=a.2.2.2.2.2.2++g
 let e:=w64 (a.2.2.2.1+1)
 cond (N (0<=e)&&N (e<=(U b.length))) (cond (N (0<=a.2.2.2.1)&&N (a.2.2.2.1<=(U b.length))) (let f:Tn2:=over b e.toNat (Í a.2.2.2.1.toNat b)
 let w:=U (min (W (Í a.2.2.2.1.toNat b)) (W b-e.toNat))
 cond (inR a.2.2.2.1 f.length) (let t:Tn2:=Æ f a.2.2.2.1.toNat (a.2.2.2.2.1,a.2.2.2.2.2.1)
 let m:=w64 (a.2.2.1+1)
 M (.inl (a.1,a.2.1,m,t))) Z) Z) Z) Z) Z) Z) Z) Z) Z) (M (.inr (d,c,u)))) Z
def j9F[LP]:=lp4 j2U
abbrev jaT:=eq4 j2U j9F
def j2V[LP](d:Tn47)(b:J)(g:Tn2):S ((Tn47×J×Tn2) ⊕ (Tn2)):=
 let c:=U d.length
 cond (N (b<c)) (cond (inR b d.length) (let e:=O d b.toNat (0,0,0,0,0,0,0)
 (j9F d b e.1 g).bind λa=>let f:=w64 (a.2.1+1)
 M (.inl (a.1,f,a.2.2))) Z) (M (.inr g))
def j79[LP]:=lp3 j2V
abbrev jaU:=eq3 j2V j79
def j9G[LP](a:Tn47):S Tn2:=(j79 a 0 ([]:Tn2)).bind λb=>M b
def j2W(n c:J)(o:X)(d:J)(a:Tn47):S ((J×J×X×J×Tn47) ⊕ (J ⊕ (J×X×J×Tn47))):=
 let e:=U a.length
 cond (N (c<e)) (cond (inR c a.length) (let b:=O a c.toNat (0,0,0,0,0,0,0)
 (jfO b).bind λm=>cond (!m) (M (.inr (.inl 1))) (cond (inR c a.length) (let i:=O a c.toNat (0,0,0,0,0,0,0)
 cond (inR c a.length) (let k:=O a c.toNat (0,0,0,0,0,0,0)
 let j:=w64 (i.2.1-k.1)
 let f:=w64 (j+1)
 let l:=w64 (n+f)
 let g:=w64 (c+1)
 M (.inl (l,g,o,d,a))) Z) Z)) Z) (M (.inr (.inr (n,o,d,a))))
def j5a[LP]:=lp5 j2W
theorem jaV(c d e b a):j5a c d e b a=lpK (j2W c d e b a) (λh=>j5a h.1 h.2.1 h.2.2.1 h.2.2.2.1 h.2.2.2.2):=j0e _ _
def j2X(w d:J)(e c:Tn2):S ((J×J×Tn2×Tn2) ⊕ (J ⊕ Tn2)):=
 let s:=U c.length
 cond (N (d<s)) (cond (inR d c.length) (let q:=(O c d.toNat (0,0)).2
 cond (q==w) (let o:=w64 (d+1)
 M (.inl (w,o,e,c))) (cond (inR d c.length) (let t:=(O c d.toNat (0,0)).1
 let b:=w64 (t-w)
 cond (inR d c.length) (let a:=(O c d.toNat (0,0)).2
 let r:=w64 (a-w)
 (j9E r (-86399) 86399).bind λy=>cond (!y) (M (.inr (.inl 6))) ((j9E b 0 8589934592).bind λu=>cond (!u) (M (.inr (.inl 6))) (let p:=U e.length
 cond (N (p>0)) (let n:=U e.length
 let g:=w64 (n-1)
 cond (inR g e.length) (let j:=(O e g.toNat (0,0)).1
 let k:=w64 (b-j)
 cond (N (k<604800)) (M (.inr (.inl 6))) (let i:Tn2:=[(b,a)]
 cond (N (W e+W i<=j02)) (let l:Tn2:=e++i
 let x:=w64 (d+1)
 M (.inl (a,x,l,c))) Z)) Z) (let f:Tn2:=[(b,a)]
 cond (N (W e+W f<=j02)) (let m:Tn2:=e++f
 let v:=w64 (d+1)
 M (.inl (a,v,m,c))) Z)))) Z) Z)) Z) (M (.inr (.inr e)))
def j5b[LP]:=lp4 j2X
theorem jaW(b a d c):j5b b a d c=lpK (j2X b a d c) (λh=>j5b h.1 h.2.1 h.2.2.1 h.2.2.2):=j0e _ _
def j0s[LP](a:Tn57):S (Tn2×J):=(j9E a.2.1 (-64800) 64800).bind λc=>cond (!c) (M (([]:Tn2),1)) (let d:=U a.2.2.length
 cond (N (d>16)) (M (([]:Tn2),5)) ((j5a 0 0 a.1 a.2.1 a.2.2).bind λg=>sumC g (λk=>M (([]:Tn2),k)) (λi=>cond (N (i.1>640)) (M (([]:Tn2),5)) ((j9G i.2.2.2).bind λf=>(j5b i.2.2.1 0 ([]:Tn2) f).bind λj=>sumC j (λe=>M (([]:Tn2),e)) (λb=>M (b,0))))))
def j7E[LP](a:Tn57):S Int:=(j0s a).bind λb=>M b.2
def j4M(g:Ç)(b:J)(j:X)(i:J)(a:Tn47):S ((Ç×J×X×J×Tn47) ⊕ (Ç)):=
 let e:=U a.length
 cond (N (b<e)) (cond ((inR b a.length) || !g) (let f:=O a b.toNat (0,0,0,0,0,0,0)
 let d:=Å f.2.2.2.2.2.2 60
 let c:=w64 (b+1)
 M (.inl ((cond g (d==0) Á),c,j,i,a))) Z) (M (.inr g))
def jaC[LP]:=lp5 j4M
abbrev jea:=eq5 j4M jaC
def jcx[LP](a:Tn57):S Bool:=
 let c:=Å a.2.1 60
 (jaC (c==0) 0 a.1 a.2.1 a.2.2).bind λb=>M b
def j5V[LP](a:J)(d:Tn59)(o:Tn53)(l:Tn30)(n:Tn70)(p:Y X):S ((J×Tn59×Tn53×Tn30×Tn70×(Y X)) ⊕ (J ⊕ Ê)):=
 let m:=U d.length
 cond (N (a<m)) (cond (inR a d.length) (let e:=O d a.toNat (À,0,[])
 cond (N (W p+W [e.1]<=j02)) (let i:Y ByteArray:=p++[e.1]
 (jbL i a).bind λf=>cond (f != 0) (M (.inr (.inl f))) (cond (inR a d.length) (let b:=O d a.toNat (À,0,[])
 (j7E b).bind λg=>cond ((inR a d.length) || !(!(g != 0))) (let c:=O d a.toNat (À,0,[])
 cond (g != 0) (M (.inr (.inl 8))) ((jcx c).bind λj=>cond (!j) (M (.inr (.inl 8))) (let k:=w64 (a+1)
 M (.inl (k,d,o,l,n,i))))) Z) Z)) Z) Z) (M (.inr (.inr ())))
def jdm[LP]:=lp6 j5V
abbrev jfP:=eq6 j5V jdm
def jlr[LP](a:Tn76):S Int:=(jdm 0 a.1 a.2.1 a.2.2.1 a.2.2.2 ([]:(Y X))).bind λb=>sumC b (λc=>M c) (λd=>M 0)
def j8i(a c b:J):S Bool:=M (cond (N (a>=c)) (N (a<=b)) Á)
def j3k(b:Tn2)(a:J):S ((Tn2×J) ⊕ (J ⊕ Ê)):=
 let m:=U b.length
 cond (N (a<m)) (cond (inR a b.length) (let d:=O b a.toNat (0,0)
 cond (N (d.1<0)) (M (.inr (.inl 1))) (cond (inR a b.length) (let e:=O b a.toNat (0,0)
 cond (inR a b.length) (let f:=O b a.toNat (0,0)
 cond (N (e.1>=f.2)) (M (.inr (.inl 1))) (cond (inR a b.length) (let k:=O b a.toNat (0,0)
 cond (N (k.2>604800)) (M (.inr (.inl 1))) (cond (N (a>0)) (cond (inR a b.length) (let l:=O b a.toNat (0,0)
 let c:=w64 (a-1)
 cond (inR c b.length) (let g:=O b c.toNat (0,0)
 cond (N (l.1<g.2)) (M (.inr (.inl 6))) (let i:=w64 (a+1)
 M (.inl (b,i)))) Z) Z) (let j:=w64 (a+1)
 M (.inl (b,j))))) Z)) Z) Z)) Z) (M (.inr (.inr ())))
def jaX[LP]:=lp2 j3k
abbrev j9H:=eq2 j3k jaX
def j3P[LP](a:Tn2):S Int:=
 let b:=U a.length
 cond (N (b>14)) (M 5) ((jaX a 0).bind λc=>sumC c (λd=>M d) (λe=>M 0))
def jij(a:J):S Bool:=(j8i a 0 604800).bind λc=>let b:=Å a 3600
 M (cond c (b==0) Á)
def j5c[LP](e:J)(s:Tn59)(b:Tn53)(p:Tn30)(q:Tn70)(r:Y X):S ((J×Tn59×Tn53×Tn30×Tn70×(Y X)) ⊕ (J ⊕ Ê)):=
 let l:=U b.length
 cond (N (e<l)) (cond (inR e b.length) (let a:=O b e.toNat (À,0,[],0,0,Á)
 cond (N (W r+W [a.1]<=j02)) (let d:Y ByteArray:=r++[a.1]
 let g:Bool:=È a.1==È (Ã #[110,111,98,111,100,121])
 cond g (M (.inr (.inl 2))) ((jbL d e).bind λc=>cond (c != 0) (M (.inr (.inl c))) (let i:=U s.length
 let n:=w64 (i-1)
 (j8i a.2.1 0 n).bind λk=>cond (!k) (M (.inr (.inl 3))) ((j3P a.2.2.1).bind λj=>cond (j != 0) (M (.inr (.inl 8))) ((jij a.2.2.2.1).bind λf=>cond (!f) (M (.inr (.inl 1))) ((jij a.2.2.2.2.1).bind λo=>cond (!o) (M (.inr (.inl 1))) (let m:=w64 (e+1)
 M (.inl (m,s,b,p,q,d))))))))) Z) Z) (M (.inr (.inr ())))
def jbM[LP]:=lp6 j5c
abbrev jfd:=eq6 j5c jbM
def jjk[LP](a:Tn76):S Int:=(jbM 0 a.1 a.2.1 a.2.2.1 a.2.2.2 ([]:(Y X))).bind λb=>sumC b (λc=>M c) (λd=>M 0)
def jeb  : S Int:=(jif 2241).bind λa=>let b:=w64 (a-1)
 M b
def j3Q(m l:J)(p:Tn59)(e:Tn53)(b:Tn30)(d:Tn70)(n:X)(c:J)(a:Y J)(o:Y X):S ((J×J×Tn59×Tn53×Tn30×Tn70×X×J×(Y J)×(Y X)) ⊕ (J ⊕ (J×Tn59×Tn53×Tn30×Tn70×X×J×(Y J)×(Y X)))):=
 let j:=U a.length
 cond (N (l<j)) (cond (inR l a.length) (let k:=O a l.toNat 0
 (jeb).bind λg=>(j8i k 0 g).bind λi=>cond (!i) (M (.inr (.inl 1))) (let f:=w64 (l+1)
 M (.inl (m,f,p,e,b,d,n,c,a,o)))) Z) (M (.inr (.inr (m,p,e,b,d,n,c,a,o))))
def j8D[LP]:=c8 c2 (LP.lp (u8 unc2 j3Q))
abbrev jcy:=eq10 j3Q j8D
def j5d(m d:J)(o:Tn59)(f:Tn53)(c:Tn30)(e:Tn70)(p:X)(l:J)(a:Y J)(n:Y X):S ((J×J×Tn59×Tn53×Tn30×Tn70×X×J×(Y J)×(Y X)) ⊕ (J ⊕ (J×Tn59×Tn53×Tn30×Tn70×(Y X)))):=
 let k:=U a.length
 cond (N (d<k)) (cond (inR d a.length) (let g:=O a d.toNat 0
 let b:=w64 (d-1)
 cond (inR b a.length) (let i:=O a b.toNat 0
 cond (N (g<=i)) (M (.inr (.inl 6))) (let j:=w64 (d+1)
 M (.inl (m,j,o,f,c,e,p,l,a,n)))) Z) Z) (M (.inr (.inr (m,o,f,c,e,n))))
def j8E[LP]:=c8 c2 (LP.lp (u8 unc2 j5d))
abbrev jhm:=eq10 j5d j8E
def j3R[LP](g:J)(u:Tn59)(q:Tn53)(d:Tn30)(p:Tn70)(t:Y X):S ((J×Tn59×Tn53×Tn30×Tn70×(Y X)) ⊕ (J ⊕ Ê)):=
 let m:=U d.length
 cond (N (g<m)) (cond (inR g d.length) (let a:=O d g.toNat (À,0,[])
 cond (N (W t+W [a.1]<=j02)) (let e:Y ByteArray:=t++[a.1]
 (jbL e g).bind λf=>cond (f != 0) (M (.inr (.inl f))) (let j:=U u.length
 let n:=w64 (j-1)
 (j8i a.2.1 0 n).bind λk=>cond (!k) (M (.inr (.inl 3))) (let l:=U a.2.2.length
 cond (N (l>64)) (M (.inr (.inl 5))) ((j8D g 0 u q d p a.1 a.2.1 a.2.2 e).bind λr=>sumC r (λs=>M (.inr (.inl s))) (λb=>(j8E b.1 1 b.2.1 b.2.2.1 b.2.2.2.1 b.2.2.2.2.1 b.2.2.2.2.2.1 b.2.2.2.2.2.2.1 b.2.2.2.2.2.2.2.1 b.2.2.2.2.2.2.2.2).bind λo=>sumC o (λv=>M (.inr (.inl v))) (λc=>let i:=w64 (c.1+1)
 M (.inl (i,c.2.1,c.2.2.1,c.2.2.2.1,c.2.2.2.2.1,c.2.2.2.2.2)))))))) Z) Z) (M (.inr (.inr ())))
def j8F[LP]:=lp6 j3R
abbrev jcz:=eq6 j3R j8F
def jeK[LP](a:Tn76):S Int:=(j8F 0 a.1 a.2.1 a.2.2.1 a.2.2.2 ([]:(Y X))).bind λb=>sumC b (λc=>M c) (λd=>M 0)
def j5W(p:J)(u:Tn59)(b:Tn53)(k:Tn30)(e:Tn70)(v:X)(m f d l g:J)(a:Y J)(i:Tn2)(j c:J):S ((J×Tn59×Tn53×Tn30×Tn70×X×J×J×J×J×J×(Y J)×Tn2×J×J) ⊕ (J ⊕ (Tn59×Tn53×Tn30×Tn70×X×J×J×J×J×J×(Y J)×Tn2×J×J))):=
 let n:=U a.length
 cond (N (p<n)) (cond (inR p a.length) (let s:=O a p.toNat 0
 let o:=U b.length
 let t:=w64 (o-1)
 (j8i s 0 t).bind λq=>cond (!q) (M (.inr (.inl 3))) (let r:=w64 (p+1)
 M (.inl (r,u,b,k,e,v,m,f,d,l,g,a,i,j,c)))) Z) (M (.inr (.inr (u,b,k,e,v,m,f,d,l,g,a,i,j,c))))
def jdn[LP]:=c8 c7 (LP.lp (u8 unc7 j5W))
abbrev jfQ:=eq15 j5W jdn
def jfR[LP](b:Tn76)(a:Tn64):S Int:=
 let f:=U b.1.length
 let k:=w64 (f-1)
 (j8i a.2.1 0 k).bind λq=>cond (!q) (M 3) ((jeb).bind λt=>(j8i a.2.2.1.1 1 t).bind λo=>cond (!o) (M 1) ((j8i a.2.2.1.2 0 86399).bind λu=>cond (!u) (M 1) ((j8i a.2.2.2.1 0 2).bind λr=>cond (!r) (M 1) ((j8i a.2.2.2.2.1 1 400).bind λp=>cond (!p) (M 1) (let i:=U a.2.2.2.2.2.1.length
 cond (i==0) (M 7) (let s:=U a.2.2.2.2.2.1.length
 cond (N (s>12)) (M 5) ((jdn 0 b.1 b.2.1 b.2.2.1 b.2.2.2 a.1 a.2.1 a.2.2.1.1 a.2.2.1.2 a.2.2.2.1 a.2.2.2.2.1 a.2.2.2.2.2.1 a.2.2.2.2.2.2.1 a.2.2.2.2.2.2.2.1 a.2.2.2.2.2.2.2.2).bind λv=>sumC v (λw=>M w) (λd=>(j3P d.2.2.2.2.2.2.2.2.2.2.2.1).bind λl=>cond (l != 0) (M 8) ((j8i d.2.2.2.2.2.2.2.2.2.2.2.2.2 0 2).bind λg=>cond (!g) (M 1) (let n:=U d.2.2.1.length
 let m:=w64 (n-1)
 cond (d.2.2.2.2.2.2.2.2.2.2.2.2.2 != 0) ((j8i d.2.2.2.2.2.2.2.2.2.2.2.2.1 0 m).bind λj=>cond (!j) (M 3) (let e:Bool:=cond (d.2.2.2.2.2.2.2.2.2.2.2.2.2==0) (d.2.2.2.2.2.2.2.2.2.2.2.2.1 != 0) Á
 cond e (M 1) (M 0))) (let c:Bool:=cond (d.2.2.2.2.2.2.2.2.2.2.2.2.2==0) (d.2.2.2.2.2.2.2.2.2.2.2.2.1 != 0) Á
 cond c (M 1) (M 0))))))))))))
def jhn(a:Tn28):S Int:=cond (cond (a.1 != 2) (a.2.2.1 != 0) Á) (M 1) (cond (cond (a.1==2) (a.2.1==a.2.2.1) Á) (M 4) (cond (N (a.2.2.2.1<0)) (M 1) (cond (N (a.2.2.2.2<0)) (M 1) (let b:=w64 (É a.2.2.2.2 86400)
 (jeb).bind λc=>cond (N (b>c)) (M 1) (cond (N (a.2.2.2.1>=a.2.2.2.2)) (M 6) (M 0))))))
def jik(b:Tn76)(a:Tn28):S Int:=
 let i:=U b.2.1.length
 (j8i a.1 0 2).bind λg=>cond (!g) (M 1) (let d:=w64 (i-1)
 (j8i a.2.1 0 d).bind λc=>let f:=w64 (i-1)
 cond (cond (!c) (cond (a.1 != 1) Â (a.2.1 != (-1))) Á) (cond ((!(a.1==2)) || !(!Â)) (M 3) Z) (cond (a.1==2) ((j8i a.2.2.1 0 f).bind λe=>cond (!e) (M 3) (jhn a)) (jhn a)))
def j3S[LP](p d:J)(o:Tn59)(f:Tn53)(c:Tn30)(e:Tn70)(q:X)(b:Tn65)(l:Tn34)(r s:Y X):S ((J×J×Tn59×Tn53×Tn30×Tn70×X×Tn65×Tn34×(Y X)×(Y X)) ⊕ (J ⊕ (J×Tn59×Tn53×Tn30×Tn70×X×Tn65×Tn34×(Y X)))):=
 let m:=U b.length
 cond (N (d<m)) (cond (inR d b.length) (let g:=O b d.toNat (À,0,(0,0),0,0,[],[],0,0)
 cond (N (W s+W [g.1]<=j02)) (let i:Y ByteArray:=s++[g.1]
 (jbL i d).bind λk=>cond (k != 0) (M (.inr (.inl k))) (cond (inR d b.length) (let a:=O b d.toNat (À,0,(0,0),0,0,[],[],0,0)
 (jfR (o,f,c,e) a).bind λj=>cond (j != 0) (M (.inr (.inl j))) (let n:=w64 (d+1)
 M (.inl (p,n,o,f,c,e,q,b,l,r,i)))) Z)) Z) Z) (M (.inr (.inr (p,o,f,c,e,q,b,l,r))))
def j8G[LP]:=c8 c3 (LP.lp (u8 unc3 j3S))
abbrev jcA:=eq11 j3S j8G
def j3T(m g:J)(k:Tn59)(e:Tn53)(c:Tn30)(d:Tn70)(o:X)(l:Tn65)(b:Tn34)(n:Y X):S ((J×J×Tn59×Tn53×Tn30×Tn70×X×Tn65×Tn34×(Y X)) ⊕ (J ⊕ (J×Tn59×Tn53×Tn30×Tn70×(Y X)))):=
 let j:=U b.length
 cond (N (g<j)) (cond (inR g b.length) (let a:=O b g.toNat (0,0,0,0,0)
 (jik (k,e,c,d) a).bind λf=>cond (f != 0) (M (.inr (.inl f))) (let i:=w64 (g+1)
 M (.inl (m,i,k,e,c,d,o,l,b,n)))) Z) (M (.inr (.inr (m,k,e,c,d,n))))
def j8H[LP]:=c8 c2 (LP.lp (u8 unc2 j3T))
abbrev jcB:=eq10 j3T j8H
def j3U[LP](g:J)(t:Tn59)(n:Tn53)(o:Tn30)(d:Tn70)(r:Y X):S ((J×Tn59×Tn53×Tn30×Tn70×(Y X)) ⊕ (J ⊕ Ê)):=
 let j:=U d.length
 cond (N (g<j)) (cond (inR g d.length) (let a:=O d g.toNat (À,[],[])
 cond (N (W r+W [a.1]<=j02)) (let e:Y ByteArray:=r++[a.1]
 (jbL e g).bind λf=>cond (f != 0) (M (.inr (.inl f))) (let i:=U a.2.1.length
 let l:=U a.2.2.length
 cond (cond (N (i>6)) Â (N (l>48))) (M (.inr (.inl 5))) ((j8G g 0 t n o d a.1 a.2.1 a.2.2 e ([]:(Y X))).bind λp=>sumC p (λq=>M (.inr (.inl q))) (λb=>(j8H b.1 0 b.2.1 b.2.2.1 b.2.2.2.1 b.2.2.2.2.1 b.2.2.2.2.2.1 b.2.2.2.2.2.2.1 b.2.2.2.2.2.2.2.1 b.2.2.2.2.2.2.2.2).bind λm=>sumC m (λs=>M (.inr (.inl s))) (λc=>let k:=w64 (c.1+1)
 M (.inl (k,c.2.1,c.2.2.1,c.2.2.2.1,c.2.2.2.2.1,c.2.2.2.2.2))))))) Z) Z) (M (.inr (.inr ())))
def j8I[LP]:=lp6 j3U
abbrev jcC:=eq6 j3U j8I
def jeL[LP](a:Tn76):S Int:=(j8I 0 a.1 a.2.1 a.2.2.1 a.2.2.2 ([]:(Y X))).bind λb=>sumC b (λc=>M c) (λd=>M 0)
def jec[LP](a:Tn76):S Int:=
 let k:=U a.1.length
 let f:=U a.2.1.length
 let e:=U a.2.2.1.length
 let j:Bool:=cond (cond (N (k>16)) Â (N (f>32))) Â (N (e>8))
 let i:=U a.2.2.2.length
 cond (cond j Â (N (i>12))) (M 5) ((jlr a).bind λb=>cond (b != 0) (M b) ((jjk a).bind λd=>cond (d != 0) (M d) ((jeK a).bind λc=>cond (c != 0) (M c) ((jeL a).bind λg=>M g))))
def jwo[LP](b:Tn76)(a c:J):S Bool:=
 let e:=U b.2.2.2.length
 let d:Bool:=cond (cond (N (a>=0)) (N (a<e)) Á) (N (c>=0)) Á
 cond (cond d (N (c<=8589934592)) Á) ((jec b).bind λf=>M (f==0)) (M Á)
def jcD[LP](b:Tn57)(a:Tn64):S Int:=(j7E b).bind λi=>let d:Bool:=cond (cond (i != 0) Â (N (a.2.2.1.1<1))) Â (N (a.2.2.1.1>100000))
 let f:Bool:=cond (cond d Â (N (a.2.2.1.2<0))) Â (N (a.2.2.1.2>=86400))
 let c:Bool:=cond (cond f Â (N (a.2.2.2.1<0))) Â (N (a.2.2.2.1>2))
 let g:Bool:=cond (cond c Â (N (a.2.2.2.2.1<1))) Â (N (a.2.2.2.2.1>400))
 let e:=U a.2.2.2.2.2.1.length
 cond (cond g Â (e==0)) (M 8) (M 0)
def jed(a:J):S Bool:=(j9E a (-2) 99422).bind λb=>M b
def j4m(k c m:J)(l:X)(g:J)(i:Tn47)(o:Tn2)(p j n:J):S ((J×X×J×Tn47×J×J×Tn2) ⊕ ((J×J) ⊕ Ê)):=
 let d:=w64 (k*86400)
 let e:=w64 (d+c)
 let a:=w64 (e-p)
 let b:Int:=if a>j then a else j
 cond (N (b<n)) (M (.inr (.inl (b,0)))) (let f:=w64 (m+1)
 M (.inl (f,l,g,i,k,c,o)))
def j4n(i:J)(c:Tn2)(m b:J)(k:X)(d:J)(e:Tn47)(n l:J):S ((J×X×J×Tn47×J×J×Tn2) ⊕ ((J×J) ⊕ Ê)):=
 let f:=w64 (i+1)
 let g:=U c.length
 cond (N (f<g)) (let a:=w64 (i+1)
 cond (inR a c.length) (let j:=(O c a.toNat (0,0)).1
 j4m m b i k d e c n l j) Z) (j4m m b i k d e c n l 8589934593)
def j4B(a:J)(j:X)(c:J)(e:Tn47)(k d:J)(b:Tn2):S ((J×X×J×Tn47×J×J×Tn2) ⊕ ((J×J) ⊕ Ê)):=
 let f:=U b.length
 cond (N (a<f)) (cond (N (a>=0)) (cond (inR a b.length) (let g:=(O b a.toNat (0,0)).2
 cond (inR a b.length) (let i:=(O b a.toNat (0,0)).1
 j4n a b k d j c e g i) Z) Z) (j4n a b k d j c e c 0)) (M (.inr (.inr ())))
def j6f[LP]:=lp7 j4B
abbrev jcE:=eq7 j4B j6f
def j5e[LP](a:Tn57)(b:J×J):S (J×J):=(j0s a).bind λc=>cond (c.2 != 0) (M (0,8)) ((j9E b.2 0 86399).bind λd=>cond (!d) (M (0,1)) (cond (N (b.1<(-2))) (M (0,0)) ((jed b.1).bind λe=>cond (!e) (M (0,10)) ((j6f (-1) a.1 a.2.1 a.2.2 b.1 b.2 c.1).bind λf=>sumC f (λg=>M g) (λi=>M (0,10))))))
def j5f(c:Tn2)(g i a:J):S ((Tn2×J×J×J) ⊕ (J)):=
 let b:=U c.length
 cond ((inR a c.length) || !(N (a<b))) (let d:=O c a.toNat (0,0)
 cond (cond (N (a<b)) (N (d.1<=g)) Á) (cond (inR a c.length) (let e:=O c a.toNat (0,0)
 let f:=w64 (a+1)
 M (.inl (c,g,e.2,f))) Z) (M (.inr i))) Z
def jbN[LP]:=lp4 j5f
abbrev jfe:=eq4 j5f jbN
def jgv[LP](a:Tn57)(c:Tn2)(b:J):S Int:=(jbN c b a.2.1 0).bind λd=>M d
def jaY[LP](a:Tn57)(b:J):S (J×J):=(j0s a).bind λc=>cond (c.2 != 0) (M (0,8)) ((j9E b 0 8589934592).bind λd=>cond (!d) (M (0,1)) ((jgv a c.1 b).bind λe=>M (e,0)))
def jil(b a:J):S (J×J):=
 let g:=w64 (b+a)
 let e:=w64 (g+864000)
 let c:=w64 (É e 86400)
 let f:=w64 (c-10)
 let d:=Å e 86400
 M (f,d)
def j4N[LP](a:Tn57)(c:J):S Tn3:=(jaY a c).bind λb=>cond (b.2 != 0) (M ((0,0),b.2)) ((jil c b.1).bind λd=>M (d,0))
def j7F[LP](b:Tn57)(a:Tn64)(d:J):S (J×Ç):=cond (a.2.2.2.1==0) ((j5e b a.2.2.1).bind λe=>let o:=w64 (d*a.2.2.2.2.1)
 let j:=w64 (o*3600)
 let l:=w64 (e.1+j)
 let n:=w64 (e.1+j)
 M (l,(cond (e.2==0) (N (n<=8589934592)) Á))) (let i:=w64 (d*a.2.2.2.2.1)
 cond (a.2.2.2.1==2) (let m:=w64 (i*7)
 let k:=w64 (a.2.2.1.1+m)
 (j5e b (k,a.2.2.1.2)).bind λg=>M (g.1,(g.2==0))) (let f:=w64 (a.2.2.1.1+i)
 (j5e b (f,a.2.2.1.2)).bind λc=>M (c.1,(c.2==0))))
def j5X[LP](p m:J)(q:X)(l:J)(i:Tn47)(r:X)(c j b d e:J)(n:Y J)(k:Tn2)(g f:J):S ((J×J×X×J×Tn47×X×J×J×J×J×J×(Y J)×Tn2×J×J) ⊕ (J)):=cond (N (m>=0)) ((j7F (q,l,i) (r,c,(j,b),d,e,n,k,g,f) m).bind λa=>cond (cond a.2 (N (a.1<=p)) Á) (M (.inr m)) (let o:=w64 (m-1)
 M (.inl (p,o,q,l,i,r,c,j,b,d,e,n,k,g,f)))) (M (.inr m))
def j96[LP]:=c8 c7 (LP.lp (u8 unc7 j5X))
abbrev jfS:=eq15 j5X j96
def jcF[LP](b:Tn57)(a:Tn64)(c:J):S Int:=cond (a.2.2.2.1==0) ((j5e b a.2.2.1).bind λe=>cond (cond (e.2==0) (N (e.1<=c)) Á) (let r:=w64 (c-e.1)
 let l:=w64 (3600*a.2.2.2.2.1)
 cond (!(l==0)) (let o:=w64 (É r l)
 M o) Z) (M (-1))) ((j4N b c).bind λm=>cond (a.2.2.2.1==2) (let j:=w64 (a.2.2.2.2.1*7)
 let q:=w64 (m.1.1+2)
 let k:=w64 (q-a.2.2.1.1)
 let s:Int:=if 0>k then 0 else k
 cond (!(j==0)) (let p:=w64 (É s j)
 (j96 c p b.1 b.2.1 b.2.2 a.1 a.2.1 a.2.2.1.1 a.2.2.1.2 a.2.2.2.1 a.2.2.2.2.1 a.2.2.2.2.2.1 a.2.2.2.2.2.2.1 a.2.2.2.2.2.2.2.1 a.2.2.2.2.2.2.2.2).bind λt=>M t) Z) (let f:=w64 (m.1.1+2)
 let d:=w64 (f-a.2.2.1.1)
 let g:Int:=if 0>d then 0 else d
 cond (!(a.2.2.2.2.1==0)) (let i:=w64 (É g a.2.2.2.2.1)
 (j96 c i b.1 b.2.1 b.2.2 a.1 a.2.1 a.2.2.1.1 a.2.2.1.2 a.2.2.2.1 a.2.2.2.2.1 a.2.2.2.2.2.1 a.2.2.2.2.2.2.1 a.2.2.2.2.2.2.2.1 a.2.2.2.2.2.2.2.2).bind λn=>M n) Z))
def jfT[LP](b:Tn57)(a:Tn64)(c:J):S (J×J):=(jcD b a).bind λe=>cond (e != 0) (M (0,8)) (cond (cond (N (c<0)) Â (N (c>8589934592))) (M (0,1)) ((jcF b a c).bind λd=>M (d,0)))
def j7W(a:J×J):S Int:=(jcw a.1).bind λb=>let c:=w64 (b*86400)
 let d:=w64 (c+a.2)
 M d
def jc3[LP](a:Tn57)(c:J):S (J×J):=(j4N a c).bind λb=>cond (b.2 != 0) (M (0,b.2)) ((j7W b.1).bind λd=>M (d,0))
def j5g(c:Tn2)(d b:J):S ((Tn2×J×J) ⊕ (Ç ⊕ Ê)):=
 let g:=U c.length
 cond (N (b<g)) (cond (inR b c.length) (let a:=O c b.toNat (0,0)
 cond ((inR b c.length) || !(N (d>=a.1))) (let e:=O c b.toNat (0,0)
 cond (cond (N (d>=a.1)) (N (d<e.2)) Á) (M (.inr (.inl Â))) (let f:=w64 (b+1)
 M (.inl (c,d,f)))) Z) Z) (M (.inr (.inr ())))
def jbO[LP]:=lp3 j5g
abbrev jff:=eq3 j5g jbO
def jgw[LP](a:Tn2)(b:J):S Bool:=(jbO a b 0).bind λc=>sumC c (λd=>M d) (λe=>M Á)
def jpH[LP](a:Tn57)(b:Tn2)(d:J):S Bool:=(jc3 a d).bind λc=>cond (c.2==0) ((j3P b).bind λf=>cond (f==0) ((jgw b c.1).bind λe=>M e) (M Á)) (M Á)
def j6K(w:J)(u:Ç)(b:J)(v:X)(l k c g i:J)(f:Y J)(d:Tn2)(e j:J)(t:X)(m:J)(a:Y J)(o n:J):S ((J×Ç×J×X×J×J×J×J×J×(Y J)×Tn2×J×J×X×J×(Y J)×J×J) ⊕ (J×Ç×X×J×J×J×J×J×(Y J)×Tn2×J×J)):=
 let q:=U a.length
 cond (N (b<q)) (cond u (let r:=w64 (b+1)
 M (.inl (w,Â,r,v,l,k,c,g,i,f,d,e,j,t,m,a,o,n))) (cond (inR b a.length) (let s:=O a b.toNat 0
 let p:=w64 (b+1)
 M (.inl (w,(s==o),p,v,l,k,c,g,i,f,d,e,j,t,m,a,o,n))) Z)) (M (.inr (w,u,v,l,k,c,g,i,f,d,e,j)))
def jas[LP](r:J)(n:Ç)(p:J)(s:X)(e l d f g:J)(m:Y J)(k:Tn2)(i j:J)(o:X)(a:J)(b:Y J)(q c:J):S (J×Ç×X×J×J×J×J×J×(Y J)×Tn2×J×J):=LP.lp (u8 (u8 unc2) j6K) (r,n,p,s,e,l,d,f,g,m,k,i,j,o,a,b,q,c)
theorem jgQ(s q p r m l d i j g e f k n a c o b):jas s q p r m l d i j g e f k n a c o b=lpK (j6K s q p r m l d i j g e f k n a c o b) (λh=>jas h.1 h.2.1 h.2.2.1 h.2.2.2.1 h.2.2.2.2.1 h.2.2.2.2.2.1 h.2.2.2.2.2.2.1 h.2.2.2.2.2.2.2.1 h.2.2.2.2.2.2.2.2.1 h.2.2.2.2.2.2.2.2.2.1 h.2.2.2.2.2.2.2.2.2.2.1 h.2.2.2.2.2.2.2.2.2.2.2.1 h.2.2.2.2.2.2.2.2.2.2.2.2.1 h.2.2.2.2.2.2.2.2.2.2.2.2.2.1 h.2.2.2.2.2.2.2.2.2.2.2.2.2.2.1 h.2.2.2.2.2.2.2.2.2.2.2.2.2.2.2.1 h.2.2.2.2.2.2.2.2.2.2.2.2.2.2.2.2.1 h.2.2.2.2.2.2.2.2.2.2.2.2.2.2.2.2.2):=j0e _ _
def jho[LP](a:Tn64)(g:J×J)(d:Tn76)(i:J):S (J×Ç):=cond (a.2.2.2.2.2.2.2.2==0) (M (g.1,Â)) (cond (inR a.2.2.2.2.2.2.2.1 d.2.2.1.length) (let b:=O d.2.2.1 a.2.2.2.2.2.2.2.1.toNat (À,0,[])
 cond (inR b.2.1 d.1.length) (let c:=O d.1 b.2.1.toNat (À,0,[])
 (j4N c i).bind λf=>(jas g.1 Á 0 a.1 a.2.1 a.2.2.1.1 a.2.2.1.2 a.2.2.2.1 a.2.2.2.2.1 a.2.2.2.2.2.1 a.2.2.2.2.2.2.1 a.2.2.2.2.2.2.2.1 a.2.2.2.2.2.2.2.2 b.1 b.2.1 b.2.2 f.1.1 f.1.2).bind λe=>M (e.1,(e.2.1==(e.2.2.2.2.2.2.2.2.2.2.2==2)))) Z) Z)
def jim[LP](d:Tn76)(a:Tn64)(c:J):S (J×Ç):=cond (inR a.2.1 d.1.length) (let b:=O d.1 a.2.1.toNat (À,0,[])
 (jfT b a c).bind λe=>let f:=U a.2.2.2.2.2.2.1.length
 cond (cond (e.2 != 0) Â (N (e.1<0))) (cond ((!(N (f>0))) || !(!Â)) (M (0,Á)) Z) (cond (N (f>0)) ((jpH b a.2.2.2.2.2.2.1 c).bind λg=>cond (!g) (M (0,Á)) (jho a e d c)) (jho a e d c))) Z
def jls[LP](b:Tn76)(a:Tn64)(f:J):S Int:=(jim b a f).bind λc=>cond (!c.2) (M (-1)) (let d:=U a.2.2.2.2.2.1.length
 cond (!(d==0)) (let e:=Å c.1 d
 cond (inR e a.2.2.2.2.2.1.length) (let g:=O a.2.2.2.2.2.1 e.toNat 0
 M g) Z) Z)
def j6L(i f e:J)(k:X)(g:Tn65)(b:Tn34):S ((J×J×J×X×Tn65×Tn34) ⊕ (Ç ⊕ Ê)):=
 let d:=U b.length
 cond (N (e<d)) (cond (inR e b.length) (let a:=O b e.toNat (0,0,0,0,0)
 let j:Bool:=cond (cond (a.1==0) (a.2.1==i) Á) (N (a.2.2.2.1<=f)) Á
 cond (cond j (N (f<a.2.2.2.2)) Á) (M (.inr (.inl Â))) (let c:=w64 (e+1)
 M (.inl (i,f,c,k,g,b)))) Z) (M (.inr (.inr ())))
def jeM[LP]:=lp6 j6L
abbrev jgR:=eq6 j6L jeM
def jkt[LP](b:Tn69)(a c:J):S Bool:=(jeM a c 0 b.1 b.2.1 b.2.2).bind λd=>sumC d (λe=>M e) (λf=>M Á)
def j7G[LP](k i:J)(n:Tn59)(f:Tn53)(e:Tn30)(d:Tn70)(o:X)(b:Tn65)(g:Tn34):S ((J×J×Tn59×Tn53×Tn30×Tn70×X×Tn65×Tn34) ⊕ ((J×J) ⊕ Ê)):=cond (N (i>=0)) (cond (inR i b.length) (let a:=O b i.toNat (À,0,(0,0),0,0,[],[],0,0)
 (jls (n,f,e,d) a k).bind λc=>cond (N (c>=0)) ((jkt (o,b,g) c k).bind λl=>cond (!l) (M (.inr (.inl (i,c)))) (let j:=w64 (i-1)
 M (.inl (k,j,n,f,e,d,o,b,g)))) (let m:=w64 (i-1)
 M (.inl (k,m,n,f,e,d,o,b,g)))) Z) (M (.inr (.inr ())))
def jee[LP]:=lp9 j7G
abbrev jin:=eq9 j7G jee
def jjl[LP](b:Tn76)(a d:J):S (J×J):=cond (inR a b.2.2.2.length) (let c:=O b.2.2.2 a.toNat (À,[],[])
 let f:=U c.2.1.length
 let e:=w64 (f-1)
 (jee d e b.1 b.2.1 b.2.2.1 b.2.2.2 c.1 c.2.1 c.2.2).bind λg=>sumC g (λi=>M i) (λj=>M ((-1),(-1)))) Z
def j6M(b:Tn34)(e d c:J):S ((Tn34×J×J×J) ⊕ (J)):=
 let i:=U b.length
 cond (N (c<i)) (cond (inR c b.length) (let a:=O b c.toNat (0,0,0,0,0)
 cond (cond (N (d<a.2.2.2.1)) Â (N (d>=a.2.2.2.2))) (let j:=w64 (c+1)
 M (.inl (b,e,d,j))) (cond (a.1==1) (let g:=w64 (c+1)
 M (.inl (b,a.2.1,d,g))) (cond (cond (a.1==2) (e==a.2.1) Á) (let f:=w64 (c+1)
 M (.inl (b,a.2.2.1,d,f))) (cond (cond (a.1==2) (e==a.2.2.1) Á) (let k:=w64 (c+1)
 M (.inl (b,a.2.1,d,k))) (let l:=w64 (c+1)
 M (.inl (b,e,d,l))))))) Z) (M (.inr e))
def jcG[LP]:=lp4 j6M
abbrev jgS:=eq4 j6M jcG
def jku[LP](c:Tn34)(a b:J):S Int:=(jcG c a b 0).bind λd=>M d
def jhp[LP](b:Tn76)(a c:J):S Int:=(jjl b a c).bind λe=>cond (inR a b.2.2.2.length) (let d:=O b.2.2.2 a.toNat (À,[],[])
 (jku d.2.2 e.2 c).bind λf=>M f) Z
def jr2[LP](a:Tn76)(b c:J):S Int:=(jwo a b c).bind λe=>cond (!e) (M (-1)) ((jhp a b c).bind λd=>M d)
def jhq[LP](b:Tn76)(a c:J):S Int:=(jr2 b a c).bind λd=>M d
def jhr[LP](m:S (Tn76)):S Bool:=
 m.bind λa=>(j9D a 0 518400 525600 0 ([]:Tn16)).bind λc=>(jjU a 0 432000 691200 0 ([]:Tn16)).bind λb=>(j2T a 0 518400 525600 0 ([]:Tn16)).bind λd=>let j:Bool:=cond (cond (c.2.2==0) (b.2.2==0) Á) (d.2==0) Á
 let i:=U d.1.length
 cond (cond (cond j (c.2.1==1) Á) (i==1) Á) ((jhq c.1 0 518400).bind λg=>let f:=U b.2.1.length
 cond (cond (g==1) (f==0) Á) ((jhq b.1 0 518400).bind λe=>cond (e==1) ((j3j a 0 0 518400 518401).bind λk=>M (!k)) (M Á)) (M Á)) (let l:=U b.2.1.length
 M Á)
def jef[LP]:S Bool:=
 jhr jln
def jlt(a:Y J):S Tn0:=M (a,0)
def j04(b:Y J)(a c:J):S (J×(Y J)×J):=
 let i:=U b.length
 cond (N (a>=i)) (M (0,b,a)) (cond (N (c<1)) (M (0,b,a)) (cond (inR a b.length) (let g:=O b a.toNat 0
 cond (!(c==0)) (let d:=Å g c
 let e:=w64 (a+1)
 cond (N (d<0)) (let f:=w64 (d+c)
 M (f,b,e)) (M (d,b,e))) Z) Z))
def j10(d:Y J)(b:J)(a:Y J):S (J×(Y J)×J):=
 let f:=U a.length
 (j04 d b f).bind λc=>cond (inR c.1 a.length) (let e:=O a c.1.toNat 0
 M (e,c.2.1,c.2.2)) Z
def j4y(a0:Y J)(j:J)(a:X):S (Tn57×(Y J)×J):=
 let a1:Y Int:=[0,4,(-20),22,48,(-47)]
 (j10 a0 j a1).bind λs=>(j04 s.2.1 s.2.2 2).bind λu=>(j04 u.2.1 u.2.2 3).bind λn=>let a5:=w64 (u.1*n.1)
 let a2:=w64 (s.1+a5)
 let c:=w64 (900*a2)
 (j04 n.2.1 n.2.2 2).bind λl=>let g:=w64 (2025+l.1)
 (j04 l.2.1 l.2.2 4).bind λb=>cond (b.1==1) (let a4:=w64 (c+3600)
 let a8:Tn47:=[(2025,g,3,5,6,7200,a4),(2025,g,10,5,6,10800,c)]
 M ((a,c,a8),b.2.1,b.2.2)) (cond (b.1==2) ((j04 b.2.1 b.2.2 4).bind λi=>let b2:=w64 (1+i.1)
 (j04 i.2.1 i.2.2 7).bind λo=>(j04 o.2.1 o.2.2 24).bind λt=>let a6:=w64 (3600*t.1)
 (j04 t.2.1 t.2.2 8).bind λv=>let b7:=w64 (1+v.1)
 let a3:=w64 (1800*b7)
 let b3:=w64 (c+a3)
 (j04 v.2.1 v.2.2 2).bind λk=>let b6:=w64 (2+k.1)
 let b1:Y Int:=[2,3,5]
 (j10 k.2.1 k.2.2 b1).bind λw=>(j04 w.2.1 w.2.2 7).bind λp=>(j04 p.2.1 p.2.2 24).bind λq=>let a7:=w64 (3600*q.1)
 let b0:Tn47:=[(2025,g,1,b2,o.1,a6,b3),(2025,g,b6,w.1,p.1,a7,c)]
 M ((a,c,b0),q.2.1,q.2.2)) (cond (b.1==3) (let b4:Y Int:=[3600,(-3600),82800,(-82800),43200]
 (j10 b.2.1 b.2.2 b4).bind λf=>let x:=w64 (c+f.1)
 cond (cond (N (x>64800)) Â (N (x<(-64800)))) ((j04 f.2.1 f.2.2 7).bind λr=>(j04 r.2.1 r.2.2 48).bind λm=>let a9:=w64 (1800*m.1)
 let b5:Tn47:=[(2026,2026,1,2,r.1,a9,0)]
 M ((a,c,b5),m.2.1,m.2.2)) ((j04 f.2.1 f.2.2 7).bind λd=>(j04 d.2.1 d.2.2 48).bind λe=>let y:=w64 (1800*e.1)
 let z:Tn47:=[(2026,2026,1,2,d.1,y,x)]
 M ((a,c,z),e.2.1,e.2.2))) (M ((a,c,([]:Tn47)),b.2.1,b.2.2))))
def jgx  : S (Y X):=
 let a:Y ByteArray:=[(Ã #[97,100,97]),(Ã #[98,111,98]),(Ã #[99,108,101,111]),(Ã #[100,97,110]),(Ã #[101,118,101]),(Ã #[102,97,121]),(Ã #[103,117,115]),(Ã #[104,97,108])]
 M a
def j11(c:Y J)(a b:J):S (Ç×(Y J)×J):=(j04 c a b).bind λd=>let e:=w64 (b-1)
 M ((d.1==e),d.2.1,d.2.2)
def j2i(r p:J)(q:Y J)(g:J)(k:Tn2):S ((J×J×(Y J)×J×Tn2) ⊕ ((Y J)×J×Tn2)):=cond (N (p>0)) ((j04 q g 30).bind λd=>let j:=w64 (3600*d.1)
 let n:=w64 (r+j)
 (j04 d.2.1 d.2.2 2).bind λb=>let o:=w64 (60*b.1)
 let e:=w64 (n+o)
 let i:Y Int:=[3600,28800,43200,86400,61,1]
 (j10 b.2.1 b.2.2 i).bind λa=>let c:=w64 (e+a.1)
 cond (N (c>604800)) (M (.inr (a.2.1,a.2.2,k))) (let f:Tn2:=[(e,c)]
 cond (N (W k+W f<=j02)) (let m:Tn2:=k++f
 let l:=w64 (p-1)
 M (.inl (c,l,a.2.1,a.2.2,m))) Z)) (M (.inr (q,g,k)))
def j89[LP]:=lp5 j2i
abbrev j9I:=eq5 j2i j89
def j3l[LP](d:Y J)(a:J):S (Tn2×(Y J)×J):=(j04 d a 4).bind λc=>(j89 0 c.1 c.2.1 c.2.2 ([]:Tn2)).bind λb=>M (b.2.2,b.1,b.2.1)
def j2Y(k:J)(l:Y J)(f:J)(b:Tn59):S ((J×(Y J)×J×Tn59) ⊕ ((Y J)×J×Tn59)):=cond (N (k>0)) (let e:Y ByteArray:=[(Ã #[104,101,114,101]),(Ã #[116,104,101,114,101])]
 let c:=U b.length
 cond (inR c e.length) (let g:=O e c.toNat À
 (j4y l f g).bind λa=>let d:Tn59:=[a.1]
 cond (N (W b+W d<=j02)) (let j:Tn59:=b++d
 let i:=w64 (k-1)
 M (.inl (i,a.2.1,a.2.2,j))) Z) Z) (M (.inr (l,f,b)))
def j9J[LP]:=lp4 j2Y
abbrev jaZ:=eq4 j2Y j9J
def j2Z[LP](a4:J)(a5:Y J)(q:J)(i:Tn59)(b:Tn53):S ((J×(Y J)×J×Tn59×Tn53) ⊕ ((Y J)×J×Tn59×Tn53)):=cond (N (a4>0)) ((jgx).bind λn=>let m:=U b.length
 cond (inR m n.length) (let p:=O n m.toNat À
 let t:=U i.length
 (j04 a5 q t).bind λc=>(j11 c.2.1 c.2.2 3).bind λd=>(j11 d.2.1 d.2.2 2).bind λa=>cond a.1 ((j3l a.2.1 a.2.2).bind λf=>let u:Y Int:=[0,40,100,12]
 (j10 f.2.1 f.2.2 u).bind λj=>let v:=w64 (3600*j.1)
 let z:Y Int:=[0,11,24,1]
 (j10 j.2.1 j.2.2 z).bind λg=>let x:=w64 (3600*g.1)
 let o:Tn53:=[(p,c.1,f.1,v,x,d.1)]
 cond (N (W b+W o<=j02)) (let y:Tn53:=b++o
 let r:=w64 (a4-1)
 M (.inl (r,g.2.1,g.2.2,i,y))) Z) (let a2:Y Int:=[0,40,100,12]
 (j10 a.2.1 a.2.2 a2).bind λk=>let a3:=w64 (3600*k.1)
 let a0:Y Int:=[0,11,24,1]
 (j10 k.2.1 k.2.2 a0).bind λe=>let a1:=w64 (3600*e.1)
 let l:Tn53:=[(p,c.1,([]:Tn2),a3,a1,d.1)]
 cond (N (W b+W l<=j02)) (let s:Tn53:=b++l
 let w:=w64 (a4-1)
 M (.inl (w,e.2.1,e.2.2,i,s))) Z)) Z) (M (.inr (a5,q,i,b)))
def j9K[LP]:=lp5 j2Z
abbrev jb0:=eq5 j2Z j9K
def j30(q m p:J)(n:Y J)(e:J)(o:X)(j:J)(d:Tn59)(f:Tn53)(i:Tn30)(c:Y J):S ((J×J×J×(Y J)×J×X×J×Tn59×Tn53×Tn30×(Y J)) ⊕ (J×(Y J)×J×X×J×Tn59×Tn53×Tn30×(Y J))):=cond (N (m>0)) ((j04 n e 6).bind λb=>let k:=w64 (1+b.1)
 let a:=w64 (p+k)
 cond (N (W c+W [a]<=j02)) (let g:Y Int:=c++[a]
 let l:=w64 (m-1)
 M (.inl (q,l,a,b.2.1,b.2.2,o,j,d,f,i,g))) Z) (M (.inr (q,n,e,o,j,d,f,i,c)))
def j9L[LP]:=c8 c3 (LP.lp (u8 unc3 j30))
abbrev jb1:=eq11 j30 j9L
def j1U[LP](n:J)(m:Y J)(f:J)(e:Tn59)(g:Tn53)(j:Tn30):S ((J×(Y J)×J×Tn59×Tn53×Tn30) ⊕ ((Y J)×J×Tn59×Tn53×Tn30)):=cond (N (n>0)) (let l:=U e.length
 (j04 m f l).bind λc=>(j04 c.2.1 c.2.2 4).bind λb=>(j9L n b.1 20454 b.2.1 b.2.2 (Ã #[100,97,121,115]) c.1 e g j ([]:(Y J))).bind λa=>let d:Tn30:=[(a.2.2.2.1,a.2.2.2.2.1,a.2.2.2.2.2.2.2.2)]
 cond (N (W a.2.2.2.2.2.2.2.1+W d<=j02)) (let i:Tn30:=a.2.2.2.2.2.2.2.1++d
 let k:=w64 (a.1-1)
 M (.inl (k,a.2.1,a.2.2.1,a.2.2.2.2.2.1,a.2.2.2.2.2.2.1,i))) Z) (M (.inr (m,f,e,g,j)))
def j9M[LP]:=lp6 j1U
abbrev j7H:=eq6 j1U j9M
def j9N[LP](i:Y J)(a:J):S (Tn76×(Y J)×J):=(j04 i a 2).bind λe=>let j:=w64 (1+e.1)
 (j9J j e.2.1 e.2.2 ([]:Tn59)).bind λg=>(j04 g.1 g.2.1 4).bind λd=>let k:=w64 (1+d.1)
 (j9K k d.2.1 d.2.2 g.2.2 ([]:Tn53)).bind λf=>(j04 f.1 f.2.1 2).bind λc=>(j9M c.1 c.2.1 c.2.2 f.2.2.1 f.2.2.2 ([]:Tn30)).bind λb=>M ((b.2.2.1,b.2.2.2.1,b.2.2.2.2,([]:Tn70)),b.1,b.2.1)
def j31(a1:J)(z:Y J)(s:J)(y:Tn59)(c:Tn53)(p:Tn30)(d:Tn70)(a0:X)(j n f g m k o:J)(a2:X)(e t u q i r l:J)(b:Y J):S ((J×(Y J)×J×Tn59×Tn53×Tn30×Tn70×X×J×J×J×J×J×J×J×X×J×J×J×J×J×J×J×(Y J)) ⊕ ((Y J)×J×Tn59×Tn53×Tn30×Tn70×X×J×J×J×J×J×J×J×X×J×J×J×J×J×J×J×(Y J))):=cond (N (a1>0)) (let x:=U c.length
 (j04 z s x).bind λa=>cond (N (W b+W [a.1]<=j02)) (let v:Y Int:=b++[a.1]
 let w:=w64 (a1-1)
 M (.inl (w,a.2.1,a.2.2,y,c,p,d,a0,j,n,f,g,m,k,o,a2,e,t,u,q,i,r,l,v))) Z) (M (.inr (z,s,y,c,p,d,a0,j,n,f,g,m,k,o,a2,e,t,u,q,i,r,l,b)))
def j5h[LP](x:J)(v:Y J)(r:J)(u:Tn59)(q:Tn53)(n:Tn30)(a:Tn70)(w:X)(g l d e k i m:J)(y:X)(c s t o f p j:J)(b:Y J):S ((Y J)×J×Tn59×Tn53×Tn30×Tn70×X×J×J×J×J×J×J×J×X×J×J×J×J×J×J×J×(Y J)):=LP.lp (u8 (u8 unc8) j31) (x,v,r,u,q,n,a,w,g,l,d,e,k,i,m,y,c,s,t,o,f,p,j,b)
theorem jb2(x v r u q n a w g l d e k i m y c s t o f p j b):j5h x v r u q n a w g l d e k i m y c s t o f p j b=lpK (j31 x v r u q n a w g l d e k i m y c s t o f p j b) (λh=>j5h h.1 h.2.1 h.2.2.1 h.2.2.2.1 h.2.2.2.2.1 h.2.2.2.2.2.1 h.2.2.2.2.2.2.1 h.2.2.2.2.2.2.2.1 h.2.2.2.2.2.2.2.2.1 h.2.2.2.2.2.2.2.2.2.1 h.2.2.2.2.2.2.2.2.2.2.1 h.2.2.2.2.2.2.2.2.2.2.2.1 h.2.2.2.2.2.2.2.2.2.2.2.2.1 h.2.2.2.2.2.2.2.2.2.2.2.2.2.1 h.2.2.2.2.2.2.2.2.2.2.2.2.2.2.1 h.2.2.2.2.2.2.2.2.2.2.2.2.2.2.2.1 h.2.2.2.2.2.2.2.2.2.2.2.2.2.2.2.2.1 h.2.2.2.2.2.2.2.2.2.2.2.2.2.2.2.2.2.1 h.2.2.2.2.2.2.2.2.2.2.2.2.2.2.2.2.2.2.1 h.2.2.2.2.2.2.2.2.2.2.2.2.2.2.2.2.2.2.2.1 h.2.2.2.2.2.2.2.2.2.2.2.2.2.2.2.2.2.2.2.2.1 h.2.2.2.2.2.2.2.2.2.2.2.2.2.2.2.2.2.2.2.2.2.1 h.2.2.2.2.2.2.2.2.2.2.2.2.2.2.2.2.2.2.2.2.2.2.1 h.2.2.2.2.2.2.2.2.2.2.2.2.2.2.2.2.2.2.2.2.2.2.2):=j0e _ _
def j9O[LP](b5:Y J)(y:J)(c:Tn76)(j:X):S (Tn64×(Y J)×J):=
 let b8:=U c.1.length
 (j04 b5 y b8).bind λx=>(j04 x.2.1 x.2.2 6).bind λa0=>let b7:=w64 (20454+a0.1)
 let b4:=w64 (b7-2)
 let c3:Y Int:=[0,32400,7200,9000,79200,1]
 (j10 a0.2.1 a0.2.2 c3).bind λv=>(j04 v.2.1 v.2.2 3).bind λs=>(j04 s.2.1 s.2.2 2).bind λu=>let b9:=w64 (1+u.1)
 cond (s.1==0) (let c4:Y Int:=[6,8,12,24,23,49]
 (j10 u.2.1 u.2.2 c4).bind λz=>(j04 z.2.1 z.2.2 3).bind λa1=>let c1:=w64 (1+a1.1)
 (j5h c1 a1.2.1 a1.2.2 c.1 c.2.1 c.2.2.1 c.2.2.2 À 0 0 0 0 0 0 0 j x.1 b4 v.1 s.1 z.1 0 0 ([]:(Y J))).bind λb=>(j11 b.1 b.2.1 2).bind λt=>cond t.1 ((j3l t.2.1 t.2.2).bind λw=>(j11 w.2.1 w.2.2 4).bind λr=>let c0:=U b.2.2.2.2.1.length
 cond (cond r.1 (N (c0>0)) Á) (let b6:=U b.2.2.2.2.1.length
 (j04 r.2.1 r.2.2 b6).bind λa2=>(j04 a2.2.1 a2.2.2 2).bind λa3=>let c2:=w64 (1+a3.1)
 M ((b.2.2.2.2.2.2.2.2.2.2.2.2.2.2.1,b.2.2.2.2.2.2.2.2.2.2.2.2.2.2.2.1,(b.2.2.2.2.2.2.2.2.2.2.2.2.2.2.2.2.1,b.2.2.2.2.2.2.2.2.2.2.2.2.2.2.2.2.2.1),b.2.2.2.2.2.2.2.2.2.2.2.2.2.2.2.2.2.2.1,b.2.2.2.2.2.2.2.2.2.2.2.2.2.2.2.2.2.2.2.1,b.2.2.2.2.2.2.2.2.2.2.2.2.2.2.2.2.2.2.2.2.2.2,w.1,a2.1,c2),a3.2.1,a3.2.2)) (M ((b.2.2.2.2.2.2.2.2.2.2.2.2.2.2.1,b.2.2.2.2.2.2.2.2.2.2.2.2.2.2.2.1,(b.2.2.2.2.2.2.2.2.2.2.2.2.2.2.2.2.1,b.2.2.2.2.2.2.2.2.2.2.2.2.2.2.2.2.2.1),b.2.2.2.2.2.2.2.2.2.2.2.2.2.2.2.2.2.2.1,b.2.2.2.2.2.2.2.2.2.2.2.2.2.2.2.2.2.2.2.1,b.2.2.2.2.2.2.2.2.2.2.2.2.2.2.2.2.2.2.2.2.2.2,w.1,b.2.2.2.2.2.2.2.2.2.2.2.2.2.2.2.2.2.2.2.2.1,b.2.2.2.2.2.2.2.2.2.2.2.2.2.2.2.2.2.2.2.2.2.1),r.2.1,r.2.2))) ((j11 t.2.1 t.2.2 4).bind λe=>let a6:=U b.2.2.2.2.1.length
 cond (cond e.1 (N (a6>0)) Á) (let b1:=U b.2.2.2.2.1.length
 (j04 e.2.1 e.2.2 b1).bind λn=>(j04 n.2.1 n.2.2 2).bind λo=>let a8:=w64 (1+o.1)
 M ((b.2.2.2.2.2.2.2.2.2.2.2.2.2.2.1,b.2.2.2.2.2.2.2.2.2.2.2.2.2.2.2.1,(b.2.2.2.2.2.2.2.2.2.2.2.2.2.2.2.2.1,b.2.2.2.2.2.2.2.2.2.2.2.2.2.2.2.2.2.1),b.2.2.2.2.2.2.2.2.2.2.2.2.2.2.2.2.2.2.1,b.2.2.2.2.2.2.2.2.2.2.2.2.2.2.2.2.2.2.2.1,b.2.2.2.2.2.2.2.2.2.2.2.2.2.2.2.2.2.2.2.2.2.2,([]:Tn2),n.1,a8),o.2.1,o.2.2)) (M ((b.2.2.2.2.2.2.2.2.2.2.2.2.2.2.1,b.2.2.2.2.2.2.2.2.2.2.2.2.2.2.2.1,(b.2.2.2.2.2.2.2.2.2.2.2.2.2.2.2.2.1,b.2.2.2.2.2.2.2.2.2.2.2.2.2.2.2.2.2.1),b.2.2.2.2.2.2.2.2.2.2.2.2.2.2.2.2.2.2.1,b.2.2.2.2.2.2.2.2.2.2.2.2.2.2.2.2.2.2.2.1,b.2.2.2.2.2.2.2.2.2.2.2.2.2.2.2.2.2.2.2.2.2.2,([]:Tn2),b.2.2.2.2.2.2.2.2.2.2.2.2.2.2.2.2.2.2.2.2.1,b.2.2.2.2.2.2.2.2.2.2.2.2.2.2.2.2.2.2.2.2.2.1),e.2.1,e.2.2)))) ((j04 u.2.1 u.2.2 3).bind λk=>let b3:=w64 (1+k.1)
 (j5h b3 k.2.1 k.2.2 c.1 c.2.1 c.2.2.1 c.2.2.2 À 0 0 0 0 0 0 0 j x.1 b4 v.1 s.1 b9 0 0 ([]:(Y J))).bind λa=>(j11 a.1 a.2.1 2).bind λg=>cond g.1 ((j3l g.2.1 g.2.2).bind λi=>(j11 i.2.1 i.2.2 4).bind λd=>let a7:=U a.2.2.2.2.1.length
 cond (cond d.1 (N (a7>0)) Á) (let a9:=U a.2.2.2.2.1.length
 (j04 d.2.1 d.2.2 a9).bind λl=>(j04 l.2.1 l.2.2 2).bind λm=>let b0:=w64 (1+m.1)
 M ((a.2.2.2.2.2.2.2.2.2.2.2.2.2.2.1,a.2.2.2.2.2.2.2.2.2.2.2.2.2.2.2.1,(a.2.2.2.2.2.2.2.2.2.2.2.2.2.2.2.2.1,a.2.2.2.2.2.2.2.2.2.2.2.2.2.2.2.2.2.1),a.2.2.2.2.2.2.2.2.2.2.2.2.2.2.2.2.2.2.1,a.2.2.2.2.2.2.2.2.2.2.2.2.2.2.2.2.2.2.2.1,a.2.2.2.2.2.2.2.2.2.2.2.2.2.2.2.2.2.2.2.2.2.2,i.1,l.1,b0),m.2.1,m.2.2)) (M ((a.2.2.2.2.2.2.2.2.2.2.2.2.2.2.1,a.2.2.2.2.2.2.2.2.2.2.2.2.2.2.2.1,(a.2.2.2.2.2.2.2.2.2.2.2.2.2.2.2.2.1,a.2.2.2.2.2.2.2.2.2.2.2.2.2.2.2.2.2.1),a.2.2.2.2.2.2.2.2.2.2.2.2.2.2.2.2.2.2.1,a.2.2.2.2.2.2.2.2.2.2.2.2.2.2.2.2.2.2.2.1,a.2.2.2.2.2.2.2.2.2.2.2.2.2.2.2.2.2.2.2.2.2.2,i.1,a.2.2.2.2.2.2.2.2.2.2.2.2.2.2.2.2.2.2.2.2.1,a.2.2.2.2.2.2.2.2.2.2.2.2.2.2.2.2.2.2.2.2.2.1),d.2.1,d.2.2))) ((j11 g.2.1 g.2.2 4).bind λf=>let a5:=U a.2.2.2.2.1.length
 cond (cond f.1 (N (a5>0)) Á) (let a4:=U a.2.2.2.2.1.length
 (j04 f.2.1 f.2.2 a4).bind λp=>(j04 p.2.1 p.2.2 2).bind λq=>let b2:=w64 (1+q.1)
 M ((a.2.2.2.2.2.2.2.2.2.2.2.2.2.2.1,a.2.2.2.2.2.2.2.2.2.2.2.2.2.2.2.1,(a.2.2.2.2.2.2.2.2.2.2.2.2.2.2.2.2.1,a.2.2.2.2.2.2.2.2.2.2.2.2.2.2.2.2.2.1),a.2.2.2.2.2.2.2.2.2.2.2.2.2.2.2.2.2.2.1,a.2.2.2.2.2.2.2.2.2.2.2.2.2.2.2.2.2.2.2.1,a.2.2.2.2.2.2.2.2.2.2.2.2.2.2.2.2.2.2.2.2.2.2,([]:Tn2),p.1,b2),q.2.1,q.2.2)) (M ((a.2.2.2.2.2.2.2.2.2.2.2.2.2.2.1,a.2.2.2.2.2.2.2.2.2.2.2.2.2.2.2.1,(a.2.2.2.2.2.2.2.2.2.2.2.2.2.2.2.2.1,a.2.2.2.2.2.2.2.2.2.2.2.2.2.2.2.2.2.1),a.2.2.2.2.2.2.2.2.2.2.2.2.2.2.2.2.2.2.1,a.2.2.2.2.2.2.2.2.2.2.2.2.2.2.2.2.2.2.2.1,a.2.2.2.2.2.2.2.2.2.2.2.2.2.2.2.2.2.2.2.2.2.2,([]:Tn2),a.2.2.2.2.2.2.2.2.2.2.2.2.2.2.2.2.2.2.2.2.1,a.2.2.2.2.2.2.2.2.2.2.2.2.2.2.2.2.2.2.2.2.2.1),f.2.1,f.2.2))))
def j5Y(d:Y J)(a:J):S (J×(Y J)×J):=(j04 d a 576).bind λe=>let j:=w64 (3600*e.1)
 let f:=w64 (1767139200+j)
 (j11 e.2.1 e.2.2 3).bind λc=>cond c.1 (let i:Y Int:=[(-1),1,1800,3599]
 (j10 c.2.1 c.2.2 i).bind λb=>let g:=w64 (f+b.1)
 M (g,b.2.1,b.2.2)) (M (f,c.2.1,c.2.2))
def jaD(m:Y J)(k:J)(n:Tn76):S (Tn28×(Y J)×J):=
 let l:=U n.2.1.length
 (j04 m k 3).bind λa=>(j04 a.2.1 a.2.2 l).bind λe=>(j5Y e.2.1 e.2.2).bind λb=>let r:Y Int:=[3600,86400,7,259200,40000]
 (j10 b.2.1 b.2.2 r).bind λc=>let f:=w64 (b.1+c.1)
 cond (a.1==2) (cond (N (l<2)) (M ((0,e.1,0,b.1,f),c.2.1,c.2.2)) (let p:=w64 (e.1+1)
 let q:=w64 (l-1)
 (j04 c.2.1 c.2.2 q).bind λi=>let o:=w64 (p+i.1)
 cond (!(l==0)) (let j:=Å o l
 cond (a.1==1) ((j11 i.2.1 i.2.2 4).bind λg=>cond g.1 (M ((a.1,(-1),j,b.1,f),g.2.1,g.2.2)) (M ((a.1,e.1,j,b.1,f),g.2.1,g.2.2))) (M ((a.1,e.1,j,b.1,f),i.2.1,i.2.2))) Z)) (cond (a.1==1) ((j11 c.2.1 c.2.2 4).bind λd=>cond d.1 (M ((a.1,(-1),0,b.1,f),d.2.1,d.2.2)) (M ((a.1,e.1,0,b.1,f),d.2.1,d.2.2))) (M ((a.1,e.1,0,b.1,f),c.2.1,c.2.2)))
def j2z[LP](o p:J)(r:Y J)(j:J)(n:Tn59)(d:Tn53)(c:Tn30)(q:X)(e:Tn70)(b:Tn65):S ((J×J×(Y J)×J×Tn59×Tn53×Tn30×X×Tn70×Tn65) ⊕ (J×(Y J)×J×Tn59×Tn53×Tn30×X×Tn70×Tn65)):=cond (N (p>0)) ((jgx).bind λi=>let f:=U b.length
 cond (inR f i.length) (let m:=O i f.toNat À
 (j9O r j (n,d,c,e) m).bind λa=>let g:Tn65:=[a.1]
 cond (N (W b+W g<=j02)) (let k:Tn65:=b++g
 let l:=w64 (p-1)
 M (.inl (o,l,a.2.1,a.2.2,n,d,c,q,e,k))) Z) Z) (M (.inr (o,r,j,n,d,c,q,e,b)))
def j6v[LP]:=c8 c2 (LP.lp (u8 unc2 j2z))
abbrev jae:=eq10 j2z j6v
def j2A(n m:J)(p:Y J)(i:J)(l:Tn59)(d:Tn53)(b:Tn30)(o:X)(e:Tn70)(g:Tn65)(c:Tn34):S ((J×J×(Y J)×J×Tn59×Tn53×Tn30×X×Tn70×Tn65×Tn34) ⊕ (J×(Y J)×J×Tn59×Tn53×Tn30×X×Tn70×Tn65×Tn34)):=cond (N (m>0)) ((jaD p i (l,d,b,e)).bind λa=>let f:Tn34:=[a.1]
 cond (N (W c+W f<=j02)) (let k:Tn34:=c++f
 let j:=w64 (m-1)
 M (.inl (n,j,a.2.1,a.2.2,l,d,b,o,e,g,k))) Z) (M (.inr (n,p,i,l,d,b,o,e,g,c)))
def j8S[LP]:=c8 c3 (LP.lp (u8 unc3 j2A))
abbrev jaf:=eq11 j2A j8S
def j2B[LP](q:J)(s:Y J)(j:J)(r:Tn59)(l:Tn53)(k:Tn30)(e:Tn70):S ((J×(Y J)×J×Tn59×Tn53×Tn30×Tn70) ⊕ ((Y J)×J×Tn59×Tn53×Tn30×Tn70)):=cond (N (q>0)) (let i:Y ByteArray:=[(Ã #[102,105,114,115,116]),(Ã #[115,101,99,111,110,100]),(Ã #[116,104,105,114,100])]
 let n:=U e.length
 let g:=Å n 3
 cond (inR g i.length) (let m:=O i g.toNat À
 (j04 s j 4).bind λd=>(j6v q d.1 d.2.1 d.2.2 r l k m e ([]:Tn65)).bind λb=>(j04 b.2.1 b.2.2.1 4).bind λc=>(j8S b.1 c.1 c.2.1 c.2.2 b.2.2.2.1 b.2.2.2.2.1 b.2.2.2.2.2.1 b.2.2.2.2.2.2.1 b.2.2.2.2.2.2.2.1 b.2.2.2.2.2.2.2.2 ([]:Tn34)).bind λa=>let f:Tn70:=[(a.2.2.2.2.2.2.1,a.2.2.2.2.2.2.2.2)]
 cond (N (W a.2.2.2.2.2.2.2.1+W f<=j02)) (let o:Tn70:=a.2.2.2.2.2.2.2.1++f
 let p:=w64 (a.1-1)
 M (.inl (p,a.2.1,a.2.2.1,a.2.2.2.1,a.2.2.2.2.1,a.2.2.2.2.2.1,o))) Z) Z) (M (.inr (s,j,r,l,k,e)))
def j8T[LP]:=lp7 j2B
abbrev jag:=eq7 j2B j8T
def j6N[LP](f:Y J)(c e:J):S (Tn76×(Y J)×J):=(j9N f c).bind λa=>(j04 a.2.1 a.2.2 e).bind λd=>let g:=w64 (1+d.1)
 (j8T g d.2.1 d.2.2 a.1.1 a.1.2.1 a.1.2.2.1 ([]:Tn70)).bind λb=>M (b.2.2,b.1,b.2.1)
def j2j(f:J)(m:Y J)(d:J)(l:Tn16)(e:Tn2):S ((J×(Y J)×J×Tn16×Tn2) ⊕ ((Y J)×J×Tn16)):=
 let g:=U e.length
 cond (N (f<g)) (cond (inR f e.length) (let c:=O e f.toNat (0,0)
 (j04 m d 4).bind λa=>let k:=w64 (1+a.1)
 let b:Tn16:=[(c,k)]
 cond (N (W l+W b<=j02)) (let j:Tn16:=l++b
 let i:=w64 (f+1)
 M (.inl (i,a.2.1,a.2.2,j,e))) Z) Z) (M (.inr (m,d,l)))
def j5z[LP]:=lp5 j2j
abbrev j9P:=eq5 j2j j5z
def j7X[LP](d:Y J)(a:J):S (Tn16×(Y J)×J):=(j3l d a).bind λb=>(j5z 0 b.2.1 b.2.2 ([]:Tn16) b.1).bind λc=>M (c.2.2,c.1,c.2.1)
def j8j(a b:J):S Bool:=
 let e:Bool:=cond (cond (N (a>=0)) (N (a<=8589934592)) Á) (N (b>=a)) Á
 let c:=w64 (b-a)
 let d:Bool:=cond (cond e (N (b<=8589934592)) Á) (N (c<=34560000)) Á
 M d
def jio[LP](b:Tn76)(a c d:J):S Int:=(jec b).bind λe=>cond (e != 0) (M 8) (let f:=U b.2.2.2.length
 cond (cond (N (a<0)) Â (N (a>=f))) (M 3) ((j8j c d).bind λg=>cond (!g) (M 1) (M 0)))
def j5i[LP](u t o:J)(s:X)(k:J)(g:Tn47)(v:X)(j f i m l:J)(e:Y J)(b:Tn2)(c d:J)(n:Y J):S ((J×J×J×X×J×Tn47×X×J×J×J×J×J×(Y J)×Tn2×J×J×(Y J)) ⊕ (Tn1)):=(j7F (s,k,g) (v,j,(f,i),m,l,e,b,c,d) o).bind λa=>cond (cond (!a.2) Â (N (a.1>=t))) (M (.inr (0,n))) (cond (N (a.1>=u)) (cond (N (W n+W [a.1]<=j02)) (let r:Y Int:=n++[a.1]
 let q:=w64 (o+1)
 M (.inl (u,t,q,s,k,g,v,j,f,i,m,l,e,b,c,d,r))) Z) (let p:=w64 (o+1)
 M (.inl (u,t,p,s,k,g,v,j,f,i,m,l,e,b,c,d,n))))
def jbj[LP]:=c8 c9 (LP.lp (u8 unc9 j5i))
abbrev jhs:=eq17 j5i jbj
def j9Q[LP](b:Tn57)(a:Tn64)(c d:J):S Tn0:=(jcD b a).bind λj=>cond (j != 0) (M (([]:(Y J)),8)) ((j8j c d).bind λg=>cond (!g) (M (([]:(Y J)),1)) ((jcF b a c).bind λe=>let f:Int:=if e>0 then e else 0
 (jbj c d f b.1 b.2.1 b.2.2 a.1 a.2.1 a.2.2.1.1 a.2.2.1.2 a.2.2.2.1 a.2.2.2.2.1 a.2.2.2.2.2.1 a.2.2.2.2.2.2.1 a.2.2.2.2.2.2.2.1 a.2.2.2.2.2.2.2.2 ([]:(Y J))).bind λi=>M (i.2,i.1)))
def j5Z(b:Tn2)(j k c a:J)(p:Tn2):S ((Tn2×J×J×J×J×Tn2) ⊕ (Tn2×J×J×J×Tn2)):=
 let o:=U b.length
 cond (N (a<o)) (cond (inR a b.length) (let m:=O b a.toNat (0,0)
 let e:=w64 (c+m.1)
 let i:Int:=if e>j then e else j
 cond (inR a b.length) (let n:=O b a.toNat (0,0)
 let d:=w64 (c+n.2)
 let f:Int:=if d<k then d else k
 cond (N (i<f)) (let g:Tn2:=[(i,f)]
 cond (N (W p+W g<=j02)) (let q:Tn2:=p++g
 let l:=w64 (a+1)
 M (.inl (b,j,k,c,l,q))) Z) (let r:=w64 (a+1)
 M (.inl (b,j,k,c,r,p)))) Z) Z) (M (.inr (b,j,k,c,p)))
def jdo[LP]:=lp6 j5Z
theorem jfU(e c d a b f):jdo e c d a b f=lpK (j5Z e c d a b f) (λh=>jdo h.1 h.2.1 h.2.2.1 h.2.2.2.1 h.2.2.2.2.1 h.2.2.2.2.2):=j0e _ _
def j60[LP](g:Tn2)(f d c:J)(e:Tn2):S ((Tn2×J×J×J×Tn2) ⊕ (Tn2)):=cond (N (c<d)) ((jdo g f d c 0 e).bind λa=>let b:=w64 (a.2.2.2.1+604800)
 M (.inl (a.1,a.2.1,a.2.2.1,b,a.2.2.2.2))) (M (.inr e))
def jfV[LP]:=lp5 j60
abbrev jfW:=eq5 j60 jfV
def jfX[LP](d:Tn2)(a c b:J):S Tn2:=
 let l:=w64 (a+b)
 let j:=w64 (a+b)
 let f:=w64 (j+864000)
 let o:=w64 (É f 86400)
 let p:=w64 (o-10)
 let m:=w64 (a+b)
 let k:=w64 (m+864000)
 let g:=Å k 86400
 (j7W (p,g)).bind λe=>let n:=w64 (l-e)
 let i:=w64 (n-b)
 (jfV d a c i ([]:Tn2)).bind λq=>M q
def j6w(f:J)(e g:Tn2):S ((Tn2×J×Tn2) ⊕ (Tn2)):=cond (inR f e.length) (let a:=O e f.toNat (0,0)
 let b:Tn2:=[a]
 cond (N (W g+W b<=j02)) (let d:Tn2:=g++b
 let c:=w64 (f+1)
 M (.inl (e,c,d))) Z) Z
def j6O(d:Tn2)(e:J)(b:Tn2):S ((Tn2×J×Tn2) ⊕ (Tn2)):=
 let m:=U d.length
 cond (N (e<m)) (let a:=U b.length
 cond (N (a>0)) (let f:=w64 (a-1)
 cond (inR f b.length) (let j:=(O b f.toNat (0,0)).2
 cond (inR e d.length) (let g:=O d e.toNat (0,0)
 cond (j==g.1) (let c:=w64 (a-1)
 cond (inR e d.length) (let i:=O d e.toNat (0,0)
 cond (inR c b.length) (let k:Tn2:=Æ b c.toNat ((O b c.toNat (0,0)).1,i.2)
 let l:=w64 (e+1)
 M (.inl (d,l,k))) Z) Z) (j6w e d b)) Z) Z) (j6w e d b)) (M (.inr b))
def jeN[LP]:=lp3 j6O
theorem jgT(a c b):jeN a c b=lpK (j6O a c b) (λh=>jeN h.1 h.2.1 h.2.2):=j0e _ _
def jip[LP](b a:Tn2):S Tn2:=(jeN a 0 b).bind λc=>M c
def j42[LP](p:J)(k:Tn2)(q:J)(i:Tn2)(g n l:J)(o:X)(a:J)(b:Tn47)(j:Tn2)(m:J):S ((Tn2×J×J×J×X×J×Tn47×Tn2×Tn2) ⊕ (Tn2)):=cond (N (p<m)) ((jfX k p m q).bind λe=>(jip i e).bind λf=>let c:=w64 (g+1)
 M (.inl (k,n,l,c,o,a,b,j,f))) (let d:=w64 (g+1)
 M (.inl (k,n,l,d,o,a,b,j,i)))
def j5A[LP](c:J)(a:Tn2)(e:J)(m l:Tn2)(o:J)(p:X)(f:J)(g:Tn47)(q n:J):S ((Tn2×J×J×J×X×J×Tn47×Tn2×Tn2) ⊕ (Tn2)):=
 let j:=w64 (c+1)
 let i:=U a.length
 cond (N (j<i)) (let b:=w64 (c+1)
 cond (inR b a.length) (let d:=(O a b.toNat (0,0)).1
 let k:Int:=if d<e then d else e
 j42 q m n l c o e p f g a k) Z) (j42 q m n l c o e p f g a e)
def j61[LP](m:Tn2)(e l a:J)(n:X)(c:J)(f:Tn47)(b g:Tn2):S ((Tn2×J×J×J×X×J×Tn47×Tn2×Tn2) ⊕ (Tn2)):=
 let k:=U b.length
 cond (N (a<k)) (cond (N (a>=0)) (cond (inR a b.length) (let i:=(O b a.toNat (0,0)).2
 cond (inR a b.length) (let d:=(O b a.toNat (0,0)).1
 let j:Int:=if d>e then d else e
 j5A a b l m g e n c f j i) Z) Z) (j5A a b l m g e n c f e c)) (M (.inr g))
def jdp[LP]:=lp9 j61
abbrev jfY:=eq9 j61 jdp
def j5j[LP](a:Tn57)(d:Tn2)(b c:J):S (Tn2×J):=(j0s a).bind λe=>cond (e.2 != 0) (M (([]:Tn2),8)) ((j3P d).bind λj=>cond (j != 0) (M (([]:Tn2),8)) ((j8j b c).bind λf=>cond (!f) (M (([]:Tn2),1)) ((jdp d b c (-1) a.1 a.2.1 a.2.2 e.1 ([]:Tn2)).bind λg=>let i:=U g.length
 cond (N (i>4096)) (M (([]:Tn2),5)) (M (g,0)))))
def j43(l b:J)(k:Y J)(m:J)(n:X)(i:J)(j:Tn47)(o:Tn2)(r p q:J):S ((J×X×J×Tn47×J×J×Tn2×(Y J)) ⊕ (Y J)):=
 let c:=w64 (l*86400)
 let e:=w64 (c+b)
 let a:=w64 (e-r)
 cond (cond (N (a>=p)) (N (a<q)) Á) (cond (N (W k+W [a]<=j02)) (let f:Y Int:=k++[a]
 let g:=w64 (m+1)
 M (.inl (g,n,i,j,l,b,o,f))) Z) (let d:=w64 (m+1)
 M (.inl (d,n,i,j,l,b,o,k)))
def j44(f:J)(c:Tn2)(n b:J)(k:Y J)(l:X)(d:J)(e:Tn47)(o m:J):S ((J×X×J×Tn47×J×J×Tn2×(Y J)) ⊕ (Y J)):=
 let i:=w64 (f+1)
 let g:=U c.length
 cond (N (i<g)) (let a:=w64 (f+1)
 cond (inR a c.length) (let j:=(O c a.toNat (0,0)).1
 j43 n b k f l d e c o m j) Z) (j43 n b k f l d e c o m 8589934593)
def j3V(a:J)(k:X)(c:J)(e:Tn47)(l d:J)(b:Tn2)(j:Y J):S ((J×X×J×Tn47×J×J×Tn2×(Y J)) ⊕ (Y J)):=
 let f:=U b.length
 cond (N (a<f)) (cond (N (a>=0)) (cond (inR a b.length) (let g:=(O b a.toNat (0,0)).2
 cond (inR a b.length) (let i:=(O b a.toNat (0,0)).1
 j44 a b l d j k c e g i) Z) Z) (j44 a b l d j k c e c 0)) (M (.inr j))
def j4Y[LP]:=lp8 j3V
abbrev jcH:=eq8 j3V j4Y
def j7Y[LP](a:Tn57)(b:J×J):S Tn0:=(j0s a).bind λc=>cond (c.2 != 0) (M (([]:(Y J)),8)) ((j9E b.2 0 86399).bind λd=>cond (!d) (M (([]:(Y J)),1)) ((jed b.1).bind λe=>cond (!e) (M (([]:(Y J)),0)) ((j4Y (-1) a.1 a.2.1 a.2.2 b.1 b.2 c.1 ([]:(Y J))).bind λf=>M (f,0))))
def j6P(b:J)(w:Tn59)(m:Tn53)(j:Tn30)(c:Tn70)(x:X)(l i k o n:J)(g:Y J)(d:Tn2)(e f:J)(p:Y J)(a:Tn2):S ((J×Tn59×Tn53×Tn30×Tn70×X×J×J×J×J×J×(Y J)×Tn2×J×J×(Y J)×Tn2) ⊕ (Tn59×Tn53×Tn30×Tn70×X×J×J×J×J×J×(Y J)×Tn2×J×J×(Y J))):=
 let q:=U a.length
 cond (N (b<q)) (cond (inR b a.length) (let r:=(O a b.toNat (0,0)).1
 cond (inR b a.length) (let s:=(O a b.toNat (0,0)).2
 let v:Y Int:=[r,s]
 cond (N (W p+W v<=j02)) (let u:Y Int:=p++v
 let t:=w64 (b+1)
 M (.inl (t,w,m,j,c,x,l,i,k,o,n,g,d,e,f,u,a))) Z) Z) Z) (M (.inr (w,m,j,c,x,l,i,k,o,n,g,d,e,f,p)))
def jht[LP]:=c8 c9 (LP.lp (u8 unc9 j6P))
abbrev jgU:=eq17 j6P jht
def j6Q(d:J)(o:Tn59)(g:Tn53)(i:Tn30)(f:Tn70)(n:X)(e:J)(c k:Y J)(b:Tn2):S ((J×Tn59×Tn53×Tn30×Tn70×X×J×(Y J)×(Y J)×Tn2) ⊕ (Tn59×Tn53×Tn30×Tn70×X×J×(Y J)×(Y J))):=
 let l:=U b.length
 cond (N (d<l)) (cond (inR d b.length) (let a:=(O b d.toNat (0,0)).1
 cond (N (W k+W [a]<=j02)) (let j:Y Int:=k++[a]
 let m:=w64 (d+1)
 M (.inl (m,o,g,i,f,n,e,c,j,b))) Z) Z) (M (.inr (o,g,i,f,n,e,c,k)))
def jat[LP]:=c8 c2 (LP.lp (u8 unc2 j6Q))
abbrev jgV:=eq10 j6Q jat
def j4Z[LP](e k:J)(p:Tn59)(i:Tn53)(m:Tn30)(f:Tn70)(q:X)(b:J)(a n:Y J):S ((J×J×Tn59×Tn53×Tn30×Tn70×X×J×(Y J)×(Y J)) ⊕ (J×Tn59×Tn53×Tn30×Tn70×X×J×(Y J)×(Y J))):=cond (N (k<2)) (cond (inR b p.length) (let c:=O p b.toNat (À,0,[])
 cond (inR e a.length) (let o:=O a e.toNat 0
 let g:=w64 (o+k)
 (j7Y c (g,0)).bind λd=>cond (N (W n+W d.1<=j02)) (let j:Y Int:=n++d.1
 let l:=w64 (k+1)
 M (.inl (e,l,p,i,m,f,q,b,a,j))) Z) Z) Z) (M (.inr (e,p,i,m,f,q,b,a,n)))
def jhu[LP]:=c8 c2 (LP.lp (u8 unc2 j4Z))
abbrev jdC:=eq10 j4Z jhu
def j6R[LP](f:J)(m:Tn59)(j:Tn53)(k:Tn30)(i:Tn70)(l:X)(e:J)(b g:Y J):S ((J×Tn59×Tn53×Tn30×Tn70×X×J×(Y J)×(Y J)) ⊕ (Y J)):=
 let d:=U b.length
 cond (N (f<d)) ((jhu f 0 m j k i l e b g).bind λa=>let c:=w64 (a.1+1)
 M (.inl (c,a.2.1,a.2.2.1,a.2.2.2.1,a.2.2.2.2.1,a.2.2.2.2.2.1,a.2.2.2.2.2.2.1,a.2.2.2.2.2.2.2.1,a.2.2.2.2.2.2.2.2))) (M (.inr g))
def jcI[LP]:=lp9 j6R
abbrev jgW:=eq9 j6R jcI
def jiq[LP](b:Tn76)(a:Tn64)(f l:J):S (Y J):=cond (inR a.2.1 b.1.length) (let g:=O b.1 a.2.1.toNat (À,0,[])
 (j9Q g a f l).bind λp=>cond (N (W ([]:(Y J))+W p.1<=j02)) (let m:Y Int:=([]:(Y J))++p.1
 let r:=U a.2.2.2.2.2.2.1.length
 cond (N (r>0)) ((j5j g a.2.2.2.2.2.2.1 f l).bind λt=>(jht 0 b.1 b.2.1 b.2.2.1 b.2.2.2 a.1 a.2.1 a.2.2.1.1 a.2.2.1.2 a.2.2.2.1 a.2.2.2.2.1 a.2.2.2.2.2.1 a.2.2.2.2.2.2.1 a.2.2.2.2.2.2.2.1 a.2.2.2.2.2.2.2.2 m t.1).bind λe=>cond (e.2.2.2.2.2.2.2.2.2.2.2.2.2.1==0) (M e.2.2.2.2.2.2.2.2.2.2.2.2.2.2) (cond (inR e.2.2.2.2.2.2.2.2.2.2.2.2.1 e.2.2.1.length) (let k:=O e.2.2.1 e.2.2.2.2.2.2.2.2.2.2.2.2.1.toNat (À,0,[])
 cond (inR k.2.1 e.1.length) (let n:=O e.1 k.2.1.toNat (À,0,[])
 (j0s n).bind λs=>(jat 0 e.1 e.2.1 e.2.2.1 e.2.2.2.1 k.1 k.2.1 k.2.2 e.2.2.2.2.2.2.2.2.2.2.2.2.2.2 s.1).bind λj=>(jcI 0 j.1 j.2.1 j.2.2.1 j.2.2.2.1 j.2.2.2.2.1 j.2.2.2.2.2.1 j.2.2.2.2.2.2.1 j.2.2.2.2.2.2.2).bind λu=>M u) Z) Z)) (cond (a.2.2.2.2.2.2.2.2==0) (M m) (cond (inR a.2.2.2.2.2.2.2.1 b.2.2.1.length) (let d:=O b.2.2.1 a.2.2.2.2.2.2.2.1.toNat (À,0,[])
 cond (inR d.2.1 b.1.length) (let i:=O b.1 d.2.1.toNat (À,0,[])
 (j0s i).bind λo=>(jat 0 b.1 b.2.1 b.2.2.1 b.2.2.2 d.1 d.2.1 d.2.2 m o.1).bind λc=>(jcI 0 c.1 c.2.1 c.2.2.1 c.2.2.2.1 c.2.2.2.2.1 c.2.2.2.2.2.1 c.2.2.2.2.2.2.1 c.2.2.2.2.2.2.2).bind λq=>M q) Z) Z))) Z) Z
def j6x(k:J)(g c:Y J)(l:J)(m:Y J):S ((J×J×(Y J)×(Y J)×(Y J)) ⊕ (Y J)):=cond (inR k g.length) (let a:=O g k.toNat 0
 let e:=w64 (k+1)
 let d:=U c.length
 let i:=U c.length
 let b:=w64 (i-1)
 cond ((inR b c.length) || !(!(d==0))) (let j:=O c b.toNat 0
 cond (cond (d==0) Â (j != a)) (cond (N (W c+W [a]<=j02)) (let f:Y Int:=c++[a]
 M (.inl (l,e,f,m,g))) Z) (M (.inl (l,e,c,m,g)))) Z) Z
def j6y(k:J)(g b:Y J)(m:J)(l:Y J):S ((J×J×(Y J)×(Y J)×(Y J)) ⊕ (Y J)):=cond (inR k g.length) (let a:=O g k.toNat 0
 let d:=w64 (k+1)
 let e:=U b.length
 let f:=U b.length
 let c:=w64 (f-1)
 cond ((inR c b.length) || !(!(e==0))) (let i:=O b c.toNat 0
 cond (cond (e==0) Â (i != a)) (cond (N (W b+W [a]<=j02)) (let j:Y Int:=b++[a]
 M (.inl (d,m,j,g,l))) Z) (M (.inl (d,m,b,g,l)))) Z) Z
def j6S(m:(Y J)->S (Y J))(a d:J)(e b c:Y J):S ((J×J×(Y J)×(Y J)×(Y J)) ⊕ (Y J)):=
 let g:=U b.length
 let k:=U c.length
 cond (cond (N (a<g)) Â (N (d<k))) (let l:=U c.length
 cond (d==l) (j6y a b e d c) (let j:=U b.length
 cond (N (a<j)) (cond (inR a b.length) (let f:=O b a.toNat 0
 cond (inR d c.length) (let i:=O c d.toNat 0
 cond (N (f<=i)) (j6y a b e d c) (j6x d c e a b)) Z) Z) (j6x d c e a b))) (M (.inr e))
def jeO[LP](a:(Y J)->S (Y J))(b f:J)(d c e:Y J):S (Y J):=LP.lp (unc5 (j6S a)) (b,f,d,c,e)
theorem jgX(a:(Y J)->S (Y J))(b f:J)(d c e:Y J):jeO a b f d c e=lpK (j6S a b f d c e) (λh=>jeO a h.1 h.2.1 h.2.2.1 h.2.2.2.1 h.2.2.2.2):=j0e _ _
def jbP[LP](d:(Y J)->S (Y J))(a:Y J):S (Y J):=
 let g:=U a.length
 cond (N (g<2)) (cond (N (W ([]:(Y J))+W a<=j02)) (let l:Y Int:=([]:(Y J))++a
 M l) Z) (let i:=U a.length
 let b:=w64 (É i 2)
 cond (N ((0:J)<=0)&&(N (0<=b)&&N (b<=(U a.length)))) (let e:Y Int:=Í 0 (Ë b.toNat a)
 (d e).bind λf=>let j:=U a.length
 let c:=w64 (É j 2)
 cond (N (0<=c)&&(N (c<=(U a.length))&&N ((U a.length)<=(U a.length)))) (let k:Y Int:=Í c.toNat (Ë a.length a)
 (d k).bind λm=>(jeO d 0 0 ([]:(Y J)) f m).bind λn=>M n) Z) Z)
def j5k[LP](b:(Y J)->S (Y J))(h:Y J):S (Y J):=jbP (λa=>b a) h
def jog[LP](a:Y J):S (Y J):=LP.rp j5k a
def j4O(e j b:J)(k a:Y J):S ((J×J×J×(Y J)×(Y J)) ⊕ (J×J×(Y J))):=
 let i:=U a.length
 cond (N (b<i)) (cond (inR b a.length) (let d:=O a b.toNat 0
 cond ((inR b a.length) || !(N (d>e))) (let g:=O a b.toNat 0
 cond (cond (N (d>e)) (N (g<j)) Á) (cond (inR b a.length) (let c:=O a b.toNat 0
 cond (N (W k+W [c]<=j02)) (let f:Y Int:=k++[c]
 let l:=w64 (b+1)
 M (.inl (e,j,l,f,a))) Z) Z) (let m:=w64 (b+1)
 M (.inl (e,j,m,k,a)))) Z) Z) (M (.inr (e,j,k)))
def jaE[LP]:=lp5 j4O
theorem jeg(c d b e a):jaE c d b e a=lpK (j4O c d b e a) (λh=>jaE h.1 h.2.1 h.2.2.1 h.2.2.2.1 h.2.2.2.2):=j0e _ _
def jeP[LP](c:Y J)(a d:J):S (Y J):=(jog c).bind λe=>(jaE a d 0 [a] e).bind λb=>cond (N (b.2.1>b.1)) (cond (N (W b.2.2+W [b.2.1]<=j02)) (let f:Y Int:=b.2.2++[b.2.1]
 M f) Z) (M b.2.2)
def j6T[LP](o n d:J)(q:Tn59)(f:Tn53)(g:Tn30)(e:Tn70)(p:X)(b:Tn65)(i:Tn34)(j:Y J):S ((J×J×J×Tn59×Tn53×Tn30×Tn70×X×Tn65×Tn34×(Y J)) ⊕ (J×J×X×Tn65×Tn34×(Y J))):=
 let m:=U b.length
 cond (N (d<m)) (cond (inR d b.length) (let a:=O b d.toNat (À,0,(0,0),0,0,[],[],0,0)
 (jiq (q,f,g,e) a o n).bind λc=>cond (N (W j+W c<=j02)) (let k:Y Int:=j++c
 let l:=w64 (d+1)
 M (.inl (o,n,l,q,f,g,e,p,b,i,k))) Z) Z) (M (.inr (o,n,p,b,i,j)))
def jhv[LP]:=c8 c3 (LP.lp (u8 unc3 j6T))
abbrev jgY:=eq11 j6T jhv
def j6U(m l b:J)(n:X)(k:Tn65)(a:Tn34)(d:Y J):S ((J×J×J×X×Tn65×Tn34×(Y J)) ⊕ (J×J×(Y J))):=
 let i:=U a.length
 cond (N (b<i)) (cond (inR b a.length) (let e:=O a b.toNat (0,0,0,0,0)
 cond (inR b a.length) (let f:=O a b.toNat (0,0,0,0,0)
 let c:Y Int:=[e.2.2.2.1,f.2.2.2.2]
 cond (N (W d+W c<=j02)) (let j:Y Int:=d++c
 let g:=w64 (b+1)
 M (.inl (m,l,g,n,k,a,j))) Z) Z) Z) (M (.inr (m,l,d)))
def jhw[LP]:=lp7 j6U
abbrev jgZ:=eq7 j6U jhw
def jkv[LP](b:Tn76)(a d f:J):S (Y J):=cond (inR a b.2.2.2.length) (let e:=O b.2.2.2 a.toNat (À,[],[])
 (jhv d f 0 b.1 b.2.1 b.2.2.1 b.2.2.2 e.1 e.2.1 e.2.2 ([]:(Y J))).bind λc=>(jhw c.1 c.2.1 0 c.2.2.1 c.2.2.2.1 c.2.2.2.2.1 c.2.2.2.2.2).bind λg=>(jeP g.2.2 g.1 g.2.1).bind λi=>M i) Z
def jbQ(a:Tn4)(c:Tn17):S Tn17:=
 let b:Tn17:=[a]
 cond (N (W c+W b<=j02)) (let d:Tn17:=c++b
 M d) Z
def jgy(a:Tn17)(b:Tn4):S Tn17:=cond (N (b.2.1<=b.1)) (M a) (let c:=U a.length
 cond (N (c>0)) (let e:=w64 (c-1)
 cond (inR e a.length) (let i:=(O a e.toNat (0,0,0)).2.1
 cond (i==b.1) (let f:=w64 (c-1)
 cond (inR f a.length) (let g:=(O a f.toNat (0,0,0)).2.2
 cond (g==b.2.2) (let d:=w64 (c-1)
 cond (inR d a.length) (let j:Tn17:=Æ a d.toNat ((O a d.toNat (0,0,0)).1,b.2.1,(O a d.toNat (0,0,0)).2.2)
 M j) Z) (jbQ b a)) Z) (jbQ b a)) Z) (jbQ b a))
def j5l[LP](q a:J)(r:Tn59)(e:Tn53)(f:Tn30)(d:Tn70)(b:Y J)(p:Tn17):S ((J×J×Tn59×Tn53×Tn30×Tn70×(Y J)×Tn17) ⊕ (Tn17)):=
 let l:=w64 (a+1)
 let k:=U b.length
 cond (N (l<k)) (cond (inR a b.length) (let m:=O b a.toNat 0
 let c:=w64 (a+1)
 cond (inR c b.length) (let i:=O b c.toNat 0
 cond (inR a b.length) (let n:=O b a.toNat 0
 (jhp (r,e,f,d) q n).bind λj=>(jgy p (m,i,j)).bind λo=>let g:=w64 (a+1)
 M (.inl (q,g,r,e,f,d,b,o))) Z) Z) Z) (M (.inr p))
def jeQ[LP]:=lp8 j5l
abbrev jfg:=eq8 j5l jeQ
def jgz[LP](a:Tn76)(b c d:J):S Tn17:=(jkv a b c d).bind λe=>(jeQ b 0 a.1 a.2.1 a.2.2.1 a.2.2.2 e ([]:Tn17)).bind λf=>M f
def jb3[LP](a:Tn76)(b c d:J):S (Tn17×J):=(jio a b c d).bind λe=>cond (e != 0) (M (([]:Tn17),e)) ((jgz a b c d).bind λf=>let g:=U f.length
 cond (N (g>16384)) (M (([]:Tn17),5)) (M (f,0)))
def j62(d:Tn16)(c:J)(g:Tn2):S ((Tn16×J×Tn2) ⊕ (Tn16×Tn2)):=
 let i:=U d.length
 cond (cond (N (c<i)) (N (c<=14)) Á) (cond (inR c d.length) (let b:=O d c.toNat ((0,0),0)
 let a:Tn2:=[b.1]
 cond (N (W g+W a<=j02)) (let f:Tn2:=g++a
 let e:=w64 (c+1)
 M (.inl (d,e,f))) Z) Z) (M (.inr (d,g)))
def jb4[LP]:=lp3 j62
abbrev jfZ:=eq3 j62 jb4
def j63(c:Tn16)(b:J):S ((Tn16×J) ⊕ (J ⊕ Ê)):=
 let f:=U c.length
 cond (N (b<f)) (cond (inR b c.length) (let a:=O c b.toNat ((0,0),0)
 cond ((inR b c.length) || !(!(N (a.2<1)))) (let e:=O c b.toNat ((0,0),0)
 cond (cond (N (a.2<1)) Â (N (e.2>8))) (M (.inr (.inl 1))) (let d:=w64 (b+1)
 M (.inl (c,d)))) Z) Z) (M (.inr (.inr ())))
def jdq[LP]:=lp2 j63
abbrev jg0:=eq2 j63 jdq
def jir[LP](b:Tn16):S Int:=(jb4 b 0 ([]:Tn2)).bind λc=>(j3P c.2).bind λa=>cond (a != 0) (M a) ((jdq c.1 0).bind λd=>sumC d (λe=>M e) (λf=>M 0))
def j7I(d f b a:J)(c:Tn17):S ((J×J×J×J×Tn17) ⊕ (J×J×J×J×Tn17)):=
 let i:=U c.length
 cond (N (d<i)) (cond (inR d c.length) (let e:=(O c d.toNat (0,0,0)).1
 cond (N (e<f)) (let g:=w64 (d+1)
 M (.inl (g,f,b,a,c))) (M (.inr (d,f,b,a,c)))) Z) (M (.inr (d,f,b,a,c)))
def jgA[LP]:=lp5 j7I
abbrev jis:=eq5 j7I jgA
def jjm[LP](b:J×J×J×J×Tn17):S Tn17:=
 let d:Tn17:=[(b.2.1,b.2.2.1,b.2.2.2.1)]
 cond (N (W b.2.2.2.2+W d<=j02)) (let a:Tn17:=b.2.2.2.2++d
 let c:=w64 (b.1+1)
 cond (N (0<=c)&&N (c<=(U a.length))) (cond (N (0<=b.1)&&N (b.1<=(U a.length))) (let e:Tn17:=over a c.toNat (Í b.1.toNat a)
 let g:=U (min (W (Í b.1.toNat a)) (W a-c.toNat))
 cond (inR b.1 e.length) (let f:Tn17:=Æ e b.1.toNat (b.2.1,b.2.2.1,b.2.2.2.1)
 M f) Z) Z) Z) Z
def jlu[LP](e:Tn17)(c:Tn4):S Tn17:=(jgA 0 c.1 c.2.1 c.2.2 e).bind λa=>let k:=U a.2.2.2.2.length
 cond (N (a.1<k)) (cond (inR a.1 a.2.2.2.2.length) (let i:=(O a.2.2.2.2 a.1.toNat (0,0,0)).1
 cond (i==a.2.1) (cond (inR a.1 a.2.2.2.2.length) (let g:=(O a.2.2.2.2 a.1.toNat (0,0,0)).2.1
 let f:=w64 (g+a.2.2.1)
 cond (inR a.1 a.2.2.2.2.length) (let b:Tn17:=Æ a.2.2.2.2 a.1.toNat ((O a.2.2.2.2 a.1.toNat (0,0,0)).1,f,(O a.2.2.2.2 a.1.toNat (0,0,0)).2.2)
 cond (inR a.1 b.length) (let j:=(O b a.1.toNat (0,0,0)).2.2
 let l:=w64 (j+a.2.2.2.1)
 cond (inR a.1 b.length) (let d:Tn17:=Æ b a.1.toNat ((O b a.1.toNat (0,0,0)).1,(O b a.1.toNat (0,0,0)).2.1,l)
 M d) Z) Z) Z) Z) (jjm a)) Z) (jjm a)
def j64[LP](u t q:J)(s:Tn16)(b:J)(r:Tn59)(d:Tn53)(e:Tn30)(c:Tn70)(a g:Tn17):S ((J×J×J×Tn16×J×Tn59×Tn53×Tn30×Tn70×Tn17×Tn17) ⊕ (J×J×J×Tn16×Tn59×Tn53×Tn30×Tn70×Tn17×Tn17)):=
 let j:=U a.length
 cond (N (b<j)) (cond (inR b a.length) (let p:=(O a b.toNat (0,0,0)).2.2
 cond (N (p>=0)) (cond (inR b a.length) (let o:=(O a b.toNat (0,0,0)).2.1
 cond (inR b a.length) (let m:=(O a b.toNat (0,0,0)).1
 let f:=w64 (o-m)
 cond (inR b a.length) (let i:=(O a b.toNat (0,0,0)).2.2
 (jlu g (i,f,f)).bind λn=>let l:=w64 (b+1)
 M (.inl (u,t,q,s,l,r,d,e,c,a,n))) Z) Z) Z) (let k:=w64 (b+1)
 M (.inl (u,t,q,s,k,r,d,e,c,a,g)))) Z) (M (.inr (u,t,q,s,r,d,e,c,a,g)))
def jdr[LP]:=c8 c3 (LP.lp (u8 unc3 j64))
abbrev jg1:=eq11 j64 jdr
def j5B[LP](a:J)(b:Tn17)(c:J)(d:Tn2)(q n o:J)(r:Tn16)(m:J)(p:Tn59)(i:Tn53)(f:Tn30)(k:Tn70)(s:Tn17):S ((J×J×J×Tn16×J×J×J×Tn59×Tn53×Tn30×Tn70×Tn17×Tn17×Tn2) ⊕ (J×J×J×Tn16×J×Tn59×Tn53×Tn30×Tn70×Tn17×Tn17)):=cond (inR a b.length) (let g:=(O b a.toNat (0,0,0)).2.1
 cond (inR c d.length) (let j:=(O d c.toNat (0,0)).2
 cond (N (g<=j)) (let l:=w64 (a+1)
 M (.inl (q,n,o,r,m,l,c,p,i,f,k,b,s,d))) (let e:=w64 (c+1)
 M (.inl (q,n,o,r,m,a,e,p,i,f,k,b,s,d)))) Z) Z
def j65[LP](a3 a2 a0:J)(s:Tn16)(k b d:J)(a1:Tn59)(m:Tn53)(n:Tn30)(l:Tn70)(a y:Tn17)(c:Tn2):S ((J×J×J×Tn16×J×J×J×Tn59×Tn53×Tn30×Tn70×Tn17×Tn17×Tn2) ⊕ (J×J×J×Tn16×J×Tn59×Tn53×Tn30×Tn70×Tn17×Tn17)):=
 let t:=U a.length
 let q:=U c.length
 cond (cond (N (b<t)) (N (d<q)) Á) (cond (inR b a.length) (let i:=(O a b.toNat (0,0,0)).2.1
 cond (inR d c.length) (let g:=(O c d.toNat (0,0)).2
 let p:Int:=if g<i then g else i
 cond (inR b a.length) (let f:=(O a b.toNat (0,0,0)).1
 cond (inR d c.length) (let j:=(O c d.toNat (0,0)).1
 let v:Int:=if j>f then j else f
 let e:=w64 (p-v)
 cond ((inR b a.length) || !(N (e>0))) (let o:=(O a b.toNat (0,0,0)).2.2
 cond (cond (N (e>0)) (N (o>=0)) Á) (cond (inR b a.length) (let w:=(O a b.toNat (0,0,0)).2.2
 cond (inR k s.length) (let u:=O s k.toNat ((0,0),0)
 let x:=w64 (u.2-1)
 let z:=w64 (e*x)
 (jlu y (w,0,z)).bind λr=>j5B b a d c a3 a2 a0 s k a1 m n l r) Z) Z) (j5B b a d c a3 a2 a0 s k a1 m n l y)) Z) Z) Z) Z) Z) (M (.inr (a3,a2,a0,s,k,a1,m,n,l,a,y)))
def j97[LP]:=c8 c6 (LP.lp (u8 unc6 j65))
abbrev jg2:=eq14 j65 j97
def j66[LP](r q l:J)(i:Tn16)(d:J)(n:Tn59)(o:Tn53)(m:Tn30)(p:Tn70)(s k:Tn17):S ((J×J×J×Tn16×J×Tn59×Tn53×Tn30×Tn70×Tn17×Tn17) ⊕ (Tn17)):=
 let j:=U i.length
 cond (N (d<j)) (cond (inR l n.length) (let b:=O n l.toNat (À,0,[])
 cond (inR d i.length) (let c:=O i d.toNat ((0,0),0)
 let e:Tn2:=[c.1]
 (j5j b e r q).bind λf=>(j97 r q l i d 0 0 n o m p s k f.1).bind λa=>let g:=w64 (a.2.2.2.2.1+1)
 M (.inl (a.1,a.2.1,a.2.2.1,a.2.2.2.1,g,a.2.2.2.2.2.1,a.2.2.2.2.2.2.1,a.2.2.2.2.2.2.2.1,a.2.2.2.2.2.2.2.2.1,a.2.2.2.2.2.2.2.2.2.1,a.2.2.2.2.2.2.2.2.2.2))) Z) Z) (M (.inr k))
def jds[LP]:=c8 c3 (LP.lp (u8 unc3 j66))
abbrev jg3:=eq11 j66 jds
def jg4[LP](a:Tn76)(d e f b:J)(g:Tn16):S (Tn17×J):=(jb3 a d e f).bind λi=>cond (i.2 != 0) (M (([]:Tn17),i.2)) (let k:=U a.1.length
 cond (cond (N (b<0)) Â (N (b>=k))) (M (([]:Tn17),3)) ((jir g).bind λj=>cond (j != 0) (M (([]:Tn17),8)) ((jdr e f b g 0 a.1 a.2.1 a.2.2.1 a.2.2.2 i.1 ([]:Tn17)).bind λc=>(jds c.1 c.2.1 c.2.2.1 c.2.2.2.1 0 c.2.2.2.2.1 c.2.2.2.2.2.1 c.2.2.2.2.2.2.1 c.2.2.2.2.2.2.2.1 c.2.2.2.2.2.2.2.2.1 c.2.2.2.2.2.2.2.2.2).bind λl=>M (l,0))))
def j4o(b:Tn17)(g a:J):S ((Tn17×J×J) ⊕ (J ⊕ Ê)):=
 let f:=U b.length
 cond (N (a<f)) (cond (inR a b.length) (let c:=O b a.toNat (0,0,0)
 cond (c.1==g) (cond (inR a b.length) (let e:=O b a.toNat (0,0,0)
 M (.inr (.inl e.2.2))) Z) (let d:=w64 (a+1)
 M (.inl (b,g,d)))) Z) (M (.inr (.inr ())))
def jcJ[LP]:=lp3 j4o
abbrev jdt:=eq3 j4o jcJ
def jdu[LP](b:Tn17)(a:J):S Int:=(jcJ b a 0).bind λc=>sumC c (λd=>M d) (λe=>M 0)
def j22[LP](i n f e d:J)(l:Tn59)(b:Tn53)(c:Tn30)(a:Tn70)(q:Tn16)(p:Y J)(g:Tn17):S ((J×J×J×J×J×Tn59×Tn53×Tn30×Tn70×Tn16×(Y J)×Tn17) ⊕ (J×J×J×Tn59×Tn53×Tn30×Tn70×Tn16×(Y J)×Tn17)):=cond (N (d<e)) ((j3j (l,b,c,a) 0 d i n).bind λk=>cond k (let o:=w64 (f+1)
 let m:=w64 (d+1)
 M (.inl (i,n,o,e,m,l,b,c,a,q,p,g))) (let j:=w64 (d+1)
 M (.inl (i,n,f,e,j,l,b,c,a,q,p,g)))) (M (.inr (i,n,f,l,b,c,a,q,p,g)))
def j5m[LP]:=c8 c4 (LP.lp (u8 unc4 j22))
abbrev j98:=eq12 j22 j5m
def j23[LP](s v l j a:J)(p:Tn59)(e:Tn53)(d:Tn30)(c:Tn70)(z:Tn16)(b:Y J)(i:Tn17):S ((J×J×J×J×J×Tn59×Tn53×Tn30×Tn70×Tn16×(Y J)×Tn17) ⊕ (Ç ⊕ (J×J×J×Tn59×Tn53×Tn30×Tn70×Tn16×(Y J)))):=cond (N (a<j)) (cond (inR a b.length) (let x:=O b a.toNat 0
 (j3j (p,e,d,c) 0 x s v).bind λw=>cond (!w) (M (.inr (.inl Á))) (cond (N (a>0)) (let k:=w64 (a-1)
 cond (inR k b.length) (let y:=O b k.toNat 0
 (jdu i y).bind λm=>cond (inR a b.length) (let o:=O b a.toNat 0
 (jdu i o).bind λf=>cond (N (m>f)) (M (.inr (.inl Á))) (cond (m==f) (let g:=w64 (a-1)
 cond (inR g b.length) (let r:=O b g.toNat 0
 cond (inR a b.length) (let u:=O b a.toNat 0
 cond (N (r>=u)) (M (.inr (.inl Á))) (let n:=w64 (a+1)
 M (.inl (s,v,l,j,n,p,e,d,c,z,b,i)))) Z) Z) (let t:=w64 (a+1)
 M (.inl (s,v,l,j,t,p,e,d,c,z,b,i))))) Z) Z) (let q:=w64 (a+1)
 M (.inl (s,v,l,j,q,p,e,d,c,z,b,i))))) Z) (M (.inr (.inr (s,v,l,p,e,d,c,z,b))))
def j5n[LP]:=c8 c4 (LP.lp (u8 unc4 j23))
abbrev j99:=eq12 j23 j5n
def j9R[LP](g:Y J):S Bool:=(jjd g).bind λs=>cond (!s) ((jef).bind λx=>M x) ((jlt g).bind λm=>(j6N m.1 m.2 1).bind λa=>(j7X a.2.1 a.2.2).bind λe=>(j5Y e.2.1 e.2.2).bind λd=>let y:Y Int:=[3600,86400,40000]
 (j10 d.2.1 d.2.2 y).bind λu=>let l:=w64 (d.1+u.1)
 (j2T a.1 0 d.1 l 0 e.1).bind λj=>let t:=w64 (d.1-2419200)
 (jg4 a.1 0 t d.1 0 e.1).bind λk=>cond (cond (j.2 != 0) Â (k.2 != 0)) (M Á) (let w:=U a.1.2.1.length
 (j5m d.1 l 0 w 0 a.1.1 a.1.2.1 a.1.2.2.1 a.1.2.2.2 e.1 j.1 k.1).bind λc=>let v:=U c.2.2.2.2.2.2.2.2.1.length
 (j5n c.1 c.2.1 c.2.2.1 v 0 c.2.2.2.1 c.2.2.2.2.1 c.2.2.2.2.2.1 c.2.2.2.2.2.2.1 c.2.2.2.2.2.2.2.1 c.2.2.2.2.2.2.2.2.1 c.2.2.2.2.2.2.2.2.2).bind λz=>sumC z (λa0=>M a0) (λf=>(j9D (f.2.2.2.1,f.2.2.2.2.1,f.2.2.2.2.2.1,f.2.2.2.2.2.2.1) 0 f.1 f.2.1 0 f.2.2.2.2.2.2.2.1).bind λb=>let o:=U f.2.2.2.2.2.2.2.2.length
 cond (o==0) (cond (cond (f.2.2.1==0) (b.2.2==10) Á) ((jef).bind λr=>M r) (M Á)) (let i:=U f.2.2.2.2.2.2.2.2.length
 cond ((inR 0 f.2.2.2.2.2.2.2.2.length) || !(cond (f.2.2.1==i) (b.2.2==0) Á)) (let p:=O f.2.2.2.2.2.2.2.2 0 0
 cond (cond (cond (f.2.2.1==i) (b.2.2==0) Á) (b.2.1==p) Á) ((jhq b.1 0 f.1).bind λq=>cond (q==b.2.1) ((jef).bind λn=>M n) (M Á)) (M Á)) Z))))
end
end Go.Proofs.Pw
