/- Plain functions, printed by a program out of the given code. -/
import Derived.Test.YtmccfdihkphfaaaGreatLILS
open _root_ renaming Int->J,Option->N,List->U,ByteArray->X,Bool->Æ,Unit->Ê
open Decidable renaming decide->K
open Option renaming some->L,none->W
open List renaming getD->M,length->S,set->Â,replicate->Å,take->Ë,drop->Í
open Int renaming ofNat->O,tmod->Ä,tdiv->Ç,fdiv->Ì
open ByteArray renaming empty->Y,mk->À,size->Ã,toList->È
open Bool renaming false->Z,true->Á
open Go.IntKind renaming wrap->É
open Go Go.Lft
set_option linter.unusedVariables false
namespace Go.Proofs.Pw
noncomputable section
abbrev Tn2:Type:=(U (J×J))
abbrev Tn1:Type:=(J×(U J))
abbrev Tn3:Type:=(J×J×J)
abbrev Tn13:Type:=(U Tn2)
abbrev Tn15:Type:=(U Tn3)
abbrev Tn14:Type:=(J×Tn2)
abbrev Tn20:Type:=(X×Tn1)
abbrev Tn23:Type:=(U Tn15)
abbrev Tn22:Type:=(U Tn14)
abbrev Tn26:Type:=(J×J×Tn3)
abbrev Tn28:Type:=(U Tn20)
abbrev Tn32:Type:=(U Tn26)
abbrev Tn41:Type:=(J×J×Tn26)
abbrev Tn45:Type:=(U Tn41)
abbrev Tn47:Type:=(X×J×Tn2×J×J×Æ)
abbrev Tn51:Type:=(U Tn47)
abbrev Tn55:Type:=(X×J×Tn45)
abbrev Tn57:Type:=(U Tn55)
abbrev Tn62:Type:=(X×J×(J×J)×J×J×(U J)×Tn2×J×J)
abbrev Tn63:Type:=(U Tn62)
abbrev Tn67:Type:=(X×Tn63×Tn32)
abbrev Tn68:Type:=(U Tn67)
abbrev Tn74:Type:=(Tn57×Tn51×Tn28×Tn68)
abbrev Tn75:Type:=(U Tn74)
abbrev Tn77:Type:=(Tn74×Tn22)
abbrev u8{A B C D E F G H T I R:Type}(u:T->I->R)(f:A->B->C->D->E->F->G->H->T)(h:A×B×C×D×E×F×G×H×I):R:=u (f h.1 h.2.1 h.2.2.1 h.2.2.2.1 h.2.2.2.2.1 h.2.2.2.2.2.1 h.2.2.2.2.2.2.1 h.2.2.2.2.2.2.2.1) h.2.2.2.2.2.2.2.2
abbrev unc2{A0 A1 R:Type}(f:A0->A1->R)(h:A0×A1):R:=f h.1 h.2
abbrev unc3{A0 A1 A2 R:Type}(f:A0->A1->A2->R)(h:A0×A1×A2):R:=f h.1 h.2.1 h.2.2
abbrev unc4{A0 A1 A2 A3 R:Type}(f:A0->A1->A2->A3->R)(h:A0×A1×A2×A3):R:=f h.1 h.2.1 h.2.2.1 h.2.2.2
abbrev unc5{A0 A1 A2 A3 A4 R:Type}(f:A0->A1->A2->A3->A4->R)(h:A0×A1×A2×A3×A4):R:=f h.1 h.2.1 h.2.2.1 h.2.2.2.1 h.2.2.2.2
abbrev unc6{A0 A1 A2 A3 A4 A5 R:Type}(f:A0->A1->A2->A3->A4->A5->R)(h:A0×A1×A2×A3×A4×A5):R:=f h.1 h.2.1 h.2.2.1 h.2.2.2.1 h.2.2.2.2.1 h.2.2.2.2.2
abbrev unc7{A0 A1 A2 A3 A4 A5 A6 R:Type}(f:A0->A1->A2->A3->A4->A5->A6->R)(h:A0×A1×A2×A3×A4×A5×A6):R:=f h.1 h.2.1 h.2.2.1 h.2.2.2.1 h.2.2.2.2.1 h.2.2.2.2.2.1 h.2.2.2.2.2.2
abbrev unc8{A0 A1 A2 A3 A4 A5 A6 A7 R:Type}(f:A0->A1->A2->A3->A4->A5->A6->A7->R)(h:A0×A1×A2×A3×A4×A5×A6×A7):R:=f h.1 h.2.1 h.2.2.1 h.2.2.2.1 h.2.2.2.2.1 h.2.2.2.2.2.1 h.2.2.2.2.2.2.1 h.2.2.2.2.2.2.2
abbrev unc9{A0 A1 A2 A3 A4 A5 A6 A7 A8 R:Type}(f:A0->A1->A2->A3->A4->A5->A6->A7->A8->R)(h:A0×A1×A2×A3×A4×A5×A6×A7×A8):R:=f h.1 h.2.1 h.2.2.1 h.2.2.2.1 h.2.2.2.2.1 h.2.2.2.2.2.1 h.2.2.2.2.2.2.1 h.2.2.2.2.2.2.2.1 h.2.2.2.2.2.2.2.2
section
variable{a b c d e f g h i j k l m n o p q r s t u v w x z:Type}
abbrev c2(y:a×b->z)(a:a)(b:b):z:=y (a,b)
abbrev c3(y:a×b×c->z)(a:a)(b:b)(c:c):z:=y (a,b,c)
abbrev c4(y:a×b×c×d->z)(a:a)(b:b)(c:c)(d:d):z:=y (a,b,c,d)
abbrev c5(y:a×b×c×d×e->z)(a:a)(b:b)(c:c)(d:d)(e:e):z:=y (a,b,c,d,e)
abbrev c6(y:a×b×c×d×e×f->z)(a:a)(b:b)(c:c)(d:d)(e:e)(f:f):z:=y (a,b,c,d,e,f)
abbrev c7(y:a×b×c×d×e×f×g->z)(a:a)(b:b)(c:c)(d:d)(e:e)(f:f)(g:g):z:=y (a,b,c,d,e,f,g)
abbrev d8(y:a×b×c×d×e×f×g×h->z)(a:a)(b:b)(c:c)(d:d)(e:e)(f:f)(g:g)(h:h):z:=y (a,b,c,d,e,f,g,h)
abbrev c9(y:a×b×c×d×e×f×g×h×i->z)(a:a)(b:b)(c:c)(d:d)(e:e)(f:f)(g:g)(h:h)(i:i):z:=y (a,b,c,d,e,f,g,h,i)
abbrev c8(u:(i->z)->j)(y:a×b×c×d×e×f×g×h×i->z)(a:a)(b:b)(c:c)(d:d)(e:e)(f:f)(g:g)(h:h):j:=u λi=>y (a,b,c,d,e,f,g,h,i)
abbrev lp2[LP](s:a->b->N ((a×b) ⊕ z)):=c2 (LP.lp (unc2 s))
theorem eq2(s:a->b->N ((a×b) ⊕ z))(f)(h:f=lp2 s:=by rfl)(a b):f a b=lpK (s a b) (λh=>f h.1 h.2):=h▸j05 _ _
abbrev lp3[LP](s:a->b->c->N ((a×b×c) ⊕ z)):=c3 (LP.lp (unc3 s))
theorem eq3(s:a->b->c->N ((a×b×c) ⊕ z))(f)(h:f=lp3 s:=by rfl)(a b c):f a b c=lpK (s a b c) (λh=>f h.1 h.2.1 h.2.2):=h▸j05 _ _
abbrev lp4[LP](s:a->b->c->d->N ((a×b×c×d) ⊕ z)):=c4 (LP.lp (unc4 s))
theorem eq4(s:a->b->c->d->N ((a×b×c×d) ⊕ z))(f)(h:f=lp4 s:=by rfl)(a b c d):f a b c d=lpK (s a b c d) (λh=>f h.1 h.2.1 h.2.2.1 h.2.2.2):=h▸j05 _ _
abbrev lp5[LP](s:a->b->c->d->e->N ((a×b×c×d×e) ⊕ z)):=c5 (LP.lp (unc5 s))
theorem eq5(s:a->b->c->d->e->N ((a×b×c×d×e) ⊕ z))(f)(h:f=lp5 s:=by rfl)(a b c d e):f a b c d e=lpK (s a b c d e) (λh=>f h.1 h.2.1 h.2.2.1 h.2.2.2.1 h.2.2.2.2):=h▸j05 _ _
abbrev lp6[LP](s:a->b->c->d->e->f->N ((a×b×c×d×e×f) ⊕ z)):=c6 (LP.lp (unc6 s))
theorem eq6(s:a->b->c->d->e->f->N ((a×b×c×d×e×f) ⊕ z))(f)(h:f=lp6 s:=by rfl)(a b c d e g):f a b c d e g=lpK (s a b c d e g) (λh=>f h.1 h.2.1 h.2.2.1 h.2.2.2.1 h.2.2.2.2.1 h.2.2.2.2.2):=h▸j05 _ _
abbrev lp7[LP](s:a->b->c->d->e->f->g->N ((a×b×c×d×e×f×g) ⊕ z)):=c7 (LP.lp (unc7 s))
theorem eq7(s:a->b->c->d->e->f->g->N ((a×b×c×d×e×f×g) ⊕ z))(f)(h:f=lp7 s:=by rfl)(a b c d e g i):f a b c d e g i=lpK (s a b c d e g i) (λh=>f h.1 h.2.1 h.2.2.1 h.2.2.2.1 h.2.2.2.2.1 h.2.2.2.2.2.1 h.2.2.2.2.2.2):=h▸j05 _ _
abbrev lp8[LP](s:a->b->c->d->e->f->g->h->N ((a×b×c×d×e×f×g×h) ⊕ z)):=d8 (LP.lp (unc8 s))
theorem eq8(s:a->b->c->d->e->f->g->h->N ((a×b×c×d×e×f×g×h) ⊕ z))(f)(h:f=lp8 s:=by rfl)(a b c d e g i j):f a b c d e g i j=lpK (s a b c d e g i j) (λh=>f h.1 h.2.1 h.2.2.1 h.2.2.2.1 h.2.2.2.2.1 h.2.2.2.2.2.1 h.2.2.2.2.2.2.1 h.2.2.2.2.2.2.2):=h▸j05 _ _
abbrev lp9[LP](s:a->b->c->d->e->f->g->h->i->N ((a×b×c×d×e×f×g×h×i) ⊕ z)):=c9 (LP.lp (unc9 s))
theorem eq9(s:a->b->c->d->e->f->g->h->i->N ((a×b×c×d×e×f×g×h×i) ⊕ z))(f)(h:f=lp9 s:=by rfl)(a b c d e g i j k):f a b c d e g i j k=lpK (s a b c d e g i j k) (λh=>f h.1 h.2.1 h.2.2.1 h.2.2.2.1 h.2.2.2.2.1 h.2.2.2.2.2.1 h.2.2.2.2.2.2.1 h.2.2.2.2.2.2.2.1 h.2.2.2.2.2.2.2.2):=h▸j05 _ _
theorem eq10(s:a->b->c->d->e->f->g->h->i->j->N ((a×b×c×d×e×f×g×h×i×j) ⊕ z))(f)(h:f=c8 c2 (LP.lp (u8 unc2 s)):=by rfl)(a b c d e g i j k l):f a b c d e g i j k l=lpK (s a b c d e g i j k l) (λh=>f h.1 h.2.1 h.2.2.1 h.2.2.2.1 h.2.2.2.2.1 h.2.2.2.2.2.1 h.2.2.2.2.2.2.1 h.2.2.2.2.2.2.2.1 h.2.2.2.2.2.2.2.2.1 h.2.2.2.2.2.2.2.2.2):=h▸j05 _ _
theorem eq11(s:a->b->c->d->e->f->g->h->i->j->k->N ((a×b×c×d×e×f×g×h×i×j×k) ⊕ z))(f)(h:f=c8 c3 (LP.lp (u8 unc3 s)):=by rfl)(a b c d e g i j k l m):f a b c d e g i j k l m=lpK (s a b c d e g i j k l m) (λh=>f h.1 h.2.1 h.2.2.1 h.2.2.2.1 h.2.2.2.2.1 h.2.2.2.2.2.1 h.2.2.2.2.2.2.1 h.2.2.2.2.2.2.2.1 h.2.2.2.2.2.2.2.2.1 h.2.2.2.2.2.2.2.2.2.1 h.2.2.2.2.2.2.2.2.2.2):=h▸j05 _ _
theorem eq12(s:a->b->c->d->e->f->g->h->i->j->k->l->N ((a×b×c×d×e×f×g×h×i×j×k×l) ⊕ z))(f)(h:f=c8 c4 (LP.lp (u8 unc4 s)):=by rfl)(a b c d e g i j k l m n):f a b c d e g i j k l m n=lpK (s a b c d e g i j k l m n) (λh=>f h.1 h.2.1 h.2.2.1 h.2.2.2.1 h.2.2.2.2.1 h.2.2.2.2.2.1 h.2.2.2.2.2.2.1 h.2.2.2.2.2.2.2.1 h.2.2.2.2.2.2.2.2.1 h.2.2.2.2.2.2.2.2.2.1 h.2.2.2.2.2.2.2.2.2.2.1 h.2.2.2.2.2.2.2.2.2.2.2):=h▸j05 _ _
theorem eq13(s:a->b->c->d->e->f->g->h->i->j->k->l->m->N ((a×b×c×d×e×f×g×h×i×j×k×l×m) ⊕ z))(f)(h:f=c8 c5 (LP.lp (u8 unc5 s)):=by rfl)(a b c d e g i j k l m n o):f a b c d e g i j k l m n o=lpK (s a b c d e g i j k l m n o) (λh=>f h.1 h.2.1 h.2.2.1 h.2.2.2.1 h.2.2.2.2.1 h.2.2.2.2.2.1 h.2.2.2.2.2.2.1 h.2.2.2.2.2.2.2.1 h.2.2.2.2.2.2.2.2.1 h.2.2.2.2.2.2.2.2.2.1 h.2.2.2.2.2.2.2.2.2.2.1 h.2.2.2.2.2.2.2.2.2.2.2.1 h.2.2.2.2.2.2.2.2.2.2.2.2):=h▸j05 _ _
theorem eq14(s:a->b->c->d->e->f->g->h->i->j->k->l->m->n->N ((a×b×c×d×e×f×g×h×i×j×k×l×m×n) ⊕ z))(f)(h:f=c8 c6 (LP.lp (u8 unc6 s)):=by rfl)(a b c d e g i j k l m n o p):f a b c d e g i j k l m n o p=lpK (s a b c d e g i j k l m n o p) (λh=>f h.1 h.2.1 h.2.2.1 h.2.2.2.1 h.2.2.2.2.1 h.2.2.2.2.2.1 h.2.2.2.2.2.2.1 h.2.2.2.2.2.2.2.1 h.2.2.2.2.2.2.2.2.1 h.2.2.2.2.2.2.2.2.2.1 h.2.2.2.2.2.2.2.2.2.2.1 h.2.2.2.2.2.2.2.2.2.2.2.1 h.2.2.2.2.2.2.2.2.2.2.2.2.1 h.2.2.2.2.2.2.2.2.2.2.2.2.2):=h▸j05 _ _
theorem eq15(s:a->b->c->d->e->f->g->h->i->j->k->l->m->n->o->N ((a×b×c×d×e×f×g×h×i×j×k×l×m×n×o) ⊕ z))(f)(h:f=c8 c7 (LP.lp (u8 unc7 s)):=by rfl)(a b c d e g i j k l m n o p q):f a b c d e g i j k l m n o p q=lpK (s a b c d e g i j k l m n o p q) (λh=>f h.1 h.2.1 h.2.2.1 h.2.2.2.1 h.2.2.2.2.1 h.2.2.2.2.2.1 h.2.2.2.2.2.2.1 h.2.2.2.2.2.2.2.1 h.2.2.2.2.2.2.2.2.1 h.2.2.2.2.2.2.2.2.2.1 h.2.2.2.2.2.2.2.2.2.2.1 h.2.2.2.2.2.2.2.2.2.2.2.1 h.2.2.2.2.2.2.2.2.2.2.2.2.1 h.2.2.2.2.2.2.2.2.2.2.2.2.2.1 h.2.2.2.2.2.2.2.2.2.2.2.2.2.2):=h▸j05 _ _
theorem eq16(s:a->b->c->d->e->f->g->h->i->j->k->l->m->n->o->p->N ((a×b×c×d×e×f×g×h×i×j×k×l×m×n×o×p) ⊕ z))(f)(h:f=c8 d8 (LP.lp (u8 unc8 s)):=by rfl)(a b c d e g i j k l m n o p q r):f a b c d e g i j k l m n o p q r=lpK (s a b c d e g i j k l m n o p q r) (λh=>f h.1 h.2.1 h.2.2.1 h.2.2.2.1 h.2.2.2.2.1 h.2.2.2.2.2.1 h.2.2.2.2.2.2.1 h.2.2.2.2.2.2.2.1 h.2.2.2.2.2.2.2.2.1 h.2.2.2.2.2.2.2.2.2.1 h.2.2.2.2.2.2.2.2.2.2.1 h.2.2.2.2.2.2.2.2.2.2.2.1 h.2.2.2.2.2.2.2.2.2.2.2.2.1 h.2.2.2.2.2.2.2.2.2.2.2.2.2.1 h.2.2.2.2.2.2.2.2.2.2.2.2.2.2.1 h.2.2.2.2.2.2.2.2.2.2.2.2.2.2.2):=h▸j05 _ _
theorem eq17(s:a->b->c->d->e->f->g->h->i->j->k->l->m->n->o->p->q->N ((a×b×c×d×e×f×g×h×i×j×k×l×m×n×o×p×q) ⊕ z))(f)(h:f=c8 c9 (LP.lp (u8 unc9 s)):=by rfl)(a b c d e g i j k l m n o p q r t):f a b c d e g i j k l m n o p q r t=lpK (s a b c d e g i j k l m n o p q r t) (λh=>f h.1 h.2.1 h.2.2.1 h.2.2.2.1 h.2.2.2.2.1 h.2.2.2.2.2.1 h.2.2.2.2.2.2.1 h.2.2.2.2.2.2.2.1 h.2.2.2.2.2.2.2.2.1 h.2.2.2.2.2.2.2.2.2.1 h.2.2.2.2.2.2.2.2.2.2.1 h.2.2.2.2.2.2.2.2.2.2.2.1 h.2.2.2.2.2.2.2.2.2.2.2.2.1 h.2.2.2.2.2.2.2.2.2.2.2.2.2.1 h.2.2.2.2.2.2.2.2.2.2.2.2.2.2.1 h.2.2.2.2.2.2.2.2.2.2.2.2.2.2.2.1 h.2.2.2.2.2.2.2.2.2.2.2.2.2.2.2.2):=h▸j05 _ _
theorem eq22(s:a->b->c->d->e->f->g->h->i->j->k->l->m->n->o->p->q->r->s->t->u->v->N ((a×b×c×d×e×f×g×h×i×j×k×l×m×n×o×p×q×r×s×t×u×v) ⊕ z))(f)(h:f=c8 (c8 c6) (LP.lp (u8 (u8 unc6) s)):=by rfl)(a b c d e g i j k l m n o p q r t u v w x y):f a b c d e g i j k l m n o p q r t u v w x y=lpK (s a b c d e g i j k l m n o p q r t u v w x y) (λh=>f h.1 h.2.1 h.2.2.1 h.2.2.2.1 h.2.2.2.2.1 h.2.2.2.2.2.1 h.2.2.2.2.2.2.1 h.2.2.2.2.2.2.2.1 h.2.2.2.2.2.2.2.2.1 h.2.2.2.2.2.2.2.2.2.1 h.2.2.2.2.2.2.2.2.2.2.1 h.2.2.2.2.2.2.2.2.2.2.2.1 h.2.2.2.2.2.2.2.2.2.2.2.2.1 h.2.2.2.2.2.2.2.2.2.2.2.2.2.1 h.2.2.2.2.2.2.2.2.2.2.2.2.2.2.1 h.2.2.2.2.2.2.2.2.2.2.2.2.2.2.2.1 h.2.2.2.2.2.2.2.2.2.2.2.2.2.2.2.2.1 h.2.2.2.2.2.2.2.2.2.2.2.2.2.2.2.2.2.1 h.2.2.2.2.2.2.2.2.2.2.2.2.2.2.2.2.2.2.1 h.2.2.2.2.2.2.2.2.2.2.2.2.2.2.2.2.2.2.2.1 h.2.2.2.2.2.2.2.2.2.2.2.2.2.2.2.2.2.2.2.2.1 h.2.2.2.2.2.2.2.2.2.2.2.2.2.2.2.2.2.2.2.2.2):=h▸j05 _ _
theorem eq24(s:a->b->c->d->e->f->g->h->i->j->k->l->m->n->o->p->q->r->s->t->u->v->w->x->N ((a×b×c×d×e×f×g×h×i×j×k×l×m×n×o×p×q×r×s×t×u×v×w×x) ⊕ z))(f)(h:f=c8 (c8 d8) (LP.lp (u8 (u8 unc8) s)):=by rfl)(a b c d e g i j k l m n o p q r t u v w x y a0 b0):f a b c d e g i j k l m n o p q r t u v w x y a0 b0=lpK (s a b c d e g i j k l m n o p q r t u v w x y a0 b0) (λh=>f h.1 h.2.1 h.2.2.1 h.2.2.2.1 h.2.2.2.2.1 h.2.2.2.2.2.1 h.2.2.2.2.2.2.1 h.2.2.2.2.2.2.2.1 h.2.2.2.2.2.2.2.2.1 h.2.2.2.2.2.2.2.2.2.1 h.2.2.2.2.2.2.2.2.2.2.1 h.2.2.2.2.2.2.2.2.2.2.2.1 h.2.2.2.2.2.2.2.2.2.2.2.2.1 h.2.2.2.2.2.2.2.2.2.2.2.2.2.1 h.2.2.2.2.2.2.2.2.2.2.2.2.2.2.1 h.2.2.2.2.2.2.2.2.2.2.2.2.2.2.2.1 h.2.2.2.2.2.2.2.2.2.2.2.2.2.2.2.2.1 h.2.2.2.2.2.2.2.2.2.2.2.2.2.2.2.2.2.1 h.2.2.2.2.2.2.2.2.2.2.2.2.2.2.2.2.2.2.1 h.2.2.2.2.2.2.2.2.2.2.2.2.2.2.2.2.2.2.2.1 h.2.2.2.2.2.2.2.2.2.2.2.2.2.2.2.2.2.2.2.2.1 h.2.2.2.2.2.2.2.2.2.2.2.2.2.2.2.2.2.2.2.2.2.1 h.2.2.2.2.2.2.2.2.2.2.2.2.2.2.2.2.2.2.2.2.2.2.1 h.2.2.2.2.2.2.2.2.2.2.2.2.2.2.2.2.2.2.2.2.2.2.2):=h▸j05 _ _
end
def jkc(a:U J):N Bool:=
 let b:=O a.length
 L (K (b<=500))
def jmf(b c:J)(a:Æ):N (Tn57×Tn51×Tn28×Tn68):=
 let j:Tn57:=[((À #[122]),0,([]:Tn45))]
 let i:Tn2:=[(432000,435600)]
 let g:Tn51:=[((À #[97]),0,i,b,c,a)]
 let e:U Int:=[0]
 let f:Tn63:=[((À #[108]),0,(1,0),1,1,e,([]:Tn2),0,0)]
 let d:Tn68:=[((À #[115]),f,([]:Tn32))]
 L (j,g,([]:Tn28),d)
def j9l(a:Tn55):N ByteArray:=L a.1
def jcP(a:J):N Bool:=L (cond (K (a>=97)) (K (a<=122)) Z)
def jic(a:J):N Bool:=L (cond (K (a>=48)) (K (a<=57)) Z)
def j5W(g:X)(c b:J):N ((X×J×J) ⊕ (Æ ⊕ Ê)):=cond (K (b<c)) (cond (inR b (Ã g)) (let a:=j9u g b
 (jcP a).bind λi=>cond (!i) ((jic a).bind λf=>cond (cond (cond (!f) (a != 95) Z) (a != 45) Z) (L (.inr (.inl Z))) (let e:=w64 (b+1)
 L (.inl (g,c,e)))) (let d:=w64 (b+1)
 L (.inl (g,c,d)))) W) (L (.inr (.inr ())))
def jch[LP]:=lp3 j5W
theorem jfO(c a b):jch c a b=lpK (j5W c a b) (λh=>jch h.1 h.2.1 h.2.2):=j05 _ _
def jeE[LP](a:X):N Bool:=
 let f:=O (Ã a)
 let b:Bool:=cond (È a==È Y) Á (K (f>24))
 cond ((inR 0 (Ã a)) || !(!b)) (let e:=j9u a 0
 cond b (L Z) ((jcP e).bind λd=>cond (!d) (L Z) (let c:=O (Ã a)
 (jch a c 0).bind λg=>sumC g (λi=>L i) (λj=>L Á)))) W
def j5j[LP](b:X)(a:U (X×Æ)):N (J×(U (X×Æ))):=(jeE b).bind λc=>cond (!c) (L (2,a)) (cond (j3i Z a b) (L (4,a)) (let d:(U (X×Æ)):=j6V a b Á
 L (0,d)))
def j8Y(a b c:J):N Bool:=L (cond (K (a>=b)) (K (a<=c)) Z)
def jbt(a:Tn41):N Int:=(j8Y a.1 1970 2240).bind λi=>cond (!i) (L 1) ((j8Y a.2.1 a.1 2240).bind λd=>cond (!d) (L 1) ((j8Y a.2.2.1 1 12).bind λg=>cond (!g) (L 1) ((j8Y a.2.2.2.1 1 5).bind λc=>cond (!c) (L 1) ((j8Y a.2.2.2.2.1 0 6).bind λf=>cond (!f) (L 1) ((j8Y a.2.2.2.2.2.1 0 86399).bind λe=>cond (!e) (L 1) ((j8Y a.2.2.2.2.2.2 (-64800) 64800).bind λb=>cond (!b) (L 1) (L 0)))))))
def jkd(a:J):N Bool:=
 let c:=Ä a 4
 let d:=Ä a 100
 let b:=Ä a 400
 L (cond (c==0) (cond (d != 0) Á (b==0)) Z)
def j8E(c a:J):N Int:=cond (cond (K (a<1)) Á (K (a>12))) (L 0) (let e:U Int:=[31,28,31,30,31,30,31,31,30,31,30,31]
 let j:U Int:=Å 12 0
 cond (a==2) ((jkd c).bind λi=>cond i (L 29) (let f:=w64 (a-1)
 cond (inR f 12) (let g:=M e f.toNat 0
 L g) W)) (let b:=w64 (a-1)
 cond (inR b 12) (let d:=M e b.toNat 0
 L d) W))
def jcQ(a:Tn3):N Bool:=cond (K (a.1>=1970)) (cond (K (a.1<=2240)) (cond (K (a.2.2>=1)) ((j8E a.1 a.2.1).bind λb=>L (K (a.2.2<=b))) (L Z)) (L Z)) (L Z)
def j9w(b a:J):N Int:=cond (!(a==0)) (let e:=w64 (Ç b a)
 cond (!(a==0)) (let c:=Ä b a
 cond (K (c<0)) (let d:=w64 (e-1)
 L d) (L e)) W) W
def j6t(a:J):N Int:=
 let b:=w64 (a-1)
 let k:=w64 (a-1970)
 let l:=w64 (365*k)
 (j9w b 4).bind λf=>let d:=w64 (l+f)
 (j9w b 100).bind λg=>let j:=w64 (d-g)
 (j9w b 400).bind λi=>let c:=w64 (j+i)
 let e:=w64 (c-477)
 L e
def j4X(i f g a e:J):N ((J×J×J×J×J) ⊕ (J)):=cond (K (f<a)) ((j8E g f).bind λc=>let b:=w64 (i+c)
 let d:=w64 (f+1)
 L (.inl (b,d,g,a,e))) (L (.inr i))
def jcR[LP]:=lp5 j4X
abbrev jdG:=eq5 j4X jcR
def jdH[LP](a:Tn3):N Int:=(j6t a.1).bind λd=>let c:=w64 (d+a.2.2)
 let b:=w64 (c-1)
 (jcR b 1 a.1 a.2.1 a.2.2).bind λe=>L e
def j71(a:J):N Int:=
 let b:=Ä a 7
 let d:=w64 (b+10)
 let c:=Ä d 7
 L c
def jiZ[LP](d b c a:J):N (J×J):=(jcQ (d,b,1)).bind λs=>let t:Bool:=cond (cond (!s) Á (K (c<1))) Á (K (c>5))
 let j:Bool:=cond (cond t Á (K (a<0))) Á (K (a>6))
 cond j (L (0,1)) ((jdH (d,b,1)).bind λe=>(j71 e).bind λk=>let o:=w64 (a-k)
 let m:=w64 (o+7)
 let l:=Ä m 7
 let n:=w64 (e+l)
 let i:=w64 (c-1)
 let q:=w64 (7*i)
 let f:=w64 (n+q)
 (j8E d b).bind λg=>let r:=w64 (e+g)
 cond (K (f>=r)) (let p:=w64 (f-7)
 L (p,0)) (L (f,0)))
def j40(b a:J×J):N Int:=
 let c:=w64 (b.1-a.1)
 L c
def j0w(l p q b:J)(a:Tn2):N ((J×J×J×J×Tn2) ⊕ (J×J×J×Tn2)):=cond (K (b>l)) (cond (inR b a.length) (let k:=M a b.toNat (0,0)
 let f:=w64 (b-1)
 cond (inR f a.length) (let c:=M a f.toNat (0,0)
 (j40 k c).bind λn=>cond (K (n<0)) (let d:=w64 (b-1)
 let g:=w64 (b-1)
 cond (inR g a.length) (let i:=M a g.toNat (0,0)
 cond (inR b a.length) (let j:=M a b.toNat (0,0)
 cond (inR b a.length) (let e:Tn2:=Â a b.toNat i
 cond (inR d e.length) (let o:Tn2:=Â e d.toNat j
 let m:=w64 (b-1)
 L (.inl (l,p,q,m,o))) W) W) W) W) (L (.inr (l,p,q,a)))) W) W) (L (.inr (l,p,q,a)))
def j1w[LP]:=lp5 j0w
abbrev j2l:=eq5 j0w j1w
def j0j[LP](f d c:J)(e:Tn2):N ((J×J×J×Tn2) ⊕ (Tn2)):=cond (K (c<d)) ((j1w f d c c e).bind λa=>let b:=w64 (a.2.2.1+1)
 L (.inl (a.1,a.2.1,b,a.2.2.2))) (L (.inr e))
def j1x[LP]:=lp4 j0j
abbrev j1i:=eq4 j0j j1x
def j0x[LP](a:Tn2)(b c:J):N Tn2:=
 let d:=w64 (b+1)
 (j1x b c d a).bind λe=>L e
def j2y(n m o a:J)(b:Tn2):N ((J×J×J×J×Tn2) ⊕ (Tn2)):=cond (K (a<o)) (let e:=w64 (n+a)
 let g:=w64 (m+a)
 let c:=w64 (m+a)
 cond (inR c b.length) (let d:=M b c.toNat (0,0)
 let i:=w64 (n+a)
 cond (inR i b.length) (let j:=M b i.toNat (0,0)
 cond (inR e b.length) (let f:Tn2:=Â b e.toNat d
 cond (inR g f.length) (let l:Tn2:=Â f g.toNat j
 let k:=w64 (a+1)
 L (.inl (n,m,o,k,l))) W) W) W) W) (L (.inr b))
def j7m[LP]:=lp5 j2y
def j1m[LP](a:Tn2)(c b d:J):N Tn2:=(j7m c b d 0 a).bind λe=>L e
def j3e[LP](c a b:J)(m:Tn2):N ((J×J×J×Tn2) ⊕ (J×J×Tn2)):=cond (a != b) (cond (K (a>b)) (let g:=w64 (c-a)
 (j1m m g c b).bind λj=>let d:=w64 (a-b)
 L (.inl (c,d,b,j))) (let k:=w64 (c-a)
 let f:=w64 (c+b)
 let i:=w64 (f-a)
 (j1m m k i a).bind λe=>let l:=w64 (b-a)
 L (.inl (c,a,l,e)))) (L (.inr (c,a,m)))
def j8a[LP]:=lp4 j3e
def j2z[LP](b:Tn2)(e a d:J):N Tn2:=
 let j:=w64 (a-e)
 let f:=w64 (d-a)
 (j8a a j f b).bind λc=>let g:=w64 (c.1-c.2.1)
 (j1m c.2.2 g c.1 c.2.1).bind λi=>L i
def j2N(n:Tn2->J->J->J->N (Tn2))(f e g:J)(a:Tn2):N ((J×J×J×Tn2) ⊕ (J×J×Tn2)):=cond (K (e<g)) (let k:=w64 (e+g)
 let i:Int:=É .u64 k
 let l:Int:=Ì i 2
 let b:=w64 l
 cond (inR b a.length) (let c:=M a b.toNat (0,0)
 cond (inR f a.length) (let d:=M a f.toNat (0,0)
 (j40 c d).bind λj=>cond (K (j<0)) (let m:=w64 (b+1)
 L (.inl (f,m,g,a))) (L (.inl (f,e,b,a)))) W) W) (L (.inr (f,e,a)))
def j7N[LP](a:Tn2->J->J->J->N (Tn2))(d c b:J)(e:Tn2):N (J×J×Tn2):=LP.lp (unc4 (j2N a)) (d,c,b,e)
def j2O(m:Tn2->J->J->J->N (Tn2))(l a:J)(b:Tn2):N ((J×J×Tn2) ⊕ (Tn2)):=
 let j:=w64 (l-1)
 cond (K (a<j)) (let e:=w64 (a+1)
 let c:=w64 (a+1)
 cond (inR c b.length) (let g:=M b c.toNat (0,0)
 cond (inR a b.length) (let d:=M b a.toNat (0,0)
 cond (inR a b.length) (let f:Tn2:=Â b a.toNat g
 cond (inR e f.length) (let k:Tn2:=Â f e.toNat d
 let i:=w64 (a+1)
 L (.inl (l,i,k))) W) W) W) W) (L (.inr b))
def j7O[LP](a:Tn2->J->J->J->N (Tn2))(b c:J)(d:Tn2):N Tn2:=LP.lp (unc3 (j2O a)) (b,c,d)
def j2P(n:Tn2->J->J->J->N (Tn2))(f c j:J)(b:Tn2):N ((J×J×J×Tn2) ⊕ (J×J×Tn2)):=cond (K (c<j)) (let k:=w64 (c+j)
 let l:Int:=É .u64 k
 let m:Int:=Ì l 2
 let e:=w64 m
 cond (inR f b.length) (let d:=M b f.toNat (0,0)
 cond (inR e b.length) (let a:=M b e.toNat (0,0)
 (j40 d a).bind λi=>cond (!(K (i<0))) (let g:=w64 (e+1)
 L (.inl (f,g,j,b))) (L (.inl (f,c,e,b)))) W) W) (L (.inr (f,c,b)))
def j7P[LP](b:Tn2->J->J->J->N (Tn2))(d a c:J)(e:Tn2):N (J×J×Tn2):=LP.lp (unc4 (j2P b)) (d,a,c,e)
def j2Q(l:Tn2->J->J->J->N (Tn2))(k a:J)(f:Tn2):N ((J×J×Tn2) ⊕ (Tn2)):=cond (K (a>k)) (let c:=w64 (a-1)
 let d:=w64 (a-1)
 cond (inR d f.length) (let b:=M f d.toNat (0,0)
 cond (inR a f.length) (let e:=M f a.toNat (0,0)
 cond (inR a f.length) (let g:Tn2:=Â f a.toNat b
 cond (inR c g.length) (let j:Tn2:=Â g c.toNat e
 let i:=w64 (a-1)
 L (.inl (k,i,j))) W) W) W) W) (L (.inr f))
def j7Q[LP](a:Tn2->J->J->J->N (Tn2))(b c:J)(d:Tn2):N Tn2:=LP.lp (unc3 (j2Q a)) (b,c,d)
def j2R(t:Tn2->J->J->J->N (Tn2))(s r q n o f l m:J)(e:Tn2):N ((J×J×J×J×J×J×J×J×Tn2) ⊕ (J×J×J×J×J×J×Tn2)):=cond (K (f<l)) (let j:=w64 (f+l)
 let g:Int:=É .u64 j
 let p:Int:=Ì g 2
 let a:=w64 p
 let b:=w64 (m-a)
 cond (inR b e.length) (let d:=M e b.toNat (0,0)
 cond (inR a e.length) (let c:=M e a.toNat (0,0)
 (j40 d c).bind λi=>cond (!(K (i<0))) (let k:=w64 (a+1)
 L (.inl (s,r,q,n,o,k,l,m,e))) (L (.inl (s,r,q,n,o,f,a,m,e)))) W) W) (L (.inr (s,r,q,n,o,f,e)))
def j3P[LP](b:Tn2->J->J->J->N (Tn2))(i g j c e a d f:J)(k:Tn2):N (J×J×J×J×J×J×Tn2):=LP.lp (unc9 (j2R b)) (i,g,j,c,e,a,d,f,k)
def j72[LP](e:Tn2->J->J->J->N (Tn2))(g:Tn2)(i f j:J):N Tn2:=
 let b0:=w64 (f-i)
 cond (b0==1) ((j7N e i f j g).bind λa2=>(j7O e a2.2.1 a2.1 a2.2.2).bind λb1=>L b1) (let a9:=w64 (j-f)
 cond (a9==1) ((j7P e f i f g).bind λa5=>(j7Q e a5.2.1 a5.1 a5.2.2).bind λb2=>L b2) (let a7:=w64 (i+j)
 let a1:Int:=É .u64 a7
 let l:Int:=Ì a1 2
 let m:=w64 ((w64 l)+f)
 cond (K (f>(w64 l))) (let a6:=w64 (m-j)
 let a3:=w64 (m-1)
 (j3P e i f j (w64 l) m a6 (w64 l) a3 g).bind λc=>let d:=w64 (c.2.2.2.2.1-c.2.2.2.2.2.1)
 cond (cond (K (c.2.2.2.2.2.1<c.2.1)) (K (c.2.1<d)) Z) ((j2z c.2.2.2.2.2.2 c.2.2.2.2.2.1 c.2.1 d).bind λq=>cond (cond (K (c.1<c.2.2.2.2.2.1)) (K (c.2.2.2.2.2.1<c.2.2.2.1)) Z) ((e q c.1 c.2.2.2.2.2.1 c.2.2.2.1).bind λy=>cond (cond (K (c.2.2.2.1<d)) (K (d<c.2.2.1)) Z) ((e y c.2.2.2.1 d c.2.2.1).bind λa8=>L a8) (L y)) (cond (cond (K (c.2.2.2.1<d)) (K (d<c.2.2.1)) Z) ((e q c.2.2.2.1 d c.2.2.1).bind λx=>L x) (L q))) (cond (cond (K (c.1<c.2.2.2.2.2.1)) (K (c.2.2.2.2.2.1<c.2.2.2.1)) Z) ((e c.2.2.2.2.2.2 c.1 c.2.2.2.2.2.1 c.2.2.2.1).bind λn=>cond (cond (K (c.2.2.2.1<d)) (K (d<c.2.2.1)) Z) ((e n c.2.2.2.1 d c.2.2.1).bind λr=>L r) (L n)) (cond (cond (K (c.2.2.2.1<d)) (K (d<c.2.2.1)) Z) ((e c.2.2.2.2.2.2 c.2.2.2.1 d c.2.2.1).bind λs=>L s) (L c.2.2.2.2.2.2)))) (let u:=w64 (m-1)
 (j3P e i f j (w64 l) m i f u g).bind λa=>let b:=w64 (a.2.2.2.2.1-a.2.2.2.2.2.1)
 cond (cond (K (a.2.2.2.2.2.1<a.2.1)) (K (a.2.1<b)) Z) ((j2z a.2.2.2.2.2.2 a.2.2.2.2.2.1 a.2.1 b).bind λk=>let a4:Bool:=cond (K (a.1<a.2.2.2.2.2.1)) (K (a.2.2.2.2.2.1<a.2.2.2.1)) Z
 cond a4 ((e k a.1 a.2.2.2.2.2.1 a.2.2.2.1).bind λp=>cond (cond (K (a.2.2.2.1<b)) (K (b<a.2.2.1)) Z) ((e p a.2.2.2.1 b a.2.2.1).bind λv=>L v) (L p)) (cond (cond (K (a.2.2.2.1<b)) (K (b<a.2.2.1)) Z) ((e k a.2.2.2.1 b a.2.2.1).bind λt=>L t) (L k))) (let a0:Bool:=cond (K (a.1<a.2.2.2.2.2.1)) (K (a.2.2.2.2.2.1<a.2.2.2.1)) Z
 cond a0 ((e a.2.2.2.2.2.2 a.1 a.2.2.2.2.2.1 a.2.2.2.1).bind λo=>cond (cond (K (a.2.2.2.1<b)) (K (b<a.2.2.1)) Z) ((e o a.2.2.2.1 b a.2.2.1).bind λz=>L z) (L o)) (cond (cond (K (a.2.2.2.1<b)) (K (b<a.2.2.1)) Z) ((e a.2.2.2.2.2.2 a.2.2.2.1 b a.2.2.1).bind λw=>L w) (L a.2.2.2.2.2.2))))))
def j15[LP](e:(Tn2×J×J×J)->N (Tn2))(h:Tn2×J×J×J):N Tn2:=j72 (λa d b c=>e (a,d,b,c)) h.1 h.2.1 h.2.2.1 h.2.2.2
def j2c[LP](a:Tn2)(d c b:J):N Tn2:=LP.rp j15 (a,d,c,b)
def j0Y[LP](d e f c:J)(g:Tn2):N ((J×J×J×J×Tn2) ⊕ (J×J×J×Tn2)):=cond (K (c<=d)) ((j0x g f c).bind λb=>let a:=w64 (c+e)
 L (.inl (d,e,c,a,b))) (L (.inr (d,e,f,g)))
def j27[LP]:=lp5 j0Y
abbrev j7n:=eq5 j0Y j27
def j3f[LP](g a i d:J)(j:Tn2):N ((J×J×J×J×Tn2) ⊕ (J×J×J×Tn2)):=cond (K (d<=g)) (let b:=w64 (i+a)
 (j2c j i b d).bind λc=>let f:=w64 (2*a)
 let e:=w64 (d+f)
 L (.inl (g,a,d,e,c))) (L (.inr (g,a,i,j)))
def j8b[LP]:=lp5 j3f
def j0Z[LP](i g:J)(j:Tn2):N ((J×J×Tn2) ⊕ (Tn2)):=cond (K (g<i)) (let d:=w64 (2*g)
 (j8b i g 0 d j).bind λa=>let b:=w64 (a.2.2.1+a.2.1)
 cond (K (b<a.1)) ((j2c a.2.2.2 a.2.2.1 b a.1).bind λf=>let e:=w64 (a.2.1*2)
 L (.inl (a.1,e,f))) (let c:=w64 (a.2.1*2)
 L (.inl (a.1,c,a.2.2.2)))) (L (.inr j))
def j28[LP]:=lp3 j0Z
abbrev j7o:=eq3 j0Z j28
def j2A[LP](a:Tn2)(c:J):N Tn2:=(j27 c 20 0 20 a).bind λb=>(j0x b.2.2.2 b.2.2.1 b.1).bind λd=>(j28 b.1 b.2.1 d).bind λe=>L e
def j0g[LP](a:Tn2):N Tn2:=
 let b:=O a.length
 (j2A a b).bind λc=>L c
def j25(n:J)(d:Tn45)(l b:J)(m:X)(f:J)(e:Tn45):N ((J×Tn45×J×J×X×J×Tn45) ⊕ (J ⊕ (J×X×J×Tn45))):=cond (K (b<l)) (cond (inR b d.length) (let a:=M d b.toNat (0,0,0,0,0,0,0)
 (jbt a).bind λc=>cond (c != 0) (L (.inr (.inl c))) (let k:=w64 (a.2.1-a.1)
 let j:=w64 (k+1)
 let i:=w64 (n+j)
 let g:=w64 (b+1)
 L (.inl (i,d,l,g,m,f,e)))) W) (L (.inr (.inr (n,m,f,e))))
def j5v[LP]:=lp7 j25
theorem j7R(g c e d f b a):j5v g c e d f b a=lpK (j25 g c e d f b a) (λh=>j5v h.1 h.2.1 h.2.2.1 h.2.2.2.1 h.2.2.2.2.1 h.2.2.2.2.2.1 h.2.2.2.2.2.2):=j05 _ _
def j2X[LP](i:J)(o:Tn45)(q p s g a e b d f:J)(r:Tn2):N ((J×Tn45×J×J×J×J×J×J×J×J×J×Tn2) ⊕ (Tn45×J×J×Tn2)):=cond (K (i<=g)) ((jiZ i a e b).bind λk=>let l:=w64 (k.1*86400)
 let m:=w64 (l+d)
 let c:Tn2:=[(m,f)]
 cond (K (S r+S c<=j03)) (let j:Tn2:=r++c
 let n:=w64 (i+1)
 L (.inl (n,o,q,p,s,g,a,e,b,d,f,j))) W) (L (.inr (o,q,p,r)))
def j9x[LP]:=c8 c4 (LP.lp (u8 unc4 j2X))
abbrev jaF:=eq12 j2X j9x
def j2Y[LP](d:Tn45)(f c:J)(g:Tn2):N ((Tn45×J×J×Tn2) ⊕ (Tn2)):=cond (K (c<f)) (cond (inR c d.length) (let a:=M d c.toNat (0,0,0,0,0,0,0)
 (j9x a.1 d f c a.1 a.2.1 a.2.2.1 a.2.2.2.1 a.2.2.2.2.1 a.2.2.2.2.2.1 a.2.2.2.2.2.2 g).bind λb=>let e:=w64 (b.2.2.1+1)
 L (.inl (b.1,b.2.1,e,b.2.2.2))) W) (L (.inr g))
def j73[LP]:=lp4 j2Y
theorem jaG(a c b d):j73 a c b d=lpK (j2Y a c b d) (λh=>j73 h.1 h.2.1 h.2.2.1 h.2.2.2):=j05 _ _
def j3H[LP](a:Tn55):N (Tn2×J):=(j8Y a.2.1 (-64800) 64800).bind λc=>cond (!c) (L (([]:Tn2),1)) (let b:=O a.2.2.length
 cond (K (b>16)) (L (([]:Tn2),5)) (let f:=O a.2.2.length
 (j5v 0 a.2.2 f 0 a.1 a.2.1 a.2.2).bind λj=>sumC j (λk=>L (([]:Tn2),k)) (λi=>cond (K (i.1>640)) (L (([]:Tn2),5)) (let d:=O i.2.2.2.length
 (j73 i.2.2.2 d 0 ([]:Tn2)).bind λg=>(j0g g).bind λe=>L (e,0)))))
def j1B(w m d:J)(b l:Tn2):N ((J×J×J×Tn2×Tn2) ⊕ (J ⊕ Tn2)):=cond (K (d<m)) (cond (inR d l.length) (let a:=M l d.toNat (0,0)
 cond (a.2==w) (let u:=w64 (d+1)
 L (.inl (w,m,u,b,l))) (let c:=w64 (a.1-w)
 let i:=w64 (a.2-w)
 cond (cond (K (i>=86400)) Á (K (i<=(-86400)))) (let p:=O b.length
 let r:=O b.length
 let k:=w64 (r-1)
 cond ((inR k b.length) || !((!Á)&&(K (p>0)))) (let s:=(M b k.toNat (0,0)).1
 let x:=w64 (s+604800)
 L (.inr (.inl 6))) W) ((j8Y c 0 8589934592).bind λj=>let f:=O b.length
 let o:=O b.length
 let g:=w64 (o-1)
 cond ((inR g b.length) || !((!(!j))&&(K (f>0)))) (let v:=(M b g.toNat (0,0)).1
 let q:=w64 (v+604800)
 cond (cond (!j) Á (cond (K (f>0)) (K (c<q)) Z)) (L (.inr (.inl 6))) (let e:Tn2:=[(c,a.2)]
 cond (K (S b+S e<=j03)) (let n:Tn2:=b++e
 let t:=w64 (d+1)
 L (.inl (a.2,m,t,n,l))) W)) W))) W) (L (.inr (.inr b)))
def j5w[LP]:=lp5 j1B
theorem j5L(d a c e b):j5w d a c e b=lpK (j1B d a c e b) (λh=>j5w h.1 h.2.1 h.2.2.1 h.2.2.2.1 h.2.2.2.2):=j05 _ _
def j1A[LP](a:Tn55):N (Tn2×J):=(j3H a).bind λb=>cond (b.2 != 0) (L (([]:Tn2),b.2)) (let c:=O b.1.length
 (j5w a.2.1 c 0 ([]:Tn2) b.1).bind λd=>sumC d (λe=>L (([]:Tn2),e)) (λf=>L (f,0)))
def jeF[LP](a:Tn55):N Int:=(j1A a).bind λb=>L b.2
def j8Z(a:Tn41):N Bool:=
 let b:=Ä a.2.2.2.2.2.2 60
 L (b != 0)
def j0l(e:Tn45)(f b:J):N ((Tn45×J×J) ⊕ (J ⊕ Ê)):=cond (K (b<f)) (cond (inR b e.length) (let a:=M e b.toNat (0,0,0,0,0,0,0)
 (j8Z a).bind λd=>cond d (L (.inr (.inl b))) (let c:=w64 (b+1)
 L (.inl (e,f,c)))) W) (L (.inr (.inr ())))
def j1C[LP]:=lp3 j0l
abbrev j2s:=eq3 j0l j1C
def j1U[LP](a:Tn45):N Int:=
 let c:=O a.length
 (j1C a c 0).bind λb=>sumC b (λd=>L d) (λe=>L (-1))
def j0V[LP](a:Tn45):N Bool:=(j1U a).bind λb=>L (K (b>=0))
def j2d[LP](a:Tn55):N Int:=(jeF a).bind λc=>let d:=Ä a.2.1 60
 cond (cond (c != 0) Á (d != 0)) (L 8) ((j0V a.2.2).bind λb=>cond b (L 8) (L 0))
def j1b[LP](e:Tn57)(i d:J)(j:U (X×Æ)):N ((Tn57×J×J×(U (X×Æ))) ⊕ (J ⊕ Ê)):=cond (K (d<i)) (cond (inR d e.length) (let a:=M e d.toNat (Y,0,[])
 (j9l a).bind λf=>(j5j f j).bind λb=>cond (b.1 != 0) (L (.inr (.inl b.1))) ((j2d a).bind λc=>cond (c != 0) (L (.inr (.inl c))) (let g:=w64 (d+1)
 L (.inl (e,i,g,b.2))))) W) (L (.inr (.inr ())))
def j1W[LP]:=lp4 j1b
abbrev j5g:=eq4 j1b j1W
def j1X[LP](a:Tn57):N Int:=
 let b:(U (X×Æ)):=[]
 let c:=O a.length
 (j1W a c 0 b).bind λd=>sumC d (λe=>L e) (λf=>L 0)
def j1n(a b:J):N Bool:=L (cond (K (a>=0)) (K (a<b)) Z)
def j5X(j g:Tn2)(k b:J):N ((Tn2×Tn2×J×J) ⊕ (J ⊕ Ê)):=cond (K (b<k)) (cond (inR b g.length) (let a:=M g b.toNat (0,0)
 let d:Bool:=cond (cond (K (a.1<0)) Á (K (a.1>=a.2))) Á (K (a.2>604800))
 cond d (L (.inr (.inl 1))) (cond (K (b>0)) (let c:=w64 (b-1)
 cond (inR c j.length) (let f:=M j c.toNat (0,0)
 cond (K (a.1<f.2)) (L (.inr (.inl 6))) (let i:=w64 (b+1)
 L (.inl (j,g,k,i)))) W) (let e:=w64 (b+1)
 L (.inl (j,g,k,e))))) W) (L (.inr (.inr ())))
def jfi[LP]:=lp4 j5X
abbrev jfP:=eq4 j5X jfi
def jcD[LP](a:Tn2):N Int:=
 let b:=O a.length
 cond (K (b>14)) (L 5) (let c:=O a.length
 (jfi a a c 0).bind λd=>sumC d (λe=>L e) (λf=>L 0))
def j3D(a b c:J):N Bool:=L (cond (K (a>=b)) (K (a<=c)) Z)
def j2e(a:J):N Bool:=(j3D a 0 604800).bind λc=>let b:=Ä a 3600
 L (cond c (b==0) Z)
def j1q[LP](b:Tn74)(a:Tn47):N Int:=
 let g:=O b.1.length
 (j1n a.2.1 g).bind λc=>cond (!c) (L 3) ((jcD a.2.2.1).bind λf=>cond (f != 0) (L 8) ((j2e a.2.2.2.1).bind λd=>cond (!d) (L 1) ((j2e a.2.2.2.2.1).bind λe=>cond (!e) (L 1) (L 0))))
def j9m(a:Tn20):N ByteArray:=L a.1
def j5Y(e d:J):N ((J×J) ⊕ (J)):=
 let c:=w64 (d+1)
 (j6t c).bind λb=>cond (K (b<=e)) (let a:=w64 (d+1)
 L (.inl (e,a))) (L (.inr d))
def jfj[LP]:=lp2 j5Y
abbrev jfQ:=eq2 j5Y jfj
def jhg[LP](a:J):N Int:=(j9w a 366).bind λc=>let b:=w64 (1970+c)
 (jfj a b).bind λd=>L d
def j4Y(k l d b i a c:J):N ((J×J×J×J×J×J×J) ⊕ (J×J×J×J×J×J×J)):=(j8E i a).bind λe=>cond (K (k>=e)) ((j8E i a).bind λg=>let f:=w64 (k-g)
 let j:=w64 (a+1)
 L (.inl (f,l,d,b,i,j,c))) (L (.inr (k,l,d,b,i,a,c)))
def jcS[LP]:=lp7 j4Y
abbrev jdI:=eq7 j4Y jcS
def j6W[LP](a:J):N (Tn3×J):=(j6t 1970).bind λi=>cond (K (a<i)) (L ((0,0,0),1)) ((j6t 2241).bind λd=>cond (K (a>=d)) (L ((0,0,0),1)) ((jhg a).bind λb=>(j6t b).bind λf=>let g:=w64 (a-f)
 (jcS g 0 0 0 b 1 0).bind λc=>let e:=w64 (c.1+1)
 L ((c.2.2.2.2.1,c.2.2.2.2.2.1,e),0)))
def j1N[LP](a:J):N Bool:=(j6W a).bind λb=>L (b.2==0)
def j4A[LP](a:J):N Bool:=(j1N a).bind λb=>L (!b)
def j0F[LP](e:U J)(f a:J):N (((U J)×J×J) ⊕ (J ⊕ Ê)):=cond (K (a<f)) (cond (inR a e.length) (let c:=M e a.toNat 0
 (j4A c).bind λd=>cond d (L (.inr (.inl a))) (let b:=w64 (a+1)
 L (.inl (e,f,b)))) W) (L (.inr (.inr ())))
def j3l[LP]:=lp3 j0F
abbrev j2t:=eq3 j0F j3l
def j4B[LP](a:U J):N Int:=
 let c:=O a.length
 (j3l a c 0).bind λb=>sumC b (λd=>L d) (λe=>L (-1))
def j1D[LP](a:U J):N Bool:=(j4B a).bind λb=>L (K (b>=0))
def j0p(d b:J)(k:X)(e:J)(a:U J):N ((J×J×X×J×(U J)) ⊕ (J ⊕ Ê)):=cond (K (b<d)) (cond (K (b>0)) (cond (inR b a.length) (let j:=M a b.toNat 0
 let c:=w64 (b-1)
 cond (inR c a.length) (let f:=M a c.toNat 0
 cond (K (j<=f)) (L (.inr (.inl 6))) (let i:=w64 (b+1)
 L (.inl (d,i,k,e,a)))) W) W) (let g:=w64 (b+1)
 L (.inl (d,g,k,e,a)))) (L (.inr (.inr ())))
def j26[LP]:=lp5 j0p
theorem j1E(c d e b a):j26 c d e b a=lpK (j0p c d e b a) (λh=>j26 h.1 h.2.1 h.2.2.1 h.2.2.2.1 h.2.2.2.2):=j05 _ _
def j29[LP](b:Tn74)(a:Tn20):N Int:=
 let e:=O b.1.length
 (j1n a.2.1 e).bind λg=>cond (!g) (L 3) (let d:=O a.2.2.length
 cond (K (d>64)) (L 5) ((j1D a.2.2).bind λc=>cond c (L 1) (let f:=O a.2.2.length
 (j26 f 0 a.1 a.2.1 a.2.2).bind λi=>sumC i (λj=>L j) (λk=>L 0))))
def j9n[LP](a:Tn20)(e:Tn57)(b:Tn51)(d:Tn28)(c:Tn68):N Int:=(j29 (e,b,d,c) a).bind λf=>L f
def j0T[LP](m:Tn57)(e:Tn51)(i:Tn28)(g:Tn68)(f:Tn28)(l d:J)(n:U (X×Æ)):N ((Tn57×Tn51×Tn28×Tn68×Tn28×J×J×(U (X×Æ))) ⊕ (J ⊕ Ê)):=cond (K (d<l)) (cond (inR d f.length) (let a:=M f d.toNat (Y,0,[])
 (j9m a).bind λj=>(j5j j n).bind λb=>cond (b.1 != 0) (L (.inr (.inl b.1))) ((j9n a m e i g).bind λc=>cond (c != 0) (L (.inr (.inl c))) (let k:=w64 (d+1)
 L (.inl (m,e,i,g,f,l,k,b.2))))) W) (L (.inr (.inr ())))
def j1j[LP]:=lp8 j0T
abbrev j3K:=eq8 j0T j1j
def j2m[LP](e:Tn28)(d:Tn57)(c:Tn51)(a:Tn28)(b:Tn68):N Int:=
 let f:(U (X×Æ)):=[]
 let g:=O e.length
 (j1j d c a b e g 0 f).bind λi=>sumC i (λj=>L j) (λk=>L 0)
def j9o(a:Tn67):N ByteArray:=L a.1
def j4C(a:Tn62):N ByteArray:=L a.1
def j5Z(b:J)(g:Tn57)(a:Tn51)(f:Tn28)(c:Tn68):N Bool:=
 let e:=O a.length
 (j1n b e).bind λd=>L (!d)
def j0q(i:U J)(j:Tn57)(a:Tn51)(d:Tn28)(c:Tn68)(k b:J):N (((U J)×Tn57×Tn51×Tn28×Tn68×J×J) ⊕ (J ⊕ Ê)):=cond (K (b<k)) (cond (inR b i.length) (let f:=M i b.toNat 0
 (j5Z f j a d c).bind λg=>cond g (L (.inr (.inl b))) (let e:=w64 (b+1)
 L (.inl (i,j,a,d,c,k,e)))) W) (L (.inr (.inr ())))
def j2u[LP]:=lp7 j0q
abbrev j1Z:=eq7 j0q j2u
def j3m[LP](b:U J)(e:Tn57)(a:Tn51)(d:Tn28)(c:Tn68):N Int:=
 let g:=O b.length
 (j2u b e a d c g 0).bind λf=>sumC f (λi=>L i) (λj=>L (-1))
def j1c[LP](e:U J)(d:Tn57)(a:Tn51)(c:Tn28)(b:Tn68):N Bool:=(j3m e d a c b).bind λf=>L (K (f>=0))
def j20[LP](b:Tn74)(a:Tn62):N Int:=
 let m:=O b.1.length
 (j1n a.2.1 m).bind λd=>cond (!d) (L 3) (cond (K (a.2.2.1.1<1)) (L 1) ((j1N a.2.2.1.1).bind λc=>cond (!c) (L 1) ((j3D a.2.2.1.2 0 86399).bind λi=>cond (!i) (L 1) ((j3D a.2.2.2.1 0 2).bind λo=>cond (!o) (L 1) ((j3D a.2.2.2.2.1 1 400).bind λe=>cond (!e) (L 1) (let n:=O a.2.2.2.2.2.1.length
 cond (n==0) (L 7) (let l:=O a.2.2.2.2.2.1.length
 cond (K (l>12)) (L 5) ((j1c a.2.2.2.2.2.1 b.1 b.2.1 b.2.2.1 b.2.2.2).bind λf=>cond f (L 3) ((jcD a.2.2.2.2.2.2.1).bind λg=>cond (g != 0) (L 8) ((j3D a.2.2.2.2.2.2.2.2 0 2).bind λj=>cond (!j) (L 1) (let k:=O b.2.2.1.length
 cond (a.2.2.2.2.2.2.2.2 != 0) ((j1n a.2.2.2.2.2.2.2.1 k).bind λp=>cond (!p) (L 3) (cond (cond (a.2.2.2.2.2.2.2.2==0) (a.2.2.2.2.2.2.2.1 != 0) Z) (L 1) (L 0))) (cond (cond (a.2.2.2.2.2.2.2.2==0) (a.2.2.2.2.2.2.2.1 != 0) Z) (L 1) (L 0)))))))))))))
def j4D[LP](a:Tn62)(e:Tn57)(b:Tn51)(d:Tn28)(c:Tn68):N Int:=(j20 (e,b,d,c) a).bind λf=>L f
def j14[LP](m:Tn57)(e:Tn51)(i:Tn28)(g:Tn68)(f:Tn63)(l d:J)(n:U (X×Æ)):N ((Tn57×Tn51×Tn28×Tn68×Tn63×J×J×(U (X×Æ))) ⊕ (J ⊕ Ê)):=cond (K (d<l)) (cond (inR d f.length) (let a:=M f d.toNat (Y,0,(0,0),0,0,[],[],0,0)
 (j4C a).bind λj=>(j5j j n).bind λb=>cond (b.1 != 0) (L (.inr (.inl b.1))) ((j4D a m e i g).bind λc=>cond (c != 0) (L (.inr (.inl c))) (let k:=w64 (d+1)
 L (.inl (m,e,i,g,f,l,k,b.2))))) W) (L (.inr (.inr ())))
def j1L[LP]:=lp8 j14
abbrev j4T:=eq8 j14 j1L
def j3n[LP](e:Tn63)(d:Tn57)(c:Tn51)(a:Tn28)(b:Tn68):N Int:=
 let f:(U (X×Æ)):=[]
 let g:=O e.length
 (j1L d c a b e g 0 f).bind λi=>sumC i (λj=>L j) (λk=>L 0)
def j4Z[LP](a:Tn26):N Int:=cond (cond (a.1 != 2) (a.2.2.1 != 0) Z) (L 1) (cond (cond (a.1==2) (a.2.1==a.2.2.1) Z) (L 4) (let b:=w64 (Ç a.2.2.2.2 86400)
 cond (cond (K (a.2.2.2.1<0)) Á (K (a.2.2.2.2<0))) (L 1) ((j1N b).bind λc=>cond (!c) (L 1) (cond (K (a.2.2.2.1>=a.2.2.2.2)) (L 6) (L 0)))))
def j1F[LP](c:Tn74)(a:Tn26):N Int:=
 let f:=O c.2.1.length
 (j3D a.1 0 2).bind λe=>cond (!e) (L 1) ((j1n a.2.1 f).bind λb=>cond (cond (!b) (!(cond (a.1==1) (a.2.1==(-1)) Z)) Z) (cond (cond (!b) (!(cond (a.1==1) (a.2.1==(-1)) Z)) Z) (L 3) (j4Z a)) (cond (a.1==2) ((j1n a.2.2.1 f).bind λd=>cond (!d) (L 3) (j4Z a)) (j4Z a)))
def j1k[LP](d:Tn32)(j b:J)(k:Tn57)(g:Tn51)(f:Tn28)(e:Tn68):N ((Tn32×J×J×Tn57×Tn51×Tn28×Tn68) ⊕ (J ⊕ Ê)):=cond (K (b<j)) (cond (inR b d.length) (let a:=M d b.toNat (0,0,0,0,0)
 (j1F (k,g,f,e) a).bind λc=>cond (c != 0) (L (.inr (.inl c))) (let i:=w64 (b+1)
 L (.inl (d,j,i,k,g,f,e)))) W) (L (.inr (.inr ())))
def j2Z[LP]:=lp7 j1k
abbrev j5x:=eq7 j1k j2Z
def j2a[LP](a:Tn74)(b:Tn67):N Int:=
 let d:=O b.2.1.length
 let e:=O b.2.2.length
 cond (cond (K (d>6)) Á (K (e>48))) (L 5) ((j3n b.2.1 a.1 a.2.1 a.2.2.1 a.2.2.2).bind λc=>cond (c != 0) (L c) (let f:=O b.2.2.length
 (j2Z b.2.2 f 0 a.1 a.2.1 a.2.2.1 a.2.2.2).bind λg=>sumC g (λi=>L i) (λj=>L 0)))
def j9p[LP](a:Tn67)(e:Tn57)(b:Tn51)(d:Tn28)(c:Tn68):N Int:=(j2a (e,b,d,c) a).bind λf=>L f
def j0U[LP](m:Tn57)(e:Tn51)(i:Tn28)(g f:Tn68)(l d:J)(n:U (X×Æ)):N ((Tn57×Tn51×Tn28×Tn68×Tn68×J×J×(U (X×Æ))) ⊕ (J ⊕ Ê)):=cond (K (d<l)) (cond (inR d f.length) (let a:=M f d.toNat (Y,[],[])
 (j9o a).bind λj=>(j5j j n).bind λb=>cond (b.1 != 0) (L (.inr (.inl b.1))) ((j9p a m e i g).bind λc=>cond (c != 0) (L (.inr (.inl c))) (let k:=w64 (d+1)
 L (.inl (m,e,i,g,f,l,k,b.2))))) W) (L (.inr (.inr ())))
def j1l[LP]:=lp8 j0U
abbrev j3L:=eq8 j0U j1l
def j3N[LP](e:Tn68)(d:Tn57)(c:Tn51)(a:Tn28)(b:Tn68):N Int:=
 let f:(U (X×Æ)):=[]
 let g:=O e.length
 (j1l d c a b e g 0 f).bind λi=>sumC i (λj=>L j) (λk=>L 0)
def j30[LP](g:Tn51)(i f:J)(j:Tn57)(e:Tn51)(d:Tn28)(c:Tn68)(r:U (X×Æ)):N ((Tn51×J×J×Tn57×Tn51×Tn28×Tn68×(U (X×Æ))) ⊕ (J ⊕ (Tn57×Tn51×Tn28×Tn68))):=cond (K (f<i)) (cond (inR f g.length) (let a:=M g f.toNat (Y,0,[],0,0,Z)
 (j5j a.1 r).bind λb=>let q:Bool:=È a.1==È (À #[110,111,98,111,100,121])
 cond q (cond (2==0) ((j1q (j,e,d,c) a).bind λk=>cond (k != 0) (L (.inr (.inl k))) (let p:=w64 (f+1)
 L (.inl (g,i,p,j,e,d,c,b.2)))) (cond (2 != 0) (L (.inr (.inl 2))) (let o:=w64 (f+1)
 L (.inl (g,i,o,j,e,d,c,b.2))))) (cond (b.1==0) ((j1q (j,e,d,c) a).bind λl=>cond (l != 0) (L (.inr (.inl l))) (let n:=w64 (f+1)
 L (.inl (g,i,n,j,e,d,c,b.2)))) (cond (b.1 != 0) (L (.inr (.inl b.1))) (let m:=w64 (f+1)
 L (.inl (g,i,m,j,e,d,c,b.2)))))) W) (L (.inr (.inr (j,e,d,c))))
def j5Q[LP]:=lp8 j30
abbrev j9y:=eq8 j30 j5Q
def j48[LP](a:Tn74):N Int:=
 let e:=O a.1.length
 let i:=O a.2.1.length
 let l:=O a.2.2.1.length
 let m:Bool:=cond (cond (K (e>16)) Á (K (i>32))) Á (K (l>8))
 let k:=O a.2.2.2.length
 cond (cond m Á (K (k>12))) (L 5) ((j1X a.1).bind λc=>cond (c != 0) (L c) (let f:(U (X×Æ)):=[]
 let g:=O a.2.1.length
 (j5Q a.2.1 g 0 a.1 a.2.1 a.2.2.1 a.2.2.2 f).bind λn=>sumC n (λo=>L o) (λb=>(j2m b.2.2.1 b.1 b.2.1 b.2.2.1 b.2.2.2).bind λd=>cond (d != 0) (L d) ((j3N b.2.2.2 b.1 b.2.1 b.2.2.1 b.2.2.2).bind λj=>L j))))
def jmg[LP](a:Tn55):N (Tn14×J):=(j1A a).bind λb=>L ((a.2.1,b.1),b.2)
def j5y[LP](g:Tn57)(j c:J)(i:Tn22):N ((Tn57×J×J×Tn22) ⊕ (Tn22)):=cond (K (c<j)) (cond (inR c g.length) (let a:=M g c.toNat (Y,0,[])
 (jmg a).bind λb=>let d:Tn22:=[b.1]
 cond (K (S i+S d<=j03)) (let e:Tn22:=i++d
 let f:=w64 (c+1)
 L (.inl (g,j,f,e))) W) W) (L (.inr i))
def jbc[LP]:=lp4 j5y
abbrev jeG:=eq4 j5y jbc
def jid[LP](a:Tn57):N Tn22:=
 let b:=O a.length
 (jbc a b 0 ([]:Tn22)).bind λc=>L c
def jj0[LP](a:Tn74):N Tn77:=(jid a.1).bind λb=>L (a,b)
def jfk[LP](a:Tn74):N (Tn77×Æ):=(j48 a).bind λc=>cond (c != 0) (L (((([]:Tn57),([]:Tn51),([]:Tn28),([]:Tn68)),([]:Tn22)),Z)) ((jj0 a).bind λb=>L (b,Á))
def jaW(a b:J):N Bool:=
 let e:Bool:=cond (cond (K (a>=0)) (K (a<=8589934592)) Z) (K (b>=a)) Z
 let c:=w64 (b-a)
 let d:Bool:=cond (cond e (K (b<=8589934592)) Z) (K (c<=34560000)) Z
 L d
def j5z[LP](c:Tn74)(b d e:J):N (Tn77×J):=(jfk c).bind λa=>cond (!a.2) (L (a.1,8)) (let f:=O c.2.1.length
 cond (cond (K (b<0)) Á (K (b>=f))) (L (a.1,3)) ((jaW d e).bind λg=>cond (!g) (L (a.1,1)) (L (a.1,0))))
def j90(a:U J):N (U J):=cond (K (S ([]:U (J))+S a<=j03)) (L (([]:U (J))++a)) W
def jbu(a c b:J):N Bool:=L (cond (K (a<=c)) Á (K (a>=b)))
def j18(g a i b:J)(c:U J):N ((J×J×J×J×(U J)) ⊕ (Tn1 ⊕ (U J))):=cond (K (b<i)) (cond (inR b c.length) (let e:=M c b.toNat 0
 (jbu e g a).bind λf=>cond f (L (.inr (.inl (b,c)))) (let d:=w64 (b+1)
 L (.inl (g,a,i,d,c)))) W) (L (.inr (.inr c)))
def j1I[LP]:=lp5 j18
theorem j60(b a d c e):j1I b a d c e=lpK (j18 b a d c e) (λh=>j1I h.1 h.2.1 h.2.2.1 h.2.2.2.1 h.2.2.2.2):=j05 _ _
def j5A[LP](b:U J)(c a:J):N Tn1:=
 let e:=O b.length
 (j1I c a e 0 b).bind λd=>sumC d (λf=>L f) (λg=>L ((-1),g))
def j1o(l a e d:J)(b:U J):N ((J×J×J×J×(U J)) ⊕ (Tn1)):=
 let f:=O b.length
 cond (K (d<f)) (cond (inR d b.length) (let c:=M b d.toNat 0
 (jbu c l a).bind λg=>cond (!g) (cond (inR e b.length) (let m:U Int:=Â b e.toNat c
 let i:=w64 (e+1)
 let k:=w64 (d+1)
 L (.inl (l,a,i,k,m))) W) (let j:=w64 (d+1)
 L (.inl (l,a,e,j,b)))) W) (L (.inr (e,b)))
def j3c[LP]:=lp5 j1o
theorem j6G(b a e c d):j3c b a e c d=lpK (j1o b a e c d) (λh=>j3c h.1 h.2.1 h.2.2.1 h.2.2.2.1 h.2.2.2.2):=j05 _ _
def j49[LP](e:U J)(d a:J):N Tn1:=(j5A e d a).bind λc=>cond (c.1==(-1)) (L ((O c.2.length),c.2)) (let g:=w64 (c.1+1)
 (j3c d a c.1 g c.2).bind λb=>cond (K (0<=b.1)&&K (b.1<=(O b.2.length))) (let f:U Int:=Ë b.1.toNat b.2++Å (S b.2-b.1.toNat) 0
 cond (K (0<=b.1)&&K (b.1<=(O f.length))) (L ((O b.1.toNat),f)) W) W)
def j74(a:U J):N (U J):=
 js4 a
def j1J(e b c:J)(a:U J):N ((J×J×J×(U J)) ⊕ (Tn1)):=
 let f:=O (S a-b.toNat)
 cond (K (c<f)) (cond (inR c (S a-b.toNat)) (let j:=M a (b.toNat+c.toNat) 0
 let d:=w64 (c-1)
 cond (inR d (S a-b.toNat)) (let g:=M a (b.toNat+d.toNat) 0
 cond (j != g) (cond (inR c (S a-b.toNat)) (let l:=M a (b.toNat+c.toNat) 0
 cond (inR e a.length) (let n:U Int:=Â a e.toNat l
 let i:=w64 (e+1)
 let k:=w64 (c+1)
 L (.inl (i,(O b.toNat),k,n))) W) W) (let m:=w64 (c+1)
 L (.inl (e,(O b.toNat),m,a)))) W) W) (L (.inr (e,a)))
def j4a[LP]:=lp4 j1J
abbrev j7W:=eq4 j1J j4a
def j1K[LP](b:J)(c:U J):N (Tn1 ⊕ (Tn1 ⊕ (U J))):=
 let j:=O c.length
 cond (K (b<j)) (cond (inR b c.length) (let f:=M c b.toNat 0
 let d:=w64 (b-1)
 cond (inR d c.length) (let g:=M c d.toNat 0
 cond (f==g) (cond (K (0<=b)&&K (b<=(O c.length))) ((j4a b (O b.toNat) 1 c).bind λa=>cond (K (0<=a.1)&&K (a.1<=(O a.2.length))) (let e:U Int:=Ë a.1.toNat a.2++Å (S a.2-a.1.toNat) 0
 cond (K (0<=a.1)&&K (a.1<=(O e.length))) (L (.inr (.inl ((O a.1.toNat),e)))) W) W) W) (let i:=w64 (b+1)
 L (.inl (i,c)))) W) W) (L (.inr (.inr c)))
def j1r[LP]:=lp2 j1K
theorem j7X(b a):j1r b a=lpK (j1K b a) (λh=>j1r h.1 h.2):=j05 _ _
def j5M[LP](a:U J):N Tn1:=
 let c:=O a.length
 cond (K (c<2)) (L ((O a.length),a)) ((j1r 1 a).bind λb=>sumC b (λd=>L ((O d.1.toNat),d.2)) (λe=>L ((O e.length),e)))
def jgt[LP](f:U J)(b a:J):N (U J):=(j90 f).bind λk=>(j49 k b a).bind λc=>let g:U Int:=Ë c.1.toNat c.2
 (j74 g).bind λj=>(j5M j).bind λd=>let e:U Int:=Ë d.1.toNat d.2
 cond (K (S e+S [a]<=j03)) (let i:U Int:=e++[a]
 L i) W
def j2S(a:Tn63):N Tn63:=L a
def jaX(a:Tn62):N Int:=cond (a.2.2.2.1==2) (let b:=w64 (7*a.2.2.2.2.1)
 L b) (L a.2.2.2.2.1)
def j9z(b e:J)(a:Tn2)(c:J):N Bool:=cond (inR b a.length) (let d:=M a b.toNat (0,0)
 L (K (d.1>c))) W
def j41(k:J)(a:Tn2)(b f l:J):N ((J×Tn2×J×J×J) ⊕ (J)):=cond (K (f<l)) (let d:=w64 (f+l)
 let g:Int:=É .u64 d
 let i:Int:=Ì g 2
 let c:=w64 i
 (j9z c k a b).bind λj=>cond (!j) (let e:=w64 (c+1)
 L (.inl (k,a,b,e,l))) (L (.inl (k,a,b,f,c)))) (L (.inr f))
def jbd[LP]:=lp5 j41
theorem jeH(c a b e d):jbd c a b e d=lpK (j41 c a b e d) (λh=>jbd h.1 h.2.1 h.2.2.1 h.2.2.2.1 h.2.2.2.2):=j05 _ _
def jie[LP](d c:J)(a:Tn2)(b:J):N Int:=(jbd c a b 0 d).bind λe=>L e
def j7p[LP](a:Tn14)(b:J):N Int:=
 let c:=O a.2.length
 (jie c a.1 a.2 b).bind λd=>L d
def j5o(a:Tn14)(b:J):N Int:=cond (b==0) (L a.1) (let c:=w64 (b-1)
 cond (inR c a.2.length) (let d:=M a.2 c.toNat (0,0)
 L d.2) W)
def j0S[LP](m c i:J)(a:Tn2)(j:Tn15):N ((J×J×J×Tn2×Tn15) ⊕ (Tn15)):=cond (K (m<c)) ((j7p (i,a) m).bind λb=>let l:=O a.length
 cond (K (b<l)) (cond (inR b a.length) (let g:=M a b.toNat (0,0)
 let f:Int:=if g.1<c then g.1 else c
 (j5o (i,a) b).bind λn=>let d:Tn15:=[(m,f,n)]
 cond (K (S j+S d<=j03)) (let k:Tn15:=j++d
 L (.inl (f,c,i,a,k))) W) W) ((j5o (i,a) b).bind λo=>let e:Tn15:=[(m,c,o)]
 cond (K (S j+S e<=j03)) (let p:Tn15:=j++e
 L (.inl (c,c,i,a,p))) W)) (L (.inr j))
def j3E[LP]:=lp5 j0S
theorem j2f(c b d a e):j3E c b d a e=lpK (j0S c b d a e) (λh=>j3E h.1 h.2.1 h.2.2.1 h.2.2.2.1 h.2.2.2.2):=j05 _ _
def j31[LP](b:Tn14)(a c:J):N Tn15:=(j3E a c b.1 b.2 ([]:Tn15)).bind λd=>L d
def j5k(a:J×J):N Int:=
 let b:Int:=if (-1048576)>a.1 then (-1048576) else a.1
 let d:Int:=if 1048576<b then 1048576 else b
 let e:=w64 (d*86400)
 let c:=w64 (e+a.2)
 L c
def j1G(j c k f:J)(e:Tn15):N ((J×J×J×J×Tn15) ⊕ ((J×Æ) ⊕ Ê)):=cond (K (c<j)) (cond (inR c e.length) (let a:=M e c.toNat (0,0,0)
 (j5k (k,f)).bind λi=>let b:=w64 (i-a.2.2)
 let d:Int:=if b>a.1 then b else a.1
 cond (K (d<a.2.1)) (L (.inr (.inl (d,Á)))) (let g:=w64 (c+1)
 L (.inl (j,g,k,f,e)))) W) (L (.inr (.inr ())))
def j75[LP]:=lp5 j1G
abbrev j5N:=eq5 j1G j75
def j3I[LP](b:Tn14)(a:J×J):N (J×Æ):=(j31 b 0 8589934593).bind λc=>let d:=O c.length
 (j75 d 0 a.1 a.2 c).bind λe=>sumC e (λf=>L f) (λg=>L (0,Z))
def j16[LP](b:Tn14)(a:Tn62)(c:J):N (J×Æ):=cond (K (c>8589934592)) (L (0,Z)) (cond (a.2.2.2.1 != 0) ((jaX a).bind λg=>let i:=w64 (c*g)
 let l:=w64 (a.2.2.1.1+i)
 (j3I b (l,a.2.2.1.2)).bind λf=>L f) ((j3I b a.2.2.1).bind λe=>let k:=w64 (3600*a.2.2.2.2.1)
 let j:=w64 (k*c)
 let d:=w64 (e.1+j)
 L (d,(cond e.2 (K (d<=8589934592)) Z))))
def j4e(a:Tn2):N Tn2:=cond (K (S ([]:U (J×J))+S a<=j03)) (L (([]:U (J×J))++a)) W
def j9Z(a:J×J):N Bool:=L (K (a.2<=a.1))
def j0D(f b:J)(c:Tn2):N ((J×J×Tn2) ⊕ (Tn14 ⊕ Tn2)):=cond (K (b<f)) (cond (inR b c.length) (let a:=M c b.toNat (0,0)
 (j9Z a).bind λe=>cond e (L (.inr (.inl (b,c)))) (let d:=w64 (b+1)
 L (.inl (f,d,c)))) W) (L (.inr (.inr c)))
def j10[LP]:=lp3 j0D
theorem j47(a c b):j10 a c b=lpK (j0D a c b) (λh=>j10 h.1 h.2.1 h.2.2):=j05 _ _
def j3d[LP](a:Tn2):N Tn14:=
 let c:=O a.length
 (j10 c 0 a).bind λb=>sumC b (λd=>L d) (λe=>L ((-1),e))
def j0y(d c:J)(b:Tn2):N ((J×J×Tn2) ⊕ (Tn14)):=
 let e:=O b.length
 cond (K (c<e)) (cond (inR c b.length) (let a:=M b c.toNat (0,0)
 (j9Z a).bind λf=>cond (!f) (cond (inR d b.length) (let k:Tn2:=Â b d.toNat a
 let g:=w64 (d+1)
 let j:=w64 (c+1)
 L (.inl (g,j,k))) W) (let i:=w64 (c+1)
 L (.inl (d,i,b)))) W) (L (.inr (d,b)))
def j1s[LP]:=lp3 j0y
theorem j3Q(b a c):j1s b a c=lpK (j0y b a c) (λh=>j1s h.1 h.2.1 h.2.2):=j05 _ _
def j1O[LP](c:Tn2):N Tn14:=(j3d c).bind λb=>cond (b.1==(-1)) (L ((O b.2.length),b.2)) (let e:=w64 (b.1+1)
 (j1s b.1 e b.2).bind λa=>cond (K (0<=a.1)&&K (a.1<=(O a.2.length))) (let d:Tn2:=Ë a.1.toNat a.2++Å (S a.2-a.1.toNat) (0,0)
 cond (K (0<=a.1)&&K (a.1<=(O d.length))) (L ((O a.1.toNat),d)) W) W)
def j8F(b a:J×J):N Int:=
 let c:=w64 (b.1-a.1)
 L c
def j1e(a:Tn2):N Tn2:=
 joQ (.pair (.int .i64) (.int .i64)) (λb c=>(j8F b c).getD 0) a
def j4E(g d:J)(b f:Tn2):N ((J×J×Tn2×Tn2) ⊕ (Tn2)):=cond (K (d<g)) (cond (inR d f.length) (let a:=M f d.toNat (0,0)
 let c:=O b.length
 cond (K (c>0)) (let j:=w64 (c-1)
 cond (inR j b.length) (let p:=(M b j.toNat (0,0)).2
 cond (K (a.1<=p)) (let e:=w64 (c-1)
 let l:=w64 (c-1)
 cond (inR l b.length) (let i:=(M b l.toNat (0,0)).2
 let t:Int:=if a.2>i then a.2 else i
 cond (inR e b.length) (let o:Tn2:=Â b e.toNat ((M b e.toNat (0,0)).1,t)
 let s:=w64 (d+1)
 L (.inl (g,s,o,f))) W) W) (let m:Tn2:=[a]
 cond (K (S b+S m<=j03)) (let u:Tn2:=b++m
 let n:=w64 (d+1)
 L (.inl (g,n,u,f))) W)) W) (let k:Tn2:=[a]
 cond (K (S b+S k<=j03)) (let r:Tn2:=b++k
 let q:=w64 (d+1)
 L (.inl (g,q,r,f))) W)) W) (L (.inr b))
def jci[LP]:=lp4 j4E
abbrev jbR:=eq4 j4E jci
def j8G[LP](c:Tn2):N Tn2:=(j4e c).bind λg=>(j1O g).bind λa=>let d:Tn2:=Ë a.1.toNat a.2
 (j1e d).bind λb=>let e:=O b.length
 (jci e 0 ([]:Tn2) b).bind λf=>L f
def j50(u:Tn2)(c p q:J)(k:Tn2)(r j b a i:J)(t:Tn2)(s:Tn15):N ((Tn2×J×J×J×Tn2×J×J×J×J×J×Tn2×Tn15) ⊕ (Tn2×J×J×J×J×J×J×Tn2×Tn15)):=cond (K (j<r)) (cond (inR j k.length) (let f:=M k j.toNat (0,0)
 let d:=w64 (c+f.1)
 let m:Int:=if d>b then d else b
 let g:=w64 (c+f.2)
 let n:Int:=if g<a then g else a
 let e:Tn2:=[(m,n)]
 cond (K (S t+S e<=j03)) (let o:Tn2:=t++e
 let l:=w64 (j+1)
 L (.inl (u,c,p,q,k,r,l,b,a,i,o,s))) W) W) (L (.inr (u,c,p,q,b,a,i,t,s)))
def ja0[LP]:=c8 c4 (LP.lp (u8 unc4 j50))
theorem jdJ(l e c i k j f d b a m g):ja0 l e c i k j f d b a m g=lpK (j50 l e c i k j f d b a m g) (λh=>ja0 h.1 h.2.1 h.2.2.1 h.2.2.2.1 h.2.2.2.2.1 h.2.2.2.2.2.1 h.2.2.2.2.2.2.1 h.2.2.2.2.2.2.2.1 h.2.2.2.2.2.2.2.2.1 h.2.2.2.2.2.2.2.2.2.1 h.2.2.2.2.2.2.2.2.2.2.1 h.2.2.2.2.2.2.2.2.2.2.2):=j05 _ _
def j51[LP](e:Tn2)(i g j l b f:J)(m:Tn2)(k:Tn15):N ((Tn2×J×J×J×J×J×J×Tn2×Tn15) ⊕ (Tn2×J×J×Tn2×Tn15)):=cond (K (i<b)) (let d:=O e.length
 (ja0 e i g j e d 0 l b f m k).bind λa=>let c:=w64 (a.2.1+604800)
 L (.inl (a.1,c,a.2.2.1,a.2.2.2.1,a.2.2.2.2.1,a.2.2.2.2.2.1,a.2.2.2.2.2.2.1,a.2.2.2.2.2.2.2.1,a.2.2.2.2.2.2.2.2))) (L (.inr (e,g,j,m,k)))
def jcT[LP]:=lp9 j51
abbrev jdK:=eq9 j51 jcT
def j52[LP](o:Tn2)(m c:J)(n:Tn2)(e:Tn15):N ((Tn2×J×J×Tn2×Tn15) ⊕ (Tn2)):=cond (K (c<m)) (cond (inR c e.length) (let a:=M e c.toNat (0,0,0)
 let i:=w64 (a.1+a.2.2)
 let d:=w64 (i-(-259200))
 let l:=Ä d 604800
 let j:=w64 (d-l)
 let k:=w64 (j+(-259200))
 let g:=w64 (k-a.2.2)
 (jcT o g m c a.1 a.2.1 a.2.2 n e).bind λb=>let f:=w64 (b.2.2.1+1)
 L (.inl (b.1,b.2.1,f,b.2.2.2.1,b.2.2.2.2))) W) (L (.inr n))
def jcU[LP]:=lp5 j52
abbrev jdL:=eq5 j52 jcU
def j4f[LP](b:Tn14)(e:Tn2)(a c:J):N Tn2:=(j31 b a c).bind λd=>let f:=O d.length
 (jcU e f 0 ([]:Tn2) d).bind λi=>(j8G i).bind λg=>L g
def j3R(r t:J)(k:U J)(u c:J)(w:X)(j:J)(i:U J)(g b e:J)(v:Tn2)(s:Tn15):N ((J×J×(U J)×J×J×X×J×(U J)×J×J×J×Tn2×Tn15) ⊕ (J×J×X×J×(U J)×Tn2×Tn15)):=cond (K (c<u)) (cond (inR c k.length) (let o:=M k c.toNat 0
 let l:=w64 (o*86400)
 let a:=w64 (l-e)
 let q:Int:=if a>g then a else g
 let f:=w64 (a+86400)
 let n:Int:=if f<b then f else b
 let d:Tn2:=[(q,n)]
 cond (K (S v+S d<=j03)) (let m:Tn2:=v++d
 let p:=w64 (c+1)
 L (.inl (r,t,k,u,p,w,j,i,g,b,e,m,s))) W) W) (L (.inr (r,t,w,j,i,v,s)))
def j8H[LP]:=c8 c5 (LP.lp (u8 unc5 j3R))
theorem jc8(j g k l i m d c f a b n e):j8H j g k l i m d c f a b n e=lpK (j3R j g k l i m d c f a b n e) (λh=>j8H h.1 h.2.1 h.2.2.1 h.2.2.2.1 h.2.2.2.2.1 h.2.2.2.2.2.1 h.2.2.2.2.2.2.1 h.2.2.2.2.2.2.2.1 h.2.2.2.2.2.2.2.2.1 h.2.2.2.2.2.2.2.2.2.1 h.2.2.2.2.2.2.2.2.2.2.1 h.2.2.2.2.2.2.2.2.2.2.2.1 h.2.2.2.2.2.2.2.2.2.2.2.2):=j05 _ _
def j3S[LP](i d:J)(l:X)(j:J)(c:U J)(k:Tn2)(e:Tn15):N ((J×J×X×J×(U J)×Tn2×Tn15) ⊕ (Tn2)):=cond (K (d<i)) (cond (inR d e.length) (let b:=M e d.toNat (0,0,0)
 let f:=O c.length
 (j8H i d c f 0 l j c b.1 b.2.1 b.2.2 k e).bind λa=>let g:=w64 (a.2.1+1)
 L (.inl (a.1,g,a.2.2.1,a.2.2.2.1,a.2.2.2.2.1,a.2.2.2.2.2.1,a.2.2.2.2.2.2))) W) (L (.inr k))
def j8I[LP]:=lp7 j3S
theorem jc9(e d f b a g c):j8I e d f b a g c=lpK (j3S e d f b a g c) (λh=>j8I h.1 h.2.1 h.2.2.1 h.2.2.2.1 h.2.2.2.2.1 h.2.2.2.2.2.1 h.2.2.2.2.2.2):=j05 _ _
def j9a[LP](c:Tn77)(a:Tn20)(b d:J):N Tn2:=cond (inR a.2.1 c.2.length) (let f:=M c.2 a.2.1.toNat (0,[])
 (j31 f b d).bind λe=>let g:=O e.length
 (j8I g 0 a.1 a.2.1 a.2.2 ([]:Tn2) e).bind λj=>(j8G j).bind λi=>L i) W
def j53(b:Tn2)(c:J)(f:Tn2)(e d k a:J)(l:Tn2):N ((Tn2×J×Tn2×J×J×J×J×Tn2) ⊕ (Tn2×J×Tn2×J×J×J×J×Tn2)):=
 let i:=O b.length
 cond (K (c<i)) (cond (inR c b.length) (let j:=M b c.toNat (0,0)
 cond (K (j.2<=k)) (let g:=w64 (c+1)
 L (.inl (b,g,f,e,d,k,a,l))) (L (.inr (b,c,f,e,d,k,a,l)))) W) (L (.inr (b,c,f,e,d,k,a,l)))
def ja1[LP]:=lp8 j53
theorem jdM(f g d c b i a e):ja1 f g d c b i a e=lpK (j53 f g d c b i a e) (λh=>ja1 h.1 h.2.1 h.2.2.1 h.2.2.2.1 h.2.2.2.2.1 h.2.2.2.2.2.1 h.2.2.2.2.2.2.1 h.2.2.2.2.2.2.2):=j05 _ _
def j54(b:Tn2)(u d a:J)(i:Tn2)(g f w c:J)(l:Tn2):N ((Tn2×J×J×J×Tn2×J×J×J×J×Tn2) ⊕ (Tn2×J×J×Tn2×J×J×J×J×Tn2)):=
 let t:=O b.length
 cond (K (a<t)) (cond (inR a b.length) (let v:=M b a.toNat (0,0)
 cond (K (v.1<c)) (cond (inR a b.length) (let r:=M b a.toNat (0,0)
 cond (K (d<r.1)) (cond (inR a b.length) (let m:=M b a.toNat (0,0)
 let j:Tn2:=[(d,m.1)]
 cond (K (S l+S j<=j03)) (let n:Tn2:=l++j
 cond (inR a b.length) (let e:=M b a.toNat (0,0)
 let s:Int:=if e.2>d then e.2 else d
 let q:=w64 (a+1)
 L (.inl (b,u,s,q,i,g,f,w,c,n))) W) W) W) (cond (inR a b.length) (let k:=M b a.toNat (0,0)
 let o:Int:=if k.2>d then k.2 else d
 let p:=w64 (a+1)
 L (.inl (b,u,o,p,i,g,f,w,c,l))) W)) W) (L (.inr (b,u,d,i,g,f,w,c,l)))) W) (L (.inr (b,u,d,i,g,f,w,c,l)))
def j8c[LP]:=c8 c2 (LP.lp (u8 unc2 j54))
theorem jdN(g i j e d c b k a f):j8c g i j e d c b k a f=lpK (j54 g i j e d c b k a f) (λh=>j8c h.1 h.2.1 h.2.2.1 h.2.2.2.1 h.2.2.2.2.1 h.2.2.2.2.2.1 h.2.2.2.2.2.2.1 h.2.2.2.2.2.2.2.1 h.2.2.2.2.2.2.2.2.1 h.2.2.2.2.2.2.2.2.2):=j05 _ _
def j55[LP](m:Tn2)(n:J)(f:Tn2)(k c:J)(l:Tn2):N ((Tn2×J×Tn2×J×J×Tn2) ⊕ (Tn2)):=cond (K (c<k)) (cond (inR c f.length) (let e:=M f c.toNat (0,0)
 (ja1 m n f k c e.1 e.2 l).bind λb=>(j8c b.1 b.2.1 b.2.2.2.2.2.1 b.2.1 b.2.2.1 b.2.2.2.1 b.2.2.2.2.1 b.2.2.2.2.2.1 b.2.2.2.2.2.2.1 b.2.2.2.2.2.2.2).bind λa=>cond (K (a.2.2.1<a.2.2.2.2.2.2.2.1)) (let d:Tn2:=[(a.2.2.1,a.2.2.2.2.2.2.2.1)]
 cond (K (S a.2.2.2.2.2.2.2.2+S d<=j03)) (let i:Tn2:=a.2.2.2.2.2.2.2.2++d
 let j:=w64 (a.2.2.2.2.2.1+1)
 L (.inl (a.1,a.2.1,a.2.2.2.1,a.2.2.2.2.1,j,i))) W) (let g:=w64 (a.2.2.2.2.2.1+1)
 L (.inl (a.1,a.2.1,a.2.2.2.1,a.2.2.2.2.1,g,a.2.2.2.2.2.2.2.2)))) W) (L (.inr l))
def j8d[LP]:=lp6 j55
theorem jdO(e f c b a d):j8d e f c b a d=lpK (j55 e f c b a d) (λh=>j8d h.1 h.2.1 h.2.2.1 h.2.2.2.1 h.2.2.2.2.1 h.2.2.2.2.2):=j05 _ _
def j5l[LP](a b:Tn2):N Tn2:=
 let c:=O a.length
 (j8d b 0 a c 0 ([]:Tn2)).bind λd=>L d
def j7S(d:J)(i:Tn2)(f:J)(c j:Tn2):N ((Tn2×Tn2×J×J×Tn2) ⊕ (Tn2)):=cond (inR d i.length) (let a:=M i d.toNat (0,0)
 cond (inR f c.length) (let g:=M c f.toNat (0,0)
 cond (K (a.2<g.2)) (let b:=w64 (d+1)
 L (.inl (i,c,b,f,j))) (let e:=w64 (f+1)
 L (.inl (i,c,d,e,j)))) W) W
def j76(d a:Tn2)(b c:J)(n:Tn2):N ((Tn2×Tn2×J×J×Tn2) ⊕ (Tn2)):=
 let p:=O d.length
 let m:=O a.length
 cond (cond (K (b<p)) (K (c<m)) Z) (cond (inR b d.length) (let k:=M d b.toNat (0,0)
 cond (inR c a.length) (let f:=M a c.toNat (0,0)
 let j:Int:=if f.1>k.1 then f.1 else k.1
 cond (inR b d.length) (let e:=M d b.toNat (0,0)
 cond (inR c a.length) (let l:=M a c.toNat (0,0)
 let g:Int:=if l.2<e.2 then l.2 else e.2
 cond (K (j<g)) (let i:Tn2:=[(j,g)]
 cond (K (S n+S i<=j03)) (let o:Tn2:=n++i
 j7S b d c a o) W) (j7S b d c a n)) W) W) W) W) (L (.inr n))
def j9b[LP]:=lp5 j76
abbrev jke:=eq5 j76 j9b
def jcV[LP](b a:Tn2):N Tn2:=(j9b b a 0 0 ([]:Tn2)).bind λc=>L c
def ja2[LP](b:Tn62)(a:Tn77)(k e:J)(l:Tn2):N Tn2:=cond (b.2.2.2.2.2.2.2.2==1) (cond (inR b.2.2.2.2.2.2.2.1 a.1.2.2.1.length) (let c:=M a.1.2.2.1 b.2.2.2.2.2.2.2.1.toNat (Y,0,[])
 (j9a a c k e).bind λj=>(j5l l j).bind λf=>L f) W) (cond (b.2.2.2.2.2.2.2.2==2) (cond (inR b.2.2.2.2.2.2.2.1 a.1.2.2.1.length) (let d:=M a.1.2.2.1 b.2.2.2.2.2.2.2.1.toNat (Y,0,[])
 (j9a a d k e).bind λi=>(jcV l i).bind λg=>L g) W) (L l))
def j8e[LP](d:Tn77)(a:Tn62)(c b:J):N Tn2:=cond (inR a.2.1 d.2.length) (let g:=M d.2 a.2.1.toNat (0,[])
 (j16 g a 0).bind λf=>cond (cond (cond (!f.2) Á (K (f.1>=b))) Á (K (c>=b))) (L ([]:Tn2)) (let e:Int:=if f.1>c then f.1 else c
 let k:Tn2:=[(e,b)]
 let j:=O a.2.2.2.2.2.2.1.length
 cond (K (j>0)) (cond (inR a.2.1 d.2.length) (let i:=M d.2 a.2.1.toNat (0,[])
 (j4f i a.2.2.2.2.2.2.1 e b).bind λl=>ja2 a d e b l) W) (ja2 a d e b k))) W
def j8J[LP](a:Tn14)(b:J):N Int:=(j7p a b).bind λd=>(j5o a d).bind λc=>L c
def jhh(a:J):N (J×J):=
 let e:=w64 (Ç a 86400)
 let i:=Ä a 86400
 cond (K (i<0)) (let d:=w64 (e-1)
 let f:=w64 (d*86400)
 let g:=w64 (a-f)
 L (d,g)) (let b:=w64 (e*86400)
 let c:=w64 (a-b)
 L (e,c))
def j1V[LP](b:Tn14)(a:J):N (J×J):=(j8J b a).bind λe=>let d:=w64 (a+e)
 (jhh d).bind λc=>L c
def j4g[LP](n m p:J)(k:Tn2)(q:X)(a j i c g:J)(e:U J)(b:Tn2)(f d:J):N ((J×J×J×Tn2×X×J×J×J×J×J×(U J)×Tn2×J×J) ⊕ (J×J×J×Tn2×X×J×J×J×J×J×(U J)×Tn2×J×J)):=cond (K (m>0)) ((j16 (p,k) (q,a,(j,i),c,g,e,b,f,d) m).bind λl=>cond (cond l.2 (K (l.1<=n)) Z) (L (.inr (n,m,p,k,q,a,j,i,c,g,e,b,f,d))) (let o:=w64 (m-1)
 L (.inl (n,o,p,k,q,a,j,i,c,g,e,b,f,d)))) (L (.inr (n,m,p,k,q,a,j,i,c,g,e,b,f,d)))
def j9q[LP]:=c8 c6 (LP.lp (u8 unc6 j4g))
theorem jcW(l o m k n a j i c g e b f d):j9q l o m k n a j i c g e b f d=lpK (j4g l o m k n a j i c g e b f d) (λh=>j9q h.1 h.2.1 h.2.2.1 h.2.2.2.1 h.2.2.2.2.1 h.2.2.2.2.2.1 h.2.2.2.2.2.2.1 h.2.2.2.2.2.2.2.1 h.2.2.2.2.2.2.2.2.1 h.2.2.2.2.2.2.2.2.2.1 h.2.2.2.2.2.2.2.2.2.2.1 h.2.2.2.2.2.2.2.2.2.2.2.1 h.2.2.2.2.2.2.2.2.2.2.2.2.1 h.2.2.2.2.2.2.2.2.2.2.2.2.2):=j05 _ _
def j61[LP](p o q:J)(l:Tn2)(r:X)(b k j d i:J)(f:U J)(c:Tn2)(g e:J):N ((J×J×J×Tn2×X×J×J×J×J×J×(U J)×Tn2×J×J) ⊕ (J)):=
 let n:=w64 (o+1)
 (j16 (q,l) (r,b,(k,j),d,i,f,c,g,e) n).bind λa=>cond (cond (!a.2) Á (K (a.1>p))) (L (.inr o)) (let m:=w64 (o+1)
 L (.inl (p,m,q,l,r,b,k,j,d,i,f,c,g,e)))
def jbS[LP]:=c8 c6 (LP.lp (u8 unc6 j61))
abbrev jif:=eq14 j61 jbS
def j62[LP](c:Tn14)(a:Tn62)(d:J):N Int:=(j16 c a 0).bind λe=>cond (cond (!e.2) Á (K (e.1>d))) (L (-1)) (cond (a.2.2.2.1==0) (let l:=w64 (d-e.1)
 let i:=w64 (3600*a.2.2.2.2.1)
 cond (!(i==0)) (let m:=w64 (Ç l i)
 L m) W) ((j1V c d).bind λn=>let k:=w64 (n.1-a.2.2.1.1)
 (jaX a).bind λf=>cond (!(f==0)) (let g:=w64 (Ç k f)
 let j:Int:=if g>0 then g else 0
 (j9q d j c.1 c.2 a.1 a.2.1 a.2.2.1.1 a.2.2.1.2 a.2.2.2.1 a.2.2.2.2.1 a.2.2.2.2.2.1 a.2.2.2.2.2.2.1 a.2.2.2.2.2.2.2.1 a.2.2.2.2.2.2.2.2).bind λb=>(jbS b.1 b.2.1 b.2.2.1 b.2.2.2.1 b.2.2.2.2.1 b.2.2.2.2.2.1 b.2.2.2.2.2.2.1 b.2.2.2.2.2.2.2.1 b.2.2.2.2.2.2.2.2.1 b.2.2.2.2.2.2.2.2.2.1 b.2.2.2.2.2.2.2.2.2.2.1 b.2.2.2.2.2.2.2.2.2.2.2.1 b.2.2.2.2.2.2.2.2.2.2.2.2.1 b.2.2.2.2.2.2.2.2.2.2.2.2.2).bind λo=>L o) W))
def j4h(a:Tn3)(e:Tn15)(i:J)(g:Tn15)(f:J):N ((Tn15×J×J×Tn15) ⊕ (Tn15)):=
 let b:Tn15:=[a]
 cond (K (S e+S b<=j03)) (let d:Tn15:=e++b
 let c:=w64 (i+1)
 L (.inl (g,f,c,d))) W
def j63(f:Tn15)(j e:J)(b:Tn15):N ((Tn15×J×J×Tn15) ⊕ (Tn15)):=cond (K (e<j)) (cond (inR e f.length) (let a:=M f e.toNat (0,0,0)
 cond (K (a.2.1<=a.1)) (let k:=w64 (e+1)
 L (.inl (f,j,k,b))) (let c:=O b.length
 cond (K (c>0)) (let g:=w64 (c-1)
 cond (inR g b.length) (let m:=(M b g.toNat (0,0,0)).2.1
 cond (m==a.1) (let i:=w64 (c-1)
 cond (inR i b.length) (let n:=(M b i.toNat (0,0,0)).2.2
 cond (n==a.2.2) (let d:=w64 (c-1)
 cond (inR d b.length) (let o:Tn15:=Â b d.toNat ((M b d.toNat (0,0,0)).1,a.2.1,(M b d.toNat (0,0,0)).2.2)
 let l:=w64 (e+1)
 L (.inl (f,j,l,o))) W) (j4h a b e f j)) W) (j4h a b e f j)) W) (j4h a b e f j))) W) (L (.inr b))
def j8K[LP]:=lp4 j63
theorem jfR(b a d c):j8K b a d c=lpK (j63 b a d c) (λh=>j8K h.1 h.2.1 h.2.2.1 h.2.2.2):=j05 _ _
def jaY[LP](a:Tn15):N Tn15:=
 let b:=O a.length
 (j8K a b 0 ([]:Tn15)).bind λc=>L c
def j4U[LP](a:J)(b:U J)(t:J)(z:Tn15)(a1 a0 v:J)(a2:X)(r q l o m:J)(k:Tn2)(p s u:J)(g:Tn2)(x:J)(y:Tn2)(n:J)(w:J):N ((J×J×J×J×J×J×X×J×J×J×J×J×(U J)×Tn2×J×J×J×Tn2×J×J×Tn15×Tn2) ⊕ (J×J×J×J×J×J×X×J×J×J×J×J×(U J)×Tn2×J×J×J×Tn2×Tn15×Tn2)):=
 let f:Int:=if n<a then n else a
 let d:=O b.length
 cond (!(d==0)) (let c:=Ä w d
 cond (inR c b.length) (let i:=M b c.toNat 0
 let e:Tn15:=[(t,f,i)]
 cond (K (S z+S e<=j03)) (let j:Tn15:=z++e
 L (.inl (a1,f,w,n,a0,v,a2,r,q,l,o,m,b,k,p,s,u,g,x,a,j,y))) W) W) W
def j3O[LP](a3 o a5 y w u:J)(x:X)(k j e g f:J)(a:U J)(d:Tn2)(i l p:J)(b:Tn2)(z c:J)(a2:Tn15)(v:Tn2):N ((J×J×J×J×J×J×X×J×J×J×J×J×(U J)×Tn2×J×J×J×Tn2×J×J×Tn15×Tn2) ⊕ (J×J×J×J×J×J×X×J×J×J×J×J×(U J)×Tn2×J×J×J×Tn2×Tn15×Tn2)):=cond (K (o<c)) (cond (K (o>=y)) ((j62 (p,b) (x,k,(j,e),g,f,a,d,i,l) o).bind λm=>let a4:=w64 (m+1)
 (j16 (p,b) (x,k,(j,e),g,f,a,d,i,l) a4).bind λn=>cond (!n.2) (j4U c a o a2 a3 w u x k j e g f d i l p b z v 8589934593 m) (let r:Int:=if n.1<c then n.1 else c
 let s:=O a.length
 cond (!(s==0)) (let q:=Ä m s
 cond (inR q a.length) (let a0:=M a q.toNat 0
 let t:Tn15:=[(o,r,a0)]
 cond (K (S a2+S t<=j03)) (let a1:Tn15:=a2++t
 L (.inl (a3,r,m,n.1,w,u,x,k,j,e,g,f,a,d,i,l,p,b,z,c,a1,v))) W) W) W)) (j4U c a o a2 a3 w u x k j e g f d i l p b z v y a5)) (L (.inr (a3,o,a5,y,w,u,x,k,j,e,g,f,a,d,i,l,p,b,a2,v)))
def j64[LP]:=c8 (c8 c6) (LP.lp (u8 (u8 unc6) j3O))
abbrev jeI:=eq22 j3O j64
def j2n[LP](x j w v k c:J)(z:X)(s r m o n:J)(p:U J)(l:Tn2)(q u y:J)(f:Tn2)(t:Tn15)(e:Tn2):N ((J×J×J×J×J×J×X×J×J×J×J×J×(U J)×Tn2×J×J×J×Tn2×Tn15×Tn2) ⊕ (J×J×Tn15)):=cond (K (c<k)) (cond (inR c e.length) (let b:=M e c.toNat (0,0)
 let d:Tn15:=[(j,b.1,(-1))]
 cond (K (S t+S d<=j03)) (let g:Tn15:=t++d
 (j64 x b.1 w v k c z s r m o n p l q u y f b.1 b.2 g e).bind λa=>let i:=w64 (a.2.2.2.2.2.1+1)
 L (.inl (a.1,a.2.1,a.2.2.1,a.2.2.2.1,a.2.2.2.2.1,i,a.2.2.2.2.2.2.1,a.2.2.2.2.2.2.2.1,a.2.2.2.2.2.2.2.2.1,a.2.2.2.2.2.2.2.2.2.1,a.2.2.2.2.2.2.2.2.2.2.1,a.2.2.2.2.2.2.2.2.2.2.2.1,a.2.2.2.2.2.2.2.2.2.2.2.2.1,a.2.2.2.2.2.2.2.2.2.2.2.2.2.1,a.2.2.2.2.2.2.2.2.2.2.2.2.2.2.1,a.2.2.2.2.2.2.2.2.2.2.2.2.2.2.2.1,a.2.2.2.2.2.2.2.2.2.2.2.2.2.2.2.2.1,a.2.2.2.2.2.2.2.2.2.2.2.2.2.2.2.2.2.1,a.2.2.2.2.2.2.2.2.2.2.2.2.2.2.2.2.2.2.1,a.2.2.2.2.2.2.2.2.2.2.2.2.2.2.2.2.2.2.2))) W) W) (L (.inr (x,j,t)))
def j4i[LP](s n m l r p:J)(t:X)(j i c e d:J)(f:U J)(b:Tn2)(g k o:J)(a:Tn2)(u:Tn15)(q:Tn2):N (J×J×Tn15):=LP.lp (u8 (u8 unc4) j2n) (s,n,m,l,r,p,t,j,i,c,e,d,f,b,g,k,o,a,u,q)
theorem j9I(s n m l r p t j i c e d f b g k o a u q):j4i s n m l r p t j i c e d f b g k o a u q=lpK (j2n s n m l r p t j i c e d f b g k o a u q) (λh=>j4i h.1 h.2.1 h.2.2.1 h.2.2.2.1 h.2.2.2.2.1 h.2.2.2.2.2.1 h.2.2.2.2.2.2.1 h.2.2.2.2.2.2.2.1 h.2.2.2.2.2.2.2.2.1 h.2.2.2.2.2.2.2.2.2.1 h.2.2.2.2.2.2.2.2.2.2.1 h.2.2.2.2.2.2.2.2.2.2.2.1 h.2.2.2.2.2.2.2.2.2.2.2.2.1 h.2.2.2.2.2.2.2.2.2.2.2.2.2.1 h.2.2.2.2.2.2.2.2.2.2.2.2.2.2.1 h.2.2.2.2.2.2.2.2.2.2.2.2.2.2.2.1 h.2.2.2.2.2.2.2.2.2.2.2.2.2.2.2.2.1 h.2.2.2.2.2.2.2.2.2.2.2.2.2.2.2.2.2.1 h.2.2.2.2.2.2.2.2.2.2.2.2.2.2.2.2.2.2.1 h.2.2.2.2.2.2.2.2.2.2.2.2.2.2.2.2.2.2.2):=j05 _ _
def j3o[LP](b:Tn77)(a:Tn62)(c d:J):N Tn15:=cond (inR a.2.1 b.2.length) (let f:=M b.2 a.2.1.toNat (0,[])
 (j8e b a c d).bind λi=>let k:=O i.length
 (j4i d c (-1) (-1) k 0 a.1 a.2.1 a.2.2.1.1 a.2.2.1.2 a.2.2.2.1 a.2.2.2.2.1 a.2.2.2.2.2.1 a.2.2.2.2.2.2.1 a.2.2.2.2.2.2.2.1 a.2.2.2.2.2.2.2.2 f.1 f.2 ([]:Tn15) i).bind λe=>let g:Tn15:=[(e.2.1,e.1,(-1))]
 cond (K (S e.2.2+S g<=j03)) (let l:Tn15:=e.2.2++g
 (jaY l).bind λj=>L j) W) W
def j56(k:J)(i:Tn32)(d b:J)(e:Tn2):N ((J×Tn32×J×J×Tn2) ⊕ (Tn2)):=cond (K (b<d)) (cond (inR b i.length) (let a:=M i b.toNat (0,0,0,0,0)
 cond (cond (a.1==0) (a.2.1==k) Z) (let c:Tn2:=[a.2.2.2]
 cond (K (S e+S c<=j03)) (let g:Tn2:=e++c
 let f:=w64 (b+1)
 L (.inl (k,i,d,f,g))) W) (let j:=w64 (b+1)
 L (.inl (k,i,d,j,e)))) W) (L (.inr e))
def ja3[LP]:=lp5 j56
theorem jdP(d e b a c):ja3 d e b a c=lpK (j56 d e b a c) (λh=>ja3 h.1 h.2.1 h.2.2.1 h.2.2.2.1 h.2.2.2.2):=j05 _ _
def j8f[LP](b:Tn67)(a:J):N Tn2:=
 let d:=O b.2.2.length
 (ja3 a b.2.2 d 0 ([]:Tn2)).bind λe=>(j8G e).bind λc=>L c
def j4j(k:Tn15)(n m l c:J)(r:X)(g:Tn63)(d:Tn32)(s p f:J)(q:Tn22)(o:Tn15)(e:Tn2):N ((Tn15×J×J×J×J×X×Tn63×Tn32×J×J×J×Tn22×Tn15×Tn2) ⊕ (Tn15×J×J×X×Tn63×Tn32×Tn22×Tn15)):=cond (K (c<l)) (cond (inR c e.length) (let a:=M e c.toNat (0,0)
 let b:Tn15:=[(a.1,a.2,f)]
 cond (K (S o+S b<=j03)) (let i:Tn15:=o++b
 let j:=w64 (c+1)
 L (.inl (k,n,m,l,j,r,g,d,s,p,f,q,i,e))) W) W) (L (.inr (k,n,m,r,g,d,q,o)))
def j7q[LP]:=c8 c6 (LP.lp (u8 unc6 j4j))
abbrev jcX:=eq14 j4j j7q
def j4F[LP](b:Tn3)(k:Tn15)(n m:J)(p:X)(j:Tn63)(i:Tn32)(o:Tn15)(l:Tn22):N ((Tn15×J×J×X×Tn63×Tn32×Tn22×Tn15) ⊕ (Tn15)):=
 let g:Tn2:=[(b.1,b.2.1)]
 let d:Tn2:=j3i ([]:Tn2) l b.2.2
 (j5l g d).bind λc=>let e:=O c.length
 (j7q k n m e 0 p j i b.1 b.2.1 b.2.2 l o c).bind λa=>let f:=w64 (a.2.2.1+1)
 L (.inl (a.1,a.2.1,f,a.2.2.2.1,a.2.2.2.2.1,a.2.2.2.2.2.1,a.2.2.2.2.2.2.1,a.2.2.2.2.2.2.2))
def j4k[LP](e:Tn15)(f b:J)(l:X)(d:Tn63)(c:Tn32)(g:Tn22)(j:Tn15):N ((Tn15×J×J×X×Tn63×Tn32×Tn22×Tn15) ⊕ (Tn15)):=cond (K (b<f)) (cond (inR b e.length) (let a:=M e b.toNat (0,0,0)
 cond (K (a.2.2<0)) (let k:=w64 (b+1)
 L (.inl (e,f,k,l,d,c,g,j))) (let n:Tn2:=j3i ([]:Tn2) g a.2.2
 cond (!(jaD g a.2.2)) ((j8f (l,d,c) a.2.2).bind λi=>let m:Tn22:=j6V g a.2.2 i
 j4F a e f b l d c j m) (j4F a e f b l d c j g))) W) (L (.inr j))
def j5R[LP]:=lp8 j4k
theorem jcY(c e d i b a f g):j5R c e d i b a f g=lpK (j4k c e d i b a f g) (λh=>j5R h.1 h.2.1 h.2.2.1 h.2.2.2.1 h.2.2.2.2.1 h.2.2.2.2.2.1 h.2.2.2.2.2.2.1 h.2.2.2.2.2.2.2):=j05 _ _
def ja4[LP](a:Tn67)(b:Tn15):N Tn15:=
 let c:Tn22:=[]
 let d:=O b.length
 (j5R b d 0 a.1 a.2.1 a.2.2 c ([]:Tn15)).bind λe=>L e
def j77(c:J)(i:Tn15)(f:J)(b:Tn2)(j:Tn15):N ((Tn15×Tn2×J×J×Tn15) ⊕ (Tn15)):=cond (inR c i.length) (let g:=M i c.toNat (0,0,0)
 cond (inR f b.length) (let a:=M b f.toNat (0,0)
 cond (K (g.2.1<a.2)) (let d:=w64 (c+1)
 L (.inl (i,b,d,f,j))) (let e:=w64 (f+1)
 L (.inl (i,b,c,e,j)))) W) W
def j6A(b:Tn15)(c:Tn2)(a d:J)(n:Tn15):N ((Tn15×Tn2×J×J×Tn15) ⊕ (Tn15)):=
 let q:=O b.length
 let m:=O c.length
 cond (cond (K (a<q)) (K (d<m)) Z) (cond (inR a b.length) (let k:=M b a.toNat (0,0,0)
 cond (inR d c.length) (let f:=M c d.toNat (0,0)
 let i:Int:=if f.1>k.1 then f.1 else k.1
 cond (inR a b.length) (let e:=M b a.toNat (0,0,0)
 cond (inR d c.length) (let l:=M c d.toNat (0,0)
 let g:Int:=if l.2<e.2.1 then l.2 else e.2.1
 cond (inR a b.length) (let p:=M b a.toNat (0,0,0)
 cond (K (i<g)) (let j:Tn15:=[(i,g,p.2.2)]
 cond (K (S n+S j<=j03)) (let o:Tn15:=n++j
 j77 a b d c o) W) (j77 a b d c n)) W) W) W) W) W) (L (.inr n))
def j6H[LP]:=lp5 j6A
abbrev jj1:=eq5 j6A j6H
def jdQ[LP](b:Tn15)(a:Tn2):N Tn15:=(j6H b a 0 0 ([]:Tn15)).bind λc=>L c
def j5B(f:Tn15)(i d:J)(g:Tn2):N ((Tn15×J×J×Tn2) ⊕ (Tn2)):=cond (K (d<i)) (cond (inR d f.length) (let b:=M f d.toNat (0,0,0)
 let a:Tn2:=[(b.1,b.2.1)]
 cond (K (S g+S a<=j03)) (let e:Tn2:=g++a
 let c:=w64 (d+1)
 L (.inl (f,i,c,e))) W) W) (L (.inr g))
def jbe[LP]:=lp4 j5B
theorem jeJ(a c b d):jbe a c b d=lpK (j5B a c b d) (λh=>jbe h.1 h.2.1 h.2.2.1 h.2.2.2):=j05 _ _
def jcZ[LP](a:Tn15):N Tn2:=
 let c:=O a.length
 (jbe a c 0 ([]:Tn2)).bind λd=>(j8G d).bind λb=>L b
def j42(b a:Tn3):N Int:=
 let c:=w64 (b.1-a.1)
 L c
def j0C(a:Tn15):N Tn15:=
 joQ (.pair (.int .i64) (.pair (.int .i64) (.int .i64))) (λb c=>(j42 b c).getD 0) a
def j32[LP](m:J)(j:Tn63)(w:Tn57)(l:Tn51)(f:Tn28)(e:Tn68)(g:Tn22)(u:X)(k:Tn63)(i:Tn32)(t v:J)(d:Tn2)(b:Tn15):N ((J×Tn63×Tn57×Tn51×Tn28×Tn68×Tn22×X×Tn63×Tn32×J×J×Tn2×Tn15) ⊕ (Tn2×Tn15)):=cond (K (m<=0)) (L (.inr (d,b))) (cond (K (m<=O j.length)) (let n:Int:=m-1
 let a:=M j n.toNat (Y,0,(0,0),0,0,[],[],0,0)
 (j3o ((w,l,f,e),g) a t v).bind λp=>(ja4 (u,k,i) p).bind λo=>(jdQ o d).bind λc=>cond (K (S b+S c<=j03)) (let r:Tn15:=b++c
 (jcZ c).bind λs=>(j5l d s).bind λq=>L (.inl ((m-1),j,w,l,f,e,g,u,k,i,t,v,q,r))) W) W)
def j78[LP]:=c8 c6 (LP.lp (u8 unc6 j32))
theorem jaH(n j l b f e c m g d k o i a):j78 n j l b f e c m g d k o i a=lpK (j32 n j l b f e c m g d k o i a) (λh=>j78 h.1 h.2.1 h.2.2.1 h.2.2.2.1 h.2.2.2.2.1 h.2.2.2.2.2.1 h.2.2.2.2.2.2.1 h.2.2.2.2.2.2.2.1 h.2.2.2.2.2.2.2.2.1 h.2.2.2.2.2.2.2.2.2.1 h.2.2.2.2.2.2.2.2.2.2.1 h.2.2.2.2.2.2.2.2.2.2.2.1 h.2.2.2.2.2.2.2.2.2.2.2.2.1 h.2.2.2.2.2.2.2.2.2.2.2.2.2):=j05 _ _
def j33(i c:J)(e:Tn2)(a:Tn15):N ((J×J×Tn2×Tn15) ⊕ (Tn15)):=cond (K (c<i)) (cond (inR c e.length) (let d:=M e c.toNat (0,0)
 let b:Tn15:=[(d.1,d.2,(-1))]
 cond (K (S a+S b<=j03)) (let f:Tn15:=a++b
 let g:=w64 (c+1)
 L (.inl (i,g,e,f))) W) W) (L (.inr a))
def j79[LP]:=lp4 j33
theorem jaI(d b c a):j79 d b c a=lpK (j33 d b c a) (λh=>j79 h.1 h.2.1 h.2.2.1 h.2.2.2):=j05 _ _
def j7r[LP](b:Tn77)(d:Tn67)(a c:J):N Tn15:=cond (K (a>=c)) (L ([]:Tn15)) (let j:Tn2:=[(a,c)]
 (j2S d.2.1).bind λe=>(j78 (O e.length) e b.1.1 b.1.2.1 b.1.2.2.1 b.1.2.2.2 b.2 d.1 d.2.1 d.2.2 a c j ([]:Tn15)).bind λf=>let i:=O f.1.length
 (j79 i 0 f.1 f.2).bind λl=>(j0C l).bind λk=>(jaY k).bind λg=>L g)
def jcj(a:J):N Bool:=L (a != a)
def jdR(b a:J):N Bool:=(jcj b).bind λc=>cond c ((jcj a).bind λd=>L (cond (!d) Á (K (b<a)))) (L (K (b<a)))
def j9r(a:J):N Bool:=L (a != a)
def j1P(b:U J)(f l i m:J):N (((U J)×J×J×J×J) ⊕ ((U J)×J×J×J)):=cond (K (i<m)) (let c:=w64 (i+m)
 let g:Int:=É .u64 c
 let j:Int:=Ì g 2
 let a:=w64 j
 cond (inR a b.length) (let d:=M b a.toNat 0
 (jdR d f).bind λk=>cond k (let e:=w64 (a+1)
 L (.inl (b,f,l,e,m))) (L (.inl (b,f,l,i,a)))) W) (L (.inr (b,f,l,i)))
def j4l[LP]:=lp5 j1P
abbrev ja5:=eq5 j1P j4l
def j3p[LP](d:U J)(b:J):N (J×Æ):=
 let e:=O d.length
 (j4l d b e 0 e).bind λa=>cond ((inR a.2.2.2 a.1.length) || !(K (a.2.2.2<a.2.2.1))) (let c:=M a.1 a.2.2.2.toNat 0
 cond ((inR a.2.2.2 a.1.length) || !((K (a.2.2.2<a.2.2.1))&&(!(c==a.2.1)))) (let f:=M a.1 a.2.2.2.toNat 0
 cond (K (a.2.2.2<a.2.2.1)) (cond (c==a.2.1) (L (a.2.2.2,Á)) ((j9r f).bind λg=>cond g ((j9r a.2.1).bind λi=>L (a.2.2.2,i)) (L (a.2.2.2,Z)))) (cond ((c==a.2.1) || !Z) (L (a.2.2.2,Z)) W)) W) W
def jig(b:Tn26)(a:J):N Bool:=L (cond (K (b.2.2.2.1<=a)) (K (a<b.2.2.2.2)) Z)
def j6I(f e:J)(d:Tn32)(c b:J):N ((J×J×Tn32×J×J) ⊕ (J)):=cond (K (b<c)) (cond (inR b d.length) (let a:=M d b.toNat (0,0,0,0,0)
 (jig a e).bind λk=>cond (cond (!k) Á (a.1==0)) (let j:=w64 (b+1)
 L (.inl (f,e,d,c,j))) (cond (a.1==1) (let l:=w64 (b+1)
 L (.inl (a.2.1,e,d,c,l))) (cond (a.1 != 2) (let n:=w64 (b+1)
 L (.inl (f,e,d,c,n))) (cond (f==a.2.1) (let m:=w64 (b+1)
 L (.inl (a.2.2.1,e,d,c,m))) (cond (f==a.2.2.1) (let i:=w64 (b+1)
 L (.inl (a.2.1,e,d,c,i))) (let g:=w64 (b+1)
 L (.inl (f,e,d,c,g)))))))) W) (L (.inr f))
def jgu[LP]:=lp5 j6I
abbrev jgv:=eq5 j6I jgu
def jj2[LP](b:Tn32)(a c:J):N Int:=
 let d:=O b.length
 (jgu a c b d 0).bind λe=>L e
def j3q(p q:J)(k:Tn32)(n a:J)(r:Tn57)(d:Tn51)(i:Tn28)(g:Tn68)(e:Tn22)(s:X)(j:Tn63)(f:Tn32)(o:U J):N ((J×J×Tn32×J×J×Tn57×Tn51×Tn28×Tn68×Tn22×X×Tn63×Tn32×(U J)) ⊕ (J×J×Tn57×Tn51×Tn28×Tn68×Tn22×X×Tn63×Tn32×(U J))):=cond (K (a<n)) (cond (inR a k.length) (let b:=M k a.toNat (0,0,0,0,0)
 let c:U Int:=[b.2.2.2.1,b.2.2.2.2]
 cond (K (S o+S c<=j03)) (let l:U Int:=o++c
 let m:=w64 (a+1)
 L (.inl (p,q,k,n,m,r,d,i,g,e,s,j,f,l))) W) W) (L (.inr (p,q,r,d,i,g,e,s,j,f,o)))
def ja6[LP]:=c8 c6 (LP.lp (u8 unc6 j3q))
abbrev jbv:=eq14 j3q ja6
def j3r[LP](i j p r:J)(s:X)(l:Tn63)(b:Tn32)(t a d:J)(f:U J)(k q:Tn15):N ((J×J×J×J×X×Tn63×Tn32×J×J×J×(U J)×Tn15×Tn15) ⊕ (J×J×X×Tn63×Tn32×(U J)×Tn15×Tn15)):=cond (K (j<a)) (cond (inR i f.length) (let c:=M f i.toNat 0
 let g:Int:=if c<a then c else a
 (jj2 b d j).bind λn=>let e:Tn15:=[(j,g,n)]
 cond (K (S k+S e<=j03)) (let o:Tn15:=k++e
 let m:=w64 (i+1)
 L (.inl (m,g,p,r,s,l,b,t,a,d,f,o,q))) W) W) (L (.inr (p,r,s,l,b,f,k,q)))
def j7Y[LP]:=c8 c5 (LP.lp (u8 unc5 j3r))
theorem jbw(l f g m n d c e a b k i j):j7Y l f g m n d c e a b k i j=lpK (j3r l f g m n d c e a b k i j) (λh=>j7Y h.1 h.2.1 h.2.2.1 h.2.2.2.1 h.2.2.2.2.1 h.2.2.2.2.2.1 h.2.2.2.2.2.2.1 h.2.2.2.2.2.2.2.1 h.2.2.2.2.2.2.2.2.1 h.2.2.2.2.2.2.2.2.2.1 h.2.2.2.2.2.2.2.2.2.2.1 h.2.2.2.2.2.2.2.2.2.2.2.1 h.2.2.2.2.2.2.2.2.2.2.2.2):=j05 _ _
def j3s[LP](j c:J)(n:X)(m:Tn63)(l:Tn32)(k:U J)(i d:Tn15):N ((J×J×X×Tn63×Tn32×(U J)×Tn15×Tn15) ⊕ (Tn15)):=cond (K (c<j)) (cond (inR c d.length) (let b:=M d c.toNat (0,0,0)
 let f:=w64 (b.1+1)
 (j3p k f).bind λe=>(j7Y e.1 b.1 j c n m l b.1 b.2.1 b.2.2 k i d).bind λa=>let g:=w64 (a.2.1+1)
 L (.inl (a.1,g,a.2.2.1,a.2.2.2.1,a.2.2.2.2.1,a.2.2.2.2.2.1,a.2.2.2.2.2.2.1,a.2.2.2.2.2.2.2))) W) (L (.inr i))
def ja7[LP]:=lp8 j3s
abbrev jbx:=eq8 j3s ja7
def j4m[LP](c:Tn77)(b:Tn67)(d e:J):N Tn15:=
 let k:=O b.2.2.length
 (ja6 d e b.2.2 k 0 c.1.1 c.1.2.1 c.1.2.2.1 c.1.2.2.2 c.2 b.1 b.2.1 b.2.2 ([]:(U J))).bind λa=>(jgt a.2.2.2.2.2.2.2.2.2.2 a.1 a.2.1).bind λg=>(j7r ((a.2.2.1,a.2.2.2.1,a.2.2.2.2.1,a.2.2.2.2.2.1),a.2.2.2.2.2.2.1) (a.2.2.2.2.2.2.2.1,a.2.2.2.2.2.2.2.2.1,a.2.2.2.2.2.2.2.2.2.1) a.1 a.2.1).bind λf=>let i:=O f.length
 (ja7 i 0 a.2.2.2.2.2.2.2.1 a.2.2.2.2.2.2.2.2.1 a.2.2.2.2.2.2.2.2.2.1 g ([]:Tn15) f).bind λl=>(jaY l).bind λj=>L j
def j3T(j:J)(i:Tn15)(k b:J)(e:Tn2):N ((J×Tn15×J×J×Tn2) ⊕ (Tn2)):=cond (K (b<k)) (cond (inR b i.length) (let a:=M i b.toNat (0,0,0)
 cond (a.2.2==j) (let c:Tn2:=[(a.1,a.2.1)]
 cond (K (S e+S c<=j03)) (let f:Tn2:=e++c
 let g:=w64 (b+1)
 L (.inl (j,i,k,g,f))) W) (let d:=w64 (b+1)
 L (.inl (j,i,k,d,e)))) W) (L (.inr e))
def jaZ[LP]:=lp5 j3T
abbrev jca:=eq5 j3T jaZ
def jbf[LP](b:Tn15)(a:J):N Tn2:=
 let d:=O b.length
 (jaZ a b d 0 ([]:Tn2)).bind λe=>(j8G e).bind λc=>L c
def j4n[LP](q p r:J)(k:Tn68)(o c:J)(s:Tn57)(e:Tn51)(j:Tn28)(g:Tn68)(f:Tn22)(i:Tn2):N ((J×J×J×Tn68×J×J×Tn57×Tn51×Tn28×Tn68×Tn22×Tn2) ⊕ (J ⊕ Tn2)):=cond (K (c<o)) (cond (inR c k.length) (let a:=M k c.toNat (Y,[],[])
 (j4m ((s,e,j,g),f) a p r).bind λb=>let m:=O b.length
 cond (K (m>16384)) (L (.inr (.inl 5))) ((jbf b q).bind λd=>cond (K (S i+S d<=j03)) (let n:Tn2:=i++d
 let l:=w64 (c+1)
 L (.inl (q,p,r,k,o,l,s,e,j,g,f,n))) W)) W) (L (.inr (.inr i)))
def j5S[LP]:=c8 c4 (LP.lp (u8 unc4 j4n))
abbrev jd0:=eq12 j4n j5S
def j7a[LP](a:Tn77)(b c d:J):N (Tn2×J):=
 let f:=O a.1.2.2.2.length
 (j5S b c d a.1.2.2.2 f 0 a.1.1 a.1.2.1 a.1.2.2.1 a.1.2.2.2 a.2 ([]:Tn2)).bind λi=>sumC i (λj=>L (([]:Tn2),j)) (λk=>(j8G k).bind λe=>let g:=O e.length
 cond (K (g>4096)) (L (([]:Tn2),5)) (L (e,0)))
def j2o(b:J)(i:Tn15)(a:J)(f:Tn15)(j l:J)(k:Tn32):N ((Tn15×Tn15×J×J×J×J×Tn32) ⊕ (Tn32)):=cond (inR b i.length) (let g:=M i b.toNat (0,0,0)
 cond (inR a f.length) (let d:=M f a.toNat (0,0,0)
 cond (K (g.2.1<d.2.1)) (let c:=w64 (b+1)
 L (.inl (i,f,j,l,c,a,k))) (let e:=w64 (a+1)
 L (.inl (i,f,j,l,b,e,k)))) W) W
def j2g(d e:Tn15)(u t b a:J)(s:Tn32):N ((Tn15×Tn15×J×J×J×J×Tn32) ⊕ (Tn32)):=
 let p:=O d.length
 let n:=O e.length
 cond (cond (K (b<p)) (K (a<n)) Z) (cond (inR b d.length) (let g:=M d b.toNat (0,0,0)
 cond (inR a e.length) (let f:=M e a.toNat (0,0,0)
 let j:Int:=if f.1>g.1 then f.1 else g.1
 cond (inR b d.length) (let i:=M d b.toNat (0,0,0)
 cond (inR a e.length) (let m:=M e a.toNat (0,0,0)
 let k:Int:=if m.2.1<i.2.1 then m.2.1 else i.2.1
 cond (inR b d.length) (let c:=M d b.toNat (0,0,0)
 cond ((inR a e.length) || !(K (c.2.2>=0))) (let q:=M e a.toNat (0,0,0)
 let r:Bool:=cond (cond (K (c.2.2>=0)) (c.2.2==q.2.2) Z) (K (j<k)) Z
 cond r (let l:Tn32:=[(c.2.2,u,t,j,k)]
 cond (K (S s+S l<=j03)) (let o:Tn32:=s++l
 j2o b d a e u t o) W) (j2o b d a e u t s)) W) W) W) W) W) W) (L (.inr s))
def j65[LP]:=lp7 j2g
abbrev j8g:=eq7 j2g j65
def j8h[LP](d c:Tn15)(b a:J):N Tn32:=(j65 d c b a 0 0 ([]:Tn32)).bind λe=>L e
def j2T(b a:Tn26):N Int:=
 let c:=w64 (b.2.2.2.1-a.2.2.2.1)
 L c
def j0s(l p q f:J)(e:Tn32):N ((J×J×J×J×Tn32) ⊕ (J×J×J×Tn32)):=cond (K (f>l)) (cond (inR f e.length) (let d:=M e f.toNat (0,0,0,0,0)
 let j:=w64 (f-1)
 cond (inR j e.length) (let a:=M e j.toNat (0,0,0,0,0)
 (j2T d a).bind λn=>cond (K (n<0)) (let g:=w64 (f-1)
 let k:=w64 (f-1)
 cond (inR k e.length) (let b:=M e k.toNat (0,0,0,0,0)
 cond (inR f e.length) (let c:=M e f.toNat (0,0,0,0,0)
 cond (inR f e.length) (let i:Tn32:=Â e f.toNat b
 cond (inR g i.length) (let o:Tn32:=Â i g.toNat c
 let m:=w64 (f-1)
 L (.inl (l,p,q,m,o))) W) W) W) W) (L (.inr (l,p,q,e)))) W) W) (L (.inr (l,p,q,e)))
def j23[LP]:=lp5 j0s
abbrev j3t:=eq5 j0s j23
def j0h[LP](f d c:J)(e:Tn32):N ((J×J×J×Tn32) ⊕ (Tn32)):=cond (K (c<d)) ((j23 f d c c e).bind λa=>let b:=w64 (a.2.2.1+1)
 L (.inl (a.1,a.2.1,b,a.2.2.2))) (L (.inr e))
def j1h[LP]:=lp4 j0h
theorem j1Q(b a c d):j1h b a c d=lpK (j0h b a c d) (λh=>j1h h.1 h.2.1 h.2.2.1 h.2.2.2):=j05 _ _
def j0A[LP](a:Tn32)(b c:J):N Tn32:=
 let d:=w64 (b+1)
 (j1h b c d a).bind λe=>L e
def j0G(n m o c:J)(d:Tn32):N ((J×J×J×J×Tn32) ⊕ (Tn32)):=cond (K (c<o)) (let f:=w64 (n+c)
 let i:=w64 (m+c)
 let e:=w64 (m+c)
 cond (inR e d.length) (let a:=M d e.toNat (0,0,0,0,0)
 let j:=w64 (n+c)
 cond (inR j d.length) (let b:=M d j.toNat (0,0,0,0,0)
 cond (inR f d.length) (let g:Tn32:=Â d f.toNat a
 cond (inR i g.length) (let l:Tn32:=Â g i.toNat b
 let k:=w64 (c+1)
 L (.inl (n,m,o,k,l))) W) W) W) W) (L (.inr d))
def j2B[LP]:=lp5 j0G
abbrev j4o:=eq5 j0G j2B
def j0z[LP](a:Tn32)(c b d:J):N Tn32:=(j2B c b d 0 a).bind λe=>L e
def j1t[LP](c a b:J)(m:Tn32):N ((J×J×J×Tn32) ⊕ (J×J×Tn32)):=cond (a != b) (cond (K (a>b)) (let g:=w64 (c-a)
 (j0z m g c b).bind λj=>let d:=w64 (a-b)
 L (.inl (c,d,b,j))) (let k:=w64 (c-a)
 let f:=w64 (c+b)
 let i:=w64 (f-a)
 (j0z m k i a).bind λe=>let l:=w64 (b-a)
 L (.inl (c,a,l,e)))) (L (.inr (c,a,m)))
def j3u[LP]:=lp4 j1t
abbrev j9c:=eq4 j1t j3u
def j1d[LP](b:Tn32)(e a d:J):N Tn32:=
 let j:=w64 (a-e)
 let f:=w64 (d-a)
 (j3u a j f b).bind λc=>let g:=w64 (c.1-c.2.1)
 (j0z c.2.2 g c.1 c.2.1).bind λi=>L i
def j0M(n:Tn32->J->J->J->N (Tn32))(f e g:J)(c:Tn32):N ((J×J×J×Tn32) ⊕ (J×J×Tn32)):=cond (K (e<g)) (let k:=w64 (e+g)
 let i:Int:=É .u64 k
 let l:Int:=Ì i 2
 let d:=w64 l
 cond (inR d c.length) (let a:=M c d.toNat (0,0,0,0,0)
 cond (inR f c.length) (let b:=M c f.toNat (0,0,0,0,0)
 (j2T a b).bind λj=>cond (K (j<0)) (let m:=w64 (d+1)
 L (.inl (f,m,g,c))) (L (.inl (f,e,d,c)))) W) W) (L (.inr (f,e,c)))
def j19[LP](a:Tn32->J->J->J->N (Tn32))(d c b:J)(e:Tn32):N (J×J×Tn32):=LP.lp (unc4 (j0M a)) (d,c,b,e)
theorem j4G(a d c b e):j19 a d c b e=lpK (j0M a d c b e) (λh=>j19 a h.1 h.2.1 h.2.2.1 h.2.2.2):=j05 _ _
def j0N(m:Tn32->J->J->J->N (Tn32))(l c:J)(d:Tn32):N ((J×J×Tn32) ⊕ (Tn32)):=
 let j:=w64 (l-1)
 cond (K (c<j)) (let f:=w64 (c+1)
 let e:=w64 (c+1)
 cond (inR e d.length) (let b:=M d e.toNat (0,0,0,0,0)
 cond (inR c d.length) (let a:=M d c.toNat (0,0,0,0,0)
 cond (inR c d.length) (let g:Tn32:=Â d c.toNat b
 cond (inR f g.length) (let k:Tn32:=Â g f.toNat a
 let i:=w64 (c+1)
 L (.inl (l,i,k))) W) W) W) W) (L (.inr d))
def j1R[LP](a:Tn32->J->J->J->N (Tn32))(b c:J)(d:Tn32):N Tn32:=LP.lp (unc3 (j0N a)) (b,c,d)
theorem j4H(a c b d):j1R a c b d=lpK (j0N a c b d) (λh=>j1R a h.1 h.2.1 h.2.2):=j05 _ _
def j0O(n:Tn32->J->J->J->N (Tn32))(f d j:J)(c:Tn32):N ((J×J×J×Tn32) ⊕ (J×J×Tn32)):=cond (K (d<j)) (let k:=w64 (d+j)
 let l:Int:=É .u64 k
 let m:Int:=Ì l 2
 let e:=w64 m
 cond (inR f c.length) (let b:=M c f.toNat (0,0,0,0,0)
 cond (inR e c.length) (let a:=M c e.toNat (0,0,0,0,0)
 (j2T b a).bind λi=>cond (!(K (i<0))) (let g:=w64 (e+1)
 L (.inl (f,g,j,c))) (L (.inl (f,d,e,c)))) W) W) (L (.inr (f,d,c)))
def j1a[LP](b:Tn32->J->J->J->N (Tn32))(d a c:J)(e:Tn32):N (J×J×Tn32):=LP.lp (unc4 (j0O b)) (d,a,c,e)
theorem j4I(a d b c e):j1a a d b c e=lpK (j0O a d b c e) (λh=>j1a a h.1 h.2.1 h.2.2.1 h.2.2.2):=j05 _ _
def j0P(l:Tn32->J->J->J->N (Tn32))(k c:J)(f:Tn32):N ((J×J×Tn32) ⊕ (Tn32)):=cond (K (c>k)) (let d:=w64 (c-1)
 let e:=w64 (c-1)
 cond (inR e f.length) (let a:=M f e.toNat (0,0,0,0,0)
 cond (inR c f.length) (let b:=M f c.toNat (0,0,0,0,0)
 cond (inR c f.length) (let g:Tn32:=Â f c.toNat a
 cond (inR d g.length) (let j:Tn32:=Â g d.toNat b
 let i:=w64 (c-1)
 L (.inl (k,i,j))) W) W) W) W) (L (.inr f))
def j1S[LP](a:Tn32->J->J->J->N (Tn32))(b c:J)(d:Tn32):N Tn32:=LP.lp (unc3 (j0P a)) (b,c,d)
theorem j4J(a b c d):j1S a b c d=lpK (j0P a b c d) (λh=>j1S a h.1 h.2.1 h.2.2):=j05 _ _
def j0Q(t:Tn32->J->J->J->N (Tn32))(s r q n o f l m:J)(e:Tn32):N ((J×J×J×J×J×J×J×J×Tn32) ⊕ (J×J×J×J×J×J×Tn32)):=cond (K (f<l)) (let j:=w64 (f+l)
 let g:Int:=É .u64 j
 let p:Int:=Ì g 2
 let c:=w64 p
 let d:=w64 (m-c)
 cond (inR d e.length) (let b:=M e d.toNat (0,0,0,0,0)
 cond (inR c e.length) (let a:=M e c.toNat (0,0,0,0,0)
 (j2T b a).bind λi=>cond (!(K (i<0))) (let k:=w64 (c+1)
 L (.inl (s,r,q,n,o,k,l,m,e))) (L (.inl (s,r,q,n,o,f,c,m,e)))) W) W) (L (.inr (s,r,q,n,o,f,e)))
def j0I[LP](b:Tn32->J->J->J->N (Tn32))(i g j c e a d f:J)(k:Tn32):N (J×J×J×J×J×J×Tn32):=LP.lp (unc9 (j0Q b)) (i,g,j,c,e,a,d,f,k)
theorem j4K(a i g j c e b d f k):j0I a i g j c e b d f k=lpK (j0Q a i g j c e b d f k) (λh=>j0I a h.1 h.2.1 h.2.2.1 h.2.2.2.1 h.2.2.2.2.1 h.2.2.2.2.2.1 h.2.2.2.2.2.2.1 h.2.2.2.2.2.2.2.1 h.2.2.2.2.2.2.2.2):=j05 _ _
def j1y[LP](e:Tn32->J->J->J->N (Tn32))(g:Tn32)(i f j:J):N Tn32:=
 let b0:=w64 (f-i)
 cond (b0==1) ((j19 e i f j g).bind λa2=>(j1R e a2.2.1 a2.1 a2.2.2).bind λb1=>L b1) (let a9:=w64 (j-f)
 cond (a9==1) ((j1a e f i f g).bind λa5=>(j1S e a5.2.1 a5.1 a5.2.2).bind λb2=>L b2) (let a7:=w64 (i+j)
 let a1:Int:=É .u64 a7
 let l:Int:=Ì a1 2
 let m:=w64 ((w64 l)+f)
 cond (K (f>(w64 l))) (let a6:=w64 (m-j)
 let a3:=w64 (m-1)
 (j0I e i f j (w64 l) m a6 (w64 l) a3 g).bind λc=>let d:=w64 (c.2.2.2.2.1-c.2.2.2.2.2.1)
 cond (cond (K (c.2.2.2.2.2.1<c.2.1)) (K (c.2.1<d)) Z) ((j1d c.2.2.2.2.2.2 c.2.2.2.2.2.1 c.2.1 d).bind λq=>cond (cond (K (c.1<c.2.2.2.2.2.1)) (K (c.2.2.2.2.2.1<c.2.2.2.1)) Z) ((e q c.1 c.2.2.2.2.2.1 c.2.2.2.1).bind λy=>cond (cond (K (c.2.2.2.1<d)) (K (d<c.2.2.1)) Z) ((e y c.2.2.2.1 d c.2.2.1).bind λa8=>L a8) (L y)) (cond (cond (K (c.2.2.2.1<d)) (K (d<c.2.2.1)) Z) ((e q c.2.2.2.1 d c.2.2.1).bind λx=>L x) (L q))) (cond (cond (K (c.1<c.2.2.2.2.2.1)) (K (c.2.2.2.2.2.1<c.2.2.2.1)) Z) ((e c.2.2.2.2.2.2 c.1 c.2.2.2.2.2.1 c.2.2.2.1).bind λn=>cond (cond (K (c.2.2.2.1<d)) (K (d<c.2.2.1)) Z) ((e n c.2.2.2.1 d c.2.2.1).bind λr=>L r) (L n)) (cond (cond (K (c.2.2.2.1<d)) (K (d<c.2.2.1)) Z) ((e c.2.2.2.2.2.2 c.2.2.2.1 d c.2.2.1).bind λs=>L s) (L c.2.2.2.2.2.2)))) (let u:=w64 (m-1)
 (j0I e i f j (w64 l) m i f u g).bind λa=>let b:=w64 (a.2.2.2.2.1-a.2.2.2.2.2.1)
 cond (cond (K (a.2.2.2.2.2.1<a.2.1)) (K (a.2.1<b)) Z) ((j1d a.2.2.2.2.2.2 a.2.2.2.2.2.1 a.2.1 b).bind λk=>let a4:Bool:=cond (K (a.1<a.2.2.2.2.2.1)) (K (a.2.2.2.2.2.1<a.2.2.2.1)) Z
 cond a4 ((e k a.1 a.2.2.2.2.2.1 a.2.2.2.1).bind λp=>cond (cond (K (a.2.2.2.1<b)) (K (b<a.2.2.1)) Z) ((e p a.2.2.2.1 b a.2.2.1).bind λv=>L v) (L p)) (cond (cond (K (a.2.2.2.1<b)) (K (b<a.2.2.1)) Z) ((e k a.2.2.2.1 b a.2.2.1).bind λt=>L t) (L k))) (let a0:Bool:=cond (K (a.1<a.2.2.2.2.2.1)) (K (a.2.2.2.2.2.1<a.2.2.2.1)) Z
 cond a0 ((e a.2.2.2.2.2.2 a.1 a.2.2.2.2.2.1 a.2.2.2.1).bind λo=>cond (cond (K (a.2.2.2.1<b)) (K (b<a.2.2.1)) Z) ((e o a.2.2.2.1 b a.2.2.1).bind λz=>L z) (L o)) (cond (cond (K (a.2.2.2.1<b)) (K (b<a.2.2.1)) Z) ((e a.2.2.2.2.2.2 a.2.2.2.1 b a.2.2.1).bind λw=>L w) (L a.2.2.2.2.2.2))))))
def j12[LP](e:(Tn32×J×J×J)->N (Tn32))(h:Tn32×J×J×J):N Tn32:=j1y (λa d b c=>e (a,d,b,c)) h.1 h.2.1 h.2.2.1 h.2.2.2
def j1u[LP](a:Tn32)(d c b:J):N Tn32:=LP.rp j12 (a,d,c,b)
def j0u[LP](d e f c:J)(g:Tn32):N ((J×J×J×J×Tn32) ⊕ (J×J×J×Tn32)):=cond (K (c<=d)) ((j0A g f c).bind λb=>let a:=w64 (c+e)
 L (.inl (d,e,c,a,b))) (L (.inr (d,e,f,g)))
def j21[LP]:=lp5 j0u
theorem j2C(a b d c e):j21 a b d c e=lpK (j0u a b d c e) (λh=>j21 h.1 h.2.1 h.2.2.1 h.2.2.2.1 h.2.2.2.2):=j05 _ _
def j0v[LP](g a i d:J)(j:Tn32):N ((J×J×J×J×Tn32) ⊕ (J×J×J×Tn32)):=cond (K (d<=g)) (let b:=w64 (i+a)
 (j1u j i b d).bind λc=>let f:=w64 (2*a)
 let e:=w64 (d+f)
 L (.inl (g,a,d,e,c))) (L (.inr (g,a,i,j)))
def j1p[LP]:=lp5 j0v
theorem j2D(a b d c e):j1p a b d c e=lpK (j0v a b d c e) (λh=>j1p h.1 h.2.1 h.2.2.1 h.2.2.2.1 h.2.2.2.2):=j05 _ _
def j0W[LP](i g:J)(j:Tn32):N ((J×J×Tn32) ⊕ (Tn32)):=cond (K (g<i)) (let d:=w64 (2*g)
 (j1p i g 0 d j).bind λa=>let b:=w64 (a.2.2.1+a.2.1)
 cond (K (b<a.1)) ((j1u a.2.2.2 a.2.2.1 b a.1).bind λf=>let e:=w64 (a.2.1*2)
 L (.inl (a.1,e,f))) (let c:=w64 (a.2.1*2)
 L (.inl (a.1,c,a.2.2.2)))) (L (.inr j))
def j22[LP]:=lp3 j0W
theorem j5m(a b c):j22 a b c=lpK (j0W a b c) (λh=>j22 h.1 h.2.1 h.2.2):=j05 _ _
def j4p[LP](a:Tn32)(c:J):N Tn32:=(j21 c 20 0 20 a).bind λb=>(j0A b.2.2.2 b.2.2.1 b.1).bind λd=>(j22 b.1 b.2.1 d).bind λe=>L e
def j0H[LP](a:Tn32):N Tn32:=
 let b:=O a.length
 (j4p a b).bind λc=>L c
def j34[LP](p o:J)(j:Tn68)(n c:J)(q:Tn57)(e:Tn51)(f:Tn28)(g:Tn68)(i:Tn22)(d:Tn23):N ((J×J×Tn68×J×J×Tn57×Tn51×Tn28×Tn68×Tn22×Tn23) ⊕ (J ⊕ Tn23)):=cond (K (c<n)) (cond (inR c j.length) (let a:=M j c.toNat (Y,[],[])
 (j4m ((q,e,f,g),i) a p o).bind λb=>let m:=O b.length
 cond (K (m>16384)) (L (.inr (.inl 5))) (cond (K (S d+S [b]<=j03)) (let k:Tn23:=d++[b]
 let l:=w64 (c+1)
 L (.inl (p,o,j,n,l,q,e,f,g,i,k))) W)) W) (L (.inr (.inr d)))
def j43[LP]:=c8 c3 (LP.lp (u8 unc3 j34))
abbrev jaJ:=eq11 j34 j43
def j35[LP](d b l m:J)(a:Tn23)(e:Tn32):N ((J×J×J×J×Tn23×Tn32) ⊕ (J×J×Tn23×Tn32)):=
 let j:=O a.length
 cond (K (b<j)) (cond (inR d a.length) (let g:=M a d.toNat ([]:Tn15)
 cond (inR b a.length) (let i:=M a b.toNat ([]:Tn15)
 (j8h g i d b).bind λc=>cond (K (S e+S c<=j03)) (let f:Tn32:=e++c
 let k:=w64 (b+1)
 L (.inl (d,k,l,m,a,f))) W) W) W) (L (.inr (l,m,a,e)))
def j7b[LP]:=lp6 j35
abbrev jaK:=eq6 j35 j7b
def j36[LP](e b:J)(g:Tn23)(f:Tn32):N ((J×J×Tn23×Tn32) ⊕ (Tn32)):=cond (K (b<e)) (let d:=w64 (b+1)
 (j7b b d e b g f).bind λa=>let c:=w64 (a.2.1+1)
 L (.inl (a.1,c,a.2.2.1,a.2.2.2))) (L (.inr f))
def j7c[LP]:=lp4 j36
abbrev jaL:=eq4 j36 j7c
def j7s[LP](a:Tn74)(c d:J):N (Tn32×J):=(jfk a).bind λb=>cond (!b.2) (L (([]:Tn32),8)) ((jaW c d).bind λj=>cond (!j) (L (([]:Tn32),1)) (let i:=O a.2.2.2.length
 (j43 c d a.2.2.2 i 0 b.1.1.1 b.1.1.2.1 b.1.1.2.2.1 b.1.1.2.2.2 b.1.2 ([]:Tn23)).bind λl=>sumC l (λn=>L (([]:Tn32),n)) (λm=>let e:=O m.length
 (j7c e 0 m ([]:Tn32)).bind λk=>let g:=O k.length
 cond (K (g>16384)) (L (([]:Tn32),5)) ((j0H k).bind λf=>L (f,0)))))
def j4q(i n:J)(l:Tn2)(m d:J):N ((J×J×Tn2×J×J) ⊕ (J)):=cond (K (d<m)) (cond (inR d l.length) (let a:=M l d.toNat (0,0)
 let e:Int:=if i<a.2 then i else a.2
 let b:=w64 (i-604800)
 let k:Int:=if b>a.1 then b else a.1
 let c:=w64 (e-k)
 let f:Int:=if c>0 then c else 0
 let j:=w64 (n+f)
 let g:=w64 (d+1)
 L (.inl (i,j,l,m,g))) W) (L (.inr n))
def jbT[LP]:=lp5 j4q
abbrev jd1:=eq5 j4q jbT
def j8L[LP](a:Tn2)(b:J):N Int:=
 let c:=O a.length
 (jbT b 0 a c 0).bind λd=>L d
def j57(o:Tn2)(m l n:J)(d:Tn2)(j b:J)(k:U J):N ((Tn2×J×J×J×Tn2×J×J×(U J)) ⊕ (Tn2×J×J×J×(U J))):=cond (K (b<j)) (cond (inR b d.length) (let a:=M d b.toNat (0,0)
 let f:=w64 (a.1+604800)
 let g:=w64 (a.2+604800)
 let c:U Int:=[a.1,a.2,f,g]
 cond (K (S k+S c<=j03)) (let e:U Int:=k++c
 let i:=w64 (b+1)
 L (.inl (o,m,l,n,d,j,i,e))) W) W) (L (.inr (o,m,l,n,k)))
def jd2[LP]:=lp8 j57
abbrev jdS:=eq8 j57 jd2
def j58[LP](o:Tn2)(g q i b:J)(e f:U J):N ((Tn2×J×J×J×J×(U J)×(U J)) ⊕ (U J)):=cond (K (b<i)) (cond (inR b f.length) (let a:=M f b.toNat 0
 (j8L o q).bind λc=>(j8L o a).bind λm=>cond (cond (K (c<=g)) (K (m>g)) Z) (let l:=w64 (q+g)
 let n:=w64 (l-c)
 let d:=w64 (n+1)
 cond (K (S e+S [d]<=j03)) (let j:U Int:=e++[d]
 let k:=w64 (b+1)
 L (.inl (o,g,a,i,k,j,f))) W) (let p:=w64 (b+1)
 L (.inl (o,g,a,i,p,e,f)))) W) (L (.inr e))
def jd3[LP]:=lp7 j58
abbrev jdT:=eq7 j58 jd3
def jdU[LP](a:Tn2)(d b e:J):N (U J):=
 let i:=O a.length
 (jd2 a d b e a i 0 ([]:(U J))).bind λc=>(jgt c.2.2.2.2 c.2.2.1 c.2.2.2.1).bind λf=>let g:=O f.length
 (jd3 c.1 c.2.1 c.2.2.1 g 0 ([]:(U J)) f).bind λj=>L j
def j3F(a:Tn2)(m b:J)(g:U J):N ((Tn2×J×J×(U J)) ⊕ (U J)):=
 let n:=O a.length
 cond (K (b<n)) (cond (inR b a.length) (let k:=M a b.toNat (0,0)
 let c:=w64 (b-1)
 cond (inR c a.length) (let l:=M a c.toNat (0,0)
 let i:=w64 (k.1-l.2)
 cond (K (i<m)) (cond (inR b a.length) (let d:=M a b.toNat (0,0)
 cond (K (S g+S [d.1]<=j03)) (let j:U Int:=g++[d.1]
 let f:=w64 (b+1)
 L (.inl (a,m,f,j))) W) W) (let e:=w64 (b+1)
 L (.inl (a,m,e,g)))) W) W) (L (.inr g))
def jd4[LP]:=lp4 j3F
abbrev ja8:=eq4 j3F jd4
def jdV[LP](b:Tn2)(a:J):N (U J):=(jd4 b a 1 ([]:(U J))).bind λc=>L c
def j5C(b:Tn77)(a:J):N Tn14:=cond (inR a b.2.length) (let c:=M b.2 a.toNat (0,[])
 L c) W
def j4r(e:Tn2)(g c:J)(f:U J):N ((Tn2×J×J×(U J)) ⊕ (U J)):=cond (K (c<g)) (cond (inR c e.length) (let a:=M e c.toNat (0,0)
 cond (K (S f+S [a.1]<=j03)) (let b:U Int:=f++[a.1]
 let d:=w64 (c+1)
 L (.inl (e,g,d,b))) W) W) (L (.inr f))
def j9s[LP]:=lp4 j4r
abbrev jd5:=eq4 j4r j9s
def jck[LP](a:Tn2):N (U J):=
 let b:=O a.length
 (j9s a b 0 ([]:(U J))).bind λc=>L c
def j5n(b a:Tn3):N Int:=cond (b.2.2 != a.2.2) (let d:=w64 (b.2.2-a.2.2)
 L d) (cond (b.1 != a.1) (let e:=w64 (b.1-a.1)
 L e) (let c:=w64 (b.2.1-a.2.1)
 L c))
def j0a(a:Tn15):N Tn15:=
 joQ (.pair (.int .i64) (.pair (.int .i64) (.int .i64))) (λb c=>(j5n b c).getD 0) a
def j0m(i e f:J)(a:Tn15):N ((J×J×J×Tn15) ⊕ (J×Tn15)):=
 let j:=O (S a-e.toNat)
 cond (K (f<j)) (cond (inR f (S a-e.toNat)) (let c:=M a (e.toNat+f.toNat) (0,0,0)
 let g:=w64 (f-1)
 cond (inR g (S a-e.toNat)) (let b:=M a (e.toNat+g.toNat) (0,0,0)
 cond (!((c.1==b.1)&&((c.2.1==b.2.1)&&(c.2.2==b.2.2)))) (cond (inR f (S a-e.toNat)) (let d:=M a (e.toNat+f.toNat) (0,0,0)
 cond (inR i a.length) (let n:Tn15:=Â a i.toNat d
 let k:=w64 (i+1)
 let l:=w64 (f+1)
 L (.inl (k,(O e.toNat),l,n))) W) W) (let m:=w64 (f+1)
 L (.inl (i,(O e.toNat),m,a)))) W) W) (L (.inr (i,a)))
def j0X[LP]:=lp4 j0m
abbrev j2v:=eq4 j0m j0X
def j0n[LP](c:J)(d:Tn15):N ((J×Tn15) ⊕ ((J×Tn15) ⊕ Tn15)):=
 let j:=O d.length
 cond (K (c<j)) (cond (inR c d.length) (let b:=M d c.toNat (0,0,0)
 let f:=w64 (c-1)
 cond (inR f d.length) (let e:=M d f.toNat (0,0,0)
 cond ((b.1==e.1)&&((b.2.1==e.2.1)&&(b.2.2==e.2.2))) (cond (K (0<=c)&&K (c<=(O d.length))) ((j0X c (O c.toNat) 1 d).bind λa=>cond (K (0<=a.1)&&K (a.1<=(O a.2.length))) (let g:Tn15:=Ë a.1.toNat a.2++Å (S a.2-a.1.toNat) (0,0,0)
 cond (K (0<=a.1)&&K (a.1<=(O g.length))) (L (.inr (.inl ((O a.1.toNat),g)))) W) W) W) (let i:=w64 (c+1)
 L (.inl (i,d)))) W) W) (L (.inr (.inr d)))
def j0b[LP]:=lp2 j0n
theorem j2w(b a):j0b b a=lpK (j0n b a) (λh=>j0b h.1 h.2):=j05 _ _
def j0E[LP](a:Tn15):N (J×Tn15):=
 let c:=O a.length
 cond (K (c<2)) (L ((O a.length),a)) ((j0b 1 a).bind λb=>sumC b (λd=>L ((O d.1.toNat),d.2)) (λe=>L ((O e.length),e)))
def j2E(n j b:J)(d:Tn32)(c f e a:U J):N ((J×J×J×Tn32×(U J)×(U J)×(U J)×(U J)) ⊕ (J×(U J)×(U J)×(U J)×(U J))):=cond (K (b<j)) (cond (inR b d.length) (let g:=M d b.toNat (0,0,0,0,0)
 cond (g.1==n) (let i:U Int:=[g.2.2.2.1]
 cond (K (S a+S i<=j03)) (let k:U Int:=a++i
 let m:=w64 (b+1)
 L (.inl (n,j,m,d,c,f,e,k))) W) (let l:=w64 (b+1)
 L (.inl (n,j,l,d,c,f,e,a)))) W) (L (.inr (n,c,f,e,a)))
def j6B[LP]:=lp8 j2E
abbrev ja9:=eq8 j2E j6B
def j2F(m l:J)(f:U (U J))(d:J)(c:U J)(i a:J)(j:Tn15):N ((J×J×(U (U J))×J×(U J)×J×J×Tn15) ⊕ (J×(U (U J))×J×Tn15)):=cond (K (a<i)) (cond (inR a c.length) (let g:=M c a.toNat 0
 let b:Tn15:=[(l,m,g)]
 cond (K (S j+S b<=j03)) (let e:Tn15:=j++b
 let k:=w64 (a+1)
 L (.inl (m,l,f,d,c,i,k,e))) W) W) (L (.inr (m,f,d,j)))
def j3G[LP]:=lp8 j2F
abbrev jaa:=eq8 j2F j3G
def j13[LP](i:J)(f:U (U J))(a:J)(g:Tn15):N ((J×(U (U J))×J×Tn15) ⊕ (Tn15)):=cond (K (a<4)) (cond (inR a 4) (let c:=M f a.toNat ([]:(U J))
 let d:=O c.length
 (j3G i a f a c d 0 g).bind λb=>let e:=w64 (b.2.2.1+1)
 L (.inl (b.1,b.2.1,e,b.2.2.2))) W) (L (.inr g))
def j59[LP]:=lp4 j13
theorem j3v(d:J)(b:U (U J))(a:J)(c:Tn15):j59 d b a c=lpK (j13 d b a c) (λh=>j59 h.1 h.2.1 h.2.2.1 h.2.2.2):=j05 _ _
def j37[LP](j:Tn32×J)(b:J)(m l n:U J):N (Tn15×J):=
 let f:=O j.1.length
 (j6B b f 0 j.1 m l n ([]:(U J))).bind λa=>let g:(U (U J)):=[a.2.1,a.2.2.1,a.2.2.2.1,a.2.2.2.2]
 (j59 a.1 g 0 ([]:Tn15)).bind λk=>(j0a k).bind λi=>(j0E i).bind λd=>let c:Tn15:=Ë d.1.toNat d.2
 let e:=O c.length
 cond (K (e>16384)) (L (([]:Tn15),5)) (L (c,0))
def j5a[LP](f:Tn47)(b:Tn77×J)(e j:J)(m:Tn2×J)(l:Tn32×J)(a:J)(o n:U J):N (Tn15×J):=cond (!f.2.2.2.2.2) ((j5C b.1 f.2.1).bind λc=>(j4f c f.2.2.1 e j).bind λk=>(jcV m.1 k).bind λd=>let g:=O d.length
 cond (K (g>4096)) (L (([]:Tn15),5)) ((jck d).bind λi=>j37 l a o n i)) (j37 l a o n ([]:(U J)))
def j5b[LP](c:Tn47)(e:Tn2×J)(g:Tn77×J)(b d:J)(i:Tn32×J)(a:J)(j:U J):N (Tn15×J):=cond (c.2.2.2.2.1 != 0) ((jdV e.1 c.2.2.2.2.1).bind λf=>j5a c g b d e i a j f) (j5a c g b d e i a j ([]:(U J)))
def j1H[LP](c:Tn74)(a b d:J):N (Tn15×J):=(j5z c a b d).bind λe=>cond (e.2 != 0) (L (([]:Tn15),e.2)) ((j7a e.1 a b d).bind λf=>cond (f.2 != 0) (L (([]:Tn15),f.2)) ((j7s c b d).bind λi=>cond (i.2 != 0) (L (([]:Tn15),i.2)) (cond (inR a c.2.1.length) (let g:=M c.2.1 a.toNat (Y,0,[],0,0,Z)
 cond (g.2.2.2.1 != 0) ((jdU f.1 g.2.2.2.1 b d).bind λj=>j5b g f e b d i a j) (j5b g f e b d i a ([]:(U J)))) W)))
def j8M[LP](d:Tn74)(a c e:J):N (Tn2×J):=(j5z d a c e).bind λb=>cond (b.2 != 0) (L (([]:Tn2),b.2)) ((j7a b.1 a c e).bind λf=>L f)
def j5h(a:J×J):N Int:=(j71 a.1).bind λc=>let b:=w64 (c*86400)
 let d:=w64 (b+a.2)
 L d
def j7t(d:J)(e:Tn2)(f c:J):N ((J×Tn2×J×J) ⊕ (Æ ⊕ Ê)):=cond (K (c<f)) (cond (inR c e.length) (let a:=M e c.toNat (0,0)
 cond (cond (K (a.1<=d)) (K (d<a.2)) Z) (L (.inr (.inl Á))) (let b:=w64 (c+1)
 L (.inl (d,e,f,b)))) W) (L (.inr (.inr ())))
def jih[LP]:=lp4 j7t
abbrev jhH:=eq4 j7t jih
def jj3[LP](a:Tn2)(b:J):N Bool:=
 let d:=O a.length
 (jih b a d 0).bind λc=>sumC c (λe=>L e) (λf=>L Z)
def j4V[LP](c:Tn74)(a d:J)(f:Æ):N Bool:=(j5z c a d d).bind λb=>cond (b.2 != 0) (L Z) (cond (inR a c.2.1.length) (let e:=M c.2.1 a.toNat (Y,0,[],0,0,Z)
 cond f (cond e.2.2.2.2.2 (L Á) ((j5C b.1 e.2.1).bind λm=>(j1V m d).bind λl=>(j5h l).bind λn=>(jj3 e.2.2.1 n).bind λo=>L (!o))) ((j5C b.1 e.2.1).bind λg=>(j1V g d).bind λi=>(j5h i).bind λk=>(jj3 e.2.2.1 k).bind λj=>L (!j))) W)
def jhi[LP]  : N Bool:=(jmf 144000 39600 Z).bind λa=>(j1H a 0 86400 286400).bind λb=>let n:Tn32:=[(0,0,0,90000,126000)]
 cond (inR 0 a.2.2.2.length) (let g:Tn68:=Â a.2.2.2 0 ((M a.2.2.2 0 (Y,[],[])).1,(M a.2.2.2 0 (Y,[],[])).2.1,n)
 (j1H (a.1,a.2.1,a.2.2.1,g) 0 86400 172800).bind λc=>(j8M (a.1,a.2.1,a.2.2.1,g) 0 86400 172800).bind λm=>let o:=O b.1.length
 let k:Bool:=cond (cond (cond (b.2==0) (c.2==0) Z) (m.2==0) Z) (o==2) Z
 cond ((inR 0 b.1.length) || !k) (let d:=M b.1 0 (0,0,0)
 let j:Bool:=cond k ((d.1==2)&&((d.2.1==0)&&(d.2.2==172800))) Z
 cond ((inR 1 b.1.length) || !j) (let f:=M b.1 1 (0,0,0)
 let l:Bool:=cond j ((f.1==0)&&((f.2.1==0)&&(f.2.2==230401))) Z
 let i:=O c.1.length
 cond ((inR 0 c.1.length) || !(cond l (i==1) Z)) (let e:=M c.1 0 (0,0,0)
 let r:Bool:=cond (cond l (i==1) Z) ((e.1==1)&&((e.2.1==0)&&(e.2.2==126000))) Z
 let p:=O m.1.length
 cond (cond r (p==2) Z) ((j4V (a.1,a.2.1,a.2.2.1,g) 0 86400 Z).bind λq=>cond q ((j4V (a.1,a.2.1,a.2.2.1,g) 0 172800 Á).bind λs=>L (!s)) (L Z)) (L Z)) W) W) W) W
def jmh(a:U J):N ((U J)×J):=L (a,0)
def j02(b:U J)(a c:J):N (J×(U J)×J):=
 let g:=O b.length
 cond (K (a>=g)) (L (0,b,a)) (cond (K (c<1)) (L (0,b,a)) (cond (inR a b.length) (let i:=M b a.toNat 0
 cond (!(c==0)) (let d:=Ä i c
 let e:=w64 (a+1)
 cond (K (d<0)) (let f:=w64 (d+c)
 L (f,b,e)) (L (d,b,e))) W) W))
def j09(d:U J)(b:J)(a:U J):N (J×(U J)×J):=
 let f:=O a.length
 (j02 d b f).bind λc=>cond (inR c.1 a.length) (let e:=M a c.1.toNat 0
 L (e,c.2.1,c.2.2)) W
def jbg(a0:U J)(w:J)(a:X):N (Tn55×(U J)×J):=
 let b6:U Int:=[0,4,(-20),22,48,(-47)]
 (j09 a0 w b6).bind λv=>(j02 v.2.1 v.2.2 2).bind λk=>(j02 k.2.1 k.2.2 3).bind λm=>let a2:=w64 (k.1*m.1)
 let b3:=w64 (v.1+a2)
 let c:=w64 (900*b3)
 (j02 m.2.1 m.2.2 2).bind λi=>let g:=w64 (2025+i.1)
 (j02 i.2.1 i.2.2 4).bind λb=>cond (b.1==1) (let a9:=w64 (c+3600)
 let a4:Tn45:=[(2025,g,3,5,6,7200,a9),(2025,g,10,5,6,10800,c)]
 L ((a,c,a4),b.2.1,b.2.2)) (cond (b.1==2) ((j02 b.2.1 b.2.2 4).bind λp=>let a5:=w64 (1+p.1)
 (j02 p.2.1 p.2.2 7).bind λx=>(j02 x.2.1 x.2.2 24).bind λu=>let a8:=w64 (3600*u.1)
 (j02 u.2.1 u.2.2 8).bind λj=>let b5:=w64 (1+j.1)
 let b2:=w64 (1800*b5)
 let b0:=w64 (c+b2)
 (j02 j.2.1 j.2.2 2).bind λr=>let a1:=w64 (2+r.1)
 let b1:U Int:=[2,3,5]
 (j09 r.2.1 r.2.2 b1).bind λt=>(j02 t.2.1 t.2.2 7).bind λl=>(j02 l.2.1 l.2.2 24).bind λs=>let a3:=w64 (3600*s.1)
 let b4:Tn45:=[(2025,g,1,a5,x.1,a8,b0),(2025,g,a1,t.1,l.1,a3,c)]
 L ((a,c,b4),s.2.1,s.2.2)) (cond (b.1==3) (let a7:U Int:=[3600,(-3600),82800,(-82800),43200]
 (j09 b.2.1 b.2.2 a7).bind λf=>let n:=w64 (c+f.1)
 cond (cond (K (n>64800)) Á (K (n<(-64800)))) ((j02 f.2.1 f.2.2 7).bind λo=>(j02 o.2.1 o.2.2 48).bind λq=>let b7:=w64 (1800*q.1)
 let a6:Tn45:=[(2026,2026,1,2,o.1,b7,0)]
 L ((a,c,a6),q.2.1,q.2.2)) ((j02 f.2.1 f.2.2 7).bind λe=>(j02 e.2.1 e.2.2 48).bind λd=>let y:=w64 (1800*d.1)
 let z:Tn45:=[(2026,2026,1,2,e.1,y,n)]
 L ((a,c,z),d.2.1,d.2.2))) (L ((a,c,([]:Tn45)),b.2.1,b.2.2))))
def jeK  : N (U X):=
 let a:U ByteArray:=[(À #[97,100,97]),(À #[98,111,98]),(À #[99,108,101,111]),(À #[100,97,110]),(À #[101,118,101]),(À #[102,97,121]),(À #[103,117,115]),(À #[104,97,108])]
 L a
def j1f(d:U J)(a b:J):N (Æ×(U J)×J):=(j02 d a b).bind λc=>let e:=w64 (b-1)
 L ((c.1==e),c.2.1,c.2.2)
def j2G(r q:J)(p:U J)(g:J)(l:Tn2):N ((J×J×(U J)×J×Tn2) ⊕ ((U J)×J×Tn2)):=cond (K (q>0)) ((j02 p g 30).bind λd=>let k:=w64 (3600*d.1)
 let j:=w64 (r+k)
 (j02 d.2.1 d.2.2 2).bind λc=>let o:=w64 (60*c.1)
 let e:=w64 (j+o)
 let i:U Int:=[3600,28800,43200,86400,61,1]
 (j09 c.2.1 c.2.2 i).bind λa=>let b:=w64 (e+a.1)
 cond (K (b>604800)) (L (.inr (a.2.1,a.2.2,l))) (let f:Tn2:=[(e,b)]
 cond (K (S l+S f<=j03)) (let m:Tn2:=l++f
 let n:=w64 (q-1)
 L (.inl (b,n,a.2.1,a.2.2,m))) W)) (L (.inr (p,g,l)))
def j91[LP]:=lp5 j2G
abbrev jab:=eq5 j2G j91
def j5p[LP](d:U J)(a:J):N (Tn2×(U J)×J):=(j02 d a 4).bind λb=>(j91 0 b.1 b.2.1 b.2.2 ([]:Tn2)).bind λc=>L (c.2.2,c.1,c.2.1)
def j3w(l:J)(k:U J)(f:J)(b:Tn57):N ((J×(U J)×J×Tn57) ⊕ ((U J)×J×Tn57)):=cond (K (l>0)) (let d:U ByteArray:=[(À #[104,101,114,101]),(À #[116,104,101,114,101])]
 let c:=O b.length
 cond (inR c d.length) (let g:=M d c.toNat Y
 (jbg k f g).bind λa=>let e:Tn57:=[a.1]
 cond (K (S b+S e<=j03)) (let j:Tn57:=b++e
 let i:=w64 (l-1)
 L (.inl (i,a.2.1,a.2.2,j))) W) W) (L (.inr (k,f,b)))
def j7Z[LP]:=lp4 j3w
theorem jby(d c b a):j7Z d c b a=lpK (j3w d c b a) (λh=>j7Z h.1 h.2.1 h.2.2.1 h.2.2.2):=j05 _ _
def j3x[LP](a4:J)(a5:U J)(q:J)(g:Tn57)(b:Tn51):N ((J×(U J)×J×Tn57×Tn51) ⊕ ((U J)×J×Tn57×Tn51)):=cond (K (a4>0)) ((jeK).bind λo=>let l:=O b.length
 cond (inR l o.length) (let p:=M o l.toNat Y
 let w:=O g.length
 (j02 a5 q w).bind λd=>(j1f d.2.1 d.2.2 3).bind λc=>(j1f c.2.1 c.2.2 2).bind λa=>cond a.1 ((j5p a.2.1 a.2.2).bind λe=>let a1:U Int:=[0,40,100,12]
 (j09 e.2.1 e.2.2 a1).bind λk=>let x:=w64 (3600*k.1)
 let y:U Int:=[0,11,24,1]
 (j09 k.2.1 k.2.2 y).bind λj=>let s:=w64 (3600*j.1)
 let m:Tn51:=[(p,d.1,e.1,x,s,c.1)]
 cond (K (S b+S m<=j03)) (let a2:Tn51:=b++m
 let u:=w64 (a4-1)
 L (.inl (u,j.2.1,j.2.2,g,a2))) W) (let a3:U Int:=[0,40,100,12]
 (j09 a.2.1 a.2.2 a3).bind λf=>let v:=w64 (3600*f.1)
 let t:U Int:=[0,11,24,1]
 (j09 f.2.1 f.2.2 t).bind λi=>let a0:=w64 (3600*i.1)
 let n:Tn51:=[(p,d.1,([]:Tn2),v,a0,c.1)]
 cond (K (S b+S n<=j03)) (let r:Tn51:=b++n
 let z:=w64 (a4-1)
 L (.inl (z,i.2.1,i.2.2,g,r))) W)) W) (L (.inr (a5,q,g,b)))
def j80[LP]:=lp5 j3x
theorem jbz(e d b a c):j80 e d b a c=lpK (j3x e d b a c) (λh=>j80 h.1 h.2.1 h.2.2.1 h.2.2.2.1 h.2.2.2.2):=j05 _ _
def j3y(m o p:J)(n:U J)(e:J)(q:X)(g:J)(d:Tn57)(i:Tn51)(j:Tn28)(c:U J):N ((J×J×J×(U J)×J×X×J×Tn57×Tn51×Tn28×(U J)) ⊕ (J×(U J)×J×X×J×Tn57×Tn51×Tn28×(U J))):=cond (K (o>0)) ((j02 n e 6).bind λb=>let k:=w64 (1+b.1)
 let a:=w64 (p+k)
 cond (K (S c+S [a]<=j03)) (let f:U Int:=c++[a]
 let l:=w64 (o-1)
 L (.inl (m,l,a,b.2.1,b.2.2,q,g,d,i,j,f))) W) (L (.inr (m,n,e,q,g,d,i,j,c)))
def jac[LP]:=c8 c3 (LP.lp (u8 unc3 j3y))
abbrev jbA:=eq11 j3y jac
def j3z[LP](m:J)(n:U J)(f:J)(e:Tn57)(i:Tn51)(j:Tn28):N ((J×(U J)×J×Tn57×Tn51×Tn28) ⊕ ((U J)×J×Tn57×Tn51×Tn28)):=cond (K (m>0)) (let l:=O e.length
 (j02 n f l).bind λb=>(j02 b.2.1 b.2.2 4).bind λc=>(jac m c.1 20454 c.2.1 c.2.2 (À #[100,97,121,115]) b.1 e i j ([]:(U J))).bind λa=>let d:Tn28:=[(a.2.2.2.1,a.2.2.2.2.1,a.2.2.2.2.2.2.2.2)]
 cond (K (S a.2.2.2.2.2.2.2.1+S d<=j03)) (let g:Tn28:=a.2.2.2.2.2.2.2.1++d
 let k:=w64 (a.1-1)
 L (.inl (k,a.2.1,a.2.2.1,a.2.2.2.2.2.1,a.2.2.2.2.2.2.1,g))) W) (L (.inr (n,f,e,i,j)))
def j81[LP]:=lp6 j3z
theorem jbB(e f b a c d):j81 e f b a c d=lpK (j3z e f b a c d) (λh=>j81 h.1 h.2.1 h.2.2.1 h.2.2.2.1 h.2.2.2.2.1 h.2.2.2.2.2):=j05 _ _
def jad[LP](i:U J)(c:J):N (Tn74×(U J)×J):=(j02 i c 2).bind λe=>let j:=w64 (1+e.1)
 (j7Z j e.2.1 e.2.2 ([]:Tn57)).bind λg=>(j02 g.1 g.2.1 4).bind λb=>let k:=w64 (1+b.1)
 (j80 k b.2.1 b.2.2 g.2.2 ([]:Tn51)).bind λf=>(j02 f.1 f.2.1 2).bind λd=>(j81 d.1 d.2.1 d.2.2 f.2.2.1 f.2.2.2 ([]:Tn28)).bind λa=>L ((a.2.2.1,a.2.2.2.1,a.2.2.2.2,([]:Tn68)),a.1,a.2.1)
def j3A(z:J)(a1:U J)(l:J)(a2:Tn57)(b:Tn51)(m:Tn28)(f:Tn68)(y:X)(u p q e j t r:J)(a0:X)(g d o s k n i:J)(c:U J):N ((J×(U J)×J×Tn57×Tn51×Tn28×Tn68×X×J×J×J×J×J×J×J×X×J×J×J×J×J×J×J×(U J)) ⊕ ((U J)×J×Tn57×Tn51×Tn28×Tn68×X×J×J×J×J×J×J×J×X×J×J×J×J×J×J×J×(U J))):=cond (K (z>0)) (let x:=O b.length
 (j02 a1 l x).bind λa=>cond (K (S c+S [a.1]<=j03)) (let v:U Int:=c++[a.1]
 let w:=w64 (z-1)
 L (.inl (w,a.2.1,a.2.2,a2,b,m,f,y,u,p,q,e,j,t,r,a0,g,d,o,s,k,n,i,v))) W) (L (.inr (a1,l,a2,b,m,f,y,u,p,q,e,j,t,r,a0,g,d,o,s,k,n,i,c)))
def j82[LP]:=c8 (c8 d8) (LP.lp (u8 (u8 unc8) j3A))
abbrev jbC:=eq24 j3A j82
def jae[LP](b5:U J)(a3:J)(c:Tn74)(j:X):N (Tn62×(U J)×J):=
 let b8:=O c.1.length
 (j02 b5 a3 b8).bind λw=>(j02 w.2.1 w.2.2 6).bind λy=>let c1:=w64 (20454+y.1)
 let b4:=w64 (c1-2)
 let b7:U Int:=[0,32400,7200,9000,79200,1]
 (j09 y.2.1 y.2.2 b7).bind λv=>(j02 v.2.1 v.2.2 3).bind λt=>(j02 t.2.1 t.2.2 2).bind λr=>let c3:=w64 (1+r.1)
 cond (t.1==0) (let c4:U Int:=[6,8,12,24,23,49]
 (j09 r.2.1 r.2.2 c4).bind λa0=>(j02 a0.2.1 a0.2.2 3).bind λa2=>let b9:=w64 (1+a2.1)
 (j82 b9 a2.2.1 a2.2.2 c.1 c.2.1 c.2.2.1 c.2.2.2 Y 0 0 0 0 0 0 0 j w.1 b4 v.1 t.1 a0.1 0 0 ([]:(U J))).bind λb=>(j1f b.1 b.2.1 2).bind λu=>cond u.1 ((j5p u.2.1 u.2.2).bind λx=>(j1f x.2.1 x.2.2 4).bind λs=>let c0:=O b.2.2.2.2.1.length
 cond (cond s.1 (K (c0>0)) Z) (let c2:=O b.2.2.2.2.1.length
 (j02 s.2.1 s.2.2 c2).bind λa1=>(j02 a1.2.1 a1.2.2 2).bind λz=>let b6:=w64 (1+z.1)
 L ((b.2.2.2.2.2.2.2.2.2.2.2.2.2.2.1,b.2.2.2.2.2.2.2.2.2.2.2.2.2.2.2.1,(b.2.2.2.2.2.2.2.2.2.2.2.2.2.2.2.2.1,b.2.2.2.2.2.2.2.2.2.2.2.2.2.2.2.2.2.1),b.2.2.2.2.2.2.2.2.2.2.2.2.2.2.2.2.2.2.1,b.2.2.2.2.2.2.2.2.2.2.2.2.2.2.2.2.2.2.2.1,b.2.2.2.2.2.2.2.2.2.2.2.2.2.2.2.2.2.2.2.2.2.2,x.1,a1.1,b6),z.2.1,z.2.2)) (L ((b.2.2.2.2.2.2.2.2.2.2.2.2.2.2.1,b.2.2.2.2.2.2.2.2.2.2.2.2.2.2.2.1,(b.2.2.2.2.2.2.2.2.2.2.2.2.2.2.2.2.1,b.2.2.2.2.2.2.2.2.2.2.2.2.2.2.2.2.2.1),b.2.2.2.2.2.2.2.2.2.2.2.2.2.2.2.2.2.2.1,b.2.2.2.2.2.2.2.2.2.2.2.2.2.2.2.2.2.2.2.1,b.2.2.2.2.2.2.2.2.2.2.2.2.2.2.2.2.2.2.2.2.2.2,x.1,b.2.2.2.2.2.2.2.2.2.2.2.2.2.2.2.2.2.2.2.2.1,b.2.2.2.2.2.2.2.2.2.2.2.2.2.2.2.2.2.2.2.2.2.1),s.2.1,s.2.2))) ((j1f u.2.1 u.2.2 4).bind λd=>let a9:=O b.2.2.2.2.1.length
 cond (cond d.1 (K (a9>0)) Z) (let a4:=O b.2.2.2.2.1.length
 (j02 d.2.1 d.2.2 a4).bind λp=>(j02 p.2.1 p.2.2 2).bind λq=>let a8:=w64 (1+q.1)
 L ((b.2.2.2.2.2.2.2.2.2.2.2.2.2.2.1,b.2.2.2.2.2.2.2.2.2.2.2.2.2.2.2.1,(b.2.2.2.2.2.2.2.2.2.2.2.2.2.2.2.2.1,b.2.2.2.2.2.2.2.2.2.2.2.2.2.2.2.2.2.1),b.2.2.2.2.2.2.2.2.2.2.2.2.2.2.2.2.2.2.1,b.2.2.2.2.2.2.2.2.2.2.2.2.2.2.2.2.2.2.2.1,b.2.2.2.2.2.2.2.2.2.2.2.2.2.2.2.2.2.2.2.2.2.2,([]:Tn2),p.1,a8),q.2.1,q.2.2)) (L ((b.2.2.2.2.2.2.2.2.2.2.2.2.2.2.1,b.2.2.2.2.2.2.2.2.2.2.2.2.2.2.2.1,(b.2.2.2.2.2.2.2.2.2.2.2.2.2.2.2.2.1,b.2.2.2.2.2.2.2.2.2.2.2.2.2.2.2.2.2.1),b.2.2.2.2.2.2.2.2.2.2.2.2.2.2.2.2.2.2.1,b.2.2.2.2.2.2.2.2.2.2.2.2.2.2.2.2.2.2.2.1,b.2.2.2.2.2.2.2.2.2.2.2.2.2.2.2.2.2.2.2.2.2.2,([]:Tn2),b.2.2.2.2.2.2.2.2.2.2.2.2.2.2.2.2.2.2.2.2.1,b.2.2.2.2.2.2.2.2.2.2.2.2.2.2.2.2.2.2.2.2.2.1),d.2.1,d.2.2)))) ((j02 r.2.1 r.2.2 3).bind λk=>let b0:=w64 (1+k.1)
 (j82 b0 k.2.1 k.2.2 c.1 c.2.1 c.2.2.1 c.2.2.2 Y 0 0 0 0 0 0 0 j w.1 b4 v.1 t.1 c3 0 0 ([]:(U J))).bind λa=>(j1f a.1 a.2.1 2).bind λe=>cond e.1 ((j5p e.2.1 e.2.2).bind λi=>(j1f i.2.1 i.2.2 4).bind λg=>let a7:=O a.2.2.2.2.1.length
 cond (cond g.1 (K (a7>0)) Z) (let b1:=O a.2.2.2.2.1.length
 (j02 g.2.1 g.2.2 b1).bind λl=>(j02 l.2.1 l.2.2 2).bind λm=>let a6:=w64 (1+m.1)
 L ((a.2.2.2.2.2.2.2.2.2.2.2.2.2.2.1,a.2.2.2.2.2.2.2.2.2.2.2.2.2.2.2.1,(a.2.2.2.2.2.2.2.2.2.2.2.2.2.2.2.2.1,a.2.2.2.2.2.2.2.2.2.2.2.2.2.2.2.2.2.1),a.2.2.2.2.2.2.2.2.2.2.2.2.2.2.2.2.2.2.1,a.2.2.2.2.2.2.2.2.2.2.2.2.2.2.2.2.2.2.2.1,a.2.2.2.2.2.2.2.2.2.2.2.2.2.2.2.2.2.2.2.2.2.2,i.1,l.1,a6),m.2.1,m.2.2)) (L ((a.2.2.2.2.2.2.2.2.2.2.2.2.2.2.1,a.2.2.2.2.2.2.2.2.2.2.2.2.2.2.2.1,(a.2.2.2.2.2.2.2.2.2.2.2.2.2.2.2.2.1,a.2.2.2.2.2.2.2.2.2.2.2.2.2.2.2.2.2.1),a.2.2.2.2.2.2.2.2.2.2.2.2.2.2.2.2.2.2.1,a.2.2.2.2.2.2.2.2.2.2.2.2.2.2.2.2.2.2.2.1,a.2.2.2.2.2.2.2.2.2.2.2.2.2.2.2.2.2.2.2.2.2.2,i.1,a.2.2.2.2.2.2.2.2.2.2.2.2.2.2.2.2.2.2.2.2.1,a.2.2.2.2.2.2.2.2.2.2.2.2.2.2.2.2.2.2.2.2.2.1),g.2.1,g.2.2))) ((j1f e.2.1 e.2.2 4).bind λf=>let b2:=O a.2.2.2.2.1.length
 cond (cond f.1 (K (b2>0)) Z) (let a5:=O a.2.2.2.2.1.length
 (j02 f.2.1 f.2.2 a5).bind λn=>(j02 n.2.1 n.2.2 2).bind λo=>let b3:=w64 (1+o.1)
 L ((a.2.2.2.2.2.2.2.2.2.2.2.2.2.2.1,a.2.2.2.2.2.2.2.2.2.2.2.2.2.2.2.1,(a.2.2.2.2.2.2.2.2.2.2.2.2.2.2.2.2.1,a.2.2.2.2.2.2.2.2.2.2.2.2.2.2.2.2.2.1),a.2.2.2.2.2.2.2.2.2.2.2.2.2.2.2.2.2.2.1,a.2.2.2.2.2.2.2.2.2.2.2.2.2.2.2.2.2.2.2.1,a.2.2.2.2.2.2.2.2.2.2.2.2.2.2.2.2.2.2.2.2.2.2,([]:Tn2),n.1,b3),o.2.1,o.2.2)) (L ((a.2.2.2.2.2.2.2.2.2.2.2.2.2.2.1,a.2.2.2.2.2.2.2.2.2.2.2.2.2.2.2.1,(a.2.2.2.2.2.2.2.2.2.2.2.2.2.2.2.2.1,a.2.2.2.2.2.2.2.2.2.2.2.2.2.2.2.2.2.1),a.2.2.2.2.2.2.2.2.2.2.2.2.2.2.2.2.2.2.1,a.2.2.2.2.2.2.2.2.2.2.2.2.2.2.2.2.2.2.2.1,a.2.2.2.2.2.2.2.2.2.2.2.2.2.2.2.2.2.2.2.2.2.2,([]:Tn2),a.2.2.2.2.2.2.2.2.2.2.2.2.2.2.2.2.2.2.2.2.1,a.2.2.2.2.2.2.2.2.2.2.2.2.2.2.2.2.2.2.2.2.2.1),f.2.1,f.2.2))))
def j5q(e:U J)(b:J):N (J×(U J)×J):=(j02 e b 576).bind λd=>let j:=w64 (3600*d.1)
 let g:=w64 (1767139200+j)
 (j1f d.2.1 d.2.2 3).bind λc=>cond c.1 (let f:U Int:=[(-1),1,1800,3599]
 (j09 c.2.1 c.2.2 f).bind λa=>let i:=w64 (g+a.1)
 L (i,a.2.1,a.2.2)) (L (g,c.2.1,c.2.2))
def j7I(n:U J)(l:J)(m:(U Ê)×(U Ê)×(U Ê)×(U Ê)):N (Tn26×(U J)×J):=
 let k:=O m.2.1.length
 (j02 n l 3).bind λa=>(j02 a.2.1 a.2.2 k).bind λe=>(j5q e.2.1 e.2.2).bind λb=>let q:U Int:=[3600,86400,7,259200,40000]
 (j09 b.2.1 b.2.2 q).bind λc=>let f:=w64 (b.1+c.1)
 cond (a.1==2) (cond (K (k<2)) (L ((0,e.1,0,b.1,f),c.2.1,c.2.2)) (let r:=w64 (e.1+1)
 let o:=w64 (k-1)
 (j02 c.2.1 c.2.2 o).bind λg=>let p:=w64 (r+g.1)
 cond (!(k==0)) (let j:=Ä p k
 cond (a.1==1) ((j1f g.2.1 g.2.2 4).bind λi=>cond i.1 (L ((a.1,(-1),j,b.1,f),i.2.1,i.2.2)) (L ((a.1,e.1,j,b.1,f),i.2.1,i.2.2))) (L ((a.1,e.1,j,b.1,f),g.2.1,g.2.2))) W)) (cond (a.1==1) ((j1f c.2.1 c.2.2 4).bind λd=>cond d.1 (L ((a.1,(-1),0,b.1,f),d.2.1,d.2.2)) (L ((a.1,e.1,0,b.1,f),d.2.1,d.2.2))) (L ((a.1,e.1,0,b.1,f),c.2.1,c.2.2)))
def j38[LP](o p:J)(q:U J)(j:J)(n:Tn57)(e:Tn51)(c:Tn28)(r:X)(d:Tn68)(b:Tn63):N ((J×J×(U J)×J×Tn57×Tn51×Tn28×X×Tn68×Tn63) ⊕ (J×(U J)×J×Tn57×Tn51×Tn28×X×Tn68×Tn63)):=cond (K (p>0)) ((jeK).bind λi=>let g:=O b.length
 cond (inR g i.length) (let m:=M i g.toNat Y
 (jae q j (n,e,c,d) m).bind λa=>let f:Tn63:=[a.1]
 cond (K (S b+S f<=j03)) (let k:Tn63:=b++f
 let l:=w64 (p-1)
 L (.inl (o,l,a.2.1,a.2.2,n,e,c,r,d,k))) W) W) (L (.inr (o,q,j,n,e,c,r,d,b)))
def j7d[LP]:=c8 c2 (LP.lp (u8 unc2 j38))
theorem jaM(f g i b j e c k d a):j7d f g i b j e c k d a=lpK (j38 f g i b j e c k d a) (λh=>j7d h.1 h.2.1 h.2.2.1 h.2.2.2.1 h.2.2.2.2.1 h.2.2.2.2.2.1 h.2.2.2.2.2.2.1 h.2.2.2.2.2.2.2.1 h.2.2.2.2.2.2.2.2.1 h.2.2.2.2.2.2.2.2.2):=j05 _ _
def j39(m o:J)(n:U J)(i:J)(l:Tn57)(b:Tn51)(c:Tn28)(p:X)(d:Tn68)(g:Tn63)(e:Tn32):N ((J×J×(U J)×J×Tn57×Tn51×Tn28×X×Tn68×Tn63×Tn32) ⊕ (J×(U J)×J×Tn57×Tn51×Tn28×X×Tn68×Tn63×Tn32)):=cond (K (o>0)) ((j7I n i ((Å l.length ()),(Å b.length ()),(Å c.length ()),(Å d.length ()))).bind λa=>let f:Tn32:=[a.1]
 cond (K (S e+S f<=j03)) (let j:Tn32:=e++f
 let k:=w64 (o-1)
 L (.inl (m,k,a.2.1,a.2.2,l,b,c,p,d,g,j))) W) (L (.inr (m,n,i,l,b,c,p,d,g,e)))
def j9A[LP]:=c8 c3 (LP.lp (u8 unc3 j39))
abbrev jaN:=eq11 j39 j9A
def j3a[LP](q:J)(r:U J)(j:J)(s:Tn57)(l:Tn51)(k:Tn28)(e:Tn68):N ((J×(U J)×J×Tn57×Tn51×Tn28×Tn68) ⊕ ((U J)×J×Tn57×Tn51×Tn28×Tn68)):=cond (K (q>0)) (let g:U ByteArray:=[(À #[102,105,114,115,116]),(À #[115,101,99,111,110,100]),(À #[116,104,105,114,100])]
 let o:=O e.length
 let i:=Ä o 3
 cond (inR i g.length) (let n:=M g i.toNat Y
 (j02 r j 4).bind λd=>(j7d q d.1 d.2.1 d.2.2 s l k n e ([]:Tn63)).bind λb=>(j02 b.2.1 b.2.2.1 4).bind λc=>(j9A b.1 c.1 c.2.1 c.2.2 b.2.2.2.1 b.2.2.2.2.1 b.2.2.2.2.2.1 b.2.2.2.2.2.2.1 b.2.2.2.2.2.2.2.1 b.2.2.2.2.2.2.2.2 ([]:Tn32)).bind λa=>let f:Tn68:=[(a.2.2.2.2.2.2.1,a.2.2.2.2.2.2.2.2)]
 cond (K (S a.2.2.2.2.2.2.2.1+S f<=j03)) (let m:Tn68:=a.2.2.2.2.2.2.2.1++f
 let p:=w64 (a.1-1)
 L (.inl (p,a.2.1,a.2.2.1,a.2.2.2.1,a.2.2.2.2.1,a.2.2.2.2.2.1,m))) W) W) (L (.inr (r,j,s,l,k,e)))
def j7e[LP]:=lp7 j3a
theorem jaO(e f a g d b c):j7e e f a g d b c=lpK (j3a e f a g d b c) (λh=>j7e h.1 h.2.1 h.2.2.1 h.2.2.2.1 h.2.2.2.2.1 h.2.2.2.2.2.1 h.2.2.2.2.2.2):=j05 _ _
def j9t[LP](f:U J)(c e:J):N (Tn74×(U J)×J):=(jad f c).bind λa=>(j02 a.2.1 a.2.2 e).bind λd=>let g:=w64 (1+d.1)
 (j7e g d.2.1 d.2.2 a.1.1 a.1.2.1 a.1.2.2.1 ([]:Tn68)).bind λb=>L (b.2.2,b.1,b.2.1)
def jcE(a:Tn74):N (Tn57×Tn51×Tn28×X×Tn63×Tn32):=cond (K (S ([]:Tn57)+S a.1<=j03)) (let m:Tn57:=([]:Tn57)++a.1
 cond (K (S ([]:Tn51)+S a.2.1<=j03)) (let e:Tn51:=([]:Tn51)++a.2.1
 cond (K (S ([]:Tn28)+S a.2.2.1<=j03)) (let j:Tn28:=([]:Tn28)++a.2.2.1
 let g:=O a.2.2.2.length
 cond (K (0<g)) (cond (inR 0 a.2.2.2.length) (let c:=M a.2.2.2 0 (Y,[],[])
 cond (K (S ([]:Tn63)+S c.2.1<=j03)) (let f:Tn63:=([]:Tn63)++c.2.1
 cond (K (S ([]:Tn32)+S c.2.2<=j03)) (let i:Tn32:=([]:Tn32)++c.2.2
 let d:=O a.2.2.2.length
 cond (K (1<d)) (cond (inR 1 a.2.2.2.length) (let b:=M a.2.2.2 1 (Y,[],[])
 cond (K (S ([]:Tn63)+S b.2.1<=j03)) (let k:Tn63:=([]:Tn63)++b.2.1
 cond (K (S ([]:Tn32)+S b.2.2<=j03)) (let l:Tn32:=([]:Tn32)++b.2.2
 W) W) W) W) (L (m,e,j,c.1,f,i))) W) W) W) (W)) W) W) W
def j9d(a:Tn63)(b:J)(c:Tn62->Tn62):Tn63:=Â a b.toNat (c (M a b.toNat (Y,0,(0,0),0,0,[],[],0,0)))
def jgw(a:Tn51)(b:J)(c:Tn47->Tn47):Tn51:=Â a b.toNat (c (M a b.toNat (Y,0,[],0,0,Z)))
def jgx{l:Type}(m:J)(d:Tn63)(j:U J)(k:J)(f:Tn63->U J->J->N  l):N l:=
 let i:=O d.length
 cond (i==0) (f d j k) ((j02 j k i).bind λe=>cond (inR e.1 d.length) ((j02 e.2.1 e.2.2 8).bind λc=>(cond (c.1==0) ((j09 c.2.1 c.2.2 [0,1,400,401]).bind λb=>
(f (j9d d e.1 λa=>(a.1,a.2.1,a.2.2.1,a.2.2.2.1,b.1,a.2.2.2.2.2)) b.2.1 b.2.2)) (cond (c.1==1) ((j09 c.2.1 c.2.2 [0,1,(-5),98979,98981]).bind λb=>
(f (j9d d e.1 λa=>(a.1,a.2.1,(b.1,a.2.2.1.2),a.2.2.2)) b.2.1 b.2.2)) (cond (c.1==2) (f (j9d d e.1 λa=>(a.1,a.2.1,a.2.2.1,a.2.2.2.1,a.2.2.2.2.1,[],a.2.2.2.2.2.2)) c.2.1 c.2.2) (cond (c.1==3) ((j09 c.2.1 c.2.2 [0,(-1),m]).bind λb=>
(f (j9d d e.1 λa=>(a.1,a.2.1,a.2.2.1,a.2.2.2.1,a.2.2.2.2.1,[b.1],a.2.2.2.2.2.2)) b.2.1 b.2.2)) (cond (c.1==4) ((j09 c.2.1 c.2.2 [(-1),3]).bind λb=>
(f (j9d d e.1 λa=>(a.1,a.2.1,a.2.2.1,b.1,a.2.2.2.2)) b.2.1 b.2.2)) (cond (c.1==5) ((j09 c.2.1 c.2.2 [0,1,2,3]).bind λb=>
(f (j9d d e.1 λa=>(a.1,a.2.1,a.2.2.1,a.2.2.2.1,a.2.2.2.2.1,a.2.2.2.2.2.1,a.2.2.2.2.2.2.1,a.2.2.2.2.2.2.2.1,b.1)) b.2.1 b.2.2)) (cond (c.1==6) ((j09 c.2.1 c.2.2 [0,1,(-1)]).bind λb=>
(f (j9d d e.1 λa=>(a.1,a.2.1,a.2.2.1,a.2.2.2.1,a.2.2.2.2.1,a.2.2.2.2.2.1,a.2.2.2.2.2.2.1,b.1,a.2.2.2.2.2.2.2.2)) b.2.1 b.2.2)) (cond (c.1==7) (
let g:U ByteArray:=[(À #[97,100,97]),(À #[98,111,98]),(À #[120,32,121])]
(j02 c.2.1 c.2.2 3).bind λb=>
cond (inR b.1 g.length) (f (j9d d e.1 λa=>((M g b.1.toNat Y),a.2)) b.2.1 b.2.2) W) (f d c.2.1 c.2.2)))))))))) W)
def jgy{g:Type}(m f k i:Nat)(j:U J)(l:J)(d:Tn26->U J->J->N  g):N g:=(j7I j l ((Å m ()),(Å f ()),(Å k ()),(Å i ()))).bind λa=>(j02 a.2.1 a.2.2 5).bind λb=>(cond (b.1==0) (d (a.1.1,a.1.2.1,a.1.2.2.1,a.1.2.2.2.1,a.1.2.2.2.1) b.2.1 b.2.2) (cond (b.1==1) ((j09 b.2.1 b.2.2 [(-1),(-2),(O f)]).bind λc=>
(d (a.1.1,c.1,a.1.2.2) c.2.1 c.2.2)) (cond (b.1==2) ((j09 b.2.1 b.2.2 [0,1,a.1.2.1]).bind λc=>
(d (a.1.1,a.1.2.1,c.1,a.1.2.2.2) c.2.1 c.2.2)) (cond (b.1==3) ((j09 b.2.1 b.2.2 [0,(-1)]).bind λc=>
(j09 c.2.1 c.2.2 [8551872000,8551958399,8551958400,8589934592]).bind λe=>
(d (a.1.1,a.1.2.1,a.1.2.2.1,c.1,e.1) e.2.1 e.2.2)) (cond (b.1==4) ((j09 b.2.1 b.2.2 [(-1),3]).bind λc=>
(d (c.1,a.1.2) c.2.1 c.2.2)) (d a.1 b.2.1 b.2.2))))))
def jj4(g:Tn57)(e:Tn51)(i:Tn28)(j:Tn68)(n:U J)(o:J)(m p:U J->J->N  (Tn74×(U J)×J)):N (Tn74×(U J)×J):=(j02 n o 12).bind λb=>(cond (b.1==0) ((j02 b.2.1 b.2.2 (O g.length)).bind λa=>
(j09 a.2.1 a.2.2 [30,64800,64860,(-64800),(-64801)]).bind λc=>
(cond (inR a.1 g.length) (L (((Â g a.1.toNat ((M g a.1.toNat (Y,0,[])).1,c.1,(M g a.1.toNat (Y,0,[])).2.2)),e,i,j),c.2.1,c.2.2)) W)) (cond (b.1==1) ((j02 b.2.1 b.2.2 (O e.length)).bind λa=>
(j09 a.2.1 a.2.2 [(-1),(O g.length)]).bind λc=>
(cond (inR a.1 e.length) (L ((g,(jgw e a.1 λf=>(f.1,c.1,f.2.2)),i,j),c.2.1,c.2.2)) W)) (cond (b.1==2) ((j02 b.2.1 b.2.2 (O e.length)).bind λa=>
let d:U ByteArray:=[(À #[110,111,98,111,100,121]),Y,(À #[65,100,97]),(À #[97,100,97]),(À #[97,45,49,95,98])]
(j02 a.2.1 a.2.2 5).bind λc=>
cond (inR c.1 d.length) (cond (inR a.1 e.length) (L ((g,(jgw e a.1 λf=>((M d c.1.toNat Y),f.2)),i,j),c.2.1,c.2.2)) W) W) (cond (b.1==3) ((j02 b.2.1 b.2.2 (O e.length)).bind λa=>
(j09 a.2.1 a.2.2 [1,(-3600),604800,608400]).bind λc=>
(cond (inR a.1 e.length) (L ((g,(jgw e a.1 λf=>(f.1,f.2.1,f.2.2.1,f.2.2.2.1,c.1,f.2.2.2.2.2)),i,j),c.2.1,c.2.2)) W)) (cond (b.1==4) ((j02 b.2.1 b.2.2 (O e.length)).bind λa=>
(j09 a.2.1 a.2.2 [0,(-1),5]).bind λc=>
(j09 c.2.1 c.2.2 [5,604800,604801]).bind λk=>
(cond (inR a.1 e.length) (L ((g,(jgw e a.1 λf=>(f.1,f.2.1,[(c.1,k.1)],f.2.2.2)),i,j),k.2.1,k.2.2)) W)) (cond (b.1==5) (
let d:U ByteArray:=[(À #[100,97,121,115]),(À #[111,116,104,101,114])]
(j02 b.2.1 b.2.2 2).bind λa=>
cond (inR a.1 d.length) ((j09 a.2.1 a.2.2 [5,(-1)]).bind λc=>
(j09 c.2.1 c.2.2 [5,6,100000]).bind λk=>
let l:Tn28:=[((M d a.1.toNat Y),0,[c.1,k.1])]
(cond (K (S i+S l<=j03)) (L ((g,e,(i++l),j),k.2.1,k.2.2)) W)) W) (cond (b.1==6) (
let d:U ByteArray:=[(À #[102,105,114,115,116]),(À #[102,111,117,114,116,104])]
(j02 b.2.1 b.2.2 2).bind λa=>
cond (inR a.1 d.length) (L ((g,e,i,(j++[((M d a.1.toNat Y),[],[])])),a.2.1,a.2.2)) W) (cond (b.1==7) (m b.2.1 b.2.2) (cond (b.1==8) (m b.2.1 b.2.2) (cond (b.1==9) (m b.2.1 b.2.2) (p b.2.1 b.2.2)))))))))))
def j7J(g:U J)(c:J)(b:Tn74):N (Tn74×(U J)×J):=(jcE b).bind λa=>jj4 a.1 a.2.1 a.2.2.1 [a.2.2.2] g c (λd e=>(j02 d e 1).bind λf=>cond (inR f.1 1) (jgx (O a.2.1.length) a.2.2.2.2.1 f.2.1 f.2.2 λj d e=>L ((a.1,a.2.1,a.2.2.1,[(a.2.2.2.1,j,a.2.2.2.2.2)]),d,e)) W) (λd e=>(j02 d e 1).bind λf=>cond (inR f.1 1) (jgy a.1.length a.2.1.length a.2.2.1.length 1 f.2.1 f.2.2 λi d e=>cond (K (S a.2.2.2.2.2+S [i]<=j03)) (L ((a.1,a.2.1,a.2.2.1,[(a.2.2.2.1,a.2.2.2.2.1,(a.2.2.2.2.2++[i]))]),d,e)) W) W)
def jhj(a:Tn74):N (Tn57×Tn51×Tn28×X×X×Tn63×Tn32×Tn63×Tn32):=cond (K (S ([]:Tn57)+S a.1<=j03)) (let q:Tn57:=([]:Tn57)++a.1
 cond (K (S ([]:Tn51)+S a.2.1<=j03)) (let j:Tn51:=([]:Tn51)++a.2.1
 cond (K (S ([]:Tn28)+S a.2.2.1<=j03)) (let n:Tn28:=([]:Tn28)++a.2.2.1
 let l:=O a.2.2.2.length
 cond (K (0<l)) (cond (inR 0 a.2.2.2.length) (let d:=M a.2.2.2 0 (Y,[],[])
 cond (K (S ([]:Tn63)+S d.2.1<=j03)) (let k:Tn63:=([]:Tn63)++d.2.1
 cond (K (S ([]:Tn32)+S d.2.2<=j03)) (let m:Tn32:=([]:Tn32)++d.2.2
 let g:=O a.2.2.2.length
 cond (K (1<g)) (cond (inR 1 a.2.2.2.length) (let b:=M a.2.2.2 1 (Y,[],[])
 cond (K (S ([]:Tn63)+S b.2.1<=j03)) (let f:Tn63:=([]:Tn63)++b.2.1
 cond (K (S ([]:Tn32)+S b.2.2<=j03)) (let i:Tn32:=([]:Tn32)++b.2.2
 let e:=O a.2.2.2.length
 cond (K (2<e)) (cond (inR 2 a.2.2.2.length) (let c:=M a.2.2.2 2 (Y,[],[])
 cond (K (S ([]:Tn63)+S c.2.1<=j03)) (let o:Tn63:=([]:Tn63)++c.2.1
 cond (K (S ([]:Tn32)+S c.2.2<=j03)) (let p:Tn32:=([]:Tn32)++c.2.2
 W) W) W) W) (L (q,j,n,d.1,b.1,k,m,f,i))) W) W) W) (W)) W) W) W) (W)) W) W) W
def jbh(g:U J)(e:J)(b:Tn74):N (Tn74×(U J)×J):=(jhj b).bind λa=>jj4 a.1 a.2.1 a.2.2.1 [(a.2.2.2.1,a.2.2.2.2.2.1,a.2.2.2.2.2.2.1),(a.2.2.2.2.1,a.2.2.2.2.2.2.2)] g e (λd f=>(j02 d f 2).bind λc=>(cond (c.1==0) (jgx (O a.2.1.length) a.2.2.2.2.2.1 c.2.1 c.2.2 λj d f=>L ((a.1,a.2.1,a.2.2.1,[(a.2.2.2.1,j,a.2.2.2.2.2.2.1),(a.2.2.2.2.1,a.2.2.2.2.2.2.2)]),d,f)) (cond (c.1==1) (jgx (O a.2.1.length) a.2.2.2.2.2.2.2.1 c.2.1 c.2.2 λj d f=>L ((a.1,a.2.1,a.2.2.1,[(a.2.2.2.1,a.2.2.2.2.2.1,a.2.2.2.2.2.2.1),(a.2.2.2.2.1,j,a.2.2.2.2.2.2.2.2)]),d,f)) W))) (λd f=>(j02 d f 2).bind λc=>(cond (c.1==0) (jgy a.1.length a.2.1.length a.2.2.1.length 2 c.2.1 c.2.2 λi d f=>cond (K (S a.2.2.2.2.2.2.1+S [i]<=j03)) (L ((a.1,a.2.1,a.2.2.1,[(a.2.2.2.1,a.2.2.2.2.2.1,(a.2.2.2.2.2.2.1++[i])),(a.2.2.2.2.1,a.2.2.2.2.2.2.2)]),d,f)) W) (cond (c.1==1) (jgy a.1.length a.2.1.length a.2.2.1.length 2 c.2.1 c.2.2 λi d f=>cond (K (S a.2.2.2.2.2.2.2.2+S [i]<=j03)) (L ((a.1,a.2.1,a.2.2.1,[(a.2.2.2.1,a.2.2.2.2.2.1,a.2.2.2.2.2.2.1),(a.2.2.2.2.1,a.2.2.2.2.2.2.2.1,(a.2.2.2.2.2.2.2.2++[i]))]),d,f)) W) W)))
def jaf(c:U J)(a:J)(b:Tn74):N (Tn74×(U J)×J):=
 orF (j7J c a b) (jbh c a b)
def jmi(a:J):N Bool:=L (cond (K (a>=48)) (K (a<=57)) Z)
def j7u(a:X)(b:J):N ((X×J) ⊕ (Æ ⊕ Ê)):=
 let l:=O (Ã a)
 cond (K (b<l)) (cond (inR b (Ã a)) (let c:=j9u a b
 cond ((inR b (Ã a)) || !(!(K (c<97)))) (let e:=j9u a b
 cond ((inR b (Ã a)) || !(cond (K (c<97)) Á (K (e>122)))) (let g:=j9u a b
 cond (cond (K (c<97)) Á (K (e>122))) ((jmi g).bind λd=>cond ((inR b (Ã a)) || !(!d)) (let f:=j9u a b
 cond ((inR b (Ã a)) || !(cond (!d) (f != 95) Z)) (let k:=j9u a b
 cond (cond (cond (!d) (f != 95) Z) (k != 45) Z) (L (.inr (.inl Z))) (let i:=w64 (b+1)
 L (.inl (a,i)))) W) W) (cond ((inR b (Ã a)) || !Z) (let m:=j9u a b
 cond ((inR b (Ã a)) || !Z) (let n:=j9u a b
 let j:=w64 (b+1)
 L (.inl (a,j))) W) W)) W) W) W) (L (.inr (.inr ())))
def jfl[LP]:=lp2 j7u
theorem jhI(a b):jfl a b=lpK (j7u a b) (λh=>jfl h.1 h.2):=j05 _ _
def jln[LP](a:X):N Bool:=
 let c:=O (Ã a)
 let e:=O (Ã a)
 cond ((inR 0 (Ã a)) || !(!(cond (K (c<1)) Á (K (e>24))))) (let f:=j9u a 0
 let b:Bool:=cond (cond (K (c<1)) Á (K (e>24))) Á (K (f<97))
 cond ((inR 0 (Ã a)) || !(!b)) (let d:=j9u a 0
 cond (cond b Á (K (d>122))) (L Z) ((jfl a 0).bind λg=>sumC g (λi=>L i) (λj=>L Á))) W) W
def j7v(a:U X)(b e:J):N (((U X)×J×J) ⊕ (J ⊕ Ê)):=cond (K (e<b)) (cond (inR e a.length) (let c:=M a e.toNat Y
 cond (inR b a.length) (let d:=M a b.toNat Y
 cond (È c==È d) (L (.inr (.inl 4))) (let f:=w64 (e+1)
 L (.inl (a,b,f)))) W) W) (L (.inr (.inr ())))
def jii[LP]:=lp3 j7v
abbrev jhJ:=eq3 j7v jii
def jdW[LP](a:U X)(b:J):N Int:=cond (inR b a.length) (let e:=M a b.toNat Y
 (jln e).bind λc=>cond (!c) (L 2) ((jii a b 0).bind λd=>sumC d (λf=>L f) (λg=>L 0))) W
def j9e(a b c:J):N Bool:=L (cond (K (a>=b)) (K (a<=c)) Z)
def jbD(a:Tn41):N Bool:=(j9e a.1 1970 2240).bind λi=>cond i ((j9e a.2.1 a.1 2240).bind λb=>cond b ((j9e a.2.2.1 1 12).bind λf=>cond f ((j9e a.2.2.2.1 1 5).bind λd=>cond d ((j9e a.2.2.2.2.1 0 6).bind λe=>cond e ((j9e a.2.2.2.2.2.1 0 86399).bind λc=>cond c ((j9e a.2.2.2.2.2.2 (-64800) 64800).bind λg=>L g) (L Z)) (L Z)) (L Z)) (L Z)) (L Z)) (L Z)
def jlo(a:J):N Bool:=
 let c:=Ä a 4
 let d:=Ä a 100
 let b:=Ä a 400
 L (cond (c==0) (cond (d != 0) Á (b==0)) Z)
def j8i(a b d:J):N Int:=cond (a==d) (L 30) (cond (a==2) ((jlo b).bind λc=>cond c (L 29) (L 28)) (L 0))
def j8j(a b c:J):N Int:=cond (a==c) (L 31) (cond (a==4) (j8i a b 4) (cond (a==6) (j8i a b 6) (cond (a==9) (j8i a b 9) (j8i a b 11))))
def jfm(b a:J):N Int:=cond (a==1) (j8j a b 1) (cond (a==3) (j8j a b 3) (cond (a==5) (j8j a b 5) (cond (a==7) (j8j a b 7) (cond (a==8) (j8j a b 8) (cond (a==10) (j8j a b 10) (j8j a b 12))))))
def jj5(a:Tn3):N Bool:=cond (K (a.1>=1970)) (cond (K (a.1<=2240)) (cond (K (a.2.1>=1)) (cond (K (a.2.1<=12)) (cond (K (a.2.2>=1)) ((jfm a.1 a.2.1).bind λb=>L (K (a.2.2<=b))) (L Z)) (L Z)) (L Z)) (L Z)) (L Z)
def jj6(a:J):N Int:=
 let i:=w64 (a-1970)
 let j:=w64 (i*365)
 let l:=w64 (a-1969)
 let m:=w64 (Ç l 4)
 let k:=w64 (j+m)
 let c:=w64 (a-1901)
 let d:=w64 (Ç c 100)
 let e:=w64 (k-d)
 let g:=w64 (a-1601)
 let f:=w64 (Ç g 400)
 let b:=w64 (e+f)
 L b
def j8k(i g f a b:J):N ((J×J×J×J×J) ⊕ (J×J×J×J)):=cond (K (g<a)) ((jfm f g).bind λc=>let d:=w64 (i+c)
 let e:=w64 (g+1)
 L (.inl (d,e,f,a,b))) (L (.inr (i,f,a,b)))
def jkf[LP]:=lp5 j8k
abbrev jj7:=eq5 j8k jkf
def joV[LP](a:Tn3):N (J×J):=(jj5 a).bind λf=>cond (!f) (L (0,1)) ((jj6 a.1).bind λb=>(jkf b 1 a.1 a.2.1 a.2.2).bind λe=>let c:=w64 (e.1+e.2.2.2)
 let d:=w64 (c-1)
 L (d,0))
def jd6(a:J):N Int:=
 let b:=Ä a 7
 let d:=w64 (b+10)
 let c:=Ä d 7
 L c
def j8l(i f e g d a:J):N ((J×J×J×J×J×J) ⊕ (J×J×J×J×J)):=(jd6 a).bind λc=>cond (c != g) (let b:=w64 (a+1)
 L (.inl (i,f,e,g,d,b))) (L (.inr (i,f,e,d,a)))
def jkg[LP]:=lp6 j8l
abbrev jj8:=eq6 j8l jkg
def j8m(i g f a:J):N ((J×J×J×J) ⊕ (J)):=
 let c:=w64 (a+7)
 (jfm i g).bind λe=>let d:=w64 (f+e)
 cond (K (c<d)) (let b:=w64 (a+7)
 L (.inl (i,g,f,b))) (L (.inr a))
def jkh[LP]:=lp4 j8m
abbrev jj9:=eq4 j8m jkh
def joW[LP](e c b a:J):N (J×J):=(joV (e,c,1)).bind λf=>let k:Bool:=cond (cond (f.2 != 0) Á (K (b<1))) Á (K (b>5))
 let g:Bool:=cond (cond k Á (K (a<0))) Á (K (a>6))
 cond g (L (0,1)) ((jkg e c b a f.1 f.1).bind λd=>cond (K (d.2.2.1<5)) (let i:=w64 (d.2.2.1-1)
 let l:=w64 (7*i)
 let j:=w64 (d.2.2.2.2+l)
 L (j,0)) ((jkh d.1 d.2.1 d.2.2.2.1 d.2.2.2.2).bind λm=>L (m,0)))
def j5i(j:Tn45)(i k d g a:J)(c:Tn2):N ((Tn45×J×J×J×J×J×Tn2) ⊕ (Tn45×J×J×J×J×J×Tn2)):=cond (K (d>0)) (let b:=w64 (d-1)
 cond (inR b c.length) (let e:=(M c b.toNat (0,0)).1
 cond (K (e>g)) (let f:=w64 (d-1)
 L (.inl (j,i,k,f,g,a,c))) (L (.inr (j,i,k,d,g,a,c)))) W) (L (.inr (j,i,k,d,g,a,c)))
def j83[LP]:=lp7 j5i
abbrev jbE:=eq7 j5i j83
def j3B[LP](c:Tn45)(d v:J)(t:Tn2):N ((Tn45×J×J×Tn2) ⊕ (Tn45×J×Tn2)):=cond (inR d c.length) (let r:=M c d.toNat (0,0,0,0,0,0,0)
 cond (K (v<=r.2.1)) (cond (inR d c.length) (let o:=M c d.toNat (0,0,0,0,0,0,0)
 cond (inR d c.length) (let l:=M c d.toNat (0,0,0,0,0,0,0)
 cond (inR d c.length) (let j:=M c d.toNat (0,0,0,0,0,0,0)
 (joW v o.2.2.1 l.2.2.2.1 j.2.2.2.2.1).bind λn=>let i:=w64 (n.1*86400)
 cond (inR d c.length) (let k:=M c d.toNat (0,0,0,0,0,0,0)
 let q:=w64 (i+k.2.2.2.2.2.1)
 cond (inR d c.length) (let m:=M c d.toNat (0,0,0,0,0,0,0)
 let p:=O t.length
 (j83 c d v p q m.2.2.2.2.2.2 t).bind λa=>let f:Tn2:=[(a.2.2.2.2.1,a.2.2.2.2.2.1)]
 cond (K (S a.2.2.2.2.2.2+S f<=j03)) (let b:Tn2:=a.2.2.2.2.2.2++f
 let e:=w64 (a.2.2.2.1+1)
 cond (K (0<=e)&&K (e<=(O b.length))) (cond (K (0<=a.2.2.2.1)&&K (a.2.2.2.1<=(O b.length))) (let g:Tn2:=over b e.toNat (Í a.2.2.2.1.toNat b)
 let w:=O (min (S (Í a.2.2.2.1.toNat b)) (S b-e.toNat))
 cond (inR a.2.2.2.1 g.length) (let u:Tn2:=Â g a.2.2.2.1.toNat (a.2.2.2.2.1,a.2.2.2.2.2.1)
 let s:=w64 (a.2.2.1+1)
 L (.inl (a.1,a.2.1,s,u))) W) W) W) W) W) W) W) W) W) (L (.inr (c,d,t)))) W
def jag[LP]:=lp4 j3B
abbrev jbF:=eq4 j3B jag
def j3C[LP](e:Tn45)(b:J)(g:Tn2):N ((Tn45×J×Tn2) ⊕ (Tn2)):=
 let c:=O e.length
 cond (K (b<c)) (cond (inR b e.length) (let d:=M e b.toNat (0,0,0,0,0,0,0)
 (jag e b d.1 g).bind λa=>let f:=w64 (a.2.1+1)
 L (.inl (a.1,f,a.2.2))) W) (L (.inr g))
def j84[LP]:=lp3 j3C
abbrev jbG:=eq3 j3C j84
def jah[LP](a:Tn45):N Tn2:=(j84 a 0 ([]:Tn2)).bind λb=>L b
def j2h(o c:J)(n:X)(d:J)(a:Tn45):N ((J×J×X×J×Tn45) ⊕ (J ⊕ (J×X×J×Tn45))):=
 let g:=O a.length
 cond (K (c<g)) (cond (inR c a.length) (let b:=M a c.toNat (0,0,0,0,0,0,0)
 (jbD b).bind λl=>cond (!l) (L (.inr (.inl 1))) (cond (inR c a.length) (let e:=M a c.toNat (0,0,0,0,0,0,0)
 cond (inR c a.length) (let i:=M a c.toNat (0,0,0,0,0,0,0)
 let j:=w64 (e.2.1-i.1)
 let m:=w64 (j+1)
 let k:=w64 (o+m)
 let f:=w64 (c+1)
 L (.inl (k,f,n,d,a))) W) W)) W) (L (.inr (.inr (o,n,d,a))))
def j4L[LP]:=lp5 j2h
theorem j8n(d e c b a):j4L d e c b a=lpK (j2h d e c b a) (λh=>j4L h.1 h.2.1 h.2.2.1 h.2.2.2.1 h.2.2.2.2):=j05 _ _
def j1T(p e:J)(d c:Tn2):N ((J×J×Tn2×Tn2) ⊕ (J ⊕ Tn2)):=
 let w:=O c.length
 cond (K (e<w)) (cond (inR e c.length) (let u:=(M c e.toNat (0,0)).2
 cond (u==p) (let x:=w64 (e+1)
 L (.inl (p,x,d,c))) (cond (inR e c.length) (let r:=(M c e.toNat (0,0)).1
 let b:=w64 (r-p)
 cond (inR e c.length) (let a:=(M c e.toNat (0,0)).2
 let s:=w64 (a-p)
 (j9e s (-86399) 86399).bind λv=>cond (!v) (L (.inr (.inl 6))) ((j9e b 0 8589934592).bind λt=>cond (!t) (L (.inr (.inl 6))) (let o:=O d.length
 cond (K (o>0)) (let n:=O d.length
 let g:=w64 (n-1)
 cond (inR g d.length) (let m:=(M d g.toNat (0,0)).1
 let k:=w64 (b-m)
 cond (K (k<604800)) (L (.inr (.inl 6))) (let i:Tn2:=[(b,a)]
 cond (K (S d+S i<=j03)) (let j:Tn2:=d++i
 let q:=w64 (e+1)
 L (.inl (a,q,j,c))) W)) W) (let f:Tn2:=[(b,a)]
 cond (K (S d+S f<=j03)) (let l:Tn2:=d++f
 let y:=w64 (e+1)
 L (.inl (a,y,l,c))) W)))) W) W)) W) (L (.inr (.inr d)))
def j4M[LP]:=lp4 j1T
theorem j66(a c b d):j4M a c b d=lpK (j1T a c b d) (λh=>j4M h.1 h.2.1 h.2.2.1 h.2.2.2):=j05 _ _
def j0c[LP](a:Tn55):N (Tn2×J):=(j9e a.2.1 (-64800) 64800).bind λd=>cond (!d) (L (([]:Tn2),1)) (let b:=O a.2.2.length
 cond (K (b>16)) (L (([]:Tn2),5)) ((j4L 0 0 a.1 a.2.1 a.2.2).bind λj=>sumC j (λk=>L (([]:Tn2),k)) (λi=>cond (K (i.1>640)) (L (([]:Tn2),5)) ((jah i.2.2.2).bind λc=>(j4M i.2.2.1 0 ([]:Tn2) c).bind λg=>sumC g (λf=>L (([]:Tn2),f)) (λe=>L (e,0))))))
def j8o[LP](a:Tn55):N Int:=(j0c a).bind λb=>L b.2
def j5D(g:Æ)(d:J)(j:X)(i:J)(a:Tn45):N ((Æ×J×X×J×Tn45) ⊕ (Æ)):=
 let f:=O a.length
 cond (K (d<f)) (cond ((inR d a.length) || !g) (let c:=M a d.toNat (0,0,0,0,0,0,0)
 let b:=Ä c.2.2.2.2.2.2 60
 let e:=w64 (d+1)
 L (.inl ((cond g (b==0) Z),e,j,i,a))) W) (L (.inr g))
def jed[LP]:=lp5 j5D
abbrev jeL:=eq5 j5D jed
def jb0[LP](a:Tn55):N Bool:=
 let b:=Ä a.2.1 60
 (jed (b==0) 0 a.1 a.2.1 a.2.2).bind λc=>L c
def j6J[LP](c:J)(d:Tn57)(n:Tn51)(m:Tn28)(l:Tn68)(p:U X):N ((J×Tn57×Tn51×Tn28×Tn68×(U X)) ⊕ (J ⊕ Ê)):=
 let o:=O d.length
 cond (K (c<o)) (cond (inR c d.length) (let g:=M d c.toNat (Y,0,[])
 cond (K (S p+S [g.1]<=j03)) (let i:U ByteArray:=p++[g.1]
 (jdW i c).bind λf=>cond (f != 0) (L (.inr (.inl f))) (cond (inR c d.length) (let b:=M d c.toNat (Y,0,[])
 (j8o b).bind λe=>cond ((inR c d.length) || !(!(e != 0))) (let a:=M d c.toNat (Y,0,[])
 cond (e != 0) (L (.inr (.inl 8))) ((jb0 a).bind λk=>cond (!k) (L (.inr (.inl 8))) (let j:=w64 (c+1)
 L (.inl (j,d,n,m,l,i))))) W) W)) W) W) (L (.inr (.inr ())))
def jgz[LP]:=lp6 j6J
abbrev jgA:=eq6 j6J jgz
def jja[LP](a:Tn74):N Int:=(jgz 0 a.1 a.2.1 a.2.2.1 a.2.2.2 ([]:(U X))).bind λb=>sumC b (λc=>L c) (λd=>L 0)
def j8W(a b c:J):N Bool:=L (cond (K (a>=b)) (K (a<=c)) Z)
def j44(b:Tn2)(a:J):N ((Tn2×J) ⊕ (J ⊕ Ê)):=
 let m:=O b.length
 cond (K (a<m)) (cond (inR a b.length) (let j:=M b a.toNat (0,0)
 cond (K (j.1<0)) (L (.inr (.inl 1))) (cond (inR a b.length) (let e:=M b a.toNat (0,0)
 cond (inR a b.length) (let l:=M b a.toNat (0,0)
 cond (K (e.1>=l.2)) (L (.inr (.inl 1))) (cond (inR a b.length) (let k:=M b a.toNat (0,0)
 cond (K (k.2>604800)) (L (.inr (.inl 1))) (cond (K (a>0)) (cond (inR a b.length) (let i:=M b a.toNat (0,0)
 let c:=w64 (a-1)
 cond (inR c b.length) (let f:=M b c.toNat (0,0)
 cond (K (i.1<f.2)) (L (.inr (.inl 6))) (let d:=w64 (a+1)
 L (.inl (b,d)))) W) W) (let g:=w64 (a+1)
 L (.inl (b,g))))) W)) W) W)) W) (L (.inr (.inr ())))
def jbH[LP]:=lp2 j44
abbrev jai:=eq2 j44 jbH
def j8p[LP](a:Tn2):N Int:=
 let b:=O a.length
 cond (K (b>14)) (L 5) ((jbH a 0).bind λc=>sumC c (λd=>L d) (λe=>L 0))
def jgB(a:J):N Bool:=(j8W a 0 604800).bind λc=>let b:=Ä a 3600
 L (cond c (b==0) Z)
def j67[LP](e:J)(r:Tn57)(b:Tn51)(q:Tn28)(p:Tn68)(s:U X):N ((J×Tn57×Tn51×Tn28×Tn68×(U X)) ⊕ (J ⊕ Ê)):=
 let m:=O b.length
 cond (K (e<m)) (cond (inR e b.length) (let a:=M b e.toNat (Y,0,[],0,0,Z)
 cond (K (S s+S [a.1]<=j03)) (let d:U ByteArray:=s++[a.1]
 let j:Bool:=È a.1==È (À #[110,111,98,111,100,121])
 cond j (L (.inr (.inl 2))) ((jdW d e).bind λc=>cond (c != 0) (L (.inr (.inl c))) (let k:=O r.length
 let g:=w64 (k-1)
 (j8W a.2.1 0 g).bind λi=>cond (!i) (L (.inr (.inl 3))) ((j8p a.2.2.1).bind λl=>cond (l != 0) (L (.inr (.inl 8))) ((jgB a.2.2.2.1).bind λf=>cond (!f) (L (.inr (.inl 1))) ((jgB a.2.2.2.2.1).bind λo=>cond (!o) (L (.inr (.inl 1))) (let n:=w64 (e+1)
 L (.inl (n,r,b,q,p,d))))))))) W) W) (L (.inr (.inr ())))
def jfn[LP]:=lp6 j67
abbrev jfS:=eq6 j67 jfn
def jhk[LP](a:Tn74):N Int:=(jfn 0 a.1 a.2.1 a.2.2.1 a.2.2.2 ([]:(U X))).bind λb=>sumC b (λc=>L c) (λd=>L 0)
def jcF  : N Int:=(jj6 2241).bind λa=>let b:=w64 (a-1)
 L b
def j4s(p j:J)(m:Tn57)(d:Tn51)(c:Tn28)(b:Tn68)(o:X)(e:J)(a:U J)(n:U X):N ((J×J×Tn57×Tn51×Tn28×Tn68×X×J×(U J)×(U X)) ⊕ (J ⊕ (J×Tn57×Tn51×Tn28×Tn68×X×J×(U J)×(U X)))):=
 let i:=O a.length
 cond (K (j<i)) (cond (inR j a.length) (let f:=M a j.toNat 0
 (jcF).bind λk=>(j8W f 0 k).bind λl=>cond (!l) (L (.inr (.inl 1))) (let g:=w64 (j+1)
 L (.inl (p,g,m,d,c,b,o,e,a,n)))) W) (L (.inr (.inr (p,m,d,c,b,o,e,a,n))))
def jbU[LP]:=c8 c2 (LP.lp (u8 unc2 j4s))
abbrev jd7:=eq10 j4s jbU
def j4t(o e:J)(m:Tn57)(f:Tn51)(d:Tn28)(c:Tn68)(p:X)(l:J)(a:U J)(n:U X):N ((J×J×Tn57×Tn51×Tn28×Tn68×X×J×(U J)×(U X)) ⊕ (J ⊕ (J×Tn57×Tn51×Tn28×Tn68×(U X)))):=
 let i:=O a.length
 cond (K (e<i)) (cond (inR e a.length) (let j:=M a e.toNat 0
 let b:=w64 (e-1)
 cond (inR b a.length) (let k:=M a b.toNat 0
 cond (K (j<=k)) (L (.inr (.inl 6))) (let g:=w64 (e+1)
 L (.inl (o,g,m,f,d,c,p,l,a,n)))) W) W) (L (.inr (.inr (o,m,f,d,c,n))))
def jbV[LP]:=c8 c2 (LP.lp (u8 unc2 j4t))
abbrev jd8:=eq10 j4t jbV
def j4u[LP](g:J)(v:Tn57)(o:Tn51)(d:Tn28)(q:Tn68)(t:U X):N ((J×Tn57×Tn51×Tn28×Tn68×(U X)) ⊕ (J ⊕ Ê)):=
 let i:=O d.length
 cond (K (g<i)) (cond (inR g d.length) (let a:=M d g.toNat (Y,0,[])
 cond (K (S t+S [a.1]<=j03)) (let e:U ByteArray:=t++[a.1]
 (jdW e g).bind λf=>cond (f != 0) (L (.inr (.inl f))) (let j:=O v.length
 let l:=w64 (j-1)
 (j8W a.2.1 0 l).bind λn=>cond (!n) (L (.inr (.inl 3))) (let m:=O a.2.2.length
 cond (K (m>64)) (L (.inr (.inl 5))) ((jbU g 0 v o d q a.1 a.2.1 a.2.2 e).bind λr=>sumC r (λu=>L (.inr (.inl u))) (λb=>(jbV b.1 1 b.2.1 b.2.2.1 b.2.2.2.1 b.2.2.2.2.1 b.2.2.2.2.2.1 b.2.2.2.2.2.2.1 b.2.2.2.2.2.2.2.1 b.2.2.2.2.2.2.2.2).bind λp=>sumC p (λs=>L (.inr (.inl s))) (λc=>let k:=w64 (c.1+1)
 L (.inl (k,c.2.1,c.2.2.1,c.2.2.2.1,c.2.2.2.2.1,c.2.2.2.2.2)))))))) W) W) (L (.inr (.inr ())))
def jbW[LP]:=lp6 j4u
abbrev jd9:=eq6 j4u jbW
def jcl[LP](a:Tn74):N Int:=(jbW 0 a.1 a.2.1 a.2.2.1 a.2.2.2 ([]:(U X))).bind λb=>sumC b (λc=>L c) (λd=>L 0)
def j6K(t:J)(v:Tn57)(b:Tn51)(k:Tn28)(j:Tn68)(u:X)(l e m g i:J)(a:U J)(f:Tn2)(d c:J):N ((J×Tn57×Tn51×Tn28×Tn68×X×J×J×J×J×J×(U J)×Tn2×J×J) ⊕ (J ⊕ (Tn57×Tn51×Tn28×Tn68×X×J×J×J×J×J×(U J)×Tn2×J×J))):=
 let s:=O a.length
 cond (K (t<s)) (cond (inR t a.length) (let p:=M a t.toNat 0
 let o:=O b.length
 let r:=w64 (o-1)
 (j8W p 0 r).bind λn=>cond (!n) (L (.inr (.inl 3))) (let q:=w64 (t+1)
 L (.inl (q,v,b,k,j,u,l,e,m,g,i,a,f,d,c)))) W) (L (.inr (.inr (v,b,k,j,u,l,e,m,g,i,a,f,d,c))))
def jgC[LP]:=c8 c7 (LP.lp (u8 unc7 j6K))
abbrev jgD:=eq15 j6K jgC
def jgE[LP](b:Tn74)(a:Tn62):N Int:=
 let n:=O b.1.length
 let q:=w64 (n-1)
 (j8W a.2.1 0 q).bind λk=>cond (!k) (L 3) ((jcF).bind λj=>(j8W a.2.2.1.1 1 j).bind λr=>cond (!r) (L 1) ((j8W a.2.2.1.2 0 86399).bind λl=>cond (!l) (L 1) ((j8W a.2.2.2.1 0 2).bind λt=>cond (!t) (L 1) ((j8W a.2.2.2.2.1 1 400).bind λo=>cond (!o) (L 1) (let p:=O a.2.2.2.2.2.1.length
 cond (p==0) (L 7) (let i:=O a.2.2.2.2.2.1.length
 cond (K (i>12)) (L 5) ((jgC 0 b.1 b.2.1 b.2.2.1 b.2.2.2 a.1 a.2.1 a.2.2.1.1 a.2.2.1.2 a.2.2.2.1 a.2.2.2.2.1 a.2.2.2.2.2.1 a.2.2.2.2.2.2.1 a.2.2.2.2.2.2.2.1 a.2.2.2.2.2.2.2.2).bind λv=>sumC v (λw=>L w) (λd=>(j8p d.2.2.2.2.2.2.2.2.2.2.2.1).bind λm=>cond (m != 0) (L 8) ((j8W d.2.2.2.2.2.2.2.2.2.2.2.2.2 0 2).bind λs=>cond (!s) (L 1) (let g:=O d.2.2.1.length
 let f:=w64 (g-1)
 cond (d.2.2.2.2.2.2.2.2.2.2.2.2.2 != 0) ((j8W d.2.2.2.2.2.2.2.2.2.2.2.2.1 0 f).bind λu=>cond (!u) (L 3) (let e:Bool:=cond (d.2.2.2.2.2.2.2.2.2.2.2.2.2==0) (d.2.2.2.2.2.2.2.2.2.2.2.2.1 != 0) Z
 cond e (L 1) (L 0))) (let c:Bool:=cond (d.2.2.2.2.2.2.2.2.2.2.2.2.2==0) (d.2.2.2.2.2.2.2.2.2.2.2.2.1 != 0) Z
 cond c (L 1) (L 0))))))))))))
def jij(a:Tn26):N Int:=cond (cond (a.1 != 2) (a.2.2.1 != 0) Z) (L 1) (cond (cond (a.1==2) (a.2.1==a.2.2.1) Z) (L 4) (cond (K (a.2.2.2.1<0)) (L 1) (cond (K (a.2.2.2.2<0)) (L 1) (let c:=w64 (Ç a.2.2.2.2 86400)
 (jcF).bind λb=>cond (K (c>b)) (L 1) (cond (K (a.2.2.2.1>=a.2.2.2.2)) (L 6) (L 0))))))
def jjb(b:Tn74)(a:Tn26):N Int:=
 let i:=O b.2.1.length
 (j8W a.1 0 2).bind λg=>cond (!g) (L 1) (let d:=w64 (i-1)
 (j8W a.2.1 0 d).bind λf=>let e:=w64 (i-1)
 cond (cond (!f) (cond (a.1 != 1) Á (a.2.1 != (-1))) Z) (cond ((!(a.1==2)) || !(!Á)) (L 3) W) (cond (a.1==2) ((j8W a.2.2.1 0 e).bind λc=>cond (!c) (L 3) (jij a)) (jij a)))
def j4v[LP](r e:J)(o:Tn57)(f:Tn51)(d:Tn28)(c:Tn68)(q:X)(b:Tn63)(l:Tn32)(p s:U X):N ((J×J×Tn57×Tn51×Tn28×Tn68×X×Tn63×Tn32×(U X)×(U X)) ⊕ (J ⊕ (J×Tn57×Tn51×Tn28×Tn68×X×Tn63×Tn32×(U X)))):=
 let n:=O b.length
 cond (K (e<n)) (cond (inR e b.length) (let i:=M b e.toNat (Y,0,(0,0),0,0,[],[],0,0)
 cond (K (S s+S [i.1]<=j03)) (let g:U ByteArray:=s++[i.1]
 (jdW g e).bind λj=>cond (j != 0) (L (.inr (.inl j))) (cond (inR e b.length) (let a:=M b e.toNat (Y,0,(0,0),0,0,[],[],0,0)
 (jgE (o,f,d,c) a).bind λk=>cond (k != 0) (L (.inr (.inl k))) (let m:=w64 (e+1)
 L (.inl (r,m,o,f,d,c,q,b,l,p,g)))) W)) W) W) (L (.inr (.inr (r,o,f,d,c,q,b,l,p))))
def jbX[LP]:=c8 c3 (LP.lp (u8 unc3 j4v))
abbrev jda:=eq11 j4v jbX
def j4w(n f:J)(k:Tn57)(e:Tn51)(d:Tn28)(c:Tn68)(o:X)(l:Tn63)(b:Tn32)(m:U X):N ((J×J×Tn57×Tn51×Tn28×Tn68×X×Tn63×Tn32×(U X)) ⊕ (J ⊕ (J×Tn57×Tn51×Tn28×Tn68×(U X)))):=
 let i:=O b.length
 cond (K (f<i)) (cond (inR f b.length) (let a:=M b f.toNat (0,0,0,0,0)
 (jjb (k,e,d,c) a).bind λg=>cond (g != 0) (L (.inr (.inl g))) (let j:=w64 (f+1)
 L (.inl (n,j,k,e,d,c,o,l,b,m)))) W) (L (.inr (.inr (n,k,e,d,c,m))))
def jbY[LP]:=c8 c2 (LP.lp (u8 unc2 j4w))
abbrev jdb:=eq10 j4w jbY
def j4x[LP](g:J)(t:Tn57)(m:Tn51)(o:Tn28)(d:Tn68)(r:U X):N ((J×Tn57×Tn51×Tn28×Tn68×(U X)) ⊕ (J ⊕ Ê)):=
 let k:=O d.length
 cond (K (g<k)) (cond (inR g d.length) (let a:=M d g.toNat (Y,[],[])
 cond (K (S r+S [a.1]<=j03)) (let f:U ByteArray:=r++[a.1]
 (jdW f g).bind λe=>cond (e != 0) (L (.inr (.inl e))) (let j:=O a.2.1.length
 let l:=O a.2.2.length
 cond (cond (K (j>6)) Á (K (l>48))) (L (.inr (.inl 5))) ((jbX g 0 t m o d a.1 a.2.1 a.2.2 f ([]:(U X))).bind λp=>sumC p (λs=>L (.inr (.inl s))) (λb=>(jbY b.1 0 b.2.1 b.2.2.1 b.2.2.2.1 b.2.2.2.2.1 b.2.2.2.2.2.1 b.2.2.2.2.2.2.1 b.2.2.2.2.2.2.2.1 b.2.2.2.2.2.2.2.2).bind λn=>sumC n (λq=>L (.inr (.inl q))) (λc=>let i:=w64 (c.1+1)
 L (.inl (i,c.2.1,c.2.2.1,c.2.2.2.1,c.2.2.2.2.1,c.2.2.2.2.2))))))) W) W) (L (.inr (.inr ())))
def jbZ[LP]:=lp6 j4x
abbrev jdc:=eq6 j4x jbZ
def jfo[LP](a:Tn74):N Int:=(jbZ 0 a.1 a.2.1 a.2.2.1 a.2.2.2 ([]:(U X))).bind λb=>sumC b (λc=>L c) (λd=>L 0)
def j8q[LP](a:Tn74):N Int:=
 let k:=O a.1.length
 let f:=O a.2.1.length
 let e:=O a.2.2.1.length
 let g:Bool:=cond (cond (K (k>16)) Á (K (f>32))) Á (K (e>8))
 let i:=O a.2.2.2.length
 cond (cond g Á (K (i>12))) (L 5) ((jja a).bind λb=>cond (b != 0) (L b) ((jhk a).bind λc=>cond (c != 0) (L c) ((jcl a).bind λd=>cond (d != 0) (L d) ((jfo a).bind λj=>L j))))
def j5E(a b:J):N Bool:=
 let e:Bool:=cond (cond (K (a>=0)) (K (a<=8589934592)) Z) (K (b>=a)) Z
 let c:=w64 (b-a)
 let d:Bool:=cond (cond e (K (b<=8589934592)) Z) (K (c<=34560000)) Z
 L d
def jbI[LP](b:Tn74)(a c d:J):N Int:=(j8q b).bind λe=>cond (e != 0) (L 8) (let f:=O b.2.1.length
 cond (cond (K (a<0)) Á (K (a>=f))) (L 3) ((j5E c d).bind λg=>cond (!g) (L 1) (L 0)))
def jmj[LP](b:Tn74)(a c d:J):N Int:=(j8q b).bind λe=>cond (e != 0) (L 8) (let f:=O b.2.2.2.length
 cond (cond (K (a<0)) Á (K (a>=f))) (L 3) ((j5E c d).bind λg=>cond (!g) (L 1) (L 0)))
def jeM[LP](b:Tn55)(a:Tn62):N Int:=(j8o b).bind λi=>let d:Bool:=cond (cond (i != 0) Á (K (a.2.2.1.1<1))) Á (K (a.2.2.1.1>100000))
 let e:Bool:=cond (cond d Á (K (a.2.2.1.2<0))) Á (K (a.2.2.1.2>=86400))
 let f:Bool:=cond (cond e Á (K (a.2.2.2.1<0))) Á (K (a.2.2.2.1>2))
 let c:Bool:=cond (cond f Á (K (a.2.2.2.2.1<1))) Á (K (a.2.2.2.2.1>400))
 let g:=O a.2.2.2.2.2.1.length
 cond (cond c Á (g==0)) (L 8) (L 0)
def jeN(a:J):N Bool:=(j9e a (-2) 99422).bind λb=>L b
def j5c(k c n:J)(p:X)(i:J)(g:Tn45)(o:Tn2)(m j l:J):N ((J×X×J×Tn45×J×J×Tn2) ⊕ ((J×J) ⊕ Ê)):=
 let f:=w64 (k*86400)
 let e:=w64 (f+c)
 let a:=w64 (e-m)
 let b:Int:=if a>j then a else j
 cond (K (b<l)) (L (.inr (.inl (b,0)))) (let d:=w64 (n+1)
 L (.inl (d,p,i,g,k,c,o)))
def j5d(i:J)(b:Tn2)(m e:J)(n:X)(c:J)(d:Tn45)(l k:J):N ((J×X×J×Tn45×J×J×Tn2) ⊕ ((J×J) ⊕ Ê)):=
 let j:=w64 (i+1)
 let f:=O b.length
 cond (K (j<f)) (let a:=w64 (i+1)
 cond (inR a b.length) (let g:=(M b a.toNat (0,0)).1
 j5c m e i n c d b l k g) W) (j5c m e i n c d b l k 8589934593)
def j5r(a:J)(k:X)(c:J)(e:Tn45)(j d:J)(b:Tn2):N ((J×X×J×Tn45×J×J×Tn2) ⊕ ((J×J) ⊕ Ê)):=
 let g:=O b.length
 cond (K (a<g)) (cond (K (a>=0)) (cond (inR a b.length) (let f:=(M b a.toNat (0,0)).2
 cond (inR a b.length) (let i:=(M b a.toNat (0,0)).1
 j5d a b j d k c e f i) W) W) (j5d a b j d k c e c 0)) (L (.inr (.inr ())))
def j6X[LP]:=lp7 j5r
abbrev jdd:=eq7 j5r j6X
def j68[LP](a:Tn55)(b:J×J):N (J×J):=(j0c a).bind λc=>cond (c.2 != 0) (L (0,8)) ((j9e b.2 0 86399).bind λd=>cond (!d) (L (0,1)) (cond (K (b.1<(-2))) (L (0,0)) ((jeN b.1).bind λe=>cond (!e) (L (0,10)) ((j6X (-1) a.1 a.2.1 a.2.2 b.1 b.2 c.1).bind λf=>sumC f (λg=>L g) (λi=>L (0,10))))))
def j69(c:Tn2)(g i a:J):N ((Tn2×J×J×J) ⊕ (J)):=
 let b:=O c.length
 cond ((inR a c.length) || !(K (a<b))) (let d:=M c a.toNat (0,0)
 cond (cond (K (a<b)) (K (d.1<=g)) Z) (cond (inR a c.length) (let f:=M c a.toNat (0,0)
 let e:=w64 (a+1)
 L (.inl (c,g,f.2,e))) W) (L (.inr i))) W
def jcm[LP]:=lp4 j69
abbrev jfT:=eq4 j69 jcm
def jhl[LP](c:Tn55)(a:Tn2)(b:J):N Int:=(jcm a b c.2.1 0).bind λd=>L d
def jbJ[LP](a:Tn55)(b:J):N (J×J):=(j0c a).bind λc=>cond (c.2 != 0) (L (0,8)) ((j9e b 0 8589934592).bind λe=>cond (!e) (L (0,1)) ((jhl a c.1 b).bind λd=>L (d,0)))
def jjc(b a:J):N (J×J):=
 let g:=w64 (b+a)
 let e:=w64 (g+864000)
 let c:=w64 (Ç e 86400)
 let d:=w64 (c-10)
 let f:=Ä e 86400
 L (d,f)
def j6u[LP](a:Tn55)(b:J):N ((J×J)×J):=(jbJ a b).bind λc=>cond (c.2 != 0) (L ((0,0),c.2)) ((jjc b c.1).bind λd=>L (d,0))
def j8r[LP](b:Tn55)(a:Tn62)(d:J):N (J×Æ):=cond (a.2.2.2.1==0) ((j68 b a.2.2.1).bind λe=>let m:=w64 (d*a.2.2.2.2.1)
 let j:=w64 (m*3600)
 let n:=w64 (e.1+j)
 let l:=w64 (e.1+j)
 L (n,(cond (e.2==0) (K (l<=8589934592)) Z))) (let g:=w64 (d*a.2.2.2.2.1)
 cond (a.2.2.2.1==2) (let k:=w64 (g*7)
 let o:=w64 (a.2.2.1.1+k)
 (j68 b (o,a.2.2.1.2)).bind λi=>L (i.1,(i.2==0))) (let f:=w64 (a.2.2.1.1+g)
 (j68 b (f,a.2.2.1.2)).bind λc=>L (c.1,(c.2==0))))
def j6L[LP](p k:J)(q:X)(n:J)(m:Tn45)(r:X)(b l j d i:J)(f:U J)(c:Tn2)(g e:J):N ((J×J×X×J×Tn45×X×J×J×J×J×J×(U J)×Tn2×J×J) ⊕ (J)):=cond (K (k>=0)) ((j8r (q,n,m) (r,b,(l,j),d,i,f,c,g,e) k).bind λa=>cond (cond a.2 (K (a.1<=p)) Z) (L (.inr k)) (let o:=w64 (k-1)
 L (.inl (p,o,q,n,m,r,b,l,j,d,i,f,c,g,e)))) (L (.inr k))
def j9J[LP]:=c8 c7 (LP.lp (u8 unc7 j6L))
abbrev jgF:=eq15 j6L j9J
def jeO[LP](b:Tn55)(a:Tn62)(c:J):N Int:=cond (a.2.2.2.1==0) ((j68 b a.2.2.1).bind λe=>cond (cond (e.2==0) (K (e.1<=c)) Z) (let p:=w64 (c-e.1)
 let j:=w64 (3600*a.2.2.2.2.1)
 cond (!(j==0)) (let q:=w64 (Ç p j)
 L q) W) (L (-1))) ((j6u b c).bind λm=>cond (a.2.2.2.1==2) (let k:=w64 (a.2.2.2.2.1*7)
 let r:=w64 (m.1.1+2)
 let l:=w64 (r-a.2.2.1.1)
 let o:Int:=if 0>l then 0 else l
 cond (!(k==0)) (let s:=w64 (Ç o k)
 (j9J c s b.1 b.2.1 b.2.2 a.1 a.2.1 a.2.2.1.1 a.2.2.1.2 a.2.2.2.1 a.2.2.2.2.1 a.2.2.2.2.2.1 a.2.2.2.2.2.2.1 a.2.2.2.2.2.2.2.1 a.2.2.2.2.2.2.2.2).bind λt=>L t) W) (let f:=w64 (m.1.1+2)
 let d:=w64 (f-a.2.2.1.1)
 let g:Int:=if 0>d then 0 else d
 cond (!(a.2.2.2.2.1==0)) (let i:=w64 (Ç g a.2.2.2.2.1)
 (j9J c i b.1 b.2.1 b.2.2 a.1 a.2.1 a.2.2.1.1 a.2.2.1.2 a.2.2.2.1 a.2.2.2.2.1 a.2.2.2.2.2.1 a.2.2.2.2.2.2.1 a.2.2.2.2.2.2.2.1 a.2.2.2.2.2.2.2.2).bind λn=>L n) W))
def j6a[LP](u s o:J)(v:X)(l:J)(g:Tn45)(t:X)(k j c e d:J)(f:U J)(b:Tn2)(i m:J)(n:U J):N ((J×J×J×X×J×Tn45×X×J×J×J×J×J×(U J)×Tn2×J×J×(U J)) ⊕ (Tn1)):=(j8r (v,l,g) (t,k,(j,c),e,d,f,b,i,m) o).bind λa=>cond (cond (!a.2) Á (K (a.1>=s))) (L (.inr (0,n))) (cond (K (a.1>=u)) (cond (K (S n+S [a.1]<=j03)) (let r:U Int:=n++[a.1]
 let p:=w64 (o+1)
 L (.inl (u,s,p,v,l,g,t,k,j,c,e,d,f,b,i,m,r))) W) (let q:=w64 (o+1)
 L (.inl (u,s,q,v,l,g,t,k,j,c,e,d,f,b,i,m,n))))
def jc0[LP]:=c8 c9 (LP.lp (u8 unc9 j6a))
abbrev jik:=eq17 j6a jc0
def jaj[LP](b:Tn55)(a:Tn62)(c d:J):N ((U J)×J):=(jeM b a).bind λf=>cond (f != 0) (L (([]:(U J)),8)) ((j5E c d).bind λj=>cond (!j) (L (([]:(U J)),1)) ((jeO b a c).bind λe=>let i:Int:=if e>0 then e else 0
 (jc0 c d i b.1 b.2.1 b.2.2 a.1 a.2.1 a.2.2.1.1 a.2.2.1.2 a.2.2.2.1 a.2.2.2.2.1 a.2.2.2.2.2.1 a.2.2.2.2.2.2.1 a.2.2.2.2.2.2.2.1 a.2.2.2.2.2.2.2.2 ([]:(U J))).bind λg=>L (g.2,g.1)))
def j9K(a:J×J):N Int:=(jd6 a.1).bind λc=>let b:=w64 (c*86400)
 let d:=w64 (b+a.2)
 L d
def j6M(b:Tn2)(k j c a:J)(q:Tn2):N ((Tn2×J×J×J×J×Tn2) ⊕ (Tn2×J×J×J×Tn2)):=
 let p:=O b.length
 cond (K (a<p)) (cond (inR a b.length) (let r:=M b a.toNat (0,0)
 let d:=w64 (c+r.1)
 let f:Int:=if d>k then d else k
 cond (inR a b.length) (let m:=M b a.toNat (0,0)
 let e:=w64 (c+m.2)
 let i:Int:=if e<j then e else j
 cond (K (f<i)) (let g:Tn2:=[(f,i)]
 cond (K (S q+S g<=j03)) (let l:Tn2:=q++g
 let n:=w64 (a+1)
 L (.inl (b,k,j,c,n,l))) W) (let o:=w64 (a+1)
 L (.inl (b,k,j,c,o,q)))) W) W) (L (.inr (b,k,j,c,q)))
def jdX[LP]:=lp6 j6M
theorem jgG(e d c b a f):jdX e d c b a f=lpK (j6M e d c b a f) (λh=>jdX h.1 h.2.1 h.2.2.1 h.2.2.2.1 h.2.2.2.2.1 h.2.2.2.2.2):=j05 _ _
def j6N[LP](g:Tn2)(f d c:J)(e:Tn2):N ((Tn2×J×J×J×Tn2) ⊕ (Tn2)):=cond (K (c<d)) ((jdX g f d c 0 e).bind λa=>let b:=w64 (a.2.2.2.1+604800)
 L (.inl (a.1,a.2.1,a.2.2.1,b,a.2.2.2.2))) (L (.inr e))
def jgH[LP]:=lp5 j6N
abbrev jgI:=eq5 j6N jgH
def jgJ[LP](d:Tn2)(a c b:J):N Tn2:=
 let o:=w64 (a+b)
 let f:=w64 (a+b)
 let g:=w64 (f+864000)
 let e:=w64 (Ç g 86400)
 let j:=w64 (e-10)
 let k:=w64 (a+b)
 let l:=w64 (k+864000)
 let p:=Ä l 86400
 (j9K (j,p)).bind λn=>let m:=w64 (o-n)
 let i:=w64 (m-b)
 (jgH d a c i ([]:Tn2)).bind λq=>L q
def j7f(f:J)(e g:Tn2):N ((Tn2×J×Tn2) ⊕ (Tn2)):=cond (inR f e.length) (let b:=M e f.toNat (0,0)
 let a:Tn2:=[b]
 cond (K (S g+S a<=j03)) (let d:Tn2:=g++a
 let c:=w64 (f+1)
 L (.inl (e,c,d))) W) W
def j7w(d:Tn2)(e:J)(c:Tn2):N ((Tn2×J×Tn2) ⊕ (Tn2)):=
 let m:=O d.length
 cond (K (e<m)) (let a:=O c.length
 cond (K (a>0)) (let f:=w64 (a-1)
 cond (inR f c.length) (let l:=(M c f.toNat (0,0)).2
 cond (inR e d.length) (let i:=M d e.toNat (0,0)
 cond (l==i.1) (let b:=w64 (a-1)
 cond (inR e d.length) (let j:=M d e.toNat (0,0)
 cond (inR b c.length) (let g:Tn2:=Â c b.toNat ((M c b.toNat (0,0)).1,j.2)
 let k:=w64 (e+1)
 L (.inl (d,k,g))) W) W) (j7f e d c)) W) W) (j7f e d c)) (L (.inr c))
def jfp[LP]:=lp3 j7w
theorem jhK(a b c):jfp a b c=lpK (j7w a b c) (λh=>jfp h.1 h.2.1 h.2.2):=j05 _ _
def jjd[LP](b a:Tn2):N Tn2:=(jfp a 0 b).bind λc=>L c
def j4N[LP](m:J)(k:Tn2)(q:J)(j:Tn2)(g l n:J)(o:X)(a:J)(c:Tn45)(i:Tn2)(p:J):N ((Tn2×J×J×J×X×J×Tn45×Tn2×Tn2) ⊕ (Tn2)):=cond (K (m<p)) ((jgJ k m p q).bind λf=>(jjd j f).bind λe=>let b:=w64 (g+1)
 L (.inl (k,l,n,b,o,a,c,i,e))) (let d:=w64 (g+1)
 L (.inl (k,l,n,d,o,a,c,i,j)))
def j6C[LP](c:J)(a:Tn2)(f:J)(o l:Tn2)(n:J)(q:X)(e:J)(g:Tn45)(p m:J):N ((Tn2×J×J×J×X×J×Tn45×Tn2×Tn2) ⊕ (Tn2)):=
 let j:=w64 (c+1)
 let k:=O a.length
 cond (K (j<k)) (let d:=w64 (c+1)
 cond (inR d a.length) (let b:=(M a d.toNat (0,0)).1
 let i:Int:=if b<f then b else f
 j4N p o m l c n f q e g a i) W) (j4N p o m l c n f q e g a f)
def j6O[LP](l:Tn2)(e m a:J)(n:X)(c:J)(f:Tn45)(b g:Tn2):N ((Tn2×J×J×J×X×J×Tn45×Tn2×Tn2) ⊕ (Tn2)):=
 let k:=O b.length
 cond (K (a<k)) (cond (K (a>=0)) (cond (inR a b.length) (let j:=(M b a.toNat (0,0)).2
 cond (inR a b.length) (let d:=(M b a.toNat (0,0)).1
 let i:Int:=if d>e then d else e
 j6C a b m l g e n c f i j) W) W) (j6C a b m l g e n c f e c)) (L (.inr g))
def jdY[LP]:=lp9 j6O
abbrev jgK:=eq9 j6O jdY
def j7x[LP](a:Tn55)(d:Tn2)(b c:J):N (Tn2×J):=(j0c a).bind λe=>cond (e.2 != 0) (L (([]:Tn2),8)) ((j8p d).bind λg=>cond (g != 0) (L (([]:Tn2),8)) ((j5E b c).bind λf=>cond (!f) (L (([]:Tn2),1)) ((jdY d b c (-1) a.1 a.2.1 a.2.2 e.1 ([]:Tn2)).bind λi=>let j:=O i.length
 cond (K (j>4096)) (L (([]:Tn2),5)) (L (i,0)))))
def j4O(k b:J)(l:U J)(n:J)(o:X)(g:J)(i:Tn45)(m:Tn2)(r p q:J):N ((J×X×J×Tn45×J×J×Tn2×(U J)) ⊕ (U J)):=
 let c:=w64 (k*86400)
 let f:=w64 (c+b)
 let a:=w64 (f-r)
 cond (cond (K (a>=p)) (K (a<q)) Z) (cond (K (S l+S [a]<=j03)) (let e:U Int:=l++[a]
 let j:=w64 (n+1)
 L (.inl (j,o,g,i,k,b,m,e))) W) (let d:=w64 (n+1)
 L (.inl (d,o,g,i,k,b,m,l)))
def j4P(j:J)(b:Tn2)(m e:J)(o:U J)(n:X)(c:J)(d:Tn45)(l k:J):N ((J×X×J×Tn45×J×J×Tn2×(U J)) ⊕ (U J)):=
 let g:=w64 (j+1)
 let i:=O b.length
 cond (K (g<i)) (let a:=w64 (j+1)
 cond (inR a b.length) (let f:=(M b a.toNat (0,0)).1
 j4O m e o j n c d b l k f) W) (j4O m e o j n c d b l k 8589934593)
def j4y(a:J)(l:X)(c:J)(e:Tn45)(k d:J)(b:Tn2)(j:U J):N ((J×X×J×Tn45×J×J×Tn2×(U J)) ⊕ (U J)):=
 let g:=O b.length
 cond (K (a<g)) (cond (K (a>=0)) (cond (inR a b.length) (let i:=(M b a.toNat (0,0)).2
 cond (inR a b.length) (let f:=(M b a.toNat (0,0)).1
 j4P a b k d j l c e i f) W) W) (j4P a b k d j l c e c 0)) (L (.inr j))
def j5T[LP]:=lp8 j4y
abbrev jde:=eq8 j4y j5T
def j8N[LP](a:Tn55)(b:J×J):N ((U J)×J):=(j0c a).bind λc=>cond (c.2 != 0) (L (([]:(U J)),8)) ((j9e b.2 0 86399).bind λd=>cond (!d) (L (([]:(U J)),1)) ((jeN b.1).bind λe=>cond (!e) (L (([]:(U J)),0)) ((j5T (-1) a.1 a.2.1 a.2.2 b.1 b.2 c.1 ([]:(U J))).bind λf=>L (f,0))))
def j7y(a:J)(x:Tn57)(o:Tn51)(k:Tn28)(c:Tn68)(w:X)(n m f i g:J)(j:U J)(e:Tn2)(l p:J)(d:U J)(b:Tn2):N ((J×Tn57×Tn51×Tn28×Tn68×X×J×J×J×J×J×(U J)×Tn2×J×J×(U J)×Tn2) ⊕ (Tn57×Tn51×Tn28×Tn68×X×J×J×J×J×J×(U J)×Tn2×J×J×(U J))):=
 let u:=O b.length
 cond (K (a<u)) (cond (inR a b.length) (let q:=(M b a.toNat (0,0)).1
 cond (inR a b.length) (let r:=(M b a.toNat (0,0)).2
 let v:U Int:=[q,r]
 cond (K (S d+S v<=j03)) (let s:U Int:=d++v
 let t:=w64 (a+1)
 L (.inl (t,x,o,k,c,w,n,m,f,i,g,j,e,l,p,s,b))) W) W) W) (L (.inr (x,o,k,c,w,n,m,f,i,g,j,e,l,p,d)))
def jil[LP]:=c8 c9 (LP.lp (u8 unc9 j7y))
abbrev jhL:=eq17 j7y jil
def j7z(d:J)(o:Tn57)(f:Tn51)(k:Tn28)(i:Tn68)(n:X)(b:J)(c j:U J)(e:Tn2):N ((J×Tn57×Tn51×Tn28×Tn68×X×J×(U J)×(U J)×Tn2) ⊕ (Tn57×Tn51×Tn28×Tn68×X×J×(U J)×(U J))):=
 let l:=O e.length
 cond (K (d<l)) (cond (inR d e.length) (let a:=(M e d.toNat (0,0)).1
 cond (K (S j+S [a]<=j03)) (let g:U Int:=j++[a]
 let m:=w64 (d+1)
 L (.inl (m,o,f,k,i,n,b,c,g,e))) W) W) (L (.inr (o,f,k,i,n,b,c,j)))
def j9B[LP]:=c8 c2 (LP.lp (u8 unc2 j7z))
theorem jhM(g k c e d f a b i j):j9B g k c e d f a b i j=lpK (j7z g k c e d f a b i j) (λh=>j9B h.1 h.2.1 h.2.2.1 h.2.2.2.1 h.2.2.2.2.1 h.2.2.2.2.2.1 h.2.2.2.2.2.2.1 h.2.2.2.2.2.2.2.1 h.2.2.2.2.2.2.2.2.1 h.2.2.2.2.2.2.2.2.2):=j05 _ _
def j5U[LP](e g:J)(p:Tn57)(f:Tn51)(l:Tn28)(j:Tn68)(q:X)(a:J)(b k:U J):N ((J×J×Tn57×Tn51×Tn28×Tn68×X×J×(U J)×(U J)) ⊕ (J×Tn57×Tn51×Tn28×Tn68×X×J×(U J)×(U J))):=cond (K (g<2)) (cond (inR a p.length) (let c:=M p a.toNat (Y,0,[])
 cond (inR e b.length) (let m:=M b e.toNat 0
 let i:=w64 (m+g)
 (j8N c (i,0)).bind λd=>cond (K (S k+S d.1<=j03)) (let o:U Int:=k++d.1
 let n:=w64 (g+1)
 L (.inl (e,n,p,f,l,j,q,a,b,o))) W) W) W) (L (.inr (e,p,f,l,j,q,a,b,k)))
def jim[LP]:=c8 c2 (LP.lp (u8 unc2 j5U))
abbrev jee:=eq10 j5U jim
def j7A[LP](g:J)(m:Tn57)(i:Tn51)(k:Tn28)(j:Tn68)(l:X)(e:J)(b f:U J):N ((J×Tn57×Tn51×Tn28×Tn68×X×J×(U J)×(U J)) ⊕ (U J)):=
 let c:=O b.length
 cond (K (g<c)) ((jim g 0 m i k j l e b f).bind λa=>let d:=w64 (a.1+1)
 L (.inl (d,a.2.1,a.2.2.1,a.2.2.2.1,a.2.2.2.2.1,a.2.2.2.2.2.1,a.2.2.2.2.2.2.1,a.2.2.2.2.2.2.2.1,a.2.2.2.2.2.2.2.2))) (L (.inr f))
def jb1[LP]:=lp9 j7A
theorem jhN(i j c e d f a b g):jb1 i j c e d f a b g=lpK (j7A i j c e d f a b g) (λh=>jb1 h.1 h.2.1 h.2.2.1 h.2.2.2.1 h.2.2.2.2.1 h.2.2.2.2.2.1 h.2.2.2.2.2.2.1 h.2.2.2.2.2.2.2.1 h.2.2.2.2.2.2.2.2):=j05 _ _
def jje[LP](b:Tn74)(a:Tn62)(g l:J):N (U J):=cond (inR a.2.1 b.1.length) (let f:=M b.1 a.2.1.toNat (Y,0,[])
 (jaj f a g l).bind λp=>cond (K (S ([]:(U J))+S p.1<=j03)) (let n:U Int:=([]:(U J))++p.1
 let s:=O a.2.2.2.2.2.2.1.length
 cond (K (s>0)) ((j7x f a.2.2.2.2.2.2.1 g l).bind λr=>(jil 0 b.1 b.2.1 b.2.2.1 b.2.2.2 a.1 a.2.1 a.2.2.1.1 a.2.2.1.2 a.2.2.2.1 a.2.2.2.2.1 a.2.2.2.2.2.1 a.2.2.2.2.2.2.1 a.2.2.2.2.2.2.2.1 a.2.2.2.2.2.2.2.2 n r.1).bind λe=>cond (e.2.2.2.2.2.2.2.2.2.2.2.2.2.1==0) (L e.2.2.2.2.2.2.2.2.2.2.2.2.2.2) (cond (inR e.2.2.2.2.2.2.2.2.2.2.2.2.1 e.2.2.1.length) (let j:=M e.2.2.1 e.2.2.2.2.2.2.2.2.2.2.2.2.1.toNat (Y,0,[])
 cond (inR j.2.1 e.1.length) (let m:=M e.1 j.2.1.toNat (Y,0,[])
 (j0c m).bind λt=>(j9B 0 e.1 e.2.1 e.2.2.1 e.2.2.2.1 j.1 j.2.1 j.2.2 e.2.2.2.2.2.2.2.2.2.2.2.2.2.2 t.1).bind λk=>(jb1 0 k.1 k.2.1 k.2.2.1 k.2.2.2.1 k.2.2.2.2.1 k.2.2.2.2.2.1 k.2.2.2.2.2.2.1 k.2.2.2.2.2.2.2).bind λu=>L u) W) W)) (cond (a.2.2.2.2.2.2.2.2==0) (L n) (cond (inR a.2.2.2.2.2.2.2.1 b.2.2.1.length) (let d:=M b.2.2.1 a.2.2.2.2.2.2.2.1.toNat (Y,0,[])
 cond (inR d.2.1 b.1.length) (let i:=M b.1 d.2.1.toNat (Y,0,[])
 (j0c i).bind λo=>(j9B 0 b.1 b.2.1 b.2.2.1 b.2.2.2 d.1 d.2.1 d.2.2 n o.1).bind λc=>(jb1 0 c.1 c.2.1 c.2.2.1 c.2.2.2.1 c.2.2.2.2.1 c.2.2.2.2.2.1 c.2.2.2.2.2.2.1 c.2.2.2.2.2.2.2).bind λq=>L q) W) W))) W) W
def j7g(k:J)(g c:U J)(m:J)(l:U J):N ((J×J×(U J)×(U J)×(U J)) ⊕ (U J)):=cond (inR k g.length) (let a:=M g k.toNat 0
 let d:=w64 (k+1)
 let e:=O c.length
 let j:=O c.length
 let b:=w64 (j-1)
 cond ((inR b c.length) || !(!(e==0))) (let i:=M c b.toNat 0
 cond (cond (e==0) Á (i != a)) (cond (K (S c+S [a]<=j03)) (let f:U Int:=c++[a]
 L (.inl (m,d,f,l,g))) W) (L (.inl (m,d,c,l,g)))) W) W
def j7h(k:J)(g b:U J)(m:J)(l:U J):N ((J×J×(U J)×(U J)×(U J)) ⊕ (U J)):=cond (inR k g.length) (let a:=M g k.toNat 0
 let c:=w64 (k+1)
 let e:=O b.length
 let j:=O b.length
 let d:=w64 (j-1)
 cond ((inR d b.length) || !(!(e==0))) (let i:=M b d.toNat 0
 cond (cond (e==0) Á (i != a)) (cond (K (S b+S [a]<=j03)) (let f:U Int:=b++[a]
 L (.inl (c,m,f,g,l))) W) (L (.inl (c,m,b,g,l)))) W) W
def j7B(m:(U J)->N (U J))(b d:J)(e a c:U J):N ((J×J×(U J)×(U J)×(U J)) ⊕ (U J)):=
 let i:=O a.length
 let j:=O c.length
 cond (cond (K (b<i)) Á (K (d<j))) (let f:=O c.length
 cond (d==f) (j7h b a e d c) (let g:=O a.length
 cond (K (b<g)) (cond (inR b a.length) (let l:=M a b.toNat 0
 cond (inR d c.length) (let k:=M c d.toNat 0
 cond (K (l<=k)) (j7h b a e d c) (j7g d c e b a)) W) W) (j7g d c e b a))) (L (.inr e))
def jfq[LP](a:(U J)->N (U J))(c e:J)(f b d:U J):N (U J):=LP.lp (unc5 (j7B a)) (c,e,f,b,d)
theorem jhO(a:(U J)->N (U J))(c e:J)(f b d:U J):jfq a c e f b d=lpK (j7B a c e f b d) (λh=>jfq a h.1 h.2.1 h.2.2.1 h.2.2.2.1 h.2.2.2.2):=j05 _ _
def jcn[LP](c:(U J)->N (U J))(a:U J):N (U J):=
 let k:=O a.length
 cond (K (k<2)) (cond (K (S ([]:(U J))+S a<=j03)) (let l:U Int:=([]:(U J))++a
 L l) W) (let e:=O a.length
 let b:=w64 (Ç e 2)
 cond (K ((0:J)<=0)&&(K (0<=b)&&K (b<=(O a.length)))) (let g:U Int:=Í 0 (Ë b.toNat a)
 (c g).bind λm=>let f:=O a.length
 let d:=w64 (Ç f 2)
 cond (K (0<=d)&&(K (d<=(O a.length))&&K ((O a.length)<=(O a.length)))) (let i:U Int:=Í d.toNat (Ë a.length a)
 (c i).bind λj=>(jfq c 0 0 ([]:(U J)) m j).bind λn=>L n) W) W)
def j6b[LP](b:(U J)->N (U J))(h:U J):N (U J):=jcn (λa=>b a) h
def jco[LP](a:U J):N (U J):=LP.rp j6b a
def j5F(e g a:J)(m b:U J):N ((J×J×J×(U J)×(U J)) ⊕ (J×J×(U J))):=
 let l:=O b.length
 cond (K (a<l)) (cond (inR a b.length) (let c:=M b a.toNat 0
 cond ((inR a b.length) || !(K (c>e))) (let f:=M b a.toNat 0
 cond (cond (K (c>e)) (K (f<g)) Z) (cond (inR a b.length) (let d:=M b a.toNat 0
 cond (K (S m+S [d]<=j03)) (let i:U Int:=m++[d]
 let k:=w64 (a+1)
 L (.inl (e,g,k,i,b))) W) W) (let j:=w64 (a+1)
 L (.inl (e,g,j,m,b)))) W) W) (L (.inr (e,g,m)))
def jbi[LP]:=lp5 j5F
theorem jeP(b a c d e):jbi b a c d e=lpK (j5F b a c d e) (λh=>jbi h.1 h.2.1 h.2.2.1 h.2.2.2.1 h.2.2.2.2):=j05 _ _
def jdf[LP](c:U J)(a d:J):N (U J):=(jco c).bind λe=>(jbi a d 0 [a] e).bind λb=>cond (K (b.2.1>b.1)) (cond (K (S b.2.2+S [b.2.1]<=j03)) (let f:U Int:=b.2.2++[b.2.1]
 L f) W) (L b.2.2)
def j7C[LP](n o c:J)(p:Tn57)(e:Tn51)(j:Tn28)(g:Tn68)(q:X)(b:Tn63)(f:Tn32)(i:U J):N ((J×J×J×Tn57×Tn51×Tn28×Tn68×X×Tn63×Tn32×(U J)) ⊕ (J×J×X×Tn63×Tn32×(U J))):=
 let m:=O b.length
 cond (K (c<m)) (cond (inR c b.length) (let a:=M b c.toNat (Y,0,(0,0),0,0,[],[],0,0)
 (jje (p,e,j,g) a n o).bind λd=>cond (K (S i+S d<=j03)) (let l:U Int:=i++d
 let k:=w64 (c+1)
 L (.inl (n,o,k,p,e,j,g,q,b,f,l))) W) W) (L (.inr (n,o,q,b,f,i)))
def jin[LP]:=c8 c3 (LP.lp (u8 unc3 j7C))
abbrev jhP:=eq11 j7C jin
def j7D(l m b:J)(n:X)(k:Tn63)(a:Tn32)(d:U J):N ((J×J×J×X×Tn63×Tn32×(U J)) ⊕ (J×J×(U J))):=
 let i:=O a.length
 cond (K (b<i)) (cond (inR b a.length) (let j:=M a b.toNat (0,0,0,0,0)
 cond (inR b a.length) (let g:=M a b.toNat (0,0,0,0,0)
 let c:U Int:=[j.2.2.2.1,g.2.2.2.2]
 cond (K (S d+S c<=j03)) (let e:U Int:=d++c
 let f:=w64 (b+1)
 L (.inl (l,m,f,n,k,a,e))) W) W) W) (L (.inr (l,m,d)))
def jio[LP]:=lp7 j7D
abbrev jhQ:=eq7 j7D jio
def jlp[LP](b:Tn74)(a c f:J):N (U J):=cond (inR a b.2.2.2.length) (let e:=M b.2.2.2 a.toNat (Y,[],[])
 (jin c f 0 b.1 b.2.1 b.2.2.1 b.2.2.2 e.1 e.2.1 e.2.2 ([]:(U J))).bind λd=>(jio d.1 d.2.1 0 d.2.2.1 d.2.2.2.1 d.2.2.2.2.1 d.2.2.2.2.2).bind λg=>(jdf g.2.2 g.1 g.2.1).bind λi=>L i) W
def jgL[LP](b:Tn55)(a:Tn62)(c:J):N (J×J):=(jeM b a).bind λe=>cond (e != 0) (L (0,8)) (cond (cond (K (c<0)) Á (K (c>8589934592))) (L (0,1)) ((jeO b a c).bind λd=>L (d,0)))
def jeQ[LP](a:Tn55)(c:J):N (J×J):=(j6u a c).bind λb=>cond (b.2 != 0) (L (0,b.2)) ((j9K b.1).bind λd=>L (d,0))
def j6c(b:Tn2)(d c:J):N ((Tn2×J×J) ⊕ (Æ ⊕ Ê)):=
 let g:=O b.length
 cond (K (c<g)) (cond (inR c b.length) (let a:=M b c.toNat (0,0)
 cond ((inR c b.length) || !(K (d>=a.1))) (let f:=M b c.toNat (0,0)
 cond (cond (K (d>=a.1)) (K (d<f.2)) Z) (L (.inr (.inl Á))) (let e:=w64 (c+1)
 L (.inl (b,d,e)))) W) W) (L (.inr (.inr ())))
def jcp[LP]:=lp3 j6c
abbrev jfU:=eq3 j6c jcp
def jhm[LP](a:Tn2)(b:J):N Bool:=(jcp a b 0).bind λc=>sumC c (λd=>L d) (λe=>L Z)
def jnY[LP](a:Tn55)(b:Tn2)(d:J):N Bool:=(jeQ a d).bind λc=>cond (c.2==0) ((j8p b).bind λe=>cond (e==0) ((jhm b c.1).bind λf=>L f) (L Z)) (L Z)
def j7E(w:J)(t:Æ)(b:J)(v:X)(k g e j d:J)(c:U J)(i:Tn2)(l f:J)(u:X)(n:J)(a:U J)(o m:J):N ((J×Æ×J×X×J×J×J×J×J×(U J)×Tn2×J×J×X×J×(U J)×J×J) ⊕ (J×Æ×X×J×J×J×J×J×(U J)×Tn2×J×J)):=
 let s:=O a.length
 cond (K (b<s)) (cond t (let p:=w64 (b+1)
 L (.inl (w,Á,p,v,k,g,e,j,d,c,i,l,f,u,n,a,o,m))) (cond (inR b a.length) (let r:=M a b.toNat 0
 let q:=w64 (b+1)
 L (.inl (w,(r==o),q,v,k,g,e,j,d,c,i,l,f,u,n,a,o,m))) W)) (L (.inr (w,t,v,k,g,e,j,d,c,i,l,f)))
def jb2[LP](s:J)(n:Æ)(q:J)(r:X)(d m l f k:J)(i:U J)(e:Tn2)(j g:J)(o:X)(a:J)(c:U J)(p b:J):N (J×Æ×X×J×J×J×J×J×(U J)×Tn2×J×J):=LP.lp (u8 (u8 unc2) j7E) (s,n,q,r,d,m,l,f,k,i,e,j,g,o,a,c,p,b)
theorem jhR(s n q r l i f k e d j m g o c b p a):jb2 s n q r l i f k e d j m g o c b p a=lpK (j7E s n q r l i f k e d j m g o c b p a) (λh=>jb2 h.1 h.2.1 h.2.2.1 h.2.2.2.1 h.2.2.2.2.1 h.2.2.2.2.2.1 h.2.2.2.2.2.2.1 h.2.2.2.2.2.2.2.1 h.2.2.2.2.2.2.2.2.1 h.2.2.2.2.2.2.2.2.2.1 h.2.2.2.2.2.2.2.2.2.2.1 h.2.2.2.2.2.2.2.2.2.2.2.1 h.2.2.2.2.2.2.2.2.2.2.2.2.1 h.2.2.2.2.2.2.2.2.2.2.2.2.2.1 h.2.2.2.2.2.2.2.2.2.2.2.2.2.2.1 h.2.2.2.2.2.2.2.2.2.2.2.2.2.2.2.1 h.2.2.2.2.2.2.2.2.2.2.2.2.2.2.2.2.1 h.2.2.2.2.2.2.2.2.2.2.2.2.2.2.2.2.2):=j05 _ _
def jip[LP](a:Tn62)(g:J×J)(d:Tn74)(i:J):N (J×Æ):=cond (a.2.2.2.2.2.2.2.2==0) (L (g.1,Á)) (cond (inR a.2.2.2.2.2.2.2.1 d.2.2.1.length) (let b:=M d.2.2.1 a.2.2.2.2.2.2.2.1.toNat (Y,0,[])
 cond (inR b.2.1 d.1.length) (let c:=M d.1 b.2.1.toNat (Y,0,[])
 (j6u c i).bind λf=>(jb2 g.1 Z 0 a.1 a.2.1 a.2.2.1.1 a.2.2.1.2 a.2.2.2.1 a.2.2.2.2.1 a.2.2.2.2.2.1 a.2.2.2.2.2.2.1 a.2.2.2.2.2.2.2.1 a.2.2.2.2.2.2.2.2 b.1 b.2.1 b.2.2 f.1.1 f.1.2).bind λe=>L (e.1,(e.2.1==(e.2.2.2.2.2.2.2.2.2.2.2==2)))) W) W)
def jjf[LP](c:Tn74)(a:Tn62)(d:J):N (J×Æ):=cond (inR a.2.1 c.1.length) (let b:=M c.1 a.2.1.toNat (Y,0,[])
 (jgL b a d).bind λe=>let f:=O a.2.2.2.2.2.2.1.length
 cond (cond (e.2 != 0) Á (K (e.1<0))) (cond ((!(K (f>0))) || !(!Á)) (L (0,Z)) W) (cond (K (f>0)) ((jnY b a.2.2.2.2.2.2.1 d).bind λg=>cond (!g) (L (0,Z)) (jip a e c d)) (jip a e c d))) W
def jmk[LP](b:Tn74)(a:Tn62)(f:J):N Int:=(jjf b a f).bind λd=>cond (!d.2) (L (-1)) (let c:=O a.2.2.2.2.2.1.length
 cond (!(c==0)) (let e:=Ä d.1 c
 cond (inR e a.2.2.2.2.2.1.length) (let g:=M a.2.2.2.2.2.1 e.toNat 0
 L g) W) W)
def j7F(i f c:J)(k:X)(g:Tn63)(b:Tn32):N ((J×J×J×X×Tn63×Tn32) ⊕ (Æ ⊕ Ê)):=
 let e:=O b.length
 cond (K (c<e)) (cond (inR c b.length) (let a:=M b c.toNat (0,0,0,0,0)
 let j:Bool:=cond (cond (a.1==0) (a.2.1==i) Z) (K (a.2.2.2.1<=f)) Z
 cond (cond j (K (f<a.2.2.2.2)) Z) (L (.inr (.inl Á))) (let d:=w64 (c+1)
 L (.inl (i,f,d,k,g,b)))) W) (L (.inr (.inr ())))
def jfr[LP]:=lp6 j7F
abbrev jhS:=eq6 j7F jfr
def jlq[LP](b:Tn67)(a c:J):N Bool:=(jfr a c 0 b.1 b.2.1 b.2.2).bind λd=>sumC d (λe=>L e) (λf=>L Z)
def j8s[LP](j i:J)(n:Tn57)(g:Tn51)(e:Tn28)(d:Tn68)(o:X)(b:Tn63)(f:Tn32):N ((J×J×Tn57×Tn51×Tn28×Tn68×X×Tn63×Tn32) ⊕ ((J×J) ⊕ Ê)):=cond (K (i>=0)) (cond (inR i b.length) (let a:=M b i.toNat (Y,0,(0,0),0,0,[],[],0,0)
 (jmk (n,g,e,d) a j).bind λc=>cond (K (c>=0)) ((jlq (o,b,f) c j).bind λm=>cond (!m) (L (.inr (.inl (i,c)))) (let l:=w64 (i-1)
 L (.inl (j,l,n,g,e,d,o,b,f)))) (let k:=w64 (i-1)
 L (.inl (j,k,n,g,e,d,o,b,f)))) W) (L (.inr (.inr ())))
def jhn[LP]:=lp9 j8s
abbrev jjg:=eq9 j8s jhn
def joX[LP](b:Tn74)(a d:J):N (J×J):=cond (inR a b.2.2.2.length) (let c:=M b.2.2.2 a.toNat (Y,[],[])
 let e:=O c.2.1.length
 let f:=w64 (e-1)
 (jhn d f b.1 b.2.1 b.2.2.1 b.2.2.2 c.1 c.2.1 c.2.2).bind λg=>sumC g (λi=>L i) (λj=>L ((-1),(-1)))) W
def j7G(c:Tn32)(e d b:J):N ((Tn32×J×J×J) ⊕ (J)):=
 let j:=O c.length
 cond (K (b<j)) (cond (inR b c.length) (let a:=M c b.toNat (0,0,0,0,0)
 cond (cond (K (d<a.2.2.2.1)) Á (K (d>=a.2.2.2.2))) (let g:=w64 (b+1)
 L (.inl (c,e,d,g))) (cond (a.1==1) (let f:=w64 (b+1)
 L (.inl (c,a.2.1,d,f))) (cond (cond (a.1==2) (e==a.2.1) Z) (let l:=w64 (b+1)
 L (.inl (c,a.2.2.1,d,l))) (cond (cond (a.1==2) (e==a.2.2.1) Z) (let k:=w64 (b+1)
 L (.inl (c,a.2.1,d,k))) (let i:=w64 (b+1)
 L (.inl (c,e,d,i))))))) W) (L (.inr e))
def jfs[LP]:=lp4 j7G
abbrev jhT:=eq4 j7G jfs
def joY[LP](b:Tn32)(a c:J):N Int:=(jfs b a c 0).bind λd=>L d
def jml[LP](b:Tn74)(a c:J):N Int:=(joX b a c).bind λe=>cond (inR a b.2.2.2.length) (let d:=M b.2.2.2 a.toNat (Y,[],[])
 (joY d.2.2 e.2 c).bind λf=>L f) W
def jcq(a:Tn3)(c:Tn15):N Tn15:=
 let b:Tn15:=[a]
 cond (K (S c+S b<=j03)) (let d:Tn15:=c++b
 L d) W
def jho(a:Tn15)(b:Tn3):N Tn15:=cond (K (b.2.1<=b.1)) (L a) (let c:=O a.length
 cond (K (c>0)) (let f:=w64 (c-1)
 cond (inR f a.length) (let i:=(M a f.toNat (0,0,0)).2.1
 cond (i==b.1) (let e:=w64 (c-1)
 cond (inR e a.length) (let g:=(M a e.toNat (0,0,0)).2.2
 cond (g==b.2.2) (let d:=w64 (c-1)
 cond (inR d a.length) (let j:Tn15:=Â a d.toNat ((M a d.toNat (0,0,0)).1,b.2.1,(M a d.toNat (0,0,0)).2.2)
 L j) W) (jcq b a)) W) (jcq b a)) W) (jcq b a))
def j6d[LP](q a:J)(r:Tn57)(d:Tn51)(f:Tn28)(e:Tn68)(b:U J)(p:Tn15):N ((J×J×Tn57×Tn51×Tn28×Tn68×(U J)×Tn15) ⊕ (Tn15)):=
 let j:=w64 (a+1)
 let g:=O b.length
 cond (K (j<g)) (cond (inR a b.length) (let o:=M b a.toNat 0
 let c:=w64 (a+1)
 cond (inR c b.length) (let l:=M b c.toNat 0
 cond (inR a b.length) (let i:=M b a.toNat 0
 (jml (r,d,f,e) q i).bind λn=>(jho p (o,l,n)).bind λk=>let m:=w64 (a+1)
 L (.inl (q,m,r,d,f,e,b,k))) W) W) W) (L (.inr p))
def jft[LP]:=lp8 j6d
abbrev jfV:=eq8 j6d jft
def jhp[LP](a:Tn74)(b c d:J):N Tn15:=(jlp a b c d).bind λe=>(jft b 0 a.1 a.2.1 a.2.2.1 a.2.2.2 e ([]:Tn15)).bind λf=>L f
def jbK[LP](a:Tn74)(b c d:J):N (Tn15×J):=(jmj a b c d).bind λf=>cond (f != 0) (L (([]:Tn15),f)) ((jhp a b c d).bind λe=>let g:=O e.length
 cond (K (g>16384)) (L (([]:Tn15),5)) (L (e,0)))
def j6e(x a1 z m b:J)(a2:Tn57)(e:Tn51)(d:Tn28)(c:Tn68)(g:U J)(l j:Tn2)(a:Tn15):N ((J×J×J×J×J×Tn57×Tn51×Tn28×Tn68×(U J)×Tn2×Tn2×Tn15) ⊕ (J×J×J×J×Tn57×Tn51×Tn28×Tn68×(U J)×Tn2×Tn2)):=
 let r:=O a.length
 cond (K (b<r)) (cond (inR b a.length) (let u:=(M a b.toNat (0,0,0)).2.2
 cond (u==x) (cond (inR b a.length) (let n:=(M a b.toNat (0,0,0)).1
 cond (inR b a.length) (let o:=(M a b.toNat (0,0,0)).2.1
 let k:U Int:=[n,o]
 cond (K (S g+S k<=j03)) (let y:U Int:=g++k
 cond (inR b a.length) (let i:=(M a b.toNat (0,0,0)).1
 let v:Int:=j3i 0 l i
 let q:=w64 (v+1)
 let a0:Tn2:=j6V l i q
 cond (inR b a.length) (let f:=(M a b.toNat (0,0,0)).2.1
 let p:Int:=j3i 0 j f
 let w:=w64 (p+1)
 let a3:Tn2:=j6V j f w
 let s:=w64 (b+1)
 L (.inl (x,a1,z,m,s,a2,e,d,c,y,a0,a3,a))) W) W) W) W) W) (let t:=w64 (b+1)
 L (.inl (x,a1,z,m,t,a2,e,d,c,g,l,j,a)))) W) (L (.inr (x,a1,z,m,a2,e,d,c,g,l,j)))
def jcr[LP]:=c8 c5 (LP.lp (u8 unc5 j6e))
abbrev jfW:=eq13 j6e jcr
def j6f[LP](p m n e:J)(o:Tn57)(d:Tn51)(f:Tn28)(c:Tn68)(j:U J)(k l:Tn2):N ((J×J×J×J×Tn57×Tn51×Tn28×Tn68×(U J)×Tn2×Tn2) ⊕ (J ⊕ ((U J)×Tn2×Tn2))):=
 let i:=O c.length
 cond (K (e<i)) ((jbK (o,d,f,c) e m n).bind λb=>cond (b.2 != 0) (L (.inr (.inl b.2))) ((jcr p m n e 0 o d f c j k l b.1).bind λa=>let g:=w64 (a.2.2.2.1+1)
 L (.inl (a.1,a.2.1,a.2.2.1,g,a.2.2.2.2.1,a.2.2.2.2.2.1,a.2.2.2.2.2.2.1,a.2.2.2.2.2.2.2.1,a.2.2.2.2.2.2.2.2.1,a.2.2.2.2.2.2.2.2.2.1,a.2.2.2.2.2.2.2.2.2.2)))) (L (.inr (.inr (j,k,l))))
def j8O[LP]:=c8 c3 (LP.lp (u8 unc3 j6f))
abbrev jfX:=eq11 j6f j8O
def j6g(n a d:J)(c:U J)(l m f:Tn2):N ((J×J×(U J)×Tn2×Tn2×Tn2) ⊕ (Tn2)):=cond (cond (K (n>0)) (a==0) Z) (let e:=O f.length
 let b:=w64 (e-1)
 cond (inR d c.length) (let g:=M c d.toNat 0
 cond (inR b f.length) (let k:Tn2:=Â f b.toNat ((M f b.toNat (0,0)).1,g)
 let j:=w64 (d+1)
 L (.inl (a,j,c,l,m,k))) W) W) (let i:=w64 (d+1)
 L (.inl (a,i,c,l,m,f)))
def j6h(f b:J)(a:U J)(m o e:Tn2):N ((J×J×(U J)×Tn2×Tn2×Tn2) ⊕ (Tn2)):=
 let q:=O a.length
 cond (K (b<q)) (cond (inR b a.length) (let k:=M a b.toNat 0
 let n:Int:=j3i 0 m k
 cond (inR b a.length) (let j:=M a b.toNat 0
 let p:Int:=j3i 0 o j
 let l:=w64 (n-p)
 let c:=w64 (f+l)
 cond (cond (f==0) (K (c>0)) Z) (cond (inR b a.length) (let i:=M a b.toNat 0
 let d:Tn2:=[(i,0)]
 cond (K (S e+S d<=j03)) (let g:Tn2:=e++d
 j6g f c b a m o g) W) W) (j6g f c b a m o e)) W) W) (L (.inr e))
def j8P[LP]:=lp6 j6h
abbrev jfY:=eq6 j6h j8P
def j9L[LP](a:Tn74)(b c d:J):N (Tn2×J):=(jbI a b c d).bind λe=>cond (e != 0) (L (([]:Tn2),e)) (let g:Tn2:=[]
 let j:Tn2:=[]
 (j8O b c d 0 a.1 a.2.1 a.2.2.1 a.2.2.2 ([]:(U J)) g j).bind λm=>sumC m (λn=>L (([]:Tn2),n)) (λl=>(jco l.1).bind λk=>(j8P 0 0 k l.2.1 l.2.2 ([]:Tn2)).bind λi=>let f:=O i.length
 cond (K (f>4096)) (L (([]:Tn2),5)) (L (i,0))))
def j6i(f:Tn2)(l o e:J):N ((Tn2×J×J×J) ⊕ (J)):=
 let n:=O f.length
 cond (K (e<n)) (cond (inR e f.length) (let d:=M f e.toNat (0,0)
 let j:Int:=if l<d.2 then l else d.2
 cond (inR e f.length) (let b:=M f e.toNat (0,0)
 let c:=w64 (l-604800)
 let k:Int:=if c>b.1 then c else b.1
 let a:=w64 (j-k)
 let g:Int:=if a>0 then a else 0
 let i:=w64 (o+g)
 let m:=w64 (e+1)
 L (.inl (f,l,i,m))) W) W) (L (.inr o))
def jfu[LP]:=lp4 j6i
abbrev jfZ:=eq4 j6i jfu
def jcG[LP](b:Tn2)(a:J):N Int:=(jfu b a 0 0).bind λc=>L c
def j6P(b:Tn2)(p o q a:J)(n:U J):N ((Tn2×J×J×J×J×(U J)) ⊕ (Tn2×J×J×J×(U J))):=
 let m:=O b.length
 cond (K (a<m)) (cond (inR a b.length) (let e:=M b a.toNat (0,0)
 cond (inR a b.length) (let l:=M b a.toNat (0,0)
 cond (inR a b.length) (let d:=M b a.toNat (0,0)
 let i:=w64 (d.1+604800)
 cond (inR a b.length) (let f:=M b a.toNat (0,0)
 let g:=w64 (f.2+604800)
 let c:U Int:=[e.1,l.2,i,g]
 cond (K (S n+S c<=j03)) (let j:U Int:=n++c
 let k:=w64 (a+1)
 L (.inl (b,p,o,q,k,j))) W) W) W) W) W) (L (.inr (b,p,o,q,n)))
def jgM[LP]:=lp6 j6P
abbrev jgN:=eq6 j6P jgM
def j6Q[LP](l:Tn2)(g a:J)(b d:U J):N ((Tn2×J×J×(U J)×(U J)) ⊕ (U J)):=
 let k:=w64 (a+1)
 let j:=O b.length
 cond (K (k<j)) (cond (inR a b.length) (let q:=M b a.toNat 0
 (jcG l q).bind λc=>let e:=w64 (a+1)
 cond (inR e b.length) (let t:=M b e.toNat 0
 (jcG l t).bind λm=>cond (cond (K (c<=g)) (K (m>g)) Z) (cond (inR a b.length) (let n:=M b a.toNat 0
 let s:=w64 (n+g)
 let i:=w64 (s-c)
 let f:=w64 (i+1)
 cond (K (S d+S [f]<=j03)) (let p:U Int:=d++[f]
 let o:=w64 (a+1)
 L (.inl (l,g,o,b,p))) W) W) (let r:=w64 (a+1)
 L (.inl (l,g,r,b,d)))) W) W) (L (.inr d))
def jgO[LP]:=lp5 j6Q
abbrev jgP:=eq5 j6Q jgO
def jgQ[LP](e:Tn2)(c a b:J):N (U J):=
 let f:U Int:=[a,b]
 (jgM e c a b 0 f).bind λd=>(jdf d.2.2.2.2 d.2.2.1 d.2.2.2.1).bind λg=>(jgO d.1 d.2.1 0 g ([]:(U J))).bind λi=>L i
def jjh(b a:Tn3):N Bool:=cond (b.2.2 != a.2.2) (L (K (b.2.2<a.2.2))) (cond (b.1 != a.1) (L (K (b.1<a.1))) (L (K (b.2.1<a.2.1))))
def j8t(f i b a:J)(e:Tn15):N ((J×J×J×J×Tn15) ⊕ (J×J×J×J×Tn15)):=cond (K (f>0)) (let d:=w64 (f-1)
 cond (inR d e.length) (let c:=M e d.toNat (0,0,0)
 (jjh (i,b,a) c).bind λj=>cond j (let g:=w64 (f-1)
 L (.inl (g,i,b,a,e))) (L (.inr (f,i,b,a,e)))) W) (L (.inr (f,i,b,a,e)))
def jki[LP]:=lp5 j8t
abbrev jji:=eq5 j8t jki
def jkj[LP](b:J×J×J×J×Tn15):N Tn15:=
 let e:Tn15:=[(b.2.1,b.2.2.1,b.2.2.2.1)]
 cond (K (S b.2.2.2.2+S e<=j03)) (let a:Tn15:=b.2.2.2.2++e
 let c:=w64 (b.1+1)
 cond (K (0<=c)&&K (c<=(O a.length))) (cond (K (0<=b.1)&&K (b.1<=(O a.length))) (let d:Tn15:=over a c.toNat (Í b.1.toNat a)
 let g:=O (min (S (Í b.1.toNat a)) (S a-c.toNat))
 cond (inR b.1 d.length) (let f:Tn15:=Â d b.1.toNat (b.2.1,b.2.2.1,b.2.2.2.1)
 L f) W) W) W) W
def jfv[LP](c:Tn15)(b:Tn3):N Tn15:=
 let f:=O c.length
 (jki f b.1 b.2.1 b.2.2 c).bind λa=>cond (K (a.1>0)) (let e:=w64 (a.1-1)
 cond (inR e a.2.2.2.2.length) (let d:=M a.2.2.2.2 e.toNat (0,0,0)
 cond ((d.1==a.2.1)&&((d.2.1==a.2.2.1)&&(d.2.2==a.2.2.2.1))) (L a.2.2.2.2) (jkj a)) W) (jkj a)
def j45(b:Tn2)(a:J):N ((Tn2×J) ⊕ (Æ ⊕ Ê)):=
 let m:=O b.length
 cond (K (a<m)) (cond (inR a b.length) (let i:=M b a.toNat (0,0)
 cond (K (i.1<0)) (L (.inr (.inl Z))) (cond (inR a b.length) (let e:=M b a.toNat (0,0)
 cond (inR a b.length) (let l:=M b a.toNat (0,0)
 cond (K (e.1>=l.2)) (L (.inr (.inl Z))) (cond (inR a b.length) (let j:=M b a.toNat (0,0)
 cond (K (j.2>8589934592)) (L (.inr (.inl Z))) (cond (K (a>0)) (cond (inR a b.length) (let f:=M b a.toNat (0,0)
 let c:=w64 (a-1)
 cond (inR c b.length) (let k:=M b c.toNat (0,0)
 cond (K (f.1<=k.2)) (L (.inr (.inl Z))) (let d:=w64 (a+1)
 L (.inl (b,d)))) W) W) (let g:=w64 (a+1)
 L (.inl (b,g))))) W)) W) W)) W) (L (.inr (.inr ())))
def j6Y[LP]:=lp2 j45
theorem jak(a b):j6Y a b=lpK (j45 a b) (λh=>j6Y h.1 h.2):=j05 _ _
def jbL[LP](a:Tn2):N Bool:=
 let b:=O a.length
 cond (K (b>4096)) (L Z) ((j6Y a 0).bind λc=>sumC c (λd=>L d) (λe=>L Á))
def j8u(b:Tn2)(d f i:J):N ((Tn2×J×J×J) ⊕ (Tn2×J×J)):=cond (K (f<i)) (let g:=w64 (f+i)
 let a:=w64 (Ç g 2)
 cond (inR a b.length) (let e:=M b a.toNat (0,0)
 cond (K (e.2<=d)) (let c:=w64 (a+1)
 L (.inl (b,d,c,i))) (L (.inl (b,d,f,a)))) W) (L (.inr (b,d,f)))
def jkk[LP]:=lp4 j8u
abbrev jjj:=eq4 j8u jkk
def jiq[LP](b:Tn2)(d:J):N Bool:=
 let f:=O b.length
 (jkk b d 0 f).bind λa=>let c:=O a.1.length
 cond ((inR a.2.2 a.1.length) || !(K (a.2.2<c))) (let e:=M a.1 a.2.2.toNat (0,0)
 L (cond (K (a.2.2<c)) (K (e.1<=a.2.1)) Z)) W
def j5G(a l:Tn2)(k c:J)(j:U J):N ((Tn2×Tn2×J×J×(U J)) ⊕ (Tn2×Tn2×J×(U J))):=
 let d:=O a.length
 cond (K (c<d)) (cond (inR c a.length) (let f:=M a c.toNat (0,0)
 cond (inR c a.length) (let g:=M a c.toNat (0,0)
 let b:U Int:=[f.1,g.2]
 cond (K (S j+S b<=j03)) (let e:U Int:=j++b
 let i:=w64 (c+1)
 L (.inl (a,l,k,i,e))) W) W) W) (L (.inr (a,l,k,j)))
def jbj[LP]:=lp5 j5G
abbrev jeR:=eq5 j5G jbj
def j5H(l b:Tn2)(k a:J)(j:U J):N ((Tn2×Tn2×J×J×(U J)) ⊕ (Tn2×Tn2×J×(U J))):=
 let g:=O b.length
 cond (K (a<g)) (cond (inR a b.length) (let i:=M b a.toNat (0,0)
 cond (inR a b.length) (let e:=M b a.toNat (0,0)
 let c:U Int:=[i.1,e.2]
 cond (K (S j+S c<=j03)) (let d:U Int:=j++c
 let f:=w64 (a+1)
 L (.inl (l,b,k,f,d))) W) W) W) (L (.inr (l,b,k,j)))
def jbk[LP]:=lp5 j5H
abbrev jeS:=eq5 j5H jbk
def j3U[LP](c:J)(g:U J)(j m l:Tn2)(k:J):N ((Tn2×Tn2×J×J×(U J)×Tn2) ⊕ (Tn2)):=cond (inR c g.length) (let d:=M g c.toNat 0
 let b:=w64 (c+1)
 cond (inR b g.length) (let e:=M g b.toNat 0
 let a:Tn2:=[(d,e)]
 cond (K (S j+S a<=j03)) (let f:Tn2:=j++a
 let i:=w64 (c+1)
 L (.inl (m,l,k,i,g,f))) W) W) W
def j46[LP](m q:Tn2)(k a:J)(c:U J)(b:Tn2):N ((Tn2×Tn2×J×J×(U J)×Tn2) ⊕ (Tn2)):=
 let x:=w64 (a+1)
 let u:=O c.length
 cond (K (x<u)) (cond (inR a c.length) (let v:=M c a.toNat 0
 (jiq m v).bind λg=>cond (inR a c.length) (let s:=M c a.toNat 0
 (jiq q s).bind λf=>let o:Bool:=cond (cond (cond (k==1) (!g) Z) (!f) Z) Á (cond (k==2) (cond (!g) Á (!f)) Z)
 cond (cond o Á (cond (k==3) (cond (!g) Á f) Z)) (let w:=w64 (a+1)
 L (.inl (m,q,k,w,c,b))) (let d:=O b.length
 cond (K (d>0)) (let i:=w64 (d-1)
 cond (inR i b.length) (let p:=(M b i.toNat (0,0)).2
 cond (inR a c.length) (let l:=M c a.toNat 0
 cond (p==l) (let e:=w64 (d-1)
 let j:=w64 (a+1)
 cond (inR j c.length) (let n:=M c j.toNat 0
 cond (inR e b.length) (let t:Tn2:=Â b e.toNat ((M b e.toNat (0,0)).1,n)
 let r:=w64 (a+1)
 L (.inl (m,q,k,r,c,t))) W) W) (j3U a c b m q k)) W) W) (j3U a c b m q k))) W) W) (L (.inr b))
def j7K[LP]:=lp6 j46
abbrev jb3:=eq6 j46 j7K
def jir[LP](c b:Tn2)(a:J):N (Tn2×J):=(jbL c).bind λk=>cond (!k) (L (([]:Tn2),8)) ((jbL b).bind λi=>cond (!i) (L (([]:Tn2),8)) ((jbj c b a 0 ([]:(U J))).bind λe=>(jbk e.1 e.2.1 e.2.2.1 0 e.2.2.2).bind λd=>(jco d.2.2.2).bind λj=>(j7K d.1 d.2.1 d.2.2.1 0 j ([]:Tn2)).bind λg=>let f:=O g.length
 cond (K (f>4096)) (L (([]:Tn2),5)) (L (g,0))))
def jfw[LP](b a:Tn2):N (Tn2×J):=(jir b a 2).bind λc=>L c
def j2U(b:J)(g:Tn15)(a:J)(i:Tn15)(l j:J)(k:Tn32):N ((J×J×Tn15×Tn15×J×J×Tn32) ⊕ (Tn32)):=cond (inR b g.length) (let e:=M g b.toNat (0,0,0)
 cond (inR a i.length) (let c:=M i a.toNat (0,0,0)
 cond (K (e.2.1<=c.2.1)) (let f:=w64 (b+1)
 L (.inl (l,j,g,i,f,a,k))) (let d:=w64 (a+1)
 L (.inl (l,j,g,i,b,d,k)))) W) W
def j5V(n o:J)(c d:Tn15)(a b:J)(m:Tn32):N ((J×J×Tn15×Tn15×J×J×Tn32) ⊕ (Tn32)):=
 let u:=O c.length
 let s:=O d.length
 cond (cond (K (a<u)) (K (b<s)) Z) (cond (inR a c.length) (let e:=M c a.toNat (0,0,0)
 cond (inR b d.length) (let j:=M d b.toNat (0,0,0)
 let k:Int:=if j.1>e.1 then j.1 else e.1
 cond (inR a c.length) (let i:=M c a.toNat (0,0,0)
 cond (inR b d.length) (let l:=M d b.toNat (0,0,0)
 let g:Int:=if l.2.1<i.2.1 then l.2.1 else i.2.1
 cond (K (k<g)) (cond (inR a c.length) (let t:=M c a.toNat (0,0,0)
 cond (inR b d.length) (let q:=M d b.toNat (0,0,0)
 cond (t.2.2==q.2.2) (cond (inR a c.length) (let v:=M c a.toNat (0,0,0)
 cond (K (v.2.2>=0)) (cond (inR a c.length) (let r:=M c a.toNat (0,0,0)
 let f:Tn32:=[(r.2.2,n,o,k,g)]
 cond (K (S m+S f<=j03)) (let p:Tn32:=m++f
 j2U a c b d n o p) W) W) (j2U a c b d n o m)) W) (j2U a c b d n o m)) W) W) (j2U a c b d n o m)) W) W) W) W) (L (.inr m))
def jb4[LP]:=lp7 j5V
abbrev jef:=eq7 j5V jb4
def jjk[LP](b a:J)(c d:Tn15):N Tn32:=(jb4 b a c d 0 0 ([]:Tn32)).bind λe=>L e
def jeT(b a:Tn26):N Bool:=cond (b.2.2.2.1 != a.2.2.2.1) (L (K (b.2.2.2.1<a.2.2.2.1))) (cond (b.2.1 != a.2.1) (L (K (b.2.1<a.2.1))) (L (K (b.2.2.1<a.2.2.1))))
def j6j(e:J)(f g j:Tn32)(i:J):N ((Tn32×Tn32×J×J×Tn32) ⊕ (Tn32)):=cond (inR e f.length) (let a:=M f e.toNat (0,0,0,0,0)
 let b:Tn32:=[a]
 cond (K (S g+S b<=j03)) (let d:Tn32:=g++b
 let c:=w64 (e+1)
 L (.inl (f,j,c,i,d))) W) W
def j6k(e:J)(f g j:Tn32)(i:J):N ((Tn32×Tn32×J×J×Tn32) ⊕ (Tn32)):=cond (inR e f.length) (let a:=M f e.toNat (0,0,0,0,0)
 let b:Tn32:=[a]
 cond (K (S g+S b<=j03)) (let d:Tn32:=g++b
 let c:=w64 (e+1)
 L (.inl (j,f,i,c,d))) W) W
def j6l(n:Tn32->N (Tn32))(d f:Tn32)(c e:J)(g:Tn32):N ((Tn32×Tn32×J×J×Tn32) ⊕ (Tn32)):=
 let k:=O d.length
 let l:=O f.length
 cond (cond (K (c<k)) Á (K (e<l))) (let j:=O f.length
 cond (e==j) (j6j c d g f e) (let m:=O d.length
 cond (K (c<m)) (cond (inR e f.length) (let a:=M f e.toNat (0,0,0,0,0)
 cond (inR c d.length) (let b:=M d c.toNat (0,0,0,0,0)
 (jeT a b).bind λi=>cond (!i) (j6j c d g f e) (j6k e f g d c)) W) W) (j6k e f g d c))) (L (.inr g))
def jcs[LP](a:Tn32->N (Tn32))(d f:Tn32)(c e:J)(b:Tn32):N Tn32:=LP.lp (unc5 (j6l a)) (d,f,c,e,b)
theorem jg0(a d f c e b):jcs a d f c e b=lpK (j6l a d f c e b) (λh=>jcs a h.1 h.2.1 h.2.2.1 h.2.2.2.1 h.2.2.2.2):=j05 _ _
def jal[LP](b:Tn32->N (Tn32))(a:Tn32):N Tn32:=
 let l:=O a.length
 cond (K (l<2)) (L a) (let k:=O a.length
 let d:=w64 (Ç k 2)
 cond (K ((0:J)<=0)&&(K (0<=d)&&K (d<=(O a.length)))) (let g:Tn32:=Í 0 (Ë d.toNat a)
 (b g).bind λi=>let f:=O a.length
 let c:=w64 (Ç f 2)
 cond (K (0<=c)&&(K (c<=(O a.length))&&K ((O a.length)<=(O a.length)))) (let j:Tn32:=Í c.toNat (Ë a.length a)
 (b j).bind λe=>(jcs b i e 0 0 ([]:Tn32)).bind λm=>L m) W) W)
def j4b[LP](b:Tn32->N (Tn32))(h:Tn32):N Tn32:=jal (λa=>b a) h
def jkl[LP](a:Tn32):N Tn32:=LP.rp j4b a
def j5I[LP](l k i:J)(m:Tn57)(d:Tn51)(c:Tn28)(b:Tn68)(j:Tn23):N ((J×J×J×Tn57×Tn51×Tn28×Tn68×Tn23) ⊕ (J ⊕ Tn23)):=
 let f:=O b.length
 cond (K (i<f)) ((jbK (m,d,c,b) i l k).bind λa=>cond (a.2 != 0) (L (.inr (.inl a.2))) (cond (K (S j+S [a.1]<=j03)) (let g:Tn23:=j++[a.1]
 let e:=w64 (i+1)
 L (.inl (l,k,e,m,d,c,b,g))) W)) (L (.inr (.inr j)))
def j7L[LP]:=lp8 j5I
abbrev jeU:=eq8 j5I j7L
def j5J[LP](b a:J)(c:Tn23)(e:Tn32):N ((J×J×Tn23×Tn32) ⊕ (J×Tn23×Tn32)):=
 let k:=O c.length
 cond (K (a<k)) (cond (inR b c.length) (let g:=M c b.toNat ([]:Tn15)
 cond (inR a c.length) (let i:=M c a.toNat ([]:Tn15)
 (jjk b a g i).bind λd=>cond (K (S e+S d<=j03)) (let j:Tn32:=e++d
 let f:=w64 (a+1)
 L (.inl (b,f,c,j))) W) W) W) (L (.inr (b,c,e)))
def jbl[LP]:=lp4 j5J
abbrev jeV:=eq4 j5J jbl
def j5K[LP](b:J)(g:Tn23)(f:Tn32):N ((J×Tn23×Tn32) ⊕ (Tn32)):=
 let c:=O g.length
 cond (K (b<c)) (let e:=w64 (b+1)
 (jbl b e g f).bind λa=>let d:=w64 (a.1+1)
 L (.inl (d,a.2.1,a.2.2))) (L (.inr f))
def jbm[LP]:=lp3 j5K
abbrev jeW:=eq3 j5K jbm
def j6v[LP](a:Tn74)(b c:J):N (Tn32×J):=(j8q a).bind λf=>cond (f != 0) (L (([]:Tn32),8)) ((j5E b c).bind λi=>cond (!i) (L (([]:Tn32),1)) ((j7L b c 0 a.1 a.2.1 a.2.2.1 a.2.2.2 ([]:Tn23)).bind λj=>sumC j (λk=>L (([]:Tn32),k)) (λl=>(jbm 0 l ([]:Tn32)).bind λd=>let e:=O d.length
 cond (K (e>16384)) (L (([]:Tn32),5)) ((jkl d).bind λg=>L (g,0)))))
def j3V[LP](s u t g:J)(v:Tn57)(k:Tn51)(j:Tn28)(i:Tn68)(q:X)(a:J)(d:Tn2)(c f:J)(e:Æ)(p:Tn2)(r:Tn15)(b:U J):N ((J×J×J×J×Tn57×Tn51×Tn28×Tn68×X×J×Tn2×J×J×Æ×Tn2×Tn15×(U J)) ⊕ (J×J×J×Tn57×Tn51×Tn28×Tn68×X×J×Tn2×J×J×Æ×Tn2×Tn15)):=
 let m:=O b.length
 cond (K (g<m)) (cond (inR g b.length) (let o:=M b g.toNat 0
 (jfv r (0,s,o)).bind λn=>let l:=w64 (g+1)
 L (.inl (s,u,t,l,v,k,j,i,q,a,d,c,f,e,p,n,b))) W) (L (.inr (s,u,t,v,k,j,i,q,a,d,c,f,e,p,r)))
def j8Q[LP]:=c8 c9 (LP.lp (u8 unc9 j3V))
abbrev jcb:=eq17 j3V j8Q
def j3W[LP](v y x b:J)(z:Tn57)(k:Tn51)(j:Tn28)(i:Tn68)(m:X)(d:J)(f:Tn2)(e c:J)(g:Æ)(a:Tn2)(n:Tn15):N ((J×J×J×J×Tn57×Tn51×Tn28×Tn68×X×J×Tn2×J×J×Æ×Tn2×Tn15) ⊕ (J×J×J×Tn57×Tn51×Tn28×Tn68×X×J×Tn2×J×J×Æ×Tn2×Tn15)):=
 let p:=O a.length
 cond (K (b<p)) (cond (inR b a.length) (let r:=(M a b.toNat (0,0)).1
 let l:=w64 (b-1)
 cond (inR l a.length) (let o:=(M a l.toNat (0,0)).2
 let w:=w64 (r-o)
 cond (K (w<c)) (cond (inR b a.length) (let u:=(M a b.toNat (0,0)).1
 (jfv n (1,v,u)).bind λt=>let q:=w64 (b+1)
 L (.inl (v,y,x,q,z,k,j,i,m,d,f,e,c,g,a,t))) W) (let s:=w64 (b+1)
 L (.inl (v,y,x,s,z,k,j,i,m,d,f,e,c,g,a,n)))) W) W) (L (.inr (v,y,x,z,k,j,i,m,d,f,e,c,g,a,n)))
def j5s[LP]:=c8 d8 (LP.lp (u8 unc8 j3W))
abbrev j92:=eq16 j3W j5s
def j3X[LP](l m n a:J)(o:Tn57)(c:Tn51)(i:Tn28)(g:Tn68)(k:Tn15)(b:Tn2):N ((J×J×J×J×Tn57×Tn51×Tn28×Tn68×Tn15×Tn2) ⊕ (J×J×J×Tn57×Tn51×Tn28×Tn68×Tn15)):=
 let e:=O b.length
 cond (K (a<e)) (cond (inR a b.length) (let j:=(M b a.toNat (0,0)).1
 (jfv k (2,l,j)).bind λd=>let f:=w64 (a+1)
 L (.inl (l,m,n,f,o,c,i,g,d,b))) W) (L (.inr (l,m,n,o,c,i,g,k)))
def j6R[LP]:=c8 c2 (LP.lp (u8 unc2 j3X))
abbrev jcc:=eq10 j3X j6R
def j3Y[LP](k:J)(b:Tn32)(a:J)(g:Tn15):N ((J×Tn32×J×Tn15) ⊕ (Tn15)):=
 let j:=O b.length
 cond (K (a<j)) (cond (inR a b.length) (let d:=M b a.toNat (0,0,0,0,0)
 cond (d.1==k) (cond (inR a b.length) (let f:=M b a.toNat (0,0,0,0,0)
 (jfv g (3,k,f.2.2.2.1)).bind λe=>let c:=w64 (a+1)
 L (.inl (k,b,c,e))) W) (let i:=w64 (a+1)
 L (.inl (k,b,i,g)))) W) (L (.inr g))
def j2i[LP]:=lp4 j3Y
theorem jcd(d c a b):j2i d c a b=lpK (j3Y d c a b) (λh=>j2i h.1 h.2.1 h.2.2.1 h.2.2.2):=j05 _ _
def j3h[LP](b:Tn74)(c g j:J):N (Tn15×J):=(j9L b c g j).bind λo=>cond (o.2 != 0) (L (([]:Tn15),o.2)) (cond (inR c b.2.1.length) (let e:=M b.2.1 c.toNat (Y,0,[],0,0,Z)
 cond (e.2.2.2.1 != 0) ((jgQ o.1 e.2.2.2.1 g j).bind λa3=>(j8Q c g j 0 b.1 b.2.1 b.2.2.1 b.2.2.2 e.1 e.2.1 e.2.2.1 e.2.2.2.1 e.2.2.2.2.1 e.2.2.2.2.2 o.1 ([]:Tn15) a3).bind λi=>(j5s i.1 i.2.1 i.2.2.1 1 i.2.2.2.1 i.2.2.2.2.1 i.2.2.2.2.2.1 i.2.2.2.2.2.2.1 i.2.2.2.2.2.2.2.1 i.2.2.2.2.2.2.2.2.1 i.2.2.2.2.2.2.2.2.2.1 i.2.2.2.2.2.2.2.2.2.2.1 i.2.2.2.2.2.2.2.2.2.2.2.1 i.2.2.2.2.2.2.2.2.2.2.2.2.1 i.2.2.2.2.2.2.2.2.2.2.2.2.2.1 i.2.2.2.2.2.2.2.2.2.2.2.2.2.2).bind λd=>cond (!d.2.2.2.2.2.2.2.2.2.2.2.2.1) (cond (inR d.2.2.2.2.2.2.2.2.1 d.2.2.2.1.length) (let r:=M d.2.2.2.1 d.2.2.2.2.2.2.2.2.1.toNat (Y,0,[])
 (j7x r d.2.2.2.2.2.2.2.2.2.1 d.2.1 d.2.2.1).bind λa2=>(jfw d.2.2.2.2.2.2.2.2.2.2.2.2.2.1 a2.1).bind λw=>cond (w.2 != 0) (L (([]:Tn15),5)) ((j6R d.1 d.2.1 d.2.2.1 0 d.2.2.2.1 d.2.2.2.2.1 d.2.2.2.2.2.1 d.2.2.2.2.2.2.1 d.2.2.2.2.2.2.2.2.2.2.2.2.2.2 w.1).bind λp=>(j6v (p.2.2.2.1,p.2.2.2.2.1,p.2.2.2.2.2.1,p.2.2.2.2.2.2.1) p.2.1 p.2.2.1).bind λs=>cond (s.2 != 0) (L (([]:Tn15),s.2)) ((j2i p.1 s.1 0 p.2.2.2.2.2.2.2).bind λa4=>let a1:=O a4.length
 cond (K (a1>16384)) (L (([]:Tn15),5)) (L (a4,0))))) W) ((j6v (d.2.2.2.1,d.2.2.2.2.1,d.2.2.2.2.2.1,d.2.2.2.2.2.2.1) d.2.1 d.2.2.1).bind λn=>cond (n.2 != 0) (L (([]:Tn15),n.2)) ((j2i d.1 n.1 0 d.2.2.2.2.2.2.2.2.2.2.2.2.2.2).bind λz=>let t:=O z.length
 cond (K (t>16384)) (L (([]:Tn15),5)) (L (z,0))))) ((j5s c g j 1 b.1 b.2.1 b.2.2.1 b.2.2.2 e.1 e.2.1 e.2.2.1 e.2.2.2.1 e.2.2.2.2.1 e.2.2.2.2.2 o.1 ([]:Tn15)).bind λa=>cond (!a.2.2.2.2.2.2.2.2.2.2.2.2.1) (cond (inR a.2.2.2.2.2.2.2.2.1 a.2.2.2.1.length) (let m:=M a.2.2.2.1 a.2.2.2.2.2.2.2.2.1.toNat (Y,0,[])
 (j7x m a.2.2.2.2.2.2.2.2.2.1 a.2.1 a.2.2.1).bind λx=>(jfw a.2.2.2.2.2.2.2.2.2.2.2.2.2.1 x.1).bind λq=>cond (q.2 != 0) (L (([]:Tn15),5)) ((j6R a.1 a.2.1 a.2.2.1 0 a.2.2.2.1 a.2.2.2.2.1 a.2.2.2.2.2.1 a.2.2.2.2.2.2.1 a.2.2.2.2.2.2.2.2.2.2.2.2.2.2 q.1).bind λf=>(j6v (f.2.2.2.1,f.2.2.2.2.1,f.2.2.2.2.2.1,f.2.2.2.2.2.2.1) f.2.1 f.2.2.1).bind λk=>cond (k.2 != 0) (L (([]:Tn15),k.2)) ((j2i f.1 k.1 0 f.2.2.2.2.2.2.2).bind λy=>let a0:=O y.length
 cond (K (a0>16384)) (L (([]:Tn15),5)) (L (y,0))))) W) ((j6v (a.2.2.2.1,a.2.2.2.2.1,a.2.2.2.2.2.1,a.2.2.2.2.2.2.1) a.2.1 a.2.2.1).bind λl=>cond (l.2 != 0) (L (([]:Tn15),l.2)) ((j2i a.1 l.1 0 a.2.2.2.2.2.2.2.2.2.2.2.2.2.2).bind λv=>let u:=O v.length
 cond (K (u>16384)) (L (([]:Tn15),5)) (L (v,0)))))) W)
def j6m(g f:Tn15)(e a:J):N ((Tn15×Tn15×J×J) ⊕ (Æ ⊕ Ê)):=cond (K (a<e)) (cond (inR a g.length) (let b:=M g a.toNat (0,0,0)
 cond (inR a f.length) (let c:=M f a.toNat (0,0,0)
 cond (!((b.1==c.1)&&((b.2.1==c.2.1)&&(b.2.2==c.2.2)))) (L (.inr (.inl Z))) (let d:=w64 (a+1)
 L (.inl (g,f,e,d)))) W) W) (L (.inr (.inr ())))
def jct[LP]:=lp4 j6m
abbrev jg1:=eq4 j6m jct
def jeX[LP](a b:Tn15):N Bool:=
 let f:=O a.length
 let d:=O b.length
 cond (f != d) (L Z) (let c:=O a.length
 (jct a b c 0).bind λe=>sumC e (λg=>L g) (λi=>L Á))
def jam[LP](b:Tn74)(a c:J)(d:Æ):N Bool:=(jbI b a c c).bind λg=>cond (g != 0) (L Z) (cond (inR a b.2.1.length) (let e:=M b.2.1 a.toNat (Y,0,[],0,0,Z)
 cond (inR e.2.1 b.1.length) (let f:=M b.1 e.2.1.toNat (Y,0,[])
 (jnY f e.2.2.1 c).bind λi=>cond (!i) (L Á) (cond d (L e.2.2.2.2.2) (L Z))) W) W)
def j6n[LP](l k j f:J)(m:Tn57)(e:Tn51)(d:Tn28)(b:Tn68)(c:Tn15):N ((J×J×J×J×Tn57×Tn51×Tn28×Tn68×Tn15) ⊕ (J ⊕ Tn15)):=cond (K (f<j)) ((j1H (m,e,d,b) f l k).bind λa=>cond (a.2 != 0) (L (.inr (.inl a.2))) (cond (K (S c+S a.1<=j03)) (let g:Tn15:=c++a.1
 let i:=w64 (f+1)
 L (.inl (l,k,j,i,m,e,d,b,g))) W)) (L (.inr (.inr c)))
def j8R[LP]:=lp9 j6n
abbrev jg2:=eq9 j6n j8R
def jeY[LP](a:Tn74)(b c:J):N (Tn15×J):=(jfk a).bind λd=>cond (!d.2) (L (([]:Tn15),8)) ((jaW b c).bind λg=>cond (!g) (L (([]:Tn15),1)) (let f:=O d.1.1.2.1.length
 (j8R b c f 0 a.1 a.2.1 a.2.2.1 a.2.2.2 ([]:Tn15)).bind λj=>sumC j (λl=>L (([]:Tn15),l)) (λk=>let i:=O k.length
 cond (K (i>16384)) (L (([]:Tn15),5)) ((j0a k).bind λe=>L (e,0)))))
def j8v[LP](l k n b:J)(m:Tn57)(f:Tn51)(e:Tn28)(d:Tn68)(o c:Tn15):N ((J×J×J×J×Tn57×Tn51×Tn28×Tn68×Tn15×Tn15) ⊕ (J×J×J×Tn57×Tn51×Tn28×Tn68×Tn15)):=
 let i:=O c.length
 cond (K (b<i)) (cond (inR b c.length) (let a:=M c b.toNat (0,0,0)
 (jfv o a).bind λj=>let g:=w64 (b+1)
 L (.inl (l,k,n,g,m,f,e,d,j,c))) W) (L (.inr (l,k,n,m,f,e,d,o)))
def jhq[LP]:=c8 c2 (LP.lp (u8 unc2 j8v))
abbrev jjl:=eq10 j8v jhq
def j8w[LP](k j i:J)(l:Tn57)(c:Tn51)(e:Tn28)(d:Tn68)(m:Tn15):N ((J×J×J×Tn57×Tn51×Tn28×Tn68×Tn15) ⊕ (J ⊕ Tn15)):=
 let f:=O c.length
 cond (K (i<f)) ((j3h (l,c,e,d) i k j).bind λb=>cond (b.2 != 0) (L (.inr (.inl b.2))) ((jhq k j i 0 l c e d m b.1).bind λa=>let g:=w64 (a.2.2.1+1)
 L (.inl (a.1,a.2.1,g,a.2.2.2.1,a.2.2.2.2.1,a.2.2.2.2.2.1,a.2.2.2.2.2.2.1,a.2.2.2.2.2.2.2)))) (L (.inr (.inr m)))
def jcH[LP]:=lp8 j8w
abbrev jjm:=eq8 j8w jcH
def jmm[LP](a:Tn74)(b c:J):N (Tn15×J):=(j8q a).bind λe=>cond (e != 0) (L (([]:Tn15),8)) ((j5E b c).bind λf=>cond (!f) (L (([]:Tn15),1)) ((jcH b c 0 a.1 a.2.1 a.2.2.1 a.2.2.2 ([]:Tn15)).bind λg=>sumC g (λj=>L (([]:Tn15),j)) (λi=>let d:=O i.length
 cond (K (d>16384)) (L (([]:Tn15),5)) (L (i,0)))))
def jbn(d:U J)(a:J):N ((J×J)×(U J)×J):=(j02 d a 60).bind λb=>(j02 b.2.1 b.2.2 9).bind λc=>let f:=w64 (b.1+c.1)
 let e:=w64 (f-1)
 L ((b.1,e),c.2.1,c.2.2)
def j6o(d:Tn2)(c:J)(g:U J)(i m:Tn2):N ((Tn2×J×(U J)×Tn2×Tn2) ⊕ (J ⊕ ((U J)×Tn2×Tn2))):=
 let f:=O d.length
 cond (K (c<f)) (cond (inR c d.length) (let a:=M d c.toNat (0,0)
 cond (K (a.2<=a.1)) (let n:=w64 (c+1)
 L (.inl (d,n,g,i,m))) (cond (cond (K (a.1<0)) Á (K (a.2>8589934592))) (L (.inr (.inl 1))) (let b:U Int:=[a.1,a.2]
 cond (K (S g+S b<=j03)) (let k:U Int:=g++b
 let o:Int:=j3i 0 i a.1
 let l:=w64 (o+1)
 let q:Tn2:=j6V i a.1 l
 let j:Int:=j3i 0 m a.2
 let p:=w64 (j+1)
 let r:Tn2:=j6V m a.2 p
 let e:=w64 (c+1)
 L (.inl (d,e,k,q,r))) W))) W) (L (.inr (.inr (g,i,m))))
def jcu[LP]:=lp5 j6o
abbrev jg3:=eq5 j6o jcu
def jbM(n b c:J)(g:U J)(l m e:Tn2):N ((J×J×(U J)×Tn2×Tn2×Tn2) ⊕ (Tn2)):=cond (cond (K (n>0)) (b==0) Z) (let f:=O e.length
 let a:=w64 (f-1)
 cond (inR c g.length) (let d:=M g c.toNat 0
 cond (inR a e.length) (let k:Tn2:=Â e a.toNat ((M e a.toNat (0,0)).1,d)
 let j:=w64 (c+1)
 L (.inl (b,j,g,l,m,k))) W) W) (let i:=w64 (c+1)
 L (.inl (b,i,g,l,m,e)))
def jdZ(e a:J)(b:U J)(p q o:Tn2):N ((J×J×(U J)×Tn2×Tn2×Tn2) ⊕ (Tn2)):=
 let n:=O b.length
 cond (K (a<n)) (cond (inR a b.length) (let i:=M b a.toNat 0
 let f:Int:=j3i 0 p i
 cond (inR a b.length) (let m:=M b a.toNat 0
 let g:Int:=j3i 0 q m
 let j:=w64 (f-g)
 let c:=w64 (e+j)
 cond (cond (e==0) (K (c>0)) Z) (cond (inR a b.length) (let k:=M b a.toNat 0
 let d:Tn2:=[(k,0)]
 cond (K (S o+S d<=j03)) (let l:Tn2:=o++d
 jbM e c a b p q l) W) W) (jbM e c a b p q o)) W) W) (L (.inr o))
def jjn[LP]:=lp6 jdZ
def jhr[LP](a:Tn2):N (Tn2×J):=
 let e:=O a.length
 cond (K (e>4096)) (L (([]:Tn2),5)) (let c:Tn2:=[]
 let b:Tn2:=[]
 (jcu a 0 ([]:(U J)) c b).bind λi=>sumC i (λj=>L (([]:Tn2),j)) (λg=>(jco g.1).bind λd=>(jjn 0 0 d g.2.1 g.2.2 ([]:Tn2)).bind λf=>L (f,0)))
def j4z(i:J)(j:U J)(c:J)(e:Tn2):N ((J×(U J)×J×Tn2) ⊕ ((U J)×J×Tn2)):=cond (K (i>0)) ((jbn j c).bind λa=>cond (K (a.1.1<a.1.2)) (let b:Tn2:=[a.1]
 cond (K (S e+S b<=j03)) (let d:Tn2:=e++b
 let f:=w64 (i-1)
 L (.inl (f,a.2.1,a.2.2,d))) W) (let g:=w64 (i-1)
 L (.inl (g,a.2.1,a.2.2,e)))) (L (.inr (j,c,e)))
def jc1[LP]:=lp4 j4z
abbrev jdg:=eq4 j4z jc1
def jcv[LP](d:U J)(a:J):N (Tn2×(U J)×J):=(j02 d a 7).bind λb=>(jc1 b.1 b.2.1 b.2.2 ([]:Tn2)).bind λc=>(jhr c.2.2).bind λe=>L (e.1,c.1,c.2.1)
def j6p(i e:Tn2)(j b:J):N ((Tn2×Tn2×J×J) ⊕ (Æ ⊕ Ê)):=cond (K (b<j)) (cond (inR b e.length) (let a:=M e b.toNat (0,0)
 cond (K (a.1<0)) (L (.inr (.inl Z))) (cond (K (a.1>=a.2)) (L (.inr (.inl Z))) (cond (K (a.2>8589934592)) (L (.inr (.inl Z))) (cond (K (b>0)) (let c:=w64 (b-1)
 cond (inR c i.length) (let f:=M i c.toNat (0,0)
 cond (K (a.1<=f.2)) (L (.inr (.inl Z))) (let g:=w64 (b+1)
 L (.inl (i,e,j,g)))) W) (let d:=w64 (b+1)
 L (.inl (i,e,j,d))))))) W) (L (.inr (.inr ())))
def j7i[LP]:=lp4 j6p
theorem jg4(d b c a):j7i d b c a=lpK (j6p d b c a) (λh=>j7i h.1 h.2.1 h.2.2.1 h.2.2.2):=j05 _ _
def jhs[LP](a:Tn2):N Bool:=
 let b:=O a.length
 cond (K (b>4096)) (L Z) (let c:=O a.length
 (j7i a a c 0).bind λd=>sumC d (λe=>L e) (λf=>L Á))
def jcw[LP](b:Tn2)(a:J):N Int:=(jhs b).bind λf=>cond (!f) (L 0) (let c:Int:=if (-1)>a then (-1) else a
 let d:Int:=if 17179869184<c then 17179869184 else c
 (j8L b d).bind λe=>L e)
def jht[LP](b:Tn2)(a:J):N Int:=(jbL b).bind λe=>cond (cond (!e) Á (K (a<0))) (L 0) (let d:Int:=if 17179869184<a then 17179869184 else a
 (jcG b d).bind λc=>L c)
def j2H(z:Tn2)(y x a0 a1 s q:J)(r:Tn75)(n:J)(p:U (U J))(t:J)(v:U J)(w k a:J)(m:Tn57)(e:Tn51)(f:Tn28)(g:Tn68)(o u:U J)(d:J)(l i:Tn2):N ((Tn2×J×J×J×J×J×J×Tn75×J×(U (U J))×J×(U J)×J×J×J×Tn57×Tn51×Tn28×Tn68×(U J)×(U J)×J×Tn2×Tn2) ⊕ (Æ ⊕ (Tn2×J×J×J×J×J×J×Tn75×J×(U (U J))×J×(U J)×J×Tn57×Tn51×Tn28×Tn68×(U J)×(U J)×J))):=cond (K (a<k)) (cond (inR a l.length) (let b:=M l a.toNat (0,0)
 cond (inR a i.length) (let c:=M i a.toNat (0,0)
 cond (!((b.1==c.1)&&(b.2==c.2))) (L (.inr (.inl Z))) (let j:=w64 (a+1)
 L (.inl (z,y,x,a0,a1,s,q,r,n,p,t,v,w,k,j,m,e,f,g,o,u,d,l,i)))) W) W) (L (.inr (.inr (z,y,x,a0,a1,s,q,r,n,p,t,v,w,m,e,f,g,o,u,d))))
def j93[LP]:=c8 (c8 d8) (LP.lp (u8 (u8 unc8) j2H))
abbrev jan:=eq24 j2H j93
def j2I[LP](z:Tn2)(y x a0 a1 s k:J)(r:Tn75)(o:J)(q:U (U J))(t:J)(v:U J)(w:J)(j:U J)(e:J)(g:Tn57)(b:Tn51)(c:Tn28)(d:Tn68)(p u:U J)(i:J):N ((Tn2×J×J×J×J×J×J×Tn75×J×(U (U J))×J×(U J)×J×(U J)×J×Tn57×Tn51×Tn28×Tn68×(U J)×(U J)×J) ⊕ (Æ ⊕ (Tn2×J×J×J×J×J×Tn75×J×(U (U J))×J×(U J)×J×Tn57×Tn51×Tn28×Tn68×(U J)×(U J)×J))):=cond (K (e<3)) (cond (inR e 3) (let f:=M j e.toNat 0
 (j1f u i 2).bind λa=>(j4V (g,b,c,d) k f a.1).bind λn=>(jam (g,b,c,d) k f a.1).bind λl=>cond (!(n==l)) (L (.inr (.inl Z))) (let m:=w64 (e+1)
 L (.inl (z,y,x,a0,a1,s,k,r,o,q,t,v,w,j,m,g,b,c,d,p,a.2.1,a.2.2)))) W) (L (.inr (.inr (z,y,x,a0,a1,s,r,o,q,t,v,w,g,b,c,d,p,u,i))))
def j6D[LP]:=c8 (c8 c6) (LP.lp (u8 (u8 unc6) j2I))
theorem jao(u:Tn2)(t s v w n l:J)(m:Tn75)(i:J)(k:U (U J))(o:J)(q:U J)(r:J)(e:U J)(f:J)(g:Tn57)(b:Tn51)(c:Tn28)(d:Tn68)(j p:U J)(a:J):j6D u t s v w n l m i k o q r e f g b c d j p a=lpK (j2I u t s v w n l m i k o q r e f g b c d j p a) (λh=>j6D h.1 h.2.1 h.2.2.1 h.2.2.2.1 h.2.2.2.2.1 h.2.2.2.2.2.1 h.2.2.2.2.2.2.1 h.2.2.2.2.2.2.2.1 h.2.2.2.2.2.2.2.2.1 h.2.2.2.2.2.2.2.2.2.1 h.2.2.2.2.2.2.2.2.2.2.1 h.2.2.2.2.2.2.2.2.2.2.2.1 h.2.2.2.2.2.2.2.2.2.2.2.2.1 h.2.2.2.2.2.2.2.2.2.2.2.2.2.1 h.2.2.2.2.2.2.2.2.2.2.2.2.2.2.1 h.2.2.2.2.2.2.2.2.2.2.2.2.2.2.2.1 h.2.2.2.2.2.2.2.2.2.2.2.2.2.2.2.2.1 h.2.2.2.2.2.2.2.2.2.2.2.2.2.2.2.2.2.1 h.2.2.2.2.2.2.2.2.2.2.2.2.2.2.2.2.2.2.1 h.2.2.2.2.2.2.2.2.2.2.2.2.2.2.2.2.2.2.2.1 h.2.2.2.2.2.2.2.2.2.2.2.2.2.2.2.2.2.2.2.2.1 h.2.2.2.2.2.2.2.2.2.2.2.2.2.2.2.2.2.2.2.2.2):=j05 _ _
def j2J[LP](b8:Tn2)(b6 b4 b9 c0 a8:J)(a7:Tn75)(a5:J)(a6:U (U J))(a9:J)(b1:U J)(p:J)(l:Tn57)(c:Tn51)(d:Tn28)(e:Tn68)(f b0:U J)(n:J):N ((Tn2×J×J×J×J×J×Tn75×J×(U (U J))×J×(U J)×J×Tn57×Tn51×Tn28×Tn68×(U J)×(U J)×J) ⊕ (Æ ⊕ (Tn2×J×J×J×J×J×Tn75×J×(U (U J))×J×Tn57×Tn51×Tn28×Tn68×(U J)×(U J)×J))):=cond (K (p<2)) (cond (inR p 2) (let g:=M b1 p.toNat 0
 let a3:=M f 0 0
 let a4:=M f 1 0
 (j1H (l,c,d,e) g a3 a4).bind λo=>let a1:=M f 0 0
 let a2:=M f 1 0
 (j3h (l,c,d,e) g a1 a2).bind λm=>let v:=M f 0 0
 let s:=M f 1 0
 (j8M (l,c,d,e) g v s).bind λi=>let q:=M f 0 0
 let t:=M f 1 0
 (j9L (l,c,d,e) g q t).bind λk=>(jeX o.1 m.1).bind λa0=>let z:=O i.1.length
 let y:=O k.1.length
 let r:Bool:=cond (cond (cond (!a0) Á (o.2 != m.2)) Á (z != y)) Á (i.2 != k.2)
 cond r (L (.inr (.inl Z))) (let x:=O i.1.length
 (j93 b8 b6 b4 b9 c0 a8 g a7 a5 a6 a9 b1 p x 0 l c d e f b0 n i.1 k.1).bind λb3=>sumC b3 (λb7=>L (.inr (.inl b7))) (λa=>(j5q a.2.2.2.2.2.2.2.2.2.2.2.2.2.2.2.2.2.2.1 a.2.2.2.2.2.2.2.2.2.2.2.2.2.2.2.2.2.2.2).bind λj=>let w:U Int:=[a.2.1,a.2.2.2.2.2.1,j.1]
 (j6D a.1 a.2.1 a.2.2.1 a.2.2.2.1 a.2.2.2.2.1 a.2.2.2.2.2.1 a.2.2.2.2.2.2.1 a.2.2.2.2.2.2.2.1 a.2.2.2.2.2.2.2.2.1 a.2.2.2.2.2.2.2.2.2.1 a.2.2.2.2.2.2.2.2.2.2.1 a.2.2.2.2.2.2.2.2.2.2.2.1 a.2.2.2.2.2.2.2.2.2.2.2.2.1 w 0 a.2.2.2.2.2.2.2.2.2.2.2.2.2.1 a.2.2.2.2.2.2.2.2.2.2.2.2.2.2.1 a.2.2.2.2.2.2.2.2.2.2.2.2.2.2.2.1 a.2.2.2.2.2.2.2.2.2.2.2.2.2.2.2.2.1 a.2.2.2.2.2.2.2.2.2.2.2.2.2.2.2.2.2.1 j.2.1 j.2.2).bind λb2=>sumC b2 (λb5=>L (.inr (.inl b5))) (λb=>let u:=w64 (b.2.2.2.2.2.2.2.2.2.2.2.1+1)
 L (.inl (b.1,b.2.1,b.2.2.1,b.2.2.2.1,b.2.2.2.2.1,b.2.2.2.2.2.1,b.2.2.2.2.2.2.1,b.2.2.2.2.2.2.2.1,b.2.2.2.2.2.2.2.2.1,b.2.2.2.2.2.2.2.2.2.1,b.2.2.2.2.2.2.2.2.2.2.1,u,b.2.2.2.2.2.2.2.2.2.2.2.2.1,b.2.2.2.2.2.2.2.2.2.2.2.2.2.1,b.2.2.2.2.2.2.2.2.2.2.2.2.2.2.1,b.2.2.2.2.2.2.2.2.2.2.2.2.2.2.2.1,b.2.2.2.2.2.2.2.2.2.2.2.2.2.2.2.2.1,b.2.2.2.2.2.2.2.2.2.2.2.2.2.2.2.2.2.1,b.2.2.2.2.2.2.2.2.2.2.2.2.2.2.2.2.2.2)))))) W) (L (.inr (.inr (b8,b6,b4,b9,c0,a8,a7,a5,a6,a9,l,c,d,e,f,b0,n))))
def j6E[LP](r:Tn2)(q p s t k:J)(j:Tn75)(f:J)(i:U (U J))(l:J)(n:U J)(o:J)(e:Tn57)(b:Tn51)(c:Tn28)(d:Tn68)(g m:U J)(a:J):N (Æ ⊕ (Tn2×J×J×J×J×J×Tn75×J×(U (U J))×J×Tn57×Tn51×Tn28×Tn68×(U J)×(U J)×J)):=LP.lp (u8 (u8 unc3) j2J) (r,q,p,s,t,k,j,f,i,l,n,o,e,b,c,d,g,m,a)
theorem jap(r:Tn2)(q p s t k:J)(j:Tn75)(f:J)(i:U (U J))(l:J)(n:U J)(o:J)(e:Tn57)(b:Tn51)(c:Tn28)(d:Tn68)(g m:U J)(a:J):j6E r q p s t k j f i l n o e b c d g m a=lpK (j2J r q p s t k j f i l n o e b c d g m a) (λh=>j6E h.1 h.2.1 h.2.2.1 h.2.2.2.1 h.2.2.2.2.1 h.2.2.2.2.2.1 h.2.2.2.2.2.2.1 h.2.2.2.2.2.2.2.1 h.2.2.2.2.2.2.2.2.1 h.2.2.2.2.2.2.2.2.2.1 h.2.2.2.2.2.2.2.2.2.2.1 h.2.2.2.2.2.2.2.2.2.2.2.1 h.2.2.2.2.2.2.2.2.2.2.2.2.1 h.2.2.2.2.2.2.2.2.2.2.2.2.2.1 h.2.2.2.2.2.2.2.2.2.2.2.2.2.2.1 h.2.2.2.2.2.2.2.2.2.2.2.2.2.2.2.1 h.2.2.2.2.2.2.2.2.2.2.2.2.2.2.2.2.1 h.2.2.2.2.2.2.2.2.2.2.2.2.2.2.2.2.2.1 h.2.2.2.2.2.2.2.2.2.2.2.2.2.2.2.2.2.2):=j05 _ _
def j2K[LP](a3:Tn2)(a1 a0 a4 x a2:J)(u:Tn75)(s:J)(t:U (U J))(f:J)(y:Tn57)(o:Tn51)(p:Tn28)(q:Tn68)(v:U J)(e:J):N ((Tn2×J×J×J×J×J×Tn75×J×(U (U J))×J×Tn57×Tn51×Tn28×Tn68×(U J)×J) ⊕ (Æ ⊕ (Tn2×J×J×J×J×Tn75×J×(U J)×J))):=cond (K (f<2)) (cond (inR f 2) (let r:=M t f.toNat (Å 2 0)
 let a5:U Int:=Å 2 0
 (j02 v e 5).bind λb=>let n:U Int:=[b.1,x]
 (j6E a3 a1 a0 a4 x a2 u s t f n 0 y o p q r b.2.1 b.2.2).bind λw=>sumC w (λz=>L (.inr (.inl z))) (λa=>let m:=M a.2.2.2.2.2.2.2.2.2.2.2.2.2.2.1 0 0
 let l:=M a.2.2.2.2.2.2.2.2.2.2.2.2.2.2.1 1 0
 (jeY (a.2.2.2.2.2.2.2.2.2.2.1,a.2.2.2.2.2.2.2.2.2.2.2.1,a.2.2.2.2.2.2.2.2.2.2.2.2.1,a.2.2.2.2.2.2.2.2.2.2.2.2.2.1) m l).bind λc=>let g:=M a.2.2.2.2.2.2.2.2.2.2.2.2.2.2.1 0 0
 let i:=M a.2.2.2.2.2.2.2.2.2.2.2.2.2.2.1 1 0
 (jmm (a.2.2.2.2.2.2.2.2.2.2.1,a.2.2.2.2.2.2.2.2.2.2.2.1,a.2.2.2.2.2.2.2.2.2.2.2.2.1,a.2.2.2.2.2.2.2.2.2.2.2.2.2.1) g i).bind λd=>(jeX c.1 d.1).bind λk=>cond (cond (!k) Á (c.2 != d.2)) (L (.inr (.inl Z))) (let j:=w64 (a.2.2.2.2.2.2.2.2.2.1+1)
 L (.inl (a.1,a.2.1,a.2.2.1,a.2.2.2.1,a.2.2.2.2.1,a.2.2.2.2.2.1,a.2.2.2.2.2.2.1,a.2.2.2.2.2.2.2.1,a.2.2.2.2.2.2.2.2.1,j,a.2.2.2.2.2.2.2.2.2.2.1,a.2.2.2.2.2.2.2.2.2.2.2.1,a.2.2.2.2.2.2.2.2.2.2.2.2.1,a.2.2.2.2.2.2.2.2.2.2.2.2.2.1,a.2.2.2.2.2.2.2.2.2.2.2.2.2.2.2.1,a.2.2.2.2.2.2.2.2.2.2.2.2.2.2.2.2))))) W) (L (.inr (.inr (a3,a1,a0,a4,x,u,s,v,e))))
def j94[LP]:=c8 d8 (LP.lp (u8 unc8 j2K))
abbrev jaq:=eq16 j2K j94
def j2L[LP](o:Tn2)(n p r s:J)(k:Tn75)(e:J)(l:U J)(d:J):N ((Tn2×J×J×J×J×Tn75×J×(U J)×J) ⊕ (Æ ⊕ (Tn2×J×(U J)×J))):=cond (K (e<2)) (cond (inR e 2) (let c:=M k e.toNat ([],[],[],[])
 (j5q l d).bind λa=>let j:=w64 (a.1+777600)
 let g:U Int:=[a.1,j]
 let i:(U (U J)):=[g,[p,r]]
 (j94 o n p r s a.1 k e i 0 c.1 c.2.1 c.2.2.1 c.2.2.2 a.2.1 a.2.2).bind λm=>sumC m (λq=>L (.inr (.inl q))) (λb=>let f:=w64 (b.2.2.2.2.2.2.1+1)
 L (.inl (b.1,b.2.1,b.2.2.1,b.2.2.2.1,b.2.2.2.2.1,b.2.2.2.2.2.1,f,b.2.2.2.2.2.2.2.1,b.2.2.2.2.2.2.2.2)))) W) (L (.inr (.inr (o,n,l,d))))
def j95[LP]:=lp9 j2L
abbrev jar:=eq9 j2L j95
def j2p[LP](m:J)(j:Tn2)(i:Tn13)(e:J)(d:U J)(a:J)(l:U J)(c:J):N ((J×Tn2×Tn13×J×(U J)×J×(U J)×J) ⊕ (Æ ⊕ (J×Tn13×J×(U J)×J))):=cond (K (a<3)) (cond (inR a 3) (let b:=M d a.toNat 0
 (jcw j b).bind λf=>(jht j b).bind λk=>cond (f != k) (L (.inr (.inl Z))) (let g:=w64 (a+1)
 L (.inl (m,j,i,e,d,g,l,c)))) W) (L (.inr (.inr (m,i,e,l,c))))
def j8x[LP]:=lp8 j2p
abbrev j9M:=eq8 j2p j8x
def j2q[LP](n:J)(g:Tn13)(d:J)(o:U J)(k:J):N ((J×Tn13×J×(U J)×J) ⊕ (Æ ⊕ Ê)):=cond (K (d<2)) (cond (inR d 2) (let j:=M g d.toNat ([]:Tn2)
 (j02 o k 90).bind λc=>(j02 c.2.1 c.2.2 90).bind λb=>let i:=w64 (604800+b.1)
 let e:U Int:=[n,c.1,i]
 (j8x n j g d e 0 b.2.1 b.2.2).bind λl=>sumC l (λm=>L (.inr (.inl m))) (λa=>let f:=w64 (a.2.2.1+1)
 L (.inl (a.1,a.2.1,f,a.2.2.2.1,a.2.2.2.2)))) W) (L (.inr (.inr ())))
def j6q[LP]:=lp5 j2q
theorem j9N(e c b d a):j6q e c b d a=lpK (j2q e c b d a) (λh=>j6q h.1 h.2.1 h.2.2.1 h.2.2.2.1 h.2.2.2.2):=j05 _ _
def jb5[LP](g:U J)(d:Tn2)(l f i c:J):N Bool:=(jkc g).bind λs=>let r:=O d.length
 cond (cond (!s) Á (K (r>50))) ((jhi).bind λp=>L p) ((jmh g).bind λj=>(j9t j.1 j.2 2).bind λa=>(jaf a.2.1 a.2.2 a.1).bind λb=>let q:Tn75:=[a.1,b.1]
 (j95 d l f i c q 0 b.2.1 b.2.2).bind λu=>sumC u (λw=>L w) (λt=>(jcv t.2.2.1 t.2.2.2).bind λe=>let k:Tn13:=[t.1,e.1]
 (j6q t.2.1 k 0 e.2.1 e.2.2).bind λo=>sumC o (λn=>L n) (λv=>(jhi).bind λm=>L m)))
end
end Go.Proofs.Pw
