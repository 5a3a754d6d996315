/- Plain functions, printed by a program out of the given code. -/
import Derived.Test.YtmlokiiopbjgfaaGreatEELD
open ByteArray renaming empty->J,mk->À,toList->Â,size->Å
open _root_ renaming Int->K,Option->O,ByteArray->U,List->Y,Bool->Ç,Unit->È
open List renaming getD->L,length->W,set->Ã,replicate->Ä,take->Ê,drop->Ì
open Option renaming some->M,none->X
open Decidable renaming decide->N
open Int renaming ofNat->S,tmod->Æ,tdiv->É,fdiv->Í
open Bool renaming false->Z,true->Á
open Go.IntKind renaming wrap->Ë
open Go Go.Lft
set_option linter.unusedVariables false
namespace Go.Proofs.Pw
noncomputable section
abbrev Tn2:Type:=(Y (K×K))
abbrev Tn3:Type:=(K×K×K)
abbrev Tn14:Type:=(Y Tn3)
abbrev Tn13:Type:=(K×Tn2)
abbrev Tn19:Type:=(U×K×(Y K))
abbrev Tn20:Type:=(Y Tn13)
abbrev Tn24:Type:=(K×K×Tn3)
abbrev Tn26:Type:=(Y Tn19)
abbrev Tn29:Type:=(Y Tn24)
abbrev Tn34:Type:=(Y Tn29)
abbrev Tn38:Type:=(K×K×Tn24)
abbrev Tn43:Type:=(Y Tn38)
abbrev Tn45:Type:=(U×K×Tn2×K×K×Ç)
abbrev Tn49:Type:=(Y Tn45)
abbrev Tn53:Type:=(U×K×Tn43)
abbrev Tn55:Type:=(Y Tn53)
abbrev Tn60:Type:=(U×K×(K×K)×K×K×(Y K)×Tn2×K×K)
abbrev Tn61:Type:=(Y Tn60)
abbrev Tn65:Type:=(U×Tn61×Tn29)
abbrev Tn66:Type:=(Y Tn65)
abbrev Tn72:Type:=(Tn55×Tn49×Tn26×Tn66)
abbrev Tn73:Type:=(Y Tn72)
abbrev Tn75:Type:=(Tn72×Tn20)
abbrev u8{A B C D E F G H T I R:Type}(u:T->I->R)(f:A->B->C->D->E->F->G->H->T)(h:A×B×C×D×E×F×G×H×I):R:=u (f h.1 h.2.1 h.2.2.1 h.2.2.2.1 h.2.2.2.2.1 h.2.2.2.2.2.1 h.2.2.2.2.2.2.1 h.2.2.2.2.2.2.2.1) h.2.2.2.2.2.2.2.2
abbrev unc2{A0 A1 R:Type}(f:A0->A1->R)(h:A0×A1):R:=f h.1 h.2
abbrev unc3{A0 A1 A2 R:Type}(f:A0->A1->A2->R)(h:A0×A1×A2):R:=f h.1 h.2.1 h.2.2
abbrev unc4{A0 A1 A2 A3 R:Type}(f:A0->A1->A2->A3->R)(h:A0×A1×A2×A3):R:=f h.1 h.2.1 h.2.2.1 h.2.2.2
abbrev unc5{A0 A1 A2 A3 A4 R:Type}(f:A0->A1->A2->A3->A4->R)(h:A0×A1×A2×A3×A4):R:=f h.1 h.2.1 h.2.2.1 h.2.2.2.1 h.2.2.2.2
abbrev unc6{A0 A1 A2 A3 A4 A5 R:Type}(f:A0->A1->A2->A3->A4->A5->R)(h:A0×A1×A2×A3×A4×A5):R:=f h.1 h.2.1 h.2.2.1 h.2.2.2.1 h.2.2.2.2.1 h.2.2.2.2.2
abbrev unc7{A0 A1 A2 A3 A4 A5 A6 R:Type}(f:A0->A1->A2->A3->A4->A5->A6->R)(h:A0×A1×A2×A3×A4×A5×A6):R:=f h.1 h.2.1 h.2.2.1 h.2.2.2.1 h.2.2.2.2.1 h.2.2.2.2.2.1 h.2.2.2.2.2.2
abbrev unc8{A0 A1 A2 A3 A4 A5 A6 A7 R:Type}(f:A0->A1->A2->A3->A4->A5->A6->A7->R)(h:A0×A1×A2×A3×A4×A5×A6×A7):R:=f h.1 h.2.1 h.2.2.1 h.2.2.2.1 h.2.2.2.2.1 h.2.2.2.2.2.1 h.2.2.2.2.2.2.1 h.2.2.2.2.2.2.2
abbrev unc9{A0 A1 A2 A3 A4 A5 A6 A7 A8 R:Type}(f:A0->A1->A2->A3->A4->A5->A6->A7->A8->R)(h:A0×A1×A2×A3×A4×A5×A6×A7×A8):R:=f h.1 h.2.1 h.2.2.1 h.2.2.2.1 h.2.2.2.2.1 h.2.2.2.2.2.1 h.2.2.2.2.2.2.1 h.2.2.2.2.2.2.2.1 h.2.2.2.2.2.2.2.2
section
variable{a b c d e f g h i j k l m n o p q r s t u v w x aa bb z:Type}
abbrev c2(y:a×b->z)(a:a)(b:b):z:=y (a,b)
abbrev c3(y:a×b×c->z)(a:a)(b:b)(c:c):z:=y (a,b,c)
abbrev c4(y:a×b×c×d->z)(a:a)(b:b)(c:c)(d:d):z:=y (a,b,c,d)
abbrev c5(y:a×b×c×d×e->z)(a:a)(b:b)(c:c)(d:d)(e:e):z:=y (a,b,c,d,e)
abbrev c6(y:a×b×c×d×e×f->z)(a:a)(b:b)(c:c)(d:d)(e:e)(f:f):z:=y (a,b,c,d,e,f)
abbrev c7(y:a×b×c×d×e×f×g->z)(a:a)(b:b)(c:c)(d:d)(e:e)(f:f)(g:g):z:=y (a,b,c,d,e,f,g)
abbrev d8(y:a×b×c×d×e×f×g×h->z)(a:a)(b:b)(c:c)(d:d)(e:e)(f:f)(g:g)(h:h):z:=y (a,b,c,d,e,f,g,h)
abbrev c9(y:a×b×c×d×e×f×g×h×i->z)(a:a)(b:b)(c:c)(d:d)(e:e)(f:f)(g:g)(h:h)(i:i):z:=y (a,b,c,d,e,f,g,h,i)
abbrev c8(u:(i->z)->j)(y:a×b×c×d×e×f×g×h×i->z)(a:a)(b:b)(c:c)(d:d)(e:e)(f:f)(g:g)(h:h):j:=u λi=>y (a,b,c,d,e,f,g,h,i)
abbrev lp2[LP](s:a->b->O ((a×b) ⊕ z)):=c2 (LP.lp (unc2 s))
theorem eq2(s:a->b->O ((a×b) ⊕ z))(f)(h:f=lp2 s:=by rfl)(a b):f a b=lpK (s a b) (λh=>f h.1 h.2):=h▸j0j _ _
abbrev lp3[LP](s:a->b->c->O ((a×b×c) ⊕ z)):=c3 (LP.lp (unc3 s))
theorem eq3(s:a->b->c->O ((a×b×c) ⊕ z))(f)(h:f=lp3 s:=by rfl)(a b c):f a b c=lpK (s a b c) (λh=>f h.1 h.2.1 h.2.2):=h▸j0j _ _
abbrev lp4[LP](s:a->b->c->d->O ((a×b×c×d) ⊕ z)):=c4 (LP.lp (unc4 s))
theorem eq4(s:a->b->c->d->O ((a×b×c×d) ⊕ z))(f)(h:f=lp4 s:=by rfl)(a b c d):f a b c d=lpK (s a b c d) (λh=>f h.1 h.2.1 h.2.2.1 h.2.2.2):=h▸j0j _ _
abbrev lp5[LP](s:a->b->c->d->e->O ((a×b×c×d×e) ⊕ z)):=c5 (LP.lp (unc5 s))
theorem eq5(s:a->b->c->d->e->O ((a×b×c×d×e) ⊕ z))(f)(h:f=lp5 s:=by rfl)(a b c d e):f a b c d e=lpK (s a b c d e) (λh=>f h.1 h.2.1 h.2.2.1 h.2.2.2.1 h.2.2.2.2):=h▸j0j _ _
abbrev lp6[LP](s:a->b->c->d->e->f->O ((a×b×c×d×e×f) ⊕ z)):=c6 (LP.lp (unc6 s))
theorem eq6(s:a->b->c->d->e->f->O ((a×b×c×d×e×f) ⊕ z))(f)(h:f=lp6 s:=by rfl)(a b c d e g):f a b c d e g=lpK (s a b c d e g) (λh=>f h.1 h.2.1 h.2.2.1 h.2.2.2.1 h.2.2.2.2.1 h.2.2.2.2.2):=h▸j0j _ _
abbrev lp7[LP](s:a->b->c->d->e->f->g->O ((a×b×c×d×e×f×g) ⊕ z)):=c7 (LP.lp (unc7 s))
theorem eq7(s:a->b->c->d->e->f->g->O ((a×b×c×d×e×f×g) ⊕ z))(f)(h:f=lp7 s:=by rfl)(a b c d e g i):f a b c d e g i=lpK (s a b c d e g i) (λh=>f h.1 h.2.1 h.2.2.1 h.2.2.2.1 h.2.2.2.2.1 h.2.2.2.2.2.1 h.2.2.2.2.2.2):=h▸j0j _ _
abbrev lp8[LP](s:a->b->c->d->e->f->g->h->O ((a×b×c×d×e×f×g×h) ⊕ z)):=d8 (LP.lp (unc8 s))
theorem eq8(s:a->b->c->d->e->f->g->h->O ((a×b×c×d×e×f×g×h) ⊕ z))(f)(h:f=lp8 s:=by rfl)(a b c d e g i j):f a b c d e g i j=lpK (s a b c d e g i j) (λh=>f h.1 h.2.1 h.2.2.1 h.2.2.2.1 h.2.2.2.2.1 h.2.2.2.2.2.1 h.2.2.2.2.2.2.1 h.2.2.2.2.2.2.2):=h▸j0j _ _
abbrev lp9[LP](s:a->b->c->d->e->f->g->h->i->O ((a×b×c×d×e×f×g×h×i) ⊕ z)):=c9 (LP.lp (unc9 s))
theorem eq9(s:a->b->c->d->e->f->g->h->i->O ((a×b×c×d×e×f×g×h×i) ⊕ z))(f)(h:f=lp9 s:=by rfl)(a b c d e g i j k):f a b c d e g i j k=lpK (s a b c d e g i j k) (λh=>f h.1 h.2.1 h.2.2.1 h.2.2.2.1 h.2.2.2.2.1 h.2.2.2.2.2.1 h.2.2.2.2.2.2.1 h.2.2.2.2.2.2.2.1 h.2.2.2.2.2.2.2.2):=h▸j0j _ _
theorem eq10(s:a->b->c->d->e->f->g->h->i->j->O ((a×b×c×d×e×f×g×h×i×j) ⊕ z))(f)(h:f=c8 c2 (LP.lp (u8 unc2 s)):=by rfl)(a b c d e g i j k l):f a b c d e g i j k l=lpK (s a b c d e g i j k l) (λh=>f h.1 h.2.1 h.2.2.1 h.2.2.2.1 h.2.2.2.2.1 h.2.2.2.2.2.1 h.2.2.2.2.2.2.1 h.2.2.2.2.2.2.2.1 h.2.2.2.2.2.2.2.2.1 h.2.2.2.2.2.2.2.2.2):=h▸j0j _ _
theorem eq11(s:a->b->c->d->e->f->g->h->i->j->k->O ((a×b×c×d×e×f×g×h×i×j×k) ⊕ z))(f)(h:f=c8 c3 (LP.lp (u8 unc3 s)):=by rfl)(a b c d e g i j k l m):f a b c d e g i j k l m=lpK (s a b c d e g i j k l m) (λh=>f h.1 h.2.1 h.2.2.1 h.2.2.2.1 h.2.2.2.2.1 h.2.2.2.2.2.1 h.2.2.2.2.2.2.1 h.2.2.2.2.2.2.2.1 h.2.2.2.2.2.2.2.2.1 h.2.2.2.2.2.2.2.2.2.1 h.2.2.2.2.2.2.2.2.2.2):=h▸j0j _ _
theorem eq12(s:a->b->c->d->e->f->g->h->i->j->k->l->O ((a×b×c×d×e×f×g×h×i×j×k×l) ⊕ z))(f)(h:f=c8 c4 (LP.lp (u8 unc4 s)):=by rfl)(a b c d e g i j k l m n):f a b c d e g i j k l m n=lpK (s a b c d e g i j k l m n) (λh=>f h.1 h.2.1 h.2.2.1 h.2.2.2.1 h.2.2.2.2.1 h.2.2.2.2.2.1 h.2.2.2.2.2.2.1 h.2.2.2.2.2.2.2.1 h.2.2.2.2.2.2.2.2.1 h.2.2.2.2.2.2.2.2.2.1 h.2.2.2.2.2.2.2.2.2.2.1 h.2.2.2.2.2.2.2.2.2.2.2):=h▸j0j _ _
theorem eq13(s:a->b->c->d->e->f->g->h->i->j->k->l->m->O ((a×b×c×d×e×f×g×h×i×j×k×l×m) ⊕ z))(f)(h:f=c8 c5 (LP.lp (u8 unc5 s)):=by rfl)(a b c d e g i j k l m n o):f a b c d e g i j k l m n o=lpK (s a b c d e g i j k l m n o) (λh=>f h.1 h.2.1 h.2.2.1 h.2.2.2.1 h.2.2.2.2.1 h.2.2.2.2.2.1 h.2.2.2.2.2.2.1 h.2.2.2.2.2.2.2.1 h.2.2.2.2.2.2.2.2.1 h.2.2.2.2.2.2.2.2.2.1 h.2.2.2.2.2.2.2.2.2.2.1 h.2.2.2.2.2.2.2.2.2.2.2.1 h.2.2.2.2.2.2.2.2.2.2.2.2):=h▸j0j _ _
theorem eq14(s:a->b->c->d->e->f->g->h->i->j->k->l->m->n->O ((a×b×c×d×e×f×g×h×i×j×k×l×m×n) ⊕ z))(f)(h:f=c8 c6 (LP.lp (u8 unc6 s)):=by rfl)(a b c d e g i j k l m n o p):f a b c d e g i j k l m n o p=lpK (s a b c d e g i j k l m n o p) (λh=>f h.1 h.2.1 h.2.2.1 h.2.2.2.1 h.2.2.2.2.1 h.2.2.2.2.2.1 h.2.2.2.2.2.2.1 h.2.2.2.2.2.2.2.1 h.2.2.2.2.2.2.2.2.1 h.2.2.2.2.2.2.2.2.2.1 h.2.2.2.2.2.2.2.2.2.2.1 h.2.2.2.2.2.2.2.2.2.2.2.1 h.2.2.2.2.2.2.2.2.2.2.2.2.1 h.2.2.2.2.2.2.2.2.2.2.2.2.2):=h▸j0j _ _
theorem eq15(s:a->b->c->d->e->f->g->h->i->j->k->l->m->n->o->O ((a×b×c×d×e×f×g×h×i×j×k×l×m×n×o) ⊕ z))(f)(h:f=c8 c7 (LP.lp (u8 unc7 s)):=by rfl)(a b c d e g i j k l m n o p q):f a b c d e g i j k l m n o p q=lpK (s a b c d e g i j k l m n o p q) (λh=>f h.1 h.2.1 h.2.2.1 h.2.2.2.1 h.2.2.2.2.1 h.2.2.2.2.2.1 h.2.2.2.2.2.2.1 h.2.2.2.2.2.2.2.1 h.2.2.2.2.2.2.2.2.1 h.2.2.2.2.2.2.2.2.2.1 h.2.2.2.2.2.2.2.2.2.2.1 h.2.2.2.2.2.2.2.2.2.2.2.1 h.2.2.2.2.2.2.2.2.2.2.2.2.1 h.2.2.2.2.2.2.2.2.2.2.2.2.2.1 h.2.2.2.2.2.2.2.2.2.2.2.2.2.2):=h▸j0j _ _
theorem eq26(s:a->b->c->d->e->f->g->h->i->j->k->l->m->n->o->p->q->r->s->t->u->v->w->x->aa->bb->O ((a×b×c×d×e×f×g×h×i×j×k×l×m×n×o×p×q×r×s×t×u×v×w×x×aa×bb) ⊕ z))(f)(h:f=c8 (c8 (c8 c2)) (LP.lp (u8 (u8 (u8 unc2)) s)):=by rfl)(a b c d e g i j k l m n o p q r t u v w x y a0 b0 c0 d0):f a b c d e g i j k l m n o p q r t u v w x y a0 b0 c0 d0=lpK (s a b c d e g i j k l m n o p q r t u v w x y a0 b0 c0 d0) (λh=>f h.1 h.2.1 h.2.2.1 h.2.2.2.1 h.2.2.2.2.1 h.2.2.2.2.2.1 h.2.2.2.2.2.2.1 h.2.2.2.2.2.2.2.1 h.2.2.2.2.2.2.2.2.1 h.2.2.2.2.2.2.2.2.2.1 h.2.2.2.2.2.2.2.2.2.2.1 h.2.2.2.2.2.2.2.2.2.2.2.1 h.2.2.2.2.2.2.2.2.2.2.2.2.1 h.2.2.2.2.2.2.2.2.2.2.2.2.2.1 h.2.2.2.2.2.2.2.2.2.2.2.2.2.2.1 h.2.2.2.2.2.2.2.2.2.2.2.2.2.2.2.1 h.2.2.2.2.2.2.2.2.2.2.2.2.2.2.2.2.1 h.2.2.2.2.2.2.2.2.2.2.2.2.2.2.2.2.2.1 h.2.2.2.2.2.2.2.2.2.2.2.2.2.2.2.2.2.2.1 h.2.2.2.2.2.2.2.2.2.2.2.2.2.2.2.2.2.2.2.1 h.2.2.2.2.2.2.2.2.2.2.2.2.2.2.2.2.2.2.2.2.1 h.2.2.2.2.2.2.2.2.2.2.2.2.2.2.2.2.2.2.2.2.2.1 h.2.2.2.2.2.2.2.2.2.2.2.2.2.2.2.2.2.2.2.2.2.2.1 h.2.2.2.2.2.2.2.2.2.2.2.2.2.2.2.2.2.2.2.2.2.2.2.1 h.2.2.2.2.2.2.2.2.2.2.2.2.2.2.2.2.2.2.2.2.2.2.2.2.1 h.2.2.2.2.2.2.2.2.2.2.2.2.2.2.2.2.2.2.2.2.2.2.2.2.2):=h▸j0j _ _
end
def jeC(a:Y K):O Bool:=
 let b:=S a.length
 M (N (b<=500))
def jcV  : O (Tn55×Tn49×Tn26×Tn66):=
 let g:Tn55:=[((À #[122]),0,([]:Tn43))]
 let f:Tn49:=[((À #[97]),0,([]:Tn2),0,0,Z),((À #[98]),0,([]:Tn2),0,0,Z),((À #[99]),0,([]:Tn2),0,0,Z)]
 let e:Y Int:=[0,1]
 let a:Y Int:=[2]
 let b:Tn2:=[(0,86400)]
 let d:Tn61:=[((À #[108,111,119]),0,(4,0),2,1,e,([]:Tn2),0,0),((À #[116,111,112]),0,(4,0),2,1,a,b,0,0)]
 let c:Tn66:=[((À #[115]),d,([]:Tn29))]
 M (g,f,([]:Tn26),c)
def j69(a:Tn53):O ByteArray:=M a.1
def j8N(a:K):O Bool:=M (cond (N (a>=97)) (N (a<=122)) Z)
def jcW(a:K):O Bool:=M (cond (N (a>=48)) (N (a<=57)) Z)
def j3U(f:U)(c b:K):O ((U×K×K) ⊕ (Ç ⊕ È)):=cond (N (b<c)) (cond (inR b (Å f)) (let a:=j6l f b
 (j8N a).bind λd=>cond (!d) ((jcW a).bind λi=>cond (cond (cond (!i) (a != 95) Z) (a != 45) Z) (M (.inr (.inl Z))) (let g:=w64 (b+1)
 M (.inl (f,c,g)))) (let e:=w64 (b+1)
 M (.inl (f,c,e)))) X) (M (.inr (.inr ())))
def j8r[LP]:=lp3 j3U
theorem jb9(c a b):j8r c a b=lpK (j3U c a b) (λh=>j8r h.1 h.2.1 h.2.2):=j0j _ _
def ja6[LP](a:U):O Bool:=
 let g:=S (Å a)
 let b:Bool:=cond (Â a==Â J) Á (N (g>24))
 cond ((inR 0 (Å a)) || !(!b)) (let d:=j6l a 0
 cond b (M Z) ((j8N d).bind λc=>cond (!c) (M Z) (let e:=S (Å a)
 (j8r a e 0).bind λf=>sumC f (λi=>M i) (λj=>M Á)))) X
def j3B[LP](b:U)(a:Y (U×Ç)):O (K×(Y (U×Ç))):=(ja6 b).bind λd=>cond (!d) (M (2,a)) (cond (j8K Z a b) (M (4,a)) (let c:(Y (U×Ç)):=j9L a b Á
 M (0,c)))
def j5T(a b c:K):O Bool:=M (cond (N (a>=b)) (N (a<=c)) Z)
def j7J(a:Tn38):O Int:=(j5T a.1 1970 2240).bind λi=>cond (!i) (M 1) ((j5T a.2.1 a.1 2240).bind λb=>cond (!b) (M 1) ((j5T a.2.2.1 1 12).bind λe=>cond (!e) (M 1) ((j5T a.2.2.2.1 1 5).bind λd=>cond (!d) (M 1) ((j5T a.2.2.2.2.1 0 6).bind λf=>cond (!f) (M 1) ((j5T a.2.2.2.2.2.1 0 86399).bind λg=>cond (!g) (M 1) ((j5T a.2.2.2.2.2.2 (-64800) 64800).bind λc=>cond (!c) (M 1) (M 0)))))))
def jeD(a:K):O Bool:=
 let d:=Æ a 4
 let c:=Æ a 100
 let b:=Æ a 400
 M (cond (d==0) (cond (c != 0) Á (b==0)) Z)
def j5M(c a:K):O Int:=cond (cond (N (a<1)) Á (N (a>12))) (M 0) (let f:Y Int:=[31,28,31,30,31,30,31,31,30,31,30,31]
 let j:Y Int:=Ä 12 0
 cond (a==2) ((jeD c).bind λi=>cond i (M 29) (let e:=w64 (a-1)
 cond (inR e 12) (let g:=L f e.toNat 0
 M g) X)) (let b:=w64 (a-1)
 cond (inR b 12) (let d:=L f b.toNat 0
 M d) X))
def j8O(a:Tn3):O Bool:=cond (N (a.1>=1970)) (cond (N (a.1<=2240)) (cond (N (a.2.2>=1)) ((j5M a.1 a.2.1).bind λb=>M (N (a.2.2<=b))) (M Z)) (M Z)) (M Z)
def j6n(b a:K):O Int:=cond (!(a==0)) (let d:=w64 (É b a)
 cond (!(a==0)) (let e:=Æ b a
 cond (N (e<0)) (let c:=w64 (d-1)
 M c) (M d)) X) X
def j5v(a:K):O Int:=
 let b:=w64 (a-1)
 let k:=w64 (a-1970)
 let l:=w64 (365*k)
 (j6n b 4).bind λd=>let j:=w64 (l+d)
 (j6n b 100).bind λi=>let f:=w64 (j-i)
 (j6n b 400).bind λg=>let e:=w64 (f+g)
 let c:=w64 (e-477)
 M c
def j3k(g e i a f:K):O ((K×K×K×K×K) ⊕ (K)):=cond (N (e<a)) ((j5M i e).bind λd=>let c:=w64 (g+d)
 let b:=w64 (e+1)
 M (.inl (c,b,i,a,f))) (M (.inr g))
def j8P[LP]:=lp5 j3k
abbrev j9q:=eq5 j3k j8P
def j9r[LP](a:Tn3):O Int:=(j5v a.1).bind λe=>let b:=w64 (e+a.2.2)
 let c:=w64 (b-1)
 (j8P c 1 a.1 a.2.1 a.2.2).bind λd=>M d
def j4F(a:K):O Int:=
 let d:=Æ a 7
 let c:=w64 (d+10)
 let b:=Æ c 7
 M b
def jdB[LP](d b c a:K):O (K×K):=(j8O (d,b,1)).bind λq=>let s:Bool:=cond (cond (!q) Á (N (c<1))) Á (N (c>5))
 let i:Bool:=cond (cond s Á (N (a<0))) Á (N (a>6))
 cond i (M (0,1)) ((j9r (d,b,1)).bind λe=>(j4F e).bind λt=>let p:=w64 (a-t)
 let k:=w64 (p+7)
 let l:=Æ k 7
 let m:=w64 (e+l)
 let g:=w64 (c-1)
 let o:=w64 (7*g)
 let f:=w64 (m+o)
 (j5M d b).bind λn=>let j:=w64 (e+n)
 cond (N (f>=j)) (let r:=w64 (f-7)
 M (r,0)) (M (f,0)))
def j2N(a b:K×K):O Int:=
 let c:=w64 (a.1-b.1)
 M c
def j0v(o q p b:K)(a:Tn2):O ((K×K×K×K×Tn2) ⊕ (K×K×K×Tn2)):=cond (N (b>o)) (cond (inR b a.length) (let j:=L a b.toNat (0,0)
 let g:=w64 (b-1)
 cond (inR g a.length) (let i:=L a g.toNat (0,0)
 (j2N j i).bind λm=>cond (N (m<0)) (let k:=w64 (b-1)
 let c:=w64 (b-1)
 cond (inR c a.length) (let e:=L a c.toNat (0,0)
 cond (inR b a.length) (let d:=L a b.toNat (0,0)
 cond (inR b a.length) (let f:Tn2:=Ã a b.toNat e
 cond (inR k f.length) (let l:Tn2:=Ã f k.toNat d
 let n:=w64 (b-1)
 M (.inl (o,q,p,n,l))) X) X) X) X) (M (.inr (o,q,p,a)))) X) X) (M (.inr (o,q,p,a)))
def j10[LP]:=lp5 j0v
abbrev j1B:=eq5 j0v j10
def j0h[LP](f d c:K)(e:Tn2):O ((K×K×K×Tn2) ⊕ (Tn2)):=cond (N (c<d)) ((j10 f d c c e).bind λa=>let b:=w64 (a.2.2.1+1)
 M (.inl (a.1,a.2.1,b,a.2.2.2))) (M (.inr e))
def j11[LP]:=lp4 j0h
abbrev j0T:=eq4 j0h j11
def j0w[LP](a:Tn2)(b c:K):O Tn2:=
 let d:=w64 (b+1)
 (j11 b c d a).bind λe=>M e
def j1K(n m o a:K)(b:Tn2):O ((K×K×K×K×Tn2) ⊕ (Tn2)):=cond (N (a<o)) (let g:=w64 (n+a)
 let d:=w64 (m+a)
 let f:=w64 (m+a)
 cond (inR f b.length) (let i:=L b f.toNat (0,0)
 let e:=w64 (n+a)
 cond (inR e b.length) (let c:=L b e.toNat (0,0)
 cond (inR g b.length) (let j:Tn2:=Ã b g.toNat i
 cond (inR d j.length) (let l:Tn2:=Ã j d.toNat c
 let k:=w64 (a+1)
 M (.inl (n,m,o,k,l))) X) X) X) X) (M (.inr b))
def j4Q[LP]:=lp5 j1K
def j0X[LP](a:Tn2)(c d b:K):O Tn2:=(j4Q c d b 0 a).bind λe=>M e
def j2d[LP](c a b:K)(m:Tn2):O ((K×K×K×Tn2) ⊕ (K×K×Tn2)):=cond (a != b) (cond (N (a>b)) (let f:=w64 (c-a)
 (j0X m f c b).bind λl=>let k:=w64 (a-b)
 M (.inl (c,k,b,l))) (let e:=w64 (c-a)
 let j:=w64 (c+b)
 let g:=w64 (j-a)
 (j0X m e g a).bind λd=>let i:=w64 (b-a)
 M (.inl (c,a,i,d)))) (M (.inr (c,a,m)))
def j5w[LP]:=lp4 j2d
def j1L[LP](b:Tn2)(d a e:K):O Tn2:=
 let i:=w64 (a-d)
 let g:=w64 (e-a)
 (j5w a i g b).bind λc=>let f:=w64 (c.1-c.2.1)
 (j0X c.2.2 f c.1 c.2.1).bind λj=>M j
def j1U(n:Tn2->K->K->K->O (Tn2))(g c f:K)(a:Tn2):O ((K×K×K×Tn2) ⊕ (K×K×Tn2)):=cond (N (c<f)) (let k:=w64 (c+f)
 let l:Int:=Ë .u64 k
 let i:Int:=Í l 2
 let e:=w64 i
 cond (inR e a.length) (let d:=L a e.toNat (0,0)
 cond (inR g a.length) (let b:=L a g.toNat (0,0)
 (j2N d b).bind λj=>cond (N (j<0)) (let m:=w64 (e+1)
 M (.inl (g,m,f,a))) (M (.inl (g,c,e,a)))) X) X) (M (.inr (g,c,a)))
def j58[LP](b:Tn2->K->K->K->O (Tn2))(d a c:K)(e:Tn2):O (K×K×Tn2):=LP.lp (unc4 (j1U b)) (d,a,c,e)
def j1V(m:Tn2->K->K->K->O (Tn2))(l a:K)(b:Tn2):O ((K×K×Tn2) ⊕ (Tn2)):=
 let j:=w64 (l-1)
 cond (N (a<j)) (let e:=w64 (a+1)
 let g:=w64 (a+1)
 cond (inR g b.length) (let d:=L b g.toNat (0,0)
 cond (inR a b.length) (let c:=L b a.toNat (0,0)
 cond (inR a b.length) (let f:Tn2:=Ã b a.toNat d
 cond (inR e f.length) (let i:Tn2:=Ã f e.toNat c
 let k:=w64 (a+1)
 M (.inl (l,k,i))) X) X) X) X) (M (.inr b))
def j59[LP](a:Tn2->K->K->K->O (Tn2))(b c:K)(d:Tn2):O Tn2:=LP.lp (unc3 (j1V a)) (b,c,d)
def j1W(n:Tn2->K->K->K->O (Tn2))(f d j:K)(b:Tn2):O ((K×K×K×Tn2) ⊕ (K×K×Tn2)):=cond (N (d<j)) (let m:=w64 (d+j)
 let l:Int:=Ë .u64 m
 let k:Int:=Í l 2
 let e:=w64 k
 cond (inR f b.length) (let c:=L b f.toNat (0,0)
 cond (inR e b.length) (let a:=L b e.toNat (0,0)
 (j2N c a).bind λi=>cond (!(N (i<0))) (let g:=w64 (e+1)
 M (.inl (f,g,j,b))) (M (.inl (f,d,e,b)))) X) X) (M (.inr (f,d,b)))
def j5a[LP](a:Tn2->K->K->K->O (Tn2))(d c b:K)(e:Tn2):O (K×K×Tn2):=LP.lp (unc4 (j1W a)) (d,c,b,e)
def j1X(l:Tn2->K->K->K->O (Tn2))(k a:K)(f:Tn2):O ((K×K×Tn2) ⊕ (Tn2)):=cond (N (a>k)) (let c:=w64 (a-1)
 let b:=w64 (a-1)
 cond (inR b f.length) (let d:=L f b.toNat (0,0)
 cond (inR a f.length) (let e:=L f a.toNat (0,0)
 cond (inR a f.length) (let g:Tn2:=Ã f a.toNat d
 cond (inR c g.length) (let j:Tn2:=Ã g c.toNat e
 let i:=w64 (a-1)
 M (.inl (k,i,j))) X) X) X) X) (M (.inr f))
def j5b[LP](a:Tn2->K->K->K->O (Tn2))(c b:K)(d:Tn2):O Tn2:=LP.lp (unc3 (j1X a)) (c,b,d)
def j1Y(t:Tn2->K->K->K->O (Tn2))(r q s m k f o l:K)(e:Tn2):O ((K×K×K×K×K×K×K×K×Tn2) ⊕ (K×K×K×K×K×K×Tn2)):=cond (N (f<o)) (let g:=w64 (f+o)
 let j:Int:=Ë .u64 g
 let p:Int:=Í j 2
 let a:=w64 p
 let d:=w64 (l-a)
 cond (inR d e.length) (let b:=L e d.toNat (0,0)
 cond (inR a e.length) (let c:=L e a.toNat (0,0)
 (j2N b c).bind λn=>cond (!(N (n<0))) (let i:=w64 (a+1)
 M (.inl (r,q,s,m,k,i,o,l,e))) (M (.inl (r,q,s,m,k,f,a,l,e)))) X) X) (M (.inr (r,q,s,m,k,f,e)))
def j2J[LP](c:Tn2->K->K->K->O (Tn2))(i g j e a f d b:K)(k:Tn2):O (K×K×K×K×K×K×Tn2):=LP.lp (unc9 (j1Y c)) (i,g,j,e,a,f,d,b,k)
def j4G[LP](e:Tn2->K->K->K->O (Tn2))(g:Tn2)(i f j:K):O Tn2:=
 let a9:=w64 (f-i)
 cond (a9==1) ((j58 e i f j g).bind λa2=>(j59 e a2.2.1 a2.1 a2.2.2).bind λb2=>M b2) (let b0:=w64 (j-f)
 cond (b0==1) ((j5a e f i f g).bind λa3=>(j5b e a3.2.1 a3.1 a3.2.2).bind λb1=>M b1) (let a8:=w64 (i+j)
 let a5:Int:=Ë .u64 a8
 let m:Int:=Í a5 2
 let k:=w64 ((w64 m)+f)
 cond (N (f>(w64 m))) (let a4:=w64 (k-j)
 let a6:=w64 (k-1)
 (j2J e i f j (w64 m) k a4 (w64 m) a6 g).bind λc=>let d:=w64 (c.2.2.2.2.1-c.2.2.2.2.2.1)
 cond (cond (N (c.2.2.2.2.2.1<c.2.1)) (N (c.2.1<d)) Z) ((j1L c.2.2.2.2.2.2 c.2.2.2.2.2.1 c.2.1 d).bind λq=>cond (cond (N (c.1<c.2.2.2.2.2.1)) (N (c.2.2.2.2.2.1<c.2.2.2.1)) Z) ((e q c.1 c.2.2.2.2.2.1 c.2.2.2.1).bind λw=>cond (cond (N (c.2.2.2.1<d)) (N (d<c.2.2.1)) Z) ((e w c.2.2.2.1 d c.2.2.1).bind λa1=>M a1) (M w)) (cond (cond (N (c.2.2.2.1<d)) (N (d<c.2.2.1)) Z) ((e q c.2.2.2.1 d c.2.2.1).bind λt=>M t) (M q))) (cond (cond (N (c.1<c.2.2.2.2.2.1)) (N (c.2.2.2.2.2.1<c.2.2.2.1)) Z) ((e c.2.2.2.2.2.2 c.1 c.2.2.2.2.2.1 c.2.2.2.1).bind λp=>cond (cond (N (c.2.2.2.1<d)) (N (d<c.2.2.1)) Z) ((e p c.2.2.2.1 d c.2.2.1).bind λy=>M y) (M p)) (cond (cond (N (c.2.2.2.1<d)) (N (d<c.2.2.1)) Z) ((e c.2.2.2.2.2.2 c.2.2.2.1 d c.2.2.1).bind λr=>M r) (M c.2.2.2.2.2.2)))) (let x:=w64 (k-1)
 (j2J e i f j (w64 m) k i f x g).bind λa=>let b:=w64 (a.2.2.2.2.1-a.2.2.2.2.2.1)
 cond (cond (N (a.2.2.2.2.2.1<a.2.1)) (N (a.2.1<b)) Z) ((j1L a.2.2.2.2.2.2 a.2.2.2.2.2.1 a.2.1 b).bind λl=>let a7:Bool:=cond (N (a.1<a.2.2.2.2.2.1)) (N (a.2.2.2.2.2.1<a.2.2.2.1)) Z
 cond a7 ((e l a.1 a.2.2.2.2.2.1 a.2.2.2.1).bind λo=>cond (cond (N (a.2.2.2.1<b)) (N (b<a.2.2.1)) Z) ((e o a.2.2.2.1 b a.2.2.1).bind λv=>M v) (M o)) (cond (cond (N (a.2.2.2.1<b)) (N (b<a.2.2.1)) Z) ((e l a.2.2.2.1 b a.2.2.1).bind λu=>M u) (M l))) (let a0:Bool:=cond (N (a.1<a.2.2.2.2.2.1)) (N (a.2.2.2.2.2.1<a.2.2.2.1)) Z
 cond a0 ((e a.2.2.2.2.2.2 a.1 a.2.2.2.2.2.1 a.2.2.2.1).bind λn=>cond (cond (N (a.2.2.2.1<b)) (N (b<a.2.2.1)) Z) ((e n a.2.2.2.1 b a.2.2.1).bind λz=>M z) (M n)) (cond (cond (N (a.2.2.2.1<b)) (N (b<a.2.2.1)) Z) ((e a.2.2.2.2.2.2 a.2.2.2.1 b a.2.2.1).bind λs=>M s) (M a.2.2.2.2.2.2))))))
def j0M[LP](e:(Tn2×K×K×K)->O (Tn2))(h:Tn2×K×K×K):O Tn2:=j4G (λd a c b=>e (d,a,c,b)) h.1 h.2.1 h.2.2.1 h.2.2.2
def j1w[LP](a:Tn2)(d c b:K):O Tn2:=LP.rp j0M (a,d,c,b)
def j0I[LP](e d f a:K)(g:Tn2):O ((K×K×K×K×Tn2) ⊕ (K×K×K×Tn2)):=cond (N (a<=e)) ((j0w g f a).bind λb=>let c:=w64 (a+d)
 M (.inl (e,d,a,c,b))) (M (.inr (e,d,f,g)))
def j1r[LP]:=lp5 j0I
abbrev j4R:=eq5 j0I j1r
def j2e[LP](i e g b:K)(j:Tn2):O ((K×K×K×K×Tn2) ⊕ (K×K×K×Tn2)):=cond (N (b<=i)) (let f:=w64 (g+e)
 (j1w j g f b).bind λd=>let a:=w64 (2*e)
 let c:=w64 (b+a)
 M (.inl (i,e,b,c,d))) (M (.inr (i,e,g,j)))
def j5x[LP]:=lp5 j2e
def j0J[LP](i g:K)(j:Tn2):O ((K×K×Tn2) ⊕ (Tn2)):=cond (N (g<i)) (let d:=w64 (2*g)
 (j5x i g 0 d j).bind λa=>let b:=w64 (a.2.2.1+a.2.1)
 cond (N (b<a.1)) ((j1w a.2.2.2 a.2.2.1 b a.1).bind λc=>let e:=w64 (a.2.1*2)
 M (.inl (a.1,e,c))) (let f:=w64 (a.2.1*2)
 M (.inl (a.1,f,a.2.2.2)))) (M (.inr j))
def j1s[LP]:=lp3 j0J
abbrev j4S:=eq3 j0J j1s
def j1M[LP](a:Tn2)(c:K):O Tn2:=(j1r c 20 0 20 a).bind λb=>(j0w b.2.2.2 b.2.2.1 b.1).bind λd=>(j1s b.1 b.2.1 d).bind λe=>M e
def j0g[LP](a:Tn2):O Tn2:=
 let c:=S a.length
 (j1M a c).bind λb=>M b
def j1p(m:K)(d:Tn43)(l c:K)(n:U)(e:K)(f:Tn43):O ((K×Tn43×K×K×U×K×Tn43) ⊕ (K ⊕ (K×U×K×Tn43))):=cond (N (c<l)) (cond (inR c d.length) (let a:=L d c.toNat (0,0,0,0,0,0,0)
 (j7J a).bind λb=>cond (b != 0) (M (.inr (.inl b))) (let j:=w64 (a.2.1-a.1)
 let k:=w64 (j+1)
 let i:=w64 (m+k)
 let g:=w64 (c+1)
 M (.inl (i,d,l,g,n,e,f)))) X) (M (.inr (.inr (m,n,e,f))))
def j3I[LP]:=lp7 j1p
theorem j5c(f c e d g a b):j3I f c e d g a b=lpK (j1p f c e d g a b) (λh=>j3I h.1 h.2.1 h.2.2.1 h.2.2.2.1 h.2.2.2.2.1 h.2.2.2.2.2.1 h.2.2.2.2.2.2):=j0j _ _
def j20[LP](i:K)(q:Tn43)(o p s g d b f a e:K)(r:Tn2):O ((K×Tn43×K×K×K×K×K×K×K×K×K×Tn2) ⊕ (Tn43×K×K×Tn2)):=cond (N (i<=g)) ((jdB i d b f).bind λn=>let m:=w64 (n.1*86400)
 let l:=w64 (m+a)
 let c:Tn2:=[(l,e)]
 cond (N (W r+W c<=j06)) (let j:Tn2:=r++c
 let k:=w64 (i+1)
 M (.inl (k,q,o,p,s,g,d,b,f,a,e,j))) X) (M (.inr (q,o,p,r)))
def j6o[LP]:=c8 c4 (LP.lp (u8 unc4 j20))
abbrev j7c:=eq12 j20 j6o
def j21[LP](d:Tn43)(f c:K)(g:Tn2):O ((Tn43×K×K×Tn2) ⊕ (Tn2)):=cond (N (c<f)) (cond (inR c d.length) (let a:=L d c.toNat (0,0,0,0,0,0,0)
 (j6o a.1 d f c a.1 a.2.1 a.2.2.1 a.2.2.2.1 a.2.2.2.2.1 a.2.2.2.2.2.1 a.2.2.2.2.2.2 g).bind λb=>let e:=w64 (b.2.2.1+1)
 M (.inl (b.1,b.2.1,e,b.2.2.2))) X) (M (.inr g))
def j4H[LP]:=lp4 j21
theorem j7d(c a b d):j4H c a b d=lpK (j21 c a b d) (λh=>j4H h.1 h.2.1 h.2.2.1 h.2.2.2):=j0j _ _
def j2z[LP](a:Tn53):O (Tn2×K):=(j5T a.2.1 (-64800) 64800).bind λc=>cond (!c) (M (([]:Tn2),1)) (let e:=S a.2.2.length
 cond (N (e>16)) (M (([]:Tn2),5)) (let b:=S a.2.2.length
 (j3I 0 a.2.2 b 0 a.1 a.2.1 a.2.2).bind λi=>sumC i (λk=>M (([]:Tn2),k)) (λg=>cond (N (g.1>640)) (M (([]:Tn2),5)) (let f:=S g.2.2.2.length
 (j4H g.2.2.2 f 0 ([]:Tn2)).bind λj=>(j0g j).bind λd=>M (d,0)))))
def j16(v m d:K)(b l:Tn2):O ((K×K×K×Tn2×Tn2) ⊕ (K ⊕ Tn2)):=cond (N (d<m)) (cond (inR d l.length) (let a:=L l d.toNat (0,0)
 cond (a.2==v) (let p:=w64 (d+1)
 M (.inl (v,m,p,b,l))) (let c:=w64 (a.1-v)
 let e:=w64 (a.2-v)
 cond (cond (N (e>=86400)) Á (N (e<=(-86400)))) (let r:=S b.length
 let o:=S b.length
 let i:=w64 (o-1)
 cond ((inR i b.length) || !((!Á)&&(N (r>0)))) (let t:=(L b i.toNat (0,0)).1
 let x:=w64 (t+604800)
 M (.inr (.inl 6))) X) ((j5T c 0 8589934592).bind λg=>let j:=S b.length
 let q:=S b.length
 let k:=w64 (q-1)
 cond ((inR k b.length) || !((!(!g))&&(N (j>0)))) (let n:=(L b k.toNat (0,0)).1
 let u:=w64 (n+604800)
 cond (cond (!g) Á (cond (N (j>0)) (N (c<u)) Z)) (M (.inr (.inl 6))) (let f:Tn2:=[(c,a.2)]
 cond (N (W b+W f<=j06)) (let w:Tn2:=b++f
 let s:=w64 (d+1)
 M (.inl (a.2,m,s,w,l))) X)) X))) X) (M (.inr (.inr b)))
def j3J[LP]:=lp5 j16
theorem j3R(d a c e b):j3J d a c e b=lpK (j16 d a c e b) (λh=>j3J h.1 h.2.1 h.2.2.1 h.2.2.2.1 h.2.2.2.2):=j0j _ _
def j14[LP](a:Tn53):O (Tn2×K):=(j2z a).bind λb=>cond (b.2 != 0) (M (([]:Tn2),b.2)) (let c:=S b.1.length
 (j3J a.2.1 c 0 ([]:Tn2) b.1).bind λd=>sumC d (λe=>M (([]:Tn2),e)) (λf=>M (f,0)))
def ja7[LP](a:Tn53):O Int:=(j14 a).bind λb=>M b.2
def j5U(a:Tn38):O Bool:=
 let b:=Æ a.2.2.2.2.2.2 60
 M (b != 0)
def j0i(e:Tn43)(f b:K):O ((Tn43×K×K) ⊕ (K ⊕ È)):=cond (N (b<f)) (cond (inR b e.length) (let a:=L e b.toNat (0,0,0,0,0,0,0)
 (j5U a).bind λc=>cond c (M (.inr (.inl b))) (let d:=w64 (b+1)
 M (.inl (e,f,d)))) X) (M (.inr (.inr ())))
def j17[LP]:=lp3 j0i
abbrev j1F:=eq3 j0i j17
def j1f[LP](a:Tn43):O Int:=
 let c:=S a.length
 (j17 a c 0).bind λb=>sumC b (λd=>M d) (λe=>M (-1))
def j0G[LP](a:Tn43):O Bool:=(j1f a).bind λb=>M (N (b>=0))
def j1x[LP](a:Tn53):O Int:=(ja7 a).bind λc=>let d:=Æ a.2.1 60
 cond (cond (c != 0) Á (d != 0)) (M 8) ((j0G a.2.2).bind λb=>cond b (M 8) (M 0))
def j0P[LP](e:Tn55)(i c:K)(j:Y (U×Ç)):O ((Tn55×K×K×(Y (U×Ç))) ⊕ (K ⊕ È)):=cond (N (c<i)) (cond (inR c e.length) (let a:=L e c.toNat (J,0,[])
 (j69 a).bind λg=>(j3B g j).bind λb=>cond (b.1 != 0) (M (.inr (.inl b.1))) ((j1x a).bind λd=>cond (d != 0) (M (.inr (.inl d))) (let f:=w64 (c+1)
 M (.inl (e,i,f,b.2))))) X) (M (.inr (.inr ())))
def j1h[LP]:=lp4 j0P
abbrev j3x:=eq4 j0P j1h
def j2K[LP](a:Tn55):O Int:=
 let c:(Y (U×Ç)):=[]
 let b:=S a.length
 (j1h a b 0 c).bind λd=>sumC d (λe=>M e) (λf=>M 0)
def j12(a b:K):O Bool:=M (cond (N (a>=0)) (N (a<b)) Z)
def j3V(g d:Tn2)(k b:K):O ((Tn2×Tn2×K×K) ⊕ (K ⊕ È)):=cond (N (b<k)) (cond (inR b d.length) (let a:=L d b.toNat (0,0)
 let f:Bool:=cond (cond (N (a.1<0)) Á (N (a.1>=a.2))) Á (N (a.2>604800))
 cond f (M (.inr (.inl 1))) (cond (N (b>0)) (let c:=w64 (b-1)
 cond (inR c g.length) (let i:=L g c.toNat (0,0)
 cond (N (a.1<i.2)) (M (.inr (.inl 6))) (let e:=w64 (b+1)
 M (.inl (g,d,k,e)))) X) (let j:=w64 (b+1)
 M (.inl (g,d,k,j))))) X) (M (.inr (.inr ())))
def jat[LP]:=lp4 j3V
abbrev jba:=eq4 j3V jat
def j8E[LP](a:Tn2):O Int:=
 let c:=S a.length
 cond (N (c>14)) (M 5) (let d:=S a.length
 (jat a a d 0).bind λb=>sumC b (λe=>M e) (λf=>M 0))
def j2O(a b c:K):O Bool:=M (cond (N (a>=b)) (N (a<=c)) Z)
def j4I(a:K):O Bool:=(j2O a 0 604800).bind λc=>let b:=Æ a 3600
 M (cond c (b==0) Z)
def j3K[LP](b:Tn72)(a:Tn45):O Int:=
 let f:=S b.1.length
 (j12 a.2.1 f).bind λd=>cond (!d) (M 3) ((j8E a.2.2.1).bind λe=>cond (e != 0) (M 8) ((j4I a.2.2.2.1).bind λg=>cond (!g) (M 1) ((j4I a.2.2.2.2.1).bind λc=>cond (!c) (M 1) (M 0))))
def j6a(a:Tn19):O ByteArray:=M a.1
def j3W(e d:K):O ((K×K) ⊕ (K)):=
 let b:=w64 (d+1)
 (j5v b).bind λc=>cond (N (c<=e)) (let a:=w64 (d+1)
 M (.inl (e,a))) (M (.inr d))
def jau[LP]:=lp2 j3W
abbrev jbb:=eq2 j3W jau
def jce[LP](a:K):O Int:=(j6n a 366).bind λb=>let c:=w64 (1970+b)
 (jau a c).bind λd=>M d
def j3l(k l c b e a d:K):O ((K×K×K×K×K×K×K) ⊕ (K×K×K×K×K×K×K)):=(j5M e a).bind λi=>cond (N (k>=i)) ((j5M e a).bind λf=>let g:=w64 (k-f)
 let j:=w64 (a+1)
 M (.inl (g,l,c,b,e,j,d))) (M (.inr (k,l,c,b,e,a,d)))
def j8Q[LP]:=lp7 j3l
abbrev j9s:=eq7 j3l j8Q
def j6x[LP](a:K):O (Tn3×K):=(j5v 1970).bind λi=>cond (N (a<i)) (M ((0,0,0),1)) ((j5v 2241).bind λd=>cond (N (a>=d)) (M ((0,0,0),1)) ((jce a).bind λb=>(j5v b).bind λg=>let f:=w64 (a-g)
 (j8Q f 0 0 0 b 1 0).bind λc=>let e:=w64 (c.1+1)
 M ((c.2.2.2.2.1,c.2.2.2.2.2.1,e),0)))
def j2P[LP](a:K):O Bool:=(j6x a).bind λb=>M (b.2==0)
def j38[LP](a:K):O Bool:=(j2P a).bind λb=>M (!b)
def j0A[LP](e:Y K)(f a:K):O (((Y K)×K×K) ⊕ (K ⊕ È)):=cond (N (a<f)) (cond (inR a e.length) (let d:=L e a.toNat 0
 (j38 d).bind λb=>cond b (M (.inr (.inl a))) (let c:=w64 (a+1)
 M (.inl (e,f,c)))) X) (M (.inr (.inr ())))
def j2i[LP]:=lp3 j0A
abbrev j1G:=eq3 j0A j2i
def j39[LP](a:Y K):O Int:=
 let c:=S a.length
 (j2i a c 0).bind λb=>sumC b (λd=>M d) (λe=>M (-1))
def j18[LP](a:Y K):O Bool:=(j39 a).bind λb=>M (N (b>=0))
def j0o(e b:K)(k:U)(d:K)(a:Y K):O ((K×K×U×K×(Y K)) ⊕ (K ⊕ È)):=cond (N (b<e)) (cond (N (b>0)) (cond (inR b a.length) (let f:=L a b.toNat 0
 let c:=w64 (b-1)
 cond (inR c a.length) (let i:=L a c.toNat 0
 cond (N (f<=i)) (M (.inr (.inl 6))) (let g:=w64 (b+1)
 M (.inl (e,g,k,d,a)))) X) X) (let j:=w64 (b+1)
 M (.inl (e,j,k,d,a)))) (M (.inr (.inr ())))
def j1q[LP]:=lp5 j0o
theorem j19(c d e a b):j1q c d e a b=lpK (j0o c d e a b) (λh=>j1q h.1 h.2.1 h.2.2.1 h.2.2.2.1 h.2.2.2.2):=j0j _ _
def j1t[LP](b:Tn72)(a:Tn19):O Int:=
 let f:=S b.1.length
 (j12 a.2.1 f).bind λc=>cond (!c) (M 3) (let d:=S a.2.2.length
 cond (N (d>64)) (M 5) ((j18 a.2.2).bind λg=>cond g (M 1) (let e:=S a.2.2.length
 (j1q e 0 a.1 a.2.1 a.2.2).bind λi=>sumC i (λj=>M j) (λk=>M 0))))
def j6b[LP](a:Tn19)(e:Tn55)(b:Tn49)(c:Tn26)(d:Tn66):O Int:=(j1t (e,b,c,d) a).bind λf=>M f
def j0C[LP](m:Tn55)(e:Tn49)(i:Tn26)(g:Tn66)(f:Tn26)(l c:K)(n:Y (U×Ç)):O ((Tn55×Tn49×Tn26×Tn66×Tn26×K×K×(Y (U×Ç))) ⊕ (K ⊕ È)):=cond (N (c<l)) (cond (inR c f.length) (let a:=L f c.toNat (J,0,[])
 (j6a a).bind λk=>(j3B k n).bind λb=>cond (b.1 != 0) (M (.inr (.inl b.1))) ((j6b a m e i g).bind λd=>cond (d != 0) (M (.inr (.inl d))) (let j:=w64 (c+1)
 M (.inl (m,e,i,g,f,l,j,b.2))))) X) (M (.inr (.inr ())))
def j0U[LP]:=lp8 j0C
abbrev j2E:=eq8 j0C j0U
def j1C[LP](e:Tn26)(d:Tn55)(b:Tn49)(a:Tn26)(c:Tn66):O Int:=
 let g:(Y (U×Ç)):=[]
 let f:=S e.length
 (j0U d b a c e f 0 g).bind λi=>sumC i (λj=>M j) (λk=>M 0)
def j6c(a:Tn65):O ByteArray:=M a.1
def j3a(a:Tn60):O ByteArray:=M a.1
def j3X(b:K)(g:Tn55)(a:Tn49)(e:Tn26)(f:Tn66):O Bool:=
 let d:=S a.length
 (j12 b d).bind λc=>M (!c)
def j0p(i:Y K)(k:Tn55)(c:Tn49)(d:Tn26)(b:Tn66)(j a:K):O (((Y K)×Tn55×Tn49×Tn26×Tn66×K×K) ⊕ (K ⊕ È)):=cond (N (a<j)) (cond (inR a i.length) (let g:=L i a.toNat 0
 (j3X g k c d b).bind λe=>cond e (M (.inr (.inl a))) (let f:=w64 (a+1)
 M (.inl (i,k,c,d,b,j,f)))) X) (M (.inr (.inr ())))
def j1H[LP]:=lp7 j0p
abbrev j1j:=eq7 j0p j1H
def j2j[LP](c:Y K)(e:Tn55)(a:Tn49)(b:Tn26)(d:Tn66):O Int:=
 let g:=S c.length
 (j1H c e a b d g 0).bind λf=>sumC f (λi=>M i) (λj=>M (-1))
def j0Q[LP](d:Y K)(e:Tn55)(a:Tn49)(b:Tn26)(c:Tn66):O Bool:=(j2j d e a b c).bind λf=>M (N (f>=0))
def j1k[LP](b:Tn72)(a:Tn60):O Int:=
 let m:=S b.1.length
 (j12 a.2.1 m).bind λe=>cond (!e) (M 3) (cond (N (a.2.2.1.1<1)) (M 1) ((j2P a.2.2.1.1).bind λo=>cond (!o) (M 1) ((j2O a.2.2.1.2 0 86399).bind λg=>cond (!g) (M 1) ((j2O a.2.2.2.1 0 2).bind λj=>cond (!j) (M 1) ((j2O a.2.2.2.2.1 1 400).bind λf=>cond (!f) (M 1) (let p:=S a.2.2.2.2.2.1.length
 cond (p==0) (M 7) (let n:=S a.2.2.2.2.2.1.length
 cond (N (n>12)) (M 5) ((j0Q a.2.2.2.2.2.1 b.1 b.2.1 b.2.2.1 b.2.2.2).bind λc=>cond c (M 3) ((j8E a.2.2.2.2.2.2.1).bind λd=>cond (d != 0) (M 8) ((j2O a.2.2.2.2.2.2.2.2 0 2).bind λl=>cond (!l) (M 1) (let i:=S b.2.2.1.length
 cond (a.2.2.2.2.2.2.2.2 != 0) ((j12 a.2.2.2.2.2.2.2.1 i).bind λk=>cond (!k) (M 3) (cond (cond (a.2.2.2.2.2.2.2.2==0) (a.2.2.2.2.2.2.2.1 != 0) Z) (M 1) (M 0))) (cond (cond (a.2.2.2.2.2.2.2.2==0) (a.2.2.2.2.2.2.2.1 != 0) Z) (M 1) (M 0)))))))))))))
def j3b[LP](a:Tn60)(f:Tn55)(b:Tn49)(c:Tn26)(d:Tn66):O Int:=(j1k (f,b,c,d) a).bind λe=>M e
def j0L[LP](m:Tn55)(e:Tn49)(i:Tn26)(g:Tn66)(f:Tn61)(l c:K)(n:Y (U×Ç)):O ((Tn55×Tn49×Tn26×Tn66×Tn61×K×K×(Y (U×Ç))) ⊕ (K ⊕ È)):=cond (N (c<l)) (cond (inR c f.length) (let a:=L f c.toNat (J,0,(0,0),0,0,[],[],0,0)
 (j3a a).bind λk=>(j3B k n).bind λb=>cond (b.1 != 0) (M (.inr (.inl b.1))) ((j3b a m e i g).bind λd=>cond (d != 0) (M (.inr (.inl d))) (let j:=w64 (c+1)
 M (.inl (m,e,i,g,f,l,j,b.2))))) X) (M (.inr (.inr ())))
def j1c[LP]:=lp8 j0L
abbrev j3i:=eq8 j0L j1c
def j2k[LP](e:Tn61)(d:Tn55)(b:Tn49)(a:Tn26)(c:Tn66):O Int:=
 let g:(Y (U×Ç)):=[]
 let f:=S e.length
 (j1c d b a c e f 0 g).bind λi=>sumC i (λj=>M j) (λk=>M 0)
def j3m[LP](a:Tn24):O Int:=cond (cond (a.1 != 2) (a.2.2.1 != 0) Z) (M 1) (cond (cond (a.1==2) (a.2.1==a.2.2.1) Z) (M 4) (let c:=w64 (É a.2.2.2.2 86400)
 cond (cond (N (a.2.2.2.1<0)) Á (N (a.2.2.2.2<0))) (M 1) ((j2P c).bind λb=>cond (!b) (M 1) (cond (N (a.2.2.2.1>=a.2.2.2.2)) (M 6) (M 0)))))
def j1a[LP](c:Tn72)(a:Tn24):O Int:=
 let f:=S c.2.1.length
 (j2O a.1 0 2).bind λd=>cond (!d) (M 1) ((j12 a.2.1 f).bind λb=>cond (cond (!b) (!(cond (a.1==1) (a.2.1==(-1)) Z)) Z) (cond (cond (!b) (!(cond (a.1==1) (a.2.1==(-1)) Z)) Z) (M 3) (j3m a)) (cond (a.1==2) ((j12 a.2.2.1 f).bind λe=>cond (!e) (M 3) (j3m a)) (j3m a)))
def j0V[LP](f:Tn29)(j b:K)(k:Tn55)(e:Tn49)(d:Tn26)(g:Tn66):O ((Tn29×K×K×Tn55×Tn49×Tn26×Tn66) ⊕ (K ⊕ È)):=cond (N (b<j)) (cond (inR b f.length) (let a:=L f b.toNat (0,0,0,0,0)
 (j1a (k,e,d,g) a).bind λc=>cond (c != 0) (M (.inr (.inl c))) (let i:=w64 (b+1)
 M (.inl (f,j,i,k,e,d,g)))) X) (M (.inr (.inr ())))
def j22[LP]:=lp7 j0V
abbrev j3L:=eq7 j0V j22
def j1u[LP](a:Tn72)(b:Tn65):O Int:=
 let f:=S b.2.1.length
 let d:=S b.2.2.length
 cond (cond (N (f>6)) Á (N (d>48))) (M 5) ((j2k b.2.1 a.1 a.2.1 a.2.2.1 a.2.2.2).bind λc=>cond (c != 0) (M c) (let e:=S b.2.2.length
 (j22 b.2.2 e 0 a.1 a.2.1 a.2.2.1 a.2.2.2).bind λg=>sumC g (λi=>M i) (λj=>M 0)))
def j6d[LP](a:Tn65)(e:Tn55)(b:Tn49)(c:Tn26)(d:Tn66):O Int:=(j1u (e,b,c,d) a).bind λf=>M f
def j0D[LP](m:Tn55)(e:Tn49)(i:Tn26)(g f:Tn66)(l c:K)(n:Y (U×Ç)):O ((Tn55×Tn49×Tn26×Tn66×Tn66×K×K×(Y (U×Ç))) ⊕ (K ⊕ È)):=cond (N (c<l)) (cond (inR c f.length) (let a:=L f c.toNat (J,[],[])
 (j6c a).bind λk=>(j3B k n).bind λb=>cond (b.1 != 0) (M (.inr (.inl b.1))) ((j6d a m e i g).bind λd=>cond (d != 0) (M (.inr (.inl d))) (let j:=w64 (c+1)
 M (.inl (m,e,i,g,f,l,j,b.2))))) X) (M (.inr (.inr ())))
def j0W[LP]:=lp8 j0D
abbrev j2F:=eq8 j0D j0W
def j2I[LP](e:Tn66)(d:Tn55)(b:Tn49)(a:Tn26)(c:Tn66):O Int:=
 let g:(Y (U×Ç)):=[]
 let f:=S e.length
 (j0W d b a c e f 0 g).bind λi=>sumC i (λj=>M j) (λk=>M 0)
def j2X[LP](g:Tn49)(i f:K)(j:Tn55)(c:Tn49)(d:Tn26)(e:Tn66)(r:Y (U×Ç)):O ((Tn49×K×K×Tn55×Tn49×Tn26×Tn66×(Y (U×Ç))) ⊕ (K ⊕ (Tn55×Tn49×Tn26×Tn66))):=cond (N (f<i)) (cond (inR f g.length) (let a:=L g f.toNat (J,0,[],0,0,Z)
 (j3B a.1 r).bind λb=>let q:Bool:=Â a.1==Â (À #[110,111,98,111,100,121])
 cond q (cond ((2:K)==0) ((j3K (j,c,d,e) a).bind λl=>cond (l != 0) (M (.inr (.inl l))) (let o:=w64 (f+1)
 M (.inl (g,i,o,j,c,d,e,b.2)))) (cond ((2:K) != 0) (M (.inr (.inl 2))) (let n:=w64 (f+1)
 M (.inl (g,i,n,j,c,d,e,b.2))))) (cond (b.1==0) ((j3K (j,c,d,e) a).bind λk=>cond (k != 0) (M (.inr (.inl k))) (let p:=w64 (f+1)
 M (.inl (g,i,p,j,c,d,e,b.2)))) (cond (b.1 != 0) (M (.inr (.inl b.1))) (let m:=w64 (f+1)
 M (.inl (g,i,m,j,c,d,e,b.2)))))) X) (M (.inr (.inr (j,c,d,e))))
def j6e[LP]:=lp8 j2X
abbrev j8R:=eq8 j2X j6e
def j03[LP](a:Tn72):O Int:=
 let k:=S a.1.length
 let f:=S a.2.1.length
 let e:=S a.2.2.1.length
 let g:Bool:=cond (cond (N (k>16)) Á (N (f>32))) Á (N (e>8))
 let i:=S a.2.2.2.length
 cond (cond g Á (N (i>12))) (M 5) ((j2K a.1).bind λd=>cond (d != 0) (M d) (let j:(Y (U×Ç)):=[]
 let m:=S a.2.1.length
 (j6e a.2.1 m 0 a.1 a.2.1 a.2.2.1 a.2.2.2 j).bind λn=>sumC n (λo=>M o) (λb=>(j1C b.2.2.1 b.1 b.2.1 b.2.2.1 b.2.2.2).bind λc=>cond (c != 0) (M c) ((j2I b.2.2.2 b.1 b.2.1 b.2.2.1 b.2.2.2).bind λl=>M l))))
def j2Q(b:Tn72)(a:K):O Bool:=
 let c:=S b.2.2.2.length
 M (cond (N (a>=0)) (N (a<c)) Z)
def j0R(a:Tn55):O Tn55:=cond (N (W ([]:Y (Tn53))+W a<=j06)) (M (([]:Y (Tn53))++a)) X
def j0E(a:Tn49):O Tn49:=cond (N (W ([]:Y (Tn45))+W a<=j06)) (M (([]:Y (Tn45))++a)) X
def j0s(a:Tn26):O Tn26:=cond (N (W ([]:Y (Tn19))+W a<=j06)) (M (([]:Y (Tn19))++a)) X
def j0t(a:Tn66):O Tn66:=cond (N (W ([]:Y (Tn65))+W a<=j06)) (M (([]:Y (Tn65))++a)) X
def j0u(a:Tn43):O Tn43:=cond (N (W ([]:Y (Tn38))+W a<=j06)) (M (([]:Y (Tn38))++a)) X
def j0a(a:Tn2):O Tn2:=cond (N (W ([]:Y (K×K))+W a<=j06)) (M (([]:Y (K×K))++a)) X
def j0B(a:Y K):O (Y K):=cond (N (W ([]:Y (K))+W a<=j06)) (M (([]:Y (K))++a)) X
def j04(a:Tn61):O Tn61:=cond (N (W ([]:Y (Tn60))+W a<=j06)) (M (([]:Y (Tn60))++a)) X
def j05(a:Tn29):O Tn29:=cond (N (W ([]:Y (Tn24))+W a<=j06)) (M (([]:Y (Tn24))++a)) X
def j3Y(k b:K)(a:Tn55)(d:Tn49)(c:Tn26)(e:Tn66):O ((K×K×Tn55×Tn49×Tn26×Tn66) ⊕ (Tn55×Tn49×Tn26×Tn66)):=cond (N (b<k)) (cond (inR b a.length) (let j:=(L a b.toNat (J,0,[])).2.2
 (j0u j).bind λf=>cond (inR b a.length) (let g:Tn55:=Ã a b.toNat ((L a b.toNat (J,0,[])).1,(L a b.toNat (J,0,[])).2.1,f)
 let i:=w64 (b+1)
 M (.inl (k,i,g,d,c,e))) X) X) (M (.inr (a,d,c,e)))
def jav[LP]:=lp6 j3Y
abbrev jbc:=eq6 j3Y jav
def j3Z(k b:K)(e:Tn55)(a:Tn49)(c:Tn26)(d:Tn66):O ((K×K×Tn55×Tn49×Tn26×Tn66) ⊕ (Tn55×Tn49×Tn26×Tn66)):=cond (N (b<k)) (cond (inR b a.length) (let f:=(L a b.toNat (J,0,[],0,0,Z)).2.2.1
 (j0a f).bind λi=>cond (inR b a.length) (let j:Tn49:=Ã a b.toNat ((L a b.toNat (J,0,[],0,0,Z)).1,(L a b.toNat (J,0,[],0,0,Z)).2.1,i,(L a b.toNat (J,0,[],0,0,Z)).2.2.2.1,(L a b.toNat (J,0,[],0,0,Z)).2.2.2.2.1,(L a b.toNat (J,0,[],0,0,Z)).2.2.2.2.2)
 let g:=w64 (b+1)
 M (.inl (k,g,e,j,c,d))) X) X) (M (.inr (e,a,c,d)))
def jaw[LP]:=lp6 j3Z
abbrev jbd:=eq6 j3Z jaw
def j40(k b:K)(e:Tn55)(c:Tn49)(a:Tn26)(d:Tn66):O ((K×K×Tn55×Tn49×Tn26×Tn66) ⊕ (Tn55×Tn49×Tn26×Tn66)):=cond (N (b<k)) (cond (inR b a.length) (let g:=(L a b.toNat (J,0,[])).2.2
 (j0B g).bind λj=>cond (inR b a.length) (let i:Tn26:=Ã a b.toNat ((L a b.toNat (J,0,[])).1,(L a b.toNat (J,0,[])).2.1,j)
 let f:=w64 (b+1)
 M (.inl (k,f,e,c,i,d))) X) X) (M (.inr (e,c,a,d)))
def jax[LP]:=lp6 j40
abbrev jbe:=eq6 j40 jax
def j41(q r m a:K)(d:U)(o:Tn55)(g:Tn49)(f:Tn26)(b:Tn61)(e:Tn29):O ((K×K×K×K×U×Tn55×Tn49×Tn26×Tn61×Tn29) ⊕ (K×K×U×Tn55×Tn49×Tn26×Tn61×Tn29)):=cond (N (a<m)) (cond (inR a b.length) (let n:=(L b a.toNat (J,0,(0,0),0,0,[],[],0,0)).2.2.2.2.2.1
 (j0B n).bind λk=>cond (inR a b.length) (let j:=(L b a.toNat (J,0,(0,0),0,0,[],[],0,0)).2.2.2.2.2.2.1
 (j0a j).bind λl=>cond (inR a b.length) (let c:Tn61:=Ã b a.toNat ((L b a.toNat (J,0,(0,0),0,0,[],[],0,0)).1,(L b a.toNat (J,0,(0,0),0,0,[],[],0,0)).2.1,((L b a.toNat (J,0,(0,0),0,0,[],[],0,0)).2.2.1.1,(L b a.toNat (J,0,(0,0),0,0,[],[],0,0)).2.2.1.2),(L b a.toNat (J,0,(0,0),0,0,[],[],0,0)).2.2.2.1,(L b a.toNat (J,0,(0,0),0,0,[],[],0,0)).2.2.2.2.1,k,(L b a.toNat (J,0,(0,0),0,0,[],[],0,0)).2.2.2.2.2.2.1,(L b a.toNat (J,0,(0,0),0,0,[],[],0,0)).2.2.2.2.2.2.2.1,(L b a.toNat (J,0,(0,0),0,0,[],[],0,0)).2.2.2.2.2.2.2.2)
 cond (inR a c.length) (let p:Tn61:=Ã c a.toNat ((L c a.toNat (J,0,(0,0),0,0,[],[],0,0)).1,(L c a.toNat (J,0,(0,0),0,0,[],[],0,0)).2.1,((L c a.toNat (J,0,(0,0),0,0,[],[],0,0)).2.2.1.1,(L c a.toNat (J,0,(0,0),0,0,[],[],0,0)).2.2.1.2),(L c a.toNat (J,0,(0,0),0,0,[],[],0,0)).2.2.2.1,(L c a.toNat (J,0,(0,0),0,0,[],[],0,0)).2.2.2.2.1,(L c a.toNat (J,0,(0,0),0,0,[],[],0,0)).2.2.2.2.2.1,l,(L c a.toNat (J,0,(0,0),0,0,[],[],0,0)).2.2.2.2.2.2.2.1,(L c a.toNat (J,0,(0,0),0,0,[],[],0,0)).2.2.2.2.2.2.2.2)
 let i:=w64 (a+1)
 M (.inl (q,r,m,i,d,o,g,f,p,e))) X) X) X) X) (M (.inr (q,r,d,o,g,f,b,e)))
def jay[LP]:=c8 c2 (LP.lp (u8 unc2 j41))
abbrev jbf:=eq10 j41 jay
def j8F[LP](b:Tn72):O (Tn55×Tn49×Tn26×U×Tn61×Tn29):=(j0R b.1).bind λi=>(j0E b.2.1).bind λs=>(j0s b.2.2.1).bind λu=>(j0t b.2.2.2).bind λp=>let n:=S i.length
 (jav n 0 i s u p).bind λc=>let o:=S c.2.1.length
 (jaw o 0 c.1 c.2.1 c.2.2.1 c.2.2.2).bind λe=>let t:=S e.2.2.1.length
 (jax t 0 e.1 e.2.1 e.2.2.1 e.2.2.2).bind λd=>cond (Nat.beq d.2.2.2.length 1) (let k:=L d.2.2.2 0 (J,[],[])
 (j04 k.2.1).bind λj=>(j05 k.2.2).bind λm=>let l:=S j.length
 (jay 1 0 l 0 k.1 d.1 d.2.1 d.2.2.1 j m).bind λa=>let f:=w64 (a.2.1+1)
 cond (N (f<a.1)) (cond (inR f 1) ((j04 a.2.2.2.2.2.2.1).bind λg=>(j05 a.2.2.2.2.2.2.2).bind λq=>let r:=S g.length
 X) X) (M (a.2.2.2.1,a.2.2.2.2.1,a.2.2.2.2.2.1,a.2.2.1,a.2.2.2.2.2.2.1,a.2.2.2.2.2.2.2))) X
def j4q[LP](a:Tn72)(b:K):O (K×Tn55×Tn49×Tn26×U×Tn61×Tn29):=(j03 a).bind λe=>cond (e != 0) (X) ((j2Q a b).bind λd=>cond (!d) (X) ((j8F a).bind λc=>M (0,c.1,c.2.1,c.2.2.1,c.2.2.2.1,c.2.2.2.2.1,c.2.2.2.2.2)))
def j3E[LP](a:Tn72)(b:K):O (Tn72×K):=(j03 a).bind λd=>cond (d != 0) (M ((([]:Tn55),([]:Tn49),([]:Tn26),([]:Tn66)),8)) ((j2Q a b).bind λc=>cond (!c) (M ((([]:Tn55),([]:Tn49),([]:Tn26),([]:Tn66)),3)) (X))
def j3M[LP](d:Tn72)(a:K)(c:Tn24):O (Tn72×K):=
 orB (j4q d a) (λb=>cond (b.1 != 0) (M ((([]:Tn55),([]:Tn49),([]:Tn26),([]:Tn66)),b.1)) (cond (inR a 1) (let f:Tn29:=[c]
 cond (N (W b.2.2.2.2.2.2+W f<=j06)) (let g:Tn29:=b.2.2.2.2.2.2++f
 (j03 (b.2.1,b.2.2.1,b.2.2.2.1,[(b.2.2.2.2.1,b.2.2.2.2.2.1,g)])).bind λi=>cond (i != 0) (M ((([]:Tn55),([]:Tn49),([]:Tn26),([]:Tn66)),i)) (M ((b.2.1,b.2.2.1,b.2.2.2.1,[(b.2.2.2.2.1,b.2.2.2.2.2.1,g)]),0))) X) X)) ((j3E d a).bind λe=>cond (e.2 != 0) (M ((([]:Tn55),([]:Tn49),([]:Tn26),([]:Tn66)),e.2)) (cond (inR a e.1.2.2.2.length) (let k:=L e.1.2.2.2 a.toNat (J,[],[])
 let j:Tn29:=[c]
 X) X))
def j42(k b:K)(a:Tn55)(d:Tn49)(c:Tn26)(e:Tn66):O ((K×K×Tn55×Tn49×Tn26×Tn66) ⊕ (Tn55×Tn49×Tn26×Tn66)):=cond (N (b<k)) (cond (inR b a.length) (let j:=(L a b.toNat (J,0,[])).2.2
 (j0u j).bind λf=>cond (inR b a.length) (let g:Tn55:=Ã a b.toNat ((L a b.toNat (J,0,[])).1,(L a b.toNat (J,0,[])).2.1,f)
 let i:=w64 (b+1)
 M (.inl (k,i,g,d,c,e))) X) X) (M (.inr (a,d,c,e)))
def jaz[LP]:=lp6 j42
abbrev jbg:=eq6 j42 jaz
def j43(k b:K)(e:Tn55)(a:Tn49)(c:Tn26)(d:Tn66):O ((K×K×Tn55×Tn49×Tn26×Tn66) ⊕ (Tn55×Tn49×Tn26×Tn66)):=cond (N (b<k)) (cond (inR b a.length) (let f:=(L a b.toNat (J,0,[],0,0,Z)).2.2.1
 (j0a f).bind λi=>cond (inR b a.length) (let j:Tn49:=Ã a b.toNat ((L a b.toNat (J,0,[],0,0,Z)).1,(L a b.toNat (J,0,[],0,0,Z)).2.1,i,(L a b.toNat (J,0,[],0,0,Z)).2.2.2.1,(L a b.toNat (J,0,[],0,0,Z)).2.2.2.2.1,(L a b.toNat (J,0,[],0,0,Z)).2.2.2.2.2)
 let g:=w64 (b+1)
 M (.inl (k,g,e,j,c,d))) X) X) (M (.inr (e,a,c,d)))
def jaA[LP]:=lp6 j43
abbrev jbh:=eq6 j43 jaA
def j44(k b:K)(e:Tn55)(c:Tn49)(a:Tn26)(d:Tn66):O ((K×K×Tn55×Tn49×Tn26×Tn66) ⊕ (Tn55×Tn49×Tn26×Tn66)):=cond (N (b<k)) (cond (inR b a.length) (let g:=(L a b.toNat (J,0,[])).2.2
 (j0B g).bind λj=>cond (inR b a.length) (let i:Tn26:=Ã a b.toNat ((L a b.toNat (J,0,[])).1,(L a b.toNat (J,0,[])).2.1,j)
 let f:=w64 (b+1)
 M (.inl (k,f,e,c,i,d))) X) X) (M (.inr (e,c,a,d)))
def jaB[LP]:=lp6 j44
abbrev jbi:=eq6 j44 jaB
def j45(t u p a:K)(g d:U)(f:Tn61)(e:Tn29)(r:Tn55)(n:Tn49)(k:Tn26)(b:Tn61)(i:Tn29):O ((K×K×K×K×U×U×Tn61×Tn29×Tn55×Tn49×Tn26×Tn61×Tn29) ⊕ (K×K×U×U×Tn61×Tn29×Tn55×Tn49×Tn26×Tn61×Tn29)):=cond (N (a<p)) (cond (inR a b.length) (let q:=(L b a.toNat (J,0,(0,0),0,0,[],[],0,0)).2.2.2.2.2.1
 (j0B q).bind λo=>cond (inR a b.length) (let m:=(L b a.toNat (J,0,(0,0),0,0,[],[],0,0)).2.2.2.2.2.2.1
 (j0a m).bind λj=>cond (inR a b.length) (let c:Tn61:=Ã b a.toNat ((L b a.toNat (J,0,(0,0),0,0,[],[],0,0)).1,(L b a.toNat (J,0,(0,0),0,0,[],[],0,0)).2.1,((L b a.toNat (J,0,(0,0),0,0,[],[],0,0)).2.2.1.1,(L b a.toNat (J,0,(0,0),0,0,[],[],0,0)).2.2.1.2),(L b a.toNat (J,0,(0,0),0,0,[],[],0,0)).2.2.2.1,(L b a.toNat (J,0,(0,0),0,0,[],[],0,0)).2.2.2.2.1,o,(L b a.toNat (J,0,(0,0),0,0,[],[],0,0)).2.2.2.2.2.2.1,(L b a.toNat (J,0,(0,0),0,0,[],[],0,0)).2.2.2.2.2.2.2.1,(L b a.toNat (J,0,(0,0),0,0,[],[],0,0)).2.2.2.2.2.2.2.2)
 cond (inR a c.length) (let s:Tn61:=Ã c a.toNat ((L c a.toNat (J,0,(0,0),0,0,[],[],0,0)).1,(L c a.toNat (J,0,(0,0),0,0,[],[],0,0)).2.1,((L c a.toNat (J,0,(0,0),0,0,[],[],0,0)).2.2.1.1,(L c a.toNat (J,0,(0,0),0,0,[],[],0,0)).2.2.1.2),(L c a.toNat (J,0,(0,0),0,0,[],[],0,0)).2.2.2.1,(L c a.toNat (J,0,(0,0),0,0,[],[],0,0)).2.2.2.2.1,(L c a.toNat (J,0,(0,0),0,0,[],[],0,0)).2.2.2.2.2.1,j,(L c a.toNat (J,0,(0,0),0,0,[],[],0,0)).2.2.2.2.2.2.2.1,(L c a.toNat (J,0,(0,0),0,0,[],[],0,0)).2.2.2.2.2.2.2.2)
 let l:=w64 (a+1)
 M (.inl (t,u,p,l,g,d,f,e,r,n,k,s,i))) X) X) X) X) (M (.inr (t,u,g,d,f,e,r,n,k,b,i)))
def jaC[LP]:=c8 c5 (LP.lp (u8 unc5 j45))
abbrev jbj:=eq13 j45 jaC
def j3n(t u q a:K)(g d:U)(r:Tn55)(o:Tn49)(m:Tn26)(f:Tn61)(i:Tn29)(b:Tn61)(e:Tn29):O ((K×K×K×K×U×U×Tn55×Tn49×Tn26×Tn61×Tn29×Tn61×Tn29) ⊕ (K×K×U×U×Tn55×Tn49×Tn26×Tn61×Tn29×Tn61×Tn29)):=cond (N (a<q)) (cond (inR a b.length) (let k:=(L b a.toNat (J,0,(0,0),0,0,[],[],0,0)).2.2.2.2.2.1
 (j0B k).bind λn=>cond (inR a b.length) (let p:=(L b a.toNat (J,0,(0,0),0,0,[],[],0,0)).2.2.2.2.2.2.1
 (j0a p).bind λj=>cond (inR a b.length) (let c:Tn61:=Ã b a.toNat ((L b a.toNat (J,0,(0,0),0,0,[],[],0,0)).1,(L b a.toNat (J,0,(0,0),0,0,[],[],0,0)).2.1,((L b a.toNat (J,0,(0,0),0,0,[],[],0,0)).2.2.1.1,(L b a.toNat (J,0,(0,0),0,0,[],[],0,0)).2.2.1.2),(L b a.toNat (J,0,(0,0),0,0,[],[],0,0)).2.2.2.1,(L b a.toNat (J,0,(0,0),0,0,[],[],0,0)).2.2.2.2.1,n,(L b a.toNat (J,0,(0,0),0,0,[],[],0,0)).2.2.2.2.2.2.1,(L b a.toNat (J,0,(0,0),0,0,[],[],0,0)).2.2.2.2.2.2.2.1,(L b a.toNat (J,0,(0,0),0,0,[],[],0,0)).2.2.2.2.2.2.2.2)
 cond (inR a c.length) (let s:Tn61:=Ã c a.toNat ((L c a.toNat (J,0,(0,0),0,0,[],[],0,0)).1,(L c a.toNat (J,0,(0,0),0,0,[],[],0,0)).2.1,((L c a.toNat (J,0,(0,0),0,0,[],[],0,0)).2.2.1.1,(L c a.toNat (J,0,(0,0),0,0,[],[],0,0)).2.2.1.2),(L c a.toNat (J,0,(0,0),0,0,[],[],0,0)).2.2.2.1,(L c a.toNat (J,0,(0,0),0,0,[],[],0,0)).2.2.2.2.1,(L c a.toNat (J,0,(0,0),0,0,[],[],0,0)).2.2.2.2.2.1,j,(L c a.toNat (J,0,(0,0),0,0,[],[],0,0)).2.2.2.2.2.2.2.1,(L c a.toNat (J,0,(0,0),0,0,[],[],0,0)).2.2.2.2.2.2.2.2)
 let l:=w64 (a+1)
 M (.inl (t,u,q,l,g,d,r,o,m,f,i,s,e))) X) X) X) X) (M (.inr (t,u,g,d,r,o,m,f,i,b,e)))
def j6K[LP](m n k j:K)(e a:U)(l:Tn55)(i:Tn49)(g:Tn26)(d:Tn61)(f:Tn29)(b:Tn61)(c:Tn29):O (K×K×U×U×Tn55×Tn49×Tn26×Tn61×Tn29×Tn61×Tn29):=LP.lp (u8 unc5 j3n) (m,n,k,j,e,a,l,i,g,d,f,b,c)
theorem j9t(m n k j e a l i g d f b c):j6K m n k j e a l i g d f b c=lpK (j3n m n k j e a l i g d f b c) (λh=>j6K h.1 h.2.1 h.2.2.1 h.2.2.2.1 h.2.2.2.2.1 h.2.2.2.2.2.1 h.2.2.2.2.2.2.1 h.2.2.2.2.2.2.2.1 h.2.2.2.2.2.2.2.2.1 h.2.2.2.2.2.2.2.2.2.1 h.2.2.2.2.2.2.2.2.2.2.1 h.2.2.2.2.2.2.2.2.2.2.2.1 h.2.2.2.2.2.2.2.2.2.2.2.2):=j0j _ _
def j8G[LP](d:Tn72):O (Tn55×Tn49×Tn26×U×U×Tn61×Tn29×Tn61×Tn29):=(j0R d.1).bind λq=>(j0E d.2.1).bind λa0=>(j0s d.2.2.1).bind λa4=>(j0t d.2.2.2).bind λx=>let v:=S q.length
 (jaz v 0 q a0 a4 x).bind λj=>let w:=S j.2.1.length
 (jaA w 0 j.1 j.2.1 j.2.2.1 j.2.2.2).bind λk=>let a2:=S k.2.2.1.length
 (jaB a2 0 k.1 k.2.1 k.2.2.1 k.2.2.2).bind λi=>cond (Nat.beq i.2.2.2.length 2) (let s:=L i.2.2.2 0 (J,[],[])
 let f:=L i.2.2.2 1 (J,[],[])
 (j04 s.2.1).bind λr=>(j05 s.2.2).bind λu=>let t:=S r.length
 (jaC 2 0 t 0 s.1 f.1 f.2.1 f.2.2 i.1 i.2.1 i.2.2.1 r u).bind λb=>let e:=w64 (b.2.1+1)
 cond (N (e<b.1)) (cond (e==0) ((j04 b.2.2.2.2.2.2.2.2.2.1).bind λp=>(j05 b.2.2.2.2.2.2.2.2.2.2).bind λa5=>let z:=S p.length
 X) (cond (e==1) ((j04 b.2.2.2.2.1).bind λg=>(j05 b.2.2.2.2.2.1).bind λl=>let m:=S g.length
 (j6K b.1 e m 0 b.2.2.1 b.2.2.2.1 b.2.2.2.2.2.2.1 b.2.2.2.2.2.2.2.1 b.2.2.2.2.2.2.2.2.1 b.2.2.2.2.2.2.2.2.2.1 b.2.2.2.2.2.2.2.2.2.2 g l).bind λa=>let c:=w64 (a.2.1+1)
 cond (N (c<a.1)) (cond (c==0) ((j04 a.2.2.2.2.2.2.2.1).bind λo=>(j05 a.2.2.2.2.2.2.2.2.1).bind λa6=>let a3:=S o.length
 X) (cond (c==1) ((j04 a.2.2.2.2.2.2.2.2.2.1).bind λn=>(j05 a.2.2.2.2.2.2.2.2.2.2).bind λy=>let a1:=S n.length
 X) X)) (M (a.2.2.2.2.1,a.2.2.2.2.2.1,a.2.2.2.2.2.2.1,a.2.2.1,a.2.2.2.1,a.2.2.2.2.2.2.2.1,a.2.2.2.2.2.2.2.2.1,a.2.2.2.2.2.2.2.2.2.1,a.2.2.2.2.2.2.2.2.2.2))) X)) (X)) X
def j7s[LP](a:Tn72)(c:K):O (K×Tn55×Tn49×Tn26×U×U×Tn61×Tn29×Tn61×Tn29):=(j03 a).bind λe=>cond (e != 0) (X) ((j2Q a c).bind λd=>cond (!d) (X) ((j8G a).bind λb=>M (0,b.1,b.2.1,b.2.2.1,b.2.2.2.1,b.2.2.2.2.1,b.2.2.2.2.2.1,b.2.2.2.2.2.2.1,b.2.2.2.2.2.2.2.1,b.2.2.2.2.2.2.2.2)))
def j4l[LP](d:Tn72)(b:K)(c:Tn24):O (Tn72×K):=
 orB (j3E d b) (λg=>cond (g.2 != 0) (M ((([]:Tn55),([]:Tn49),([]:Tn26),([]:Tn66)),g.2)) (cond (inR b g.1.2.2.2.length) (let n:=L g.1.2.2.2 b.toNat (J,[],[])
 let m:Tn29:=[c]
 X) X)) ((j7s d b).bind λa=>cond (a.1 != 0) (M ((([]:Tn55),([]:Tn49),([]:Tn26),([]:Tn66)),a.1)) (cond (b==0) (let f:Tn29:=[c]
 cond (N (W a.2.2.2.2.2.2.2.1+W f<=j06)) (let e:Tn29:=a.2.2.2.2.2.2.2.1++f
 (j03 (a.2.1,a.2.2.1,a.2.2.2.1,[(a.2.2.2.2.1,a.2.2.2.2.2.2.1,e),(a.2.2.2.2.2.1,a.2.2.2.2.2.2.2.2)])).bind λj=>cond (j != 0) (M ((([]:Tn55),([]:Tn49),([]:Tn26),([]:Tn66)),j)) (M ((a.2.1,a.2.2.1,a.2.2.2.1,[(a.2.2.2.2.1,a.2.2.2.2.2.2.1,e),(a.2.2.2.2.2.1,a.2.2.2.2.2.2.2.2)]),0))) X) (cond (b==1) (let i:Tn29:=[c]
 cond (N (W a.2.2.2.2.2.2.2.2.2+W i<=j06)) (let k:Tn29:=a.2.2.2.2.2.2.2.2.2++i
 (j03 (a.2.1,a.2.2.1,a.2.2.2.1,[(a.2.2.2.2.1,a.2.2.2.2.2.2.1,a.2.2.2.2.2.2.2.1),(a.2.2.2.2.2.1,a.2.2.2.2.2.2.2.2.1,k)])).bind λl=>cond (l != 0) (M ((([]:Tn55),([]:Tn49),([]:Tn26),([]:Tn66)),l)) (M ((a.2.1,a.2.2.1,a.2.2.2.1,[(a.2.2.2.2.1,a.2.2.2.2.2.2.1,a.2.2.2.2.2.2.2.1),(a.2.2.2.2.2.1,a.2.2.2.2.2.2.2.2.1,k)]),0))) X) X)))
def j46(k b:K)(a:Tn55)(d:Tn49)(c:Tn26)(e:Tn66):O ((K×K×Tn55×Tn49×Tn26×Tn66) ⊕ (Tn55×Tn49×Tn26×Tn66)):=cond (N (b<k)) (cond (inR b a.length) (let j:=(L a b.toNat (J,0,[])).2.2
 (j0u j).bind λf=>cond (inR b a.length) (let g:Tn55:=Ã a b.toNat ((L a b.toNat (J,0,[])).1,(L a b.toNat (J,0,[])).2.1,f)
 let i:=w64 (b+1)
 M (.inl (k,i,g,d,c,e))) X) X) (M (.inr (a,d,c,e)))
def jaD[LP]:=lp6 j46
abbrev jbk:=eq6 j46 jaD
def j47(k b:K)(e:Tn55)(a:Tn49)(c:Tn26)(d:Tn66):O ((K×K×Tn55×Tn49×Tn26×Tn66) ⊕ (Tn55×Tn49×Tn26×Tn66)):=cond (N (b<k)) (cond (inR b a.length) (let f:=(L a b.toNat (J,0,[],0,0,Z)).2.2.1
 (j0a f).bind λi=>cond (inR b a.length) (let j:Tn49:=Ã a b.toNat ((L a b.toNat (J,0,[],0,0,Z)).1,(L a b.toNat (J,0,[],0,0,Z)).2.1,i,(L a b.toNat (J,0,[],0,0,Z)).2.2.2.1,(L a b.toNat (J,0,[],0,0,Z)).2.2.2.2.1,(L a b.toNat (J,0,[],0,0,Z)).2.2.2.2.2)
 let g:=w64 (b+1)
 M (.inl (k,g,e,j,c,d))) X) X) (M (.inr (e,a,c,d)))
def jaE[LP]:=lp6 j47
abbrev jbl:=eq6 j47 jaE
def j48(k b:K)(e:Tn55)(c:Tn49)(a:Tn26)(d:Tn66):O ((K×K×Tn55×Tn49×Tn26×Tn66) ⊕ (Tn55×Tn49×Tn26×Tn66)):=cond (N (b<k)) (cond (inR b a.length) (let g:=(L a b.toNat (J,0,[])).2.2
 (j0B g).bind λj=>cond (inR b a.length) (let i:Tn26:=Ã a b.toNat ((L a b.toNat (J,0,[])).1,(L a b.toNat (J,0,[])).2.1,j)
 let f:=w64 (b+1)
 M (.inl (k,f,e,c,i,d))) X) X) (M (.inr (e,c,a,d)))
def jaF[LP]:=lp6 j48
abbrev jbm:=eq6 j48 jaF
def j49(w x s a:K)(k g:U)(j:Tn61)(i:Tn29)(d:U)(f:Tn61)(e:Tn29)(u:Tn55)(q:Tn49)(n:Tn26)(b:Tn61)(l:Tn29):O ((K×K×K×K×U×U×Tn61×Tn29×U×Tn61×Tn29×Tn55×Tn49×Tn26×Tn61×Tn29) ⊕ (K×K×U×U×Tn61×Tn29×U×Tn61×Tn29×Tn55×Tn49×Tn26×Tn61×Tn29)):=cond (N (a<s)) (cond (inR a b.length) (let t:=(L b a.toNat (J,0,(0,0),0,0,[],[],0,0)).2.2.2.2.2.1
 (j0B t).bind λr=>cond (inR a b.length) (let p:=(L b a.toNat (J,0,(0,0),0,0,[],[],0,0)).2.2.2.2.2.2.1
 (j0a p).bind λm=>cond (inR a b.length) (let c:Tn61:=Ã b a.toNat ((L b a.toNat (J,0,(0,0),0,0,[],[],0,0)).1,(L b a.toNat (J,0,(0,0),0,0,[],[],0,0)).2.1,((L b a.toNat (J,0,(0,0),0,0,[],[],0,0)).2.2.1.1,(L b a.toNat (J,0,(0,0),0,0,[],[],0,0)).2.2.1.2),(L b a.toNat (J,0,(0,0),0,0,[],[],0,0)).2.2.2.1,(L b a.toNat (J,0,(0,0),0,0,[],[],0,0)).2.2.2.2.1,r,(L b a.toNat (J,0,(0,0),0,0,[],[],0,0)).2.2.2.2.2.2.1,(L b a.toNat (J,0,(0,0),0,0,[],[],0,0)).2.2.2.2.2.2.2.1,(L b a.toNat (J,0,(0,0),0,0,[],[],0,0)).2.2.2.2.2.2.2.2)
 cond (inR a c.length) (let v:Tn61:=Ã c a.toNat ((L c a.toNat (J,0,(0,0),0,0,[],[],0,0)).1,(L c a.toNat (J,0,(0,0),0,0,[],[],0,0)).2.1,((L c a.toNat (J,0,(0,0),0,0,[],[],0,0)).2.2.1.1,(L c a.toNat (J,0,(0,0),0,0,[],[],0,0)).2.2.1.2),(L c a.toNat (J,0,(0,0),0,0,[],[],0,0)).2.2.2.1,(L c a.toNat (J,0,(0,0),0,0,[],[],0,0)).2.2.2.2.1,(L c a.toNat (J,0,(0,0),0,0,[],[],0,0)).2.2.2.2.2.1,m,(L c a.toNat (J,0,(0,0),0,0,[],[],0,0)).2.2.2.2.2.2.2.1,(L c a.toNat (J,0,(0,0),0,0,[],[],0,0)).2.2.2.2.2.2.2.2)
 let o:=w64 (a+1)
 M (.inl (w,x,s,o,k,g,j,i,d,f,e,u,q,n,v,l))) X) X) X) X) (M (.inr (w,x,k,g,j,i,d,f,e,u,q,n,b,l)))
def j8s[LP](p q n m:K)(i d:U)(f:Tn61)(e:Tn29)(a:U)(c:Tn61)(b:Tn29)(o:Tn55)(l:Tn49)(k:Tn26)(g:Tn61)(j:Tn29):O (K×K×U×U×Tn61×Tn29×U×Tn61×Tn29×Tn55×Tn49×Tn26×Tn61×Tn29):=LP.lp (u8 unc8 j49) (p,q,n,m,i,d,f,e,a,c,b,o,l,k,g,j)
theorem jbn(p q n m i d f e a c b o l k g j):j8s p q n m i d f e a c b o l k g j=lpK (j49 p q n m i d f e a c b o l k g j) (λh=>j8s h.1 h.2.1 h.2.2.1 h.2.2.2.1 h.2.2.2.2.1 h.2.2.2.2.2.1 h.2.2.2.2.2.2.1 h.2.2.2.2.2.2.2.1 h.2.2.2.2.2.2.2.2.1 h.2.2.2.2.2.2.2.2.2.1 h.2.2.2.2.2.2.2.2.2.2.1 h.2.2.2.2.2.2.2.2.2.2.2.1 h.2.2.2.2.2.2.2.2.2.2.2.2.1 h.2.2.2.2.2.2.2.2.2.2.2.2.2.1 h.2.2.2.2.2.2.2.2.2.2.2.2.2.2.1 h.2.2.2.2.2.2.2.2.2.2.2.2.2.2.2):=j0j _ _
def j3o(w x t a:K)(k e g:U)(f:Tn61)(d:Tn29)(u:Tn55)(r:Tn49)(p:Tn26)(j:Tn61)(l:Tn29)(b:Tn61)(i:Tn29):O ((K×K×K×K×U×U×U×Tn61×Tn29×Tn55×Tn49×Tn26×Tn61×Tn29×Tn61×Tn29) ⊕ (K×K×U×U×U×Tn61×Tn29×Tn55×Tn49×Tn26×Tn61×Tn29×Tn61×Tn29)):=cond (N (a<t)) (cond (inR a b.length) (let n:=(L b a.toNat (J,0,(0,0),0,0,[],[],0,0)).2.2.2.2.2.1
 (j0B n).bind λq=>cond (inR a b.length) (let s:=(L b a.toNat (J,0,(0,0),0,0,[],[],0,0)).2.2.2.2.2.2.1
 (j0a s).bind λm=>cond (inR a b.length) (let c:Tn61:=Ã b a.toNat ((L b a.toNat (J,0,(0,0),0,0,[],[],0,0)).1,(L b a.toNat (J,0,(0,0),0,0,[],[],0,0)).2.1,((L b a.toNat (J,0,(0,0),0,0,[],[],0,0)).2.2.1.1,(L b a.toNat (J,0,(0,0),0,0,[],[],0,0)).2.2.1.2),(L b a.toNat (J,0,(0,0),0,0,[],[],0,0)).2.2.2.1,(L b a.toNat (J,0,(0,0),0,0,[],[],0,0)).2.2.2.2.1,q,(L b a.toNat (J,0,(0,0),0,0,[],[],0,0)).2.2.2.2.2.2.1,(L b a.toNat (J,0,(0,0),0,0,[],[],0,0)).2.2.2.2.2.2.2.1,(L b a.toNat (J,0,(0,0),0,0,[],[],0,0)).2.2.2.2.2.2.2.2)
 cond (inR a c.length) (let v:Tn61:=Ã c a.toNat ((L c a.toNat (J,0,(0,0),0,0,[],[],0,0)).1,(L c a.toNat (J,0,(0,0),0,0,[],[],0,0)).2.1,((L c a.toNat (J,0,(0,0),0,0,[],[],0,0)).2.2.1.1,(L c a.toNat (J,0,(0,0),0,0,[],[],0,0)).2.2.1.2),(L c a.toNat (J,0,(0,0),0,0,[],[],0,0)).2.2.2.1,(L c a.toNat (J,0,(0,0),0,0,[],[],0,0)).2.2.2.2.1,(L c a.toNat (J,0,(0,0),0,0,[],[],0,0)).2.2.2.2.2.1,m,(L c a.toNat (J,0,(0,0),0,0,[],[],0,0)).2.2.2.2.2.2.2.1,(L c a.toNat (J,0,(0,0),0,0,[],[],0,0)).2.2.2.2.2.2.2.2)
 let o:=w64 (a+1)
 M (.inl (w,x,t,o,k,e,g,f,d,u,r,p,j,l,v,i))) X) X) X) X) (M (.inr (w,x,k,e,g,f,d,u,r,p,j,l,b,i)))
def j6L[LP](p q n m:K)(i b d:U)(c:Tn61)(a:Tn29)(o:Tn55)(l:Tn49)(k:Tn26)(g:Tn61)(j:Tn29)(e:Tn61)(f:Tn29):O (K×K×U×U×U×Tn61×Tn29×Tn55×Tn49×Tn26×Tn61×Tn29×Tn61×Tn29):=LP.lp (u8 unc8 j3o) (p,q,n,m,i,b,d,c,a,o,l,k,g,j,e,f)
theorem j9u(p q n m i b d c a o l k g j e f):j6L p q n m i b d c a o l k g j e f=lpK (j3o p q n m i b d c a o l k g j e f) (λh=>j6L h.1 h.2.1 h.2.2.1 h.2.2.2.1 h.2.2.2.2.1 h.2.2.2.2.2.1 h.2.2.2.2.2.2.1 h.2.2.2.2.2.2.2.1 h.2.2.2.2.2.2.2.2.1 h.2.2.2.2.2.2.2.2.2.1 h.2.2.2.2.2.2.2.2.2.2.1 h.2.2.2.2.2.2.2.2.2.2.2.1 h.2.2.2.2.2.2.2.2.2.2.2.2.1 h.2.2.2.2.2.2.2.2.2.2.2.2.2.1 h.2.2.2.2.2.2.2.2.2.2.2.2.2.2.1 h.2.2.2.2.2.2.2.2.2.2.2.2.2.2.2):=j0j _ _
def j3p(w x t a:K)(j d e:U)(u:Tn55)(s:Tn49)(q:Tn26)(i:Tn61)(k:Tn29)(g:Tn61)(f:Tn29)(b:Tn61)(l:Tn29):O ((K×K×K×K×U×U×U×Tn55×Tn49×Tn26×Tn61×Tn29×Tn61×Tn29×Tn61×Tn29) ⊕ (K×K×U×U×U×Tn55×Tn49×Tn26×Tn61×Tn29×Tn61×Tn29×Tn61×Tn29)):=cond (N (a<t)) (cond (inR a b.length) (let n:=(L b a.toNat (J,0,(0,0),0,0,[],[],0,0)).2.2.2.2.2.1
 (j0B n).bind λm=>cond (inR a b.length) (let r:=(L b a.toNat (J,0,(0,0),0,0,[],[],0,0)).2.2.2.2.2.2.1
 (j0a r).bind λp=>cond (inR a b.length) (let c:Tn61:=Ã b a.toNat ((L b a.toNat (J,0,(0,0),0,0,[],[],0,0)).1,(L b a.toNat (J,0,(0,0),0,0,[],[],0,0)).2.1,((L b a.toNat (J,0,(0,0),0,0,[],[],0,0)).2.2.1.1,(L b a.toNat (J,0,(0,0),0,0,[],[],0,0)).2.2.1.2),(L b a.toNat (J,0,(0,0),0,0,[],[],0,0)).2.2.2.1,(L b a.toNat (J,0,(0,0),0,0,[],[],0,0)).2.2.2.2.1,m,(L b a.toNat (J,0,(0,0),0,0,[],[],0,0)).2.2.2.2.2.2.1,(L b a.toNat (J,0,(0,0),0,0,[],[],0,0)).2.2.2.2.2.2.2.1,(L b a.toNat (J,0,(0,0),0,0,[],[],0,0)).2.2.2.2.2.2.2.2)
 cond (inR a c.length) (let v:Tn61:=Ã c a.toNat ((L c a.toNat (J,0,(0,0),0,0,[],[],0,0)).1,(L c a.toNat (J,0,(0,0),0,0,[],[],0,0)).2.1,((L c a.toNat (J,0,(0,0),0,0,[],[],0,0)).2.2.1.1,(L c a.toNat (J,0,(0,0),0,0,[],[],0,0)).2.2.1.2),(L c a.toNat (J,0,(0,0),0,0,[],[],0,0)).2.2.2.1,(L c a.toNat (J,0,(0,0),0,0,[],[],0,0)).2.2.2.2.1,(L c a.toNat (J,0,(0,0),0,0,[],[],0,0)).2.2.2.2.2.1,p,(L c a.toNat (J,0,(0,0),0,0,[],[],0,0)).2.2.2.2.2.2.2.1,(L c a.toNat (J,0,(0,0),0,0,[],[],0,0)).2.2.2.2.2.2.2.2)
 let o:=w64 (a+1)
 M (.inl (w,x,t,o,j,d,e,u,s,q,i,k,g,f,v,l))) X) X) X) X) (M (.inr (w,x,j,d,e,u,s,q,i,k,g,f,b,l)))
def j6M[LP](p q n m:K)(i a b:U)(o:Tn55)(l:Tn49)(k:Tn26)(e:Tn61)(j:Tn29)(c:Tn61)(d:Tn29)(f:Tn61)(g:Tn29):O (K×K×U×U×U×Tn55×Tn49×Tn26×Tn61×Tn29×Tn61×Tn29×Tn61×Tn29):=LP.lp (u8 unc8 j3p) (p,q,n,m,i,a,b,o,l,k,e,j,c,d,f,g)
theorem j9v(p q n m i a b o l k e j c d f g):j6M p q n m i a b o l k e j c d f g=lpK (j3p p q n m i a b o l k e j c d f g) (λh=>j6M h.1 h.2.1 h.2.2.1 h.2.2.2.1 h.2.2.2.2.1 h.2.2.2.2.2.1 h.2.2.2.2.2.2.1 h.2.2.2.2.2.2.2.1 h.2.2.2.2.2.2.2.2.1 h.2.2.2.2.2.2.2.2.2.1 h.2.2.2.2.2.2.2.2.2.2.1 h.2.2.2.2.2.2.2.2.2.2.2.1 h.2.2.2.2.2.2.2.2.2.2.2.2.1 h.2.2.2.2.2.2.2.2.2.2.2.2.2.1 h.2.2.2.2.2.2.2.2.2.2.2.2.2.2.1 h.2.2.2.2.2.2.2.2.2.2.2.2.2.2.2):=j0j _ _
def jcf[LP](g:Tn72):O (Tn55×Tn49×Tn26×U×U×U×Tn61×Tn29×Tn61×Tn29×Tn61×Tn29):=(j0R g.1).bind λa0=>(j0E g.2.1).bind λb6=>(j0s g.2.2.1).bind λc0=>(j0t g.2.2.2).bind λb0=>let a5:=S a0.length
 (jaD a5 0 a0 b6 c0 b0).bind λn=>let a6:=S n.2.1.length
 (jaE a6 0 n.1 n.2.1 n.2.2.1 n.2.2.2).bind λo=>let b8:=S o.2.2.1.length
 (jaF b8 0 o.1 o.2.1 o.2.2.1 o.2.2.2).bind λi=>cond (Nat.beq i.2.2.2.length 3) (let a2:=L i.2.2.2 0 (J,[],[])
 let k:=L i.2.2.2 1 (J,[],[])
 let j:=L i.2.2.2 2 (J,[],[])
 (j04 a2.2.1).bind λa1=>(j05 a2.2.2).bind λa4=>let a3:=S a1.length
 (j8s 3 0 a3 0 a2.1 k.1 k.2.1 k.2.2 j.1 j.2.1 j.2.2 i.1 i.2.1 i.2.2.1 a1 a4).bind λc=>let f:=w64 (c.2.1+1)
 cond (N (f<c.1)) (cond (f==0) ((j04 c.2.2.2.2.2.2.2.2.2.2.2.2.1).bind λz=>(j05 c.2.2.2.2.2.2.2.2.2.2.2.2.2).bind λb1=>let a9:=S z.length
 X) (cond (f==1) ((j04 c.2.2.2.2.1).bind λm=>(j05 c.2.2.2.2.2.1).bind λq=>let r:=S m.length
 (j6L c.1 f r 0 c.2.2.1 c.2.2.2.1 c.2.2.2.2.2.2.1 c.2.2.2.2.2.2.2.1 c.2.2.2.2.2.2.2.2.1 c.2.2.2.2.2.2.2.2.2.1 c.2.2.2.2.2.2.2.2.2.2.1 c.2.2.2.2.2.2.2.2.2.2.2.1 c.2.2.2.2.2.2.2.2.2.2.2.2.1 c.2.2.2.2.2.2.2.2.2.2.2.2.2 m q).bind λb=>let d:=w64 (b.2.1+1)
 cond (N (d<b.1)) (cond (d==0) ((j04 b.2.2.2.2.2.2.2.2.2.2.1).bind λw=>(j05 b.2.2.2.2.2.2.2.2.2.2.2.1).bind λb3=>let c4:=S w.length
 X) (cond (d==1) ((j04 b.2.2.2.2.2.2.2.2.2.2.2.2.1).bind λt=>(j05 b.2.2.2.2.2.2.2.2.2.2.2.2.2).bind λa8=>let b4:=S t.length
 X) (cond (d==2) ((j04 b.2.2.2.2.2.1).bind λl=>(j05 b.2.2.2.2.2.2.1).bind λp=>let s:=S l.length
 (j6M b.1 d s 0 b.2.2.1 b.2.2.2.1 b.2.2.2.2.1 b.2.2.2.2.2.2.2.1 b.2.2.2.2.2.2.2.2.1 b.2.2.2.2.2.2.2.2.2.1 b.2.2.2.2.2.2.2.2.2.2.1 b.2.2.2.2.2.2.2.2.2.2.2.1 b.2.2.2.2.2.2.2.2.2.2.2.2.1 b.2.2.2.2.2.2.2.2.2.2.2.2.2 l p).bind λa=>let e:=w64 (a.2.1+1)
 cond (N (e<a.1)) (cond (e==0) ((j04 a.2.2.2.2.2.2.2.2.1).bind λy=>(j05 a.2.2.2.2.2.2.2.2.2.1).bind λb7=>let b2:=S y.length
 X) (cond (e==1) ((j04 a.2.2.2.2.2.2.2.2.2.2.1).bind λv=>(j05 a.2.2.2.2.2.2.2.2.2.2.2.1).bind λc1=>let b5:=S v.length
 X) (cond (e==2) ((j04 a.2.2.2.2.2.2.2.2.2.2.2.2.1).bind λu=>(j05 a.2.2.2.2.2.2.2.2.2.2.2.2.2).bind λc2=>let b9:=S u.length
 X) X))) (M (a.2.2.2.2.2.1,a.2.2.2.2.2.2.1,a.2.2.2.2.2.2.2.1,a.2.2.1,a.2.2.2.1,a.2.2.2.2.1,a.2.2.2.2.2.2.2.2.1,a.2.2.2.2.2.2.2.2.2.1,a.2.2.2.2.2.2.2.2.2.2.1,a.2.2.2.2.2.2.2.2.2.2.2.1,a.2.2.2.2.2.2.2.2.2.2.2.2.1,a.2.2.2.2.2.2.2.2.2.2.2.2.2))) X))) (X)) (cond (f==2) ((j04 c.2.2.2.2.2.2.2.1).bind λx=>(j05 c.2.2.2.2.2.2.2.2.1).bind λc3=>let a7:=S x.length
 X) X))) (X)) X
def ja8[LP](a:Tn72)(c:K):O (K×Tn55×Tn49×Tn26×U×U×U×Tn61×Tn29×Tn61×Tn29×Tn61×Tn29):=(j03 a).bind λe=>cond (e != 0) (X) ((j2Q a c).bind λd=>cond (!d) (X) ((jcf a).bind λb=>M (0,b.1,b.2.1,b.2.2.1,b.2.2.2.1,b.2.2.2.2.1,b.2.2.2.2.2.1,b.2.2.2.2.2.2.1,b.2.2.2.2.2.2.2.1,b.2.2.2.2.2.2.2.2.1,b.2.2.2.2.2.2.2.2.2.1,b.2.2.2.2.2.2.2.2.2.2.1,b.2.2.2.2.2.2.2.2.2.2.2)))
def j5y[LP](d:Tn72)(b:K)(c:Tn24):O (Tn72×K):=
 orB (j3E d b) (λi=>cond (i.2 != 0) (M ((([]:Tn55),([]:Tn49),([]:Tn26),([]:Tn66)),i.2)) (cond (inR b i.1.2.2.2.length) (let q:=L i.1.2.2.2 b.toNat (J,[],[])
 let p:Tn29:=[c]
 X) X)) ((ja8 d b).bind λa=>cond (a.1 != 0) (M ((([]:Tn55),([]:Tn49),([]:Tn26),([]:Tn66)),a.1)) (cond (b==0) (let l:Tn29:=[c]
 cond (N (W a.2.2.2.2.2.2.2.2.1+W l<=j06)) (let e:Tn29:=a.2.2.2.2.2.2.2.2.1++l
 (j03 (a.2.1,a.2.2.1,a.2.2.2.1,[(a.2.2.2.2.1,a.2.2.2.2.2.2.2.1,e),(a.2.2.2.2.2.1,a.2.2.2.2.2.2.2.2.2.1,a.2.2.2.2.2.2.2.2.2.2.1),(a.2.2.2.2.2.2.1,a.2.2.2.2.2.2.2.2.2.2.2)])).bind λm=>cond (m != 0) (M ((([]:Tn55),([]:Tn49),([]:Tn26),([]:Tn66)),m)) (M ((a.2.1,a.2.2.1,a.2.2.2.1,[(a.2.2.2.2.1,a.2.2.2.2.2.2.2.1,e),(a.2.2.2.2.2.1,a.2.2.2.2.2.2.2.2.2.1,a.2.2.2.2.2.2.2.2.2.2.1),(a.2.2.2.2.2.2.1,a.2.2.2.2.2.2.2.2.2.2.2)]),0))) X) (cond (b==1) (let f:Tn29:=[c]
 cond (N (W a.2.2.2.2.2.2.2.2.2.2.1+W f<=j06)) (let g:Tn29:=a.2.2.2.2.2.2.2.2.2.2.1++f
 (j03 (a.2.1,a.2.2.1,a.2.2.2.1,[(a.2.2.2.2.1,a.2.2.2.2.2.2.2.1,a.2.2.2.2.2.2.2.2.1),(a.2.2.2.2.2.1,a.2.2.2.2.2.2.2.2.2.1,g),(a.2.2.2.2.2.2.1,a.2.2.2.2.2.2.2.2.2.2.2)])).bind λk=>cond (k != 0) (M ((([]:Tn55),([]:Tn49),([]:Tn26),([]:Tn66)),k)) (M ((a.2.1,a.2.2.1,a.2.2.2.1,[(a.2.2.2.2.1,a.2.2.2.2.2.2.2.1,a.2.2.2.2.2.2.2.2.1),(a.2.2.2.2.2.1,a.2.2.2.2.2.2.2.2.2.1,g),(a.2.2.2.2.2.2.1,a.2.2.2.2.2.2.2.2.2.2.2)]),0))) X) (cond (b==2) (let j:Tn29:=[c]
 cond (N (W a.2.2.2.2.2.2.2.2.2.2.2.2+W j<=j06)) (let n:Tn29:=a.2.2.2.2.2.2.2.2.2.2.2.2++j
 (j03 (a.2.1,a.2.2.1,a.2.2.2.1,[(a.2.2.2.2.1,a.2.2.2.2.2.2.2.1,a.2.2.2.2.2.2.2.2.1),(a.2.2.2.2.2.1,a.2.2.2.2.2.2.2.2.2.1,a.2.2.2.2.2.2.2.2.2.2.1),(a.2.2.2.2.2.2.1,a.2.2.2.2.2.2.2.2.2.2.2.1,n)])).bind λo=>cond (o != 0) (M ((([]:Tn55),([]:Tn49),([]:Tn26),([]:Tn66)),o)) (M ((a.2.1,a.2.2.1,a.2.2.2.1,[(a.2.2.2.2.1,a.2.2.2.2.2.2.2.1,a.2.2.2.2.2.2.2.2.1),(a.2.2.2.2.2.1,a.2.2.2.2.2.2.2.2.2.1,a.2.2.2.2.2.2.2.2.2.2.1),(a.2.2.2.2.2.2.1,a.2.2.2.2.2.2.2.2.2.2.2.1,n)]),0))) X) X))))
def j4r[LP](c:Tn72)(a:K)(b:Tn24):O (Tn72×K):=
 orF (j3M c a b) (orF (j4l c a b) (j5y c a b))
def j0k(a:Tn29)(c b:K):O (K×Tn29):=
 let g:=S a.length
 cond (N (0<=c)&&(N (c<=b)&&(N (b<=g)&&N (g<=(S a.length))))) (cond (c==b) (M ((S a.length),a)) (let f:=S a.length
 cond (N (0<=c)&&N (c<=(S a.length))) (cond (N (0<=b)&&N (b<=(S a.length))) (cond (N (c.toNat<=b.toNat)) (let e:Tn29:=Ê c.toNat a++(Ì b.toNat a++Ì (c.toNat+(W a-b.toNat)) a)
 let d:=S (c.toNat+(W a-b.toNat))
 cond (N (0<=d)&&(N (d<=f)&&N (f=(S e.length)))) (let i:Tn29:=Ê d.toNat e++Ä (W e-d.toNat) (0,0,0,0,0)
 M ((S (c.toNat+(W a-b.toNat))),i)) X) X) X) X)) X
def j2A[LP](c:Tn72)(a b:K):O (Tn72×K):=
 orB (j4q c a) (λd=>cond (d.1 != 0) (M ((([]:Tn55),([]:Tn49),([]:Tn26),([]:Tn66)),d.1)) (cond (inR a 1) (let l:=S d.2.2.2.2.2.2.length
 cond (cond (N (b<0)) Á (N (b>=l))) (M ((([]:Tn55),([]:Tn49),([]:Tn26),([]:Tn66)),10)) (let i:=w64 (b+1)
 (j0k d.2.2.2.2.2.2 b i).bind λg=>let j:Tn29:=Ê g.1.toNat g.2
 M ((d.2.1,d.2.2.1,d.2.2.2.1,[(d.2.2.2.2.1,d.2.2.2.2.2.1,j)]),0))) X)) ((j3E c a).bind λe=>cond (e.2 != 0) (M ((([]:Tn55),([]:Tn49),([]:Tn26),([]:Tn66)),e.2)) (cond (inR a e.1.2.2.2.length) (let k:=L e.1.2.2.2 a.toNat (J,[],[])
 let f:=S k.2.2.length
 cond (cond (N (b<0)) Á (N (b>=f))) (M ((([]:Tn55),([]:Tn49),([]:Tn26),([]:Tn66)),10)) (let m:=w64 (b+1)
 X)) X))
def j2B[LP](d:Tn72)(c b:K):O (Tn72×K):=
 orB (j3E d c) (λf=>cond (f.2 != 0) (M ((([]:Tn55),([]:Tn49),([]:Tn26),([]:Tn66)),f.2)) (cond (inR c f.1.2.2.2.length) (let n:=L f.1.2.2.2 c.toNat (J,[],[])
 let p:=S n.2.2.length
 cond (cond (N (b<0)) Á (N (b>=p))) (M ((([]:Tn55),([]:Tn49),([]:Tn26),([]:Tn66)),10)) (let q:=w64 (b+1)
 X)) X)) ((j7s d c).bind λa=>cond (a.1 != 0) (M ((([]:Tn55),([]:Tn49),([]:Tn26),([]:Tn66)),a.1)) (cond (c==0) (let g:=S a.2.2.2.2.2.2.2.1.length
 cond (cond (N (b<0)) Á (N (b>=g))) (M ((([]:Tn55),([]:Tn49),([]:Tn26),([]:Tn66)),10)) (let k:=w64 (b+1)
 (j0k a.2.2.2.2.2.2.2.1 b k).bind λe=>let i:Tn29:=Ê e.1.toNat e.2
 M ((a.2.1,a.2.2.1,a.2.2.2.1,[(a.2.2.2.2.1,a.2.2.2.2.2.2.1,i),(a.2.2.2.2.2.1,a.2.2.2.2.2.2.2.2)]),0))) (cond (c==1) (let j:=S a.2.2.2.2.2.2.2.2.2.length
 cond (cond (N (b<0)) Á (N (b>=j))) (M ((([]:Tn55),([]:Tn49),([]:Tn26),([]:Tn66)),10)) (let l:=w64 (b+1)
 (j0k a.2.2.2.2.2.2.2.2.2 b l).bind λm=>let o:Tn29:=Ê m.1.toNat m.2
 M ((a.2.1,a.2.2.1,a.2.2.2.1,[(a.2.2.2.2.1,a.2.2.2.2.2.2.1,a.2.2.2.2.2.2.2.1),(a.2.2.2.2.2.1,a.2.2.2.2.2.2.2.2.1,o)]),0))) X)))
def j1I[LP](d:Tn72)(c b:K):O (Tn72×K):=
 orB (j3E d c) (λg=>cond (g.2 != 0) (M ((([]:Tn55),([]:Tn49),([]:Tn26),([]:Tn66)),g.2)) (cond (inR c g.1.2.2.2.length) (let r:=L g.1.2.2.2 c.toNat (J,[],[])
 let t:=S r.2.2.length
 cond (cond (N (b<0)) Á (N (b>=t))) (M ((([]:Tn55),([]:Tn49),([]:Tn26),([]:Tn66)),10)) (let u:=w64 (b+1)
 X)) X)) ((ja8 d c).bind λa=>cond (a.1 != 0) (M ((([]:Tn55),([]:Tn49),([]:Tn26),([]:Tn66)),a.1)) (cond (c==0) (let p:=S a.2.2.2.2.2.2.2.2.1.length
 cond (cond (N (b<0)) Á (N (b>=p))) (M ((([]:Tn55),([]:Tn49),([]:Tn26),([]:Tn66)),10)) (let m:=w64 (b+1)
 (j0k a.2.2.2.2.2.2.2.2.1 b m).bind λf=>let n:Tn29:=Ê f.1.toNat f.2
 M ((a.2.1,a.2.2.1,a.2.2.2.1,[(a.2.2.2.2.1,a.2.2.2.2.2.2.2.1,n),(a.2.2.2.2.2.1,a.2.2.2.2.2.2.2.2.2.1,a.2.2.2.2.2.2.2.2.2.2.1),(a.2.2.2.2.2.2.1,a.2.2.2.2.2.2.2.2.2.2.2)]),0))) (cond (c==1) (let j:=S a.2.2.2.2.2.2.2.2.2.2.1.length
 cond (cond (N (b<0)) Á (N (b>=j))) (M ((([]:Tn55),([]:Tn49),([]:Tn26),([]:Tn66)),10)) (let k:=w64 (b+1)
 (j0k a.2.2.2.2.2.2.2.2.2.2.1 b k).bind λe=>let l:Tn29:=Ê e.1.toNat e.2
 M ((a.2.1,a.2.2.1,a.2.2.2.1,[(a.2.2.2.2.1,a.2.2.2.2.2.2.2.1,a.2.2.2.2.2.2.2.2.1),(a.2.2.2.2.2.1,a.2.2.2.2.2.2.2.2.2.1,l),(a.2.2.2.2.2.2.1,a.2.2.2.2.2.2.2.2.2.2.2)]),0))) (cond (c==2) (let o:=S a.2.2.2.2.2.2.2.2.2.2.2.2.length
 cond (cond (N (b<0)) Á (N (b>=o))) (M ((([]:Tn55),([]:Tn49),([]:Tn26),([]:Tn66)),10)) (let i:=w64 (b+1)
 (j0k a.2.2.2.2.2.2.2.2.2.2.2.2 b i).bind λq=>let s:Tn29:=Ê q.1.toNat q.2
 M ((a.2.1,a.2.2.1,a.2.2.2.1,[(a.2.2.2.2.1,a.2.2.2.2.2.2.2.1,a.2.2.2.2.2.2.2.2.1),(a.2.2.2.2.2.1,a.2.2.2.2.2.2.2.2.2.1,a.2.2.2.2.2.2.2.2.2.2.1),(a.2.2.2.2.2.2.1,a.2.2.2.2.2.2.2.2.2.2.2.1,s)]),0))) X))))
def j2R[LP](c:Tn72)(a b:K):O (Tn72×K):=
 orF (j2A c a b) (orF (j2B c a b) (j1I c a b))
def jgm[LP](a:Tn53):O (Tn13×K):=(j14 a).bind λb=>M ((a.2.1,b.1),b.2)
def j3N[LP](g:Tn55)(j b:K)(i:Tn20):O ((Tn55×K×K×Tn20) ⊕ (Tn20)):=cond (N (b<j)) (cond (inR b g.length) (let a:=L g b.toNat (J,0,[])
 (jgm a).bind λc=>let d:Tn20:=[c.1]
 cond (N (W i+W d<=j06)) (let f:Tn20:=i++d
 let e:=w64 (b+1)
 M (.inl (g,j,e,f))) X) X) (M (.inr i))
def j7z[LP]:=lp4 j3N
abbrev ja9:=eq4 j3N j7z
def jcX[LP](a:Tn55):O Tn20:=
 let c:=S a.length
 (j7z a c 0 ([]:Tn20)).bind λb=>M b
def jdC[LP](a:Tn72):O Tn75:=(jcX a.1).bind λb=>M (a,b)
def jeE[LP](a:Tn72):O (Tn75×Ç):=(j03 a).bind λc=>cond (c != 0) (M (((([]:Tn55),([]:Tn49),([]:Tn26),([]:Tn66)),([]:Tn20)),Z)) ((jdC a).bind λb=>M (b,Á))
def j1Z(a:Tn61):O Tn61:=M a
def j7t(a:Tn60):O Int:=cond (a.2.2.2.1==2) (let b:=w64 (7*a.2.2.2.2.1)
 M b) (M a.2.2.2.2.1)
def j6p(a e:K)(b:Tn2)(d:K):O Bool:=cond (inR a b.length) (let c:=L b a.toNat (0,0)
 M (N (c.1>d))) X
def j2S(l:K)(a:Tn2)(b e k:K):O ((K×Tn2×K×K×K) ⊕ (K)):=cond (N (e<k)) (let j:=w64 (e+k)
 let g:Int:=Ë .u64 j
 let i:Int:=Í g 2
 let c:=w64 i
 (j6p c l a b).bind λd=>cond (!d) (let f:=w64 (c+1)
 M (.inl (l,a,b,f,k))) (M (.inl (l,a,b,e,c)))) (M (.inr e))
def j7A[LP]:=lp5 j2S
theorem jaa(e a b c d):j7A e a b c d=lpK (j2S e a b c d) (λh=>j7A h.1 h.2.1 h.2.2.1 h.2.2.2.1 h.2.2.2.2):=j0j _ _
def jcY[LP](d c:K)(a:Tn2)(b:K):O Int:=(j7A c a b 0 d).bind λe=>M e
def j4T[LP](a:Tn13)(b:K):O Int:=
 let d:=S a.2.length
 (jcY d a.1 a.2 b).bind λc=>M c
def j3F(a:Tn13)(b:K):O Int:=cond (b==0) (M a.1) (let c:=w64 (b-1)
 cond (inR c a.2.length) (let d:=L a.2 c.toNat (0,0)
 M d.2) X)
def j1N[LP](n c j:K)(a:Tn2)(i:Tn14):O ((K×K×K×Tn2×Tn14) ⊕ (Tn14)):=cond (N (n<c)) ((j4T (j,a) n).bind λb=>let l:=S a.length
 cond (N (b<l)) (cond (inR b a.length) (let d:=L a b.toNat (0,0)
 let e:Int:=if d.1<c then d.1 else c
 (j3F (j,a) b).bind λo=>let g:Tn14:=[(n,e,o)]
 cond (N (W i+W g<=j06)) (let k:Tn14:=i++g
 M (.inl (e,c,j,a,k))) X) X) ((j3F (j,a) b).bind λp=>let f:Tn14:=[(n,c,p)]
 cond (N (W i+W f<=j06)) (let m:Tn14:=i++f
 M (.inl (c,c,j,a,m))) X)) (M (.inr i))
def j3q[LP]:=lp5 j1N
theorem j6N(e c d a b):j3q e c d a b=lpK (j1N e c d a b) (λh=>j3q h.1 h.2.1 h.2.2.1 h.2.2.2.1 h.2.2.2.2):=j0j _ _
def j5N[LP](b:Tn13)(a c:K):O Tn14:=(j3q a c b.1 b.2 ([]:Tn14)).bind λd=>M d
def j3C(a:K×K):O Int:=
 let c:Int:=if (-1048576)>a.1 then (-1048576) else a.1
 let e:Int:=if 1048576<c then 1048576 else c
 let d:=w64 (e*86400)
 let b:=w64 (d+a.2)
 M b
def j1b(j c k f:K)(e:Tn14):O ((K×K×K×K×Tn14) ⊕ ((K×Ç) ⊕ È)):=cond (N (c<j)) (cond (inR c e.length) (let a:=L e c.toNat (0,0,0)
 (j3C (k,f)).bind λi=>let d:=w64 (i-a.2.2)
 let b:Int:=if d>a.1 then d else a.1
 cond (N (b<a.2.1)) (M (.inr (.inl (b,Á)))) (let g:=w64 (c+1)
 M (.inl (j,g,k,f,e)))) X) (M (.inr (.inr ())))
def j4J[LP]:=lp5 j1b
abbrev j3S:=eq5 j1b j4J
def j2C[LP](a:Tn13)(b:K×K):O (K×Ç):=(j5N a 0 8589934593).bind λc=>let d:=S c.length
 (j4J d 0 b.1 b.2 c).bind λe=>sumC e (λf=>M f) (λg=>M (0,Z))
def j1R[LP](b:Tn13)(a:Tn60)(c:K):O (K×Ç):=cond (N (c>8589934592)) (M (0,Z)) (cond (a.2.2.2.1 != 0) ((j7t a).bind λk=>let j:=w64 (c*k)
 let i:=w64 (a.2.2.1.1+j)
 (j2C b (i,a.2.2.1.2)).bind λe=>M e) ((j2C b a.2.2.1).bind λf=>let l:=w64 (3600*a.2.2.2.2.1)
 let g:=w64 (l*c)
 let d:=w64 (f.1+g)
 M (d,(cond f.2 (N (d<=8589934592)) Z))))
def j5O[LP](a:Tn13)(b:K):O Int:=(j4T a b).bind λd=>(j3F a d).bind λc=>M c
def jcg(a:K):O (K×K):=
 let e:=w64 (É a 86400)
 let i:=Æ a 86400
 cond (N (i<0)) (let d:=w64 (e-1)
 let g:=w64 (d*86400)
 let f:=w64 (a-g)
 M (d,f)) (let c:=w64 (e*86400)
 let b:=w64 (a-c)
 M (e,b))
def j0N[LP](a:Tn13)(b:K):O (K×K):=(j5O a b).bind λd=>let e:=w64 (b+d)
 (jcg e).bind λc=>M c
def j2Y[LP](n m o:K)(a:Tn2)(p:U)(g k i j b:K)(c:Y K)(d:Tn2)(e f:K):O ((K×K×K×Tn2×U×K×K×K×K×K×(Y K)×Tn2×K×K) ⊕ (K×K×K×Tn2×U×K×K×K×K×K×(Y K)×Tn2×K×K)):=cond (N (m>0)) ((j1R (o,a) (p,g,(k,i),j,b,c,d,e,f) m).bind λl=>cond (cond l.2 (N (l.1<=n)) Z) (M (.inr (n,m,o,a,p,g,k,i,j,b,c,d,e,f))) (let q:=w64 (m-1)
 M (.inl (n,q,o,a,p,g,k,i,j,b,c,d,e,f)))) (M (.inr (n,m,o,a,p,g,k,i,j,b,c,d,e,f)))
def j6f[LP]:=c8 c6 (LP.lp (u8 unc6 j2Y))
theorem j8S(l o m a n g k i j b c d e f):j6f l o m a n g k i j b c d e f=lpK (j2Y l o m a n g k i j b c d e f) (λh=>j6f h.1 h.2.1 h.2.2.1 h.2.2.2.1 h.2.2.2.2.1 h.2.2.2.2.2.1 h.2.2.2.2.2.2.1 h.2.2.2.2.2.2.2.1 h.2.2.2.2.2.2.2.2.1 h.2.2.2.2.2.2.2.2.2.1 h.2.2.2.2.2.2.2.2.2.2.1 h.2.2.2.2.2.2.2.2.2.2.2.1 h.2.2.2.2.2.2.2.2.2.2.2.2.1 h.2.2.2.2.2.2.2.2.2.2.2.2.2):=j0j _ _
def j4a[LP](p o q:K)(b:Tn2)(r:U)(i l j k c:K)(d:Y K)(e:Tn2)(f g:K):O ((K×K×K×Tn2×U×K×K×K×K×K×(Y K)×Tn2×K×K) ⊕ (K)):=
 let m:=w64 (o+1)
 (j1R (q,b) (r,i,(l,j),k,c,d,e,f,g) m).bind λa=>cond (cond (!a.2) Á (N (a.1>p))) (M (.inr o)) (let n:=w64 (o+1)
 M (.inl (p,n,q,b,r,i,l,j,k,c,d,e,f,g)))
def j8a[LP]:=c8 c6 (LP.lp (u8 unc6 j4a))
abbrev jcZ:=eq14 j4a j8a
def j4b[LP](c:Tn13)(a:Tn60)(d:K):O Int:=(j1R c a 0).bind λe=>cond (cond (!e.2) Á (N (e.1>d))) (M (-1)) (cond (a.2.2.2.1==0) (let m:=w64 (d-e.1)
 let g:=w64 (3600*a.2.2.2.2.1)
 cond (!(g==0)) (let l:=w64 (É m g)
 M l) X) ((j0N c d).bind λn=>let k:=w64 (n.1-a.2.2.1.1)
 (j7t a).bind λi=>cond (!(i==0)) (let f:=w64 (É k i)
 let j:Int:=if f>0 then f else 0
 (j6f d j c.1 c.2 a.1 a.2.1 a.2.2.1.1 a.2.2.1.2 a.2.2.2.1 a.2.2.2.2.1 a.2.2.2.2.2.1 a.2.2.2.2.2.2.1 a.2.2.2.2.2.2.2.1 a.2.2.2.2.2.2.2.2).bind λb=>(j8a b.1 b.2.1 b.2.2.1 b.2.2.2.1 b.2.2.2.2.1 b.2.2.2.2.2.1 b.2.2.2.2.2.2.1 b.2.2.2.2.2.2.2.1 b.2.2.2.2.2.2.2.2.1 b.2.2.2.2.2.2.2.2.2.1 b.2.2.2.2.2.2.2.2.2.2.1 b.2.2.2.2.2.2.2.2.2.2.2.1 b.2.2.2.2.2.2.2.2.2.2.2.2.1 b.2.2.2.2.2.2.2.2.2.2.2.2.2).bind λo=>M o) X))
def j3y(a:K×K):O Int:=(j4F a.1).bind λb=>let c:=w64 (b*86400)
 let d:=w64 (c+a.2)
 M d
def j4U(e:K)(d:Tn2)(f c:K):O ((K×Tn2×K×K) ⊕ (Ç ⊕ È)):=cond (N (c<f)) (cond (inR c d.length) (let a:=L d c.toNat (0,0)
 cond (cond (N (a.1<=e)) (N (e<a.2)) Z) (M (.inr (.inl Á))) (let b:=w64 (c+1)
 M (.inl (e,d,f,b)))) X) (M (.inr (.inr ())))
def jd0[LP]:=lp4 j4U
abbrev jcx:=eq4 j4U jd0
def jfz[LP](a:Tn2)(b:K):O Bool:=
 let d:=S a.length
 (jd0 b a d 0).bind λc=>sumC c (λe=>M e) (λf=>M Z)
def j8t(a:K):O Bool:=M (a != a)
def j9w(a b:K):O Bool:=(j8t a).bind λc=>cond c ((j8t b).bind λd=>M (cond (!d) Á (N (a<b)))) (M (N (a<b)))
def j6g(a:K):O Bool:=M (a != a)
def j1d(b:Y K)(i m d l:K):O (((Y K)×K×K×K×K) ⊕ ((Y K)×K×K×K)):=cond (N (d<l)) (let j:=w64 (d+l)
 let g:Int:=Ë .u64 j
 let e:Int:=Í g 2
 let a:=w64 e
 cond (inR a b.length) (let f:=L b a.toNat 0
 (j9w f i).bind λc=>cond c (let k:=w64 (a+1)
 M (.inl (b,i,m,k,l))) (M (.inl (b,i,m,d,a)))) X) (M (.inr (b,i,m,d)))
def j2Z[LP]:=lp5 j1d
abbrev j6O:=eq5 j1d j2Z
def j1v[LP](c:Y K)(b:K):O (K×Ç):=
 let e:=S c.length
 (j2Z c b e 0 e).bind λa=>cond ((inR a.2.2.2 a.1.length) || !(N (a.2.2.2<a.2.2.1))) (let d:=L a.1 a.2.2.2.toNat 0
 cond ((inR a.2.2.2 a.1.length) || !((N (a.2.2.2<a.2.2.1))&&(!(d==a.2.1)))) (let f:=L a.1 a.2.2.2.toNat 0
 cond (N (a.2.2.2<a.2.2.1)) (cond (d==a.2.1) (M (a.2.2.2,Á)) ((j6g f).bind λg=>cond g ((j6g a.2.1).bind λi=>M (a.2.2.2,i)) (M (a.2.2.2,Z)))) (cond ((d==a.2.1) || !Z) (M (a.2.2.2,Z)) X)) X) X
def j6P[LP](c:Tn60)(g:K)(b:Tn75)(i:K):O (K×Ç):=cond (c.2.2.2.2.2.2.2.2==0) (M (g,Á)) (cond (inR c.2.2.2.2.2.2.2.1 b.1.2.2.1.length) (let a:=L b.1.2.2.1 c.2.2.2.2.2.2.2.1.toNat (J,0,[])
 cond (inR a.2.1 b.2.length) (let d:=L b.2 a.2.1.toNat (0,[])
 (j0N d i).bind λe=>(j1v a.2.2 e.1).bind λf=>M (g,(f.2==(c.2.2.2.2.2.2.2.2==2)))) X) X)
def j3D[LP](c:Tn75)(a:Tn60)(b:K):O (K×Ç):=cond (cond (N (b<0)) Á (N (b>8589934592))) (M (0,Z)) (cond (inR a.2.1 c.2.length) (let d:=L c.2 a.2.1.toNat (0,[])
 (j4b d a b).bind λe=>cond (N (e<0)) (M (0,Z)) (let g:=S a.2.2.2.2.2.2.1.length
 cond (N (g>0)) ((j0N d b).bind λf=>(j3y f).bind λi=>(jfz a.2.2.2.2.2.2.1 i).bind λj=>cond (!j) (M (0,Z)) (j6P a e c b)) (j6P a e c b))) X)
def j1S[LP](b:Tn75)(a:Tn60)(f:K):O Int:=(j3D b a f).bind λe=>cond (!e.2) (M (-1)) (let d:=S a.2.2.2.2.2.1.length
 cond (!(d==0)) (let c:=Æ e.1 d
 cond (inR c a.2.2.2.2.2.1.length) (let g:=L a.2.2.2.2.2.1 c.toNat 0
 M g) X) X)
def jaG(a:Tn24)(d c:K):O Bool:=
 let b:Bool:=cond (cond (a.1==0) (a.2.1==d) Z) (N (a.2.2.2.1<=c)) Z
 M (cond b (N (c<a.2.2.2.2)) Z)
def j0z(f:Tn29)(i c g b:K):O ((Tn29×K×K×K×K) ⊕ (K ⊕ È)):=cond (N (b<g)) (cond (inR b f.length) (let a:=L f b.toNat (0,0,0,0,0)
 (jaG a i c).bind λd=>cond d (M (.inr (.inl b))) (let e:=w64 (b+1)
 M (.inl (f,i,c,g,e)))) X) (M (.inr (.inr ())))
def j13[LP]:=lp5 j0z
abbrev j2V:=eq5 j0z j13
def j2b[LP](b:Tn29)(c a:K):O Int:=
 let e:=S b.length
 (j13 b c a e 0).bind λd=>sumC d (λf=>M f) (λg=>M (-1))
def j1D[LP](b:Tn29)(c a:K):O Bool:=(j2b b c a).bind λd=>M (N (d>=0))
def jch[LP](b:Tn65)(a c:K):O Bool:=(j1D b.2.2 a c).bind λd=>M d
def j30[LP](l:K)(j:Tn61)(o:Tn55)(d:Tn49)(f:Tn26)(c:Tn66)(e:Tn20)(p:U)(g:Tn61)(i:Tn29)(m q r:K):O ((K×Tn61×Tn55×Tn49×Tn26×Tn66×Tn20×U×Tn61×Tn29×K×K×K) ⊕ ((K×K) ⊕ (K×K))):=cond (N (l<=0)) (M (.inr (.inl (q,r)))) (cond (N (l<=S j.length)) (let k:Int:=l-1
 let a:=L j k.toNat (J,0,(0,0),0,0,[],[],0,0)
 (j1S ((o,d,f,c),e) a m).bind λb=>cond (N (b<0)) (M (.inl ((l-1),j,o,d,f,c,e,p,g,i,m,q,r))) ((jch (p,g,i) b m).bind λn=>cond (!n) (M (.inr (.inr (k,b)))) (M (.inl ((l-1),j,o,d,f,c,e,p,g,i,m,q,r))))) X)
def j6h[LP]:=c8 c5 (LP.lp (u8 unc5 j30))
abbrev j8T:=eq13 j30 j6h
def j5P[LP](a:Tn75)(b:Tn65)(d:K):O (K×K):=(j1Z b.2.1).bind λc=>(j6h (S c.length) c a.1.1 a.1.2.1 a.1.2.2.1 a.1.2.2.2 a.2 b.1 b.2.1 b.2.2 d 0 0).bind λe=>sumC e (λg=>M ((-1),(-1))) (λf=>M f)
def j6q(b:Tn24)(a:K):O Bool:=M (cond (N (b.2.2.2.1<=a)) (N (a<b.2.2.2.2)) Z)
def j4s(f e:K)(d:Tn29)(c b:K):O ((K×K×Tn29×K×K) ⊕ (K)):=cond (N (b<c)) (cond (inR b d.length) (let a:=L d b.toNat (0,0,0,0,0)
 (j6q a e).bind λk=>cond (cond (!k) Á (a.1==0)) (let l:=w64 (b+1)
 M (.inl (f,e,d,c,l))) (cond (a.1==1) (let m:=w64 (b+1)
 M (.inl (a.2.1,e,d,c,m))) (cond (a.1 != 2) (let n:=w64 (b+1)
 M (.inl (f,e,d,c,n))) (cond (f==a.2.1) (let j:=w64 (b+1)
 M (.inl (a.2.2.1,e,d,c,j))) (cond (f==a.2.2.1) (let i:=w64 (b+1)
 M (.inl (a.2.1,e,d,c,i))) (let g:=w64 (b+1)
 M (.inl (f,e,d,c,g)))))))) X) (M (.inr f))
def jbL[LP]:=lp5 j4s
abbrev jbM:=eq5 j4s jbL
def jbN[LP](b:Tn29)(a c:K):O Int:=
 let d:=S b.length
 (jbL a c b d 0).bind λe=>M e
def jci[LP](a:Tn75)(c:Tn65)(b:K):O Int:=cond (cond (N (b<0)) Á (N (b>8589934592))) (M (-1)) ((j5P a c b).bind λe=>(jbN c.2.2 e.2 b).bind λd=>M d)
def j6Q[LP](b:Tn72)(a e:K):O Int:=(jeE b).bind λc=>cond (!c.2) (M (-1)) ((j2Q b a).bind λg=>cond (!g) (M (-1)) (cond (inR a b.2.2.2.length) (let d:=L b.2.2.2 a.toNat (J,[],[])
 (jci c.1 d e).bind λf=>M f) X))
def jd1[LP](l:O (Tn55×Tn49×Tn26×Tn66)):O Bool:=
 l.bind λd=>(j4r d 0 (2,0,1,432000,518400)).bind λb=>(j4r b.1 0 (1,2,0,432000,475200)).bind λa=>(j2R a.1 0 1).bind λc=>(j2R a.1 0 2).bind λi=>let g:Bool:=cond (cond (cond (b.2==0) (a.2==0) Z) (c.2==0) Z) (i.2==10) Z
 cond g ((j6Q a.1 0 432000).bind λf=>cond (f==2) ((j6Q a.1 0 475200).bind λj=>cond (j==1) ((j6Q c.1 0 432000).bind λk=>cond (k==1) ((j6Q a.1 0 518400).bind λe=>M (e==0)) (M Z)) (M Z)) (M Z)) (M Z)
def jcj[LP]:O Bool:=
 jd1 jcV
def jgn(a:Y K):O ((Y K)×K):=M (a,0)
def j02(b:Y K)(a c:K):O (K×(Y K)×K):=
 let g:=S b.length
 cond (N (a>=g)) (M (0,b,a)) (cond (N (c<1)) (M (0,b,a)) (cond (inR a b.length) (let i:=L b a.toNat 0
 cond (!(c==0)) (let d:=Æ i c
 let e:=w64 (a+1)
 cond (N (d<0)) (let f:=w64 (d+c)
 M (f,b,e)) (M (d,b,e))) X) X))
def j0b(d:Y K)(b:K)(a:Y K):O (K×(Y K)×K):=
 let f:=S a.length
 (j02 d b f).bind λc=>cond (inR c.1 a.length) (let e:=L a c.1.toNat 0
 M (e,c.2.1,c.2.2)) X
def j7B(a0:Y K)(t:K)(a:U):O (Tn53×(Y K)×K):=
 let b7:Y Int:=[0,4,(-20),22,48,(-47)]
 (j0b a0 t b7).bind λi=>(j02 i.2.1 i.2.2 2).bind λw=>(j02 w.2.1 w.2.2 3).bind λq=>let b4:=w64 (w.1*q.1)
 let b6:=w64 (i.1+b4)
 let c:=w64 (900*b6)
 (j02 q.2.1 q.2.2 2).bind λn=>let g:=w64 (2025+n.1)
 (j02 n.2.1 n.2.2 4).bind λb=>cond (b.1==1) (let b2:=w64 (c+3600)
 let a9:Tn43:=[(2025,g,3,5,6,7200,b2),(2025,g,10,5,6,10800,c)]
 M ((a,c,a9),b.2.1,b.2.2)) (cond (b.1==2) ((j02 b.2.1 b.2.2 4).bind λj=>let a7:=w64 (1+j.1)
 (j02 j.2.1 j.2.2 7).bind λv=>(j02 v.2.1 v.2.2 24).bind λr=>let b5:=w64 (3600*r.1)
 (j02 r.2.1 r.2.2 8).bind λk=>let a1:=w64 (1+k.1)
 let a6:=w64 (1800*a1)
 let a3:=w64 (c+a6)
 (j02 k.2.1 k.2.2 2).bind λu=>let b3:=w64 (2+u.1)
 let a4:Y Int:=[2,3,5]
 (j0b u.2.1 u.2.2 a4).bind λo=>(j02 o.2.1 o.2.2 7).bind λm=>(j02 m.2.1 m.2.2 24).bind λl=>let a8:=w64 (3600*l.1)
 let a2:Tn43:=[(2025,g,1,a7,v.1,b5,a3),(2025,g,b3,o.1,m.1,a8,c)]
 M ((a,c,a2),l.2.1,l.2.2)) (cond (b.1==3) (let a5:Y Int:=[3600,(-3600),82800,(-82800),43200]
 (j0b b.2.1 b.2.2 a5).bind λf=>let x:=w64 (c+f.1)
 cond (cond (N (x>64800)) Á (N (x<(-64800)))) ((j02 f.2.1 f.2.2 7).bind λp=>(j02 p.2.1 p.2.2 48).bind λs=>let b1:=w64 (1800*s.1)
 let b0:Tn43:=[(2026,2026,1,2,p.1,b1,0)]
 M ((a,c,b0),s.2.1,s.2.2)) ((j02 f.2.1 f.2.2 7).bind λe=>(j02 e.2.1 e.2.2 48).bind λd=>let z:=w64 (1800*d.1)
 let y:Tn43:=[(2026,2026,1,2,e.1,z,x)]
 M ((a,c,y),d.2.1,d.2.2))) (M ((a,c,([]:Tn43)),b.2.1,b.2.2))))
def jab  : O (Y U):=
 let a:Y ByteArray:=[(À #[97,100,97]),(À #[98,111,98]),(À #[99,108,101,111]),(À #[100,97,110]),(À #[101,118,101]),(À #[102,97,121]),(À #[103,117,115]),(À #[104,97,108])]
 M a
def j0Y(c:Y K)(b a:K):O (Ç×(Y K)×K):=(j02 c b a).bind λd=>let e:=w64 (a-1)
 M ((d.1==e),d.2.1,d.2.2)
def j1O(r p:K)(q:Y K)(g:K)(n:Tn2):O ((K×K×(Y K)×K×Tn2) ⊕ ((Y K)×K×Tn2)):=cond (N (p>0)) ((j02 q g 30).bind λd=>let m:=w64 (3600*d.1)
 let l:=w64 (r+m)
 (j02 d.2.1 d.2.2 2).bind λb=>let o:=w64 (60*b.1)
 let e:=w64 (l+o)
 let i:Y Int:=[3600,28800,43200,86400,61,1]
 (j0b b.2.1 b.2.2 i).bind λa=>let c:=w64 (e+a.1)
 cond (N (c>604800)) (M (.inr (a.2.1,a.2.2,n))) (let f:Tn2:=[(e,c)]
 cond (N (W n+W f<=j06)) (let k:Tn2:=n++f
 let j:=w64 (p-1)
 M (.inl (c,j,a.2.1,a.2.2,k))) X)) (M (.inr (q,g,n)))
def j5V[LP]:=lp5 j1O
abbrev j6R:=eq5 j1O j5V
def j3G[LP](b:Y K)(a:K):O (Tn2×(Y K)×K):=(j02 b a 4).bind λc=>(j5V 0 c.1 c.2.1 c.2.2 ([]:Tn2)).bind λd=>M (d.2.2,d.1,d.2.1)
def j2l(k:K)(l:Y K)(f:K)(b:Tn55):O ((K×(Y K)×K×Tn55) ⊕ ((Y K)×K×Tn55)):=cond (N (k>0)) (let e:Y ByteArray:=[(À #[104,101,114,101]),(À #[116,104,101,114,101])]
 let d:=S b.length
 cond (inR d e.length) (let i:=L e d.toNat J
 (j7B l f i).bind λa=>let c:Tn55:=[a.1]
 cond (N (W b+W c<=j06)) (let g:Tn55:=b++c
 let j:=w64 (k-1)
 M (.inl (j,a.2.1,a.2.2,g))) X) X) (M (.inr (l,f,b)))
def j5g[LP]:=lp4 j2l
theorem j7K(c d b a):j5g c d b a=lpK (j2l c d b a) (λh=>j5g h.1 h.2.1 h.2.2.1 h.2.2.2):=j0j _ _
def j2m[LP](a4:K)(a5:Y K)(q:K)(k:Tn55)(b:Tn49):O ((K×(Y K)×K×Tn55×Tn49) ⊕ ((Y K)×K×Tn55×Tn49)):=cond (N (a4>0)) ((jab).bind λp=>let o:=S b.length
 cond (inR o p.length) (let m:=L p o.toNat J
 let t:=S k.length
 (j02 a5 q t).bind λd=>(j0Y d.2.1 d.2.2 3).bind λc=>(j0Y c.2.1 c.2.2 2).bind λa=>cond a.1 ((j3G a.2.1 a.2.2).bind λf=>let x:Y Int:=[0,40,100,12]
 (j0b f.2.1 f.2.2 x).bind λi=>let z:=w64 (3600*i.1)
 let r:Y Int:=[0,11,24,1]
 (j0b i.2.1 i.2.2 r).bind λg=>let a2:=w64 (3600*g.1)
 let l:Tn49:=[(m,d.1,f.1,z,a2,c.1)]
 cond (N (W b+W l<=j06)) (let w:Tn49:=b++l
 let s:=w64 (a4-1)
 M (.inl (s,g.2.1,g.2.2,k,w))) X) (let y:Y Int:=[0,40,100,12]
 (j0b a.2.1 a.2.2 y).bind λj=>let a1:=w64 (3600*j.1)
 let a0:Y Int:=[0,11,24,1]
 (j0b j.2.1 j.2.2 a0).bind λe=>let v:=w64 (3600*e.1)
 let n:Tn49:=[(m,d.1,([]:Tn2),a1,v,c.1)]
 cond (N (W b+W n<=j06)) (let a3:Tn49:=b++n
 let u:=w64 (a4-1)
 M (.inl (u,e.2.1,e.2.2,k,a3))) X)) X) (M (.inr (a5,q,k,b)))
def j5h[LP]:=lp5 j2m
theorem j7L(d e c a b):j5h d e c a b=lpK (j2m d e c a b) (λh=>j5h h.1 h.2.1 h.2.2.1 h.2.2.2.1 h.2.2.2.2):=j0j _ _
def j2n(m p n:K)(q:Y K)(j:K)(o:U)(d:K)(e:Tn55)(f:Tn49)(i:Tn26)(c:Y K):O ((K×K×K×(Y K)×K×U×K×Tn55×Tn49×Tn26×(Y K)) ⊕ (K×(Y K)×K×U×K×Tn55×Tn49×Tn26×(Y K))):=cond (N (p>0)) ((j02 q j 6).bind λb=>let l:=w64 (1+b.1)
 let a:=w64 (n+l)
 cond (N (W c+W [a]<=j06)) (let g:Y Int:=c++[a]
 let k:=w64 (p-1)
 M (.inl (m,k,a,b.2.1,b.2.2,o,d,e,f,i,g))) X) (M (.inr (m,q,j,o,d,e,f,i,c)))
def j6S[LP]:=c8 c3 (LP.lp (u8 unc3 j2n))
abbrev j7M:=eq11 j2n j6S
def j2o[LP](m:K)(n:Y K)(j:K)(e:Tn55)(g:Tn49)(i:Tn26):O ((K×(Y K)×K×Tn55×Tn49×Tn26) ⊕ ((Y K)×K×Tn55×Tn49×Tn26)):=cond (N (m>0)) (let l:=S e.length
 (j02 n j l).bind λc=>(j02 c.2.1 c.2.2 4).bind λb=>(j6S m b.1 20454 b.2.1 b.2.2 (À #[100,97,121,115]) c.1 e g i ([]:(Y K))).bind λa=>let d:Tn26:=[(a.2.2.2.1,a.2.2.2.2.1,a.2.2.2.2.2.2.2.2)]
 cond (N (W a.2.2.2.2.2.2.2.1+W d<=j06)) (let f:Tn26:=a.2.2.2.2.2.2.2.1++d
 let k:=w64 (a.1-1)
 M (.inl (k,a.2.1,a.2.2.1,a.2.2.2.2.2.1,a.2.2.2.2.2.2.1,f))) X) (M (.inr (n,j,e,g,i)))
def j5i[LP]:=lp6 j2o
theorem j7N(e f d a b c):j5i e f d a b c=lpK (j2o e f d a b c) (λh=>j5i h.1 h.2.1 h.2.2.1 h.2.2.2.1 h.2.2.2.2.1 h.2.2.2.2.2):=j0j _ _
def j6T[LP](i:Y K)(d:K):O (Tn72×(Y K)×K):=(j02 i d 2).bind λa=>let k:=w64 (1+a.1)
 (j5g k a.2.1 a.2.2 ([]:Tn55)).bind λg=>(j02 g.1 g.2.1 4).bind λe=>let j:=w64 (1+e.1)
 (j5h j e.2.1 e.2.2 g.2.2 ([]:Tn49)).bind λf=>(j02 f.1 f.2.1 2).bind λc=>(j5i c.1 c.2.1 c.2.2 f.2.2.1 f.2.2.2 ([]:Tn26)).bind λb=>M ((b.2.2.1,b.2.2.2.1,b.2.2.2.2,([]:Tn66)),b.1,b.2.1)
def j2p(y:K)(a0:Y K)(r:K)(z:Tn55)(b:Tn49)(g:Tn26)(t:Tn66)(a1:U)(q s l n d i p:K)(a2:U)(e j o u f k m:K)(c:Y K):O ((K×(Y K)×K×Tn55×Tn49×Tn26×Tn66×U×K×K×K×K×K×K×K×U×K×K×K×K×K×K×K×(Y K)) ⊕ ((Y K)×K×Tn55×Tn49×Tn26×Tn66×U×K×K×K×K×K×K×K×U×K×K×K×K×K×K×K×(Y K))):=cond (N (y>0)) (let v:=S b.length
 (j02 a0 r v).bind λa=>cond (N (W c+W [a.1]<=j06)) (let w:Y Int:=c++[a.1]
 let x:=w64 (y-1)
 M (.inl (x,a.2.1,a.2.2,z,b,g,t,a1,q,s,l,n,d,i,p,a2,e,j,o,u,f,k,m,w))) X) (M (.inr (a0,r,z,b,g,t,a1,q,s,l,n,d,i,p,a2,e,j,o,u,f,k,m,c)))
def j4c[LP](u:K)(w:Y K)(q:K)(v:Tn55)(c:Tn49)(e:Tn26)(s:Tn66)(x:U)(p r j m a f o:K)(y:U)(b g n t d i k:K)(l:Y K):O ((Y K)×K×Tn55×Tn49×Tn26×Tn66×U×K×K×K×K×K×K×K×U×K×K×K×K×K×K×K×(Y K)):=LP.lp (u8 (u8 unc8) j2p) (u,w,q,v,c,e,s,x,p,r,j,m,a,f,o,y,b,g,n,t,d,i,k,l)
theorem j7O(u w q v c e s x p r j m a f o y b g n t d i k l):j4c u w q v c e s x p r j m a f o y b g n t d i k l=lpK (j2p u w q v c e s x p r j m a f o y b g n t d i k l) (λh=>j4c h.1 h.2.1 h.2.2.1 h.2.2.2.1 h.2.2.2.2.1 h.2.2.2.2.2.1 h.2.2.2.2.2.2.1 h.2.2.2.2.2.2.2.1 h.2.2.2.2.2.2.2.2.1 h.2.2.2.2.2.2.2.2.2.1 h.2.2.2.2.2.2.2.2.2.2.1 h.2.2.2.2.2.2.2.2.2.2.2.1 h.2.2.2.2.2.2.2.2.2.2.2.2.1 h.2.2.2.2.2.2.2.2.2.2.2.2.2.1 h.2.2.2.2.2.2.2.2.2.2.2.2.2.2.1 h.2.2.2.2.2.2.2.2.2.2.2.2.2.2.2.1 h.2.2.2.2.2.2.2.2.2.2.2.2.2.2.2.2.1 h.2.2.2.2.2.2.2.2.2.2.2.2.2.2.2.2.2.1 h.2.2.2.2.2.2.2.2.2.2.2.2.2.2.2.2.2.2.1 h.2.2.2.2.2.2.2.2.2.2.2.2.2.2.2.2.2.2.2.1 h.2.2.2.2.2.2.2.2.2.2.2.2.2.2.2.2.2.2.2.2.1 h.2.2.2.2.2.2.2.2.2.2.2.2.2.2.2.2.2.2.2.2.2.1 h.2.2.2.2.2.2.2.2.2.2.2.2.2.2.2.2.2.2.2.2.2.2.1 h.2.2.2.2.2.2.2.2.2.2.2.2.2.2.2.2.2.2.2.2.2.2.2):=j0j _ _
def j6U[LP](b5:Y K)(a0:K)(c:Tn72)(j:U):O (Tn60×(Y K)×K):=
 let b9:=S c.1.length
 (j02 b5 a0 b9).bind λx=>(j02 x.2.1 x.2.2 6).bind λz=>let c3:=w64 (20454+z.1)
 let b4:=w64 (c3-2)
 let c1:Y Int:=[0,32400,7200,9000,79200,1]
 (j0b z.2.1 z.2.2 c1).bind λw=>(j02 w.2.1 w.2.2 3).bind λu=>(j02 u.2.1 u.2.2 2).bind λs=>let b6:=w64 (1+s.1)
 cond (u.1==0) (let c4:Y Int:=[6,8,12,24,23,49]
 (j0b s.2.1 s.2.2 c4).bind λa2=>(j02 a2.2.1 a2.2.2 3).bind λy=>let c2:=w64 (1+y.1)
 (j4c c2 y.2.1 y.2.2 c.1 c.2.1 c.2.2.1 c.2.2.2 J 0 0 0 0 0 0 0 j x.1 b4 w.1 u.1 a2.1 0 0 ([]:(Y K))).bind λb=>(j0Y b.1 b.2.1 2).bind λr=>cond r.1 ((j3G r.2.1 r.2.2).bind λv=>(j0Y v.2.1 v.2.2 4).bind λt=>let b7:=S b.2.2.2.2.1.length
 cond (cond t.1 (N (b7>0)) Z) (let b8:=S b.2.2.2.2.1.length
 (j02 t.2.1 t.2.2 b8).bind λa3=>(j02 a3.2.1 a3.2.2 2).bind λa1=>let c0:=w64 (1+a1.1)
 M ((b.2.2.2.2.2.2.2.2.2.2.2.2.2.2.1,b.2.2.2.2.2.2.2.2.2.2.2.2.2.2.2.1,(b.2.2.2.2.2.2.2.2.2.2.2.2.2.2.2.2.1,b.2.2.2.2.2.2.2.2.2.2.2.2.2.2.2.2.2.1),b.2.2.2.2.2.2.2.2.2.2.2.2.2.2.2.2.2.2.1,b.2.2.2.2.2.2.2.2.2.2.2.2.2.2.2.2.2.2.2.1,b.2.2.2.2.2.2.2.2.2.2.2.2.2.2.2.2.2.2.2.2.2.2,v.1,a3.1,c0),a1.2.1,a1.2.2)) (M ((b.2.2.2.2.2.2.2.2.2.2.2.2.2.2.1,b.2.2.2.2.2.2.2.2.2.2.2.2.2.2.2.1,(b.2.2.2.2.2.2.2.2.2.2.2.2.2.2.2.2.1,b.2.2.2.2.2.2.2.2.2.2.2.2.2.2.2.2.2.1),b.2.2.2.2.2.2.2.2.2.2.2.2.2.2.2.2.2.2.1,b.2.2.2.2.2.2.2.2.2.2.2.2.2.2.2.2.2.2.2.1,b.2.2.2.2.2.2.2.2.2.2.2.2.2.2.2.2.2.2.2.2.2.2,v.1,b.2.2.2.2.2.2.2.2.2.2.2.2.2.2.2.2.2.2.2.2.1,b.2.2.2.2.2.2.2.2.2.2.2.2.2.2.2.2.2.2.2.2.2.1),t.2.1,t.2.2))) ((j0Y r.2.1 r.2.2 4).bind λg=>let b3:=S b.2.2.2.2.1.length
 cond (cond g.1 (N (b3>0)) Z) (let b1:=S b.2.2.2.2.1.length
 (j02 g.2.1 g.2.2 b1).bind λm=>(j02 m.2.1 m.2.2 2).bind λn=>let a8:=w64 (1+n.1)
 M ((b.2.2.2.2.2.2.2.2.2.2.2.2.2.2.1,b.2.2.2.2.2.2.2.2.2.2.2.2.2.2.2.1,(b.2.2.2.2.2.2.2.2.2.2.2.2.2.2.2.2.1,b.2.2.2.2.2.2.2.2.2.2.2.2.2.2.2.2.2.1),b.2.2.2.2.2.2.2.2.2.2.2.2.2.2.2.2.2.2.1,b.2.2.2.2.2.2.2.2.2.2.2.2.2.2.2.2.2.2.2.1,b.2.2.2.2.2.2.2.2.2.2.2.2.2.2.2.2.2.2.2.2.2.2,([]:Tn2),m.1,a8),n.2.1,n.2.2)) (M ((b.2.2.2.2.2.2.2.2.2.2.2.2.2.2.1,b.2.2.2.2.2.2.2.2.2.2.2.2.2.2.2.1,(b.2.2.2.2.2.2.2.2.2.2.2.2.2.2.2.2.1,b.2.2.2.2.2.2.2.2.2.2.2.2.2.2.2.2.2.1),b.2.2.2.2.2.2.2.2.2.2.2.2.2.2.2.2.2.2.1,b.2.2.2.2.2.2.2.2.2.2.2.2.2.2.2.2.2.2.2.1,b.2.2.2.2.2.2.2.2.2.2.2.2.2.2.2.2.2.2.2.2.2.2,([]:Tn2),b.2.2.2.2.2.2.2.2.2.2.2.2.2.2.2.2.2.2.2.2.1,b.2.2.2.2.2.2.2.2.2.2.2.2.2.2.2.2.2.2.2.2.2.1),g.2.1,g.2.2)))) ((j02 s.2.1 s.2.2 3).bind λk=>let a6:=w64 (1+k.1)
 (j4c a6 k.2.1 k.2.2 c.1 c.2.1 c.2.2.1 c.2.2.2 J 0 0 0 0 0 0 0 j x.1 b4 w.1 u.1 b6 0 0 ([]:(Y K))).bind λa=>(j0Y a.1 a.2.1 2).bind λf=>cond f.1 ((j3G f.2.1 f.2.2).bind λi=>(j0Y i.2.1 i.2.2 4).bind λd=>let b2:=S a.2.2.2.2.1.length
 cond (cond d.1 (N (b2>0)) Z) (let a5:=S a.2.2.2.2.1.length
 (j02 d.2.1 d.2.2 a5).bind λo=>(j02 o.2.1 o.2.2 2).bind λp=>let b0:=w64 (1+p.1)
 M ((a.2.2.2.2.2.2.2.2.2.2.2.2.2.2.1,a.2.2.2.2.2.2.2.2.2.2.2.2.2.2.2.1,(a.2.2.2.2.2.2.2.2.2.2.2.2.2.2.2.2.1,a.2.2.2.2.2.2.2.2.2.2.2.2.2.2.2.2.2.1),a.2.2.2.2.2.2.2.2.2.2.2.2.2.2.2.2.2.2.1,a.2.2.2.2.2.2.2.2.2.2.2.2.2.2.2.2.2.2.2.1,a.2.2.2.2.2.2.2.2.2.2.2.2.2.2.2.2.2.2.2.2.2.2,i.1,o.1,b0),p.2.1,p.2.2)) (M ((a.2.2.2.2.2.2.2.2.2.2.2.2.2.2.1,a.2.2.2.2.2.2.2.2.2.2.2.2.2.2.2.1,(a.2.2.2.2.2.2.2.2.2.2.2.2.2.2.2.2.1,a.2.2.2.2.2.2.2.2.2.2.2.2.2.2.2.2.2.1),a.2.2.2.2.2.2.2.2.2.2.2.2.2.2.2.2.2.2.1,a.2.2.2.2.2.2.2.2.2.2.2.2.2.2.2.2.2.2.2.1,a.2.2.2.2.2.2.2.2.2.2.2.2.2.2.2.2.2.2.2.2.2.2,i.1,a.2.2.2.2.2.2.2.2.2.2.2.2.2.2.2.2.2.2.2.2.1,a.2.2.2.2.2.2.2.2.2.2.2.2.2.2.2.2.2.2.2.2.2.1),d.2.1,d.2.2))) ((j0Y f.2.1 f.2.2 4).bind λe=>let a4:=S a.2.2.2.2.1.length
 cond (cond e.1 (N (a4>0)) Z) (let a7:=S a.2.2.2.2.1.length
 (j02 e.2.1 e.2.2 a7).bind λq=>(j02 q.2.1 q.2.2 2).bind λl=>let a9:=w64 (1+l.1)
 M ((a.2.2.2.2.2.2.2.2.2.2.2.2.2.2.1,a.2.2.2.2.2.2.2.2.2.2.2.2.2.2.2.1,(a.2.2.2.2.2.2.2.2.2.2.2.2.2.2.2.2.1,a.2.2.2.2.2.2.2.2.2.2.2.2.2.2.2.2.2.1),a.2.2.2.2.2.2.2.2.2.2.2.2.2.2.2.2.2.2.1,a.2.2.2.2.2.2.2.2.2.2.2.2.2.2.2.2.2.2.2.1,a.2.2.2.2.2.2.2.2.2.2.2.2.2.2.2.2.2.2.2.2.2.2,([]:Tn2),q.1,a9),l.2.1,l.2.2)) (M ((a.2.2.2.2.2.2.2.2.2.2.2.2.2.2.1,a.2.2.2.2.2.2.2.2.2.2.2.2.2.2.2.1,(a.2.2.2.2.2.2.2.2.2.2.2.2.2.2.2.2.1,a.2.2.2.2.2.2.2.2.2.2.2.2.2.2.2.2.2.1),a.2.2.2.2.2.2.2.2.2.2.2.2.2.2.2.2.2.2.1,a.2.2.2.2.2.2.2.2.2.2.2.2.2.2.2.2.2.2.2.1,a.2.2.2.2.2.2.2.2.2.2.2.2.2.2.2.2.2.2.2.2.2.2,([]:Tn2),a.2.2.2.2.2.2.2.2.2.2.2.2.2.2.2.2.2.2.2.2.1,a.2.2.2.2.2.2.2.2.2.2.2.2.2.2.2.2.2.2.2.2.2.1),e.2.1,e.2.2))))
def j2T(e:Y K)(c:K):O (K×(Y K)×K):=(j02 e c 576).bind λd=>let j:=w64 (3600*d.1)
 let g:=w64 (1767139200+j)
 (j0Y d.2.1 d.2.2 3).bind λa=>cond a.1 (let i:Y Int:=[(-1),1,1800,3599]
 (j0b a.2.1 a.2.2 i).bind λb=>let f:=w64 (g+b.1)
 M (f,b.2.1,b.2.2)) (M (g,a.2.1,a.2.2))
def j2W(m:Y K)(l:K)(n:(Y È)×(Y È)×(Y È)×(Y È)):O (Tn24×(Y K)×K):=
 let j:=S n.2.1.length
 (j02 m l 3).bind λa=>(j02 a.2.1 a.2.2 j).bind λe=>(j2T e.2.1 e.2.2).bind λb=>let q:Y Int:=[3600,86400,7,259200,40000]
 (j0b b.2.1 b.2.2 q).bind λc=>let f:=w64 (b.1+c.1)
 cond (a.1==2) (cond (N (j<2)) (M ((0,e.1,0,b.1,f),c.2.1,c.2.2)) (let o:=w64 (e.1+1)
 let p:=w64 (j-1)
 (j02 c.2.1 c.2.2 p).bind λg=>let r:=w64 (o+g.1)
 cond (!(j==0)) (let k:=Æ r j
 cond (a.1==1) ((j0Y g.2.1 g.2.2 4).bind λi=>cond i.1 (M ((a.1,(-1),k,b.1,f),i.2.1,i.2.2)) (M ((a.1,e.1,k,b.1,f),i.2.1,i.2.2))) (M ((a.1,e.1,k,b.1,f),g.2.1,g.2.2))) X)) (cond (a.1==1) ((j0Y c.2.1 c.2.2 4).bind λd=>cond d.1 (M ((a.1,(-1),0,b.1,f),d.2.1,d.2.2)) (M ((a.1,e.1,0,b.1,f),d.2.1,d.2.2))) (M ((a.1,e.1,0,b.1,f),c.2.1,c.2.2)))
def j23[LP](p o:K)(r:Y K)(j:K)(n:Tn55)(e:Tn49)(d:Tn26)(q:U)(c:Tn66)(b:Tn61):O ((K×K×(Y K)×K×Tn55×Tn49×Tn26×U×Tn66×Tn61) ⊕ (K×(Y K)×K×Tn55×Tn49×Tn26×U×Tn66×Tn61)):=cond (N (o>0)) ((jab).bind λg=>let i:=S b.length
 cond (inR i g.length) (let l:=L g i.toNat J
 (j6U r j (n,e,d,c) l).bind λa=>let f:Tn61:=[a.1]
 cond (N (W b+W f<=j06)) (let m:Tn61:=b++f
 let k:=w64 (o-1)
 M (.inl (p,k,a.2.1,a.2.2,n,e,d,q,c,m))) X) X) (M (.inr (p,r,j,n,e,d,q,c,b)))
def j4K[LP]:=c8 c2 (LP.lp (u8 unc2 j23))
theorem j7e(i f k e g d b j a c):j4K i f k e g d b j a c=lpK (j23 i f k e g d b j a c) (λh=>j4K h.1 h.2.1 h.2.2.1 h.2.2.2.1 h.2.2.2.2.1 h.2.2.2.2.2.1 h.2.2.2.2.2.2.1 h.2.2.2.2.2.2.2.1 h.2.2.2.2.2.2.2.2.1 h.2.2.2.2.2.2.2.2.2):=j0j _ _
def j24(m o:K)(p:Y K)(i:K)(l:Tn55)(e:Tn49)(d:Tn26)(n:U)(c:Tn66)(g:Tn61)(b:Tn29):O ((K×K×(Y K)×K×Tn55×Tn49×Tn26×U×Tn66×Tn61×Tn29) ⊕ (K×(Y K)×K×Tn55×Tn49×Tn26×U×Tn66×Tn61×Tn29)):=cond (N (o>0)) ((j2W p i ((Ä l.length ()),(Ä e.length ()),(Ä d.length ()),(Ä c.length ()))).bind λa=>let f:Tn29:=[a.1]
 cond (N (W b+W f<=j06)) (let k:Tn29:=b++f
 let j:=w64 (o-1)
 M (.inl (m,j,a.2.1,a.2.2,l,e,d,n,c,g,k))) X) (M (.inr (m,p,i,l,e,d,n,c,g,b)))
def j6r[LP]:=c8 c3 (LP.lp (u8 unc3 j24))
abbrev j7f:=eq11 j24 j6r
def j25[LP](r:K)(s:Y K)(l:K)(q:Tn55)(k:Tn49)(j:Tn26)(e:Tn66):O ((K×(Y K)×K×Tn55×Tn49×Tn26×Tn66) ⊕ ((Y K)×K×Tn55×Tn49×Tn26×Tn66)):=cond (N (r>0)) (let i:Y ByteArray:=[(À #[102,105,114,115,116]),(À #[115,101,99,111,110,100]),(À #[116,104,105,114,100])]
 let m:=S e.length
 let g:=Æ m 3
 cond (inR g i.length) (let o:=L i g.toNat J
 (j02 s l 4).bind λc=>(j4K r c.1 c.2.1 c.2.2 q k j o e ([]:Tn61)).bind λb=>(j02 b.2.1 b.2.2.1 4).bind λd=>(j6r b.1 d.1 d.2.1 d.2.2 b.2.2.2.1 b.2.2.2.2.1 b.2.2.2.2.2.1 b.2.2.2.2.2.2.1 b.2.2.2.2.2.2.2.1 b.2.2.2.2.2.2.2.2 ([]:Tn29)).bind λa=>let f:Tn66:=[(a.2.2.2.2.2.2.1,a.2.2.2.2.2.2.2.2)]
 cond (N (W a.2.2.2.2.2.2.2.1+W f<=j06)) (let n:Tn66:=a.2.2.2.2.2.2.2.1++f
 let p:=w64 (a.1-1)
 M (.inl (p,a.2.1,a.2.2.1,a.2.2.2.1,a.2.2.2.2.1,a.2.2.2.2.2.1,n))) X) X) (M (.inr (s,l,q,k,j,e)))
def j4L[LP]:=lp7 j25
theorem j7g(f g d e c b a):j4L f g d e c b a=lpK (j25 f g d e c b a) (λh=>j4L h.1 h.2.1 h.2.2.1 h.2.2.2.1 h.2.2.2.2.1 h.2.2.2.2.2.1 h.2.2.2.2.2.2):=j0j _ _
def j6i[LP](f:Y K)(d e:K):O (Tn72×(Y K)×K):=(j6T f d).bind λa=>(j02 a.2.1 a.2.2 e).bind λc=>let g:=w64 (1+c.1)
 (j4L g c.2.1 c.2.2 a.1.1 a.1.2.1 a.1.2.2.1 ([]:Tn66)).bind λb=>M (b.2.2,b.1,b.2.1)
def j8H(a:Tn72):O (Tn55×Tn49×Tn26×U×Tn61×Tn29):=cond (N (W ([]:Tn55)+W a.1<=j06)) (let m:Tn55:=([]:Tn55)++a.1
 cond (N (W ([]:Tn49)+W a.2.1<=j06)) (let g:Tn49:=([]:Tn49)++a.2.1
 cond (N (W ([]:Tn26)+W a.2.2.1<=j06)) (let e:Tn26:=([]:Tn26)++a.2.2.1
 let j:=S a.2.2.2.length
 cond (N (0<j)) (cond (inR 0 a.2.2.2.length) (let c:=L a.2.2.2 0 (J,[],[])
 cond (N (W ([]:Tn61)+W c.2.1<=j06)) (let i:Tn61:=([]:Tn61)++c.2.1
 cond (N (W ([]:Tn29)+W c.2.2<=j06)) (let f:Tn29:=([]:Tn29)++c.2.2
 let d:=S a.2.2.2.length
 cond (N (1<d)) (cond (inR 1 a.2.2.2.length) (let b:=L a.2.2.2 1 (J,[],[])
 cond (N (W ([]:Tn61)+W b.2.1<=j06)) (let k:Tn61:=([]:Tn61)++b.2.1
 cond (N (W ([]:Tn29)+W b.2.2<=j06)) (let l:Tn29:=([]:Tn29)++b.2.2
 X) X) X) X) (M (m,g,e,c.1,i,f))) X) X) X) (X)) X) X) X
def j60(a:Tn61)(b:K)(c:Tn60->Tn60):Tn61:=Ã a b.toNat (c (L a b.toNat (J,0,(0,0),0,0,[],[],0,0)))
def jbO(a:Tn49)(b:K)(c:Tn45->Tn45):Tn49:=Ã a b.toNat (c (L a b.toNat (J,0,[],0,0,Z)))
def jbP{l:Type}(m:K)(d:Tn61)(k:Y K)(j:K)(f:Tn61->Y K->K->O  l):O l:=
 let i:=S d.length
 cond (i==0) (f d k j) ((j02 k j i).bind λe=>cond (inR e.1 d.length) ((j02 e.2.1 e.2.2 8).bind λc=>(cond (c.1==0) ((j0b c.2.1 c.2.2 [0,1,400,401]).bind λb=>
(f (j60 d e.1 λa=>(a.1,a.2.1,a.2.2.1,a.2.2.2.1,b.1,a.2.2.2.2.2)) b.2.1 b.2.2)) (cond (c.1==1) ((j0b c.2.1 c.2.2 [0,1,(-5),98979,98981]).bind λb=>
(f (j60 d e.1 λa=>(a.1,a.2.1,(b.1,a.2.2.1.2),a.2.2.2)) b.2.1 b.2.2)) (cond (c.1==2) (f (j60 d e.1 λa=>(a.1,a.2.1,a.2.2.1,a.2.2.2.1,a.2.2.2.2.1,[],a.2.2.2.2.2.2)) c.2.1 c.2.2) (cond (c.1==3) ((j0b c.2.1 c.2.2 [0,(-1),m]).bind λb=>
(f (j60 d e.1 λa=>(a.1,a.2.1,a.2.2.1,a.2.2.2.1,a.2.2.2.2.1,[b.1],a.2.2.2.2.2.2)) b.2.1 b.2.2)) (cond (c.1==4) ((j0b c.2.1 c.2.2 [(-1),3]).bind λb=>
(f (j60 d e.1 λa=>(a.1,a.2.1,a.2.2.1,b.1,a.2.2.2.2)) b.2.1 b.2.2)) (cond (c.1==5) ((j0b c.2.1 c.2.2 [0,1,2,3]).bind λb=>
(f (j60 d e.1 λa=>(a.1,a.2.1,a.2.2.1,a.2.2.2.1,a.2.2.2.2.1,a.2.2.2.2.2.1,a.2.2.2.2.2.2.1,a.2.2.2.2.2.2.2.1,b.1)) b.2.1 b.2.2)) (cond (c.1==6) ((j0b c.2.1 c.2.2 [0,1,(-1)]).bind λb=>
(f (j60 d e.1 λa=>(a.1,a.2.1,a.2.2.1,a.2.2.2.1,a.2.2.2.2.1,a.2.2.2.2.2.1,a.2.2.2.2.2.2.1,b.1,a.2.2.2.2.2.2.2.2)) b.2.1 b.2.2)) (cond (c.1==7) (
let g:Y ByteArray:=[(À #[97,100,97]),(À #[98,111,98]),(À #[120,32,121])]
(j02 c.2.1 c.2.2 3).bind λb=>
cond (inR b.1 g.length) (f (j60 d e.1 λa=>((L g b.1.toNat J),a.2)) b.2.1 b.2.2) X) (f d c.2.1 c.2.2)))))))))) X)
def jbQ{g:Type}(j f i m:Nat)(k:Y K)(l:K)(d:Tn24->Y K->K->O  g):O g:=(j2W k l ((Ä j ()),(Ä f ()),(Ä i ()),(Ä m ()))).bind λa=>(j02 a.2.1 a.2.2 5).bind λb=>(cond (b.1==0) (d (a.1.1,a.1.2.1,a.1.2.2.1,a.1.2.2.2.1,a.1.2.2.2.1) b.2.1 b.2.2) (cond (b.1==1) ((j0b b.2.1 b.2.2 [(-1),(-2),(S f)]).bind λc=>
(d (a.1.1,c.1,a.1.2.2) c.2.1 c.2.2)) (cond (b.1==2) ((j0b b.2.1 b.2.2 [0,1,a.1.2.1]).bind λc=>
(d (a.1.1,a.1.2.1,c.1,a.1.2.2.2) c.2.1 c.2.2)) (cond (b.1==3) ((j0b b.2.1 b.2.2 [0,(-1)]).bind λc=>
(j0b c.2.1 c.2.2 [8551872000,8551958399,8551958400,8589934592]).bind λe=>
(d (a.1.1,a.1.2.1,a.1.2.2.1,c.1,e.1) e.2.1 e.2.2)) (cond (b.1==4) ((j0b b.2.1 b.2.2 [(-1),3]).bind λc=>
(d (c.1,a.1.2) c.2.1 c.2.2)) (d a.1 b.2.1 b.2.2))))))
def jdD(g:Tn55)(e:Tn49)(i:Tn26)(k:Tn66)(n:Y K)(o:K)(m p:Y K->K->O  (Tn72×(Y K)×K)):O (Tn72×(Y K)×K):=(j02 n o 12).bind λb=>(cond (b.1==0) ((j02 b.2.1 b.2.2 (S g.length)).bind λa=>
(j0b a.2.1 a.2.2 [30,64800,64860,(-64800),(-64801)]).bind λc=>
(cond (inR a.1 g.length) (M (((Ã g a.1.toNat ((L g a.1.toNat (J,0,[])).1,c.1,(L g a.1.toNat (J,0,[])).2.2)),e,i,k),c.2.1,c.2.2)) X)) (cond (b.1==1) ((j02 b.2.1 b.2.2 (S e.length)).bind λa=>
(j0b a.2.1 a.2.2 [(-1),(S g.length)]).bind λc=>
(cond (inR a.1 e.length) (M ((g,(jbO e a.1 λf=>(f.1,c.1,f.2.2)),i,k),c.2.1,c.2.2)) X)) (cond (b.1==2) ((j02 b.2.1 b.2.2 (S e.length)).bind λa=>
let d:Y ByteArray:=[(À #[110,111,98,111,100,121]),J,(À #[65,100,97]),(À #[97,100,97]),(À #[97,45,49,95,98])]
(j02 a.2.1 a.2.2 5).bind λc=>
cond (inR c.1 d.length) (cond (inR a.1 e.length) (M ((g,(jbO e a.1 λf=>((L d c.1.toNat J),f.2)),i,k),c.2.1,c.2.2)) X) X) (cond (b.1==3) ((j02 b.2.1 b.2.2 (S e.length)).bind λa=>
(j0b a.2.1 a.2.2 [1,(-3600),604800,608400]).bind λc=>
(cond (inR a.1 e.length) (M ((g,(jbO e a.1 λf=>(f.1,f.2.1,f.2.2.1,f.2.2.2.1,c.1,f.2.2.2.2.2)),i,k),c.2.1,c.2.2)) X)) (cond (b.1==4) ((j02 b.2.1 b.2.2 (S e.length)).bind λa=>
(j0b a.2.1 a.2.2 [0,(-1),5]).bind λc=>
(j0b c.2.1 c.2.2 [5,604800,604801]).bind λj=>
(cond (inR a.1 e.length) (M ((g,(jbO e a.1 λf=>(f.1,f.2.1,[(c.1,j.1)],f.2.2.2)),i,k),j.2.1,j.2.2)) X)) (cond (b.1==5) (
let d:Y ByteArray:=[(À #[100,97,121,115]),(À #[111,116,104,101,114])]
(j02 b.2.1 b.2.2 2).bind λa=>
cond (inR a.1 d.length) ((j0b a.2.1 a.2.2 [5,(-1)]).bind λc=>
(j0b c.2.1 c.2.2 [5,6,100000]).bind λj=>
let l:Tn26:=[((L d a.1.toNat J),0,[c.1,j.1])]
(cond (N (W i+W l<=j06)) (M ((g,e,(i++l),k),j.2.1,j.2.2)) X)) X) (cond (b.1==6) (
let d:Y ByteArray:=[(À #[102,105,114,115,116]),(À #[102,111,117,114,116,104])]
(j02 b.2.1 b.2.2 2).bind λa=>
cond (inR a.1 d.length) (M ((g,e,i,(k++[((L d a.1.toNat J),[],[])])),a.2.1,a.2.2)) X) (cond (b.1==7) (m b.2.1 b.2.2) (cond (b.1==8) (m b.2.1 b.2.2) (cond (b.1==9) (m b.2.1 b.2.2) (p b.2.1 b.2.2)))))))))))
def j56(d:Y K)(c:K)(b:Tn72):O (Tn72×(Y K)×K):=(j8H b).bind λa=>jdD a.1 a.2.1 a.2.2.1 [a.2.2.2] d c (λf g=>(j02 f g 1).bind λe=>cond (inR e.1 1) (jbP (S a.2.1.length) a.2.2.2.2.1 e.2.1 e.2.2 λj f g=>M ((a.1,a.2.1,a.2.2.1,[(a.2.2.2.1,j,a.2.2.2.2.2)]),f,g)) X) (λf g=>(j02 f g 1).bind λe=>cond (inR e.1 1) (jbQ a.1.length a.2.1.length a.2.2.1.length 1 e.2.1 e.2.2 λi f g=>cond (N (W a.2.2.2.2.2+W [i]<=j06)) (M ((a.1,a.2.1,a.2.2.1,[(a.2.2.2.1,a.2.2.2.2.1,(a.2.2.2.2.2++[i]))]),f,g)) X) X)
def jck(a:Tn72):O (Tn55×Tn49×Tn26×U×U×Tn61×Tn29×Tn61×Tn29):=cond (N (W ([]:Tn55)+W a.1<=j06)) (let q:Tn55:=([]:Tn55)++a.1
 cond (N (W ([]:Tn49)+W a.2.1<=j06)) (let l:Tn49:=([]:Tn49)++a.2.1
 cond (N (W ([]:Tn26)+W a.2.2.1<=j06)) (let j:Tn26:=([]:Tn26)++a.2.2.1
 let n:=S a.2.2.2.length
 cond (N (0<n)) (cond (inR 0 a.2.2.2.length) (let d:=L a.2.2.2 0 (J,[],[])
 cond (N (W ([]:Tn61)+W d.2.1<=j06)) (let m:Tn61:=([]:Tn61)++d.2.1
 cond (N (W ([]:Tn29)+W d.2.2<=j06)) (let k:Tn29:=([]:Tn29)++d.2.2
 let g:=S a.2.2.2.length
 cond (N (1<g)) (cond (inR 1 a.2.2.2.length) (let b:=L a.2.2.2 1 (J,[],[])
 cond (N (W ([]:Tn61)+W b.2.1<=j06)) (let e:Tn61:=([]:Tn61)++b.2.1
 cond (N (W ([]:Tn29)+W b.2.2<=j06)) (let f:Tn29:=([]:Tn29)++b.2.2
 let i:=S a.2.2.2.length
 cond (N (2<i)) (cond (inR 2 a.2.2.2.length) (let c:=L a.2.2.2 2 (J,[],[])
 cond (N (W ([]:Tn61)+W c.2.1<=j06)) (let o:Tn61:=([]:Tn61)++c.2.1
 cond (N (W ([]:Tn29)+W c.2.2<=j06)) (let p:Tn29:=([]:Tn29)++c.2.2
 X) X) X) X) (M (q,l,j,d.1,b.1,m,k,e,f))) X) X) X) (X)) X) X) X) (X)) X) X) X
def j7C(g:Y K)(f:K)(b:Tn72):O (Tn72×(Y K)×K):=(jck b).bind λa=>jdD a.1 a.2.1 a.2.2.1 [(a.2.2.2.1,a.2.2.2.2.2.1,a.2.2.2.2.2.2.1),(a.2.2.2.2.1,a.2.2.2.2.2.2.2)] g f (λd e=>(j02 d e 2).bind λc=>(cond (c.1==0) (jbP (S a.2.1.length) a.2.2.2.2.2.1 c.2.1 c.2.2 λj d e=>M ((a.1,a.2.1,a.2.2.1,[(a.2.2.2.1,j,a.2.2.2.2.2.2.1),(a.2.2.2.2.1,a.2.2.2.2.2.2.2)]),d,e)) (cond (c.1==1) (jbP (S a.2.1.length) a.2.2.2.2.2.2.2.1 c.2.1 c.2.2 λj d e=>M ((a.1,a.2.1,a.2.2.1,[(a.2.2.2.1,a.2.2.2.2.2.1,a.2.2.2.2.2.2.1),(a.2.2.2.2.1,j,a.2.2.2.2.2.2.2.2)]),d,e)) X))) (λd e=>(j02 d e 2).bind λc=>(cond (c.1==0) (jbQ a.1.length a.2.1.length a.2.2.1.length 2 c.2.1 c.2.2 λi d e=>cond (N (W a.2.2.2.2.2.2.1+W [i]<=j06)) (M ((a.1,a.2.1,a.2.2.1,[(a.2.2.2.1,a.2.2.2.2.2.1,(a.2.2.2.2.2.2.1++[i])),(a.2.2.2.2.1,a.2.2.2.2.2.2.2)]),d,e)) X) (cond (c.1==1) (jbQ a.1.length a.2.1.length a.2.2.1.length 2 c.2.1 c.2.2 λi d e=>cond (N (W a.2.2.2.2.2.2.2.2+W [i]<=j06)) (M ((a.1,a.2.1,a.2.2.1,[(a.2.2.2.1,a.2.2.2.2.2.1,a.2.2.2.2.2.2.1),(a.2.2.2.2.1,a.2.2.2.2.2.2.2.1,(a.2.2.2.2.2.2.2.2++[i]))]),d,e)) X) X)))
def j6V(b:Y K)(a:K)(c:Tn72):O (Tn72×(Y K)×K):=
 orF (j56 b a c) (j7C b a c)
def jgo(a:K):O Bool:=M (cond (N (a>=48)) (N (a<=57)) Z)
def j4V(a:U)(b:K):O ((U×K) ⊕ (Ç ⊕ È)):=
 let j:=S (Å a)
 cond (N (b<j)) (cond (inR b (Å a)) (let c:=j6l a b
 cond ((inR b (Å a)) || !(!(N (c<97)))) (let e:=j6l a b
 cond ((inR b (Å a)) || !(cond (N (c<97)) Á (N (e>122)))) (let k:=j6l a b
 cond (cond (N (c<97)) Á (N (e>122))) ((jgo k).bind λd=>cond ((inR b (Å a)) || !(!d)) (let f:=j6l a b
 cond ((inR b (Å a)) || !(cond (!d) (f != 95) Z)) (let l:=j6l a b
 cond (cond (cond (!d) (f != 95) Z) (l != 45) Z) (M (.inr (.inl Z))) (let g:=w64 (b+1)
 M (.inl (a,g)))) X) X) (cond ((inR b (Å a)) || !Z) (let m:=j6l a b
 cond ((inR b (Å a)) || !Z) (let n:=j6l a b
 let i:=w64 (b+1)
 M (.inl (a,i))) X) X)) X) X) X) (M (.inr (.inr ())))
def jaH[LP]:=lp2 j4V
theorem jcy(b a):jaH b a=lpK (j4V b a) (λh=>jaH h.1 h.2):=j0j _ _
def jfA[LP](a:U):O Bool:=
 let e:=S (Å a)
 let d:=S (Å a)
 cond ((inR 0 (Å a)) || !(!(cond (N (e<1)) Á (N (d>24))))) (let c:=j6l a 0
 let b:Bool:=cond (cond (N (e<1)) Á (N (d>24))) Á (N (c<97))
 cond ((inR 0 (Å a)) || !(!b)) (let f:=j6l a 0
 cond (cond b Á (N (f>122))) (M Z) ((jaH a 0).bind λg=>sumC g (λi=>M i) (λj=>M Á))) X) X
def j4W(a:Y U)(f b:K):O (((Y U)×K×K) ⊕ (K ⊕ È)):=cond (N (b<f)) (cond (inR b a.length) (let e:=L a b.toNat J
 cond (inR f a.length) (let c:=L a f.toNat J
 cond (Â e==Â c) (M (.inr (.inl 4))) (let d:=w64 (b+1)
 M (.inl (a,f,d)))) X) X) (M (.inr (.inr ())))
def jd2[LP]:=lp3 j4W
abbrev jcz:=eq3 j4W jd2
def j9x[LP](a:Y U)(b:K):O Int:=cond (inR b a.length) (let e:=L a b.toNat J
 (jfA e).bind λc=>cond (!c) (M 2) ((jd2 a b 0).bind λd=>sumC d (λf=>M f) (λg=>M 0))) X
def j6y(a b c:K):O Bool:=M (cond (N (a>=b)) (N (a<=c)) Z)
def j7P(a:Tn38):O Bool:=(j6y a.1 1970 2240).bind λi=>cond i ((j6y a.2.1 a.1 2240).bind λc=>cond c ((j6y a.2.2.1 1 12).bind λe=>cond e ((j6y a.2.2.2.1 1 5).bind λg=>cond g ((j6y a.2.2.2.2.1 0 6).bind λb=>cond b ((j6y a.2.2.2.2.2.1 0 86399).bind λd=>cond d ((j6y a.2.2.2.2.2.2 (-64800) 64800).bind λf=>M f) (M Z)) (M Z)) (M Z)) (M Z)) (M Z)) (M Z)
def jfB(a:K):O Bool:=
 let d:=Æ a 4
 let c:=Æ a 100
 let b:=Æ a 400
 M (cond (d==0) (cond (c != 0) Á (b==0)) Z)
def j5z(a b d:K):O Int:=cond (a==d) (M 30) (cond (a==2) ((jfB b).bind λc=>cond c (M 29) (M 28)) (M 0))
def j5A(a b c:K):O Int:=cond (a==c) (M 31) (cond (a==4) (j5z a b 4) (cond (a==6) (j5z a b 6) (cond (a==9) (j5z a b 9) (j5z a b 11))))
def jaI(b a:K):O Int:=cond (a==1) (j5A a b 1) (cond (a==3) (j5A a b 3) (cond (a==5) (j5A a b 5) (cond (a==7) (j5A a b 7) (cond (a==8) (j5A a b 8) (cond (a==10) (j5A a b 10) (j5A a b 12))))))
def jdE(a:Tn3):O Bool:=cond (N (a.1>=1970)) (cond (N (a.1<=2240)) (cond (N (a.2.1>=1)) (cond (N (a.2.1<=12)) (cond (N (a.2.2>=1)) ((jaI a.1 a.2.1).bind λb=>M (N (a.2.2<=b))) (M Z)) (M Z)) (M Z)) (M Z)) (M Z)
def jdF(a:K):O Int:=
 let i:=w64 (a-1970)
 let m:=w64 (i*365)
 let j:=w64 (a-1969)
 let k:=w64 (É j 4)
 let l:=w64 (m+k)
 let e:=w64 (a-1901)
 let g:=w64 (É e 100)
 let f:=w64 (l-g)
 let b:=w64 (a-1601)
 let c:=w64 (É b 400)
 let d:=w64 (f+c)
 M d
def j5B(i f g a b:K):O ((K×K×K×K×K) ⊕ (K×K×K×K)):=cond (N (f<a)) ((jaI g f).bind λe=>let d:=w64 (i+e)
 let c:=w64 (f+1)
 M (.inl (d,c,g,a,b))) (M (.inr (i,g,a,b)))
def jeF[LP]:=lp5 j5B
abbrev jdG:=eq5 j5B jeF
def jix[LP](a:Tn3):O (K×K):=(jdE a).bind λf=>cond (!f) (M (0,1)) ((jdF a.1).bind λc=>(jeF c 1 a.1 a.2.1 a.2.2).bind λd=>let b:=w64 (d.1+d.2.2.2)
 let e:=w64 (b-1)
 M (e,0))
def jaJ(a:K):O Int:=
 let d:=Æ a 7
 let c:=w64 (d+10)
 let b:=Æ c 7
 M b
def j5C(f g e i d a:K):O ((K×K×K×K×K×K) ⊕ (K×K×K×K×K)):=(jaJ a).bind λc=>cond (c != i) (let b:=w64 (a+1)
 M (.inl (f,g,e,i,d,b))) (M (.inr (f,g,e,d,a)))
def jeG[LP]:=lp6 j5C
abbrev jdH:=eq6 j5C jeG
def j5D(g i f a:K):O ((K×K×K×K) ⊕ (K)):=
 let c:=w64 (a+7)
 (jaI g i).bind λd=>let b:=w64 (f+d)
 cond (N (c<b)) (let e:=w64 (a+7)
 M (.inl (g,i,f,e))) (M (.inr a))
def jeH[LP]:=lp4 j5D
abbrev jdI:=eq4 j5D jeH
def jiy[LP](e c b a:K):O (K×K):=(jix (e,c,1)).bind λf=>let g:Bool:=cond (cond (f.2 != 0) Á (N (b<1))) Á (N (b>5))
 let j:Bool:=cond (cond g Á (N (a<0))) Á (N (a>6))
 cond j (M (0,1)) ((jeG e c b a f.1 f.1).bind λd=>cond (N (d.2.2.1<5)) (let l:=w64 (d.2.2.1-1)
 let i:=w64 (7*l)
 let k:=w64 (d.2.2.2.2+i)
 M (k,0)) ((jeH d.1 d.2.1 d.2.2.2.1 d.2.2.2.2).bind λm=>M (m,0)))
def j3z(j:Tn43)(k i d f a:K)(c:Tn2):O ((Tn43×K×K×K×K×K×Tn2) ⊕ (Tn43×K×K×K×K×K×Tn2)):=cond (N (d>0)) (let b:=w64 (d-1)
 cond (inR b c.length) (let g:=(L c b.toNat (0,0)).1
 cond (N (g>f)) (let e:=w64 (d-1)
 M (.inl (j,k,i,e,f,a,c))) (M (.inr (j,k,i,d,f,a,c)))) X) (M (.inr (j,k,i,d,f,a,c)))
def j5j[LP]:=lp7 j3z
abbrev j7Q:=eq7 j3z j5j
def j2q[LP](c:Tn43)(d v:K)(u:Tn2):O ((Tn43×K×K×Tn2) ⊕ (Tn43×K×Tn2)):=cond (inR d c.length) (let s:=L c d.toNat (0,0,0,0,0,0,0)
 cond (N (v<=s.2.1)) (cond (inR d c.length) (let p:=L c d.toNat (0,0,0,0,0,0,0)
 cond (inR d c.length) (let j:=L c d.toNat (0,0,0,0,0,0,0)
 cond (inR d c.length) (let k:=L c d.toNat (0,0,0,0,0,0,0)
 (jiy v p.2.2.1 j.2.2.2.1 k.2.2.2.2.1).bind λq=>let i:=w64 (q.1*86400)
 cond (inR d c.length) (let m:=L c d.toNat (0,0,0,0,0,0,0)
 let l:=w64 (i+m.2.2.2.2.2.1)
 cond (inR d c.length) (let o:=L c d.toNat (0,0,0,0,0,0,0)
 let n:=S u.length
 (j5j c d v n l o.2.2.2.2.2.2 u).bind λa=>let g:Tn2:=[(a.2.2.2.2.1,a.2.2.2.2.2.1)]
 cond (N (W a.2.2.2.2.2.2+W g<=j06)) (let b:Tn2:=a.2.2.2.2.2.2++g
 let e:=w64 (a.2.2.2.1+1)
 cond (N (0<=e)&&N (e<=(S b.length))) (cond (N (0<=a.2.2.2.1)&&N (a.2.2.2.1<=(S b.length))) (let f:Tn2:=over b e.toNat (Ì a.2.2.2.1.toNat b)
 let w:=S (min (W (Ì a.2.2.2.1.toNat b)) (W b-e.toNat))
 cond (inR a.2.2.2.1 f.length) (let t:Tn2:=Ã f a.2.2.2.1.toNat (a.2.2.2.2.1,a.2.2.2.2.2.1)
 let r:=w64 (a.2.2.1+1)
 M (.inl (a.1,a.2.1,r,t))) X) X) X) X) X) X) X) X) X) (M (.inr (c,d,u)))) X
def j6W[LP]:=lp4 j2q
abbrev j7R:=eq4 j2q j6W
def j2r[LP](c:Tn43)(d:K)(g:Tn2):O ((Tn43×K×Tn2) ⊕ (Tn2)):=
 let b:=S c.length
 cond (N (d<b)) (cond (inR d c.length) (let e:=L c d.toNat (0,0,0,0,0,0,0)
 (j6W c d e.1 g).bind λa=>let f:=w64 (a.2.1+1)
 M (.inl (a.1,f,a.2.2))) X) (M (.inr g))
def j5k[LP]:=lp3 j2r
abbrev j7S:=eq3 j2r j5k
def j6X[LP](a:Tn43):O Tn2:=(j5k a 0 ([]:Tn2)).bind λb=>M b
def j1y(n c:K)(o:U)(d:K)(b:Tn43):O ((K×K×U×K×Tn43) ⊕ (K ⊕ (K×U×K×Tn43))):=
 let k:=S b.length
 cond (N (c<k)) (cond (inR c b.length) (let a:=L b c.toNat (0,0,0,0,0,0,0)
 (j7P a).bind λm=>cond (!m) (M (.inr (.inl 1))) (cond (inR c b.length) (let g:=L b c.toNat (0,0,0,0,0,0,0)
 cond (inR c b.length) (let j:=L b c.toNat (0,0,0,0,0,0,0)
 let i:=w64 (g.2.1-j.1)
 let e:=w64 (i+1)
 let f:=w64 (n+e)
 let l:=w64 (c+1)
 M (.inl (f,l,o,d,b))) X) X)) X) (M (.inr (.inr (n,o,d,b))))
def j3c[LP]:=lp5 j1y
theorem j5E(d c e a b):j3c d c e a b=lpK (j1y d c e a b) (λh=>j3c h.1 h.2.1 h.2.2.1 h.2.2.2.1 h.2.2.2.2):=j0j _ _
def j1e(o e:K)(d c:Tn2):O ((K×K×Tn2×Tn2) ⊕ (K ⊕ Tn2)):=
 let p:=S c.length
 cond (N (e<p)) (cond (inR e c.length) (let u:=(L c e.toNat (0,0)).2
 cond (u==o) (let x:=w64 (e+1)
 M (.inl (o,x,d,c))) (cond (inR e c.length) (let r:=(L c e.toNat (0,0)).1
 let b:=w64 (r-o)
 cond (inR e c.length) (let a:=(L c e.toNat (0,0)).2
 let s:=w64 (a-o)
 (j6y s (-86399) 86399).bind λq=>cond (!q) (M (.inr (.inl 6))) ((j6y b 0 8589934592).bind λw=>cond (!w) (M (.inr (.inl 6))) (let t:=S d.length
 cond (N (t>0)) (let n:=S d.length
 let g:=w64 (n-1)
 cond (inR g d.length) (let j:=(L d g.toNat (0,0)).1
 let k:=w64 (b-j)
 cond (N (k<604800)) (M (.inr (.inl 6))) (let f:Tn2:=[(b,a)]
 cond (N (W d+W f<=j06)) (let l:Tn2:=d++f
 let v:=w64 (e+1)
 M (.inl (a,v,l,c))) X)) X) (let i:Tn2:=[(b,a)]
 cond (N (W d+W i<=j06)) (let m:Tn2:=d++i
 let y:=w64 (e+1)
 M (.inl (a,y,m,c))) X)))) X) X)) X) (M (.inr (.inr d)))
def j3d[LP]:=lp4 j1e
theorem j4d(b c d a):j3d b c d a=lpK (j1e b c d a) (λh=>j3d h.1 h.2.1 h.2.2.1 h.2.2.2):=j0j _ _
def j0x[LP](a:Tn53):O (Tn2×K):=(j6y a.2.1 (-64800) 64800).bind λe=>cond (!e) (M (([]:Tn2),1)) (let c:=S a.2.2.length
 cond (N (c>16)) (M (([]:Tn2),5)) ((j3c 0 0 a.1 a.2.1 a.2.2).bind λg=>sumC g (λk=>M (([]:Tn2),k)) (λj=>cond (N (j.1>640)) (M (([]:Tn2),5)) ((j6X j.2.2.2).bind λd=>(j3d j.2.2.1 0 ([]:Tn2) d).bind λi=>sumC i (λb=>M (([]:Tn2),b)) (λf=>M (f,0))))))
def j5F[LP](a:Tn53):O Int:=(j0x a).bind λb=>M b.2
def j3O(i:Ç)(b:K)(j:U)(g:K)(a:Tn43):O ((Ç×K×U×K×Tn43) ⊕ (Ç)):=
 let f:=S a.length
 cond (N (b<f)) (cond ((inR b a.length) || !i) (let e:=L a b.toNat (0,0,0,0,0,0,0)
 let d:=Æ e.2.2.2.2.2.2 60
 let c:=w64 (b+1)
 M (.inl ((cond i (d==0) Z),c,j,g,a))) X) (M (.inr i))
def j9I[LP]:=lp5 j3O
abbrev jac:=eq5 j3O j9I
def j7u[LP](a:Tn53):O Bool:=
 let c:=Æ a.2.1 60
 (j9I (c==0) 0 a.1 a.2.1 a.2.2).bind λb=>M b
def j4t[LP](b:K)(d:Tn55)(m:Tn49)(n:Tn26)(o:Tn66)(p:Y U):O ((K×Tn55×Tn49×Tn26×Tn66×(Y U)) ⊕ (K ⊕ È)):=
 let l:=S d.length
 cond (N (b<l)) (cond (inR b d.length) (let g:=L d b.toNat (J,0,[])
 cond (N (W p+W [g.1]<=j06)) (let i:Y ByteArray:=p++[g.1]
 (j9x i b).bind λe=>cond (e != 0) (M (.inr (.inl e))) (cond (inR b d.length) (let a:=L d b.toNat (J,0,[])
 (j5F a).bind λf=>cond ((inR b d.length) || !(!(f != 0))) (let c:=L d b.toNat (J,0,[])
 cond (f != 0) (M (.inr (.inl 8))) ((j7u c).bind λk=>cond (!k) (M (.inr (.inl 8))) (let j:=w64 (b+1)
 M (.inl (j,d,m,n,o,i))))) X) X)) X) X) (M (.inr (.inr ())))
def jbR[LP]:=lp6 j4t
abbrev jbS:=eq6 j4t jbR
def jdJ[LP](a:Tn72):O Int:=(jbR 0 a.1 a.2.1 a.2.2.1 a.2.2.2 ([]:(Y U))).bind λb=>sumC b (λc=>M c) (λd=>M 0)
def j5S(a b c:K):O Bool:=M (cond (N (a>=b)) (N (a<=c)) Z)
def j2U(a:Tn2)(b:K):O ((Tn2×K) ⊕ (K ⊕ È)):=
 let m:=S a.length
 cond (N (b<m)) (cond (inR b a.length) (let k:=L a b.toNat (0,0)
 cond (N (k.1<0)) (M (.inr (.inl 1))) (cond (inR b a.length) (let l:=L a b.toNat (0,0)
 cond (inR b a.length) (let j:=L a b.toNat (0,0)
 cond (N (l.1>=j.2)) (M (.inr (.inl 1))) (cond (inR b a.length) (let e:=L a b.toNat (0,0)
 cond (N (e.2>604800)) (M (.inr (.inl 1))) (cond (N (b>0)) (cond (inR b a.length) (let d:=L a b.toNat (0,0)
 let c:=w64 (b-1)
 cond (inR c a.length) (let f:=L a c.toNat (0,0)
 cond (N (d.1<f.2)) (M (.inr (.inl 6))) (let i:=w64 (b+1)
 M (.inl (a,i)))) X) X) (let g:=w64 (b+1)
 M (.inl (a,g))))) X)) X) X)) X) (M (.inr (.inr ())))
def j7T[LP]:=lp2 j2U
abbrev j6Y:=eq2 j2U j7T
def j6Z[LP](a:Tn2):O Int:=
 let c:=S a.length
 cond (N (c>14)) (M 5) ((j7T a 0).bind λb=>sumC b (λd=>M d) (λe=>M 0))
def jbT(a:K):O Bool:=(j5S a 0 604800).bind λc=>let b:=Æ a 3600
 M (cond c (b==0) Z)
def j4e[LP](e:K)(s:Tn55)(b:Tn49)(p:Tn26)(q:Tn66)(r:Y U):O ((K×Tn55×Tn49×Tn26×Tn66×(Y U)) ⊕ (K ⊕ È)):=
 let l:=S b.length
 cond (N (e<l)) (cond (inR e b.length) (let a:=L b e.toNat (J,0,[],0,0,Z)
 cond (N (W r+W [a.1]<=j06)) (let c:Y ByteArray:=r++[a.1]
 let n:Bool:=Â a.1==Â (À #[110,111,98,111,100,121])
 cond n (M (.inr (.inl 2))) ((j9x c e).bind λd=>cond (d != 0) (M (.inr (.inl d))) (let o:=S s.length
 let k:=w64 (o-1)
 (j5S a.2.1 0 k).bind λi=>cond (!i) (M (.inr (.inl 3))) ((j6Z a.2.2.1).bind λm=>cond (m != 0) (M (.inr (.inl 8))) ((jbT a.2.2.2.1).bind λj=>cond (!j) (M (.inr (.inl 1))) ((jbT a.2.2.2.2.1).bind λf=>cond (!f) (M (.inr (.inl 1))) (let g:=w64 (e+1)
 M (.inl (g,s,b,p,q,c))))))))) X) X) (M (.inr (.inr ())))
def jaK[LP]:=lp6 j4e
abbrev jbo:=eq6 j4e jaK
def jcl[LP](a:Tn72):O Int:=(jaK 0 a.1 a.2.1 a.2.2.1 a.2.2.2 ([]:(Y U))).bind λb=>sumC b (λc=>M c) (λd=>M 0)
def j8I  : O Int:=(jdF 2241).bind λb=>let a:=w64 (b-1)
 M a
def j31(o g:K)(p:Tn55)(b:Tn49)(c:Tn26)(e:Tn66)(m:U)(d:K)(a:Y K)(n:Y U):O ((K×K×Tn55×Tn49×Tn26×Tn66×U×K×(Y K)×(Y U)) ⊕ (K ⊕ (K×Tn55×Tn49×Tn26×Tn66×U×K×(Y K)×(Y U)))):=
 let k:=S a.length
 cond (N (g<k)) (cond (inR g a.length) (let l:=L a g.toNat 0
 (j8I).bind λf=>(j5S l 0 f).bind λi=>cond (!i) (M (.inr (.inl 1))) (let j:=w64 (g+1)
 M (.inl (o,j,p,b,c,e,m,d,a,n)))) X) (M (.inr (.inr (o,p,b,c,e,m,d,a,n))))
def j8b[LP]:=c8 c2 (LP.lp (u8 unc2 j31))
abbrev j8U:=eq10 j31 j8b
def j32(n c:K)(o:Tn55)(d:Tn49)(e:Tn26)(f:Tn66)(p:U)(l:K)(a:Y K)(m:Y U):O ((K×K×Tn55×Tn49×Tn26×Tn66×U×K×(Y K)×(Y U)) ⊕ (K ⊕ (K×Tn55×Tn49×Tn26×Tn66×(Y U)))):=
 let k:=S a.length
 cond (N (c<k)) (cond (inR c a.length) (let j:=L a c.toNat 0
 let b:=w64 (c-1)
 cond (inR b a.length) (let g:=L a b.toNat 0
 cond (N (j<=g)) (M (.inr (.inl 6))) (let i:=w64 (c+1)
 M (.inl (n,i,o,d,e,f,p,l,a,m)))) X) X) (M (.inr (.inr (n,o,d,e,f,m))))
def j8c[LP]:=c8 c2 (LP.lp (u8 unc2 j32))
abbrev j8V:=eq10 j32 j8c
def j33[LP](g:K)(u:Tn55)(r:Tn49)(d:Tn26)(p:Tn66)(t:Y U):O ((K×Tn55×Tn49×Tn26×Tn66×(Y U)) ⊕ (K ⊕ È)):=
 let k:=S d.length
 cond (N (g<k)) (cond (inR g d.length) (let a:=L d g.toNat (J,0,[])
 cond (N (W t+W [a.1]<=j06)) (let f:Y ByteArray:=t++[a.1]
 (j9x f g).bind λe=>cond (e != 0) (M (.inr (.inl e))) (let j:=S u.length
 let l:=w64 (j-1)
 (j5S a.2.1 0 l).bind λn=>cond (!n) (M (.inr (.inl 3))) (let m:=S a.2.2.length
 cond (N (m>64)) (M (.inr (.inl 5))) ((j8b g 0 u r d p a.1 a.2.1 a.2.2 f).bind λq=>sumC q (λs=>M (.inr (.inl s))) (λb=>(j8c b.1 1 b.2.1 b.2.2.1 b.2.2.2.1 b.2.2.2.2.1 b.2.2.2.2.2.1 b.2.2.2.2.2.2.1 b.2.2.2.2.2.2.2.1 b.2.2.2.2.2.2.2.2).bind λo=>sumC o (λv=>M (.inr (.inl v))) (λc=>let i:=w64 (c.1+1)
 M (.inl (i,c.2.1,c.2.2.1,c.2.2.2.1,c.2.2.2.2.1,c.2.2.2.2.2)))))))) X) X) (M (.inr (.inr ())))
def j8d[LP]:=lp6 j33
abbrev j8W:=eq6 j33 j8d
def j8u[LP](a:Tn72):O Int:=(j8d 0 a.1 a.2.1 a.2.2.1 a.2.2.2 ([]:(Y U))).bind λb=>sumC b (λc=>M c) (λd=>M 0)
def j4u(p:K)(v:Tn55)(b:Tn49)(d:Tn26)(m:Tn66)(u:U)(i j g c l:K)(a:Y K)(k:Tn2)(f e:K):O ((K×Tn55×Tn49×Tn26×Tn66×U×K×K×K×K×K×(Y K)×Tn2×K×K) ⊕ (K ⊕ (Tn55×Tn49×Tn26×Tn66×U×K×K×K×K×K×(Y K)×Tn2×K×K))):=
 let o:=S a.length
 cond (N (p<o)) (cond (inR p a.length) (let n:=L a p.toNat 0
 let s:=S b.length
 let r:=w64 (s-1)
 (j5S n 0 r).bind λt=>cond (!t) (M (.inr (.inl 3))) (let q:=w64 (p+1)
 M (.inl (q,v,b,d,m,u,i,j,g,c,l,a,k,f,e)))) X) (M (.inr (.inr (v,b,d,m,u,i,j,g,c,l,a,k,f,e))))
def jbU[LP]:=c8 c7 (LP.lp (u8 unc7 j4u))
abbrev jbV:=eq15 j4u jbU
def jbW[LP](b:Tn72)(a:Tn60):O Int:=
 let g:=S b.1.length
 let l:=w64 (g-1)
 (j5S a.2.1 0 l).bind λt=>cond (!t) (M 3) ((j8I).bind λf=>(j5S a.2.2.1.1 1 f).bind λj=>cond (!j) (M 1) ((j5S a.2.2.1.2 0 86399).bind λk=>cond (!k) (M 1) ((j5S a.2.2.2.1 0 2).bind λi=>cond (!i) (M 1) ((j5S a.2.2.2.2.1 1 400).bind λq=>cond (!q) (M 1) (let m:=S a.2.2.2.2.2.1.length
 cond (m==0) (M 7) (let p:=S a.2.2.2.2.2.1.length
 cond (N (p>12)) (M 5) ((jbU 0 b.1 b.2.1 b.2.2.1 b.2.2.2 a.1 a.2.1 a.2.2.1.1 a.2.2.1.2 a.2.2.2.1 a.2.2.2.2.1 a.2.2.2.2.2.1 a.2.2.2.2.2.2.1 a.2.2.2.2.2.2.2.1 a.2.2.2.2.2.2.2.2).bind λv=>sumC v (λw=>M w) (λd=>(j6Z d.2.2.2.2.2.2.2.2.2.2.2.1).bind λn=>cond (n != 0) (M 8) ((j5S d.2.2.2.2.2.2.2.2.2.2.2.2.2 0 2).bind λu=>cond (!u) (M 1) (let o:=S d.2.2.1.length
 let s:=w64 (o-1)
 cond (d.2.2.2.2.2.2.2.2.2.2.2.2.2 != 0) ((j5S d.2.2.2.2.2.2.2.2.2.2.2.2.1 0 s).bind λr=>cond (!r) (M 3) (let e:Bool:=cond (d.2.2.2.2.2.2.2.2.2.2.2.2.2==0) (d.2.2.2.2.2.2.2.2.2.2.2.2.1 != 0) Z
 cond e (M 1) (M 0))) (let c:Bool:=cond (d.2.2.2.2.2.2.2.2.2.2.2.2.2==0) (d.2.2.2.2.2.2.2.2.2.2.2.2.1 != 0) Z
 cond c (M 1) (M 0))))))))))))
def jd3(a:Tn24):O Int:=cond (cond (a.1 != 2) (a.2.2.1 != 0) Z) (M 1) (cond (cond (a.1==2) (a.2.1==a.2.2.1) Z) (M 4) (cond (N (a.2.2.2.1<0)) (M 1) (cond (N (a.2.2.2.2<0)) (M 1) (let b:=w64 (É a.2.2.2.2 86400)
 (j8I).bind λc=>cond (N (b>c)) (M 1) (cond (N (a.2.2.2.1>=a.2.2.2.2)) (M 6) (M 0))))))
def jdK(b:Tn72)(a:Tn24):O Int:=
 let f:=S b.2.1.length
 (j5S a.1 0 2).bind λc=>cond (!c) (M 1) (let d:=w64 (f-1)
 (j5S a.2.1 0 d).bind λe=>let i:=w64 (f-1)
 cond (cond (!e) (cond (a.1 != 1) Á (a.2.1 != (-1))) Z) (cond ((!(a.1==2)) || !(!Á)) (M 3) X) (cond (a.1==2) ((j5S a.2.2.1 0 i).bind λg=>cond (!g) (M 3) (jd3 a)) (jd3 a)))
def j34[LP](s c:K)(o:Tn55)(d:Tn49)(e:Tn26)(f:Tn66)(q:U)(b:Tn61)(l:Tn29)(r p:Y U):O ((K×K×Tn55×Tn49×Tn26×Tn66×U×Tn61×Tn29×(Y U)×(Y U)) ⊕ (K ⊕ (K×Tn55×Tn49×Tn26×Tn66×U×Tn61×Tn29×(Y U)))):=
 let m:=S b.length
 cond (N (c<m)) (cond (inR c b.length) (let j:=L b c.toNat (J,0,(0,0),0,0,[],[],0,0)
 cond (N (W p+W [j.1]<=j06)) (let g:Y ByteArray:=p++[j.1]
 (j9x g c).bind λi=>cond (i != 0) (M (.inr (.inl i))) (cond (inR c b.length) (let a:=L b c.toNat (J,0,(0,0),0,0,[],[],0,0)
 (jbW (o,d,e,f) a).bind λk=>cond (k != 0) (M (.inr (.inl k))) (let n:=w64 (c+1)
 M (.inl (s,n,o,d,e,f,q,b,l,r,g)))) X)) X) X) (M (.inr (.inr (s,o,d,e,f,q,b,l,r))))
def j8e[LP]:=c8 c3 (LP.lp (u8 unc3 j34))
abbrev j8X:=eq11 j34 j8e
def j35(n g:K)(l:Tn55)(c:Tn49)(d:Tn26)(e:Tn66)(o:U)(k:Tn61)(b:Tn29)(m:Y U):O ((K×K×Tn55×Tn49×Tn26×Tn66×U×Tn61×Tn29×(Y U)) ⊕ (K ⊕ (K×Tn55×Tn49×Tn26×Tn66×(Y U)))):=
 let j:=S b.length
 cond (N (g<j)) (cond (inR g b.length) (let a:=L b g.toNat (0,0,0,0,0)
 (jdK (l,c,d,e) a).bind λf=>cond (f != 0) (M (.inr (.inl f))) (let i:=w64 (g+1)
 M (.inl (n,i,l,c,d,e,o,k,b,m)))) X) (M (.inr (.inr (n,l,c,d,e,m))))
def j8f[LP]:=c8 c2 (LP.lp (u8 unc2 j35))
abbrev j8Y:=eq10 j35 j8f
def j36[LP](g:K)(t:Tn55)(p:Tn49)(n:Tn26)(d:Tn66)(r:Y U):O ((K×Tn55×Tn49×Tn26×Tn66×(Y U)) ⊕ (K ⊕ È)):=
 let l:=S d.length
 cond (N (g<l)) (cond (inR g d.length) (let a:=L d g.toNat (J,[],[])
 cond (N (W r+W [a.1]<=j06)) (let e:Y ByteArray:=r++[a.1]
 (j9x e g).bind λf=>cond (f != 0) (M (.inr (.inl f))) (let k:=S a.2.1.length
 let j:=S a.2.2.length
 cond (cond (N (k>6)) Á (N (j>48))) (M (.inr (.inl 5))) ((j8e g 0 t p n d a.1 a.2.1 a.2.2 e ([]:(Y U))).bind λo=>sumC o (λq=>M (.inr (.inl q))) (λb=>(j8f b.1 0 b.2.1 b.2.2.1 b.2.2.2.1 b.2.2.2.2.1 b.2.2.2.2.2.1 b.2.2.2.2.2.2.1 b.2.2.2.2.2.2.2.1 b.2.2.2.2.2.2.2.2).bind λm=>sumC m (λs=>M (.inr (.inl s))) (λc=>let i:=w64 (c.1+1)
 M (.inl (i,c.2.1,c.2.2.1,c.2.2.2.1,c.2.2.2.2.1,c.2.2.2.2.2))))))) X) X) (M (.inr (.inr ())))
def j8g[LP]:=lp6 j36
abbrev j8Z:=eq6 j36 j8g
def jaL[LP](a:Tn72):O Int:=(j8g 0 a.1 a.2.1 a.2.2.1 a.2.2.2 ([]:(Y U))).bind λb=>sumC b (λc=>M c) (λd=>M 0)
def j2L[LP](a:Tn72):O Int:=
 let k:=S a.1.length
 let i:=S a.2.1.length
 let g:=S a.2.2.1.length
 let j:Bool:=cond (cond (N (k>16)) Á (N (i>32))) Á (N (g>8))
 let e:=S a.2.2.2.length
 cond (cond j Á (N (e>12))) (M 5) ((jdJ a).bind λb=>cond (b != 0) (M b) ((jcl a).bind λc=>cond (c != 0) (M c) ((j8u a).bind λd=>cond (d != 0) (M d) ((jaL a).bind λf=>M f))))
def jhH[LP](b:Tn72)(a c:K):O Bool:=
 let f:=S b.2.2.2.length
 let e:Bool:=cond (cond (N (a>=0)) (N (a<f)) Z) (N (c>=0)) Z
 cond (cond e (N (c<=8589934592)) Z) ((j2L b).bind λd=>M (d==0)) (M Z)
def jdL[LP](b:Tn53)(a:Tn60):O Int:=(j5F b).bind λi=>let e:Bool:=cond (cond (i != 0) Á (N (a.2.2.1.1<1))) Á (N (a.2.2.1.1>100000))
 let c:Bool:=cond (cond e Á (N (a.2.2.1.2<0))) Á (N (a.2.2.1.2>=86400))
 let g:Bool:=cond (cond c Á (N (a.2.2.2.1<0))) Á (N (a.2.2.2.1>2))
 let d:Bool:=cond (cond g Á (N (a.2.2.2.2.1<1))) Á (N (a.2.2.2.2.1>400))
 let f:=S a.2.2.2.2.2.1.length
 cond (cond d Á (f==0)) (M 8) (M 0)
def jbX(a:K):O Bool:=(j6y a (-2) 99422).bind λb=>M b
def j3r(j c l:K)(n:U)(i:K)(g:Tn43)(p:Tn2)(m k o:K):O ((K×U×K×Tn43×K×K×Tn2) ⊕ ((K×K) ⊕ È)):=
 let e:=w64 (j*86400)
 let f:=w64 (e+c)
 let b:=w64 (f-m)
 let a:Int:=if b>k then b else k
 cond (N (a<o)) (M (.inr (.inl (a,0)))) (let d:=w64 (l+1)
 M (.inl (d,n,i,g,j,c,p)))
def j3s(g:K)(e:Tn2)(k b:K)(n:U)(d:K)(c:Tn43)(m l:K):O ((K×U×K×Tn43×K×K×Tn2) ⊕ ((K×K) ⊕ È)):=
 let i:=w64 (g+1)
 let j:=S e.length
 cond (N (i<j)) (let a:=w64 (g+1)
 cond (inR a e.length) (let f:=(L e a.toNat (0,0)).1
 j3r k b g n d c e m l f) X) (j3r k b g n d c e m l 8589934593)
def j3H(a:K)(k:U)(b:K)(e:Tn43)(j d:K)(c:Tn2):O ((K×U×K×Tn43×K×K×Tn2) ⊕ ((K×K) ⊕ È)):=
 let g:=S c.length
 cond (N (a<g)) (cond (N (a>=0)) (cond (inR a c.length) (let f:=(L c a.toNat (0,0)).2
 cond (inR a c.length) (let i:=(L c a.toNat (0,0)).1
 j3s a c j d k b e f i) X) X) (j3s a c j d k b e b 0)) (M (.inr (.inr ())))
def j4B[LP]:=lp7 j3H
abbrev j90:=eq7 j3H j4B
def j4f[LP](a:Tn53)(b:K×K):O (K×K):=(j0x a).bind λc=>cond (c.2 != 0) (M (0,8)) ((j6y b.2 0 86399).bind λe=>cond (!e) (M (0,1)) (cond (N (b.1<(-2))) (M (0,0)) ((jbX b.1).bind λd=>cond (!d) (M (0,10)) ((j4B (-1) a.1 a.2.1 a.2.2 b.1 b.2 c.1).bind λf=>sumC f (λg=>M g) (λi=>M (0,10))))))
def j4g(c:Tn2)(g i a:K):O ((Tn2×K×K×K) ⊕ (K)):=
 let b:=S c.length
 cond ((inR a c.length) || !(N (a<b))) (let f:=L c a.toNat (0,0)
 cond (cond (N (a<b)) (N (f.1<=g)) Z) (cond (inR a c.length) (let d:=L c a.toNat (0,0)
 let e:=w64 (a+1)
 M (.inl (c,g,d.2,e))) X) (M (.inr i))) X
def j8v[LP]:=lp4 j4g
abbrev jbp:=eq4 j4g j8v
def jcm[LP](a:Tn53)(b:Tn2)(c:K):O Int:=(j8v b c a.2.1 0).bind λd=>M d
def j7U[LP](a:Tn53)(b:K):O (K×K):=(j0x a).bind λc=>cond (c.2 != 0) (M (0,8)) ((j6y b 0 8589934592).bind λd=>cond (!d) (M (0,1)) ((jcm a c.1 b).bind λe=>M (e,0)))
def jdM(b a:K):O (K×K):=
 let g:=w64 (b+a)
 let d:=w64 (g+864000)
 let e:=w64 (É d 86400)
 let f:=w64 (e-10)
 let c:=Æ d 86400
 M (f,c)
def j4m[LP](a:Tn53)(c:K):O ((K×K)×K):=(j7U a c).bind λb=>cond (b.2 != 0) (M ((0,0),b.2)) ((jdM c b.1).bind λd=>M (d,0))
def j7V[LP](b:Tn53)(a:Tn60)(d:K):O (K×Ç):=cond (a.2.2.2.1==0) ((j4f b a.2.2.1).bind λe=>let k:=w64 (d*a.2.2.2.2.1)
 let j:=w64 (k*3600)
 let l:=w64 (e.1+j)
 let n:=w64 (e.1+j)
 M (l,(cond (e.2==0) (N (n<=8589934592)) Z))) (let g:=w64 (d*a.2.2.2.2.1)
 cond (a.2.2.2.1==2) (let m:=w64 (g*7)
 let o:=w64 (a.2.2.1.1+m)
 (j4f b (o,a.2.2.1.2)).bind λi=>M (i.1,(i.2==0))) (let f:=w64 (a.2.2.1.1+g)
 (j4f b (f,a.2.2.1.2)).bind λc=>M (c.1,(c.2==0))))
def j4v[LP](q b:K)(p:U)(c:K)(f:Tn43)(r:U)(k n l m d:K)(e:Y K)(g:Tn2)(i j:K):O ((K×K×U×K×Tn43×U×K×K×K×K×K×(Y K)×Tn2×K×K) ⊕ (K)):=cond (N (b>=0)) ((j7V (p,c,f) (r,k,(n,l),m,d,e,g,i,j) b).bind λa=>cond (cond a.2 (N (a.1<=q)) Z) (M (.inr b)) (let o:=w64 (b-1)
 M (.inl (q,o,p,c,f,r,k,n,l,m,d,e,g,i,j)))) (M (.inr b))
def j6z[LP]:=c8 c7 (LP.lp (u8 unc7 j4v))
abbrev jbY:=eq15 j4v j6z
def jdN[LP](b:Tn53)(a:Tn60)(c:K):O Int:=cond (a.2.2.2.1==0) ((j4f b a.2.2.1).bind λe=>cond (cond (e.2==0) (N (e.1<=c)) Z) (let q:=w64 (c-e.1)
 let j:=w64 (3600*a.2.2.2.2.1)
 cond (!(j==0)) (let s:=w64 (É q j)
 M s) X) (M (-1))) ((j4m b c).bind λl=>cond (a.2.2.2.1==2) (let k:=w64 (a.2.2.2.2.1*7)
 let o:=w64 (l.1.1+2)
 let m:=w64 (o-a.2.2.1.1)
 let r:Int:=if 0>m then 0 else m
 cond (!(k==0)) (let p:=w64 (É r k)
 (j6z c p b.1 b.2.1 b.2.2 a.1 a.2.1 a.2.2.1.1 a.2.2.1.2 a.2.2.2.1 a.2.2.2.2.1 a.2.2.2.2.2.1 a.2.2.2.2.2.2.1 a.2.2.2.2.2.2.2.1 a.2.2.2.2.2.2.2.2).bind λt=>M t) X) (let i:=w64 (l.1.1+2)
 let d:=w64 (i-a.2.2.1.1)
 let g:Int:=if 0>d then 0 else d
 cond (!(a.2.2.2.2.1==0)) (let f:=w64 (É g a.2.2.2.2.1)
 (j6z c f b.1 b.2.1 b.2.2 a.1 a.2.1 a.2.2.1.1 a.2.2.1.2 a.2.2.2.1 a.2.2.2.2.1 a.2.2.2.2.2.1 a.2.2.2.2.2.2.1 a.2.2.2.2.2.2.2.1 a.2.2.2.2.2.2.2.2).bind λn=>M n) X))
def jbZ[LP](b:Tn53)(a:Tn60)(c:K):O (K×K):=(jdL b a).bind λd=>cond (d != 0) (M (0,8)) (cond (cond (N (c<0)) Á (N (c>8589934592))) (M (0,1)) ((jdN b a c).bind λe=>M (e,0)))
def jeI(a:K×K):O Int:=(jaJ a.1).bind λb=>let c:=w64 (b*86400)
 let d:=w64 (c+a.2)
 M d
def jad[LP](a:Tn53)(c:K):O (K×K):=(j4m a c).bind λb=>cond (b.2 != 0) (M (0,b.2)) ((jeI b.1).bind λd=>M (d,0))
def j4h(c:Tn2)(e b:K):O ((Tn2×K×K) ⊕ (Ç ⊕ È)):=
 let g:=S c.length
 cond (N (b<g)) (cond (inR b c.length) (let a:=L c b.toNat (0,0)
 cond ((inR b c.length) || !(N (e>=a.1))) (let d:=L c b.toNat (0,0)
 cond (cond (N (e>=a.1)) (N (e<d.2)) Z) (M (.inr (.inl Á))) (let f:=w64 (b+1)
 M (.inl (c,e,f)))) X) X) (M (.inr (.inr ())))
def j8w[LP]:=lp3 j4h
abbrev jbq:=eq3 j4h j8w
def jcn[LP](b:Tn2)(a:K):O Bool:=(j8w b a 0).bind λc=>sumC c (λd=>M d) (λe=>M Z)
def jjT[LP](a:Tn53)(b:Tn2)(d:K):O Bool:=(jad a d).bind λc=>cond (c.2==0) ((j6Z b).bind λe=>cond (e==0) ((jcn b c.1).bind λf=>M f) (M Z)) (M Z)
def j4X(w:K)(t:Ç)(b:K)(v:U)(e f l i g:K)(j:Y K)(k:Tn2)(c d:K)(u:U)(n:K)(a:Y K)(o m:K):O ((K×Ç×K×U×K×K×K×K×K×(Y K)×Tn2×K×K×U×K×(Y K)×K×K) ⊕ (K×Ç×U×K×K×K×K×K×(Y K)×Tn2×K×K)):=
 let q:=S a.length
 cond (N (b<q)) (cond t (let r:=w64 (b+1)
 M (.inl (w,Á,r,v,e,f,l,i,g,j,k,c,d,u,n,a,o,m))) (cond (inR b a.length) (let s:=L a b.toNat 0
 let p:=w64 (b+1)
 M (.inl (w,(s==o),p,v,e,f,l,i,g,j,k,c,d,u,n,a,o,m))) X)) (M (.inr (w,t,v,e,f,l,i,g,j,k,c,d)))
def j7v[LP](s:K)(q:Ç)(p:K)(r:U)(k m f l d:K)(e:Y K)(g:Tn2)(i j:K)(n:U)(a:K)(c:Y K)(o b:K):O (K×Ç×U×K×K×K×K×K×(Y K)×Tn2×K×K):=LP.lp (u8 (u8 unc2) j4X) (s,q,p,r,k,m,f,l,d,e,g,i,j,n,a,c,o,b)
theorem jcA(s o n r f g m j i k l d e p b c q a):j7v s o n r f g m j i k l d e p b c q a=lpK (j4X s o n r f g m j i k l d e p b c q a) (λh=>j7v h.1 h.2.1 h.2.2.1 h.2.2.2.1 h.2.2.2.2.1 h.2.2.2.2.2.1 h.2.2.2.2.2.2.1 h.2.2.2.2.2.2.2.1 h.2.2.2.2.2.2.2.2.1 h.2.2.2.2.2.2.2.2.2.1 h.2.2.2.2.2.2.2.2.2.2.1 h.2.2.2.2.2.2.2.2.2.2.2.1 h.2.2.2.2.2.2.2.2.2.2.2.2.1 h.2.2.2.2.2.2.2.2.2.2.2.2.2.1 h.2.2.2.2.2.2.2.2.2.2.2.2.2.2.1 h.2.2.2.2.2.2.2.2.2.2.2.2.2.2.2.1 h.2.2.2.2.2.2.2.2.2.2.2.2.2.2.2.2.1 h.2.2.2.2.2.2.2.2.2.2.2.2.2.2.2.2.2):=j0j _ _
def jd4[LP](a:Tn60)(g:K×K)(d:Tn72)(i:K):O (K×Ç):=cond (a.2.2.2.2.2.2.2.2==0) (M (g.1,Á)) (cond (inR a.2.2.2.2.2.2.2.1 d.2.2.1.length) (let b:=L d.2.2.1 a.2.2.2.2.2.2.2.1.toNat (J,0,[])
 cond (inR b.2.1 d.1.length) (let c:=L d.1 b.2.1.toNat (J,0,[])
 (j4m c i).bind λf=>(j7v g.1 Z 0 a.1 a.2.1 a.2.2.1.1 a.2.2.1.2 a.2.2.2.1 a.2.2.2.2.1 a.2.2.2.2.2.1 a.2.2.2.2.2.2.1 a.2.2.2.2.2.2.2.1 a.2.2.2.2.2.2.2.2 b.1 b.2.1 b.2.2 f.1.1 f.1.2).bind λe=>M (e.1,(e.2.1==(e.2.2.2.2.2.2.2.2.2.2.2==2)))) X) X)
def jdO[LP](d:Tn72)(a:Tn60)(c:K):O (K×Ç):=cond (inR a.2.1 d.1.length) (let b:=L d.1 a.2.1.toNat (J,0,[])
 (jbZ b a c).bind λe=>let f:=S a.2.2.2.2.2.2.1.length
 cond (cond (e.2 != 0) Á (N (e.1<0))) (cond ((!(N (f>0))) || !(!Á)) (M (0,Z)) X) (cond (N (f>0)) ((jjT b a.2.2.2.2.2.2.1 c).bind λg=>cond (!g) (M (0,Z)) (jd4 a e d c)) (jd4 a e d c))) X
def jgp[LP](b:Tn72)(a:Tn60)(f:K):O Int:=(jdO b a f).bind λe=>cond (!e.2) (M (-1)) (let d:=S a.2.2.2.2.2.1.length
 cond (!(d==0)) (let c:=Æ e.1 d
 cond (inR c a.2.2.2.2.2.1.length) (let g:=L a.2.2.2.2.2.1 c.toNat 0
 M g) X) X)
def j4Y(i f c:K)(k:U)(g:Tn61)(b:Tn29):O ((K×K×K×U×Tn61×Tn29) ⊕ (Ç ⊕ È)):=
 let e:=S b.length
 cond (N (c<e)) (cond (inR c b.length) (let a:=L b c.toNat (0,0,0,0,0)
 let j:Bool:=cond (cond (a.1==0) (a.2.1==i) Z) (N (a.2.2.2.1<=f)) Z
 cond (cond j (N (f<a.2.2.2.2)) Z) (M (.inr (.inl Á))) (let d:=w64 (c+1)
 M (.inl (i,f,d,k,g,b)))) X) (M (.inr (.inr ())))
def jaM[LP]:=lp6 j4Y
abbrev jcB:=eq6 j4Y jaM
def jfC[LP](b:Tn65)(a c:K):O Bool:=(jaM a c 0 b.1 b.2.1 b.2.2).bind λd=>sumC d (λe=>M e) (λf=>M Z)
def j5G[LP](j i:K)(n:Tn55)(e:Tn49)(f:Tn26)(d:Tn66)(o:U)(b:Tn61)(g:Tn29):O ((K×K×Tn55×Tn49×Tn26×Tn66×U×Tn61×Tn29) ⊕ ((K×K) ⊕ È)):=cond (N (i>=0)) (cond (inR i b.length) (let a:=L b i.toNat (J,0,(0,0),0,0,[],[],0,0)
 (jgp (n,e,f,d) a j).bind λc=>cond (N (c>=0)) ((jfC (o,b,g) c j).bind λl=>cond (!l) (M (.inr (.inl (i,c)))) (let k:=w64 (i-1)
 M (.inl (j,k,n,e,f,d,o,b,g)))) (let m:=w64 (i-1)
 M (.inl (j,m,n,e,f,d,o,b,g)))) X) (M (.inr (.inr ())))
def jeJ[LP]:=lp9 j5G
abbrev jdP:=eq9 j5G jeJ
def jiz[LP](b:Tn72)(a d:K):O (K×K):=cond (inR a b.2.2.2.length) (let c:=L b.2.2.2 a.toNat (J,[],[])
 let e:=S c.2.1.length
 let f:=w64 (e-1)
 (jeJ d f b.1 b.2.1 b.2.2.1 b.2.2.2 c.1 c.2.1 c.2.2).bind λg=>sumC g (λi=>M i) (λj=>M ((-1),(-1)))) X
def j4Z(c:Tn29)(e d b:K):O ((Tn29×K×K×K) ⊕ (K)):=
 let k:=S c.length
 cond (N (b<k)) (cond (inR b c.length) (let a:=L c b.toNat (0,0,0,0,0)
 cond (cond (N (d<a.2.2.2.1)) Á (N (d>=a.2.2.2.2))) (let f:=w64 (b+1)
 M (.inl (c,e,d,f))) (cond (a.1==1) (let g:=w64 (b+1)
 M (.inl (c,a.2.1,d,g))) (cond (cond (a.1==2) (e==a.2.1) Z) (let j:=w64 (b+1)
 M (.inl (c,a.2.2.1,d,j))) (cond (cond (a.1==2) (e==a.2.2.1) Z) (let i:=w64 (b+1)
 M (.inl (c,a.2.1,d,i))) (let l:=w64 (b+1)
 M (.inl (c,e,d,l))))))) X) (M (.inr e))
def jaN[LP]:=lp4 j4Z
abbrev jcC:=eq4 j4Z jaN
def jdQ[LP](b:Tn29)(a c:K):O Int:=(jaN b a c 0).bind λd=>M d
def jlf[LP](b:Tn72)(a c:K):O Int:=(jiz b a c).bind λe=>cond (inR a b.2.2.2.length) (let f:=L b.2.2.2 a.toNat (J,[],[])
 (jdQ f.2.2 e.2 c).bind λd=>M d) X
def jd5[LP](a:Tn72)(b c:K):O Int:=(jhH a b c).bind λe=>cond (!e) (M (-1)) ((jlf a b c).bind λd=>M d)
def jdR(b:Tn72)(a:K)(d:Tn29):O Tn72:=cond (N (W ([]:Tn66)+W b.2.2.2<=j06)) (let c:Tn66:=([]:Tn66)++b.2.2.2
 cond (inR a c.length) (let e:Tn66:=Ã c a.toNat ((L c a.toNat (J,[],[])).1,(L c a.toNat (J,[],[])).2.1,d)
 M (b.1,b.2.1,b.2.2.1,e)) X) X
def j61[LP](b:Tn72)(a:K)(d:Tn24):O (Tn72×K):=(j2L b).bind λl=>cond (l != 0) (M ((([]:Tn55),([]:Tn49),([]:Tn26),([]:Tn66)),8)) (let j:=S b.2.2.2.length
 cond (cond (N (a<0)) Á (N (a>=j))) (M ((([]:Tn55),([]:Tn49),([]:Tn26),([]:Tn66)),3)) (cond (inR a b.2.2.2.length) (let g:=L b.2.2.2 a.toNat (J,[],[])
 cond (N (W ([]:Tn29)+W g.2.2<=j06)) (let f:Tn29:=([]:Tn29)++g.2.2
 let i:Tn29:=[d]
 cond (N (W f+W i<=j06)) (let k:Tn29:=f++i
 (jdR b a k).bind λc=>(j2L c).bind λe=>cond (e != 0) (M ((([]:Tn55),([]:Tn49),([]:Tn26),([]:Tn66)),e)) (M (c,0))) X) X) X))
def j3t(e:K)(m:U)(k:K)(c:Tn43)(l:U)(j:K)(d:Tn43):O ((K×U×K×Tn43×U×K×Tn43) ⊕ (Ç ⊕ È)):=
 let f:=S c.length
 cond (N (e<f)) (cond (inR e c.length) (let b:=L c e.toNat (0,0,0,0,0,0,0)
 cond (inR e d.length) (let a:=L d e.toNat (0,0,0,0,0,0,0)
 let g:Bool:= !((b.1==a.1)&&((b.2.1==a.2.1)&&((b.2.2.1==a.2.2.1)&&((b.2.2.2.1==a.2.2.2.1)&&((b.2.2.2.2.1==a.2.2.2.2.1)&&((b.2.2.2.2.2.1==a.2.2.2.2.2.1)&&(b.2.2.2.2.2.2==a.2.2.2.2.2.2)))))))
 cond g (M (.inr (.inl Z))) (let i:=w64 (e+1)
 M (.inl (i,m,k,c,l,j,d)))) X) X) (M (.inr (.inr ())))
def j70[LP]:=lp7 j3t
abbrev j9y:=eq7 j3t j70
def j7W[LP](a b:Tn53):O Bool:=
 let e:=S a.2.2.length
 let c:=S b.2.2.length
 let d:Bool:=cond (cond (!(Â a.1==Â b.1)) Á (a.2.1 != b.2.1)) Á (e != c)
 cond d (M Z) ((j70 0 a.1 a.2.1 a.2.2 b.1 b.2.1 b.2.2).bind λf=>sumC f (λg=>M g) (λi=>M Á))
def j2s(e g:Tn2)(c:K):O ((Tn2×Tn2×K) ⊕ (Ç ⊕ È)):=
 let d:=S e.length
 cond (N (c<d)) (cond (inR c e.length) (let b:=L e c.toNat (0,0)
 cond (inR c g.length) (let a:=L g c.toNat (0,0)
 cond (!((b.1==a.1)&&(b.2==a.2))) (M (.inr (.inl Z))) (let f:=w64 (c+1)
 M (.inl (e,g,f)))) X) X) (M (.inr (.inr ())))
def j5l[LP]:=lp3 j2s
abbrev j7X:=eq3 j2s j5l
def j5H[LP](a b:Tn2):O Bool:=
 let d:=S a.length
 let e:=S b.length
 cond (d != e) (M Z) ((j5l a b 0).bind λc=>sumC c (λf=>M f) (λg=>M Á))
def j3u(d g:Y K)(a:K):O (((Y K)×(Y K)×K) ⊕ (Ç ⊕ È)):=
 let c:=S d.length
 cond (N (a<c)) (cond (inR a d.length) (let f:=L d a.toNat 0
 cond (inR a g.length) (let b:=L g a.toNat 0
 cond (f != b) (M (.inr (.inl Z))) (let e:=w64 (a+1)
 M (.inl (d,g,e)))) X) X) (M (.inr (.inr ())))
def j71[LP]:=lp3 j3u
abbrev j9z:=eq3 j3u j71
def j7Y[LP](a b:Y K):O Bool:=
 let d:=S a.length
 let e:=S b.length
 cond (d != e) (M Z) ((j71 a b 0).bind λc=>sumC c (λf=>M f) (λg=>M Á))
def j72[LP](a b:Tn60):O Bool:=
 let d:Bool:=cond (cond (Â a.1==Â b.1) (a.2.1==b.2.1) Z) ((a.2.2.1.1==b.2.2.1.1)&&(a.2.2.1.2==b.2.2.1.2)) Z
 let e:Bool:=cond (cond d (a.2.2.2.1==b.2.2.2.1) Z) (a.2.2.2.2.1==b.2.2.2.2.1) Z
 cond e ((j7Y a.2.2.2.2.2.1 b.2.2.2.2.2.1).bind λf=>cond f ((j5H a.2.2.2.2.2.2.1 b.2.2.2.2.2.2.1).bind λc=>let g:Bool:=cond (cond c (a.2.2.2.2.2.2.2.1==b.2.2.2.2.2.2.2.1) Z) (a.2.2.2.2.2.2.2.2==b.2.2.2.2.2.2.2.2) Z
 M g) (M Z)) (M Z)
def j26[LP](e:K)(m:U)(c:Tn61)(f:Tn29)(l:U)(d:Tn61)(g:Tn29):O ((K×U×Tn61×Tn29×U×Tn61×Tn29) ⊕ (Ç ⊕ (U×Tn61×Tn29×U×Tn61×Tn29))):=
 let i:=S c.length
 cond (N (e<i)) (cond (inR e c.length) (let b:=L c e.toNat (J,0,(0,0),0,0,[],[],0,0)
 cond (inR e d.length) (let a:=L d e.toNat (J,0,(0,0),0,0,[],[],0,0)
 (j72 b a).bind λk=>cond (!k) (M (.inr (.inl Z))) (let j:=w64 (e+1)
 M (.inl (j,m,c,f,l,d,g)))) X) X) (M (.inr (.inr (m,c,f,l,d,g))))
def j4M[LP]:=lp7 j26
abbrev j7h:=eq7 j26 j4M
def j27(e:K)(m:U)(k:Tn61)(c:Tn29)(l:U)(j:Tn61)(d:Tn29):O ((K×U×Tn61×Tn29×U×Tn61×Tn29) ⊕ (Ç ⊕ È)):=
 let f:=S c.length
 cond (N (e<f)) (cond (inR e c.length) (let b:=L c e.toNat (0,0,0,0,0)
 cond (inR e d.length) (let a:=L d e.toNat (0,0,0,0,0)
 let g:Bool:= !((b.1==a.1)&&((b.2.1==a.2.1)&&((b.2.2.1==a.2.2.1)&&((b.2.2.2.1==a.2.2.2.1)&&(b.2.2.2.2==a.2.2.2.2)))))
 cond g (M (.inr (.inl Z))) (let i:=w64 (e+1)
 M (.inl (i,m,k,c,l,j,d)))) X) X) (M (.inr (.inr ())))
def j4N[LP]:=lp7 j27
abbrev j7i:=eq7 j27 j4N
def j50[LP](a b:Tn65):O Bool:=
 let f:=S a.2.1.length
 let e:=S b.2.1.length
 let g:=S a.2.2.length
 let d:=S b.2.2.length
 let i:Bool:=cond (cond (!(Â a.1==Â b.1)) Á (f != e)) Á (g != d)
 cond i (M Z) ((j4M 0 a.1 a.2.1 a.2.2 b.1 b.2.1 b.2.2).bind λk=>sumC k (λn=>M n) (λc=>(j4N 0 c.1 c.2.1 c.2.2.1 c.2.2.2.1 c.2.2.2.2.1 c.2.2.2.2.2).bind λl=>sumC l (λj=>M j) (λm=>M Á)))
def j51[LP](c:K)(g:Tn55)(i:Tn49)(f:Tn26)(k:Tn66)(l:Tn55)(e:Tn49)(j:Tn26)(d:Tn66):O ((K×Tn55×Tn49×Tn26×Tn66×Tn55×Tn49×Tn26×Tn66) ⊕ (Ç ⊕ (Tn55×Tn49×Tn26×Tn66×Tn55×Tn49×Tn26×Tn66))):=
 let m:=S g.length
 cond (N (c<m)) (cond (inR c g.length) (let b:=L g c.toNat (J,0,[])
 cond (inR c l.length) (let a:=L l c.toNat (J,0,[])
 (j7W b a).bind λn=>cond (!n) (M (.inr (.inl Z))) (let o:=w64 (c+1)
 M (.inl (o,g,i,f,k,l,e,j,d)))) X) X) (M (.inr (.inr (g,i,f,k,l,e,j,d))))
def jaO[LP]:=lp9 j51
abbrev jcD:=eq9 j51 jaO
def j52[LP](e:K)(p:Tn55)(c:Tn49)(g:Tn26)(j:Tn66)(o:Tn55)(d:Tn49)(i:Tn26)(f:Tn66):O ((K×Tn55×Tn49×Tn26×Tn66×Tn55×Tn49×Tn26×Tn66) ⊕ (Ç ⊕ (Tn55×Tn49×Tn26×Tn66×Tn55×Tn49×Tn26×Tn66))):=
 let m:=S c.length
 cond (N (e<m)) (cond (inR e c.length) (let a:=L c e.toNat (J,0,[],0,0,Z)
 cond (inR e d.length) (let b:=L d e.toNat (J,0,[],0,0,Z)
 let q:Bool:=cond (!(Â a.1==Â b.1)) Á (a.2.1 != b.2.1)
 cond q (M (.inr (.inl Z))) ((j5H a.2.2.1 b.2.2.1).bind λk=>let l:Bool:=cond (cond (!k) Á (a.2.2.2.1 != b.2.2.2.1)) Á (a.2.2.2.2.1 != b.2.2.2.2.1)
 cond (cond l Á (!(a.2.2.2.2.2==b.2.2.2.2.2))) (M (.inr (.inl Z))) (let n:=w64 (e+1)
 M (.inl (n,p,c,g,j,o,d,i,f))))) X) X) (M (.inr (.inr (p,c,g,j,o,d,i,f))))
def jaP[LP]:=lp9 j52
abbrev jcE:=eq9 j52 jaP
def j53[LP](e:K)(p:Tn55)(k:Tn49)(a:Tn26)(l:Tn66)(o:Tn55)(i:Tn49)(d:Tn26)(f:Tn66):O ((K×Tn55×Tn49×Tn26×Tn66×Tn55×Tn49×Tn26×Tn66) ⊕ (Ç ⊕ (Tn55×Tn49×Tn26×Tn66×Tn55×Tn49×Tn26×Tn66))):=
 let m:=S a.length
 cond (N (e<m)) (cond (inR e a.length) (let c:=L a e.toNat (J,0,[])
 cond (inR e d.length) (let b:=L d e.toNat (J,0,[])
 let n:Bool:=cond (!(Â c.1==Â b.1)) Á (c.2.1 != b.2.1)
 cond n (M (.inr (.inl Z))) ((j7Y c.2.2 b.2.2).bind λj=>cond (!j) (M (.inr (.inl Z))) (let g:=w64 (e+1)
 M (.inl (g,p,k,a,l,o,i,d,f))))) X) X) (M (.inr (.inr (p,k,a,l,o,i,d,f))))
def jaQ[LP]:=lp9 j53
abbrev jcF:=eq9 j53 jaQ
def j54[LP](c:K)(o:Tn55)(l:Tn49)(k:Tn26)(d:Tn66)(n:Tn55)(j:Tn49)(m:Tn26)(e:Tn66):O ((K×Tn55×Tn49×Tn26×Tn66×Tn55×Tn49×Tn26×Tn66) ⊕ (Ç ⊕ È)):=
 let i:=S d.length
 cond (N (c<i)) (cond (inR c d.length) (let b:=L d c.toNat (J,[],[])
 cond (inR c e.length) (let a:=L e c.toNat (J,[],[])
 (j50 b a).bind λg=>cond (!g) (M (.inr (.inl Z))) (let f:=w64 (c+1)
 M (.inl (f,o,l,k,d,n,j,m,e)))) X) X) (M (.inr (.inr ())))
def jaR[LP]:=lp9 j54
abbrev jcG:=eq9 j54 jaR
def jdS[LP](a b:Tn72):O Bool:=
 let o:=S a.1.length
 let n:=S b.1.length
 let j:=S a.2.1.length
 let q:=S b.2.1.length
 let p:=S a.2.2.1.length
 let i:=S b.2.2.1.length
 let m:=S a.2.2.2.length
 let l:=S b.2.2.2.length
 cond (cond (cond (cond (o != n) Á (j != q)) Á (p != i)) Á (m != l)) (M Z) ((jaO 0 a.1 a.2.1 a.2.2.1 a.2.2.2 b.1 b.2.1 b.2.2.1 b.2.2.2).bind λr=>sumC r (λw=>M w) (λe=>(jaP 0 e.1 e.2.1 e.2.2.1 e.2.2.2.1 e.2.2.2.2.1 e.2.2.2.2.2.1 e.2.2.2.2.2.2.1 e.2.2.2.2.2.2.2).bind λu=>sumC u (λk=>M k) (λc=>(jaQ 0 c.1 c.2.1 c.2.2.1 c.2.2.2.1 c.2.2.2.2.1 c.2.2.2.2.2.1 c.2.2.2.2.2.2.1 c.2.2.2.2.2.2.2).bind λt=>sumC t (λf=>M f) (λd=>(jaR 0 d.1 d.2.1 d.2.2.1 d.2.2.2.1 d.2.2.2.2.1 d.2.2.2.2.2.1 d.2.2.2.2.2.2.1 d.2.2.2.2.2.2.2).bind λs=>sumC s (λg=>M g) (λv=>M Á)))))
def j4w[LP](c:Tn72)(a b:K):O (Tn72×K):=(j2L c).bind λk=>cond (k != 0) (M ((([]:Tn55),([]:Tn49),([]:Tn26),([]:Tn66)),8)) (let o:=S c.2.2.2.length
 cond (cond (N (a<0)) Á (N (a>=o))) (M ((([]:Tn55),([]:Tn49),([]:Tn26),([]:Tn66)),3)) (cond ((inR a c.2.2.2.length) || !(!(N (b<0)))) (let l:=L c.2.2.2 a.toNat (J,[],[])
 let m:=S l.2.2.length
 cond (cond (N (b<0)) Á (N (b>=m))) (M ((([]:Tn55),([]:Tn49),([]:Tn26),([]:Tn66)),10)) (cond (inR a c.2.2.2.length) (let d:=L c.2.2.2 a.toNat (J,[],[])
 cond (N ((0:K)<=0)&&(N (0<=b)&&N (b<=(S d.2.2.length)))) (let g:Tn29:=Ì 0 (Ê b.toNat d.2.2)
 cond (N (W ([]:Tn29)+W g<=j06)) (let i:Tn29:=([]:Tn29)++g
 let f:=w64 (b+1)
 cond (N (0<=f)&&(N (f<=(S d.2.2.length))&&N ((S d.2.2.length)<=(S d.2.2.length)))) (let j:Tn29:=Ì f.toNat (Ê d.2.2.length d.2.2)
 cond (N (W i+W j<=j06)) (let n:Tn29:=i++j
 (jdR c a n).bind λe=>M (e,0)) X) X) X) X) X)) X))
def jfD(b a:K):O Int:=cond (!(a==0)) (let d:=Æ b a
 let e:=w64 (d+a)
 cond (!(a==0)) (let c:=Æ e a
 M c) X) X
def j3P(k:K)(j:Tn29)(c b:K)(i:Y K):O ((K×Tn29×K×K×(Y K)) ⊕ (Y K)):=cond (N (b<c)) (cond (inR b j.length) (let a:=L j b.toNat (0,0,0,0,0)
 (j6q a k).bind λg=>cond g (cond (N (W i+W [b]<=j06)) (let f:Y Int:=i++[b]
 let e:=w64 (b+1)
 M (.inl (k,j,c,e,f))) X) (let d:=w64 (b+1)
 M (.inl (k,j,c,d,i)))) X) (M (.inr i))
def j7D[LP]:=lp5 j3P
abbrev jae:=eq5 j3P j7D
def jaS[LP](a:Tn65)(b:K):O (Y K):=
 let c:=S a.2.2.length
 (j7D b a.2.2 c 0 ([]:(Y K))).bind λd=>M d
def j4i(e b:K)(m:U)(d:Tn61)(a:Tn29)(l:Y K):O ((K×K×U×Tn61×Tn29×(Y K)) ⊕ (Y K)):=
 let j:=S a.length
 cond (N (b<j)) (cond (inR b a.length) (let c:=L a b.toNat (0,0,0,0,0)
 cond ((inR b a.length) || !(N (c.2.2.2.1<=e))) (let k:=L a b.toNat (0,0,0,0,0)
 cond (cond (N (c.2.2.2.1<=e)) (N (e<k.2.2.2.2)) Z) (cond (N (W l+W [b]<=j06)) (let g:Y Int:=l++[b]
 let f:=w64 (b+1)
 M (.inl (e,f,m,d,a,g))) X) (let i:=w64 (b+1)
 M (.inl (e,i,m,d,a,l)))) X) X) (M (.inr l))
def j8x[LP]:=lp6 j4i
abbrev jbr:=eq6 j4i j8x
def jco[LP](a:Tn65)(b:K):O (Y K):=(j8x b 0 a.1 a.2.1 a.2.2 ([]:(Y K))).bind λc=>M c
def j2t[LP](a0:Tn29)(a3 a2 a1 d:K)(w:Tn73)(u:K)(v:Y K)(z:K)(x:Y K)(g a4 m n o p:K)(t:Tn55)(k:Tn49)(j:Tn26)(i:Tn66)(f:Tn55)(a:Tn49)(b:Tn26)(c:Tn66)(y:Y K)(e:K):O ((Tn29×K×K×K×K×Tn73×K×(Y K)×K×(Y K)×K×K×K×K×K×K×Tn55×Tn49×Tn26×Tn66×Tn55×Tn49×Tn26×Tn66×(Y K)×K) ⊕ (Ç ⊕ (Tn29×K×K×K×K×Tn73×K×(Y K)×K×K×K×K×K×K×Tn55×Tn49×Tn26×Tn66×Tn55×Tn49×Tn26×Tn66×(Y K)×K))):=cond (N (g<3)) (cond (inR g 3) (let l:=L x g.toNat 0
 (j6Q (f,a,b,c) d l).bind λr=>(jd5 (f,a,b,c) d l).bind λq=>cond (r != q) (M (.inr (.inl Z))) (let s:=w64 (g+1)
 M (.inl (a0,a3,a2,a1,d,w,u,v,z,x,s,a4,m,n,o,p,t,k,j,i,f,a,b,c,y,e)))) X) (M (.inr (.inr (a0,a3,a2,a1,d,w,u,v,z,a4,m,n,o,p,t,k,j,i,f,a,b,c,y,e))))
def j73[LP]:=c8 (c8 (c8 c2)) (LP.lp (u8 (u8 (u8 unc2)) j2t))
abbrev j7Z:=eq26 j2t j73
def j2u[LP](a1:Tn29)(a4 a3 a2 i:K)(y:Tn73)(v:K)(x:Y K)(a0:K)(w:Tn29)(g a5 o p q t:K)(u:Tn55)(n:Tn49)(m:Tn26)(l:Tn66)(k:Tn55)(d:Tn49)(e:Tn26)(f:Tn66)(z:Y K)(j:K):O ((Tn29×K×K×K×K×Tn73×K×(Y K)×K×Tn29×K×K×K×K×K×K×Tn55×Tn49×Tn26×Tn66×Tn55×Tn49×Tn26×Tn66×(Y K)×K) ⊕ (Ç ⊕ (Tn29×K×K×K×K×Tn73×K×(Y K)×K×K×K×K×K×K×Tn55×Tn49×Tn26×Tn66×Tn55×Tn49×Tn26×Tn66×(Y K)×K))):=cond (N (g<3)) (cond (inR g 3) (let a:=L w g.toNat (0,0,0,0,0)
 (j4r (k,d,e,f) i a).bind λb=>(j61 (k,d,e,f) i a).bind λc=>cond (b.2 != c.2) (M (.inr (.inl Z))) ((jdS b.1 c.1).bind λr=>cond (!r) (M (.inr (.inl Z))) (let s:=w64 (g+1)
 M (.inl (a1,a4,a3,a2,i,y,v,x,a0,w,s,a5,o,p,q,t,u,n,m,l,k,d,e,f,z,j))))) X) (M (.inr (.inr (a1,a4,a3,a2,i,y,v,x,a0,a5,o,p,q,t,u,n,m,l,k,d,e,f,z,j))))
def j74[LP]:=c8 (c8 (c8 c2)) (LP.lp (u8 (u8 (u8 unc2)) j2u))
abbrev j80:=eq26 j2u j74
def j2v[LP](a1:Tn29)(a4 a3 a2 r:K)(y:Tn73)(w:K)(x:Y K)(a0:K)(o:Y K)(f a5 p q s u:K)(v:Tn55)(m:Tn49)(l:Tn26)(k:Tn66)(j:Tn55)(c:Tn49)(d:Tn26)(e:Tn66)(z:Y K)(i:K):O ((Tn29×K×K×K×K×Tn73×K×(Y K)×K×(Y K)×K×K×K×K×K×K×Tn55×Tn49×Tn26×Tn66×Tn55×Tn49×Tn26×Tn66×(Y K)×K) ⊕ (Ç ⊕ (Tn29×K×K×K×Tn73×K×(Y K)×K×K×K×K×K×K×Tn55×Tn49×Tn26×Tn66×Tn55×Tn49×Tn26×Tn66×(Y K)×K))):=cond (N (f<3)) (cond (inR f 3) (let g:=L o f.toNat 0
 (j2R (j,c,d,e) r g).bind λb=>(j4w (j,c,d,e) r g).bind λa=>cond (b.2 != a.2) (M (.inr (.inl Z))) ((jdS b.1 a.1).bind λt=>cond (!t) (M (.inr (.inl Z))) (let n:=w64 (f+1)
 M (.inl (a1,a4,a3,a2,r,y,w,x,a0,o,n,a5,p,q,s,u,v,m,l,k,j,c,d,e,z,i))))) X) (M (.inr (.inr (a1,a4,a3,a2,y,w,x,a0,a5,p,q,s,u,v,m,l,k,j,c,d,e,z,i))))
def j75[LP]:=c8 (c8 (c8 c2)) (LP.lp (u8 (u8 (u8 unc2)) j2v))
abbrev j81:=eq26 j2v j75
def j2w[LP](b0:Tn29)(a8 b5 b3:K)(a4:Tn73)(a2:K)(a3:Y K)(n b7 q s t u:K)(a1:Tn55)(m:Tn49)(l:Tn26)(k:Tn66)(b4:Tn55)(v:Tn49)(x:Tn26)(z:Tn66)(a5:Y K)(j:K):O ((Tn29×K×K×K×Tn73×K×(Y K)×K×K×K×K×K×K×Tn55×Tn49×Tn26×Tn66×Tn55×Tn49×Tn26×Tn66×(Y K)×K) ⊕ (Ç ⊕ (Tn29×K×K×K×Tn73×K×K×K×K×K×K×Tn55×Tn49×Tn26×Tn66×(Y K)×K))):=cond (N (n<3)) (cond (inR n 3) (let y:=L a3 n.toNat 0
 (j2T a5 j).bind λg=>(j2T g.2.1 g.2.2).bind λi=>let a0:Y Int:=[a8,g.1,i.1]
 (j73 b0 a8 b5 b3 y a4 a2 a3 n a0 0 b7 q s t u a1 m l k b4 v x z i.2.1 i.2.2).bind λa7=>sumC a7 (λb2=>M (.inr (.inl b2))) (λa=>(j2W a.2.2.2.2.2.2.2.2.2.2.2.2.2.2.2.2.2.2.2.2.2.2.1 a.2.2.2.2.2.2.2.2.2.2.2.2.2.2.2.2.2.2.2.2.2.2.2 ((Ä a.2.2.2.2.2.2.2.2.2.2.2.2.2.2.1.length ()),(Ä a.2.2.2.2.2.2.2.2.2.2.2.2.2.2.2.1.length ()),(Ä a.2.2.2.2.2.2.2.2.2.2.2.2.2.2.2.2.1.length ()),(Ä a.2.2.2.2.2.2.2.2.2.2.2.2.2.2.2.2.2.1.length ()))).bind λd=>(j2W d.2.1 d.2.2 ((Ä a.2.2.2.2.2.2.2.2.2.2.2.2.2.2.1.length ()),(Ä a.2.2.2.2.2.2.2.2.2.2.2.2.2.2.2.1.length ()),(Ä a.2.2.2.2.2.2.2.2.2.2.2.2.2.2.2.2.1.length ()),(Ä a.2.2.2.2.2.2.2.2.2.2.2.2.2.2.2.2.2.1.length ()))).bind λe=>let w:Tn29:=[(a.2.2.2.2.2.2.2.2.2.1,a.2.2.2.2.2.2.2.2.2.2.1,a.2.2.2.2.2.2.2.2.2.2.2.1,a.2.2.2.2.2.2.2.2.2.2.2.2.1,a.2.2.2.2.2.2.2.2.2.2.2.2.2.1),d.1,e.1]
 (j74 a.1 a.2.1 a.2.2.1 a.2.2.2.1 a.2.2.2.2.1 a.2.2.2.2.2.1 a.2.2.2.2.2.2.1 a.2.2.2.2.2.2.2.1 a.2.2.2.2.2.2.2.2.1 w 0 a.2.2.2.2.2.2.2.2.2.1 a.2.2.2.2.2.2.2.2.2.2.1 a.2.2.2.2.2.2.2.2.2.2.2.1 a.2.2.2.2.2.2.2.2.2.2.2.2.1 a.2.2.2.2.2.2.2.2.2.2.2.2.2.1 a.2.2.2.2.2.2.2.2.2.2.2.2.2.2.1 a.2.2.2.2.2.2.2.2.2.2.2.2.2.2.2.1 a.2.2.2.2.2.2.2.2.2.2.2.2.2.2.2.2.1 a.2.2.2.2.2.2.2.2.2.2.2.2.2.2.2.2.2.1 a.2.2.2.2.2.2.2.2.2.2.2.2.2.2.2.2.2.2.1 a.2.2.2.2.2.2.2.2.2.2.2.2.2.2.2.2.2.2.2.1 a.2.2.2.2.2.2.2.2.2.2.2.2.2.2.2.2.2.2.2.2.1 a.2.2.2.2.2.2.2.2.2.2.2.2.2.2.2.2.2.2.2.2.2.1 e.2.1 e.2.2).bind λa6=>sumC a6 (λb1=>M (.inr (.inl b1))) (λb=>(j02 b.2.2.2.2.2.2.2.2.2.2.2.2.2.2.2.2.2.2.2.2.2.2.1 b.2.2.2.2.2.2.2.2.2.2.2.2.2.2.2.2.2.2.2.2.2.2.2 5).bind λf=>let p:=w64 (f.1-1)
 let o:Y Int:=[b.2.2.2.1,p,0]
 (j75 b.1 b.2.1 b.2.2.1 b.2.2.2.1 b.2.2.2.2.1 b.2.2.2.2.2.1 b.2.2.2.2.2.2.1 b.2.2.2.2.2.2.2.1 b.2.2.2.2.2.2.2.2.1 o 0 b.2.2.2.2.2.2.2.2.2.1 b.2.2.2.2.2.2.2.2.2.2.1 b.2.2.2.2.2.2.2.2.2.2.2.1 b.2.2.2.2.2.2.2.2.2.2.2.2.1 b.2.2.2.2.2.2.2.2.2.2.2.2.2.1 b.2.2.2.2.2.2.2.2.2.2.2.2.2.2.1 b.2.2.2.2.2.2.2.2.2.2.2.2.2.2.2.1 b.2.2.2.2.2.2.2.2.2.2.2.2.2.2.2.2.1 b.2.2.2.2.2.2.2.2.2.2.2.2.2.2.2.2.2.1 b.2.2.2.2.2.2.2.2.2.2.2.2.2.2.2.2.2.2.1 b.2.2.2.2.2.2.2.2.2.2.2.2.2.2.2.2.2.2.2.1 b.2.2.2.2.2.2.2.2.2.2.2.2.2.2.2.2.2.2.2.2.1 b.2.2.2.2.2.2.2.2.2.2.2.2.2.2.2.2.2.2.2.2.2.1 f.2.1 f.2.2).bind λa9=>sumC a9 (λb6=>M (.inr (.inl b6))) (λc=>let r:=w64 (c.2.2.2.2.2.2.2.1+1)
 M (.inl (c.1,c.2.1,c.2.2.1,c.2.2.2.1,c.2.2.2.2.1,c.2.2.2.2.2.1,c.2.2.2.2.2.2.1,r,c.2.2.2.2.2.2.2.2.1,c.2.2.2.2.2.2.2.2.2.1,c.2.2.2.2.2.2.2.2.2.2.1,c.2.2.2.2.2.2.2.2.2.2.2.1,c.2.2.2.2.2.2.2.2.2.2.2.2.1,c.2.2.2.2.2.2.2.2.2.2.2.2.2.1,c.2.2.2.2.2.2.2.2.2.2.2.2.2.2.1,c.2.2.2.2.2.2.2.2.2.2.2.2.2.2.2.1,c.2.2.2.2.2.2.2.2.2.2.2.2.2.2.2.2.1,c.2.2.2.2.2.2.2.2.2.2.2.2.2.2.2.2.2.1,c.2.2.2.2.2.2.2.2.2.2.2.2.2.2.2.2.2.2.1,c.2.2.2.2.2.2.2.2.2.2.2.2.2.2.2.2.2.2.2.1,c.2.2.2.2.2.2.2.2.2.2.2.2.2.2.2.2.2.2.2.2.1,c.2.2.2.2.2.2.2.2.2.2.2.2.2.2.2.2.2.2.2.2.2.1,c.2.2.2.2.2.2.2.2.2.2.2.2.2.2.2.2.2.2.2.2.2.2)))))) X) (M (.inr (.inr (b0,a8,b5,b3,a4,a2,b7,q,s,t,u,a1,m,l,k,a5,j))))
def j5m[LP](t:Tn29)(w v u:K)(q:Tn73)(n:K)(o:Y K)(s x i j k l:K)(m:Tn55)(g:Tn49)(f:Tn26)(e:Tn66)(p:Tn55)(a:Tn49)(b:Tn26)(d:Tn66)(r:Y K)(c:K):O (Ç ⊕ (Tn29×K×K×K×Tn73×K×K×K×K×K×K×Tn55×Tn49×Tn26×Tn66×(Y K)×K)):=LP.lp (u8 (u8 unc7) j2w) (t,w,v,u,q,n,o,s,x,i,j,k,l,m,g,f,e,p,a,b,d,r,c)
theorem j82(t w v u q n o s x i j k l m g f e p a b d r c):j5m t w v u q n o s x i j k l m g f e p a b d r c=lpK (j2w t w v u q n o s x i j k l m g f e p a b d r c) (λh=>j5m h.1 h.2.1 h.2.2.1 h.2.2.2.1 h.2.2.2.2.1 h.2.2.2.2.2.1 h.2.2.2.2.2.2.1 h.2.2.2.2.2.2.2.1 h.2.2.2.2.2.2.2.2.1 h.2.2.2.2.2.2.2.2.2.1 h.2.2.2.2.2.2.2.2.2.2.1 h.2.2.2.2.2.2.2.2.2.2.2.1 h.2.2.2.2.2.2.2.2.2.2.2.2.1 h.2.2.2.2.2.2.2.2.2.2.2.2.2.1 h.2.2.2.2.2.2.2.2.2.2.2.2.2.2.1 h.2.2.2.2.2.2.2.2.2.2.2.2.2.2.2.1 h.2.2.2.2.2.2.2.2.2.2.2.2.2.2.2.2.1 h.2.2.2.2.2.2.2.2.2.2.2.2.2.2.2.2.2.1 h.2.2.2.2.2.2.2.2.2.2.2.2.2.2.2.2.2.2.1 h.2.2.2.2.2.2.2.2.2.2.2.2.2.2.2.2.2.2.2.1 h.2.2.2.2.2.2.2.2.2.2.2.2.2.2.2.2.2.2.2.2.1 h.2.2.2.2.2.2.2.2.2.2.2.2.2.2.2.2.2.2.2.2.2.1 h.2.2.2.2.2.2.2.2.2.2.2.2.2.2.2.2.2.2.2.2.2.2):=j0j _ _
def j2x[LP](t:Tn29)(v u x:K)(m:Tn73)(d y o p q s:K)(l:Tn55)(i:Tn49)(g:Tn26)(f:Tn66)(n:Y K)(e:K):O ((Tn29×K×K×K×Tn73×K×K×K×K×K×K×Tn55×Tn49×Tn26×Tn66×(Y K)×K) ⊕ (Ç ⊕ (Tn29×K×Tn55×Tn49×Tn26×Tn66×(Y K)×K))):=cond (N (d<2)) (cond (inR d 2) (let b:=L m d.toNat ([],[],[],[])
 (j02 n e 3).bind λc=>let k:Y Int:=[0,c.1,u]
 (j5m t v u x m d k 0 y o p q s l i g f b.1 b.2.1 b.2.2.1 b.2.2.2 c.2.1 c.2.2).bind λr=>sumC r (λw=>M (.inr (.inl w))) (λa=>let j:=w64 (a.2.2.2.2.2.1+1)
 M (.inl (a.1,a.2.1,a.2.2.1,a.2.2.2.1,a.2.2.2.2.1,j,a.2.2.2.2.2.2.1,a.2.2.2.2.2.2.2.1,a.2.2.2.2.2.2.2.2.1,a.2.2.2.2.2.2.2.2.2.1,a.2.2.2.2.2.2.2.2.2.2.1,a.2.2.2.2.2.2.2.2.2.2.2.1,a.2.2.2.2.2.2.2.2.2.2.2.2.1,a.2.2.2.2.2.2.2.2.2.2.2.2.2.1,a.2.2.2.2.2.2.2.2.2.2.2.2.2.2.1,a.2.2.2.2.2.2.2.2.2.2.2.2.2.2.2.1,a.2.2.2.2.2.2.2.2.2.2.2.2.2.2.2.2)))) X) (M (.inr (.inr (t,v,l,i,g,f,n,e))))
def j5n[LP](n:Tn29)(r p o:K)(m:Tn73)(k q g e f i:K)(j:Tn55)(c:Tn49)(b:Tn26)(a:Tn66)(l:Y K)(d:K):O (Ç ⊕ (Tn29×K×Tn55×Tn49×Tn26×Tn66×(Y K)×K)):=LP.lp (u8 unc9 j2x) (n,r,p,o,m,k,q,g,e,f,i,j,c,b,a,l,d)
theorem j83(n r p o m k q g e f i j c b a l d):j5n n r p o m k q g e f i j c b a l d=lpK (j2x n r p o m k q g e f i j c b a l d) (λh=>j5n h.1 h.2.1 h.2.2.1 h.2.2.2.1 h.2.2.2.2.1 h.2.2.2.2.2.1 h.2.2.2.2.2.2.1 h.2.2.2.2.2.2.2.1 h.2.2.2.2.2.2.2.2.1 h.2.2.2.2.2.2.2.2.2.1 h.2.2.2.2.2.2.2.2.2.2.1 h.2.2.2.2.2.2.2.2.2.2.2.1 h.2.2.2.2.2.2.2.2.2.2.2.2.1 h.2.2.2.2.2.2.2.2.2.2.2.2.2.1 h.2.2.2.2.2.2.2.2.2.2.2.2.2.2.1 h.2.2.2.2.2.2.2.2.2.2.2.2.2.2.2.1 h.2.2.2.2.2.2.2.2.2.2.2.2.2.2.2.2):=j0j _ _
def j28(p:K)(o:Tn29)(f:Tn34)(j:K)(d:Y K)(e c a:K)(n:Y K)(b:K)(k m:Y K):O ((K×Tn29×Tn34×K×(Y K)×K×K×K×(Y K)×K×(Y K)×(Y K)) ⊕ (Ç ⊕ (K×Tn29×Tn34×K×(Y K)×K×(Y K)×K))):=cond (N (a<c)) (cond (inR a k.length) (let l:=L k a.toNat 0
 cond (inR a m.length) (let i:=L m a.toNat 0
 cond (l != i) (M (.inr (.inl Z))) (let g:=w64 (a+1)
 M (.inl (p,o,f,j,d,e,c,g,n,b,k,m)))) X) X) (M (.inr (.inr (p,o,f,j,d,e,n,b))))
def j6s[LP]:=c8 c4 (LP.lp (u8 unc4 j28))
abbrev j7j:=eq12 j28 j6s
def j29[LP](w:K)(g:Tn29)(s:Tn34)(o:K)(n:Y K)(e:K)(u:Y K)(j:K):O ((K×Tn29×Tn34×K×(Y K)×K×(Y K)×K) ⊕ (Ç ⊕ (K×Tn34×K×(Y K)×K))):=cond (N (e<3)) (cond (inR e 3) (let b:=L n e.toNat 0
 (j02 u j 5).bind λd=>let i:=w64 (d.1-1)
 (jaS (J,([]:Tn61),g) b).bind λc=>(jco (J,([]:Tn61),g) b).bind λf=>(jbN g i b).bind λl=>(jdQ g i b).bind λq=>let r:=S c.length
 let k:=S f.length
 cond (cond (l != q) Á (r != k)) (M (.inr (.inl Z))) (let m:=S c.length
 (j6s w g s o n e m 0 d.2.1 d.2.2 c f).bind λt=>sumC t (λv=>M (.inr (.inl v))) (λa=>let p:=w64 (a.2.2.2.2.2.1+1)
 M (.inl (a.1,a.2.1,a.2.2.1,a.2.2.2.1,a.2.2.2.2.1,p,a.2.2.2.2.2.2.1,a.2.2.2.2.2.2.2))))) X) (M (.inr (.inr (w,s,o,u,j))))
def j6t[LP]:=lp8 j29
abbrev j7k:=eq8 j29 j6t
def j2a[LP](m:K)(d:Tn34)(c:K)(n:Y K)(k:K):O ((K×Tn34×K×(Y K)×K) ⊕ (Ç ⊕ È)):=cond (N (c<2)) (cond (inR c 2) (let e:=L d c.toNat ([]:Tn29)
 (j2T n k).bind λb=>(jfD m 9).bind λi=>let g:Y Int:=[m,b.1,i]
 (j6t m e d c g 0 b.2.1 b.2.2).bind λj=>sumC j (λl=>M (.inr (.inl l))) (λa=>let f:=w64 (a.2.2.1+1)
 M (.inl (a.1,a.2.1,f,a.2.2.2.1,a.2.2.2.2)))) X) (M (.inr (.inr ())))
def j6u[LP]:=lp5 j2a
abbrev j7l:=eq5 j2a j6u
def j91[LP](g:Y K)(b:Tn24)(e:Tn29)(m c f:K):O Bool:=(jeC g).bind λo=>let p:=S e.length
 cond (cond (!o) Á (N (p>60))) ((jcj).bind λq=>M q) ((jgn g).bind λi=>(j6i i.1 i.2 2).bind λa=>(j6V a.2.1 a.2.2 a.1).bind λd=>let t:Tn73:=[a.1,d.1]
 (j5n e m c f t 0 b.1 b.2.1 b.2.2.1 b.2.2.2.1 b.2.2.2.2 a.1.1 a.1.2.1 a.1.2.2.1 a.1.2.2.2 d.2.1 d.2.2).bind λu=>sumC u (λw=>M w) (λn=>cond (inR 0 n.2.2.2.2.2.1.length) (let j:=L n.2.2.2.2.2.1 0 (J,[],[])
 let k:Tn34:=[n.1,j.2.2]
 (j6u n.2.1 k 0 n.2.2.2.2.2.2.1 n.2.2.2.2.2.2.2).bind λr=>sumC r (λs=>M s) (λv=>(jcj).bind λl=>M l)) X))
end
end Go.Proofs.Pw
