/- iq 10: the iI SM. -/
import Derived.Test.YtkoifkkadkmecaaGreatLRPE
import Derived.Test.YtkoifkkadkmecaaGreatLRLD
import Derived.Test.YtkoifkkadkmecaaGreatLRPF
import Derived.Test.YtkoifkkadkmecaaGreatLRPG
open _root_ renaming Int->B,List->F,Option->H,ByteArray->I,Nat->U
open ByteArray renaming empty->E
open Option renaming some->G,none->S,some_or->Z
open Int renaming tmod->J,mul_comm->R,ofNat->X
noncomputable section
open Go Go.Lft
namespace Go.Proofs.Pw
theorem Γ{z:bF}{l:bI}(hz:Z4 z l){L:bP}(h:Rt L){t N:B}(hN:N<=8589934592):∀n:U,(n:B)<=N->
  ∃K:B,Bb t ((n:B)-1) z.1 z.2.1 z.2.2 L.1 L.2.1 L.2.2.1.1 L.2.2.1.2 L.2.2.2.1 L.2.2.2.2.1 L.2.2.2.2.2.1 L.2.2.2.2.2.2.1 L.2.2.2.2.2.2.2.1 L.2.2.2.2.2.2.2.2=G K/\
   (K = -1\/0<=K/\QO z.2.1 l L t K)/\K<n/\∀j:B,K<j->0<=j->j<n->¬QO z.2.1 l L t j
 |0,_=>by
  rw[Zb];simp only[j6W];rw[ai omg_,j7,aP];exact⟨_,rfl,.inl omg_,omg_,λj h1 h2 h3=>omg_⟩
 |n+1,hn=>by
  obtain⟨K,e,k0,k1,k2⟩:=Γ hz h (t:=t) hN n omg_;obtain⟨v,hH,hv⟩:=G1 hz h (k:=(n:B)) omg_ omg_;rw[Zb,show ((n+1:U):B)-1=(n:B) by omega];simp only[j6W];rw[ah omg_,j6,show j8C (z.1,(z.2.1,z.2.2)) (L.1,L.2.1,(L.2.2.1.1,L.2.2.1.2),L.2.2.2.1,L.2.2.2.2.1,L.2.2.2.2.2.1,L.2.2.2.2.2.2.1,L.2.2.2.2.2.2.2.1,L.2.2.2.2.2.2.2.2) (n:B)=_ from hH];simp only[j4];rw[aj (x:=(n:B)-1)]
  have down:¬QO z.2.1 l L t (n:B)->(lpK (G (Sum.inl (t,(n:B)-1,z.1,z.2.1,z.2.2,L.1,L.2.1,L.2.2.1.1,L.2.2.1.2,L.2.2.2.1,L.2.2.2.2.1,L.2.2.2.2.2.1,L.2.2.2.2.2.2.1,L.2.2.2.2.2.2.2.1,L.2.2.2.2.2.2.2.2)):H ((B×B×I×B×F aN×I×B×B×B×B×B×F B×WL×B×B) ⊕ B)) (λh=>Bb h.1 h.2.1 h.2.2.1 h.2.2.2.1 h.2.2.2.2.1 h.2.2.2.2.2.1 h.2.2.2.2.2.2.1 h.2.2.2.2.2.2.2.1 h.2.2.2.2.2.2.2.2.1 h.2.2.2.2.2.2.2.2.2.1 h.2.2.2.2.2.2.2.2.2.2.1 h.2.2.2.2.2.2.2.2.2.2.2.1 h.2.2.2.2.2.2.2.2.2.2.2.2.1 h.2.2.2.2.2.2.2.2.2.2.2.2.2.1 h.2.2.2.2.2.2.2.2.2.2.2.2.2.2))=G K/\∀j:B,K<j->0<=j->j<((n+1:U):B)->¬QO z.2.1 l L t j:=by
   intro hq;refine⟨by rw[aB];exact e,λj h1 h2 h3=>?_⟩;by_cases xF:j<n
   .exact k2 j h1 h2 xF
   .rw[show j=(n:B) by omega];exact hq
  cases hx:hO z.2.1 l L (n:B) with
  |none=>
   simp only[v8,j7];obtain⟨d1,d2⟩:=down λ⟨y,hy,_⟩=>by rw[hx]at hy;simp at hy
   exact⟨K,d1,k0,omg_,d2⟩
  |some x=>
   have:=hv x hx;subst this;simp only[zm,j6];by_cases hc:v<=t
   .rw[ah hc,j6,aP];exact⟨_,rfl,.inr ⟨omg_,v,hx,hc⟩,omg_,λj h1 h2 h3=>omg_⟩
   .rw[ai hc,j7];obtain⟨d1,d2⟩:=down λ⟨y,hy,Cw⟩=>by rw[hx]at hy;simp at hy;omega
    exact⟨K,d1,k0,omg_,d2⟩
theorem Δ{z:bF}{l:bI}(hz:Z4 z l){L:bP}(h:Rt L){t:B}(K6:0<=t)(tj:t<=8589934592):∃K:B,jek z L t=G K/\jR z.2.1 l L t K:=by
 have hs:=h.step;have GR:=h.d0;have rU:=h.d1;have tL:=h.e0;have As:=h.e1;have jB:=h.c0;have fL:=h.c1;simp only[jek];by_cases h0:L.2.2.2.1=0
 .have hF:=Si hz (d:=L.2.2.1.1) (c:=L.2.2.1.2) omg_ jB fL;have kF:L.2.2.1.1*86400+L.2.2.1.2=cM L 0:=by unfold cM;omega
  rw[cR h0,j6,show j6a (z.1,(z.2.1,z.2.2)) (L.2.2.1.1,L.2.2.1.2)=_ from hF,kF];simp only[j4]
  have nq:(∀v,fO z.2.1 l (cM L 0)=G v->t<v)->¬QO z.2.1 l L t 0:=by
   rintro hn ⟨y,hy,Cw⟩
   have:=hn y (C_ h0 hy);omega
  cases hf:fO z.2.1 l (cM L 0) with
  |none=>exact⟨-1,rfl,.inl ⟨rfl,nq λv hv=>by rw[hf]at hv;simp at hv⟩⟩
  |some v=>
   have Sj:=C2 hz.2 hf;simp only[qs,j6];by_cases hc:v<=t
   .obtain⟨s1,s2,s3⟩:=B_ (o:=z.2.1) (l:=l) h h0 tj hf hc Sj.2.1;rw[ah hc,j6,aj (x:=t-v),aj (x:=3600*L.2.2.2.2.1),ca (show¬3600*L.2.2.2.2.1=0 by omega),zf omg_,aj (x:=(t-v)/(3600*L.2.2.2.2.1))];exact⟨_,rfl,s1⟩
   .rw[ai hc];exact⟨-1,rfl,.inl ⟨rfl,nq λv' hv=>by rw[hf]at hv;simp at hv;omega⟩⟩
 .obtain⟨j,hj,j1,j2⟩:=tT hz.2 K6 tj;have o0:=hz.2.of0 j hj;have o1:=hz.2.of1 j hj;have eT:=r_ hz (t:=t) K6 tj hj j1 j2;rw[ca h0,j7,show j4D (z.1,(z.2.1,z.2.2)) t=_ from eT];simp only[j4];have rq:∀k:B,QO z.2.1 l L t k->L.2.2.1.1+k*di L<=(t+bu z.2.1 l j)/86400+2:=λk hq=>QO.day hz.2 h h0 hq hj;generalize Ih:(t+bu z.2.1 l j)/86400=ld at rq;rw[aj (x:=ld+2),aj (x:=ld+2-L.2.2.1.1)]
  have fin:∀st:B,st=di L->∃K:B,((Bb t (w64 (Int.tdiv (if (0:B)>ld+2-L.2.2.1.1 then (0:B) else ld+2-L.2.2.1.1) st)) z.1 z.2.1 z.2.2 L.1 L.2.1 L.2.2.1.1 L.2.2.1.2 L.2.2.2.1 L.2.2.2.2.1 L.2.2.2.2.2.1 L.2.2.2.2.2.2.1 L.2.2.2.2.2.2.2.1 L.2.2.2.2.2.2.2.2).bind λq0=>G q0)=G K/\jR z.2.1 l L t K:=by
   rintro st rfl
   obtain⟨m,hm,gF,fw⟩:∃m:B,(if (0:B)>ld+2-L.2.2.1.1 then (0:B) else ld+2-L.2.2.1.1)=m/\0<=m/\m<=1000000:=⟨_,rfl,by split<;>omega,by split<;>omega⟩;have Cg:ld+2-L.2.2.1.1<=m:=by rw[<-hm];split<;>omega
   rw[hm,zf gF];have q0:0<=m/di L:=yt gF omg_;have q1:m/di L<=m:=yh _ gF;have q2:m<di L*(m/di L)+di L:=Int.lt_mul_ediv_self_add omg_;rw[aj];generalize m/di L=km at *;obtain⟨K,e,k0,k1,k2⟩:=Γ hz h (t:=t) (jy _) (km+1).toNat omg_;rw[show (((km+1).toNat:U):B)-1=km by omega]at e;rw[e];refine⟨K,rfl,?_⟩
   have top:¬QO z.2.1 l L t (K+1):=by
    by_cases hK:K+1<=km
    .exact k2 (K+1) omg_ (by rcases k0 with k0|k0<;>omega) omg_
    .intro hq;have hd:=rq _ hq;have cD:K=km:=omg_;rw[cD,Int.add_mul,Int.one_mul]at hd;have:di L*km=km*di L:=R _ _;omega
   rcases k0 with k0|k0
   .subst k0;exact .inl ⟨rfl,top⟩
   .exact .inr ⟨k0.1,k0.2,top⟩
  by_cases h2:L.2.2.2.1=2
  .have Bv:di L=7*L.2.2.2.2.1:=by unfold di;rw[if_pos h2]
   rw[cR h2,j6,aj (x:=L.2.2.2.2.1*7),ca (show¬L.2.2.2.2.1*7=0 by omega)];simp only[jv,j6];exact fin _ (by rw[Bv,R])
  .have Bv:di L=L.2.2.2.2.1:=by unfold di;rw[if_neg h2]
   rw[ca h2,j7,ca (show¬L.2.2.2.2.1=0 by omega)];simp only[jv,j6];exact fin _ Bv.symm
abbrev fI:=B×(B×B)
abbrev bm:=F fI
def Ch(f:B->B)(b:B):B->bm->Prop
 |a,[]=>a=b
 |a,s::r=>s.1=a/\a<=s.2.1/\(∀t,a<=t->t<s.2.1->f t=s.2.2)/\Ch f b s.2.1 r
def dg(f:B->B)(b:B):H B->B->bm->Prop
 |_,a,[]=>a=b
 |q,a,s::r=>s.1=a/\a<s.2.1/\q≠G s.2.2/\(∀t,a<=t->t<s.2.1->f t=s.2.2)/\dg f b (G s.2.2) s.2.1 r
theorem Ch.le{f:B->B}{b:B}:∀{l:bm}{a:B},Ch f b a l->a<=b
 |[],_,h=>Int.le_of_eq h
 |_::_,_,h=>qb h.2.1 h.2.2.2.le
theorem Ch.app{f:B->B}{b c:B}:∀{l r:bm}{a:B},Ch f b a l->Ch f c b r->Ch f c a (l++r)
 |[],_,_,h,h'=>by have h:_=_:=h;subst h;exact h'
 |_::_,_,_,h,h'=>⟨h.1,h.2.1,h.2.2.1,h.2.2.2.app h'⟩
theorem Ch.snoc{f:B->B}{b c p:B}{l:bm}{a:B}(h:Ch f b a l)(zB:b<=c)(hp:∀t,b<=t->t<c->f t=p):Ch f c a (l++[(b,(c,p))]):=
 h.app ⟨rfl,zB,hp,rfl⟩
theorem dg.ch{f:B->B}{b:B}:∀{l:bm}{q:H B}{a:B},dg f b q a l->Ch f b a l
 |[],_,_,h=>h
 |_::_,_,_,h=>⟨h.1,vi h.2.1,h.2.2.2.1,h.2.2.2.2.ch⟩
theorem dg.uniq{f:B->B}{b:B}:∀{l l':bm}{q:H B}{a:B},dg f b q a l->dg f b q a l'->l=l'
 |[],[],_,_,_,_=>rfl
 |[],_::_,_,_,h,h'=>by have:=h'.2.1;have:=h'.2.2.2.2.ch.le;have h:_=_:=h;omega
 |_::_,[],_,_,h,h'=>by have:=h.2.1;have:=h.2.2.2.2.ch.le;have h':_=_:=h';omega
 |s::r,s'::r',q,a,h,h'=>by
  obtain⟨h1,h2,h3,h4,h5⟩:=h;obtain⟨g1,g2,g3,g4,g5⟩:=h';have hp:s.2.2=s'.2.2:=by rw[<-h4 a omg_ h2,<-g4 a omg_ g2]
  have ht:s.2.1=s'.2.1:=by
   apply ju;intro bz;by_cases aq:s.2.1<s'.2.1
   .match r,h5 with
    |[],h5=>have:=g5.ch.le;have h5:_=_:=h5;omega
    |u::v,h5=>have e1:=h5.2.2.2.1 s.2.1 omg_ h5.2.1;have e2:=g4 s.2.1 omg_ aq;exact h5.2.2.1 (by rw[<-e1,e2,hp])
   .match r',g5 with
    |[],g5=>have:=h5.ch.le;have g5:_=_:=g5;omega
    |u::v,g5=>have e1:=g5.2.2.2.1 s'.2.1 omg_ g5.2.1;have e2:=h4 s'.2.1 omg_ omg_;exact g5.2.2.1 (by rw[<-e1,e2,hp])
  have hs:s=s':=Prod.ext (by rw[h1,g1]) (Prod.ext ht hp);subst hs;rw[h5.uniq g5]
def lstP:H B->bm->H B
 |q,[]=>q
 |_,s::r=>lstP (G s.2.2) r
theorem Ε:∀(l:bm)(q:H B)(s:fI),lstP q (l++[s])=G s.2.2
 |[],_,_=>rfl
 |_::r,_,s=>Ε r _ s
theorem dg.snoc{f:B->B}{b c p:B}:∀{l:bm}{q:H B}{a:B},dg f b q a l->b<c->lstP q l≠G p->(∀t,b<=t->t<c->f t=p)->dg f c q a (l++[(b,(c,p))])
 |[],_,_,h,zB,hl,hp=>by have h:_=_:=h;subst h;exact⟨rfl,zB,hl,hp,rfl⟩
 |_::_,_,_,h,zB,hl,hp=>⟨h.1,h.2.1,h.2.2.1,h.2.2.2.1,h.2.2.2.2.snoc zB hl hp⟩
theorem dg.ext{f:B->B}{b c x p:B}:∀{l:bm}{q:H B}{a:B},dg f b q a (l++[(x,(b,p))])->b<=c->(∀t,b<=t->t<c->f t=p)->dg f c q a (l++[(x,(c,p))])
 |[],_,_,h,zB,hp=>⟨h.1,by have:=h.2.1;dsimp only at this ⊢;omega,h.2.2.1,λt h1 h2=>by
  by_cases ht:t<b
  .exact h.2.2.2.1 t h1 ht
  .exact hp t omg_ h2,rfl⟩
 |_::_,_,_,h,zB,hp=>⟨h.1,h.2.1,h.2.2.1,h.2.2.2.1,h.2.2.2.2.ext zB hp⟩
def lh(out:bm)(s:fI):bm:=
 if s.2.1<=s.1 then out else match out.getLast? with
  |some x=>if x.2.1=s.1/\x.2.2=s.2.2 then out.dropLast++[(x.1,(s.2.1,x.2.2))] else out++[s]
  |none=>out++[s]
theorem Ζ{f:B->B}{a b:B}{out:bm}(h:dg f b S a out){s:fI}(h1:s.1=b)(h2:b<=s.2.1)(h3:∀t,b<=t->t<s.2.1->f t=s.2.2):dg f s.2.1 S a (lh out s):=by
 obtain⟨x,y,p⟩:=s;dsimp only at h1 h2 h3 ⊢;subst h1;unfold lh;dsimp only;by_cases iJ:y<=x
 .rw[if_pos iJ];have:y=x:=omg_;subst this;exact h
 .rw[if_neg iJ];rcases vc out with rfl|⟨l,u,rfl⟩
  .exact h.snoc omg_ (by simp[lstP]) h3
  .rw[vd]at h ⊢;rw[List.getLast?_append];simp only[yl,Z];by_cases hu:u.2.1=x/\u.2.2=p
   .rw[if_pos hu,List.dropLast_concat];obtain⟨u1,u2,u3⟩:=u;dsimp only at hu ⊢;obtain⟨rfl,rfl⟩:=hu;exact h.ext h2 h3
   .rw[if_neg hu];refine h.snoc omg_ ?_ h3;rw[Ε];intro e;have hp:u.2.2=p:=by simpa using e
    refine hu ⟨?_,hp⟩
    have:∀(l:bm)(q:H B)(a:B),dg f x q a (l++[u])->u.2.1=x:=by
     intro l;induction l with
     |nil=>intro q a h;exact h.2.2.2.2
     |cons v r ih=>intro q a h;exact ih _ _ h.2.2.2.2
    exact this l _ _ h
theorem Η{f:B->B}{b:B}:∀(l:bm){a c:B}{out:bm},dg f c S a out->Ch f b c l->dg f b S a (l.foldl lh out)
 |[],_,_,_,h,h'=>by have h':_=_:=h';subst h';exact h
 |s::r,_,_,_,h,h'=>Η r (Ζ h h'.1 h'.2.1 h'.2.2.1) h'.2.2.2
theorem Ch.cov{f:B->B}{a b:B}{l:bm}(h:Ch f b a l):dg f b S a (l.foldl lh []):=Η l (show dg f a S a [] from rfl) h
theorem Θ{f:B->B}:∀{l:bm}{a b:B},a<=b->l.Pairwise (λs u=>s.2.1<=u.1)->(∀s∈l,s.1<s.2.1/\∀t,s.1<=t->t<s.2.1->f t=s.2.2)->
  (∀x,(a<=x/\x<b)↔∃s∈l,s.1<=x/\x<s.2.1)->Ch f b a l
 |[],a,b,bt,_,_,hc=>by
  apply ju;intro bz;have bz:a≠b:=bz;obtain⟨s,hs,_⟩:=(hc a).1 ⟨jy _,omg_⟩;simp at hs
 |s::r,a,b,bt,hp,hf,hc=>by
  obtain⟨s1,s2⟩:=hf s smp_;obtain⟨p1,p2⟩:=jt.1 hp;have h1:=(hc s.1).2 ⟨s,smp_,jy _,s1⟩;have h2:=(hc (s.2.1-1)).2 ⟨s,smp_,omg_,omg_⟩
  have he:s.1=a:=by
   obtain⟨u,hu,u1,u2⟩:=(hc a).1 ⟨jy _,omg_⟩;rcases je.1 hu with rfl|hu
   .omega
   .have:=p1 u hu;omega
  refine⟨he,omg_,λt t1 t2=>s2 t omg_ t2,Θ omg_ p2 (λu hu=>hf u (by simp[hu])) (λx=>⟨λhx=>?_,λ⟨u,hu,u1,u2⟩=>?_⟩)⟩
  .obtain⟨u,hu,u1,u2⟩:=(hc x).1 ⟨omg_,hx.2⟩;rcases je.1 hu with rfl|hu
   .omega
   .exact⟨u,hu,u1,u2⟩
  .have:=p1 u hu;have:=(hc x).2 ⟨u,by simp[hu],u1,u2⟩;omega
theorem Ch.mem{f:B->B}{b:B}:∀{l:bm}{a:B},Ch f b a l->∀s∈l,a<=s.1/\s.1<=s.2.1/\s.2.1<=b/\∀t,s.1<=t->t<s.2.1->f t=s.2.2
 |[],_,_,s,hs=>by simp at hs
 |u::r,a,h,s,hs=>by
  obtain⟨h1,h2,h3,h4⟩:=h;rcases je.1 hs with rfl|hs
  .exact⟨omg_,omg_,h4.le,λt t1 t2=>h3 t omg_ t2⟩
  .have:=h4.mem s hs;exact⟨omg_,this.2.1,this.2.2.1,this.2.2.2⟩
theorem Ch.has{f:B->B}{b:B}:∀{l:bm}{a:B},Ch f b a l->∀x,a<=x->x<b->∃s∈l,s.1<=x/\x<s.2.1
 |[],_,h,x,h1,h2=>by have h:_=_:=h;omega
 |u::r,a,h,x,h1,h2=>by
  obtain⟨g1,g2,g3,g4⟩:=h;by_cases hx:x<u.2.1
  .exact⟨u,smp_,omg_,hx⟩
  .obtain⟨s,hs,e⟩:=g4.has x omg_ h2;exact⟨s,by simp[hs],e⟩
theorem Ch.congr{f g:B->B}{b:B}:∀{l:bm}{a:B},Ch f b a l->(∀t,a<=t->t<b->f t=g t)->Ch g b a l
 |[],_,h,_=>h
 |u::r,a,h,hg=>by
  obtain⟨g1,g2,g3,g4⟩:=h;have:=g4.le;exact⟨g1,g2,λt t1 t2=>by rw[<-hg t t1 omg_];exact g3 t t1 t2,g4.congr (λt t1 t2=>hg t omg_ t2)⟩
theorem dg.pos{f:B->B}{b:B}:∀{l:bm}{q:H B}{a:B},dg f b q a l->∀s∈l,s.1<s.2.1
 |[],_,_,_,s,hs=>by simp at hs
 |u::r,_,a,h,s,hs=>by
  rcases je.1 hs with rfl|hs
  .have:=h.1;have:=h.2.1;omega
  .exact h.2.2.2.2.pos s hs
theorem dg.ne{f:B->B}{b:B}{l:bm}{q:H B}{a:B}(h:dg f b q a l)(bt:a<b):l≠[]:=by
 rintro rfl
 have h:_=_:=h;omega
theorem jGu{d:B}(h:j1l d=G true):0<=d:=by
 apply ju;intro hd;simp only[j1l,jan,La,K9,j4]at h;rw[ah (show d<0 by omega)]at h;simp at h
def rA(p:B×(B×B))(d:B):B×Int:=
 (if d*86400-p.2.2>p.1 then d*86400-p.2.2 else p.1,if d*86400-p.2.2+86400<p.2.1 then d*86400-p.2.2+86400 else p.2.1)
theorem Ι{ds:F B}(hd:∀d∈ds,0<=d/\d<=100000)(hl:ds.length<=64){p:B×(B×B)}(hp : -64800<=p.2.2/\p.2.2<=64800){m q z:B}{nm:I}{ps:F (B×(B×B))}:∀(n i:U)(acc:SL),i+n=ds.length->acc.length+n<=1000000->
  Fh m q ds (ds.length:B) (i:B) nm z ds p.1 p.2.1 p.2.2 acc ps=G (m,q,nm,z,ds,acc++(ds.drop i).map (rA p),ps)
 |0,i,acc,hi,_=>by
  rw[X4];simp only[j3G];rw[ai omg_,j7,aP,jd omg_];simp
 |n+1,i,acc,hi,dQ=>by
  have bh:i<ds.length:=omg_;have aT:ds.getD i (0:B)=ds[i]:=by simp[bh]
  have Κ:=hd _ (jf bh);rw[X4];simp only[j3G];rw[ah omg_,bJ];simp only[j6,j8,aT];rw[aj (x:=ds[i]*86400),aj (x:=ds[i]*86400-p.2.2),aj (x:=ds[i]*86400-p.2.2+86400),aj (x:=(i:B)+1),ah (by simp[aG];omega),jb bh];simp only[j6,aB,qf];have:=Ι hd hl hp (m:=m) (q:=q) (z:=z) (nm:=nm) (ps:=ps) n (i+1) (acc++[rA p ds[i]]) omg_ sqo_;rw[jh]at this;exact this
theorem Λ{ds:F B}(hd:∀d∈ds,0<=d/\d<=100000)(hl:ds.length<=64){z:B}{nm:I}{ps:F (B×(B×B))}(jD:∀p∈ps, -64800<=p.2.2/\p.2.2<=64800)(gr:ps.length<=100):∀(n i:U)(acc:SL),i+n=ps.length->acc.length<=64*i->
  Fi (ps.length:B) (i:B) nm z ds acc ps=G (acc++(ps.drop i).flatMap λp=>ds.map (rA p))
 |0,i,acc,hi,_=>by
  rw[X5];simp only[j3H];rw[ai omg_,j7,aP,jd omg_];simp
 |n+1,i,acc,hi,dQ=>by
  have bh:i<ps.length:=omg_;have aT:ps.getD i ((0:B),((0:B),(0:B)))=ps[i]:=by simp[List.getD,bh]
  have h2:=Ι hd hl (jD _ (jf bh)) (m:=(ps.length:B)) (q:=(i:B)) (z:=z) (nm:=nm) (ps:=ps) ds.length 0 acc omg_ omg_;have ih:=Λ hd hl (z:=z) (nm:=nm) jD gr n (i+1) (acc++ds.map (rA ps[i])) omg_ sqo_;rw[X5];simp only[j3H];rw[ah omg_,bJ];simp only[j6,j8,aT,show X ds.length=(ds.length:B) from rfl];rw[show Fh (ps.length:B) (i:B) ds (ds.length:B) 0 nm z ds ps[i].1 ps[i].2.1 ps[i].2.2 acc ps=_ from h2];simp only[j4,jr];rw[aj (x:=(i:B)+1),aB,jb bh,z7,<-jh];exact ih
theorem Μ{α β:Type}(f:α->F β)(k:U)(hf:∀a,(f a).length=k):∀l:F α,(l.flatMap f).length=l.length*k
 |[]=>smp_
 |a::l=>by rw[z7,jc,Μ f k hf l,hf,ji,Nat.add_mul,Nat.one_mul];omega
theorem Ν{p:B×(B×B)}{d x:B}:((rA p d).1<=x/\x<(rA p d).2)↔(p.1<=x/\x<p.2.1)/\(x+p.2.2)/86400=d:=by
 simp only[rA];constructor
 .intro h;split at h<;>split at h<;>omega
 .intro h;split<;>split<;>omega
section
variable{zs:F bF}{ps:F cI}{cs:F aU}(hs:cC zs ps cs)
include hs
theorem jF1{x:aU}(hx:rk zs.length x){ss:F cu}{a b:B}(ha:0<=a)(bt:a<=b)(hb:b<=8589934592){z:bF}(hz:zs.getD x.2.1.toNat (E,((0:B),([]:F aN)))=z) :
  ∃out,j2C ((zs,(ps,(cs,ss))),zs.map tb) x a b=G out/\bB (a-1) out/\out.length<=x.2.2.length*((tb z).2.length+1)/\
   ∀t d,a<=t->t<b->j1n (tb z) t=G d->(bq t out↔d.1∈x.2.2):=by
 have hlen:(zs.map tb).length=zs.length:=ke ..;have hg:=K7 (zs:=zs) hx.z0 hx.z1;have SN:=fH hs.so.ok hx.z0 hx.z1;rw[hz]at hg SN;have ht:=SN.ztab.2;have fm:(tb z).2.length<=20:=jEW SN;obtain⟨pc,e,pl,pm,SO⟩:=L_ ht ha bt hb;have om:=hx.len;have hd:∀d∈x.2.2,0<=d/\d<=100000:=λd hd=>⟨jGu (hx.day d hd),Y_ (hx.day d hd)⟩
 have EA:∀p∈pc, -64800<=p.2.2/\p.2.2<=64800:=λp hp=>by
  obtain⟨_,_,_,i,i1,i2,_⟩:=pm p hp;have:=ht.of0 i i1;have:=ht.of1 i i1;omega
 have l0:=Λ hd om (z:=x.2.1) (nm:=x.1) EA omg_ pc.length 0 [] omg_ smp_;rw[jp,jr]at l0;have P_:(pc.flatMap λp=>x.2.2.map (rA p)).length=pc.length*x.2.2.length:=Μ _ _ (λp=>ke ..) pc;have hm:pc.length*x.2.2.length<=((tb z).2.length+1)*x.2.2.length:=k7 _ pl;have iQ:((tb z).2.length+1)*x.2.2.length<=21*64:=ql omg_ om
 have fy:∀s∈(pc.flatMap λp=>x.2.2.map (rA p)),∃p∈pc,∃d∈x.2.2,s=rA p d:=λs h=>by
  obtain⟨p,hp,h⟩:=qg.1 h;obtain⟨d,hd,rfl⟩:=jz.1 h;exact⟨p,hp,d,hd,rfl⟩
 obtain⟨out,e2,s1,s2,s3,s4⟩:=C4 (l:=pc.flatMap λp=>x.2.2.map (rA p)) omg_ (λs h=>by
  obtain⟨p,hp,d,C6,rfl⟩:=fy s h;obtain⟨h1,h2,h3,_⟩:=pm p hp;have:=EA p hp;have:=hd d C6;simp only[rA];refine⟨?_,?_,?_,?_⟩<;>split<;>omega) (lo:=a) (hi:=b) (λs h aq=>by
  obtain⟨p,hp,d,C6,rfl⟩:=fy s h;obtain⟨h1,h2,h3,_⟩:=pm p hp;simp only[rA]at aq ⊢;refine⟨?_,?_⟩<;>split<;>omega)
 refine⟨out,?_,s1,by rw[Nat.mul_comm];omega,λt d h1 h2 qL=>?_⟩
 .simp only[j2C];rw[bA hx.z0 (by rw[hlen];exact hx.z1)];simp only[j6,hg,show j2k ((tb z).1,(tb z).2) a b=_ from e,j4,show X pc.length=(pc.length:B) from rfl];rw[show Fi (pc.length:B) 0 x.1 x.2.1 x.2.2 [] pc=_ from l0];simp only[j4,e2]
 .obtain⟨k,hk,k1,k2⟩:=tT ht (t:=t) omg_ omg_;have:=CW ht hk k1 k2;have KX:=qL.symm.trans this;simp only[j5]at KX;subst KX;dsimp only;rw[s2 t];constructor
  .rintro⟨s,cW,h3,h4⟩
   obtain⟨p,hp,d,C6,rfl⟩:=fy s cW;obtain⟨c1,c2⟩:=Ν.1 ⟨h3,h4⟩;obtain⟨_,_,_,i,i1,i2,i3,i4⟩:=pm p hp;have:i=k:=KW ht i1 hk (t:=t) omg_ omg_ k1 k2;subst this;rw[<-i2,c2];exact C6
  .intro C6;obtain⟨p,hp,c1,c2⟩:=SO t h1 h2;obtain⟨_,_,_,i,i1,i2,i3,i4⟩:=pm p hp;have:i=k:=KW ht i1 hk (t:=t) omg_ omg_ k1 k2;subst this;obtain⟨g1,g2⟩:=Ν.2 ⟨⟨c1,c2⟩,show (t+p.2.2)/86400=(t+bu z.2.1 (tb z).2 i)/86400 by rw[i2]⟩;exact⟨_,qg.2 ⟨p,hp,jz.2 ⟨_,C6,rfl⟩⟩,g1,g2⟩
omit hs in
def aF(zs:F bF)(i:B):bF:=zs.getD i.toNat (E,((0:B),([]:F aN)))
omit hs in
def fM(cs:F aU)(i:B):aU:=cs.getD i.toNat (E,((0:B),([]:F B)))
omit hs in
def cA(z:bF)(t:B):B×Int:=(j1n (tb z) t).getD (0,0)
omit hs in
def fe(d:B×B):Int:=(j4X d).getD 0
omit hs in
def bQ(z:bF)(L:bP)(t:B):Int:=(j4W (tb z) L t).getD (-1)
omit hs in
def iV(zs:F bF)(cs:F aU)(L:bP)(t:B):Bool:=
 cond (L.2.2.2.2.2.2.2.2==0) true (decide ((cA (aF zs (fM cs L.2.2.2.2.2.2.2.1).2.1) t).1∈(fM cs L.2.2.2.2.2.2.2.1).2.2)==(L.2.2.2.2.2.2.2.2==(2:B)))
omit hs in
def fN(zs:F bF)(cs:F aU)(L:bP)(t:B):Bool:=
 cond (decide (0<=bQ (aF zs L.2.1) L t)) (cond (okW L.2.2.2.2.2.2.1 (fe (cA (aF zs L.2.1) t))) (iV zs cs L t) false) false
omit hs in
def cb(zs:F bF)(cs:F aU)(L:bP)(t:B):Int:=cond (fN zs cs L t) (uf L (bQ (aF zs L.2.1) L t)) (-1)
omit hs in
theorem SP{z:bF}(hz:fY z){t:B}(h0:0<=t)(h1:t<=8589934592):j1n (tb z) t=G (cA z t)/\j4X (cA z t)=G (fe (cA z t)):=by
 obtain⟨d,s,hd,gG⟩:=jGj hz h0 h1;have:cA z t=d:=by simp[cA,hd]
 rw[this];exact⟨hd,by simp[fe,gG]⟩
omit hs in
theorem pZ{z:bF}(hz:fY z){L:bP}(hR:Rt L){t:B}(h0:0<=t)(h1:t<=8589934592):j4W (tb z) L t=G (bQ z L t)/\jR z.2.1 (tb z).2 L t (bQ z L t):=by
 obtain⟨K,e,hK⟩:=jHM hz.ztab.2 hR h0 h1;have:bQ z L t=K:=by simp only[bQ,show j4W (tb z) L t=_ from e,qd]
 rw[this];exact⟨e,hK⟩
omit hs in
theorem Lb{L:bP}{t:B}(h:fN zs cs L t=true):0<=bQ (aF zs L.2.1) L t:=by
 by_cases hk:0<=bQ (aF zs L.2.1) L t
 .exact hk
 .unfold fN at h;rw[ai hk]at h;simp at h
theorem jF2{L:bP}(hL:ez zs.length ps.length cs.length L){t:B}(_h0:0<=t)(_h1:t<=8589934592):(fN zs cs L t=true↔0<=cb zs cs L t) /\ -1<=cb zs cs L t/\cb zs cs L t<ps.length:=by
 have oy:fN zs cs L t=true->0<=bQ (aF zs L.2.1) L t:=Lb;unfold cb;have hp:=hs.so.p0;cases hc:fN zs cs L t with
 |false=>simp;omega
 |true=>
  have hk:=oy hc;have gF:=hL.m0;have q1:0<=J (bQ (aF zs L.2.1) L t) (L.2.2.2.2.2.1.length:B):=Int.tmod_nonneg _ hk;have q2:J (bQ (aF zs L.2.1) L t) (L.2.2.2.2.2.1.length:B)<(L.2.2.2.2.2.1.length:B):=yq _ omg_;have hi:(J (bQ (aF zs L.2.1) L t) (L.2.2.2.2.2.1.length:B)).toNat<L.2.2.2.2.2.1.length:=omg_;have e:uf L (bQ (aF zs L.2.1) L t)=L.2.2.2.2.2.1[(J (bQ (aF zs L.2.1) L t) (L.2.2.2.2.2.1.length:B)).toNat]:=by simp[uf,List.getD,hi]
  rw[j6,e];have:=hL.mem _ (jf hi);exact⟨⟨λ_=>this.1,λ_=>rfl⟩,omg_,this.2⟩
theorem jAv{L:bP}(hL:ez zs.length ps.length cs.length L){ss:F cu}{a b:B}(ha:0<=a)(bt:a<=b)(hb:b<=8589934592){M:U}(hM:M<=60)(hlen:b-a<=604800*M) :
  ∃out,j8s ((zs,(ps,(cs,ss))),zs.map tb) L a b=G out/\bB (a-1) out/\(∀t,bq t out↔a<=t/\t<b/\fN zs cs L t=true)/\
   out.length<=L.2.2.2.2.2.2.1.length*(M+1)*5+1+(if L.2.2.2.2.2.2.2.2=0 then 0 else (fM cs L.2.2.2.2.2.2.2.1).2.2.length*5):=by
 have uh:=hL.rt2;have lN:(zs.map tb).length=zs.length:=ke ..;have hz:=fH hs.so.ok hL.z0 hL.z1;have hg:=K7 (zs:=zs) hL.z0 hL.z1;have kT:=hL.wl;have fm:(tb (aF zs L.2.1)).2.length<=4:=wY hz;obtain⟨v,ev,hv⟩:=rv hz.ztab.2 uh (k:=0) omg_ omg_
 have pH:∀t,a<=t->t<b->(0<=bQ (aF zs L.2.1) L t↔QO (aF zs L.2.1).2.1 (tb (aF zs L.2.1)).2 L t 0):=λt h1 h2=>by
  have hK:=(pZ hz uh (t:=t) omg_ omg_).2;constructor
  .intro hk;rcases hK with⟨hK,_⟩|⟨_,hq,_⟩
   .have:bQ (aF zs L.2.1) L t = -1:=hK;omega
   .exact QO.le hz.ztab.2 uh hk hq
  .intro hq;rcases hK with⟨_,hn⟩|⟨hk,_,_⟩
   .exact absurd hq hn
   .exact hk
 have vE:∀t,a<=t->t<b->¬QO (aF zs L.2.1).2.1 (tb (aF zs L.2.1)).2 L t 0->fN zs cs L t=false:=λt h1 h2 hq=>by
  unfold fN;rw[ai (λh=>hq ((pH t h1 h2).1 h))];rfl
 simp only[j8s];rw[bA hL.z0 (by rw[lN];exact hL.z1)];simp only[j6,hg];rw[show j15 ((tb (zs.getD L.2.1.toNat (E,((0:B),([]:F aN))))).1,(tb (zs.getD L.2.1.toNat (E,((0:B),([]:F aN))))).2) (L.1,L.2.1,(L.2.2.1.1,L.2.2.1.2),L.2.2.2.1,L.2.2.2.2.1,L.2.2.2.2.2.1,L.2.2.2.2.2.2.1,L.2.2.2.2.2.2.2.1,L.2.2.2.2.2.2.2.2) 0=_ from ev];simp only[j4]
 have qU:∀(P:∀t,a<=t->t<b->fN zs cs L t=false),∃out,G ([]:SL)=G out/\bB (a-1) out/\(∀t,bq t out↔a<=t/\t<b/\fN zs cs L t=true)/\
   out.length<=L.2.2.2.2.2.2.1.length*(M+1)*5+1+(if L.2.2.2.2.2.2.2.2=0 then 0 else (fM cs L.2.2.2.2.2.2.2.1).2.2.length*5):=λP=>
  ⟨[],rfl,trivial,λt=>⟨λh=>absurd h fp,λ⟨h1,h2,h3⟩=>by rw[P t h1 h2]at h3;simp at h3⟩,kp _⟩
 cases hh:hO (zs.getD L.2.1.toNat (E,((0:B),([]:F aN)))).2.1 (tb (zs.getD L.2.1.toNat (E,((0:B),([]:F aN))))).2 L 0 with
 |none=>
  simp only[v8,jv,j6]
  exact qU λt h1 h2=>vE t h1 h2 (by
   rintro⟨u,hu,_⟩
   have eE:=hh.symm.trans hu;simp at eE)
 |some u=>
  have:=hv u hh;subst this
  have hq:∀t,QO (aF zs L.2.1).2.1 (tb (aF zs L.2.1)).2 L t 0↔v<=t:=λt=>⟨λ⟨u,hu,hut⟩=>by
   have eE:=hh.symm.trans hu;simp only[j5]at eE;omega,λh=>⟨v,hh,h⟩⟩
  simp only[zm,jl,j7];by_cases H0:v>=b
  .rw[ah H0];simp only[j6];exact qU λt h1 h2=>vE t h1 h2 (λh=>by have:=(hq t).1 h;omega)
  .rw[ai H0];simp only[j7];by_cases G7:a>=b
   .rw[ah G7];simp only[j6];exact qU λt h1 h2=>omg_
   .rw[ai G7];simp only[j7];obtain⟨c,hc,SQ,xK,Nr,qM⟩:∃c:B,c=(if v>a then v else a)/\a<=c/\v<=c/\c<b/\∀t,a<=t->t<c->t<v:=⟨_,rfl,by split<;>omega,by split<;>omega,by split<;>omega,λt h1 h2=>by split at h2<;>omega⟩;rw[<-hc]
    obtain⟨A,G8,rB,SR,SS,Ξ,hA6⟩:∃A:SL,((L.2.2.2.2.2.2.1.length:B)>0->j2d (tb (aF zs L.2.1)) L.2.2.2.2.2.2.1 c b=G A)/\(¬(L.2.2.2.2.2.2.1.length:B)>0->A=[(c,b)])/\bB (c-1) A/\
      (∀t,bq t A->t<b)/\(∀t,c<=t->t<b->(bq t A↔okW L.2.2.2.2.2.2.1 (fe (cA (aF zs L.2.1) t))=true))/\A.length<=L.2.2.2.2.2.2.1.length*(M+1)*5+1:=by
     by_cases hw:(L.2.2.2.2.2.2.1.length:B)>0
     .obtain⟨A,e,s1,s2,s3,s4⟩:=Sz hz.ztab.2 (qi fm omg_) hL.w kT hM (a:=c) (b:=b) omg_ omg_ hb omg_;refine⟨A,λ_=>e,λh=>absurd hw h,s1,λt ⟨s,cW,h1,h2⟩=>by have:=(s2 s cW).2;omega,λt h1 h2=>?_,?_⟩
      .obtain⟨k,hk,k1,k2⟩:=tT hz.ztab.2 (t:=t) omg_ omg_;rw[s4 k hk t h1 h2 k1 k2];have Av:cA (aF zs L.2.1) t=((t+bu (aF zs L.2.1).2.1 (tb (aF zs L.2.1)).2 k)/86400,(t+bu (aF zs L.2.1).2.1 (tb (aF zs L.2.1)).2 k)%86400):=by unfold cA;rw[show j1n (tb (aF zs L.2.1)) t=_ from CW hz.ztab.2 hk k1 k2];rfl
       have o0:=hz.ztab.2.of0 k hk;have o1:=hz.ztab.2.of1 k hk;have kZ:fe (cA (aF zs L.2.1) t)=(t+bu (aF zs L.2.1).2.1 (tb (aF zs L.2.1)).2 k+259200)%604800:=by rw[Av];simp only[fe,j4X];have o0' : -64800<=bu (aF zs L.2.1).2.1 (tb (aF zs L.2.1)).2 k:=o0;have o1':bu (aF zs L.2.1).2.1 (tb (aF zs L.2.1)).2 k<=64800:=o1;rw[KS _ omg_];simp only[j4,qd];generalize bu (aF zs L.2.1).2.1 (tb (aF zs L.2.1)).2 k=o at *;rw[aj (x:=((t+o)/86400+3)%7*86400),aj];omega
       rw[kZ];unfold okW;rw[ah hw];rfl
      .have:L.2.2.2.2.2.2.1.length*(M+1)*((tb (aF zs L.2.1)).2.length+1)<=L.2.2.2.2.2.2.1.length*(M+1)*5:=vj _ omg_;have s3':A.length<=L.2.2.2.2.2.2.1.length*(M+1)*((tb (aF zs L.2.1)).2.length+1):=s3;omega
     .refine⟨[(c,b)],λh=>absurd h hw,λ_=>rfl,⟨by dsimp only;omega,Nr,trivial⟩,λt h=>?_,λt h1 h2=>?_,smp_⟩
      .rcases du.1 h with h|h
       .exact h.2
       .exact absurd h fp
      .unfold okW;rw[ai hw];exact⟨λ_=>rfl,λ_=>du.2 (.inl ⟨h1,h2⟩)⟩
    have hA7:A.length<=30000:=by have:L.2.2.2.2.2.2.1.length*(M+1)<=14*61:=ql kT omg_;omega
    have dL:∀out:SL,bB (c-1) out->(∀t,bq t out->t<b)->(∀t,c<=t->t<b->(bq t out↔bq t A/\iV zs cs L t=true))->bB (a-1) out/\∀t,bq t out↔a<=t/\t<b/\fN zs cs L t=true:=λout h1 h2 h3=>by
     refine⟨h1.weak omg_,λt=>⟨λhx=>?_,λ⟨g1,g2,g3⟩=>?_⟩⟩
     .have l1:=bB.low h1 hx;have l2:=h2 t hx;refine⟨omg_,l2,?_⟩;have:=(h3 t omg_ l2).1 hx;unfold fN;rw[ah ((pH t omg_ l2).2 ((hq t).2 omg_)),(Ξ t omg_ l2).1 this.1,this.2];rfl
     .have hk:=Lb g3;have wj:=(hq t).1 ((pH t g1 g2).1 hk);have Ο:c<=t:=by apply ju;intro hn;have:=qM t g1 omg_;omega
      refine(h3 t Ο g2).2 ⟨(Ξ t Ο g2).2 ?_,?_⟩
      .unfold fN at g3;rw[ah hk]at g3;revert g3;cases okW L.2.2.2.2.2.2.1 (fe (cA (aF zs L.2.1) t))<;>simp
      .unfold fN at g3;rw[ah hk]at g3;revert g3;cases okW L.2.2.2.2.2.2.1 (fe (cA (aF zs L.2.1) t))<;>simp
    by_cases hm:L.2.2.2.2.2.2.2.2=0
    .have dD:=dL A SR SS (λt _ _=>by unfold iV;rw[cR hm];simp);rw[ca (show¬L.2.2.2.2.2.2.2.2=1 by omega),ca (show¬L.2.2.2.2.2.2.2.2=2 by omega),if_pos hm];simp only[j7];by_cases hw:(L.2.2.2.2.2.2.1.length:B)>0
     .rw[oLn_ L.2.2.2.2.2.2.1,ah hw,j6,show j2d ((tb (zs.getD L.2.1.toNat (E,((0:B),([]:F aN))))).1,(tb (zs.getD L.2.1.toNat (E,((0:B),([]:F aN))))).2) L.2.2.2.2.2.2.1 c b=_ from G8 hw];simp only[j4];exact⟨A,rfl,dD.1,dD.2,omg_⟩
     .rw[oLn_ L.2.2.2.2.2.2.1,ai hw,j7,<-rB hw];exact⟨A,rfl,dD.1,dD.2,omg_⟩
    .have cH:=hL.cal hm;have hx:=rz hs cH.1 cH.2;have Cn:=fH hs.so.ok hx.z0 hx.z1;have hll2:(tb (aF zs (fM cs L.2.2.2.2.2.2.2.1).2.1)).2.length<=4:=wY Cn;obtain⟨D,e2,d1,d2,d3⟩:=jF1 hs hx (ss:=ss) (a:=c) (b:=b) omg_ omg_ hb rfl
     have nX:D.length<=(fM cs L.2.2.2.2.2.2.2.1).2.2.length*5:=qi d2 (vj _ (by
      have:(tb (aF zs (fM cs L.2.2.2.2.2.2.2.1).2.1)).2.length+1<=5:=omg_;exact this))
     have hDl2:D.length<=2000:=by have:=hx.len;have h64:(fM cs L.2.2.2.2.2.2.2.1).2.2.length<=64:=this;omega
     have Ρ:∀t,c<=t->t<b->(bq t D↔(cA (aF zs (fM cs L.2.2.2.2.2.2.2.1).2.1) t).1∈(fM cs L.2.2.2.2.2.2.2.1).2.2):=λt h1 h2=>d3 t _ h1 h2 (SP Cn omg_ omg_).1;rw[if_neg hm,bA cH.1 cH.2];have G9:L.2.2.2.2.2.2.2.2=1\/L.2.2.2.2.2.2.2.2=2:=by have:=hL.mode0;have:=hL.mode1;omega
     rcases G9 with fw|iQ
     .obtain⟨out,e3,w1,w2,w3⟩:=SI omg_ SR d1 omg_
      have dD:=dL out w1 (λt h=>SS t ((w2 t).1 h).1) (λt h1 h2=>by
       rw[w2 t,Ρ t h1 h2];unfold iV;rw[ca hm,ca (show¬L.2.2.2.2.2.2.2.2=2 by omega),j7];simp)
      rw[cR fw];simp only[j6];by_cases hw:(L.2.2.2.2.2.2.1.length:B)>0
      .rw[oLn_ L.2.2.2.2.2.2.1,ah hw,j6,show j2d ((tb (zs.getD L.2.1.toNat (E,((0:B),([]:F aN))))).1,(tb (zs.getD L.2.1.toNat (E,((0:B),([]:F aN))))).2) L.2.2.2.2.2.2.1 c b=_ from G8 hw];simp only[j4];refine⟨out,?_,dD.1,dD.2,omg_⟩;rw[show j2C ((zs,(ps,(cs,ss))),zs.map tb) ((cs.getD L.2.2.2.2.2.2.2.1.toNat (E,((0:B),([]:F B)))).1,(cs.getD L.2.2.2.2.2.2.2.1.toNat (E,((0:B),([]:F B)))).2.1,(cs.getD L.2.2.2.2.2.2.2.1.toNat (E,((0:B),([]:F B)))).2.2) c b=_ from e2];simp only[j4,e3]
      .rw[oLn_ L.2.2.2.2.2.2.1,ai hw,j7,<-rB hw];refine⟨out,?_,dD.1,dD.2,omg_⟩;rw[show j2C ((zs,(ps,(cs,ss))),zs.map tb) ((cs.getD L.2.2.2.2.2.2.2.1.toNat (E,((0:B),([]:F B)))).1,(cs.getD L.2.2.2.2.2.2.2.1.toNat (E,((0:B),([]:F B)))).2.1,(cs.getD L.2.2.2.2.2.2.2.1.toNat (E,((0:B),([]:F B)))).2.2) c b=_ from e2];simp only[j4,e3]
     .obtain⟨out,e3,w1,w2,w3⟩:=SF SR d1 omg_ omg_
      have dD:=dL out w1 (λt h=>SS t ((w2 t).1 h).1) (λt h1 h2=>by
       rw[w2 t,Ρ t h1 h2];unfold iV;rw[ca hm,cR iQ,j7];simp)
      rw[ca (show¬L.2.2.2.2.2.2.2.2=1 by omega),cR iQ];simp only[j6,j7];by_cases hw:(L.2.2.2.2.2.2.1.length:B)>0
      .rw[oLn_ L.2.2.2.2.2.2.1,ah hw,j6,show j2d ((tb (zs.getD L.2.1.toNat (E,((0:B),([]:F aN))))).1,(tb (zs.getD L.2.1.toNat (E,((0:B),([]:F aN))))).2) L.2.2.2.2.2.2.1 c b=_ from G8 hw];simp only[j4];refine⟨out,?_,dD.1,dD.2,omg_⟩;rw[show j2C ((zs,(ps,(cs,ss))),zs.map tb) ((cs.getD L.2.2.2.2.2.2.2.1.toNat (E,((0:B),([]:F B)))).1,(cs.getD L.2.2.2.2.2.2.2.1.toNat (E,((0:B),([]:F B)))).2.1,(cs.getD L.2.2.2.2.2.2.2.1.toNat (E,((0:B),([]:F B)))).2.2) c b=_ from e2];simp only[j4,e3]
      .rw[oLn_ L.2.2.2.2.2.2.1,ai hw,j7,<-rB hw];refine⟨out,?_,dD.1,dD.2,omg_⟩;rw[show j2C ((zs,(ps,(cs,ss))),zs.map tb) ((cs.getD L.2.2.2.2.2.2.2.1.toNat (E,((0:B),([]:F B)))).1,(cs.getD L.2.2.2.2.2.2.2.1.toNat (E,((0:B),([]:F B)))).2.1,(cs.getD L.2.2.2.2.2.2.2.1.toNat (E,((0:B),([]:F B)))).2.2) c b=_ from e2];simp only[j4,e3]
end
end Go.Proofs.Pw
