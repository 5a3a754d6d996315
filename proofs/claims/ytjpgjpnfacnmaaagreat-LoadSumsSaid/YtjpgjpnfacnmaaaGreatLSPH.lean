/- gX 10: the ix Ry. -/
import Derived.Test.YtjpgjpnfacnmaaaGreatLSPE
import Derived.Test.YtjpgjpnfacnmaaaGreatLSLD
import Derived.Test.YtjpgjpnfacnmaaaGreatLSPF
import Derived.Test.YtjpgjpnfacnmaaaGreatLSPG
noncomputable section
open Go Go.Lft
namespace Go.Proofs.Pw
theorem jBY{z:br}{l:bn}(hz:Z4 z l){L:bI}(h:Rt L){t N:Int}(hN:N<=8589934592):∀n:Nat,(n:Int)<=N->
  ∃K:Int,zS t ((n:Int)-1) z.1 z.2.1 z.2.2 L.1 L.2.1 L.2.2.1.1 L.2.2.1.2 L.2.2.2.1 L.2.2.2.2.1 L.2.2.2.2.2.1 L.2.2.2.2.2.2.1 L.2.2.2.2.2.2.2.1 L.2.2.2.2.2.2.2.2=some K/\
   (K = -1\/0<=K/\QO z.2.1 l L t K)/\K<n/\∀j:Int,K<j->0<=j->j<n->¬QO z.2.1 l L t j
 |0,_=>by
  rw[XN];simp only[j5B];rw[ah (by omega),j7,aW];exact⟨_,rfl,.inl (by omega),by omega,λj h1 h2 h3=>by omega⟩
 |n+1,hn=>by
  obtain⟨K,e,k0,k1,k2⟩:=jBY hz h (t:=t) hN n (by omega);obtain⟨v,hH,hv⟩:=Gk hz h (k:=(n:Int)) (by omega) (by omega);rw[XN,show ((n+1:Nat):Int)-1=(n:Int) by omega];simp only[j5B];rw[ag (by omega),j6,show j7c (z.1,(z.2.1,z.2.2)) (L.1,L.2.1,(L.2.2.1.1,L.2.2.1.2),L.2.2.2.1,L.2.2.2.2.1,L.2.2.2.2.2.1,L.2.2.2.2.2.2.1,L.2.2.2.2.2.2.2.1,L.2.2.2.2.2.2.2.2) (n:Int)=_ from hH];simp only[j4];rw[ai (x:=(n:Int)-1)]
  have down:¬QO z.2.1 l L t (n:Int)->(lpK (some (Sum.inl (t,(n:Int)-1,z.1,z.2.1,z.2.2,L.1,L.2.1,L.2.2.1.1,L.2.2.1.2,L.2.2.2.1,L.2.2.2.2.1,L.2.2.2.2.2.1,L.2.2.2.2.2.2.1,L.2.2.2.2.2.2.2.1,L.2.2.2.2.2.2.2.2)):Option ((Int×Int×ByteArray×Int×List aD×ByteArray×Int×Int×Int×Int×Int×List Int×WL×Int×Int) ⊕ Int)) (λh=>zS h.1 h.2.1 h.2.2.1 h.2.2.2.1 h.2.2.2.2.1 h.2.2.2.2.2.1 h.2.2.2.2.2.2.1 h.2.2.2.2.2.2.2.1 h.2.2.2.2.2.2.2.2.1 h.2.2.2.2.2.2.2.2.2.1 h.2.2.2.2.2.2.2.2.2.2.1 h.2.2.2.2.2.2.2.2.2.2.2.1 h.2.2.2.2.2.2.2.2.2.2.2.2.1 h.2.2.2.2.2.2.2.2.2.2.2.2.2.1 h.2.2.2.2.2.2.2.2.2.2.2.2.2.2))=some K/\∀j:Int,K<j->0<=j->j<((n+1:Nat):Int)->¬QO z.2.1 l L t j:=by
   intro hq;refine⟨by rw[aK];exact e,λj h1 h2 h3=>?_⟩;by_cases wv:j<n
   .exact k2 j h1 h2 wv
   .rw[show j=(n:Int) by omega];exact hq
  cases hx:hO z.2.1 l L (n:Int) with
  |none=>
   simp only[v8,j7];obtain⟨d1,d2⟩:=down λ⟨y,hy,_⟩=>by rw[hx]at hy;simp at hy
   exact⟨K,d1,k0,by omega,d2⟩
  |some x=>
   have:=hv x hx;subst this;simp only[zk,j6];by_cases hc:v<=t
   .rw[ag hc,j6,aW];exact⟨_,rfl,.inr ⟨by omega,v,hx,hc⟩,by omega,λj h1 h2 h3=>by omega⟩
   .rw[ah hc,j7];obtain⟨d1,d2⟩:=down λ⟨y,hy,BH⟩=>by rw[hx]at hy;simp at hy;omega
    exact⟨K,d1,k0,by omega,d2⟩
theorem jES{z:br}{l:bn}(hz:Z4 z l){L:bI}(h:Rt L){t:Int}(JQ:0<=t)(rV:t<=8589934592):∃K:Int,jcl z L t=some K/\kB z.2.1 l L t K:=by
 have hs:=h.step;have F9:=h.d0;have oK:=h.d1;have tI:=h.e0;have yC:=h.e1;have iS:=h.c0;have eG:=h.c1;simp only[jcl];by_cases h0:L.2.2.2.1=0
 .have hF:=Rg hz (d:=L.2.2.1.1) (c:=L.2.2.1.2) (by omega) iS eG;have jL:L.2.2.1.1*86400+L.2.2.1.2=dm L 0:=by unfold dm;omega
  rw[di h0,j6,show j4Q (z.1,(z.2.1,z.2.2)) (L.2.2.1.1,L.2.2.1.2)=_ from hF,jL];simp only[j4]
  have nq:(∀v,fO z.2.1 l (dm L 0)=some v->t<v)->¬QO z.2.1 l L t 0:=by
   rintro hn ⟨y,hy,BH⟩
   have:=hn y (ZT h0 hy);omega
  cases hf:fO z.2.1 l (dm L 0) with
  |none=>exact⟨-1,rfl,.inl ⟨rfl,nq λv hv=>by rw[hf]at hv;simp at hv⟩⟩
  |some v=>
   have Rh:=Ci hz.2 hf;simp only[qd,j6];by_cases hc:v<=t
   .obtain⟨s1,s2,s3⟩:=ZS (o:=z.2.1) (l:=l) h h0 rV hf hc Rh.2.1;rw[ag hc,j6,ai (x:=t-v),ai (x:=3600*L.2.2.2.2.1),bW (show¬3600*L.2.2.2.2.1=0 by omega),qy (by omega),ai (x:=(t-v)/(3600*L.2.2.2.2.1))];exact⟨_,rfl,s1⟩
   .rw[ah hc];exact⟨-1,rfl,.inl ⟨rfl,nq λv' hv=>by rw[hf]at hv;simp at hv;omega⟩⟩
 .obtain⟨j,hj,j1,j2⟩:=pQ hz.2 JQ rV;have o0:=hz.2.of0 j hj;have o1:=hz.2.of1 j hj;have eT:=ZJ hz (t:=t) JQ rV hj j1 j2;rw[bW h0,j7,show j3w (z.1,(z.2.1,z.2.2)) t=_ from eT];simp only[j4];have pU:∀k:Int,QO z.2.1 l L t k->L.2.2.1.1+k*dv L<=(t+ba z.2.1 l j)/86400+2:=λk hq=>QO.day hz.2 h h0 hq hj;generalize hld:(t+ba z.2.1 l j)/86400=ld at pU;rw[ai (x:=ld+2),ai (x:=ld+2-L.2.2.1.1)]
  have fin:∀st:Int,st=dv L->∃K:Int,((zS t (w64 (Int.tdiv (if (0:Int)>ld+2-L.2.2.1.1 then (0:Int) else ld+2-L.2.2.1.1) st)) z.1 z.2.1 z.2.2 L.1 L.2.1 L.2.2.1.1 L.2.2.1.2 L.2.2.2.1 L.2.2.2.2.1 L.2.2.2.2.2.1 L.2.2.2.2.2.2.1 L.2.2.2.2.2.2.2.1 L.2.2.2.2.2.2.2.2).bind λq0=>some q0)=some K/\kB z.2.1 l L t K:=by
   rintro st rfl
   obtain⟨m,hm,oy,fD⟩:∃m:Int,(if (0:Int)>ld+2-L.2.2.1.1 then (0:Int) else ld+2-L.2.2.1.1)=m/\0<=m/\m<=1000000:=⟨_,rfl,by split<;>omega,by split<;>omega⟩;have yw:ld+2-L.2.2.1.1<=m:=by rw[<-hm];split<;>omega
   rw[hm,qy oy];have q0:0<=m/dv L:=yo oy (by omega);have q1:m/dv L<=m:=ye _ oy;have q2:m<dv L*(m/dv L)+dv L:=Int.lt_mul_ediv_self_add (by omega);rw[ai];generalize m/dv L=km at *;obtain⟨K,e,k0,k1,k2⟩:=jBY hz h (t:=t) (k9 _) (km+1).toNat (by omega);rw[show (((km+1).toNat:Nat):Int)-1=km by omega]at e;rw[e];refine⟨K,rfl,?_⟩
   have top:¬QO z.2.1 l L t (K+1):=by
    by_cases hK:K+1<=km
    .exact k2 (K+1) (by omega) (by rcases k0 with k0|k0<;>omega) (by omega)
    .intro hq;have hd:=pU _ hq;have cu:K=km:=by omega
     rw[cu,Int.add_mul,Int.one_mul]at hd;have:dv L*km=km*dv L:=Int.mul_comm _ _;omega
   rcases k0 with k0|k0
   .subst k0;exact .inl ⟨rfl,top⟩
   .exact .inr ⟨k0.1,k0.2,top⟩
  by_cases h2:L.2.2.2.1=2
  .have Ak:dv L=7*L.2.2.2.2.1:=by unfold dv;rw[if_pos h2]
   rw[di h2,j6,ai (x:=L.2.2.2.2.1*7),bW (show¬L.2.2.2.2.1*7=0 by omega)];simp only[ka,j6];exact fin _ (by rw[Ak,Int.mul_comm])
  .have Ak:dv L=L.2.2.2.2.1:=by unfold dv;rw[if_neg h2]
   rw[bW h2,j7,bW (show¬L.2.2.2.2.1=0 by omega)];simp only[ka,j6];exact fin _ Ak.symm
abbrev jD:=Int×(Int×Int)
abbrev bD:=List jD
def Ch(f:Int->Int)(b:Int):Int->bD->Prop
 |a,[]=>a=b
 |a,s::r=>s.1=a/\a<=s.2.1/\(∀t,a<=t->t<s.2.1->f t=s.2.2)/\Ch f b s.2.1 r
def dW(f:Int->Int)(b:Int):Option Int->Int->bD->Prop
 |_,a,[]=>a=b
 |q,a,s::r=>s.1=a/\a<s.2.1/\q≠some s.2.2/\(∀t,a<=t->t<s.2.1->f t=s.2.2)/\dW f b (some s.2.2) s.2.1 r
theorem Ch.le{f:Int->Int}{b:Int}:∀{l:bD}{a:Int},Ch f b a l->a<=b
 |[],_,h=>Int.le_of_eq h
 |_::_,_,h=>qs h.2.1 h.2.2.2.le
theorem Ch.app{f:Int->Int}{b c:Int}:∀{l r:bD}{a:Int},Ch f b a l->Ch f c b r->Ch f c a (l++r)
 |[],_,_,h,h'=>by have h:_=_:=h;subst h;exact h'
 |_::_,_,_,h,h'=>⟨h.1,h.2.1,h.2.2.1,h.2.2.2.app h'⟩
theorem Ch.snoc{f:Int->Int}{b c p:Int}{l:bD}{a:Int}(h:Ch f b a l)(xr:b<=c)(hp:∀t,b<=t->t<c->f t=p):Ch f c a (l++[(b,(c,p))]):=
 h.app ⟨rfl,xr,hp,rfl⟩
theorem dW.ch{f:Int->Int}{b:Int}:∀{l:bD}{q:Option Int}{a:Int},dW f b q a l->Ch f b a l
 |[],_,_,h=>h
 |_::_,_,_,h=>⟨h.1,Int.le_of_lt h.2.1,h.2.2.2.1,h.2.2.2.2.ch⟩
theorem dW.uniq{f:Int->Int}{b:Int}:∀{l l':bD}{q:Option Int}{a:Int},dW f b q a l->dW f b q a l'->l=l'
 |[],[],_,_,_,_=>rfl
 |[],_::_,_,_,h,h'=>by have:=h'.2.1;have:=h'.2.2.2.2.ch.le;have h:_=_:=h;omega
 |_::_,[],_,_,h,h'=>by have:=h.2.1;have:=h.2.2.2.2.ch.le;have h':_=_:=h';omega
 |s::r,s'::r',q,a,h,h'=>by
  obtain⟨h1,h2,h3,h4,h5⟩:=h;obtain⟨g1,g2,g3,g4,g5⟩:=h';have hp:s.2.2=s'.2.2:=by rw[<-h4 a (by omega) h2,<-g4 a (by omega) g2]
  have ht:s.2.1=s'.2.1:=by
   apply jp;intro bk;by_cases ak:s.2.1<s'.2.1
   .match r,h5 with
    |[],h5=>have:=g5.ch.le;have h5:_=_:=h5;omega
    |u::v,h5=>have e1:=h5.2.2.2.1 s.2.1 (by omega) h5.2.1;have e2:=g4 s.2.1 (by omega) ak;exact h5.2.2.1 (by rw[<-e1,e2,hp])
   .match r',g5 with
    |[],g5=>have:=h5.ch.le;have g5:_=_:=g5;omega
    |u::v,g5=>have e1:=g5.2.2.2.1 s'.2.1 (by omega) g5.2.1;have e2:=h4 s'.2.1 (by omega) (by omega);exact g5.2.2.1 (by rw[<-e1,e2,hp])
  have hs:s=s':=Prod.ext (by rw[h1,g1]) (Prod.ext ht hp);subst hs;rw[h5.uniq g5]
def lstP:Option Int->bD->Option Int
 |q,[]=>q
 |_,s::r=>lstP (some s.2.2) r
theorem jsG:∀(l:bD)(q:Option Int)(s:jD),lstP q (l++[s])=some s.2.2
 |[],_,_=>rfl
 |_::r,_,s=>jsG r _ s
theorem dW.snoc{f:Int->Int}{b c p:Int}:∀{l:bD}{q:Option Int}{a:Int},dW f b q a l->b<c->lstP q l≠some p->(∀t,b<=t->t<c->f t=p)->dW f c q a (l++[(b,(c,p))])
 |[],_,_,h,xr,hl,hp=>by have h:_=_:=h;subst h;exact⟨rfl,xr,hl,hp,rfl⟩
 |_::_,_,_,h,xr,hl,hp=>⟨h.1,h.2.1,h.2.2.1,h.2.2.2.1,h.2.2.2.2.snoc xr hl hp⟩
theorem dW.ext{f:Int->Int}{b c x p:Int}:∀{l:bD}{q:Option Int}{a:Int},dW f b q a (l++[(x,(b,p))])->b<=c->(∀t,b<=t->t<c->f t=p)->dW f c q a (l++[(x,(c,p))])
 |[],_,_,h,xr,hp=>⟨h.1,by have:=h.2.1;dsimp only at this ⊢;omega,h.2.2.1,λt h1 h2=>by
  by_cases ht:t<b
  .exact h.2.2.2.1 t h1 ht
  .exact hp t (by omega) h2,rfl⟩
 |_::_,_,_,h,xr,hp=>⟨h.1,h.2.1,h.2.2.1,h.2.2.2.1,h.2.2.2.2.ext xr hp⟩
def kD(out:bD)(s:jD):bD:=
 if s.2.1<=s.1 then out else match out.getLast? with
  |some x=>if x.2.1=s.1/\x.2.2=s.2.2 then out.dropLast++[(x.1,(s.2.1,x.2.2))] else out++[s]
  |none=>out++[s]
theorem jBZ{f:Int->Int}{a b:Int}{out:bD}(h:dW f b none a out){s:jD}(h1:s.1=b)(h2:b<=s.2.1)(h3:∀t,b<=t->t<s.2.1->f t=s.2.2):dW f s.2.1 none a (kD out s):=by
 obtain⟨x,y,p⟩:=s;dsimp only at h1 h2 h3 ⊢;subst h1;unfold kD;dsimp only;by_cases iw:y<=x
 .rw[if_pos iw];have:y=x:=by omega
  subst this;exact h
 .rw[if_neg iw];rcases va out with rfl|⟨l,u,rfl⟩
  .exact h.snoc (by omega) (by simp[lstP]) h3
  .rw[vb]at h ⊢;rw[y9];simp only[vf,Option.some_or];by_cases hu:u.2.1=x/\u.2.2=p
   .rw[if_pos hu,y8];obtain⟨u1,u2,u3⟩:=u;dsimp only at hu ⊢;obtain⟨rfl,rfl⟩:=hu;exact h.ext h2 h3
   .rw[if_neg hu];refine h.snoc (by omega) ?_ h3;rw[jsG];intro e;have hp:u.2.2=p:=by simpa using e
    refine hu ⟨?_,hp⟩
    have:∀(l:bD)(q:Option Int)(a:Int),dW f x q a (l++[u])->u.2.1=x:=by
     intro l;induction l with
     |nil=>intro q a h;exact h.2.2.2.2
     |cons v r ih=>intro q a h;exact ih _ _ h.2.2.2.2
    exact this l _ _ h
theorem jC0{f:Int->Int}{b:Int}:∀(l:bD){a c:Int}{out:bD},dW f c none a out->Ch f b c l->dW f b none a (l.foldl kD out)
 |[],_,_,_,h,h'=>by have h':_=_:=h';subst h';exact h
 |s::r,_,_,_,h,h'=>jC0 r (jBZ h h'.1 h'.2.1 h'.2.2.1) h'.2.2.2
theorem Ch.cov{f:Int->Int}{a b:Int}{l:bD}(h:Ch f b a l):dW f b none a (l.foldl kD []):=jC0 l (show dW f a none a [] from rfl) h
theorem jET{f:Int->Int}:∀{l:bD}{a b:Int},a<=b->l.Pairwise (λs u=>s.2.1<=u.1)->(∀s∈l,s.1<s.2.1/\∀t,s.1<=t->t<s.2.1->f t=s.2.2)->
  (∀x,(a<=x/\x<b)↔∃s∈l,s.1<=x/\x<s.2.1)->Ch f b a l
 |[],a,b,bG,_,_,hc=>by
  apply jp;intro bk;have bk:a≠b:=bk;obtain⟨s,hs,_⟩:=(hc a).1 ⟨k9 _,by omega⟩;simp at hs
 |s::r,a,b,bG,hp,hf,hc=>by
  obtain⟨s1,s2⟩:=hf s (by simp);obtain⟨p1,p2⟩:=ki.1 hp;have h1:=(hc s.1).2 ⟨s,by simp,k9 _,s1⟩;have h2:=(hc (s.2.1-1)).2 ⟨s,by simp,by omega,by omega⟩
  have he:s.1=a:=by
   obtain⟨u,hu,u1,u2⟩:=(hc a).1 ⟨k9 _,by omega⟩;rcases je.1 hu with rfl|hu
   .omega
   .have:=p1 u hu;omega
  refine⟨he,by omega,λt t1 t2=>s2 t (by omega) t2,jET (by omega) p2 (λu hu=>hf u (by simp[hu])) (λx=>⟨λhx=>?_,λ⟨u,hu,u1,u2⟩=>?_⟩)⟩
  .obtain⟨u,hu,u1,u2⟩:=(hc x).1 ⟨by omega,hx.2⟩;rcases je.1 hu with rfl|hu
   .omega
   .exact⟨u,hu,u1,u2⟩
  .have:=p1 u hu;have:=(hc x).2 ⟨u,by simp[hu],u1,u2⟩;omega
theorem Ch.mem{f:Int->Int}{b:Int}:∀{l:bD}{a:Int},Ch f b a l->∀s∈l,a<=s.1/\s.1<=s.2.1/\s.2.1<=b/\∀t,s.1<=t->t<s.2.1->f t=s.2.2
 |[],_,_,s,hs=>by simp at hs
 |u::r,a,h,s,hs=>by
  obtain⟨h1,h2,h3,h4⟩:=h;rcases je.1 hs with rfl|hs
  .exact⟨by omega,by omega,h4.le,λt t1 t2=>h3 t (by omega) t2⟩
  .have:=h4.mem s hs;exact⟨by omega,this.2.1,this.2.2.1,this.2.2.2⟩
theorem Ch.has{f:Int->Int}{b:Int}:∀{l:bD}{a:Int},Ch f b a l->∀x,a<=x->x<b->∃s∈l,s.1<=x/\x<s.2.1
 |[],_,h,x,h1,h2=>by have h:_=_:=h;omega
 |u::r,a,h,x,h1,h2=>by
  obtain⟨g1,g2,g3,g4⟩:=h;by_cases hx:x<u.2.1
  .exact⟨u,by simp,by omega,hx⟩
  .obtain⟨s,hs,e⟩:=g4.has x (by omega) h2;exact⟨s,by simp[hs],e⟩
theorem Ch.congr{f g:Int->Int}{b:Int}:∀{l:bD}{a:Int},Ch f b a l->(∀t,a<=t->t<b->f t=g t)->Ch g b a l
 |[],_,h,_=>h
 |u::r,a,h,hg=>by
  obtain⟨g1,g2,g3,g4⟩:=h;have:=g4.le;exact⟨g1,g2,λt t1 t2=>by rw[<-hg t t1 (by omega)];exact g3 t t1 t2,g4.congr (λt t1 t2=>hg t (by omega) t2)⟩
theorem dW.pos{f:Int->Int}{b:Int}:∀{l:bD}{q:Option Int}{a:Int},dW f b q a l->∀s∈l,s.1<s.2.1
 |[],_,_,_,s,hs=>by simp at hs
 |u::r,_,a,h,s,hs=>by
  rcases je.1 hs with rfl|hs
  .have:=h.1;have:=h.2.1;omega
  .exact h.2.2.2.2.pos s hs
theorem jEU{d:Int}(h:j0A d=some true):0<=d:=by
 apply jp;intro hd;simp only[j0A,j4B,JV,JU,j4]at h;rw[ag (show d<0 by omega)]at h;simp at h
def pZ(p:Int×(Int×Int))(d:Int):Int×Int:=
 (if d*86400-p.2.2>p.1 then d*86400-p.2.2 else p.1,if d*86400-p.2.2+86400<p.2.1 then d*86400-p.2.2+86400 else p.2.1)
theorem jEV{ds:List Int}(hd:∀d∈ds,0<=d/\d<=100000)(hl:ds.length<=64){p:Int×(Int×Int)}(hp : -64800<=p.2.2/\p.2.2<=64800){m q z:Int}{nm:ByteArray}{ps:List (Int×(Int×Int))}:∀(n i:Nat)(acc:SL),i+n=ds.length->acc.length+n<=1000000->
  EI m q ds (ds.length:Int) (i:Int) nm z ds p.1 p.2.1 p.2.2 acc ps=some (m,q,nm,z,ds,acc++(ds.drop i).map (pZ p),ps)
 |0,i,acc,hi,_=>by
  rw[WW];simp only[j2F];rw[ah (by omega),j7,aW,jd (by omega)];simp
 |n+1,i,acc,hi,dZ=>by
  have bj:i<ds.length:=by omega
  have aR:ds.getD i (0:Int)=ds[i]:=by simp[bj]
  have hdi:=hd _ (jf bj);rw[WW];simp only[j2F];rw[ag (by omega),bz];simp only[j6,j8,aR];rw[ai (x:=ds[i]*86400),ai (x:=ds[i]*86400-p.2.2),ai (x:=ds[i]*86400-p.2.2+86400),ai (x:=(i:Int)+1),ag (by simp[aN];omega),jb bj];simp only[j6,aK,ke];have:=jEV hd hl hp (m:=m) (q:=q) (z:=z) (nm:=nm) (ps:=ps) n (i+1) (acc++[pZ p ds[i]]) (by omega) (by simp;omega);rw[jj]at this;exact this
theorem jEW{ds:List Int}(hd:∀d∈ds,0<=d/\d<=100000)(hl:ds.length<=64){z:Int}{nm:ByteArray}{ps:List (Int×(Int×Int))}(hP:∀p∈ps, -64800<=p.2.2/\p.2.2<=64800)(kU:ps.length<=100):∀(n i:Nat)(acc:SL),i+n=ps.length->acc.length<=64*i->
  EJ (ps.length:Int) (i:Int) nm z ds acc ps=some (acc++(ps.drop i).flatMap λp=>ds.map (pZ p))
 |0,i,acc,hi,_=>by
  rw[WX];simp only[j2G];rw[ah (by omega),j7,aW,jd (by omega)];simp
 |n+1,i,acc,hi,dZ=>by
  have bj:i<ps.length:=by omega
  have aR:ps.getD i ((0:Int),((0:Int),(0:Int)))=ps[i]:=by simp[List.getD,bj]
  have h2:=jEV hd hl (hP _ (jf bj)) (m:=(ps.length:Int)) (q:=(i:Int)) (z:=z) (nm:=nm) (ps:=ps) ds.length 0 acc (by omega) (by omega);have ih:=jEW hd hl (z:=z) (nm:=nm) hP kU n (i+1) (acc++ds.map (pZ ps[i])) (by omega) (by simp;omega);rw[WX];simp only[j2G];rw[ag (by omega),bz];simp only[j6,j8,aR,show Int.ofNat ds.length=(ds.length:Int) from rfl];rw[show EI (ps.length:Int) (i:Int) ds (ds.length:Int) 0 nm z ds ps[i].1 ps[i].2.1 ps[i].2.2 acc ps=_ from h2];simp only[j4,jr];rw[ai (x:=(i:Int)+1),aK,jb bj,qz,<-jj];exact ih
theorem jC1{α β:Type}(f:α->List β)(k:Nat)(hf:∀a,(f a).length=k):∀l:List α,(l.flatMap f).length=l.length*k
 |[]=>by simp
 |a::l=>by rw[qz,jg,jC1 f k hf l,hf,jm,Nat.add_mul,Nat.one_mul];omega
theorem jC2{p:Int×(Int×Int)}{d x:Int}:((pZ p d).1<=x/\x<(pZ p d).2)↔(p.1<=x/\x<p.2.1)/\(x+p.2.2)/86400=d:=by
 simp only[pZ];constructor
 .intro h;split at h<;>split at h<;>omega
 .intro h;split<;>split<;>omega
section
variable{zs:List br}{ps:List cZ}{cs:List aX}(hs:cN zs ps cs)
include hs
theorem jDs{x:aX}(hx:pT zs.length x){ss:List cF}{a b:Int}(ha:0<=a)(bG:a<=b)(hb:b<=8589934592){z:br}(hz:zs.getD x.2.1.toNat (ByteArray.empty,((0:Int),([]:List aD)))=z) :
  ∃out,j1V ((zs,(ps,(cs,ss))),zs.map tb) x a b=some out/\bP (a-1) out/\out.length<=x.2.2.length*((tb z).2.length+1)/\
   ∀t d,a<=t->t<b->j1p (tb z) t=some d->(bt t out↔d.1∈x.2.2):=by
 have hlen:(zs.map tb).length=zs.length:=k5 ..;have hg:=Rj (zs:=zs) hx.z0 hx.z1;have Ap:=gv hs.so.ok hx.z0 hx.z1;rw[hz]at hg Ap;have ht:=Ap.ztab.2;have eE:(tb z).2.length<=20:=Z8 Ap;obtain⟨pc,e,pl,pm,Rz⟩:=Z2 ht ha bG hb;have ni:=hx.len;have hd:∀d∈x.2.2,0<=d/\d<=100000:=λd hd=>⟨jEU (hx.day d hd),jBW (hx.day d hd)⟩
 have yV:∀p∈pc, -64800<=p.2.2/\p.2.2<=64800:=λp hp=>by
  obtain⟨_,_,_,i,i1,i2,_⟩:=pm p hp;have:=ht.of0 i i1;have:=ht.of1 i i1;omega
 have l0:=jEW hd ni (z:=x.2.1) (nm:=x.1) yV (by omega) pc.length 0 [] (by omega) (by simp);rw[jv,jr]at l0;have Z7:(pc.flatMap λp=>x.2.2.map (pZ p)).length=pc.length*x.2.2.length:=jC1 _ _ (λp=>k5 ..) pc;have hm:pc.length*x.2.2.length<=((tb z).2.length+1)*x.2.2.length:=jw _ pl;have gL:((tb z).2.length+1)*x.2.2.length<=21*64:=ql (by omega) ni
 have ez:∀s∈(pc.flatMap λp=>x.2.2.map (pZ p)),∃p∈pc,∃d∈x.2.2,s=pZ p d:=λs h=>by
  obtain⟨p,hp,h⟩:=qo.1 h;obtain⟨d,hd,rfl⟩:=jt.1 h;exact⟨p,hp,d,hd,rfl⟩
 obtain⟨out,e2,s1,s2,s3,s4⟩:=Gm (l:=pc.flatMap λp=>x.2.2.map (pZ p)) (by omega) (λs h=>by
  obtain⟨p,hp,d,Ck,rfl⟩:=ez s h;obtain⟨h1,h2,h3,_⟩:=pm p hp;have:=yV p hp;have:=hd d Ck;simp only[pZ];refine⟨?_,?_,?_,?_⟩<;>split<;>omega) (lo:=a) (hi:=b) (λs h ak=>by
  obtain⟨p,hp,d,Ck,rfl⟩:=ez s h;obtain⟨h1,h2,h3,_⟩:=pm p hp;simp only[pZ]at ak ⊢;refine⟨?_,?_⟩<;>split<;>omega)
 refine⟨out,?_,s1,by rw[Nat.mul_comm];omega,λt d h1 h2 px=>?_⟩
 .simp only[j1V];rw[cw hx.z0 (by rw[hlen];exact hx.z1)];simp only[j6,hg,show j1D ((tb z).1,(tb z).2) a b=_ from e,j4,show Int.ofNat pc.length=(pc.length:Int) from rfl];rw[show EJ (pc.length:Int) 0 x.1 x.2.1 x.2.2 [] pc=_ from l0];simp only[j4,e2]
 .obtain⟨k,hk,k1,k2⟩:=pQ ht (t:=t) (by omega) (by omega);have:=Cb ht hk k1 k2;have JJ:=px.symm.trans this;simp only[j5]at JJ;subst JJ;dsimp only;rw[s2 t];constructor
  .rintro⟨s,dC,h3,h4⟩
   obtain⟨p,hp,d,Ck,rfl⟩:=ez s dC;obtain⟨c1,c2⟩:=jC2.1 ⟨h3,h4⟩;obtain⟨_,_,_,i,i1,i2,i3,i4⟩:=pm p hp;have:i=k:=F4 ht i1 hk (t:=t) (by omega) (by omega) k1 k2;subst this;rw[<-i2,c2];exact Ck
  .intro Ck;obtain⟨p,hp,c1,c2⟩:=Rz t h1 h2;obtain⟨_,_,_,i,i1,i2,i3,i4⟩:=pm p hp;have:i=k:=F4 ht i1 hk (t:=t) (by omega) (by omega) k1 k2;subst this;obtain⟨g1,g2⟩:=jC2.2 ⟨⟨c1,c2⟩,show (t+p.2.2)/86400=(t+ba z.2.1 (tb z).2 i)/86400 by rw[i2]⟩;exact⟨_,qo.2 ⟨p,hp,jt.2 ⟨_,Ck,rfl⟩⟩,g1,g2⟩
omit hs in
def aH(zs:List br)(i:Int):br:=zs.getD i.toNat (ByteArray.empty,((0:Int),([]:List aD)))
omit hs in
def fv(cs:List aX)(i:Int):aX:=cs.getD i.toNat (ByteArray.empty,((0:Int),([]:List Int)))
omit hs in
def cm(z:br)(t:Int):Int×Int:=(j1p (tb z) t).getD (0,0)
omit hs in
def eV(d:Int×Int):Int:=(j5Y d).getD 0
omit hs in
def bT(z:br)(L:bI)(t:Int):Int:=(j3O (tb z) L t).getD (-1)
omit hs in
def iF(zs:List br)(cs:List aX)(L:bI)(t:Int):Bool:=
 cond (L.2.2.2.2.2.2.2.2==0) true (decide ((cm (aH zs (fv cs L.2.2.2.2.2.2.2.1).2.1) t).1∈(fv cs L.2.2.2.2.2.2.2.1).2.2)==(L.2.2.2.2.2.2.2.2==(2:Int)))
omit hs in
def fN(zs:List br)(cs:List aX)(L:bI)(t:Int):Bool:=
 cond (decide (0<=bT (aH zs L.2.1) L t)) (cond (okW L.2.2.2.2.2.2.1 (eV (cm (aH zs L.2.1) t))) (iF zs cs L t) false) false
omit hs in
def bO(zs:List br)(cs:List aX)(L:bI)(t:Int):Int:=cond (fN zs cs L t) (sT L (bT (aH zs L.2.1) L t)) (-1)
omit hs in
theorem RA{z:br}(hz:gg z){t:Int}(h0:0<=t)(h1:t<=8589934592):j1p (tb z) t=some (cm z t)/\j5Y (cm z t)=some (eV (cm z t)):=by
 obtain⟨d,s,hd,kW⟩:=jEJ hz h0 h1;have:cm z t=d:=by simp[cm,hd]
 rw[this];exact⟨hd,by simp[eV,kW]⟩
omit hs in
theorem rj{z:br}(hz:gg z){L:bI}(hR:Rt L){t:Int}(h0:0<=t)(h1:t<=8589934592):j3O (tb z) L t=some (bT z L t)/\kB z.2.1 (tb z).2 L t (bT z L t):=by
 obtain⟨K,e,hK⟩:=jFP hz.ztab.2 hR h0 h1;have:bT z L t=K:=by simp only[bT,show j3O (tb z) L t=_ from e,zg]
 rw[this];exact⟨e,hK⟩
omit hs in
theorem JW{L:bI}{t:Int}(h:fN zs cs L t=true):0<=bT (aH zs L.2.1) L t:=by
 by_cases hk:0<=bT (aH zs L.2.1) L t
 .exact hk
 .unfold fN at h;rw[ah hk]at h;simp at h
theorem RB{L:bI}(hL:eD zs.length ps.length cs.length L){t:Int}(_h0:0<=t)(_h1:t<=8589934592):(fN zs cs L t=true↔0<=bO zs cs L t) /\ -1<=bO zs cs L t/\bO zs cs L t<ps.length:=by
 have nD:fN zs cs L t=true->0<=bT (aH zs L.2.1) L t:=JW;unfold bO;have hp:=hs.so.p0;cases hc:fN zs cs L t with
 |false=>simp;omega
 |true=>
  have hk:=nD hc;have oy:=hL.m0;have q1:0<=Int.tmod (bT (aH zs L.2.1) L t) (L.2.2.2.2.2.1.length:Int):=Int.tmod_nonneg _ hk;have q2:Int.tmod (bT (aH zs L.2.1) L t) (L.2.2.2.2.2.1.length:Int)<(L.2.2.2.2.2.1.length:Int):=yn _ (by omega);have hi:(Int.tmod (bT (aH zs L.2.1) L t) (L.2.2.2.2.2.1.length:Int)).toNat<L.2.2.2.2.2.1.length:=by omega
  have e:sT L (bT (aH zs L.2.1) L t)=L.2.2.2.2.2.1[(Int.tmod (bT (aH zs L.2.1) L t) (L.2.2.2.2.2.1.length:Int)).toNat]:=by simp[sT,List.getD,hi]
  rw[j6,e];have:=hL.mem _ (jf hi);exact⟨⟨λ_=>this.1,λ_=>rfl⟩,by omega,this.2⟩
theorem jz9{L:bI}(hL:eD zs.length ps.length cs.length L){ss:List cF}{a b:Int}(ha:0<=a)(bG:a<=b)(hb:b<=8589934592){M:Nat}(hM:M<=60)(hlen:b-a<=604800*M) :
  ∃out,j73 ((zs,(ps,(cs,ss))),zs.map tb) L a b=some out/\bP (a-1) out/\(∀t,bt t out↔a<=t/\t<b/\fN zs cs L t=true)/\
   out.length<=L.2.2.2.2.2.2.1.length*(M+1)*5+1+(if L.2.2.2.2.2.2.2.2=0 then 0 else (fv cs L.2.2.2.2.2.2.2.1).2.2.length*5):=by
 have sV:=hL.rt2;have kL:(zs.map tb).length=zs.length:=k5 ..;have hz:=gv hs.so.ok hL.z0 hL.z1;have hg:=Rj (zs:=zs) hL.z0 hL.z1;have iD:=hL.wl;have eE:(tb (aH zs L.2.1)).2.length<=4:=Al hz;obtain⟨v,ev,hv⟩:=pY hz.ztab.2 sV (k:=0) (by omega) (by omega)
 have oJ:∀t,a<=t->t<b->(0<=bT (aH zs L.2.1) L t↔QO (aH zs L.2.1).2.1 (tb (aH zs L.2.1)).2 L t 0):=λt h1 h2=>by
  have hK:=(rj hz sV (t:=t) (by omega) (by omega)).2;constructor
  .intro hk;rcases hK with⟨hK,_⟩|⟨_,hq,_⟩
   .have:bT (aH zs L.2.1) L t = -1:=hK;omega
   .exact QO.le hz.ztab.2 sV hk hq
  .intro hq;rcases hK with⟨_,hn⟩|⟨hk,_,_⟩
   .exact absurd hq hn
   .exact hk
 have ua:∀t,a<=t->t<b->¬QO (aH zs L.2.1).2.1 (tb (aH zs L.2.1)).2 L t 0->fN zs cs L t=false:=λt h1 h2 hq=>by
  unfold fN;rw[ah (λh=>hq ((oJ t h1 h2).1 h))];rfl
 simp only[j73];rw[cw hL.z0 (by rw[kL];exact hL.z1)];simp only[j6,hg];rw[show j0H ((tb (zs.getD L.2.1.toNat (ByteArray.empty,((0:Int),([]:List aD))))).1,(tb (zs.getD L.2.1.toNat (ByteArray.empty,((0:Int),([]:List aD))))).2) (L.1,L.2.1,(L.2.2.1.1,L.2.2.1.2),L.2.2.2.1,L.2.2.2.2.1,L.2.2.2.2.2.1,L.2.2.2.2.2.2.1,L.2.2.2.2.2.2.2.1,L.2.2.2.2.2.2.2.2) 0=_ from ev];simp only[j4]
 have pG:∀(P:∀t,a<=t->t<b->fN zs cs L t=false),∃out,some ([]:SL)=some out/\bP (a-1) out/\(∀t,bt t out↔a<=t/\t<b/\fN zs cs L t=true)/\
   out.length<=L.2.2.2.2.2.2.1.length*(M+1)*5+1+(if L.2.2.2.2.2.2.2.2=0 then 0 else (fv cs L.2.2.2.2.2.2.2.1).2.2.length*5):=λP=>
  ⟨[],rfl,trivial,λt=>⟨λh=>absurd h fU,λ⟨h1,h2,h3⟩=>by rw[P t h1 h2]at h3;simp at h3⟩,kf _⟩
 cases hh:hO (zs.getD L.2.1.toNat (ByteArray.empty,((0:Int),([]:List aD)))).2.1 (tb (zs.getD L.2.1.toNat (ByteArray.empty,((0:Int),([]:List aD))))).2 L 0 with
 |none=>
  simp only[v8,ka,j6]
  exact pG λt h1 h2=>ua t h1 h2 (by
   rintro⟨u,hu,_⟩
   have eJ:=hh.symm.trans hu;simp at eJ)
 |some u=>
  have:=hv u hh;subst this
  have hq:∀t,QO (aH zs L.2.1).2.1 (tb (aH zs L.2.1)).2 L t 0↔v<=t:=λt=>⟨λ⟨u,hu,hut⟩=>by
   have eJ:=hh.symm.trans hu;simp only[j5]at eJ;omega,λh=>⟨v,hh,h⟩⟩
  simp only[zk,jl,j7];by_cases Hb:v>=b
  .rw[ag Hb];simp only[j6];exact pG λt h1 h2=>ua t h1 h2 (λh=>by have:=(hq t).1 h;omega)
  .rw[ah Hb];simp only[j7];by_cases Gq:a>=b
   .rw[ag Gq];simp only[j6];exact pG λt h1 h2=>by omega
   .rw[ah Gq];simp only[j7];obtain⟨c,hc,hca,kP,wV,nM⟩:∃c:Int,c=(if v>a then v else a)/\a<=c/\v<=c/\c<b/\∀t,a<=t->t<c->t<v:=⟨_,rfl,by split<;>omega,by split<;>omega,by split<;>omega,λt h1 h2=>by split at h2<;>omega⟩;rw[<-hc]
    obtain⟨A,RC,kX,RD,RE,hA5,hA6⟩:∃A:SL,((L.2.2.2.2.2.2.1.length:Int)>0->j31 (tb (aH zs L.2.1)) L.2.2.2.2.2.2.1 c b=some A)/\(¬(L.2.2.2.2.2.2.1.length:Int)>0->A=[(c,b)])/\bP (c-1) A/\
      (∀t,bt t A->t<b)/\(∀t,c<=t->t<b->(bt t A↔okW L.2.2.2.2.2.2.1 (eV (cm (aH zs L.2.1) t))=true))/\A.length<=L.2.2.2.2.2.2.1.length*(M+1)*5+1:=by
     by_cases hw:(L.2.2.2.2.2.2.1.length:Int)>0
     .obtain⟨A,e,s1,s2,s3,s4⟩:=Rr hz.ztab.2 (q9 eE (by omega)) hL.w iD hM (a:=c) (b:=b) (by omega) (by omega) hb (by omega);refine⟨A,λ_=>e,λh=>absurd hw h,s1,λt ⟨s,dC,h1,h2⟩=>by have:=(s2 s dC).2;omega,λt h1 h2=>?_,?_⟩
      .obtain⟨k,hk,k1,k2⟩:=pQ hz.ztab.2 (t:=t) (by omega) (by omega);rw[s4 k hk t h1 h2 k1 k2];have yF:cm (aH zs L.2.1) t=((t+ba (aH zs L.2.1).2.1 (tb (aH zs L.2.1)).2 k)/86400,(t+ba (aH zs L.2.1).2.1 (tb (aH zs L.2.1)).2 k)%86400):=by unfold cm;rw[show j1p (tb (aH zs L.2.1)) t=_ from Cb hz.ztab.2 hk k1 k2];rfl
       have o0:=hz.ztab.2.of0 k hk;have o1:=hz.ztab.2.of1 k hk;have kA:eV (cm (aH zs L.2.1) t)=(t+ba (aH zs L.2.1).2.1 (tb (aH zs L.2.1)).2 k+259200)%604800:=by rw[yF];simp only[eV,j5Y];have o0' : -64800<=ba (aH zs L.2.1).2.1 (tb (aH zs L.2.1)).2 k:=o0;have o1':ba (aH zs L.2.1).2.1 (tb (aH zs L.2.1)).2 k<=64800:=o1;rw[JD _ (by omega)];simp only[j4,zg];generalize ba (aH zs L.2.1).2.1 (tb (aH zs L.2.1)).2 k=o at *;rw[ai (x:=((t+o)/86400+3)%7*86400),ai];omega
       rw[kA];unfold okW;rw[ag hw];rfl
      .have:L.2.2.2.2.2.2.1.length*(M+1)*((tb (aH zs L.2.1)).2.length+1)<=L.2.2.2.2.2.2.1.length*(M+1)*5:=Nat.mul_le_mul_left _ (by omega);have s3':A.length<=L.2.2.2.2.2.2.1.length*(M+1)*((tb (aH zs L.2.1)).2.length+1):=s3;omega
     .refine⟨[(c,b)],λh=>absurd h hw,λ_=>rfl,⟨by dsimp only;omega,wV,trivial⟩,λt h=>?_,λt h1 h2=>?_,by simp⟩
      .rcases eU.1 h with h|h
       .exact h.2
       .exact absurd h fU
      .unfold okW;rw[ah hw];exact⟨λ_=>rfl,λ_=>eU.2 (.inl ⟨h1,h2⟩)⟩
    have hA7:A.length<=30000:=by have:L.2.2.2.2.2.2.1.length*(M+1)<=14*61:=ql iD (by omega);omega
    have dY:∀out:SL,bP (c-1) out->(∀t,bt t out->t<b)->(∀t,c<=t->t<b->(bt t out↔bt t A/\iF zs cs L t=true))->bP (a-1) out/\∀t,bt t out↔a<=t/\t<b/\fN zs cs L t=true:=λout h1 h2 h3=>by
     refine⟨h1.weak (by omega),λt=>⟨λhx=>?_,λ⟨g1,g2,g3⟩=>?_⟩⟩
     .have l1:=bP.low h1 hx;have l2:=h2 t hx;refine⟨by omega,l2,?_⟩;have:=(h3 t (by omega) l2).1 hx;unfold fN;rw[ag ((oJ t (by omega) l2).2 ((hq t).2 (by omega))),(hA5 t (by omega) l2).1 this.1,this.2];rfl
     .have hk:=JW g3;have uG:=(hq t).1 ((oJ t g1 g2).1 hk);have hct:c<=t:=by apply jp;intro hn;have:=nM t g1 (by omega);omega
      refine(h3 t hct g2).2 ⟨(hA5 t hct g2).2 ?_,?_⟩
      .unfold fN at g3;rw[ag hk]at g3;revert g3;cases okW L.2.2.2.2.2.2.1 (eV (cm (aH zs L.2.1) t))<;>simp
      .unfold fN at g3;rw[ag hk]at g3;revert g3;cases okW L.2.2.2.2.2.2.1 (eV (cm (aH zs L.2.1) t))<;>simp
    by_cases hm:L.2.2.2.2.2.2.2.2=0
    .have dG:=dY A RD RE (λt _ _=>by unfold iF;rw[di hm];simp);rw[bW (show¬L.2.2.2.2.2.2.2.2=1 by omega),bW (show¬L.2.2.2.2.2.2.2.2=2 by omega),if_pos hm];simp only[j7];by_cases hw:(L.2.2.2.2.2.2.1.length:Int)>0
     .rw[show Int.ofNat L.2.2.2.2.2.2.1.length=(L.2.2.2.2.2.2.1.length:Int) from rfl,ag hw,j6,show j31 ((tb (zs.getD L.2.1.toNat (ByteArray.empty,((0:Int),([]:List aD))))).1,(tb (zs.getD L.2.1.toNat (ByteArray.empty,((0:Int),([]:List aD))))).2) L.2.2.2.2.2.2.1 c b=_ from RC hw];simp only[j4];exact⟨A,rfl,dG.1,dG.2,by omega⟩
     .rw[show Int.ofNat L.2.2.2.2.2.2.1.length=(L.2.2.2.2.2.2.1.length:Int) from rfl,ah hw,j7,<-kX hw];exact⟨A,rfl,dG.1,dG.2,by omega⟩
    .have cD:=hL.cal hm;have hx:=oA hs cD.1 cD.2;have Bs:=gv hs.so.ok hx.z0 hx.z1;have Gr:(tb (aH zs (fv cs L.2.2.2.2.2.2.2.1).2.1)).2.length<=4:=Al Bs;obtain⟨D,e2,d1,d2,d3⟩:=jDs hs hx (ss:=ss) (a:=c) (b:=b) (by omega) (by omega) hb rfl
     have hDl:D.length<=(fv cs L.2.2.2.2.2.2.2.1).2.2.length*5:=q9 d2 (Nat.mul_le_mul_left _ (by
      have:(tb (aH zs (fv cs L.2.2.2.2.2.2.2.1).2.1)).2.length+1<=5:=by omega
      exact this))
     have hDl2:D.length<=2000:=by have:=hx.len;have h64:(fv cs L.2.2.2.2.2.2.2.1).2.2.length<=64:=this;omega
     have hdx:∀t,c<=t->t<b->(bt t D↔(cm (aH zs (fv cs L.2.2.2.2.2.2.2.1).2.1) t).1∈(fv cs L.2.2.2.2.2.2.2.1).2.2):=λt h1 h2=>d3 t _ h1 h2 (RA Bs (by omega) (by omega)).1;rw[if_neg hm,cw cD.1 cD.2];have Gs:L.2.2.2.2.2.2.2.2=1\/L.2.2.2.2.2.2.2.2=2:=by have:=hL.mode0;have:=hL.mode1;omega
     rcases Gs with fD|gL
     .obtain⟨out,e3,w1,w2,w3⟩:=Rw (by omega) RD d1 (by omega)
      have dG:=dY out w1 (λt h=>RE t ((w2 t).1 h).1) (λt h1 h2=>by
       rw[w2 t,hdx t h1 h2];unfold iF;rw[bW hm,bW (show¬L.2.2.2.2.2.2.2.2=2 by omega),j7];simp)
      rw[di fD];simp only[j6];by_cases hw:(L.2.2.2.2.2.2.1.length:Int)>0
      .rw[show Int.ofNat L.2.2.2.2.2.2.1.length=(L.2.2.2.2.2.2.1.length:Int) from rfl,ag hw,j6,show j31 ((tb (zs.getD L.2.1.toNat (ByteArray.empty,((0:Int),([]:List aD))))).1,(tb (zs.getD L.2.1.toNat (ByteArray.empty,((0:Int),([]:List aD))))).2) L.2.2.2.2.2.2.1 c b=_ from RC hw];simp only[j4];refine⟨out,?_,dG.1,dG.2,by omega⟩;rw[show j1V ((zs,(ps,(cs,ss))),zs.map tb) ((cs.getD L.2.2.2.2.2.2.2.1.toNat (ByteArray.empty,((0:Int),([]:List Int)))).1,(cs.getD L.2.2.2.2.2.2.2.1.toNat (ByteArray.empty,((0:Int),([]:List Int)))).2.1,(cs.getD L.2.2.2.2.2.2.2.1.toNat (ByteArray.empty,((0:Int),([]:List Int)))).2.2) c b=_ from e2];simp only[j4,e3]
      .rw[show Int.ofNat L.2.2.2.2.2.2.1.length=(L.2.2.2.2.2.2.1.length:Int) from rfl,ah hw,j7,<-kX hw];refine⟨out,?_,dG.1,dG.2,by omega⟩;rw[show j1V ((zs,(ps,(cs,ss))),zs.map tb) ((cs.getD L.2.2.2.2.2.2.2.1.toNat (ByteArray.empty,((0:Int),([]:List Int)))).1,(cs.getD L.2.2.2.2.2.2.2.1.toNat (ByteArray.empty,((0:Int),([]:List Int)))).2.1,(cs.getD L.2.2.2.2.2.2.2.1.toNat (ByteArray.empty,((0:Int),([]:List Int)))).2.2) c b=_ from e2];simp only[j4,e3]
     .obtain⟨out,e3,w1,w2,w3⟩:=Z9 RD d1 (by omega) (by omega)
      have dG:=dY out w1 (λt h=>RE t ((w2 t).1 h).1) (λt h1 h2=>by
       rw[w2 t,hdx t h1 h2];unfold iF;rw[bW hm,di gL,j7];simp)
      rw[bW (show¬L.2.2.2.2.2.2.2.2=1 by omega),di gL];simp only[j6,j7];by_cases hw:(L.2.2.2.2.2.2.1.length:Int)>0
      .rw[show Int.ofNat L.2.2.2.2.2.2.1.length=(L.2.2.2.2.2.2.1.length:Int) from rfl,ag hw,j6,show j31 ((tb (zs.getD L.2.1.toNat (ByteArray.empty,((0:Int),([]:List aD))))).1,(tb (zs.getD L.2.1.toNat (ByteArray.empty,((0:Int),([]:List aD))))).2) L.2.2.2.2.2.2.1 c b=_ from RC hw];simp only[j4];refine⟨out,?_,dG.1,dG.2,by omega⟩;rw[show j1V ((zs,(ps,(cs,ss))),zs.map tb) ((cs.getD L.2.2.2.2.2.2.2.1.toNat (ByteArray.empty,((0:Int),([]:List Int)))).1,(cs.getD L.2.2.2.2.2.2.2.1.toNat (ByteArray.empty,((0:Int),([]:List Int)))).2.1,(cs.getD L.2.2.2.2.2.2.2.1.toNat (ByteArray.empty,((0:Int),([]:List Int)))).2.2) c b=_ from e2];simp only[j4,e3]
      .rw[show Int.ofNat L.2.2.2.2.2.2.1.length=(L.2.2.2.2.2.2.1.length:Int) from rfl,ah hw,j7,<-kX hw];refine⟨out,?_,dG.1,dG.2,by omega⟩;rw[show j1V ((zs,(ps,(cs,ss))),zs.map tb) ((cs.getD L.2.2.2.2.2.2.2.1.toNat (ByteArray.empty,((0:Int),([]:List Int)))).1,(cs.getD L.2.2.2.2.2.2.2.1.toNat (ByteArray.empty,((0:Int),([]:List Int)))).2.1,(cs.getD L.2.2.2.2.2.2.2.1.toNat (ByteArray.empty,((0:Int),([]:List Int)))).2.2) c b=_ from e2];simp only[j4,e3]
end
end Go.Proofs.Pw
