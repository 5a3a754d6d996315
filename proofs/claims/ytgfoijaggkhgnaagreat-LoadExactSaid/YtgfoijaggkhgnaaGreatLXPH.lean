/- Segments that cover a range: their Cx form is unique. -/
import Derived.Test.YtgfoijaggkhgnaaGreatLXLD
import Derived.Test.YtgfoijaggkhgnaaGreatLXPF
import Derived.Test.YtgfoijaggkhgnaaGreatLXPG
open _root_ renaming Int->j,List->E,Option->G,ByteArray->O,Nat->Y
open ByteArray renaming empty->B
open Option renaming some->F,none->N,some_or->W
open Int renaming tmod->I,ofNat->S
noncomputable section
open Go Go.Lft
namespace Go.Proofs.Pw
abbrev kK:=j×(j×j)
abbrev bE:=E kK
def Ch(f:j->j)(b:j):j->bE->Prop
 |a,[]=>a=b
 |a,s::r=>s.1=a/\a<=s.2.1/\(∀t,a<=t->t<s.2.1->f t=s.2.2)/\Ch f b s.2.1 r
def fy(f:j->j)(b:j):G j->j->bE->Prop
 |_,a,[]=>a=b
 |q,a,s::r=>s.1=a/\a<s.2.1/\q≠F s.2.2/\(∀t,a<=t->t<s.2.1->f t=s.2.2)/\fy f b (F s.2.2) s.2.1 r
theorem Ch.le{f:j->j}{b:j}:∀{l:bE}{a:j},Ch f b a l->a<=b
 |[],_,h=>Int.le_of_eq h
 |_::_,_,h=>zb h.2.1 h.2.2.2.le
theorem Ch.app{f:j->j}{b c:j}:∀{l r:bE}{a:j},Ch f b a l->Ch f c b r->Ch f c a (l++r)
 |[],_,_,h,h'=>by have h:_=_:=h;subst h;exact h'
 |_::_,_,_,h,h'=>⟨h.1,h.2.1,h.2.2.1,h.2.2.2.app h'⟩
theorem Ch.snoc{f:j->j}{b c p:j}{l:bE}{a:j}(h:Ch f b a l)(yH:b<=c)(hp:∀t,b<=t->t<c->f t=p):Ch f c a (l++[(b,(c,p))]):=
 h.app ⟨rfl,yH,hp,rfl⟩
theorem fy.ch{f:j->j}{b:j}:∀{l:bE}{q:G j}{a:j},fy f b q a l->Ch f b a l
 |[],_,_,h=>h
 |_::_,_,_,h=>⟨h.1,Int.le_of_lt h.2.1,h.2.2.2.1,h.2.2.2.2.ch⟩
theorem fy.uniq{f:j->j}{b:j}:∀{l l':bE}{q:G j}{a:j},fy f b q a l->fy f b q a l'->l=l'
 |[],[],_,_,_,_=>rfl
 |[],_::_,_,_,h,h'=>by have:=h'.2.1;have:=h'.2.2.2.2.ch.le;have h:_=_:=h;omega
 |_::_,[],_,_,h,h'=>by have:=h.2.1;have:=h.2.2.2.2.ch.le;have h':_=_:=h';omega
 |s::r,s'::r',q,a,h,h'=>by
  obtain⟨h1,h2,h3,h4,h5⟩:=h;obtain⟨g1,g2,g3,g4,g5⟩:=h';have hp:s.2.2=s'.2.2:=by rw[<-h4 a aa h2,<-g4 a aa g2]
  have ht:s.2.1=s'.2.1:=by
   apply jt;intro bA;by_cases an:s.2.1<s'.2.1
   .match r,h5 with
    |[],h5=>have:=g5.ch.le;have h5:_=_:=h5;omega
    |u::v,h5=>have e1:=h5.2.2.2.1 s.2.1 aa h5.2.1;have e2:=g4 s.2.1 aa an;exact h5.2.2.1 (by rw[<-e1,e2,hp])
   .match r',g5 with
    |[],g5=>have:=h5.ch.le;have g5:_=_:=g5;omega
    |u::v,g5=>have e1:=g5.2.2.2.1 s'.2.1 aa g5.2.1;have e2:=h4 s'.2.1 aa aa;exact g5.2.2.1 (by rw[<-e1,e2,hp])
  have hs:s=s':=Prod.ext (by rw[h1,g1]) (Prod.ext ht hp);subst hs;rw[h5.uniq g5]
def lstP:G j->bE->G j
 |q,[]=>q
 |_,s::r=>lstP (F s.2.2) r
theorem ώ:∀(l:bE)(q:G j)(s:kK),lstP q (l++[s])=F s.2.2
 |[],_,_=>rfl
 |_::r,_,s=>ώ r _ s
theorem fy.snoc{f:j->j}{b c p:j}:∀{l:bE}{q:G j}{a:j},fy f b q a l->b<c->lstP q l≠F p->(∀t,b<=t->t<c->f t=p)->fy f c q a (l++[(b,(c,p))])
 |[],_,_,h,yH,hl,hp=>by have h:_=_:=h;subst h;exact⟨rfl,yH,hl,hp,rfl⟩
 |_::_,_,_,h,yH,hl,hp=>⟨h.1,h.2.1,h.2.2.1,h.2.2.2.1,h.2.2.2.2.snoc yH hl hp⟩
theorem fy.ext{f:j->j}{b c x p:j}:∀{l:bE}{q:G j}{a:j},fy f b q a (l++[(x,(b,p))])->b<=c->(∀t,b<=t->t<c->f t=p)->fy f c q a (l++[(x,(c,p))])
 |[],_,_,h,yH,hp=>⟨h.1,by have:=h.2.1;dsimp only at this ⊢;omega,h.2.2.1,λt h1 h2=>by
  by_cases ht:t<b
  .exact h.2.2.2.1 t h1 ht
  .exact hp t aa h2,rfl⟩
 |_::_,_,_,h,yH,hp=>⟨h.1,h.2.1,h.2.2.1,h.2.2.2.1,h.2.2.2.2.ext yH hp⟩
def la(out:bE)(s:kK):bE:=
 if s.2.1<=s.1 then out else match out.getLast? with
  |some x=>if x.2.1=s.1/\x.2.2=s.2.2 then out.dropLast++[(x.1,(s.2.1,x.2.2))] else out++[s]
  |none=>out++[s]
theorem Ϗ{f:j->j}{a b:j}{out:bE}(h:fy f b N a out){s:kK}(h1:s.1=b)(h2:b<=s.2.1)(h3:∀t,b<=t->t<s.2.1->f t=s.2.2):fy f s.2.1 N a (la out s):=by
 obtain⟨x,y,p⟩:=s;dsimp only at h1 h2 h3 ⊢;subst h1;unfold la;dsimp only;by_cases iP:y<=x
 .rw[if_pos iP];have:y=x:=aa;subst this;exact h
 .rw[if_neg iP];rcases vw out with rfl|⟨l,u,rfl⟩
  .exact h.snoc aa (by simp[lstP]) h3
  .rw[vz]at h ⊢;rw[yj];simp only[yd,W];by_cases hu:u.2.1=x/\u.2.2=p
   .rw[if_pos hu,yi];obtain⟨u1,u2,u3⟩:=u;dsimp only at hu ⊢;obtain⟨rfl,rfl⟩:=hu;exact h.ext h2 h3
   .rw[if_neg hu];refine h.snoc aa ?_ h3;rw[ώ];intro e;have hp:u.2.2=p:=by simpa using e
    refine hu ⟨?_,hp⟩
    have:∀(l:bE)(q:G j)(a:j),fy f x q a (l++[u])->u.2.1=x:=by
     intro l;induction l with
     |nil=>intro q a h;exact h.2.2.2.2
     |cons v r ih=>intro q a h;exact ih _ _ h.2.2.2.2
    exact this l _ _ h
theorem ϐ{f:j->j}{b:j}:∀(l:bE){a c:j}{out:bE},fy f c N a out->Ch f b c l->fy f b N a (l.foldl la out)
 |[],_,_,_,h,h'=>by have h':_=_:=h';subst h';exact h
 |s::r,_,_,_,h,h'=>ϐ r (Ϗ h h'.1 h'.2.1 h'.2.2.1) h'.2.2.2
theorem Ch.cov{f:j->j}{a b:j}{l:bE}(h:Ch f b a l):fy f b N a (l.foldl la []):=ϐ l (show fy f a N a [] from rfl) h
theorem ϑ{f:j->j}:∀{l:bE}{a b:j},a<=b->l.Pairwise (λs u=>s.2.1<=u.1)->(∀s∈l,s.1<s.2.1/\∀t,s.1<=t->t<s.2.1->f t=s.2.2)->
  (∀x,(a<=x/\x<b)↔∃s∈l,s.1<=x/\x<s.2.1)->Ch f b a l
 |[],a,b,cb,_,_,hc=>by
  apply jt;intro bA;have bA:a≠b:=bA;obtain⟨s,hs,_⟩:=(hc a).1 ⟨k7 _,aa⟩;simp at hs
 |s::r,a,b,cb,hp,hf,hc=>by
  obtain⟨s1,s2⟩:=hf s ae;obtain⟨p1,p2⟩:=kb.1 hp;have h1:=(hc s.1).2 ⟨s,ae,k7 _,s1⟩;have h2:=(hc (s.2.1-1)).2 ⟨s,ae,aa,aa⟩
  have he:s.1=a:=by
   obtain⟨u,hu,u1,u2⟩:=(hc a).1 ⟨k7 _,aa⟩;rcases je.1 hu with rfl|hu
   .omega
   .have:=p1 u hu;omega
  refine⟨he,aa,λt t1 t2=>s2 t aa t2,ϑ aa p2 (λu hu=>hf u (by simp[hu])) (λx=>⟨λhx=>?_,λ⟨u,hu,u1,u2⟩=>?_⟩)⟩
  .obtain⟨u,hu,u1,u2⟩:=(hc x).1 ⟨aa,hx.2⟩;rcases je.1 hu with rfl|hu
   .omega
   .exact⟨u,hu,u1,u2⟩
  .have:=p1 u hu;have:=(hc x).2 ⟨u,by simp[hu],u1,u2⟩;omega
theorem Ch.mem{f:j->j}{b:j}:∀{l:bE}{a:j},Ch f b a l->∀s∈l,a<=s.1/\s.1<=s.2.1/\s.2.1<=b/\∀t,s.1<=t->t<s.2.1->f t=s.2.2
 |[],_,_,s,hs=>by simp at hs
 |u::r,a,h,s,hs=>by
  obtain⟨h1,h2,h3,h4⟩:=h;rcases je.1 hs with rfl|hs
  .exact⟨aa,aa,h4.le,λt t1 t2=>h3 t aa t2⟩
  .have:=h4.mem s hs;exact⟨aa,this.2.1,this.2.2.1,this.2.2.2⟩
theorem Ch.has{f:j->j}{b:j}:∀{l:bE}{a:j},Ch f b a l->∀x,a<=x->x<b->∃s∈l,s.1<=x/\x<s.2.1
 |[],_,h,x,h1,h2=>by have h:_=_:=h;omega
 |u::r,a,h,x,h1,h2=>by
  obtain⟨g1,g2,g3,g4⟩:=h;by_cases hx:x<u.2.1
  .exact⟨u,ae,aa,hx⟩
  .obtain⟨s,hs,e⟩:=g4.has x aa h2;exact⟨s,by simp[hs],e⟩
theorem Ch.congr{f g:j->j}{b:j}:∀{l:bE}{a:j},Ch f b a l->(∀t,a<=t->t<b->f t=g t)->Ch g b a l
 |[],_,h,_=>h
 |u::r,a,h,hg=>by
  obtain⟨g1,g2,g3,g4⟩:=h;have:=g4.le;exact⟨g1,g2,λt t1 t2=>by rw[<-hg t t1 aa];exact g3 t t1 t2,g4.congr (λt t1 t2=>hg t aa t2)⟩
theorem fy.pos{f:j->j}{b:j}:∀{l:bE}{q:G j}{a:j},fy f b q a l->∀s∈l,s.1<s.2.1
 |[],_,_,_,s,hs=>by simp at hs
 |u::r,_,a,h,s,hs=>by
  rcases je.1 hs with rfl|hs
  .have:=h.1;have:=h.2.1;omega
  .exact h.2.2.2.2.pos s hs
theorem jH6{d:j}(h:j0W d=F true):0<=d:=by
 apply jt;intro hd;simp only[j0W,j9x,Lx,Lw,j4]at h;rw[ah (show d<0 by omega)]at h;simp at h
def ri(p:j×(j×j))(d:j):j×Int:=
 (if d*86400-p.2.2>p.1 then d*86400-p.2.2 else p.1,if d*86400-p.2.2+86400<p.2.1 then d*86400-p.2.2+86400 else p.2.1)
theorem ϒ{ds:E j}(hd:∀d∈ds,0<=d/\d<=100000)(hl:ds.length<=64){p:j×(j×j)}(hp : -64800<=p.2.2/\p.2.2<=64800){m q z:j}{nm:O}{ps:E (j×(j×j))}:∀(n i:Y)(acc:SL),i+n=ds.length->acc.length+n<=1000000->
  F2 m q ds (ds.length:j) (i:j) nm z ds p.1 p.2.1 p.2.2 acc ps=F (m,q,nm,z,ds,acc++(ds.drop i).map (ri p),ps)
 |0,i,acc,hi,_=>by
  rw[Za];simp only[j2X];rw[aj aa,j7,aS,jc aa];simp
 |n+1,i,acc,hi,eM=>by
  have br:i<ds.length:=aa;have aR:ds.getD i (0:j)=ds[i]:=by simp[br]
  have ϓ:=hd _ (jg br);rw[Za];simp only[j2X];rw[ah aa,bD];simp only[j6,j8,aR];rw[al (x:=ds[i]*86400),al (x:=ds[i]*86400-p.2.2),al (x:=ds[i]*86400-p.2.2+86400),al (x:=(i:j)+1),ah (by simp[aM];omega),jb br];simp only[j6,aH,ke];have:=ϒ hd hl hp (m:=m) (q:=q) (z:=z) (nm:=nm) (ps:=ps) n (i+1) (acc++[ri p ds[i]]) aa ax;rw[jj]at this;exact this
theorem ϔ{ds:E j}(hd:∀d∈ds,0<=d/\d<=100000)(hl:ds.length<=64){z:j}{nm:O}{ps:E (j×(j×j))}(gW:∀p∈ps, -64800<=p.2.2/\p.2.2<=64800)(lP:ps.length<=100):∀(n i:Y)(acc:SL),i+n=ps.length->acc.length<=64*i->
  F3 (ps.length:j) (i:j) nm z ds acc ps=F (acc++(ps.drop i).flatMap λp=>ds.map (ri p))
 |0,i,acc,hi,_=>by
  rw[Zb];simp only[j2Y];rw[aj aa,j7,aS,jc aa];simp
 |n+1,i,acc,hi,eM=>by
  have br:i<ps.length:=aa;have aR:ps.getD i ((0:j),((0:j),(0:j)))=ps[i]:=by simp[List.getD,br]
  have h2:=ϒ hd hl (gW _ (jg br)) (m:=(ps.length:j)) (q:=(i:j)) (z:=z) (nm:=nm) (ps:=ps) ds.length 0 acc aa aa;have ih:=ϔ hd hl (z:=z) (nm:=nm) gW lP n (i+1) (acc++ds.map (ri ps[i])) aa ax;rw[Zb];simp only[j2Y];rw[ah aa,bD];simp only[j6,j8,aR,show S ds.length=(ds.length:j) from rfl];rw[show F2 (ps.length:j) (i:j) ds (ds.length:j) 0 nm z ds ps[i].1 ps[i].2.1 ps[i].2.2 acc ps=_ from h2];simp only[j4,jm];rw[al (x:=(i:j)+1),aH,jb br,zr,<-jj];exact ih
theorem ϕ{α β:Type}(f:α->E β)(k:Y)(hf:∀a,(f a).length=k):∀l:E α,(l.flatMap f).length=l.length*k
 |[]=>ae
 |a::l=>by rw[zr,jf,ϕ f k hf l,hf,jk,Nat.add_mul,Nat.one_mul];omega
theorem ϖ{p:j×(j×j)}{d x:j}:((ri p d).1<=x/\x<(ri p d).2)↔(p.1<=x/\x<p.2.1)/\(x+p.2.2)/86400=d:=by
 simp only[ri];constructor
 .intro h;split at h<;>split at h<;>omega
 .intro h;split<;>split<;>omega
section
variable{zs:E bF}{ps:E cR}{cs:E aV}(hs:db zs ps cs)
include hs
theorem jFJ{x:aV}(hx:ra zs.length x){ss:E cW}{a b:j}(ha:0<=a)(cb:a<=b)(hb:b<=8589934592){z:bF}(hz:zs.getD x.2.1.toNat (B,((0:j),([]:E aL)))=z) :
  ∃out,j27 ((zs,(ps,(cs,ss))),zs.map tb) x a b=F out/\ca (a-1) out/\out.length<=x.2.2.length*((tb z).2.length+1)/\
   ∀t d,a<=t->t<b->j1y (tb z) t=F d->(bJ t out↔d.1∈x.2.2):=by
 have hlen:(zs.map tb).length=zs.length:=kj ..;have hg:=Tw (zs:=zs) hx.z0 hx.z1;have tT:=gR hs.so.ok hx.z0 hx.z1;rw[hz]at hg tT;have ht:=tT.ztab.2;have fw:(tb z).2.length<=20:=ν tT;obtain⟨pc,e,pl,pm,TK⟩:=ε ht ha cb hb;have nV:=hx.len;have hd:∀d∈x.2.2,0<=d/\d<=100000:=λd hd=>⟨jH6 (hx.day d hd),ψ (hx.day d hd)⟩
 have Ax:∀p∈pc, -64800<=p.2.2/\p.2.2<=64800:=λp hp=>by
  obtain⟨_,_,_,i,i1,i2,_⟩:=pm p hp;have:=ht.of0 i i1;have:=ht.of1 i i1;omega
 have l0:=ϔ hd nV (z:=x.2.1) (nm:=x.1) Ax aa pc.length 0 [] aa ae;rw[jw,jm]at l0;have ι:(pc.flatMap λp=>x.2.2.map (ri p)).length=pc.length*x.2.2.length:=ϕ _ _ (λp=>kj ..) pc;have hm:pc.length*x.2.2.length<=((tb z).2.length+1)*x.2.2.length:=k9 _ pl;have ik:((tb z).2.length+1)*x.2.2.length<=21*64:=qi aa nV
 have ez:∀s∈(pc.flatMap λp=>x.2.2.map (ri p)),∃p∈pc,∃d∈x.2.2,s=ri p d:=λs h=>by
  obtain⟨p,hp,h⟩:=qv.1 h;obtain⟨d,hd,rfl⟩:=jr.1 h;exact⟨p,hp,d,hd,rfl⟩
 obtain⟨out,e2,s1,s2,s3,s4⟩:=HM (l:=pc.flatMap λp=>x.2.2.map (ri p)) aa (λs h=>by
  obtain⟨p,hp,d,Dh,rfl⟩:=ez s h;obtain⟨h1,h2,h3,_⟩:=pm p hp;have:=Ax p hp;have:=hd d Dh;simp only[ri];refine⟨?_,?_,?_,?_⟩<;>split<;>omega) (lo:=a) (hi:=b) (λs h an=>by
  obtain⟨p,hp,d,Dh,rfl⟩:=ez s h;obtain⟨h1,h2,h3,_⟩:=pm p hp;simp only[ri]at an ⊢;refine⟨?_,?_⟩<;>split<;>omega)
 refine⟨out,?_,s1,by rw[Nat.mul_comm];omega,λt d h1 h2 qI=>?_⟩
 .simp only[j27];rw[bY hx.z0 (by rw[hlen];exact hx.z1)];simp only[j6,hg,show j1P ((tb z).1,(tb z).2) a b=_ from e,j4,show S pc.length=(pc.length:j) from rfl];rw[show F3 (pc.length:j) 0 x.1 x.2.1 x.2.2 [] pc=_ from l0];simp only[j4,e2]
 .obtain⟨k,hk,k1,k2⟩:=pX ht (t:=t) aa aa;have:=Da ht hk k1 k2;have Lm:=qI.symm.trans this;simp only[j5]at Lm;subst Lm;dsimp only;rw[s2 t];constructor
  .rintro⟨s,dt,h3,h4⟩
   obtain⟨p,hp,d,Dh,rfl⟩:=ez s dt;obtain⟨c1,c2⟩:=ϖ.1 ⟨h3,h4⟩;obtain⟨_,_,_,i,i1,i2,i3,i4⟩:=pm p hp;have:i=k:=Hw ht i1 hk (t:=t) aa aa k1 k2;subst this;rw[<-i2,c2];exact Dh
  .intro Dh;obtain⟨p,hp,c1,c2⟩:=TK t h1 h2;obtain⟨_,_,_,i,i1,i2,i3,i4⟩:=pm p hp;have:i=k:=Hw ht i1 hk (t:=t) aa aa k1 k2;subst this;obtain⟨g1,g2⟩:=ϖ.2 ⟨⟨c1,c2⟩,show (t+p.2.2)/86400=(t+bk z.2.1 (tb z).2 i)/86400 by rw[i2]⟩;exact⟨_,qv.2 ⟨p,hp,jr.2 ⟨_,Dh,rfl⟩⟩,g1,g2⟩
omit hs in
def aO(zs:E bF)(i:j):bF:=zs.getD i.toNat (B,((0:j),([]:E aL)))
omit hs in
def gf(cs:E aV)(i:j):aV:=cs.getD i.toNat (B,((0:j),([]:E j)))
omit hs in
def cL(z:bF)(t:j):j×Int:=(j1y (tb z) t).getD (0,0)
omit hs in
def fi(d:j×j):Int:=(C9 d).getD 0
omit hs in
def ct(z:bF)(L:bZ)(t:j):Int:=(j4b (tb z) L t).getD (-1)
omit hs in
def jD(zs:E bF)(cs:E aV)(L:bZ)(t:j):Bool:=
 cond (L.2.2.2.2.2.2.2.2==0) true (decide ((cL (aO zs (gf cs L.2.2.2.2.2.2.2.1).2.1) t).1∈(gf cs L.2.2.2.2.2.2.2.1).2.2)==(L.2.2.2.2.2.2.2.2==(2:j)))
omit hs in
def gg(zs:E bF)(cs:E aV)(L:bZ)(t:j):Bool:=
 cond (decide (0<=ct (aO zs L.2.1) L t)) (cond (okW L.2.2.2.2.2.2.1 (fi (cL (aO zs L.2.1) t))) (jD zs cs L t) false) false
omit hs in
def cu(zs:E bF)(cs:E aV)(L:bZ)(t:j):Int:=cond (gg zs cs L t) (tR L (ct (aO zs L.2.1) L t)) (-1)
omit hs in
theorem TL{z:bF}(hz:gx z){t:j}(h0:0<=t)(h1:t<=8589934592):j1y (tb z) t=F (cL z t)/\C9 (cL z t)=F (fi (cL z t)):=by
 obtain⟨d,s,hd,lR⟩:=jGX hz h0 h1;have:cL z t=d:=by simp[cL,hd]
 rw[this];exact⟨hd,by simp[fi,lR]⟩
omit hs in
theorem sa{z:bF}(hz:gx z){L:bZ}(hR:Rt L){t:j}(h0:0<=t)(h1:t<=8589934592):j4b (tb z) L t=F (ct z L t)/\kY z.2.1 (tb z).2 L t (ct z L t):=by
 obtain⟨K,e,hK⟩:=jIj hz.ztab.2 hR h0 h1;have:ct z L t=K:=by simp only[ct,show j4b (tb z) L t=_ from e,v7]
 rw[this];exact⟨e,hK⟩
omit hs in
theorem Ly{L:bZ}{t:j}(h:gg zs cs L t=true):0<=ct (aO zs L.2.1) L t:=by
 by_cases hk:0<=ct (aO zs L.2.1) L t
 .exact hk
 .unfold gg at h;rw[aj hk]at h;simp at h
theorem ϗ{L:bZ}(hL:fh zs.length ps.length cs.length L){t:j}(_h0:0<=t)(_h1:t<=8589934592):(gg zs cs L t=true↔0<=cu zs cs L t) /\ -1<=cu zs cs L t/\cu zs cs L t<ps.length:=by
 have oo:gg zs cs L t=true->0<=ct (aO zs L.2.1) L t:=Ly;unfold cu;have hp:=hs.so.p0;cases hc:gg zs cs L t with
 |false=>simp;omega
 |true=>
  have hk:=oo hc;have mS:=hL.m0;have q1:0<=I (ct (aO zs L.2.1) L t) (L.2.2.2.2.2.1.length:j):=Int.tmod_nonneg _ hk;have q2:I (ct (aO zs L.2.1) L t) (L.2.2.2.2.2.1.length:j)<(L.2.2.2.2.2.1.length:j):=yx _ aa;have hi:(I (ct (aO zs L.2.1) L t) (L.2.2.2.2.2.1.length:j)).toNat<L.2.2.2.2.2.1.length:=aa;have e:tR L (ct (aO zs L.2.1) L t)=L.2.2.2.2.2.1[(I (ct (aO zs L.2.1) L t) (L.2.2.2.2.2.1.length:j)).toNat]:=by simp[tR,List.getD,hi]
  rw[j6,e];have:=hL.mem _ (jg hi);exact⟨⟨λ_=>this.1,λ_=>rfl⟩,aa,this.2⟩
theorem jB6{L:bZ}(hL:fh zs.length ps.length cs.length L){ss:E cW}{a b:j}(ha:0<=a)(cb:a<=b)(hb:b<=8589934592){M:Y}(hM:M<=60)(hlen:b-a<=604800*M) :
  ∃out,j7C ((zs,(ps,(cs,ss))),zs.map tb) L a b=F out/\ca (a-1) out/\(∀t,bJ t out↔a<=t/\t<b/\gg zs cs L t=true)/\
   out.length<=L.2.2.2.2.2.2.1.length*(M+1)*5+1+(if L.2.2.2.2.2.2.2.2=0 then 0 else (gf cs L.2.2.2.2.2.2.2.1).2.2.length*5):=by
 have tU:=hL.rt2;have lE:(zs.map tb).length=zs.length:=kj ..;have hz:=gR hs.so.ok hL.z0 hL.z1;have hg:=Tw (zs:=zs) hL.z0 hL.z1;have iG:=hL.wl;have fw:(tb (aO zs L.2.1)).2.length<=4:=yE hz;obtain⟨v,ev,hv⟩:=rh hz.ztab.2 tU (k:=0) aa aa
 have pF:∀t,a<=t->t<b->(0<=ct (aO zs L.2.1) L t↔QO (aO zs L.2.1).2.1 (tb (aO zs L.2.1)).2 L t 0):=λt h1 h2=>by
  have hK:=(sa hz tU (t:=t) aa aa).2;constructor
  .intro hk;rcases hK with⟨hK,_⟩|⟨_,hq,_⟩
   .have:ct (aO zs L.2.1) L t = -1:=hK;omega
   .exact QO.le hz.ztab.2 tU hk hq
  .intro hq;rcases hK with⟨_,hn⟩|⟨hk,_,_⟩
   .exact absurd hq hn
   .exact hk
 have uZ:∀t,a<=t->t<b->¬QO (aO zs L.2.1).2.1 (tb (aO zs L.2.1)).2 L t 0->gg zs cs L t=false:=λt h1 h2 hq=>by
  unfold gg;rw[aj (λh=>hq ((pF t h1 h2).1 h))];rfl
 simp only[j7C];rw[bY hL.z0 (by rw[lE];exact hL.z1)];simp only[j6,hg];rw[show j0J ((tb (zs.getD L.2.1.toNat (B,((0:j),([]:E aL))))).1,(tb (zs.getD L.2.1.toNat (B,((0:j),([]:E aL))))).2) (L.1,L.2.1,(L.2.2.1.1,L.2.2.1.2),L.2.2.2.1,L.2.2.2.2.1,L.2.2.2.2.2.1,L.2.2.2.2.2.2.1,L.2.2.2.2.2.2.2.1,L.2.2.2.2.2.2.2.2) 0=_ from ev];simp only[j4]
 have qP:∀(P:∀t,a<=t->t<b->gg zs cs L t=false),∃out,F ([]:SL)=F out/\ca (a-1) out/\(∀t,bJ t out↔a<=t/\t<b/\gg zs cs L t=true)/\
   out.length<=L.2.2.2.2.2.2.1.length*(M+1)*5+1+(if L.2.2.2.2.2.2.2.2=0 then 0 else (gf cs L.2.2.2.2.2.2.2.1).2.2.length*5):=λP=>
  ⟨[],rfl,trivial,λt=>⟨λh=>absurd h fP,λ⟨h1,h2,h3⟩=>by rw[P t h1 h2]at h3;simp at h3⟩,kn _⟩
 cases hh:hO (zs.getD L.2.1.toNat (B,((0:j),([]:E aL)))).2.1 (tb (zs.getD L.2.1.toNat (B,((0:j),([]:E aL))))).2 L 0 with
 |none=>
  simp only[vu,ka,j6]
  exact qP λt h1 h2=>uZ t h1 h2 (by
   rintro⟨u,hu,_⟩
   have eZ:=hh.symm.trans hu;simp at eZ)
 |some u=>
  have:=hv u hh;subst this
  have hq:∀t,QO (aO zs L.2.1).2.1 (tb (aO zs L.2.1)).2 L t 0↔v<=t:=λt=>⟨λ⟨u,hu,Lz⟩=>by
   have eZ:=hh.symm.trans hu;simp only[j5]at eZ;omega,λh=>⟨v,hh,h⟩⟩
  simp only[va,jl,j7];by_cases IB:v>=b
  .rw[ah IB];simp only[j6];exact qP λt h1 h2=>uZ t h1 h2 (λh=>by have:=(hq t).1 h;omega)
  .rw[aj IB];simp only[j7];by_cases HP:a>=b
   .rw[ah HP];simp only[j6];exact qP λt h1 h2=>aa
   .rw[aj HP];simp only[j7];obtain⟨c,hc,hca,lI,xH,oz⟩:∃c:j,c=(if v>a then v else a)/\a<=c/\v<=c/\c<b/\∀t,a<=t->t<c->t<v:=⟨_,rfl,by split<;>omega,by split<;>omega,by split<;>omega,λt h1 h2=>by split at h2<;>omega⟩;rw[<-hc]
    obtain⟨A,TM,lT,TN,TO,Ϙ,hA6⟩:∃A:SL,((L.2.2.2.2.2.2.1.length:j)>0->j2j (tb (aO zs L.2.1)) L.2.2.2.2.2.2.1 c b=F A)/\(¬(L.2.2.2.2.2.2.1.length:j)>0->A=[(c,b)])/\ca (c-1) A/\
      (∀t,bJ t A->t<b)/\(∀t,c<=t->t<b->(bJ t A↔okW L.2.2.2.2.2.2.1 (fi (cL (aO zs L.2.1) t))=true))/\A.length<=L.2.2.2.2.2.2.1.length*(M+1)*5+1:=by
     by_cases hw:(L.2.2.2.2.2.2.1.length:j)>0
     .obtain⟨A,e,s1,s2,s3,s4⟩:=HN hz.ztab.2 (kr fw aa) hL.w iG hM (a:=c) (b:=b) aa aa hb aa;refine⟨A,λ_=>e,λh=>absurd hw h,s1,λt ⟨s,dt,h1,h2⟩=>by have:=(s2 s dt).2;omega,λt h1 h2=>?_,?_⟩
      .obtain⟨k,hk,k1,k2⟩:=pX hz.ztab.2 (t:=t) aa aa;rw[s4 k hk t h1 h2 k1 k2];have Ag:cL (aO zs L.2.1) t=((t+bk (aO zs L.2.1).2.1 (tb (aO zs L.2.1)).2 k)/86400,(t+bk (aO zs L.2.1).2.1 (tb (aO zs L.2.1)).2 k)%86400):=by unfold cL;rw[show j1y (tb (aO zs L.2.1)) t=_ from Da hz.ztab.2 hk k1 k2];rfl
       have o0:=hz.ztab.2.of0 k hk;have o1:=hz.ztab.2.of1 k hk;have kX:fi (cL (aO zs L.2.1) t)=(t+bk (aO zs L.2.1).2.1 (tb (aO zs L.2.1)).2 k+259200)%604800:=by rw[Ag];simp only[fi,C9];have o0' : -64800<=bk (aO zs L.2.1).2.1 (tb (aO zs L.2.1)).2 k:=o0;have o1':bk (aO zs L.2.1).2.1 (tb (aO zs L.2.1)).2 k<=64800:=o1;rw[Li _ aa];simp only[j4,v7];generalize bk (aO zs L.2.1).2.1 (tb (aO zs L.2.1)).2 k=o at *;rw[al (x:=((t+o)/86400+3)%7*86400),al];omega
       rw[kX];unfold okW;rw[ah hw];rfl
      .have:L.2.2.2.2.2.2.1.length*(M+1)*((tb (aO zs L.2.1)).2.length+1)<=L.2.2.2.2.2.2.1.length*(M+1)*5:=Nat.mul_le_mul_left _ aa;have s3':A.length<=L.2.2.2.2.2.2.1.length*(M+1)*((tb (aO zs L.2.1)).2.length+1):=s3;omega
     .refine⟨[(c,b)],λh=>absurd h hw,λ_=>rfl,⟨by dsimp only;omega,xH,trivial⟩,λt h=>?_,λt h1 h2=>?_,ae⟩
      .rcases dI.1 h with h|h
       .exact h.2
       .exact absurd h fP
      .unfold okW;rw[aj hw];exact⟨λ_=>rfl,λ_=>dI.2 (.inl ⟨h1,h2⟩)⟩
    have hA7:A.length<=30000:=by have:L.2.2.2.2.2.2.1.length*(M+1)<=14*61:=qi iG aa;omega
    have eJ:∀out:SL,ca (c-1) out->(∀t,bJ t out->t<b)->(∀t,c<=t->t<b->(bJ t out↔bJ t A/\jD zs cs L t=true))->ca (a-1) out/\∀t,bJ t out↔a<=t/\t<b/\gg zs cs L t=true:=λout h1 h2 h3=>by
     refine⟨h1.weak aa,λt=>⟨λhx=>?_,λ⟨g1,g2,g3⟩=>?_⟩⟩
     .have l1:=ca.low h1 hx;have l2:=h2 t hx;refine⟨aa,l2,?_⟩;have:=(h3 t aa l2).1 hx;unfold gg;rw[ah ((pF t aa l2).2 ((hq t).2 aa)),(Ϙ t aa l2).1 this.1,this.2];rfl
     .have hk:=Ly g3;have sV:=(hq t).1 ((pF t g1 g2).1 hk);have ϙ:c<=t:=by apply jt;intro hn;have:=oz t g1 aa;omega
      refine(h3 t ϙ g2).2 ⟨(Ϙ t ϙ g2).2 ?_,?_⟩
      .unfold gg at g3;rw[ah hk]at g3;revert g3;cases okW L.2.2.2.2.2.2.1 (fi (cL (aO zs L.2.1) t))<;>simp
      .unfold gg at g3;rw[ah hk]at g3;revert g3;cases okW L.2.2.2.2.2.2.1 (fi (cL (aO zs L.2.1) t))<;>simp
    by_cases hm:L.2.2.2.2.2.2.2.2=0
    .have cd:=eJ A TN TO (λt _ _=>by unfold jD;rw[dC hm];simp);rw[cj (show¬L.2.2.2.2.2.2.2.2=1 by omega),cj (show¬L.2.2.2.2.2.2.2.2=2 by omega),if_pos hm];simp only[j7];by_cases hw:(L.2.2.2.2.2.2.1.length:j)>0
     .rw[mV L.2.2.2.2.2.2.1,ah hw,j6,show j2j ((tb (zs.getD L.2.1.toNat (B,((0:j),([]:E aL))))).1,(tb (zs.getD L.2.1.toNat (B,((0:j),([]:E aL))))).2) L.2.2.2.2.2.2.1 c b=_ from TM hw];simp only[j4];exact⟨A,rfl,cd.1,cd.2,aa⟩
     .rw[mV L.2.2.2.2.2.2.1,aj hw,j7,<-lT hw];exact⟨A,rfl,cd.1,cd.2,aa⟩
    .have cN:=hL.cal hm;have hx:=pt hs cN.1 cN.2;have Cu:=gR hs.so.ok hx.z0 hx.z1;have BB:(tb (aO zs (gf cs L.2.2.2.2.2.2.2.1).2.1)).2.length<=4:=yE Cu;obtain⟨D,e2,d1,d2,d3⟩:=jFJ hs hx (ss:=ss) (a:=c) (b:=b) aa aa hb rfl
     have hDl:D.length<=(gf cs L.2.2.2.2.2.2.2.1).2.2.length*5:=kr d2 (Nat.mul_le_mul_left _ (by
      have:(tb (aO zs (gf cs L.2.2.2.2.2.2.2.1).2.1)).2.length+1<=5:=aa;exact this))
     have hDl2:D.length<=2000:=by have:=hx.len;have h64:(gf cs L.2.2.2.2.2.2.2.1).2.2.length<=64:=this;omega
     have Ϛ:∀t,c<=t->t<b->(bJ t D↔(cL (aO zs (gf cs L.2.2.2.2.2.2.2.1).2.1) t).1∈(gf cs L.2.2.2.2.2.2.2.1).2.2):=λt h1 h2=>d3 t _ h1 h2 (TL Cu aa aa).1;rw[if_neg hm,bY cN.1 cN.2];have HQ:L.2.2.2.2.2.2.2.2=1\/L.2.2.2.2.2.2.2.2=2:=by have:=hL.mode0;have:=hL.mode1;omega
     rcases HQ with fH|ik
     .obtain⟨out,e3,w1,w2,w3⟩:=TI aa TN d1 aa
      have cd:=eJ out w1 (λt h=>TO t ((w2 t).1 h).1) (λt h1 h2=>by
       rw[w2 t,Ϛ t h1 h2];unfold jD;rw[cj hm,cj (show¬L.2.2.2.2.2.2.2.2=2 by omega),j7];simp)
      rw[dC fH];simp only[j6];by_cases hw:(L.2.2.2.2.2.2.1.length:j)>0
      .rw[mV L.2.2.2.2.2.2.1,ah hw,j6,show j2j ((tb (zs.getD L.2.1.toNat (B,((0:j),([]:E aL))))).1,(tb (zs.getD L.2.1.toNat (B,((0:j),([]:E aL))))).2) L.2.2.2.2.2.2.1 c b=_ from TM hw];simp only[j4];refine⟨out,?_,cd.1,cd.2,aa⟩;rw[show j27 ((zs,(ps,(cs,ss))),zs.map tb) ((cs.getD L.2.2.2.2.2.2.2.1.toNat (B,((0:j),([]:E j)))).1,(cs.getD L.2.2.2.2.2.2.2.1.toNat (B,((0:j),([]:E j)))).2.1,(cs.getD L.2.2.2.2.2.2.2.1.toNat (B,((0:j),([]:E j)))).2.2) c b=_ from e2];simp only[j4,e3]
      .rw[mV L.2.2.2.2.2.2.1,aj hw,j7,<-lT hw];refine⟨out,?_,cd.1,cd.2,aa⟩;rw[show j27 ((zs,(ps,(cs,ss))),zs.map tb) ((cs.getD L.2.2.2.2.2.2.2.1.toNat (B,((0:j),([]:E j)))).1,(cs.getD L.2.2.2.2.2.2.2.1.toNat (B,((0:j),([]:E j)))).2.1,(cs.getD L.2.2.2.2.2.2.2.1.toNat (B,((0:j),([]:E j)))).2.2) c b=_ from e2];simp only[j4,e3]
     .obtain⟨out,e3,w1,w2,w3⟩:=ξ TN d1 aa aa
      have cd:=eJ out w1 (λt h=>TO t ((w2 t).1 h).1) (λt h1 h2=>by
       rw[w2 t,Ϛ t h1 h2];unfold jD;rw[cj hm,dC ik,j7];simp)
      rw[cj (show¬L.2.2.2.2.2.2.2.2=1 by omega),dC ik];simp only[j6,j7];by_cases hw:(L.2.2.2.2.2.2.1.length:j)>0
      .rw[mV L.2.2.2.2.2.2.1,ah hw,j6,show j2j ((tb (zs.getD L.2.1.toNat (B,((0:j),([]:E aL))))).1,(tb (zs.getD L.2.1.toNat (B,((0:j),([]:E aL))))).2) L.2.2.2.2.2.2.1 c b=_ from TM hw];simp only[j4];refine⟨out,?_,cd.1,cd.2,aa⟩;rw[show j27 ((zs,(ps,(cs,ss))),zs.map tb) ((cs.getD L.2.2.2.2.2.2.2.1.toNat (B,((0:j),([]:E j)))).1,(cs.getD L.2.2.2.2.2.2.2.1.toNat (B,((0:j),([]:E j)))).2.1,(cs.getD L.2.2.2.2.2.2.2.1.toNat (B,((0:j),([]:E j)))).2.2) c b=_ from e2];simp only[j4,e3]
      .rw[mV L.2.2.2.2.2.2.1,aj hw,j7,<-lT hw];refine⟨out,?_,cd.1,cd.2,aa⟩;rw[show j27 ((zs,(ps,(cs,ss))),zs.map tb) ((cs.getD L.2.2.2.2.2.2.2.1.toNat (B,((0:j),([]:E j)))).1,(cs.getD L.2.2.2.2.2.2.2.1.toNat (B,((0:j),([]:E j)))).2.1,(cs.getD L.2.2.2.2.2.2.2.1.toNat (B,((0:j),([]:E j)))).2.2) c b=_ from e2];simp only[j4,e3]
end
end Go.Proofs.Pw
