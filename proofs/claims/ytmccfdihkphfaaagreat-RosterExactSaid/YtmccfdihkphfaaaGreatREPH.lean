/- Segments that cover a range: their BV form is unique. -/
import Derived.Test.YtmccfdihkphfaaaGreatRELD
import Derived.Test.YtmccfdihkphfaaaGreatREPF
import Derived.Test.YtmccfdihkphfaaaGreatREPG
open _root_ renaming Int->j,List->E,Option->G,ByteArray->R,Nat->Z
open ByteArray renaming empty->B
open Option renaming some->F,none->O,some_or->X
open List renaming drop_of_length_le->H,getD->S
open Bool renaming true->J,false->Y
open Int renaming tmod->N,ofNat->U
noncomputable section
open Go Go.Lft
namespace Go.Proofs.Pw
abbrev lD:=j×(j×j)
abbrev bM:=E lD
def Ch(f:j->j)(b:j):j->bM->Prop
 |a,[]=>a=b
 |a,s::r=>s.1=a/\a<=s.2.1/\(∀t,a<=t->t<s.2.1->f t=s.2.2)/\Ch f b s.2.1 r
def fJ(f:j->j)(b:j):G j->j->bM->Prop
 |_,a,[]=>a=b
 |q,a,s::r=>s.1=a/\a<s.2.1/\q≠F s.2.2/\(∀t,a<=t->t<s.2.1->f t=s.2.2)/\fJ f b (F s.2.2) s.2.1 r
theorem Ch.le{f:j->j}{b:j}:∀{l:bM}{a:j},Ch f b a l->a<=b
 |[],_,h=>Int.le_of_eq h
 |_::_,_,h=>qs h.2.1 h.2.2.2.le
theorem Ch.app{f:j->j}{b c:j}:∀{l r:bM}{a:j},Ch f b a l->Ch f c b r->Ch f c a (l++r)
 |[],_,_,h,h'=>by have h:_=_:=h;subst h;exact h'
 |_::_,_,_,h,h'=>⟨h.1,h.2.1,h.2.2.1,h.2.2.2.app h'⟩
theorem Ch.snoc{f:j->j}{b c p:j}{l:bM}{a:j}(h:Ch f b a l)(xz:b<=c)(hp:∀t,b<=t->t<c->f t=p):Ch f c a (l++[(b,(c,p))]):=
 h.app ⟨rfl,xz,hp,rfl⟩
theorem fJ.ch{f:j->j}{b:j}:∀{l:bM}{q:G j}{a:j},fJ f b q a l->Ch f b a l
 |[],_,_,h=>h
 |_::_,_,_,h=>⟨h.1,Int.le_of_lt h.2.1,h.2.2.2.1,h.2.2.2.2.ch⟩
theorem fJ.uniq{f:j->j}{b:j}:∀{l l':bM}{q:G j}{a:j},fJ f b q a l->fJ f b q a l'->l=l'
 |[],[],_,_,_,_=>rfl
 |[],_::_,_,_,h,h'=>by have:=h'.2.1;have:=h'.2.2.2.2.ch.le;have h:_=_:=h;omega
 |_::_,[],_,_,h,h'=>by have:=h.2.1;have:=h.2.2.2.2.ch.le;have h':_=_:=h';omega
 |s::r,s'::r',q,a,h,h'=>by
  obtain⟨h1,h2,h3,h4,h5⟩:=h;obtain⟨g1,g2,g3,g4,g5⟩:=h';have hp:s.2.2=s'.2.2:=by rw[<-h4 a aa h2,<-g4 a aa g2]
  have ht:s.2.1=s'.2.1:=by
   apply ju;intro br;by_cases aq:s.2.1<s'.2.1
   .match r,h5 with
    |[],h5=>have:=g5.ch.le;have h5:_=_:=h5;omega
    |u::v,h5=>have e1:=h5.2.2.2.1 s.2.1 aa h5.2.1;have e2:=g4 s.2.1 aa aq;exact h5.2.2.1 (by rw[<-e1,e2,hp])
   .match r',g5 with
    |[],g5=>have:=h5.ch.le;have g5:_=_:=g5;omega
    |u::v,g5=>have e1:=g5.2.2.2.1 s'.2.1 aa g5.2.1;have e2:=h4 s'.2.1 aa aa;exact g5.2.2.1 (by rw[<-e1,e2,hp])
  have hs:s=s':=Prod.ext (by rw[h1,g1]) (Prod.ext ht hp);subst hs;rw[h5.uniq g5]
def lstP:G j->bM->G j
 |q,[]=>q
 |_,s::r=>lstP (F s.2.2) r
theorem I_:∀(l:bM)(q:G j)(s:lD),lstP q (l++[s])=F s.2.2
 |[],_,_=>rfl
 |_::r,_,s=>I_ r _ s
theorem fJ.snoc{f:j->j}{b c p:j}:∀{l:bM}{q:G j}{a:j},fJ f b q a l->b<c->lstP q l≠F p->(∀t,b<=t->t<c->f t=p)->fJ f c q a (l++[(b,(c,p))])
 |[],_,_,h,xz,hl,hp=>by have h:_=_:=h;subst h;exact⟨rfl,xz,hl,hp,rfl⟩
 |_::_,_,_,h,xz,hl,hp=>⟨h.1,h.2.1,h.2.2.1,h.2.2.2.1,h.2.2.2.2.snoc xz hl hp⟩
theorem fJ.ext{f:j->j}{b c x p:j}:∀{l:bM}{q:G j}{a:j},fJ f b q a (l++[(x,(b,p))])->b<=c->(∀t,b<=t->t<c->f t=p)->fJ f c q a (l++[(x,(c,p))])
 |[],_,_,h,xz,hp=>⟨h.1,by have:=h.2.1;dsimp only at this ⊢;omega,h.2.2.1,λt h1 h2=>by
  by_cases ht:t<b
  .exact h.2.2.2.1 t h1 ht
  .exact hp t aa h2,rfl⟩
 |_::_,_,_,h,xz,hp=>⟨h.1,h.2.1,h.2.2.1,h.2.2.2.1,h.2.2.2.2.ext xz hp⟩
def kW(out:bM)(s:lD):bM:=
 if s.2.1<=s.1 then out else match out.getLast? with
  |some x=>if x.2.1=s.1/\x.2.2=s.2.2 then out.dropLast++[(x.1,(s.2.1,x.2.2))] else out++[s]
  |none=>out++[s]
theorem J_{f:j->j}{a b:j}{out:bM}(h:fJ f b O a out){s:lD}(h1:s.1=b)(h2:b<=s.2.1)(h3:∀t,b<=t->t<s.2.1->f t=s.2.2):fJ f s.2.1 O a (kW out s):=by
 obtain⟨x,y,p⟩:=s;dsimp only at h1 h2 h3 ⊢;subst h1;unfold kW;dsimp only;by_cases jE:y<=x
 .rw[if_pos jE];have:y=x:=aa;subst this;exact h
 .rw[if_neg jE];rcases zp out with rfl|⟨l,u,rfl⟩
  .exact h.snoc aa (by simp[lstP]) h3
  .rw[zq]at h ⊢;rw[List.getLast?_append];simp only[ye,X];by_cases hu:u.2.1=x/\u.2.2=p
   .rw[if_pos hu,List.dropLast_concat];obtain⟨u1,u2,u3⟩:=u;dsimp only at hu ⊢;obtain⟨rfl,rfl⟩:=hu;exact h.ext h2 h3
   .rw[if_neg hu];refine h.snoc aa ?_ h3;rw[I_];intro e;have hp:u.2.2=p:=by simpa using e
    refine hu ⟨?_,hp⟩
    have:∀(l:bM)(q:G j)(a:j),fJ f x q a (l++[u])->u.2.1=x:=by
     intro l;induction l with
     |nil=>intro q a h;exact h.2.2.2.2
     |cons v r ih=>intro q a h;exact ih _ _ h.2.2.2.2
    exact this l _ _ h
theorem K_{f:j->j}{b:j}:∀(l:bM){a c:j}{out:bM},fJ f c O a out->Ch f b c l->fJ f b O a (l.foldl kW out)
 |[],_,_,_,h,h'=>by have h':_=_:=h';subst h';exact h
 |s::r,_,_,_,h,h'=>K_ r (J_ h h'.1 h'.2.1 h'.2.2.1) h'.2.2.2
theorem Ch.cov{f:j->j}{a b:j}{l:bM}(h:Ch f b a l):fJ f b O a (l.foldl kW []):=K_ l (show fJ f a O a [] from rfl) h
theorem L_{f:j->j}:∀{l:bM}{a b:j},a<=b->l.Pairwise (λs u=>s.2.1<=u.1)->(∀s∈l,s.1<s.2.1/\∀t,s.1<=t->t<s.2.1->f t=s.2.2)->
  (∀x,(a<=x/\x<b)↔∃s∈l,s.1<=x/\x<s.2.1)->Ch f b a l
 |[],a,b,cF,_,_,hc=>by
  apply ju;intro br;have br:a≠b:=br;obtain⟨s,hs,_⟩:=(hc a).1 ⟨k8 _,aa⟩;simp at hs
 |s::r,a,b,cF,hp,hf,hc=>by
  obtain⟨s1,s2⟩:=hf s ae;obtain⟨p1,p2⟩:=kf.1 hp;have h1:=(hc s.1).2 ⟨s,ae,k8 _,s1⟩;have h2:=(hc (s.2.1-1)).2 ⟨s,ae,aa,aa⟩
  have he:s.1=a:=by
   obtain⟨u,hu,u1,u2⟩:=(hc a).1 ⟨k8 _,aa⟩;rcases je.1 hu with rfl|hu
   .omega
   .have:=p1 u hu;omega
  refine⟨he,aa,λt t1 t2=>s2 t aa t2,L_ aa p2 (λu hu=>hf u (by simp[hu])) (λx=>⟨λhx=>?_,λ⟨u,hu,u1,u2⟩=>?_⟩)⟩
  .obtain⟨u,hu,u1,u2⟩:=(hc x).1 ⟨aa,hx.2⟩;rcases je.1 hu with rfl|hu
   .omega
   .exact⟨u,hu,u1,u2⟩
  .have:=p1 u hu;have:=(hc x).2 ⟨u,by simp[hu],u1,u2⟩;omega
theorem Ch.mem{f:j->j}{b:j}:∀{l:bM}{a:j},Ch f b a l->∀s∈l,a<=s.1/\s.1<=s.2.1/\s.2.1<=b/\∀t,s.1<=t->t<s.2.1->f t=s.2.2
 |[],_,_,s,hs=>by simp at hs
 |u::r,a,h,s,hs=>by
  obtain⟨h1,h2,h3,h4⟩:=h;rcases je.1 hs with rfl|hs
  .exact⟨aa,aa,h4.le,λt t1 t2=>h3 t aa t2⟩
  .have:=h4.mem s hs;exact⟨aa,this.2.1,this.2.2.1,this.2.2.2⟩
theorem Ch.has{f:j->j}{b:j}:∀{l:bM}{a:j},Ch f b a l->∀x,a<=x->x<b->∃s∈l,s.1<=x/\x<s.2.1
 |[],_,h,x,h1,h2=>by have h:_=_:=h;omega
 |u::r,a,h,x,h1,h2=>by
  obtain⟨g1,g2,g3,g4⟩:=h;by_cases hx:x<u.2.1
  .exact⟨u,ae,aa,hx⟩
  .obtain⟨s,hs,e⟩:=g4.has x aa h2;exact⟨s,by simp[hs],e⟩
theorem Ch.congr{f g:j->j}{b:j}:∀{l:bM}{a:j},Ch f b a l->(∀t,a<=t->t<b->f t=g t)->Ch g b a l
 |[],_,h,_=>h
 |u::r,a,h,hg=>by
  obtain⟨g1,g2,g3,g4⟩:=h;have:=g4.le;exact⟨g1,g2,λt t1 t2=>by rw[<-hg t t1 aa];exact g3 t t1 t2,g4.congr (λt t1 t2=>hg t aa t2)⟩
theorem fJ.pos{f:j->j}{b:j}:∀{l:bM}{q:G j}{a:j},fJ f b q a l->∀s∈l,s.1<s.2.1
 |[],_,_,_,s,hs=>by simp at hs
 |u::r,_,a,h,s,hs=>by
  rcases je.1 hs with rfl|hs
  .have:=h.1;have:=h.2.1;omega
  .exact h.2.2.2.2.pos s hs
def pX(p:j×(j×j))(d:j):j×Int:=
 (if d*86400-p.2.2>p.1 then d*86400-p.2.2 else p.1,if d*86400-p.2.2+86400<p.2.1 then d*86400-p.2.2+86400 else p.2.1)
theorem M_{ds:E j}(hd:∀d∈ds,0<=d/\d<=100000)(hl:ds.length<=64){p:j×(j×j)}(hp : -64800<=p.2.2/\p.2.2<=64800){m q z:j}{nm:R}{ps:E (j×(j×j))}:∀(n i:Z)(acc:SL),i+n=ds.length->acc.length+n<=1000000->
  Fe m q ds (ds.length:j) (i:j) nm z ds p.1 p.2.1 p.2.2 acc ps=F (m,q,nm,z,ds,acc++(ds.drop i).map (pX p),ps)
 |0,i,acc,hi,_=>by
  rw[XP];simp only[j36];rw[an aa,j7,aW,H aa];simp
 |n+1,i,acc,hi,dJ=>by
  have bY:i<ds.length:=aa;have bc:ds.getD i (0:j)=ds[i]:=by simp[bY]
  have N_:=hd _ (jl bY);rw[XP];simp only[j36];rw[ag aa,bE];simp only[j6,j8,bc];rw[ar (x:=ds[i]*86400),ar (x:=ds[i]*86400-p.2.2),ar (x:=ds[i]*86400-p.2.2+86400),ar (x:=(i:j)+1),ag (by simp[aG];omega),jb bY];simp only[j6,aS,kj];have:=M_ hd hl hp (m:=m) (q:=q) (z:=z) (nm:=nm) (ps:=ps) n (i+1) (acc++[pX p ds[i]]) aa az;rw[jg]at this;exact this
theorem O_{ds:E j}(hd:∀d∈ds,0<=d/\d<=100000)(hl:ds.length<=64){z:j}{nm:R}{ps:E (j×(j×j))}(ib:∀p∈ps, -64800<=p.2.2/\p.2.2<=64800)(fH:ps.length<=100):∀(n i:Z)(acc:SL),i+n=ps.length->acc.length<=64*i->
  Ff (ps.length:j) (i:j) nm z ds acc ps=F (acc++(ps.drop i).flatMap λp=>ds.map (pX p))
 |0,i,acc,hi,_=>by
  rw[XQ];simp only[j37];rw[an aa,j7,aW,H aa];simp
 |n+1,i,acc,hi,dJ=>by
  have bY:i<ps.length:=aa;have bc:ps.getD i ((0:j),((0:j),(0:j)))=ps[i]:=by simp[S,bY]
  have h2:=M_ hd hl (ib _ (jl bY)) (m:=(ps.length:j)) (q:=(i:j)) (z:=z) (nm:=nm) (ps:=ps) ds.length 0 acc aa aa;have ih:=O_ hd hl (z:=z) (nm:=nm) ib fH n (i+1) (acc++ds.map (pX ps[i])) aa az;rw[XQ];simp only[j37];rw[ag aa,bE];simp only[j6,j8,bc,show U ds.length=(ds.length:j) from rfl];rw[show Fe (ps.length:j) (i:j) ds (ds.length:j) 0 nm z ds ps[i].1 ps[i].2.1 ps[i].2.2 acc ps=_ from h2];simp only[j4,jk];rw[ar (x:=(i:j)+1),aS,jb bY,qu,<-jg];exact ih
theorem P_{α β:Type}(f:α->E β)(k:Z)(hf:∀a,(f a).length=k):∀l:E α,(l.flatMap f).length=l.length*k
 |[]=>ae
 |a::l=>by rw[qu,List.length_append,P_ f k hf l,hf,ji,Nat.add_mul,Nat.one_mul];omega
theorem Q_{p:j×(j×j)}{d x:j}:((pX p d).1<=x/\x<(pX p d).2)↔(p.1<=x/\x<p.2.1)/\(x+p.2.2)/86400=d:=by
 simp only[pX];constructor
 .intro h;split at h<;>split at h<;>omega
 .intro h;split<;>split<;>omega
section
variable{zs:E bH}{ps:E dr}{cs:E bd}(hs:lz zs ps cs)
include hs
theorem jEh{x:bd}(hx:qP zs.length x){ss:E cN}{a b:j}(ha:0<=a)(cF:a<=b)(hb:b<=8589934592){z:bH}(hz:zs.getD x.2.1.toNat (B,((0:j),([]:E aL)))=z) :
  ∃out,j2g ((zs,(ps,(cs,ss))),zs.map tb) x a b=F out/\bX (a-1) out/\out.length<=x.2.2.length*((tb z).2.length+1)/\
   ∀t d,a<=t->t<b->j0p (tb z) t=F d->(bJ t out↔d.1∈x.2.2):=by
 have hlen:(zs.map tb).length=zs.length:=kc ..;have hg:=Gm (zs:=zs) hx.z0 hx.z1;have Si:=gm hs.ok hx.z0 hx.z1;rw[hz]at hg Si;have ht:=Si.ztab.2;have ix:(tb z).2.length<=20:=jEd Si;obtain⟨pc,e,pl,pm,Sj⟩:=r_ ht ha cF hb;have oJ:=hx.len;have hd:∀d∈x.2.2,0<=d/\d<=100000:=λd hd=>⟨jFy (hx.day d hd),jFx (hx.day d hd)⟩
 have pK:∀p∈pc, -64800<=p.2.2/\p.2.2<=64800:=λp hp=>by
  obtain⟨_,_,_,i,i1,i2,_⟩:=pm p hp;have:=ht.of0 i i1;have:=ht.of1 i i1;omega
 have l0:=O_ hd oJ (z:=x.2.1) (nm:=x.1) pK aa pc.length 0 [] aa ae;rw[jw,jk]at l0;have v_:(pc.flatMap λp=>x.2.2.map (pX p)).length=pc.length*x.2.2.length:=P_ _ _ (λp=>kc ..) pc;have hm:pc.length*x.2.2.length<=((tb z).2.length+1)*x.2.2.length:=ka _ pl;have ie:((tb z).2.length+1)*x.2.2.length<=21*64:=qm aa oJ
 have iN:∀s∈(pc.flatMap λp=>x.2.2.map (pX p)),∃p∈pc,∃d∈x.2.2,s=pX p d:=λs h=>by
  obtain⟨p,hp,h⟩:=q8.1 h;obtain⟨d,hd,rfl⟩:=jx.1 h;exact⟨p,hp,d,hd,rfl⟩
 obtain⟨out,e2,s1,s2,s3,s4⟩:=Gq (l:=pc.flatMap λp=>x.2.2.map (pX p)) aa (λs h=>by
  obtain⟨p,hp,d,CP,rfl⟩:=iN s h;obtain⟨h1,h2,h3,_⟩:=pm p hp;have:=pK p hp;have:=hd d CP;simp only[pX];refine⟨?_,?_,?_,?_⟩<;>split<;>omega) (lo:=a) (hi:=b) (λs h aq=>by
  obtain⟨p,hp,d,CP,rfl⟩:=iN s h;obtain⟨h1,h2,h3,_⟩:=pm p hp;simp only[pX]at aq ⊢;refine⟨?_,?_⟩<;>split<;>omega)
 refine⟨out,?_,s1,by rw[Nat.mul_comm];omega,λt d h1 h2 nP=>?_⟩
 .simp only[j2g];rw[bU hx.z0 (by rw[hlen];exact hx.z1)];simp only[j6,hg,show j1X ((tb z).1,(tb z).2) a b=_ from e,j4,show U pc.length=(pc.length:j) from rfl];rw[show Ff (pc.length:j) 0 x.1 x.2.1 x.2.2 [] pc=_ from l0];simp only[j4,e2]
 .obtain⟨k,hk,k1,k2⟩:=tI ht (t:=t) aa aa;have:=CE ht hk k1 k2;have R_:=nP.symm.trans this;simp only[j5]at R_;subst R_;dsimp only;rw[s2 t];constructor
  .rintro⟨s,eE,h3,h4⟩
   obtain⟨p,hp,d,CP,rfl⟩:=iN s eE;obtain⟨c1,c2⟩:=Q_.1 ⟨h3,h4⟩;obtain⟨_,_,_,i,i1,i2,i3,i4⟩:=pm p hp;have:i=k:=KE ht i1 hk (t:=t) aa aa k1 k2;subst this;rw[<-i2,c2];exact CP
  .intro CP;obtain⟨p,hp,c1,c2⟩:=Sj t h1 h2;obtain⟨_,_,_,i,i1,i2,i3,i4⟩:=pm p hp;have:i=k:=KE ht i1 hk (t:=t) aa aa k1 k2;subst this;obtain⟨g1,g2⟩:=Q_.2 ⟨⟨c1,c2⟩,show (t+p.2.2)/86400=(t+bm z.2.1 (tb z).2 i)/86400 by rw[i2]⟩;exact⟨_,q8.2 ⟨p,hp,jx.2 ⟨_,CP,rfl⟩⟩,g1,g2⟩
omit hs in
def aP(zs:E bH)(i:j):bH:=zs.getD i.toNat (B,((0:j),([]:E aL)))
omit hs in
def gn(cs:E bd)(i:j):bd:=cs.getD i.toNat (B,((0:j),([]:E j)))
omit hs in
def cD(z:bH)(t:j):j×Int:=(j0p (tb z) t).getD (0,0)
omit hs in
def fo(d:j×j):Int:=(j3p d).getD 0
omit hs in
def bV(z:bH)(L:bA)(t:j):Int:=(j2o (tb z) L t).getD (-1)
omit hs in
def gK(zs:E bH)(cs:E bd)(L:bA)(t:j):Bool:=
 cond (L.2.2.2.2.2.2.2.2==0) J (decide ((cD (aP zs (gn cs L.2.2.2.2.2.2.2.1).2.1) t).1∈(gn cs L.2.2.2.2.2.2.2.1).2.2)==(L.2.2.2.2.2.2.2.2==(2:j)))
omit hs in
def fy(zs:E bH)(cs:E bd)(L:bA)(t:j):Bool:=
 cond (decide (0<=bV (aP zs L.2.1) L t)) (cond (okW L.2.2.2.2.2.2.1 (fo (cD (aP zs L.2.1) t))) (gK zs cs L t) Y) Y
omit hs in
def cA(zs:E bH)(cs:E bd)(L:bA)(t:j):Int:=cond (fy zs cs L t) (ox L (bV (aP zs L.2.1) L t)) (-1)
omit hs in
theorem Gv{z:bH}(hz:gj z){t:j}(h0:0<=t)(h1:t<=8589934592):j0p (tb z) t=F (cD z t)/\j3p (cD z t)=F (fo (cD z t)):=by
 obtain⟨d,s,hd,iV⟩:=jFC hz h0 h1;have:cD z t=d:=by simp[cD,hd]
 rw[this];exact⟨hd,by simp[fo,iV]⟩
omit hs in
theorem pY{z:bH}(hz:gj z){L:bA}(hR:Rt L){t:j}(h0:0<=t)(h1:t<=8589934592):j2o (tb z) L t=F (bV z L t)/\kV z.2.1 (tb z).2 L t (bV z L t):=by
 obtain⟨K,e,hK⟩:=jGH hz.ztab.2 hR h0 h1;have:bV z L t=K:=by simp only[bV,show j2o (tb z) L t=_ from e,z6]
 rw[this];exact⟨e,hK⟩
omit hs in
theorem KS{L:bA}{t:j}(h:fy zs cs L t=J):0<=bV (aP zs L.2.1) L t:=by
 by_cases hk:0<=bV (aP zs L.2.1) L t
 .exact hk
 .unfold fy at h;rw[an hk]at h;simp at h
theorem jGL{L:bA}(hL:iw zs.length ps.length cs.length L){ss:E cN}{t:j}(h0:0<=t)(h1:t<=8589934592) :
  (∃r,j7q ((zs,(ps,(cs,ss))),zs.map tb) L t=F (r,fy zs cs L t))/\j2Z ((zs,(ps,(cs,ss))),zs.map tb) L t=F (cA zs cs L t)/\(fy zs cs L t=J->0<=bV (aP zs L.2.1) L t):=by
 have nH:=hL.rt2;have hz:=gm hs.ok hL.z0 hL.z1;obtain⟨hd,iV⟩:=Gv hz h0 h1;obtain⟨eK,hK⟩:=pY hz nH h0 h1
 have iO:fy zs cs L t=J->0<=bV (aP zs L.2.1) L t:=λh=>by
  by_cases hk:0<=bV (aP zs L.2.1) L t
  .exact hk
  .unfold fy at h;rw[an hk]at h;simp at h
 obtain⟨r,er,hr⟩:=jFB (ps:=ps) (ss:=ss) hs.ok hL nH h0 h1 rfl hd iV eK (gK zs cs L t) (λh=>by unfold gK;rw[dI h];rfl) (λh=>⟨_,rfl,ml hs (hL.cal h).1 (hL.cal h).2,_,(Gv (gm hs.ok (ml hs (hL.cal h).1 (hL.cal h).2).z0 (ml hs (hL.cal h).1 (hL.cal h).2).z1) h0 h1).1,by
  unfold gK;rw[cG h];rfl⟩)
 exact⟨⟨r,er⟩,jBZ hL.m0 er hr iO,iO⟩
omit hs in
theorem jEi{L:bA}(hL:iw zs.length ps.length cs.length L){t:j}(_h0:0<=t)(_h1:t<=8589934592):(fy zs cs L t=J↔0<=cA zs cs L t) /\ -1<=cA zs cs L t/\cA zs cs L t<ps.length:=by
 have iO:fy zs cs L t=J->0<=bV (aP zs L.2.1) L t:=KS;unfold cA;cases hc:fy zs cs L t with
 |false=>simp;omega
 |true=>
  have hk:=iO hc;have pU:=hL.m0;have q1:0<=N (bV (aP zs L.2.1) L t) (L.2.2.2.2.2.1.length:j):=vr _ hk;have q2:N (bV (aP zs L.2.1) L t) (L.2.2.2.2.2.1.length:j)<(L.2.2.2.2.2.1.length:j):=zk _ aa;have hi:(N (bV (aP zs L.2.1) L t) (L.2.2.2.2.2.1.length:j)).toNat<L.2.2.2.2.2.1.length:=aa;have e:ox L (bV (aP zs L.2.1) L t)=L.2.2.2.2.2.1[(N (bV (aP zs L.2.1) L t) (L.2.2.2.2.2.1.length:j)).toNat]:=by simp[ox,S,hi]
  rw[j6,e];have:=hL.mem _ (jl hi);exact⟨⟨λ_=>this.1,λ_=>rfl⟩,aa,this.2⟩
theorem jAh{L:bA}(hL:iw zs.length ps.length cs.length L){ss:E cN}{a b:j}(ha:0<=a)(cF:a<=b)(hb:b<=8589934592){M:Z}(hM:M<=60)(hlen:b-a<=604800*M) :
  ∃out,j7n ((zs,(ps,(cs,ss))),zs.map tb) L a b=F out/\bX (a-1) out/\(∀t,bJ t out↔a<=t/\t<b/\fy zs cs L t=J)/\
   out.length<=L.2.2.2.2.2.2.1.length*(M+1)*5+1+(if L.2.2.2.2.2.2.2.2=0 then 0 else (gn cs L.2.2.2.2.2.2.2.1).2.2.length*5):=by
 have nH:=hL.rt2;have fE:(zs.map tb).length=zs.length:=kc ..;have hz:=gm hs.ok hL.z0 hL.z1;have hg:=Gm (zs:=zs) hL.z0 hL.z1;have uQ:=hL.wl;have ix:(tb (aP zs L.2.1)).2.length<=4:=AG hz;obtain⟨v,ev,hv⟩:=pT hz.ztab.2 nH (k:=0) aa aa
 have oH:∀t,a<=t->t<b->(0<=bV (aP zs L.2.1) L t↔QO (aP zs L.2.1).2.1 (tb (aP zs L.2.1)).2 L t 0):=λt h1 h2=>by
  have hK:=(pY hz nH (t:=t) aa aa).2;constructor
  .intro hk;rcases hK with⟨hK,_⟩|⟨_,hq,_⟩
   .have:bV (aP zs L.2.1) L t = -1:=hK;omega
   .exact QO.le hz.ztab.2 nH hk hq
  .intro hq;rcases hK with⟨_,hn⟩|⟨hk,_,_⟩
   .exact absurd hq hn
   .exact hk
 have uc:∀t,a<=t->t<b->¬QO (aP zs L.2.1).2.1 (tb (aP zs L.2.1)).2 L t 0->fy zs cs L t=false:=λt h1 h2 hq=>by
  unfold fy;rw[an (λh=>hq ((oH t h1 h2).1 h))];rfl
 simp only[j7n];rw[bU hL.z0 (by rw[fE];exact hL.z1)];simp only[j6,hg];rw[show j0V ((tb (zs.getD L.2.1.toNat (B,((0:j),([]:E aL))))).1,(tb (zs.getD L.2.1.toNat (B,((0:j),([]:E aL))))).2) (L.1,L.2.1,(L.2.2.1.1,L.2.2.1.2),L.2.2.2.1,L.2.2.2.2.1,L.2.2.2.2.2.1,L.2.2.2.2.2.2.1,L.2.2.2.2.2.2.2.1,L.2.2.2.2.2.2.2.2) 0=_ from ev];simp only[j4]
 have pE:∀(P:∀t,a<=t->t<b->fy zs cs L t=Y),∃out,F ([]:SL)=F out/\bX (a-1) out/\(∀t,bJ t out↔a<=t/\t<b/\fy zs cs L t=J)/\
   out.length<=L.2.2.2.2.2.2.1.length*(M+1)*5+1+(if L.2.2.2.2.2.2.2.2=0 then 0 else (gn cs L.2.2.2.2.2.2.2.1).2.2.length*5):=λP=>
  ⟨[],rfl,trivial,λt=>⟨λh=>absurd h fU,λ⟨h1,h2,h3⟩=>by rw[P t h1 h2]at h3;simp at h3⟩,k7 _⟩
 cases hh:hO (zs.getD L.2.1.toNat (B,((0:j),([]:E aL)))).2.1 (tb (zs.getD L.2.1.toNat (B,((0:j),([]:E aL))))).2 L 0 with
 |none=>
  simp only[zm,jp,j6]
  exact pE λt h1 h2=>uc t h1 h2 (by
   rintro⟨u,hu,_⟩
   have eb:=hh.symm.trans hu;simp at eb)
 |some u=>
  have:=hv u hh;subst this
  have hq:∀t,QO (aP zs L.2.1).2.1 (tb (aP zs L.2.1)).2 L t 0↔v<=t:=λt=>⟨λ⟨u,hu,hut⟩=>by
   have eb:=hh.symm.trans hu;simp only[j5]at eb;omega,λh=>⟨v,hh,h⟩⟩
  simp only[za,jc,j7];by_cases Hf:v>=b
  .rw[ag Hf];simp only[j6];exact pE λt h1 h2=>uc t h1 h2 (λh=>by have:=(hq t).1 h;omega)
  .rw[an Hf];simp only[j7];by_cases Gw:a>=b
   .rw[ag Gw];simp only[j6];exact pE λt h1 h2=>aa
   .rw[an Gw];simp only[j7];obtain⟨c,hc,hca,lY,M8,kC⟩:∃c:j,c=(if v>a then v else a)/\a<=c/\v<=c/\c<b/\∀t,a<=t->t<c->t<v:=⟨_,rfl,by split<;>omega,by split<;>omega,by split<;>omega,λt h1 h2=>by split at h2<;>omega⟩;rw[<-hc]
    obtain⟨A,Sk,sN,Sl,Sn,S_,hA6⟩:∃A:SL,((L.2.2.2.2.2.2.1.length:j)>0->j6b (tb (aP zs L.2.1)) L.2.2.2.2.2.2.1 c b=F A)/\(¬(L.2.2.2.2.2.2.1.length:j)>0->A=[(c,b)])/\bX (c-1) A/\
      (∀t,bJ t A->t<b)/\(∀t,c<=t->t<b->(bJ t A↔okW L.2.2.2.2.2.2.1 (fo (cD (aP zs L.2.1) t))=J))/\A.length<=L.2.2.2.2.2.2.1.length*(M+1)*5+1:=by
     by_cases hw:(L.2.2.2.2.2.2.1.length:j)>0
     .obtain⟨A,e,s1,s2,s3,s4⟩:=jxK hz.ztab.2 (ko ix aa) hL.w uQ hM (a:=c) (b:=b) aa aa hb aa;refine⟨A,λ_=>e,λh=>absurd hw h,s1,λt ⟨s,eE,h1,h2⟩=>by have:=(s2 s eE).2;omega,λt h1 h2=>?_,?_⟩
      .obtain⟨k,hk,k1,k2⟩:=tI hz.ztab.2 (t:=t) aa aa;rw[s4 k hk t h1 h2 k1 k2];have yJ:cD (aP zs L.2.1) t=((t+bm (aP zs L.2.1).2.1 (tb (aP zs L.2.1)).2 k)/86400,(t+bm (aP zs L.2.1).2.1 (tb (aP zs L.2.1)).2 k)%86400):=by unfold cD;rw[show j0p (tb (aP zs L.2.1)) t=_ from CE hz.ztab.2 hk k1 k2];rfl
       have o0:=hz.ztab.2.of0 k hk;have o1:=hz.ztab.2.of1 k hk;have kU:fo (cD (aP zs L.2.1) t)=(t+bm (aP zs L.2.1).2.1 (tb (aP zs L.2.1)).2 k+259200)%604800:=by rw[yJ];simp only[fo,j3p];have o0' : -64800<=bm (aP zs L.2.1).2.1 (tb (aP zs L.2.1)).2 k:=o0;have o1':bm (aP zs L.2.1).2.1 (tb (aP zs L.2.1)).2 k<=64800:=o1;rw[Kz _ aa];simp only[j4,z6];generalize bm (aP zs L.2.1).2.1 (tb (aP zs L.2.1)).2 k=o at *;rw[ar (x:=((t+o)/86400+3)%7*86400),ar];omega
       rw[kU];unfold okW;rw[ag hw];rfl
      .have:L.2.2.2.2.2.2.1.length*(M+1)*((tb (aP zs L.2.1)).2.length+1)<=L.2.2.2.2.2.2.1.length*(M+1)*5:=Nat.mul_le_mul_left _ aa;have s3':A.length<=L.2.2.2.2.2.2.1.length*(M+1)*((tb (aP zs L.2.1)).2.length+1):=s3;omega
     .refine⟨[(c,b)],λh=>absurd h hw,λ_=>rfl,⟨by dsimp only;omega,M8,trivial⟩,λt h=>?_,λt h1 h2=>?_,ae⟩
      .rcases dC.1 h with h|h
       .exact h.2
       .exact absurd h fU
      .unfold okW;rw[an hw];exact⟨λ_=>rfl,λ_=>dC.2 (.inl ⟨h1,h2⟩)⟩
    have hA7:A.length<=30000:=by have:L.2.2.2.2.2.2.1.length*(M+1)<=14*61:=qm uQ aa;omega
    have dP:∀out:SL,bX (c-1) out->(∀t,bJ t out->t<b)->(∀t,c<=t->t<b->(bJ t out↔bJ t A/\gK zs cs L t=J))->bX (a-1) out/\∀t,bJ t out↔a<=t/\t<b/\fy zs cs L t=true:=λout h1 h2 h3=>by
     refine⟨h1.weak aa,λt=>⟨λhx=>?_,λ⟨g1,g2,g3⟩=>?_⟩⟩
     .have l1:=bX.low h1 hx;have l2:=h2 t hx;refine⟨aa,l2,?_⟩;have:=(h3 t aa l2).1 hx;unfold fy;rw[ag ((oH t aa l2).2 ((hq t).2 aa)),(S_ t aa l2).1 this.1,this.2];rfl
     .have hk:=KS g3;have uH:=(hq t).1 ((oH t g1 g2).1 hk);have T_:c<=t:=by apply ju;intro hn;have:=kC t g1 aa;omega
      refine(h3 t T_ g2).2 ⟨(S_ t T_ g2).2 ?_,?_⟩
      .unfold fy at g3;rw[ag hk]at g3;revert g3;cases okW L.2.2.2.2.2.2.1 (fo (cD (aP zs L.2.1) t))<;>simp
      .unfold fy at g3;rw[ag hk]at g3;revert g3;cases okW L.2.2.2.2.2.2.1 (fo (cD (aP zs L.2.1) t))<;>simp
    by_cases hm:L.2.2.2.2.2.2.2.2=0
    .have cL:=dP A Sl Sn (λt _ _=>by unfold gK;rw[dI hm];simp);rw[cG (show¬L.2.2.2.2.2.2.2.2=1 by omega),cG (show¬L.2.2.2.2.2.2.2.2=2 by omega),if_pos hm];simp only[j7];by_cases hw:(L.2.2.2.2.2.2.1.length:j)>0
     .rw[lG L.2.2.2.2.2.2.1,ag hw,j6,show j6b ((tb (zs.getD L.2.1.toNat (B,((0:j),([]:E aL))))).1,(tb (zs.getD L.2.1.toNat (B,((0:j),([]:E aL))))).2) L.2.2.2.2.2.2.1 c b=_ from Sk hw];simp only[j4];exact⟨A,rfl,cL.1,cL.2,aa⟩
     .rw[lG L.2.2.2.2.2.2.1,an hw,j7,<-sN hw];exact⟨A,rfl,cL.1,cL.2,aa⟩
    .have cH:=hL.cal hm;have hx:=ml hs cH.1 cH.2;have BL:=gm hs.ok hx.z0 hx.z1;have hll2:(tb (aP zs (gn cs L.2.2.2.2.2.2.2.1).2.1)).2.length<=4:=AG BL;obtain⟨D,e2,d1,d2,d3⟩:=jEh hs hx (ss:=ss) (a:=c) (b:=b) aa aa hb rfl
     have hDl:D.length<=(gn cs L.2.2.2.2.2.2.2.1).2.2.length*5:=ko d2 (Nat.mul_le_mul_left _ (by
      have:(tb (aP zs (gn cs L.2.2.2.2.2.2.2.1).2.1)).2.length+1<=5:=aa;exact this))
     have hDl2:D.length<=2000:=by have:=hx.len;have AJ:(gn cs L.2.2.2.2.2.2.2.1).2.2.length<=64:=this;omega
     have U_:∀t,c<=t->t<b->(bJ t D↔(cD (aP zs (gn cs L.2.2.2.2.2.2.2.1).2.1) t).1∈(gn cs L.2.2.2.2.2.2.2.1).2.2):=λt h1 h2=>d3 t _ h1 h2 (Gv BL aa aa).1;rw[if_neg hm,bU cH.1 cH.2];have Gx:L.2.2.2.2.2.2.2.2=1\/L.2.2.2.2.2.2.2.2=2:=by have:=hL.mode0;have:=hL.mode1;omega
     rcases Gx with ic|ie
     .obtain⟨out,e3,w1,w2,w3⟩:=Sh aa Sl d1 aa
      have cL:=dP out w1 (λt h=>Sn t ((w2 t).1 h).1) (λt h1 h2=>by
       rw[w2 t,U_ t h1 h2];unfold gK;rw[cG hm,cG (show¬L.2.2.2.2.2.2.2.2=2 by omega),j7];simp)
      rw[dI ic];simp only[j6];by_cases hw:(L.2.2.2.2.2.2.1.length:j)>0
      .rw[lG L.2.2.2.2.2.2.1,ag hw,j6,show j6b ((tb (zs.getD L.2.1.toNat (B,((0:j),([]:E aL))))).1,(tb (zs.getD L.2.1.toNat (B,((0:j),([]:E aL))))).2) L.2.2.2.2.2.2.1 c b=_ from Sk hw];simp only[j4];refine⟨out,?_,cL.1,cL.2,aa⟩;rw[show j2g ((zs,(ps,(cs,ss))),zs.map tb) ((cs.getD L.2.2.2.2.2.2.2.1.toNat (B,((0:j),([]:E j)))).1,(cs.getD L.2.2.2.2.2.2.2.1.toNat (B,((0:j),([]:E j)))).2.1,(cs.getD L.2.2.2.2.2.2.2.1.toNat (B,((0:j),([]:E j)))).2.2) c b=_ from e2];simp only[j4,e3]
      .rw[lG L.2.2.2.2.2.2.1,an hw,j7,<-sN hw];refine⟨out,?_,cL.1,cL.2,aa⟩;rw[show j2g ((zs,(ps,(cs,ss))),zs.map tb) ((cs.getD L.2.2.2.2.2.2.2.1.toNat (B,((0:j),([]:E j)))).1,(cs.getD L.2.2.2.2.2.2.2.1.toNat (B,((0:j),([]:E j)))).2.1,(cs.getD L.2.2.2.2.2.2.2.1.toNat (B,((0:j),([]:E j)))).2.2) c b=_ from e2];simp only[j4,e3]
     .obtain⟨out,e3,w1,w2,w3⟩:=jAf Sl d1 aa aa
      have cL:=dP out w1 (λt h=>Sn t ((w2 t).1 h).1) (λt h1 h2=>by
       rw[w2 t,U_ t h1 h2];unfold gK;rw[cG hm,dI ie,j7];simp)
      rw[cG (show¬L.2.2.2.2.2.2.2.2=1 by omega),dI ie];simp only[j6,j7];by_cases hw:(L.2.2.2.2.2.2.1.length:j)>0
      .rw[lG L.2.2.2.2.2.2.1,ag hw,j6,show j6b ((tb (zs.getD L.2.1.toNat (B,((0:j),([]:E aL))))).1,(tb (zs.getD L.2.1.toNat (B,((0:j),([]:E aL))))).2) L.2.2.2.2.2.2.1 c b=_ from Sk hw];simp only[j4];refine⟨out,?_,cL.1,cL.2,aa⟩;rw[show j2g ((zs,(ps,(cs,ss))),zs.map tb) ((cs.getD L.2.2.2.2.2.2.2.1.toNat (B,((0:j),([]:E j)))).1,(cs.getD L.2.2.2.2.2.2.2.1.toNat (B,((0:j),([]:E j)))).2.1,(cs.getD L.2.2.2.2.2.2.2.1.toNat (B,((0:j),([]:E j)))).2.2) c b=_ from e2];simp only[j4,e3]
      .rw[lG L.2.2.2.2.2.2.1,an hw,j7,<-sN hw];refine⟨out,?_,cL.1,cL.2,aa⟩;rw[show j2g ((zs,(ps,(cs,ss))),zs.map tb) ((cs.getD L.2.2.2.2.2.2.2.1.toNat (B,((0:j),([]:E j)))).1,(cs.getD L.2.2.2.2.2.2.2.1.toNat (B,((0:j),([]:E j)))).2.1,(cs.getD L.2.2.2.2.2.2.2.1.toNat (B,((0:j),([]:E j)))).2.2) c b=_ from e2];simp only[j4,e3]
end
end Go.Proofs.Pw
