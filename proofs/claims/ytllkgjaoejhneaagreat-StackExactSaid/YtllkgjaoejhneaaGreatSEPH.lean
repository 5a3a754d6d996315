/- Segments that cover a range: their wk form is unique. -/
import Derived.Test.YtllkgjaoejhneaaGreatSELD
import Derived.Test.YtllkgjaoejhneaaGreatSEPF
import Derived.Test.YtllkgjaoejhneaaGreatSEPG
open _root_ renaming Int->j,List->E,Option->G,ByteArray->O,Nat->Y
open ByteArray renaming empty->B
open Option renaming some->F,none->N,some_or->W
open Bool renaming true->I,false->X
open Int renaming tmod->J,ofNat->S
noncomputable section
open Go Go.Lft
namespace Go.Proofs.Pw
abbrev kR:=j×(j×j)
abbrev cC:=E kR
def Ch(f:j->j)(b:j):j->cC->Prop
 |a,[]=>a=b
 |a,s::r=>s.1=a/\a<=s.2.1/\(∀t,a<=t->t<s.2.1->f t=s.2.2)/\Ch f b s.2.1 r
def gX(f:j->j)(b:j):G j->j->cC->Prop
 |_,a,[]=>a=b
 |q,a,s::r=>s.1=a/\a<s.2.1/\q≠F s.2.2/\(∀t,a<=t->t<s.2.1->f t=s.2.2)/\gX f b (F s.2.2) s.2.1 r
theorem Ch.le{f:j->j}{b:j}:∀{l:cC}{a:j},Ch f b a l->a<=b
 |[],_,h=>Int.le_of_eq h
 |_::_,_,h=>z8 h.2.1 h.2.2.2.le
theorem Ch.app{f:j->j}{b c:j}:∀{l r:cC}{a:j},Ch f b a l->Ch f c b r->Ch f c a (l++r)
 |[],_,_,h,h'=>by have h:_=_:=h;subst h;exact h'
 |_::_,_,_,h,h'=>⟨h.1,h.2.1,h.2.2.1,h.2.2.2.app h'⟩
theorem Ch.snoc{f:j->j}{b c p:j}{l:cC}{a:j}(h:Ch f b a l)(wU:b<=c)(hp:∀t,b<=t->t<c->f t=p):Ch f c a (l++[(b,(c,p))]):=
 h.app ⟨rfl,wU,hp,rfl⟩
theorem gX.ch{f:j->j}{b:j}:∀{l:cC}{q:G j}{a:j},gX f b q a l->Ch f b a l
 |[],_,_,h=>h
 |_::_,_,_,h=>⟨h.1,Int.le_of_lt h.2.1,h.2.2.2.1,h.2.2.2.2.ch⟩
theorem gX.uniq{f:j->j}{b:j}:∀{l l':cC}{q:G j}{a:j},gX f b q a l->gX f b q a l'->l=l'
 |[],[],_,_,_,_=>rfl
 |[],_::_,_,_,h,h'=>by have:=h'.2.1;have:=h'.2.2.2.2.ch.le;have h:_=_:=h;omega
 |_::_,[],_,_,h,h'=>by have:=h.2.1;have:=h.2.2.2.2.ch.le;have h':_=_:=h';omega
 |s::r,s'::r',q,a,h,h'=>by
  obtain⟨h1,h2,h3,h4,h5⟩:=h;obtain⟨g1,g2,g3,g4,g5⟩:=h';have hp:s.2.2=s'.2.2:=by rw[<-h4 a aa h2,<-g4 a aa g2]
  have ht:s.2.1=s'.2.1:=by
   apply kn;intro br;by_cases au:s.2.1<s'.2.1
   .match r,h5 with
    |[],h5=>have:=g5.ch.le;have h5:_=_:=h5;omega
    |u::v,h5=>have e1:=h5.2.2.2.1 s.2.1 aa h5.2.1;have e2:=g4 s.2.1 aa au;exact h5.2.2.1 (by rw[<-e1,e2,hp])
   .match r',g5 with
    |[],g5=>have:=h5.ch.le;have g5:_=_:=g5;omega
    |u::v,g5=>have e1:=g5.2.2.2.1 s'.2.1 aa g5.2.1;have e2:=h4 s'.2.1 aa aa;exact g5.2.2.1 (by rw[<-e1,e2,hp])
  have hs:s=s':=Prod.ext (by rw[h1,g1]) (Prod.ext ht hp);subst hs;rw[h5.uniq g5]
def lstP:G j->cC->G j
 |q,[]=>q
 |_,s::r=>lstP (F s.2.2) r
theorem Zc:∀(l:cC)(q:G j)(s:kR),lstP q (l++[s])=F s.2.2
 |[],_,_=>rfl
 |_::r,_,s=>Zc r _ s
theorem gX.snoc{f:j->j}{b c p:j}:∀{l:cC}{q:G j}{a:j},gX f b q a l->b<c->lstP q l≠F p->(∀t,b<=t->t<c->f t=p)->gX f c q a (l++[(b,(c,p))])
 |[],_,_,h,wU,hl,hp=>by have h:_=_:=h;subst h;exact⟨rfl,wU,hl,hp,rfl⟩
 |_::_,_,_,h,wU,hl,hp=>⟨h.1,h.2.1,h.2.2.1,h.2.2.2.1,h.2.2.2.2.snoc wU hl hp⟩
theorem gX.ext{f:j->j}{b c x p:j}:∀{l:cC}{q:G j}{a:j},gX f b q a (l++[(x,(b,p))])->b<=c->(∀t,b<=t->t<c->f t=p)->gX f c q a (l++[(x,(c,p))])
 |[],_,_,h,wU,hp=>⟨h.1,by have:=h.2.1;dsimp only at this ⊢;omega,h.2.2.1,λt h1 h2=>by
  by_cases ht:t<b
  .exact h.2.2.2.1 t h1 ht
  .exact hp t aa h2,rfl⟩
 |_::_,_,_,h,wU,hp=>⟨h.1,h.2.1,h.2.2.1,h.2.2.2.1,h.2.2.2.2.ext wU hp⟩
def lG(out:cC)(s:kR):cC:=
 if s.2.1<=s.1 then out else match out.getLast? with
  |some x=>if x.2.1=s.1/\x.2.2=s.2.2 then out.dropLast++[(x.1,(s.2.1,x.2.2))] else out++[s]
  |none=>out++[s]
theorem Zd{f:j->j}{a b:j}{out:cC}(h:gX f b N a out){s:kR}(h1:s.1=b)(h2:b<=s.2.1)(h3:∀t,b<=t->t<s.2.1->f t=s.2.2):gX f s.2.1 N a (lG out s):=by
 obtain⟨x,y,p⟩:=s;dsimp only at h1 h2 h3 ⊢;subst h1;unfold lG;dsimp only;by_cases jJ:y<=x
 .rw[if_pos jJ];have:y=x:=aa;subst this;exact h
 .rw[if_neg jJ];rcases vf out with rfl|⟨l,u,rfl⟩
  .exact h.snoc aa (by simp[lstP]) h3
  .rw[vg]at h ⊢;rw[yg];simp only[vq,W];by_cases hu:u.2.1=x/\u.2.2=p
   .rw[if_pos hu,List.dropLast_concat];obtain⟨u1,u2,u3⟩:=u;dsimp only at hu ⊢;obtain⟨rfl,rfl⟩:=hu;exact h.ext h2 h3
   .rw[if_neg hu];refine h.snoc aa ?_ h3;rw[Zc];intro e;have hp:u.2.2=p:=by simpa using e
    refine hu ⟨?_,hp⟩
    have:∀(l:cC)(q:G j)(a:j),gX f x q a (l++[u])->u.2.1=x:=by
     intro l;induction l with
     |nil=>intro q a h;exact h.2.2.2.2
     |cons v r ih=>intro q a h;exact ih _ _ h.2.2.2.2
    exact this l _ _ h
theorem Ze{f:j->j}{b:j}:∀(l:cC){a c:j}{out:cC},gX f c N a out->Ch f b c l->gX f b N a (l.foldl lG out)
 |[],_,_,_,h,h'=>by have h':_=_:=h';subst h';exact h
 |s::r,_,_,_,h,h'=>Ze r (Zd h h'.1 h'.2.1 h'.2.2.1) h'.2.2.2
theorem Ch.cov{f:j->j}{a b:j}{l:cC}(h:Ch f b a l):gX f b N a (l.foldl lG []):=Ze l (show gX f a N a [] from rfl) h
theorem Zf{f:j->j}:∀{l:cC}{a b:j},a<=b->l.Pairwise (λs u=>s.2.1<=u.1)->(∀s∈l,s.1<s.2.1/\∀t,s.1<=t->t<s.2.1->f t=s.2.2)->
  (∀x,(a<=x/\x<b)↔∃s∈l,s.1<=x/\x<s.2.1)->Ch f b a l
 |[],a,b,cX,_,_,hc=>by
  apply kn;intro br;have br:a≠b:=br;obtain⟨s,hs,_⟩:=(hc a).1 ⟨kx _,aa⟩;simp at hs
 |s::r,a,b,cX,hp,hf,hc=>by
  obtain⟨s1,s2⟩:=hf s af;obtain⟨p1,p2⟩:=qp.1 hp;have h1:=(hc s.1).2 ⟨s,af,kx _,s1⟩;have h2:=(hc (s.2.1-1)).2 ⟨s,af,aa,aa⟩
  have he:s.1=a:=by
   obtain⟨u,hu,u1,u2⟩:=(hc a).1 ⟨kx _,aa⟩;rcases jl.1 hu with rfl|hu
   .omega
   .have:=p1 u hu;omega
  refine⟨he,aa,λt t1 t2=>s2 t aa t2,Zf aa p2 (λu hu=>hf u (by simp[hu])) (λx=>⟨λhx=>?_,λ⟨u,hu,u1,u2⟩=>?_⟩)⟩
  .obtain⟨u,hu,u1,u2⟩:=(hc x).1 ⟨aa,hx.2⟩;rcases jl.1 hu with rfl|hu
   .omega
   .exact⟨u,hu,u1,u2⟩
  .have:=p1 u hu;have:=(hc x).2 ⟨u,by simp[hu],u1,u2⟩;omega
theorem Ch.mem{f:j->j}{b:j}:∀{l:cC}{a:j},Ch f b a l->∀s∈l,a<=s.1/\s.1<=s.2.1/\s.2.1<=b/\∀t,s.1<=t->t<s.2.1->f t=s.2.2
 |[],_,_,s,hs=>by simp at hs
 |u::r,a,h,s,hs=>by
  obtain⟨h1,h2,h3,h4⟩:=h;rcases jl.1 hs with rfl|hs
  .exact⟨aa,aa,h4.le,λt t1 t2=>h3 t aa t2⟩
  .have:=h4.mem s hs;exact⟨aa,this.2.1,this.2.2.1,this.2.2.2⟩
theorem Ch.has{f:j->j}{b:j}:∀{l:cC}{a:j},Ch f b a l->∀x,a<=x->x<b->∃s∈l,s.1<=x/\x<s.2.1
 |[],_,h,x,h1,h2=>by have h:_=_:=h;omega
 |u::r,a,h,x,h1,h2=>by
  obtain⟨g1,g2,g3,g4⟩:=h;by_cases hx:x<u.2.1
  .exact⟨u,af,aa,hx⟩
  .obtain⟨s,hs,e⟩:=g4.has x aa h2;exact⟨s,by simp[hs],e⟩
theorem Ch.congr{f g:j->j}{b:j}:∀{l:cC}{a:j},Ch f b a l->(∀t,a<=t->t<b->f t=g t)->Ch g b a l
 |[],_,h,_=>h
 |u::r,a,h,hg=>by
  obtain⟨g1,g2,g3,g4⟩:=h;have:=g4.le;exact⟨g1,g2,λt t1 t2=>by rw[<-hg t t1 aa];exact g3 t t1 t2,g4.congr (λt t1 t2=>hg t aa t2)⟩
theorem gX.pos{f:j->j}{b:j}:∀{l:cC}{q:G j}{a:j},gX f b q a l->∀s∈l,s.1<s.2.1
 |[],_,_,_,s,hs=>by simp at hs
 |u::r,_,a,h,s,hs=>by
  rcases jl.1 hs with rfl|hs
  .have:=h.1;have:=h.2.1;omega
  .exact h.2.2.2.2.pos s hs
def po(p:j×(j×j))(d:j):j×Int:=
 (if d*86400-p.2.2>p.1 then d*86400-p.2.2 else p.1,if d*86400-p.2.2+86400<p.2.1 then d*86400-p.2.2+86400 else p.2.1)
theorem Zg{ds:E j}(hd:∀d∈ds,0<=d/\d<=100000)(hl:ds.length<=64){p:j×(j×j)}(hp : -64800<=p.2.2/\p.2.2<=64800){m q z:j}{nm:O}{ps:E (j×(j×j))}:∀(n i:Y)(acc:SL),i+n=ds.length->acc.length+n<=1000000->
  EA m q ds (ds.length:j) (i:j) nm z ds p.1 p.2.1 p.2.2 acc ps=F (m,q,nm,z,ds,acc++(ds.drop i).map (po p),ps)
 |0,i,acc,hi,_=>by
  rw[Vx];simp only[j2Q];rw[ak aa,jd,ba,jj aa];simp
 |n+1,i,acc,hi,dI=>by
  have ct:i<ds.length:=aa;have bm:ds.getD i (0:j)=ds[i]:=by simp[ct]
  have Zh:=hd _ (ju ct);rw[Vx];simp only[j2Q];rw[ah aa,bP];simp only[jc,je,bm];rw[ar (x:=ds[i]*86400),ar (x:=ds[i]*86400-p.2.2),ar (x:=ds[i]*86400-p.2.2+86400),ar (x:=(i:j)+1),ah (by simp[aF];omega),jh ct];simp only[jc,aV,qe];have:=Zg hd hl hp (m:=m) (q:=q) (z:=z) (nm:=nm) (ps:=ps) n (i+1) (acc++[po p ds[i]]) aa ay;rw[jo]at this;exact this
theorem Zi{ds:E j}(hd:∀d∈ds,0<=d/\d<=100000)(hl:ds.length<=64){z:j}{nm:O}{ps:E (j×(j×j))}(gU:∀p∈ps, -64800<=p.2.2/\p.2.2<=64800)(fp:ps.length<=100):∀(n i:Y)(acc:SL),i+n=ps.length->acc.length<=64*i->
  EB (ps.length:j) (i:j) nm z ds acc ps=F (acc++(ps.drop i).flatMap λp=>ds.map (po p))
 |0,i,acc,hi,_=>by
  rw[Vy];simp only[j2R];rw[ak aa,jd,ba,jj aa];simp
 |n+1,i,acc,hi,dI=>by
  have ct:i<ps.length:=aa;have bm:ps.getD i ((0:j),((0:j),(0:j)))=ps[i]:=by simp[List.getD,ct]
  have h2:=Zg hd hl (gU _ (ju ct)) (m:=(ps.length:j)) (q:=(i:j)) (z:=z) (nm:=nm) (ps:=ps) ds.length 0 acc aa aa;have ih:=Zi hd hl (z:=z) (nm:=nm) gU fp n (i+1) (acc++ds.map (po ps[i])) aa ay;rw[Vy];simp only[j2R];rw[ah aa,bP];simp only[jc,je,bm,show S ds.length=(ds.length:j) from rfl];rw[show EA (ps.length:j) (i:j) ds (ds.length:j) 0 nm z ds ps[i].1 ps[i].2.1 ps[i].2.2 acc ps=_ from h2];simp only[ja,jt];rw[ar (x:=(i:j)+1),aV,jh ct,zf,<-jo];exact ih
theorem Zj{α β:Type}(f:α->E β)(k:Y)(hf:∀a,(f a).length=k):∀l:E α,(l.flatMap f).length=l.length*k
 |[]=>af
 |a::l=>by rw[zf,jn,Zj f k hf l,hf,jq,Nat.add_mul,Nat.one_mul];omega
theorem Zk{p:j×(j×j)}{d x:j}:((po p d).1<=x/\x<(po p d).2)↔(p.1<=x/\x<p.2.1)/\(x+p.2.2)/86400=d:=by
 simp only[po];constructor
 .intro h;split at h<;>split at h<;>omega
 .intro h;split<;>split<;>omega
section
variable{zs:E bS}{ps:E eu}{cs:E bq}(hs:nI zs ps cs)
include hs
theorem jAL{x:bq}(hx:pV zs.length x){ss:E dC}{a b:j}(ha:0<=a)(cX:a<=b)(hb:b<=8589934592){z:bS}(hz:zs.getD x.2.1.toNat (B,((0:j),([]:E aH)))=z) :
  ∃out,j23 ((zs,(ps,(cs,ss))),zs.map tb) x a b=F out/\bX (a-1) out/\out.length<=x.2.2.length*((tb z).2.length+1)/\
   ∀t d,a<=t->t<b->j0o (tb z) t=F d->(bG t out↔d.1∈x.2.2):=by
 have hlen:(zs.map tb).length=zs.length:=ky ..;have hg:=Ft (zs:=zs) hx.z0 hx.z1;have QH:=fT hs.ok hx.z0 hx.z1;rw[hz]at hg QH;have ht:=QH.ztab.2;have jK:(tb z).2.length<=20:=jAI QH;obtain⟨pc,e,pl,pm,QI⟩:=YT ht ha cX hb;have nS:=hx.len;have hd:∀d∈x.2.2,0<=d/\d<=100000:=λd hd=>⟨jBR (hx.day d hd),jBQ (hx.day d hd)⟩
 have Bu:∀p∈pc, -64800<=p.2.2/\p.2.2<=64800:=λp hp=>by
  obtain⟨_,_,_,i,i1,i2,_⟩:=pm p hp;have:=ht.of0 i i1;have:=ht.of1 i i1;omega
 have l0:=Zi hd nS (z:=x.2.1) (nm:=x.1) Bu aa pc.length 0 [] aa af;rw[kc,jt]at l0;have YX:(pc.flatMap λp=>x.2.2.map (po p)).length=pc.length*x.2.2.length:=Zj _ _ (λp=>ky ..) pc;have hm:pc.length*x.2.2.length<=((tb z).2.length+1)*x.2.2.length:=kg _ pl;have gV:((tb z).2.length+1)*x.2.2.length<=21*64:=z7 aa nS
 have iy:∀s∈(pc.flatMap λp=>x.2.2.map (po p)),∃p∈pc,∃d∈x.2.2,s=po p d:=λs h=>by
  obtain⟨p,hp,h⟩:=qy.1 h;obtain⟨d,hd,rfl⟩:=ki.1 h;exact⟨p,hp,d,hd,rfl⟩
 obtain⟨out,e2,s1,s2,s3,s4⟩:=Jy (l:=pc.flatMap λp=>x.2.2.map (po p)) aa (λs h=>by
  obtain⟨p,hp,d,Ci,rfl⟩:=iy s h;obtain⟨h1,h2,h3,_⟩:=pm p hp;have:=Bu p hp;have:=hd d Ci;simp only[po];refine⟨?_,?_,?_,?_⟩<;>split<;>omega) (lo:=a) (hi:=b) (λs h au=>by
  obtain⟨p,hp,d,Ci,rfl⟩:=iy s h;obtain⟨h1,h2,h3,_⟩:=pm p hp;simp only[po]at au ⊢;refine⟨?_,?_⟩<;>split<;>omega)
 refine⟨out,?_,s1,by rw[Nat.mul_comm];omega,λt d h1 h2 mZ=>?_⟩
 .simp only[j23];rw[cb hx.z0 (by rw[hlen];exact hx.z1)];simp only[jc,hg,show j1O ((tb z).1,(tb z).2) a b=_ from e,ja,show S pc.length=(pc.length:j) from rfl];rw[show EB (pc.length:j) 0 x.1 x.2.1 x.2.2 [] pc=_ from l0];simp only[ja,e2]
 .obtain⟨k,hk,k1,k2⟩:=sT ht (t:=t) aa aa;have:=B6 ht hk k1 k2;have Zl:=mZ.symm.trans this;simp only[jb]at Zl;subst Zl;dsimp only;rw[s2 t];constructor
  .rintro⟨s,dy,h3,h4⟩
   obtain⟨p,hp,d,Ci,rfl⟩:=iy s dy;obtain⟨c1,c2⟩:=Zk.1 ⟨h3,h4⟩;obtain⟨_,_,_,i,i1,i2,i3,i4⟩:=pm p hp;have:i=k:=Jk ht i1 hk (t:=t) aa aa k1 k2;subst this;rw[<-i2,c2];exact Ci
  .intro Ci;obtain⟨p,hp,c1,c2⟩:=QI t h1 h2;obtain⟨_,_,_,i,i1,i2,i3,i4⟩:=pm p hp;have:i=k:=Jk ht i1 hk (t:=t) aa aa k1 k2;subst this;obtain⟨g1,g2⟩:=Zk.2 ⟨⟨c1,c2⟩,show (t+p.2.2)/86400=(t+bj z.2.1 (tb z).2 i)/86400 by rw[i2]⟩;exact⟨_,qy.2 ⟨p,hp,ki.2 ⟨_,Ci,rfl⟩⟩,g1,g2⟩
omit hs in
def aJ(zs:E bS)(i:j):bS:=zs.getD i.toNat (B,((0:j),([]:E aH)))
omit hs in
def fV(cs:E bq)(i:j):bq:=cs.getD i.toNat (B,((0:j),([]:E j)))
omit hs in
def cm(z:bS)(t:j):j×Int:=(j0o (tb z) t).getD (0,0)
omit hs in
def fj(d:j×j):Int:=(j37 d).getD 0
omit hs in
def bQ(z:bS)(L:bC)(t:j):Int:=(j26 (tb z) L t).getD (-1)
omit hs in
def gy(zs:E bS)(cs:E bq)(L:bC)(t:j):Bool:=
 cond (L.2.2.2.2.2.2.2.2==0) I (decide ((cm (aJ zs (fV cs L.2.2.2.2.2.2.2.1).2.1) t).1∈(fV cs L.2.2.2.2.2.2.2.1).2.2)==(L.2.2.2.2.2.2.2.2==(2:j)))
omit hs in
def fq(zs:E bS)(cs:E bq)(L:bC)(t:j):Bool:=
 cond (decide (0<=bQ (aJ zs L.2.1) L t)) (cond (okW L.2.2.2.2.2.2.1 (fj (cm (aJ zs L.2.1) t))) (gy zs cs L t) X) X
omit hs in
def cK(zs:E bS)(cs:E bq)(L:bC)(t:j):Int:=cond (fq zs cs L t) (nJ L (bQ (aJ zs L.2.1) L t)) (-1)
omit hs in
theorem FA{z:bS}(hz:fR z){t:j}(h0:0<=t)(h1:t<=8589934592):j0o (tb z) t=F (cm z t)/\j37 (cm z t)=F (fj (cm z t)):=by
 obtain⟨d,s,hd,uG⟩:=jBV hz h0 h1;have:cm z t=d:=by simp[cm,hd]
 rw[this];exact⟨hd,by simp[fj,uG]⟩
omit hs in
theorem pq{z:bS}(hz:fR z){L:bC}(hR:Rt L){t:j}(h0:0<=t)(h1:t<=8589934592):j26 (tb z) L t=F (bQ z L t)/\kB z.2.1 (tb z).2 L t (bQ z L t):=by
 obtain⟨K,e,hK⟩:=jCM hz.ztab.2 hR h0 h1;have:bQ z L t=K:=by simp only[bQ,show j26 (tb z) L t=_ from e,zj]
 rw[this];exact⟨e,hK⟩
omit hs in
theorem JB{L:bC}{t:j}(h:fq zs cs L t=I):0<=bQ (aJ zs L.2.1) L t:=by
 by_cases hk:0<=bQ (aJ zs L.2.1) L t
 .exact hk
 .unfold fq at h;rw[ak hk]at h;simp at h
theorem jCQ{L:bC}(hL:iR zs.length ps.length cs.length L){ss:E dC}{t:j}(h0:0<=t)(h1:t<=8589934592) :
  (∃r,j48 ((zs,(ps,(cs,ss))),zs.map tb) L t=F (r,fq zs cs L t))/\j27 ((zs,(ps,(cs,ss))),zs.map tb) L t=F (cK zs cs L t)/\(fq zs cs L t=I->0<=bQ (aJ zs L.2.1) L t):=by
 have mR:=hL.rt2;have hz:=fT hs.ok hL.z0 hL.z1;obtain⟨hd,uG⟩:=FA hz h0 h1;obtain⟨eK,hK⟩:=pq hz mR h0 h1
 have lI:fq zs cs L t=I->0<=bQ (aJ zs L.2.1) L t:=λh=>by
  by_cases hk:0<=bQ (aJ zs L.2.1) L t
  .exact hk
  .unfold fq at h;rw[ak hk]at h;simp at h
 obtain⟨r,er,hr⟩:=jBU (ps:=ps) (ss:=ss) hs.ok hL mR h0 h1 rfl hd uG eK (gy zs cs L t) (λh=>by unfold gy;rw[fh h];rfl) (λh=>⟨_,rfl,lF hs (hL.cal h).1 (hL.cal h).2,_,(FA (fT hs.ok (lF hs (hL.cal h).1 (hL.cal h).2).z0 (lF hs (hL.cal h).1 (hL.cal h).2).z1) h0 h1).1,by
  unfold gy;rw[cU h];rfl⟩)
 exact⟨⟨r,er⟩,jyv hL.m0 er hr lI,lI⟩
omit hs in
theorem jAM{L:bC}(hL:iR zs.length ps.length cs.length L){t:j}(_h0:0<=t)(_h1:t<=8589934592):(fq zs cs L t=I↔0<=cK zs cs L t) /\ -1<=cK zs cs L t/\cK zs cs L t<ps.length:=by
 have lI:fq zs cs L t=I->0<=bQ (aJ zs L.2.1) L t:=JB;unfold cK;cases hc:fq zs cs L t with
 |false=>simp;omega
 |true=>
  have hk:=lI hc;have pj:=hL.m0;have q1:0<=J (bQ (aJ zs L.2.1) L t) (L.2.2.2.2.2.1.length:j):=ya _ hk;have q2:J (bQ (aJ zs L.2.1) L t) (L.2.2.2.2.2.1.length:j)<(L.2.2.2.2.2.1.length:j):=vd _ aa;have hi:(J (bQ (aJ zs L.2.1) L t) (L.2.2.2.2.2.1.length:j)).toNat<L.2.2.2.2.2.1.length:=aa;have e:nJ L (bQ (aJ zs L.2.1) L t)=L.2.2.2.2.2.1[(J (bQ (aJ zs L.2.1) L t) (L.2.2.2.2.2.1.length:j)).toNat]:=by simp[nJ,List.getD,hi]
  rw[jc,e];have:=hL.mem _ (ju hi);exact⟨⟨λ_=>this.1,λ_=>rfl⟩,aa,this.2⟩
theorem jwZ{L:bC}(hL:iR zs.length ps.length cs.length L){ss:E dC}{a b:j}(ha:0<=a)(cX:a<=b)(hb:b<=8589934592){M:Y}(hM:M<=60)(hlen:b-a<=604800*M) :
  ∃out,j6x ((zs,(ps,(cs,ss))),zs.map tb) L a b=F out/\bX (a-1) out/\(∀t,bG t out↔a<=t/\t<b/\fq zs cs L t=I)/\
   out.length<=L.2.2.2.2.2.2.1.length*(M+1)*5+1+(if L.2.2.2.2.2.2.2.2=0 then 0 else (fV cs L.2.2.2.2.2.2.2.1).2.2.length*5):=by
 have mR:=hL.rt2;have fo:(zs.map tb).length=zs.length:=ky ..;have hz:=fT hs.ok hL.z0 hL.z1;have hg:=Ft (zs:=zs) hL.z0 hL.z1;have ub:=hL.wl;have jK:(tb (aJ zs L.2.1)).2.length<=4:=zZ hz;obtain⟨v,ev,hv⟩:=ph hz.ztab.2 mR (k:=0) aa aa
 have nO:∀t,a<=t->t<b->(0<=bQ (aJ zs L.2.1) L t↔QO (aJ zs L.2.1).2.1 (tb (aJ zs L.2.1)).2 L t 0):=λt h1 h2=>by
  have hK:=(pq hz mR (t:=t) aa aa).2;constructor
  .intro hk;rcases hK with⟨hK,_⟩|⟨_,hq,_⟩
   .have:bQ (aJ zs L.2.1) L t = -1:=hK;omega
   .exact QO.le hz.ztab.2 mR hk hq
  .intro hq;rcases hK with⟨_,hn⟩|⟨hk,_,_⟩
   .exact absurd hq hn
   .exact hk
 have tz:∀t,a<=t->t<b->¬QO (aJ zs L.2.1).2.1 (tb (aJ zs L.2.1)).2 L t 0->fq zs cs L t=false:=λt h1 h2 hq=>by
  unfold fq;rw[ak (λh=>hq ((nO t h1 h2).1 h))];rfl
 simp only[j6x];rw[cb hL.z0 (by rw[fo];exact hL.z1)];simp only[jc,hg];rw[show j0Q ((tb (zs.getD L.2.1.toNat (B,((0:j),([]:E aH))))).1,(tb (zs.getD L.2.1.toNat (B,((0:j),([]:E aH))))).2) (L.1,L.2.1,(L.2.2.1.1,L.2.2.1.2),L.2.2.2.1,L.2.2.2.2.1,L.2.2.2.2.2.1,L.2.2.2.2.2.2.1,L.2.2.2.2.2.2.2.1,L.2.2.2.2.2.2.2.2) 0=_ from ev];simp only[ja]
 have oO:∀(P:∀t,a<=t->t<b->fq zs cs L t=X),∃out,F ([]:SL)=F out/\bX (a-1) out/\(∀t,bG t out↔a<=t/\t<b/\fq zs cs L t=I)/\
   out.length<=L.2.2.2.2.2.2.1.length*(M+1)*5+1+(if L.2.2.2.2.2.2.2.2=0 then 0 else (fV cs L.2.2.2.2.2.2.2.1).2.2.length*5):=λP=>
  ⟨[],rfl,trivial,λt=>⟨λh=>absurd h fU,λ⟨h1,h2,h3⟩=>by rw[P t h1 h2]at h3;simp at h3⟩,kq _⟩
 cases hh:hO (zs.getD L.2.1.toNat (B,((0:j),([]:E aH)))).2.1 (tb (zs.getD L.2.1.toNat (B,((0:j),([]:E aH))))).2 L 0 with
 |none=>
  simp only[ve,jv,jc]
  exact oO λt h1 h2=>tz t h1 h2 (by
   rintro⟨u,hu,_⟩
   have dT:=hh.symm.trans hu;simp at dT)
 |some u=>
  have:=hv u hh;subst this
  have hq:∀t,QO (aJ zs L.2.1).2.1 (tb (aJ zs L.2.1)).2 L t 0↔v<=t:=λt=>⟨λ⟨u,hu,hut⟩=>by
   have dT:=hh.symm.trans hu;simp only[jb]at dT;omega,λh=>⟨v,hh,h⟩⟩
  simp only[zm,jk,jd];by_cases Gd:v>=b
  .rw[ah Gd];simp only[jc];exact oO λt h1 h2=>tz t h1 h2 (λh=>by have:=(hq t).1 h;omega)
  .rw[ak Gd];simp only[jd];by_cases FB:a>=b
   .rw[ah FB];simp only[jc];exact oO λt h1 h2=>aa
   .rw[ak FB];simp only[jd];obtain⟨c,hc,hca,ln,L1,jH⟩:∃c:j,c=(if v>a then v else a)/\a<=c/\v<=c/\c<b/\∀t,a<=t->t<c->t<v:=⟨_,rfl,by split<;>omega,by split<;>omega,by split<;>omega,λt h1 h2=>by split at h2<;>omega⟩;rw[<-hc]
    obtain⟨A,QJ,sb,QK,QL,Zm,hA6⟩:∃A:SL,((L.2.2.2.2.2.2.1.length:j)>0->j5u (tb (aJ zs L.2.1)) L.2.2.2.2.2.2.1 c b=F A)/\(¬(L.2.2.2.2.2.2.1.length:j)>0->A=[(c,b)])/\bX (c-1) A/\
      (∀t,bG t A->t<b)/\(∀t,c<=t->t<b->(bG t A↔okW L.2.2.2.2.2.2.1 (fj (cm (aJ zs L.2.1) t))=I))/\A.length<=L.2.2.2.2.2.2.1.length*(M+1)*5+1:=by
     by_cases hw:(L.2.2.2.2.2.2.1.length:j)>0
     .obtain⟨A,e,s1,s2,s3,s4⟩:=juw hz.ztab.2 (qc jK aa) hL.w ub hM (a:=c) (b:=b) aa aa hb aa;refine⟨A,λ_=>e,λh=>absurd hw h,s1,λt ⟨s,dy,h1,h2⟩=>by have:=(s2 s dy).2;omega,λt h1 h2=>?_,?_⟩
      .obtain⟨k,hk,k1,k2⟩:=sT hz.ztab.2 (t:=t) aa aa;rw[s4 k hk t h1 h2 k1 k2];have xV:cm (aJ zs L.2.1) t=((t+bj (aJ zs L.2.1).2.1 (tb (aJ zs L.2.1)).2 k)/86400,(t+bj (aJ zs L.2.1).2.1 (tb (aJ zs L.2.1)).2 k)%86400):=by unfold cm;rw[show j0o (tb (aJ zs L.2.1)) t=_ from B6 hz.ztab.2 hk k1 k2];rfl
       have o0:=hz.ztab.2.of0 k hk;have o1:=hz.ztab.2.of1 k hk;have kA:fj (cm (aJ zs L.2.1) t)=(t+bj (aJ zs L.2.1).2.1 (tb (aJ zs L.2.1)).2 k+259200)%604800:=by rw[xV];simp only[fj,j37];have o0' : -64800<=bj (aJ zs L.2.1).2.1 (tb (aJ zs L.2.1)).2 k:=o0;have o1':bj (aJ zs L.2.1).2.1 (tb (aJ zs L.2.1)).2 k<=64800:=o1;rw[Jf _ aa];simp only[ja,zj];generalize bj (aJ zs L.2.1).2.1 (tb (aJ zs L.2.1)).2 k=o at *;rw[ar (x:=((t+o)/86400+3)%7*86400),ar];omega
       rw[kA];unfold okW;rw[ah hw];rfl
      .have:L.2.2.2.2.2.2.1.length*(M+1)*((tb (aJ zs L.2.1)).2.length+1)<=L.2.2.2.2.2.2.1.length*(M+1)*5:=Nat.mul_le_mul_left _ aa;have s3':A.length<=L.2.2.2.2.2.2.1.length*(M+1)*((tb (aJ zs L.2.1)).2.length+1):=s3;omega
     .refine⟨[(c,b)],λh=>absurd h hw,λ_=>rfl,⟨by dsimp only;omega,L1,trivial⟩,λt h=>?_,λt h1 h2=>?_,af⟩
      .rcases fi.1 h with h|h
       .exact h.2
       .exact absurd h fU
      .unfold okW;rw[ak hw];exact⟨λ_=>rfl,λ_=>fi.2 (.inl ⟨h1,h2⟩)⟩
    have hA7:A.length<=30000:=by have:L.2.2.2.2.2.2.1.length*(M+1)<=14*61:=z7 ub aa;omega
    have ei:∀out:SL,bX (c-1) out->(∀t,bG t out->t<b)->(∀t,c<=t->t<b->(bG t out↔bG t A/\gy zs cs L t=I))->bX (a-1) out/\∀t,bG t out↔a<=t/\t<b/\fq zs cs L t=true:=λout h1 h2 h3=>by
     refine⟨h1.weak aa,λt=>⟨λhx=>?_,λ⟨g1,g2,g3⟩=>?_⟩⟩
     .have l1:=bX.low h1 hx;have l2:=h2 t hx;refine⟨aa,l2,?_⟩;have:=(h3 t aa l2).1 hx;unfold fq;rw[ah ((nO t aa l2).2 ((hq t).2 aa)),(Zm t aa l2).1 this.1,this.2];rfl
     .have hk:=JB g3;have tV:=(hq t).1 ((nO t g1 g2).1 hk);have Zn:c<=t:=by apply kn;intro hn;have:=jH t g1 aa;omega
      refine(h3 t Zn g2).2 ⟨(Zm t Zn g2).2 ?_,?_⟩
      .unfold fq at g3;rw[ah hk]at g3;revert g3;cases okW L.2.2.2.2.2.2.1 (fj (cm (aJ zs L.2.1) t))<;>simp
      .unfold fq at g3;rw[ah hk]at g3;revert g3;cases okW L.2.2.2.2.2.2.1 (fj (cm (aJ zs L.2.1) t))<;>simp
    by_cases hm:L.2.2.2.2.2.2.2.2=0
    .have cF:=ei A QK QL (λt _ _=>by unfold gy;rw[fh hm];simp);rw[cU (show¬L.2.2.2.2.2.2.2.2=1 by omega),cU (show¬L.2.2.2.2.2.2.2.2=2 by omega),if_pos hm];simp only[jd];by_cases hw:(L.2.2.2.2.2.2.1.length:j)>0
     .rw[kT L.2.2.2.2.2.2.1,ah hw,jc,show j5u ((tb (zs.getD L.2.1.toNat (B,((0:j),([]:E aH))))).1,(tb (zs.getD L.2.1.toNat (B,((0:j),([]:E aH))))).2) L.2.2.2.2.2.2.1 c b=_ from QJ hw];simp only[ja];exact⟨A,rfl,cF.1,cF.2,aa⟩
     .rw[kT L.2.2.2.2.2.2.1,ak hw,jd,<-sb hw];exact⟨A,rfl,cF.1,cF.2,aa⟩
    .have cA:=hL.cal hm;have hx:=lF hs cA.1 cA.2;have Bf:=fT hs.ok hx.z0 hx.z1;have hll2:(tb (aJ zs (fV cs L.2.2.2.2.2.2.2.1).2.1)).2.length<=4:=zZ Bf;obtain⟨D,e2,d1,d2,d3⟩:=jAL hs hx (ss:=ss) (a:=c) (b:=b) aa aa hb rfl
     have hDl:D.length<=(fV cs L.2.2.2.2.2.2.2.1).2.2.length*5:=qc d2 (Nat.mul_le_mul_left _ (by
      have:(tb (aJ zs (fV cs L.2.2.2.2.2.2.2.1).2.1)).2.length+1<=5:=aa;exact this))
     have hDl2:D.length<=2000:=by have:=hx.len;have Ac:(fV cs L.2.2.2.2.2.2.2.1).2.2.length<=64:=this;omega
     have Zo:∀t,c<=t->t<b->(bG t D↔(cm (aJ zs (fV cs L.2.2.2.2.2.2.2.1).2.1) t).1∈(fV cs L.2.2.2.2.2.2.2.1).2.2):=λt h1 h2=>d3 t _ h1 h2 (FA Bf aa aa).1;rw[if_neg hm,cb cA.1 cA.2];have FC:L.2.2.2.2.2.2.2.2=1\/L.2.2.2.2.2.2.2.2=2:=by have:=hL.mode0;have:=hL.mode1;omega
     rcases FC with gZ|gV
     .obtain⟨out,e3,w1,w2,w3⟩:=QG aa QK d1 aa
      have cF:=ei out w1 (λt h=>QL t ((w2 t).1 h).1) (λt h1 h2=>by
       rw[w2 t,Zo t h1 h2];unfold gy;rw[cU hm,cU (show¬L.2.2.2.2.2.2.2.2=2 by omega),jd];simp)
      rw[fh gZ];simp only[jc];by_cases hw:(L.2.2.2.2.2.2.1.length:j)>0
      .rw[kT L.2.2.2.2.2.2.1,ah hw,jc,show j5u ((tb (zs.getD L.2.1.toNat (B,((0:j),([]:E aH))))).1,(tb (zs.getD L.2.1.toNat (B,((0:j),([]:E aH))))).2) L.2.2.2.2.2.2.1 c b=_ from QJ hw];simp only[ja];refine⟨out,?_,cF.1,cF.2,aa⟩;rw[show j23 ((zs,(ps,(cs,ss))),zs.map tb) ((cs.getD L.2.2.2.2.2.2.2.1.toNat (B,((0:j),([]:E j)))).1,(cs.getD L.2.2.2.2.2.2.2.1.toNat (B,((0:j),([]:E j)))).2.1,(cs.getD L.2.2.2.2.2.2.2.1.toNat (B,((0:j),([]:E j)))).2.2) c b=_ from e2];simp only[ja,e3]
      .rw[kT L.2.2.2.2.2.2.1,ak hw,jd,<-sb hw];refine⟨out,?_,cF.1,cF.2,aa⟩;rw[show j23 ((zs,(ps,(cs,ss))),zs.map tb) ((cs.getD L.2.2.2.2.2.2.2.1.toNat (B,((0:j),([]:E j)))).1,(cs.getD L.2.2.2.2.2.2.2.1.toNat (B,((0:j),([]:E j)))).2.1,(cs.getD L.2.2.2.2.2.2.2.1.toNat (B,((0:j),([]:E j)))).2.2) c b=_ from e2];simp only[ja,e3]
     .obtain⟨out,e3,w1,w2,w3⟩:=jwW QK d1 aa aa
      have cF:=ei out w1 (λt h=>QL t ((w2 t).1 h).1) (λt h1 h2=>by
       rw[w2 t,Zo t h1 h2];unfold gy;rw[cU hm,fh gV,jd];simp)
      rw[cU (show¬L.2.2.2.2.2.2.2.2=1 by omega),fh gV];simp only[jc,jd];by_cases hw:(L.2.2.2.2.2.2.1.length:j)>0
      .rw[kT L.2.2.2.2.2.2.1,ah hw,jc,show j5u ((tb (zs.getD L.2.1.toNat (B,((0:j),([]:E aH))))).1,(tb (zs.getD L.2.1.toNat (B,((0:j),([]:E aH))))).2) L.2.2.2.2.2.2.1 c b=_ from QJ hw];simp only[ja];refine⟨out,?_,cF.1,cF.2,aa⟩;rw[show j23 ((zs,(ps,(cs,ss))),zs.map tb) ((cs.getD L.2.2.2.2.2.2.2.1.toNat (B,((0:j),([]:E j)))).1,(cs.getD L.2.2.2.2.2.2.2.1.toNat (B,((0:j),([]:E j)))).2.1,(cs.getD L.2.2.2.2.2.2.2.1.toNat (B,((0:j),([]:E j)))).2.2) c b=_ from e2];simp only[ja,e3]
      .rw[kT L.2.2.2.2.2.2.1,ak hw,jd,<-sb hw];refine⟨out,?_,cF.1,cF.2,aa⟩;rw[show j23 ((zs,(ps,(cs,ss))),zs.map tb) ((cs.getD L.2.2.2.2.2.2.2.1.toNat (B,((0:j),([]:E j)))).1,(cs.getD L.2.2.2.2.2.2.2.1.toNat (B,((0:j),([]:E j)))).2.1,(cs.getD L.2.2.2.2.2.2.2.1.toNat (B,((0:j),([]:E j)))).2.2) c b=_ from e2];simp only[ja,e3]
end
end Go.Proofs.Pw
