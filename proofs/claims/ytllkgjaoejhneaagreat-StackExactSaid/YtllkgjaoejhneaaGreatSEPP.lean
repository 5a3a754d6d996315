/- stack.SegmentsOf: who is on call by rW in a range. -/
import Derived.Test.YtllkgjaoejhneaaGreatSEPI
import Derived.Test.YtllkgjaoejhneaaGreatSEPG
open _root_ renaming Int->o,List->z,ByteArray->G,Nat->J
open Int renaming ofNat->D
open List renaming getD->E,length->I
open Option renaming some->F
noncomputable section
open Go Go.Lft
namespace Go.Proofs.Pw
def dJ(zs:z bS)(cs:z bq)(ls:z bC)(t:o)(i:J):Int:=cK zs cs (ls.getD i (ByteArray.empty,((0:o),(((0:o),(0:o)),((0:o),((0:o),(([]:z o),(([]:z (o×o)),((0:o),(0:o)))))))))) t
def oh(es:z dA)(p:o):SL:=(es.filter λx=>x.1==0&&x.2.1==p).map λx=>(x.2.2.2.1,x.2.2.2.2)
theorem jCt{es:z dA}{p t:o}:bG t (oh es p)↔ia es p t=true:=by
 unfold bG oh ia;rw[yj];constructor
 .rintro⟨s,hs,h1,h2⟩
  obtain⟨x,hx,rfl⟩:=ki.1 hs;obtain⟨h3,h4⟩:=yy.1 hx;dsimp only at h1 h2;refine⟨x,h3,?_⟩;simp only[ji,jr]at h4 ⊢;exact⟨h4.1,h4.2,h1,h2⟩
 .rintro⟨x,hx,h⟩
  simp only[ji,jr]at h;exact⟨_,ki.2 ⟨x,yy.2 ⟨hx,by simp only[ji];exact⟨h.1,h.2.1⟩⟩,rfl⟩,h.2.2.1,h.2.2.2⟩
theorem Rh{es:z dA}(hl:es.length<=1000){p:o}:∀(n i:J)(acc:SL),i+n=es.length->acc.length<=i->EF p es (es.length:o) (i:o) acc=F (acc++oh (es.drop i) p)
 |0,i,acc,hi,_=>by
  rw[VG];simp only[j3U];rw[ak aa,jd,ba,jj aa];simp[oh]
 |n+1,i,acc,hi,ha=>by
  have ct:i<es.length:=aa;have bm:es.getD i ((0:o),((0:o),((0:o),((0:o),(0:o)))))=es[i]:=by simp[E,ct]
  rw[VG];simp only[j3U];rw[ah aa,bP,ar (x:=(i:o)+1)];simp only[jc,je,bm];have hc:cond (es[i].1==(0:o)) (es[i].2.1==p) false=(es[i].1==0&&es[i].2.1==p):=by cases es[i].1==(0:o)<;>rfl
  rw[hc,jh ct];cases hx:(es[i].1==0&&es[i].2.1==p) with
  |true=>
   rw[jc,ah (by simp[aF];omega),jc,aV];have:=Rh hl (p:=p) n (i+1) (acc++[(es[i].2.2.2.1,es[i].2.2.2.2)]) aa ay;have e:oh (es[i]::es.drop (i+1)) p=(es[i].2.2.2.1,es[i].2.2.2.2)::oh (es.drop (i+1)) p:=by simp only[oh,List.filter_cons,hx,if_true,qe]
   rw[e];rw[jo]at this;exact this
  |false=>
   rw[jd,aV];have:=Rh hl (p:=p) n (i+1) acc aa aa;have e:oh (es[i]::es.drop (i+1)) p=oh (es.drop (i+1)) p:=by unfold oh;rw[List.filter_cons_of_neg (by simp only[hx];simp)]
   rw[e];exact this
theorem jxi{es:z dA}(hE:∀x∈es,Jv x)(hl:es.length<=48)(nm:G)(ls:z bC)(p:o) :
  ∃out,j6z (nm,(ls,es)) p=F out/\bX (-1) out/\(∀t,bG t out↔ia es p t=true)/\out.length<=es.length:=by
 have lp:=Rh (es:=es) aa (p:=p) es.length 0 [] aa af;rw[kc,jt]at lp;have fD:(oh es p).length<=es.length:=by unfold oh;rw[ky];exact List.length_filter_le _ _
 have hb:∀s∈oh es p,0<=s.1/\s.1<s.2/\s.2<=1000000000000:=λs h=>by
  obtain⟨x,hx,rfl⟩:=ki.1 h;have:=hE x (yy.1 hx).1;exact⟨this.f0,this.ft,this.t1⟩
 obtain⟨out,e,h1,h2,h3,h4⟩:=Jy (l:=oh es p) aa (λs h=>by have:=hb s h;omega) (lo:=0) (hi:=1000000000000) (λs h _=>by have:=hb s h;omega);refine⟨out,?_,h1,λt=>(h2 t).trans jCt,aa⟩;simp only[j6z,show D es.length=(es.length:o) from rfl];rw[show EF p es (es.length:o) 0 []=_ from lp];simp only[ja,e]
theorem juA{β:Type}(l:z (o×β))(k:o)(v:β)(j:o):iS (iq l k v) j=(j==k||iS l j):=by
 induction l with
 |nil=>simp[iq,iS]
 |cons x r ih=>
  simp only[iq];by_cases h:k=x.1
  .rw[fh h,jc];simp only[iS,List.any_cons];rw[<-h];cases j==k<;>simp
  .rw[cU h,jd];have:iS (x::iq r k v) j=(j==x.1||iS (iq r k v) j):=rfl;rw[this,ih];have:iS (x::r) j=(j==x.1||iS r j):=rfl;rw[this];cases j==x.1<;>cases j==k<;>simp
theorem _z{β:Type}(d:β)(l:z (o×β))(k:o)(v:β)(j:o):gS d (iq l k v) j=cond (j==k) v (gS d l j):=by
 induction l with
 |nil=>rfl
 |cons x r ih=>
  simp only[iq];by_cases h:k=x.1
  .rw[fh h,jc];show cond (j==k) v (gS d r j)=cond (j==k) v (cond (j==x.1) x.2 (gS d r j));rw[<-h];cases j==k<;>rfl
  .rw[cU h,jd];show cond (j==x.1) x.2 (gS d (iq r k v) j)=cond (j==k) v (cond (j==x.1) x.2 (gS d r j));rw[ih];by_cases hj:j=x.1
   .rw[fh hj,jc,cU (show¬j=k by omega)];rfl
   .rw[cU hj];rfl
def gY(p:o):cC->Prop
 |[]=>True
 |x::r=>p<=x.1/\x.1<x.2.1/\gY x.2.1 r
def mU(t:o)(l:cC):Prop:=∃x∈l,x.1<=t/\t<x.2.1
theorem FN{t:o}{s:kR}{l:cC}:mU t (s::l)↔(s.1<=t/\t<s.2.1)\/mU t l:=by
 constructor
 .rintro⟨u,hu,h⟩
  rcases jl.1 hu with rfl|hu
  .exact .inl h
  .exact .inr ⟨u,hu,h⟩
 .rintro (h|⟨u,hu,h⟩)
  .exact⟨s,af,h⟩
  .exact⟨u,by simp[hu],h⟩
theorem Ri{t:o}:¬mU t []:=by rintro⟨s,hs,_⟩;simp at hs
theorem gY.weak{p q:o}(hq:q<=p):∀{l:cC},gY p l->gY q l
 |[],_=>trivial
 |_::_,h=>⟨by have:=h.1;omega,h.2⟩
theorem gY.low{p t:o}:∀{l:cC},gY p l->mU t l->p<=t
 |[],_,h=>absurd h Ri
 |s::r,h,hx=>by
  rcases FN.1 hx with hx|hx
  .have:=h.1;omega
  .have:=gY.low h.2.2 hx;have:=h.1;have:=h.2.1;omega
theorem gY.app{e:o}{r:cC}(hr:gY e r):∀{l:cC}{p:o},gY p l->p<=e->(∀x∈l,x.2.1<=e)->gY p (l++r)
 |[],_,_,hp,_=>hr.weak hp
 |x::l,p,h,_,hl=>⟨h.1,h.2.1,hr.app h.2.2 (hl x af) (λy hy=>hl y (by simp[hy]))⟩
theorem gY.apart{p:o}:∀{l:cC},gY p l->l.Pairwise (λx y=>x.2.1<=y.1)/\∀x∈l,p<=x.1
 |[],_=>⟨List.Pairwise.nil,af⟩
 |x::l,h=>by
  obtain⟨h1,h2⟩:=gY.apart h.2.2
  exact⟨qp.2 ⟨h2,h1⟩,λy hy=>by
   rcases jl.1 hy with rfl|hy
   .exact h.1
   .have:=h2 y hy;have:=h.1;have:=h.2.1;omega⟩
def pZ(s:dC)(p:o):SL:=(j6z s p).getD []
def qA(s:dC)(x:kR):SL:=(j2I [(x.1,x.2.1)] (pZ s x.2.2)).getD []
def mF(s:dC)(x:kR):cC:=if x.2.2<0 then [] else (qA s x).map λu=>(u.1,(u.2,x.2.2))
section
variable{nm:G}{ls:z bC}{es:z dA}(hE:∀x∈es,Jv x)(hl:es.length<=48)
include hE hl
theorem _A(p:o):j6z (nm,(ls,es)) p=F (pZ (nm,(ls,es)) p)/\bX (-1) (pZ (nm,(ls,es)) p)/\(∀t,bG t (pZ (nm,(ls,es)) p)↔ia es p t=true)/\(pZ (nm,(ls,es)) p).length<=es.length:=by
 obtain⟨out,e,h⟩:=jxi hE hl nm ls p;have:pZ (nm,(ls,es)) p=out:=by simp[pZ,e]
 rw[this];exact⟨e,h⟩
theorem Rj{x:kR}(hx:x.1<x.2.1):j2I [(x.1,x.2.1)] (pZ (nm,(ls,es)) x.2.2)=F (qA (nm,(ls,es)) x)/\bX (x.1-1) (qA (nm,(ls,es)) x)/\
  (∀t,bG t (qA (nm,(ls,es)) x)↔(x.1<=t/\t<x.2.1)/\ia es x.2.2 t=false)/\(qA (nm,(ls,es)) x).length<=1+es.length:=by
 obtain⟨_,l1,l2,l3⟩:=_A (nm:=nm) (ls:=ls) hE hl x.2.2;obtain⟨out,e,h1,h2,h3⟩:=QG (B:=pZ (nm,(ls,es)) x.2.2) aa (A:=[(x.1,x.2.1)]) (p:=x.1-1) ⟨by dsimp only;omega,hx,trivial⟩ l1 af;have:qA (nm,(ls,es)) x=out:=by simp[qA,e]
 rw[this];refine⟨e,h1,λt=>?_,by rw[qs]at h3;omega⟩;rw[h2 t,l2 t,fi];constructor
 .rintro⟨h|h,h'⟩
  .exact⟨h,by simpa using h'⟩
  .exact absurd h fU
 .rintro⟨h,h'⟩
  exact⟨.inl h,by simp[h']⟩
omit hE hl in
theorem _B{S:cC}{m j f e p:o}{mp:z (o×SL)}{W:SL}(hW:W.length<=1000):∀(n i:J)(acc:cC),i+n=W.length->acc.length+n<=1000000000->
  zB S m j (W.length:o) (i:o) nm ls es f e p mp acc W=F (S,m,j,nm,ls,es,mp,acc++(W.drop i).map λu=>(u.1,(u.2,p)))
 |0,i,acc,hi,_=>by
  rw[VH];simp only[j3f];rw[ak aa,jd,ba,jj aa];simp
 |n+1,i,acc,hi,ha=>by
  have ct:i<W.length:=aa;have bm:W.getD i ((0:o),(0:o))=W[i]:=by simp[E,ct]
  rw[VH];simp only[j3f];rw[ah aa,bP,ar (x:=(i:o)+1)];simp only[jc,je,bm];rw[ah (by simp[aF];omega),jc,aV,jh ct,qe];have:=_B (S:=S) (m:=m) (j:=j) (f:=f) (e:=e) (p:=p) (mp:=mp) hW n (i+1) (acc++[(W[i].1,(W[i].2,p))]) aa ay;rw[jo]at this;exact this
theorem Rk{S:cC}(hS:S.length<=100000)(bU:∀x∈S,x.1<x.2.1):∀(n i:J)(mp:z (o×SL))(acc:cC),i+n=S.length->(∀p,iS mp p=true->gS [] mp p=pZ (nm,(ls,es)) p)->acc.length<=49*i->
  BR S (S.length:o) (i:o) nm ls es mp acc=F (acc++(S.drop i).flatMap (mF (nm,(ls,es))))
 |0,i,mp,acc,hi,_,_=>by
  rw[VI];simp only[j3g];rw[ak aa,jd,ba,jj aa];simp
 |n+1,i,mp,acc,hi,hm,ha=>by
  have ct:i<S.length:=aa;have bm:S.getD i ((0:o),((0:o),(0:o)))=S[i]:=by simp[E,ct]
  have hp:=bU _ (ju ct);rw[VI];simp only[j3g];rw[ah (show (i:o)<(S.length:o) by omega),bP];simp only[jc,je,bm];rw[jh ct,zf];by_cases mD:S[i].2.2<0
  .rw[ah mD,jc,ar (x:=(i:o)+1),aV];have e:mF (nm,(ls,es)) S[i]=[]:=if_pos mD;rw[e,kc];exact Rk hS bU n (i+1) mp acc aa hm aa
  .have e:mF (nm,(ls,es)) S[i]=(qA (nm,(ls,es)) S[i]).map λu=>(u.1,(u.2,S[i].2.2)):=if_neg mD;obtain⟨w1,_,_,w4⟩:=Rj (nm:=nm) (ls:=ls) hE hl hp;rw[ak mD,jd]
   have fin:∀uJ:z (o×SL),(∀p,iS uJ p=true->gS [] uJ p=pZ (nm,(ls,es)) p)->gS [] uJ S[i].2.2=pZ (nm,(ls,es)) S[i].2.2->
     lpK ((j2I [(S[i].1,S[i].2.1)] (gS [] uJ S[i].2.2)).bind λ_C=>
      (zB S (S.length:o) (i:o) (D _C.length) 0 nm ls es S[i].1 S[i].2.1 S[i].2.2 uJ acc _C).bind λq2=>
       (F (Sum.inl (q2.1,q2.2.1,w64 (q2.2.2.1+1),q2.2.2.2.1,q2.2.2.2.2.1,q2.2.2.2.2.2.1,q2.2.2.2.2.2.2.1,q2.2.2.2.2.2.2.2)):Option ((cC×o×o×G×z bC×z dA×z (o×SL)×cC) ⊕ cC)))
      (λh=>BR h.1 h.2.1 h.2.2.1 h.2.2.2.1 h.2.2.2.2.1 h.2.2.2.2.2.1 h.2.2.2.2.2.2.1 h.2.2.2.2.2.2.2)=F (acc++(mF (nm,(ls,es)) S[i]++(S.drop (i+1)).flatMap (mF (nm,(ls,es))))):=λuJ jV hg=>by
    have l2:=_B (nm:=nm) (ls:=ls) (es:=es) (S:=S) (m:=(S.length:o)) (j:=(i:o)) (f:=S[i].1) (e:=S[i].2.1) (p:=S[i].2.2) (mp:=uJ) (W:=qA (nm,(ls,es)) S[i]) aa (qA (nm,(ls,es)) S[i]).length 0 acc aa aa;rw[hg,w1];simp only[ja];rw[show zB S (S.length:o) (i:o) (D (qA (nm,(ls,es)) S[i]).length) 0 nm ls es S[i].1 S[i].2.1 S[i].2.2 uJ acc (qA (nm,(ls,es)) S[i])=_ from l2];simp only[ja,jt];rw[ar (x:=(i:o)+1),aV,<-e,<-jo];exact Rk hS bU n (i+1) uJ _ aa jV (by rw[jn,e,ky];omega)
   cases hh:iS mp S[i].2.2 with
   |true=>simp only[jk,jd];exact fin mp hm (hm _ hh)
   |false=>
    simp only[jv,jc];rw[show j6z (nm,(ls,es)) S[i].2.2=_ from (_A (nm:=nm) (ls:=ls) hE hl S[i].2.2).1];simp only[ja];refine fin _ (λp F7=>?_) ?_
    .rw[_z];by_cases JT:p=S[i].2.2
     .rw[fh JT,jc,JT]
     .rw[juA,cU JT,yp]at F7;rw[cU JT,jd];exact hm p F7
    .rw[_z];simp
theorem juB{S:cC}(hS:S.length<=100000)(bU:∀x∈S,x.1<x.2.1):j8F (nm,(ls,es)) S=F (S.flatMap (mF (nm,(ls,es)))):=by
 simp only[j8F,show D S.length=(S.length:o) from rfl];rw[show BR S (S.length:o) 0 nm ls es [] []=_ from Rk hE hl hS bU S.length 0 [] [] aa (λp h=>by simp[iS]at h) af];rfl
theorem jBa{x:kR}(hx:x.1<x.2.1):(mF (nm,(ls,es)) x).length<=1+es.length:=by
 unfold mF;split
 .simp
 .rw[ky];exact(Rj (nm:=nm) (ls:=ls) hE hl hx).2.2.2
theorem _D:∀{S:cC},(∀x∈S,x.1<x.2.1)->(S.flatMap (mF (nm,(ls,es)))).length<=S.length*(1+es.length)
 |[],_=>af
 |x::S,h=>by
  have h1:=jBa (nm:=nm) (ls:=ls) hE hl (h x af);have h2:=_D (S:=S) (λy hy=>h y (by simp[hy]));rw[zf,jn,jq,Nat.add_mul];omega
theorem _E{p:o}{c e:o}:∀{W:SL}{q:o},bX q W->(∀u∈W,u.2<=e)->gY (q+1) (W.map λu=>(u.1,(u.2,c)))/\(p<=q+1->gY p (W.map λu=>(u.1,(u.2,c))))
 |[],_,_,_=>⟨trivial,λ_=>trivial⟩
 |u::W,q,h,hb=>by
  have _:=hE;have _:=hl;have h3:=(_E (p:=u.2) (c:=c) (e:=e) (W:=W) h.2.2 (λv hv=>hb v (by simp[hv]))).2 aa;exact⟨⟨by have:=h.1;dsimp only;omega,h.2.1,h3⟩,λhp=>⟨by have:=h.1;dsimp only;omega,h.2.1,h3⟩⟩
theorem _F{f:o->o}{b:o}:∀{S:cC}{a:o},Ch f b a S->(∀x∈S,x.1<x.2.1)->
  gY a (S.flatMap (mF (nm,(ls,es))))/\(∀x∈S.flatMap (mF (nm,(ls,es))),x.2.1<=b/\∀t,x.1<=t->t<x.2.1->f t=x.2.2/\0<=x.2.2/\ia es x.2.2 t=false)/\
   ∀t,a<=t->t<b->0<=f t->ia es (f t) t=false->mU t (S.flatMap (mF (nm,(ls,es))))
 |[],a,h,_=>⟨trivial,af,λt h1 h2=>by have h:a=b:=h;omega⟩
 |x::S,a,h,bU=>by
  obtain⟨h1,h2,h3,h4⟩:=h;have hx:=bU x af;obtain⟨i1,i2,i3⟩:=_F (f:=f) (b:=b) h4 (λy hy=>bU y (by simp[hy]));have hle:=h4.le;obtain⟨_,w2,w3,_⟩:=Rj (nm:=nm) (ls:=ls) hE hl hx
  have iy:∀y∈mF (nm,(ls,es)) x,0<=x.2.2/\y.2.2=x.2.2/\y.1<y.2.1/\x.1<=y.1/\y.2.1<=x.2.1/\∀t,y.1<=t->t<y.2.1->ia es x.2.2 t=false:=λy hy=>by
   unfold mF at hy;split at hy
   .simp at hy
   .obtain⟨u,hu,rfl⟩:=ki.1 hy;have hm:=bX.mem w2 u hu;have e1:=(w3 (u.2-1)).1 ⟨u,hu,aa,aa⟩;exact⟨aa,rfl,hm.2,by dsimp only;omega,by dsimp only;omega,λt t1 t2=>((w3 t).1 ⟨u,hu,t1,t2⟩).2⟩
  rw[zf];refine⟨?_,λy hy=>?_,λt t1 t2 t3 t4=>?_⟩
  .refine gY.app i1 ?_ h2 (λy hy=>(iy y hy).2.2.2.2.1);unfold mF;split
   .trivial
   .exact(_E hE hl (p:=a) (c:=x.2.2) (e:=x.2.1) w2 (λu hu=>by
     have hm:=bX.mem w2 u hu;have e1:=(w3 (u.2-1)).1 ⟨u,hu,aa,aa⟩;omega)).2 aa
  .rcases js.1 hy with hy|hy
   .obtain⟨g1,g2,g3,g4,g5,g6⟩:=iy y hy;exact⟨aa,λt t1 t2=>⟨by rw[g2];exact h3 t aa aa,aa,by rw[g2];exact g6 t t1 t2⟩⟩
   .exact i2 y hy
  .by_cases au:t<x.2.1
   .have hf:=h3 t t1 au;rw[hf]at t3 t4;obtain⟨u,hu,u1,u2⟩:=(w3 t).2 ⟨⟨aa,au⟩,t4⟩;refine⟨(u.1,(u.2,x.2.2)),jx _ ?_,u1,u2⟩;unfold mF;rw[if_neg aa];exact ki.2 ⟨u,hu,rfl⟩
   .obtain⟨y,hy,y1,y2⟩:=i3 t aa t2 t3 t4;exact⟨y,jw _ hy,y1,y2⟩
end
def kS:J->cC->SL->cC
 |n+1,s::a,u::b=>(if (if u.1>s.1 then u.1 else s.1)<(if u.2<s.2.1 then u.2 else s.2.1) then [((if u.1>s.1 then u.1 else s.1),((if u.2<s.2.1 then u.2 else s.2.1),s.2.2))] else [])++
  (if s.2.1<u.2 then kS n a (u::b) else kS n (s::a) b)
 |_,_,_=>[]
theorem Rl:∀(n:J)(a:cC)(b:SL)(p q:o),a.length+b.length<=n->gY p a->bX q b->
  gY p (kS n a b)/\gY q (kS n a b)/\(∀x∈kS n a b,∃s∈a,s.1<=x.1/\x.2.1<=s.2.1/\x.2.2=s.2.2/\∀t,x.1<=t->t<x.2.1->bG t b)/\(∀t,mU t a->bG t b->mU t (kS n a b))/\(kS n a b).length<=a.length+b.length
 |0,a,b,p,q,hn,_,_=>by
  obtain rfl:a=[]:=zr.1 aa;exact⟨trivial,trivial,by simp[kS],λt h=>absurd h Ri,by simp[kS]⟩
 |n+1,[],b,p,q,_,_,_=>⟨trivial,trivial,by simp[kS],λt h=>absurd h Ri,by simp[kS]⟩
 |n+1,_::_,[],p,q,_,_,_=>⟨trivial,trivial,by simp[kS],λt _ h=>absurd h fU,by simp[kS]⟩
 |n+1,s::a,u::b,p,q,hn,ha,hb=>by
  obtain⟨a1,a2,a3⟩:=ha;obtain⟨b1,b2,b3⟩:=hb;simp only[jq]at hn ⊢
  have hx:∃f t:o,f=(if u.1>s.1 then u.1 else s.1)/\t=(if u.2<s.2.1 then u.2 else s.2.1)/\(∀x,(f<=x/\x<t)↔(s.1<=x/\x<s.2.1)/\(u.1<=x/\x<u.2))/\p<=f/\q<=f/\t<=s.2.1/\t<=u.2/\s.1<=f:=by
   refine⟨_,_,rfl,rfl,λx=>?_,?_,?_,?_,?_,?_⟩
   .constructor
    .intro h;split at h<;>split at h<;>omega
    .intro h;split<;>split<;>omega
   all_goals split<;>omega
  obtain⟨f,t,ef,et,hi,f1,f2,t1,t2,f3⟩:=hx;simp only[kS,<-ef,<-et]
  have key:∀(a':cC)(b':SL)(r:cC),gY t r->gY p r->gY q r->(∀x∈r,∃s'∈(s::a),s'.1<=x.1/\x.2.1<=s'.2.1/\x.2.2=s'.2.2/\∀y,x.1<=y->y<x.2.1->bG y (u::b))->(∀y,mU y a'->bG y b'->mU y r)->
    r.length<=a'.length+b'.length->a'.length+b'.length+1=a.length+1+(b.length+1)->(∀y,mU y (s::a)->bG y (u::b)->(f<=y/\y<t)\/(mU y a'/\bG y b'))->
    gY p ((if f<t then [(f,(t,s.2.2))] else [])++r)/\gY q ((if f<t then [(f,(t,s.2.2))] else [])++r)/\(∀x∈((if f<t then [(f,(t,s.2.2))] else [])++r),∃s'∈(s::a),s'.1<=x.1/\x.2.1<=s'.2.1/\x.2.2=s'.2.2/\∀y,x.1<=y->y<x.2.1->bG y (u::b))/\
     (∀y,mU y (s::a)->bG y (u::b)->mU y ((if f<t then [(f,(t,s.2.2))] else [])++r))/\((if f<t then [(f,(t,s.2.2))] else [])++r).length<=a.length+1+(b.length+1):=by
   intro a' b' r xy Jz QD JA _G hl sw sa;by_cases kC:f<t
   .rw[if_pos kC];refine⟨⟨f1,kC,xy⟩,⟨f2,kC,xy⟩,λx hx=>?_,λy y1 y2=>?_,ay⟩
    .rcases jl.1 hx with rfl|hx
     .exact⟨s,af,f3,t1,rfl,λy y1 y2=>fi.2 (.inl ((hi y).1 ⟨y1,y2⟩).2)⟩
     .exact JA x hx
    .rcases sa y y1 y2 with h|h
     .exact FN.2 (.inl h)
     .exact FN.2 (.inr (_G y h.1 h.2))
   .rw[if_neg kC,kc];refine⟨Jz,QD,JA,λy y1 y2=>?_,aa⟩;rcases sa y y1 y2 with h|h
    .omega
    .exact _G y h.1 h.2
  by_cases hc:s.2.1<u.2
  .rw[if_pos hc];obtain⟨i1,i2,i3,i4,i5⟩:=Rl n a (u::b) s.2.1 q ay a3 ⟨b1,b2,b3⟩;refine key a (u::b) _ (i1.weak t1) (i1.weak aa) i2 (λx hx=>?_) i4 i5 ay (λy y1 y2=>?_)
   .obtain⟨s',dy,r⟩:=i3 x hx;exact⟨s',by simp[dy],r⟩
   .rcases FN.1 y1 with h|h
    .rcases fi.1 y2 with h'|h'
     .exact .inl ((hi y).2 ⟨h,h'⟩)
     .have:=bX.low b3 h';omega
    .exact .inr ⟨h,y2⟩
  .rw[if_neg hc];obtain⟨i1,i2,i3,i4,i5⟩:=Rl n (s::a) b p u.2 ay ⟨a1,a2,a3⟩ b3;refine key (s::a) b _ (i2.weak t2) i1 (i2.weak aa) (λx hx=>?_) i4 i5 ay (λy y1 y2=>?_)
   .obtain⟨s',dy,r1,r2,r3,r4⟩:=i3 x hx;exact⟨s',dy,r1,r2,r3,λy y1 y2=>fi.2 (.inr (r4 y y1 y2))⟩
   .rcases fi.1 y2 with h|h
    .rcases FN.1 y1 with h'|h'
     .exact .inl ((hi y).2 ⟨h',h⟩)
     .have:=gY.low a3 h';omega
    .exact .inr ⟨y1,h⟩
theorem Rm{A:cC}{B:SL}(hA:A.length<=10000000)(hB:B.length<=10000000):∀(n i k:J)(acc:cC),i<=A.length->k<=B.length->(A.length-i)+(B.length-k)=n->acc.length+n<=3000000->
  zC A B (i:o) (k:o) acc=F (acc++kS n (A.drop i) (B.drop k))
 |n,i,k,acc,hi,hk,hn,dI=>by
  rw[ji1];simp only[j57,show D (I A)=(A.length:o) from rfl,show D (I B)=(B.length:o) from rfl];by_cases gP:i<A.length/\k<B.length
  .obtain⟨ct,bk⟩:=gP;obtain⟨n,rfl⟩:∃m,n=m+1:=⟨n-1,aa⟩;have gA:A.getD i ((0:o),((0:o),(0:o)))=A[i]:=by simp[E,ct]
   have gB:B.getD k ((0:o),(0:o))=B[k]:=by simp[E,bk]
   rw[ah (show (i:o)<(A.length:o) by omega),ah (show (k:o)<(B.length:o) by omega),cb (show (0:o)<=(i:o) by omega) aa,cb (show (0:o)<=(k:o) by omega) aa];simp only[jc,je,gA,gB];rw[ar (x:=(i:o)+1),ar (x:=(k:o)+1)];rw[jh ct,jh bk];simp only[kS];generalize (if B[k].1>A[i].1 then B[k].1 else A[i].1:o)=f;generalize (if B[k].2<A[i].2.1 then B[k].2 else A[i].2.1:o)=t
   have Fx:∀bE:cC,bE.length<=acc.length+1->zC A B ((i:o)+1) (k:o) bE=F (bE++kS n (A.drop (i+1)) (B[k]::B.drop (k+1))):=λbE pF=>by
    have:=Rm hA hB n (i+1) k bE aa aa aa aa;rw[<-jh bk];exact this
   have Fy:∀bE:cC,bE.length<=acc.length+1->zC A B (i:o) ((k:o)+1) bE=F (bE++kS n (A[i]::A.drop (i+1)) (B.drop (k+1))):=λbE pF=>by
    have:=Rm hA hB n i (k+1) bE aa aa aa aa;rw[<-jh ct];exact this
   by_cases kC:f<t
   .rw[ah kC,if_pos kC,ah (by simp[aF];omega)];simp only[jc];by_cases hc:A[i].2.1<B[k].2
    .rw[ah hc,if_pos hc];simp only[jc,aV];rw[Fx _ af,jo]
    .rw[ak hc,if_neg hc];simp only[jd,aV];rw[Fy _ af,jo]
   .rw[ak kC,if_neg kC];simp only[jd];by_cases hc:A[i].2.1<B[k].2
    .rw[ah hc,if_pos hc];simp only[jc,aV];rw[Fx _ aa,kc]
    .rw[ak hc,if_neg hc];simp only[jd,aV];rw[Fy _ aa,kc]
  .have hc:cond (decide ((i:o)<(A.length:o))) (decide ((k:o)<(B.length:o))) false=false:=by
    by_cases h1:i<A.length
    .rw[ah aa,jc];exact ak aa
    .rw[ak aa,jd]
   rw[hc,jd,ba]
   have:kS n (A.drop i) (B.drop k)=[]:=by
    by_cases h1:i<A.length
    .rw[yz (show B.length<=k by omega)];cases n<;>cases A.drop i<;>rfl
    .rw[yz (show A.length<=i by omega)];cases n<;>rfl
   rw[this,qh]
theorem _H{l:cC}(hl:l.length<=10000000):∀(n i:J)(acc:SL),i+n=l.length->acc.length<=i->EG l (l.length:o) (i:o) acc=F (acc++(l.drop i).map λx=>(x.1,x.2.1))
 |0,i,acc,hi,_=>by
  rw[VJ];simp only[j4l];rw[ak aa,jd,ba,jj aa];simp
 |n+1,i,acc,hi,ha=>by
  have ct:i<l.length:=aa;have bm:l.getD i ((0:o),((0:o),(0:o)))=l[i]:=by simp[E,ct]
  rw[VJ];simp only[j4l];rw[ah aa,bP,ar (x:=(i:o)+1)];simp only[jc,je,bm];rw[ah (by simp[aF];omega),jc,aV,jh ct,qe];have:=_H hl n (i+1) (acc++[(l[i].1,l[i].2.1)]) aa ay;rw[jo]at this;exact this
theorem jyM{l:cC}(hl:l.length<=10000000){lo hi:o}(h0:0<=lo)(h1:hi<=8589934592)(hb:∀x∈l,lo<=x.1/\x.1<x.2.1/\x.2.1<=hi) :
  ∃out,jbt l=F out/\bX (lo-1) out/\(∀t,bG t out↔mU t l)/\out.length<=l.length:=by
 have lp:=_H hl l.length 0 [] aa af;rw[kc,jt]at lp
 have aK:∀s∈l.map (λx=>(x.1,x.2.1)),lo<=s.1/\s.1<s.2/\s.2<=hi:=λs h=>by
  obtain⟨x,hx,rfl⟩:=ki.1 h;exact hb x hx
 obtain⟨out,e,g1,g2,g3,g4⟩:=Jy (l:=l.map λx=>(x.1,x.2.1)) (by simpa using hl) (λs h=>by have:=aK s h;omega) (lo:=lo) (hi:=hi) (λs h _=>by have:=aK s h;omega);refine⟨out,?_,g1,λt=>(g2 t).trans ⟨?_,?_⟩,by simpa using g3⟩
 .simp only[jbt,show D l.length=(l.length:o) from rfl];rw[show EG l (l.length:o) 0 []=_ from lp];simp only[ja,e]
 .rintro⟨s,hs,h⟩
  obtain⟨x,hx,rfl⟩:=ki.1 hs;exact⟨x,hx,h⟩
 .rintro⟨x,hx,h⟩
  exact⟨_,ki.2 ⟨x,hx,rfl⟩,h⟩
end Go.Proofs.Pw
