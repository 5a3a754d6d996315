/- stack.SegmentsOf: V_ is on call by sF in a range. -/
import Derived.Test.YtmccfdihkphfaaaGreatREPI
import Derived.Test.YtmccfdihkphfaaaGreatREPG
open _root_ renaming Int->o,List->D,ByteArray->I,Nat->L
open List renaming drop_of_length_le->z,getD->F,length_append->H,length->K
open Int renaming ofNat->E
open Option renaming some->G
noncomputable section
open Go Go.Lft
namespace Go.Proofs.Pw
def di(zs:D bH)(cs:D bd)(ls:D bA)(t:o)(i:L):Int:=cA zs cs (ls.getD i (ByteArray.empty,((0:o),(((0:o),(0:o)),((0:o),((0:o),(([]:D o),(([]:D (o×o)),((0:o),(0:o)))))))))) t
def oZ(es:D cO)(p:o):SL:=(es.filter λx=>x.1==0&&x.2.1==p).map λx=>(x.2.2.2.1,x.2.2.2.2)
theorem jGa{es:D cO}{p t:o}:bJ t (oZ es p)↔gP es p t=true:=by
 unfold bJ oZ gP;rw[zg];constructor
 .rintro⟨s,hs,h1,h2⟩
  obtain⟨x,hx,rfl⟩:=jx.1 hs;obtain⟨h3,h4⟩:=zw.1 hx;dsimp only at h1 h2;refine⟨x,h3,?_⟩;simp only[jd,jj]at h4 ⊢;exact⟨h4.1,h4.2,h1,h2⟩
 .rintro⟨x,hx,h⟩
  simp only[jd,jj]at h;exact⟨_,jx.2 ⟨x,zw.2 ⟨hx,by simp only[jd];exact⟨h.1,h.2.1⟩⟩,rfl⟩,h.2.2.1,h.2.2.2⟩
theorem S8{es:D cO}(hl:es.length<=1000){p:o}:∀(n i:L)(acc:SL),i+n=es.length->acc.length<=i->Fj p es (es.length:o) (i:o) acc=G (acc++oZ (es.drop i) p)
 |0,i,acc,hi,_=>by
  rw[XY];simp only[j4g];rw[an aa,j7,aW,z aa];simp[oZ]
 |n+1,i,acc,hi,ha=>by
  have bY:i<es.length:=aa;have bc:es.getD i ((0:o),((0:o),((0:o),((0:o),(0:o)))))=es[i]:=by simp[F,bY]
  rw[XY];simp only[j4g];rw[ag aa,bE,ar (x:=(i:o)+1)];simp only[j6,j8,bc];have hc:cond (es[i].1==(0:o)) (es[i].2.1==p) false=(es[i].1==0&&es[i].2.1==p):=by cases es[i].1==(0:o)<;>rfl
  rw[hc,jb bY];cases hx:(es[i].1==0&&es[i].2.1==p) with
  |true=>
   rw[j6,ag (by simp[aG];omega),j6,aS];have:=S8 hl (p:=p) n (i+1) (acc++[(es[i].2.2.2.1,es[i].2.2.2.2)]) aa az;have e:oZ (es[i]::es.drop (i+1)) p=(es[i].2.2.2.1,es[i].2.2.2.2)::oZ (es.drop (i+1)) p:=by simp only[oZ,List.filter_cons,hx,if_true,kj]
   rw[e];rw[jg]at this;exact this
  |false=>
   rw[j7,aS];have:=S8 hl (p:=p) n (i+1) acc aa aa;have e:oZ (es[i]::es.drop (i+1)) p=oZ (es.drop (i+1)) p:=by unfold oZ;rw[vc (by simp only[hx];simp)]
   rw[e];exact this
theorem jAB{es:D cO}(hE:∀x∈es,Gk x)(hl:es.length<=48)(nm:I)(ls:D bA)(p:o) :
  ∃out,j7p (nm,(ls,es)) p=G out/\bX (-1) out/\(∀t,bJ t out↔gP es p t=true)/\out.length<=es.length:=by
 have lp:=S8 (es:=es) aa (p:=p) es.length 0 [] aa ae;rw[jw,jk]at lp;have fB:(oZ es p).length<=es.length:=by unfold oZ;rw[kc];exact zo _ _
 have hb:∀s∈oZ es p,0<=s.1/\s.1<s.2/\s.2<=1000000000000:=λs h=>by
  obtain⟨x,hx,rfl⟩:=jx.1 h;have:=hE x (zw.1 hx).1;exact⟨this.f0,this.ft,this.t1⟩
 obtain⟨out,e,h1,h2,h3,h4⟩:=Gq (l:=oZ es p) aa (λs h=>by have:=hb s h;omega) (lo:=0) (hi:=1000000000000) (λs h _=>by have:=hb s h;omega);refine⟨out,?_,h1,λt=>(h2 t).trans jGa,aa⟩;simp only[j7p,show E es.length=(es.length:o) from rfl];rw[show Fj p es (es.length:o) 0 []=_ from lp];simp only[j4,e]
theorem jxP{β:Type}(l:D (o×β))(k:o)(v:β)(j:o):jH (iI l k v) j=(j==k||jH l j):=by
 induction l with
 |nil=>simp[iI,jH]
 |cons x r ih=>
  simp only[iI];by_cases h:k=x.1
  .rw[dI h,j6];simp only[jH,List.any_cons];rw[<-h];cases j==k<;>simp
  .rw[cG h,j7];have:jH (x::iI r k v) j=(j==x.1||jH (iI r k v) j):=rfl;rw[this,ih];have:jH (x::r) j=(j==x.1||jH r j):=rfl;rw[this];cases j==x.1<;>cases j==k<;>simp
theorem ϥ{β:Type}(d:β)(l:D (o×β))(k:o)(v:β)(j:o):hQ d (iI l k v) j=cond (j==k) v (hQ d l j):=by
 induction l with
 |nil=>rfl
 |cons x r ih=>
  simp only[iI];by_cases h:k=x.1
  .rw[dI h,j6];show cond (j==k) v (hQ d r j)=cond (j==k) v (cond (j==x.1) x.2 (hQ d r j));rw[<-h];cases j==k<;>rfl
  .rw[cG h,j7];show cond (j==x.1) x.2 (hQ d (iI r k v) j)=cond (j==k) v (cond (j==x.1) x.2 (hQ d r j));rw[ih];by_cases hj:j=x.1
   .rw[dI hj,j6,cG (show¬j=k by omega)];rfl
   .rw[cG hj];rfl
def ij(p:o):bM->Prop
 |[]=>True
 |x::r=>p<=x.1/\x.1<x.2.1/\ij x.2.1 r
def nK(t:o)(l:bM):Prop:=∃x∈l,x.1<=t/\t<x.2.1
theorem GJ{t:o}{s:lD}{l:bM}:nK t (s::l)↔(s.1<=t/\t<s.2.1)\/nK t l:=by
 constructor
 .rintro⟨u,hu,h⟩
  rcases je.1 hu with rfl|hu
  .exact .inl h
  .exact .inr ⟨u,hu,h⟩
 .rintro (h|⟨u,hu,h⟩)
  .exact⟨s,ae,h⟩
  .exact⟨u,by simp[hu],h⟩
theorem S9{t:o}:¬nK t []:=by rintro⟨s,hs,_⟩;simp at hs
theorem ij.weak{p q:o}(hq:q<=p):∀{l:bM},ij p l->ij q l
 |[],_=>trivial
 |_::_,h=>⟨by have:=h.1;omega,h.2⟩
theorem ij.low{p t:o}:∀{l:bM},ij p l->nK t l->p<=t
 |[],_,h=>absurd h S9
 |s::r,h,hx=>by
  rcases GJ.1 hx with hx|hx
  .have:=h.1;omega
  .have:=ij.low h.2.2 hx;have:=h.1;have:=h.2.1;omega
theorem ij.app{e:o}{r:bM}(hr:ij e r):∀{l:bM}{p:o},ij p l->p<=e->(∀x∈l,x.2.1<=e)->ij p (l++r)
 |[],_,_,hp,_=>hr.weak hp
 |x::l,p,h,_,hl=>⟨h.1,h.2.1,hr.app h.2.2 (hl x ae) (λy hy=>hl y (by simp[hy]))⟩
theorem ij.apart{p:o}:∀{l:bM},ij p l->l.Pairwise (λx y=>x.2.1<=y.1)/\∀x∈l,p<=x.1
 |[],_=>⟨List.Pairwise.nil,ae⟩
 |x::l,h=>by
  obtain⟨h1,h2⟩:=ij.apart h.2.2
  exact⟨kf.2 ⟨h2,h1⟩,λy hy=>by
   rcases je.1 hy with rfl|hy
   .exact h.1
   .have:=h2 y hy;have:=h.1;have:=h.2.1;omega⟩
def qS(s:cN)(p:o):SL:=(j7p s p).getD []
def qT(s:cN)(x:lD):SL:=(j2Y [(x.1,x.2.1)] (qS s x.2.2)).getD []
def nn(s:cN)(x:lD):bM:=if x.2.2<0 then [] else (qT s x).map λu=>(u.1,(u.2,x.2.2))
section
variable{nm:I}{ls:D bA}{es:D cO}(hE:∀x∈es,Gk x)(hl:es.length<=48)
include hE hl
theorem Ϧ(p:o):j7p (nm,(ls,es)) p=G (qS (nm,(ls,es)) p)/\bX (-1) (qS (nm,(ls,es)) p)/\(∀t,bJ t (qS (nm,(ls,es)) p)↔gP es p t=true)/\(qS (nm,(ls,es)) p).length<=es.length:=by
 obtain⟨out,e,h⟩:=jAB hE hl nm ls p;have:qS (nm,(ls,es)) p=out:=by simp[qS,e]
 rw[this];exact⟨e,h⟩
theorem Ta{x:lD}(hx:x.1<x.2.1):j2Y [(x.1,x.2.1)] (qS (nm,(ls,es)) x.2.2)=G (qT (nm,(ls,es)) x)/\bX (x.1-1) (qT (nm,(ls,es)) x)/\
  (∀t,bJ t (qT (nm,(ls,es)) x)↔(x.1<=t/\t<x.2.1)/\gP es x.2.2 t=false)/\(qT (nm,(ls,es)) x).length<=1+es.length:=by
 obtain⟨_,l1,l2,l3⟩:=Ϧ (nm:=nm) (ls:=ls) hE hl x.2.2;obtain⟨out,e,h1,h2,h3⟩:=Sh (B:=qS (nm,(ls,es)) x.2.2) aa (A:=[(x.1,x.2.1)]) (p:=x.1-1) ⟨by dsimp only;omega,hx,trivial⟩ l1 ae;have:qT (nm,(ls,es)) x=out:=by simp[qT,e]
 rw[this];refine⟨e,h1,λt=>?_,by rw[kz]at h3;omega⟩;rw[h2 t,l2 t,dC];constructor
 .rintro⟨h|h,h'⟩
  .exact⟨h,by simpa using h'⟩
  .exact absurd h fU
 .rintro⟨h,h'⟩
  exact⟨.inl h,by simp[h']⟩
omit hE hl in
theorem ϧ{S:bM}{m j f e p:o}{mp:D (o×SL)}{W:SL}(hW:W.length<=1000):∀(n i:L)(acc:bM),i+n=W.length->acc.length+n<=1000000000->
  Af S m j (W.length:o) (i:o) nm ls es f e p mp acc W=G (S,m,j,nm,ls,es,mp,acc++(W.drop i).map λu=>(u.1,(u.2,p)))
 |0,i,acc,hi,_=>by
  rw[XZ];simp only[j3z];rw[an aa,j7,aW,z aa];simp
 |n+1,i,acc,hi,ha=>by
  have bY:i<W.length:=aa;have bc:W.getD i ((0:o),(0:o))=W[i]:=by simp[F,bY]
  rw[XZ];simp only[j3z];rw[ag aa,bE,ar (x:=(i:o)+1)];simp only[j6,j8,bc];rw[ag (by simp[aG];omega),j6,aS,jb bY,kj];have:=ϧ (S:=S) (m:=m) (j:=j) (f:=f) (e:=e) (p:=p) (mp:=mp) hW n (i+1) (acc++[(W[i].1,(W[i].2,p))]) aa az;rw[jg]at this;exact this
theorem Tb{S:bM}(hS:S.length<=100000)(bK:∀x∈S,x.1<x.2.1):∀(n i:L)(mp:D (o×SL))(acc:bM),i+n=S.length->(∀p,jH mp p=true->hQ [] mp p=qS (nm,(ls,es)) p)->acc.length<=49*i->
  Co S (S.length:o) (i:o) nm ls es mp acc=G (acc++(S.drop i).flatMap (nn (nm,(ls,es))))
 |0,i,mp,acc,hi,_,_=>by
  rw[X0];simp only[j3A];rw[an aa,j7,aW,z aa];simp
 |n+1,i,mp,acc,hi,hm,ha=>by
  have bY:i<S.length:=aa;have bc:S.getD i ((0:o),((0:o),(0:o)))=S[i]:=by simp[F,bY]
  have hp:=bK _ (jl bY);rw[X0];simp only[j3A];rw[ag (show (i:o)<(S.length:o) by omega),bE];simp only[j6,j8,bc];rw[jb bY,qu];by_cases ni:S[i].2.2<0
  .rw[ag ni,j6,ar (x:=(i:o)+1),aS];have e:nn (nm,(ls,es)) S[i]=[]:=if_pos ni;rw[e,jw];exact Tb hS bK n (i+1) mp acc aa hm aa
  .have e:nn (nm,(ls,es)) S[i]=(qT (nm,(ls,es)) S[i]).map λu=>(u.1,(u.2,S[i].2.2)):=if_neg ni;obtain⟨w1,_,_,w4⟩:=Ta (nm:=nm) (ls:=ls) hE hl hp;rw[an ni,j7]
   have fin:∀vL:D (o×SL),(∀p,jH vL p=true->hQ [] vL p=qS (nm,(ls,es)) p)->hQ [] vL S[i].2.2=qS (nm,(ls,es)) S[i].2.2->
     lpK ((j2Y [(S[i].1,S[i].2.1)] (hQ [] vL S[i].2.2)).bind λϨ=>
      (Af S (S.length:o) (i:o) (E Ϩ.length) 0 nm ls es S[i].1 S[i].2.1 S[i].2.2 vL acc Ϩ).bind λq2=>
       (G (Sum.inl (q2.1,q2.2.1,w64 (q2.2.2.1+1),q2.2.2.2.1,q2.2.2.2.2.1,q2.2.2.2.2.2.1,q2.2.2.2.2.2.2.1,q2.2.2.2.2.2.2.2)):Option ((bM×o×o×I×D bA×D cO×D (o×SL)×bM) ⊕ bM)))
      (λh=>Co h.1 h.2.1 h.2.2.1 h.2.2.2.1 h.2.2.2.2.1 h.2.2.2.2.2.1 h.2.2.2.2.2.2.1 h.2.2.2.2.2.2.2)=G (acc++(nn (nm,(ls,es)) S[i]++(S.drop (i+1)).flatMap (nn (nm,(ls,es))))):=λvL kO hg=>by
    have l2:=ϧ (nm:=nm) (ls:=ls) (es:=es) (S:=S) (m:=(S.length:o)) (j:=(i:o)) (f:=S[i].1) (e:=S[i].2.1) (p:=S[i].2.2) (mp:=vL) (W:=qT (nm,(ls,es)) S[i]) aa (qT (nm,(ls,es)) S[i]).length 0 acc aa aa;rw[hg,w1];simp only[j4];rw[show Af S (S.length:o) (i:o) (E (qT (nm,(ls,es)) S[i]).length) 0 nm ls es S[i].1 S[i].2.1 S[i].2.2 vL acc (qT (nm,(ls,es)) S[i])=_ from l2];simp only[j4,jk];rw[ar (x:=(i:o)+1),aS,<-e,<-jg];exact Tb hS bK n (i+1) vL _ aa kO (by rw[H,e,kc];omega)
   cases hh:jH mp S[i].2.2 with
   |true=>simp only[jc,j7];exact fin mp hm (hm _ hh)
   |false=>
    simp only[jp,j6];rw[show j7p (nm,(ls,es)) S[i].2.2=_ from (Ϧ (nm:=nm) (ls:=ls) hE hl S[i].2.2).1];simp only[j4];refine fin _ (λp G9=>?_) ?_
    .rw[ϥ];by_cases Lc:p=S[i].2.2
     .rw[dI Lc,j6,Lc]
     .rw[jxP,cG Lc,yg]at G9;rw[cG Lc,j7];exact hm p G9
    .rw[ϥ];simp
theorem jxQ{S:bM}(hS:S.length<=100000)(bK:∀x∈S,x.1<x.2.1):j9K (nm,(ls,es)) S=G (S.flatMap (nn (nm,(ls,es)))):=by
 simp only[j9K,show E S.length=(S.length:o) from rfl];rw[show Co S (S.length:o) 0 nm ls es [] []=_ from Tb hE hl hS bK S.length 0 [] [] aa (λp h=>by simp[jH]at h) ae];rfl
theorem jEG{x:lD}(hx:x.1<x.2.1):(nn (nm,(ls,es)) x).length<=1+es.length:=by
 unfold nn;split
 .simp
 .rw[kc];exact(Ta (nm:=nm) (ls:=ls) hE hl hx).2.2.2
theorem ϩ:∀{S:bM},(∀x∈S,x.1<x.2.1)->(S.flatMap (nn (nm,(ls,es)))).length<=S.length*(1+es.length)
 |[],_=>ae
 |x::S,h=>by
  have h1:=jEG (nm:=nm) (ls:=ls) hE hl (h x ae);have h2:=ϩ (S:=S) (λy hy=>h y (by simp[hy]));rw[qu,H,ji,Nat.add_mul];omega
theorem Ϫ{p:o}{c e:o}:∀{W:SL}{q:o},bX q W->(∀u∈W,u.2<=e)->ij (q+1) (W.map λu=>(u.1,(u.2,c)))/\(p<=q+1->ij p (W.map λu=>(u.1,(u.2,c))))
 |[],_,_,_=>⟨trivial,λ_=>trivial⟩
 |u::W,q,h,hb=>by
  have _:=hE;have _:=hl;have h3:=(Ϫ (p:=u.2) (c:=c) (e:=e) (W:=W) h.2.2 (λv hv=>hb v (by simp[hv]))).2 aa;exact⟨⟨by have:=h.1;dsimp only;omega,h.2.1,h3⟩,λhp=>⟨by have:=h.1;dsimp only;omega,h.2.1,h3⟩⟩
theorem ϫ{f:o->o}{b:o}:∀{S:bM}{a:o},Ch f b a S->(∀x∈S,x.1<x.2.1)->
  ij a (S.flatMap (nn (nm,(ls,es))))/\(∀x∈S.flatMap (nn (nm,(ls,es))),x.2.1<=b/\∀t,x.1<=t->t<x.2.1->f t=x.2.2/\0<=x.2.2/\gP es x.2.2 t=false)/\
   ∀t,a<=t->t<b->0<=f t->gP es (f t) t=false->nK t (S.flatMap (nn (nm,(ls,es))))
 |[],a,h,_=>⟨trivial,ae,λt h1 h2=>by have h:a=b:=h;omega⟩
 |x::S,a,h,bK=>by
  obtain⟨h1,h2,h3,h4⟩:=h;have hx:=bK x ae;obtain⟨i1,i2,i3⟩:=ϫ (f:=f) (b:=b) h4 (λy hy=>bK y (by simp[hy]));have hle:=h4.le;obtain⟨_,w2,w3,_⟩:=Ta (nm:=nm) (ls:=ls) hE hl hx
  have iN:∀y∈nn (nm,(ls,es)) x,0<=x.2.2/\y.2.2=x.2.2/\y.1<y.2.1/\x.1<=y.1/\y.2.1<=x.2.1/\∀t,y.1<=t->t<y.2.1->gP es x.2.2 t=false:=λy hy=>by
   unfold nn at hy;split at hy
   .simp at hy
   .obtain⟨u,hu,rfl⟩:=jx.1 hy;have hm:=bX.mem w2 u hu;have e1:=(w3 (u.2-1)).1 ⟨u,hu,aa,aa⟩;exact⟨aa,rfl,hm.2,by dsimp only;omega,by dsimp only;omega,λt t1 t2=>((w3 t).1 ⟨u,hu,t1,t2⟩).2⟩
  rw[qu];refine⟨?_,λy hy=>?_,λt t1 t2 t3 t4=>?_⟩
  .refine ij.app i1 ?_ h2 (λy hy=>(iN y hy).2.2.2.2.1);unfold nn;split
   .trivial
   .exact(Ϫ hE hl (p:=a) (c:=x.2.2) (e:=x.2.1) w2 (λu hu=>by
     have hm:=bX.mem w2 u hu;have e1:=(w3 (u.2-1)).1 ⟨u,hu,aa,aa⟩;omega)).2 aa
  .rcases jm.1 hy with hy|hy
   .obtain⟨g1,g2,g3,g4,g5,g6⟩:=iN y hy;exact⟨aa,λt t1 t2=>⟨by rw[g2];exact h3 t aa aa,aa,by rw[g2];exact g6 t t1 t2⟩⟩
   .exact i2 y hy
  .by_cases aq:t<x.2.1
   .have hf:=h3 t t1 aq;rw[hf]at t3 t4;obtain⟨u,hu,u1,u2⟩:=(w3 t).2 ⟨⟨aa,aq⟩,t4⟩;refine⟨(u.1,(u.2,x.2.2)),jr _ ?_,u1,u2⟩;unfold nn;rw[if_neg aa];exact jx.2 ⟨u,hu,rfl⟩
   .obtain⟨y,hy,y1,y2⟩:=i3 t aa t2 t3 t4;exact⟨y,jn _ hy,y1,y2⟩
end
def lE:L->bM->SL->bM
 |n+1,s::a,u::b=>(if (if u.1>s.1 then u.1 else s.1)<(if u.2<s.2.1 then u.2 else s.2.1) then [((if u.1>s.1 then u.1 else s.1),((if u.2<s.2.1 then u.2 else s.2.1),s.2.2))] else [])++
  (if s.2.1<u.2 then lE n a (u::b) else lE n (s::a) b)
 |_,_,_=>[]
theorem Tc:∀(n:L)(a:bM)(b:SL)(p q:o),a.length+b.length<=n->ij p a->bX q b->
  ij p (lE n a b)/\ij q (lE n a b)/\(∀x∈lE n a b,∃s∈a,s.1<=x.1/\x.2.1<=s.2.1/\x.2.2=s.2.2/\∀t,x.1<=t->t<x.2.1->bJ t b)/\(∀t,nK t a->bJ t b->nK t (lE n a b))/\(lE n a b).length<=a.length+b.length
 |0,a,b,p,q,hn,_,_=>by
  obtain rfl:a=[]:=qh.1 aa;exact⟨trivial,trivial,by simp[lE],λt h=>absurd h S9,by simp[lE]⟩
 |n+1,[],b,p,q,_,_,_=>⟨trivial,trivial,by simp[lE],λt h=>absurd h S9,by simp[lE]⟩
 |n+1,_::_,[],p,q,_,_,_=>⟨trivial,trivial,by simp[lE],λt _ h=>absurd h fU,by simp[lE]⟩
 |n+1,s::a,u::b,p,q,hn,ha,hb=>by
  obtain⟨a1,a2,a3⟩:=ha;obtain⟨b1,b2,b3⟩:=hb;simp only[ji]at hn ⊢
  have hx:∃f t:o,f=(if u.1>s.1 then u.1 else s.1)/\t=(if u.2<s.2.1 then u.2 else s.2.1)/\(∀x,(f<=x/\x<t)↔(s.1<=x/\x<s.2.1)/\(u.1<=x/\x<u.2))/\p<=f/\q<=f/\t<=s.2.1/\t<=u.2/\s.1<=f:=by
   refine⟨_,_,rfl,rfl,λx=>?_,?_,?_,?_,?_,?_⟩
   .constructor
    .intro h;split at h<;>split at h<;>omega
    .intro h;split<;>split<;>omega
   all_goals split<;>omega
  obtain⟨f,t,ef,et,hi,f1,f2,t1,t2,f3⟩:=hx;simp only[lE,<-ef,<-et]
  have key:∀(a':bM)(b':SL)(r:bM),ij t r->ij p r->ij q r->(∀x∈r,∃s'∈(s::a),s'.1<=x.1/\x.2.1<=s'.2.1/\x.2.2=s'.2.2/\∀y,x.1<=y->y<x.2.1->bJ y (u::b))->(∀y,nK y a'->bJ y b'->nK y r)->
    r.length<=a'.length+b'.length->a'.length+b'.length+1=a.length+1+(b.length+1)->(∀y,nK y (s::a)->bJ y (u::b)->(f<=y/\y<t)\/(nK y a'/\bJ y b'))->
    ij p ((if f<t then [(f,(t,s.2.2))] else [])++r)/\ij q ((if f<t then [(f,(t,s.2.2))] else [])++r)/\(∀x∈((if f<t then [(f,(t,s.2.2))] else [])++r),∃s'∈(s::a),s'.1<=x.1/\x.2.1<=s'.2.1/\x.2.2=s'.2.2/\∀y,x.1<=y->y<x.2.1->bJ y (u::b))/\
     (∀y,nK y (s::a)->bJ y (u::b)->nK y ((if f<t then [(f,(t,s.2.2))] else [])++r))/\((if f<t then [(f,(t,s.2.2))] else [])++r).length<=a.length+1+(b.length+1):=by
   intro a' b' r x9 KQ Sd KR Ϭ hl tc sM;by_cases ig:f<t
   .rw[if_pos ig];refine⟨⟨f1,ig,x9⟩,⟨f2,ig,x9⟩,λx hx=>?_,λy y1 y2=>?_,az⟩
    .rcases je.1 hx with rfl|hx
     .exact⟨s,ae,f3,t1,rfl,λy y1 y2=>dC.2 (.inl ((hi y).1 ⟨y1,y2⟩).2)⟩
     .exact KR x hx
    .rcases sM y y1 y2 with h|h
     .exact GJ.2 (.inl h)
     .exact GJ.2 (.inr (Ϭ y h.1 h.2))
   .rw[if_neg ig,jw];refine⟨KQ,Sd,KR,λy y1 y2=>?_,aa⟩;rcases sM y y1 y2 with h|h
    .omega
    .exact Ϭ y h.1 h.2
  by_cases hc:s.2.1<u.2
  .rw[if_pos hc];obtain⟨i1,i2,i3,i4,i5⟩:=Tc n a (u::b) s.2.1 q az a3 ⟨b1,b2,b3⟩;refine key a (u::b) _ (i1.weak t1) (i1.weak aa) i2 (λx hx=>?_) i4 i5 az (λy y1 y2=>?_)
   .obtain⟨s',eE,r⟩:=i3 x hx;exact⟨s',by simp[eE],r⟩
   .rcases GJ.1 y1 with h|h
    .rcases dC.1 y2 with h'|h'
     .exact .inl ((hi y).2 ⟨h,h'⟩)
     .have:=bX.low b3 h';omega
    .exact .inr ⟨h,y2⟩
  .rw[if_neg hc];obtain⟨i1,i2,i3,i4,i5⟩:=Tc n (s::a) b p u.2 az ⟨a1,a2,a3⟩ b3;refine key (s::a) b _ (i2.weak t2) i1 (i2.weak aa) (λx hx=>?_) i4 i5 az (λy y1 y2=>?_)
   .obtain⟨s',eE,r1,r2,r3,r4⟩:=i3 x hx;exact⟨s',eE,r1,r2,r3,λy y1 y2=>dC.2 (.inr (r4 y y1 y2))⟩
   .rcases dC.1 y2 with h|h
    .rcases GJ.1 y1 with h'|h'
     .exact .inl ((hi y).2 ⟨h',h⟩)
     .have:=ij.low a3 h';omega
    .exact .inr ⟨y1,h⟩
theorem Td{A:bM}{B:SL}(hA:A.length<=10000000)(hB:B.length<=10000000):∀(n i k:L)(acc:bM),i<=A.length->k<=B.length->(A.length-i)+(B.length-k)=n->acc.length+n<=3000000->
  Ag A B (i:o) (k:o) acc=G (acc++lE n (A.drop i) (B.drop k))
 |n,i,k,acc,hi,hk,hn,dJ=>by
  rw[jka];simp only[j5H,show E (K A)=(A.length:o) from rfl,show E (K B)=(B.length:o) from rfl];by_cases fk:i<A.length/\k<B.length
  .obtain⟨bY,bn⟩:=fk;obtain⟨n,rfl⟩:∃m,n=m+1:=⟨n-1,aa⟩;have gA:A.getD i ((0:o),((0:o),(0:o)))=A[i]:=by simp[F,bY]
   have gB:B.getD k ((0:o),(0:o))=B[k]:=by simp[F,bn]
   rw[ag (show (i:o)<(A.length:o) by omega),ag (show (k:o)<(B.length:o) by omega),bU (show (0:o)<=(i:o) by omega) aa,bU (show (0:o)<=(k:o) by omega) aa];simp only[j6,j8,gA,gB];rw[ar (x:=(i:o)+1),ar (x:=(k:o)+1)];rw[jb bY,jb bn];simp only[lE];generalize (if B[k].1>A[i].1 then B[k].1 else A[i].1:o)=f;generalize (if B[k].2<A[i].2.1 then B[k].2 else A[i].2.1:o)=t
   have Gs:∀bI:bM,bI.length<=acc.length+1->Ag A B ((i:o)+1) (k:o) bI=G (bI++lE n (A.drop (i+1)) (B[k]::B.drop (k+1))):=λbI qC=>by
    have:=Td hA hB n (i+1) k bI aa aa aa aa;rw[<-jb bn];exact this
   have Gt:∀bI:bM,bI.length<=acc.length+1->Ag A B (i:o) ((k:o)+1) bI=G (bI++lE n (A[i]::A.drop (i+1)) (B.drop (k+1))):=λbI qC=>by
    have:=Td hA hB n i (k+1) bI aa aa aa aa;rw[<-jb bY];exact this
   by_cases ig:f<t
   .rw[ag ig,if_pos ig,ag (by simp[aG];omega)];simp only[j6];by_cases hc:A[i].2.1<B[k].2
    .rw[ag hc,if_pos hc];simp only[j6,aS];rw[Gs _ ae,jg]
    .rw[an hc,if_neg hc];simp only[j7,aS];rw[Gt _ ae,jg]
   .rw[an ig,if_neg ig];simp only[j7];by_cases hc:A[i].2.1<B[k].2
    .rw[ag hc,if_pos hc];simp only[j6,aS];rw[Gs _ aa,jw]
    .rw[an hc,if_neg hc];simp only[j7,aS];rw[Gt _ aa,jw]
  .have hc:cond (decide ((i:o)<(A.length:o))) (decide ((k:o)<(B.length:o))) false=false:=by
    by_cases h1:i<A.length
    .rw[ag aa,j6];exact an aa
    .rw[an aa,j7]
   rw[hc,j7,aW]
   have:lE n (A.drop i) (B.drop k)=[]:=by
    by_cases h1:i<A.length
    .rw[yk (show B.length<=k by omega)];cases n<;>cases A.drop i<;>rfl
    .rw[yk (show A.length<=i by omega)];cases n<;>rfl
   rw[this,kx]
theorem ϭ{l:bM}(hl:l.length<=10000000):∀(n i:L)(acc:SL),i+n=l.length->acc.length<=i->Fk l (l.length:o) (i:o) acc=G (acc++(l.drop i).map λx=>(x.1,x.2.1))
 |0,i,acc,hi,_=>by
  rw[X1];simp only[j4F];rw[an aa,j7,aW,z aa];simp
 |n+1,i,acc,hi,ha=>by
  have bY:i<l.length:=aa;have bc:l.getD i ((0:o),((0:o),(0:o)))=l[i]:=by simp[F,bY]
  rw[X1];simp only[j4F];rw[ag aa,bE,ar (x:=(i:o)+1)];simp only[j6,j8,bc];rw[ag (by simp[aG];omega),j6,aS,jb bY,kj];have:=ϭ hl n (i+1) (acc++[(l[i].1,l[i].2.1)]) aa az;rw[jg]at this;exact this
theorem jCf{l:bM}(hl:l.length<=10000000){lo hi:o}(h0:0<=lo)(h1:hi<=8589934592)(hb:∀x∈l,lo<=x.1/\x.1<x.2.1/\x.2.1<=hi) :
  ∃out,jcU l=G out/\bX (lo-1) out/\(∀t,bJ t out↔nK t l)/\out.length<=l.length:=by
 have lp:=ϭ hl l.length 0 [] aa ae;rw[jw,jk]at lp
 have aU:∀s∈l.map (λx=>(x.1,x.2.1)),lo<=s.1/\s.1<s.2/\s.2<=hi:=λs h=>by
  obtain⟨x,hx,rfl⟩:=jx.1 h;exact hb x hx
 obtain⟨out,e,g1,g2,g3,g4⟩:=Gq (l:=l.map λx=>(x.1,x.2.1)) (by simpa using hl) (λs h=>by have:=aU s h;omega) (lo:=lo) (hi:=hi) (λs h _=>by have:=aU s h;omega);refine⟨out,?_,g1,λt=>(g2 t).trans ⟨?_,?_⟩,by simpa using g3⟩
 .simp only[jcU,show E l.length=(l.length:o) from rfl];rw[show Fk l (l.length:o) 0 []=_ from lp];simp only[j4,e]
 .rintro⟨s,hs,h⟩
  obtain⟨x,hx,rfl⟩:=jx.1 hs;exact⟨x,hx,h⟩
 .rintro⟨x,hx,h⟩
  exact⟨_,jx.2 ⟨x,hx,rfl⟩,h⟩
end Go.Proofs.Pw
