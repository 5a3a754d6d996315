/- stack.SegmentsOf: who is on call by layers in a range. -/
import Derived.Test.YtlnljpfkgigljaaGreatPOPE
import Derived.Test.YtlnljpfkgigljaaGreatPOPD
import Derived.Test.YtlnljpfkgigljaaGreatPOPA
import Derived.Test.YtlnljpfkgigljaaGreatPOLD
import Derived.Test.YtlnljpfkgigljaaGreatPOPF
open _root_ renaming Int->w,List->D,Nat->Ä,ByteArray->Í,Option->Ú,Bool->Ý
open List renaming drop_eq_getElem_cons->z,drop_of_length_le->G,getD->J,length_append->R,append_assoc->U,drop_zero->À,mem_append_right->Á,nil_append->Â,getElem_mem->Å,mem_append_left->Ç,length_cons->È,length_map->É,flatMap_cons->Ë,map_cons->Î,any_eq_true->Ñ,drop_eq_nil_of_le->Ò,length->Ø,nodup_nil->Ù
open Int renaming ofNat->H,le_trans->Ê
open Option renaming some->I,none->ß
open Decidable renaming decide->N
open Bool renaming and_eq_true->X,not_true->Ì,false->Ó,not_false->Õ,true->Û,false_or->Ü
open Classical renaming byContradiction->Ã
open ByteArray renaming empty->Æ
open List.Pairwise renaming nil->Ï,imp_of_mem->Ð
open Nat renaming le_refl->Ô,pow_le_pow_right->Ö,add_mul->Þ
noncomputable section
open Go Go.Lft
namespace Go.Proofs.Pw
def pfX(zs:D j0z)(cs:D CalT)(ls:D j0c)(t:w)(i:Ä):Int:=perX zs cs (ls.getD i (Æ,0,(0,0),0,0,[],[],0,0)) t
def lvs(es:D j1V)(p:w):SL:=(es.filter λx=>x.1==0&&x.2.1==p).map λx=>(x.2.2.2.1,x.2.2.2.2)
theorem jEc{es:D j1V}{p t:w}:inS t (lvs es p)↔jbo es p t=true:=by
 unfold inS lvs jbo;rw[Ñ];constructor
 .rintro⟨s,hs,h1,h2⟩
  obtain⟨x,hx,rfl⟩:=List.mem_map.1 hs;obtain⟨h3,h4⟩:=List.mem_filter.1 hx;dsimp only at h1 h2;refine⟨x,h3,?_⟩;simp only[X,decide_eq_true_eq]at h4 ⊢;exact⟨h4.1,h4.2,h1,h2⟩
 .rintro⟨x,hx,h⟩
  simp only[X,decide_eq_true_eq]at h;exact⟨_,List.mem_map.2 ⟨x,List.mem_filter.2 ⟨hx,by simp only[X];exact⟨h.1,h.2.1⟩⟩,rfl⟩,h.2.2.1,h.2.2.2⟩
theorem jCs{es:D j1V}(hl:es.length<=1000){p:w}:∀(n i:Ä)(acc:SL),i+n=es.length->acc.length<=i->j9o p es (es.length:w) (i:w) acc=I (acc++lvs (es.drop i) p)
 |0,i,acc,hi,_=>by
  rw[jda];simp only[j4h];rw[j01 omg_,j7,j06,G omg_];simp[lvs]
 |n+1,i,acc,hi,ha=>by
  have hi':i<es.length:=omg_;have hgd:es.getD i (0,0,0,0,0)=es[i]:=by simp[J,hi']
  rw[jda];simp only[j4h];rw[j00 omg_,j0L,j05 (x:=(i:w)+1)];simp only[j6,j8,hgd];have hc:cond (es[i].1==(0:w)) (es[i].2.1==p) Ó=(es[i].1==0&&es[i].2.1==p):=by cases es[i].1==(0:w)<;>rfl
  rw[hc,z hi'];cases hx:(es[i].1==0&&es[i].2.1==p) with
  |true=>
   rw[j6,j00 (by simp[j02];omega),j6,j03];have:=jCs hl (p:=p) n (i+1) (acc++[(es[i].2.2.2.1,es[i].2.2.2.2)]) omg_ sqo_;have e:lvs (es[i]::es.drop (i+1)) p=(es[i].2.2.2.1,es[i].2.2.2.2)::lvs (es.drop (i+1)) p:=by simp only[lvs,List.filter_cons,hx,if_true,Î]
   rw[e];rw[U]at this;exact this
  |false=>
   rw[j7,j03];have:=jCs hl (p:=p) n (i+1) acc omg_ omg_;have e:lvs (es[i]::es.drop (i+1)) p=lvs (es.drop (i+1)) p:=by unfold lvs;rw[List.filter_cons_of_neg (by simp only[hx];simp)]
   rw[e];exact this
theorem jxf{es:D j1V}{np:Ä}(hE:∀x∈es,ECk np x)(hl:es.length<=48)(nm:Í)(ls:D j0c)(p:w) :
  ∃out,j7v (nm,ls,es) p=I out/\StS (-1) out/\(∀t,inS t out↔jbo es p t=Û)/\out.length<=es.length:=by
 have lp:=jCs (es:=es) omg_ (p:=p) es.length 0 [] omg_ smp_;rw[Â,À]at lp;have hfl:(lvs es p).length<=es.length:=by unfold lvs;rw[É];exact List.length_filter_le _ _
 have hb:∀s∈lvs es p,0<=s.1/\s.1<s.2/\s.2<=1000000000000:=λs h=>by
  obtain⟨x,hx,rfl⟩:=List.mem_map.1 h;have:=hE x (List.mem_filter.1 hx).1;exact⟨this.f0,this.ft,this.t1⟩
 obtain⟨out,e,h1,h2,h3,h4⟩:=jf2 (l:=lvs es p) omg_ (λs h=>by have:=hb s h;omega) (lo:=0) (hi:=1000000000000) (λs h _=>by have:=hb s h;omega);refine⟨out,?_,h1,λt=>(h2 t).trans jEc,omg_⟩;simp only[j7v,show H es.length=(es.length:w) from rfl];rw[show j9o p es (es.length:w) 0 []=_ from lp];simp only[j4,e]
theorem jjA{β:Type}(l:D (w×β))(k:w)(v:β)(j:w):j1W (j28 l k v) j=(j==k||j1W l j):=by
 induction l with
 |nil=>simp[j28,j1W]
 |cons x r ih=>
  simp only[j28];by_cases h:k=x.1
  .rw[j3m h,j6];simp only[j1W,List.any_cons];rw[<-h];cases j==k<;>simp
  .rw[j1p h,j7];have:j1W (x::j28 r k v) j=(j==x.1||j1W (j28 r k v) j):=rfl;rw[this,ih];have:j1W (x::r) j=(j==x.1||j1W r j):=rfl;rw[this];cases j==x.1<;>cases j==k<;>simp
theorem jjB{β:Type}(d:β)(l:D (w×β))(k:w)(v:β)(j:w):j1r d (j28 l k v) j=cond (j==k) v (j1r d l j):=by
 induction l with
 |nil=>rfl
 |cons x r ih=>
  simp only[j28];by_cases h:k=x.1
  .rw[j3m h,j6];show cond (j==k) v (j1r d r j)=cond (j==k) v (cond (j==x.1) x.2 (j1r d r j));rw[<-h];cases j==k<;>rfl
  .rw[j1p h,j7];show cond (j==x.1) x.2 (j1r d (j28 r k v) j)=cond (j==k) v (cond (j==x.1) x.2 (j1r d r j));rw[ih];by_cases hj:j=x.1
   .rw[j3m hj,j6,j1p (show¬j=k by omega)];rfl
   .rw[j1p hj];rfl
def OrS(p:w):SgL->Prop
 |[]=>True
 |x::r=>p<=x.1/\x.1<x.2.1/\OrS x.2.1 r
def inG(t:w)(l:SgL):Prop:=∃x∈l,x.1<=t/\t<x.2.1
theorem jiN{t:w}{s:SgT}{l:SgL}:inG t (s::l)↔(s.1<=t/\t<s.2.1)\/inG t l:=by
 constructor
 .rintro⟨u,hu,h⟩
  rcases List.mem_cons.1 hu with rfl|hu
  .exact .inl h
  .exact .inr ⟨u,hu,h⟩
 .rintro (h|⟨u,hu,h⟩)
  .exact⟨s,smp_,h⟩
  .exact⟨u,by simp[hu],h⟩
theorem jrB{t:w}:¬inG t []:=by rintro⟨s,hs,_⟩;simp at hs
theorem OrS.weak{p q:w}(hq:q<=p):∀{l:SgL},OrS p l->OrS q l
 |[],_=>trivial
 |_::_,h=>⟨by have:=h.1;omega,h.2⟩
theorem OrS.low{p t:w}:∀{l:SgL},OrS p l->inG t l->p<=t
 |[],_,h=>absurd h jrB
 |s::r,h,hx=>by
  rcases jiN.1 hx with hx|hx
  .have:=h.1;omega
  .have:=OrS.low h.2.2 hx;have:=h.1;have:=h.2.1;omega
theorem OrS.app{e:w}{r:SgL}(hr:OrS e r):∀{l:SgL}{p:w},OrS p l->p<=e->(∀x∈l,x.2.1<=e)->OrS p (l++r)
 |[],_,_,hp,_=>hr.weak hp
 |x::l,p,h,_,hl=>⟨h.1,h.2.1,hr.app h.2.2 (hl x smp_) (λy hy=>hl y (by simp[hy]))⟩
theorem OrS.apart{p:w}:∀{l:SgL},OrS p l->l.Pairwise (λx y=>x.2.1<=y.1)/\∀x∈l,p<=x.1
 |[],_=>⟨Ï,smp_⟩
 |x::l,h=>by
  obtain⟨h1,h2⟩:=OrS.apart h.2.2
  exact⟨List.pairwise_cons.2 ⟨h2,h1⟩,λy hy=>by
   rcases List.mem_cons.1 hy with rfl|hy
   .exact h.1
   .have:=h2 y hy;have:=h.1;have:=h.2.1;omega⟩
def lvO(s:j0u)(p:w):SL:=(j7v s p).getD []
def woO(s:j0u)(x:SgT):SL:=(j4w [(x.1,x.2.1)] (lvO s x.2.2)).getD []
def prs(s:j0u)(x:SgT):SgL:=if x.2.2<0 then [] else (woO s x).map λu=>(u.1,u.2,x.2.2)
section
variable{nm:Í}{ls:D j0c}{es:D j1V}{np:Ä}(hE:∀x∈es,ECk np x)(hl:es.length<=48)
include hE hl
theorem jAJ(p:w):j7v (nm,ls,es) p=I (lvO (nm,ls,es) p)/\StS (-1) (lvO (nm,ls,es) p)/\(∀t,inS t (lvO (nm,ls,es) p)↔jbo es p t=Û)/\(lvO (nm,ls,es) p).length<=es.length:=by
 obtain⟨out,e,h⟩:=jxf hE hl nm ls p;have:lvO (nm,ls,es) p=out:=by simp[lvO,e]
 rw[this];exact⟨e,h⟩
theorem jxg{x:SgT}(hx:x.1<x.2.1):j4w [(x.1,x.2.1)] (lvO (nm,ls,es) x.2.2)=I (woO (nm,ls,es) x)/\StS (x.1-1) (woO (nm,ls,es) x)/\
  (∀t,inS t (woO (nm,ls,es) x)↔(x.1<=t/\t<x.2.1)/\jbo es x.2.2 t=Ó)/\(woO (nm,ls,es) x).length<=1+es.length:=by
 obtain⟨_,l1,l2,l3⟩:=jAJ (nm:=nm) (ls:=ls) hE hl x.2.2;obtain⟨out,e,h1,h2,h3⟩:=jjz (B:=lvO (nm,ls,es) x.2.2) omg_ (A:=[(x.1,x.2.1)]) (p:=x.1-1) ⟨by dsimp only;omega,hx,trivial⟩ l1 smp_;have:woO (nm,ls,es) x=out:=by simp[woO,e]
 rw[this];refine⟨e,h1,λt=>?_,by rw[List.length_singleton]at h3;omega⟩;rw[h2 t,l2 t,j0i];constructor
 .rintro⟨h|h,h'⟩
  .exact⟨h,by simpa using h'⟩
  .exact absurd h j3n
 .rintro⟨h,h'⟩
  exact⟨.inl h,by simp[h']⟩
omit hE hl in
theorem jAK{S:SgL}{m j f e p:w}{mp:D (w×SL)}{W:SL}(hW:W.length<=1000):∀(n i:Ä)(acc:SgL),i+n=W.length->acc.length+n<=1000000000->
  j6G S m j (W.length:w) (i:w) nm ls es f e p mp acc W=I (S,m,j,nm,ls,es,mp,acc++(W.drop i).map λu=>(u.1,u.2,p))
 |0,i,acc,hi,_=>by
  rw[jck];simp only[j3J];rw[j01 omg_,j7,j06,G omg_];simp
 |n+1,i,acc,hi,ha=>by
  have hi':i<W.length:=omg_;have hgd:W.getD i (0,0)=W[i]:=by simp[J,hi']
  rw[jck];simp only[j3J];rw[j00 omg_,j0L,j05 (x:=(i:w)+1)];simp only[j6,j8,hgd];rw[j00 (by simp[j02];omega),j6,j03,z hi',Î];have:=jAK (S:=S) (m:=m) (j:=j) (f:=f) (e:=e) (p:=p) (mp:=mp) hW n (i+1) (acc++[(W[i].1,W[i].2,p)]) omg_ sqo_;rw[U]at this;exact this
theorem jxh{S:SgL}(hS:S.length<=100000)(hpos:∀x∈S,x.1<x.2.1):∀(n i:Ä)(mp:D (w×SL))(acc:SgL),i+n=S.length->(∀p,j1W mp p=Û->j1r [] mp p=lvO (nm,ls,es) p)->acc.length<=49*i->
  j6H S (S.length:w) (i:w) nm ls es mp acc=I (acc++(S.drop i).flatMap (prs (nm,ls,es)))
 |0,i,mp,acc,hi,_,_=>by
  rw[jcl];simp only[j3K,j3X];rw[j01 omg_,j7,j06,G omg_];simp
 |n+1,i,mp,acc,hi,hm,ha=>by
  have hi':i<S.length:=omg_;have hgd:S.getD i (0,0,0)=S[i]:=by simp[J,hi']
  have hp:=hpos _ (Å hi');rw[jcl];simp only[j3K,j3X];rw[j00 (show (i:w)<(S.length:w) by omega),j0L];simp only[j6,j8,hgd];rw[z hi',Ë];by_cases hneg:S[i].2.2<0
  .rw[j00 hneg,j6,j05 (x:=(i:w)+1),j03];have e:prs (nm,ls,es) S[i]=[]:=if_pos hneg;rw[e,Â];exact jxh hS hpos n (i+1) mp acc omg_ hm omg_
  .have e:prs (nm,ls,es) S[i]=(woO (nm,ls,es) S[i]).map λu=>(u.1,u.2,S[i].2.2):=if_neg hneg;obtain⟨w1,_,_,w4⟩:=jxg (nm:=nm) (ls:=ls) hE hl hp;rw[j01 hneg,j7]
   have fin:∀mp':D (w×SL),(∀p,j1W mp' p=Û->j1r [] mp' p=lvO (nm,ls,es) p)->j1r [] mp' S[i].2.2=lvO (nm,ls,es) S[i].2.2->
     lpK ((j4w [(S[i].1,S[i].2.1)] (j1r [] mp' S[i].2.2)).bind λr49=>
      (j6G S (S.length:w) (i:w) (H r49.length) 0 nm ls es S[i].1 S[i].2.1 S[i].2.2 mp' acc r49).bind λq2=>
       (I (Sum.inl (q2.1,q2.2.1,w64 (q2.2.2.1+1),q2.2.2.2.1,q2.2.2.2.2.1,q2.2.2.2.2.2.1,q2.2.2.2.2.2.2.1,q2.2.2.2.2.2.2.2)):Ú ((SgL×w×w×Í×D j0c×D j1V×D (w×SL)×SgL) ⊕ SgL)))
      (λh=>j6H h.1 h.2.1 h.2.2.1 h.2.2.2.1 h.2.2.2.2.1 h.2.2.2.2.2.1 h.2.2.2.2.2.2.1 h.2.2.2.2.2.2.2)=I (acc++(prs (nm,ls,es) S[i]++(S.drop (i+1)).flatMap (prs (nm,ls,es)))):=λmp' hm' hg=>by
    have l2:=jAK (nm:=nm) (ls:=ls) (es:=es) (S:=S) (m:=(S.length:w)) (j:=(i:w)) (f:=S[i].1) (e:=S[i].2.1) (p:=S[i].2.2) (mp:=mp') (W:=woO (nm,ls,es) S[i]) omg_ (woO (nm,ls,es) S[i]).length 0 acc omg_ omg_;rw[hg,w1];simp only[j4];rw[show j6G S (S.length:w) (i:w) (H (woO (nm,ls,es) S[i]).length) 0 nm ls es S[i].1 S[i].2.1 S[i].2.2 mp' acc (woO (nm,ls,es) S[i])=_ from l2];simp only[j4,À];rw[j05 (x:=(i:w)+1),j03,<-e,<-U];exact jxh hS hpos n (i+1) mp' _ omg_ hm' (by rw[R,e,É];omega)
   cases hh:j1W mp S[i].2.2 with
   |true=>simp only[Ì,j7];exact fin mp hm (hm _ hh)
   |false=>
    simp only[Õ,j6];rw[show j7v (nm,ls,es) S[i].2.2=_ from (jAJ (nm:=nm) (ls:=ls) hE hl S[i].2.2).1];simp only[j4];refine fin _ (λp hp'=>?_) ?_
    .rw[jjB];by_cases hpe:p=S[i].2.2
     .rw[j3m hpe,j6,hpe]
     .rw[jjA,j1p hpe,Ü]at hp';rw[j1p hpe,j7];exact hm p hp'
    .rw[jjB];simp
theorem juy{S:SgL}(hS:S.length<=100000)(hpos:∀x∈S,x.1<x.2.1):j9p (nm,ls,es) S=I (S.flatMap (prs (nm,ls,es))):=by
 simp only[j9p,show H S.length=(S.length:w) from rfl];rw[show j6H S (S.length:w) 0 nm ls es [] []=_ from jxh hE hl hS hpos S.length 0 [] [] omg_ (λp h=>by simp[j1W]at h) smp_];rfl
theorem jCt{x:SgT}(hx:x.1<x.2.1):(prs (nm,ls,es) x).length<=1+es.length:=by
 unfold prs;split
 .simp
 .rw[É];exact(jxg (nm:=nm) (ls:=ls) hE hl hx).2.2.2
theorem jsX:∀{S:SgL},(∀x∈S,x.1<x.2.1)->(S.flatMap (prs (nm,ls,es))).length<=S.length*(1+es.length)
 |[],_=>smp_
 |x::S,h=>by
  have h1:=jCt (nm:=nm) (ls:=ls) hE hl (h x smp_);have h2:=jsX (S:=S) (λy hy=>h y (by simp[hy]));rw[Ë,R,È,Þ];omega
theorem jAL{p:w}{c e:w}:∀{W:SL}{q:w},StS q W->(∀u∈W,u.2<=e)->OrS (q+1) (W.map λu=>(u.1,u.2,c))/\(p<=q+1->OrS p (W.map λu=>(u.1,u.2,c)))
 |[],_,_,_=>⟨trivial,λ_=>trivial⟩
 |u::W,q,h,hb=>by
  have _:=hE;have _:=hl;have h3:=(jAL (p:=u.2) (c:=c) (e:=e) (W:=W) h.2.2 (λv hv=>hb v (by simp[hv]))).2 omg_;exact⟨⟨by have:=h.1;dsimp only;omega,h.2.1,h3⟩,λhp=>⟨by have:=h.1;dsimp only;omega,h.2.1,h3⟩⟩
theorem jxi{f:w->w}{b:w}:∀{S:SgL}{a:w},Ch f b a S->(∀x∈S,x.1<x.2.1)->
  OrS a (S.flatMap (prs (nm,ls,es)))/\(∀x∈S.flatMap (prs (nm,ls,es)),x.2.1<=b/\∀t,x.1<=t->t<x.2.1->f t=x.2.2/\0<=x.2.2/\jbo es x.2.2 t=Ó)/\
   ∀t,a<=t->t<b->0<=f t->jbo es (f t) t=Ó->inG t (S.flatMap (prs (nm,ls,es)))
 |[],a,h,_=>⟨trivial,smp_,λt h1 h2=>by have h:a=b:=h;omega⟩
 |x::S,a,h,hpos=>by
  obtain⟨h1,h2,h3,h4⟩:=h;have hx:=hpos x smp_;obtain⟨i1,i2,i3⟩:=jxi (f:=f) (b:=b) h4 (λy hy=>hpos y (by simp[hy]));have hle:=h4.le;obtain⟨_,w2,w3,_⟩:=jxg (nm:=nm) (ls:=ls) hE hl hx
  have hmem:∀y∈prs (nm,ls,es) x,0<=x.2.2/\y.2.2=x.2.2/\y.1<y.2.1/\x.1<=y.1/\y.2.1<=x.2.1/\∀t,y.1<=t->t<y.2.1->jbo es x.2.2 t=false:=λy hy=>by
   unfold prs at hy;split at hy
   .simp at hy
   .obtain⟨u,hu,rfl⟩:=List.mem_map.1 hy;have hm:=StS.mem w2 u hu;have e1:=(w3 (u.2-1)).1 ⟨u,hu,omg_,omg_⟩;exact⟨omg_,rfl,hm.2,by dsimp only;omega,by dsimp only;omega,λt t1 t2=>((w3 t).1 ⟨u,hu,t1,t2⟩).2⟩
  rw[Ë];refine⟨?_,λy hy=>?_,λt t1 t2 t3 t4=>?_⟩
  .refine OrS.app i1 ?_ h2 (λy hy=>(hmem y hy).2.2.2.2.1);unfold prs;split
   .trivial
   .exact(jAL hE hl (p:=a) (c:=x.2.2) (e:=x.2.1) w2 (λu hu=>by
     have hm:=StS.mem w2 u hu;have e1:=(w3 (u.2-1)).1 ⟨u,hu,omg_,omg_⟩;omega)).2 omg_
  .rcases List.mem_append.1 hy with hy|hy
   .obtain⟨g1,g2,g3,g4,g5,g6⟩:=hmem y hy;exact⟨omg_,λt t1 t2=>⟨by rw[g2];exact h3 t omg_ omg_,omg_,by rw[g2];exact g6 t t1 t2⟩⟩
   .exact i2 y hy
  .by_cases hlt:t<x.2.1
   .have hf:=h3 t t1 hlt;rw[hf]at t3 t4;obtain⟨u,hu,u1,u2⟩:=(w3 t).2 ⟨⟨omg_,hlt⟩,t4⟩;refine⟨(u.1,u.2,x.2.2),Ç _ ?_,u1,u2⟩;unfold prs;rw[if_neg omg_];exact List.mem_map.2 ⟨u,hu,rfl⟩
   .obtain⟨y,hy,y1,y2⟩:=i3 t omg_ t2 t3 t4;exact⟨y,Á _ hy,y1,y2⟩
end
def wiF:Ä->SgL->SL->SgL
 |n+1,s::a,u::b=>(if (if u.1>s.1 then u.1 else s.1)<(if u.2<s.2.1 then u.2 else s.2.1) then [((if u.1>s.1 then u.1 else s.1),(if u.2<s.2.1 then u.2 else s.2.1),s.2.2)] else [])++
  (if s.2.1<u.2 then wiF n a (u::b) else wiF n (s::a) b)
 |_,_,_=>[]
theorem jxj:∀(n:Ä)(a:SgL)(b:SL)(p q:w),a.length+b.length<=n->OrS p a->StS q b->
  OrS p (wiF n a b)/\OrS q (wiF n a b)/\(∀x∈wiF n a b,∃s∈a,s.1<=x.1/\x.2.1<=s.2.1/\x.2.2=s.2.2/\∀t,x.1<=t->t<x.2.1->inS t b)/\(∀t,inG t a->inS t b->inG t (wiF n a b))/\(wiF n a b).length<=a.length+b.length
 |0,a,b,p,q,hn,_,_=>by
  obtain rfl:a=[]:=List.length_eq_zero_iff.1 omg_;exact⟨trivial,trivial,by simp[wiF],λt h=>absurd h jrB,by simp[wiF]⟩
 |n+1,[],b,p,q,_,_,_=>⟨trivial,trivial,by simp[wiF],λt h=>absurd h jrB,by simp[wiF]⟩
 |n+1,_::_,[],p,q,_,_,_=>⟨trivial,trivial,by simp[wiF],λt _ h=>absurd h j3n,by simp[wiF]⟩
 |n+1,s::a,u::b,p,q,hn,ha,hb=>by
  obtain⟨a1,a2,a3⟩:=ha;obtain⟨b1,b2,b3⟩:=hb;simp only[È]at hn ⊢
  have hx:∃f t:w,f=(if u.1>s.1 then u.1 else s.1)/\t=(if u.2<s.2.1 then u.2 else s.2.1)/\(∀x,(f<=x/\x<t)↔(s.1<=x/\x<s.2.1)/\(u.1<=x/\x<u.2))/\p<=f/\q<=f/\t<=s.2.1/\t<=u.2/\s.1<=f:=by
   refine⟨_,_,rfl,rfl,λx=>?_,?_,?_,?_,?_,?_⟩
   .constructor
    .intro h;split at h<;>split at h<;>omega
    .intro h;split<;>split<;>omega
   all_goals split<;>omega
  obtain⟨f,t,ef,et,hi,f1,f2,t1,t2,f3⟩:=hx;simp only[wiF,<-ef,<-et]
  have key:∀(a':SgL)(b':SL)(r:SgL),OrS t r->OrS p r->OrS q r->(∀x∈r,∃s'∈(s::a),s'.1<=x.1/\x.2.1<=s'.2.1/\x.2.2=s'.2.2/\∀y,x.1<=y->y<x.2.1->inS y (u::b))->(∀y,inG y a'->inS y b'->inG y r)->
    r.length<=a'.length+b'.length->a'.length+b'.length+1=a.length+1+(b.length+1)->(∀y,inG y (s::a)->inS y (u::b)->(f<=y/\y<t)\/(inG y a'/\inS y b'))->
    OrS p ((if f<t then [(f,t,s.2.2)] else [])++r)/\OrS q ((if f<t then [(f,t,s.2.2)] else [])++r)/\(∀x∈((if f<t then [(f,t,s.2.2)] else [])++r),∃s'∈(s::a),s'.1<=x.1/\x.2.1<=s'.2.1/\x.2.2=s'.2.2/\∀y,x.1<=y->y<x.2.1->inS y (u::b))/\
     (∀y,inG y (s::a)->inS y (u::b)->inG y ((if f<t then [(f,t,s.2.2)] else [])++r))/\((if f<t then [(f,t,s.2.2)] else [])++r).length<=a.length+1+(b.length+1):=by
   intro a' b' r hr1 hr2 hr3 hr4 hr5 hl hl2 hiff;by_cases hft:f<t
   .rw[if_pos hft];refine⟨⟨f1,hft,hr1⟩,⟨f2,hft,hr1⟩,λx hx=>?_,λy y1 y2=>?_,sqo_⟩
    .rcases List.mem_cons.1 hx with rfl|hx
     .exact⟨s,smp_,f3,t1,rfl,λy y1 y2=>j0i.2 (.inl ((hi y).1 ⟨y1,y2⟩).2)⟩
     .exact hr4 x hx
    .rcases hiff y y1 y2 with h|h
     .exact jiN.2 (.inl h)
     .exact jiN.2 (.inr (hr5 y h.1 h.2))
   .rw[if_neg hft,Â];refine⟨hr2,hr3,hr4,λy y1 y2=>?_,omg_⟩;rcases hiff y y1 y2 with h|h
    .omega
    .exact hr5 y h.1 h.2
  by_cases hc:s.2.1<u.2
  .rw[if_pos hc];obtain⟨i1,i2,i3,i4,i5⟩:=jxj n a (u::b) s.2.1 q sqo_ a3 ⟨b1,b2,b3⟩;refine key a (u::b) _ (i1.weak t1) (i1.weak omg_) i2 (λx hx=>?_) i4 i5 sqo_ (λy y1 y2=>?_)
   .obtain⟨s',hs',r⟩:=i3 x hx;exact⟨s',by simp[hs'],r⟩
   .rcases jiN.1 y1 with h|h
    .rcases j0i.1 y2 with h'|h'
     .exact .inl ((hi y).2 ⟨h,h'⟩)
     .have:=StS.low b3 h';omega
    .exact .inr ⟨h,y2⟩
  .rw[if_neg hc];obtain⟨i1,i2,i3,i4,i5⟩:=jxj n (s::a) b p u.2 sqo_ ⟨a1,a2,a3⟩ b3;refine key (s::a) b _ (i2.weak t2) i1 (i2.weak omg_) (λx hx=>?_) i4 i5 sqo_ (λy y1 y2=>?_)
   .obtain⟨s',hs',r1,r2,r3,r4⟩:=i3 x hx;exact⟨s',hs',r1,r2,r3,λy y1 y2=>j0i.2 (.inr (r4 y y1 y2))⟩
   .rcases j0i.1 y2 with h|h
    .rcases jiN.1 y1 with h'|h'
     .exact .inl ((hi y).2 ⟨h',h⟩)
     .have:=OrS.low a3 h';omega
    .exact .inr ⟨y1,h⟩
theorem jxk{A:SgL}{B:SL}(hA:A.length<=10000000)(hB:B.length<=10000000):∀(n i k:Ä)(acc:SgL),i<=A.length->k<=B.length->(A.length-i)+(B.length-k)=n->acc.length+n<=3000000->
  j5M A B (i:w) (k:w) acc=I (acc++wiF n (A.drop i) (B.drop k))
 |n,i,k,acc,hi,hk,hn,hacc=>by
  rw[ji9];simp only[j5x,j6q,show H (Ø A)=(A.length:w) from rfl,show H (Ø B)=(B.length:w) from rfl];by_cases hend:i<A.length/\k<B.length
  .obtain⟨hi',hk'⟩:=hend;obtain⟨n,rfl⟩:∃m,n=m+1:=⟨n-1,omg_⟩;have gA:A.getD i (0,0,0)=A[i]:=by simp[J,hi']
   have gB:B.getD k (0,0)=B[k]:=by simp[J,hk']
   rw[j00 (show (i:w)<(A.length:w) by omega),j00 (show (k:w)<(B.length:w) by omega),j0N (show (0:w)<=(i:w) by omega) omg_,j0N (show (0:w)<=(k:w) by omega) omg_];simp only[j6,j8,gA,gB];rw[j05 (x:=(i:w)+1),j05 (x:=(k:w)+1)];rw[z hi',z hk'];simp only[wiF];generalize (if B[k].1>A[i].1 then B[k].1 else A[i].1:w)=f;generalize (if B[k].2<A[i].2.1 then B[k].2 else A[i].2.1:w)=t
   have ih1:∀acc':SgL,acc'.length<=acc.length+1->j5M A B ((i:w)+1) (k:w) acc'=I (acc'++wiF n (A.drop (i+1)) (B[k]::B.drop (k+1))):=λacc' ha'=>by
    have:=jxk hA hB n (i+1) k acc' omg_ omg_ omg_ omg_;rw[<-z hk'];exact this
   have ih2:∀acc':SgL,acc'.length<=acc.length+1->j5M A B (i:w) ((k:w)+1) acc'=I (acc'++wiF n (A[i]::A.drop (i+1)) (B.drop (k+1))):=λacc' ha'=>by
    have:=jxk hA hB n i (k+1) acc' omg_ omg_ omg_ omg_;rw[<-z hi'];exact this
   by_cases hft:f<t
   .rw[j00 hft,if_pos hft,j00 (by simp[j02];omega)];simp only[j6];by_cases hc:A[i].2.1<B[k].2
    .rw[j00 hc,if_pos hc];simp only[j6,j03];rw[ih1 _ smp_,U]
    .rw[j01 hc,if_neg hc];simp only[j7,j03];rw[ih2 _ smp_,U]
   .rw[j01 hft,if_neg hft];simp only[j7];by_cases hc:A[i].2.1<B[k].2
    .rw[j00 hc,if_pos hc];simp only[j6,j03];rw[ih1 _ omg_,Â]
    .rw[j01 hc,if_neg hc];simp only[j7,j03];rw[ih2 _ omg_,Â]
  .have hc:cond (N ((i:w)<(A.length:w))) (N ((k:w)<(B.length:w))) Ó=false:=by
    by_cases h1:i<A.length
    .rw[j00 omg_,j6];exact j01 omg_
    .rw[j01 omg_,j7]
   rw[hc,j7,j06]
   have:wiF n (A.drop i) (B.drop k)=[]:=by
    by_cases h1:i<A.length
    .rw[Ò (show B.length<=k by omega)];cases n<;>cases A.drop i<;>rfl
    .rw[Ò (show A.length<=i by omega)];cases n<;>rfl
   rw[this,List.append_nil]
theorem jEd{l:SgL}(hl:l.length<=10000000):∀(n i:Ä)(acc:SL),i+n=l.length->acc.length<=i->jaz l (l.length:w) (i:w) acc=I (acc++(l.drop i).map λx=>(x.1,x.2.1))
 |0,i,acc,hi,_=>by
  rw[je5];simp only[j4J];rw[j01 omg_,j7,j06,G omg_];simp
 |n+1,i,acc,hi,ha=>by
  have hi':i<l.length:=omg_;have hgd:l.getD i (0,0,0)=l[i]:=by simp[J,hi']
  rw[je5];simp only[j4J];rw[j00 omg_,j0L,j05 (x:=(i:w)+1)];simp only[j6,j8,hgd];rw[j00 (by simp[j02];omega),j6,j03,z hi',Î];have:=jEd hl n (i+1) (acc++[(l[i].1,l[i].2.1)]) omg_ sqo_;rw[U]at this;exact this
theorem jzr{l:SgL}(hl:l.length<=10000000){lo hi:w}(h0:0<=lo)(h1:hi<=8589934592)(hb:∀x∈l,lo<=x.1/\x.1<x.2.1/\x.2.1<=hi) :
  ∃out,jcm l=I out/\StS (lo-1) out/\(∀t,inS t out↔inG t l)/\out.length<=l.length:=by
 have lp:=jEd hl l.length 0 [] omg_ smp_;rw[Â,À]at lp
 have hb':∀s∈l.map (λx=>(x.1,x.2.1)),lo<=s.1/\s.1<s.2/\s.2<=hi:=λs h=>by
  obtain⟨x,hx,rfl⟩:=List.mem_map.1 h;exact hb x hx
 obtain⟨out,e,g1,g2,g3,g4⟩:=jf2 (l:=l.map λx=>(x.1,x.2.1)) (by simpa using hl) (λs h=>by have:=hb' s h;omega) (lo:=lo) (hi:=hi) (λs h _=>by have:=hb' s h;omega);refine⟨out,?_,g1,λt=>(g2 t).trans ⟨?_,?_⟩,by simpa using g3⟩
 .simp only[jcm,show H l.length=(l.length:w) from rfl];rw[show jaz l (l.length:w) 0 []=_ from lp];simp only[j4,e]
 .rintro⟨s,hs,h⟩
  obtain⟨x,hx,rfl⟩:=List.mem_map.1 hs;exact⟨x,hx,h⟩
 .rintro⟨x,hx,h⟩
  exact⟨_,List.mem_map.2 ⟨x,hx,rfl⟩,h⟩
section
variable{zs:D j0z}{ps:D j0d}{cs:D CalT}(hs:SOk2 zs ps cs)
include hs
end
def Gi(gd:Ä->Ý)(len:Ä):Ä->Ú Ä
 |0=>ß
 |m+1=>match Gi gd len m with
  |some i=>I i
  |none=>cond (gd (len-m-1)) (I (len-m-1)) ß
theorem jxl(gd:Ä->Ý)(len:Ä):∀m,m<=len->topI gd len=match Gi gd len m with
  |some i=>I i
  |none=>topI gd (len-m)
 |0,_=>rfl
 |m+1,h=>by
  rw[jxl gd len m omg_];simp only[Gi];cases Gi gd len m with
  |some i=>rfl
  |none=>
   dsimp only
   rw[show len-m=(len-m-1)+1 by omega,topI,show len-(m+1)=len-m-1 by omega,show len-m-1+1-1=len-m-1 by omega];cases gd (len-m-1)<;>rfl
def Wv(gd:Ä->Ý)(pf:Ä->w)(len m:Ä):Ú Int:=(Gi gd len m).map pf
theorem jrC(gd:Ä->Ý)(pf:Ä->w)(len m:Ä):Wv gd pf len (m+1)=match Wv gd pf len m with
  |some p=>I p
  |none=>cond (gd (len-m-1)) (I (pf (len-m-1))) none:=by
 simp only[Wv,Gi];cases Gi gd len m with
 |some i=>rfl
 |none=>cases gd (len-m-1)<;>rfl
theorem jAM(es:D j1V)(t:w)(pf:Ä->w)(len:Ä):topP es t pf len=(Wv (j6W es t pf) pf len len).getD (-1):=by
 simp only[topP,Wv,jxl (j6W es t pf) len len (Ô _)];cases Gi (j6W es t pf) len len with
 |some i=>rfl
 |none=>simp only[Nat.sub_self,topI];rfl
theorem jCu:Go.Sort.SWO (Go.Proofs.ltOf λ(x y:Go.Lft.Sml (.pair (.int .i64) (.pair (.int .i64) (.int .i64))))=>(j3h x.1 y.1).getD 0):=by
 refine job (λx=>x.1.1) (λx=>?_) _ λx y=>rfl;have:=x.2;simp only[j3y,X,decide_eq_true_eq]at this;exact this.1
theorem juz{l:SgL}(hl:l.length<=1000000000)(hb:∀x∈l, -1000000000000<=x.1/\x.1<=1000000000000 /\ -1000000000000<=x.2.1/\x.2.1<=1000000000000 /\ -1000000000000<=x.2.2/\x.2.2<=1000000000000) :
  ∃L,j0A l=I L/\L.Perm l/\L.Pairwise (λx y=>x.1<=y.1):=by
 obtain⟨L,e,hp,hs⟩:=jkp (a:= .pair (.int .i64) (.pair (.int .i64) (.int .i64))) (cf:=λx y=>(j3h x y).getD 0) jCu (xs:=l) (λx hx=>by
  have:=hb x hx;simp only[j3y,X,decide_eq_true_eq];refine⟨⟨?_,?_⟩,⟨?_,?_⟩,⟨?_,?_⟩⟩
  .exact Ê (by decide) this.1
  .exact Ê this.2.1 (by decide)
  .exact Ê (by decide) this.2.2.1
  .exact Ê this.2.2.2.1 (by decide)
  .exact Ê (by decide) this.2.2.2.2.1
  .exact Ê this.2.2.2.2.2 (by decide)) (by show Ø l<_;omega)
 refine⟨L,e,hp,?_⟩;refine Ð (λ{x y} hx hy h=>?_) hs;have h1:=hb x (hp.mem_iff.1 hx);have h2:=hb y (hp.mem_iff.1 hy);have h':¬w64 (y.1-x.1)<0:=h;rw[j05 (x:=y.1-x.1)]at h';omega
theorem jEe{F:SL}(hF:F.length<=10000000):∀(n i:Ä)(acc:SgL),i+n=F.length->acc.length+n<=1000000000->j6s (F.length:w) (i:w) F acc=I (acc++(F.drop i).map λu=>(u.1,u.2, -1))
 |0,i,acc,hi,_=>by
  rw[jab];simp only[j2u];rw[j01 omg_,j7,j06,G omg_];simp
 |n+1,i,acc,hi,ha=>by
  have hi':i<F.length:=omg_;have hgd:F.getD i (0,0)=F[i]:=by simp[J,hi']
  rw[jab];simp only[j2u];rw[j00 omg_,j0L,j05 (x:=(i:w)+1)];simp only[j6,j8,hgd];rw[j00 (by simp[j02];omega),j6,j03,z hi',Î];have:=jEe hF n (i+1) (acc++[(F[i].1,F[i].2, -1)]) omg_ sqo_;rw[U]at this;exact this
def apart(x y:SgT):Prop:=x.2.1<=y.1\/y.2.1<=x.1
section
variable{zs:D j0z}{ps:D j0d}{cs:D CalT}(hs:SOk2 zs ps cs)
 {nm:Í}{ls:D j0c}{es:D j1V}(hL:∀L∈ls,LCk zs.length ps.length cs.length L)(hll:ls.length<=4)(hE:∀x∈es,ECk ps.length x)(hel:es.length<=9)
 {ss:D j0u}{a b:w}(ha:0<=a)(hab:a<=b)(hb:b<=8589934592)(hlen:b-a<=35078400)
include hs hL hll hE hel ha hab hb hlen
structure jxm(zs:D j0z)(cs:D CalT)(ls:D j0c)(es:D j1V)(a b:w)(m:Ä)(F:SL)(O:SgL):Prop where
 st:StS (a-1) F
 fb:∀t,inS t F->t<b
 fr:∀t,a<=t->t<b->(inS t F↔Wv (j6W es t (pfX zs cs ls t)) (pfX zs cs ls t) ls.length m=ß)
 seg:∀x∈O,a<=x.1/\x.1<x.2.1/\x.2.1<=b/\∀t,x.1<=t->t<x.2.1->Wv (j6W es t (pfX zs cs ls t)) (pfX zs cs ls t) ls.length m=I x.2.2
 ap:O.Pairwise apart
 cov:∀t,a<=t->t<b->Wv (j6W es t (pfX zs cs ls t)) (pfX zs cs ls t) ls.length m≠ß->inG t O
 fl:F.length+300000<=2^m*300001
 ol:O.length<=m*4000000
theorem jCv{k m:Ä}(hk:k+m+1=ls.length){F:SL}{O:SgL}(hI:jxm zs cs ls es a b m F O) :
  ∃S Q W F',j2a ((zs,ps,cs,ss),zs.map tb) (ls.getD k (Æ,0,(0,0),0,0,[],[],0,0)) a b=I S/\
   j9p (nm,ls,es) S=I Q/\jdb Q F=I W/\O.length+W.length<=j02/\(∃P,jcm W=I P/\j4w F P=I F')/\jxm zs cs ls es a b (m+1) F' (O++W):=by
 have hk':k<ls.length:=omg_;have hLk:=hL _ (Å hk');have hgd:ls.getD k (Æ,0,(0,0),0,0,[],[],0,0)=ls[k]:=by simp[J,hk']
 have hpf:∀t,pfX zs cs ls t k=perX zs cs ls[k] t:=λt=>by simp only[pfX,hgd]
 obtain⟨S,e1,c1,l1⟩:=jsT hs hLk (ss:=ss) ha hab hb hlen;have hpos:=c1.pos;have e2:=juy (nm:=nm) (ls:=ls) hE omg_ (S:=S) omg_ hpos;obtain⟨p1,p2,p3⟩:=jxi (nm:=nm) (ls:=ls) hE omg_ c1.ch hpos;have pl:=jsX (nm:=nm) (ls:=ls) hE omg_ (S:=S) hpos;have pl2:S.length*(1+es.length)<=30000*10:=Nat.mul_le_mul l1 omg_;generalize S.flatMap (prs (nm,ls,es))=Q at *;have hm4:m<=3:=omg_;have hpow:2^m<=2^3:=Ö omg_ hm4;have hfl:=hI.fl;have hol:=hI.ol;have hF:F.length<=10000000:=omg_;have lp:=jxk (A:=Q) (B:=F) omg_ hF (Q.length+F.length) 0 0 [] omg_ omg_ omg_ sqo_;rw[Â,À,À]at lp;obtain⟨w1,_,w3,w4,w5⟩:=jxj (Q.length+F.length) Q F a (a-1) (Ô _) p1 hI.st;generalize wiF (Q.length+F.length) Q F=W at *
 have hWin:∀x∈W,a<=x.1/\x.1<x.2.1/\x.2.1<=b/\∀t,x.1<=t->t<x.2.1->inS t F/\perX zs cs ls[k] t=x.2.2/\0<=x.2.2/\jbo es x.2.2 t=false:=λx hx=>by
  have hne:∀(l:SgL)(q:w),OrS q l->∀y∈l,y.1<y.2.1:=by
   intro l;induction l with
   |nil=>intro q _ y hy;simp at hy
   |cons s r ih=>intro q h y hy;rcases List.mem_cons.1 hy with rfl|hy;exact h.2.1;exact ih _ h.2.2 y hy
  have h0:=hne W a w1 x hx;have h1:=(w1.apart).2 x hx;obtain⟨s,hs',r1,r2,r3,r4⟩:=w3 x hx;obtain⟨g1,g2⟩:=p2 s hs';refine⟨h1,h0,omg_,λt t1 t2=>?_⟩;obtain⟨g3,g4,g5⟩:=g2 t omg_ omg_;rw[r3];exact⟨r4 t t1 t2,g3,g4,g5⟩
 have hw0:∀x∈W,∀t,x.1<=t->t<x.2.1->Wv (j6W es t (pfX zs cs ls t)) (pfX zs cs ls t) ls.length (m+1)=I x.2.2:=λx hx t t1 t2=>by
  obtain⟨h1,h2,h3,h4⟩:=hWin x hx;obtain⟨g1,g2,g3,g4⟩:=h4 t t1 t2;have hn:=(hI.fr t omg_ omg_).1 g1;rw[jrC,hn,show ls.length-m-1=k by omega];have:j6W es t (pfX zs cs ls t) k=true:=by simp only[j6W,hpf,g2,g4];simp[g3]
  simp only[this,j6,hpf,g2]
 have hold:∀t p,Wv (j6W es t (pfX zs cs ls t)) (pfX zs cs ls t) ls.length m=I p->Wv (j6W es t (pfX zs cs ls t)) (pfX zs cs ls t) ls.length (m+1)=I p:=λt p h=>by rw[jrC,h]
 obtain⟨P,e4,q1,q2,q3⟩:=jzr (l:=W) omg_ (lo:=a) (hi:=b) ha hb (λx hx=>⟨(hWin x hx).1,(hWin x hx).2.1,(hWin x hx).2.2.1⟩);obtain⟨F',e5,f1,f2,f3⟩:=jjz (B:=P) omg_ hI.st q1 hF;refine⟨S,Q,W,F',by rw[hgd];exact e1,e2,?_,by simp[j02];omega,⟨P,e4,e5⟩,?_⟩
 .simp only[jdb,show j5M Q F 0 0 []=_ from lp];rfl
 .have hcase:∀t,a<=t->t<b->inS t F->inG t W\/Wv (j6W es t (pfX zs cs ls t)) (pfX zs cs ls t) ls.length (m+1)=none:=λt t1 t2 hf=>by
   have hn:=(hI.fr t t1 t2).1 hf;by_cases hg:j6W es t (pfX zs cs ls t) k=Û
   .left;refine w4 t (p3 t t1 t2 ?_ ?_) hf
    .simp only[j6W,hpf,X,decide_eq_true_eq]at hg;exact hg.1
    .simp only[j6W,hpf,X,Bool.not_eq_true']at hg;exact hg.2
   .right;rw[jrC,hn,show ls.length-m-1=k by omega,Bool.eq_false_iff.2 hg];rfl
  refine⟨f1,λt h=>hI.fb t ((f2 t).1 h).1,λt t1 t2=>?_,λx hx=>?_,?_,λt t1 t2 hne=>?_,?_,?_⟩
  .rw[f2 t,q2 t];constructor
   .rintro⟨h1,h2⟩
    rcases hcase t t1 t2 h1 with h|h
    .exact absurd h h2
    .exact h
   .intro h
    have hn:Wv (j6W es t (pfX zs cs ls t)) (pfX zs cs ls t) ls.length m=none:=by
     cases hw:Wv (j6W es t (pfX zs cs ls t)) (pfX zs cs ls t) ls.length m with
     |none=>rfl
     |some p=>rw[hold t p hw]at h;simp at h
    refine⟨(hI.fr t t1 t2).2 hn,?_⟩
    rintro⟨x,hx,x1,x2⟩
    rw[hw0 x hx t x1 x2]at h;simp at h
  .rcases List.mem_append.1 hx with hx|hx
   .obtain⟨h1,h2,h3,h4⟩:=hI.seg x hx;exact⟨h1,h2,h3,λt t1 t2=>hold t _ (h4 t t1 t2)⟩
   .obtain⟨h1,h2,h3,_⟩:=hWin x hx;exact⟨h1,h2,h3,hw0 x hx⟩
  .refine List.pairwise_append.2 ⟨hI.ap,(w1.apart).1.imp (λh=> .inl h),λx hx y hy=>?_⟩;obtain⟨h1,h2,h3,h4⟩:=hI.seg x hx;obtain⟨g1,g2,g3,g4⟩:=hWin y hy;apply Ã;intro hn;simp only[apart,not_or]at hn
   have hc:∃t,x.1<=t/\t<x.2.1/\y.1<=t/\t<y.2.1:=by
    by_cases hxy:x.1<=y.1
    .exact⟨y.1,omg_,omg_,omg_,omg_⟩
    .exact⟨x.1,omg_,omg_,omg_,omg_⟩
   obtain⟨t,t1,t2,t3,t4⟩:=hc;have hw:=h4 t t1 t2;have:=(hI.fr t omg_ omg_).1 (g4 t t3 t4).1;rw[hw]at this;simp at this
  .by_cases hf:inS t F
   .rcases hcase t t1 t2 hf with⟨x,hx,h⟩|h
    .exact⟨x,Á _ hx,h⟩
    .exact absurd h hne
   .have hw:Wv (j6W es t (pfX zs cs ls t)) (pfX zs cs ls t) ls.length m≠none:=λh=>hf ((hI.fr t t1 t2).2 h);obtain⟨x,hx,h⟩:=hI.cov t t1 t2 hw;exact⟨x,Ç _ hx,h⟩
  .rw[Nat.pow_succ];omega
  .rw[R,Þ];omega
theorem jEf:∀(n m:Ä)(F:SL)(O:SgL),n+m=ls.length->jxm zs cs ls es a b m F O->
  ∃F' O',j6r (n:w) ls zs ps cs ss (zs.map tb) nm ls es a b F O=I (F',O')/\jxm zs cs ls es a b ls.length F' O'
 |0,m,F,O,hn,hI=>by
  rw[jaa];simp only[j2t];rw[j00 omg_,j6,j06];obtain rfl:m=ls.length:=omg_;exact⟨F,O,rfl,hI⟩
 |k+1,m,F,O,hn,hI=>by
  obtain⟨S,Q,W,F',e1,e2,e3,e4,⟨P,e5,e6⟩,hI'⟩:=jCv hs hL hll hE hel ha hab hb hlen (nm:=nm) (ss:=ss) (k:=k) (m:=m) omg_ hI;rw[jaa];simp only[j2t];rw[j01 omg_,j00 (show ((k+1:Ä):w)<=H ls.length by simp;omega),show ((k+1:Ä):w)-1=(k:w) by omega];simp only[j6,j7,j8];generalize ls.getD k (Æ,0,(0,0),0,0,[],[],0,0)=L at *;rw[show j2a ((zs,ps,cs,ss),zs.map tb) (L.1,L.2.1,(L.2.2.1.1,L.2.2.1.2),L.2.2.2.1,L.2.2.2.2.1,L.2.2.2.2.2.1,L.2.2.2.2.2.2.1,L.2.2.2.2.2.2.2.1,L.2.2.2.2.2.2.2.2) a b=_ from e1];simp only[j4,e2,e3];rw[j00 e4];simp only[j6,j4,e5,e6,j03];exact jEf k (m+1) F' (O++W) omg_ hI'
theorem jzs:∃out,j4W ((zs,ps,cs,ss),zs.map tb) (nm,ls,es) a b=I out/\Cov (λt=>topP es t (pfX zs cs ls t) ls.length) b ß a out/\out.length<=40000000:=by
 simp only[j4W];by_cases hge:a>=b
 .rw[j00 hge,j6];exact⟨[],rfl,show a=b by omega,smp_⟩
 .rw[j01 hge,j7]
  have h0:jxm zs cs ls es a b 0 [(a,b)] []:=⟨⟨by dsimp only;omega,by dsimp only;omega,trivial⟩,λt h=>by
   rcases j0i.1 h with h|h
   .exact h.2
   .exact absurd h j3n,λt t1 t2=>⟨λ_=>rfl,λ_=>j0i.2 (.inl ⟨t1,t2⟩)⟩,smp_,Ï,λt _ _ h=>absurd rfl h,smp_,smp_⟩
  obtain⟨F,O,e1,hI⟩:=jEf hs hL hll hE hel ha hab hb hlen (nm:=nm) (ss:=ss) ls.length 0 [(a,b)] [] omg_ h0;have hpow:2^ls.length<=2^4:=Ö omg_ hll;have hfl:=hI.fl;have hol:=hI.ol;have hF:F.length<=10000000:=omg_;have lp:=jEe hF F.length 0 O omg_ omg_;rw[À]at lp
  have hFm:∀u∈F,a<=u.1/\u.1<u.2/\u.2<=b/\∀t,u.1<=t->t<u.2->Wv (j6W es t (pfX zs cs ls t)) (pfX zs cs ls t) ls.length ls.length=none:=λu hu=>by
   have hm:=StS.mem hI.st u hu;have:=hI.fb (u.2-1) ⟨u,hu,omg_,omg_⟩;exact⟨omg_,hm.2,omg_,λt t1 t2=>(hI.fr t omg_ omg_).1 ⟨u,hu,t1,t2⟩⟩
  have hall:∀x∈O++F.map (λu=>((u.1,u.2, -1):SgT)),a<=x.1/\x.1<x.2.1/\x.2.1<=b/\∀t,x.1<=t->t<x.2.1->topP es t (pfX zs cs ls t) ls.length=x.2.2:=λx hx=>by
   rcases List.mem_append.1 hx with hx|hx
   .obtain⟨h1,h2,h3,h4⟩:=hI.seg x hx;exact⟨h1,h2,h3,λt t1 t2=>by rw[jAM,h4 t t1 t2];rfl⟩
   .obtain⟨u,hu,rfl⟩:=List.mem_map.1 hx;obtain⟨h1,h2,h3,h4⟩:=hFm u hu;exact⟨h1,h2,h3,λt t1 t2=>by rw[jAM,h4 t t1 t2];rfl⟩
  have hpr:∀x∈O++F.map (λu=>((u.1,u.2, -1):SgT)), -1<=x.2.2/\x.2.2<=100:=λx hx=>by
   obtain⟨h1,h2,h3,h4⟩:=hall x hx;have:=h4 x.1 (Int.le_refl _) h2;have hp1:=hs.so.p1;rw[<-this];simp only[topP];cases hT:topI (j6W es x.1 (pfX zs cs ls x.1)) ls.length with
   |none=>dsimp only;omega
   |some i=>
    dsimp only
    have hi:∀(g:Ä->Ý)(n i:Ä),topI g n=I i->i<n:=by
     intro g n;induction n with
     |zero=>intro i h;simp[topI]at h
     |succ n ih=>
      intro i h;simp only[topI]at h;cases hg:g n with
      |true=>rw[hg,j6]at h;simp at h;omega
      |false=>rw[hg,j7]at h;have:=ih i h;omega
    have hi':=hi _ _ _ hT;have e:pfX zs cs ls x.1 i=perX zs cs ls[i] x.1:=by simp[pfX,J,hi']
    rw[e];have:=(jx0 hs (hL _ (Å hi')) (t:=x.1) omg_ omg_).2;omega
  have hapart:(O++F.map (λu=>((u.1,u.2, -1):SgT))).Pairwise apart:=by
   refine List.pairwise_append.2 ⟨hI.ap,?_,λx hx y hy=>?_⟩
   .rw[List.pairwise_map]
    have:∀(l:SL)(q:w),StS q l->l.Pairwise (λu v=>u.2<=v.1):=by
     intro l;induction l with
     |nil=>intro q _;exact Ï
     |cons s r ih=>intro q h;exact List.pairwise_cons.2 ⟨λv hv=>by have:=StS.mem h.2.2 v hv;omega,ih _ h.2.2⟩
    exact(this F _ hI.st).imp (λh=> .inl h)
   .obtain⟨u,hu,rfl⟩:=List.mem_map.1 hy;obtain⟨h1,h2,h3,h4⟩:=hI.seg x hx;obtain⟨g1,g2,g3,g4⟩:=hFm u hu;apply Ã;intro hn;simp only[apart,not_or]at hn
    have hc:∃t,x.1<=t/\t<x.2.1/\u.1<=t/\t<u.2:=by
     by_cases hxy:x.1<=u.1
     .exact⟨u.1,omg_,omg_,omg_,omg_⟩
     .exact⟨x.1,omg_,omg_,omg_,omg_⟩
    obtain⟨t,t1,t2,t3,t4⟩:=hc;have hw:=h4 t t1 t2;rw[g4 t t3 t4]at hw;simp at hw
  have hcov:∀t,(a<=t/\t<b)↔∃s∈O++F.map (λu=>((u.1,u.2, -1):SgT)),s.1<=t/\t<s.2.1:=λt=>by
   constructor
   .rintro⟨t1,t2⟩
    by_cases hn:Wv (j6W es t (pfX zs cs ls t)) (pfX zs cs ls t) ls.length ls.length=ß
    .obtain⟨u,hu,u1,u2⟩:=(hI.fr t t1 t2).2 hn;exact⟨(u.1,u.2, -1),Á _ (List.mem_map.2 ⟨u,hu,rfl⟩),u1,u2⟩
    .obtain⟨x,hx,h⟩:=hI.cov t t1 t2 hn;exact⟨x,Ç _ hx,h⟩
   .rintro⟨x,hx,x1,x2⟩
    obtain⟨h1,h2,h3,_⟩:=hall x hx;omega
  have hZl:(O++F.map (λu=>((u.1,u.2, -1):SgT))).length<=40000000:=by rw[R,É];omega
  generalize hZ:O++F.map (λu=>((u.1,u.2, -1):SgT))=Z at *
  obtain⟨Y,e2,hp,hsrt⟩:=juz (l:=Z) omg_ (λx hx=>by have:=hall x hx;have:=hpr x hx;omega)
  have hch:Ch (λt=>topP es t (pfX zs cs ls t) ls.length) b a Y:=by
   refine jDU hab ?_ (λs h=>⟨(hall s (hp.mem_iff.1 h)).2.1,(hall s (hp.mem_iff.1 h)).2.2.2⟩) (λt=>?_)
   .have hY:Y.Pairwise apart:=(hp.pairwise_iff (λ{x y} h=>Or.symm h)).2 hapart;refine Ð (λ{x y} hx hy h=>?_) (hY.and hsrt);have h1:=hall x (hp.mem_iff.1 hx);have h2:=hall y (hp.mem_iff.1 hy);rcases h.1 with h3|h3
    .exact h3
    .have:=h.2;omega
   .rw[hcov t];constructor
    .rintro⟨x,hx,h⟩;exact⟨x,hp.mem_iff.2 hx,h⟩
    .rintro⟨x,hx,h⟩;exact⟨x,hp.mem_iff.1 hx,h⟩
  have hYl:=hp.length_eq;obtain⟨out,e3,h3,l3⟩:=jma (l:=Y) omg_ hch;refine⟨out,?_,h3,omg_⟩;simp only[j2o,j4];rw[show j6r (H ls.length) ls zs ps cs ss (zs.map tb) nm ls es a b [(a,b)] []=_ from e1];simp only[j4,show H F.length=(F.length:w) from rfl];rw[show j6s (F.length:w) 0 F O=_ from lp];simp only[j4];rw[e2];simp only[j4,e3]
end
def brd(l:SgL):D Int:=l.tail.map (·.1)
theorem jmc{f:w->w}{b:w}:∀{l:SgL}{q:Ú w}{a:w},Cov f b q a l->(∀x,x∈brd l↔a<x/\x<b/\f (x-1)≠f x)/\(brd l).Nodup/\l.length<=(brd l).length+1
 |[],q,a,h=>⟨λx=>⟨λhx=>by simp[brd]at hx,λhx=>by have h:a=b:=h;omega⟩,Ù,smp_⟩
 |[s],q,a,h=>by
  obtain⟨h1,h2,h3,h4,h5⟩:=h;have h5:s.2.1=b:=h5;exact⟨λx=>⟨λhx=>by simp[brd]at hx,λ⟨x1,x2,x3⟩=>absurd ((h4 (x-1) omg_ omg_).trans (h4 x omg_ omg_).symm) x3⟩,Ù,by simp[brd]⟩
 |s::u::r,q,a,h=>by
  obtain⟨h1,h2,h3,h4,h5⟩:=h;obtain⟨i1,i2,i3⟩:=jmc h5;have hu:=h5.1;have hle:=h5.2.2.2.2.ch.le;have hu2:=h5.2.1;have e:brd (s::u::r)=u.1::brd (u::r):=rfl;refine⟨λx=>?_,?_,by rw[e];simp only[È]at i3 ⊢;omega⟩
  .rw[e,List.mem_cons,i1 x];constructor
   .rintro (rfl|⟨x1,x2,x3⟩)
    .refine⟨omg_,omg_,?_⟩;rw[h4 (u.1-1) omg_ omg_,h5.2.2.2.1 u.1 omg_ omg_]
     exactλhe=>h5.2.2.1 (by rw[he])
    .exact⟨omg_,x2,x3⟩
   .rintro⟨x1,x2,x3⟩
    by_cases hx:x<s.2.1
    .exact absurd ((h4 (x-1) omg_ omg_).trans (h4 x omg_ omg_).symm) x3
    .by_cases hx2:x=s.2.1
     .left;omega
     .right;exact⟨omg_,x2,x3⟩
  .rw[e];refine List.nodup_cons.2 ⟨λhm=>?_,i2⟩;have:=(i1 u.1).1 hm;omega
theorem jrD{f:w->w}{a b:w}{l:SgL}{q:Ú w}(h:Cov f b q a l){E:D w}(hE:∀x,a<x->x<b->f (x-1)≠f x->x∈E):l.length<=E.length+1:=by
 obtain⟨h1,h2,h3⟩:=jmc h
 have:=h2.length_le_of_subset (l₂:=E) (λx hx=>by
  have:=(h1 x).1 hx;exact hE x this.1 this.2.1 this.2.2)
 omega
def edB(es:D j1V):D Int:=es.flatMap λx=>[x.2.2.2.1,x.2.2.2.2]
theorem jjC:∀es:D j1V,(edB es).length=2*es.length
 |[]=>rfl
 |x::es=>by
  have:=jjC es;simp only[edB,Ë,R,È,List.length_nil]at this ⊢;omega
theorem joD{es:D j1V}{x:j1V}(hx:x∈es):x.2.2.2.1∈edB es/\x.2.2.2.2∈edB es:=
 ⟨List.mem_flatMap.2 ⟨x,hx,smp_⟩,List.mem_flatMap.2 ⟨x,hx,smp_⟩⟩
theorem jmd{es:D j1V}{t:w}(ht:t∉edB es)(p:w):jbo es p (t-1)=jbo es p t:=by
 unfold jbo;rw[Bool.eq_iff_iff,Ñ,Ñ]
 have key:∀x∈es,(x.1==0&&(x.2.1==p&&(N (x.2.2.2.1<=t-1)&&N (t-1<x.2.2.2.2))))=(x.1==0&&(x.2.1==p&&(N (x.2.2.2.1<=t)&&N (t<x.2.2.2.2)))):=λx hx=>by
  obtain⟨m1,m2⟩:=joD hx;have n1:t≠x.2.2.2.1:=λe=>ht (e▸m1);have n2:t≠x.2.2.2.2:=λe=>ht (e▸m2)
  have e1:N (x.2.2.2.1<=t-1)=N (x.2.2.2.1<=t):=by
   by_cases h:x.2.2.2.1<=t
   .rw[j00 h,j00 omg_]
   .rw[j01 h,j01 omg_]
  have e2:N (t-1<x.2.2.2.2)=N (t<x.2.2.2.2):=by
   by_cases h:t<x.2.2.2.2
   .rw[j00 h,j00 omg_]
   .rw[j01 h,j01 omg_]
  rw[e1,e2]
 exact⟨λ⟨x,hx,h⟩=>⟨x,hx,by rw[<-key x hx];exact h⟩,λ⟨x,hx,h⟩=>⟨x,hx,by rw[key x hx];exact h⟩⟩
theorem jgG{es:D j1V}{t u:w}{pf pg:Ä->w}{n:Ä}(hp:∀i,i<n->pf i=pg i)(ha:∀p,jbo es p t=jbo es p u):topP es t pf n=topP es u pg n:=by
 have hg:∀m,m<=n->topI (j6W es t pf) m=topI (j6W es u pg) m:=by
  intro m;induction m with
  |zero=>intro _;rfl
  |succ m ih=>
   intro hm;have e:j6W es t pf m=j6W es u pg m:=by simp only[j6W,hp m omg_,ha]
   simp only[topI,e,ih omg_]
 have hi:∀(g:Ä->Ý)(n i:Ä),topI g n=I i->i<n:=by
  intro g n;induction n with
  |zero=>intro i h;simp[topI]at h
  |succ n ih=>
   intro i h;simp only[topI]at h;cases hg:g n with
   |true=>rw[hg,j6]at h;simp at h;omega
   |false=>rw[hg,j7]at h;have:=ih i h;omega
 simp only[topP,hg n (Ô _)];cases hT:topI (j6W es u pg) n with
 |none=>rfl
 |some i=>exact hp i (hi _ _ _ hT)
section
variable{zs:D j0z}{ps:D j0d}{cs:D CalT}(hs:SOk2 zs ps cs)
include hs
theorem jxn{a b:w}(ha:0<=a)(hab:a<=b)(hb:b<=8589934592)(hlen:b-a<=2592000):∀ls:D j0c,(∀L∈ls,LCk zs.length ps.length cs.length L)->
  ∃E:D w,E.length<=5000*ls.length/\∀L∈ls,∀x,a<x->x<b->perX zs cs L (x-1)≠perX zs cs L x->x∈E
 |[],_=>⟨[],smp_,smp_⟩
 |L::ls,hL=>by
  obtain⟨E,e1,e2⟩:=jxn ha hab hb hlen ls (λM hM=>hL M (by simp[hM]));obtain⟨S,_,c1,l1⟩:=jsU hs (hL L smp_) (ss:=[]) ha hab hb (M:=5) omg_ omg_;refine⟨brd S++E,?_,λM hM x x1 x2 x3=>?_⟩
  .have:(brd S).length<=S.length:=by simp[brd]
   rw[R,È];omega
  .rcases List.mem_cons.1 hM with rfl|hM
   .exact Ç _ (((jmc c1).1 x).2 ⟨x1,x2,x3⟩)
   .exact Á _ (e2 M hM x x1 x2 x3)
theorem jCw{ls:D j0c}{es:D j1V}(hL:∀L∈ls,LCk zs.length ps.length cs.length L){a b:w}(ha:0<=a)(hab:a<=b)(hb:b<=8589934592)(hlen:b-a<=2592000) :
  ∃E:D w,E.length<=5000*ls.length+2*es.length/\(∀x,a<x->x<b->topP es (x-1) (pfX zs cs ls (x-1)) ls.length≠topP es x (pfX zs cs ls x) ls.length->x∈E)/\∀x∈edB es,x∈E:=by
 obtain⟨E,e1,e2⟩:=jxn hs ha hab hb hlen ls hL;refine⟨E++edB es,by rw[R,jjC];omega,λx x1 x2 x3=>?_,λx hx=>Á _ hx⟩;apply Ã;intro hn;simp only[List.mem_append,not_or]at hn;refine x3 (jgG (λi hi=>?_) (λp=>jmd hn.2 p));apply Ã;intro hne;have e:∀t,pfX zs cs ls t i=perX zs cs ls[i] t:=λt=>by simp[pfX,J,hi]
 rw[e,e]at hne;exact hn.1 (e2 _ (Å hi) x x1 x2 hne)
theorem juA{ss:D j0u}(hc:j8W (zs,ps,cs,ss)){i:Ä}(hi:i<ss.length){a b:w}(ha:0<=a)(hab:a<=b)(hb:b<=8589934592)(hlen:b-a<=34560000) :
  jcg (zs,ps,cs,ss) (i:w) a b=I (((zs,ps,cs,ss),zs.map tb),0):=by
 simp only[jcg,jwY hs.so.ok hc,j4,Ì,j7,j8P,show H ss.length=(ss.length:w) from rfl,jap];rw[j00 (show (i:w)>=0 by omega),j00 (show (i:w)<(ss.length:w) by omega),j05 (x:=b-a),j00 (show a>=0 by omega),j00 (show a<=8589934592 by omega),j00 (show b>=a by omega),j00 hb,j00 hlen];rfl
end
section
variable{zs:D j0z}{ps:D j0d}{cs:D CalT}(hs:SOk2 zs ps cs)
include hs
end
section
variable{o:w}{l:TrL}(h:TOk o l)
include h
end
section
variable{zs:D j0z}{ps:D j0d}{cs:D CalT}(hs:SOk2 zs ps cs)
include hs
end
theorem jxo{f:Ä->Ý}:∀{n k:Ä},topI f n=I k->k<n
 |0,k,h=>by simp[topI]at h
 |n+1,k,h=>by
  simp only[topI]at h;cases hf:f n with
  |true=>rw[hf]at h;simp at h;omega
  |false=>rw[hf]at h;simp at h;have:=jxo h;omega
def jiO(t p:w)(x:j1V):Int:=
 if t<x.2.2.2.1\/x.2.2.2.2<=t then p else if x.1=1 then x.2.1 else if x.1=2/\p=x.2.1 then x.2.2.1 else if x.1=2/\p=x.2.2.1 then x.2.1 else p
def jbX(t:w):w->D j1V->w
 |p,[]=>p
 |p,x::r=>jbX t (jiO t p x) r
theorem jxp{es:D j1V}(hl:es.length<=100){t:w}:∀(n i:Ä)(p:w),i+n=es.length->jcG es p t (i:w)=I (jbX t p (es.drop i))
 |0,i,p,hi=>by
  rw[jgS];simp only[j6M,show H es.length=(es.length:w) from rfl];rw[j01 omg_,j7,j06,G omg_];rfl
 |n+1,i,p,hi=>by
  have hi':i<es.length:=omg_;have hgd:es.getD i (0,0,0,0,0)=es[i]:=by simp[J,hi']
  have ih:=λp=>jxp hl (t:=t) n (i+1) p omg_;rw[jgS];simp only[j6M,show H es.length=(es.length:w) from rfl];rw[j00 omg_,j0L,j05 (x:=(i:w)+1),z hi'];simp only[j6,j8,hgd,jbX];generalize es[i]=x;unfold jiO;by_cases ha:t<x.2.2.2.1\/x.2.2.2.2<=t
  .rw[if_pos ha]
   have:cond (N (t<x.2.2.2.1)) Û (N (t>=x.2.2.2.2))=true:=by
    rcases ha with ha|ha
    .rw[j00 ha];rfl
    .rw[j00 (show t>=x.2.2.2.2 from ha)];cases N (t<x.2.2.2.1)<;>rfl
   rw[this,j6,j03];exact ih p
  .rw[if_neg ha,j01 (show¬t<x.2.2.2.1 by omega),j01 (show¬t>=x.2.2.2.2 by omega)];simp only[j7];by_cases h1:x.1=1
   .rw[if_pos h1,j3m h1,j6,j03];exact ih _
   .rw[if_neg h1,j1p h1,j7];by_cases h2:x.1=2
    .rw[j3m h2];simp only[j6];by_cases h3:p=x.2.1
     .rw[if_pos ⟨h2,h3⟩,j3m h3,j6,j03];exact ih _
     .rw[if_neg (λh=>h3 h.2),j1p h3,j7];by_cases h4:p=x.2.2.1
      .rw[if_pos ⟨h2,h4⟩,j3m h4,j6,j03];exact ih _
      .rw[if_neg (λh=>h4 h.2),j1p h4,j7,j03];exact ih _
    .rw[if_neg (λh=>h2 h.1),if_neg (λh=>h2 h.1),j1p h2];simp only[j7,j03];exact ih _
theorem jxq{es:D j1V}(hl:es.length<=100){t:w}:∀(n i:Ä)(p:w),i+n=es.length->jdd p t es (es.length:w) (i:w)=I (jbX t p (es.drop i))
 |0,i,p,hi=>by
  rw[jfH];simp only[j5N];rw[j01 omg_,j7,j06,G omg_];rfl
 |n+1,i,p,hi=>by
  have hi':i<es.length:=omg_;have hgd:es.getD i (0,0,0,0,0)=es[i]:=by simp[J,hi']
  have ih:=λp=>jxq hl (t:=t) n (i+1) p omg_;rw[jfH];simp only[j5N,jhl,j4];rw[j00 omg_,j0L,j05 (x:=(i:w)+1),z hi'];simp only[j6,j8,hgd,jbX];generalize es[i]=x;unfold jiO;by_cases ha:t<x.2.2.2.1\/x.2.2.2.2<=t
  .rw[if_pos ha]
   have:cond (N (x.2.2.2.1<=t)) (N (t<x.2.2.2.2)) Ó=false:=by
    rcases ha with ha|ha
    .rw[j01 (show¬x.2.2.2.1<=t by omega)];rfl
    .rw[j01 (show¬t<x.2.2.2.2 by omega)];cases N (x.2.2.2.1<=t)<;>rfl
   rw[this];simp only[Õ,j6,j03];exact ih p
  .rw[if_neg ha,j00 (show x.2.2.2.1<=t by omega),j00 (show t<x.2.2.2.2 by omega)];simp only[j6,Ì,j7];by_cases h0:x.1=0
   .rw[j3m h0,if_neg omg_,if_neg omg_,if_neg omg_,j6,j03];exact ih p
   rw[j1p h0,j7];by_cases h1:x.1=1
   .rw[if_pos h1,j3m h1,j6,j03];exact ih _
   .rw[if_neg h1,j1p h1,j7];by_cases h2:x.1=2
    .rw[show (x.1 != 2)=Ó by simp[h2],j7];by_cases h3:p=x.2.1
     .rw[if_pos ⟨h2,h3⟩,j3m h3,j6,j03];exact ih _
     .rw[if_neg (λh=>h3 h.2),j1p h3,j7];by_cases h4:p=x.2.2.1
      .rw[if_pos ⟨h2,h4⟩,j3m h4,j6,j03];exact ih _
      .rw[if_neg (λh=>h4 h.2),j1p h4,j7,j03];exact ih _
    .rw[if_neg (λh=>h2 h.1),if_neg (λh=>h2 h.1),show (x.1 != 2)=Û by simp[h2],j6,j03];exact ih _
theorem jsY{nm:Í}{ls:D j0c}{es:D j1V}{p t:w}(hl:es.length<=1000):∀(n i:Ä),i+n=es.length->jeM p t (i:w) nm ls es=I (cond (jbo (es.drop i) p t) (.inl Û) (.inr ()))
 |0,i,hi=>by
  rw[jgR];simp only[j6L,show H es.length=(es.length:w) from rfl];rw[j01 omg_,j7,j06,G omg_];rfl
 |n+1,i,hi=>by
  have hlt:i<es.length:=omg_;have hgd:es.getD i (0,0,0,0,0)=es[i]:=by simp[J,hlt]
  have ih:=jsY (nm:=nm) (ls:=ls) (p:=p) (t:=t) hl n (i+1) omg_;rw[jgR];simp only[j6L,show H es.length=(es.length:w) from rfl];rw[j00 omg_,j0L,j05 (x:=(i:w)+1),z hlt];simp only[j6,j8,hgd];have ha:jbo (es[i]::es.drop (i+1)) p t=((es[i].1==0&&(es[i].2.1==p&&(N (es[i].2.2.2.1<=t)&&N (t<es[i].2.2.2.2))))||jbo (es.drop (i+1)) p t):=rfl;have e:(cond (cond (cond (es[i].1==(0:w)) (es[i].2.1==p) Ó) (N (es[i].2.2.2.1<=t)) Ó) (N (t<es[i].2.2.2.2)) Ó)=(es[i].1==0&&(es[i].2.1==p&&(N (es[i].2.2.2.1<=t)&&N (t<es[i].2.2.2.2)))):=by cases es[i].1==(0:w)<;>cases es[i].2.1==p<;>cases N (es[i].2.2.2.1<=t)<;>rfl
  rw[e,ha];cases (es[i].1==0&&(es[i].2.1==p&&(N (es[i].2.2.2.1<=t)&&N (t<es[i].2.2.2.2)))) with
  |true=>rfl
  |false=>rw[j7,j03,Ü];exact ih
theorem juB{nm:Í}{ls:D j0c}{es:D j1V}{p t:w}(hl:es.length<=1000):jkt (nm,ls,es) p t=I (jbo es p t):=by
 have:=jsY (nm:=nm) (ls:=ls) (p:=p) (t:=t) hl es.length 0 omg_;simp only[jkt,show jeM p t 0 nm ls es=_ from this,j4,À];cases jbo es p t<;>rfl
section
variable{zs:D j0z}{ps:D j0d}{cs:D CalT}(hs:SOk2 zs ps cs)
include hs
theorem jrE{ss:D j0u}{nm:Í}{ls:D j0c}{es:D j1V}(hel:es.length<=1000)(hll:ls.length<=1000)(hL:∀L∈ls,LCk zs.length ps.length cs.length L){t:w}(h0:0<=t)(h1:t<=8589934592):∀n:Ä,n<=ls.length->
  jee t ((n:w)-1) zs ps cs ss nm ls es=I (match topI (j6W es t (pfX zs cs ls t)) n with|some i=> .inl ((i:w),pfX zs cs ls t i)|none=> .inr ())
 |0,hn=>by
  rw[jin];simp only[j7G];rw[j01 omg_,j7,j06];rfl
 |n+1,hn=>by
  have hlt:n<ls.length:=omg_;have hgd:ls.getD n (Æ,0,(0,0),0,0,[],[],0,0)=ls[n]:=by simp[J,hlt]
  have ih:=jrE (ss:=ss) (nm:=nm) hel hll hL h0 h1 n omg_;have hp:=jzq hs (hL _ (Å hlt)) (ss:=ss) h0 h1;have e:pfX zs cs ls t n=perX zs cs ls[n] t:=by simp[pfX,J,hlt]
  rw[show ((n+1:Ä):w)-1=(n:w) by omega,jin];simp only[j7G];rw[j00 (show (n:w)>=0 by omega),j0L,j05 (x:=(n:w)-1)];simp only[j6,j8,hgd];rw[show jls (zs,ps,cs,ss) (ls[n].1,ls[n].2.1,(ls[n].2.2.1.1,ls[n].2.2.1.2),ls[n].2.2.2.1,ls[n].2.2.2.2.1,ls[n].2.2.2.2.2.1,ls[n].2.2.2.2.2.2.1,ls[n].2.2.2.2.2.2.2.1,ls[n].2.2.2.2.2.2.2.2) t=_ from hp];simp only[j4,topI,j6W,e];by_cases hp0:0<=perX zs cs ls[n] t
  .rw[j00 (show perX zs cs ls[n] t>=0 from hp0)];simp only[j6,juB hel,j4,Bool.true_and];cases jbo es (perX zs cs ls[n] t) t with
   |true=>simp only[Ì,j7,j03];exact ih
   |false=>simp only[Õ,j6,e];exact j06 ..
  .rw[j01 (show¬perX zs cs ls[n] t>=0 from hp0)];simp only[j7,Bool.false_and,j03];exact ih
def whoS(zs:D j0z)(cs:D CalT)(s:j0u)(t:w):Int:=jbX t (topP s.2.2 t (pfX zs cs s.2.1 t) s.2.1.length) s.2.2
theorem jEg{ss:D j0u}(hc:j8W (zs,ps,cs,ss)){i:Ä}(hi:i<ss.length){t:w}(h0:0<=t)(h1:t<=8589934592):jhq (zs,ps,cs,ss) (i:w) t=I (whoS zs cs ss[i] t):=by
 have hsc:=hc.sc _ (Å hi);have hll:=hsc.ll;have hel:=hsc.el;have hgs:ss.getD i (Æ,[],[])=ss[i]:=by simp[J,hi]
 have e8:=jE8 hc (jEb hs);have lp:=jrE hs (ss:=ss) (nm:=ss[i].1) (es:=ss[i].2.2) omg_ omg_ hsc.ly h0 h1 ss[i].2.1.length (Ô _)
 have et:∃k,jjl (zs,ps,cs,ss) (i:w) t=I (k,topP ss[i].2.2 t (pfX zs cs ss[i].2.1 t) ss[i].2.1.length):=by
  simp only[jjl];rw[j0L];simp only[j6,j8,hgs,show H ss[i].2.1.length=(ss[i].2.1.length:w) from rfl];rw[j05 (x:=(ss[i].2.1.length:w)-1),show jee t ((ss[i].2.1.length:w)-1) zs ps cs ss ss[i].1 ss[i].2.1 ss[i].2.2=_ from lp];simp only[j4,topP];cases topI (j6W ss[i].2.2 t (pfX zs cs ss[i].2.1 t)) ss[i].2.1.length with
  |none=>exact⟨_,rfl⟩
  |some k=>exact⟨_,rfl⟩
 obtain⟨k,et⟩:=et;have ef:=jxp (es:=ss[i].2.2) omg_ (t:=t) ss[i].2.2.length 0 (topP ss[i].2.2 t (pfX zs cs ss[i].2.1 t) ss[i].2.1.length) omg_;rw[À]at ef;simp only[jhq,jr2,jwo,show H ss.length=(ss.length:w) from rfl];rw[j00 (show (i:w)>=0 by omega),j00 (show (i:w)<(ss.length:w) by omega),j00 (show t>=0 from h0),j00 h1];simp only[j6,e8,j4,beq_self_eq_true,Ì,j7,jhp,et];rw[j0L];simp only[j6,j8,hgs,jku];rw[show jcG ss[i].2.2 (topP ss[i].2.2 t (pfX zs cs ss[i].2.1 t) ss[i].2.1.length) t 0=_ from ef];rfl
omit hs in
theorem tabx{i:w}(h0:0<=i)(h1:i<(zs.length:w)){c:CfgT}:j7x (c,zs.map tb) i=I (tb (zAt zs i)):=by
 simp only[j7x,É];rw[j0N h0 h1,j6,jsR h0 h1];rfl
end
end Go.Proofs.Pw
