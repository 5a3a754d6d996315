/- stack.SegmentsOf: who is on call by layers in a range. -/
import Derived.Test.YtgepoeafaklbjaaGreatPFPE
import Derived.Test.YtgepoeafaklbjaaGreatPFPD
import Derived.Test.YtgepoeafaklbjaaGreatPFPA
import Derived.Test.YtgepoeafaklbjaaGreatPFLD
open _root_ renaming Int->w,List->D,Nat->Â,ByteArray->Ñ,Option->Ú,Bool->Ü
open List renaming drop_eq_getElem_cons->z,drop_of_length_le->G,length_append->H,append_assoc->J,mem_append_right->U,nil_append->X,getD->À,drop_zero->Ä,mem_append_left->Å,length_cons->Æ,flatMap_cons->È,getElem_mem->É,length_map->Ë,map_cons->Ì,any_eq_true->Ï,drop_eq_nil_of_le->Ð,length->Ô,nodup_nil->Ù
open Option renaming some->I,none->Ý
open Bool renaming and_eq_true->N,not_true->Ó,false->Ö,not_false->Ø,true->Û
open Int renaming ofNat->R,le_trans->Ç
open Classical renaming byContradiction->Á
open Decidable renaming decide->Ã
open ByteArray renaming empty->Ê
open List.Pairwise renaming nil->Í,imp_of_mem->Î
open Nat renaming pow_le_pow_right->Ò,le_refl->Õ,add_mul->Þ
noncomputable section
open Go Go.Lft
namespace Go.Proofs.Pw
def pfX(zs:D j0D)(cs:D CalT)(ls:D j0b)(t:w)(i:Â):Int:=perX zs cs (ls.getD i (Ê,0,(0,0),0,0,[],[],0,0)) t
def lvs(es:D j1D)(p:w):SL:=(es.filter λx=>x.1==0&&x.2.1==p).map λx=>(x.2.2.2.1,x.2.2.2.2)
theorem jCZ{es:D j1D}{p t:w}:inS t (lvs es p)↔jb4 es p t=true:=by
 unfold inS lvs jb4;rw[Ï];constructor
 .rintro⟨s,hs,h1,h2⟩
  obtain⟨x,hx,rfl⟩:=List.mem_map.1 hs;obtain⟨h3,h4⟩:=List.mem_filter.1 hx;dsimp only at h1 h2;refine⟨x,h3,?_⟩;simp only[N,decide_eq_true_eq]at h4 ⊢;exact⟨h4.1,h4.2,h1,h2⟩
 .rintro⟨x,hx,h⟩
  simp only[N,decide_eq_true_eq]at h;exact⟨_,List.mem_map.2 ⟨x,List.mem_filter.2 ⟨hx,by simp only[N];exact⟨h.1,h.2.1⟩⟩,rfl⟩,h.2.2.1,h.2.2.2⟩
theorem jBi{es:D j1D}(hl:es.length<=1000){p:w}:∀(n i:Â)(acc:SL),i+n=es.length->acc.length<=i->j9a p es (es.length:w) (i:w) acc=I (acc++lvs (es.drop i) p)
 |0,i,acc,hi,_=>by
  rw[jcJ];simp only[j4b];rw[j01 omg_,j7,j06,G omg_];simp[lvs]
 |n+1,i,acc,hi,ha=>by
  have hi':i<es.length:=omg_;have hgd:es.getD i (0,0,0,0,0)=es[i]:=by simp[À,hi']
  rw[jcJ];simp only[j4b];rw[j00 omg_,j0O,j05 (x:=(i:w)+1)];simp only[j6,j8,hgd];have hc:cond (es[i].1==(0:w)) (es[i].2.1==p) Ö=(es[i].1==0&&es[i].2.1==p):=by cases es[i].1==(0:w)<;>rfl
  rw[hc,z hi'];cases hx:(es[i].1==0&&es[i].2.1==p) with
  |true=>
   rw[j6,j00 (by simp[j02];omega),j6,j03];have:=jBi hl (p:=p) n (i+1) (acc++[(es[i].2.2.2.1,es[i].2.2.2.2)]) omg_ sqo_;have e:lvs (es[i]::es.drop (i+1)) p=(es[i].2.2.2.1,es[i].2.2.2.2)::lvs (es.drop (i+1)) p:=by simp only[lvs,List.filter_cons,hx,if_true,Ì]
   rw[e];rw[J]at this;exact this
  |false=>
   rw[j7,j03];have:=jBi hl (p:=p) n (i+1) acc omg_ omg_;have e:lvs (es[i]::es.drop (i+1)) p=lvs (es.drop (i+1)) p:=by unfold lvs;rw[List.filter_cons_of_neg (by simp only[hx];simp)]
   rw[e];exact this
theorem jww{es:D j1D}{np:Â}(hE:∀x∈es,ECk np x)(hl:es.length<=48)(nm:Ñ)(ls:D j0b)(p:w) :
  ∃out,j7n (nm,ls,es) p=I out/\StS (-1) out/\(∀t,inS t out↔jb4 es p t=Û)/\out.length<=es.length:=by
 have lp:=jBi (es:=es) omg_ (p:=p) es.length 0 [] omg_ smp_;rw[X,Ä]at lp;have hfl:(lvs es p).length<=es.length:=by unfold lvs;rw[Ë];exact List.length_filter_le _ _
 have hb:∀s∈lvs es p,0<=s.1/\s.1<s.2/\s.2<=1000000000000:=λs h=>by
  obtain⟨x,hx,rfl⟩:=List.mem_map.1 h;have:=hE x (List.mem_filter.1 hx).1;exact⟨this.f0,this.ft,this.t1⟩
 obtain⟨out,e,h1,h2,h3,h4⟩:=jeB (l:=lvs es p) omg_ (λs h=>by have:=hb s h;omega) (lo:=0) (hi:=1000000000000) (λs h _=>by have:=hb s h;omega);refine⟨out,?_,h1,λt=>(h2 t).trans jCZ,omg_⟩;simp only[j7n,show R es.length=(es.length:w) from rfl];rw[show j9a p es (es.length:w) 0 []=_ from lp];simp only[j4,e]
theorem jtM{β:Type}(l:D (w×β))(k:w)(v:β)(j:w):j38 (j2Y l k v) j=(j==k||j38 l j):=by
 induction l with
 |nil=>simp[j2Y,j38]
 |cons x r ih=>
  simp only[j2Y];by_cases h:k=x.1
  .rw[j43 h,j6];simp only[j38,List.any_cons];rw[<-h];cases j==k<;>simp
  .rw[j1G h,j7];have:j38 (x::j2Y r k v) j=(j==x.1||j38 (j2Y r k v) j):=rfl;rw[this,ih];have:j38 (x::r) j=(j==x.1||j38 r j):=rfl;rw[this];cases j==x.1<;>cases j==k<;>simp
theorem jja{β:Type}(d:β)(l:D (w×β))(k:w)(v:β)(j:w):j1x d (j2Y l k v) j=cond (j==k) v (j1x d l j):=by
 induction l with
 |nil=>rfl
 |cons x r ih=>
  simp only[j2Y];by_cases h:k=x.1
  .rw[j43 h,j6];show cond (j==k) v (j1x d r j)=cond (j==k) v (cond (j==x.1) x.2 (j1x d r j));rw[<-h];cases j==k<;>rfl
  .rw[j1G h,j7];show cond (j==x.1) x.2 (j1x d (j2Y r k v) j)=cond (j==k) v (cond (j==x.1) x.2 (j1x d r j));rw[ih];by_cases hj:j=x.1
   .rw[j43 hj,j6,j1G (show¬j=k by omega)];rfl
   .rw[j1G hj];rfl
def OrS(p:w):SgL->Prop
 |[]=>True
 |x::r=>p<=x.1/\x.1<x.2.1/\OrS x.2.1 r
def inG(t:w)(l:SgL):Prop:=∃x∈l,x.1<=t/\t<x.2.1
theorem jim{t:w}{s:SgT}{l:SgL}:inG t (s::l)↔(s.1<=t/\t<s.2.1)\/inG t l:=by
 constructor
 .rintro⟨u,hu,h⟩
  rcases List.mem_cons.1 hu with rfl|hu
  .exact .inl h
  .exact .inr ⟨u,hu,h⟩
 .rintro (h|⟨u,hu,h⟩)
  .exact⟨s,smp_,h⟩
  .exact⟨u,by simp[hu],h⟩
theorem jr4{t:w}:¬inG t []:=by rintro⟨s,hs,_⟩;simp at hs
theorem OrS.weak{p q:w}(hq:q<=p):∀{l:SgL},OrS p l->OrS q l
 |[],_=>trivial
 |_::_,h=>⟨by have:=h.1;omega,h.2⟩
theorem OrS.low{p t:w}:∀{l:SgL},OrS p l->inG t l->p<=t
 |[],_,h=>absurd h jr4
 |s::r,h,hx=>by
  rcases jim.1 hx with hx|hx
  .have:=h.1;omega
  .have:=OrS.low h.2.2 hx;have:=h.1;have:=h.2.1;omega
theorem OrS.app{e:w}{r:SgL}(hr:OrS e r):∀{l:SgL}{p:w},OrS p l->p<=e->(∀x∈l,x.2.1<=e)->OrS p (l++r)
 |[],_,_,hp,_=>hr.weak hp
 |x::l,p,h,_,hl=>⟨h.1,h.2.1,hr.app h.2.2 (hl x smp_) (λy hy=>hl y (by simp[hy]))⟩
theorem OrS.apart{p:w}:∀{l:SgL},OrS p l->l.Pairwise (λx y=>x.2.1<=y.1)/\∀x∈l,p<=x.1
 |[],_=>⟨Í,smp_⟩
 |x::l,h=>by
  obtain⟨h1,h2⟩:=OrS.apart h.2.2
  exact⟨List.pairwise_cons.2 ⟨h2,h1⟩,λy hy=>by
   rcases List.mem_cons.1 hy with rfl|hy
   .exact h.1
   .have:=h2 y hy;have:=h.1;have:=h.2.1;omega⟩
def lvO(s:j0r)(p:w):SL:=(j7n s p).getD []
def woO(s:j0r)(x:SgT):SL:=(j4q [(x.1,x.2.1)] (lvO s x.2.2)).getD []
def prs(s:j0r)(x:SgT):SgL:=if x.2.2<0 then [] else (woO s x).map λu=>(u.1,u.2,x.2.2)
section
variable{nm:Ñ}{ls:D j0b}{es:D j1D}{np:Â}(hE:∀x∈es,ECk np x)(hl:es.length<=48)
include hE hl
theorem jzK(p:w):j7n (nm,ls,es) p=I (lvO (nm,ls,es) p)/\StS (-1) (lvO (nm,ls,es) p)/\(∀t,inS t (lvO (nm,ls,es) p)↔jb4 es p t=Û)/\(lvO (nm,ls,es) p).length<=es.length:=by
 obtain⟨out,e,h⟩:=jww hE hl nm ls p;have:lvO (nm,ls,es) p=out:=by simp[lvO,e]
 rw[this];exact⟨e,h⟩
theorem jwx{x:SgT}(hx:x.1<x.2.1):j4q [(x.1,x.2.1)] (lvO (nm,ls,es) x.2.2)=I (woO (nm,ls,es) x)/\StS (x.1-1) (woO (nm,ls,es) x)/\
  (∀t,inS t (woO (nm,ls,es) x)↔(x.1<=t/\t<x.2.1)/\jb4 es x.2.2 t=Ö)/\(woO (nm,ls,es) x).length<=1+es.length:=by
 obtain⟨_,l1,l2,l3⟩:=jzK (nm:=nm) (ls:=ls) hE hl x.2.2;obtain⟨out,e,h1,h2,h3⟩:=jj8 (B:=lvO (nm,ls,es) x.2.2) omg_ (A:=[(x.1,x.2.1)]) (p:=x.1-1) ⟨by dsimp only;omega,hx,trivial⟩ l1 smp_;have:woO (nm,ls,es) x=out:=by simp[woO,e]
 rw[this];refine⟨e,h1,λt=>?_,by rw[List.length_singleton]at h3;omega⟩;rw[h2 t,l2 t,j0a];constructor
 .rintro⟨h|h,h'⟩
  .exact⟨h,by simpa using h'⟩
  .exact absurd h j33
 .rintro⟨h,h'⟩
  exact⟨.inl h,by simp[h']⟩
omit hE hl in
theorem jzL{S:SgL}{m j f e p:w}{mp:D (w×SL)}{W:SL}(hW:W.length<=1000):∀(n i:Â)(acc:SgL),i+n=W.length->acc.length+n<=1000000000->
  j6y S m j (W.length:w) (i:w) nm ls es f e p mp acc W=I (S,m,j,nm,ls,es,mp,acc++(W.drop i).map λu=>(u.1,u.2,p))
 |0,i,acc,hi,_=>by
  rw[jbS];simp only[j3C];rw[j01 omg_,j7,j06,G omg_];simp
 |n+1,i,acc,hi,ha=>by
  have hi':i<W.length:=omg_;have hgd:W.getD i (0,0)=W[i]:=by simp[À,hi']
  rw[jbS];simp only[j3C];rw[j00 omg_,j0O,j05 (x:=(i:w)+1)];simp only[j6,j8,hgd];rw[j00 (by simp[j02];omega),j6,j03,z hi',Ì];have:=jzL (S:=S) (m:=m) (j:=j) (f:=f) (e:=e) (p:=p) (mp:=mp) hW n (i+1) (acc++[(W[i].1,W[i].2,p)]) omg_ sqo_;rw[J]at this;exact this
theorem jwy{S:SgL}(hS:S.length<=100000)(hpos:∀x∈S,x.1<x.2.1):∀(n i:Â)(mp:D (w×SL))(acc:SgL),i+n=S.length->(∀p,j38 mp p=Û->j1x [] mp p=lvO (nm,ls,es) p)->acc.length<=49*i->
  j6z S (S.length:w) (i:w) nm ls es mp acc=I (acc++(S.drop i).flatMap (prs (nm,ls,es)))
 |0,i,mp,acc,hi,_,_=>by
  rw[jbT];simp only[j3D,j3Q];rw[j01 omg_,j7,j06,G omg_];simp
 |n+1,i,mp,acc,hi,hm,ha=>by
  have hi':i<S.length:=omg_;have hgd:S.getD i (0,0,0)=S[i]:=by simp[À,hi']
  have hp:=hpos _ (É hi');rw[jbT];simp only[j3D,j3Q];rw[j00 (show (i:w)<(S.length:w) by omega),j0O];simp only[j6,j8,hgd];rw[z hi',È];by_cases hneg:S[i].2.2<0
  .rw[j00 hneg,j6,j05 (x:=(i:w)+1),j03];have e:prs (nm,ls,es) S[i]=[]:=if_pos hneg;rw[e,X];exact jwy hS hpos n (i+1) mp acc omg_ hm omg_
  .have e:prs (nm,ls,es) S[i]=(woO (nm,ls,es) S[i]).map λu=>(u.1,u.2,S[i].2.2):=if_neg hneg;obtain⟨w1,_,_,w4⟩:=jwx (nm:=nm) (ls:=ls) hE hl hp;rw[j01 hneg,j7]
   have fin:∀mp':D (w×SL),(∀p,j38 mp' p=Û->j1x [] mp' p=lvO (nm,ls,es) p)->j1x [] mp' S[i].2.2=lvO (nm,ls,es) S[i].2.2->
     lpK ((j4q [(S[i].1,S[i].2.1)] (j1x [] mp' S[i].2.2)).bind λr49=>
      (j6y S (S.length:w) (i:w) (R r49.length) 0 nm ls es S[i].1 S[i].2.1 S[i].2.2 mp' acc r49).bind λq2=>
       (I (Sum.inl (q2.1,q2.2.1,w64 (q2.2.2.1+1),q2.2.2.2.1,q2.2.2.2.2.1,q2.2.2.2.2.2.1,q2.2.2.2.2.2.2.1,q2.2.2.2.2.2.2.2)):Ú ((SgL×w×w×Ñ×D j0b×D j1D×D (w×SL)×SgL) ⊕ SgL)))
      (λh=>j6z h.1 h.2.1 h.2.2.1 h.2.2.2.1 h.2.2.2.2.1 h.2.2.2.2.2.1 h.2.2.2.2.2.2.1 h.2.2.2.2.2.2.2)=I (acc++(prs (nm,ls,es) S[i]++(S.drop (i+1)).flatMap (prs (nm,ls,es)))):=λmp' hm' hg=>by
    have l2:=jzL (nm:=nm) (ls:=ls) (es:=es) (S:=S) (m:=(S.length:w)) (j:=(i:w)) (f:=S[i].1) (e:=S[i].2.1) (p:=S[i].2.2) (mp:=mp') (W:=woO (nm,ls,es) S[i]) omg_ (woO (nm,ls,es) S[i]).length 0 acc omg_ omg_;rw[hg,w1];simp only[j4];rw[show j6y S (S.length:w) (i:w) (R (woO (nm,ls,es) S[i]).length) 0 nm ls es S[i].1 S[i].2.1 S[i].2.2 mp' acc (woO (nm,ls,es) S[i])=_ from l2];simp only[j4,Ä];rw[j05 (x:=(i:w)+1),j03,<-e,<-J];exact jwy hS hpos n (i+1) mp' _ omg_ hm' (by rw[H,e,Ë];omega)
   cases hh:j38 mp S[i].2.2 with
   |true=>simp only[Ó,j7];exact fin mp hm (hm _ hh)
   |false=>
    simp only[Ø,j6];rw[show j7n (nm,ls,es) S[i].2.2=_ from (jzK (nm:=nm) (ls:=ls) hE hl S[i].2.2).1];simp only[j4];refine fin _ (λp hp'=>?_) ?_
    .rw[jja];by_cases hpe:p=S[i].2.2
     .rw[j43 hpe,j6,hpe]
     .rw[jtM,j1G hpe,Bool.false_or]at hp';rw[j1G hpe,j7];exact hm p hp'
    .rw[jja];simp
theorem jtN{S:SgL}(hS:S.length<=100000)(hpos:∀x∈S,x.1<x.2.1):j9b (nm,ls,es) S=I (S.flatMap (prs (nm,ls,es))):=by
 simp only[j9b,show R S.length=(S.length:w) from rfl];rw[show j6z S (S.length:w) 0 nm ls es [] []=_ from jwy hE hl hS hpos S.length 0 [] [] omg_ (λp h=>by simp[j38]at h) smp_];rfl
theorem jBj{x:SgT}(hx:x.1<x.2.1):(prs (nm,ls,es) x).length<=1+es.length:=by
 unfold prs;split
 .simp
 .rw[Ë];exact(jwx (nm:=nm) (ls:=ls) hE hl hx).2.2.2
theorem jsj:∀{S:SgL},(∀x∈S,x.1<x.2.1)->(S.flatMap (prs (nm,ls,es))).length<=S.length*(1+es.length)
 |[],_=>smp_
 |x::S,h=>by
  have h1:=jBj (nm:=nm) (ls:=ls) hE hl (h x smp_);have h2:=jsj (S:=S) (λy hy=>h y (by simp[hy]));rw[È,H,Æ,Þ];omega
theorem jzM{p:w}{c e:w}:∀{W:SL}{q:w},StS q W->(∀u∈W,u.2<=e)->OrS (q+1) (W.map λu=>(u.1,u.2,c))/\(p<=q+1->OrS p (W.map λu=>(u.1,u.2,c)))
 |[],_,_,_=>⟨trivial,λ_=>trivial⟩
 |u::W,q,h,hb=>by
  have _:=hE;have _:=hl;have h3:=(jzM (p:=u.2) (c:=c) (e:=e) (W:=W) h.2.2 (λv hv=>hb v (by simp[hv]))).2 omg_;exact⟨⟨by have:=h.1;dsimp only;omega,h.2.1,h3⟩,λhp=>⟨by have:=h.1;dsimp only;omega,h.2.1,h3⟩⟩
theorem jwz{f:w->w}{b:w}:∀{S:SgL}{a:w},Ch f b a S->(∀x∈S,x.1<x.2.1)->
  OrS a (S.flatMap (prs (nm,ls,es)))/\(∀x∈S.flatMap (prs (nm,ls,es)),x.2.1<=b/\∀t,x.1<=t->t<x.2.1->f t=x.2.2/\0<=x.2.2/\jb4 es x.2.2 t=Ö)/\
   ∀t,a<=t->t<b->0<=f t->jb4 es (f t) t=Ö->inG t (S.flatMap (prs (nm,ls,es)))
 |[],a,h,_=>⟨trivial,smp_,λt h1 h2=>by have h:a=b:=h;omega⟩
 |x::S,a,h,hpos=>by
  obtain⟨h1,h2,h3,h4⟩:=h;have hx:=hpos x smp_;obtain⟨i1,i2,i3⟩:=jwz (f:=f) (b:=b) h4 (λy hy=>hpos y (by simp[hy]));have hle:=h4.le;obtain⟨_,w2,w3,_⟩:=jwx (nm:=nm) (ls:=ls) hE hl hx
  have hmem:∀y∈prs (nm,ls,es) x,0<=x.2.2/\y.2.2=x.2.2/\y.1<y.2.1/\x.1<=y.1/\y.2.1<=x.2.1/\∀t,y.1<=t->t<y.2.1->jb4 es x.2.2 t=false:=λy hy=>by
   unfold prs at hy;split at hy
   .simp at hy
   .obtain⟨u,hu,rfl⟩:=List.mem_map.1 hy;have hm:=StS.mem w2 u hu;have e1:=(w3 (u.2-1)).1 ⟨u,hu,omg_,omg_⟩;exact⟨omg_,rfl,hm.2,by dsimp only;omega,by dsimp only;omega,λt t1 t2=>((w3 t).1 ⟨u,hu,t1,t2⟩).2⟩
  rw[È];refine⟨?_,λy hy=>?_,λt t1 t2 t3 t4=>?_⟩
  .refine OrS.app i1 ?_ h2 (λy hy=>(hmem y hy).2.2.2.2.1);unfold prs;split
   .trivial
   .exact(jzM hE hl (p:=a) (c:=x.2.2) (e:=x.2.1) w2 (λu hu=>by
     have hm:=StS.mem w2 u hu;have e1:=(w3 (u.2-1)).1 ⟨u,hu,omg_,omg_⟩;omega)).2 omg_
  .rcases List.mem_append.1 hy with hy|hy
   .obtain⟨g1,g2,g3,g4,g5,g6⟩:=hmem y hy;exact⟨omg_,λt t1 t2=>⟨by rw[g2];exact h3 t omg_ omg_,omg_,by rw[g2];exact g6 t t1 t2⟩⟩
   .exact i2 y hy
  .by_cases hlt:t<x.2.1
   .have hf:=h3 t t1 hlt;rw[hf]at t3 t4;obtain⟨u,hu,u1,u2⟩:=(w3 t).2 ⟨⟨omg_,hlt⟩,t4⟩;refine⟨(u.1,u.2,x.2.2),Å _ ?_,u1,u2⟩;unfold prs;rw[if_neg omg_];exact List.mem_map.2 ⟨u,hu,rfl⟩
   .obtain⟨y,hy,y1,y2⟩:=i3 t omg_ t2 t3 t4;exact⟨y,U _ hy,y1,y2⟩
end
def wiF:Â->SgL->SL->SgL
 |n+1,s::a,u::b=>(if (if u.1>s.1 then u.1 else s.1)<(if u.2<s.2.1 then u.2 else s.2.1) then [((if u.1>s.1 then u.1 else s.1),(if u.2<s.2.1 then u.2 else s.2.1),s.2.2)] else [])++
  (if s.2.1<u.2 then wiF n a (u::b) else wiF n (s::a) b)
 |_,_,_=>[]
theorem jwA:∀(n:Â)(a:SgL)(b:SL)(p q:w),a.length+b.length<=n->OrS p a->StS q b->
  OrS p (wiF n a b)/\OrS q (wiF n a b)/\(∀x∈wiF n a b,∃s∈a,s.1<=x.1/\x.2.1<=s.2.1/\x.2.2=s.2.2/\∀t,x.1<=t->t<x.2.1->inS t b)/\(∀t,inG t a->inS t b->inG t (wiF n a b))/\(wiF n a b).length<=a.length+b.length
 |0,a,b,p,q,hn,_,_=>by
  obtain rfl:a=[]:=List.length_eq_zero_iff.1 omg_;exact⟨trivial,trivial,by simp[wiF],λt h=>absurd h jr4,by simp[wiF]⟩
 |n+1,[],b,p,q,_,_,_=>⟨trivial,trivial,by simp[wiF],λt h=>absurd h jr4,by simp[wiF]⟩
 |n+1,_::_,[],p,q,_,_,_=>⟨trivial,trivial,by simp[wiF],λt _ h=>absurd h j33,by simp[wiF]⟩
 |n+1,s::a,u::b,p,q,hn,ha,hb=>by
  obtain⟨a1,a2,a3⟩:=ha;obtain⟨b1,b2,b3⟩:=hb;simp only[Æ]at hn ⊢
  have hx:∃f t:w,f=(if u.1>s.1 then u.1 else s.1)/\t=(if u.2<s.2.1 then u.2 else s.2.1)/\(∀x,(f<=x/\x<t)↔(s.1<=x/\x<s.2.1)/\(u.1<=x/\x<u.2))/\p<=f/\q<=f/\t<=s.2.1/\t<=u.2/\s.1<=f:=by
   refine⟨_,_,rfl,rfl,λx=>?_,?_,?_,?_,?_,?_⟩
   .constructor
    .intro h;split at h<;>split at h<;>omega
    .intro h;split<;>split<;>omega
   all_goals split<;>omega
  obtain⟨f,t,ef,et,hi,f1,f2,t1,t2,f3⟩:=hx;simp only[wiF,<-ef,<-et]
  have key:∀(a':SgL)(b':SL)(r:SgL),OrS t r->OrS p r->OrS q r->(∀x∈r,∃s'∈(s::a),s'.1<=x.1/\x.2.1<=s'.2.1/\x.2.2=s'.2.2/\∀y,x.1<=y->y<x.2.1->inS y (u::b))->(∀y,inG y a'->inS y b'->inG y r)->
    r.length<=a'.length+b'.length->a'.length+b'.length+1=a.length+1+(b.length+1)->(∀y,inG y (s::a)->inS y (u::b)->(f<=y/\y<t)\/(inG y a'/\inS y b'))->
    OrS p ((if f<t then [(f,t,s.2.2)] else [])++r)/\OrS q ((if f<t then [(f,t,s.2.2)] else [])++r)/\(∀x∈((if f<t then [(f,t,s.2.2)] else [])++r),∃s'∈(s::a),s'.1<=x.1/\x.2.1<=s'.2.1/\x.2.2=s'.2.2/\∀y,x.1<=y->y<x.2.1->inS y (u::b))/\
     (∀y,inG y (s::a)->inS y (u::b)->inG y ((if f<t then [(f,t,s.2.2)] else [])++r))/\((if f<t then [(f,t,s.2.2)] else [])++r).length<=a.length+1+(b.length+1):=by
   intro a' b' r hr1 hr2 hr3 hr4 hr5 hl hl2 hiff;by_cases hft:f<t
   .rw[if_pos hft];refine⟨⟨f1,hft,hr1⟩,⟨f2,hft,hr1⟩,λx hx=>?_,λy y1 y2=>?_,sqo_⟩
    .rcases List.mem_cons.1 hx with rfl|hx
     .exact⟨s,smp_,f3,t1,rfl,λy y1 y2=>j0a.2 (.inl ((hi y).1 ⟨y1,y2⟩).2)⟩
     .exact hr4 x hx
    .rcases hiff y y1 y2 with h|h
     .exact jim.2 (.inl h)
     .exact jim.2 (.inr (hr5 y h.1 h.2))
   .rw[if_neg hft,X];refine⟨hr2,hr3,hr4,λy y1 y2=>?_,omg_⟩;rcases hiff y y1 y2 with h|h
    .omega
    .exact hr5 y h.1 h.2
  by_cases hc:s.2.1<u.2
  .rw[if_pos hc];obtain⟨i1,i2,i3,i4,i5⟩:=jwA n a (u::b) s.2.1 q sqo_ a3 ⟨b1,b2,b3⟩;refine key a (u::b) _ (i1.weak t1) (i1.weak omg_) i2 (λx hx=>?_) i4 i5 sqo_ (λy y1 y2=>?_)
   .obtain⟨s',hs',r⟩:=i3 x hx;exact⟨s',by simp[hs'],r⟩
   .rcases jim.1 y1 with h|h
    .rcases j0a.1 y2 with h'|h'
     .exact .inl ((hi y).2 ⟨h,h'⟩)
     .have:=StS.low b3 h';omega
    .exact .inr ⟨h,y2⟩
  .rw[if_neg hc];obtain⟨i1,i2,i3,i4,i5⟩:=jwA n (s::a) b p u.2 sqo_ ⟨a1,a2,a3⟩ b3;refine key (s::a) b _ (i2.weak t2) i1 (i2.weak omg_) (λx hx=>?_) i4 i5 sqo_ (λy y1 y2=>?_)
   .obtain⟨s',hs',r1,r2,r3,r4⟩:=i3 x hx;exact⟨s',hs',r1,r2,r3,λy y1 y2=>j0a.2 (.inr (r4 y y1 y2))⟩
   .rcases j0a.1 y2 with h|h
    .rcases jim.1 y1 with h'|h'
     .exact .inl ((hi y).2 ⟨h',h⟩)
     .have:=OrS.low a3 h';omega
    .exact .inr ⟨y1,h⟩
theorem jwB{A:SgL}{B:SL}(hA:A.length<=10000000)(hB:B.length<=10000000):∀(n i k:Â)(acc:SgL),i<=A.length->k<=B.length->(A.length-i)+(B.length-k)=n->acc.length+n<=3000000->
  j5G A B (i:w) (k:w) acc=I (acc++wiF n (A.drop i) (B.drop k))
 |n,i,k,acc,hi,hk,hn,hacc=>by
  rw[jhE];simp only[j5r,j6h,show R (Ô A)=(A.length:w) from rfl,show R (Ô B)=(B.length:w) from rfl];by_cases hend:i<A.length/\k<B.length
  .obtain⟨hi',hk'⟩:=hend;obtain⟨n,rfl⟩:∃m,n=m+1:=⟨n-1,omg_⟩;have gA:A.getD i (0,0,0)=A[i]:=by simp[À,hi']
   have gB:B.getD k (0,0)=B[k]:=by simp[À,hk']
   rw[j00 (show (i:w)<(A.length:w) by omega),j00 (show (k:w)<(B.length:w) by omega),j0X (show (0:w)<=(i:w) by omega) omg_,j0X (show (0:w)<=(k:w) by omega) omg_];simp only[j6,j8,gA,gB];rw[j05 (x:=(i:w)+1),j05 (x:=(k:w)+1)];rw[z hi',z hk'];simp only[wiF];generalize (if B[k].1>A[i].1 then B[k].1 else A[i].1:w)=f;generalize (if B[k].2<A[i].2.1 then B[k].2 else A[i].2.1:w)=t
   have ih1:∀acc':SgL,acc'.length<=acc.length+1->j5G A B ((i:w)+1) (k:w) acc'=I (acc'++wiF n (A.drop (i+1)) (B[k]::B.drop (k+1))):=λacc' ha'=>by
    have:=jwB hA hB n (i+1) k acc' omg_ omg_ omg_ omg_;rw[<-z hk'];exact this
   have ih2:∀acc':SgL,acc'.length<=acc.length+1->j5G A B (i:w) ((k:w)+1) acc'=I (acc'++wiF n (A[i]::A.drop (i+1)) (B.drop (k+1))):=λacc' ha'=>by
    have:=jwB hA hB n i (k+1) acc' omg_ omg_ omg_ omg_;rw[<-z hi'];exact this
   by_cases hft:f<t
   .rw[j00 hft,if_pos hft,j00 (by simp[j02];omega)];simp only[j6];by_cases hc:A[i].2.1<B[k].2
    .rw[j00 hc,if_pos hc];simp only[j6,j03];rw[ih1 _ smp_,J]
    .rw[j01 hc,if_neg hc];simp only[j7,j03];rw[ih2 _ smp_,J]
   .rw[j01 hft,if_neg hft];simp only[j7];by_cases hc:A[i].2.1<B[k].2
    .rw[j00 hc,if_pos hc];simp only[j6,j03];rw[ih1 _ omg_,X]
    .rw[j01 hc,if_neg hc];simp only[j7,j03];rw[ih2 _ omg_,X]
  .have hc:cond (Ã ((i:w)<(A.length:w))) (Ã ((k:w)<(B.length:w))) Ö=false:=by
    by_cases h1:i<A.length
    .rw[j00 omg_,j6];exact j01 omg_
    .rw[j01 omg_,j7]
   rw[hc,j7,j06]
   have:wiF n (A.drop i) (B.drop k)=[]:=by
    by_cases h1:i<A.length
    .rw[Ð (show B.length<=k by omega)];cases n<;>cases A.drop i<;>rfl
    .rw[Ð (show A.length<=i by omega)];cases n<;>rfl
   rw[this,List.append_nil]
theorem jD0{l:SgL}(hl:l.length<=10000000):∀(n i:Â)(acc:SL),i+n=l.length->acc.length<=i->jak l (l.length:w) (i:w) acc=I (acc++(l.drop i).map λx=>(x.1,x.2.1))
 |0,i,acc,hi,_=>by
  rw[jdH];simp only[j4E];rw[j01 omg_,j7,j06,G omg_];simp
 |n+1,i,acc,hi,ha=>by
  have hi':i<l.length:=omg_;have hgd:l.getD i (0,0,0)=l[i]:=by simp[À,hi']
  rw[jdH];simp only[j4E];rw[j00 omg_,j0O,j05 (x:=(i:w)+1)];simp only[j6,j8,hgd];rw[j00 (by simp[j02];omega),j6,j03,z hi',Ì];have:=jD0 hl n (i+1) (acc++[(l[i].1,l[i].2.1)]) omg_ sqo_;rw[J]at this;exact this
theorem jyy{l:SgL}(hl:l.length<=10000000){lo hi:w}(h0:0<=lo)(h1:hi<=8589934592)(hb:∀x∈l,lo<=x.1/\x.1<x.2.1/\x.2.1<=hi) :
  ∃out,jbU l=I out/\StS (lo-1) out/\(∀t,inS t out↔inG t l)/\out.length<=l.length:=by
 have lp:=jD0 hl l.length 0 [] omg_ smp_;rw[X,Ä]at lp
 have hb':∀s∈l.map (λx=>(x.1,x.2.1)),lo<=s.1/\s.1<s.2/\s.2<=hi:=λs h=>by
  obtain⟨x,hx,rfl⟩:=List.mem_map.1 h;exact hb x hx
 obtain⟨out,e,g1,g2,g3,g4⟩:=jeB (l:=l.map λx=>(x.1,x.2.1)) (by simpa using hl) (λs h=>by have:=hb' s h;omega) (lo:=lo) (hi:=hi) (λs h _=>by have:=hb' s h;omega);refine⟨out,?_,g1,λt=>(g2 t).trans ⟨?_,?_⟩,by simpa using g3⟩
 .simp only[jbU,show R l.length=(l.length:w) from rfl];rw[show jak l (l.length:w) 0 []=_ from lp];simp only[j4,e]
 .rintro⟨s,hs,h⟩
  obtain⟨x,hx,rfl⟩:=List.mem_map.1 hs;exact⟨x,hx,h⟩
 .rintro⟨x,hx,h⟩
  exact⟨_,List.mem_map.2 ⟨x,hx,rfl⟩,h⟩
section
variable{zs:D j0D}{ps:D j0h}{cs:D CalT}(hs:SOk2 zs ps cs)
include hs
end
def Gi(gd:Â->Ü)(len:Â):Â->Ú Â
 |0=>Ý
 |m+1=>match Gi gd len m with
  |some i=>I i
  |none=>cond (gd (len-m-1)) (I (len-m-1)) Ý
theorem jwC(gd:Â->Ü)(len:Â):∀m,m<=len->topI gd len=match Gi gd len m with
  |some i=>I i
  |none=>topI gd (len-m)
 |0,_=>rfl
 |m+1,h=>by
  rw[jwC gd len m omg_];simp only[Gi];cases Gi gd len m with
  |some i=>rfl
  |none=>
   dsimp only
   rw[show len-m=(len-m-1)+1 by omega,topI,show len-(m+1)=len-m-1 by omega,show len-m-1+1-1=len-m-1 by omega];cases gd (len-m-1)<;>rfl
def Wv(gd:Â->Ü)(pf:Â->w)(len m:Â):Ú Int:=(Gi gd len m).map pf
theorem jr5(gd:Â->Ü)(pf:Â->w)(len m:Â):Wv gd pf len (m+1)=match Wv gd pf len m with
  |some p=>I p
  |none=>cond (gd (len-m-1)) (I (pf (len-m-1))) none:=by
 simp only[Wv,Gi];cases Gi gd len m with
 |some i=>rfl
 |none=>cases gd (len-m-1)<;>rfl
theorem jzN(es:D j1D)(t:w)(pf:Â->w)(len:Â):topP es t pf len=(Wv (j6P es t pf) pf len len).getD (-1):=by
 simp only[topP,Wv,jwC (j6P es t pf) len len (Õ _)];cases Gi (j6P es t pf) len len with
 |some i=>rfl
 |none=>simp only[Nat.sub_self,topI];rfl
theorem jBk:Go.Sort.SWO (Go.Proofs.ltOf λ(x y:Go.Lft.Sml (.pair (.int .i64) (.pair (.int .i64) (.int .i64))))=>(j3h x.1 y.1).getD 0):=by
 refine jnB (λx=>x.1.1) (λx=>?_) _ λx y=>rfl;have:=x.2;simp only[j3s,N,decide_eq_true_eq]at this;exact this.1
theorem jtO{l:SgL}(hl:l.length<=1000000000)(hb:∀x∈l, -1000000000000<=x.1/\x.1<=1000000000000 /\ -1000000000000<=x.2.1/\x.2.1<=1000000000000 /\ -1000000000000<=x.2.2/\x.2.2<=1000000000000) :
  ∃L,j0x l=I L/\L.Perm l/\L.Pairwise (λx y=>x.1<=y.1):=by
 obtain⟨L,e,hp,hs⟩:=jjV (a:= .pair (.int .i64) (.pair (.int .i64) (.int .i64))) (cf:=λx y=>(j3h x y).getD 0) jBk (xs:=l) (λx hx=>by
  have:=hb x hx;simp only[j3s,N,decide_eq_true_eq];refine⟨⟨?_,?_⟩,⟨?_,?_⟩,⟨?_,?_⟩⟩
  .exact Ç (by decide) this.1
  .exact Ç this.2.1 (by decide)
  .exact Ç (by decide) this.2.2.1
  .exact Ç this.2.2.2.1 (by decide)
  .exact Ç (by decide) this.2.2.2.2.1
  .exact Ç this.2.2.2.2.2 (by decide)) (by show Ô l<_;omega)
 refine⟨L,e,hp,?_⟩;refine Î (λ{x y} hx hy h=>?_) hs;have h1:=hb x (hp.mem_iff.1 hx);have h2:=hb y (hp.mem_iff.1 hy);have h':¬w64 (y.1-x.1)<0:=h;rw[j05 (x:=y.1-x.1)]at h';omega
theorem jD1{F:SL}(hF:F.length<=10000000):∀(n i:Â)(acc:SgL),i+n=F.length->acc.length+n<=1000000000->j6j (F.length:w) (i:w) F acc=I (acc++(F.drop i).map λu=>(u.1,u.2, -1))
 |0,i,acc,hi,_=>by
  rw[j9V];simp only[j2q];rw[j01 omg_,j7,j06,G omg_];simp
 |n+1,i,acc,hi,ha=>by
  have hi':i<F.length:=omg_;have hgd:F.getD i (0,0)=F[i]:=by simp[À,hi']
  rw[j9V];simp only[j2q];rw[j00 omg_,j0O,j05 (x:=(i:w)+1)];simp only[j6,j8,hgd];rw[j00 (by simp[j02];omega),j6,j03,z hi',Ì];have:=jD1 hF n (i+1) (acc++[(F[i].1,F[i].2, -1)]) omg_ sqo_;rw[J]at this;exact this
def apart(x y:SgT):Prop:=x.2.1<=y.1\/y.2.1<=x.1
section
variable{zs:D j0D}{ps:D j0h}{cs:D CalT}(hs:SOk2 zs ps cs)
 {nm:Ñ}{ls:D j0b}{es:D j1D}(hL:∀L∈ls,LCk zs.length ps.length cs.length L)(hll:ls.length<=4)(hE:∀x∈es,ECk ps.length x)(hel:es.length<=48)
 {ss:D j0r}{a b:w}(ha:0<=a)(hab:a<=b)(hb:b<=8589934592)(hlen:b-a<=2592000)
include hs hL hll hE hel ha hab hb hlen
structure jwD(zs:D j0D)(cs:D CalT)(ls:D j0b)(es:D j1D)(a b:w)(m:Â)(F:SL)(O:SgL):Prop where
 st:StS (a-1) F
 fb:∀t,inS t F->t<b
 fr:∀t,a<=t->t<b->(inS t F↔Wv (j6P es t (pfX zs cs ls t)) (pfX zs cs ls t) ls.length m=Ý)
 seg:∀x∈O,a<=x.1/\x.1<x.2.1/\x.2.1<=b/\∀t,x.1<=t->t<x.2.1->Wv (j6P es t (pfX zs cs ls t)) (pfX zs cs ls t) ls.length m=I x.2.2
 ap:O.Pairwise apart
 cov:∀t,a<=t->t<b->Wv (j6P es t (pfX zs cs ls t)) (pfX zs cs ls t) ls.length m≠Ý->inG t O
 fl:F.length+300000<=2^m*300001
 ol:O.length<=m*4000000
theorem jBl{k m:Â}(hk:k+m+1=ls.length){F:SL}{O:SgL}(hI:jwD zs cs ls es a b m F O) :
  ∃S Q W F',j28 ((zs,ps,cs,ss),zs.map tb) (ls.getD k (Ê,0,(0,0),0,0,[],[],0,0)) a b=I S/\
   j9b (nm,ls,es) S=I Q/\jcK Q F=I W/\O.length+W.length<=j02/\(∃P,jbU W=I P/\j4q F P=I F')/\jwD zs cs ls es a b (m+1) F' (O++W):=by
 have hk':k<ls.length:=omg_;have hLk:=hL _ (É hk');have hgd:ls.getD k (Ê,0,(0,0),0,0,[],[],0,0)=ls[k]:=by simp[À,hk']
 have hpf:∀t,pfX zs cs ls t k=perX zs cs ls[k] t:=λt=>by simp only[pfX,hgd]
 obtain⟨S,e1,c1,l1⟩:=jo3 hs hLk (ss:=ss) ha hab hb (M:=5) omg_ omg_;have hpos:=c1.pos;have e2:=jtN (nm:=nm) (ls:=ls) hE omg_ (S:=S) omg_ hpos;obtain⟨p1,p2,p3⟩:=jwz (nm:=nm) (ls:=ls) hE omg_ c1.ch hpos;have pl:=jsj (nm:=nm) (ls:=ls) hE omg_ (S:=S) hpos;have pl2:S.length*(1+es.length)<=371*49:=Nat.mul_le_mul omg_ omg_;generalize S.flatMap (prs (nm,ls,es))=Q at *;have hm4:m<=3:=omg_;have hpow:2^m<=2^3:=Ò omg_ hm4;have hfl:=hI.fl;have hol:=hI.ol;have hF:F.length<=10000000:=omg_;have lp:=jwB (A:=Q) (B:=F) omg_ hF (Q.length+F.length) 0 0 [] omg_ omg_ omg_ sqo_;rw[X,Ä,Ä]at lp;obtain⟨w1,_,w3,w4,w5⟩:=jwA (Q.length+F.length) Q F a (a-1) (Õ _) p1 hI.st;generalize wiF (Q.length+F.length) Q F=W at *
 have hWin:∀x∈W,a<=x.1/\x.1<x.2.1/\x.2.1<=b/\∀t,x.1<=t->t<x.2.1->inS t F/\perX zs cs ls[k] t=x.2.2/\0<=x.2.2/\jb4 es x.2.2 t=false:=λx hx=>by
  have hne:∀(l:SgL)(q:w),OrS q l->∀y∈l,y.1<y.2.1:=by
   intro l;induction l with
   |nil=>intro q _ y hy;simp at hy
   |cons s r ih=>intro q h y hy;rcases List.mem_cons.1 hy with rfl|hy;exact h.2.1;exact ih _ h.2.2 y hy
  have h0:=hne W a w1 x hx;have h1:=(w1.apart).2 x hx;obtain⟨s,hs',r1,r2,r3,r4⟩:=w3 x hx;obtain⟨g1,g2⟩:=p2 s hs';refine⟨h1,h0,omg_,λt t1 t2=>?_⟩;obtain⟨g3,g4,g5⟩:=g2 t omg_ omg_;rw[r3];exact⟨r4 t t1 t2,g3,g4,g5⟩
 have hw0:∀x∈W,∀t,x.1<=t->t<x.2.1->Wv (j6P es t (pfX zs cs ls t)) (pfX zs cs ls t) ls.length (m+1)=I x.2.2:=λx hx t t1 t2=>by
  obtain⟨h1,h2,h3,h4⟩:=hWin x hx;obtain⟨g1,g2,g3,g4⟩:=h4 t t1 t2;have hn:=(hI.fr t omg_ omg_).1 g1;rw[jr5,hn,show ls.length-m-1=k by omega];have:j6P es t (pfX zs cs ls t) k=true:=by simp only[j6P,hpf,g2,g4];simp[g3]
  simp only[this,j6,hpf,g2]
 have hold:∀t p,Wv (j6P es t (pfX zs cs ls t)) (pfX zs cs ls t) ls.length m=I p->Wv (j6P es t (pfX zs cs ls t)) (pfX zs cs ls t) ls.length (m+1)=I p:=λt p h=>by rw[jr5,h]
 obtain⟨P,e4,q1,q2,q3⟩:=jyy (l:=W) omg_ (lo:=a) (hi:=b) ha hb (λx hx=>⟨(hWin x hx).1,(hWin x hx).2.1,(hWin x hx).2.2.1⟩);obtain⟨F',e5,f1,f2,f3⟩:=jj8 (B:=P) omg_ hI.st q1 hF;refine⟨S,Q,W,F',by rw[hgd];exact e1,e2,?_,by simp[j02];omega,⟨P,e4,e5⟩,?_⟩
 .simp only[jcK,show j5G Q F 0 0 []=_ from lp];rfl
 .have hcase:∀t,a<=t->t<b->inS t F->inG t W\/Wv (j6P es t (pfX zs cs ls t)) (pfX zs cs ls t) ls.length (m+1)=none:=λt t1 t2 hf=>by
   have hn:=(hI.fr t t1 t2).1 hf;by_cases hg:j6P es t (pfX zs cs ls t) k=Û
   .left;refine w4 t (p3 t t1 t2 ?_ ?_) hf
    .simp only[j6P,hpf,N,decide_eq_true_eq]at hg;exact hg.1
    .simp only[j6P,hpf,N,Bool.not_eq_true']at hg;exact hg.2
   .right;rw[jr5,hn,show ls.length-m-1=k by omega,Bool.eq_false_iff.2 hg];rfl
  refine⟨f1,λt h=>hI.fb t ((f2 t).1 h).1,λt t1 t2=>?_,λx hx=>?_,?_,λt t1 t2 hne=>?_,?_,?_⟩
  .rw[f2 t,q2 t];constructor
   .rintro⟨h1,h2⟩
    rcases hcase t t1 t2 h1 with h|h
    .exact absurd h h2
    .exact h
   .intro h
    have hn:Wv (j6P es t (pfX zs cs ls t)) (pfX zs cs ls t) ls.length m=none:=by
     cases hw:Wv (j6P es t (pfX zs cs ls t)) (pfX zs cs ls t) ls.length m with
     |none=>rfl
     |some p=>rw[hold t p hw]at h;simp at h
    refine⟨(hI.fr t t1 t2).2 hn,?_⟩
    rintro⟨x,hx,x1,x2⟩
    rw[hw0 x hx t x1 x2]at h;simp at h
  .rcases List.mem_append.1 hx with hx|hx
   .obtain⟨h1,h2,h3,h4⟩:=hI.seg x hx;exact⟨h1,h2,h3,λt t1 t2=>hold t _ (h4 t t1 t2)⟩
   .obtain⟨h1,h2,h3,_⟩:=hWin x hx;exact⟨h1,h2,h3,hw0 x hx⟩
  .refine List.pairwise_append.2 ⟨hI.ap,(w1.apart).1.imp (λh=> .inl h),λx hx y hy=>?_⟩;obtain⟨h1,h2,h3,h4⟩:=hI.seg x hx;obtain⟨g1,g2,g3,g4⟩:=hWin y hy;apply Á;intro hn;simp only[apart,not_or]at hn
   have hc:∃t,x.1<=t/\t<x.2.1/\y.1<=t/\t<y.2.1:=by
    by_cases hxy:x.1<=y.1
    .exact⟨y.1,omg_,omg_,omg_,omg_⟩
    .exact⟨x.1,omg_,omg_,omg_,omg_⟩
   obtain⟨t,t1,t2,t3,t4⟩:=hc;have hw:=h4 t t1 t2;have:=(hI.fr t omg_ omg_).1 (g4 t t3 t4).1;rw[hw]at this;simp at this
  .by_cases hf:inS t F
   .rcases hcase t t1 t2 hf with⟨x,hx,h⟩|h
    .exact⟨x,U _ hx,h⟩
    .exact absurd h hne
   .have hw:Wv (j6P es t (pfX zs cs ls t)) (pfX zs cs ls t) ls.length m≠none:=λh=>hf ((hI.fr t t1 t2).2 h);obtain⟨x,hx,h⟩:=hI.cov t t1 t2 hw;exact⟨x,Å _ hx,h⟩
  .rw[Nat.pow_succ];omega
  .rw[H,Þ];omega
theorem jD2:∀(n m:Â)(F:SL)(O:SgL),n+m=ls.length->jwD zs cs ls es a b m F O->
  ∃F' O',j6i (n:w) ls zs ps cs ss (zs.map tb) nm ls es a b F O=I (F',O')/\jwD zs cs ls es a b ls.length F' O'
 |0,m,F,O,hn,hI=>by
  rw[j9U];simp only[j2p];rw[j00 omg_,j6,j06];obtain rfl:m=ls.length:=omg_;exact⟨F,O,rfl,hI⟩
 |k+1,m,F,O,hn,hI=>by
  obtain⟨S,Q,W,F',e1,e2,e3,e4,⟨P,e5,e6⟩,hI'⟩:=jBl hs hL hll hE hel ha hab hb hlen (nm:=nm) (ss:=ss) (k:=k) (m:=m) omg_ hI;rw[j9U];simp only[j2p];rw[j01 omg_,j00 (show ((k+1:Â):w)<=R ls.length by simp;omega),show ((k+1:Â):w)-1=(k:w) by omega];simp only[j6,j7,j8];generalize ls.getD k (Ê,0,(0,0),0,0,[],[],0,0)=L at *;rw[show j28 ((zs,ps,cs,ss),zs.map tb) (L.1,L.2.1,(L.2.2.1.1,L.2.2.1.2),L.2.2.2.1,L.2.2.2.2.1,L.2.2.2.2.2.1,L.2.2.2.2.2.2.1,L.2.2.2.2.2.2.2.1,L.2.2.2.2.2.2.2.2) a b=_ from e1];simp only[j4,e2,e3];rw[j00 e4];simp only[j6,j4,e5,e6,j03];exact jD2 k (m+1) F' (O++W) omg_ hI'
theorem jyz:∃out,j4Q ((zs,ps,cs,ss),zs.map tb) (nm,ls,es) a b=I out/\Cov (λt=>topP es t (pfX zs cs ls t) ls.length) b Ý a out/\out.length<=40000000:=by
 simp only[j4Q];by_cases hge:a>=b
 .rw[j00 hge,j6];exact⟨[],rfl,show a=b by omega,smp_⟩
 .rw[j01 hge,j7]
  have h0:jwD zs cs ls es a b 0 [(a,b)] []:=⟨⟨by dsimp only;omega,by dsimp only;omega,trivial⟩,λt h=>by
   rcases j0a.1 h with h|h
   .exact h.2
   .exact absurd h j33,λt t1 t2=>⟨λ_=>rfl,λ_=>j0a.2 (.inl ⟨t1,t2⟩)⟩,smp_,Í,λt _ _ h=>absurd rfl h,smp_,smp_⟩
  obtain⟨F,O,e1,hI⟩:=jD2 hs hL hll hE hel ha hab hb hlen (nm:=nm) (ss:=ss) ls.length 0 [(a,b)] [] omg_ h0;have hpow:2^ls.length<=2^4:=Ò omg_ hll;have hfl:=hI.fl;have hol:=hI.ol;have hF:F.length<=10000000:=omg_;have lp:=jD1 hF F.length 0 O omg_ omg_;rw[Ä]at lp
  have hFm:∀u∈F,a<=u.1/\u.1<u.2/\u.2<=b/\∀t,u.1<=t->t<u.2->Wv (j6P es t (pfX zs cs ls t)) (pfX zs cs ls t) ls.length ls.length=none:=λu hu=>by
   have hm:=StS.mem hI.st u hu;have:=hI.fb (u.2-1) ⟨u,hu,omg_,omg_⟩;exact⟨omg_,hm.2,omg_,λt t1 t2=>(hI.fr t omg_ omg_).1 ⟨u,hu,t1,t2⟩⟩
  have hall:∀x∈O++F.map (λu=>((u.1,u.2, -1):SgT)),a<=x.1/\x.1<x.2.1/\x.2.1<=b/\∀t,x.1<=t->t<x.2.1->topP es t (pfX zs cs ls t) ls.length=x.2.2:=λx hx=>by
   rcases List.mem_append.1 hx with hx|hx
   .obtain⟨h1,h2,h3,h4⟩:=hI.seg x hx;exact⟨h1,h2,h3,λt t1 t2=>by rw[jzN,h4 t t1 t2];rfl⟩
   .obtain⟨u,hu,rfl⟩:=List.mem_map.1 hx;obtain⟨h1,h2,h3,h4⟩:=hFm u hu;exact⟨h1,h2,h3,λt t1 t2=>by rw[jzN,h4 t t1 t2];rfl⟩
  have hpr:∀x∈O++F.map (λu=>((u.1,u.2, -1):SgT)), -1<=x.2.2/\x.2.2<=100:=λx hx=>by
   obtain⟨h1,h2,h3,h4⟩:=hall x hx;have:=h4 x.1 (Int.le_refl _) h2;have hp1:=hs.so.p1;rw[<-this];simp only[topP];cases hT:topI (j6P es x.1 (pfX zs cs ls x.1)) ls.length with
   |none=>dsimp only;omega
   |some i=>
    dsimp only
    have hi:∀(g:Â->Ü)(n i:Â),topI g n=I i->i<n:=by
     intro g n;induction n with
     |zero=>intro i h;simp[topI]at h
     |succ n ih=>
      intro i h;simp only[topI]at h;cases hg:g n with
      |true=>rw[hg,j6]at h;simp at h;omega
      |false=>rw[hg,j7]at h;have:=ih i h;omega
    have hi':=hi _ _ _ hT;have e:pfX zs cs ls x.1 i=perX zs cs ls[i] x.1:=by simp[pfX,À,hi']
    rw[e];have:=(jwh hs (hL _ (É hi')) (t:=x.1) omg_ omg_).2;omega
  have hapart:(O++F.map (λu=>((u.1,u.2, -1):SgT))).Pairwise apart:=by
   refine List.pairwise_append.2 ⟨hI.ap,?_,λx hx y hy=>?_⟩
   .rw[List.pairwise_map]
    have:∀(l:SL)(q:w),StS q l->l.Pairwise (λu v=>u.2<=v.1):=by
     intro l;induction l with
     |nil=>intro q _;exact Í
     |cons s r ih=>intro q h;exact List.pairwise_cons.2 ⟨λv hv=>by have:=StS.mem h.2.2 v hv;omega,ih _ h.2.2⟩
    exact(this F _ hI.st).imp (λh=> .inl h)
   .obtain⟨u,hu,rfl⟩:=List.mem_map.1 hy;obtain⟨h1,h2,h3,h4⟩:=hI.seg x hx;obtain⟨g1,g2,g3,g4⟩:=hFm u hu;apply Á;intro hn;simp only[apart,not_or]at hn
    have hc:∃t,x.1<=t/\t<x.2.1/\u.1<=t/\t<u.2:=by
     by_cases hxy:x.1<=u.1
     .exact⟨u.1,omg_,omg_,omg_,omg_⟩
     .exact⟨x.1,omg_,omg_,omg_,omg_⟩
    obtain⟨t,t1,t2,t3,t4⟩:=hc;have hw:=h4 t t1 t2;rw[g4 t t3 t4]at hw;simp at hw
  have hcov:∀t,(a<=t/\t<b)↔∃s∈O++F.map (λu=>((u.1,u.2, -1):SgT)),s.1<=t/\t<s.2.1:=λt=>by
   constructor
   .rintro⟨t1,t2⟩
    by_cases hn:Wv (j6P es t (pfX zs cs ls t)) (pfX zs cs ls t) ls.length ls.length=Ý
    .obtain⟨u,hu,u1,u2⟩:=(hI.fr t t1 t2).2 hn;exact⟨(u.1,u.2, -1),U _ (List.mem_map.2 ⟨u,hu,rfl⟩),u1,u2⟩
    .obtain⟨x,hx,h⟩:=hI.cov t t1 t2 hn;exact⟨x,Å _ hx,h⟩
   .rintro⟨x,hx,x1,x2⟩
    obtain⟨h1,h2,h3,_⟩:=hall x hx;omega
  have hZl:(O++F.map (λu=>((u.1,u.2, -1):SgT))).length<=40000000:=by rw[H,Ë];omega
  generalize hZ:O++F.map (λu=>((u.1,u.2, -1):SgT))=Z at *
  obtain⟨Y,e2,hp,hsrt⟩:=jtO (l:=Z) omg_ (λx hx=>by have:=hall x hx;have:=hpr x hx;omega)
  have hch:Ch (λt=>topP es t (pfX zs cs ls t) ls.length) b a Y:=by
   refine jCH hab ?_ (λs h=>⟨(hall s (hp.mem_iff.1 h)).2.1,(hall s (hp.mem_iff.1 h)).2.2.2⟩) (λt=>?_)
   .have hY:Y.Pairwise apart:=(hp.pairwise_iff (λ{x y} h=>Or.symm h)).2 hapart;refine Î (λ{x y} hx hy h=>?_) (hY.and hsrt);have h1:=hall x (hp.mem_iff.1 hx);have h2:=hall y (hp.mem_iff.1 hy);rcases h.1 with h3|h3
    .exact h3
    .have:=h.2;omega
   .rw[hcov t];constructor
    .rintro⟨x,hx,h⟩;exact⟨x,hp.mem_iff.2 hx,h⟩
    .rintro⟨x,hx,h⟩;exact⟨x,hp.mem_iff.1 hx,h⟩
  have hYl:=hp.length_eq;obtain⟨out,e3,h3,l3⟩:=jlF (l:=Y) omg_ hch;refine⟨out,?_,h3,omg_⟩;simp only[j2k,j4];rw[show j6i (R ls.length) ls zs ps cs ss (zs.map tb) nm ls es a b [(a,b)] []=_ from e1];simp only[j4,show R F.length=(F.length:w) from rfl];rw[show j6j (F.length:w) 0 F O=_ from lp];simp only[j4];rw[e2];simp only[j4,e3]
end
def brd(l:SgL):D Int:=l.tail.map (·.1)
theorem jlH{f:w->w}{b:w}:∀{l:SgL}{q:Ú w}{a:w},Cov f b q a l->(∀x,x∈brd l↔a<x/\x<b/\f (x-1)≠f x)/\(brd l).Nodup/\l.length<=(brd l).length+1
 |[],q,a,h=>⟨λx=>⟨λhx=>by simp[brd]at hx,λhx=>by have h:a=b:=h;omega⟩,Ù,smp_⟩
 |[s],q,a,h=>by
  obtain⟨h1,h2,h3,h4,h5⟩:=h;have h5:s.2.1=b:=h5;exact⟨λx=>⟨λhx=>by simp[brd]at hx,λ⟨x1,x2,x3⟩=>absurd ((h4 (x-1) omg_ omg_).trans (h4 x omg_ omg_).symm) x3⟩,Ù,by simp[brd]⟩
 |s::u::r,q,a,h=>by
  obtain⟨h1,h2,h3,h4,h5⟩:=h;obtain⟨i1,i2,i3⟩:=jlH h5;have hu:=h5.1;have hle:=h5.2.2.2.2.ch.le;have hu2:=h5.2.1;have e:brd (s::u::r)=u.1::brd (u::r):=rfl;refine⟨λx=>?_,?_,by rw[e];simp only[Æ]at i3 ⊢;omega⟩
  .rw[e,List.mem_cons,i1 x];constructor
   .rintro (rfl|⟨x1,x2,x3⟩)
    .refine⟨omg_,omg_,?_⟩;rw[h4 (u.1-1) omg_ omg_,h5.2.2.2.1 u.1 omg_ omg_]
     exactλhe=>h5.2.2.1 (by rw[he])
    .exact⟨omg_,x2,x3⟩
   .rintro⟨x1,x2,x3⟩
    by_cases hx:x<s.2.1
    .exact absurd ((h4 (x-1) omg_ omg_).trans (h4 x omg_ omg_).symm) x3
    .by_cases hx2:x=s.2.1
     .left;omega
     .right;exact⟨omg_,x2,x3⟩
  .rw[e];refine List.nodup_cons.2 ⟨λhm=>?_,i2⟩;have:=(i1 u.1).1 hm;omega
theorem jo4{f:w->w}{a b:w}{l:SgL}{q:Ú w}(h:Cov f b q a l){E:D w}(hE:∀x,a<x->x<b->f (x-1)≠f x->x∈E):l.length<=E.length+1:=by
 obtain⟨h1,h2,h3⟩:=jlH h
 have:=h2.length_le_of_subset (l₂:=E) (λx hx=>by
  have:=(h1 x).1 hx;exact hE x this.1 this.2.1 this.2.2)
 omega
def edB(es:D j1D):D Int:=es.flatMap λx=>[x.2.2.2.1,x.2.2.2.2]
theorem jjb:∀es:D j1D,(edB es).length=2*es.length
 |[]=>rfl
 |x::es=>by
  have:=jjb es;simp only[edB,È,H,Æ,List.length_nil]at this ⊢;omega
theorem jlI{es:D j1D}{x:j1D}(hx:x∈es):x.2.2.2.1∈edB es/\x.2.2.2.2∈edB es:=
 ⟨List.mem_flatMap.2 ⟨x,hx,smp_⟩,List.mem_flatMap.2 ⟨x,hx,smp_⟩⟩
theorem jlJ{es:D j1D}{t:w}(ht:t∉edB es)(p:w):jb4 es p (t-1)=jb4 es p t:=by
 unfold jb4;rw[Bool.eq_iff_iff,Ï,Ï]
 have key:∀x∈es,(x.1==0&&(x.2.1==p&&(Ã (x.2.2.2.1<=t-1)&&Ã (t-1<x.2.2.2.2))))=(x.1==0&&(x.2.1==p&&(Ã (x.2.2.2.1<=t)&&Ã (t<x.2.2.2.2)))):=λx hx=>by
  obtain⟨m1,m2⟩:=jlI hx;have n1:t≠x.2.2.2.1:=λe=>ht (e▸m1);have n2:t≠x.2.2.2.2:=λe=>ht (e▸m2)
  have e1:Ã (x.2.2.2.1<=t-1)=Ã (x.2.2.2.1<=t):=by
   by_cases h:x.2.2.2.1<=t
   .rw[j00 h,j00 omg_]
   .rw[j01 h,j01 omg_]
  have e2:Ã (t-1<x.2.2.2.2)=Ã (t<x.2.2.2.2):=by
   by_cases h:t<x.2.2.2.2
   .rw[j00 h,j00 omg_]
   .rw[j01 h,j01 omg_]
  rw[e1,e2]
 exact⟨λ⟨x,hx,h⟩=>⟨x,hx,by rw[<-key x hx];exact h⟩,λ⟨x,hx,h⟩=>⟨x,hx,by rw[key x hx];exact h⟩⟩
theorem jgh{es:D j1D}{t u:w}{pf pg:Â->w}{n:Â}(hp:∀i,i<n->pf i=pg i)(ha:∀p,jb4 es p t=jb4 es p u):topP es t pf n=topP es u pg n:=by
 have hg:∀m,m<=n->topI (j6P es t pf) m=topI (j6P es u pg) m:=by
  intro m;induction m with
  |zero=>intro _;rfl
  |succ m ih=>
   intro hm;have e:j6P es t pf m=j6P es u pg m:=by simp only[j6P,hp m omg_,ha]
   simp only[topI,e,ih omg_]
 have hi:∀(g:Â->Ü)(n i:Â),topI g n=I i->i<n:=by
  intro g n;induction n with
  |zero=>intro i h;simp[topI]at h
  |succ n ih=>
   intro i h;simp only[topI]at h;cases hg:g n with
   |true=>rw[hg,j6]at h;simp at h;omega
   |false=>rw[hg,j7]at h;have:=ih i h;omega
 simp only[topP,hg n (Õ _)];cases hT:topI (j6P es u pg) n with
 |none=>rfl
 |some i=>exact hp i (hi _ _ _ hT)
section
variable{zs:D j0D}{ps:D j0h}{cs:D CalT}(hs:SOk2 zs ps cs)
include hs
theorem jwE{a b:w}(ha:0<=a)(hab:a<=b)(hb:b<=8589934592)(hlen:b-a<=2592000):∀ls:D j0b,(∀L∈ls,LCk zs.length ps.length cs.length L)->
  ∃E:D w,E.length<=5000*ls.length/\∀L∈ls,∀x,a<x->x<b->perX zs cs L (x-1)≠perX zs cs L x->x∈E
 |[],_=>⟨[],smp_,smp_⟩
 |L::ls,hL=>by
  obtain⟨E,e1,e2⟩:=jwE ha hab hb hlen ls (λM hM=>hL M (by simp[hM]));obtain⟨S,_,c1,l1⟩:=jo3 hs (hL L smp_) (ss:=[]) ha hab hb (M:=5) omg_ omg_;refine⟨brd S++E,?_,λM hM x x1 x2 x3=>?_⟩
  .have:(brd S).length<=S.length:=by simp[brd]
   rw[H,Æ];omega
  .rcases List.mem_cons.1 hM with rfl|hM
   .exact Å _ (((jlH c1).1 x).2 ⟨x1,x2,x3⟩)
   .exact U _ (e2 M hM x x1 x2 x3)
theorem jwF{ls:D j0b}{es:D j1D}(hL:∀L∈ls,LCk zs.length ps.length cs.length L){a b:w}(ha:0<=a)(hab:a<=b)(hb:b<=8589934592)(hlen:b-a<=2592000) :
  ∃E:D w,E.length<=5000*ls.length+2*es.length/\(∀x,a<x->x<b->topP es (x-1) (pfX zs cs ls (x-1)) ls.length≠topP es x (pfX zs cs ls x) ls.length->x∈E)/\∀x∈edB es,x∈E:=by
 obtain⟨E,e1,e2⟩:=jwE hs ha hab hb hlen ls hL;refine⟨E++edB es,by rw[H,jjb];omega,λx x1 x2 x3=>?_,λx hx=>U _ hx⟩;apply Á;intro hn;simp only[List.mem_append,not_or]at hn;refine x3 (jgh (λi hi=>?_) (λp=>jlJ hn.2 p));apply Á;intro hne;have e:∀t,pfX zs cs ls t i=perX zs cs ls[i] t:=λt=>by simp[pfX,À,hi]
 rw[e,e]at hne;exact hn.1 (e2 _ (É hi) x x1 x2 hne)
theorem jwG{nm:Ñ}{ls:D j0b}{es:D j1D}(hL:∀L∈ls,LCk zs.length ps.length cs.length L)(hll:ls.length<=4)(hE:∀x∈es,ECk ps.length x)(hel:es.length<=48)
  {ss:D j0r}{a b:w}(ha:0<=a)(hab:a<=b)(hb:b<=8589934592)(hlen:b-a<=2592000) :
  ∃out,j4Q ((zs,ps,cs,ss),zs.map tb) (nm,ls,es) a b=I out/\Cov (λt=>topP es t (pfX zs cs ls t) ls.length) b Ý a out/\out.length<=5000*ls.length+2*es.length+1:=by
 obtain⟨out,e,h,_⟩:=jyz hs hL hll hE hel ha hab hb omg_ (nm:=nm) (ss:=ss);obtain⟨E,e1,e2,_⟩:=jwF hs (es:=es) hL ha hab hb hlen;have:=jo4 h e2;exact⟨out,e,h,omg_⟩
theorem jmR{ss:D j0r}(hc:j6O (zs,ps,cs,ss)){i:Â}(hi:i<ss.length){a b:w}(ha:0<=a)(hab:a<=b)(hb:b<=8589934592)(hlen:b-a<=34560000) :
  jaa (zs,ps,cs,ss) (i:w) a b=I (((zs,ps,cs,ss),zs.map tb),0):=by
 simp only[jaa,jwf hs.so.ok hc,j4,Ó,j7,j8D,show R ss.length=(ss.length:w) from rfl,ja9];rw[j00 (show (i:w)>=0 by omega),j00 (show (i:w)<(ss.length:w) by omega),j05 (x:=b-a),j00 (show a>=0 by omega),j00 (show a<=8589934592 by omega),j00 (show b>=a by omega),j00 hb,j00 hlen];rfl
end
section
variable{zs:D j0D}{ps:D j0h}{cs:D CalT}(hs:SOk2 zs ps cs)
include hs
end
section
variable{o:w}{l:TrL}(h:TOk o l)
include h
end
section
variable{zs:D j0D}{ps:D j0h}{cs:D CalT}(hs:SOk2 zs ps cs)
include hs
end
theorem jwH{f:Â->Ü}:∀{n k:Â},topI f n=I k->k<n
 |0,k,h=>by simp[topI]at h
 |n+1,k,h=>by
  simp only[topI]at h;cases hf:f n with
  |true=>rw[hf]at h;simp at h;omega
  |false=>rw[hf]at h;simp at h;have:=jwH h;omega
def jhf(t p:w)(x:j1D):Int:=
 if t<x.2.2.2.1\/x.2.2.2.2<=t then p else if x.1=1 then x.2.1 else if x.1=2/\p=x.2.1 then x.2.2.1 else if x.1=2/\p=x.2.2.1 then x.2.1 else p
def jbw(t:w):w->D j1D->w
 |p,[]=>p
 |p,x::r=>jbw t (jhf t p x) r
theorem jwI{es:D j1D}(hl:es.length<=100){t:w}:∀(n i:Â)(p:w),i+n=es.length->jce es p t (i:w)=I (jbw t p (es.drop i))
 |0,i,p,hi=>by
  rw[jgs];simp only[j6E,show R es.length=(es.length:w) from rfl];rw[j01 omg_,j7,j06,G omg_];rfl
 |n+1,i,p,hi=>by
  have hi':i<es.length:=omg_;have hgd:es.getD i (0,0,0,0,0)=es[i]:=by simp[À,hi']
  have ih:=λp=>jwI hl (t:=t) n (i+1) p omg_;rw[jgs];simp only[j6E,show R es.length=(es.length:w) from rfl];rw[j00 omg_,j0O,j05 (x:=(i:w)+1),z hi'];simp only[j6,j8,hgd,jbw];generalize es[i]=x;unfold jhf;by_cases ha:t<x.2.2.2.1\/x.2.2.2.2<=t
  .rw[if_pos ha]
   have:cond (Ã (t<x.2.2.2.1)) Û (Ã (t>=x.2.2.2.2))=true:=by
    rcases ha with ha|ha
    .rw[j00 ha];rfl
    .rw[j00 (show t>=x.2.2.2.2 from ha)];cases Ã (t<x.2.2.2.1)<;>rfl
   rw[this,j6,j03];exact ih p
  .rw[if_neg ha,j01 (show¬t<x.2.2.2.1 by omega),j01 (show¬t>=x.2.2.2.2 by omega)];simp only[j7];by_cases h1:x.1=1
   .rw[if_pos h1,j43 h1,j6,j03];exact ih _
   .rw[if_neg h1,j1G h1,j7];by_cases h2:x.1=2
    .rw[j43 h2];simp only[j6];by_cases h3:p=x.2.1
     .rw[if_pos ⟨h2,h3⟩,j43 h3,j6,j03];exact ih _
     .rw[if_neg (λh=>h3 h.2),j1G h3,j7];by_cases h4:p=x.2.2.1
      .rw[if_pos ⟨h2,h4⟩,j43 h4,j6,j03];exact ih _
      .rw[if_neg (λh=>h4 h.2),j1G h4,j7,j03];exact ih _
    .rw[if_neg (λh=>h2 h.1),if_neg (λh=>h2 h.1),j1G h2];simp only[j7,j03];exact ih _
theorem jwJ{es:D j1D}(hl:es.length<=100){t:w}:∀(n i:Â)(p:w),i+n=es.length->jcM p t es (es.length:w) (i:w)=I (jbw t p (es.drop i))
 |0,i,p,hi=>by
  rw[jff];simp only[j5H];rw[j01 omg_,j7,j06,G omg_];rfl
 |n+1,i,p,hi=>by
  have hi':i<es.length:=omg_;have hgd:es.getD i (0,0,0,0,0)=es[i]:=by simp[À,hi']
  have ih:=λp=>jwJ hl (t:=t) n (i+1) p omg_;rw[jff];simp only[j5H,jgU,j4];rw[j00 omg_,j0O,j05 (x:=(i:w)+1),z hi'];simp only[j6,j8,hgd,jbw];generalize es[i]=x;unfold jhf;by_cases ha:t<x.2.2.2.1\/x.2.2.2.2<=t
  .rw[if_pos ha]
   have:cond (Ã (x.2.2.2.1<=t)) (Ã (t<x.2.2.2.2)) Ö=false:=by
    rcases ha with ha|ha
    .rw[j01 (show¬x.2.2.2.1<=t by omega)];rfl
    .rw[j01 (show¬t<x.2.2.2.2 by omega)];cases Ã (x.2.2.2.1<=t)<;>rfl
   rw[this];simp only[Ø,j6,j03];exact ih p
  .rw[if_neg ha,j00 (show x.2.2.2.1<=t by omega),j00 (show t<x.2.2.2.2 by omega)];simp only[j6,Ó,j7];by_cases h0:x.1=0
   .rw[j43 h0,if_neg omg_,if_neg omg_,if_neg omg_,j6,j03];exact ih p
   rw[j1G h0,j7];by_cases h1:x.1=1
   .rw[if_pos h1,j43 h1,j6,j03];exact ih _
   .rw[if_neg h1,j1G h1,j7];by_cases h2:x.1=2
    .rw[show (x.1 != 2)=Ö by simp[h2],j7];by_cases h3:p=x.2.1
     .rw[if_pos ⟨h2,h3⟩,j43 h3,j6,j03];exact ih _
     .rw[if_neg (λh=>h3 h.2),j1G h3,j7];by_cases h4:p=x.2.2.1
      .rw[if_pos ⟨h2,h4⟩,j43 h4,j6,j03];exact ih _
      .rw[if_neg (λh=>h4 h.2),j1G h4,j7,j03];exact ih _
    .rw[if_neg (λh=>h2 h.1),if_neg (λh=>h2 h.1),show (x.1 != 2)=Û by simp[h2],j6,j03];exact ih _
end Go.Proofs.Pw
