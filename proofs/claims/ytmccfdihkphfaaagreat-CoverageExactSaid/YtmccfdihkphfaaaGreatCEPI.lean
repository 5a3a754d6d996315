/- Facts. -/
import Derived.Test.YtmccfdihkphfaaaGreatCEPE
import Derived.Test.YtmccfdihkphfaaaGreatCEPD
import Derived.Test.YtmccfdihkphfaaaGreatCEPF
import Derived.Test.YtmccfdihkphfaaaGreatCEPH
open _root_ renaming Int->D,List->E,ByteArray->M,Nat->R,Option->À,Bool->É
open List renaming drop_eq_getElem_cons->G,length_append->H,getD->K,drop_of_length_le->N,getD_eq_getElem?_getD->U,getD_cons_zero->Å,length->Æ
open Option renaming some->I,none->Ê
open ByteArray renaming empty->J
open Decidable renaming decide->X
open List.Pairwise renaming nil->Á,imp_of_mem->Ã
open Int renaming ofNat->Â
noncomputable section
open Go Go.Lft
namespace Go.Proofs.Pw
def dH(zs:E bB)(cs:E aY)(ls:E bt)(t:D)(i:R):Int:=cE zs cs (ls.getD i (J,((0:D),(((0:D),(0:D)),((0:D),((0:D),(([]:E D),(([]:E (D×D)),((0:D),(0:D)))))))))) t
def uW(es:E ct)(p:D):SL:=(es.filter λx=>x.1==0&&x.2.1==p).map λx=>(x.2.2.2.1,x.2.2.2.2)
theorem jJf{es:E ct}{p t:D}:bN t (uW es p)↔jJ es p t=true:=by
 unfold bN uW jJ;rw[List.any_eq_true];constructor
 .grind
 .rintro⟨x,hx,h⟩
  grind
theorem Vc{es:E ct}(hl:es.length<=1000){p:D}:∀(n i:R)(acc:SL),i+n=es.length->acc.length<=i->Pv p es (es.length:D) (i:D) acc=I (acc++uW (es.drop i) p)
 |0,i,acc,hi,_=>by
  grind[_j,j5b,S0,uW]
 |n+1,i,acc,hi,ha=>by
  have bG:i<es.length:=aa;have br:es.getD i ((0:D),((0:D),((0:D),((0:D),(0:D)))))=es[i]:=by simp[K,bG]
  rw[_j];simp only[j5b];rw[ai aa,cB,aQ (x:=(i:D)+1)];simp only[j6,j8,br];have hc:cond (es[i].1==(0:D)) (es[i].2.1==p) false=(es[i].1==0&&es[i].2.1==p):=by simp_all
  rw[hc,G bG];cases hx:(es[i].1==0&&es[i].2.1==p) with
  |true=>simp(disch:=omega)only[S0];have:=Vc hl (p:=p) n (i+1) (acc++[(es[i].2.2.2.1,es[i].2.2.2.2)]) aa aj;grind[uW]
  |false=>rw[j7,bg];have:=Vc hl (p:=p) n (i+1) acc aa aa;grind[uW]
theorem jD5{es:E ct}(hE:∀x∈es,GW x)(hl:es.length<=48)(nm:M)(ls:E bt)(p:D) :
  ∃out,j8E (nm,(ls,es)) p=I out/\bU (-1) out/\(∀t,bN t out↔jJ es p t=true)/\out.length<=es.length:=by
 have lp:=Vc (es:=es) aa (p:=p) es.length 0 [] aa ae;rw[jr,jj]at lp;have fE:(uW es p).length<=es.length:=by grind[uW]
 have hb:∀s∈uW es p,0<=s.1/\s.1<s.2/\s.2<=1000000000000:=λs h=>by
  obtain⟨x,hx,rfl⟩:=k7.1 h;have:=hE x (List.mem_filter.1 hx).1;exact⟨this.f0,this.ft,this.t1⟩
 obtain⟨out,e,h1,h2,h3,h4⟩:=GY (l:=uW es p) aa (λs h=>by have:=hb s h;omega) (lo:=0) (hi:=1000000000000) (λs h _=>by have:=hb s h;omega);refine⟨out,?_,h1,λt=>(h2 t).trans jJf,aa⟩;grind[j8E]
theorem jAj{β:Type}(l:E (D×β))(k:D)(v:β)(j:D):mZ (kV l k v) j=(j==k||mZ l j):=by
 induction l<;>grind[kV,mZ]
theorem jAk{β:Type}(d:β)(l:E (D×β))(k:D)(v:β)(j:D):iQ d (kV l k v) j=cond (j==k) v (iQ d l j):=by
 induction l<;>grind[kV,iQ]
def iy(p:D):bM->Prop
 |[]=>True
 |x::r=>p<=x.1/\x.1<x.2.1/\iy x.2.1 r
def ox(t:D)(l:bM):Prop:=∃x∈l,x.1<=t/\t<x.2.1
theorem Ls{t:D}{s:mh}{l:bM}:ox t (s::l)↔(s.1<=t/\t<s.2.1)\/ox t l:=by
 constructor
 .rintro⟨u,hu,h⟩
  rcases jb.1 hu with rfl|hu
  .exact .inl h
  .exact .inr ⟨u,hu,h⟩
 .rintro (h|⟨u,hu,h⟩)
  .exact⟨s,ae,h⟩
  .exact⟨u,by simp[hu],h⟩
theorem Vd{t:D}:¬ox t []:=by rintro⟨s,hs,_⟩;simp at hs
theorem iy.weak{p q:D}(hq:q<=p):∀{l:bM},iy p l->iy q l
 |[],_=>trivial
 |_::_,h=>⟨by have:=h.1;omega,h.2⟩
theorem iy.low{p t:D}:∀{l:bM},iy p l->ox t l->p<=t
 |[],_,h=>absurd h Vd
 |s::r,h,hx=>by
  rcases Ls.1 hx with hx|hx
  .have:=h.1;omega
  .have:=iy.low h.2.2 hx;have:=h.1;have:=h.2.1;omega
theorem iy.app{e:D}{r:bM}(hr:iy e r):∀{l:bM}{p:D},iy p l->p<=e->(∀x∈l,x.2.1<=e)->iy p (l++r)
 |[],_,_,hp,_=>hr.weak hp
 |x::l,p,h,_,hl=>⟨h.1,h.2.1,hr.app h.2.2 (hl x ae) (λy hy=>hl y (by simp[hy]))⟩
theorem iy.apart{p:D}:∀{l:bM},iy p l->l.Pairwise (λx y=>x.2.1<=y.1)/\∀x∈l,p<=x.1
 |[],_=>⟨Á,ae⟩
 |x::l,h=>by
  obtain⟨h1,h2⟩:=iy.apart h.2.2
  exact⟨List.pairwise_cons.2 ⟨h2,h1⟩,λy hy=>by
   rcases jb.1 hy with rfl|hy
   .exact h.1
   .have:=h2 y hy;have:=h.1;have:=h.2.1;omega⟩
def uh(s:bW)(p:D):SL:=(j8E s p).getD []
def ui(s:bW)(x:mh):SL:=(j3L [(x.1,x.2.1)] (uh s x.2.2)).getD []
def nY(s:bW)(x:mh):bM:=if x.2.2<0 then [] else (ui s x).map λu=>(u.1,(u.2,x.2.2))
section
variable{nm:M}{ls:E bt}{es:E ct}(hE:∀x∈es,GW x)(hl:es.length<=48)
include hE hl
theorem Ų(p:D):j8E (nm,(ls,es)) p=I (uh (nm,(ls,es)) p)/\bU (-1) (uh (nm,(ls,es)) p)/\(∀t,bN t (uh (nm,(ls,es)) p)↔jJ es p t=true)/\(uh (nm,(ls,es)) p).length<=es.length:=by
 obtain⟨out,e,h⟩:=jD5 hE hl nm ls p;grind[uh]
theorem Ve{x:mh}(hx:x.1<x.2.1):j3L [(x.1,x.2.1)] (uh (nm,(ls,es)) x.2.2)=I (ui (nm,(ls,es)) x)/\bU (x.1-1) (ui (nm,(ls,es)) x)/\
  (∀t,bN t (ui (nm,(ls,es)) x)↔(x.1<=t/\t<x.2.1)/\jJ es x.2.2 t=false)/\(ui (nm,(ls,es)) x).length<=1+es.length:=by
 obtain⟨_,l1,l2,l3⟩:=Ų (nm:=nm) (ls:=ls) hE hl x.2.2;obtain⟨out,e,h1,h2,h3⟩:=Uw (B:=uh (nm,(ls,es)) x.2.2) aa (A:=[(x.1,x.2.1)]) (p:=x.1-1) ⟨by dsimp only;omega,hx,trivial⟩ l1 ae;grind[ui,dD,iE]
omit hE hl in
theorem ų{S:bM}{m j f e p:D}{mp:E (D×SL)}{W:SL}(hW:W.length<=1000):∀(n i:R)(acc:bM),i+n=W.length->acc.length+n<=1000000000->
  C7 S m j (W.length:D) (i:D) nm ls es f e p mp acc W=I (S,m,j,nm,ls,es,mp,acc++(W.drop i).map λu=>(u.1,(u.2,p)))
 |0,i,acc,hi,_=>by
  rw[_k];simp(disch:=omega)only[j4p,N,S0];simp
 |n+1,i,acc,hi,ha=>by
  have bG:i<W.length:=aa;have br:W.getD i ((0:D),(0:D))=W[i]:=by simp[K,bG]
  rw[_k];simp(disch:=omega)only[j4p,G bG,S0];have:=ų (S:=S) (m:=m) (j:=j) (f:=f) (e:=e) (p:=p) (mp:=mp) hW n (i+1) (acc++[(W[i].1,(W[i].2,p))]) aa aj;grind
theorem Vf{S:bM}(hS:S.length<=100000)(bZ:∀x∈S,x.1<x.2.1):∀(n i:R)(mp:E (D×SL))(acc:bM),i+n=S.length->(∀p,mZ mp p=true->iQ [] mp p=uh (nm,(ls,es)) p)->acc.length<=49*i->
  F7 S (S.length:D) (i:D) nm ls es mp acc=I (acc++(S.drop i).flatMap (nY (nm,(ls,es))))
 |0,i,mp,acc,hi,_,_=>by
  grind[_l,j4q,S0]
 |n+1,i,mp,acc,hi,hm,ha=>by
  have bG:i<S.length:=aa;have br:S.getD i ((0:D),((0:D),(0:D)))=S[i]:=by simp[K,bG]
  have hp:=bZ _ (jd bG);rw[_l];simp only[j4q];rw[ai (show (i:D)<(S.length:D) by omega),cB];simp only[j6,j8,br];rw[G bG,qz];by_cases kH:S[i].2.2<0
  .simp(disch:=omega)only[S0];have e:nY (nm,(ls,es)) S[i]=[]:=if_pos kH;rw[e,jr];exact Vf hS bZ n (i+1) mp acc aa hm aa
  .have e:nY (nm,(ls,es)) S[i]=(ui (nm,(ls,es)) S[i]).map λu=>(u.1,(u.2,S[i].2.2)):=if_neg kH;obtain⟨w1,_,_,w4⟩:=Ve (nm:=nm) (ls:=ls) hE hl hp;rw[aC kH,j7]
   have fin:∀w6:E (D×SL),(∀p,mZ w6 p=true->iQ [] w6 p=uh (nm,(ls,es)) p)->iQ [] w6 S[i].2.2=uh (nm,(ls,es)) S[i].2.2->
     lpK ((j3L [(S[i].1,S[i].2.1)] (iQ [] w6 S[i].2.2)).bind λŴ=>
      (C7 S (S.length:D) (i:D) (Â Ŵ.length) 0 nm ls es S[i].1 S[i].2.1 S[i].2.2 w6 acc Ŵ).bind λq2=>
       (I (Sum.inl (q2.1,q2.2.1,w64 (q2.2.2.1+1),q2.2.2.2.1,q2.2.2.2.2.1,q2.2.2.2.2.2.1,q2.2.2.2.2.2.2.1,q2.2.2.2.2.2.2.2)):À ((bM×D×D×M×E bt×E ct×E (D×SL)×bM) ⊕ bM)))
      (λh=>F7 h.1 h.2.1 h.2.2.1 h.2.2.2.1 h.2.2.2.2.1 h.2.2.2.2.2.1 h.2.2.2.2.2.2.1 h.2.2.2.2.2.2.2)=I (acc++(nY (nm,(ls,es)) S[i]++(S.drop (i+1)).flatMap (nY (nm,(ls,es))))):=λw6 lv hg=>by
    have l2:=ų (nm:=nm) (ls:=ls) (es:=es) (S:=S) (m:=(S.length:D)) (j:=(i:D)) (f:=S[i].1) (e:=S[i].2.1) (p:=S[i].2.2) (mp:=w6) (W:=ui (nm,(ls,es)) S[i]) aa (ui (nm,(ls,es)) S[i]).length 0 acc aa aa;rw[hg,w1];simp only[j4];rw[show C7 S (S.length:D) (i:D) (Â (ui (nm,(ls,es)) S[i]).length) 0 nm ls es S[i].1 S[i].2.1 S[i].2.2 w6 acc (ui (nm,(ls,es)) S[i])=_ from l2];simp(disch:=omega)only[jj,<-e,<-jk,S0];exact Vf hS bZ n (i+1) w6 _ aa lv (by grind)
   cases hh:mZ mp S[i].2.2 with
   |true=>
    simp_all
   |false=>simp(disch:=omega)only[show j8E (nm,(ls,es)) S[i].2.2=_ from (Ų (nm:=nm) (ls:=ls) hE hl S[i].2.2).1,S0];grind[jAk,jAj]
theorem jAl{S:bM}(hS:S.length<=100000)(bZ:∀x∈S,x.1<x.2.1):jaW (nm,(ls,es)) S=I (S.flatMap (nY (nm,(ls,es)))):=by
 simp(disch:=omega)only[jaW,S0];rw[show F7 S (S.length:D) 0 nm ls es [] []=_ from Vf hE hl hS bZ S.length 0 [] [] aa (λp h=>by simp[mZ]at h) ae];rfl
theorem jHF{x:mh}(hx:x.1<x.2.1):(nY (nm,(ls,es)) x).length<=1+es.length:=by
 grind[nY,Ve]
theorem ŵ:∀{S:bM},(∀x∈S,x.1<x.2.1)->(S.flatMap (nY (nm,(ls,es)))).length<=S.length*(1+es.length)
 |[],_=>ae
 |x::S,h=>by
  have h1:=jHF (nm:=nm) (ls:=ls) hE hl (h x ae);have h2:=ŵ (S:=S) (λy hy=>h y (by simp[hy]));rw[qz,H,jf,Nat.add_mul];omega
theorem Ŷ{p:D}{c e:D}:∀{W:SL}{q:D},bU q W->(∀u∈W,u.2<=e)->iy (q+1) (W.map λu=>(u.1,(u.2,c)))/\(p<=q+1->iy p (W.map λu=>(u.1,(u.2,c))))
 |[],_,_,_=>⟨trivial,λ_=>trivial⟩
 |u::W,q,h,hb=>by
  have _:=hE;have _:=hl;have h3:=(Ŷ (p:=u.2) (c:=c) (e:=e) (W:=W) h.2.2 (λv hv=>hb v (by simp[hv]))).2 aa;exact⟨⟨by have:=h.1;dsimp only;omega,h.2.1,h3⟩,λhp=>⟨by have:=h.1;dsimp only;omega,h.2.1,h3⟩⟩
theorem ŷ{f:D->D}{b:D}:∀{S:bM}{a:D},Ch f b a S->(∀x∈S,x.1<x.2.1)->
  iy a (S.flatMap (nY (nm,(ls,es))))/\(∀x∈S.flatMap (nY (nm,(ls,es))),x.2.1<=b/\∀t,x.1<=t->t<x.2.1->f t=x.2.2/\0<=x.2.2/\jJ es x.2.2 t=false)/\
   ∀t,a<=t->t<b->0<=f t->jJ es (f t) t=false->ox t (S.flatMap (nY (nm,(ls,es))))
 |[],a,h,_=>⟨trivial,ae,λt h1 h2=>by have h:a=b:=h;omega⟩
 |x::S,a,h,bZ=>by
  obtain⟨h1,h2,h3,h4⟩:=h;have hx:=bZ x ae;obtain⟨i1,i2,i3⟩:=ŷ (f:=f) (b:=b) h4 (λy hy=>bZ y (by simp[hy]));have hle:=h4.le;obtain⟨_,w2,w3,_⟩:=Ve (nm:=nm) (ls:=ls) hE hl hx
  have iC:∀y∈nY (nm,(ls,es)) x,0<=x.2.2/\y.2.2=x.2.2/\y.1<y.2.1/\x.1<=y.1/\y.2.1<=x.2.1/\∀t,y.1<=t->t<y.2.1->jJ es x.2.2 t=false:=λy hy=>by
   unfold nY at hy;split at hy
   .simp at hy
   .obtain⟨u,hu,rfl⟩:=k7.1 hy;have hm:=bU.mem w2 u hu;have e1:=(w3 (u.2-1)).1 ⟨u,hu,aa,aa⟩;exact⟨aa,rfl,hm.2,by dsimp only;omega,by dsimp only;omega,λt t1 t2=>((w3 t).1 ⟨u,hu,t1,t2⟩).2⟩
  rw[qz];refine⟨?_,λy hy=>?_,λt t1 t2 t3 t4=>?_⟩
  .refine iy.app i1 ?_ h2 (λy hy=>(iC y hy).2.2.2.2.1);unfold nY;split
   .trivial
   .exact(Ŷ hE hl (p:=a) (c:=x.2.2) (e:=x.2.1) w2 (λu hu=>by
     have hm:=bU.mem w2 u hu;have e1:=(w3 (u.2-1)).1 ⟨u,hu,aa,aa⟩;omega)).2 aa
  .rcases ji.1 hy with hy|hy
   .obtain⟨g1,g2,g3,g4,g5,g6⟩:=iC y hy;exact⟨aa,λt t1 t2=>⟨by grind,aa,by grind⟩⟩
   .exact i2 y hy
  .by_cases ao:t<x.2.1
   .have hf:=h3 t t1 ao;rw[hf]at t3 t4;obtain⟨u,hu,u1,u2⟩:=(w3 t).2 ⟨⟨aa,ao⟩,t4⟩;refine⟨(u.1,(u.2,x.2.2)),jo _ ?_,u1,u2⟩;grind[nY]
   .obtain⟨y,hy,y1,y2⟩:=i3 t aa t2 t3 t4;exact⟨y,jm _ hy,y1,y2⟩
end
def mi:R->bM->SL->bM
 |n+1,s::a,u::b=>(if (if u.1>s.1 then u.1 else s.1)<(if u.2<s.2.1 then u.2 else s.2.1) then [((if u.1>s.1 then u.1 else s.1),((if u.2<s.2.1 then u.2 else s.2.1),s.2.2))] else [])++
  (if s.2.1<u.2 then mi n a (u::b) else mi n (s::a) b)
 |_,_,_=>[]
theorem Vg:∀(n:R)(a:bM)(b:SL)(p q:D),a.length+b.length<=n->iy p a->bU q b->
  iy p (mi n a b)/\iy q (mi n a b)/\(∀x∈mi n a b,∃s∈a,s.1<=x.1/\x.2.1<=s.2.1/\x.2.2=s.2.2/\∀t,x.1<=t->t<x.2.1->bN t b)/\(∀t,ox t a->bN t b->ox t (mi n a b))/\(mi n a b).length<=a.length+b.length
 |0,a,b,p,q,hn,_,_=>by
  obtain rfl:a=[]:=List.length_eq_zero_iff.1 aa;exact⟨trivial,trivial,by simp[mi],λt h=>absurd h Vd,by simp[mi]⟩
 |n+1,[],b,p,q,_,_,_=>⟨trivial,trivial,by simp[mi],λt h=>absurd h Vd,by simp[mi]⟩
 |n+1,_::_,[],p,q,_,_,_=>⟨trivial,trivial,by simp[mi],λt _ h=>absurd h iE,by simp[mi]⟩
 |n+1,s::a,u::b,p,q,hn,ha,hb=>by
  obtain⟨a1,a2,a3⟩:=ha;obtain⟨b1,b2,b3⟩:=hb;simp only[jf]at hn ⊢;have hx:∃f t:D,f=(if u.1>s.1 then u.1 else s.1)/\t=(if u.2<s.2.1 then u.2 else s.2.1)/\(∀x,(f<=x/\x<t)↔(s.1<=x/\x<s.2.1)/\(u.1<=x/\x<u.2))/\p<=f/\q<=f/\t<=s.2.1/\t<=u.2/\s.1<=f:=by grind
  obtain⟨f,t,ef,et,hi,f1,f2,t1,t2,f3⟩:=hx;simp only[mi,<-ef,<-et]
  have key:∀(a':bM)(b':SL)(r:bM),iy t r->iy p r->iy q r->(∀x∈r,∃s'∈(s::a),s'.1<=x.1/\x.2.1<=s'.2.1/\x.2.2=s'.2.2/\∀y,x.1<=y->y<x.2.1->bN y (u::b))->(∀y,ox y a'->bN y b'->ox y r)->
    r.length<=a'.length+b'.length->a'.length+b'.length+1=a.length+1+(b.length+1)->(∀y,ox y (s::a)->bN y (u::b)->(f<=y/\y<t)\/(ox y a'/\bN y b'))->
    iy p ((if f<t then [(f,(t,s.2.2))] else [])++r)/\iy q ((if f<t then [(f,(t,s.2.2))] else [])++r)/\(∀x∈((if f<t then [(f,(t,s.2.2))] else [])++r),∃s'∈(s::a),s'.1<=x.1/\x.2.1<=s'.2.1/\x.2.2=s'.2.2/\∀y,x.1<=y->y<x.2.1->bN y (u::b))/\
     (∀y,ox y (s::a)->bN y (u::b)->ox y ((if f<t then [(f,(t,s.2.2))] else [])++r))/\((if f<t then [(f,(t,s.2.2))] else [])++r).length<=a.length+1+(b.length+1):=by
   intro a' b' r Et yJ hr3 ē hr5 hl uD Uu;by_cases nV:f<t
   .rw[if_pos nV];refine⟨⟨f1,nV,Et⟩,⟨f2,nV,Et⟩,λx hx=>?_,λy y1 y2=>?_,aj⟩
    .rcases jb.1 hx with rfl|hx
     .grind[dD]
     .exact ē x hx
    grind[Ls]
   grind
  by_cases hc:s.2.1<u.2
  .rw[if_pos hc];obtain⟨i1,i2,i3,i4,i5⟩:=Vg n a (u::b) s.2.1 q aj a3 ⟨b1,b2,b3⟩;refine key a (u::b) _ (i1.weak t1) (i1.weak aa) i2 (λx hx=>?_) i4 i5 aj (λy y1 y2=>?_)
   .grind
   .rcases Ls.1 y1 with h|h
    .rcases dD.1 y2 with h'|h'
     .omega
     .have:=bU.low b3 h';omega
    .exact .inr ⟨h,y2⟩
  .rw[if_neg hc];obtain⟨i1,i2,i3,i4,i5⟩:=Vg n (s::a) b p u.2 aj ⟨a1,a2,a3⟩ b3;refine key (s::a) b _ (i2.weak t2) i1 (i2.weak aa) (λx hx=>?_) i4 i5 aj (λy y1 y2=>?_)
   .grind[dD]
   .rcases dD.1 y2 with h|h
    .rcases Ls.1 y1 with h'|h'
     .omega
     .have:=iy.low a3 h';omega
    .exact .inr ⟨y1,h⟩
theorem Vh{A:bM}{B:SL}(hA:A.length<=10000000)(hB:B.length<=10000000):∀(n i k:R)(acc:bM),i<=A.length->k<=B.length->(A.length-i)+(B.length-k)=n->acc.length+n<=3000000->
  C8 A B (i:D) (k:D) acc=I (acc++mi n (A.drop i) (B.drop k))
 |n,i,k,acc,hi,hk,hn,dM=>by
  rw[jmc];simp only[j6I,show Â (Æ A)=(A.length:D) from rfl,show Â (Æ B)=(B.length:D) from rfl];by_cases fW:i<A.length/\k<B.length
  .obtain⟨bG,bC⟩:=fW;obtain⟨n,rfl⟩:∃m,n=m+1:=⟨n-1,aa⟩;have gA:A.getD i ((0:D),((0:D),(0:D)))=A[i]:=by simp[K,bG]
   have gB:B.getD k ((0:D),(0:D))=B[k]:=by simp[K,bC]
   rw[ai (show (i:D)<(A.length:D) by omega),ai (show (k:D)<(B.length:D) by omega),bL (show (0:D)<=(i:D) by omega) aa,bL (show (0:D)<=(k:D) by omega) aa];simp only[j6,j8,gA,gB];rw[aQ (x:=(i:D)+1),aQ (x:=(k:D)+1)];rw[G bG,G bC];simp only[mi];generalize (if B[k].1>A[i].1 then B[k].1 else A[i].1:D)=f;generalize (if B[k].2<A[i].2.1 then B[k].2 else A[i].2.1:D)=t
   have ih1:∀bd:bM,bd.length<=acc.length+1->C8 A B ((i:D)+1) (k:D) bd=I (bd++mi n (A.drop (i+1)) (B[k]::B.drop (k+1))):=λbd my=>by
    have:=Vh hA hB n (i+1) k bd aa aa aa aa
    simp_all
   have ih2:∀bd:bM,bd.length<=acc.length+1->C8 A B (i:D) ((k:D)+1) bd=I (bd++mi n (A[i]::A.drop (i+1)) (B.drop (k+1))):=λbd my=>by
    have:=Vh hA hB n i (k+1) bd aa aa aa aa
    simp_all
   by_cases nV:f<t
   .simp(disch:=omega)only[if_pos nV,S0];grind[bg]
   .rw[aC nV,if_neg nV];simp only[j7];by_cases hc:A[i].2.1<B[k].2;all_goals grind[S0]
  grind[bV,mi]
theorem Ÿ{l:bM}(hl:l.length<=10000000):∀(n i:R)(acc:SL),i+n=l.length->acc.length<=i->Px l (l.length:D) (i:D) acc=I (acc++(l.drop i).map λx=>(x.1,x.2.1))
 |0,i,acc,hi,_=>by
  grind[_m,j5I,S0]
 |n+1,i,acc,hi,ha=>by
  have bG:i<l.length:=aa;have br:l.getD i ((0:D),((0:D),(0:D)))=l[i]:=by simp[K,bG]
  rw[_m];simp(disch:=omega)only[j5I,G bG,S0];have:=Ÿ hl n (i+1) (acc++[(l[i].1,l[i].2.1)]) aa aj;grind
theorem jEW{l:bM}(hl:l.length<=10000000){lo hi:D}(h0:0<=lo)(h1:hi<=8589934592)(hb:∀x∈l,lo<=x.1/\x.1<x.2.1/\x.2.1<=hi) :
  ∃out,jeI l=I out/\bU (lo-1) out/\(∀t,bN t out↔ox t l)/\out.length<=l.length:=by
 have lp:=Ÿ hl l.length 0 [] aa ae;rw[jr,jj]at lp
 have aZ:∀s∈l.map (λx=>(x.1,x.2.1)),lo<=s.1/\s.1<s.2/\s.2<=hi:=λs h=>by
  grind
 obtain⟨out,e,g1,g2,g3,g4⟩:=GY (l:=l.map λx=>(x.1,x.2.1)) (by simpa using hl) (λs h=>by have:=aZ s h;omega) (lo:=lo) (hi:=hi) (λs h _=>by have:=aZ s h;omega);refine⟨out,?_,g1,λt=>(g2 t).trans ⟨?_,?_⟩,by simpa using g3⟩
 .grind[jeI]
 .rintro⟨s,hs,h⟩
  obtain⟨x,hx,rfl⟩:=k7.1 hs;exact⟨x,hx,h⟩
 .rintro⟨x,hx,h⟩
  exact⟨_,k7.2 ⟨x,hx,rfl⟩,h⟩
def Gi(gd:R->É)(len:R):R->À R
 |0=>Ê
 |m+1=>match Gi gd len m with
  |some i=>I i
  |none=>cond (gd (len-m-1)) (I (len-m-1)) Ê
theorem Ź(gd:R->É)(len:R):∀m,m<=len->dX gd len=match Gi gd len m with
  |some i=>I i
  |none=>dX gd (len-m)
 |0,_=>rfl
 |m+1,h=>by
  rw[Ź gd len m aa];simp only[Gi];cases Gi gd len m with
  |some i=>rfl
  |none=>
   dsimp only
   rw[show len-m=(len-m-1)+1 by omega,dX,show len-(m+1)=len-m-1 by omega,show len-m-1+1-1=len-m-1 by omega];cases gd (len-m-1)<;>rfl
def Wv(gd:R->É)(pf:R->D)(len m:R):À Int:=(Gi gd len m).map pf
theorem Vi(gd:R->É)(pf:R->D)(len m:R):Wv gd pf len (m+1)=match Wv gd pf len m with
  |some p=>I p
  |none=>cond (gd (len-m-1)) (I (pf (len-m-1))) none:=by
 simp only[Wv,Gi];cases Gi gd len m with
 |some i=>rfl
 |none=>cases gd (len-m-1)<;>rfl
theorem ź(es:E ct)(t:D)(pf:R->D)(len:R):fD es t pf len=(Wv (gM es t pf) pf len len).getD (-1):=by
 simp only[fD,Wv,Ź (gM es t pf) len len (jh _)];cases Gi (gM es t pf) len len with
 |some i=>rfl
 |none=>simp only[Nat.sub_self,dX];rfl
theorem jHG:Go.Sort.SWO (Go.Proofs.ltOf λ(x y:Go.Lft.Sml (.pair (.int .i64) (.pair (.int .i64) (.int .i64))))=>(j43 x.1 y.1).getD 0):=by
 refine Jh (λx=>x.1.1) (λx=>?_) _ λx y=>rfl;have:=x.2;simp only[iY,jc,jl]at this;exact this.1
theorem jAm{l:bM}(hl:l.length<=1000000000)(hb:∀x∈l, -1000000000000<=x.1/\x.1<=1000000000000 /\ -1000000000000<=x.2.1/\x.2.1<=1000000000000 /\ -1000000000000<=x.2.2/\x.2.2<=1000000000000) :
  ∃L,j0A l=I L/\L.Perm l/\L.Pairwise (λx y=>x.1<=y.1):=by
 obtain⟨L,e,hp,hs⟩:=Zz (a:= .pair (.int .i64) (.pair (.int .i64) (.int .i64))) (cf:=λx y=>(j43 x y).getD 0) jHG (xs:=l) (λx hx=>by
  have:=hb x hx;simp only[iY,jc,jl];refine⟨⟨?_,?_⟩,⟨?_,?_⟩,⟨?_,?_⟩⟩
  .exact qq (by decide) this.1
  .exact qq this.2.1 (by decide)
  .exact qq (by decide) this.2.2.1
  .exact qq this.2.2.2.1 (by decide)
  .exact qq (by decide) this.2.2.2.2.1
  .exact qq this.2.2.2.2.2 (by decide)) (by show Æ l<_;omega)
 refine⟨L,e,hp,?_⟩;refine Ã (λ{x y} hx hy h=>?_) hs;have h1:=hb x (hp.mem_iff.1 hx);have h2:=hb y (hp.mem_iff.1 hy);have h':¬w64 (y.1-x.1)<0:=h;rw[aQ (x:=y.1-x.1)]at h';omega
theorem Ż{F:SL}(hF:F.length<=10000000):∀(n i:R)(acc:bM),i+n=F.length->acc.length+n<=1000000000->JE (F.length:D) (i:D) F acc=I (acc++(F.drop i).map λu=>(u.1,(u.2, -1)))
 |0,i,acc,hi,_=>by
  rw[_o];simp(disch:=omega)only[j39,N,S0];simp
 |n+1,i,acc,hi,ha=>by
  have bG:i<F.length:=aa;have br:F.getD i ((0:D),(0:D))=F[i]:=by simp[K,bG]
  rw[_o];simp(disch:=omega)only[j39,G bG,S0];have:=Ż hF n (i+1) (acc++[(F[i].1,(F[i].2, -1))]) aa aj;rw[jk]at this;exact this
def apart(x y:mh):Prop:=x.2.1<=y.1\/y.2.1<=x.1
section
variable{zs:E bB}{ps:E cZ}{cs:E aY}(hs:kS zs ps cs)
 {nm:M}{ls:E bt}{es:E ct}(hL:∀L∈ls,ic zs.length ps.length cs.length L)(gw:ls.length<=4)(hE:∀x∈es,GW x)(fI:es.length<=9)
 {ss:E bW}{a b:D}(ha:0<=a)(bH:a<=b)(hb:b<=8589934592)(hlen:b-a<=35078400)
include hs hL gw hE fI ha bH hb hlen
structure Hg(zs:E bB)(cs:E aY)(ls:E bt)(es:E ct)(a b:D)(m:R)(F:SL)(O:bM):Prop where
 st:bU (a-1) F
 fb:∀t,bN t F->t<b
 fr:∀t,a<=t->t<b->(bN t F↔Wv (gM es t (dH zs cs ls t)) (dH zs cs ls t) ls.length m=Ê)
 seg:∀x∈O,a<=x.1/\x.1<x.2.1/\x.2.1<=b/\∀t,x.1<=t->t<x.2.1->Wv (gM es t (dH zs cs ls t)) (dH zs cs ls t) ls.length m=I x.2.2
 ap:O.Pairwise apart
 cov:∀t,a<=t->t<b->Wv (gM es t (dH zs cs ls t)) (dH zs cs ls t) ls.length m≠Ê->ox t O
 fl:F.length+300000<=2^m*300001
 ol:O.length<=m*4000000
theorem jHH{k m:R}(hk:k+m+1=ls.length){F:SL}{O:bM}(hI:Hg zs cs ls es a b m F O) :
  ∃S Q W F',j3s ((zs,(ps,(cs,ss))),zs.map tb) (ls.getD k (J,((0:D),(((0:D),(0:D)),((0:D),((0:D),(([]:E D),(([]:E (D×D)),((0:D),(0:D)))))))))) a b=I S/\
   jaW (nm,(ls,es)) S=I Q/\jfR Q F=I W/\O.length+W.length<=aK/\(∃P,jeI W=I P/\j3L F P=I F')/\Hg zs cs ls es a b (m+1) F' (O++W):=by
 have bC:k<ls.length:=aa;have hLk:=hL _ (jd bC);have br:ls.getD k (J,((0:D),(((0:D),(0:D)),((0:D),((0:D),(([]:E D),(([]:E (D×D)),((0:D),(0:D)))))))))=ls[k]:=by simp[K,bC]
 have Ha:∀t,dH zs cs ls t k=cE zs cs ls[k] t:=λt=>by simp only[dH,br]
 obtain⟨S,e1,c1,l1⟩:=Ķ hs hLk (ss:=ss) ha bH hb hlen;have bZ:=c1.pos;have e2:=jAl (nm:=nm) (ls:=ls) hE aa (S:=S) aa bZ;obtain⟨p1,p2,p3⟩:=ŷ (nm:=nm) (ls:=ls) hE aa c1.ch bZ;have pl:=ŵ (nm:=nm) (ls:=ls) hE aa (S:=S) bZ;have pl2:S.length*(1+es.length)<=30000*10:=qi l1 aa;generalize S.flatMap (nY (nm,(ls,es)))=Q at *;have Ϻ:m<=3:=aa;have Vj:2^m<=2^3:=Nat.pow_le_pow_right aa Ϻ;have fE:=hI.fl;have Ao:=hI.ol;have hF:F.length<=10000000:=aa;have lp:=Vh (A:=Q) (B:=F) aa hF (Q.length+F.length) 0 0 [] aa aa aa aj;rw[jr,jj,jj]at lp;obtain⟨w1,_,w3,w4,w5⟩:=Vg (Q.length+F.length) Q F a (a-1) (jh _) p1 hI.st;generalize mi (Q.length+F.length) Q F=W at *
 have rC:∀x∈W,a<=x.1/\x.1<x.2.1/\x.2.1<=b/\∀t,x.1<=t->t<x.2.1->bN t F/\cE zs cs ls[k] t=x.2.2/\0<=x.2.2/\jJ es x.2.2 t=false:=λx hx=>by
  have bD:∀(l:bM)(q:D),iy q l->∀y∈l,y.1<y.2.1:=by
   intro l;induction l with
   |nil=>intro q _ y hy;simp at hy
   |cons s r ih=>intro q h y hy;rcases jb.1 hy with rfl|hy;exact h.2.1;exact ih _ h.2.2 y hy
  have h0:=bD W a w1 x hx;have h1:=(w1.apart).2 x hx;obtain⟨s,fL,r1,r2,r3,r4⟩:=w3 x hx;obtain⟨g1,g2⟩:=p2 s fL;refine⟨h1,h0,aa,λt t1 t2=>?_⟩;obtain⟨g3,g4,g5⟩:=g2 t aa aa;rw[r3];exact⟨r4 t t1 t2,g3,g4,g5⟩
 have ż:∀x∈W,∀t,x.1<=t->t<x.2.1->Wv (gM es t (dH zs cs ls t)) (dH zs cs ls t) ls.length (m+1)=I x.2.2:=λx hx t t1 t2=>by
  obtain⟨h1,h2,h3,h4⟩:=rC x hx;obtain⟨g1,g2,g3,g4⟩:=h4 t t1 t2;have hn:=(hI.fr t aa aa).1 g1;rw[Vi,hn,show ls.length-m-1=k by omega];have:gM es t (dH zs cs ls t) k=true:=by simp only[gM,Ha,g2,g4];simp[g3]
  simp only[this,j6,Ha,g2]
 have hold:∀t p,Wv (gM es t (dH zs cs ls t)) (dH zs cs ls t) ls.length m=I p->Wv (gM es t (dH zs cs ls t)) (dH zs cs ls t) ls.length (m+1)=I p:=λt p h=>by rw[Vi,h]
 obtain⟨P,e4,q1,q2,q3⟩:=jEW (l:=W) aa (lo:=a) (hi:=b) ha hb (λx hx=>⟨(rC x hx).1,(rC x hx).2.1,(rC x hx).2.2.1⟩);obtain⟨F',e5,f1,f2,f3⟩:=Uw (B:=P) aa hI.st q1 hF;refine⟨S,Q,W,F',by rw[br];exact e1,e2,?_,by simp[aK];omega,⟨P,e4,e5⟩,?_⟩
 .simp only[jfR,show C8 Q F 0 0 []=_ from lp];rfl
 .have di:∀t,a<=t->t<b->bN t F->ox t W\/Wv (gM es t (dH zs cs ls t)) (dH zs cs ls t) ls.length (m+1)=none:=λt t1 t2 hf=>by
   have hn:=(hI.fr t t1 t2).1 hf;by_cases hg:gM es t (dH zs cs ls t) k=true
   .left;refine w4 t (p3 t t1 t2 ?_ ?_) hf
    .simp only[gM,Ha,jc,jl]at hg;exact hg.1
    .simp only[gM,Ha,jc,q9]at hg;exact hg.2
   .right;rw[Vi,hn,show ls.length-m-1=k by omega,qa.2 hg];rfl
  refine⟨f1,λt h=>hI.fb t ((f2 t).1 h).1,λt t1 t2=>?_,λx hx=>?_,?_,λt t1 t2 bD=>?_,?_,?_⟩
  .rw[f2 t,q2 t];constructor
   .rintro⟨h1,h2⟩
    rcases di t t1 t2 h1 with h|h
    .exact absurd h h2
    .exact h
   .intro h
    have hn:Wv (gM es t (dH zs cs ls t)) (dH zs cs ls t) ls.length m=none:=by
     cases hw:Wv (gM es t (dH zs cs ls t)) (dH zs cs ls t) ls.length m with
     |none=>rfl
     |some p=>rw[hold t p hw]at h;simp at h
    refine⟨(hI.fr t t1 t2).2 hn,?_⟩
    rintro⟨x,hx,x1,x2⟩
    rw[ż x hx t x1 x2]at h;simp at h
  .rcases ji.1 hx with hx|hx
   .obtain⟨h1,h2,h3,h4⟩:=hI.seg x hx;exact⟨h1,h2,h3,λt t1 t2=>hold t _ (h4 t t1 t2)⟩
   .obtain⟨h1,h2,h3,_⟩:=rC x hx;exact⟨h1,h2,h3,ż x hx⟩
  .refine qy.2 ⟨hI.ap,(w1.apart).1.imp (λh=> .inl h),λx hx y hy=>?_⟩;obtain⟨h1,h2,h3,h4⟩:=hI.seg x hx;obtain⟨g1,g2,g3,g4⟩:=rC y hy;apply jt;intro hn;simp only[apart,not_or]at hn
   have hc:∃t,x.1<=t/\t<x.2.1/\y.1<=t/\t<y.2.1:=by
    by_cases iw:x.1<=y.1
    .exact⟨y.1,aa,aa,aa,aa⟩
    .exact⟨x.1,aa,aa,aa,aa⟩
   obtain⟨t,t1,t2,t3,t4⟩:=hc;have hw:=h4 t t1 t2;have:=(hI.fr t aa aa).1 (g4 t t3 t4).1;rw[hw]at this;simp at this
  .by_cases hf:bN t F
   .rcases di t t1 t2 hf with⟨x,hx,h⟩|h
    .exact⟨x,jm _ hx,h⟩
    .exact absurd h bD
   .have hw:Wv (gM es t (dH zs cs ls t)) (dH zs cs ls t) ls.length m≠none:=λh=>hf ((hI.fr t t1 t2).2 h);obtain⟨x,hx,h⟩:=hI.cov t t1 t2 hw;exact⟨x,jo _ hx,h⟩
  .rw[Nat.pow_succ];omega
  .rw[H,Nat.add_mul];omega
theorem Ž:∀(n m:R)(F:SL)(O:bM),n+m=ls.length->Hg zs cs ls es a b m F O->
  ∃F' O',JD (n:D) ls zs ps cs ss (zs.map tb) nm ls es a b F O=I (F',O')/\Hg zs cs ls es a b ls.length F' O'
 |0,m,F,O,hn,hI=>by
  rw[_n];simp(disch:=omega)only[j38,S0];obtain rfl:m=ls.length:=aa;exact⟨F,O,rfl,hI⟩
 |k+1,m,F,O,hn,hI=>by
  obtain⟨S,Q,W,F',e1,e2,e3,e4,⟨P,e5,e6⟩,mK⟩:=jHH hs hL gw hE fI ha bH hb hlen (nm:=nm) (ss:=ss) (k:=k) (m:=m) aa hI;rw[_n];simp only[j38];rw[aC aa,ai (show ((k+1:R):D)<=Â ls.length by simp;omega),show ((k+1:R):D)-1=(k:D) by omega];simp only[j6,j7,j8];generalize ls.getD k (J,((0:D),(((0:D),(0:D)),((0:D),((0:D),(([]:E D),(([]:E (D×D)),((0:D),(0:D)))))))))=L at *;simp(disch:=omega)only[show j3s ((zs,(ps,(cs,ss))),zs.map tb) (L.1,(L.2.1,((L.2.2.1.1,L.2.2.1.2),(L.2.2.2.1,(L.2.2.2.2.1,(L.2.2.2.2.2.1,(L.2.2.2.2.2.2.1,(L.2.2.2.2.2.2.2.1,L.2.2.2.2.2.2.2.2)))))))) a b=_ from e1,e2,e3,e5,e6,S0];exact Ž k (m+1) F' (O++W) aa mK
theorem jEX:∃out,j5Z ((zs,(ps,(cs,ss))),zs.map tb) (nm,(ls,es)) a b=I out/\dG (λt=>fD es t (dH zs cs ls t) ls.length) b Ê a out/\out.length<=40000000:=by
 simp only[j5Z];by_cases oI:a>=b
 .rw[ai oI,j6];exact⟨[],rfl,show a=b by omega,ae⟩
 .rw[aC oI,j7]
  have h0:Hg zs cs ls es a b 0 [(a,b)] []:=⟨⟨by dsimp only;omega,by dsimp only;omega,trivial⟩,λt h=>by
   rcases dD.1 h with h|h
   .exact h.2
   .exact absurd h iE,λt t1 t2=>⟨λ_=>rfl,λ_=>dD.2 (.inl ⟨t1,t2⟩)⟩,ae,Á,λt _ _ h=>absurd rfl h,ae,ae⟩
  obtain⟨F,O,e1,hI⟩:=Ž hs hL gw hE fI ha bH hb hlen (nm:=nm) (ss:=ss) ls.length 0 [(a,b)] [] aa h0;have Vj:2^ls.length<=2^4:=Nat.pow_le_pow_right aa gw;have fE:=hI.fl;have Ao:=hI.ol;have hF:F.length<=10000000:=aa;have lp:=Ż hF F.length 0 O aa aa;rw[jj]at lp
  have ž:∀u∈F,a<=u.1/\u.1<u.2/\u.2<=b/\∀t,u.1<=t->t<u.2->Wv (gM es t (dH zs cs ls t)) (dH zs cs ls t) ls.length ls.length=none:=λu hu=>by
   have hm:=bU.mem hI.st u hu;have:=hI.fb (u.2-1) ⟨u,hu,aa,aa⟩;exact⟨aa,hm.2,aa,λt t1 t2=>(hI.fr t aa aa).1 ⟨u,hu,t1,t2⟩⟩
  have aD:∀x∈O++F.map (λu=>((u.1,(u.2, -1)):mh)),a<=x.1/\x.1<x.2.1/\x.2.1<=b/\∀t,x.1<=t->t<x.2.1->fD es t (dH zs cs ls t) ls.length=x.2.2:=λx hx=>by
   rcases ji.1 hx with hx|hx
   .obtain⟨h1,h2,h3,h4⟩:=hI.seg x hx;exact⟨h1,h2,h3,λt t1 t2=>by rw[ź,h4 t t1 t2];rfl⟩
   .obtain⟨u,hu,rfl⟩:=k7.1 hx;obtain⟨h1,h2,h3,h4⟩:=ž u hu;exact⟨h1,h2,h3,λt t1 t2=>by rw[ź,h4 t t1 t2];rfl⟩
  have hpr:∀x∈O++F.map (λu=>((u.1,(u.2, -1)):mh)), -1<=x.2.2/\x.2.2<=100:=λx hx=>by
   obtain⟨h1,h2,h3,h4⟩:=aD x hx;have:=h4 x.1 (jx _) h2;have rN:=hs.pl;rw[<-this];simp only[fD];cases hT:dX (gM es x.1 (dH zs cs ls x.1)) ls.length with
   |none=>dsimp only;omega
   |some i=>
    dsimp only
    have hi:∀(g:R->É)(n i:R),dX g n=I i->i<n:=by
     intro g n;induction n with
     |zero=>intro i h;simp[dX]at h
     |succ n ih=>
      intro i h;simp only[dX]at h;cases hg:g n with
      |true=>rw[hg,j6]at h;simp at h;omega
      |false=>rw[hg,j7]at h;have:=ih i h;omega
    have bG:=hi _ _ _ hT;have e:dH zs cs ls x.1 i=cE zs cs ls[i] x.1:=by simp[dH,K,bG]
    rw[e];have:=(ĩ (hL _ (jd bG)) (t:=x.1) aa aa).2;omega
  have oT:(O++F.map (λu=>((u.1,(u.2, -1)):mh))).Pairwise apart:=by
   refine qy.2 ⟨hI.ap,?_,λx hx y hy=>?_⟩
   .rw[List.pairwise_map]
    have:∀(l:SL)(q:D),bU q l->l.Pairwise (λu v=>u.2<=v.1):=by
     intro l;induction l with
     |nil=>intro q _;exact Á
     |cons s r ih=>intro q h;exact List.pairwise_cons.2 ⟨λv hv=>by have:=bU.mem h.2.2 v hv;omega,ih _ h.2.2⟩
    exact(this F _ hI.st).imp (λh=> .inl h)
   .obtain⟨u,hu,rfl⟩:=k7.1 hy;obtain⟨h1,h2,h3,h4⟩:=hI.seg x hx;obtain⟨g1,g2,g3,g4⟩:=ž u hu;apply jt;intro hn;simp only[apart,not_or]at hn
    have hc:∃t,x.1<=t/\t<x.2.1/\u.1<=t/\t<u.2:=by
     by_cases iw:x.1<=u.1
     .exact⟨u.1,aa,aa,aa,aa⟩
     .exact⟨x.1,aa,aa,aa,aa⟩
    obtain⟨t,t1,t2,t3,t4⟩:=hc;have hw:=h4 t t1 t2;rw[g4 t t3 t4]at hw;simp at hw
  have Vk:∀t,(a<=t/\t<b)↔∃s∈O++F.map (λu=>((u.1,(u.2, -1)):mh)),s.1<=t/\t<s.2.1:=λt=>by
   constructor
   .rintro⟨t1,t2⟩
    by_cases hn:Wv (gM es t (dH zs cs ls t)) (dH zs cs ls t) ls.length ls.length=Ê
    .obtain⟨u,hu,u1,u2⟩:=(hI.fr t t1 t2).2 hn;exact⟨(u.1,(u.2, -1)),jm _ (k7.2 ⟨u,hu,rfl⟩),u1,u2⟩
    .obtain⟨x,hx,h⟩:=hI.cov t t1 t2 hn;exact⟨x,jo _ hx,h⟩
   .rintro⟨x,hx,x1,x2⟩
    obtain⟨h1,h2,h3,_⟩:=aD x hx;omega
  have hZl:(O++F.map (λu=>((u.1,(u.2, -1)):mh))).length<=40000000:=by rw[H,ki];omega
  generalize hZ:O++F.map (λu=>((u.1,(u.2, -1)):mh))=Z at *
  obtain⟨Y,e2,hp,Vl⟩:=jAm (l:=Z) aa (λx hx=>by have:=aD x hx;have:=hpr x hx;omega)
  have nW:Ch (λt=>fD es t (dH zs cs ls t) ls.length) b a Y:=by
   refine ġ bH ?_ (λs h=>⟨(aD s (hp.mem_iff.1 h)).2.1,(aD s (hp.mem_iff.1 h)).2.2.2⟩) (λt=>?_)
   .have hY:Y.Pairwise apart:=(hp.pairwise_iff (λ{x y} h=>Or.symm h)).2 oT;refine Ã (λ{x y} hx hy h=>?_) (hY.and Vl);have h1:=aD x (hp.mem_iff.1 hx);have h2:=aD y (hp.mem_iff.1 hy);rcases h.1 with h3|h3
    .exact h3
    .have:=h.2;omega
   .rw[Vk t];constructor
    .rintro⟨x,hx,h⟩;exact⟨x,hp.mem_iff.2 hx,h⟩
    .rintro⟨x,hx,h⟩;exact⟨x,hp.mem_iff.1 hx,h⟩
  have hYl:=hp.length_eq;obtain⟨out,e3,h3,l3⟩:=UG (l:=Y) aa nW;refine⟨out,?_,h3,aa⟩;simp only[j2Y,j4];rw[show JD (Â ls.length) ls zs ps cs ss (zs.map tb) nm ls es a b [(a,b)] []=_ from e1];simp(disch:=omega)only[show JE (F.length:D) 0 F O=_ from lp,e2,e3,S0]
end
def mj(es:E ct):E Int:=es.flatMap λx=>[x.2.2.2.1,x.2.2.2.2]
theorem Lt:∀es:E ct,(mj es).length=2*es.length
 |[]=>rfl
 |x::es=>by
  have:=Lt es;simp only[mj,qz,H,jf,js]at this ⊢;omega
theorem ſ{es:E ct}{t u:D}{pf pg:R->D}{n:R}(hp:∀i,i<n->pf i=pg i)(ha:∀p,jJ es p t=jJ es p u):fD es t pf n=fD es u pg n:=by
 have hg:∀m,m<=n->dX (gM es t pf) m=dX (gM es u pg) m:=by
  intro m;induction m with
  |zero=>intro _;rfl
  |succ m ih=>
   intro hm;have e:gM es t pf m=gM es u pg m:=by simp only[gM,hp m aa,ha]
   simp only[dX,e,ih aa]
 have hi:∀(g:R->É)(n i:R),dX g n=I i->i<n:=by
  intro g n;induction n with
  |zero=>intro i h;simp[dX]at h
  |succ n ih=>
   intro i h;simp only[dX]at h;cases hg:g n with
   |true=>rw[hg,j6]at h;simp at h;omega
   |false=>rw[hg,j7]at h;have:=ih i h;omega
 simp only[fD,hg n (jh _)];cases hT:dX (gM es u pg) n with
 |none=>rfl
 |some i=>exact hp i (hi _ _ _ hT)
theorem jDd{x y p:D}:∀es:E ct,(∀e∈es,(e.2.2.2.1<=x↔e.2.2.2.1<=y)/\(e.2.2.2.2<=x↔e.2.2.2.2<=y))->jJ es p x=jJ es p y
 |[],_=>rfl
 |e::r,h=>by
  have h1:=h e ae;have ih:=jDd (p:=p) r (λu hu=>h u (by simp[hu]));unfold jJ at ih ⊢;have a1:X (e.2.2.2.1<=x)=X (e.2.2.2.1<=y):=decide_eq_decide.2 h1.1;have a2:X (x<e.2.2.2.2)=X (y<e.2.2.2.2):=decide_eq_decide.2 aa;simp only[List.any_cons];rw[a1,a2,ih]
section
variable{zs:E bB}{ps:E cZ}{cs:E aY}
theorem jG6(hs:kS zs ps cs){ss:E bW}{nm:M}{ls:E bt}{es:E ct}(hl:ls.length<=6)(hL:∀L∈ls,ic zs.length ps.length cs.length L){a b:D}(ha:0<=a)(bH:a<=b)(hb:b<=8589934592)(hlen:b-a<=34560000) :
  ∀(n i:R)(acc:E D),i+n=ls.length->acc.length+2400000*n<=20000000->
  ∃out,Ql a b (i:D) zs ps cs ss nm ls es acc=I (a,b,nm,ls,es,out)/\out.length<=acc.length+2400000*n/\(∀c∈acc,c∈out)/\∀L∈ls.drop i,∀x y,a<=x->x<=y->y<b->pE out x y->cE zs cs L x=cE zs cs L y
 |0,i,acc,hi,_=>by
  rw[j_];simp(disch:=omega)only[j7U,N,S0];exact⟨acc,rfl,aa,λc h=>h,λL h=>by simp at h⟩
 |n+1,i,acc,hi,dM=>by
  have ao:i<ls.length:=aa;have br:ls.getD i (J,((0:D),(((0:D),(0:D)),((0:D),((0:D),(([]:E D),(([]:E (D×D)),((0:D),(0:D)))))))))=ls[i]:=by simp[K,ao]
  obtain⟨C,eC,lC,pC⟩:=jCZ hs (ss:=ss) (hL _ (jd ao)) ha bH hb hlen;obtain⟨out,e1,e2,e3,e4⟩:=jG6 hs (ss:=ss) (nm:=nm) (es:=es) hl hL ha bH hb hlen n (i+1) (acc++C) aa (by rw[H];omega);rw[j_];simp(disch:=omega)only[G ao,j7U,S0];rw[show jmm (zs,(ps,(cs,ss))) (ls[i].1,(ls[i].2.1,((ls[i].2.2.1.1,ls[i].2.2.1.2),(ls[i].2.2.2.1,(ls[i].2.2.2.2.1,(ls[i].2.2.2.2.2.1,(ls[i].2.2.2.2.2.2.1,(ls[i].2.2.2.2.2.2.2.1,ls[i].2.2.2.2.2.2.2.2)))))))) a b=_ from eC];simp only[j4];rw[ai (show acc.length+C.length<=aK by unfold aK;omega),j6,bg];refine⟨out,e1,by rw[H]at e2;omega,λc h=>e3 c (jo _ h),λL hm x y h1 h2 h3 hn=>?_⟩;rcases jb.1 hm with rfl|hm
  .exact pC x y h1 h2 h3 (λc hc=>hn c (e3 c (jm _ hc)))
  .exact e4 L hm x y h1 h2 h3 hn
theorem jG7{nm:M}{ls:E bt}{es:E ct}(hl:es.length<=100){a b:D}:∀(n i:R)(acc:E D),i+n=es.length->acc.length+2*n<=40000000->
  Qm a b (i:D) nm ls es acc=I (a,b,acc++mj (es.drop i))
 |0,i,acc,hi,_=>by
  rw[k_];simp(disch:=omega)only[N,j7V,S0];simp[mj]
 |n+1,i,acc,hi,ha=>by
  have ao:i<es.length:=aa;have br:es.getD i ((0:D),((0:D),((0:D),((0:D),(0:D)))))=es[i]:=by simp[K,ao]
  have ih:=jG7 (nm:=nm) (ls:=ls) hl (a:=a) (b:=b) n (i+1) (acc++[es[i].2.2.2.1,es[i].2.2.2.2]) aa aj;rw[jk]at ih;rw[k_];simp(disch:=omega)only[G ao,j7V,S0];exact ih
theorem jyZ{nm:M}{ls:E bt}{es:E ct}{p t:D}(hl:es.length<=1000):∀(n i:R),i+n=es.length->JY p t (i:D) nm ls es=I (cond (jJ (es.drop i) p t) (.inl true) (.inr ()))
 |0,i,hi=>by
  rw[n_];simp(disch:=omega)only[j7X,N,S0];rfl
 |n+1,i,hi=>by
  have ao:i<es.length:=aa;have br:es.getD i ((0:D),((0:D),((0:D),((0:D),(0:D)))))=es[i]:=by simp[K,ao]
  have ih:=jyZ (nm:=nm) (ls:=ls) (p:=p) (t:=t) hl n (i+1) aa;rw[n_];simp(disch:=omega)only[j7X,G ao,S0];have ha:jJ (es[i]::es.drop (i+1)) p t=((es[i].1==0&&(es[i].2.1==p&&(X (es[i].2.2.2.1<=t)&&X (t<es[i].2.2.2.2))))||jJ (es.drop (i+1)) p t):=rfl;have e:(cond (cond (cond (es[i].1==(0:D)) (es[i].2.1==p) false) (X (es[i].2.2.2.1<=t)) false) (X (t<es[i].2.2.2.2)) false)=(es[i].1==0&&(es[i].2.1==p&&(X (es[i].2.2.2.1<=t)&&X (t<es[i].2.2.2.2)))):=by cases es[i].1==(0:D)<;>cases es[i].2.1==p<;>cases X (es[i].2.2.2.1<=t)<;>rfl
  rw[e,ha];cases (es[i].1==0&&(es[i].2.1==p&&(X (es[i].2.2.2.1<=t)&&X (t<es[i].2.2.2.2)))) with
  |true=>rfl
  |false=>rw[j7,bg,Bool.false_or];exact ih
theorem jAn{nm:M}{ls:E bt}{es:E ct}{p t:D}(hl:es.length<=1000):jp2 (nm,(ls,es)) p t=I (jJ es p t):=by
 have:=jyZ (nm:=nm) (ls:=ls) (p:=p) (t:=t) hl es.length 0 aa;simp only[jp2,show JY p t 0 nm ls es=_ from this,j4,jj];cases jJ es p t<;>rfl
theorem jDe(hs:kS zs ps cs){ss:E bW}{nm:M}{ls:E bt}{es:E ct}(fI:es.length<=1000)(gw:ls.length<=1000)(hL:∀L∈ls,ic zs.length ps.length cs.length L){t:D}(h0:0<=t)(h1:t<=8589934592):∀n:R,n<=ls.length->
  JZ t ((n:D)-1) zs ps cs ss nm ls es=I (match dX (gM es t (dH zs cs ls t)) n with|some i=> .inl ((i:D),dH zs cs ls t i)|none=> .inr ())
 |0,hn=>by
  rw[o_];simp(disch:=omega)only[j8O,S0];rfl
 |n+1,hn=>by
  have ao:n<ls.length:=aa;have br:ls.getD n (J,((0:D),(((0:D),(0:D)),((0:D),((0:D),(([]:E D),(([]:E (D×D)),((0:D),(0:D)))))))))=ls[n]:=by simp[K,ao]
  have ih:=jDe hs (ss:=ss) (nm:=nm) fI gw hL h0 h1 n aa;have hp:=jEK hs (hL _ (jd ao)) (ss:=ss) h0 h1;have e:dH zs cs ls t n=cE zs cs ls[n] t:=by simp[dH,K,ao]
  rw[show ((n+1:R):D)-1=(n:D) by omega,o_];simp(disch:=omega)only[j8O,show jpW (zs,(ps,(cs,ss))) (ls[n].1,(ls[n].2.1,((ls[n].2.2.1.1,ls[n].2.2.1.2),(ls[n].2.2.2.1,(ls[n].2.2.2.2.1,(ls[n].2.2.2.2.2.1,(ls[n].2.2.2.2.2.2.1,(ls[n].2.2.2.2.2.2.2.1,ls[n].2.2.2.2.2.2.2.2)))))))) t=_ from hp,dX,gM,e,S0];by_cases pT:0<=cE zs cs ls[n] t
  .simp(disch:=omega)only[jAn fI,qx,S0];cases jJ es (cE zs cs ls[n] t) t with
   |true=>simp only[jg,j7,bg];exact ih
   |false=>simp only[jv,j6,e];exact bV ..
  .simp(disch:=omega)only[S0];exact ih
end
structure SV(s:bW):Prop where
 ll:s.2.1.length<=3
 ly:rB s.2.1
 el:s.2.2.length<=4
 ed:yO s.2.2
structure CV(c:fZ):Prop where
 z:∀z∈c.1,ZW z
 s:∀s∈c.2.2.2,SV s
 one:1<=c.2.2.2.length
 pw:∀p∈c.2.1,p.2.2.1.length<=3
 few:c.2.2.2.length<=4
theorem CV.w{c:fZ}(h:CV c):CW c:=
 ⟨h.z,λs hs x hx=>by have:=(h.s s hs).ed x hx;omega,λs hs=>(h.s s hs).ly⟩
def jK(L:E D)(r:À (fZ×E D×D)):Prop:=∃k a',r=I (k,L,a')/\CV k/\cQ L a'
section
variable{L:E D}
theorem sr{a n:D}{f:D×E D×D->À (fZ×E D×D)}(hd:cQ L a)(h1:1<=n)(h2:n<=1000000000000)(h:∀x a',0<=x->x<n->cQ L a'->jK L (f (x,L,a'))):jK L ((j04 L a n).bind f):=by
 obtain⟨x,a',e,x0,x1,d⟩:=dQ hd h1 h2;rw[e];exact h x a' x0 x1 d
theorem Vm{a:D}{xs:E D}{f:D×E D×D->À (fZ×E D×D)}(hd:cQ L a)(h1:0<xs.length)(h2:xs.length<=1000000)(h:∀x a',x∈xs->cQ L a'->jK L (f (x,L,a'))):jK L ((j0b L a xs).bind f):=by
 obtain⟨x,a',e,x0,d⟩:=rk hd h1 h2;rw[e];exact h x a' x0 d
theorem ovE{a:D}{u0 u1 u2 u3:E Unit}{f:ct×E D×D->À (fZ×E D×D)}(hd:cQ L a)(h1:1<=u1.length)(h2:u1.length<=100)(h:∀(x:ct) a',x.2.2.2.1<=1000000000000->x.2.2.2.2<=1000000000000->cQ L a'->jK L (f (x,L,a'))) :
  jK L ((j83 L a (u0,(u1,(u2,u3)))).bind f):=by
 obtain⟨x,a',e,x0,d⟩:=Ů hd (u0:=u0) (u2:=u2) (u3:=u3) h1 h2;rw[e];exact h x a' x0.1 x0.2 d
theorem uX{x y:D}{a b:À (fZ×E D×D)}(h1:x=y->jK L a)(h2:x≠y->jK L b):jK L (cond (x==y) a b):=by
 by_cases h:x=y
 .rw[dR h];exact h1 h
 .rw[cU h];exact h2 h
theorem nZ{b:É}{x:À (fZ×E D×D)}(h:b=true)(hx:jK L x):jK L (cond b x Ê):=by rw[h];exact hx
theorem oy{a:D}{k:fZ}(hd:cQ L a)(h:CV k):jK L (I (k,L,a)):=⟨k,a,rfl,h,hd⟩
end
theorem jJj{zs:E bB}(h:∀z∈zs,ZW z)(i:R)(nm:M)(o:D):∀z∈zs.set i (nm,(o,(zs.getD i (J,((0:D),([]:E aO)))).2.2)),ZW z:=λz hz=>by
 by_cases hi:i<zs.length
 .rcases va hz with hz|rfl
  .exact h z hz
  .have:=h zs[i] (jd hi);rw[show zs.getD i (J,((0:D),([]:E aO)))=zs[i] by simp[K,hi]];exact⟨this.ok,this.len,this.yr,this.few⟩
 .rw[List.set_eq_of_length_le aa]at hz;exact h z hz
theorem jHI{ls:E bt}(h:rB ls)(i:R){x:bt}(hx:x.2.2.2.2.2.2.1.length<=3):rB (ls.set i x):=λy hy=>by
 rcases va hy with hy|rfl
 .exact h y hy
 .exact hx
theorem jHJ{ls:E bt}(h:rB ls)(i:R):(ls.getD i (J,((0:D),(((0:D),(0:D)),((0:D),((0:D),(([]:E D),(([]:WL),((0:D),(0:D)))))))))).2.2.2.2.2.2.1.length<=3:=by
 by_cases hi:i<ls.length
 .rw[U,jn hi];exact h _ (jd hi)
 .rw[U,qj aa];simp
theorem Lu:∀s∈([]:E bW),SV s:=λs hs=>by simp at hs
theorem DG{s:bW}{l:E bW}(h:SV s)(h':∀x∈l,SV x):∀x∈s::l,SV x:=λx hx=>by
 rcases jb.1 hx with rfl|hx
 .exact h
 .exact h' x hx
theorem svE(nm:M):SV (nm,(([]:E bt),([]:E ct))):=⟨ae,λx hx=>by simp at hx,ae,λx hx=>by simp at hx⟩
theorem DH{nm nm':M}{ls:E bt}{es:E ct}(h:SV (nm,(ls,es)))(h3:es.length<=3){x:ct}(hx:x.2.2.2.2<=1000000000000):SV (nm',(ls,es++[x])):=
 ⟨h.ll,h.ly,aj,yO.snoc h.ed hx⟩
theorem BF{ss:E bW}(h:DF ss):∀s∈ss,SV s:=λs hs=>by
 obtain⟨h1,h2,h3⟩:=h s hs;exact⟨h1.1,h1.2,aa,h3⟩
theorem jK1{zs:E bB}{ps:E cZ}{cs:E aY}{ss:E bW}(hs:sd zs ps cs)(hk:DF ss)(h1:1<=ss.length)(h3:ss.length<=3):CV (zs,(ps,(cs,ss))):=⟨λz hz=>(hs.ok z hz).w,BF hk,h1,hs.pw,show ss.length<=4 by omega⟩
theorem DI{L:E D}{a n:D}(hd:cQ L a){ls:E bt}(hl:ls.length<=3)(hw:rB ls){k:E bt->E D->D->À (fZ×E D×D)}(hk:∀l a',l.length<=3->rB l->cQ L a'->jK L (k l L a')):jK L (yz n ls L a k):=by
 have hs:∀(i:D)(f:bt->bt) a',(∀e:bt,e.2.2.2.2.2.2.1.length<=3->(f e).2.2.2.2.2.2.1.length<=3)->cQ L a'->jK L (k (uQ ls i f) L a'):=λi f a' hf hd=>
  hk _ _ (by rw[uQ,zh];exact hl) (jHI hw _ (hf _ (jHJ hw _))) hd
 simp only[yz,qp];refine uX (λ_=>hk _ _ hl hw hd) (λh0=>sr hd aa aa (λx a1 x0 x1 hd=>nZ (cB) (sr hd aa aa (λy a2 _ _ hd=>?_))))
 repeat' ((try dsimp only);first
  |refine uX (λ_=>?_) (λ_=>?_)
  |refine Vm (by assumption) ae ae (λ_ _ _ _=>?_)
  |exact hs _ _ _ (λe h=>h) (by assumption)
  |exact hk _ _ hl hw (by assumption)
  |refine sr (by assumption) aa aa (λ_ _ _ _ _=>?_)
  |refine nZ (bL aa (by simp only[jf,js];omega)) ?_)
theorem DJ{L:E D}{a:D}(hd:cQ L a){z p c s:R}(h1:1<=p)(h2:p<=100){k:ct->E D->D->À (fZ×E D×D)}(hk:∀(x:ct) a',x.2.2.2.2<=1000000000000->cQ L a'->jK L (k x L a')):jK L (yA z p c s L a k):=by
 simp only[yA,qp];refine ovE hd (by rw[za];omega) (by rw[za];omega) (λx a1 _ _ hd=>sr hd aa aa (λy a2 _ _ hd=>?_))
 repeat' ((try dsimp only);first
  |refine uX (λ_=>?_) (λ_=>?_)
  |refine Vm (by assumption) ae ae (λ_ _ _ _=>?_)
  |refine hk _ _ (by (try dsimp only);first|assumption|(simp only[jb,vf,or_false]at *;omega)) (by assumption))
theorem Vn{L:E D}{a:D}(hd:cQ L a){zs:E bB}{ps:E cZ}{cs:E aY}(hs:sd zs ps cs){ss:E bW}(h1:1<=ss.length)(h3:ss.length<=3)(hv:∀s∈ss,SV s){f g:E D->D->À (fZ×E D×D)}(hf:∀a',cQ L a'->jK L (f L a'))(hg:∀a',cQ L a'->jK L (g L a')):jK L (Ga zs ps cs ss L a f g):=by
 have rR:=hs.z0;have wW:=hs.z1;have pT:=hs.p0;have rN:=hs.p1;have eP:=hs.c1;have mW:∀z∈zs,ZW z:=λz hz=>(hs.ok z hz).w;have h4:ss.length<=4:=aa
 have DK:∀(i:D)(f:cZ->cZ),(∀e:cZ,e.2.2.1.length<=3->(f e).2.2.1.length<=3)->∀p∈F9 ps i f,p.2.2.1.length<=3:=λi f hf p hp=>by
  rcases va hp with hp|rfl
  .exact hs.pw p hp
  .refine hf _ ?_;by_cases hi:i.toNat<ps.length
   .rw[U,jn hi];exact hs.pw _ (jd hi)
   .rw[U,qj aa];simp
 simp only[Ga,qp];refine sr hd aa aa (λx a1 _ _ hd=>?_)
 repeat' ((try dsimp only);first
  |exact hf _ (by assumption)
  |exact hg _ (by assumption)
  |refine uX (λ_=>?_) (λ_=>?_)
  |refine sr (by assumption) aa aa (λ_ _ _ _ _=>?_)
  |refine Vm (by assumption) ae ae (λ_ _ _ _=>?_)
  |refine nZ (cB) ?_
  |refine nZ (bL aa (by simp only[jf,js];omega)) ?_
  |refine nZ (ai (by simp only[aK,jf,js];omega)) ?_
  |exact oy (by assumption) ⟨mW,hv,h1,hs.pw,h4⟩
  |exact oy (by assumption) ⟨jJj mW _ _ _,hv,h1,hs.pw,h4⟩
  |(refine oy (by assumption) ⟨mW,hv,h1,?_,h4⟩;(try dsimp only);exact DK _ _ (by intro e h;first|exact h|simp))
  |exact oy (by assumption) ⟨mW,λs hs=>by
   rcases ji.1 hs with h|h
   .exact hv s h
   .rw[k9.1 h];exact svE _,by simp only[H];omega,hs.pw,by simp only[H,kn];omega⟩)
theorem DL{s t:bW}(h:SV s)(h':SV t):∀x∈[s,t],SV x:=DG h (DG h' Lu)
theorem SV.ls'{nm:M}{ls l:E bt}{es:E ct}(h:SV (nm,(ls,es)))(h1:l.length<=3)(h2:rB l):SV (nm,(l,es)):=⟨h1,h2,h.el,h.ed⟩
theorem jHK{L:E D}{a:D}(h:cQ L a){zs:E bB}{ps:E cZ}{cs:E aY}{nm:M}{ls:E bt}{es:E ct}(hs:sd zs ps cs)(h0:SV (nm,(ls,es)))(fI:es.length<=3) :
  jK L (j84 L a (zs,(ps,(cs,[(nm,(ls,es))])))):=by
 have rR:=hs.z0;have wW:=hs.z1;have pT:=hs.p0;have rN:=hs.p1;have eP:=hs.c1;have gw:ls.length<=3:=h0.ll;have mW:∀z∈zs,ZW z:=λz hz=>(hs.ok z hz).w;have cp:jek (zs,(ps,(cs,[(nm,(ls,es))])))=I (zs,ps,cs,nm,ls,es):=by simp only[jek,js,ku,jr,kn,qp];rw[ai (show zs.length<=aK by unfold aK;omega),ai (show ps.length<=aK by unfold aK;omega),ai (show cs.length<=aK by unfold aK;omega),ai (show (0:D)<((1:R):D) by omega),bL (show (0:D)<=0 by omega) (show (0:D)<((1:R):D) by omega)];simp only[j6,Å];rw[ai (show ls.length<=aK by unfold aK;omega),ai (show es.length<=aK by unfold aK;omega),aC (show¬(1:D)<((1:R):D) by omega)];rfl
 simp only[j84,cp,j4]
 refine Vn h hs ae ae (DG h0 Lu) (λa hd=>sr hd aa aa (λx a1 _ _ hd=>nZ (cB) (DI hd gw h0.ly (λl a2 l1 l2 hd=>oy hd ⟨mW,DG (h0.ls' l1 l2) Lu,ae,hs.pw,ae⟩))))
  (λa hd=>sr hd aa aa (λx a1 _ _ hd=>nZ (cB) (DJ hd aa aa (λx a2 hx hd=>nZ (ai (by simp only[aK,jf,js];omega)) (oy hd ⟨mW,DG (DH h0 fI hx) Lu,ae,hs.pw,ae⟩)))))
theorem jHL{L:E D}{a:D}(h:cQ L a){zs:E bB}{ps:E cZ}{cs:E aY}{nm nv:M}{ls kT:E bt}{es kU:E ct}(hs:sd zs ps cs)(h0:SV (nm,(ls,es)))(fI:es.length<=3)(h1:SV (nv,(kT,kU)))(BG:kU.length<=3) :
  jK L (j85 L a (zs,(ps,(cs,[(nm,(ls,es)),(nv,(kT,kU))])))):=by
 have rR:=hs.z0;have wW:=hs.z1;have pT:=hs.p0;have rN:=hs.p1;have eP:=hs.c1;have gw:ls.length<=3:=h0.ll;have BH:kT.length<=3:=h1.ll;have mW:∀z∈zs,ZW z:=λz hz=>(hs.ok z hz).w;have cp:jel (zs,(ps,(cs,[(nm,(ls,es)),(nv,(kT,kU))])))=I (zs,ps,cs,nm,nv,ls,es,kT,kU):=by simp only[jel,js,ku,jr,jf,qp];rw[ai (show zs.length<=aK by unfold aK;omega),ai (show ps.length<=aK by unfold aK;omega),ai (show cs.length<=aK by unfold aK;omega),ai (show (0:D)<((1+1:R):D) by omega),bL (show (0:D)<=0 by omega) (show (0:D)<((1+1:R):D) by omega)];simp only[j6,Å,List.getD_cons_succ];rw[ai (show ls.length<=aK by unfold aK;omega),ai (show es.length<=aK by unfold aK;omega),ai (show (1:D)<((1+1:R):D) by omega),bL (show (0:D)<=1 by omega) (show (1:D)<((1+1:R):D) by omega),ai (show kT.length<=aK by unfold aK;omega),ai (show kU.length<=aK by unfold aK;omega),aC (show¬(2:D)<((1+1:R):D) by omega)];rfl
 simp only[j85,cp,j4];refine Vn h hs ae ae (DL h0 h1) (λa hd=>sr hd aa aa (λx a1 _ _ hd=>uX (λ_=>?_) (λ_=>nZ (dR aa) ?_))) (λa hd=>sr hd aa aa (λx a1 _ _ hd=>uX (λ_=>?_) (λ_=>nZ (dR aa) ?_)))
 .exact DI hd gw h0.ly (λl a2 l1 l2 hd=>oy hd ⟨mW,DL (h0.ls' l1 l2) h1,ae,hs.pw,ae⟩)
 .exact DI hd BH h1.ly (λl a2 l1 l2 hd=>oy hd ⟨mW,DL h0 (h1.ls' l1 l2),ae,hs.pw,ae⟩)
 .exact DJ hd aa aa (λx a2 hx hd=>nZ (ai (by simp only[aK,jf,js];omega)) (oy hd ⟨mW,DL (DH h0 fI hx) h1,ae,hs.pw,ae⟩))
 .exact DJ hd aa aa (λx a2 hx hd=>nZ (ai (by simp only[aK,jf,js];omega)) (oy hd ⟨mW,DL h0 (DH h1 BG hx),ae,hs.pw,ae⟩))
end Go.Proofs.Pw
