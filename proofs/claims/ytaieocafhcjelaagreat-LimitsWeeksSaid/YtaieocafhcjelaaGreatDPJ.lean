/- stack.SegmentsOf: UX is on call by yC in a range. -/
import Derived.Test.YtaieocafhcjelaaGreatDPI
import Derived.Test.YtaieocafhcjelaaGreatDPG
noncomputable section
open Go Go.Lft
namespace Go.Proofs.Pw
def dr(zs:List cg)(cs:List bk)(ls:List cb)(t:Int)(i:Nat):Int:=cQ zs cs (ls.getD i (ByteArray.empty,((0:Int),(((0:Int),(0:Int)),((0:Int),((0:Int),(([]:List Int),(([]:List (Int×Int)),((0:Int),(0:Int)))))))))) t
def nj(es:List eJ)(p:Int):SL:=(es.filter λx=>x.1==0&&x.2.1==p).map λx=>(x.2.2.2.1,x.2.2.2.2)
theorem jAw{es:List eJ}{p t:Int}:br t (nj es p)↔mF es p t=true:=by
 unfold br nj mF;rw[zh];constructor
 .rintro⟨s,hs,h1,h2⟩
  obtain⟨x,hx,rfl⟩:=jt.1 hs;obtain⟨h3,h4⟩:=qq.1 hx;dsimp only at h1 h2;refine⟨x,h3,?_⟩;simp only[jb,jo]at h4 ⊢;exact⟨h4.1,h4.2,h1,h2⟩
 .rintro⟨x,hx,h⟩
  simp only[jb,jo]at h;exact⟨_,jt.2 ⟨x,qq.2 ⟨hx,by simp only[jb];exact⟨h.1,h.2.1⟩⟩,rfl⟩,h.2.2.1,h.2.2.2⟩
theorem NA{es:List eJ}(hl:es.length<=1000){p:Int}:∀(n i:Nat)(acc:SL),i+n=es.length->acc.length<=i->xX p es (es.length:Int) (i:Int) acc=some (acc++nj (es.drop i) p)
 |0,i,acc,hi,_=>by
  rw[Sh];simp only[j5c];rw[ak (by omega),j6,aW,jf (by omega)];simp[nj]
 |n+1,i,acc,hi,ha=>by
  have bF:i<es.length:=by omega
  have bf:es.getD i ((0:Int),((0:Int),((0:Int),((0:Int),(0:Int)))))=es[i]:=by simp[List.getD,bF]
  rw[Sh];simp only[j5c];rw[aj (by omega),aU (by omega) (by omega),ah (x:=(i:Int)+1) (by omega) (by omega)];simp only[j5,j7,bf];have hc:cond (es[i].1==(0:Int)) (es[i].2.1==p) false=(es[i].1==0&&es[i].2.1==p):=by cases es[i].1==(0:Int)<;>rfl
  rw[hc,jc bF];cases hx:(es[i].1==0&&es[i].2.1==p) with
  |true=>
   rw[j5,aj (by simp[aS];omega),j5,aF];have:=NA hl (p:=p) n (i+1) (acc++[(es[i].2.2.2.1,es[i].2.2.2.2)]) (by omega) (by simp;omega);have e:nj (es[i]::es.drop (i+1)) p=(es[i].2.2.2.1,es[i].2.2.2.2)::nj (es.drop (i+1)) p:=by simp only[nj,List.filter_cons,hx,if_true,kr]
   rw[e];rw[jd]at this;exact this
  |false=>
   rw[j6,aF];have:=NA hl (p:=p) n (i+1) acc (by omega) (by omega);have e:nj (es[i]::es.drop (i+1)) p=nj (es.drop (i+1)) p:=by unfold nj;rw[List.filter_cons_of_neg (by simp only[hx];simp)]
   rw[e];exact this
theorem jvH{es:List eJ}{np:Nat}(hE:∀x∈es,qT np x)(hl:es.length<=48)(nm:ByteArray)(ls:List cb)(p:Int) :
  ∃out,j5w (nm,(ls,es)) p=some out/\bB (-1) out/\(∀t,br t out↔mF es p t=true)/\out.length<=es.length:=by
 have lp:=NA (es:=es) (by omega) (p:=p) es.length 0 [] (by omega) (by simp);rw[jm,jw]at lp;have eO:(nj es p).length<=es.length:=by unfold nj;rw[kn];exact List.length_filter_le _ _
 have hb:∀s∈nj es p,0<=s.1/\s.1<s.2/\s.2<=1000000000000:=λs h=>by
  obtain⟨x,hx,rfl⟩:=jt.1 h;have:=hE x (qq.1 hx).1;exact⟨this.f0,this.ft,this.t1⟩
 obtain⟨out,e,h1,h2,h3,h4⟩:=Bd (l:=nj es p) (by omega) (λs h=>by have:=hb s h;omega) (lo:=0) (hi:=1000000000000) (λs h _=>by have:=hb s h;omega);refine⟨out,?_,h1,λt=>(h2 t).trans jAw,by omega⟩;simp only[j5w,show Int.ofNat es.length=(es.length:Int) from rfl];rw[show xX p es (es.length:Int) 0 []=_ from lp];simp only[j3,e]
theorem jtE{β:Type}(l:List (Int×β))(k:Int)(v:β)(j:Int):hG (gU l k v) j=(j==k||hG l j):=by
 induction l with
 |nil=>simp[gU,hG]
 |cons x r ih=>
  simp only[gU];by_cases h:k=x.1
  .rw[dT h,j5];simp only[hG,List.any_cons];rw[<-h];cases j==k<;>simp
  .rw[cJ h,j6];have:hG (x::gU r k v) j=(j==x.1||hG (gU r k v) j):=rfl;rw[this,ih];have:hG (x::r) j=(j==x.1||hG r j):=rfl;rw[this];cases j==x.1<;>cases j==k<;>simp
theorem VO{β:Type}(d:β)(l:List (Int×β))(k:Int)(v:β)(j:Int):gq d (gU l k v) j=cond (j==k) v (gq d l j):=by
 induction l with
 |nil=>rfl
 |cons x r ih=>
  simp only[gU];by_cases h:k=x.1
  .rw[dT h,j5];show cond (j==k) v (gq d r j)=cond (j==k) v (cond (j==x.1) x.2 (gq d r j));rw[<-h];cases j==k<;>rfl
  .rw[cJ h,j6];show cond (j==x.1) x.2 (gq d (gU r k v) j)=cond (j==k) v (cond (j==x.1) x.2 (gq d r j));rw[ih];by_cases hj:j=x.1
   .rw[dT hj,j5,cJ (show¬j=k by omega)];rfl
   .rw[cJ hj];rfl
def fV(p:Int):aX->Prop
 |[]=>True
 |x::r=>p<=x.1/\x.1<x.2.1/\fV x.2.1 r
def lQ(t:Int)(l:aX):Prop:=∃x∈l,x.1<=t/\t<x.2.1
theorem Em{t:Int}{s:eX}{l:aX}:lQ t (s::l)↔(s.1<=t/\t<s.2.1)\/lQ t l:=by
 constructor
 .rintro⟨u,hu,h⟩
  rcases je.1 hu with rfl|hu
  .exact .inl h
  .exact .inr ⟨u,hu,h⟩
 .rintro (h|⟨u,hu,h⟩)
  .exact⟨s,by simp,h⟩
  .exact⟨u,by simp[hu],h⟩
theorem NB{t:Int}:¬lQ t []:=by rintro⟨s,hs,_⟩;simp at hs
theorem fV.weak{p q:Int}(hq:q<=p):∀{l:aX},fV p l->fV q l
 |[],_=>trivial
 |_::_,h=>⟨by have:=h.1;omega,h.2⟩
theorem fV.low{p t:Int}:∀{l:aX},fV p l->lQ t l->p<=t
 |[],_,h=>absurd h NB
 |s::r,h,hx=>by
  rcases Em.1 hx with hx|hx
  .have:=h.1;omega
  .have:=fV.low h.2.2 hx;have:=h.1;have:=h.2.1;omega
theorem fV.app{e:Int}{r:aX}(hr:fV e r):∀{l:aX}{p:Int},fV p l->p<=e->(∀x∈l,x.2.1<=e)->fV p (l++r)
 |[],_,_,hp,_=>hr.weak hp
 |x::l,p,h,_,hl=>⟨h.1,h.2.1,hr.app h.2.2 (hl x (by simp)) (λy hy=>hl y (by simp[hy]))⟩
theorem fV.apart{p:Int}:∀{l:aX},fV p l->l.Pairwise (λx y=>x.2.1<=y.1)/\∀x∈l,p<=x.1
 |[],_=>⟨List.Pairwise.nil,by simp⟩
 |x::l,h=>by
  obtain⟨h1,h2⟩:=fV.apart h.2.2
  exact⟨jx.2 ⟨h2,h1⟩,λy hy=>by
   rcases je.1 hy with rfl|hy
   .exact h.1
   .have:=h2 y hy;have:=h.1;have:=h.2.1;omega⟩
def oZ(s:cM)(p:Int):SL:=(j5w s p).getD []
def o4(s:cM)(x:eX):SL:=(j31 [(x.1,x.2.1)] (oZ s x.2.2)).getD []
def kU(s:cM)(x:eX):aX:=if x.2.2<0 then [] else (o4 s x).map λu=>(u.1,(u.2,x.2.2))
section
variable{nm:ByteArray}{ls:List cb}{es:List eJ}{np:Nat}(hE:∀x∈es,qT np x)(hl:es.length<=48)
include hE hl
theorem VP(p:Int):j5w (nm,(ls,es)) p=some (oZ (nm,(ls,es)) p)/\bB (-1) (oZ (nm,(ls,es)) p)/\(∀t,br t (oZ (nm,(ls,es)) p)↔mF es p t=true)/\(oZ (nm,(ls,es)) p).length<=es.length:=by
 obtain⟨out,e,h⟩:=jvH hE hl nm ls p;have:oZ (nm,(ls,es)) p=out:=by simp[oZ,e]
 rw[this];exact⟨e,h⟩
theorem NC{x:eX}(hx:x.1<x.2.1):j31 [(x.1,x.2.1)] (oZ (nm,(ls,es)) x.2.2)=some (o4 (nm,(ls,es)) x)/\bB (x.1-1) (o4 (nm,(ls,es)) x)/\
  (∀t,br t (o4 (nm,(ls,es)) x)↔(x.1<=t/\t<x.2.1)/\mF es x.2.2 t=false)/\(o4 (nm,(ls,es)) x).length<=1+es.length:=by
 obtain⟨_,l1,l2,l3⟩:=VP (nm:=nm) (ls:=ls) hE hl x.2.2;obtain⟨out,e,h1,h2,h3⟩:=Nj (B:=oZ (nm,(ls,es)) x.2.2) (by omega) (A:=[(x.1,x.2.1)]) (p:=x.1-1) ⟨by dsimp only;omega,hx,trivial⟩ l1 (by simp);have:o4 (nm,(ls,es)) x=out:=by simp[o4,e]
 rw[this];refine⟨e,h1,λt=>?_,by rw[ku]at h3;omega⟩;rw[h2 t,l2 t,eM];constructor
 .rintro⟨h|h,h'⟩
  .exact⟨h,by simpa using h'⟩
  .exact absurd h gE
 .rintro⟨h,h'⟩
  exact⟨.inl h,by simp[h']⟩
omit hE hl in
theorem VQ{S:aX}{m j f e p:Int}{mp:List (Int×SL)}{W:SL}(hW:W.length<=1000):∀(n i:Nat)(acc:aX),i+n=W.length->acc.length+n<=1000000000->
  tz S m j (W.length:Int) (i:Int) nm ls es f e p mp acc W=some (S,m,j,nm,ls,es,mp,acc++(W.drop i).map λu=>(u.1,(u.2,p)))
 |0,i,acc,hi,_=>by
  rw[Si];simp only[j4J];rw[ak (by omega),j6,aW,jf (by omega)];simp
 |n+1,i,acc,hi,ha=>by
  have bF:i<W.length:=by omega
  have bf:W.getD i ((0:Int),(0:Int))=W[i]:=by simp[List.getD,bF]
  rw[Si];simp only[j4J];rw[aj (by omega),aU (by omega) (by omega),ah (x:=(i:Int)+1) (by omega) (by omega)];simp only[j5,j7,bf];rw[aj (by simp[aS];omega),j5,aF,jc bF,kr];have:=VQ (S:=S) (m:=m) (j:=j) (f:=f) (e:=e) (p:=p) (mp:=mp) hW n (i+1) (acc++[(W[i].1,(W[i].2,p))]) (by omega) (by simp;omega);rw[jd]at this;exact this
theorem ND{S:aX}(hS:S.length<=100000)(bP:∀x∈S,x.1<x.2.1):∀(n i:Nat)(mp:List (Int×SL))(acc:aX),i+n=S.length->(∀p,hG mp p=true->gq [] mp p=oZ (nm,(ls,es)) p)->acc.length<=49*i->
  vG S (S.length:Int) (i:Int) nm ls es mp acc=some (acc++(S.drop i).flatMap (kU (nm,(ls,es))))
 |0,i,mp,acc,hi,_,_=>by
  rw[Sj];simp only[j2w];rw[ak (by omega),j6,aW,jf (by omega)];simp
 |n+1,i,mp,acc,hi,hm,ha=>by
  have bF:i<S.length:=by omega
  have bf:S.getD i ((0:Int),((0:Int),(0:Int)))=S[i]:=by simp[List.getD,bF]
  have hp:=bP _ (jg bF);rw[Sj];simp only[j2w];rw[aj (show (i:Int)<(S.length:Int) by omega),aU (by omega) (by omega)];simp only[j5,j7,bf];rw[jc bF,qv];by_cases kP:S[i].2.2<0
  .rw[aj kP,j5,ah (x:=(i:Int)+1) (by omega) (by omega),aF];have e:kU (nm,(ls,es)) S[i]=[]:=if_pos kP;rw[e,jm];exact ND hS bP n (i+1) mp acc (by omega) hm (by omega)
  .have e:kU (nm,(ls,es)) S[i]=(o4 (nm,(ls,es)) S[i]).map λu=>(u.1,(u.2,S[i].2.2)):=if_neg kP;obtain⟨w1,_,_,w4⟩:=NC (nm:=nm) (ls:=ls) hE hl hp;rw[ak kP,j6]
   have fin:∀tP:List (Int×SL),(∀p,hG tP p=true->gq [] tP p=oZ (nm,(ls,es)) p)->gq [] tP S[i].2.2=oZ (nm,(ls,es)) S[i].2.2->
     lpK ((j31 [(S[i].1,S[i].2.1)] (gq [] tP S[i].2.2)).bind λVR=>
      (tz S (S.length:Int) (i:Int) (Int.ofNat VR.length) 0 nm ls es S[i].1 S[i].2.1 S[i].2.2 tP acc VR).bind λq2=>
       (some (Sum.inl (q2.1,q2.2.1,w64 (q2.2.2.1+1),q2.2.2.2.1,q2.2.2.2.2.1,q2.2.2.2.2.2.1,q2.2.2.2.2.2.2.1,q2.2.2.2.2.2.2.2)):Option ((aX×Int×Int×ByteArray×List cb×List eJ×List (Int×SL)×aX) ⊕ aX)))
      (λh=>vG h.1 h.2.1 h.2.2.1 h.2.2.2.1 h.2.2.2.2.1 h.2.2.2.2.2.1 h.2.2.2.2.2.2.1 h.2.2.2.2.2.2.2)=some (acc++(kU (nm,(ls,es)) S[i]++(S.drop (i+1)).flatMap (kU (nm,(ls,es))))):=λtP iF hg=>by
    have l2:=VQ (nm:=nm) (ls:=ls) (es:=es) (S:=S) (m:=(S.length:Int)) (j:=(i:Int)) (f:=S[i].1) (e:=S[i].2.1) (p:=S[i].2.2) (mp:=tP) (W:=o4 (nm,(ls,es)) S[i]) (by omega) (o4 (nm,(ls,es)) S[i]).length 0 acc (by omega) (by omega);rw[hg,w1];simp only[j3];rw[show tz S (S.length:Int) (i:Int) (Int.ofNat (o4 (nm,(ls,es)) S[i]).length) 0 nm ls es S[i].1 S[i].2.1 S[i].2.2 tP acc (o4 (nm,(ls,es)) S[i])=_ from l2];simp only[j3,jw];rw[ah (x:=(i:Int)+1) (by omega) (by omega),aF,<-e,<-jd];exact ND hS bP n (i+1) tP _ (by omega) iF (by rw[ja,e,kn];omega)
   cases hh:hG mp S[i].2.2 with
   |true=>simp only[jr,j6];exact fin mp hm (hm _ hh)
   |false=>
    simp only[jy,j5];rw[show j5w (nm,(ls,es)) S[i].2.2=_ from (VP (nm:=nm) (ls:=ls) hE hl S[i].2.2).1];simp only[j3];refine fin _ (λp uq=>?_) ?_
    .rw[VO];by_cases G4:p=S[i].2.2
     .rw[dT G4,j5,G4]
     .rw[jtE,cJ G4,Bool.false_or]at uq;rw[cJ G4,j6];exact hm p uq
    .rw[VO];simp
theorem jtF{S:aX}(hS:S.length<=100000)(bP:∀x∈S,x.1<x.2.1):j6e (nm,(ls,es)) S=some (S.flatMap (kU (nm,(ls,es)))):=by
 simp only[j6e,show Int.ofNat S.length=(S.length:Int) from rfl];rw[show vG S (S.length:Int) 0 nm ls es [] []=_ from ND hE hl hS bP S.length 0 [] [] (by omega) (λp h=>by simp[hG]at h) (by simp)];rfl
theorem jzb{x:eX}(hx:x.1<x.2.1):(kU (nm,(ls,es)) x).length<=1+es.length:=by
 unfold kU;split
 .simp
 .rw[kn];exact(NC (nm:=nm) (ls:=ls) hE hl hx).2.2.2
theorem VS:∀{S:aX},(∀x∈S,x.1<x.2.1)->(S.flatMap (kU (nm,(ls,es)))).length<=S.length*(1+es.length)
 |[],_=>by simp
 |x::S,h=>by
  have h1:=jzb (nm:=nm) (ls:=ls) hE hl (h x (by simp));have h2:=VS (S:=S) (λy hy=>h y (by simp[hy]));rw[qv,ja,jl,Nat.add_mul];omega
theorem VT{p:Int}{c e:Int}:∀{W:SL}{q:Int},bB q W->(∀u∈W,u.2<=e)->fV (q+1) (W.map λu=>(u.1,(u.2,c)))/\(p<=q+1->fV p (W.map λu=>(u.1,(u.2,c))))
 |[],_,_,_=>⟨trivial,λ_=>trivial⟩
 |u::W,q,h,hb=>by
  have _:=hE;have _:=hl;have h3:=(VT (p:=u.2) (c:=c) (e:=e) (W:=W) h.2.2 (λv hv=>hb v (by simp[hv]))).2 (by omega);exact⟨⟨by have:=h.1;dsimp only;omega,h.2.1,h3⟩,λhp=>⟨by have:=h.1;dsimp only;omega,h.2.1,h3⟩⟩
theorem VU{f:Int->Int}{b:Int}:∀{S:aX}{a:Int},Ch f b a S->(∀x∈S,x.1<x.2.1)->
  fV a (S.flatMap (kU (nm,(ls,es))))/\(∀x∈S.flatMap (kU (nm,(ls,es))),x.2.1<=b/\∀t,x.1<=t->t<x.2.1->f t=x.2.2/\0<=x.2.2/\mF es x.2.2 t=false)/\
   ∀t,a<=t->t<b->0<=f t->mF es (f t) t=false->lQ t (S.flatMap (kU (nm,(ls,es))))
 |[],a,h,_=>⟨trivial,by simp,λt h1 h2=>by have h:a=b:=h;omega⟩
 |x::S,a,h,bP=>by
  obtain⟨h1,h2,h3,h4⟩:=h;have hx:=bP x (by simp);obtain⟨i1,i2,i3⟩:=VU (f:=f) (b:=b) h4 (λy hy=>bP y (by simp[hy]));have hle:=h4.le;obtain⟨_,w2,w3,_⟩:=NC (nm:=nm) (ls:=ls) hE hl hx
  have dV:∀y∈kU (nm,(ls,es)) x,0<=x.2.2/\y.2.2=x.2.2/\y.1<y.2.1/\x.1<=y.1/\y.2.1<=x.2.1/\∀t,y.1<=t->t<y.2.1->mF es x.2.2 t=false:=λy hy=>by
   unfold kU at hy;split at hy
   .simp at hy
   .obtain⟨u,hu,rfl⟩:=jt.1 hy;have hm:=bB.mem w2 u hu;have e1:=(w3 (u.2-1)).1 ⟨u,hu,by omega,by omega⟩;exact⟨by omega,rfl,hm.2,by dsimp only;omega,by dsimp only;omega,λt t1 t2=>((w3 t).1 ⟨u,hu,t1,t2⟩).2⟩
  rw[qv];refine⟨?_,λy hy=>?_,λt t1 t2 t3 t4=>?_⟩
  .refine fV.app i1 ?_ h2 (λy hy=>(dV y hy).2.2.2.2.1);unfold kU;split
   .trivial
   .exact(VT hE hl (p:=a) (c:=x.2.2) (e:=x.2.1) w2 (λu hu=>by
     have hm:=bB.mem w2 u hu;have e1:=(w3 (u.2-1)).1 ⟨u,hu,by omega,by omega⟩;omega)).2 (by omega)
  .rcases jn.1 hy with hy|hy
   .obtain⟨g1,g2,g3,g4,g5,g6⟩:=dV y hy;exact⟨by omega,λt t1 t2=>⟨by rw[g2];exact h3 t (by omega) (by omega),by omega,by rw[g2];exact g6 t t1 t2⟩⟩
   .exact i2 y hy
  .by_cases an:t<x.2.1
   .have hf:=h3 t t1 an;rw[hf]at t3 t4;obtain⟨u,hu,u1,u2⟩:=(w3 t).2 ⟨⟨by omega,an⟩,t4⟩;refine⟨(u.1,(u.2,x.2.2)),ka _ ?_,u1,u2⟩;unfold kU;rw[if_neg (by omega)];exact jt.2 ⟨u,hu,rfl⟩
   .obtain⟨y,hy,y1,y2⟩:=i3 t (by omega) t2 t3 t4;exact⟨y,kq _ hy,y1,y2⟩
end
def iK:Nat->aX->SL->aX
 |n+1,s::a,u::b=>(if (if u.1>s.1 then u.1 else s.1)<(if u.2<s.2.1 then u.2 else s.2.1) then [((if u.1>s.1 then u.1 else s.1),((if u.2<s.2.1 then u.2 else s.2.1),s.2.2))] else [])++
  (if s.2.1<u.2 then iK n a (u::b) else iK n (s::a) b)
 |_,_,_=>[]
theorem NF:∀(n:Nat)(a:aX)(b:SL)(p q:Int),a.length+b.length<=n->fV p a->bB q b->
  fV p (iK n a b)/\fV q (iK n a b)/\(∀x∈iK n a b,∃s∈a,s.1<=x.1/\x.2.1<=s.2.1/\x.2.2=s.2.2/\∀t,x.1<=t->t<x.2.1->br t b)/\(∀t,lQ t a->br t b->lQ t (iK n a b))/\(iK n a b).length<=a.length+b.length
 |0,a,b,p,q,hn,_,_=>by
  obtain rfl:a=[]:=kj.1 (by omega);exact⟨trivial,trivial,by simp[iK],λt h=>absurd h NB,by simp[iK]⟩
 |n+1,[],b,p,q,_,_,_=>⟨trivial,trivial,by simp[iK],λt h=>absurd h NB,by simp[iK]⟩
 |n+1,_::_,[],p,q,_,_,_=>⟨trivial,trivial,by simp[iK],λt _ h=>absurd h gE,by simp[iK]⟩
 |n+1,s::a,u::b,p,q,hn,ha,hb=>by
  obtain⟨a1,a2,a3⟩:=ha;obtain⟨b1,b2,b3⟩:=hb;simp only[jl]at hn ⊢
  have hx:∃f t:Int,f=(if u.1>s.1 then u.1 else s.1)/\t=(if u.2<s.2.1 then u.2 else s.2.1)/\(∀x,(f<=x/\x<t)↔(s.1<=x/\x<s.2.1)/\(u.1<=x/\x<u.2))/\p<=f/\q<=f/\t<=s.2.1/\t<=u.2/\s.1<=f:=by
   refine⟨_,_,rfl,rfl,λx=>?_,?_,?_,?_,?_,?_⟩
   .constructor
    .intro h;split at h<;>split at h<;>omega
    .intro h;split<;>split<;>omega
   all_goals split<;>omega
  obtain⟨f,t,ef,et,hi,f1,f2,t1,t2,f3⟩:=hx;simp only[iK,<-ef,<-et]
  have key:∀(a':aX)(b':SL)(r:aX),fV t r->fV p r->fV q r->(∀x∈r,∃s'∈(s::a),s'.1<=x.1/\x.2.1<=s'.2.1/\x.2.2=s'.2.2/\∀y,x.1<=y->y<x.2.1->br y (u::b))->(∀y,lQ y a'->br y b'->lQ y r)->
    r.length<=a'.length+b'.length->a'.length+b'.length+1=a.length+1+(b.length+1)->(∀y,lQ y (s::a)->br y (u::b)->(f<=y/\y<t)\/(lQ y a'/\br y b'))->
    fV p ((if f<t then [(f,(t,s.2.2))] else [])++r)/\fV q ((if f<t then [(f,(t,s.2.2))] else [])++r)/\(∀x∈((if f<t then [(f,(t,s.2.2))] else [])++r),∃s'∈(s::a),s'.1<=x.1/\x.2.1<=s'.2.1/\x.2.2=s'.2.2/\∀y,x.1<=y->y<x.2.1->br y (u::b))/\
     (∀y,lQ y (s::a)->br y (u::b)->lQ y ((if f<t then [(f,(t,s.2.2))] else [])++r))/\((if f<t then [(f,(t,s.2.2))] else [])++r).length<=a.length+1+(b.length+1):=by
   intro a' b' r wD tM Ng G0 VV hl wA qW;by_cases ir:f<t
   .rw[if_pos ir];refine⟨⟨f1,ir,wD⟩,⟨f2,ir,wD⟩,λx hx=>?_,λy y1 y2=>?_,by simp;omega⟩
    .rcases je.1 hx with rfl|hx
     .exact⟨s,by simp,f3,t1,rfl,λy y1 y2=>eM.2 (.inl ((hi y).1 ⟨y1,y2⟩).2)⟩
     .exact G0 x hx
    .rcases qW y y1 y2 with h|h
     .exact Em.2 (.inl h)
     .exact Em.2 (.inr (VV y h.1 h.2))
   .rw[if_neg ir,jm];refine⟨tM,Ng,G0,λy y1 y2=>?_,by omega⟩;rcases qW y y1 y2 with h|h
    .omega
    .exact VV y h.1 h.2
  by_cases hc:s.2.1<u.2
  .rw[if_pos hc];obtain⟨i1,i2,i3,i4,i5⟩:=NF n a (u::b) s.2.1 q (by simp;omega) a3 ⟨b1,b2,b3⟩;refine key a (u::b) _ (i1.weak t1) (i1.weak (by omega)) i2 (λx hx=>?_) i4 i5 (by simp;omega) (λy y1 y2=>?_)
   .obtain⟨s',dp,r⟩:=i3 x hx;exact⟨s',by simp[dp],r⟩
   .rcases Em.1 y1 with h|h
    .rcases eM.1 y2 with h'|h'
     .exact .inl ((hi y).2 ⟨h,h'⟩)
     .have:=bB.low b3 h';omega
    .exact .inr ⟨h,y2⟩
  .rw[if_neg hc];obtain⟨i1,i2,i3,i4,i5⟩:=NF n (s::a) b p u.2 (by simp;omega) ⟨a1,a2,a3⟩ b3;refine key (s::a) b _ (i2.weak t2) i1 (i2.weak (by omega)) (λx hx=>?_) i4 i5 (by simp;omega) (λy y1 y2=>?_)
   .obtain⟨s',dp,r1,r2,r3,r4⟩:=i3 x hx;exact⟨s',dp,r1,r2,r3,λy y1 y2=>eM.2 (.inr (r4 y y1 y2))⟩
   .rcases eM.1 y2 with h|h
    .rcases Em.1 y1 with h'|h'
     .exact .inl ((hi y).2 ⟨h',h⟩)
     .have:=fV.low a3 h';omega
    .exact .inr ⟨y1,h⟩
theorem NG{A:aX}{B:SL}(hA:A.length<=10000000)(hB:B.length<=10000000):∀(n i k:Nat)(acc:aX),i<=A.length->k<=B.length->(A.length-i)+(B.length-k)=n->acc.length+n<=3000000->
  tA A B (i:Int) (k:Int) acc=some (acc++iK n (A.drop i) (B.drop k))
 |n,i,k,acc,hi,hk,hn,fc=>by
  rw[jiM];simp only[j6F,show Int.ofNat (List.length A)=(A.length:Int) from rfl,show Int.ofNat (List.length B)=(B.length:Int) from rfl];by_cases dW:i<A.length/\k<B.length
  .obtain⟨bF,bg⟩:=dW;obtain⟨n,rfl⟩:∃m,n=m+1:=⟨n-1,by omega⟩;have gA:A.getD i ((0:Int),((0:Int),(0:Int)))=A[i]:=by simp[List.getD,bF]
   have gB:B.getD k ((0:Int),(0:Int))=B[k]:=by simp[List.getD,bg]
   rw[aj (show (i:Int)<(A.length:Int) by omega),aj (show (k:Int)<(B.length:Int) by omega),aU (show (0:Int)<=(i:Int) by omega) (by omega),aU (show (0:Int)<=(k:Int) by omega) (by omega)];simp only[j5,j7,gA,gB];rw[ah (x:=(i:Int)+1) (by omega) (by omega),ah (x:=(k:Int)+1) (by omega) (by omega)];rw[jc bF,jc bg];simp only[iK];generalize (if B[k].1>A[i].1 then B[k].1 else A[i].1:Int)=f;generalize (if B[k].2<A[i].2.1 then B[k].2 else A[i].2.1:Int)=t
   have Ee:∀ba:aX,ba.length<=acc.length+1->tA A B ((i:Int)+1) (k:Int) ba=some (ba++iK n (A.drop (i+1)) (B[k]::B.drop (k+1))):=λba BQ=>by
    have:=NG hA hB n (i+1) k ba (by omega) (by omega) (by omega) (by omega);rw[<-jc bg];exact this
   have Ef:∀ba:aX,ba.length<=acc.length+1->tA A B (i:Int) ((k:Int)+1) ba=some (ba++iK n (A[i]::A.drop (i+1)) (B.drop (k+1))):=λba BQ=>by
    have:=NG hA hB n i (k+1) ba (by omega) (by omega) (by omega) (by omega);rw[<-jc bF];exact this
   by_cases ir:f<t
   .rw[aj ir,if_pos ir,aj (by simp[aS];omega)];simp only[j5];by_cases hc:A[i].2.1<B[k].2
    .rw[aj hc,if_pos hc];simp only[j5,aF];rw[Ee _ (by simp),jd]
    .rw[ak hc,if_neg hc];simp only[j6,aF];rw[Ef _ (by simp),jd]
   .rw[ak ir,if_neg ir];simp only[j6];by_cases hc:A[i].2.1<B[k].2
    .rw[aj hc,if_pos hc];simp only[j5,aF];rw[Ee _ (by omega),jm]
    .rw[ak hc,if_neg hc];simp only[j6,aF];rw[Ef _ (by omega),jm]
  .have hc:cond (decide ((i:Int)<(A.length:Int))) (decide ((k:Int)<(B.length:Int))) false=false:=by
    by_cases h1:i<A.length
    .rw[aj (by omega),j5];exact ak (by omega)
    .rw[ak (by omega),j6]
   rw[hc,j6,aW]
   have:iK n (A.drop i) (B.drop k)=[]:=by
    by_cases h1:i<A.length
    .rw[vk (show B.length<=k by omega)];cases n<;>cases A.drop i<;>rfl
    .rw[vk (show A.length<=i by omega)];cases n<;>rfl
   rw[this,kb]
theorem VW{l:aX}(hl:l.length<=10000000):∀(n i:Nat)(acc:SL),i+n=l.length->acc.length<=i->xY l (l.length:Int) (i:Int) acc=some (acc++(l.drop i).map λx=>(x.1,x.2.1))
 |0,i,acc,hi,_=>by
  rw[Sk];simp only[j5L];rw[ak (by omega),j6,aW,jf (by omega)];simp
 |n+1,i,acc,hi,ha=>by
  have bF:i<l.length:=by omega
  have bf:l.getD i ((0:Int),((0:Int),(0:Int)))=l[i]:=by simp[List.getD,bF]
  rw[Sk];simp only[j5L];rw[aj (by omega),aU (by omega) (by omega),ah (x:=(i:Int)+1) (by omega) (by omega)];simp only[j5,j7,bf];rw[aj (by simp[aS];omega),j5,aF,jc bF,kr];have:=VW hl n (i+1) (acc++[(l[i].1,l[i].2.1)]) (by omega) (by simp;omega);rw[jd]at this;exact this
theorem jx9{l:aX}(hl:l.length<=10000000){lo hi:Int}(h0:0<=lo)(h1:hi<=8589934592)(hb:∀x∈l,lo<=x.1/\x.1<x.2.1/\x.2.1<=hi) :
  ∃out,j87 l=some out/\bB (lo-1) out/\(∀t,br t out↔lQ t l)/\out.length<=l.length:=by
 have lp:=VW hl l.length 0 [] (by omega) (by simp);rw[jm,jw]at lp
 have aM:∀s∈l.map (λx=>(x.1,x.2.1)),lo<=s.1/\s.1<s.2/\s.2<=hi:=λs h=>by
  obtain⟨x,hx,rfl⟩:=jt.1 h;exact hb x hx
 obtain⟨out,e,g1,g2,g3,g4⟩:=Bd (l:=l.map λx=>(x.1,x.2.1)) (by simpa using hl) (λs h=>by have:=aM s h;omega) (lo:=lo) (hi:=hi) (λs h _=>by have:=aM s h;omega);refine⟨out,?_,g1,λt=>(g2 t).trans ⟨?_,?_⟩,by simpa using g3⟩
 .simp only[j87,show Int.ofNat l.length=(l.length:Int) from rfl];rw[show xY l (l.length:Int) 0 []=_ from lp];simp only[j3,e]
 .rintro⟨s,hs,h⟩
  obtain⟨x,hx,rfl⟩:=jt.1 hs;exact⟨x,hx,h⟩
 .rintro⟨x,hx,h⟩
  exact⟨_,jt.2 ⟨x,hx,rfl⟩,h⟩
end Go.Proofs.Pw
