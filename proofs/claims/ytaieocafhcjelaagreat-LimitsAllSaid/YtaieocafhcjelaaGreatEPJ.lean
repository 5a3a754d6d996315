/- stack.SegmentsOf: Vb is on call by yK in a range. -/
import Derived.Test.YtaieocafhcjelaaGreatEPI
import Derived.Test.YtaieocafhcjelaaGreatEPG
noncomputable section
open Go Go.Lft
namespace Go.Proofs.Pw
def du(zs:List bY)(cs:List bf)(ls:List cg)(t:Int)(i:Nat):Int:=cR zs cs (ls.getD i (ByteArray.empty,((0:Int),(((0:Int),(0:Int)),((0:Int),((0:Int),(([]:List Int),(([]:List (Int×Int)),((0:Int),(0:Int)))))))))) t
def nr(es:List eU)(p:Int):SL:=(es.filter λx=>x.1==0&&x.2.1==p).map λx=>(x.2.2.2.1,x.2.2.2.2)
theorem jAM{es:List eU}{p t:Int}:bz t (nr es p)↔mI es p t=true:=by
 unfold bz nr mI;rw[zj];constructor
 .rintro⟨s,hs,h1,h2⟩
  obtain⟨x,hx,rfl⟩:=ju.1 hs;obtain⟨h3,h4⟩:=qq.1 hx;dsimp only at h1 h2;refine⟨x,h3,?_⟩;simp only[jb,jo]at h4 ⊢;exact⟨h4.1,h4.2,h1,h2⟩
 .rintro⟨x,hx,h⟩
  simp only[jb,jo]at h;exact⟨_,ju.2 ⟨x,qq.2 ⟨hx,by simp only[jb];exact⟨h.1,h.2.1⟩⟩,rfl⟩,h.2.2.1,h.2.2.2⟩
theorem NP{es:List eU}(hl:es.length<=1000){p:Int}:∀(n i:Nat)(acc:SL),i+n=es.length->acc.length<=i->yd p es (es.length:Int) (i:Int) acc=some (acc++nr (es.drop i) p)
 |0,i,acc,hi,_=>by
  rw[SC];simp only[j5c];rw[al (by omega),j6,aW,jf (by omega)];simp[nr]
 |n+1,i,acc,hi,ha=>by
  have bF:i<es.length:=by omega
  have bh:es.getD i ((0:Int),((0:Int),((0:Int),((0:Int),(0:Int)))))=es[i]:=by simp[List.getD,bF]
  rw[SC];simp only[j5c];rw[aj (by omega),aX (by omega) (by omega),ai (x:=(i:Int)+1) (by omega) (by omega)];simp only[j5,j7,bh];have hc:cond (es[i].1==(0:Int)) (es[i].2.1==p) false=(es[i].1==0&&es[i].2.1==p):=by cases es[i].1==(0:Int)<;>rfl
  rw[hc,jc bF];cases hx:(es[i].1==0&&es[i].2.1==p) with
  |true=>
   rw[j5,aj (by simp[aR];omega),j5,aJ];have:=NP hl (p:=p) n (i+1) (acc++[(es[i].2.2.2.1,es[i].2.2.2.2)]) (by omega) (by simp;omega);have e:nr (es[i]::es.drop (i+1)) p=(es[i].2.2.2.1,es[i].2.2.2.2)::nr (es.drop (i+1)) p:=by simp only[nr,List.filter_cons,hx,if_true,kr]
   rw[e];rw[jd]at this;exact this
  |false=>
   rw[j6,aJ];have:=NP hl (p:=p) n (i+1) acc (by omega) (by omega);have e:nr (es[i]::es.drop (i+1)) p=nr (es.drop (i+1)) p:=by unfold nr;rw[List.filter_cons_of_neg (by simp only[hx];simp)]
   rw[e];exact this
theorem jvR{es:List eU}{np:Nat}(hE:∀x∈es,qV np x)(hl:es.length<=48)(nm:ByteArray)(ls:List cg)(p:Int) :
  ∃out,j5v (nm,(ls,es)) p=some out/\bK (-1) out/\(∀t,bz t out↔mI es p t=true)/\out.length<=es.length:=by
 have lp:=NP (es:=es) (by omega) (p:=p) es.length 0 [] (by omega) (by simp);rw[jl,jv]at lp;have fa:(nr es p).length<=es.length:=by unfold nr;rw[kb];exact qt _ _
 have hb:∀s∈nr es p,0<=s.1/\s.1<s.2/\s.2<=1000000000000:=λs h=>by
  obtain⟨x,hx,rfl⟩:=ju.1 h;have:=hE x (qq.1 hx).1;exact⟨this.f0,this.ft,this.t1⟩
 obtain⟨out,e,h1,h2,h3,h4⟩:=Bl (l:=nr es p) (by omega) (λs h=>by have:=hb s h;omega) (lo:=0) (hi:=1000000000000) (λs h _=>by have:=hb s h;omega);refine⟨out,?_,h1,λt=>(h2 t).trans jAM,by omega⟩;simp only[j5v,show Int.ofNat es.length=(es.length:Int) from rfl];rw[show yd p es (es.length:Int) 0 []=_ from lp];simp only[j3,e]
theorem jtO{β:Type}(l:List (Int×β))(k:Int)(v:β)(j:Int):ic (gY l k v) j=(j==k||ic l j):=by
 induction l with
 |nil=>simp[gY,ic]
 |cons x r ih=>
  simp only[gY];by_cases h:k=x.1
  .rw[ee h,j5];simp only[ic,List.any_cons];rw[<-h];cases j==k<;>simp
  .rw[cP h,j6];have:ic (x::gY r k v) j=(j==x.1||ic (gY r k v) j):=rfl;rw[this,ih];have:ic (x::r) j=(j==x.1||ic r j):=rfl;rw[this];cases j==x.1<;>cases j==k<;>simp
theorem V0{β:Type}(d:β)(l:List (Int×β))(k:Int)(v:β)(j:Int):gw d (gY l k v) j=cond (j==k) v (gw d l j):=by
 induction l with
 |nil=>rfl
 |cons x r ih=>
  simp only[gY];by_cases h:k=x.1
  .rw[ee h,j5];show cond (j==k) v (gw d r j)=cond (j==k) v (cond (j==x.1) x.2 (gw d r j));rw[<-h];cases j==k<;>rfl
  .rw[cP h,j6];show cond (j==x.1) x.2 (gw d (gY r k v) j)=cond (j==k) v (cond (j==x.1) x.2 (gw d r j));rw[ih];by_cases hj:j=x.1
   .rw[ee hj,j5,cP (show¬j=k by omega)];rfl
   .rw[cP hj];rfl
def fZ(p:Int):aS->Prop
 |[]=>True
 |x::r=>p<=x.1/\x.1<x.2.1/\fZ x.2.1 r
def lV(t:Int)(l:aS):Prop:=∃x∈l,x.1<=t/\t<x.2.1
theorem EB{t:Int}{s:ej}{l:aS}:lV t (s::l)↔(s.1<=t/\t<s.2.1)\/lV t l:=by
 constructor
 .rintro⟨u,hu,h⟩
  rcases je.1 hu with rfl|hu
  .exact .inl h
  .exact .inr ⟨u,hu,h⟩
 .rintro (h|⟨u,hu,h⟩)
  .exact⟨s,by simp,h⟩
  .exact⟨u,by simp[hu],h⟩
theorem NQ{t:Int}:¬lV t []:=by rintro⟨s,hs,_⟩;simp at hs
theorem fZ.weak{p q:Int}(hq:q<=p):∀{l:aS},fZ p l->fZ q l
 |[],_=>trivial
 |_::_,h=>⟨by have:=h.1;omega,h.2⟩
theorem fZ.low{p t:Int}:∀{l:aS},fZ p l->lV t l->p<=t
 |[],_,h=>absurd h NQ
 |s::r,h,hx=>by
  rcases EB.1 hx with hx|hx
  .have:=h.1;omega
  .have:=fZ.low h.2.2 hx;have:=h.1;have:=h.2.1;omega
theorem fZ.app{e:Int}{r:aS}(hr:fZ e r):∀{l:aS}{p:Int},fZ p l->p<=e->(∀x∈l,x.2.1<=e)->fZ p (l++r)
 |[],_,_,hp,_=>hr.weak hp
 |x::l,p,h,_,hl=>⟨h.1,h.2.1,hr.app h.2.2 (hl x (by simp)) (λy hy=>hl y (by simp[hy]))⟩
theorem fZ.apart{p:Int}:∀{l:aS},fZ p l->l.Pairwise (λx y=>x.2.1<=y.1)/\∀x∈l,p<=x.1
 |[],_=>⟨List.Pairwise.nil,by simp⟩
 |x::l,h=>by
  obtain⟨h1,h2⟩:=fZ.apart h.2.2
  exact⟨js.2 ⟨h2,h1⟩,λy hy=>by
   rcases je.1 hy with rfl|hy
   .exact h.1
   .have:=h2 y hy;have:=h.1;have:=h.2.1;omega⟩
def pb(s:cA)(p:Int):SL:=(j5v s p).getD []
def pd(s:cA)(x:ej):SL:=(j32 [(x.1,x.2.1)] (pb s x.2.2)).getD []
def kY(s:cA)(x:ej):aS:=if x.2.2<0 then [] else (pd s x).map λu=>(u.1,(u.2,x.2.2))
section
variable{nm:ByteArray}{ls:List cg}{es:List eU}{np:Nat}(hE:∀x∈es,qV np x)(hl:es.length<=48)
include hE hl
theorem V3(p:Int):j5v (nm,(ls,es)) p=some (pb (nm,(ls,es)) p)/\bK (-1) (pb (nm,(ls,es)) p)/\(∀t,bz t (pb (nm,(ls,es)) p)↔mI es p t=true)/\(pb (nm,(ls,es)) p).length<=es.length:=by
 obtain⟨out,e,h⟩:=jvR hE hl nm ls p;have:pb (nm,(ls,es)) p=out:=by simp[pb,e]
 rw[this];exact⟨e,h⟩
theorem NR{x:ej}(hx:x.1<x.2.1):j32 [(x.1,x.2.1)] (pb (nm,(ls,es)) x.2.2)=some (pd (nm,(ls,es)) x)/\bK (x.1-1) (pd (nm,(ls,es)) x)/\
  (∀t,bz t (pd (nm,(ls,es)) x)↔(x.1<=t/\t<x.2.1)/\mI es x.2.2 t=false)/\(pd (nm,(ls,es)) x).length<=1+es.length:=by
 obtain⟨_,l1,l2,l3⟩:=V3 (nm:=nm) (ls:=ls) hE hl x.2.2;obtain⟨out,e,h1,h2,h3⟩:=Ny (B:=pb (nm,(ls,es)) x.2.2) (by omega) (A:=[(x.1,x.2.1)]) (p:=x.1-1) ⟨by dsimp only;omega,hx,trivial⟩ l1 (by simp);have:pd (nm,(ls,es)) x=out:=by simp[pd,e]
 rw[this];refine⟨e,h1,λt=>?_,by rw[ku]at h3;omega⟩;rw[h2 t,l2 t,eY];constructor
 .rintro⟨h|h,h'⟩
  .exact⟨h,by simpa using h'⟩
  .exact absurd h gJ
 .rintro⟨h,h'⟩
  exact⟨.inl h,by simp[h']⟩
omit hE hl in
theorem V4{S:aS}{m j f e p:Int}{mp:List (Int×SL)}{W:SL}(hW:W.length<=1000):∀(n i:Nat)(acc:aS),i+n=W.length->acc.length+n<=1000000000->
  tD S m j (W.length:Int) (i:Int) nm ls es f e p mp acc W=some (S,m,j,nm,ls,es,mp,acc++(W.drop i).map λu=>(u.1,(u.2,p)))
 |0,i,acc,hi,_=>by
  rw[SD];simp only[j4H];rw[al (by omega),j6,aW,jf (by omega)];simp
 |n+1,i,acc,hi,ha=>by
  have bF:i<W.length:=by omega
  have bh:W.getD i ((0:Int),(0:Int))=W[i]:=by simp[List.getD,bF]
  rw[SD];simp only[j4H];rw[aj (by omega),aX (by omega) (by omega),ai (x:=(i:Int)+1) (by omega) (by omega)];simp only[j5,j7,bh];rw[aj (by simp[aR];omega),j5,aJ,jc bF,kr];have:=V4 (S:=S) (m:=m) (j:=j) (f:=f) (e:=e) (p:=p) (mp:=mp) hW n (i+1) (acc++[(W[i].1,(W[i].2,p))]) (by omega) (by simp;omega);rw[jd]at this;exact this
theorem NS{S:aS}(hS:S.length<=100000)(bP:∀x∈S,x.1<x.2.1):∀(n i:Nat)(mp:List (Int×SL))(acc:aS),i+n=S.length->(∀p,ic mp p=true->gw [] mp p=pb (nm,(ls,es)) p)->acc.length<=49*i->
  vN S (S.length:Int) (i:Int) nm ls es mp acc=some (acc++(S.drop i).flatMap (kY (nm,(ls,es))))
 |0,i,mp,acc,hi,_,_=>by
  rw[SE];simp only[j2z];rw[al (by omega),j6,aW,jf (by omega)];simp
 |n+1,i,mp,acc,hi,hm,ha=>by
  have bF:i<S.length:=by omega
  have bh:S.getD i ((0:Int),((0:Int),(0:Int)))=S[i]:=by simp[List.getD,bF]
  have hp:=bP _ (jh bF);rw[SE];simp only[j2z];rw[aj (show (i:Int)<(S.length:Int) by omega),aX (by omega) (by omega)];simp only[j5,j7,bh];rw[jc bF,qx];by_cases kU:S[i].2.2<0
  .rw[aj kU,j5,ai (x:=(i:Int)+1) (by omega) (by omega),aJ];have e:kY (nm,(ls,es)) S[i]=[]:=if_pos kU;rw[e,jl];exact NS hS bP n (i+1) mp acc (by omega) hm (by omega)
  .have e:kY (nm,(ls,es)) S[i]=(pd (nm,(ls,es)) S[i]).map λu=>(u.1,(u.2,S[i].2.2)):=if_neg kU;obtain⟨w1,_,_,w4⟩:=NR (nm:=nm) (ls:=ls) hE hl hp;rw[al kU,j6]
   have fin:∀tU:List (Int×SL),(∀p,ic tU p=true->gw [] tU p=pb (nm,(ls,es)) p)->gw [] tU S[i].2.2=pb (nm,(ls,es)) S[i].2.2->
     lpK ((j32 [(S[i].1,S[i].2.1)] (gw [] tU S[i].2.2)).bind λV5=>
      (tD S (S.length:Int) (i:Int) (Int.ofNat V5.length) 0 nm ls es S[i].1 S[i].2.1 S[i].2.2 tU acc V5).bind λq2=>
       (some (Sum.inl (q2.1,q2.2.1,w64 (q2.2.2.1+1),q2.2.2.2.1,q2.2.2.2.2.1,q2.2.2.2.2.2.1,q2.2.2.2.2.2.2.1,q2.2.2.2.2.2.2.2)):Option ((aS×Int×Int×ByteArray×List cg×List eU×List (Int×SL)×aS) ⊕ aS)))
      (λh=>vN h.1 h.2.1 h.2.2.1 h.2.2.2.1 h.2.2.2.2.1 h.2.2.2.2.2.1 h.2.2.2.2.2.2.1 h.2.2.2.2.2.2.2)=some (acc++(kY (nm,(ls,es)) S[i]++(S.drop (i+1)).flatMap (kY (nm,(ls,es))))):=λtU iL hg=>by
    have l2:=V4 (nm:=nm) (ls:=ls) (es:=es) (S:=S) (m:=(S.length:Int)) (j:=(i:Int)) (f:=S[i].1) (e:=S[i].2.1) (p:=S[i].2.2) (mp:=tU) (W:=pd (nm,(ls,es)) S[i]) (by omega) (pd (nm,(ls,es)) S[i]).length 0 acc (by omega) (by omega);rw[hg,w1];simp only[j3];rw[show tD S (S.length:Int) (i:Int) (Int.ofNat (pd (nm,(ls,es)) S[i]).length) 0 nm ls es S[i].1 S[i].2.1 S[i].2.2 tU acc (pd (nm,(ls,es)) S[i])=_ from l2];simp only[j3,jv];rw[ai (x:=(i:Int)+1) (by omega) (by omega),aJ,<-e,<-jd];exact NS hS bP n (i+1) tU _ (by omega) iL (by rw[ja,e,kb];omega)
   cases hh:ic mp S[i].2.2 with
   |true=>simp only[jq,j6];exact fin mp hm (hm _ hh)
   |false=>
    simp only[k7,j5];rw[show j5v (nm,(ls,es)) S[i].2.2=_ from (V3 (nm:=nm) (ls:=ls) hE hl S[i].2.2).1];simp only[j3];refine fin _ (λp wC=>?_) ?_
    .rw[V0];by_cases Hb:p=S[i].2.2
     .rw[ee Hb,j5,Hb]
     .rw[jtO,cP Hb,Bool.false_or]at wC;rw[cP Hb,j6];exact hm p wC
    .rw[V0];simp
theorem jtP{S:aS}(hS:S.length<=100000)(bP:∀x∈S,x.1<x.2.1):j6c (nm,(ls,es)) S=some (S.flatMap (kY (nm,(ls,es)))):=by
 simp only[j6c,show Int.ofNat S.length=(S.length:Int) from rfl];rw[show vN S (S.length:Int) 0 nm ls es [] []=_ from NS hE hl hS bP S.length 0 [] [] (by omega) (λp h=>by simp[ic]at h) (by simp)];rfl
theorem jzo{x:ej}(hx:x.1<x.2.1):(kY (nm,(ls,es)) x).length<=1+es.length:=by
 unfold kY;split
 .simp
 .rw[kb];exact(NR (nm:=nm) (ls:=ls) hE hl hx).2.2.2
theorem V6:∀{S:aS},(∀x∈S,x.1<x.2.1)->(S.flatMap (kY (nm,(ls,es)))).length<=S.length*(1+es.length)
 |[],_=>by simp
 |x::S,h=>by
  have h1:=jzo (nm:=nm) (ls:=ls) hE hl (h x (by simp));have h2:=V6 (S:=S) (λy hy=>h y (by simp[hy]));rw[qx,ja,jk,Nat.add_mul];omega
theorem V7{p:Int}{c e:Int}:∀{W:SL}{q:Int},bK q W->(∀u∈W,u.2<=e)->fZ (q+1) (W.map λu=>(u.1,(u.2,c)))/\(p<=q+1->fZ p (W.map λu=>(u.1,(u.2,c))))
 |[],_,_,_=>⟨trivial,λ_=>trivial⟩
 |u::W,q,h,hb=>by
  have _:=hE;have _:=hl;have h3:=(V7 (p:=u.2) (c:=c) (e:=e) (W:=W) h.2.2 (λv hv=>hb v (by simp[hv]))).2 (by omega);exact⟨⟨by have:=h.1;dsimp only;omega,h.2.1,h3⟩,λhp=>⟨by have:=h.1;dsimp only;omega,h.2.1,h3⟩⟩
theorem V8{f:Int->Int}{b:Int}:∀{S:aS}{a:Int},Ch f b a S->(∀x∈S,x.1<x.2.1)->
  fZ a (S.flatMap (kY (nm,(ls,es))))/\(∀x∈S.flatMap (kY (nm,(ls,es))),x.2.1<=b/\∀t,x.1<=t->t<x.2.1->f t=x.2.2/\0<=x.2.2/\mI es x.2.2 t=false)/\
   ∀t,a<=t->t<b->0<=f t->mI es (f t) t=false->lV t (S.flatMap (kY (nm,(ls,es))))
 |[],a,h,_=>⟨trivial,by simp,λt h1 h2=>by have h:a=b:=h;omega⟩
 |x::S,a,h,bP=>by
  obtain⟨h1,h2,h3,h4⟩:=h;have hx:=bP x (by simp);obtain⟨i1,i2,i3⟩:=V8 (f:=f) (b:=b) h4 (λy hy=>bP y (by simp[hy]));have hle:=h4.le;obtain⟨_,w2,w3,_⟩:=NR (nm:=nm) (ls:=ls) hE hl hx
  have dY:∀y∈kY (nm,(ls,es)) x,0<=x.2.2/\y.2.2=x.2.2/\y.1<y.2.1/\x.1<=y.1/\y.2.1<=x.2.1/\∀t,y.1<=t->t<y.2.1->mI es x.2.2 t=false:=λy hy=>by
   unfold kY at hy;split at hy
   .simp at hy
   .obtain⟨u,hu,rfl⟩:=ju.1 hy;have hm:=bK.mem w2 u hu;have e1:=(w3 (u.2-1)).1 ⟨u,hu,by omega,by omega⟩;exact⟨by omega,rfl,hm.2,by dsimp only;omega,by dsimp only;omega,λt t1 t2=>((w3 t).1 ⟨u,hu,t1,t2⟩).2⟩
  rw[qx];refine⟨?_,λy hy=>?_,λt t1 t2 t3 t4=>?_⟩
  .refine fZ.app i1 ?_ h2 (λy hy=>(dY y hy).2.2.2.2.1);unfold kY;split
   .trivial
   .exact(V7 hE hl (p:=a) (c:=x.2.2) (e:=x.2.1) w2 (λu hu=>by
     have hm:=bK.mem w2 u hu;have e1:=(w3 (u.2-1)).1 ⟨u,hu,by omega,by omega⟩;omega)).2 (by omega)
  .rcases jn.1 hy with hy|hy
   .obtain⟨g1,g2,g3,g4,g5,g6⟩:=dY y hy;exact⟨by omega,λt t1 t2=>⟨by rw[g2];exact h3 t (by omega) (by omega),by omega,by rw[g2];exact g6 t t1 t2⟩⟩
   .exact i2 y hy
  .by_cases aq:t<x.2.1
   .have hf:=h3 t t1 aq;rw[hf]at t3 t4;obtain⟨u,hu,u1,u2⟩:=(w3 t).2 ⟨⟨by omega,aq⟩,t4⟩;refine⟨(u.1,(u.2,x.2.2)),kj _ ?_,u1,u2⟩;unfold kY;rw[if_neg (by omega)];exact ju.2 ⟨u,hu,rfl⟩
   .obtain⟨y,hy,y1,y2⟩:=i3 t (by omega) t2 t3 t4;exact⟨y,kv _ hy,y1,y2⟩
end
def iQ:Nat->aS->SL->aS
 |n+1,s::a,u::b=>(if (if u.1>s.1 then u.1 else s.1)<(if u.2<s.2.1 then u.2 else s.2.1) then [((if u.1>s.1 then u.1 else s.1),((if u.2<s.2.1 then u.2 else s.2.1),s.2.2))] else [])++
  (if s.2.1<u.2 then iQ n a (u::b) else iQ n (s::a) b)
 |_,_,_=>[]
theorem NU:∀(n:Nat)(a:aS)(b:SL)(p q:Int),a.length+b.length<=n->fZ p a->bK q b->
  fZ p (iQ n a b)/\fZ q (iQ n a b)/\(∀x∈iQ n a b,∃s∈a,s.1<=x.1/\x.2.1<=s.2.1/\x.2.2=s.2.2/\∀t,x.1<=t->t<x.2.1->bz t b)/\(∀t,lV t a->bz t b->lV t (iQ n a b))/\(iQ n a b).length<=a.length+b.length
 |0,a,b,p,q,hn,_,_=>by
  obtain rfl:a=[]:=km.1 (by omega);exact⟨trivial,trivial,by simp[iQ],λt h=>absurd h NQ,by simp[iQ]⟩
 |n+1,[],b,p,q,_,_,_=>⟨trivial,trivial,by simp[iQ],λt h=>absurd h NQ,by simp[iQ]⟩
 |n+1,_::_,[],p,q,_,_,_=>⟨trivial,trivial,by simp[iQ],λt _ h=>absurd h gJ,by simp[iQ]⟩
 |n+1,s::a,u::b,p,q,hn,ha,hb=>by
  obtain⟨a1,a2,a3⟩:=ha;obtain⟨b1,b2,b3⟩:=hb;simp only[jk]at hn ⊢
  have hx:∃f t:Int,f=(if u.1>s.1 then u.1 else s.1)/\t=(if u.2<s.2.1 then u.2 else s.2.1)/\(∀x,(f<=x/\x<t)↔(s.1<=x/\x<s.2.1)/\(u.1<=x/\x<u.2))/\p<=f/\q<=f/\t<=s.2.1/\t<=u.2/\s.1<=f:=by
   refine⟨_,_,rfl,rfl,λx=>?_,?_,?_,?_,?_,?_⟩
   .constructor
    .intro h;split at h<;>split at h<;>omega
    .intro h;split<;>split<;>omega
   all_goals split<;>omega
  obtain⟨f,t,ef,et,hi,f1,f2,t1,t2,f3⟩:=hx;simp only[iQ,<-ef,<-et]
  have key:∀(a':aS)(b':SL)(r:aS),fZ t r->fZ p r->fZ q r->(∀x∈r,∃s'∈(s::a),s'.1<=x.1/\x.2.1<=s'.2.1/\x.2.2=s'.2.2/\∀y,x.1<=y->y<x.2.1->bz y (u::b))->(∀y,lV y a'->bz y b'->lV y r)->
    r.length<=a'.length+b'.length->a'.length+b'.length+1=a.length+1+(b.length+1)->(∀y,lV y (s::a)->bz y (u::b)->(f<=y/\y<t)\/(lV y a'/\bz y b'))->
    fZ p ((if f<t then [(f,(t,s.2.2))] else [])++r)/\fZ q ((if f<t then [(f,(t,s.2.2))] else [])++r)/\(∀x∈((if f<t then [(f,(t,s.2.2))] else [])++r),∃s'∈(s::a),s'.1<=x.1/\x.2.1<=s'.2.1/\x.2.2=s'.2.2/\∀y,x.1<=y->y<x.2.1->bz y (u::b))/\
     (∀y,lV y (s::a)->bz y (u::b)->lV y ((if f<t then [(f,(t,s.2.2))] else [])++r))/\((if f<t then [(f,(t,s.2.2))] else [])++r).length<=a.length+1+(b.length+1):=by
   intro a' b' r wL tR Nv G7 V9 hl wI qY;by_cases iy:f<t
   .rw[if_pos iy];refine⟨⟨f1,iy,wL⟩,⟨f2,iy,wL⟩,λx hx=>?_,λy y1 y2=>?_,by simp;omega⟩
    .rcases je.1 hx with rfl|hx
     .exact⟨s,by simp,f3,t1,rfl,λy y1 y2=>eY.2 (.inl ((hi y).1 ⟨y1,y2⟩).2)⟩
     .exact G7 x hx
    .rcases qY y y1 y2 with h|h
     .exact EB.2 (.inl h)
     .exact EB.2 (.inr (V9 y h.1 h.2))
   .rw[if_neg iy,jl];refine⟨tR,Nv,G7,λy y1 y2=>?_,by omega⟩;rcases qY y y1 y2 with h|h
    .omega
    .exact V9 y h.1 h.2
  by_cases hc:s.2.1<u.2
  .rw[if_pos hc];obtain⟨i1,i2,i3,i4,i5⟩:=NU n a (u::b) s.2.1 q (by simp;omega) a3 ⟨b1,b2,b3⟩;refine key a (u::b) _ (i1.weak t1) (i1.weak (by omega)) i2 (λx hx=>?_) i4 i5 (by simp;omega) (λy y1 y2=>?_)
   .obtain⟨s',dr,r⟩:=i3 x hx;exact⟨s',by simp[dr],r⟩
   .rcases EB.1 y1 with h|h
    .rcases eY.1 y2 with h'|h'
     .exact .inl ((hi y).2 ⟨h,h'⟩)
     .have:=bK.low b3 h';omega
    .exact .inr ⟨h,y2⟩
  .rw[if_neg hc];obtain⟨i1,i2,i3,i4,i5⟩:=NU n (s::a) b p u.2 (by simp;omega) ⟨a1,a2,a3⟩ b3;refine key (s::a) b _ (i2.weak t2) i1 (i2.weak (by omega)) (λx hx=>?_) i4 i5 (by simp;omega) (λy y1 y2=>?_)
   .obtain⟨s',dr,r1,r2,r3,r4⟩:=i3 x hx;exact⟨s',dr,r1,r2,r3,λy y1 y2=>eY.2 (.inr (r4 y y1 y2))⟩
   .rcases eY.1 y2 with h|h
    .rcases EB.1 y1 with h'|h'
     .exact .inl ((hi y).2 ⟨h',h⟩)
     .have:=fZ.low a3 h';omega
    .exact .inr ⟨y1,h⟩
theorem NV{A:aS}{B:SL}(hA:A.length<=10000000)(hB:B.length<=10000000):∀(n i k:Nat)(acc:aS),i<=A.length->k<=B.length->(A.length-i)+(B.length-k)=n->acc.length+n<=3000000->
  tE A B (i:Int) (k:Int) acc=some (acc++iQ n (A.drop i) (B.drop k))
 |n,i,k,acc,hi,hk,hn,eT=>by
  rw[jiS];simp only[j6I,show Int.ofNat (List.length A)=(A.length:Int) from rfl,show Int.ofNat (List.length B)=(B.length:Int) from rfl];by_cases dZ:i<A.length/\k<B.length
  .obtain⟨bF,bg⟩:=dZ;obtain⟨n,rfl⟩:∃m,n=m+1:=⟨n-1,by omega⟩;have gA:A.getD i ((0:Int),((0:Int),(0:Int)))=A[i]:=by simp[List.getD,bF]
   have gB:B.getD k ((0:Int),(0:Int))=B[k]:=by simp[List.getD,bg]
   rw[aj (show (i:Int)<(A.length:Int) by omega),aj (show (k:Int)<(B.length:Int) by omega),aX (show (0:Int)<=(i:Int) by omega) (by omega),aX (show (0:Int)<=(k:Int) by omega) (by omega)];simp only[j5,j7,gA,gB];rw[ai (x:=(i:Int)+1) (by omega) (by omega),ai (x:=(k:Int)+1) (by omega) (by omega)];rw[jc bF,jc bg];simp only[iQ];generalize (if B[k].1>A[i].1 then B[k].1 else A[i].1:Int)=f;generalize (if B[k].2<A[i].2.1 then B[k].2 else A[i].2.1:Int)=t
   have Es:∀aZ:aS,aZ.length<=acc.length+1->tE A B ((i:Int)+1) (k:Int) aZ=some (aZ++iQ n (A.drop (i+1)) (B[k]::B.drop (k+1))):=λaZ BZ=>by
    have:=NV hA hB n (i+1) k aZ (by omega) (by omega) (by omega) (by omega);rw[<-jc bg];exact this
   have Et:∀aZ:aS,aZ.length<=acc.length+1->tE A B (i:Int) ((k:Int)+1) aZ=some (aZ++iQ n (A[i]::A.drop (i+1)) (B.drop (k+1))):=λaZ BZ=>by
    have:=NV hA hB n i (k+1) aZ (by omega) (by omega) (by omega) (by omega);rw[<-jc bF];exact this
   by_cases iy:f<t
   .rw[aj iy,if_pos iy,aj (by simp[aR];omega)];simp only[j5];by_cases hc:A[i].2.1<B[k].2
    .rw[aj hc,if_pos hc];simp only[j5,aJ];rw[Es _ (by simp),jd]
    .rw[al hc,if_neg hc];simp only[j6,aJ];rw[Et _ (by simp),jd]
   .rw[al iy,if_neg iy];simp only[j6];by_cases hc:A[i].2.1<B[k].2
    .rw[aj hc,if_pos hc];simp only[j5,aJ];rw[Es _ (by omega),jl]
    .rw[al hc,if_neg hc];simp only[j6,aJ];rw[Et _ (by omega),jl]
  .have hc:cond (decide ((i:Int)<(A.length:Int))) (decide ((k:Int)<(B.length:Int))) false=false:=by
    by_cases h1:i<A.length
    .rw[aj (by omega),j5];exact al (by omega)
    .rw[al (by omega),j6]
   rw[hc,j6,aW]
   have:iQ n (A.drop i) (B.drop k)=[]:=by
    by_cases h1:i<A.length
    .rw[vr (show B.length<=k by omega)];cases n<;>cases A.drop i<;>rfl
    .rw[vr (show A.length<=i by omega)];cases n<;>rfl
   rw[this,ka]
theorem Wa{l:aS}(hl:l.length<=10000000):∀(n i:Nat)(acc:SL),i+n=l.length->acc.length<=i->ye l (l.length:Int) (i:Int) acc=some (acc++(l.drop i).map λx=>(x.1,x.2.1))
 |0,i,acc,hi,_=>by
  rw[SF];simp only[j5J];rw[al (by omega),j6,aW,jf (by omega)];simp
 |n+1,i,acc,hi,ha=>by
  have bF:i<l.length:=by omega
  have bh:l.getD i ((0:Int),((0:Int),(0:Int)))=l[i]:=by simp[List.getD,bF]
  rw[SF];simp only[j5J];rw[aj (by omega),aX (by omega) (by omega),ai (x:=(i:Int)+1) (by omega) (by omega)];simp only[j5,j7,bh];rw[aj (by simp[aR];omega),j5,aJ,jc bF,kr];have:=Wa hl n (i+1) (acc++[(l[i].1,l[i].2.1)]) (by omega) (by simp;omega);rw[jd]at this;exact this
theorem jxk{l:aS}(hl:l.length<=10000000){lo hi:Int}(h0:0<=lo)(h1:hi<=8589934592)(hb:∀x∈l,lo<=x.1/\x.1<x.2.1/\x.2.1<=hi) :
  ∃out,j8a l=some out/\bK (lo-1) out/\(∀t,bz t out↔lV t l)/\out.length<=l.length:=by
 have lp:=Wa hl l.length 0 [] (by omega) (by simp);rw[jl,jv]at lp
 have aP:∀s∈l.map (λx=>(x.1,x.2.1)),lo<=s.1/\s.1<s.2/\s.2<=hi:=λs h=>by
  obtain⟨x,hx,rfl⟩:=ju.1 h;exact hb x hx
 obtain⟨out,e,g1,g2,g3,g4⟩:=Bl (l:=l.map λx=>(x.1,x.2.1)) (by simpa using hl) (λs h=>by have:=aP s h;omega) (lo:=lo) (hi:=hi) (λs h _=>by have:=aP s h;omega);refine⟨out,?_,g1,λt=>(g2 t).trans ⟨?_,?_⟩,by simpa using g3⟩
 .simp only[j8a,show Int.ofNat l.length=(l.length:Int) from rfl];rw[show ye l (l.length:Int) 0 []=_ from lp];simp only[j3,e]
 .rintro⟨s,hs,h⟩
  obtain⟨x,hx,rfl⟩:=ju.1 hs;exact⟨x,hx,h⟩
 .rintro⟨x,hx,h⟩
  exact⟨_,ju.2 ⟨x,hx,rfl⟩,h⟩
end Go.Proofs.Pw
