/- stack.SegmentsOf: Xh is on call by zA in a range. -/
import Derived.Test.YtbpjdcbbmibehaaGreatLJPI
import Derived.Test.YtbpjdcbbmibehaaGreatLJPG
noncomputable section
open Go Go.Lft
namespace Go.Proofs.Pw
def dE(zs:List bP)(cs:List aO)(ls:List cb)(t:Int)(i:Nat):Int:=du zs cs (ls.getD i (ByteArray.empty,((0:Int),(((0:Int),(0:Int)),((0:Int),((0:Int),(([]:List Int),(([]:List (Int×Int)),((0:Int),(0:Int)))))))))) t
def oE(es:List eU)(p:Int):SL:=(es.filter λx=>x.1==0&&x.2.1==p).map λx=>(x.2.2.2.1,x.2.2.2.2)
theorem jza{es:List eU}{p t:Int}:bI t (oE es p)↔nU es p t=true:=by
 unfold bI oE nU;rw[qs];constructor
 .rintro⟨s,hs,h1,h2⟩
  obtain⟨x,hx,rfl⟩:=jn.1 hs;obtain⟨h3,h4⟩:=qx.1 hx;dsimp only at h1 h2;refine⟨x,h3,?_⟩;simp only[ja,jh]at h4 ⊢;exact⟨h4.1,h4.2,h1,h2⟩
 .rintro⟨x,hx,h⟩
  simp only[ja,jh]at h;exact⟨_,jn.2 ⟨x,qx.2 ⟨hx,by simp only[ja];exact⟨h.1,h.2.1⟩⟩,rfl⟩,h.2.2.1,h.2.2.2⟩
theorem PY{es:List eU}(hl:es.length<=1000){p:Int}:∀(n i:Nat)(acc:SL),i+n=es.length->acc.length<=i->Ec p es (es.length:Int) (i:Int) acc=some (acc++oE (es.drop i) p)
 |0,i,acc,hi,_=>by
  rw[U5];simp only[j3C];rw[ao (by omega),j6,aY,jd (by omega)];simp[oE]
 |n+1,i,acc,hi,ha=>by
  have bQ:i<es.length:=by omega
  have bk:es.getD i ((0:Int),((0:Int),((0:Int),((0:Int),(0:Int)))))=es[i]:=by simp[List.getD,bQ]
  rw[U5];simp only[j3C];rw[ag (by omega),ba (by omega) (by omega),aj (x:=(i:Int)+1) (by omega) (by omega)];simp only[j5,j7,bk];have hc:cond (es[i].1==(0:Int)) (es[i].2.1==p) false=(es[i].1==0&&es[i].2.1==p):=by cases es[i].1==(0:Int)<;>rfl
  rw[hc,jb bQ];cases hx:(es[i].1==0&&es[i].2.1==p) with
  |true=>
   rw[j5,ag (by simp[aQ];omega),j5,aP];have:=PY hl (p:=p) n (i+1) (acc++[(es[i].2.2.2.1,es[i].2.2.2.2)]) (by omega) (by simp;omega);have e:oE (es[i]::es.drop (i+1)) p=(es[i].2.2.2.1,es[i].2.2.2.2)::oE (es.drop (i+1)) p:=by simp only[oE,List.filter_cons,hx,if_true,jz]
   rw[e];rw[jg]at this;exact this
  |false=>
   rw[j6,aP];have:=PY hl (p:=p) n (i+1) acc (by omega) (by omega);have e:oE (es[i]::es.drop (i+1)) p=oE (es.drop (i+1)) p:=by unfold oE;rw[List.filter_cons_of_neg (by simp only[hx];simp)]
   rw[e];exact this
theorem jul{es:List eU}{np:Nat}(hE:∀x∈es,pt np x)(hl:es.length<=48)(nm:ByteArray)(ls:List cb)(p:Int) :
  ∃out,j6h (nm,(ls,es)) p=some out/\bX (-1) out/\(∀t,bI t out↔nU es p t=true)/\out.length<=es.length:=by
 have lp:=PY (es:=es) (by omega) (p:=p) es.length 0 [] (by omega) (by simp);rw[js,k5]at lp;have fC:(oE es p).length<=es.length:=by unfold oE;rw[ka];exact List.length_filter_le _ _
 have hb:∀s∈oE es p,0<=s.1/\s.1<s.2/\s.2<=1000000000000:=λs h=>by
  obtain⟨x,hx,rfl⟩:=jn.1 h;have:=hE x (qx.1 hx).1;exact⟨this.f0,this.ft,this.t1⟩
 obtain⟨out,e,h1,h2,h3,h4⟩:=Fl (l:=oE es p) (by omega) (λs h=>by have:=hb s h;omega) (lo:=0) (hi:=1000000000000) (λs h _=>by have:=hb s h;omega);refine⟨out,?_,h1,λt=>(h2 t).trans jza,by omega⟩;simp only[j6h,show Int.ofNat es.length=(es.length:Int) from rfl];rw[show Ec p es (es.length:Int) 0 []=_ from lp];simp only[j3,e]
theorem Fw{β:Type}(l:List (Int×β))(k:Int)(v:β)(j:Int):dN (dO l k v) j=(j==k||dN l j):=by
 induction l with
 |nil=>simp[dO,dN]
 |cons x r ih=>
  simp only[dO];by_cases h:k=x.1
  .rw[ff h,j5];simp only[dN,List.any_cons];rw[<-h];cases j==k<;>simp
  .rw[cP h,j6];have:dN (x::dO r k v) j=(j==x.1||dN (dO r k v) j):=rfl;rw[this,ih];have:dN (x::r) j=(j==x.1||dN r j):=rfl;rw[this];cases j==x.1<;>cases j==k<;>simp
theorem ID{β:Type}(d:β)(l:List (Int×β))(k:Int)(v:β)(j:Int):cR d (dO l k v) j=cond (j==k) v (cR d l j):=by
 induction l with
 |nil=>rfl
 |cons x r ih=>
  simp only[dO];by_cases h:k=x.1
  .rw[ff h,j5];show cond (j==k) v (cR d r j)=cond (j==k) v (cond (j==x.1) x.2 (cR d r j));rw[<-h];cases j==k<;>rfl
  .rw[cP h,j6];show cond (j==x.1) x.2 (cR d (dO r k v) j)=cond (j==k) v (cond (j==x.1) x.2 (cR d r j));rw[ih];by_cases hj:j=x.1
   .rw[ff hj,j5,cP (show¬j=k by omega)];rfl
   .rw[cP hj];rfl
def gK(p:Int):bF->Prop
 |[]=>True
 |x::r=>p<=x.1/\x.1<x.2.1/\gK x.2.1 r
def mQ(t:Int)(l:bF):Prop:=∃x∈l,x.1<=t/\t<x.2.1
theorem Fx{t:Int}{s:jP}{l:bF}:mQ t (s::l)↔(s.1<=t/\t<s.2.1)\/mQ t l:=by
 constructor
 .rintro⟨u,hu,h⟩
  rcases jc.1 hu with rfl|hu
  .exact .inl h
  .exact .inr ⟨u,hu,h⟩
 .rintro (h|⟨u,hu,h⟩)
  .exact⟨s,by simp,h⟩
  .exact⟨u,by simp[hu],h⟩
theorem PZ{t:Int}:¬mQ t []:=by rintro⟨s,hs,_⟩;simp at hs
theorem gK.weak{p q:Int}(hq:q<=p):∀{l:bF},gK p l->gK q l
 |[],_=>trivial
 |_::_,h=>⟨by have:=h.1;omega,h.2⟩
theorem gK.low{p t:Int}:∀{l:bF},gK p l->mQ t l->p<=t
 |[],_,h=>absurd h PZ
 |s::r,h,hx=>by
  rcases Fx.1 hx with hx|hx
  .have:=h.1;omega
  .have:=gK.low h.2.2 hx;have:=h.1;have:=h.2.1;omega
theorem gK.app{e:Int}{r:bF}(hr:gK e r):∀{l:bF}{p:Int},gK p l->p<=e->(∀x∈l,x.2.1<=e)->gK p (l++r)
 |[],_,_,hp,_=>hr.weak hp
 |x::l,p,h,_,hl=>⟨h.1,h.2.1,hr.app h.2.2 (hl x (by simp)) (λy hy=>hl y (by simp[hy]))⟩
theorem gK.apart{p:Int}:∀{l:bF},gK p l->l.Pairwise (λx y=>x.2.1<=y.1)/\∀x∈l,p<=x.1
 |[],_=>⟨List.Pairwise.nil,by simp⟩
 |x::l,h=>by
  obtain⟨h1,h2⟩:=gK.apart h.2.2
  exact⟨kx.2 ⟨h2,h1⟩,λy hy=>by
   rcases jc.1 hy with rfl|hy
   .exact h.1
   .have:=h2 y hy;have:=h.1;have:=h.2.1;omega⟩
def qA(s:dD)(p:Int):SL:=(j6h s p).getD []
def qB(s:dD)(x:jP):SL:=(j2G [(x.1,x.2.1)] (qA s x.2.2)).getD []
def mu(s:dD)(x:jP):bF:=if x.2.2<0 then [] else (qB s x).map λu=>(u.1,(u.2,x.2.2))
section
variable{nm:ByteArray}{ls:List cb}{es:List eU}{np:Nat}(hE:∀x∈es,pt np x)(hl:es.length<=48)
include hE hl
theorem X6(p:Int):j6h (nm,(ls,es)) p=some (qA (nm,(ls,es)) p)/\bX (-1) (qA (nm,(ls,es)) p)/\(∀t,bI t (qA (nm,(ls,es)) p)↔nU es p t=true)/\(qA (nm,(ls,es)) p).length<=es.length:=by
 obtain⟨out,e,h⟩:=jul hE hl nm ls p;have:qA (nm,(ls,es)) p=out:=by simp[qA,e]
 rw[this];exact⟨e,h⟩
theorem P0{x:jP}(hx:x.1<x.2.1):j2G [(x.1,x.2.1)] (qA (nm,(ls,es)) x.2.2)=some (qB (nm,(ls,es)) x)/\bX (x.1-1) (qB (nm,(ls,es)) x)/\
  (∀t,bI t (qB (nm,(ls,es)) x)↔(x.1<=t/\t<x.2.1)/\nU es x.2.2 t=false)/\(qB (nm,(ls,es)) x).length<=1+es.length:=by
 obtain⟨_,l1,l2,l3⟩:=X6 (nm:=nm) (ls:=ls) hE hl x.2.2;obtain⟨out,e,h1,h2,h3⟩:=PK (B:=qA (nm,(ls,es)) x.2.2) (by omega) (A:=[(x.1,x.2.1)]) (p:=x.1-1) ⟨by dsimp only;omega,hx,trivial⟩ l1 (by simp);have:qB (nm,(ls,es)) x=out:=by simp[qB,e]
 rw[this];refine⟨e,h1,λt=>?_,by rw[kn]at h3;omega⟩;rw[h2 t,l2 t,fA];constructor
 .rintro⟨h|h,h'⟩
  .exact⟨h,by simpa using h'⟩
  .exact absurd h im
 .rintro⟨h,h'⟩
  exact⟨.inl h,by simp[h']⟩
omit hE hl in
theorem X7{S:bF}{m j f e p:Int}{mp:List (Int×SL)}{W:SL}(hW:W.length<=1000):∀(n i:Nat)(acc:bF),i+n=W.length->acc.length+n<=1000000000->
  yH S m j (W.length:Int) (i:Int) nm ls es f e p mp acc W=some (S,m,j,nm,ls,es,mp,acc++(W.drop i).map λu=>(u.1,(u.2,p)))
 |0,i,acc,hi,_=>by
  rw[U6];simp only[j37];rw[ao (by omega),j6,aY,jd (by omega)];simp
 |n+1,i,acc,hi,ha=>by
  have bQ:i<W.length:=by omega
  have bk:W.getD i ((0:Int),(0:Int))=W[i]:=by simp[List.getD,bQ]
  rw[U6];simp only[j37];rw[ag (by omega),ba (by omega) (by omega),aj (x:=(i:Int)+1) (by omega) (by omega)];simp only[j5,j7,bk];rw[ag (by simp[aQ];omega),j5,aP,jb bQ,jz];have:=X7 (S:=S) (m:=m) (j:=j) (f:=f) (e:=e) (p:=p) (mp:=mp) hW n (i+1) (acc++[(W[i].1,(W[i].2,p))]) (by omega) (by simp;omega);rw[jg]at this;exact this
theorem P1{S:bF}(hS:S.length<=100000)(bB:∀x∈S,x.1<x.2.1):∀(n i:Nat)(mp:List (Int×SL))(acc:bF),i+n=S.length->(∀p,dN mp p=true->cR [] mp p=qA (nm,(ls,es)) p)->acc.length<=49*i->
  Bg S (S.length:Int) (i:Int) nm ls es mp acc=some (acc++(S.drop i).flatMap (mu (nm,(ls,es))))
 |0,i,mp,acc,hi,_,_=>by
  rw[U7];simp only[j38];rw[ao (by omega),j6,aY,jd (by omega)];simp
 |n+1,i,mp,acc,hi,hm,ha=>by
  have bQ:i<S.length:=by omega
  have bk:S.getD i ((0:Int),((0:Int),(0:Int)))=S[i]:=by simp[List.getD,bQ]
  have hp:=bB _ (ji bQ);rw[U7];simp only[j38];rw[ag (show (i:Int)<(S.length:Int) by omega),ba (by omega) (by omega)];simp only[j5,j7,bk];rw[jb bQ,zk];by_cases gl:S[i].2.2<0
  .rw[ag gl,j5,aj (x:=(i:Int)+1) (by omega) (by omega),aP];have e:mu (nm,(ls,es)) S[i]=[]:=if_pos gl;rw[e,js];exact P1 hS bB n (i+1) mp acc (by omega) hm (by omega)
  .have e:mu (nm,(ls,es)) S[i]=(qB (nm,(ls,es)) S[i]).map λu=>(u.1,(u.2,S[i].2.2)):=if_neg gl;obtain⟨w1,_,_,w4⟩:=P0 (nm:=nm) (ls:=ls) hE hl hp;rw[ao gl,j6]
   have fin:∀uJ:List (Int×SL),(∀p,dN uJ p=true->cR [] uJ p=qA (nm,(ls,es)) p)->cR [] uJ S[i].2.2=qA (nm,(ls,es)) S[i].2.2->
     lpK ((j2G [(S[i].1,S[i].2.1)] (cR [] uJ S[i].2.2)).bind λX8=>
      (yH S (S.length:Int) (i:Int) (Int.ofNat X8.length) 0 nm ls es S[i].1 S[i].2.1 S[i].2.2 uJ acc X8).bind λq2=>
       (some (Sum.inl (q2.1,q2.2.1,w64 (q2.2.2.1+1),q2.2.2.2.1,q2.2.2.2.2.1,q2.2.2.2.2.2.1,q2.2.2.2.2.2.2.1,q2.2.2.2.2.2.2.2)):Option ((bF×Int×Int×ByteArray×List cb×List eU×List (Int×SL)×bF) ⊕ bF)))
      (λh=>Bg h.1 h.2.1 h.2.2.1 h.2.2.2.1 h.2.2.2.2.1 h.2.2.2.2.2.1 h.2.2.2.2.2.2.1 h.2.2.2.2.2.2.2)=some (acc++(mu (nm,(ls,es)) S[i]++(S.drop (i+1)).flatMap (mu (nm,(ls,es))))):=λuJ gY hg=>by
    have l2:=X7 (nm:=nm) (ls:=ls) (es:=es) (S:=S) (m:=(S.length:Int)) (j:=(i:Int)) (f:=S[i].1) (e:=S[i].2.1) (p:=S[i].2.2) (mp:=uJ) (W:=qB (nm,(ls,es)) S[i]) (by omega) (qB (nm,(ls,es)) S[i]).length 0 acc (by omega) (by omega);rw[hg,w1];simp only[j3];rw[show yH S (S.length:Int) (i:Int) (Int.ofNat (qB (nm,(ls,es)) S[i]).length) 0 nm ls es S[i].1 S[i].2.1 S[i].2.2 uJ acc (qB (nm,(ls,es)) S[i])=_ from l2];simp only[j3,k5];rw[aj (x:=(i:Int)+1) (by omega) (by omega),aP,<-e,<-jg];exact P1 hS bB n (i+1) uJ _ (by omega) gY (by rw[jf,e,ka];omega)
   cases hh:dN mp S[i].2.2 with
   |true=>simp only[jw,j6];exact fin mp hm (hm _ hh)
   |false=>
    simp only[kf,j5];rw[show j6h (nm,(ls,es)) S[i].2.2=_ from (X6 (nm:=nm) (ls:=ls) hE hl S[i].2.2).1];simp only[j3];refine fin _ (λp xf=>?_) ?_
    .rw[ID];by_cases pz:p=S[i].2.2
     .rw[ff pz,j5,pz]
     .rw[Fw,cP pz,ze]at xf;rw[cP pz,j6];exact hm p xf
    .rw[ID];simp
theorem jrT{S:bF}(hS:S.length<=100000)(bB:∀x∈S,x.1<x.2.1):j86 (nm,(ls,es)) S=some (S.flatMap (mu (nm,(ls,es)))):=by
 simp only[j86,show Int.ofNat S.length=(S.length:Int) from rfl];rw[show Bg S (S.length:Int) 0 nm ls es [] []=_ from P1 hE hl hS bB S.length 0 [] [] (by omega) (λp h=>by simp[dN]at h) (by simp)];rfl
theorem jxN{x:jP}(hx:x.1<x.2.1):(mu (nm,(ls,es)) x).length<=1+es.length:=by
 unfold mu;split
 .simp
 .rw[ka];exact(P0 (nm:=nm) (ls:=ls) hE hl hx).2.2.2
theorem X9:∀{S:bF},(∀x∈S,x.1<x.2.1)->(S.flatMap (mu (nm,(ls,es)))).length<=S.length*(1+es.length)
 |[],_=>by simp
 |x::S,h=>by
  have h1:=jxN (nm:=nm) (ls:=ls) hE hl (h x (by simp));have h2:=X9 (S:=S) (λy hy=>h y (by simp[hy]));rw[zk,jf,jl,Nat.add_mul];omega
theorem Ya{p:Int}{c e:Int}:∀{W:SL}{q:Int},bX q W->(∀u∈W,u.2<=e)->gK (q+1) (W.map λu=>(u.1,(u.2,c)))/\(p<=q+1->gK p (W.map λu=>(u.1,(u.2,c))))
 |[],_,_,_=>⟨trivial,λ_=>trivial⟩
 |u::W,q,h,hb=>by
  have _:=hE;have _:=hl;have h3:=(Ya (p:=u.2) (c:=c) (e:=e) (W:=W) h.2.2 (λv hv=>hb v (by simp[hv]))).2 (by omega);exact⟨⟨by have:=h.1;dsimp only;omega,h.2.1,h3⟩,λhp=>⟨by have:=h.1;dsimp only;omega,h.2.1,h3⟩⟩
theorem Yb{f:Int->Int}{b:Int}:∀{S:bF}{a:Int},Ch f b a S->(∀x∈S,x.1<x.2.1)->
  gK a (S.flatMap (mu (nm,(ls,es))))/\(∀x∈S.flatMap (mu (nm,(ls,es))),x.2.1<=b/\∀t,x.1<=t->t<x.2.1->f t=x.2.2/\0<=x.2.2/\nU es x.2.2 t=false)/\
   ∀t,a<=t->t<b->0<=f t->nU es (f t) t=false->mQ t (S.flatMap (mu (nm,(ls,es))))
 |[],a,h,_=>⟨trivial,by simp,λt h1 h2=>by have h:a=b:=h;omega⟩
 |x::S,a,h,bB=>by
  obtain⟨h1,h2,h3,h4⟩:=h;have hx:=bB x (by simp);obtain⟨i1,i2,i3⟩:=Yb (f:=f) (b:=b) h4 (λy hy=>bB y (by simp[hy]));have hle:=h4.le;obtain⟨_,w2,w3,_⟩:=P0 (nm:=nm) (ls:=ls) hE hl hx
  have eb:∀y∈mu (nm,(ls,es)) x,0<=x.2.2/\y.2.2=x.2.2/\y.1<y.2.1/\x.1<=y.1/\y.2.1<=x.2.1/\∀t,y.1<=t->t<y.2.1->nU es x.2.2 t=false:=λy hy=>by
   unfold mu at hy;split at hy
   .simp at hy
   .obtain⟨u,hu,rfl⟩:=jn.1 hy;have hm:=bX.mem w2 u hu;have e1:=(w3 (u.2-1)).1 ⟨u,hu,by omega,by omega⟩;exact⟨by omega,rfl,hm.2,by dsimp only;omega,by dsimp only;omega,λt t1 t2=>((w3 t).1 ⟨u,hu,t1,t2⟩).2⟩
  rw[zk];refine⟨?_,λy hy=>?_,λt t1 t2 t3 t4=>?_⟩
  .refine gK.app i1 ?_ h2 (λy hy=>(eb y hy).2.2.2.2.1);unfold mu;split
   .trivial
   .exact(Ya hE hl (p:=a) (c:=x.2.2) (e:=x.2.1) w2 (λu hu=>by
     have hm:=bX.mem w2 u hu;have e1:=(w3 (u.2-1)).1 ⟨u,hu,by omega,by omega⟩;omega)).2 (by omega)
  .rcases jm.1 hy with hy|hy
   .obtain⟨g1,g2,g3,g4,g5,g6⟩:=eb y hy;exact⟨by omega,λt t1 t2=>⟨by rw[g2];exact h3 t (by omega) (by omega),by omega,by rw[g2];exact g6 t t1 t2⟩⟩
   .exact i2 y hy
  .by_cases ak:t<x.2.1
   .have hf:=h3 t t1 ak;rw[hf]at t3 t4;obtain⟨u,hu,u1,u2⟩:=(w3 t).2 ⟨⟨by omega,ak⟩,t4⟩;refine⟨(u.1,(u.2,x.2.2)),kb _ ?_,u1,u2⟩;unfold mu;rw[if_neg (by omega)];exact jn.2 ⟨u,hu,rfl⟩
   .obtain⟨y,hy,y1,y2⟩:=i3 t (by omega) t2 t3 t4;exact⟨y,kg _ hy,y1,y2⟩
end
def kG:Nat->bF->SL->bF
 |n+1,s::a,u::b=>(if (if u.1>s.1 then u.1 else s.1)<(if u.2<s.2.1 then u.2 else s.2.1) then [((if u.1>s.1 then u.1 else s.1),((if u.2<s.2.1 then u.2 else s.2.1),s.2.2))] else [])++
  (if s.2.1<u.2 then kG n a (u::b) else kG n (s::a) b)
 |_,_,_=>[]
theorem P2:∀(n:Nat)(a:bF)(b:SL)(p q:Int),a.length+b.length<=n->gK p a->bX q b->
  gK p (kG n a b)/\gK q (kG n a b)/\(∀x∈kG n a b,∃s∈a,s.1<=x.1/\x.2.1<=s.2.1/\x.2.2=s.2.2/\∀t,x.1<=t->t<x.2.1->bI t b)/\(∀t,mQ t a->bI t b->mQ t (kG n a b))/\(kG n a b).length<=a.length+b.length
 |0,a,b,p,q,hn,_,_=>by
  obtain rfl:a=[]:=zj.1 (by omega);exact⟨trivial,trivial,by simp[kG],λt h=>absurd h PZ,by simp[kG]⟩
 |n+1,[],b,p,q,_,_,_=>⟨trivial,trivial,by simp[kG],λt h=>absurd h PZ,by simp[kG]⟩
 |n+1,_::_,[],p,q,_,_,_=>⟨trivial,trivial,by simp[kG],λt _ h=>absurd h im,by simp[kG]⟩
 |n+1,s::a,u::b,p,q,hn,ha,hb=>by
  obtain⟨a1,a2,a3⟩:=ha;obtain⟨b1,b2,b3⟩:=hb;simp only[jl]at hn ⊢
  have hx:∃f t:Int,f=(if u.1>s.1 then u.1 else s.1)/\t=(if u.2<s.2.1 then u.2 else s.2.1)/\(∀x,(f<=x/\x<t)↔(s.1<=x/\x<s.2.1)/\(u.1<=x/\x<u.2))/\p<=f/\q<=f/\t<=s.2.1/\t<=u.2/\s.1<=f:=by
   refine⟨_,_,rfl,rfl,λx=>?_,?_,?_,?_,?_,?_⟩
   .constructor
    .intro h;split at h<;>split at h<;>omega
    .intro h;split<;>split<;>omega
   all_goals split<;>omega
  obtain⟨f,t,ef,et,hi,f1,f2,t1,t2,f3⟩:=hx;simp only[kG,<-ef,<-et]
  have key:∀(a':bF)(b':SL)(r:bF),gK t r->gK p r->gK q r->(∀x∈r,∃s'∈(s::a),s'.1<=x.1/\x.2.1<=s'.2.1/\x.2.2=s'.2.2/\∀y,x.1<=y->y<x.2.1->bI y (u::b))->(∀y,mQ y a'->bI y b'->mQ y r)->
    r.length<=a'.length+b'.length->a'.length+b'.length+1=a.length+1+(b.length+1)->(∀y,mQ y (s::a)->bI y (u::b)->(f<=y/\y<t)\/(mQ y a'/\bI y b'))->
    gK p ((if f<t then [(f,(t,s.2.2))] else [])++r)/\gK q ((if f<t then [(f,(t,s.2.2))] else [])++r)/\(∀x∈((if f<t then [(f,(t,s.2.2))] else [])++r),∃s'∈(s::a),s'.1<=x.1/\x.2.1<=s'.2.1/\x.2.2=s'.2.2/\∀y,x.1<=y->y<x.2.1->bI y (u::b))/\
     (∀y,mQ y (s::a)->bI y (u::b)->mQ y ((if f<t then [(f,(t,s.2.2))] else [])++r))/\((if f<t then [(f,(t,s.2.2))] else [])++r).length<=a.length+1+(b.length+1):=by
   intro a' b' r xk Iy PI Iz Yc hl sq sa;by_cases jM:f<t
   .rw[if_pos jM];refine⟨⟨f1,jM,xk⟩,⟨f2,jM,xk⟩,λx hx=>?_,λy y1 y2=>?_,by simp;omega⟩
    .rcases jc.1 hx with rfl|hx
     .exact⟨s,by simp,f3,t1,rfl,λy y1 y2=>fA.2 (.inl ((hi y).1 ⟨y1,y2⟩).2)⟩
     .exact Iz x hx
    .rcases sa y y1 y2 with h|h
     .exact Fx.2 (.inl h)
     .exact Fx.2 (.inr (Yc y h.1 h.2))
   .rw[if_neg jM,js];refine⟨Iy,PI,Iz,λy y1 y2=>?_,by omega⟩;rcases sa y y1 y2 with h|h
    .omega
    .exact Yc y h.1 h.2
  by_cases hc:s.2.1<u.2
  .rw[if_pos hc];obtain⟨i1,i2,i3,i4,i5⟩:=P2 n a (u::b) s.2.1 q (by simp;omega) a3 ⟨b1,b2,b3⟩;refine key a (u::b) _ (i1.weak t1) (i1.weak (by omega)) i2 (λx hx=>?_) i4 i5 (by simp;omega) (λy y1 y2=>?_)
   .obtain⟨s',dP,r⟩:=i3 x hx;exact⟨s',by simp[dP],r⟩
   .rcases Fx.1 y1 with h|h
    .rcases fA.1 y2 with h'|h'
     .exact .inl ((hi y).2 ⟨h,h'⟩)
     .have:=bX.low b3 h';omega
    .exact .inr ⟨h,y2⟩
  .rw[if_neg hc];obtain⟨i1,i2,i3,i4,i5⟩:=P2 n (s::a) b p u.2 (by simp;omega) ⟨a1,a2,a3⟩ b3;refine key (s::a) b _ (i2.weak t2) i1 (i2.weak (by omega)) (λx hx=>?_) i4 i5 (by simp;omega) (λy y1 y2=>?_)
   .obtain⟨s',dP,r1,r2,r3,r4⟩:=i3 x hx;exact⟨s',dP,r1,r2,r3,λy y1 y2=>fA.2 (.inr (r4 y y1 y2))⟩
   .rcases fA.1 y2 with h|h
    .rcases Fx.1 y1 with h'|h'
     .exact .inl ((hi y).2 ⟨h',h⟩)
     .have:=gK.low a3 h';omega
    .exact .inr ⟨y1,h⟩
theorem P3{A:bF}{B:SL}(hA:A.length<=10000000)(hB:B.length<=10000000):∀(n i k:Nat)(acc:bF),i<=A.length->k<=B.length->(A.length-i)+(B.length-k)=n->acc.length+n<=3000000->
  yI A B (i:Int) (k:Int) acc=some (acc++kG n (A.drop i) (B.drop k))
 |n,i,k,acc,hi,hk,hn,eI=>by
  rw[jgf];simp only[j4S,show Int.ofNat (List.length A)=(A.length:Int) from rfl,show Int.ofNat (List.length B)=(B.length:Int) from rfl];by_cases gf:i<A.length/\k<B.length
  .obtain⟨bQ,bc⟩:=gf;obtain⟨n,rfl⟩:∃m,n=m+1:=⟨n-1,by omega⟩;have gA:A.getD i ((0:Int),((0:Int),(0:Int)))=A[i]:=by simp[List.getD,bQ]
   have gB:B.getD k ((0:Int),(0:Int))=B[k]:=by simp[List.getD,bc]
   rw[ag (show (i:Int)<(A.length:Int) by omega),ag (show (k:Int)<(B.length:Int) by omega),ba (show (0:Int)<=(i:Int) by omega) (by omega),ba (show (0:Int)<=(k:Int) by omega) (by omega)];simp only[j5,j7,gA,gB];rw[aj (x:=(i:Int)+1) (by omega) (by omega),aj (x:=(k:Int)+1) (by omega) (by omega)];rw[jb bQ,jb bc];simp only[kG];generalize (if B[k].1>A[i].1 then B[k].1 else A[i].1:Int)=f;generalize (if B[k].2<A[i].2.1 then B[k].2 else A[i].2.1:Int)=t
   have Fo:∀bG:bF,bG.length<=acc.length+1->yI A B ((i:Int)+1) (k:Int) bG=some (bG++kG n (A.drop (i+1)) (B[k]::B.drop (k+1))):=λbG B5=>by
    have:=P3 hA hB n (i+1) k bG (by omega) (by omega) (by omega) (by omega);rw[<-jb bc];exact this
   have Fp:∀bG:bF,bG.length<=acc.length+1->yI A B (i:Int) ((k:Int)+1) bG=some (bG++kG n (A[i]::A.drop (i+1)) (B.drop (k+1))):=λbG B5=>by
    have:=P3 hA hB n i (k+1) bG (by omega) (by omega) (by omega) (by omega);rw[<-jb bQ];exact this
   by_cases jM:f<t
   .rw[ag jM,if_pos jM,ag (by simp[aQ];omega)];simp only[j5];by_cases hc:A[i].2.1<B[k].2
    .rw[ag hc,if_pos hc];simp only[j5,aP];rw[Fo _ (by simp),jg]
    .rw[ao hc,if_neg hc];simp only[j6,aP];rw[Fp _ (by simp),jg]
   .rw[ao jM,if_neg jM];simp only[j6];by_cases hc:A[i].2.1<B[k].2
    .rw[ag hc,if_pos hc];simp only[j5,aP];rw[Fo _ (by omega),js]
    .rw[ao hc,if_neg hc];simp only[j6,aP];rw[Fp _ (by omega),js]
  .have hc:cond (decide ((i:Int)<(A.length:Int))) (decide ((k:Int)<(B.length:Int))) false=false:=by
    by_cases h1:i<A.length
    .rw[ag (by omega),j5];exact ao (by omega)
    .rw[ao (by omega),j6]
   rw[hc,j6,aY]
   have:kG n (A.drop i) (B.drop k)=[]:=by
    by_cases h1:i<A.length
    .rw[yi (show B.length<=k by omega)];cases n<;>cases A.drop i<;>rfl
    .rw[yi (show A.length<=i by omega)];cases n<;>rfl
   rw[this,qj]
theorem Yd{l:bF}(hl:l.length<=10000000):∀(n i:Nat)(acc:SL),i+n=l.length->acc.length<=i->Ed l (l.length:Int) (i:Int) acc=some (acc++(l.drop i).map λx=>(x.1,x.2.1))
 |0,i,acc,hi,_=>by
  rw[U8];simp only[j43];rw[ao (by omega),j6,aY,jd (by omega)];simp
 |n+1,i,acc,hi,ha=>by
  have bQ:i<l.length:=by omega
  have bk:l.getD i ((0:Int),((0:Int),(0:Int)))=l[i]:=by simp[List.getD,bQ]
  rw[U8];simp only[j43];rw[ag (by omega),ba (by omega) (by omega),aj (x:=(i:Int)+1) (by omega) (by omega)];simp only[j5,j7,bk];rw[ag (by simp[aQ];omega),j5,aP,jb bQ,jz];have:=Yd hl n (i+1) (acc++[(l[i].1,l[i].2.1)]) (by omega) (by simp;omega);rw[jg]at this;exact this
theorem jvR{l:bF}(hl:l.length<=10000000){lo hi:Int}(h0:0<=lo)(h1:hi<=8589934592)(hb:∀x∈l,lo<=x.1/\x.1<x.2.1/\x.2.1<=hi) :
  ∃out,jaB l=some out/\bX (lo-1) out/\(∀t,bI t out↔mQ t l)/\out.length<=l.length:=by
 have lp:=Yd hl l.length 0 [] (by omega) (by simp);rw[js,k5]at lp
 have ax:∀s∈l.map (λx=>(x.1,x.2.1)),lo<=s.1/\s.1<s.2/\s.2<=hi:=λs h=>by
  obtain⟨x,hx,rfl⟩:=jn.1 h;exact hb x hx
 obtain⟨out,e,g1,g2,g3,g4⟩:=Fl (l:=l.map λx=>(x.1,x.2.1)) (by simpa using hl) (λs h=>by have:=ax s h;omega) (lo:=lo) (hi:=hi) (λs h _=>by have:=ax s h;omega);refine⟨out,?_,g1,λt=>(g2 t).trans ⟨?_,?_⟩,by simpa using g3⟩
 .simp only[jaB,show Int.ofNat l.length=(l.length:Int) from rfl];rw[show Ed l (l.length:Int) 0 []=_ from lp];simp only[j3,e]
 .rintro⟨s,hs,h⟩
  obtain⟨x,hx,rfl⟩:=jn.1 hs;exact⟨x,hx,h⟩
 .rintro⟨x,hx,h⟩
  exact⟨_,jn.2 ⟨x,hx,rfl⟩,h⟩
section
variable{zs:List bP}{ps:List dm}{cs:List aO}(hs:cQ zs ps cs)
include hs
end
end Go.Proofs.Pw
