/- stack.SegmentsOf: UF is on call by xg in a range. -/
import Derived.Test.YtpbnnhakjhalaaaGreatLWPI
import Derived.Test.YtpbnnhakjhalaaaGreatLWPG
noncomputable section
open Go Go.Lft
namespace Go.Proofs.Pw
def dh(zs:List bI)(cs:List aW)(ls:List bM)(t:Int)(i:Nat):Int:=db zs cs (ls.getD i (ByteArray.empty,((0:Int),(((0:Int),(0:Int)),((0:Int),((0:Int),(([]:List Int),(([]:List (Int×Int)),((0:Int),(0:Int)))))))))) t
def nj(es:List cR)(p:Int):SL:=(es.filter λx=>x.1==0&&x.2.1==p).map λx=>(x.2.2.2.1,x.2.2.2.2)
theorem jzc{es:List cR}{p t:Int}:bJ t (nj es p)↔lW es p t=true:=by
 unfold bJ nj lW;rw[qq];constructor
 .rintro⟨s,hs,h1,h2⟩
  obtain⟨x,hx,rfl⟩:=jx.1 hs;obtain⟨h3,h4⟩:=vq.1 hx;dsimp only at h1 h2;refine⟨x,h3,?_⟩;simp only[ja,jk]at h4 ⊢;exact⟨h4.1,h4.2,h1,h2⟩
 .rintro⟨x,hx,h⟩
  simp only[ja,jk]at h;exact⟨_,jx.2 ⟨x,vq.2 ⟨hx,by simp only[ja];exact⟨h.1,h.2.1⟩⟩,rfl⟩,h.2.2.1,h.2.2.2⟩
theorem NR{es:List cR}(hl:es.length<=1000){p:Int}:∀(n i:Nat)(acc:SL),i+n=es.length->acc.length<=i->Cs p es (es.length:Int) (i:Int) acc=some (acc++nj (es.drop i) p)
 |0,i,acc,hi,_=>by
  rw[SK];simp only[j3q];rw[aj (by omega),j6,aY,jc (by omega)];simp[nj]
 |n+1,i,acc,hi,ha=>by
  have aX:i<es.length:=by omega
  have bh:es.getD i ((0:Int),((0:Int),((0:Int),((0:Int),(0:Int)))))=es[i]:=by simp[List.getD,aX]
  rw[SK];simp only[j3q];rw[ag (by omega),aZ (by omega) (by omega),ah (x:=(i:Int)+1) (by omega) (by omega)];simp only[j5,j7,bh];have hc:cond (es[i].1==(0:Int)) (es[i].2.1==p) false=(es[i].1==0&&es[i].2.1==p):=by cases es[i].1==(0:Int)<;>rfl
  rw[hc,jb aX];cases hx:(es[i].1==0&&es[i].2.1==p) with
  |true=>
   rw[j5,ag (by simp[aP];omega),j5,aQ];have:=NR hl (p:=p) n (i+1) (acc++[(es[i].2.2.2.1,es[i].2.2.2.2)]) (by omega) (by simp;omega);have e:nj (es[i]::es.drop (i+1)) p=(es[i].2.2.2.1,es[i].2.2.2.2)::nj (es.drop (i+1)) p:=by simp only[nj,List.filter_cons,hx,if_true,ka]
   rw[e];rw[jg]at this;exact this
  |false=>
   rw[j6,aQ];have:=NR hl (p:=p) n (i+1) acc (by omega) (by omega);have e:nj (es[i]::es.drop (i+1)) p=nj (es.drop (i+1)) p:=by unfold nj;rw[List.filter_cons_of_neg (by simp only[hx];simp)]
   rw[e];exact this
theorem jut{es:List cR}{np:Nat}(hE:∀x∈es,kF np x)(hl:es.length<=48)(nm:ByteArray)(ls:List bM)(p:Int) :
  ∃out,j6q (nm,(ls,es)) p=some out/\ca (-1) out/\(∀t,bJ t out↔lW es p t=true)/\out.length<=es.length:=by
 have lp:=NR (es:=es) (by omega) (p:=p) es.length 0 [] (by omega) (by simp);rw[jt,kc]at lp;have eZ:(nj es p).length<=es.length:=by unfold nj;rw[kb];exact List.length_filter_le _ _
 have hb:∀s∈nj es p,0<=s.1/\s.1<s.2/\s.2<=1000000000000:=λs h=>by
  obtain⟨x,hx,rfl⟩:=jx.1 h;have:=hE x (vq.1 hx).1;exact⟨this.f0,this.ft,this.t1⟩
 obtain⟨out,e,h1,h2,h3,h4⟩:=Gj (l:=nj es p) (by omega) (λs h=>by have:=hb s h;omega) (lo:=0) (hi:=1000000000000) (λs h _=>by have:=hb s h;omega);refine⟨out,?_,h1,λt=>(h2 t).trans jzc,by omega⟩;simp only[j6q,show Int.ofNat es.length=(es.length:Int) from rfl];rw[show Cs p es (es.length:Int) 0 []=_ from lp];simp only[j3,e]
theorem js1{β:Type}(l:List (Int×β))(k:Int)(v:β)(j:Int):eJ (fI l k v) j=(j==k||eJ l j):=by
 induction l with
 |nil=>simp[fI,eJ]
 |cons x r ih=>
  simp only[fI];by_cases h:k=x.1
  .rw[eA h,j5];simp only[eJ,List.any_cons];rw[<-h];cases j==k<;>simp
  .rw[cB h,j6];have:eJ (x::fI r k v) j=(j==x.1||eJ (fI r k v) j):=rfl;rw[this,ih];have:eJ (x::r) j=(j==x.1||eJ r j):=rfl;rw[this];cases j==x.1<;>cases j==k<;>simp
theorem NS{β:Type}(d:β)(l:List (Int×β))(k:Int)(v:β)(j:Int):df d (fI l k v) j=cond (j==k) v (df d l j):=by
 induction l with
 |nil=>rfl
 |cons x r ih=>
  simp only[fI];by_cases h:k=x.1
  .rw[eA h,j5];show cond (j==k) v (df d r j)=cond (j==k) v (cond (j==x.1) x.2 (df d r j));rw[<-h];cases j==k<;>rfl
  .rw[cB h,j6];show cond (j==x.1) x.2 (df d (fI r k v) j)=cond (j==k) v (cond (j==x.1) x.2 (df d r j));rw[ih];by_cases hj:j=x.1
   .rw[eA hj,j5,cB (show¬j=k by omega)];rfl
   .rw[cB hj];rfl
def fY(p:Int):bK->Prop
 |[]=>True
 |x::r=>p<=x.1/\x.1<x.2.1/\fY x.2.1 r
def lY(t:Int)(l:bK):Prop:=∃x∈l,x.1<=t/\t<x.2.1
theorem Dt{t:Int}{s:jU}{l:bK}:lY t (s::l)↔(s.1<=t/\t<s.2.1)\/lY t l:=by
 constructor
 .rintro⟨u,hu,h⟩
  rcases jd.1 hu with rfl|hu
  .exact .inl h
  .exact .inr ⟨u,hu,h⟩
 .rintro (h|⟨u,hu,h⟩)
  .exact⟨s,by simp,h⟩
  .exact⟨u,by simp[hu],h⟩
theorem NU{t:Int}:¬lY t []:=by rintro⟨s,hs,_⟩;simp at hs
theorem fY.weak{p q:Int}(hq:q<=p):∀{l:bK},fY p l->fY q l
 |[],_=>trivial
 |_::_,h=>⟨by have:=h.1;omega,h.2⟩
theorem fY.low{p t:Int}:∀{l:bK},fY p l->lY t l->p<=t
 |[],_,h=>absurd h NU
 |s::r,h,hx=>by
  rcases Dt.1 hx with hx|hx
  .have:=h.1;omega
  .have:=fY.low h.2.2 hx;have:=h.1;have:=h.2.1;omega
theorem fY.app{e:Int}{r:bK}(hr:fY e r):∀{l:bK}{p:Int},fY p l->p<=e->(∀x∈l,x.2.1<=e)->fY p (l++r)
 |[],_,_,hp,_=>hr.weak hp
 |x::l,p,h,_,hl=>⟨h.1,h.2.1,hr.app h.2.2 (hl x (by simp)) (λy hy=>hl y (by simp[hy]))⟩
theorem fY.apart{p:Int}:∀{l:bK},fY p l->l.Pairwise (λx y=>x.2.1<=y.1)/\∀x∈l,p<=x.1
 |[],_=>⟨List.Pairwise.nil,by simp⟩
 |x::l,h=>by
  obtain⟨h1,h2⟩:=fY.apart h.2.2
  exact⟨qf.2 ⟨h2,h1⟩,λy hy=>by
   rcases jd.1 hy with rfl|hy
   .exact h.1
   .have:=h2 y hy;have:=h.1;have:=h.2.1;omega⟩
def oK(s:dA)(p:Int):SL:=(j6q s p).getD []
def oL(s:dA)(x:jU):SL:=(j2t [(x.1,x.2.1)] (oK s x.2.2)).getD []
def lH(s:dA)(x:jU):bK:=if x.2.2<0 then [] else (oL s x).map λu=>(u.1,(u.2,x.2.2))
section
variable{nm:ByteArray}{ls:List bM}{es:List cR}{np:Nat}(hE:∀x∈es,kF np x)(hl:es.length<=48)
include hE hl
theorem VJ(p:Int):j6q (nm,(ls,es)) p=some (oK (nm,(ls,es)) p)/\ca (-1) (oK (nm,(ls,es)) p)/\(∀t,bJ t (oK (nm,(ls,es)) p)↔lW es p t=true)/\(oK (nm,(ls,es)) p).length<=es.length:=by
 obtain⟨out,e,h⟩:=jut hE hl nm ls p;have:oK (nm,(ls,es)) p=out:=by simp[oK,e]
 rw[this];exact⟨e,h⟩
theorem NV{x:jU}(hx:x.1<x.2.1):j2t [(x.1,x.2.1)] (oK (nm,(ls,es)) x.2.2)=some (oL (nm,(ls,es)) x)/\ca (x.1-1) (oL (nm,(ls,es)) x)/\
  (∀t,bJ t (oL (nm,(ls,es)) x)↔(x.1<=t/\t<x.2.1)/\lW es x.2.2 t=false)/\(oL (nm,(ls,es)) x).length<=1+es.length:=by
 obtain⟨_,l1,l2,l3⟩:=VJ (nm:=nm) (ls:=ls) hE hl x.2.2;obtain⟨out,e,h1,h2,h3⟩:=Nx (B:=oK (nm,(ls,es)) x.2.2) (by omega) (A:=[(x.1,x.2.1)]) (p:=x.1-1) ⟨by dsimp only;omega,hx,trivial⟩ l1 (by simp);have:oL (nm,(ls,es)) x=out:=by simp[oL,e]
 rw[this];refine⟨e,h1,λt=>?_,by rw[qa]at h3;omega⟩;rw[h2 t,l2 t,eY];constructor
 .rintro⟨h|h,h'⟩
  .exact⟨h,by simpa using h'⟩
  .exact absurd h gO
 .rintro⟨h,h'⟩
  exact⟨.inl h,by simp[h']⟩
omit hE hl in
theorem VK{S:bK}{m j f e p:Int}{mp:List (Int×SL)}{W:SL}(hW:W.length<=1000):∀(n i:Nat)(acc:bK),i+n=W.length->acc.length+n<=1000000000->
  wU S m j (W.length:Int) (i:Int) nm ls es f e p mp acc W=some (S,m,j,nm,ls,es,mp,acc++(W.drop i).map λu=>(u.1,(u.2,p)))
 |0,i,acc,hi,_=>by
  rw[SM];simp only[j2Z];rw[aj (by omega),j6,aY,jc (by omega)];simp
 |n+1,i,acc,hi,ha=>by
  have aX:i<W.length:=by omega
  have bh:W.getD i ((0:Int),(0:Int))=W[i]:=by simp[List.getD,aX]
  rw[SM];simp only[j2Z];rw[ag (by omega),aZ (by omega) (by omega),ah (x:=(i:Int)+1) (by omega) (by omega)];simp only[j5,j7,bh];rw[ag (by simp[aP];omega),j5,aQ,jb aX,ka];have:=VK (S:=S) (m:=m) (j:=j) (f:=f) (e:=e) (p:=p) (mp:=mp) hW n (i+1) (acc++[(W[i].1,(W[i].2,p))]) (by omega) (by simp;omega);rw[jg]at this;exact this
theorem NW{S:bK}(hS:S.length<=100000)(bG:∀x∈S,x.1<x.2.1):∀(n i:Nat)(mp:List (Int×SL))(acc:bK),i+n=S.length->(∀p,eJ mp p=true->df [] mp p=oK (nm,(ls,es)) p)->acc.length<=49*i->
  yx S (S.length:Int) (i:Int) nm ls es mp acc=some (acc++(S.drop i).flatMap (lH (nm,(ls,es))))
 |0,i,mp,acc,hi,_,_=>by
  rw[SN];simp only[j30];rw[aj (by omega),j6,aY,jc (by omega)];simp
 |n+1,i,mp,acc,hi,hm,ha=>by
  have aX:i<S.length:=by omega
  have bh:S.getD i ((0:Int),((0:Int),(0:Int)))=S[i]:=by simp[List.getD,aX]
  have hp:=bG _ (jh aX);rw[SN];simp only[j30];rw[ag (show (i:Int)<(S.length:Int) by omega),aZ (by omega) (by omega)];simp only[j5,j7,bh];rw[jb aX,qt];by_cases fH:S[i].2.2<0
  .rw[ag fH,j5,ah (x:=(i:Int)+1) (by omega) (by omega),aQ];have e:lH (nm,(ls,es)) S[i]=[]:=if_pos fH;rw[e,jt];exact NW hS bG n (i+1) mp acc (by omega) hm (by omega)
  .have e:lH (nm,(ls,es)) S[i]=(oL (nm,(ls,es)) S[i]).map λu=>(u.1,(u.2,S[i].2.2)):=if_neg fH;obtain⟨w1,_,_,w4⟩:=NV (nm:=nm) (ls:=ls) hE hl hp;rw[aj fH,j6]
   have fin:∀sR:List (Int×SL),(∀p,eJ sR p=true->df [] sR p=oK (nm,(ls,es)) p)->df [] sR S[i].2.2=oK (nm,(ls,es)) S[i].2.2->
     lpK ((j2t [(S[i].1,S[i].2.1)] (df [] sR S[i].2.2)).bind λVL=>
      (wU S (S.length:Int) (i:Int) (Int.ofNat VL.length) 0 nm ls es S[i].1 S[i].2.1 S[i].2.2 sR acc VL).bind λq2=>
       (some (Sum.inl (q2.1,q2.2.1,w64 (q2.2.2.1+1),q2.2.2.2.1,q2.2.2.2.2.1,q2.2.2.2.2.2.1,q2.2.2.2.2.2.2.1,q2.2.2.2.2.2.2.2)):Option ((bK×Int×Int×ByteArray×List bM×List cR×List (Int×SL)×bK) ⊕ bK)))
      (λh=>yx h.1 h.2.1 h.2.2.1 h.2.2.2.1 h.2.2.2.2.1 h.2.2.2.2.2.1 h.2.2.2.2.2.2.1 h.2.2.2.2.2.2.2)=some (acc++(lH (nm,(ls,es)) S[i]++(S.drop (i+1)).flatMap (lH (nm,(ls,es))))):=λsR gL hg=>by
    have l2:=VK (nm:=nm) (ls:=ls) (es:=es) (S:=S) (m:=(S.length:Int)) (j:=(i:Int)) (f:=S[i].1) (e:=S[i].2.1) (p:=S[i].2.2) (mp:=sR) (W:=oL (nm,(ls,es)) S[i]) (by omega) (oL (nm,(ls,es)) S[i]).length 0 acc (by omega) (by omega);rw[hg,w1];simp only[j3];rw[show wU S (S.length:Int) (i:Int) (Int.ofNat (oL (nm,(ls,es)) S[i]).length) 0 nm ls es S[i].1 S[i].2.1 S[i].2.2 sR acc (oL (nm,(ls,es)) S[i])=_ from l2];simp only[j3,kc];rw[ah (x:=(i:Int)+1) (by omega) (by omega),aQ,<-e,<-jg];exact NW hS bG n (i+1) sR _ (by omega) gL (by rw[je,e,kb];omega)
   cases hh:eJ mp S[i].2.2 with
   |true=>simp only[jn,j6];exact fin mp hm (hm _ hh)
   |false=>
    simp only[k5,j5];rw[show j6q (nm,(ls,es)) S[i].2.2=_ from (VJ (nm:=nm) (ls:=ls) hE hl S[i].2.2).1];simp only[j3];refine fin _ (λp rN=>?_) ?_
    .rw[NS];by_cases uM:p=S[i].2.2
     .rw[eA uM,j5,uM]
     .rw[js1,cB uM,vj]at rN;rw[cB uM,j6];exact hm p rN
    .rw[NS];simp
theorem js2{S:bK}(hS:S.length<=100000)(bG:∀x∈S,x.1<x.2.1):j84 (nm,(ls,es)) S=some (S.flatMap (lH (nm,(ls,es)))):=by
 simp only[j84,show Int.ofNat S.length=(S.length:Int) from rfl];rw[show yx S (S.length:Int) 0 nm ls es [] []=_ from NW hE hl hS bG S.length 0 [] [] (by omega) (λp h=>by simp[eJ]at h) (by simp)];rfl
theorem jxM{x:jU}(hx:x.1<x.2.1):(lH (nm,(ls,es)) x).length<=1+es.length:=by
 unfold lH;split
 .simp
 .rw[kb];exact(NV (nm:=nm) (ls:=ls) hE hl hx).2.2.2
theorem VM:∀{S:bK},(∀x∈S,x.1<x.2.1)->(S.flatMap (lH (nm,(ls,es)))).length<=S.length*(1+es.length)
 |[],_=>by simp
 |x::S,h=>by
  have h1:=jxM (nm:=nm) (ls:=ls) hE hl (h x (by simp));have h2:=VM (S:=S) (λy hy=>h y (by simp[hy]));rw[qt,je,jo,Nat.add_mul];omega
theorem VN{p:Int}{c e:Int}:∀{W:SL}{q:Int},ca q W->(∀u∈W,u.2<=e)->fY (q+1) (W.map λu=>(u.1,(u.2,c)))/\(p<=q+1->fY p (W.map λu=>(u.1,(u.2,c))))
 |[],_,_,_=>⟨trivial,λ_=>trivial⟩
 |u::W,q,h,hb=>by
  have _:=hE;have _:=hl;have h3:=(VN (p:=u.2) (c:=c) (e:=e) (W:=W) h.2.2 (λv hv=>hb v (by simp[hv]))).2 (by omega);exact⟨⟨by have:=h.1;dsimp only;omega,h.2.1,h3⟩,λhp=>⟨by have:=h.1;dsimp only;omega,h.2.1,h3⟩⟩
theorem VO{f:Int->Int}{b:Int}:∀{S:bK}{a:Int},Ch f b a S->(∀x∈S,x.1<x.2.1)->
  fY a (S.flatMap (lH (nm,(ls,es))))/\(∀x∈S.flatMap (lH (nm,(ls,es))),x.2.1<=b/\∀t,x.1<=t->t<x.2.1->f t=x.2.2/\0<=x.2.2/\lW es x.2.2 t=false)/\
   ∀t,a<=t->t<b->0<=f t->lW es (f t) t=false->lY t (S.flatMap (lH (nm,(ls,es))))
 |[],a,h,_=>⟨trivial,by simp,λt h1 h2=>by have h:a=b:=h;omega⟩
 |x::S,a,h,bG=>by
  obtain⟨h1,h2,h3,h4⟩:=h;have hx:=bG x (by simp);obtain⟨i1,i2,i3⟩:=VO (f:=f) (b:=b) h4 (λy hy=>bG y (by simp[hy]));have hle:=h4.le;obtain⟨_,w2,w3,_⟩:=NV (nm:=nm) (ls:=ls) hE hl hx
  have eF:∀y∈lH (nm,(ls,es)) x,0<=x.2.2/\y.2.2=x.2.2/\y.1<y.2.1/\x.1<=y.1/\y.2.1<=x.2.1/\∀t,y.1<=t->t<y.2.1->lW es x.2.2 t=false:=λy hy=>by
   unfold lH at hy;split at hy
   .simp at hy
   .obtain⟨u,hu,rfl⟩:=jx.1 hy;have hm:=ca.mem w2 u hu;have e1:=(w3 (u.2-1)).1 ⟨u,hu,by omega,by omega⟩;exact⟨by omega,rfl,hm.2,by dsimp only;omega,by dsimp only;omega,λt t1 t2=>((w3 t).1 ⟨u,hu,t1,t2⟩).2⟩
  rw[qt];refine⟨?_,λy hy=>?_,λt t1 t2 t3 t4=>?_⟩
  .refine fY.app i1 ?_ h2 (λy hy=>(eF y hy).2.2.2.2.1);unfold lH;split
   .trivial
   .exact(VN hE hl (p:=a) (c:=x.2.2) (e:=x.2.1) w2 (λu hu=>by
     have hm:=ca.mem w2 u hu;have e1:=(w3 (u.2-1)).1 ⟨u,hu,by omega,by omega⟩;omega)).2 (by omega)
  .rcases js.1 hy with hy|hy
   .obtain⟨g1,g2,g3,g4,g5,g6⟩:=eF y hy;exact⟨by omega,λt t1 t2=>⟨by rw[g2];exact h3 t (by omega) (by omega),by omega,by rw[g2];exact g6 t t1 t2⟩⟩
   .exact i2 y hy
  .by_cases au:t<x.2.1
   .have hf:=h3 t t1 au;rw[hf]at t3 t4;obtain⟨u,hu,u1,u2⟩:=(w3 t).2 ⟨⟨by omega,au⟩,t4⟩;refine⟨(u.1,(u.2,x.2.2)),kj _ ?_,u1,u2⟩;unfold lH;rw[if_neg (by omega)];exact jx.2 ⟨u,hu,rfl⟩
   .obtain⟨y,hy,y1,y2⟩:=i3 t (by omega) t2 t3 t4;exact⟨y,ku _ hy,y1,y2⟩
end
def jB:Nat->bK->SL->bK
 |n+1,s::a,u::b=>(if (if u.1>s.1 then u.1 else s.1)<(if u.2<s.2.1 then u.2 else s.2.1) then [((if u.1>s.1 then u.1 else s.1),((if u.2<s.2.1 then u.2 else s.2.1),s.2.2))] else [])++
  (if s.2.1<u.2 then jB n a (u::b) else jB n (s::a) b)
 |_,_,_=>[]
theorem NX:∀(n:Nat)(a:bK)(b:SL)(p q:Int),a.length+b.length<=n->fY p a->ca q b->
  fY p (jB n a b)/\fY q (jB n a b)/\(∀x∈jB n a b,∃s∈a,s.1<=x.1/\x.2.1<=s.2.1/\x.2.2=s.2.2/\∀t,x.1<=t->t<x.2.1->bJ t b)/\(∀t,lY t a->bJ t b->lY t (jB n a b))/\(jB n a b).length<=a.length+b.length
 |0,a,b,p,q,hn,_,_=>by
  obtain rfl:a=[]:=zd.1 (by omega);exact⟨trivial,trivial,by simp[jB],λt h=>absurd h NU,by simp[jB]⟩
 |n+1,[],b,p,q,_,_,_=>⟨trivial,trivial,by simp[jB],λt h=>absurd h NU,by simp[jB]⟩
 |n+1,_::_,[],p,q,_,_,_=>⟨trivial,trivial,by simp[jB],λt _ h=>absurd h gO,by simp[jB]⟩
 |n+1,s::a,u::b,p,q,hn,ha,hb=>by
  obtain⟨a1,a2,a3⟩:=ha;obtain⟨b1,b2,b3⟩:=hb;simp only[jo]at hn ⊢
  have hx:∃f t:Int,f=(if u.1>s.1 then u.1 else s.1)/\t=(if u.2<s.2.1 then u.2 else s.2.1)/\(∀x,(f<=x/\x<t)↔(s.1<=x/\x<s.2.1)/\(u.1<=x/\x<u.2))/\p<=f/\q<=f/\t<=s.2.1/\t<=u.2/\s.1<=f:=by
   refine⟨_,_,rfl,rfl,λx=>?_,?_,?_,?_,?_,?_⟩
   .constructor
    .intro h;split at h<;>split at h<;>omega
    .intro h;split<;>split<;>omega
   all_goals split<;>omega
  obtain⟨f,t,ef,et,hi,f1,f2,t1,t2,f3⟩:=hx;simp only[jB,<-ef,<-et]
  have key:∀(a':bK)(b':SL)(r:bK),fY t r->fY p r->fY q r->(∀x∈r,∃s'∈(s::a),s'.1<=x.1/\x.2.1<=s'.2.1/\x.2.2=s'.2.2/\∀y,x.1<=y->y<x.2.1->bJ y (u::b))->(∀y,lY y a'->bJ y b'->lY y r)->
    r.length<=a'.length+b'.length->a'.length+b'.length+1=a.length+1+(b.length+1)->(∀y,lY y (s::a)->bJ y (u::b)->(f<=y/\y<t)\/(lY y a'/\bJ y b'))->
    fY p ((if f<t then [(f,(t,s.2.2))] else [])++r)/\fY q ((if f<t then [(f,(t,s.2.2))] else [])++r)/\(∀x∈((if f<t then [(f,(t,s.2.2))] else [])++r),∃s'∈(s::a),s'.1<=x.1/\x.2.1<=s'.2.1/\x.2.2=s'.2.2/\∀y,x.1<=y->y<x.2.1->bJ y (u::b))/\
     (∀y,lY y (s::a)->bJ y (u::b)->lY y ((if f<t then [(f,(t,s.2.2))] else [])++r))/\((if f<t then [(f,(t,s.2.2))] else [])++r).length<=a.length+1+(b.length+1):=by
   intro a' b' r vG Gk Nu Gl VP hl qR qH;by_cases ir:f<t
   .rw[if_pos ir];refine⟨⟨f1,ir,vG⟩,⟨f2,ir,vG⟩,λx hx=>?_,λy y1 y2=>?_,by simp;omega⟩
    .rcases jd.1 hx with rfl|hx
     .exact⟨s,by simp,f3,t1,rfl,λy y1 y2=>eY.2 (.inl ((hi y).1 ⟨y1,y2⟩).2)⟩
     .exact Gl x hx
    .rcases qH y y1 y2 with h|h
     .exact Dt.2 (.inl h)
     .exact Dt.2 (.inr (VP y h.1 h.2))
   .rw[if_neg ir,jt];refine⟨Gk,Nu,Gl,λy y1 y2=>?_,by omega⟩;rcases qH y y1 y2 with h|h
    .omega
    .exact VP y h.1 h.2
  by_cases hc:s.2.1<u.2
  .rw[if_pos hc];obtain⟨i1,i2,i3,i4,i5⟩:=NX n a (u::b) s.2.1 q (by simp;omega) a3 ⟨b1,b2,b3⟩;refine key a (u::b) _ (i1.weak t1) (i1.weak (by omega)) i2 (λx hx=>?_) i4 i5 (by simp;omega) (λy y1 y2=>?_)
   .obtain⟨s',dI,r⟩:=i3 x hx;exact⟨s',by simp[dI],r⟩
   .rcases Dt.1 y1 with h|h
    .rcases eY.1 y2 with h'|h'
     .exact .inl ((hi y).2 ⟨h,h'⟩)
     .have:=ca.low b3 h';omega
    .exact .inr ⟨h,y2⟩
  .rw[if_neg hc];obtain⟨i1,i2,i3,i4,i5⟩:=NX n (s::a) b p u.2 (by simp;omega) ⟨a1,a2,a3⟩ b3;refine key (s::a) b _ (i2.weak t2) i1 (i2.weak (by omega)) (λx hx=>?_) i4 i5 (by simp;omega) (λy y1 y2=>?_)
   .obtain⟨s',dI,r1,r2,r3,r4⟩:=i3 x hx;exact⟨s',dI,r1,r2,r3,λy y1 y2=>eY.2 (.inr (r4 y y1 y2))⟩
   .rcases eY.1 y2 with h|h
    .rcases Dt.1 y1 with h'|h'
     .exact .inl ((hi y).2 ⟨h',h⟩)
     .have:=fY.low a3 h';omega
    .exact .inr ⟨y1,h⟩
theorem NY{A:bK}{B:SL}(hA:A.length<=10000000)(hB:B.length<=10000000):∀(n i k:Nat)(acc:bK),i<=A.length->k<=B.length->(A.length-i)+(B.length-k)=n->acc.length+n<=3000000->
  wV A B (i:Int) (k:Int) acc=some (acc++jB n (A.drop i) (B.drop k))
 |n,i,k,acc,hi,hk,hn,ei=>by
  rw[jgB];simp only[j4K,show Int.ofNat (List.length A)=(A.length:Int) from rfl,show Int.ofNat (List.length B)=(B.length:Int) from rfl];by_cases gm:i<A.length/\k<B.length
  .obtain⟨aX,bf⟩:=gm;obtain⟨n,rfl⟩:∃m,n=m+1:=⟨n-1,by omega⟩;have gA:A.getD i ((0:Int),((0:Int),(0:Int)))=A[i]:=by simp[List.getD,aX]
   have gB:B.getD k ((0:Int),(0:Int))=B[k]:=by simp[List.getD,bf]
   rw[ag (show (i:Int)<(A.length:Int) by omega),ag (show (k:Int)<(B.length:Int) by omega),aZ (show (0:Int)<=(i:Int) by omega) (by omega),aZ (show (0:Int)<=(k:Int) by omega) (by omega)];simp only[j5,j7,gA,gB];rw[ah (x:=(i:Int)+1) (by omega) (by omega),ah (x:=(k:Int)+1) (by omega) (by omega)];rw[jb aX,jb bf];simp only[jB];generalize (if B[k].1>A[i].1 then B[k].1 else A[i].1:Int)=f;generalize (if B[k].2<A[i].2.1 then B[k].2 else A[i].2.1:Int)=t
   have Dl:∀bD:bK,bD.length<=acc.length+1->wV A B ((i:Int)+1) (k:Int) bD=some (bD++jB n (A.drop (i+1)) (B[k]::B.drop (k+1))):=λbD zN=>by
    have:=NY hA hB n (i+1) k bD (by omega) (by omega) (by omega) (by omega);rw[<-jb bf];exact this
   have Dm:∀bD:bK,bD.length<=acc.length+1->wV A B (i:Int) ((k:Int)+1) bD=some (bD++jB n (A[i]::A.drop (i+1)) (B.drop (k+1))):=λbD zN=>by
    have:=NY hA hB n i (k+1) bD (by omega) (by omega) (by omega) (by omega);rw[<-jb aX];exact this
   by_cases ir:f<t
   .rw[ag ir,if_pos ir,ag (by simp[aP];omega)];simp only[j5];by_cases hc:A[i].2.1<B[k].2
    .rw[ag hc,if_pos hc];simp only[j5,aQ];rw[Dl _ (by simp),jg]
    .rw[aj hc,if_neg hc];simp only[j6,aQ];rw[Dm _ (by simp),jg]
   .rw[aj ir,if_neg ir];simp only[j6];by_cases hc:A[i].2.1<B[k].2
    .rw[ag hc,if_pos hc];simp only[j5,aQ];rw[Dl _ (by omega),jt]
    .rw[aj hc,if_neg hc];simp only[j6,aQ];rw[Dm _ (by omega),jt]
  .have hc:cond (decide ((i:Int)<(A.length:Int))) (decide ((k:Int)<(B.length:Int))) false=false:=by
    by_cases h1:i<A.length
    .rw[ag (by omega),j5];exact aj (by omega)
    .rw[aj (by omega),j6]
   rw[hc,j6,aY]
   have:jB n (A.drop i) (B.drop k)=[]:=by
    by_cases h1:i<A.length
    .rw[vr (show B.length<=k by omega)];cases n<;>cases A.drop i<;>rfl
    .rw[vr (show A.length<=i by omega)];cases n<;>rfl
   rw[this,qe]
theorem VQ{l:bK}(hl:l.length<=10000000):∀(n i:Nat)(acc:SL),i+n=l.length->acc.length<=i->Ct l (l.length:Int) (i:Int) acc=some (acc++(l.drop i).map λx=>(x.1,x.2.1))
 |0,i,acc,hi,_=>by
  rw[SO];simp only[j3U];rw[aj (by omega),j6,aY,jc (by omega)];simp
 |n+1,i,acc,hi,ha=>by
  have aX:i<l.length:=by omega
  have bh:l.getD i ((0:Int),((0:Int),(0:Int)))=l[i]:=by simp[List.getD,aX]
  rw[SO];simp only[j3U];rw[ag (by omega),aZ (by omega) (by omega),ah (x:=(i:Int)+1) (by omega) (by omega)];simp only[j5,j7,bh];rw[ag (by simp[aP];omega),j5,aQ,jb aX,ka];have:=VQ hl n (i+1) (acc++[(l[i].1,l[i].2.1)]) (by omega) (by simp;omega);rw[jg]at this;exact this
theorem jvX{l:bK}(hl:l.length<=10000000){lo hi:Int}(h0:0<=lo)(h1:hi<=8589934592)(hb:∀x∈l,lo<=x.1/\x.1<x.2.1/\x.2.1<=hi) :
  ∃out,jaG l=some out/\ca (lo-1) out/\(∀t,bJ t out↔lY t l)/\out.length<=l.length:=by
 have lp:=VQ hl l.length 0 [] (by omega) (by simp);rw[jt,kc]at lp
 have aD:∀s∈l.map (λx=>(x.1,x.2.1)),lo<=s.1/\s.1<s.2/\s.2<=hi:=λs h=>by
  obtain⟨x,hx,rfl⟩:=jx.1 h;exact hb x hx
 obtain⟨out,e,g1,g2,g3,g4⟩:=Gj (l:=l.map λx=>(x.1,x.2.1)) (by simpa using hl) (λs h=>by have:=aD s h;omega) (lo:=lo) (hi:=hi) (λs h _=>by have:=aD s h;omega);refine⟨out,?_,g1,λt=>(g2 t).trans ⟨?_,?_⟩,by simpa using g3⟩
 .simp only[jaG,show Int.ofNat l.length=(l.length:Int) from rfl];rw[show Ct l (l.length:Int) 0 []=_ from lp];simp only[j3,e]
 .rintro⟨s,hs,h⟩
  obtain⟨x,hx,rfl⟩:=jx.1 hs;exact⟨x,hx,h⟩
 .rintro⟨x,hx,h⟩
  exact⟨_,jx.2 ⟨x,hx,rfl⟩,h⟩
section
variable{zs:List bI}{ps:List c9}{cs:List aW}(hs:cW zs ps cs)
include hs
end
end Go.Proofs.Pw
