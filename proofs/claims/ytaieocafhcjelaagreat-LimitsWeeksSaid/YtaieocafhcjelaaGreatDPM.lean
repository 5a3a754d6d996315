/- NZ Ha by a key: Bh, Hb, blocks. -/
import Derived.Test.YtaieocafhcjelaaGreatDLD
import Derived.Test.YtaieocafhcjelaaGreatDPA
open Go Go.Lft
namespace Go.Proofs.Pw
section
variable{α:Type}(key:α->Int)
def cj(x:α):List α->List α
 |[]=>[x]
 |y::ys=>if key x<key y then x::y::ys else y::cj x ys
def bK(l:List α):List α:=l.foldl (λacc x=>cj key x acc) []
def fg:List α->List α->List α
 |[],bs=>bs
 |a::fv,bs=>go a (fg fv) fv bs
where go (a:α) (f:List α->List α) (fv:List α):List α->List α
 |[]=>a::fv
 |b::bs=>if key b<key a then b::go a f fv bs else a::f (b::bs)
theorem nn:∀fv:List α,fg key fv []=fv
 |[]=>rfl
 |_::_=>rfl
theorem mI(a b:α)(fv bs:List α):fg key (a::fv) (b::bs)=if key b<key a then b::fg key (a::fv) bs else a::fg key fv (b::bs):=rfl
variable{key}
theorem Hc(x:α):∀(A B:List α),cj key x (fg key A B)=fg key A (cj key x B)
 |[],_=>rfl
 |[a],[]=>by
  simp only[nn,cj,mI];split<;>rfl
 |a::a'::fv,[]=>by
  have ih:=Hc x (a'::fv) [];rw[nn]at ih ⊢;rw[show cj key x ([]:List α)=[x] from rfl]at ih ⊢;rw[mI];rw[cj];split
  .rw[nn]
  .rw[ih]
 |a::fv,b::bs=>by
  have i1:=Hc x (a::fv) bs;have i2:=Hc x fv (b::bs);rw[mI];by_cases h1:key b<key a
  .rw[if_pos h1];simp only[cj];by_cases h2:key x<key b
   .rw[if_pos h2,if_pos h2,mI,if_pos (show key x<key a by omega),mI,if_pos h1]
   .rw[if_neg h2,if_neg h2,mI,if_pos h1,i1]
  .rw[if_neg h1];rw[show cj key x (a::fg key fv (b::bs))=if key x<key a then x::a::fg key fv (b::bs) else a::cj key x (fg key fv (b::bs)) from rfl,i2];rw[show cj key x (b::bs)=if key x<key b then x::b::bs else b::cj key x bs from rfl];by_cases h2:key x<key b
   .rw[if_pos h2];by_cases h3:key x<key a
    .rw[if_pos h3,mI,if_pos h3,mI,if_neg h1]
    .rw[if_neg h3,mI,if_neg h3]
   .rw[if_neg h2];rw[if_neg (show¬key x<key a by omega),mI,if_neg h1]
termination_by A B=>A.length+B.length
theorem Wj:∀(ys A B:List α),ys.foldl (λacc x=>cj key x acc) (fg key A B)=fg key A (ys.foldl (λacc x=>cj key x acc) B)
 |[],_,_=>rfl
 |y::ys,A,B=>by
  simp only[vf];rw[Hc,Wj ys A]
theorem Wk(xs ys:List α):bK key (xs++ys)=fg key (bK key xs) (bK key ys):=by
 have h:=Wj (key:=key) ys (bK key xs) [];rw[nn]at h;simp only[bK,List.foldl_append]at h ⊢;exact h
theorem tR:∀(A1 B1 A2 B2:List α),(∀x∈A2,∀y∈B1,key y<key x)->(∀x∈A1,∀y∈B2,¬key y<key x)->
  fg key (A1++A2) (B1++B2)=fg key A1 B1++fg key A2 B2
 |[],[],_,_,_,_=>rfl
 |[],b::bs,[],B2,_,_=>rfl
 |[],b::bs,a::fv,B2,h1,h2=>by
  have ih:=tR [] bs (a::fv) B2 (λx hx y hy=>h1 x hx y (by simp[hy])) h2;rw[jm]at ih;rw[jm,qd,mI,if_pos (h1 a (by simp) b (by simp)),ih];rfl
 |a::fv,[],A2,[],_,_=>by simp only[kb,nn]
 |a::fv,[],A2,b::bs,h1,h2=>by
  have ih:=tR fv [] A2 (b::bs) h1 (λx hx y hy=>h2 x (by simp[hx]) y hy);rw[jm,nn]at ih;rw[jm,qd,mI,if_neg (h2 a (by simp) b (by simp)),ih,nn];rfl
 |a::fv,b::bs,A2,B2,h1,h2=>by
  have i1:=tR (a::fv) bs A2 B2 (λx hx y hy=>h1 x hx y (by simp[hy])) h2;have i2:=tR fv (b::bs) A2 B2 h1 (λx hx y hy=>h2 x (by simp[hx]) y hy);rw[qd,qd,mI,mI];split
  .rw[<-qd,i1];rfl
  .rw[<-qd,i2];rfl
termination_by A1 B1=>A1.length+B1.length
theorem jzj(x:α)(B1 B2:List α)(h1:∀y∈B1,key y<key x)(h2:∀y∈B2,¬key y<key x):fg key [x] (B1++B2)=B1++x::B2:=by
 have e1:=tR (key:=key) [] B1 [x] B2 (by simpa using h1) (by simp);have e2:=tR (key:=key) [x] [] [] B2 (by simp) (by simpa using h2);rw[jm]at e1;rw[kb,jm,nn]at e2;rw[e1,e2];rfl
theorem jxg(y:α)(A1 A2:List α)(h1:∀x∈A1,¬key y<key x)(h2:∀x∈A2,key y<key x):fg key (A1++A2) [y]=A1++y::A2:=by
 have e1:=tR (key:=key) A1 [] A2 [y] (by simp) (by simpa using h1);have e2:=tR (key:=key) [] [y] A2 [] (by simpa using h2) (by simp);rw[jm,nn]at e1;rw[jm,kb,nn]at e2;rw[e1,e2];rfl
theorem Ep(x:α):∀l:List α,(cj key x l).Perm (x::l)
 |[]=>List.Perm.refl _
 |y::ys=>by
  unfold cj;split
  .exact List.Perm.refl _
  .exact((Ep x ys).cons y).trans (List.Perm.swap x y ys)
theorem Wl:∀(l acc:List α),(l.foldl (λacc x=>cj key x acc) acc).Perm (acc++l)
 |[],acc=>by simp
 |x::xs,acc=>by
  simp only[vf];refine(Wl xs (cj key x acc)).trans ?_;refine((Ep x acc).append_right xs).trans ?_;rw[qd];exact List.perm_middle.symm
theorem rV(l:List α):(bK key l).Perm l:=by
 have:=Wl (key:=key) l [];rwa[jm]at this
theorem rW(l:List α):(bK key l).length=l.length:=(rV l).length_eq
theorem N0{R:α->α->Prop}(x:α):∀l:List α,l.Pairwise (λy z=>key y<key z\/key y=key z/\R y z)->(∀y∈l,R y x)->(cj key x l).Pairwise (λy z=>key y<key z\/key y=key z/\R y z)
 |[],_,_=>ze _ _
 |y::ys,h,hr=>by
  have hc:=jx.1 h;unfold cj;split
  .rename_i an;refine jx.2 ⟨λz hz=>?_,h⟩;rcases je.1 hz with rfl|hz
   .exact Or.inl an
   .rcases hc.1 z hz with h1|h1
    .exact Or.inl (by omega)
    .exact Or.inl (by omega)
  .rename_i nG;refine jx.2 ⟨λz hz=>?_,N0 x ys hc.2 (λw hw=>hr w (by simp[hw]))⟩;rcases je.1 ((Ep x ys).mem_iff.1 hz) with rfl|hz
   .by_cases he:key y=key z
    .exact Or.inr ⟨he,hr y (by simp)⟩
    .exact Or.inl (by omega)
   .exact hc.1 z hz
theorem Wm{R:α->α->Prop}:∀(l acc:List α),acc.Pairwise (λy z=>key y<key z\/key y=key z/\R y z)->(∀y∈acc,∀z∈l,R y z)->l.Pairwise R->
  (l.foldl (λacc x=>cj key x acc) acc).Pairwise (λy z=>key y<key z\/key y=key z/\R y z)
 |[],_,h,_,_=>h
 |x::xs,acc,h,hr,hl=>by
  simp only[vf];have hc:=jx.1 hl;refine Wm xs _ (N0 x acc h (λy hy=>hr y hy x (by simp))) (λy hy z hz=>?_) hc.2;rcases je.1 ((Ep x acc).mem_iff.1 hy) with rfl|hy
  .exact hc.1 z hz
  .exact hr y hy z (by simp[hz])
theorem jzk{R:α->α->Prop}{l:List α}(h:l.Pairwise R):(bK key l).Pairwise (λy z=>key y<key z\/key y=key z/\R y z):=
 Wm l [] List.Pairwise.nil (by simp) h
theorem jzl(l:List α):(bK key l).Pairwise (λy z=>key y<=key z):=
 (jzk (R:=λ_ _=>True) (l:=l) (List.pairwise_of_forall (λ_ _=>trivial))).imp (λh=>by omega)
variable(key)
inductive jC(n:Nat):List α->List α->Prop
 |last (l:List α):l.length<n->jC n l (bK key l)
 |more (x l d:List α):x.length=n->jC n l d->jC n (x++l) (bK key x++d)
variable{key}
theorem jC.len{n:Nat}{l d:List α}(h:jC key n l d):d.length=l.length:=by
 induction h with
 |last l _=>exact rW l
 |more x l d hx _ ih=>simp[rW,ih]
theorem jC.all{n:Nat}{l d:List α}(h:jC key n l d)(hl:l.length<=n):d=bK key l:=by
 cases h with
 |last _ _=>rfl
 |more x l d hx hb=>have hd:=hb.len;simp only[ja]at hl;have h0:l=[]:=kj.1 (by omega);subst h0;have h1:d=[]:=kj.1 (by simpa using hd);subst h1;simp
end
abbrev lT:=Int×(Int×(Int×(Int×Int)))
abbrev bL:=List lT
def ai(x:lT):Int:=x.2.2.2.1
def iw(l:bL):Prop:=∀x∈l, -1000000000000<=ai x/\ai x<=1000000000000
def dy(l:bL):Prop:=l.Pairwise λx y=>ai x<=ai y
theorem iw.perm{l r:bL}(h:iw l)(hp:r.Perm l):iw r:=λx hx=>h x (hp.mem_iff.1 hx)
theorem iw.of{l r:bL}(h:iw l)(hp:∀x∈r,x∈l):iw r:=λx hx=>h x (hp x hx)
theorem Hd{x y:lT}(hx : -1000000000000<=ai x/\ai x<=1000000000000)(hy : -1000000000000<=ai y/\ai y<=1000000000000) :
  j3G (x.1,(x.2.1,(x.2.2.1,(x.2.2.2.1,x.2.2.2.2)))) (y.1,(y.2.1,(y.2.2.1,(y.2.2.2.1,y.2.2.2.2))))=some (ai x-ai y):=by
 simp only[j3G];unfold ai at *;rw[ah (by omega) (by omega)]
theorem Er{β:Type}(F:Nat->Nat->Option β)(fin:Nat->β)(p:Nat->Prop)[DecidablePred p](lo hi:Nat)
  (dM:∀i j,lo<=i->i<j->j<=hi->F i j=if p ((i+j)/2) then F ((i+j)/2+1) j else F i ((i+j)/2))
  (dW:∀i,lo<=i->i<=hi->F i i=some (fin i))(mono:∀s t,lo<=s->s<=t->t<hi->p t->p s) :
  ∀(n i j:Nat),j-i<=n->lo<=i->i<=j->j<=hi->(∀t,lo<=t->t<i->p t)->(∀t,j<=t->t<hi->¬p t)->
   ∃k,i<=k/\k<=j/\F i j=some (fin k)/\(∀t,lo<=t->t<k->p t)/\∀t,k<=t->t<hi->¬p t
 |0,i,j,hn,h1,h2,h3,h4,h5=>by
  obtain rfl:i=j:=by omega
  exact⟨i,jj _,jj _,dW i h1 h3,h4,h5⟩
 |n+1,i,j,hn,h1,h2,h3,h4,h5=>by
  by_cases dG:i=j
  .subst dG;exact⟨i,jj _,jj _,dW i h1 h3,h4,h5⟩
  .rw[dM i j h1 (by omega) h3];by_cases hp:p ((i+j)/2)
   .rw[if_pos hp];obtain⟨k,k1,k2,k3⟩:=Er F fin p lo hi dM dW mono n ((i+j)/2+1) j (by omega) (by omega) (by omega) h3 (λt t1 t2=>mono t _ t1 (by omega) (by omega) hp) h5;exact⟨k,by omega,k2,k3⟩
   .rw[if_neg hp];obtain⟨k,k1,k2,k3⟩:=Er F fin p lo hi dM dW mono n i ((i+j)/2) (by omega) h1 (by omega) (by omega) h4 (λt t1 t2 hq=>hp (mono _ t (by omega) t1 t2 hq));exact⟨k,k1,by omega,k3⟩
theorem He{a b:Nat}(h:a+b<=4000000000):w64 (Int.fdiv (IntKind.wrap .u64 (w64 ((a:Int)+(b:Int)))) 2)=(((a+b)/2:Nat):Int):=by
 rw[ah (x:=(a:Int)+b) (by omega) (by omega),show IntKind.wrap .u64 ((a:Int)+(b:Int))=(a:Int)+(b:Int) from IntWalk.u64_in _ ⟨by omega,by omega⟩,Int.fdiv_eq_ediv_of_nonneg _ (by omega),ah (by omega) (by omega)];omega
def dC:lT:=(0,(0,(0,(0,0))))
theorem vT(P R:bL)(x:lT):(P++x::R).getD P.length dC=x:=by
 rw[List.getD_eq_getElem?_getD,k7 (by simp)];simp
theorem vU(P R:bL)(x y:lT):(P++x::R).set P.length y=P++y::R:=by
 rw[zo _ _ (by simp)];simp
theorem Bi{l:bL}{i:Nat}(h:i<l.length):l.getD i dC∈l:=by
 rw[List.getD_eq_getElem?_getD,ji h];exact jg h
theorem Wn(P A R:bL)(i:Nat)(h:i<A.length):(P++(A++R)).getD (P.length+i) dC=A.getD i dC:=by
 rw[List.getD_eq_getElem?_getD,List.getD_eq_getElem?_getD,k7 (by omega),show P.length+i-P.length=i by omega,List.getElem?_append_left h]
theorem vV{A:bL}(h:dy A){i j:Nat}(dG:i<=j)(hj:j<A.length):ai (A.getD i dC)<=ai (A.getD j dC):=by
 rw[List.getD_eq_getElem?_getD,List.getD_eq_getElem?_getD,ji hj,ji (show i<A.length by omega)];by_cases he:i=j
 .subst he;exact kg _
 .exact kx.1 h i j (by omega) hj (by omega)
theorem Hf{A:bL}{k:Nat}{x:lT}(h:x∈A.take k):∃i,i<k/\i<A.length/\x=A.getD i dC:=by
 obtain⟨i,hi,rfl⟩:=qx h;simp only[qk]at hi;exact⟨i,by omega,by omega,by rw[List.getElem_take,List.getD_eq_getElem?_getD,ji (by omega)];rfl⟩
theorem Hg{A:bL}{k:Nat}{x:lT}(h:x∈A.drop k):∃i,k<=i/\i<A.length/\x=A.getD i dC:=by
 obtain⟨i,hi,rfl⟩:=qx h;simp only[zf]at hi;exact⟨k+i,by omega,by omega,by rw[List.getElem_drop,List.getD_eq_getElem?_getD,ji (by omega)];rfl⟩
theorem Wo{n a b:Int}:∀(U V P M Q:bL)(k:Nat),U.length=V.length->(k:Int)+U.length=n->a+k=P.length->b+k=((P.length+U.length+M.length:Nat):Int)->P.length+U.length+M.length+V.length+Q.length<=1000000000->0<=a->0<=b->k<=1000000000->
  ye a b n (k:Int) (P++(U++(M++(V++Q))))=some (P++(V++(M++(U++Q))))
 |[],[],P,M,Q,k,_,hn,ha,hb,hl,_,_,_=>by
  rw[SB];simp only[j1h];simp only[qc]at hn;rw[ak (by omega),j6,aW]
 |[],_::_,_,_,_,_,h,_,_,_,_,_,_,_=>by simp at h
 |_::_,[],_,_,_,_,h,_,_,_,_,_,_,_=>by simp at h
 |x::U,y::V,P,M,Q,k,hUV,hn,ha,hb,hl,sZ,eh,hk=>by
  simp only[jl]at hUV hn hb hl;have N1:U.length=V.length:=by omega
  have e1:P++(x::U++(M++(y::V++Q)))=(P++x::(U++M))++y::(V++Q):=by simp
  have e2:P++(x::U++(M++(y::V++Q)))=P++x::(U++(M++(y::V++Q))):=by simp
  have hL:(P++(x::U++(M++(y::V++Q)))).length=P.length+U.length+1+M.length+V.length+1+Q.length:=by simp;omega
  have g1:(P++(x::U++(M++(y::V++Q)))).getD (b+k).toNat dC=y:=by rw[e1,show (b+k).toNat=(P++x::(U++M)).length by simp;omega,vT]
  have g2:(P++(x::U++(M++(y::V++Q)))).getD (a+k).toNat dC=x:=by rw[e2,show (a+k).toNat=P.length by omega,vT]
  have s1:(P++(x::U++(M++(y::V++Q)))).set (a+k).toNat y=(P++y::(U++M))++y::(V++Q):=by rw[e2,show (a+k).toNat=P.length by omega,vU];simp
  have s2:((P++y::(U++M))++y::(V++Q)).set (b+k).toNat x=(P++[y])++(U++((M++[x])++(V++Q))):=by rw[show (b+k).toNat=(P++y::(U++M)).length by simp;omega,vU];simp
  have ih:=Wo (n:=n) (a:=a) (b:=b) U V (P++[y]) (M++[x]) Q (k+1) N1 (by omega) (by simp;omega) (by simp;omega) (by simp;omega) sZ eh (by omega);unfold dC at g1 g2;rw[SB];simp only[j1h];rw[aj (show (k:Int)<n by omega),ah (x:=a+(k:Int)) (by omega) (by omega),ah (x:=b+(k:Int)) (by omega) (by omega),aU (by omega) (by rw[hL];omega),aU (show (0:Int)<=a+(k:Int) by omega) (by rw[hL];omega)];simp only[j5,g1,g2];rw[show (P++(x::U++(M++(y::V++Q)))).set (a+(k:Int)).toNat (y.1,(y.2.1,(y.2.2.1,(y.2.2.2.1,y.2.2.2.2))))=_ from s1];rw[aU (show (0:Int)<=b+(k:Int) by omega) (by simp;omega),j5];rw[show ((P++y::(U++M))++y::(V++Q)).set (b+(k:Int)).toNat (x.1,(x.2.1,(x.2.2.1,(x.2.2.2.1,x.2.2.2.2))))=_ from s2];rw[ah (x:=(k:Int)+1) (by omega) (by omega),aF];rw[show ((k+1:Nat):Int)=(k:Int)+1 by omega]at ih;rw[ih];simp
theorem N2(P U M V Q:bL)(h:U.length=V.length)(hl:P.length+U.length+M.length+V.length+Q.length<=1000000000){a b n:Int}(ha:a=P.length)(hb:b=((P.length+U.length+M.length:Nat):Int))(hn:n=U.length) :
  j0r (P++(U++(M++(V++Q)))) a b n=some (P++(V++(M++(U++Q)))):=by
 have:=Wo (n:=n) (a:=a) (b:=b) U V P M Q 0 h (by omega) (by omega) (by omega) hl (by omega) (by omega) (by omega);simp only[j0r];rw[show ye a b n 0 (P++(U++(M++(V++Q))))=_ from this];rfl
theorem N3{m:Int}:∀(n:Nat)(P U V Q:bL),U.length+V.length<=n->U≠[]->V≠[]->m=((P.length+U.length:Nat):Int)->P.length+U.length+V.length+Q.length<=1000000000->
  ∃(i:Int)(d:bL),AM m (U.length:Int) (V.length:Int) (P++(U++(V++Q)))=some (m,i,d)/\j0r d (w64 (m-i)) m i=some (P++(V++(U++Q)))
 |0,P,U,V,Q,hn,hU,_,_,_=>by
  have:=q8.2 hU;omega
 |n+1,P,U,V,Q,hn,hU,hV,hm,hl=>by
  have hu:=q8.2 hU;have hv:=q8.2 hV;rw[j9e];simp only[j0K];by_cases aZ:U.length=V.length
  .rw[show (((U.length:Nat):Int) != (V.length:Int))=false by rw[aZ];exact jp _,j6,aW];refine⟨_,_,rfl,?_⟩;have:=N2 P U [] V Q aZ (by simp;omega) (a:=w64 (m-(U.length:Int))) (b:=m) (n:=(U.length:Int)) (by rw[ah (by omega) (by omega)];omega) (by simp;omega) rfl;simpa using this
  .rw[show (((U.length:Nat):Int) != (V.length:Int))=true by simp;omega,j5];by_cases yE:V.length<U.length
   .rw[aj (show (U.length:Int)>(V.length:Int) by omega),j5];obtain⟨U1,U2,hUe,Wp⟩:∃U1 U2,U=U1++U2/\U1.length=V.length:=⟨U.take V.length,U.drop V.length,(ki ..).symm,by simp;omega⟩;subst hUe;simp only[ja]at *;have hs:=N2 P U1 U2 V Q Wp (by omega) (a:=w64 (m-((U1.length+U2.length:Nat):Int))) (b:=m) (n:=(V.length:Int)) (by rw[ah (by omega) (by omega)];omega) (by omega) (by omega);simp only[jd]at hs ⊢;rw[hs];simp only[j3];rw[ah (x:=((U1.length+U2.length:Nat):Int)-(V.length:Int)) (by omega) (by omega),aF];obtain⟨i,d,h1,h2⟩:=N3 (m:=m) n (P++V) U2 U1 Q (by omega) (λh=>by subst h;simp at yE;omega) (λh=>by subst h;simp at Wp;omega) (by simp;omega) (by simp;omega);rw[show ((U1.length+U2.length:Nat):Int)-(V.length:Int)=(U2.length:Int) by omega,show ((V.length:Nat):Int)=(U1.length:Int) by omega];simp only[jd]at h1 h2;exact⟨i,d,h1,h2⟩
   .rw[ak (show¬(U.length:Int)>(V.length:Int) by omega),j6];obtain⟨V1,V2,hVe,Wq⟩:∃V1 V2,V=V1++V2/\V2.length=U.length:=⟨V.take (V.length-U.length),V.drop (V.length-U.length),(ki ..).symm,by simp;omega⟩;subst hVe;simp only[ja]at *;have hs:=N2 P U V1 V2 Q Wq.symm (by omega) (a:=w64 (m-(U.length:Int))) (b:=w64 (w64 (m+((V1.length+V2.length:Nat):Int))-(U.length:Int))) (n:=(U.length:Int)) (by rw[ah (by omega) (by omega)];omega) (by rw[ah (x:=m+_) (by omega) (by omega),ah (by omega) (by omega)];omega) rfl;simp only[jd]at hs ⊢;rw[hs];simp only[j3];rw[ah (x:=((V1.length+V2.length:Nat):Int)-(U.length:Int)) (by omega) (by omega),aF];obtain⟨i,d,h1,h2⟩:=N3 (m:=m) n P V2 V1 (U++Q) (by omega) (λh=>by subst h;simp at Wq;omega) (λh=>by subst h;simp at yE aZ;omega) (by omega) (by simp;omega);rw[show ((V1.length+V2.length:Nat):Int)-(U.length:Int)=(V1.length:Int) by omega,show ((U.length:Nat):Int)=(V2.length:Int) by omega];exact⟨i,d,h1,h2⟩
theorem jAE(P U V Q:bL)(hU:U≠[])(hV:V≠[])(hl:P.length+U.length+V.length+Q.length<=1000000000){a m b:Int}(ha:a=P.length)(hm:m=((P.length+U.length:Nat):Int))(hb:b=((P.length+U.length+V.length:Nat):Int)) :
  j0Q (P++(U++(V++Q))) a m b=some (P++(V++(U++Q))):=by
 obtain⟨i,d,h1,h2⟩:=N3 (m:=m) _ P U V Q (jj _) hU hV hm hl;simp only[j0Q];rw[ah (x:=m-a) (by omega) (by omega),ah (x:=b-m) (by omega) (by omega),show m-a=(U.length:Int) by omega,show b-m=(V.length:Int) by omega,h1];simp only[j3,h2]
section
variable(rec:bL->Int->Int->Int->Option bL)
theorem Wr{e:Int}(x:lT):∀(B P Q:bL),e-1=((P.length+B.length:Nat):Int)->P.length+B.length+Q.length<=1000000000->
  vH rec e (P.length:Int) (P++x::(B++Q))=some (P++(B++x::Q))
 |[],P,Q,he,hl=>by
  rw[SD];simp only[j1k];simp only[qc]at he;rw[ah (x:=e-1) (by omega) (by omega),ak (by omega),j6,aW];rfl
 |y::B,P,Q,he,hl=>by
  simp only[jl]at he hl;have hL:(P++x::(y::B++Q)).length=P.length+B.length+Q.length+2:=by simp;omega
  have e1:P++x::(y::B++Q)=(P++[x])++y::(B++Q):=by simp
  have g1:(P++x::(y::B++Q)).getD ((P.length:Int)+1).toNat dC=y:=by rw[e1,show ((P.length:Int)+1).toNat=(P++[x]).length by simp,vT]
  have g2:(P++x::(y::B++Q)).getD P.length dC=x:=vT _ _ _;have s1:(P++x::(y::B++Q)).set P.length y=(P++[y])++y::(B++Q):=by rw[vU];simp
  have s2:((P++[y])++y::(B++Q)).set ((P.length:Int)+1).toNat x=(P++[y])++x::(B++Q):=by rw[show ((P.length:Int)+1).toNat=(P++[y]).length by simp,vU]
  have ih:=Wr (e:=e) x B (P++[y]) Q (by simp;omega) (by simp;omega);unfold dC at g1 g2;rw[SD];simp only[j1k];rw[ah (x:=e-1) (by omega) (by omega),aj (by omega),ah (x:=(P.length:Int)+1) (by omega) (by omega),aU (show (0:Int)<=(P.length:Int)+1 by omega) (by rw[hL];omega),aU (show (0:Int)<=(P.length:Int) by omega) (by rw[hL];omega)];simp only[j5,j7,g1,g2];rw[show (P++x::(y::B++Q)).set P.length (y.1,(y.2.1,(y.2.2.1,(y.2.2.2.1,y.2.2.2.2))))=_ from s1];rw[aU (n:=((P++[y])++y::(B++Q)).length) (show (0:Int)<=(P.length:Int)+1 by omega) (by simp;omega),j5];rw[show ((P++[y])++y::(B++Q)).set ((P.length:Int)+1).toNat (x.1,(x.2.1,(x.2.2.1,(x.2.2.2.1,x.2.2.2.2))))=_ from s2,aF];rw[show (((P++[y]).length:Nat):Int)=(P.length:Int)+1 by simp]at ih;rw[ih];simp
theorem Ws{i:Int}(x:lT):∀(B P Q:bL),i=P.length->P.length+B.length+Q.length<=1000000000->
  vI rec i ((P.length+B.length:Nat):Int) (P++(B.reverse++x::Q))=some (P++x::(B.reverse++Q))
 |[],P,Q,hi,hl=>by
  rw[SF];simp only[j1m];rw[ak (by simp;omega),j6,aW];rfl
 |y::B,P,Q,hi,hl=>by
  simp only[jl]at hl;have hL:(P++((y::B).reverse++x::Q)).length=P.length+B.length+Q.length+2:=by simp;omega
  have e1:P++((y::B).reverse++x::Q)=(P++B.reverse++[y])++x::Q:=by simp
  have e2:P++((y::B).reverse++x::Q)=(P++B.reverse)++y::(x::Q):=by simp
  have n1:(((P.length+(B.length+1):Nat):Int)-1).toNat=(P++B.reverse).length:=by simp;omega
  have n2:P.length+(B.length+1)=(P++B.reverse++[y]).length:=by simp
  have g1:(P++((y::B).reverse++x::Q)).getD (((P.length+(B.length+1):Nat):Int)-1).toNat dC=y:=by rw[e2,n1,vT]
  have g2:(P++((y::B).reverse++x::Q)).getD (P.length+(B.length+1)) dC=x:=by rw[e1,n2,vT]
  have s1:(P++((y::B).reverse++x::Q)).set (P.length+(B.length+1)) y=(P++B.reverse)++y::(y::Q):=by rw[e1,n2,vU];simp
  have s2:((P++B.reverse)++y::(y::Q)).set (((P.length+(B.length+1):Nat):Int)-1).toNat x=P++(B.reverse++x::(y::Q)):=by rw[n1,vU];simp
  have ih:=Ws (i:=i) x B P (y::Q) hi (by simp;omega);unfold dC at g1 g2;rw[SF];simp only[j1m,jl];rw[aj (by omega),ah (x:=((P.length+(B.length+1):Nat):Int)-1) (by omega) (by omega),aU (show (0:Int)<=((P.length+(B.length+1):Nat):Int)-1 by omega) (by rw[hL];omega),aU (show (0:Int)<=((P.length+(B.length+1):Nat):Int) by omega) (by rw[hL];omega)];simp only[j5,j7,g1,g2];rw[show (P++((y::B).reverse++x::Q)).set (P.length+(B.length+1)) (y.1,(y.2.1,(y.2.2.1,(y.2.2.2.1,y.2.2.2.2))))=_ from s1];rw[aU (show (0:Int)<=((P.length+(B.length+1):Nat):Int)-1 by omega) (by simp;omega),j5];rw[show ((P++B.reverse)++y::(y::Q)).set (((P.length+(B.length+1):Nat):Int)-1).toNat (x.1,(x.2.1,(x.2.2.1,(x.2.2.2.1,x.2.2.2.2))))=_ from s2,aF];rw[show ((P.length+(B.length+1):Nat):Int)-1=((P.length+B.length:Nat):Int) by omega,ih];simp
variable{D:bL}(hD:iw D)(hL:D.length<=1000000000)
include hD hL
theorem jAF{a m b:Nat}(ha:a<D.length)(hmb:m<=b)(hb:b<=D.length)(gP:∀s t,m<=s->s<=t->t<b->ai (D.getD s dC)<=ai (D.getD t dC)) :
  ∃k,m<=k/\k<=b/\tC rec (a:Int) (m:Int) (b:Int) D=some ((a:Int),(k:Int),D)/\(∀t,m<=t->t<k->ai (D.getD t dC)<ai (D.getD a dC))/\∀t,k<=t->t<b->¬ai (D.getD t dC)<ai (D.getD a dC):=by
 refine Er (λi j=>tC rec (a:Int) (i:Int) (j:Int) D) (λk=>((a:Int),(k:Int),D)) (λt=>ai (D.getD t dC)<ai (D.getD a dC)) m b (λi j h1 h2 h3=>?_) (λi h1 h2=>?_) (λs t h1 h2 h3 h4=>by have:=gP s t h1 h2 h3;omega) (b-m) m b (jj _) (jj _) hmb (jj _) (λt h1 h2=>by omega) (λt h1 h2=>by omega)
 .rw[SC];simp only[j1j];rw[aj (show (i:Int)<(j:Int) by omega),He (by omega),aU (show (0:Int)<=(((i+j)/2:Nat):Int) by omega) (by omega),aU (show (0:Int)<=(a:Int) by omega) (by omega)];simp only[j5,j7];have c:=Hd (hD _ (Bi (l:=D) (i:=(i+j)/2) (by omega))) (hD _ (Bi ha));unfold dC at c ⊢;rw[c];simp only[j3];by_cases hp:ai (D.getD ((i+j)/2) ((0:Int),((0:Int),((0:Int),((0:Int),(0:Int))))))<ai (D.getD a ((0:Int),((0:Int),((0:Int),((0:Int),(0:Int))))))
  .rw[if_pos hp,aj (by omega),j5,ah (x:=(((i+j)/2:Nat):Int)+1) (by omega) (by omega),aF];rfl
  .rw[if_neg hp,ak (by omega),j6,aF]
 .rw[SC];simp only[j1j];rw[ak (by omega),j6,aW]
theorem jAG{a m:Nat}(hm:m<D.length)(ham:a<=m)(gP:∀s t,a<=s->s<=t->t<m->ai (D.getD s dC)<=ai (D.getD t dC)) :
  ∃k,a<=k/\k<=m/\tD rec (m:Int) (a:Int) (m:Int) D=some ((m:Int),(k:Int),D)/\(∀t,a<=t->t<k->¬ai (D.getD m dC)<ai (D.getD t dC))/\∀t,k<=t->t<m->¬¬ai (D.getD m dC)<ai (D.getD t dC):=by
 refine Er (λi j=>tD rec (m:Int) (i:Int) (j:Int) D) (λk=>((m:Int),(k:Int),D)) (λt=>¬ai (D.getD m dC)<ai (D.getD t dC)) a m (λi j h1 h2 h3=>?_) (λi h1 h2=>?_) (λs t h1 h2 h3 h4=>by have:=gP s t h1 h2 h3;omega) (m-a) a m (jj _) (jj _) ham (jj _) (λt h1 h2=>by omega) (λt h1 h2=>by omega)
 .rw[SE];simp only[j1l];rw[aj (show (i:Int)<(j:Int) by omega),He (by omega),aU (show (0:Int)<=(m:Int) by omega) (by omega),aU (show (0:Int)<=(((i+j)/2:Nat):Int) by omega) (by omega)];simp only[j5,j7];have c:=Hd (hD _ (Bi hm)) (hD _ (Bi (l:=D) (i:=(i+j)/2) (by omega)));unfold dC at c ⊢;rw[c];simp only[j3];by_cases hp:ai (D.getD m ((0:Int),((0:Int),((0:Int),((0:Int),(0:Int))))))<ai (D.getD ((i+j)/2) ((0:Int),((0:Int),((0:Int),((0:Int),(0:Int))))))
  .rw[if_neg (by omega),aj (by omega)];simp only[jr,j6,aF]
  .rw[if_pos hp,ak (by omega)];simp only[jy,j5];rw[ah (x:=(((i+j)/2:Nat):Int)+1) (by omega) (by omega),aF];rfl
 .rw[SE];simp only[j1l];rw[ak (by omega),j6,aW]
theorem Wt{lo hi p:Nat}{s1 s2 s3 s18 s19:Int}(hlh:lo<=hi)(hh:hi<=D.length)(hp:∀c,lo<=c->c<hi->c<=p/\p-c<D.length)(uj:p<=2000000000)
  (gP:∀s t,lo<=s->s<=t->t<hi->¬ai (D.getD (p-t) dC)<ai (D.getD t dC)->¬ai (D.getD (p-s) dC)<ai (D.getD s dC)) :
  ∃k,lo<=k/\k<=hi/\rP rec s1 s2 s3 s18 s19 (lo:Int) (hi:Int) (p:Int) D=some (s1,s2,s3,s18,s19,(k:Int),D)/\(∀t,lo<=t->t<k->¬ai (D.getD (p-t) dC)<ai (D.getD t dC))/\∀t,k<=t->t<hi->¬¬ai (D.getD (p-t) dC)<ai (D.getD t dC):=by
 refine Er (λi j=>rP rec s1 s2 s3 s18 s19 (i:Int) (j:Int) (p:Int) D) (λk=>(s1,s2,s3,s18,s19,(k:Int),D)) (λt=>¬ai (D.getD (p-t) dC)<ai (D.getD t dC)) lo hi (λi j h1 h2 h3=>?_) (λi h1 h2=>?_) gP (hi-lo) lo hi (jj _) (jj _) hlh (jj _) (λt h1 h2=>by omega) (λt h1 h2=>by omega)
 .have om:=hp ((i+j)/2) (by omega) (by omega);rw[SH];simp only[j1n];rw[aj (show (i:Int)<(j:Int) by omega),He (by omega),ah (x:=(p:Int)-(((i+j)/2:Nat):Int)) (by omega) (by omega),aU (show (0:Int)<=(p:Int)-(((i+j)/2:Nat):Int) by omega) (by omega),aU (show (0:Int)<=(((i+j)/2:Nat):Int) by omega) (by omega)];simp only[j5,j7];rw[show ((p:Int)-(((i+j)/2:Nat):Int)).toNat=p-(i+j)/2 by omega];have c:=Hd (hD _ (Bi (l:=D) (i:=p-(i+j)/2) om.2)) (hD _ (Bi (l:=D) (i:=(i+j)/2) (by omega)));unfold dC at c ⊢;rw[c];simp only[j3];by_cases hq:ai (D.getD (p-(i+j)/2) ((0:Int),((0:Int),((0:Int),((0:Int),(0:Int))))))<ai (D.getD ((i+j)/2) ((0:Int),((0:Int),((0:Int),((0:Int),(0:Int))))))
  .rw[if_neg (by omega),aj (by omega)];simp only[jr,j6,aF]
  .rw[if_pos hq,ak (by omega)];simp only[jy,j5];rw[ah (x:=(((i+j)/2:Nat):Int)+1) (by omega) (by omega),aF];rfl
 .rw[SH];simp only[j1n];rw[ak (by omega),j6,aW]
end
end Go.Proofs.Pw
