/- Fy AL by a key: uT, AM, blocks. -/
import Derived.Test.YtbpjdcbbmibehaaZELD
import Derived.Test.YtbpjdcbbmibehaaZEPA
open Go Go.Lft
namespace Go.Proofs.Pw
section
variable{α:Type}(key:α->Int)
def bj(x:α):List α->List α
 |[]=>[x]
 |y::ys=>if key x<key y then x::y::ys else y::bj x ys
def bq(l:List α):List α:=l.foldl (λacc x=>bj key x acc) []
def dL:List α->List α->List α
 |[],bs=>bs
 |a::dN,bs=>go a (dL dN) dN bs
where go (a:α) (f:List α->List α) (dN:List α):List α->List α
 |[]=>a::dN
 |b::bs=>if key b<key a then b::go a f dN bs else a::f (b::bs)
theorem jM:∀dN:List α,dL key dN []=dN
 |[]=>rfl
 |_::_=>rfl
theorem iP(a b:α)(dN bs:List α):dL key (a::dN) (b::bs)=if key b<key a then b::dL key (a::dN) bs else a::dL key dN (b::bs):=rfl
variable{key}
theorem AN(x:α):∀(A B:List α),bj key x (dL key A B)=dL key A (bj key x B)
 |[],_=>rfl
 |[a],[]=>by
  simp only[jM,bj,iP];split<;>rfl
 |a::a'::dN,[]=>by
  have ih:=AN x (a'::dN) [];rw[jM]at ih ⊢;rw[show bj key x ([]:List α)=[x] from rfl]at ih ⊢;rw[iP];rw[bj];split
  .rw[jM]
  .rw[ih]
 |a::dN,b::bs=>by
  have i1:=AN x (a::dN) bs;have i2:=AN x dN (b::bs);rw[iP];by_cases h1:key b<key a
  .rw[if_pos h1];simp only[bj];by_cases h2:key x<key b
   .rw[if_pos h2,if_pos h2,iP,if_pos (show key x<key a by omega),iP,if_pos h1]
   .rw[if_neg h2,if_neg h2,iP,if_pos h1,i1]
  .rw[if_neg h1];rw[show bj key x (a::dL key dN (b::bs))=if key x<key a then x::a::dL key dN (b::bs) else a::bj key x (dL key dN (b::bs)) from rfl,i2];rw[show bj key x (b::bs)=if key x<key b then x::b::bs else b::bj key x bs from rfl];by_cases h2:key x<key b
   .rw[if_pos h2];by_cases h3:key x<key a
    .rw[if_pos h3,iP,if_pos h3,iP,if_neg h1]
    .rw[if_neg h3,iP,if_neg h3]
   .rw[if_neg h2];rw[if_neg (show¬key x<key a by omega),iP,if_neg h1]
termination_by A B=>A.length+B.length
theorem KP:∀(ys A B:List α),ys.foldl (λacc x=>bj key x acc) (dL key A B)=dL key A (ys.foldl (λacc x=>bj key x acc) B)
 |[],_,_=>rfl
 |y::ys,A,B=>by
  simp only[List.foldl_cons];rw[AN,KP ys A]
theorem KQ(xs ys:List α):bq key (xs++ys)=dL key (bq key xs) (bq key ys):=by
 have h:=KP (key:=key) ys (bq key xs) [];rw[jM]at h;simp only[bq,List.foldl_append]at h ⊢;exact h
theorem oY:∀(A1 B1 A2 B2:List α),(∀x∈A2,∀y∈B1,key y<key x)->(∀x∈A1,∀y∈B2,¬key y<key x)->
  dL key (A1++A2) (B1++B2)=dL key A1 B1++dL key A2 B2
 |[],[],_,_,_,_=>rfl
 |[],b::bs,[],B2,_,_=>rfl
 |[],b::bs,a::dN,B2,h1,h2=>by
  have ih:=oY [] bs (a::dN) B2 (λx hx y hy=>h1 x hx y (by simp[hy])) h2;rw[js]at ih;rw[js,kj,iP,if_pos (h1 a (by simp) b (by simp)),ih];rfl
 |a::dN,[],A2,[],_,_=>by simp only[jw,jM]
 |a::dN,[],A2,b::bs,h1,h2=>by
  have ih:=oY dN [] A2 (b::bs) h1 (λx hx y hy=>h2 x (by simp[hx]) y hy);rw[js,jM]at ih;rw[js,kj,iP,if_neg (h2 a (by simp) b (by simp)),ih,jM];rfl
 |a::dN,b::bs,A2,B2,h1,h2=>by
  have i1:=oY (a::dN) bs A2 B2 (λx hx y hy=>h1 x hx y (by simp[hy])) h2;have i2:=oY dN (b::bs) A2 B2 h1 (λx hx y hy=>h2 x (by simp[hx]) y hy);rw[kj,kj,iP,iP];split
  .rw[<-kj,i1];rfl
  .rw[<-kj,i2];rfl
termination_by A1 B1=>A1.length+B1.length
theorem Uz(x:α)(B1 B2:List α)(h1:∀y∈B1,key y<key x)(h2:∀y∈B2,¬key y<key x):dL key [x] (B1++B2)=B1++x::B2:=by
 have e1:=oY (key:=key) [] B1 [x] B2 (by simpa using h1) (by simp);have e2:=oY (key:=key) [x] [] [] B2 (by simp) (by simpa using h2);rw[js]at e1;rw[jw,js,jM]at e2;rw[e1,e2];rfl
theorem UA(y:α)(A1 A2:List α)(h1:∀x∈A1,¬key y<key x)(h2:∀x∈A2,key y<key x):dL key (A1++A2) [y]=A1++y::A2:=by
 have e1:=oY (key:=key) A1 [] A2 [y] (by simp) (by simpa using h1);have e2:=oY (key:=key) [] [y] A2 [] (by simpa using h2) (by simp);rw[js,jM]at e1;rw[js,jw,jM]at e2;rw[e1,e2];rfl
theorem x6(x:α):∀l:List α,(bj key x l).Perm (x::l)
 |[]=>List.Perm.refl _
 |y::ys=>by
  unfold bj;split
  .exact List.Perm.refl _
  .exact((x6 x ys).cons y).trans (List.Perm.swap x y ys)
theorem KR:∀(l acc:List α),(l.foldl (λacc x=>bj key x acc) acc).Perm (acc++l)
 |[],acc=>by simp
 |x::xs,acc=>by
  simp only[List.foldl_cons];refine(KR xs (bj key x acc)).trans ?_;refine((x6 x acc).append_right xs).trans ?_;rw[kj];exact List.perm_middle.symm
theorem oZ(l:List α):(bq key l).Perm l:=by
 have:=KR (key:=key) l [];rwa[js]at this
theorem rh(l:List α):(bq key l).length=l.length:=(oZ l).length_eq
theorem AO{R:α->α->Prop}(x:α):∀l:List α,l.Pairwise (λy z=>key y<key z\/key y=key z/\R y z)->(∀y∈l,R y x)->(bj key x l).Pairwise (λy z=>key y<key z\/key y=key z/\R y z)
 |[],_,_=>List.pairwise_singleton _ _
 |y::ys,h,hr=>by
  have hc:=List.pairwise_cons.1 h;unfold bj;split
  .rename_i ax;refine List.pairwise_cons.2 ⟨λz hz=>?_,h⟩;rcases jf.1 hz with rfl|hz
   .exact Or.inl ax
   .rcases hc.1 z hz with h1|h1
    .exact Or.inl (by omega)
    .exact Or.inl (by omega)
  .rename_i mZ;refine List.pairwise_cons.2 ⟨λz hz=>?_,AO x ys hc.2 (λw hw=>hr w (by simp[hw]))⟩;rcases jf.1 ((x6 x ys).mem_iff.1 hz) with rfl|hz
   .by_cases he:key y=key z
    .exact Or.inr ⟨he,hr y (by simp)⟩
    .exact Or.inl (by omega)
   .exact hc.1 z hz
theorem KS{R:α->α->Prop}:∀(l acc:List α),acc.Pairwise (λy z=>key y<key z\/key y=key z/\R y z)->(∀y∈acc,∀z∈l,R y z)->l.Pairwise R->
  (l.foldl (λacc x=>bj key x acc) acc).Pairwise (λy z=>key y<key z\/key y=key z/\R y z)
 |[],_,h,_,_=>h
 |x::xs,acc,h,hr,hl=>by
  simp only[List.foldl_cons];have hc:=List.pairwise_cons.1 hl;refine KS xs _ (AO x acc h (λy hy=>hr y hy x (by simp))) (λy hy z hz=>?_) hc.2;rcases jf.1 ((x6 x acc).mem_iff.1 hy) with rfl|hy
  .exact hc.1 z hz
  .exact hr y hy z (by simp[hz])
theorem UB{R:α->α->Prop}{l:List α}(h:l.Pairwise R):(bq key l).Pairwise (λy z=>key y<key z\/key y=key z/\R y z):=
 KS l [] List.Pairwise.nil (by simp) h
theorem UC(l:List α):(bq key l).Pairwise (λy z=>key y<=key z):=
 (UB (R:=λ_ _=>True) (l:=l) (List.pairwise_of_forall (λ_ _=>trivial))).imp (λh=>by omega)
variable(key)
inductive gv(n:Nat):List α->List α->Prop
 |last (l:List α):l.length<n->gv n l (bq key l)
 |more (x l d:List α):x.length=n->gv n l d->gv n (x++l) (bq key x++d)
variable{key}
theorem gv.len{n:Nat}{l d:List α}(h:gv key n l d):d.length=l.length:=by
 induction h with
 |last l _=>exact rh l
 |more x l d hx _ ih=>simp[rh,ih]
theorem gv.all{n:Nat}{l d:List α}(h:gv key n l d)(hl:l.length<=n):d=bq key l:=by
 cases h with
 |last _ _=>rfl
 |more x l d hx hb=>have hd:=hb.len;simp only[ja]at hl;have h0:l=[]:=kq.1 (by omega);subst h0;have h1:d=[]:=kq.1 (by simpa using hd);subst h1;simp
end
abbrev kT:=Int×Int
abbrev bE:=List kT
def aa(x:kT):Int:=x.1
def eL(l:bE):Prop:=∀x∈l, -1000000000000<=aa x/\aa x<=1000000000000
def cg(l:bE):Prop:=l.Pairwise λx y=>aa x<=aa y
theorem eL.app{l r:bE}(h:eL l)(h':eL r):eL (l++r):=λx hx=>(jq.1 hx).elim (h x) (h' x)
theorem eL.perm{l r:bE}(h:eL l)(hp:r.Perm l):eL r:=λx hx=>h x (hp.mem_iff.1 hx)
theorem eL.of{l r:bE}(h:eL l)(hp:∀x∈r,x∈l):eL r:=λx hx=>h x (hp x hx)
theorem AP{x y:kT}(hx : -1000000000000<=aa x/\aa x<=1000000000000)(hy : -1000000000000<=aa y/\aa y<=1000000000000) :
  j1e (x.1,x.2) (y.1,y.2)=some (aa x-aa y):=by
 simp only[j1e];unfold aa at *;rw[ak (by omega) (by omega)]
theorem x7{β:Type}(F:Nat->Nat->Option β)(fin:Nat->β)(p:Nat->Prop)[DecidablePred p](lo hi:Nat)
  (dx:∀i j,lo<=i->i<j->j<=hi->F i j=if p ((i+j)/2) then F ((i+j)/2+1) j else F i ((i+j)/2))
  (ea:∀i,lo<=i->i<=hi->F i i=some (fin i))(mono:∀s t,lo<=s->s<=t->t<hi->p t->p s) :
  ∀(n i j:Nat),j-i<=n->lo<=i->i<=j->j<=hi->(∀t,lo<=t->t<i->p t)->(∀t,j<=t->t<hi->¬p t)->
   ∃k,i<=k/\k<=j/\F i j=some (fin k)/\(∀t,lo<=t->t<k->p t)/\∀t,k<=t->t<hi->¬p t
 |0,i,j,hn,h1,h2,h3,h4,h5=>by
  obtain rfl:i=j:=by omega
  exact⟨i,jm _,jm _,ea i h1 h3,h4,h5⟩
 |n+1,i,j,hn,h1,h2,h3,h4,h5=>by
  by_cases cC:i=j
  .subst cC;exact⟨i,jm _,jm _,ea i h1 h3,h4,h5⟩
  .rw[dx i j h1 (by omega) h3];by_cases hp:p ((i+j)/2)
   .rw[if_pos hp];obtain⟨k,k1,k2,k3⟩:=x7 F fin p lo hi dx ea mono n ((i+j)/2+1) j (by omega) (by omega) (by omega) h3 (λt t1 t2=>mono t _ t1 (by omega) (by omega) hp) h5;exact⟨k,by omega,k2,k3⟩
   .rw[if_neg hp];obtain⟨k,k1,k2,k3⟩:=x7 F fin p lo hi dx ea mono n i ((i+j)/2) (by omega) h1 (by omega) (by omega) h4 (λt t1 t2 hq=>hp (mono _ t (by omega) t1 t2 hq));exact⟨k,k1,by omega,k3⟩
theorem AQ{a b:Nat}(h:a+b<=4000000000):w64 (Int.fdiv (IntKind.wrap .u64 (w64 ((a:Int)+(b:Int)))) 2)=(((a+b)/2:Nat):Int):=by
 rw[ak (x:=(a:Int)+b) (by omega) (by omega),show IntKind.wrap .u64 ((a:Int)+(b:Int))=(a:Int)+(b:Int) from IntWalk.u64_in _ ⟨by omega,by omega⟩,Int.fdiv_eq_ediv_of_nonneg _ (by omega),ak (by omega) (by omega)];omega
def dC:kT:=(0,0)
theorem ri(P R:bE)(x:kT):(P++x::R).getD P.length dC=x:=by
 rw[jl,jx (by simp)];simp
theorem rj(P R:bE)(x y:kT):(P++x::R).set P.length y=P++y::R:=by
 rw[List.set_append_right _ _ (by simp)];simp
theorem uU{l:bE}{i:Nat}(h:i<l.length):l.getD i dC∈l:=by
 rw[jl,jt h];exact qh h
theorem KT(P A R:bE)(i:Nat)(h:i<A.length):(P++(A++R)).getD (P.length+i) dC=A.getD i dC:=by
 rw[jl,jl,jx (by omega),show P.length+i-P.length=i by omega,List.getElem?_append_left h]
theorem rk{A:bE}(h:cg A){i j:Nat}(cC:i<=j)(hj:j<A.length):aa (A.getD i dC)<=aa (A.getD j dC):=by
 rw[jl,jl,jt hj,jt (show i<A.length by omega)];by_cases he:i=j
 .subst he;exact Int.le_refl _
 .exact List.pairwise_iff_getElem.1 h i j (by omega) hj (by omega)
theorem AR{A:bE}{k:Nat}{x:kT}(h:x∈A.take k):∃i,i<k/\i<A.length/\x=A.getD i dC:=by
 obtain⟨i,hi,rfl⟩:=List.getElem_of_mem h;simp only[qa]at hi;exact⟨i,by omega,by omega,by rw[List.getElem_take,jl,jt (by omega)];rfl⟩
theorem AS{A:bE}{k:Nat}{x:kT}(h:x∈A.drop k):∃i,k<=i/\i<A.length/\x=A.getD i dC:=by
 obtain⟨i,hi,rfl⟩:=List.getElem_of_mem h;simp only[qw]at hi;exact⟨k+i,by omega,by omega,by rw[List.getElem_drop,jl,jt (by omega)];rfl⟩
theorem KU{n a b:Int}:∀(U V P M Q:bE)(k:Nat),U.length=V.length->(k:Int)+U.length=n->a+k=P.length->b+k=((P.length+U.length+M.length:Nat):Int)->P.length+U.length+M.length+V.length+Q.length<=1000000000->0<=a->0<=b->k<=1000000000->
  sU a b n (k:Int) (P++(U++(M++(V++Q))))=some (P++(V++(M++(U++Q))))
 |[],[],P,M,Q,k,_,hn,ha,hb,hl,_,_,_=>by
  rw[Js];simp only[j0z];simp only[ku]at hn;rw[ay (by omega),j5,bS]
 |[],_::_,_,_,_,_,h,_,_,_,_,_,_,_=>by simp at h
 |_::_,[],_,_,_,_,h,_,_,_,_,_,_,_=>by simp at h
 |x::U,y::V,P,M,Q,k,UD,hn,ha,hb,hl,DS,cJ,hk=>by
  simp only[jn]at UD hn hb hl;have Fz:U.length=V.length:=by omega
  have e1:P++(x::U++(M++(y::V++Q)))=(P++x::(U++M))++y::(V++Q):=by simp
  have e2:P++(x::U++(M++(y::V++Q)))=P++x::(U++(M++(y::V++Q))):=by simp
  have hL:(P++(x::U++(M++(y::V++Q)))).length=P.length+U.length+1+M.length+V.length+1+Q.length:=by simp;omega
  have g1:(P++(x::U++(M++(y::V++Q)))).getD (b+k).toNat dC=y:=by rw[e1,show (b+k).toNat=(P++x::(U++M)).length by simp;omega,ri]
  have g2:(P++(x::U++(M++(y::V++Q)))).getD (a+k).toNat dC=x:=by rw[e2,show (a+k).toNat=P.length by omega,ri]
  have s1:(P++(x::U++(M++(y::V++Q)))).set (a+k).toNat y=(P++y::(U++M))++y::(V++Q):=by rw[e2,show (a+k).toNat=P.length by omega,rj];simp
  have s2:((P++y::(U++M))++y::(V++Q)).set (b+k).toNat x=(P++[y])++(U++((M++[x])++(V++Q))):=by rw[show (b+k).toNat=(P++y::(U++M)).length by simp;omega,rj];simp
  have ih:=KU (n:=n) (a:=a) (b:=b) U V (P++[y]) (M++[x]) Q (k+1) Fz (by omega) (by simp;omega) (by simp;omega) (by simp;omega) DS cJ (by omega);unfold dC at g1 g2;rw[Js];simp only[j0z];rw[aw (show (k:Int)<n by omega),ak (x:=a+(k:Int)) (by omega) (by omega),ak (x:=b+(k:Int)) (by omega) (by omega),bG (by omega) (by rw[hL];omega),bG (show (0:Int)<=a+(k:Int) by omega) (by rw[hL];omega)];simp only[j4,g1,g2];rw[show (P++(x::U++(M++(y::V++Q)))).set (a+(k:Int)).toNat (y.1,y.2)=_ from s1];rw[bG (show (0:Int)<=b+(k:Int) by omega) (by simp;omega),j4];rw[show ((P++y::(U++M))++y::(V++Q)).set (b+(k:Int)).toNat (x.1,x.2)=_ from s2];rw[ak (x:=(k:Int)+1) (by omega) (by omega),bR];rw[show ((k+1:Nat):Int)=(k:Int)+1 by omega]at ih;rw[ih];simp
theorem FA(P U M V Q:bE)(h:U.length=V.length)(hl:P.length+U.length+M.length+V.length+Q.length<=1000000000){a b n:Int}(ha:a=P.length)(hb:b=((P.length+U.length+M.length:Nat):Int))(hn:n=U.length) :
  j0e (P++(U++(M++(V++Q)))) a b n=some (P++(V++(M++(U++Q)))):=by
 have:=KU (n:=n) (a:=a) (b:=b) U V P M Q 0 h (by omega) (by omega) (by omega) hl (by omega) (by omega) (by omega);simp only[j0e];rw[show sU a b n 0 (P++(U++(M++(V++Q))))=_ from this];rfl
theorem FB{m:Int}:∀(n:Nat)(P U V Q:bE),U.length+V.length<=n->U≠[]->V≠[]->m=((P.length+U.length:Nat):Int)->P.length+U.length+V.length+Q.length<=1000000000->
  ∃(i:Int)(d:bE),uE m (U.length:Int) (V.length:Int) (P++(U++(V++Q)))=some (m,i,d)/\j0e d (w64 (m-i)) m i=some (P++(V++(U++Q)))
 |0,P,U,V,Q,hn,hU,_,_,_=>by
  have:=kc.2 hU;omega
 |n+1,P,U,V,Q,hn,hU,hV,hm,hl=>by
  have hu:=kc.2 hU;have hv:=kc.2 hV;rw[QK];simp only[j0n];by_cases aG:U.length=V.length
  .rw[show (((U.length:Nat):Int) != (V.length:Int))=false by rw[aG];exact je _,j5,bS];refine⟨_,_,rfl,?_⟩;have:=FA P U [] V Q aG (by simp;omega) (a:=w64 (m-(U.length:Int))) (b:=m) (n:=(U.length:Int)) (by rw[ak (by omega) (by omega)];omega) (by simp;omega) rfl;simpa using this
  .rw[show (((U.length:Nat):Int) != (V.length:Int))=true by simp;omega,j4];by_cases KV:V.length<U.length
   .rw[aw (show (U.length:Int)>(V.length:Int) by omega),j4];obtain⟨U1,U2,UE,KW⟩:∃U1 U2,U=U1++U2/\U1.length=V.length:=⟨U.take V.length,U.drop V.length,(jy ..).symm,by simp;omega⟩;subst UE;simp only[ja]at *;have hs:=FA P U1 U2 V Q KW (by omega) (a:=w64 (m-((U1.length+U2.length:Nat):Int))) (b:=m) (n:=(V.length:Int)) (by rw[ak (by omega) (by omega)];omega) (by omega) (by omega);simp only[jd]at hs ⊢;rw[hs];simp only[j0];rw[ak (x:=((U1.length+U2.length:Nat):Int)-(V.length:Int)) (by omega) (by omega),bR];obtain⟨i,d,h1,h2⟩:=FB (m:=m) n (P++V) U2 U1 Q (by omega) (λh=>by subst h;simp at KV;omega) (λh=>by subst h;simp at KW;omega) (by simp;omega) (by simp;omega);rw[show ((U1.length+U2.length:Nat):Int)-(V.length:Int)=(U2.length:Int) by omega,show ((V.length:Nat):Int)=(U1.length:Int) by omega];simp only[jd]at h1 h2;exact⟨i,d,h1,h2⟩
   .rw[ay (show¬(U.length:Int)>(V.length:Int) by omega),j5];obtain⟨V1,V2,UF,KX⟩:∃V1 V2,V=V1++V2/\V2.length=U.length:=⟨V.take (V.length-U.length),V.drop (V.length-U.length),(jy ..).symm,by simp;omega⟩;subst UF;simp only[ja]at *;have hs:=FA P U V1 V2 Q KX.symm (by omega) (a:=w64 (m-(U.length:Int))) (b:=w64 (w64 (m+((V1.length+V2.length:Nat):Int))-(U.length:Int))) (n:=(U.length:Int)) (by rw[ak (by omega) (by omega)];omega) (by rw[ak (x:=m+_) (by omega) (by omega),ak (by omega) (by omega)];omega) rfl;simp only[jd]at hs ⊢;rw[hs];simp only[j0];rw[ak (x:=((V1.length+V2.length:Nat):Int)-(U.length:Int)) (by omega) (by omega),bR];obtain⟨i,d,h1,h2⟩:=FB (m:=m) n P V2 V1 (U++Q) (by omega) (λh=>by subst h;simp at KX;omega) (λh=>by subst h;simp at KV aG;omega) (by omega) (by simp;omega);rw[show ((V1.length+V2.length:Nat):Int)-(U.length:Int)=(V1.length:Int) by omega,show ((U.length:Nat):Int)=(V2.length:Int) by omega];exact⟨i,d,h1,h2⟩
theorem UG(P U V Q:bE)(hU:U≠[])(hV:V≠[])(hl:P.length+U.length+V.length+Q.length<=1000000000){a m b:Int}(ha:a=P.length)(hm:m=((P.length+U.length:Nat):Int))(hb:b=((P.length+U.length+V.length:Nat):Int)) :
  j0m (P++(U++(V++Q))) a m b=some (P++(V++(U++Q))):=by
 obtain⟨i,d,h1,h2⟩:=FB (m:=m) _ P U V Q (jm _) hU hV hm hl;simp only[j0m];rw[ak (x:=m-a) (by omega) (by omega),ak (x:=b-m) (by omega) (by omega),show m-a=(U.length:Int) by omega,show b-m=(V.length:Int) by omega,h1];simp only[j0,h2]
section
variable(rec:bE->Int->Int->Int->Option bE)
theorem KY{e:Int}(x:kT):∀(B P Q:bE),e-1=((P.length+B.length:Nat):Int)->P.length+B.length+Q.length<=1000000000->
  qR rec e (P.length:Int) (P++x::(B++Q))=some (P++(B++x::Q))
 |[],P,Q,he,hl=>by
  rw[Ju];simp only[j0E];simp only[ku]at he;rw[ak (x:=e-1) (by omega) (by omega),ay (by omega),j5,bS];rfl
 |y::B,P,Q,he,hl=>by
  simp only[jn]at he hl;have hL:(P++x::(y::B++Q)).length=P.length+B.length+Q.length+2:=by simp;omega
  have e1:P++x::(y::B++Q)=(P++[x])++y::(B++Q):=by simp
  have g1:(P++x::(y::B++Q)).getD ((P.length:Int)+1).toNat dC=y:=by rw[e1,show ((P.length:Int)+1).toNat=(P++[x]).length by simp,ri]
  have g2:(P++x::(y::B++Q)).getD P.length dC=x:=ri _ _ _;have s1:(P++x::(y::B++Q)).set P.length y=(P++[y])++y::(B++Q):=by rw[rj];simp
  have s2:((P++[y])++y::(B++Q)).set ((P.length:Int)+1).toNat x=(P++[y])++x::(B++Q):=by rw[show ((P.length:Int)+1).toNat=(P++[y]).length by simp,rj]
  have ih:=KY (e:=e) x B (P++[y]) Q (by simp;omega) (by simp;omega);unfold dC at g1 g2;rw[Ju];simp only[j0E];rw[ak (x:=e-1) (by omega) (by omega),aw (by omega),ak (x:=(P.length:Int)+1) (by omega) (by omega),bG (show (0:Int)<=(P.length:Int)+1 by omega) (by rw[hL];omega),bG (show (0:Int)<=(P.length:Int) by omega) (by rw[hL];omega)];simp only[j4,j6,g1,g2];rw[show (P++x::(y::B++Q)).set P.length (y.1,y.2)=_ from s1];rw[bG (n:=((P++[y])++y::(B++Q)).length) (show (0:Int)<=(P.length:Int)+1 by omega) (by simp;omega),j4];rw[show ((P++[y])++y::(B++Q)).set ((P.length:Int)+1).toNat (x.1,x.2)=_ from s2,bR];rw[show (((P++[y]).length:Nat):Int)=(P.length:Int)+1 by simp]at ih;rw[ih];simp
theorem KZ{i:Int}(x:kT):∀(B P Q:bE),i=P.length->P.length+B.length+Q.length<=1000000000->
  qS rec i ((P.length+B.length:Nat):Int) (P++(B.reverse++x::Q))=some (P++x::(B.reverse++Q))
 |[],P,Q,hi,hl=>by
  rw[Jw];simp only[j0G];rw[ay (by simp;omega),j5,bS];rfl
 |y::B,P,Q,hi,hl=>by
  simp only[jn]at hl;have hL:(P++((y::B).reverse++x::Q)).length=P.length+B.length+Q.length+2:=by simp;omega
  have e1:P++((y::B).reverse++x::Q)=(P++B.reverse++[y])++x::Q:=by simp
  have e2:P++((y::B).reverse++x::Q)=(P++B.reverse)++y::(x::Q):=by simp
  have n1:(((P.length+(B.length+1):Nat):Int)-1).toNat=(P++B.reverse).length:=by simp;omega
  have n2:P.length+(B.length+1)=(P++B.reverse++[y]).length:=by simp
  have g1:(P++((y::B).reverse++x::Q)).getD (((P.length+(B.length+1):Nat):Int)-1).toNat dC=y:=by rw[e2,n1,ri]
  have g2:(P++((y::B).reverse++x::Q)).getD (P.length+(B.length+1)) dC=x:=by rw[e1,n2,ri]
  have s1:(P++((y::B).reverse++x::Q)).set (P.length+(B.length+1)) y=(P++B.reverse)++y::(y::Q):=by rw[e1,n2,rj];simp
  have s2:((P++B.reverse)++y::(y::Q)).set (((P.length+(B.length+1):Nat):Int)-1).toNat x=P++(B.reverse++x::(y::Q)):=by rw[n1,rj];simp
  have ih:=KZ (i:=i) x B P (y::Q) hi (by simp;omega);unfold dC at g1 g2;rw[Jw];simp only[j0G,jn];rw[aw (by omega),ak (x:=((P.length+(B.length+1):Nat):Int)-1) (by omega) (by omega),bG (show (0:Int)<=((P.length+(B.length+1):Nat):Int)-1 by omega) (by rw[hL];omega),bG (show (0:Int)<=((P.length+(B.length+1):Nat):Int) by omega) (by rw[hL];omega)];simp only[j4,j6,g1,g2];rw[show (P++((y::B).reverse++x::Q)).set (P.length+(B.length+1)) (y.1,y.2)=_ from s1];rw[bG (show (0:Int)<=((P.length+(B.length+1):Nat):Int)-1 by omega) (by simp;omega),j4];rw[show ((P++B.reverse)++y::(y::Q)).set (((P.length+(B.length+1):Nat):Int)-1).toNat (x.1,x.2)=_ from s2,bR];rw[show ((P.length+(B.length+1):Nat):Int)-1=((P.length+B.length:Nat):Int) by omega,ih];simp
variable{D:bE}(hD:eL D)(hL:D.length<=1000000000)
include hD hL
theorem UH{a m b:Nat}(ha:a<D.length)(w9:m<=b)(hb:b<=D.length)(e6:∀s t,m<=s->s<=t->t<b->aa (D.getD s dC)<=aa (D.getD t dC)) :
  ∃k,m<=k/\k<=b/\oT rec (a:Int) (m:Int) (b:Int) D=some ((a:Int),(k:Int),D)/\(∀t,m<=t->t<k->aa (D.getD t dC)<aa (D.getD a dC))/\∀t,k<=t->t<b->¬aa (D.getD t dC)<aa (D.getD a dC):=by
 refine x7 (λi j=>oT rec (a:Int) (i:Int) (j:Int) D) (λk=>((a:Int),(k:Int),D)) (λt=>aa (D.getD t dC)<aa (D.getD a dC)) m b (λi j h1 h2 h3=>?_) (λi h1 h2=>?_) (λs t h1 h2 h3 h4=>by have:=e6 s t h1 h2 h3;omega) (b-m) m b (jm _) (jm _) w9 (jm _) (λt h1 h2=>by omega) (λt h1 h2=>by omega)
 .rw[Jt];simp only[j0D];rw[aw (show (i:Int)<(j:Int) by omega),AQ (by omega),bG (show (0:Int)<=(((i+j)/2:Nat):Int) by omega) (by omega),bG (show (0:Int)<=(a:Int) by omega) (by omega)];simp only[j4,j6];have c:=AP (hD _ (uU (l:=D) (i:=(i+j)/2) (by omega))) (hD _ (uU ha));unfold dC at c ⊢;rw[c];simp only[j0];by_cases hp:aa (D.getD ((i+j)/2) ((0:Int),(0:Int)))<aa (D.getD a ((0:Int),(0:Int)))
  .rw[if_pos hp,aw (by omega),j4,ak (x:=(((i+j)/2:Nat):Int)+1) (by omega) (by omega),bR];rfl
  .rw[if_neg hp,ay (by omega),j5,bR]
 .rw[Jt];simp only[j0D];rw[ay (by omega),j5,bS]
theorem UI{a m:Nat}(hm:m<D.length)(UJ:a<=m)(e6:∀s t,a<=s->s<=t->t<m->aa (D.getD s dC)<=aa (D.getD t dC)) :
  ∃k,a<=k/\k<=m/\oU rec (m:Int) (a:Int) (m:Int) D=some ((m:Int),(k:Int),D)/\(∀t,a<=t->t<k->¬aa (D.getD m dC)<aa (D.getD t dC))/\∀t,k<=t->t<m->¬¬aa (D.getD m dC)<aa (D.getD t dC):=by
 refine x7 (λi j=>oU rec (m:Int) (i:Int) (j:Int) D) (λk=>((m:Int),(k:Int),D)) (λt=>¬aa (D.getD m dC)<aa (D.getD t dC)) a m (λi j h1 h2 h3=>?_) (λi h1 h2=>?_) (λs t h1 h2 h3 h4=>by have:=e6 s t h1 h2 h3;omega) (m-a) a m (jm _) (jm _) UJ (jm _) (λt h1 h2=>by omega) (λt h1 h2=>by omega)
 .rw[Jv];simp only[j0F];rw[aw (show (i:Int)<(j:Int) by omega),AQ (by omega),bG (show (0:Int)<=(m:Int) by omega) (by omega),bG (show (0:Int)<=(((i+j)/2:Nat):Int) by omega) (by omega)];simp only[j4,j6];have c:=AP (hD _ (uU hm)) (hD _ (uU (l:=D) (i:=(i+j)/2) (by omega)));unfold dC at c ⊢;rw[c];simp only[j0];by_cases hp:aa (D.getD m ((0:Int),(0:Int)))<aa (D.getD ((i+j)/2) ((0:Int),(0:Int)))
  .rw[if_neg (by omega),aw (by omega)];simp only[jc,j5,bR]
  .rw[if_pos hp,ay (by omega)];simp only[jj,j4];rw[ak (x:=(((i+j)/2:Nat):Int)+1) (by omega) (by omega),bR];rfl
 .rw[Jv];simp only[j0F];rw[ay (by omega),j5,bS]
theorem K0{lo hi p:Nat}{s1 s2 s3 s18 s19:Int}(UK:lo<=hi)(hh:hi<=D.length)(hp:∀c,lo<=c->c<hi->c<=p/\p-c<D.length)(yu:p<=2000000000)
  (e6:∀s t,lo<=s->s<=t->t<hi->¬aa (D.getD (p-t) dC)<aa (D.getD t dC)->¬aa (D.getD (p-s) dC)<aa (D.getD s dC)) :
  ∃k,lo<=k/\k<=hi/\nB rec s1 s2 s3 s18 s19 (lo:Int) (hi:Int) (p:Int) D=some (s1,s2,s3,s18,s19,(k:Int),D)/\(∀t,lo<=t->t<k->¬aa (D.getD (p-t) dC)<aa (D.getD t dC))/\∀t,k<=t->t<hi->¬¬aa (D.getD (p-t) dC)<aa (D.getD t dC):=by
 refine x7 (λi j=>nB rec s1 s2 s3 s18 s19 (i:Int) (j:Int) (p:Int) D) (λk=>(s1,s2,s3,s18,s19,(k:Int),D)) (λt=>¬aa (D.getD (p-t) dC)<aa (D.getD t dC)) lo hi (λi j h1 h2 h3=>?_) (λi h1 h2=>?_) e6 (hi-lo) lo hi (jm _) (jm _) UK (jm _) (λt h1 h2=>by omega) (λt h1 h2=>by omega)
 .have UL:=hp ((i+j)/2) (by omega) (by omega);rw[Jy];simp only[j0H];rw[aw (show (i:Int)<(j:Int) by omega),AQ (by omega),ak (x:=(p:Int)-(((i+j)/2:Nat):Int)) (by omega) (by omega),bG (show (0:Int)<=(p:Int)-(((i+j)/2:Nat):Int) by omega) (by omega),bG (show (0:Int)<=(((i+j)/2:Nat):Int) by omega) (by omega)];simp only[j4,j6];rw[show ((p:Int)-(((i+j)/2:Nat):Int)).toNat=p-(i+j)/2 by omega];have c:=AP (hD _ (uU (l:=D) (i:=p-(i+j)/2) UL.2)) (hD _ (uU (l:=D) (i:=(i+j)/2) (by omega)));unfold dC at c ⊢;rw[c];simp only[j0];by_cases hq:aa (D.getD (p-(i+j)/2) ((0:Int),(0:Int)))<aa (D.getD ((i+j)/2) ((0:Int),(0:Int)))
  .rw[if_neg (by omega),aw (by omega)];simp only[jc,j5,bR]
  .rw[if_pos hq,ay (by omega)];simp only[jj,j4];rw[ak (x:=(((i+j)/2:Nat):Int)+1) (by omega) (by omega),bR];rfl
 .rw[Jy];simp only[j0H];rw[ay (by omega),j5,bS]
end
end Go.Proofs.Pw
