/- Oc Hi by a key: Bq, Hj, blocks. -/
import Derived.Test.YtaieocafhcjelaaGreatELD
import Derived.Test.YtaieocafhcjelaaGreatEPA
open Go Go.Lft
namespace Go.Proofs.Pw
section
variable{α:Type}(key:α->Int)
def cm(x:α):List α->List α
 |[]=>[x]
 |y::ys=>if key x<key y then x::y::ys else y::cm x ys
def br(l:List α):List α:=l.foldl (λacc x=>cm key x acc) []
def fj:List α->List α->List α
 |[],bs=>bs
 |a::fF,bs=>go a (fj fF) fF bs
where go (a:α) (f:List α->List α) (fF:List α):List α->List α
 |[]=>a::fF
 |b::bs=>if key b<key a then b::go a f fF bs else a::f (b::bs)
theorem nu:∀fF:List α,fj key fF []=fF
 |[]=>rfl
 |_::_=>rfl
theorem mM(a b:α)(fF bs:List α):fj key (a::fF) (b::bs)=if key b<key a then b::fj key (a::fF) bs else a::fj key fF (b::bs):=rfl
variable{key}
theorem Hk(x:α):∀(A B:List α),cm key x (fj key A B)=fj key A (cm key x B)
 |[],_=>rfl
 |[a],[]=>by
  simp only[nu,cm,mM];split<;>rfl
 |a::a'::fF,[]=>by
  have ih:=Hk x (a'::fF) [];rw[nu]at ih ⊢;rw[show cm key x ([]:List α)=[x] from rfl]at ih ⊢;rw[mM];rw[cm];split
  .rw[nu]
  .rw[ih]
 |a::fF,b::bs=>by
  have i1:=Hk x (a::fF) bs;have i2:=Hk x fF (b::bs);rw[mM];by_cases h1:key b<key a
  .rw[if_pos h1];simp only[cm];by_cases h2:key x<key b
   .rw[if_pos h2,if_pos h2,mM,if_pos (show key x<key a by omega),mM,if_pos h1]
   .rw[if_neg h2,if_neg h2,mM,if_pos h1,i1]
  .rw[if_neg h1];rw[show cm key x (a::fj key fF (b::bs))=if key x<key a then x::a::fj key fF (b::bs) else a::cm key x (fj key fF (b::bs)) from rfl,i2];rw[show cm key x (b::bs)=if key x<key b then x::b::bs else b::cm key x bs from rfl];by_cases h2:key x<key b
   .rw[if_pos h2];by_cases h3:key x<key a
    .rw[if_pos h3,mM,if_pos h3,mM,if_neg h1]
    .rw[if_neg h3,mM,if_neg h3]
   .rw[if_neg h2];rw[if_neg (show¬key x<key a by omega),mM,if_neg h1]
termination_by A B=>A.length+B.length
theorem Wu:∀(ys A B:List α),ys.foldl (λacc x=>cm key x acc) (fj key A B)=fj key A (ys.foldl (λacc x=>cm key x acc) B)
 |[],_,_=>rfl
 |y::ys,A,B=>by
  simp only[vk];rw[Hk,Wu ys A]
theorem Ww(xs ys:List α):br key (xs++ys)=fj key (br key xs) (br key ys):=by
 have h:=Wu (key:=key) ys (br key xs) [];rw[nu]at h;simp only[br,List.foldl_append]at h ⊢;exact h
theorem tV:∀(A1 B1 A2 B2:List α),(∀x∈A2,∀y∈B1,key y<key x)->(∀x∈A1,∀y∈B2,¬key y<key x)->
  fj key (A1++A2) (B1++B2)=fj key A1 B1++fj key A2 B2
 |[],[],_,_,_,_=>rfl
 |[],b::bs,[],B2,_,_=>rfl
 |[],b::bs,a::fF,B2,h1,h2=>by
  have ih:=tV [] bs (a::fF) B2 (λx hx y hy=>h1 x hx y (by simp[hy])) h2;rw[jl]at ih;rw[jl,qd,mM,if_pos (h1 a (by simp) b (by simp)),ih];rfl
 |a::fF,[],A2,[],_,_=>by simp only[ka,nu]
 |a::fF,[],A2,b::bs,h1,h2=>by
  have ih:=tV fF [] A2 (b::bs) h1 (λx hx y hy=>h2 x (by simp[hx]) y hy);rw[jl,nu]at ih;rw[jl,qd,mM,if_neg (h2 a (by simp) b (by simp)),ih,nu];rfl
 |a::fF,b::bs,A2,B2,h1,h2=>by
  have i1:=tV (a::fF) bs A2 B2 (λx hx y hy=>h1 x hx y (by simp[hy])) h2;have i2:=tV fF (b::bs) A2 B2 h1 (λx hx y hy=>h2 x (by simp[hx]) y hy);rw[qd,qd,mM,mM];split
  .rw[<-qd,i1];rfl
  .rw[<-qd,i2];rfl
termination_by A1 B1=>A1.length+B1.length
theorem jzw(x:α)(B1 B2:List α)(h1:∀y∈B1,key y<key x)(h2:∀y∈B2,¬key y<key x):fj key [x] (B1++B2)=B1++x::B2:=by
 have e1:=tV (key:=key) [] B1 [x] B2 (by simpa using h1) (by simp);have e2:=tV (key:=key) [x] [] [] B2 (by simp) (by simpa using h2);rw[jl]at e1;rw[ka,jl,nu]at e2;rw[e1,e2];rfl
theorem jxr(y:α)(A1 A2:List α)(h1:∀x∈A1,¬key y<key x)(h2:∀x∈A2,key y<key x):fj key (A1++A2) [y]=A1++y::A2:=by
 have e1:=tV (key:=key) A1 [] A2 [y] (by simp) (by simpa using h1);have e2:=tV (key:=key) [] [y] A2 [] (by simpa using h2) (by simp);rw[jl,nu]at e1;rw[jl,ka,nu]at e2;rw[e1,e2];rfl
theorem EE(x:α):∀l:List α,(cm key x l).Perm (x::l)
 |[]=>List.Perm.refl _
 |y::ys=>by
  unfold cm;split
  .exact List.Perm.refl _
  .exact((EE x ys).cons y).trans (List.Perm.swap x y ys)
theorem Wx:∀(l acc:List α),(l.foldl (λacc x=>cm key x acc) acc).Perm (acc++l)
 |[],acc=>by simp
 |x::xs,acc=>by
  simp only[vk];refine(Wx xs (cm key x acc)).trans ?_;refine((EE x acc).append_right xs).trans ?_;rw[qd];exact List.perm_middle.symm
theorem rY(l:List α):(br key l).Perm l:=by
 have:=Wx (key:=key) l [];rwa[jl]at this
theorem rZ(l:List α):(br key l).length=l.length:=(rY l).length_eq
theorem Od{R:α->α->Prop}(x:α):∀l:List α,l.Pairwise (λy z=>key y<key z\/key y=key z/\R y z)->(∀y∈l,R y x)->(cm key x l).Pairwise (λy z=>key y<key z\/key y=key z/\R y z)
 |[],_,_=>zg _ _
 |y::ys,h,hr=>by
  have hc:=js.1 h;unfold cm;split
  .rename_i aq;refine js.2 ⟨λz hz=>?_,h⟩;rcases je.1 hz with rfl|hz
   .exact Or.inl aq
   .rcases hc.1 z hz with h1|h1
    .exact Or.inl (by omega)
    .exact Or.inl (by omega)
  .rename_i nK;refine js.2 ⟨λz hz=>?_,Od x ys hc.2 (λw hw=>hr w (by simp[hw]))⟩;rcases je.1 ((EE x ys).mem_iff.1 hz) with rfl|hz
   .by_cases he:key y=key z
    .exact Or.inr ⟨he,hr y (by simp)⟩
    .exact Or.inl (by omega)
   .exact hc.1 z hz
theorem Wy{R:α->α->Prop}:∀(l acc:List α),acc.Pairwise (λy z=>key y<key z\/key y=key z/\R y z)->(∀y∈acc,∀z∈l,R y z)->l.Pairwise R->
  (l.foldl (λacc x=>cm key x acc) acc).Pairwise (λy z=>key y<key z\/key y=key z/\R y z)
 |[],_,h,_,_=>h
 |x::xs,acc,h,hr,hl=>by
  simp only[vk];have hc:=js.1 hl;refine Wy xs _ (Od x acc h (λy hy=>hr y hy x (by simp))) (λy hy z hz=>?_) hc.2;rcases je.1 ((EE x acc).mem_iff.1 hy) with rfl|hy
  .exact hc.1 z hz
  .exact hr y hy z (by simp[hz])
theorem jzx{R:α->α->Prop}{l:List α}(h:l.Pairwise R):(br key l).Pairwise (λy z=>key y<key z\/key y=key z/\R y z):=
 Wy l [] List.Pairwise.nil (by simp) h
theorem jzy(l:List α):(br key l).Pairwise (λy z=>key y<=key z):=
 (jzx (R:=λ_ _=>True) (l:=l) (List.pairwise_of_forall (λ_ _=>trivial))).imp (λh=>by omega)
variable(key)
inductive jH(n:Nat):List α->List α->Prop
 |last (l:List α):l.length<n->jH n l (br key l)
 |more (x l d:List α):x.length=n->jH n l d->jH n (x++l) (br key x++d)
variable{key}
theorem jH.len{n:Nat}{l d:List α}(h:jH key n l d):d.length=l.length:=by
 induction h with
 |last l _=>exact rZ l
 |more x l d hx _ ih=>simp[rZ,ih]
theorem jH.all{n:Nat}{l d:List α}(h:jH key n l d)(hl:l.length<=n):d=br key l:=by
 cases h with
 |last _ _=>rfl
 |more x l d hx hb=>have hd:=hb.len;simp only[ja]at hl;have h0:l=[]:=km.1 (by omega);subst h0;have h1:d=[]:=km.1 (by simpa using hd);subst h1;simp
end
abbrev lg:=Int×(Int×(Int×(Int×Int)))
abbrev bL:=List lg
def ah(x:lg):Int:=x.2.2.2.1
def iC(l:bL):Prop:=∀x∈l, -1000000000000<=ah x/\ah x<=1000000000000
def dD(l:bL):Prop:=l.Pairwise λx y=>ah x<=ah y
theorem iC.perm{l r:bL}(h:iC l)(hp:r.Perm l):iC r:=λx hx=>h x (hp.mem_iff.1 hx)
theorem iC.of{l r:bL}(h:iC l)(hp:∀x∈r,x∈l):iC r:=λx hx=>h x (hp x hx)
theorem Hl{x y:lg}(hx : -1000000000000<=ah x/\ah x<=1000000000000)(hy : -1000000000000<=ah y/\ah y<=1000000000000) :
  j3G (x.1,(x.2.1,(x.2.2.1,(x.2.2.2.1,x.2.2.2.2)))) (y.1,(y.2.1,(y.2.2.1,(y.2.2.2.1,y.2.2.2.2))))=some (ah x-ah y):=by
 simp only[j3G];unfold ah at *;rw[ai (by omega) (by omega)]
theorem EF{β:Type}(F:Nat->Nat->Option β)(fin:Nat->β)(p:Nat->Prop)[DecidablePred p](lo hi:Nat)
  (dP:∀i j,lo<=i->i<j->j<=hi->F i j=if p ((i+j)/2) then F ((i+j)/2+1) j else F i ((i+j)/2))
  (dZ:∀i,lo<=i->i<=hi->F i i=some (fin i))(mono:∀s t,lo<=s->s<=t->t<hi->p t->p s) :
  ∀(n i j:Nat),j-i<=n->lo<=i->i<=j->j<=hi->(∀t,lo<=t->t<i->p t)->(∀t,j<=t->t<hi->¬p t)->
   ∃k,i<=k/\k<=j/\F i j=some (fin k)/\(∀t,lo<=t->t<k->p t)/\∀t,k<=t->t<hi->¬p t
 |0,i,j,hn,h1,h2,h3,h4,h5=>by
  obtain rfl:i=j:=by omega
  exact⟨i,jg _,jg _,dZ i h1 h3,h4,h5⟩
 |n+1,i,j,hn,h1,h2,h3,h4,h5=>by
  by_cases dK:i=j
  .subst dK;exact⟨i,jg _,jg _,dZ i h1 h3,h4,h5⟩
  .rw[dP i j h1 (by omega) h3];by_cases hp:p ((i+j)/2)
   .rw[if_pos hp];obtain⟨k,k1,k2,k3⟩:=EF F fin p lo hi dP dZ mono n ((i+j)/2+1) j (by omega) (by omega) (by omega) h3 (λt t1 t2=>mono t _ t1 (by omega) (by omega) hp) h5;exact⟨k,by omega,k2,k3⟩
   .rw[if_neg hp];obtain⟨k,k1,k2,k3⟩:=EF F fin p lo hi dP dZ mono n i ((i+j)/2) (by omega) h1 (by omega) (by omega) h4 (λt t1 t2 hq=>hp (mono _ t (by omega) t1 t2 hq));exact⟨k,k1,by omega,k3⟩
theorem Hm{a b:Nat}(h:a+b<=4000000000):w64 (Int.fdiv (IntKind.wrap .u64 (w64 ((a:Int)+(b:Int)))) 2)=(((a+b)/2:Nat):Int):=by
 rw[ai (x:=(a:Int)+b) (by omega) (by omega),show IntKind.wrap .u64 ((a:Int)+(b:Int))=(a:Int)+(b:Int) from IntWalk.u64_in _ ⟨by omega,by omega⟩,Int.fdiv_eq_ediv_of_nonneg _ (by omega),ai (by omega) (by omega)];omega
def dC:lg:=(0,(0,(0,(0,0))))
theorem wc(P R:bL)(x:lg):(P++x::R).getD P.length dC=x:=by
 rw[List.getD_eq_getElem?_getD,k5 (by simp)];simp
theorem we(P R:bL)(x y:lg):(P++x::R).set P.length y=P++y::R:=by
 rw[zp _ _ (by simp)];simp
theorem Br{l:bL}{i:Nat}(h:i<l.length):l.getD i dC∈l:=by
 rw[List.getD_eq_getElem?_getD,jj h];exact jh h
theorem Wz(P A R:bL)(i:Nat)(h:i<A.length):(P++(A++R)).getD (P.length+i) dC=A.getD i dC:=by
 rw[List.getD_eq_getElem?_getD,List.getD_eq_getElem?_getD,k5 (by omega),show P.length+i-P.length=i by omega,List.getElem?_append_left h]
theorem wg{A:bL}(h:dD A){i j:Nat}(dK:i<=j)(hj:j<A.length):ah (A.getD i dC)<=ah (A.getD j dC):=by
 rw[List.getD_eq_getElem?_getD,List.getD_eq_getElem?_getD,jj hj,jj (show i<A.length by omega)];by_cases he:i=j
 .subst he;exact kg _
 .exact ky.1 h i j (by omega) hj (by omega)
theorem Hn{A:bL}{k:Nat}{x:lg}(h:x∈A.take k):∃i,i<k/\i<A.length/\x=A.getD i dC:=by
 obtain⟨i,hi,rfl⟩:=qz h;simp only[ql]at hi;exact⟨i,by omega,by omega,by rw[List.getElem_take,List.getD_eq_getElem?_getD,jj (by omega)];rfl⟩
theorem Ho{A:bL}{k:Nat}{x:lg}(h:x∈A.drop k):∃i,k<=i/\i<A.length/\x=A.getD i dC:=by
 obtain⟨i,hi,rfl⟩:=qz h;simp only[zh]at hi;exact⟨k+i,by omega,by omega,by rw[List.getElem_drop,List.getD_eq_getElem?_getD,jj (by omega)];rfl⟩
theorem WA{n a b:Int}:∀(U V P M Q:bL)(k:Nat),U.length=V.length->(k:Int)+U.length=n->a+k=P.length->b+k=((P.length+U.length+M.length:Nat):Int)->P.length+U.length+M.length+V.length+Q.length<=1000000000->0<=a->0<=b->k<=1000000000->
  ym a b n (k:Int) (P++(U++(M++(V++Q))))=some (P++(V++(M++(U++Q))))
 |[],[],P,M,Q,k,_,hn,ha,hb,hl,_,_,_=>by
  rw[SS];simp only[j1k];simp only[kq]at hn;rw[al (by omega),j6,aW]
 |[],_::_,_,_,_,_,h,_,_,_,_,_,_,_=>by simp at h
 |_::_,[],_,_,_,_,h,_,_,_,_,_,_,_=>by simp at h
 |x::U,y::V,P,M,Q,k,hUV,hn,ha,hb,hl,tc,ew,hk=>by
  simp only[jk]at hUV hn hb hl;have Oe:U.length=V.length:=by omega
  have e1:P++(x::U++(M++(y::V++Q)))=(P++x::(U++M))++y::(V++Q):=by simp
  have e2:P++(x::U++(M++(y::V++Q)))=P++x::(U++(M++(y::V++Q))):=by simp
  have hL:(P++(x::U++(M++(y::V++Q)))).length=P.length+U.length+1+M.length+V.length+1+Q.length:=by simp;omega
  have g1:(P++(x::U++(M++(y::V++Q)))).getD (b+k).toNat dC=y:=by rw[e1,show (b+k).toNat=(P++x::(U++M)).length by simp;omega,wc]
  have g2:(P++(x::U++(M++(y::V++Q)))).getD (a+k).toNat dC=x:=by rw[e2,show (a+k).toNat=P.length by omega,wc]
  have s1:(P++(x::U++(M++(y::V++Q)))).set (a+k).toNat y=(P++y::(U++M))++y::(V++Q):=by rw[e2,show (a+k).toNat=P.length by omega,we];simp
  have s2:((P++y::(U++M))++y::(V++Q)).set (b+k).toNat x=(P++[y])++(U++((M++[x])++(V++Q))):=by rw[show (b+k).toNat=(P++y::(U++M)).length by simp;omega,we];simp
  have ih:=WA (n:=n) (a:=a) (b:=b) U V (P++[y]) (M++[x]) Q (k+1) Oe (by omega) (by simp;omega) (by simp;omega) (by simp;omega) tc ew (by omega);unfold dC at g1 g2;rw[SS];simp only[j1k];rw[aj (show (k:Int)<n by omega),ai (x:=a+(k:Int)) (by omega) (by omega),ai (x:=b+(k:Int)) (by omega) (by omega),aX (by omega) (by rw[hL];omega),aX (show (0:Int)<=a+(k:Int) by omega) (by rw[hL];omega)];simp only[j5,g1,g2];rw[show (P++(x::U++(M++(y::V++Q)))).set (a+(k:Int)).toNat (y.1,(y.2.1,(y.2.2.1,(y.2.2.2.1,y.2.2.2.2))))=_ from s1];rw[aX (show (0:Int)<=b+(k:Int) by omega) (by simp;omega),j5];rw[show ((P++y::(U++M))++y::(V++Q)).set (b+(k:Int)).toNat (x.1,(x.2.1,(x.2.2.1,(x.2.2.2.1,x.2.2.2.2))))=_ from s2];rw[ai (x:=(k:Int)+1) (by omega) (by omega),aJ];rw[show ((k+1:Nat):Int)=(k:Int)+1 by omega]at ih;rw[ih];simp
theorem Of(P U M V Q:bL)(h:U.length=V.length)(hl:P.length+U.length+M.length+V.length+Q.length<=1000000000){a b n:Int}(ha:a=P.length)(hb:b=((P.length+U.length+M.length:Nat):Int))(hn:n=U.length) :
  j0r (P++(U++(M++(V++Q)))) a b n=some (P++(V++(M++(U++Q)))):=by
 have:=WA (n:=n) (a:=a) (b:=b) U V P M Q 0 h (by omega) (by omega) (by omega) hl (by omega) (by omega) (by omega);simp only[j0r];rw[show ym a b n 0 (P++(U++(M++(V++Q))))=_ from this];rfl
theorem Og{m:Int}:∀(n:Nat)(P U V Q:bL),U.length+V.length<=n->U≠[]->V≠[]->m=((P.length+U.length:Nat):Int)->P.length+U.length+V.length+Q.length<=1000000000->
  ∃(i:Int)(d:bL),AV m (U.length:Int) (V.length:Int) (P++(U++(V++Q)))=some (m,i,d)/\j0r d (w64 (m-i)) m i=some (P++(V++(U++Q)))
 |0,P,U,V,Q,hn,hU,_,_,_=>by
  have:=qa.2 hU;omega
 |n+1,P,U,V,Q,hn,hU,hV,hm,hl=>by
  have hu:=qa.2 hU;have hv:=qa.2 hV;rw[j9i];simp only[j0K];by_cases ba:U.length=V.length
  .rw[show (((U.length:Nat):Int) != (V.length:Int))=false by rw[ba];exact jp _,j6,aW];refine⟨_,_,rfl,?_⟩;have:=Of P U [] V Q ba (by simp;omega) (a:=w64 (m-(U.length:Int))) (b:=m) (n:=(U.length:Int)) (by rw[ai (by omega) (by omega)];omega) (by simp;omega) rfl;simpa using this
  .rw[show (((U.length:Nat):Int) != (V.length:Int))=true by simp;omega,j5];by_cases yM:V.length<U.length
   .rw[aj (show (U.length:Int)>(V.length:Int) by omega),j5];obtain⟨U1,U2,hUe,WB⟩:∃U1 U2,U=U1++U2/\U1.length=V.length:=⟨U.take V.length,U.drop V.length,(ki ..).symm,by simp;omega⟩;subst hUe;simp only[ja]at *;have hs:=Of P U1 U2 V Q WB (by omega) (a:=w64 (m-((U1.length+U2.length:Nat):Int))) (b:=m) (n:=(V.length:Int)) (by rw[ai (by omega) (by omega)];omega) (by omega) (by omega);simp only[jd]at hs ⊢;rw[hs];simp only[j3];rw[ai (x:=((U1.length+U2.length:Nat):Int)-(V.length:Int)) (by omega) (by omega),aJ];obtain⟨i,d,h1,h2⟩:=Og (m:=m) n (P++V) U2 U1 Q (by omega) (λh=>by subst h;simp at yM;omega) (λh=>by subst h;simp at WB;omega) (by simp;omega) (by simp;omega);rw[show ((U1.length+U2.length:Nat):Int)-(V.length:Int)=(U2.length:Int) by omega,show ((V.length:Nat):Int)=(U1.length:Int) by omega];simp only[jd]at h1 h2;exact⟨i,d,h1,h2⟩
   .rw[al (show¬(U.length:Int)>(V.length:Int) by omega),j6];obtain⟨V1,V2,hVe,WC⟩:∃V1 V2,V=V1++V2/\V2.length=U.length:=⟨V.take (V.length-U.length),V.drop (V.length-U.length),(ki ..).symm,by simp;omega⟩;subst hVe;simp only[ja]at *;have hs:=Of P U V1 V2 Q WC.symm (by omega) (a:=w64 (m-(U.length:Int))) (b:=w64 (w64 (m+((V1.length+V2.length:Nat):Int))-(U.length:Int))) (n:=(U.length:Int)) (by rw[ai (by omega) (by omega)];omega) (by rw[ai (x:=m+_) (by omega) (by omega),ai (by omega) (by omega)];omega) rfl;simp only[jd]at hs ⊢;rw[hs];simp only[j3];rw[ai (x:=((V1.length+V2.length:Nat):Int)-(U.length:Int)) (by omega) (by omega),aJ];obtain⟨i,d,h1,h2⟩:=Og (m:=m) n P V2 V1 (U++Q) (by omega) (λh=>by subst h;simp at WC;omega) (λh=>by subst h;simp at yM ba;omega) (by omega) (by simp;omega);rw[show ((V1.length+V2.length:Nat):Int)-(U.length:Int)=(V1.length:Int) by omega,show ((U.length:Nat):Int)=(V2.length:Int) by omega];exact⟨i,d,h1,h2⟩
theorem jAU(P U V Q:bL)(hU:U≠[])(hV:V≠[])(hl:P.length+U.length+V.length+Q.length<=1000000000){a m b:Int}(ha:a=P.length)(hm:m=((P.length+U.length:Nat):Int))(hb:b=((P.length+U.length+V.length:Nat):Int)) :
  j0R (P++(U++(V++Q))) a m b=some (P++(V++(U++Q))):=by
 obtain⟨i,d,h1,h2⟩:=Og (m:=m) _ P U V Q (jg _) hU hV hm hl;simp only[j0R];rw[ai (x:=m-a) (by omega) (by omega),ai (x:=b-m) (by omega) (by omega),show m-a=(U.length:Int) by omega,show b-m=(V.length:Int) by omega,h1];simp only[j3,h2]
section
variable(rec:bL->Int->Int->Int->Option bL)
theorem WD{e:Int}(x:lg):∀(B P Q:bL),e-1=((P.length+B.length:Nat):Int)->P.length+B.length+Q.length<=1000000000->
  vO rec e (P.length:Int) (P++x::(B++Q))=some (P++(B++x::Q))
 |[],P,Q,he,hl=>by
  rw[SV];simp only[j1n];simp only[kq]at he;rw[ai (x:=e-1) (by omega) (by omega),al (by omega),j6,aW];rfl
 |y::B,P,Q,he,hl=>by
  simp only[jk]at he hl;have hL:(P++x::(y::B++Q)).length=P.length+B.length+Q.length+2:=by simp;omega
  have e1:P++x::(y::B++Q)=(P++[x])++y::(B++Q):=by simp
  have g1:(P++x::(y::B++Q)).getD ((P.length:Int)+1).toNat dC=y:=by rw[e1,show ((P.length:Int)+1).toNat=(P++[x]).length by simp,wc]
  have g2:(P++x::(y::B++Q)).getD P.length dC=x:=wc _ _ _;have s1:(P++x::(y::B++Q)).set P.length y=(P++[y])++y::(B++Q):=by rw[we];simp
  have s2:((P++[y])++y::(B++Q)).set ((P.length:Int)+1).toNat x=(P++[y])++x::(B++Q):=by rw[show ((P.length:Int)+1).toNat=(P++[y]).length by simp,we]
  have ih:=WD (e:=e) x B (P++[y]) Q (by simp;omega) (by simp;omega);unfold dC at g1 g2;rw[SV];simp only[j1n];rw[ai (x:=e-1) (by omega) (by omega),aj (by omega),ai (x:=(P.length:Int)+1) (by omega) (by omega),aX (show (0:Int)<=(P.length:Int)+1 by omega) (by rw[hL];omega),aX (show (0:Int)<=(P.length:Int) by omega) (by rw[hL];omega)];simp only[j5,j7,g1,g2];rw[show (P++x::(y::B++Q)).set P.length (y.1,(y.2.1,(y.2.2.1,(y.2.2.2.1,y.2.2.2.2))))=_ from s1];rw[aX (n:=((P++[y])++y::(B++Q)).length) (show (0:Int)<=(P.length:Int)+1 by omega) (by simp;omega),j5];rw[show ((P++[y])++y::(B++Q)).set ((P.length:Int)+1).toNat (x.1,(x.2.1,(x.2.2.1,(x.2.2.2.1,x.2.2.2.2))))=_ from s2,aJ];rw[show (((P++[y]).length:Nat):Int)=(P.length:Int)+1 by simp]at ih;rw[ih];simp
theorem WE{i:Int}(x:lg):∀(B P Q:bL),i=P.length->P.length+B.length+Q.length<=1000000000->
  vP rec i ((P.length+B.length:Nat):Int) (P++(B.reverse++x::Q))=some (P++x::(B.reverse++Q))
 |[],P,Q,hi,hl=>by
  rw[SY];simp only[j1p];rw[al (by simp;omega),j6,aW];rfl
 |y::B,P,Q,hi,hl=>by
  simp only[jk]at hl;have hL:(P++((y::B).reverse++x::Q)).length=P.length+B.length+Q.length+2:=by simp;omega
  have e1:P++((y::B).reverse++x::Q)=(P++B.reverse++[y])++x::Q:=by simp
  have e2:P++((y::B).reverse++x::Q)=(P++B.reverse)++y::(x::Q):=by simp
  have n1:(((P.length+(B.length+1):Nat):Int)-1).toNat=(P++B.reverse).length:=by simp;omega
  have n2:P.length+(B.length+1)=(P++B.reverse++[y]).length:=by simp
  have g1:(P++((y::B).reverse++x::Q)).getD (((P.length+(B.length+1):Nat):Int)-1).toNat dC=y:=by rw[e2,n1,wc]
  have g2:(P++((y::B).reverse++x::Q)).getD (P.length+(B.length+1)) dC=x:=by rw[e1,n2,wc]
  have s1:(P++((y::B).reverse++x::Q)).set (P.length+(B.length+1)) y=(P++B.reverse)++y::(y::Q):=by rw[e1,n2,we];simp
  have s2:((P++B.reverse)++y::(y::Q)).set (((P.length+(B.length+1):Nat):Int)-1).toNat x=P++(B.reverse++x::(y::Q)):=by rw[n1,we];simp
  have ih:=WE (i:=i) x B P (y::Q) hi (by simp;omega);unfold dC at g1 g2;rw[SY];simp only[j1p,jk];rw[aj (by omega),ai (x:=((P.length+(B.length+1):Nat):Int)-1) (by omega) (by omega),aX (show (0:Int)<=((P.length+(B.length+1):Nat):Int)-1 by omega) (by rw[hL];omega),aX (show (0:Int)<=((P.length+(B.length+1):Nat):Int) by omega) (by rw[hL];omega)];simp only[j5,j7,g1,g2];rw[show (P++((y::B).reverse++x::Q)).set (P.length+(B.length+1)) (y.1,(y.2.1,(y.2.2.1,(y.2.2.2.1,y.2.2.2.2))))=_ from s1];rw[aX (show (0:Int)<=((P.length+(B.length+1):Nat):Int)-1 by omega) (by simp;omega),j5];rw[show ((P++B.reverse)++y::(y::Q)).set (((P.length+(B.length+1):Nat):Int)-1).toNat (x.1,(x.2.1,(x.2.2.1,(x.2.2.2.1,x.2.2.2.2))))=_ from s2,aJ];rw[show ((P.length+(B.length+1):Nat):Int)-1=((P.length+B.length:Nat):Int) by omega,ih];simp
variable{D:bL}(hD:iC D)(hL:D.length<=1000000000)
include hD hL
theorem jAV{a m b:Nat}(ha:a<D.length)(hmb:m<=b)(hb:b<=D.length)(gT:∀s t,m<=s->s<=t->t<b->ah (D.getD s dC)<=ah (D.getD t dC)) :
  ∃k,m<=k/\k<=b/\tG rec (a:Int) (m:Int) (b:Int) D=some ((a:Int),(k:Int),D)/\(∀t,m<=t->t<k->ah (D.getD t dC)<ah (D.getD a dC))/\∀t,k<=t->t<b->¬ah (D.getD t dC)<ah (D.getD a dC):=by
 refine EF (λi j=>tG rec (a:Int) (i:Int) (j:Int) D) (λk=>((a:Int),(k:Int),D)) (λt=>ah (D.getD t dC)<ah (D.getD a dC)) m b (λi j h1 h2 h3=>?_) (λi h1 h2=>?_) (λs t h1 h2 h3 h4=>by have:=gT s t h1 h2 h3;omega) (b-m) m b (jg _) (jg _) hmb (jg _) (λt h1 h2=>by omega) (λt h1 h2=>by omega)
 .rw[SU];simp only[j1m];rw[aj (show (i:Int)<(j:Int) by omega),Hm (by omega),aX (show (0:Int)<=(((i+j)/2:Nat):Int) by omega) (by omega),aX (show (0:Int)<=(a:Int) by omega) (by omega)];simp only[j5,j7];have c:=Hl (hD _ (Br (l:=D) (i:=(i+j)/2) (by omega))) (hD _ (Br ha));unfold dC at c ⊢;rw[c];simp only[j3];by_cases hp:ah (D.getD ((i+j)/2) ((0:Int),((0:Int),((0:Int),((0:Int),(0:Int))))))<ah (D.getD a ((0:Int),((0:Int),((0:Int),((0:Int),(0:Int))))))
  .rw[if_pos hp,aj (by omega),j5,ai (x:=(((i+j)/2:Nat):Int)+1) (by omega) (by omega),aJ];rfl
  .rw[if_neg hp,al (by omega),j6,aJ]
 .rw[SU];simp only[j1m];rw[al (by omega),j6,aW]
theorem jAW{a m:Nat}(hm:m<D.length)(ham:a<=m)(gT:∀s t,a<=s->s<=t->t<m->ah (D.getD s dC)<=ah (D.getD t dC)) :
  ∃k,a<=k/\k<=m/\tH rec (m:Int) (a:Int) (m:Int) D=some ((m:Int),(k:Int),D)/\(∀t,a<=t->t<k->¬ah (D.getD m dC)<ah (D.getD t dC))/\∀t,k<=t->t<m->¬¬ah (D.getD m dC)<ah (D.getD t dC):=by
 refine EF (λi j=>tH rec (m:Int) (i:Int) (j:Int) D) (λk=>((m:Int),(k:Int),D)) (λt=>¬ah (D.getD m dC)<ah (D.getD t dC)) a m (λi j h1 h2 h3=>?_) (λi h1 h2=>?_) (λs t h1 h2 h3 h4=>by have:=gT s t h1 h2 h3;omega) (m-a) a m (jg _) (jg _) ham (jg _) (λt h1 h2=>by omega) (λt h1 h2=>by omega)
 .rw[SX];simp only[j1o];rw[aj (show (i:Int)<(j:Int) by omega),Hm (by omega),aX (show (0:Int)<=(m:Int) by omega) (by omega),aX (show (0:Int)<=(((i+j)/2:Nat):Int) by omega) (by omega)];simp only[j5,j7];have c:=Hl (hD _ (Br hm)) (hD _ (Br (l:=D) (i:=(i+j)/2) (by omega)));unfold dC at c ⊢;rw[c];simp only[j3];by_cases hp:ah (D.getD m ((0:Int),((0:Int),((0:Int),((0:Int),(0:Int))))))<ah (D.getD ((i+j)/2) ((0:Int),((0:Int),((0:Int),((0:Int),(0:Int))))))
  .rw[if_neg (by omega),aj (by omega)];simp only[jq,j6,aJ]
  .rw[if_pos hp,al (by omega)];simp only[k7,j5];rw[ai (x:=(((i+j)/2:Nat):Int)+1) (by omega) (by omega),aJ];rfl
 .rw[SX];simp only[j1o];rw[al (by omega),j6,aW]
theorem WG{lo hi p:Nat}{s1 s2 s3 s18 s19:Int}(hlh:lo<=hi)(hh:hi<=D.length)(hp:∀c,lo<=c->c<hi->c<=p/\p-c<D.length)(uq:p<=2000000000)
  (gT:∀s t,lo<=s->s<=t->t<hi->¬ah (D.getD (p-t) dC)<ah (D.getD t dC)->¬ah (D.getD (p-s) dC)<ah (D.getD s dC)) :
  ∃k,lo<=k/\k<=hi/\rT rec s1 s2 s3 s18 s19 (lo:Int) (hi:Int) (p:Int) D=some (s1,s2,s3,s18,s19,(k:Int),D)/\(∀t,lo<=t->t<k->¬ah (D.getD (p-t) dC)<ah (D.getD t dC))/\∀t,k<=t->t<hi->¬¬ah (D.getD (p-t) dC)<ah (D.getD t dC):=by
 refine EF (λi j=>rT rec s1 s2 s3 s18 s19 (i:Int) (j:Int) (p:Int) D) (λk=>(s1,s2,s3,s18,s19,(k:Int),D)) (λt=>¬ah (D.getD (p-t) dC)<ah (D.getD t dC)) lo hi (λi j h1 h2 h3=>?_) (λi h1 h2=>?_) gT (hi-lo) lo hi (jg _) (jg _) hlh (jg _) (λt h1 h2=>by omega) (λt h1 h2=>by omega)
 .have rh:=hp ((i+j)/2) (by omega) (by omega);rw[SZ];simp only[j1q];rw[aj (show (i:Int)<(j:Int) by omega),Hm (by omega),ai (x:=(p:Int)-(((i+j)/2:Nat):Int)) (by omega) (by omega),aX (show (0:Int)<=(p:Int)-(((i+j)/2:Nat):Int) by omega) (by omega),aX (show (0:Int)<=(((i+j)/2:Nat):Int) by omega) (by omega)];simp only[j5,j7];rw[show ((p:Int)-(((i+j)/2:Nat):Int)).toNat=p-(i+j)/2 by omega];have c:=Hl (hD _ (Br (l:=D) (i:=p-(i+j)/2) rh.2)) (hD _ (Br (l:=D) (i:=(i+j)/2) (by omega)));unfold dC at c ⊢;rw[c];simp only[j3];by_cases hq:ah (D.getD (p-(i+j)/2) ((0:Int),((0:Int),((0:Int),((0:Int),(0:Int))))))<ah (D.getD ((i+j)/2) ((0:Int),((0:Int),((0:Int),((0:Int),(0:Int))))))
  .rw[if_neg (by omega),aj (by omega)];simp only[jq,j6,aJ]
  .rw[if_pos hq,al (by omega)];simp only[k7,j5];rw[ai (x:=(((i+j)/2:Nat):Int)+1) (by omega) (by omega),aJ];rfl
 .rw[SZ];simp only[j1q];rw[al (by omega),j6,aW]
end
end Go.Proofs.Pw
