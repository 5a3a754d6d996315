/- O0 Hi by a key: AB, Hj, blocks. -/
import Derived.Test.YtaieocafhcjelaaGreatCLD
import Derived.Test.YtaieocafhcjelaaGreatCPA
open Go Go.Lft
namespace Go.Proofs.Pw
section
variable{α:Type}(key:α->Int)
def cA(x:α):List α->List α
 |[]=>[x]
 |y::ys=>if key x<key y then x::y::ys else y::cA x ys
def bK(l:List α):List α:=l.foldl (λacc x=>cA key x acc) []
def fg:List α->List α->List α
 |[],bs=>bs
 |a::fC,bs=>go a (fg fC) fC bs
where go (a:α) (f:List α->List α) (fC:List α):List α->List α
 |[]=>a::fC
 |b::bs=>if key b<key a then b::go a f fC bs else a::f (b::bs)
theorem mY:∀fC:List α,fg key fC []=fC
 |[]=>rfl
 |_::_=>rfl
theorem mD(a b:α)(fC bs:List α):fg key (a::fC) (b::bs)=if key b<key a then b::fg key (a::fC) bs else a::fg key fC (b::bs):=rfl
variable{key}
theorem Hk(x:α):∀(A B:List α),cA key x (fg key A B)=fg key A (cA key x B)
 |[],_=>rfl
 |[a],[]=>by
  simp only[mY,cA,mD];split<;>rfl
 |a::a'::fC,[]=>by
  have ih:=Hk x (a'::fC) [];rw[mY]at ih ⊢;rw[show cA key x ([]:List α)=[x] from rfl]at ih ⊢;rw[mD];rw[cA];split
  .rw[mY]
  .rw[ih]
 |a::fC,b::bs=>by
  have i1:=Hk x (a::fC) bs;have i2:=Hk x fC (b::bs);rw[mD];by_cases h1:key b<key a
  .rw[if_pos h1];simp only[cA];by_cases h2:key x<key b
   .rw[if_pos h2,if_pos h2,mD,if_pos (show key x<key a by omega),mD,if_pos h1]
   .rw[if_neg h2,if_neg h2,mD,if_pos h1,i1]
  .rw[if_neg h1];rw[show cA key x (a::fg key fC (b::bs))=if key x<key a then x::a::fg key fC (b::bs) else a::cA key x (fg key fC (b::bs)) from rfl,i2];rw[show cA key x (b::bs)=if key x<key b then x::b::bs else b::cA key x bs from rfl];by_cases h2:key x<key b
   .rw[if_pos h2];by_cases h3:key x<key a
    .rw[if_pos h3,mD,if_pos h3,mD,if_neg h1]
    .rw[if_neg h3,mD,if_neg h3]
   .rw[if_neg h2];rw[if_neg (show¬key x<key a by omega),mD,if_neg h1]
termination_by A B=>A.length+B.length
theorem XU:∀(ys A B:List α),ys.foldl (λacc x=>cA key x acc) (fg key A B)=fg key A (ys.foldl (λacc x=>cA key x acc) B)
 |[],_,_=>rfl
 |y::ys,A,B=>by
  simp only[vp];rw[Hk,XU ys A]
theorem XV(xs ys:List α):bK key (xs++ys)=fg key (bK key xs) (bK key ys):=by
 have h:=XU (key:=key) ys (bK key xs) [];rw[mY]at h;simp only[bK,List.foldl_append]at h ⊢;exact h
theorem tp:∀(A1 B1 A2 B2:List α),(∀x∈A2,∀y∈B1,key y<key x)->(∀x∈A1,∀y∈B2,¬key y<key x)->
  fg key (A1++A2) (B1++B2)=fg key A1 B1++fg key A2 B2
 |[],[],_,_,_,_=>rfl
 |[],b::bs,[],B2,_,_=>rfl
 |[],b::bs,a::fC,B2,h1,h2=>by
  have ih:=tp [] bs (a::fC) B2 (λx hx y hy=>h1 x hx y (by simp[hy])) h2;rw[jo]at ih;rw[jo,q8,mD,if_pos (h1 a (by simp) b (by simp)),ih];rfl
 |a::fC,[],A2,[],_,_=>by simp only[k7,mY]
 |a::fC,[],A2,b::bs,h1,h2=>by
  have ih:=tp fC [] A2 (b::bs) h1 (λx hx y hy=>h2 x (by simp[hx]) y hy);rw[jo,mY]at ih;rw[jo,q8,mD,if_neg (h2 a (by simp) b (by simp)),ih,mY];rfl
 |a::fC,b::bs,A2,B2,h1,h2=>by
  have i1:=tp (a::fC) bs A2 B2 (λx hx y hy=>h1 x hx y (by simp[hy])) h2;have i2:=tp fC (b::bs) A2 B2 h1 (λx hx y hy=>h2 x (by simp[hx]) y hy);rw[q8,q8,mD,mD];split
  .rw[<-q8,i1];rfl
  .rw[<-q8,i2];rfl
termination_by A1 B1=>A1.length+B1.length
theorem jCS(x:α)(B1 B2:List α)(h1:∀y∈B1,key y<key x)(h2:∀y∈B2,¬key y<key x):fg key [x] (B1++B2)=B1++x::B2:=by
 have e1:=tp (key:=key) [] B1 [x] B2 (by simpa using h1) (by simp);have e2:=tp (key:=key) [x] [] [] B2 (by simp) (by simpa using h2);rw[jo]at e1;rw[k7,jo,mY]at e2;rw[e1,e2];rfl
theorem jAT(y:α)(A1 A2:List α)(h1:∀x∈A1,¬key y<key x)(h2:∀x∈A2,key y<key x):fg key (A1++A2) [y]=A1++y::A2:=by
 have e1:=tp (key:=key) A1 [] A2 [y] (by simp) (by simpa using h1);have e2:=tp (key:=key) [] [y] A2 [] (by simpa using h2) (by simp);rw[jo,mY]at e1;rw[jo,k7,mY]at e2;rw[e1,e2];rfl
theorem Er(x:α):∀l:List α,(cA key x l).Perm (x::l)
 |[]=>List.Perm.refl _
 |y::ys=>by
  unfold cA;split
  .exact List.Perm.refl _
  .exact((Er x ys).cons y).trans (List.Perm.swap x y ys)
theorem XW:∀(l acc:List α),(l.foldl (λacc x=>cA key x acc) acc).Perm (acc++l)
 |[],acc=>by simp
 |x::xs,acc=>by
  simp only[vp];refine(XW xs (cA key x acc)).trans ?_;refine((Er x acc).append_right xs).trans ?_;rw[q8];exact List.perm_middle.symm
theorem rG(l:List α):(bK key l).Perm l:=by
 have:=XW (key:=key) l [];rwa[jo]at this
theorem tq(l:List α):(bK key l).length=l.length:=(rG l).length_eq
theorem O1{R:α->α->Prop}(x:α):∀l:List α,l.Pairwise (λy z=>key y<key z\/key y=key z/\R y z)->(∀y∈l,R y x)->(cA key x l).Pairwise (λy z=>key y<key z\/key y=key z/\R y z)
 |[],_,_=>zt _ _
 |y::ys,h,hr=>by
  have hc:=kq.1 h;unfold cA;split
  .rename_i aA;refine kq.2 ⟨λz hz=>?_,h⟩;rcases jg.1 hz with rfl|hz
   .exact Or.inl aA
   .rcases hc.1 z hz with h1|h1
    .exact Or.inl (by omega)
    .exact Or.inl (by omega)
  .rename_i nr;refine kq.2 ⟨λz hz=>?_,O1 x ys hc.2 (λw hw=>hr w (by simp[hw]))⟩;rcases jg.1 ((Er x ys).mem_iff.1 hz) with rfl|hz
   .by_cases he:key y=key z
    .exact Or.inr ⟨he,hr y (by simp)⟩
    .exact Or.inl (by omega)
   .exact hc.1 z hz
theorem XX{R:α->α->Prop}:∀(l acc:List α),acc.Pairwise (λy z=>key y<key z\/key y=key z/\R y z)->(∀y∈acc,∀z∈l,R y z)->l.Pairwise R->
  (l.foldl (λacc x=>cA key x acc) acc).Pairwise (λy z=>key y<key z\/key y=key z/\R y z)
 |[],_,h,_,_=>h
 |x::xs,acc,h,hr,hl=>by
  simp only[vp];have hc:=kq.1 hl;refine XX xs _ (O1 x acc h (λy hy=>hr y hy x (by simp))) (λy hy z hz=>?_) hc.2;rcases jg.1 ((Er x acc).mem_iff.1 hy) with rfl|hy
  .exact hc.1 z hz
  .exact hr y hy z (by simp[hz])
theorem XY{R:α->α->Prop}{l:List α}(h:l.Pairwise R):(bK key l).Pairwise (λy z=>key y<key z\/key y=key z/\R y z):=
 XX l [] List.Pairwise.nil (by simp) h
theorem jCT(l:List α):(bK key l).Pairwise (λy z=>key y<=key z):=
 (XY (R:=λ_ _=>True) (l:=l) (List.pairwise_of_forall (λ_ _=>trivial))).imp (λh=>by omega)
variable(key)
inductive jQ(n:Nat):List α->List α->Prop
 |last (l:List α):l.length<n->jQ n l (bK key l)
 |more (x l d:List α):x.length=n->jQ n l d->jQ n (x++l) (bK key x++d)
variable{key}
theorem jQ.len{n:Nat}{l d:List α}(h:jQ key n l d):d.length=l.length:=by
 induction h with
 |last l _=>exact tq l
 |more x l d hx _ ih=>simp[tq,ih]
theorem jQ.all{n:Nat}{l d:List α}(h:jQ key n l d)(hl:l.length<=n):d=bK key l:=by
 cases h with
 |last _ _=>rfl
 |more x l d hx hb=>have hd:=hb.len;simp only[ja]at hl;have h0:l=[]:=kg.1 (by omega);subst h0;have h1:d=[]:=kg.1 (by simpa using hd);subst h1;simp
end
abbrev kE:=Int×(Int×(Int×(Int×Int)))
abbrev bS:=List kE
def aq(x:kE):Int:=x.2.2.2.1
def iz(l:bS):Prop:=∀x∈l, -1000000000000<=aq x/\aq x<=1000000000000
def dI(l:bS):Prop:=l.Pairwise λx y=>aq x<=aq y
theorem iz.perm{l r:bS}(h:iz l)(hp:r.Perm l):iz r:=λx hx=>h x (hp.mem_iff.1 hx)
theorem iz.of{l r:bS}(h:iz l)(hp:∀x∈r,x∈l):iz r:=λx hx=>h x (hp x hx)
theorem Hl{x y:kE}(hx : -1000000000000<=aq x/\aq x<=1000000000000)(hy : -1000000000000<=aq y/\aq y<=1000000000000) :
  j3l (x.1,(x.2.1,(x.2.2.1,(x.2.2.2.1,x.2.2.2.2)))) (y.1,(y.2.1,(y.2.2.1,(y.2.2.2.1,y.2.2.2.2))))=some (aq x-aq y):=by
 simp only[j3l];unfold aq at *;rw[aj (by omega) (by omega)]
theorem Es{β:Type}(F:Nat->Nat->Option β)(fin:Nat->β)(p:Nat->Prop)[DecidablePred p](lo hi:Nat)
  (dU:∀i j,lo<=i->i<j->j<=hi->F i j=if p ((i+j)/2) then F ((i+j)/2+1) j else F i ((i+j)/2))
  (eu:∀i,lo<=i->i<=hi->F i i=some (fin i))(mono:∀s t,lo<=s->s<=t->t<hi->p t->p s) :
  ∀(n i j:Nat),j-i<=n->lo<=i->i<=j->j<=hi->(∀t,lo<=t->t<i->p t)->(∀t,j<=t->t<hi->¬p t)->
   ∃k,i<=k/\k<=j/\F i j=some (fin k)/\(∀t,lo<=t->t<k->p t)/\∀t,k<=t->t<hi->¬p t
 |0,i,j,hn,h1,h2,h3,h4,h5=>by
  obtain rfl:i=j:=by omega
  exact⟨i,jl _,jl _,eu i h1 h3,h4,h5⟩
 |n+1,i,j,hn,h1,h2,h3,h4,h5=>by
  by_cases dP:i=j
  .subst dP;exact⟨i,jl _,jl _,eu i h1 h3,h4,h5⟩
  .rw[dU i j h1 (by omega) h3];by_cases hp:p ((i+j)/2)
   .rw[if_pos hp];obtain⟨k,k1,k2,k3⟩:=Es F fin p lo hi dU eu mono n ((i+j)/2+1) j (by omega) (by omega) (by omega) h3 (λt t1 t2=>mono t _ t1 (by omega) (by omega) hp) h5;exact⟨k,by omega,k2,k3⟩
   .rw[if_neg hp];obtain⟨k,k1,k2,k3⟩:=Es F fin p lo hi dU eu mono n i ((i+j)/2) (by omega) h1 (by omega) (by omega) h4 (λt t1 t2 hq=>hp (mono _ t (by omega) t1 t2 hq));exact⟨k,k1,by omega,k3⟩
theorem Hm{a b:Nat}(h:a+b<=4000000000):w64 (Int.fdiv (IntKind.wrap .u64 (w64 ((a:Int)+(b:Int)))) 2)=(((a+b)/2:Nat):Int):=by
 rw[aj (x:=(a:Int)+b) (by omega) (by omega),show IntKind.wrap .u64 ((a:Int)+(b:Int))=(a:Int)+(b:Int) from IntWalk.u64_in _ ⟨by omega,by omega⟩,Int.fdiv_eq_ediv_of_nonneg _ (by omega),aj (by omega) (by omega)];omega
def dC:kE:=(0,(0,(0,(0,0))))
theorem vA(P R:bS)(x:kE):(P++x::R).getD P.length dC=x:=by
 rw[List.getD_eq_getElem?_getD,jy (by simp)];simp
theorem vB(P R:bS)(x y:kE):(P++x::R).set P.length y=P++y::R:=by
 rw[zd _ _ (by simp)];simp
theorem AD{l:bS}{i:Nat}(h:i<l.length):l.getD i dC∈l:=by
 rw[List.getD_eq_getElem?_getD,jh h];exact je h
theorem XZ(P A R:bS)(i:Nat)(h:i<A.length):(P++(A++R)).getD (P.length+i) dC=A.getD i dC:=by
 rw[List.getD_eq_getElem?_getD,List.getD_eq_getElem?_getD,jy (by omega),show P.length+i-P.length=i by omega,List.getElem?_append_left h]
theorem vC{A:bS}(h:dI A){i j:Nat}(dP:i<=j)(hj:j<A.length):aq (A.getD i dC)<=aq (A.getD j dC):=by
 rw[List.getD_eq_getElem?_getD,List.getD_eq_getElem?_getD,jh hj,jh (show i<A.length by omega)];by_cases he:i=j
 .subst he;exact ki _
 .exact kr.1 h i j (by omega) hj (by omega)
theorem Hn{A:bS}{k:Nat}{x:kE}(h:x∈A.take k):∃i,i<k/\i<A.length/\x=A.getD i dC:=by
 obtain⟨i,hi,rfl⟩:=z8 h;simp only[qd]at hi;exact⟨i,by omega,by omega,by rw[List.getElem_take,List.getD_eq_getElem?_getD,jh (by omega)];rfl⟩
theorem Ho{A:bS}{k:Nat}{x:kE}(h:x∈A.drop k):∃i,k<=i/\i<A.length/\x=A.getD i dC:=by
 obtain⟨i,hi,rfl⟩:=z8 h;simp only[zu]at hi;exact⟨k+i,by omega,by omega,by rw[List.getElem_drop,List.getD_eq_getElem?_getD,jh (by omega)];rfl⟩
theorem X0{n a b:Int}:∀(U V P M Q:bS)(k:Nat),U.length=V.length->(k:Int)+U.length=n->a+k=P.length->b+k=((P.length+U.length+M.length:Nat):Int)->P.length+U.length+M.length+V.length+Q.length<=1000000000->0<=a->0<=b->k<=1000000000->
  CT a b n (k:Int) (P++(U++(M++(V++Q))))=some (P++(V++(M++(U++Q))))
 |[],[],P,M,Q,k,_,hn,ha,hb,hl,_,_,_=>by
  rw[Tu];simp only[j0T];simp only[qc]at hn;rw[ah (by omega),j6,aU]
 |[],_::_,_,_,_,_,h,_,_,_,_,_,_,_=>by simp at h
 |_::_,[],_,_,_,_,h,_,_,_,_,_,_,_=>by simp at h
 |x::U,y::V,P,M,Q,k,hUV,hn,ha,hb,hl,uB,eE,hk=>by
  simp only[jm]at hUV hn hb hl;have O2:U.length=V.length:=by omega
  have e1:P++(x::U++(M++(y::V++Q)))=(P++x::(U++M))++y::(V++Q):=by simp
  have e2:P++(x::U++(M++(y::V++Q)))=P++x::(U++(M++(y::V++Q))):=by simp
  have hL:(P++(x::U++(M++(y::V++Q)))).length=P.length+U.length+1+M.length+V.length+1+Q.length:=by simp;omega
  have g1:(P++(x::U++(M++(y::V++Q)))).getD (b+k).toNat dC=y:=by rw[e1,show (b+k).toNat=(P++x::(U++M)).length by simp;omega,vA]
  have g2:(P++(x::U++(M++(y::V++Q)))).getD (a+k).toNat dC=x:=by rw[e2,show (a+k).toNat=P.length by omega,vA]
  have s1:(P++(x::U++(M++(y::V++Q)))).set (a+k).toNat y=(P++y::(U++M))++y::(V++Q):=by rw[e2,show (a+k).toNat=P.length by omega,vB];simp
  have s2:((P++y::(U++M))++y::(V++Q)).set (b+k).toNat x=(P++[y])++(U++((M++[x])++(V++Q))):=by rw[show (b+k).toNat=(P++y::(U++M)).length by simp;omega,vB];simp
  have ih:=X0 (n:=n) (a:=a) (b:=b) U V (P++[y]) (M++[x]) Q (k+1) O2 (by omega) (by simp;omega) (by simp;omega) (by simp;omega) uB eE (by omega);unfold dC at g1 g2;rw[Tu];simp only[j0T];rw[ag (show (k:Int)<n by omega),aj (x:=a+(k:Int)) (by omega) (by omega),aj (x:=b+(k:Int)) (by omega) (by omega),aR (by omega) (by rw[hL];omega),aR (show (0:Int)<=a+(k:Int) by omega) (by rw[hL];omega)];simp only[j5,g1,g2];rw[show (P++(x::U++(M++(y::V++Q)))).set (a+(k:Int)).toNat (y.1,(y.2.1,(y.2.2.1,(y.2.2.2.1,y.2.2.2.2))))=_ from s1];rw[aR (show (0:Int)<=b+(k:Int) by omega) (by simp;omega),j5];rw[show ((P++y::(U++M))++y::(V++Q)).set (b+(k:Int)).toNat (x.1,(x.2.1,(x.2.2.1,(x.2.2.2.1,x.2.2.2.2))))=_ from s2];rw[aj (x:=(k:Int)+1) (by omega) (by omega),aJ];rw[show ((k+1:Nat):Int)=(k:Int)+1 by omega]at ih;rw[ih];simp
theorem O3(P U M V Q:bS)(h:U.length=V.length)(hl:P.length+U.length+M.length+V.length+Q.length<=1000000000){a b n:Int}(ha:a=P.length)(hb:b=((P.length+U.length+M.length:Nat):Int))(hn:n=U.length) :
  j0N (P++(U++(M++(V++Q)))) a b n=some (P++(V++(M++(U++Q)))):=by
 have:=X0 (n:=n) (a:=a) (b:=b) U V P M Q 0 h (by omega) (by omega) (by omega) hl (by omega) (by omega) (by omega);simp only[j0N];rw[show CT a b n 0 (P++(U++(M++(V++Q))))=_ from this];rfl
theorem O4{m:Int}:∀(n:Nat)(P U V Q:bS),U.length+V.length<=n->U≠[]->V≠[]->m=((P.length+U.length:Nat):Int)->P.length+U.length+V.length+Q.length<=1000000000->
  ∃(i:Int)(d:bS),F5 m (U.length:Int) (V.length:Int) (P++(U++(V++Q)))=some (m,i,d)/\j0N d (w64 (m-i)) m i=some (P++(V++(U++Q)))
 |0,P,U,V,Q,hn,hU,_,_,_=>by
  have:=kx.2 hU;omega
 |n+1,P,U,V,Q,hn,hU,hV,hm,hl=>by
  have hu:=kx.2 hU;have hv:=kx.2 hV;rw[j9i];simp only[j1T];by_cases bq:U.length=V.length
  .rw[show (((U.length:Nat):Int) != (V.length:Int))=false by rw[bq];exact jj _,j6,aU];refine⟨_,_,rfl,?_⟩;have:=O3 P U [] V Q bq (by simp;omega) (a:=w64 (m-(U.length:Int))) (b:=m) (n:=(U.length:Int)) (by rw[aj (by omega) (by omega)];omega) (by simp;omega) rfl;simpa using this
  .rw[show (((U.length:Nat):Int) != (V.length:Int))=true by simp;omega,j5];by_cases x8:V.length<U.length
   .rw[ag (show (U.length:Int)>(V.length:Int) by omega),j5];obtain⟨U1,U2,hUe,X1⟩:∃U1 U2,U=U1++U2/\U1.length=V.length:=⟨U.take V.length,U.drop V.length,(kf ..).symm,by simp;omega⟩;subst hUe;simp only[ja]at *;have hs:=O3 P U1 U2 V Q X1 (by omega) (a:=w64 (m-((U1.length+U2.length:Nat):Int))) (b:=m) (n:=(V.length:Int)) (by rw[aj (by omega) (by omega)];omega) (by omega) (by omega);simp only[jd]at hs ⊢;rw[hs];simp only[j3];rw[aj (x:=((U1.length+U2.length:Nat):Int)-(V.length:Int)) (by omega) (by omega),aJ];obtain⟨i,d,h1,h2⟩:=O4 (m:=m) n (P++V) U2 U1 Q (by omega) (λh=>by subst h;simp at x8;omega) (λh=>by subst h;simp at X1;omega) (by simp;omega) (by simp;omega);rw[show ((U1.length+U2.length:Nat):Int)-(V.length:Int)=(U2.length:Int) by omega,show ((V.length:Nat):Int)=(U1.length:Int) by omega];simp only[jd]at h1 h2;exact⟨i,d,h1,h2⟩
   .rw[ah (show¬(U.length:Int)>(V.length:Int) by omega),j6];obtain⟨V1,V2,hVe,X2⟩:∃V1 V2,V=V1++V2/\V2.length=U.length:=⟨V.take (V.length-U.length),V.drop (V.length-U.length),(kf ..).symm,by simp;omega⟩;subst hVe;simp only[ja]at *;have hs:=O3 P U V1 V2 Q X2.symm (by omega) (a:=w64 (m-(U.length:Int))) (b:=w64 (w64 (m+((V1.length+V2.length:Nat):Int))-(U.length:Int))) (n:=(U.length:Int)) (by rw[aj (by omega) (by omega)];omega) (by rw[aj (x:=m+_) (by omega) (by omega),aj (by omega) (by omega)];omega) rfl;simp only[jd]at hs ⊢;rw[hs];simp only[j3];rw[aj (x:=((V1.length+V2.length:Nat):Int)-(U.length:Int)) (by omega) (by omega),aJ];obtain⟨i,d,h1,h2⟩:=O4 (m:=m) n P V2 V1 (U++Q) (by omega) (λh=>by subst h;simp at X2;omega) (λh=>by subst h;simp at x8 bq;omega) (by omega) (by simp;omega);rw[show ((V1.length+V2.length:Nat):Int)-(U.length:Int)=(V1.length:Int) by omega,show ((U.length:Nat):Int)=(V2.length:Int) by omega];exact⟨i,d,h1,h2⟩
theorem jEi(P U V Q:bS)(hU:U≠[])(hV:V≠[])(hl:P.length+U.length+V.length+Q.length<=1000000000){a m b:Int}(ha:a=P.length)(hm:m=((P.length+U.length:Nat):Int))(hb:b=((P.length+U.length+V.length:Nat):Int)) :
  j1p (P++(U++(V++Q))) a m b=some (P++(V++(U++Q))):=by
 obtain⟨i,d,h1,h2⟩:=O4 (m:=m) _ P U V Q (jl _) hU hV hm hl;simp only[j1p];rw[aj (x:=m-a) (by omega) (by omega),aj (x:=b-m) (by omega) (by omega),show m-a=(U.length:Int) by omega,show b-m=(V.length:Int) by omega,h1];simp only[j3,h2]
section
variable(rec:bS->Int->Int->Int->Option bS)
theorem X3{e:Int}(x:kE):∀(B P Q:bS),e-1=((P.length+B.length:Nat):Int)->P.length+B.length+Q.length<=1000000000->
  F6 rec e (P.length:Int) (P++x::(B++Q))=some (P++(B++x::Q))
 |[],P,Q,he,hl=>by
  rw[Tw];simp only[j0Y];simp only[qc]at he;rw[aj (x:=e-1) (by omega) (by omega),ah (by omega),j6,aU];rfl
 |y::B,P,Q,he,hl=>by
  simp only[jm]at he hl;have hL:(P++x::(y::B++Q)).length=P.length+B.length+Q.length+2:=by simp;omega
  have e1:P++x::(y::B++Q)=(P++[x])++y::(B++Q):=by simp
  have g1:(P++x::(y::B++Q)).getD ((P.length:Int)+1).toNat dC=y:=by rw[e1,show ((P.length:Int)+1).toNat=(P++[x]).length by simp,vA]
  have g2:(P++x::(y::B++Q)).getD P.length dC=x:=vA _ _ _;have s1:(P++x::(y::B++Q)).set P.length y=(P++[y])++y::(B++Q):=by rw[vB];simp
  have s2:((P++[y])++y::(B++Q)).set ((P.length:Int)+1).toNat x=(P++[y])++x::(B++Q):=by rw[show ((P.length:Int)+1).toNat=(P++[y]).length by simp,vB]
  have ih:=X3 (e:=e) x B (P++[y]) Q (by simp;omega) (by simp;omega);unfold dC at g1 g2;rw[Tw];simp only[j0Y];rw[aj (x:=e-1) (by omega) (by omega),ag (by omega),aj (x:=(P.length:Int)+1) (by omega) (by omega),aR (show (0:Int)<=(P.length:Int)+1 by omega) (by rw[hL];omega),aR (show (0:Int)<=(P.length:Int) by omega) (by rw[hL];omega)];simp only[j5,j7,g1,g2];rw[show (P++x::(y::B++Q)).set P.length (y.1,(y.2.1,(y.2.2.1,(y.2.2.2.1,y.2.2.2.2))))=_ from s1];rw[aR (n:=((P++[y])++y::(B++Q)).length) (show (0:Int)<=(P.length:Int)+1 by omega) (by simp;omega),j5];rw[show ((P++[y])++y::(B++Q)).set ((P.length:Int)+1).toNat (x.1,(x.2.1,(x.2.2.1,(x.2.2.2.1,x.2.2.2.2))))=_ from s2,aJ];rw[show (((P++[y]).length:Nat):Int)=(P.length:Int)+1 by simp]at ih;rw[ih];simp
theorem X4{i:Int}(x:kE):∀(B P Q:bS),i=P.length->P.length+B.length+Q.length<=1000000000->
  F7 rec i ((P.length+B.length:Nat):Int) (P++(B.reverse++x::Q))=some (P++x::(B.reverse++Q))
 |[],P,Q,hi,hl=>by
  rw[Tz];simp only[j10];rw[ah (by simp;omega),j6,aU];rfl
 |y::B,P,Q,hi,hl=>by
  simp only[jm]at hl;have hL:(P++((y::B).reverse++x::Q)).length=P.length+B.length+Q.length+2:=by simp;omega
  have e1:P++((y::B).reverse++x::Q)=(P++B.reverse++[y])++x::Q:=by simp
  have e2:P++((y::B).reverse++x::Q)=(P++B.reverse)++y::(x::Q):=by simp
  have n1:(((P.length+(B.length+1):Nat):Int)-1).toNat=(P++B.reverse).length:=by simp;omega
  have n2:P.length+(B.length+1)=(P++B.reverse++[y]).length:=by simp
  have g1:(P++((y::B).reverse++x::Q)).getD (((P.length+(B.length+1):Nat):Int)-1).toNat dC=y:=by rw[e2,n1,vA]
  have g2:(P++((y::B).reverse++x::Q)).getD (P.length+(B.length+1)) dC=x:=by rw[e1,n2,vA]
  have s1:(P++((y::B).reverse++x::Q)).set (P.length+(B.length+1)) y=(P++B.reverse)++y::(y::Q):=by rw[e1,n2,vB];simp
  have s2:((P++B.reverse)++y::(y::Q)).set (((P.length+(B.length+1):Nat):Int)-1).toNat x=P++(B.reverse++x::(y::Q)):=by rw[n1,vB];simp
  have ih:=X4 (i:=i) x B P (y::Q) hi (by simp;omega);unfold dC at g1 g2;rw[Tz];simp only[j10,jm];rw[ag (by omega),aj (x:=((P.length+(B.length+1):Nat):Int)-1) (by omega) (by omega),aR (show (0:Int)<=((P.length+(B.length+1):Nat):Int)-1 by omega) (by rw[hL];omega),aR (show (0:Int)<=((P.length+(B.length+1):Nat):Int) by omega) (by rw[hL];omega)];simp only[j5,j7,g1,g2];rw[show (P++((y::B).reverse++x::Q)).set (P.length+(B.length+1)) (y.1,(y.2.1,(y.2.2.1,(y.2.2.2.1,y.2.2.2.2))))=_ from s1];rw[aR (show (0:Int)<=((P.length+(B.length+1):Nat):Int)-1 by omega) (by simp;omega),j5];rw[show ((P++B.reverse)++y::(y::Q)).set (((P.length+(B.length+1):Nat):Int)-1).toNat (x.1,(x.2.1,(x.2.2.1,(x.2.2.2.1,x.2.2.2.2))))=_ from s2,aJ];rw[show ((P.length+(B.length+1):Nat):Int)-1=((P.length+B.length:Nat):Int) by omega,ih];simp
variable{D:bS}(hD:iz D)(hL:D.length<=1000000000)
include hD hL
theorem jEj{a m b:Nat}(ha:a<D.length)(hmb:m<=b)(hb:b<=D.length)(gR:∀s t,m<=s->s<=t->t<b->aq (D.getD s dC)<=aq (D.getD t dC)) :
  ∃k,m<=k/\k<=b/\CU rec (a:Int) (m:Int) (b:Int) D=some ((a:Int),(k:Int),D)/\(∀t,m<=t->t<k->aq (D.getD t dC)<aq (D.getD a dC))/\∀t,k<=t->t<b->¬aq (D.getD t dC)<aq (D.getD a dC):=by
 refine Es (λi j=>CU rec (a:Int) (i:Int) (j:Int) D) (λk=>((a:Int),(k:Int),D)) (λt=>aq (D.getD t dC)<aq (D.getD a dC)) m b (λi j h1 h2 h3=>?_) (λi h1 h2=>?_) (λs t h1 h2 h3 h4=>by have:=gR s t h1 h2 h3;omega) (b-m) m b (jl _) (jl _) hmb (jl _) (λt h1 h2=>by omega) (λt h1 h2=>by omega)
 .rw[Tv];simp only[j0X];rw[ag (show (i:Int)<(j:Int) by omega),Hm (by omega),aR (show (0:Int)<=(((i+j)/2:Nat):Int) by omega) (by omega),aR (show (0:Int)<=(a:Int) by omega) (by omega)];simp only[j5,j7];have c:=Hl (hD _ (AD (l:=D) (i:=(i+j)/2) (by omega))) (hD _ (AD ha));unfold dC at c ⊢;rw[c];simp only[j3];by_cases hp:aq (D.getD ((i+j)/2) ((0:Int),((0:Int),((0:Int),((0:Int),(0:Int))))))<aq (D.getD a ((0:Int),((0:Int),((0:Int),((0:Int),(0:Int))))))
  .rw[if_pos hp,ag (by omega),j5,aj (x:=(((i+j)/2:Nat):Int)+1) (by omega) (by omega),aJ];rfl
  .rw[if_neg hp,ah (by omega),j6,aJ]
 .rw[Tv];simp only[j0X];rw[ah (by omega),j6,aU]
theorem jEk{a m:Nat}(hm:m<D.length)(ham:a<=m)(gR:∀s t,a<=s->s<=t->t<m->aq (D.getD s dC)<=aq (D.getD t dC)) :
  ∃k,a<=k/\k<=m/\CV rec (m:Int) (a:Int) (m:Int) D=some ((m:Int),(k:Int),D)/\(∀t,a<=t->t<k->¬aq (D.getD m dC)<aq (D.getD t dC))/\∀t,k<=t->t<m->¬¬aq (D.getD m dC)<aq (D.getD t dC):=by
 refine Es (λi j=>CV rec (m:Int) (i:Int) (j:Int) D) (λk=>((m:Int),(k:Int),D)) (λt=>¬aq (D.getD m dC)<aq (D.getD t dC)) a m (λi j h1 h2 h3=>?_) (λi h1 h2=>?_) (λs t h1 h2 h3 h4=>by have:=gR s t h1 h2 h3;omega) (m-a) a m (jl _) (jl _) ham (jl _) (λt h1 h2=>by omega) (λt h1 h2=>by omega)
 .rw[Tx];simp only[j0Z];rw[ag (show (i:Int)<(j:Int) by omega),Hm (by omega),aR (show (0:Int)<=(m:Int) by omega) (by omega),aR (show (0:Int)<=(((i+j)/2:Nat):Int) by omega) (by omega)];simp only[j5,j7];have c:=Hl (hD _ (AD hm)) (hD _ (AD (l:=D) (i:=(i+j)/2) (by omega)));unfold dC at c ⊢;rw[c];simp only[j3];by_cases hp:aq (D.getD m ((0:Int),((0:Int),((0:Int),((0:Int),(0:Int))))))<aq (D.getD ((i+j)/2) ((0:Int),((0:Int),((0:Int),((0:Int),(0:Int))))))
  .rw[if_neg (by omega),ag (by omega)];simp only[ji,j6,aJ]
  .rw[if_pos hp,ah (by omega)];simp only[jt,j5];rw[aj (x:=(((i+j)/2:Nat):Int)+1) (by omega) (by omega),aJ];rfl
 .rw[Tx];simp only[j0Z];rw[ah (by omega),j6,aU]
theorem X5{lo hi p:Nat}{s1 s2 s3 s18 s19:Int}(hlh:lo<=hi)(hh:hi<=D.length)(hp:∀c,lo<=c->c<hi->c<=p/\p-c<D.length)(tH:p<=2000000000)
  (gR:∀s t,lo<=s->s<=t->t<hi->¬aq (D.getD (p-t) dC)<aq (D.getD t dC)->¬aq (D.getD (p-s) dC)<aq (D.getD s dC)) :
  ∃k,lo<=k/\k<=hi/\Ae rec s1 s2 s3 s18 s19 (lo:Int) (hi:Int) (p:Int) D=some (s1,s2,s3,s18,s19,(k:Int),D)/\(∀t,lo<=t->t<k->¬aq (D.getD (p-t) dC)<aq (D.getD t dC))/\∀t,k<=t->t<hi->¬¬aq (D.getD (p-t) dC)<aq (D.getD t dC):=by
 refine Es (λi j=>Ae rec s1 s2 s3 s18 s19 (i:Int) (j:Int) (p:Int) D) (λk=>(s1,s2,s3,s18,s19,(k:Int),D)) (λt=>¬aq (D.getD (p-t) dC)<aq (D.getD t dC)) lo hi (λi j h1 h2 h3=>?_) (λi h1 h2=>?_) gR (hi-lo) lo hi (jl _) (jl _) hlh (jl _) (λt h1 h2=>by omega) (λt h1 h2=>by omega)
 .have hpc:=hp ((i+j)/2) (by omega) (by omega);rw[TA];simp only[j11];rw[ag (show (i:Int)<(j:Int) by omega),Hm (by omega),aj (x:=(p:Int)-(((i+j)/2:Nat):Int)) (by omega) (by omega),aR (show (0:Int)<=(p:Int)-(((i+j)/2:Nat):Int) by omega) (by omega),aR (show (0:Int)<=(((i+j)/2:Nat):Int) by omega) (by omega)];simp only[j5,j7];rw[show ((p:Int)-(((i+j)/2:Nat):Int)).toNat=p-(i+j)/2 by omega];have c:=Hl (hD _ (AD (l:=D) (i:=p-(i+j)/2) hpc.2)) (hD _ (AD (l:=D) (i:=(i+j)/2) (by omega)));unfold dC at c ⊢;rw[c];simp only[j3];by_cases hq:aq (D.getD (p-(i+j)/2) ((0:Int),((0:Int),((0:Int),((0:Int),(0:Int))))))<aq (D.getD ((i+j)/2) ((0:Int),((0:Int),((0:Int),((0:Int),(0:Int))))))
  .rw[if_neg (by omega),ag (by omega)];simp only[ji,j6,aJ]
  .rw[if_pos hq,ah (by omega)];simp only[jt,j5];rw[aj (x:=(((i+j)/2:Nat):Int)+1) (by omega) (by omega),aJ];rfl
 .rw[TA];simp only[j11];rw[ah (by omega),j6,aU]
end
end Go.Proofs.Pw
