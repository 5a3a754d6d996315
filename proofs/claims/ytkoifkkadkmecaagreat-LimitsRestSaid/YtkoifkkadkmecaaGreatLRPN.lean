/- The rE uu sort of xa: Da in blocks, merged in place (uv). -/
import Derived.Test.YtkoifkkadkmecaaGreatLRPM
import Derived.Test.YtkoifkkadkmecaaGreatLRPA
open _root_ renaming Int->o,Nat->u
open List renaming getD_eq_getElem?_getD->q
open Option renaming some->w
open Go Go.Lft
namespace Go.Proofs.Pw
abbrev iK:=o×(o×(o×(o×o)))
abbrev bG:=List iK
def aw(x:iK):Int:=x.2.2.2.1
def iW(l:bG):Prop:=∀x∈l, -1000000000000<=aw x/\aw x<=1000000000000
def eh(l:bG):Prop:=l.Pairwise λx y=>aw x<=aw y
theorem iW.app{l r:bG}(h:iW l)(h':iW r):iW (l++r):=λx hx=>(jj.1 hx).elim (h x) (h' x)
theorem iW.perm{l r:bG}(h:iW l)(hp:r.Perm l):iW r:=λx hx=>h x (hp.mem_iff.1 hx)
theorem iW.of{l r:bG}(h:iW l)(hp:∀x∈r,x∈l):iW r:=λx hx=>h x (hp x hx)
theorem Lj{x y:iK}(hx : -1000000000000<=aw x/\aw x<=1000000000000)(hy : -1000000000000<=aw y/\aw y<=1000000000000) :
  j2L (x.1,(x.2.1,(x.2.2.1,(x.2.2.2.1,x.2.2.2.2)))) (y.1,(y.2.1,(y.2.2.1,(y.2.2.2.1,y.2.2.2.2))))=w (aw x-aw y):=by
 simp only[j2L];unfold aw at *;rw[aj]
theorem Hi{β:Type}(F:u->u->Option β)(fin:u->β)(p:u->Prop)[DecidablePred p](lo hi:u)
  (eY:∀i j,lo<=i->i<j->j<=hi->F i j=if p ((i+j)/2) then F ((i+j)/2+1) j else F i ((i+j)/2))
  (ee:∀i,lo<=i->i<=hi->F i i=w (fin i))(mono:∀s t,lo<=s->s<=t->t<hi->p t->p s) :
  ∀(n i j:u),j-i<=n->lo<=i->i<=j->j<=hi->(∀t,lo<=t->t<i->p t)->(∀t,j<=t->t<hi->¬p t)->
   ∃k,i<=k/\k<=j/\F i j=w (fin k)/\(∀t,lo<=t->t<k->p t)/\∀t,k<=t->t<hi->¬p t
 |0,i,j,hn,h1,h2,h3,h4,h5=>by
  obtain rfl:i=j:=omg_;exact⟨i,jn _,jn _,ee i h1 h3,h4,h5⟩
 |n+1,i,j,hn,h1,h2,h3,h4,h5=>by
  by_cases dP:i=j
  .subst dP;exact⟨i,jn _,jn _,ee i h1 h3,h4,h5⟩
  .rw[eY i j h1 omg_ h3];by_cases hp:p ((i+j)/2)
   .rw[if_pos hp];obtain⟨k,k1,k2,k3⟩:=Hi F fin p lo hi eY ee mono n ((i+j)/2+1) j omg_ omg_ omg_ h3 (λt t1 t2=>mono t _ t1 omg_ omg_ hp) h5;exact⟨k,omg_,k2,k3⟩
   .rw[if_neg hp];obtain⟨k,k1,k2,k3⟩:=Hi F fin p lo hi eY ee mono n i ((i+j)/2) omg_ h1 omg_ omg_ h4 (λt t1 t2 hq=>hp (mono _ t omg_ t1 t2 hq));exact⟨k,k1,omg_,k3⟩
theorem Lk{a b:u}(h:a+b<=4000000000):w64 (Int.fdiv (IntKind.wrap .u64 (w64 ((a:o)+(b:o)))) 2)=(((a+b)/2:u):o):=by
 rw[aj (x:=(a:o)+b),show IntKind.wrap .u64 ((a:o)+(b:o))=(a:o)+(b:o) from IntWalk.u64_in _ ⟨omg_,omg_⟩,Int.fdiv_eq_ediv_of_nonneg _ omg_,aj];omega
def dC:iK:=(0,(0,(0,(0,0))))
theorem zD(P R:bG)(x:iK):(P++x::R).getD P.length dC=x:=by
 rw[q,kn smp_];simp
theorem zF(P R:bG)(x y:iK):(P++x::R).set P.length y=P++y::R:=by
 rw[v6 _ _ smp_];simp
theorem Db{l:bG}{i:u}(h:i<l.length):l.getD i dC∈l:=by
 rw[q,jm h];exact jf h
theorem Ϸ(P A R:bG)(i:u)(h:i<A.length):(P++(A++R)).getD (P.length+i) dC=A.getD i dC:=by
 rw[q,q,kn omg_,show P.length+i-P.length=i by omega,List.getElem?_append_left h]
theorem zG{A:bG}(h:eh A){i j:u}(dP:i<=j)(hj:j<A.length):aw (A.getD i dC)<=aw (A.getD j dC):=by
 rw[q,q,jm hj,jm (show i<A.length by omega)];by_cases he:i=j
 .subst he;exact jy _
 .exact kg.1 h i j omg_ hj omg_
theorem Ll{A:bG}{k:u}{x:iK}(h:x∈A.take k):∃i,i<k/\i<A.length/\x=A.getD i dC:=by
 obtain⟨i,hi,rfl⟩:=qa h;simp only[qk]at hi;exact⟨i,omg_,omg_,by rw[List.getElem_take,q,jm omg_];rfl⟩
theorem Lm{A:bG}{k:u}{x:iK}(h:x∈A.drop k):∃i,k<=i/\i<A.length/\x=A.getD i dC:=by
 obtain⟨i,hi,rfl⟩:=qa h;simp only[zj]at hi;exact⟨k+i,omg_,omg_,by rw[List.getElem_drop,q,jm omg_];rfl⟩
theorem ϸ{n a b:o}:∀(U V P M Q:bG)(k:u),U.length=V.length->(k:o)+U.length=n->a+k=P.length->b+k=((P.length+U.length+M.length:u):o)->P.length+U.length+M.length+V.length+Q.length<=1000000000->0<=a->0<=b->k<=1000000000->
  Fx a b n (k:o) (P++(U++(M++(V++Q))))=w (P++(V++(M++(U++Q))))
 |[],[],P,M,Q,k,_,hn,ha,hb,hl,_,_,_=>by
  rw[Yq];simp only[j0H];simp only[jw]at hn;rw[ai omg_,j7,aP]
 |[],_::_,_,_,_,_,h,_,_,_,_,_,_,_=>by simp at h
 |_::_,[],_,_,_,_,h,_,_,_,_,_,_,_=>by simp at h
 |x::U,y::V,P,M,Q,k,hUV,hn,ha,hb,hl,wB,gH,hk=>by
  simp only[ji]at hUV hn hb hl;have TD:U.length=V.length:=omg_;have e1:P++(x::U++(M++(y::V++Q)))=(P++x::(U++M))++y::(V++Q):=smp_;have e2:P++(x::U++(M++(y::V++Q)))=P++x::(U++(M++(y::V++Q))):=smp_;have hL:(P++(x::U++(M++(y::V++Q)))).length=P.length+U.length+1+M.length+V.length+1+Q.length:=sqo_;have g1:(P++(x::U++(M++(y::V++Q)))).getD (b+k).toNat dC=y:=by rw[e1,show (b+k).toNat=(P++x::(U++M)).length by simp;omega,zD]
  have g2:(P++(x::U++(M++(y::V++Q)))).getD (a+k).toNat dC=x:=by rw[e2,show (a+k).toNat=P.length by omega,zD]
  have s1:(P++(x::U++(M++(y::V++Q)))).set (a+k).toNat y=(P++y::(U++M))++y::(V++Q):=by rw[e2,show (a+k).toNat=P.length by omega,zF];simp
  have s2:((P++y::(U++M))++y::(V++Q)).set (b+k).toNat x=(P++[y])++(U++((M++[x])++(V++Q))):=by rw[show (b+k).toNat=(P++y::(U++M)).length by simp;omega,zF];simp
  have ih:=ϸ (n:=n) (a:=a) (b:=b) U V (P++[y]) (M++[x]) Q (k+1) TD omg_ sqo_ sqo_ sqo_ wB gH omg_;unfold dC at g1 g2;rw[Yq];simp only[j0H];rw[ah (show (k:o)<n by omega),aj (x:=a+(k:o)),aj (x:=b+(k:o)),bA omg_ (by rw[hL];omega),bA (show (0:o)<=a+(k:o) by omega) (by rw[hL];omega)];simp only[j6,g1,g2];rw[show (P++(x::U++(M++(y::V++Q)))).set (a+(k:o)).toNat (y.1,(y.2.1,(y.2.2.1,(y.2.2.2.1,y.2.2.2.2))))=_ from s1];rw[bA (show (0:o)<=b+(k:o) by omega) sqo_,j6];rw[show ((P++y::(U++M))++y::(V++Q)).set (b+(k:o)).toNat (x.1,(x.2.1,(x.2.2.1,(x.2.2.2.1,x.2.2.2.2))))=_ from s2];rw[aj (x:=(k:o)+1),aB];rw[show ((k+1:u):o)=(k:o)+1 by omega]at ih;rw[ih];simp
theorem TE(P U M V Q:bG)(h:U.length=V.length)(hl:P.length+U.length+M.length+V.length+Q.length<=1000000000){a b n:o}(ha:a=P.length)(hb:b=((P.length+U.length+M.length:u):o))(hn:n=U.length) :
  j0A (P++(U++(M++(V++Q)))) a b n=w (P++(V++(M++(U++Q)))):=by
 have:=ϸ (n:=n) (a:=a) (b:=b) U V P M Q 0 h omg_ omg_ omg_ hl omg_ omg_ omg_;simp only[j0A];rw[show Fx a b n 0 (P++(U++(M++(V++Q))))=_ from this];rfl
theorem TF{m:o}:∀(n:u)(P U V Q:bG),U.length+V.length<=n->U≠[]->V≠[]->m=((P.length+U.length:u):o)->P.length+U.length+V.length+Q.length<=1000000000->
  ∃(i:o)(d:bG),Jw m (U.length:o) (V.length:o) (P++(U++(V++Q)))=w (m,i,d)/\j0A d (w64 (m-i)) m i=w (P++(V++(U++Q)))
 |0,P,U,V,Q,hn,hU,_,_,_=>by
  have:=q9.2 hU;omega
 |n+1,P,U,V,Q,hn,hU,hV,hm,hl=>by
  have hu:=q9.2 hU;have hv:=q9.2 hV;rw[j9B];simp only[j1A];by_cases bz:U.length=V.length
  .rw[show (((U.length:u):o) != (V.length:o))=false by rw[bz];exact jk _,j7,aP];refine⟨_,_,rfl,?_⟩;have:=TE P U [] V Q bz sqo_ (a:=w64 (m-(U.length:o))) (b:=m) (n:=(U.length:o)) (by rw[aj];omega) sqo_ rfl;simpa using this
  .rw[show (((U.length:u):o) != (V.length:o))=true by simp;omega,j6];by_cases wV:V.length<U.length
   .rw[ah (show (U.length:o)>(V.length:o) by omega),j6];obtain⟨U1,U2,hUe,Ϲ⟩:∃U1 U2,U=U1++U2/\U1.length=V.length:=⟨U.take V.length,U.drop V.length,(kq ..).symm,sqo_⟩;subst hUe;simp only[jc]at *;have hs:=TE P U1 U2 V Q Ϲ omg_ (a:=w64 (m-((U1.length+U2.length:u):o))) (b:=m) (n:=(V.length:o)) (by rw[aj];omega) omg_ omg_;simp only[jh]at hs ⊢;rw[hs];simp only[j4];rw[aj (x:=((U1.length+U2.length:u):o)-(V.length:o)),aB];obtain⟨i,d,h1,h2⟩:=TF (m:=m) n (P++V) U2 U1 Q omg_ (λh=>by subst h;simp at wV;omega) (λh=>by subst h;simp at Ϲ;omega) sqo_ sqo_;rw[show ((U1.length+U2.length:u):o)-(V.length:o)=(U2.length:o) by omega,show ((V.length:u):o)=(U1.length:o) by omega];simp only[jh]at h1 h2;exact⟨i,d,h1,h2⟩
   .rw[ai (show¬(U.length:o)>(V.length:o) by omega),j7];obtain⟨V1,V2,hVe,Ϻ⟩:∃V1 V2,V=V1++V2/\V2.length=U.length:=⟨V.take (V.length-U.length),V.drop (V.length-U.length),(kq ..).symm,sqo_⟩;subst hVe;simp only[jc]at *;have hs:=TE P U V1 V2 Q Ϻ.symm omg_ (a:=w64 (m-(U.length:o))) (b:=w64 (w64 (m+((V1.length+V2.length:u):o))-(U.length:o))) (n:=(U.length:o)) (by rw[aj];omega) (by rw[aj (x:=m+_),aj];omega) rfl;simp only[jh]at hs ⊢;rw[hs];simp only[j4];rw[aj (x:=((V1.length+V2.length:u):o)-(U.length:o)),aB];obtain⟨i,d,h1,h2⟩:=TF (m:=m) n P V2 V1 (U++Q) omg_ (λh=>by subst h;simp at Ϻ;omega) (λh=>by subst h;simp at wV bz;omega) omg_ sqo_;rw[show ((V1.length+V2.length:u):o)-(U.length:o)=(V1.length:o) by omega,show ((U.length:u):o)=(V2.length:o) by omega];exact⟨i,d,h1,h2⟩
theorem jGT(P U V Q:bG)(hU:U≠[])(hV:V≠[])(hl:P.length+U.length+V.length+Q.length<=1000000000){a m b:o}(ha:a=P.length)(hm:m=((P.length+U.length:u):o))(hb:b=((P.length+U.length+V.length:u):o)) :
  j1c (P++(U++(V++Q))) a m b=w (P++(V++(U++Q))):=by
 obtain⟨i,d,h1,h2⟩:=TF (m:=m) _ P U V Q (jn _) hU hV hm hl;simp only[j1c];rw[aj (x:=m-a),aj (x:=b-m),show m-a=(U.length:o) by omega,show b-m=(V.length:o) by omega,h1];simp only[j4,h2]
section
variable(rec:bG->o->o->o->Option bG)
theorem ϻ{e:o}(x:iK):∀(B P Q:bG),e-1=((P.length+B.length:u):o)->P.length+B.length+Q.length<=1000000000->
  Jy rec e (P.length:o) (P++x::(B++Q))=w (P++(B++x::Q))
 |[],P,Q,he,hl=>by
  rw[Ys];simp only[j0N];simp only[jw]at he;rw[aj (x:=e-1),ai omg_,j7,aP];rfl
 |y::B,P,Q,he,hl=>by
  simp only[ji]at he hl;have hL:(P++x::(y::B++Q)).length=P.length+B.length+Q.length+2:=sqo_;have e1:P++x::(y::B++Q)=(P++[x])++y::(B++Q):=smp_;have g1:(P++x::(y::B++Q)).getD ((P.length:o)+1).toNat dC=y:=by rw[e1,show ((P.length:o)+1).toNat=(P++[x]).length by simp,zD]
  have g2:(P++x::(y::B++Q)).getD P.length dC=x:=zD _ _ _;have s1:(P++x::(y::B++Q)).set P.length y=(P++[y])++y::(B++Q):=by rw[zF];simp
  have s2:((P++[y])++y::(B++Q)).set ((P.length:o)+1).toNat x=(P++[y])++x::(B++Q):=by rw[show ((P.length:o)+1).toNat=(P++[y]).length by simp,zF]
  have ih:=ϻ (e:=e) x B (P++[y]) Q sqo_ sqo_;unfold dC at g1 g2;rw[Ys];simp only[j0N];rw[aj (x:=e-1),ah omg_,aj (x:=(P.length:o)+1),bA (show (0:o)<=(P.length:o)+1 by omega) (by rw[hL];omega),bA (show (0:o)<=(P.length:o) by omega) (by rw[hL];omega)];simp only[j6,j8,g1,g2];rw[show (P++x::(y::B++Q)).set P.length (y.1,(y.2.1,(y.2.2.1,(y.2.2.2.1,y.2.2.2.2))))=_ from s1];rw[bA (n:=((P++[y])++y::(B++Q)).length) (show (0:o)<=(P.length:o)+1 by omega) sqo_,j6];rw[show ((P++[y])++y::(B++Q)).set ((P.length:o)+1).toNat (x.1,(x.2.1,(x.2.2.1,(x.2.2.2.1,x.2.2.2.2))))=_ from s2,aB];rw[show (((P++[y]).length:u):o)=(P.length:o)+1 by simp]at ih;rw[ih];simp
theorem Ā{i:o}(x:iK):∀(B P Q:bG),i=P.length->P.length+B.length+Q.length<=1000000000->
  Jz rec i ((P.length+B.length:u):o) (P++(B.reverse++x::Q))=w (P++x::(B.reverse++Q))
 |[],P,Q,hi,hl=>by
  rw[Yu];simp only[j0P];rw[ai sqo_,j7,aP];rfl
 |y::B,P,Q,hi,hl=>by
  simp only[ji]at hl;have hL:(P++((y::B).reverse++x::Q)).length=P.length+B.length+Q.length+2:=sqo_;have e1:P++((y::B).reverse++x::Q)=(P++B.reverse++[y])++x::Q:=smp_;have e2:P++((y::B).reverse++x::Q)=(P++B.reverse)++y::(x::Q):=smp_;have n1:(((P.length+(B.length+1):u):o)-1).toNat=(P++B.reverse).length:=sqo_;have n2:P.length+(B.length+1)=(P++B.reverse++[y]).length:=smp_;have g1:(P++((y::B).reverse++x::Q)).getD (((P.length+(B.length+1):u):o)-1).toNat dC=y:=by rw[e2,n1,zD]
  have g2:(P++((y::B).reverse++x::Q)).getD (P.length+(B.length+1)) dC=x:=by rw[e1,n2,zD]
  have s1:(P++((y::B).reverse++x::Q)).set (P.length+(B.length+1)) y=(P++B.reverse)++y::(y::Q):=by rw[e1,n2,zF];simp
  have s2:((P++B.reverse)++y::(y::Q)).set (((P.length+(B.length+1):u):o)-1).toNat x=P++(B.reverse++x::(y::Q)):=by rw[n1,zF];simp
  have ih:=Ā (i:=i) x B P (y::Q) hi sqo_;unfold dC at g1 g2;rw[Yu];simp only[j0P,ji];rw[ah omg_,aj (x:=((P.length+(B.length+1):u):o)-1),bA (show (0:o)<=((P.length+(B.length+1):u):o)-1 by omega) (by rw[hL];omega),bA (show (0:o)<=((P.length+(B.length+1):u):o) by omega) (by rw[hL];omega)];simp only[j6,j8,g1,g2];rw[show (P++((y::B).reverse++x::Q)).set (P.length+(B.length+1)) (y.1,(y.2.1,(y.2.2.1,(y.2.2.2.1,y.2.2.2.2))))=_ from s1];rw[bA (show (0:o)<=((P.length+(B.length+1):u):o)-1 by omega) sqo_,j6];rw[show ((P++B.reverse)++y::(y::Q)).set (((P.length+(B.length+1):u):o)-1).toNat (x.1,(x.2.1,(x.2.2.1,(x.2.2.2.1,x.2.2.2.2))))=_ from s2,aB];rw[show ((P.length+(B.length+1):u):o)-1=((P.length+B.length:u):o) by omega,ih];simp
variable{D:bG}(hD:iW D)(hL:D.length<=1000000000)
include hD hL
theorem jGU{a m b:u}(ha:a<D.length)(hmb:m<=b)(hb:b<=D.length)(jN:∀s t,m<=s->s<=t->t<b->aw (D.getD s dC)<=aw (D.getD t dC)) :
  ∃k,m<=k/\k<=b/\Fy rec (a:o) (m:o) (b:o) D=w ((a:o),(k:o),D)/\(∀t,m<=t->t<k->aw (D.getD t dC)<aw (D.getD a dC))/\∀t,k<=t->t<b->¬aw (D.getD t dC)<aw (D.getD a dC):=by
 refine Hi (λi j=>Fy rec (a:o) (i:o) (j:o) D) (λk=>((a:o),(k:o),D)) (λt=>aw (D.getD t dC)<aw (D.getD a dC)) m b (λi j h1 h2 h3=>?_) (λi h1 h2=>?_) (λs t h1 h2 h3 h4=>by have:=jN s t h1 h2 h3;omega) (b-m) m b (jn _) (jn _) hmb (jn _) (λt h1 h2=>omg_) (λt h1 h2=>omg_)
 .rw[Yr];simp only[j0M];rw[ah (show (i:o)<(j:o) by omega),Lk omg_,bA (show (0:o)<=(((i+j)/2:u):o) by omega) omg_,bA (show (0:o)<=(a:o) by omega) omg_];simp only[j6,j8];have c:=Lj (hD _ (Db (l:=D) (i:=(i+j)/2) omg_)) (hD _ (Db ha));unfold dC at c ⊢;rw[c];simp only[j4];by_cases hp:aw (D.getD ((i+j)/2) ((0:o),((0:o),((0:o),((0:o),(0:o))))))<aw (D.getD a ((0:o),((0:o),((0:o),((0:o),(0:o))))))
  .rw[if_pos hp,ah omg_,j6,aj (x:=(((i+j)/2:u):o)+1),aB];rfl
  .rw[if_neg hp,ai omg_,j7,aB]
 .rw[Yr];simp only[j0M];rw[ai omg_,j7,aP]
theorem jGV{a m:u}(hm:m<D.length)(ham:a<=m)(jN:∀s t,a<=s->s<=t->t<m->aw (D.getD s dC)<=aw (D.getD t dC)) :
  ∃k,a<=k/\k<=m/\Fz rec (m:o) (a:o) (m:o) D=w ((m:o),(k:o),D)/\(∀t,a<=t->t<k->¬aw (D.getD m dC)<aw (D.getD t dC))/\∀t,k<=t->t<m->¬¬aw (D.getD m dC)<aw (D.getD t dC):=by
 refine Hi (λi j=>Fz rec (m:o) (i:o) (j:o) D) (λk=>((m:o),(k:o),D)) (λt=>¬aw (D.getD m dC)<aw (D.getD t dC)) a m (λi j h1 h2 h3=>?_) (λi h1 h2=>?_) (λs t h1 h2 h3 h4=>by have:=jN s t h1 h2 h3;omega) (m-a) a m (jn _) (jn _) ham (jn _) (λt h1 h2=>omg_) (λt h1 h2=>omg_)
 .rw[Yt];simp only[j0O];rw[ah (show (i:o)<(j:o) by omega),Lk omg_,bA (show (0:o)<=(m:o) by omega) omg_,bA (show (0:o)<=(((i+j)/2:u):o) by omega) omg_];simp only[j6,j8];have c:=Lj (hD _ (Db hm)) (hD _ (Db (l:=D) (i:=(i+j)/2) omg_));unfold dC at c ⊢;rw[c];simp only[j4];by_cases hp:aw (D.getD m ((0:o),((0:o),((0:o),((0:o),(0:o))))))<aw (D.getD ((i+j)/2) ((0:o),((0:o),((0:o),((0:o),(0:o))))))
  .rw[if_neg omg_,ah omg_];simp only[jl,j7,aB]
  .rw[if_pos hp,ai omg_];simp only[jv,j6];rw[aj (x:=(((i+j)/2:u):o)+1),aB];rfl
 .rw[Yt];simp only[j0O];rw[ai omg_,j7,aP]
theorem ā{lo hi p:u}{s1 s2 s3 s18 s19:o}(hlh:lo<=hi)(hh:hi<=D.length)(hp:∀c,lo<=c->c<hi->c<=p/\p-c<D.length)(xw:p<=2000000000)
  (jN:∀s t,lo<=s->s<=t->t<hi->¬aw (D.getD (p-t) dC)<aw (D.getD t dC)->¬aw (D.getD (p-s) dC)<aw (D.getD s dC)) :
  ∃k,lo<=k/\k<=hi/\CJ rec s1 s2 s3 s18 s19 (lo:o) (hi:o) (p:o) D=w (s1,s2,s3,s18,s19,(k:o),D)/\(∀t,lo<=t->t<k->¬aw (D.getD (p-t) dC)<aw (D.getD t dC))/\∀t,k<=t->t<hi->¬¬aw (D.getD (p-t) dC)<aw (D.getD t dC):=by
 refine Hi (λi j=>CJ rec s1 s2 s3 s18 s19 (i:o) (j:o) (p:o) D) (λk=>(s1,s2,s3,s18,s19,(k:o),D)) (λt=>¬aw (D.getD (p-t) dC)<aw (D.getD t dC)) lo hi (λi j h1 h2 h3=>?_) (λi h1 h2=>?_) jN (hi-lo) lo hi (jn _) (jn _) hlh (jn _) (λt h1 h2=>omg_) (λt h1 h2=>omg_)
 .have mb:=hp ((i+j)/2) omg_ omg_;rw[Yv];simp only[j0Q];rw[ah (show (i:o)<(j:o) by omega),Lk omg_,aj (x:=(p:o)-(((i+j)/2:u):o)),bA (show (0:o)<=(p:o)-(((i+j)/2:u):o) by omega) omg_,bA (show (0:o)<=(((i+j)/2:u):o) by omega) omg_];simp only[j6,j8];rw[show ((p:o)-(((i+j)/2:u):o)).toNat=p-(i+j)/2 by omega];have c:=Lj (hD _ (Db (l:=D) (i:=p-(i+j)/2) mb.2)) (hD _ (Db (l:=D) (i:=(i+j)/2) omg_));unfold dC at c ⊢;rw[c];simp only[j4];by_cases hq:aw (D.getD (p-(i+j)/2) ((0:o),((0:o),((0:o),((0:o),(0:o))))))<aw (D.getD ((i+j)/2) ((0:o),((0:o),((0:o),((0:o),(0:o))))))
  .rw[if_neg omg_,ah omg_];simp only[jl,j7,aB]
  .rw[if_pos hq,ai omg_];simp only[jv,j6];rw[aj (x:=(((i+j)/2:u):o)+1),aB];rfl
 .rw[Yv];simp only[j0Q];rw[ai omg_,j7,aP]
end
end Go.Proofs.Pw
