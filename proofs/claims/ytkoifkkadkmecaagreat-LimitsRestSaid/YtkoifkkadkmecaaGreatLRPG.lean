/- span.Common and span.Without: meets and yZ of sets. -/
import Derived.Test.YtkoifkkadkmecaaGreatLRPF
import Derived.Test.YtkoifkkadkmecaaGreatLRPE
import Derived.Test.YtkoifkkadkmecaaGreatLRPA
import Derived.KernelRfl
import Derived.Test.YtkoifkkadkmecaaGreatLRPD
import Derived.Test.YtkoifkkadkmecaaGreatLRFns
import Derived.Test.YtkoifkkadkmecaaGreatLRLD
open _root_ renaming Int->o,Nat->G,List->H
open Decidable renaming decide->w
open Int renaming ofNat->y,tmod->N
open List renaming length->D,getD->F,singleton_append->K
open ByteArray renaming empty->E,mk->I
open Option renaming some->J
open Bool renaming true->M
open Go Go.Lft
namespace Go.Proofs.Pw
theorem bB.weak{p q:o}(hq:q<=p):∀{l:SL},bB p l->bB q l
 |[],_=>trivial
 |_::_,h=>⟨by have:=h.1;omega,h.2⟩
theorem bB.low{p x:o}:∀{l:SL},bB p l->bq x l->p<x
 |[],_,h=>absurd h fp
 |s::r,h,hx=>by
  rcases du.1 hx with hx|hx
  .have:=h.1;omega
  .have:=bB.low h.2.2 hx;have:=h.1;have:=h.2.1;omega
theorem bB.mem{p:o}:∀{l:SL},bB p l->∀s∈l,p<s.1/\s.1<s.2
 |[],_,s,hs=>by simp at hs
 |u::r,h,s,hs=>by
  rcases je.1 hs with rfl|hs
  .exact⟨h.1,h.2.1⟩
  .have:=bB.mem h.2.2 s hs;have:=h.1;have:=h.2.1;omega
def ox:G->SL->SL->SL
 |n+1,s::a,u::b=>(if (if u.1>s.1 then u.1 else s.1)<(if u.2<s.2 then u.2 else s.2) then [((if u.1>s.1 then u.1 else s.1),(if u.2<s.2 then u.2 else s.2))] else [])++
  (if s.2<u.2 then ox n a (u::b) else ox n (s::a) b)
 |_,_,_=>[]
theorem SC:∀(n:G)(a b:SL)(p q:o),a.length+b.length<=n->bB p a->bB q b->(∀x,bq x (ox n a b)↔bq x a/\bq x b)/\bB p (ox n a b)/\bB q (ox n a b)/\(ox n a b).length<=a.length+b.length
 |0,a,b,p,q,hn,_,_=>by
  obtain rfl:a=[]:=k9.1 omg_;exact⟨λx=>⟨λh=>absurd h fp,λh=>absurd h.1 fp⟩,trivial,trivial,by simp[ox]⟩
 |n+1,[],b,p,q,_,_,_=>⟨λx=>⟨λh=>absurd h fp,λh=>absurd h.1 fp⟩,trivial,trivial,by simp[ox]⟩
 |n+1,_::_,[],p,q,_,_,_=>⟨λx=>⟨λh=>absurd h fp,λh=>absurd h.2 fp⟩,trivial,trivial,by simp[ox]⟩
 |n+1,s::a,u::b,p,q,hn,ha,hb=>by
  obtain⟨a1,a2,a3⟩:=ha;obtain⟨b1,b2,b3⟩:=hb;simp only[ji]at hn ⊢
  have hx:∃f t:o,f=(if u.1>s.1 then u.1 else s.1)/\t=(if u.2<s.2 then u.2 else s.2)/\(∀x,(f<=x/\x<t)↔(s.1<=x/\x<s.2)/\(u.1<=x/\x<u.2))/\p<f/\q<f/\t<=s.2/\t<=u.2:=by
   refine⟨_,_,rfl,rfl,λx=>?_,?_,?_,?_,?_⟩
   .constructor
    .intro h;split at h<;>split at h<;>omega
    .intro h;split<;>split<;>omega
   .split<;>omega
   .split<;>omega
   .split<;>omega
   .split<;>omega
  obtain⟨f,t,ef,et,hi,f1,f2,t1,t2⟩:=hx;simp only[ox,<-ef,<-et]
  have key:∀(a' b':SL)(r:SL),(∀x,bq x r↔bq x a'/\bq x b')->bB t r->bB p r->bB q r->r.length<=a'.length+b'.length->a'.length+b'.length+1=a.length+1+(b.length+1)->
    (∀x,bq x (s::a)/\bq x (u::b)↔(f<=x/\x<t)\/(bq x a'/\bq x b'))->
    (∀x,bq x ((if f<t then [(f,t)] else [])++r)↔bq x (s::a)/\bq x (u::b))/\bB p ((if f<t then [(f,t)] else [])++r)/\bB q ((if f<t then [(f,t)] else [])++r)/\((if f<t then [(f,t)] else [])++r).length<=a.length+1+(b.length+1):=by
   intro a' b' r Ac wZ SD K8 hl uG ug;by_cases jP:f<t
   .rw[if_pos jP];refine⟨λx=>?_,⟨f1,jP,wZ⟩,⟨f2,jP,wZ⟩,sqo_⟩;rw[ug,wX,Ac x,du];constructor
    .rintro ((h|h)|h)
     .exact .inl h
     .exact absurd h fp
     .exact .inr h
    .rintro (h|h)
     .exact .inl (.inl h)
     .exact .inr h
   .rw[if_neg jP,jp];refine⟨λx=>?_,SD,K8,omg_⟩;rw[ug,Ac x];constructor
    .exact .inr
    .rintro (h|h)
     .omega
     .exact h
  by_cases hc:s.2<u.2
  .rw[if_pos hc];obtain⟨i1,i2,i3,i4⟩:=SC n a (u::b) s.2 q sqo_ a3 ⟨b1,b2,b3⟩;refine key a (u::b) _ i1 (i2.weak t1) (i2.weak omg_) i3 i4 sqo_ (λx=>?_);rw[du,hi x];constructor
   .rintro⟨h|h,h'⟩
    .rcases du.1 h' with h'|h'
     .exact .inl ⟨h,h'⟩
     .have:=bB.low b3 h';omega
    .exact .inr ⟨h,h'⟩
   .rintro (h|h)
    .exact⟨.inl h.1,du.2 (.inl h.2)⟩
    .exact⟨.inr h.1,h.2⟩
  .rw[if_neg hc];obtain⟨i1,i2,i3,i4⟩:=SC n (s::a) b p u.2 sqo_ ⟨a1,a2,a3⟩ b3;refine key (s::a) b _ i1 (i3.weak t2) i2 (i3.weak omg_) i4 sqo_ (λx=>?_);rw[du (s:=u),hi x];constructor
   .rintro⟨h',h|h⟩
    .rcases du.1 h' with h'|h'
     .exact .inl ⟨h',h⟩
     .have:=bB.low a3 h';omega
    .exact .inr ⟨h',h⟩
   .rintro (h|h)
    .exact⟨du.2 (.inl h.1),.inl h.2⟩
    .exact⟨h.1,.inr h.2⟩
theorem SE{A B:SL}(hA:A.length<=10000000)(hB:B.length<=10000000):∀(n i k:G)(acc:SL),i<=A.length->k<=B.length->(A.length-i)+(B.length-k)=n->acc.length+n<=30000000->
  AX A B (i:o) (k:o) acc=J (acc++ox n (A.drop i) (B.drop k))
 |n,i,k,acc,hi,hk,hn,dQ=>by
  rw[jm8];simp only[j7d,show y (D A)=(A.length:o) from rfl,show y (D B)=(B.length:o) from rfl];by_cases ee:i<A.length/\k<B.length
  .obtain⟨bh,bH⟩:=ee;obtain⟨n,rfl⟩:∃m,n=m+1:=⟨n-1,omg_⟩;have gA:A.getD i ((0:o),(0:o))=A[i]:=by simp[F,bh]
   have gB:B.getD k ((0:o),(0:o))=B[k]:=by simp[F,bH]
   rw[ah (show (i:o)<(A.length:o) by omega),ah (show (k:o)<(B.length:o) by omega),bA (show (0:o)<=(i:o) by omega) omg_,bA (show (0:o)<=(k:o) by omega) omg_];simp only[j6,j8,gA,gB];rw[aj (x:=(i:o)+1),aj (x:=(k:o)+1)];rw[jb bh,jb bH];simp only[ox];generalize (if B[k].1>A[i].1 then B[k].1 else A[i].1:o)=f;generalize (if B[k].2<A[i].2 then B[k].2 else A[i].2:o)=t
   have G4:∀aV:SL,aV.length<=acc.length+1->AX A B ((i:o)+1) (k:o) aV=J (aV++ox n (A.drop (i+1)) (B[k]::B.drop (k+1))):=λaV mm=>by
    have:=SE hA hB n (i+1) k aV omg_ omg_ omg_ omg_;rw[<-jb bH];exact this
   have G5:∀aV:SL,aV.length<=acc.length+1->AX A B (i:o) ((k:o)+1) aV=J (aV++ox n (A[i]::A.drop (i+1)) (B.drop (k+1))):=λaV mm=>by
    have:=SE hA hB n i (k+1) aV omg_ omg_ omg_ omg_;rw[<-jb bh];exact this
   by_cases jP:f<t
   .rw[ah jP,if_pos jP,ah (by simp[aG];omega)];simp only[j6];by_cases hc:A[i].2<B[k].2
    .rw[ah hc,if_pos hc];simp only[j6,aB];rw[G4 _ smp_,jh]
    .rw[ai hc,if_neg hc];simp only[j7,aB];rw[G5 _ smp_,jh]
   .rw[ai jP,if_neg jP];simp only[j7];by_cases hc:A[i].2<B[k].2
    .rw[ah hc,if_pos hc];simp only[j6,aB];rw[G4 _ omg_,jp]
    .rw[ai hc,if_neg hc];simp only[j7,aB];rw[G5 _ omg_,jp]
  .have hc:cond (w ((i:o)<(A.length:o))) (w ((k:o)<(B.length:o))) false=false:=by
    by_cases h1:i<A.length
    .rw[ah omg_,j6];exact ai omg_
    .rw[ai omg_,j7]
   rw[hc,j7,aP]
   have:ox n (A.drop i) (B.drop k)=[]:=by
    by_cases h1:i<A.length
    .rw[yw (show B.length<=k by omega)];cases n<;>cases A.drop i<;>rfl
    .rw[yw (show A.length<=i by omega)];cases n<;>rfl
   rw[this,kc]
theorem SF{A B:SL}{p q:o}(ha:bB p A)(hb:bB q B)(hA:A.length<=10000000)(hB:B.length<=10000000) :
  ∃out,j6o A B=J out/\bB p out/\(∀x,bq x out↔bq x A/\bq x B)/\out.length<=A.length+B.length:=by
 have lp:=SE hA hB (A.length+B.length) 0 0 [] omg_ omg_ omg_ sqo_;obtain⟨h1,h2,h3,h4⟩:=SC (A.length+B.length) A B p q (jn _) ha hb;refine⟨ox (A.length+B.length) A B,?_,h2,h1,h4⟩;simp only[j6o,show AX A B 0 0 []=_ from lp,j4,jp,jr]
def pq(e:o):o->SL->SL×o
 |t,[]=>([],t)
 |t,u::b=>if u.1<e then ((if t<u.1 then [(t,u.1)] else [])++(pq e (if u.2>t then u.2 else t) b).1,(pq e (if u.2>t then u.2 else t) b).2) else ([],t)
def ni(e t:o)(b:SL):SL:=(pq e t b).1++(if (pq e t b).2<e then [((pq e t b).2,e)] else [])
theorem jEY{e t:o}{u:o×o}{b:SL}(h:u.1<e):ni e t (u::b)=(if t<u.1 then [(t,u.1)] else [])++ni e (if u.2>t then u.2 else t) b:=by
 simp only[ni,pq,if_pos h,jh]
theorem Q_{e:o}:∀(b:SL)(t q:o),bB q b->(∀x,bq x (ni e t b)↔(t<=x/\x<e)/\¬bq x b)/\bB (t-1) (ni e t b)/\(∀s∈ni e t b,s.2<=e)/\(ni e t b).length<=b.countP (λu=>w (t<u.1)&&w (u.1<e))+1
 |[],t,q,_=>by
  rw[show ni e t []=(if t<e then [(t,e)] else []) from rfl];by_cases h:t<e
  .rw[if_pos h];exact⟨λx=>⟨λhx=>⟨by rcases du.1 hx with hx|hx;exact hx;exact absurd hx fp,fp⟩,λhx=>du.2 (.inl hx.1)⟩,⟨by dsimp only;omega,h,trivial⟩,smp_,smp_⟩
  .rw[if_neg h];exact⟨λx=>⟨λhx=>absurd hx fp,λhx=>omg_⟩,trivial,smp_,smp_⟩
 |u::b,t,q,hb=>by
  obtain⟨b1,b2,b3⟩:=hb;by_cases hu:u.1<e
  .rw[jEY hu];have hm:∃t',t'=(if u.2>t then u.2 else t)/\t<=t'/\u.2<=t'/\(t'=t\/t'=u.2):=⟨_,rfl,by split<;>omega,by split<;>omega,by split<;>omega⟩;obtain⟨t',e',h1,h2,h3⟩:=hm;rw[<-e'];obtain⟨i1,i2,i3,i4⟩:=Q_ b t' u.2 b3;have fT:∀x,bq x b->u.2<x:=λx=>bB.low b3
   have hcp:b.countP (λu=>w (t'<u.1)&&w (u.1<e))<=b.countP (λu=>w (t<u.1)&&w (u.1<e)):=List.countP_mono_left λv _ h=>by
    simp only[jg,js]at h ⊢;omega
   by_cases zA:t<u.1
   .rw[if_pos zA]
    refine⟨λx=>?_,⟨by dsimp only;omega,zA,i2.weak omg_⟩,λs hs=>?_,by
     rw[List.countP_cons_of_pos (by simp[zA,hu]),K,ji];omega⟩
    .rw[K,du,i1 x,du];constructor
     .rintro (h|h)
      .exact⟨omg_,λh'=>by
        rcases h' with h'|h'
        .omega
        .have:=fT x h';omega⟩
      .exact⟨omg_,λh'=>by
        rcases h' with h'|h'
        .omega
        .exact h.2 h'⟩
     .rintro⟨h,h'⟩
      by_cases hx:x<u.1
      .exact .inl ⟨h.1,hx⟩
      .by_cases ry:x<u.2
       .exact absurd (.inl ⟨omg_,ry⟩) h'
       .exact .inr ⟨omg_,λh2=>h' (.inr h2)⟩
    .rcases je.1 hs with rfl|hs
     .dsimp only;omega
     .exact i3 s hs
   .rw[if_neg zA,jp]
    refine⟨λx=>?_,i2.weak omg_,i3,by
     rw[List.countP_cons_of_neg (by simp[zA])];omega⟩
    rw[i1 x,du];constructor
    .rintro h
     exact⟨omg_,λh'=>by
      rcases h' with h'|h'
      .omega
      .exact h.2 h'⟩
    .rintro⟨h,h'⟩
     by_cases ry:x<u.2
     .exact absurd (.inl ⟨omg_,ry⟩) h'
     .exact⟨omg_,λh2=>h' (.inr h2)⟩
  .have:ni e t (u::b)=if t<e then [(t,e)] else []:=by simp only[ni,pq,if_neg hu,jp]
   rw[this]
   have df:∀x,x<e->¬bq x (u::b):=λx hx h=>by
    rcases du.1 h with h|h
    .omega
    .have:=bB.low b3 h;omega
   by_cases h:t<e
   .rw[if_pos h]
    exact⟨λx=>⟨λhx=>by
     rcases du.1 hx with hx|hx
     .exact⟨hx,df x hx.2⟩
     .exact absurd hx fp,λhx=>du.2 (.inl hx.1)⟩,⟨by dsimp only;omega,h,trivial⟩,smp_,smp_⟩
   .rw[if_neg h];exact⟨λx=>⟨λhx=>absurd hx fp,λhx=>omg_⟩,trivial,smp_,smp_⟩
def pA(l:SL)(u:o×o):Bool:=l.any λs=>w (s.1<u.1)&&w (u.1<s.2)
theorem R_{p q:o×o->Bool}(h:∀u,p u=M->q u=M->False):∀l:SL,l.countP p+l.countP q<=l.countP (λu=>p u||q u)
 |[]=>smp_
 |u::l=>by
  have ih:=R_ h l;have hu:=h u;simp only[List.countP_cons];cases hp:p u<;>cases hq:q u<;>simp_all<;>omega
theorem S_{q:o}:∀{b:SL}(k:G),bB q b->∃q',bB q' (b.drop k)
 |_,0,h=>⟨q,h⟩
 |[],_+1,_=>⟨q,trivial⟩
 |_::_,k+1,h=>S_ k h.2.2
section
variable{B:SL}(hB:B.length<=10000000)
include hB
theorem T_{A:SL}{n m s e:o}{acc:SL}:∀(d k:G),k+d=B.length->∃k':G,k<=k'/\k'<=B.length/\(∀j (h:j<B.length),k<=j->j<k'->B[j].2<=s)/\
  Jp B (k:o) A n m s e acc=J (B,(k':o),A,n,m,s,e,acc)
 |0,k,hk=>by
  rw[X6];simp only[j4M,show y (D B)=(B.length:o) from rfl];rw[ai omg_,j7,aP];exact⟨k,omg_,omg_,λj h h1 h2=>omg_,rfl⟩
 |d+1,k,hk=>by
  have bH:k<B.length:=omg_;have gB:B.getD k ((0:o),(0:o))=B[k]:=by simp[F,bH]
  rw[X6];simp only[j4M,show y (D B)=(B.length:o) from rfl];rw[ah omg_,bJ];simp only[j6,j8,gB];by_cases hc:B[k].2<=s
  .rw[ah hc,j6,aB,aj (x:=(k:o)+1)];obtain⟨k',h1,h2,h3,h4⟩:=T_ d (k+1) omg_;refine⟨k',omg_,h2,λj h ha hb=>?_,h4⟩;by_cases tg:j=k
   .subst tg;exact hc
   .exact h3 j h omg_ hb
  .rw[ai hc,j7,aP];exact⟨k,omg_,omg_,λj h h1 h2=>omg_,rfl⟩
theorem U_{A:SL}{k n m s e:o}:∀(d i:G)(t:o)(acc:SL),i+d=B.length->acc.length+d<=4000000000->
  Fj B k t (i:o) A n m s e acc=J (B,k,(pq e t (B.drop i)).2,A,n,m,s,e,acc++(pq e t (B.drop i)).1)
 |0,i,t,acc,hi,dQ=>by
  rw[X7];simp only[j4N,show y (D B)=(B.length:o) from rfl];rw[ai omg_,j7,aP,jd omg_];simp[pq]
 |d+1,i,t,acc,hi,dQ=>by
  have bh:i<B.length:=omg_;have gB:B.getD i ((0:o),(0:o))=B[i]:=by simp[F,bh]
  rw[X7];simp only[j4N,show y (D B)=(B.length:o) from rfl];rw[ah omg_,bJ];simp only[j6,j8,gB];rw[jb bh,aj (x:=(i:o)+1)];by_cases hc:B[i].1<e
  .rw[ah hc];simp only[j6,pq,if_pos hc];have ih:∀aV:SL,aV.length<=acc.length+1->Fj B k (if B[i].2>t then B[i].2 else t) ((i:o)+1) A n m s e aV=_:=λaV h'=>U_ d (i+1) (if B[i].2>t then B[i].2 else t) aV omg_ omg_;by_cases ht:t<B[i].1
   .rw[ah ht,if_pos ht,ah (by simp[aG];omega)];simp only[j6,aB];rw[ih _ smp_,jh]
   .rw[ai ht,if_neg ht];simp only[j7,aB];rw[ih _ omg_,jp]
  .rw[ai hc];simp only[j7,aP,pq,if_neg hc,kc]
theorem V_{A:SL}(hA:A.length<=10000000){q:o}(hb:bB q B):∀(d j k:G)(p:o)(acc:SL),j+d=A.length->k<=B.length->bB p (A.drop j)->(∀i (h:i<B.length),i<k->∀x,bq x (A.drop j)->B[i].2<=x)->acc.length+d+B.countP (pA (A.drop j))<=30000000->
  ∃out,CG B (k:o) A (A.length:o) (j:o) acc=J (acc++out)/\bB p out/\(∀x,bq x out↔bq x (A.drop j)/\¬bq x B)/\out.length<=d+B.countP (pA (A.drop j))
 |0,j,k,p,acc,hj,hk,_,_,dQ=>by
  rw[X8];simp only[j4O];rw[ai omg_,j7,aP,jd omg_];exact⟨[],smp_,trivial,λx=>⟨λh=>absurd h fp,λh=>absurd h.1 fp⟩,smp_⟩
 |d+1,j,k,p,acc,hj,hk,ha,SH,dQ=>by
  have fS:j<A.length:=omg_;have gA:A.getD j ((0:o),(0:o))=A[j]:=by simp[F,fS]
  rw[jb fS]at ha SH dQ ⊢;obtain⟨a1,a2,a3⟩:=ha;obtain⟨k',h1,h2,h3,h4⟩:=T_ hB (A:=A) (n:=(A.length:o)) (m:=(j:o)) (s:=A[j].1) (e:=A[j].2) (acc:=acc) (B.length-k) k omg_;have aW:∃q',bB q' (B.drop k'):=S_ k' hb;obtain⟨q',aW⟩:=aW
  have nW:∀x,A[j].1<=x->(bq x B↔bq x (B.drop k')):=by
   intro x hx;constructor
   .rintro⟨u,hu,u1,u2⟩
    obtain⟨i,hi,rfl⟩:=List.mem_iff_getElem.1 hu;by_cases jL:i<k'
    .by_cases Bw:i<k
     .have:=SH i hi Bw A[j].1 (du.2 (.inl ⟨jy _,a2⟩));omega
     .have:=h3 i hi omg_ jL;omega
    .exact⟨B[i],List.mem_drop_iff_getElem.2 ⟨i-k',omg_,by simp[show k'+(i-k')=i by omega]⟩,u1,u2⟩
   .rintro⟨u,hu,u1,u2⟩
    exact⟨u,ve hu,u1,u2⟩
  have w4:=U_ hB (A:=A) (k:=(k':o)) (n:=(A.length:o)) (m:=(j:o)) (s:=A[j].1) (e:=A[j].2) (B.length-k') k' A[j].1 acc omg_ omg_;obtain⟨s1,s2,s3,s4⟩:=Q_ (e:=A[j].2) (B.drop k') A[j].1 q' aW;have kT:(pq A[j].2 A[j].1 (B.drop k')).1.length<=(ni A[j].2 A[j].1 (B.drop k')).length:=by simp[ni]
  have qX:(ni A[j].2 A[j].1 (B.drop k')).length+B.countP (pA (A.drop (j+1)))<=B.countP (pA (A[j]::A.drop (j+1)))+1:=by
   have h5:(B.drop k').countP (λu=>w (A[j].1<u.1)&&w (u.1<A[j].2))<=B.countP (λu=>w (A[j].1<u.1)&&w (u.1<A[j].2)):=(List.drop_sublist k' B).countP_le
   have h6:=R_ (p:=λu=>w (A[j].1<u.1)&&w (u.1<A[j].2)) (q:=pA (A.drop (j+1))) (λu hp hq=>by
    obtain⟨s,hs,cW⟩:=zv.1 hq;have:=bB.mem a3 s hs;simp only[jg,js]at hp cW;omega) B
   have h7:B.countP (λu=>(w (A[j].1<u.1)&&w (u.1<A[j].2))||pA (A.drop (j+1)) u)=B.countP (pA (A[j]::A.drop (j+1))):=rfl;omega
  have step:∀aV:SL,aV=acc++ni A[j].2 A[j].1 (B.drop k')->∃out,CG B (k':o) A (A.length:o) ((j:o)+1) aV=J (acc++out)/\bB p out/\(∀x,bq x out↔bq x (A[j]::A.drop (j+1))/\¬bq x B)/\out.length<=d+1+B.countP (pA (A[j]::A.drop (j+1))):=by
   rintro _ rfl
   obtain⟨out,e,o1,o2,o3⟩:=V_ hA hb d (j+1) k' A[j].2 (acc++ni A[j].2 A[j].1 (B.drop k')) omg_ h2 a3 (λi hi jL x hx=>by
    have hlow:=bB.low a3 hx;by_cases Bw:i<k
    .exact SH i hi Bw x (du.2 (.inr hx))
    .have:=h3 i hi omg_ jL;omega) (by rw[jc];omega)
   refine⟨ni A[j].2 A[j].1 (B.drop k')++out,by rw[<-jh];exact e,?_,λx=>?_,by rw[jc];omega⟩
   .have glue:∀(l:SL)(r:o),bB r l->r<A[j].2->(∀s∈l,s.2<=A[j].2)->bB r (l++out):=by
     intro l;induction l with
     |nil=>intro r _ hr _;exact o1.weak omg_
     |cons s l ih=>intro r h hr hl;exact⟨h.1,h.2.1,by
      have:=hl s smp_;by_cases hs:s.2<A[j].2
      .exact ih s.2 h.2.2 hs (λu hu=>hl u (by simp[hu]))
      .have he:s.2=A[j].2:=omg_;match l,h.2.2 with
       |[],_=>exact o1.weak omg_
       |u::l',h'=>have:=hl u smp_;have:=h'.1;have:=h'.2.1;omega⟩
    exact glue _ _ (s2.weak omg_) omg_ s3
   .rw[wX,s1 x,o2 x,du];constructor
    .rintro (h|h)
     .exact⟨.inl h.1,λhx=>h.2 ((nW x h.1.1).1 hx)⟩
     .exact⟨.inr h.1,h.2⟩
    .rintro⟨h|h,h'⟩
     .exact .inl ⟨h,λhx=>h' ((nW x h.1).2 hx)⟩
     .exact .inr ⟨h,h'⟩
  rw[X8];simp only[j4O];rw[ah (show (j:o)<(A.length:o) by omega),bJ];simp only[j6,j8,gA,h4,j4,w4];rw[aj (x:=(j:o)+1)];have hlen:(acc++(pq A[j].2 A[j].1 (B.drop k')).1).length<=2000000000:=by rw[jc];omega
  by_cases ht:(pq A[j].2 A[j].1 (B.drop k')).2<A[j].2
  .rw[ah ht];simp only[j6];rw[ah (by simp only[aG,qe];omega)];simp only[j6,aB];exact step _ (by simp only[ni,if_pos ht,jh])
  .rw[ai ht];simp only[j7,aB];exact step _ (by simp only[ni,if_neg ht,kc])
theorem SI{A:SL}{p q:o}(ha:bB p A)(hb:bB q B)(hA:A.length<=10000000) :
  ∃out,j3A A B=J out/\bB p out/\(∀x,bq x out↔bq x A/\¬bq x B)/\out.length<=A.length+B.length:=by
 have hc:=List.countP_le_length (p:=pA (A.drop 0)) (l:=B);obtain⟨out,e,h1,h2,h3⟩:=V_ hB hA hb A.length 0 0 p [] omg_ omg_ ha (λi h hi=>omg_) (by simp only[jw];omega);refine⟨out,?_,h1,h2,omg_⟩;simp only[j3A,show y (D A)=(A.length:o) from rfl,show CG B 0 A (A.length:o) 0 []=_ from e,j4,jp]
end
set_option linter.unusedSectionVars false
theorem Bz:∀{l:SL}{p:o},bB p l->∀i,i<l.length->p<(l.getD i (0,0)).1/\(l.getD i (0,0)).1<(l.getD i (0,0)).2
 |[],_,_,i,hi=>by simp at hi
 |x::r,p,h,0,_=>⟨h.1,h.2.1⟩
 |x::r,p,h,i+1,hi=>by
  have:=Bz h.2.2 i (by simpa using hi);have h1:=h.1;have h2:=h.2.1;refine⟨?_,this.2⟩;have e:((x::r).getD (i+1) (0,0)).1=(r.getD i (0,0)).1:=rfl;rw[e];omega
theorem G6:∀{l:SL}{p:o},bB p l->∀i j,i<j->j<l.length->(l.getD i (0,0)).2<(l.getD j (0,0)).1
 |[],_,_,i,j,_,hj=>by simp at hj
 |x::r,p,h,0,j+1,_,hj=>(Bz h.2.2 j (by simpa using hj)).1
 |x::r,p,h,i+1,j+1,dP,hj=>G6 h.2.2 i j omg_ (by simpa using hj)
 |x::r,p,h,_,0,dP,_=>omg_
section
variable{l:SL}{p:o}(h:bB p l)(hp : -1<=p)(hl:l.length<=4096)(hb:∀u∈l,u.2<=8589934592)
include h hp hl hb
theorem jGq(i:G)(hi:i<l.length):(l.getD i (0,0)).2<=8589934592:=by
 rw[show l.getD i (0,0)=l[i] by simp[hi]];exact hb _ (jf hi)
theorem W_:∀(n i:G),i+n=l.length->J2 l (i:o)=J (.inr ())
 |0,i,hi=>by
  rw[Zz];simp only[j70,show y (D l)=(l.length:o) from rfl];rw[ai omg_,j7,aP]
 |n+1,i,hi=>by
  have ih:=W_ n (i+1) omg_;have hg:=Bz h i omg_;have hu:=jGq h hp hl hb i omg_;rw[Zz];simp only[j70,show y (D l)=(l.length:o) from rfl];rw[ah (show (i:o)<(l.length:o) by omega),bJ];simp only[j6,j8];rw[ai (show¬(l.getD i ((0:o),(0:o))).1<0 by omega),ai (show¬(l.getD i ((0:o),(0:o))).1>=(l.getD i ((0:o),(0:o))).2 by omega),ai (show¬(l.getD i ((0:o),(0:o))).2>8589934592 by omega)];rw[aj (x:=(i:o)+1)];simp only[j7];by_cases h0:i=0
  .rw[ai omg_];simp only[j7,aB];exact ih
  .obtain⟨j,rfl⟩:∃j,i=j+1:=⟨i-1,omg_⟩;have GN:=G6 h j (j+1) omg_ omg_;rw[ah omg_,aj (x:=((j+1:G):o)-1),bJ,show (((j+1:G):o)-1).toNat=j by omega,ai omg_];simp only[j6,j7,aB];exact ih
theorem X_:jin l=J true:=by
 have:=W_ h hp hl hb l.length 0 omg_;rw[show ((0:G):o)=0 from rfl]at this;simp only[jin,show y (D l)=(l.length:o) from rfl];rw[ai omg_,j7,this];rfl
theorem SJ(x:o):∀(n a b:G),b-a<=n->a<=b->b<=l.length->(∀i,i<a->(l.getD i (0,0)).2<=x)->(∀i,b<=i->i<l.length->x<(l.getD i (0,0)).2)->
  ∃k:G,J3 l x (a:o) (b:o)=J (l,x,(k:o))/\k<=l.length/\(∀i,i<k->(l.getD i (0,0)).2<=x)/\(∀i,k<=i->i<l.length->x<(l.getD i (0,0)).2)
 |0,a,b,hn,bt,rZ,h1,h2=>by
  rw[ZA];simp only[j8G];rw[ai omg_,j7,aP];exact⟨a,rfl,omg_,h1,λi hi=>h2 i omg_⟩
 |n+1,a,b,hn,bt,rZ,h1,h2=>by
  rw[ZA];simp only[j8G];by_cases aq:a<b
  .rw[ah (show (a:o)<(b:o) by omega),aj (x:=(a:o)+(b:o)),rh omg_,aj (x:=((a:o)+(b:o))/2),
    show ((a:o)+(b:o))/2=(((a+b)/2:G):o) by omega,bJ,aj (x:=(((a+b)/2:G):o)+1)]
   simp only[j6,j8];by_cases hc:(l.getD ((a+b)/2) (0,0)).2<=x
   .rw[ah hc,j6,aB];refine SJ x n ((a+b)/2+1) b omg_ omg_ rZ (λi hi=>?_) h2;rcases qy i ((a+b)/2) with h'|h'
    .have g1:=G6 h i ((a+b)/2) h' omg_;have g2:=Bz h ((a+b)/2) omg_;omega
    .have:i=(a+b)/2:=omg_;rw[this];exact hc
   .rw[ai hc,j7,aB];refine SJ x n a ((a+b)/2) omg_ omg_ omg_ h1 (λi hi hi2=>?_);rcases qy ((a+b)/2) i with h'|h'
    .have g1:=G6 h ((a+b)/2) i h' omg_;have g2:=Bz h i omg_;omega
    .have:i=(a+b)/2:=omg_;rw[this];omega
  .rw[ai omg_,j7,aP];exact⟨a,rfl,omg_,h1,λi hi=>h2 i omg_⟩
end
theorem K9:j6m 2241=J 98981:=by kernel_rfl
theorem La:j6m 1970=J 0:=by kernel_rfl
theorem Y_{d:o}(h:j1l d=J M):d<=100000:=by
 apply ju;intro hd;simp only[j1l,jan,La,K9,j4]at h;rw[ai (show¬d<0 by omega),ah (show d>=98981 by omega)]at h;simp at h
theorem ez.rt2{nz np nc:G}{L:bP}(h:ez nz np nc L):Rt L:=h.rt (Y_ h.day)
section
variable{zs:H bF}{ps:H cI}{cs:H aU}(hs:cC zs ps cs)
include hs
theorem rz{i:o}(h0:0<=i)(h1:i<(cs.length:o)):rk zs.length (cs.getD i.toNat (E,((0:o),([]:H o)))):=by
 have hi:i.toNat<cs.length:=omg_;rw[show cs.getD i.toNat (E,((0:o),([]:H o)))=cs[i.toNat] by simp[F,hi]];exact hs.c.ck _ (jf hi)
end
def jF(es:H dN)(p t:o):Bool:=es.any λx=>x.1==0&&(x.2.1==p&&(w (x.2.2.2.1<=t)&&w (t<x.2.2.2.2)))
def fa(good:G->Bool):G->Option G
 |0=>none
 |n+1=>cond (good n) (J n) (fa good n)
def gR(es:H dN)(t:o)(Pf:G->o)(i:G):Bool:=w (0<=Pf i) && !jF es (Pf i) t
section
variable{zs:H bF}{ps:H cI}{cs:H aU}{ss:H cu}
theorem Z_(hz:∀z∈zs,fY z)(hc:nT (zs,(ps,(cs,ss)))):joj (zs,(ps,(cs,ss)))=J (((zs,(ps,(cs,ss))),zs.map tb),M):=by
 have lN:zs.length<=16:=hc.zl;simp only[joj,show jaB (zs,(ps,(cs,ss)))=_ from jvx hc,j4,jk,j7,jES (ps:=ps) (cs:=cs) (ss:=ss) hz (show zs.length<=100 by omega)]
def fc(es:H dN)(t:o)(Pf:G->o)(n:G):Int:=match fa (gR es t Pf) n with
 |some i=>Pf i
 |none=> -1
end
def lg:H ByteArray:=[(I #[102,105,114,115,116]),(I #[115,101,99,111,110,100]),(I #[116,104,105,114,100])]
theorem jEZ:fG lg:=by
 refine⟨by decide,λk hk=>?_⟩;simp only[lg,je,zw,or_false]at hk;rcases hk with rfl|rfl|rfl<;>kernel_rfl
structure SG(nz np nc:G)(s:cu):Prop where
 ck:tZ nz np nc s
 nm:s.2.1.map (·.1)=gP.take s.2.1.length
 ll:s.2.1.length<=3
 el:s.2.2.length<=3
theorem Α{L:H o}{zs:H bF}{ps:H cI}{cs:H aU}(hs:GO zs ps cs):∀(n:G)(a:o)(ss:H cu),dT L a->ss.length+n<=3->ss.map (·.1)=lg.take ss.length->(∀s∈ss,SG zs.length ps.length cs.length s)->
  ∃BA a',JJ (n:o) L a zs ps cs ss=J (L,a',zs,ps,cs,BA)/\BA.length=ss.length+n/\BA.map (·.1)=lg.take BA.length/\(∀s∈BA,SG zs.length ps.length cs.length s)/\dT L a'
 |0,a,ss,hd,hl,hn,hg=>by
  rw[YP];simp only[j2Z];rw[ai omg_,j7,aP];exact⟨ss,a,rfl,rfl,hn,hg,hd⟩
 |n+1,a,ss,hd,hl,hn,hg=>by
  have aq:ss.length<lg.length:=by show ss.length<3;omega
  have SK:N (y ss.length) 3=(ss.length:o):=by have:N (ss.length:o) 3=(ss.length:o):=Int.tmod_eq_of_lt omg_ omg_;exact this
  obtain⟨k,a3,e3,k0,k1,d3⟩:=dt (n:=4) hd omg_ omg_;obtain⟨ls,a4,e4,l4,lk,ln,d4⟩:=d_ (s6:=((n+1:G):o)) (nm:=F lg ss.length E) (ss:=ss) hs k.toNat a3 [] d3 sqo_ smp_ rfl;obtain⟨m,a5,e5,m0,m1,d5⟩:=dt (n:=4) d4 omg_ omg_;obtain⟨es,a6,e6,l6,ek,d6⟩:=e_ (s6:=((n+1:G):o)) (nm:=F lg ss.length E) (zs:=zs) (cs:=cs) (ss:=ss) (ls:=ls) hs m.toNat a5 [] d5 sqo_ smp_;rw[show ((k.toNat:G):o)=k by omega]at e4;rw[show ((m.toNat:G):o)=m by omega]at e6
  have dX:SG zs.length ps.length cs.length (F lg ss.length E,(ls,es)):=
   ⟨⟨by dsimp only;rw[ln];exact _9.take _,lk,by dsimp only;omega,ek,by dsimp only;omega⟩,ln,l4,l6⟩
  obtain⟨BA,a',e',h1,h2,h3,h4⟩:=Α hs n a6 (ss++[(F lg ss.length E,(ls,es))]) d6 sqo_ (by
   rw[zq,hn,jc];exact KY aq) (λs h=>by
   rcases jj.1 h with h|h
   .exact hg s h
   .simp at h;subst h;exact dX)
  rw[YP];simp only[j2Z];rw[ah (show ((n+1:G):o)>0 by omega),SK,bA omg_ (by show (ss.length:o)<(3:G);omega)];simp only[j6,j8,e3,j4];rw[show FM ((n+1:G):o) k L a3 zs ps cs (F [(I #[102,105,114,115,116]),(I #[115,101,99,111,110,100]),(I #[116,104,105,114,100])] ss.length E) ss []=_ from e4];simp only[j4,e5,e6];rw[ah (by simp[aG];omega),aj,show ((n+1:G):o)-1=(n:o) by omega];simp only[j6,aB];exact⟨BA,a',e',by rw[h1];simp;omega,h2,h3,h4⟩
theorem jyi{L:H o}{a n:o}(h:dT L a)(n0:1<=n)(n1:n<=3):∃zs ps cs ss a',j9X L a n=J ((zs,(ps,(cs,ss))),L,a')/\cC zs ps cs/\1<=ss.length/\(ss.length:o)<=n/\ss.map (·.1)=lg.take ss.length/\(∀s∈ss,SG zs.length ps.length cs.length s)/\dT L a':=by
 obtain⟨zs,ps,cs,a1,e1,hs,d1⟩:=jAe h;obtain⟨x,a2,e2,x0,x1,d2⟩:=dt (n:=n) d1 omg_ omg_;obtain⟨ss,a3,e3,h1,h2,h3,d3⟩:=Α hs.so (1+x).toNat a2 [] d2 sqo_ smp_ smp_;rw[show (((1+x).toNat:G):o)=1+x by omega]at e3;simp at h1;simp only[j9X,e1,e2,j4];rw[aj (x:=1+x)];simp only[e3,j4];exact⟨zs,ps,cs,ss,a3,rfl,hs,omg_,omg_,h2,h3,d3⟩
theorem jF0{zs:H bF}{ps:H cI}{cs:H aU}{ss:H cu}(hs:cC zs ps cs)(h0:ss.length<=12)(h1:fG (ss.map (·.1)))(h2:∀s∈ss,tZ zs.length ps.length cs.length s):nT (zs,(ps,(cs,ss))):=jGc hs h0 h1 h2
instance(L:bP):Decidable (Rt L):=
 decidable_of_iff (1<=L.2.2.1.1/\L.2.2.1.1<=100000/\0<=L.2.2.1.2/\L.2.2.1.2<=86399/\0<=L.2.2.2.1/\L.2.2.2.1<=2/\1<=L.2.2.2.2.1/\L.2.2.2.2.1<=400/\L.2.2.2.2.2.1≠[])
  ⟨λ⟨a,b,c,d,e,f,g,h,i⟩=>⟨a,b,c,d,e,f,g,h,i⟩,λ⟨a,b,c,d,e,f,g,h,i⟩=>⟨a,b,c,d,e,f,g,h,i⟩⟩
section
variable{z:bF}{l:bI}(h4:Z4 z l)
include h4
theorem Β(L:bP):jei z L=J (if Rt L then 0 else 8):=by
 have hc:j8B (z.1,(z.2.1,z.2.2))=J 0:=by simp only[j8B,show j0q (z.1,(z.2.1,z.2.2))=_ from h4.1,j4]
 simp only[jei,hc,j4,jk,j7]
 have key:(cond (cond (cond (cond (cond (cond (cond (cond (w (L.2.2.1.1<1)) M (w (L.2.2.1.1>100000))) M (w (L.2.2.1.2<0))) M (w (L.2.2.1.2>=86400))) M (w (L.2.2.2.1<0))) M (w (L.2.2.2.1>2))) M (w (L.2.2.2.2.1<1))) M (w (L.2.2.2.2.1>400))) M (y L.2.2.2.2.2.1.length==0)) = !w (Rt L):=by
  have hlen:(y L.2.2.2.2.2.1.length==0)=w (L.2.2.2.2.2.1=[]):=by
   cases L.2.2.2.2.2.1 with
   |nil=>rfl
   |cons x r=>simp;omega
  rw[hlen];rw[vg];simp only[qn,q7];constructor
  .intro hh h;have a1:=h.d0;have a2:=h.d1;have a3:=h.c0;have a4:=h.c1;have a5:=h.u0;have a6:=h.u1;have a7:=h.e0;have a8:=h.e1;rw[ai (show¬L.2.2.1.1<1 by omega),ai (show¬L.2.2.1.1>100000 by omega),ai (show¬L.2.2.1.2<0 by omega),ai (show¬L.2.2.1.2>=86400 by omega),ai (show¬L.2.2.2.1<0 by omega),ai (show¬L.2.2.2.1>2 by omega),ai (show¬L.2.2.2.2.1<1 by omega),ai (show¬L.2.2.2.2.1>400 by omega),ai h.m0]at hh;simp at hh
  .intro hn;by_cases a1:L.2.2.1.1<1
   .rw[ah a1];rfl
   rw[ai a1];by_cases a2:L.2.2.1.1>100000
   .rw[ah a2];rfl
   rw[ai a2];by_cases a3:L.2.2.1.2<0
   .rw[ah a3];rfl
   rw[ai a3];by_cases a4:L.2.2.1.2>=86400
   .rw[ah a4];rfl
   rw[ai a4];by_cases a5:L.2.2.2.1<0
   .rw[ah a5];rfl
   rw[ai a5];by_cases a6:L.2.2.2.1>2
   .rw[ah a6];rfl
   rw[ai a6];by_cases a7:L.2.2.2.2.1<1
   .rw[ah a7];rfl
   rw[ai a7];by_cases a8:L.2.2.2.2.1>400
   .rw[ah a8];rfl
   rw[ai a8];by_cases a9:L.2.2.2.2.2.1=[]
   .rw[ah a9];rfl
   exact absurd ⟨omg_,omg_,omg_,omg_,omg_,omg_,omg_,omg_,a9⟩ hn
 rw[key];by_cases h:Rt L
 .rw[ah h,if_pos h];rfl
 .rw[ai h,if_neg h];rfl
end
end Go.Proofs.Pw
