/- span.Common and span.Without: meets and xx of sets. -/
import Derived.Test.YtmccfdihkphfaaaGreatREPF
import Derived.Test.YtmccfdihkphfaaaGreatREPE
import Derived.KernelRfl
open _root_ renaming Int->D,List->G,Nat->R,ByteArray->U
open Decidable renaming decide->E
open Int renaming ofNat->F,mul_comm->X
open Option renaming some->H
open List renaming length->I,drop_of_length_le->J,getD->M,length_append->O,singleton_append->S
open Bool renaming true->W,false->Y
open Go Go.Lft
namespace Go.Proofs.Pw
theorem bX.weak{p q:D}(hq:q<=p):∀{l:SL},bX p l->bX q l
 |[],_=>trivial
 |_::_,h=>⟨by have:=h.1;omega,h.2⟩
theorem bX.low{p x:D}:∀{l:SL},bX p l->bJ x l->p<x
 |[],_,h=>absurd h fU
 |s::r,h,hx=>by
  rcases dC.1 hx with hx|hx
  .have:=h.1;omega
  .have:=bX.low h.2.2 hx;have:=h.1;have:=h.2.1;omega
theorem bX.mem{p:D}:∀{l:SL},bX p l->∀s∈l,p<s.1/\s.1<s.2
 |[],_,s,hs=>by simp at hs
 |u::r,h,s,hs=>by
  rcases je.1 hs with rfl|hs
  .exact⟨h.1,h.2.1⟩
  .have:=bX.mem h.2.2 s hs;have:=h.1;have:=h.2.1;omega
def nI:R->SL->SL->SL
 |n+1,s::a,u::b=>(if (if u.1>s.1 then u.1 else s.1)<(if u.2<s.2 then u.2 else s.2) then [((if u.1>s.1 then u.1 else s.1),(if u.2<s.2 then u.2 else s.2))] else [])++
  (if s.2<u.2 then nI n a (u::b) else nI n (s::a) b)
 |_,_,_=>[]
theorem Sc:∀(n:R)(a b:SL)(p q:D),a.length+b.length<=n->bX p a->bX q b->(∀x,bJ x (nI n a b)↔bJ x a/\bJ x b)/\bX p (nI n a b)/\bX q (nI n a b)/\(nI n a b).length<=a.length+b.length
 |0,a,b,p,q,hn,_,_=>by
  obtain rfl:a=[]:=qh.1 aa;exact⟨λx=>⟨λh=>absurd h fU,λh=>absurd h.1 fU⟩,trivial,trivial,by simp[nI]⟩
 |n+1,[],b,p,q,_,_,_=>⟨λx=>⟨λh=>absurd h fU,λh=>absurd h.1 fU⟩,trivial,trivial,by simp[nI]⟩
 |n+1,_::_,[],p,q,_,_,_=>⟨λx=>⟨λh=>absurd h fU,λh=>absurd h.2 fU⟩,trivial,trivial,by simp[nI]⟩
 |n+1,s::a,u::b,p,q,hn,ha,hb=>by
  obtain⟨a1,a2,a3⟩:=ha;obtain⟨b1,b2,b3⟩:=hb;simp only[ji]at hn ⊢
  have hx:∃f t:D,f=(if u.1>s.1 then u.1 else s.1)/\t=(if u.2<s.2 then u.2 else s.2)/\(∀x,(f<=x/\x<t)↔(s.1<=x/\x<s.2)/\(u.1<=x/\x<u.2))/\p<f/\q<f/\t<=s.2/\t<=u.2:=by
   refine⟨_,_,rfl,rfl,λx=>?_,?_,?_,?_,?_⟩
   .constructor
    .intro h;split at h<;>split at h<;>omega
    .intro h;split<;>split<;>omega
   .split<;>omega
   .split<;>omega
   .split<;>omega
   .split<;>omega
  obtain⟨f,t,ef,et,hi,f1,f2,t1,t2⟩:=hx;simp only[nI,<-ef,<-et]
  have key:∀(a' b':SL)(r:SL),(∀x,bJ x r↔bJ x a'/\bJ x b')->bX t r->bX p r->bX q r->r.length<=a'.length+b'.length->a'.length+b'.length+1=a.length+1+(b.length+1)->
    (∀x,bJ x (s::a)/\bJ x (u::b)↔(f<=x/\x<t)\/(bJ x a'/\bJ x b'))->
    (∀x,bJ x ((if f<t then [(f,t)] else [])++r)↔bJ x (s::a)/\bJ x (u::b))/\bX p ((if f<t then [(f,t)] else [])++r)/\bX q ((if f<t then [(f,t)] else [])++r)/\((if f<t then [(f,t)] else [])++r).length<=a.length+1+(b.length+1):=by
   intro a' b' r x9 KQ Sd KR hl tc sM;by_cases ig:f<t
   .rw[if_pos ig];refine⟨λx=>?_,⟨f1,ig,KQ⟩,⟨f2,ig,KQ⟩,az⟩;rw[sM,xw,x9 x,dC];constructor
    .rintro ((h|h)|h)
     .exact .inl h
     .exact absurd h fU
     .exact .inr h
    .rintro (h|h)
     .exact .inl (.inl h)
     .exact .inr h
   .rw[if_neg ig,jw];refine⟨λx=>?_,Sd,KR,aa⟩;rw[sM,x9 x];constructor
    .exact .inr
    .rintro (h|h)
     .omega
     .exact h
  by_cases hc:s.2<u.2
  .rw[if_pos hc];obtain⟨i1,i2,i3,i4⟩:=Sc n a (u::b) s.2 q az a3 ⟨b1,b2,b3⟩;refine key a (u::b) _ i1 (i2.weak t1) (i2.weak aa) i3 i4 az (λx=>?_);rw[dC,hi x];constructor
   .rintro⟨h|h,h'⟩
    .rcases dC.1 h' with h'|h'
     .exact .inl ⟨h,h'⟩
     .have:=bX.low b3 h';omega
    .exact .inr ⟨h,h'⟩
   .rintro (h|h)
    .exact⟨.inl h.1,dC.2 (.inl h.2)⟩
    .exact⟨.inr h.1,h.2⟩
  .rw[if_neg hc];obtain⟨i1,i2,i3,i4⟩:=Sc n (s::a) b p u.2 az ⟨a1,a2,a3⟩ b3;refine key (s::a) b _ i1 (i3.weak t2) i2 (i3.weak aa) i4 az (λx=>?_);rw[dC (s:=u),hi x];constructor
   .rintro⟨h',h|h⟩
    .rcases dC.1 h' with h'|h'
     .exact .inl ⟨h',h⟩
     .have:=bX.low a3 h';omega
    .exact .inr ⟨h',h⟩
   .rintro (h|h)
    .exact⟨dC.2 (.inl h.1),.inl h.2⟩
    .exact⟨h.1,.inr h.2⟩
theorem Se{A B:SL}(hA:A.length<=10000000)(hB:B.length<=10000000):∀(n i k:R)(acc:SL),i<=A.length->k<=B.length->(A.length-i)+(B.length-k)=n->acc.length+n<=30000000->
  Ae A B (i:D) (k:D) acc=H (acc++nI n (A.drop i) (B.drop k))
 |n,i,k,acc,hi,hk,hn,dJ=>by
  rw[jlo];simp only[j6k,show F (I A)=(A.length:D) from rfl,show F (I B)=(B.length:D) from rfl];by_cases fk:i<A.length/\k<B.length
  .obtain⟨bY,bn⟩:=fk;obtain⟨n,rfl⟩:∃m,n=m+1:=⟨n-1,aa⟩;have gA:A.getD i ((0:D),(0:D))=A[i]:=by simp[M,bY]
   have gB:B.getD k ((0:D),(0:D))=B[k]:=by simp[M,bn]
   rw[ag (show (i:D)<(A.length:D) by omega),ag (show (k:D)<(B.length:D) by omega),bU (show (0:D)<=(i:D) by omega) aa,bU (show (0:D)<=(k:D) by omega) aa];simp only[j6,j8,gA,gB];rw[ar (x:=(i:D)+1),ar (x:=(k:D)+1)];rw[jb bY,jb bn];simp only[nI];generalize (if B[k].1>A[i].1 then B[k].1 else A[i].1:D)=f;generalize (if B[k].2<A[i].2 then B[k].2 else A[i].2:D)=t
   have Gs:∀bI:SL,bI.length<=acc.length+1->Ae A B ((i:D)+1) (k:D) bI=H (bI++nI n (A.drop (i+1)) (B[k]::B.drop (k+1))):=λbI qC=>by
    have:=Se hA hB n (i+1) k bI aa aa aa aa;rw[<-jb bn];exact this
   have Gt:∀bI:SL,bI.length<=acc.length+1->Ae A B (i:D) ((k:D)+1) bI=H (bI++nI n (A[i]::A.drop (i+1)) (B.drop (k+1))):=λbI qC=>by
    have:=Se hA hB n i (k+1) bI aa aa aa aa;rw[<-jb bY];exact this
   by_cases ig:f<t
   .rw[ag ig,if_pos ig,ag (by simp[aG];omega)];simp only[j6];by_cases hc:A[i].2<B[k].2
    .rw[ag hc,if_pos hc];simp only[j6,aS];rw[Gs _ ae,jg]
    .rw[an hc,if_neg hc];simp only[j7,aS];rw[Gt _ ae,jg]
   .rw[an ig,if_neg ig];simp only[j7];by_cases hc:A[i].2<B[k].2
    .rw[ag hc,if_pos hc];simp only[j6,aS];rw[Gs _ aa,jw]
    .rw[an hc,if_neg hc];simp only[j7,aS];rw[Gt _ aa,jw]
  .have hc:cond (E ((i:D)<(A.length:D))) (E ((k:D)<(B.length:D))) Y=false:=by
    by_cases h1:i<A.length
    .rw[ag aa,j6];exact an aa
    .rw[an aa,j7]
   rw[hc,j7,aW]
   have:nI n (A.drop i) (B.drop k)=[]:=by
    by_cases h1:i<A.length
    .rw[yk (show B.length<=k by omega)];cases n<;>cases A.drop i<;>rfl
    .rw[yk (show A.length<=i by omega)];cases n<;>rfl
   rw[this,kx]
theorem jAf{A B:SL}{p q:D}(ha:bX p A)(hb:bX q B)(hA:A.length<=10000000)(hB:B.length<=10000000) :
  ∃out,jcQ A B=H out/\bX p out/\(∀x,bJ x out↔bJ x A/\bJ x B)/\out.length<=A.length+B.length:=by
 have lp:=Se hA hB (A.length+B.length) 0 0 [] aa aa aa az;obtain⟨h1,h2,h3,h4⟩:=Sc (A.length+B.length) A B p q (jq _) ha hb;refine⟨nI (A.length+B.length) A B,?_,h2,h1,h4⟩;simp only[jcQ,show Ae A B 0 0 []=_ from lp,j4,jw,jk]
def oy(e:D):D->SL->SL×D
 |t,[]=>([],t)
 |t,u::b=>if u.1<e then ((if t<u.1 then [(t,u.1)] else [])++(oy e (if u.2>t then u.2 else t) b).1,(oy e (if u.2>t then u.2 else t) b).2) else ([],t)
def mC(e t:D)(b:SL):SL:=(oy e t b).1++(if (oy e t b).2<e then [((oy e t b).2,e)] else [])
theorem jEf{e t:D}{u:D×D}{b:SL}(h:u.1<e):mC e t (u::b)=(if t<u.1 then [(t,u.1)] else [])++mC e (if u.2>t then u.2 else t) b:=by
 simp only[mC,oy,if_pos h,jg]
theorem w_{e:D}:∀(b:SL)(t q:D),bX q b->(∀x,bJ x (mC e t b)↔(t<=x/\x<e)/\¬bJ x b)/\bX (t-1) (mC e t b)/\(∀s∈mC e t b,s.2<=e)/\(mC e t b).length<=b.countP (λu=>E (t<u.1)&&E (u.1<e))+1
 |[],t,q,_=>by
  rw[show mC e t []=(if t<e then [(t,e)] else []) from rfl];by_cases h:t<e
  .rw[if_pos h];exact⟨λx=>⟨λhx=>⟨by rcases dC.1 hx with hx|hx;exact hx;exact absurd hx fU,fU⟩,λhx=>dC.2 (.inl hx.1)⟩,⟨by dsimp only;omega,h,trivial⟩,ae,ae⟩
  .rw[if_neg h];exact⟨λx=>⟨λhx=>absurd hx fU,λhx=>aa⟩,trivial,ae,ae⟩
 |u::b,t,q,hb=>by
  obtain⟨b1,b2,b3⟩:=hb;by_cases hu:u.1<e
  .rw[jEf hu];have hm:∃t',t'=(if u.2>t then u.2 else t)/\t<=t'/\u.2<=t'/\(t'=t\/t'=u.2):=⟨_,rfl,by split<;>omega,by split<;>omega,by split<;>omega⟩;obtain⟨t',e',h1,h2,h3⟩:=hm;rw[<-e'];obtain⟨i1,i2,i3,i4⟩:=w_ b t' u.2 b3;have fq:∀x,bJ x b->u.2<x:=λx=>bX.low b3
   have x_:b.countP (λu=>E (t'<u.1)&&E (u.1<e))<=b.countP (λu=>E (t<u.1)&&E (u.1<e)):=List.countP_mono_left λv _ h=>by
    simp only[jd,jj]at h ⊢;omega
   by_cases tK:t<u.1
   .rw[if_pos tK]
    refine⟨λx=>?_,⟨by dsimp only;omega,tK,i2.weak aa⟩,λs hs=>?_,by
     rw[List.countP_cons_of_pos (by simp[tK,hu]),S,ji];omega⟩
    .rw[S,dC,i1 x,dC];constructor
     .rintro (h|h)
      .exact⟨aa,λh'=>by
        rcases h' with h'|h'
        .omega
        .have:=fq x h';omega⟩
      .exact⟨aa,λh'=>by
        rcases h' with h'|h'
        .omega
        .exact h.2 h'⟩
     .rintro⟨h,h'⟩
      by_cases hx:x<u.1
      .exact .inl ⟨h.1,hx⟩
      .by_cases pV:x<u.2
       .exact absurd (.inl ⟨aa,pV⟩) h'
       .exact .inr ⟨aa,λh2=>h' (.inr h2)⟩
    .rcases je.1 hs with rfl|hs
     .dsimp only;omega
     .exact i3 s hs
   .rw[if_neg tK,jw]
    refine⟨λx=>?_,i2.weak aa,i3,by
     rw[List.countP_cons_of_neg (by simp[tK])];omega⟩
    rw[i1 x,dC];constructor
    .rintro h
     exact⟨aa,λh'=>by
      rcases h' with h'|h'
      .omega
      .exact h.2 h'⟩
    .rintro⟨h,h'⟩
     by_cases pV:x<u.2
     .exact absurd (.inl ⟨aa,pV⟩) h'
     .exact⟨aa,λh2=>h' (.inr h2)⟩
  .have:mC e t (u::b)=if t<e then [(t,e)] else []:=by simp only[mC,oy,if_neg hu,jw]
   rw[this]
   have cY:∀x,x<e->¬bJ x (u::b):=λx hx h=>by
    rcases dC.1 h with h|h
    .omega
    .have:=bX.low b3 h;omega
   by_cases h:t<e
   .rw[if_pos h]
    exact⟨λx=>⟨λhx=>by
     rcases dC.1 hx with hx|hx
     .exact⟨hx,cY x hx.2⟩
     .exact absurd hx fU,λhx=>dC.2 (.inl hx.1)⟩,⟨by dsimp only;omega,h,trivial⟩,ae,ae⟩
   .rw[if_neg h];exact⟨λx=>⟨λhx=>absurd hx fU,λhx=>aa⟩,trivial,ae,ae⟩
def pA(l:SL)(u:D×D):Bool:=l.any λs=>E (s.1<u.1)&&E (u.1<s.2)
theorem y_{p q:D×D->Bool}(h:∀u,p u=W->q u=W->False):∀l:SL,l.countP p+l.countP q<=l.countP (λu=>p u||q u)
 |[]=>ae
 |u::l=>by
  have ih:=y_ h l;have hu:=h u;simp only[List.countP_cons];cases hp:p u<;>cases hq:q u<;>simp_all<;>omega
theorem z_{q:D}:∀{b:SL}(k:R),bX q b->∃q',bX q' (b.drop k)
 |_,0,h=>⟨q,h⟩
 |[],_+1,_=>⟨q,trivial⟩
 |_::_,k+1,h=>z_ k h.2.2
section
variable{B:SL}(hB:B.length<=10000000)
include hB
theorem A_{A:SL}{n m s e:D}{acc:SL}:∀(d k:R),k+d=B.length->∃k':R,k<=k'/\k'<=B.length/\(∀j (h:j<B.length),k<=j->j<k'->B[j].2<=s)/\
  IP B (k:D) A n m s e acc=H (B,(k':D),A,n,m,s,e,acc)
 |0,k,hk=>by
  rw[XR];simp only[j4d,show F (I B)=(B.length:D) from rfl];rw[an aa,j7,aW];exact⟨k,aa,aa,λj h h1 h2=>aa,rfl⟩
 |d+1,k,hk=>by
  have bn:k<B.length:=aa;have gB:B.getD k ((0:D),(0:D))=B[k]:=by simp[M,bn]
  rw[XR];simp only[j4d,show F (I B)=(B.length:D) from rfl];rw[ag aa,bE];simp only[j6,j8,gB];by_cases hc:B[k].2<=s
  .rw[ag hc,j6,aS,ar (x:=(k:D)+1)];obtain⟨k',h1,h2,h3,h4⟩:=A_ d (k+1) aa;refine⟨k',aa,h2,λj h ha hb=>?_,h4⟩;by_cases rO:j=k
   .subst rO;exact hc
   .exact h3 j h aa hb
  .rw[an hc,j7,aW];exact⟨k,aa,aa,λj h h1 h2=>aa,rfl⟩
theorem B_{A:SL}{k n m s e:D}:∀(d i:R)(t:D)(acc:SL),i+d=B.length->acc.length+d<=4000000000->
  Fg B k t (i:D) A n m s e acc=H (B,k,(oy e t (B.drop i)).2,A,n,m,s,e,acc++(oy e t (B.drop i)).1)
 |0,i,t,acc,hi,dJ=>by
  rw[XS];simp only[j4e,show F (I B)=(B.length:D) from rfl];rw[an aa,j7,aW,J aa];simp[oy]
 |d+1,i,t,acc,hi,dJ=>by
  have bY:i<B.length:=aa;have gB:B.getD i ((0:D),(0:D))=B[i]:=by simp[M,bY]
  rw[XS];simp only[j4e,show F (I B)=(B.length:D) from rfl];rw[ag aa,bE];simp only[j6,j8,gB];rw[jb bY,ar (x:=(i:D)+1)];by_cases hc:B[i].1<e
  .rw[ag hc];simp only[j6,oy,if_pos hc];have ih:∀bI:SL,bI.length<=acc.length+1->Fg B k (if B[i].2>t then B[i].2 else t) ((i:D)+1) A n m s e bI=_:=λbI h'=>B_ d (i+1) (if B[i].2>t then B[i].2 else t) bI aa aa;by_cases ht:t<B[i].1
   .rw[ag ht,if_pos ht,ag (by simp[aG];omega)];simp only[j6,aS];rw[ih _ ae,jg]
   .rw[an ht,if_neg ht];simp only[j7,aS];rw[ih _ aa,jw]
  .rw[an hc];simp only[j7,aW,oy,if_neg hc,kx]
theorem C_{A:SL}(hA:A.length<=10000000){q:D}(hb:bX q B):∀(d j k:R)(p:D)(acc:SL),j+d=A.length->k<=B.length->bX p (A.drop j)->(∀i (h:i<B.length),i<k->∀x,bJ x (A.drop j)->B[i].2<=x)->acc.length+d+B.countP (pA (A.drop j))<=30000000->
  ∃out,Cm B (k:D) A (A.length:D) (j:D) acc=H (acc++out)/\bX p out/\(∀x,bJ x out↔bJ x (A.drop j)/\¬bJ x B)/\out.length<=d+B.countP (pA (A.drop j))
 |0,j,k,p,acc,hj,hk,_,_,dJ=>by
  rw[XU];simp only[j4f];rw[an aa,j7,aW,J aa];exact⟨[],ae,trivial,λx=>⟨λh=>absurd h fU,λh=>absurd h.1 fU⟩,ae⟩
 |d+1,j,k,p,acc,hj,hk,ha,Sf,dJ=>by
  have im:j<A.length:=aa;have gA:A.getD j ((0:D),(0:D))=A[j]:=by simp[M,im]
  rw[jb im]at ha Sf dJ ⊢;obtain⟨a1,a2,a3⟩:=ha;obtain⟨k',h1,h2,h3,h4⟩:=A_ hB (A:=A) (n:=(A.length:D)) (m:=(j:D)) (s:=A[j].1) (e:=A[j].2) (acc:=acc) (B.length-k) k aa;have aU:∃q',bX q' (B.drop k'):=z_ k' hb;obtain⟨q',aU⟩:=aU
  have xy:∀x,A[j].1<=x->(bJ x B↔bJ x (B.drop k')):=by
   intro x hx;constructor
   .rintro⟨u,hu,u1,u2⟩
    obtain⟨i,hi,rfl⟩:=List.mem_iff_getElem.1 hu;by_cases mR:i<k'
    .by_cases AH:i<k
     .have:=Sf i hi AH A[j].1 (dC.2 (.inl ⟨k8 _,a2⟩));omega
     .have:=h3 i hi aa mR;omega
    .exact⟨B[i],List.mem_drop_iff_getElem.2 ⟨i-k',aa,by simp[show k'+(i-k')=i by omega]⟩,u1,u2⟩
   .rintro⟨u,hu,u1,u2⟩
    exact⟨u,zt hu,u1,u2⟩
  have w4:=B_ hB (A:=A) (k:=(k':D)) (n:=(A.length:D)) (m:=(j:D)) (s:=A[j].1) (e:=A[j].2) (B.length-k') k' A[j].1 acc aa aa;obtain⟨s1,s2,s3,s4⟩:=w_ (e:=A[j].2) (B.drop k') A[j].1 q' aU;have uQ:(oy A[j].2 A[j].1 (B.drop k')).1.length<=(mC A[j].2 A[j].1 (B.drop k')).length:=by simp[mC]
  have uN:(mC A[j].2 A[j].1 (B.drop k')).length+B.countP (pA (A.drop (j+1)))<=B.countP (pA (A[j]::A.drop (j+1)))+1:=by
   have h5:(B.drop k').countP (λu=>E (A[j].1<u.1)&&E (u.1<A[j].2))<=B.countP (λu=>E (A[j].1<u.1)&&E (u.1<A[j].2)):=(List.drop_sublist k' B).countP_le
   have h6:=y_ (p:=λu=>E (A[j].1<u.1)&&E (u.1<A[j].2)) (q:=pA (A.drop (j+1))) (λu hp hq=>by
    obtain⟨s,hs,eE⟩:=zg.1 hq;have:=bX.mem a3 s hs;simp only[jd,jj]at hp eE;omega) B
   have h7:B.countP (λu=>(E (A[j].1<u.1)&&E (u.1<A[j].2))||pA (A.drop (j+1)) u)=B.countP (pA (A[j]::A.drop (j+1))):=rfl;omega
  have step:∀bI:SL,bI=acc++mC A[j].2 A[j].1 (B.drop k')->∃out,Cm B (k':D) A (A.length:D) ((j:D)+1) bI=H (acc++out)/\bX p out/\(∀x,bJ x out↔bJ x (A[j]::A.drop (j+1))/\¬bJ x B)/\out.length<=d+1+B.countP (pA (A[j]::A.drop (j+1))):=by
   rintro _ rfl
   obtain⟨out,e,o1,o2,o3⟩:=C_ hA hb d (j+1) k' A[j].2 (acc++mC A[j].2 A[j].1 (B.drop k')) aa h2 a3 (λi hi mR x hx=>by
    have hlow:=bX.low a3 hx;by_cases AH:i<k
    .exact Sf i hi AH x (dC.2 (.inr hx))
    .have:=h3 i hi aa mR;omega) (by rw[O];omega)
   refine⟨mC A[j].2 A[j].1 (B.drop k')++out,by rw[<-jg];exact e,?_,λx=>?_,by rw[O];omega⟩
   .have glue:∀(l:SL)(r:D),bX r l->r<A[j].2->(∀s∈l,s.2<=A[j].2)->bX r (l++out):=by
     intro l;induction l with
     |nil=>intro r _ hr _;exact o1.weak aa
     |cons s l ih=>intro r h hr hl;exact⟨h.1,h.2.1,by
      have:=hl s ae;by_cases hs:s.2<A[j].2
      .exact ih s.2 h.2.2 hs (λu hu=>hl u (by simp[hu]))
      .have he:s.2=A[j].2:=aa;match l,h.2.2 with
       |[],_=>exact o1.weak aa
       |u::l',h'=>have:=hl u ae;have:=h'.1;have:=h'.2.1;omega⟩
    exact glue _ _ (s2.weak aa) aa s3
   .rw[xw,s1 x,o2 x,dC];constructor
    .rintro (h|h)
     .exact⟨.inl h.1,λhx=>h.2 ((xy x h.1.1).1 hx)⟩
     .exact⟨.inr h.1,h.2⟩
    .rintro⟨h|h,h'⟩
     .exact .inl ⟨h,λhx=>h' ((xy x h.1).2 hx)⟩
     .exact .inr ⟨h,h'⟩
  rw[XU];simp only[j4f];rw[ag (show (j:D)<(A.length:D) by omega),bE];simp only[j6,j8,gA,h4,j4,w4];rw[ar (x:=(j:D)+1)];have hlen:(acc++(oy A[j].2 A[j].1 (B.drop k')).1).length<=2000000000:=by rw[O];omega
  by_cases ht:(oy A[j].2 A[j].1 (B.drop k')).2<A[j].2
  .rw[ag ht];simp only[j6];rw[ag (by simp only[aG,kz];omega)];simp only[j6,aS];exact step _ (by simp only[mC,if_pos ht,jg])
  .rw[an ht];simp only[j7,aS];exact step _ (by simp only[mC,if_neg ht,kx])
theorem Sh{A:SL}{p q:D}(ha:bX p A)(hb:bX q B)(hA:A.length<=10000000) :
  ∃out,j2Y A B=H out/\bX p out/\(∀x,bJ x out↔bJ x A/\¬bJ x B)/\out.length<=A.length+B.length:=by
 have hc:=List.countP_le_length (p:=pA (A.drop 0)) (l:=B);obtain⟨out,e,h1,h2,h3⟩:=C_ hB hA hb A.length 0 0 p [] aa aa ha (λi h hi=>aa) (by simp only[jz];omega);refine⟨out,?_,h1,h2,aa⟩;simp only[j2Y,show F (I A)=(A.length:D) from rfl,show Cm B 0 A (A.length:D) 0 []=_ from e,j4,jw]
end
set_option linter.unusedSectionVars false
section
variable{l:SL}{p:D}(h:bX p l)(hp : -1<=p)(hl:l.length<=4096)(hb:∀u∈l,u.2<=8589934592)
include h hp hl hb
end
set_option linter.unusedSectionVars false
def pW(p:D):SL->Prop
 |[]=>True
 |x::r=>p<=x.1/\x.1<x.2/\pW x.2 r
theorem pW.weak{p q:D}(hq:q<=p):∀{l:SL},pW p l->pW q l
 |[],_=>trivial
 |_::_,h=>⟨by have:=h.1;omega,h.2⟩
section
variable{zs:G bH}{ps:G dr}{cs:G bd}(hs:lz zs ps cs)
include hs
end
def gP(es:G cO)(p t:D):Bool:=es.any λx=>x.1==0&&(x.2.1==p&&(E (x.2.2.2.1<=t)&&E (t<x.2.2.2.2)))
theorem D_{es:G cO}{p t:D}(hl:es.length<=1000):∀(n i:R),i+n=es.length->∃r,Fq es p t (es.length:D) (i:D)=H r/\
  match r with
  |.inl k=>0<=k/\gP (es.drop i) p t=W
  |.inr _=>gP (es.drop i) p t=Y
 |0,i,hi=>by
  rw[Ya];simp only[j0y];rw[an aa,j7,aW,J aa];exact⟨_,rfl,rfl⟩
 |n+1,i,hi=>by
  have aq:i<es.length:=aa;have bc:es.getD i ((0:D),((0:D),((0:D),((0:D),(0:D)))))=es[i]:=by simp[M,aq]
  rw[Ya];simp only[j0y,jfO];rw[ag aa,bE,ar (x:=(i:D)+1)];simp only[j6,j8,bc,j4];rw[jb aq];have e:(cond (cond (cond (es[i].1==(0:D)) (es[i].2.1==p) Y) (E (es[i].2.2.2.1<=t)) Y) (E (t<es[i].2.2.2.2)) Y)=(es[i].1==0&&(es[i].2.1==p&&(E (es[i].2.2.2.1<=t)&&E (t<es[i].2.2.2.2)))):=by cases es[i].1==(0:D)<;>cases es[i].2.1==p<;>cases E (es[i].2.2.2.1<=t)<;>rfl
  rw[e];have ha:gP (es[i]::es.drop (i+1)) p t=((es[i].1==0&&(es[i].2.1==p&&(E (es[i].2.2.2.1<=t)&&E (t<es[i].2.2.2.2))))||gP (es.drop (i+1)) p t):=rfl;rw[ha];cases hx:(es[i].1==0&&(es[i].2.1==p&&(E (es[i].2.2.2.1<=t)&&E (t<es[i].2.2.2.2)))) with
  |true=>rw[j6,aW];exact⟨_,rfl,aa,rfl⟩
  |false=>rw[j7,aS];obtain⟨r,e1,e2⟩:=D_ (es:=es) (p:=p) (t:=t) hl n (i+1) aa;exact⟨r,e1,by simpa using e2⟩
theorem jEg{nm:U}{ls:G bA}{es:G cO}{p t:D}(hl:es.length<=1000):ji6 (nm,(ls,es)) p t=H (gP es p t):=by
 obtain⟨r,e1,e2⟩:=D_ (p:=p) (t:=t) hl es.length 0 aa;simp only[ji6,j28,j2C,show F es.length=(es.length:D) from rfl];rw[show Fq es p t (es.length:D) 0=_ from e1];cases r with
 |inl k=>simp only[jk]at e2;simp only[j4,pN,e2.2];rw[ag (show k>=0 from e2.1)]
 |inr u=>simp only[jk]at e2;simp only[j4,me,e2];rfl
def dK(good:R->Bool):R->Option R
 |0=>none
 |n+1=>cond (good n) (H n) (dK good n)
def fQ(es:G cO)(t:D)(Pf:R->D)(i:R):Bool:=E (0<=Pf i) && !gP es (Pf i) t
theorem E_{ls:G bA}{zs:G bH}{ps:G dr}{cs:G bd}{ss:G cN}{tbs:G (D×bh)}{nm:U}{es:G cO}{t b6 b7:D}{Pf:R->D}(hl:es.length<=1000)
  (hP:∀i (h:i<ls.length),j2Z ((zs,(ps,(cs,ss))),tbs) ls[i] t=H (Pf i)):∀n:R,n<=ls.length->
  Fs (n:D) ls zs ps cs ss tbs nm ls es t b6 b7=H (match dK (fQ es t Pf) n with|some i=> .inr ((i:D),Pf i)|none=> .inl (b6,b7))
 |0,hn=>by
  rw[Yb];simp only[j3C];rw[ag aa,j6,aW];rfl
 |n+1,hn=>by
  have aq:n<ls.length:=aa;have bc:ls.getD n (ByteArray.empty,((0:D),(((0:D),(0:D)),((0:D),((0:D),(([]:G D),(([]:G (D×D)),((0:D),(0:D)))))))))=ls[n]:=by simp[M,aq]
  have ih:=E_ (nm:=nm) (b6:=b6) (b7:=b7) hl hP n aa;have hp:=hP n aq;rw[Yb];simp only[j3C];rw[an aa,ag (show ((n+1:R):D)<=F ls.length by simp;omega),show ((n+1:R):D)-1=(n:D) by omega];simp only[j6,j7,j8,bc];rw[show j2Z ((zs,(ps,(cs,ss))),tbs) (ls[n].1,(ls[n].2.1,((ls[n].2.2.1.1,ls[n].2.2.1.2),(ls[n].2.2.2.1,(ls[n].2.2.2.2.1,(ls[n].2.2.2.2.2.1,(ls[n].2.2.2.2.2.2.1,(ls[n].2.2.2.2.2.2.2.1,ls[n].2.2.2.2.2.2.2.2)))))))) t=_ from hp];simp only[j4,dK,fQ];by_cases h0:0<=Pf n
  .rw[an (show¬Pf n<0 by omega),ag h0];simp only[j7,jEg hl,j4,qr];cases gP es (Pf n) t with
   |true=>simp only[jc,j7,aS];exact ih
   |false=>rfl
  .rw[ag (show Pf n<0 by omega),an h0];simp only[j6,ym,j7,aS];exact ih
theorem jxL{ls:G bA}{zs:G bH}{ps:G dr}{cs:G bd}{ss:G cN}{tbs:G (D×bh)}{nm:U}{es:G cO}{t:D}{Pf:R->D}(hl:es.length<=1000)
  (hP:∀i (h:i<ls.length),j2Z ((zs,(ps,(cs,ss))),tbs) ls[i] t=H (Pf i)) :
  j7S ((zs,(ps,(cs,ss))),tbs) (nm,(ls,es)) t=H (match dK (fQ es t Pf) ls.length with|some i=>((i:D),Pf i)|none=>((-1:D),(-1:D))):=by
 have lp:=E_ (nm:=nm) (b6:=0) (b7:=0) hl hP ls.length (jq _);simp only[j7S,j0X,j4];rw[show Fs (F ls.length) ls zs ps cs ss tbs nm ls es t 0 0=_ from lp];cases dK (fQ es t Pf) ls.length with
 |none=>rfl
 |some i=>rfl
section
variable{zs:G bH}{ps:G dr}{cs:G bd}{ss:G cN}
def dL(es:G cO)(t:D)(Pf:R->D)(n:R):Int:=match dK (fQ es t Pf) n with
 |some i=>Pf i
 |none=> -1
end
instance(L:bA):Decidable (Rt L):=
 decidable_of_iff (1<=L.2.2.1.1/\L.2.2.1.1<=100000/\0<=L.2.2.1.2/\L.2.2.1.2<=86399/\0<=L.2.2.2.1/\L.2.2.2.1<=2/\1<=L.2.2.2.2.1/\L.2.2.2.2.1<=400/\L.2.2.2.2.2.1≠[])
  ⟨λ⟨a,b,c,d,e,f,g,h,i⟩=>⟨a,b,c,d,e,f,g,h,i⟩,λ⟨a,b,c,d,e,f,g,h,i⟩=>⟨a,b,c,d,e,f,g,h,i⟩⟩
section
variable{z:bH}{l:bh}(h4:Z4 z l)
include h4
theorem F_(L:bA):jd4 z L=H (if Rt L then 0 else 8):=by
 have hc:j7v (z.1,(z.2.1,z.2.2))=H 0:=by simp only[j7v,show j0e (z.1,(z.2.1,z.2.2))=_ from h4.1,j4]
 simp only[jd4,hc,j4,jf,j7]
 have key:(cond (cond (cond (cond (cond (cond (cond (cond (E (L.2.2.1.1<1)) W (E (L.2.2.1.1>100000))) W (E (L.2.2.1.2<0))) W (E (L.2.2.1.2>=86400))) W (E (L.2.2.2.1<0))) W (E (L.2.2.2.1>2))) W (E (L.2.2.2.2.1<1))) W (E (L.2.2.2.2.1>400))) W (F L.2.2.2.2.2.1.length==0)) = !E (Rt L):=by
  have hlen:(F L.2.2.2.2.2.1.length==0)=E (L.2.2.2.2.2.1=[]):=by
   cases L.2.2.2.2.2.1 with
   |nil=>rfl
   |cons x r=>simp;omega
  rw[hlen];rw[Bool.eq_iff_iff];simp only[q9,kg];constructor
  .intro hh h;have a1:=h.d0;have a2:=h.d1;have a3:=h.c0;have a4:=h.c1;have a5:=h.u0;have a6:=h.u1;have a7:=h.e0;have a8:=h.e1;rw[an (show¬L.2.2.1.1<1 by omega),an (show¬L.2.2.1.1>100000 by omega),an (show¬L.2.2.1.2<0 by omega),an (show¬L.2.2.1.2>=86400 by omega),an (show¬L.2.2.2.1<0 by omega),an (show¬L.2.2.2.1>2 by omega),an (show¬L.2.2.2.2.1<1 by omega),an (show¬L.2.2.2.2.1>400 by omega),an h.m0]at hh;simp at hh
  .intro hn;by_cases a1:L.2.2.1.1<1
   .rw[ag a1];rfl
   rw[an a1];by_cases a2:L.2.2.1.1>100000
   .rw[ag a2];rfl
   rw[an a2];by_cases a3:L.2.2.1.2<0
   .rw[ag a3];rfl
   rw[an a3];by_cases a4:L.2.2.1.2>=86400
   .rw[ag a4];rfl
   rw[an a4];by_cases a5:L.2.2.2.1<0
   .rw[ag a5];rfl
   rw[an a5];by_cases a6:L.2.2.2.1>2
   .rw[ag a6];rfl
   rw[an a6];by_cases a7:L.2.2.2.2.1<1
   .rw[ag a7];rfl
   rw[an a7];by_cases a8:L.2.2.2.2.1>400
   .rw[ag a8];rfl
   rw[an a8];by_cases a9:L.2.2.2.2.2.1=[]
   .rw[ag a9];rfl
   exact absurd ⟨aa,aa,aa,aa,aa,aa,aa,aa,a9⟩ hn
 rw[key];by_cases h:Rt L
 .rw[ag h,if_pos h];rfl
 .rw[an h,if_neg h];rfl
end
theorem G_{z:bH}{l:bh}(hz:Z4 z l){L:bA}(h:Rt L){t N:D}(hN:N<=8589934592):∀n:R,(n:D)<=N->
  ∃K:D,Ah t ((n:D)-1) z.1 z.2.1 z.2.2 L.1 L.2.1 L.2.2.1.1 L.2.2.1.2 L.2.2.2.1 L.2.2.2.2.1 L.2.2.2.2.2.1 L.2.2.2.2.2.2.1 L.2.2.2.2.2.2.2.1 L.2.2.2.2.2.2.2.2=H K/\
   (K = -1\/0<=K/\QO z.2.1 l L t K)/\K<n/\∀j:D,K<j->0<=j->j<n->¬QO z.2.1 l L t j
 |0,_=>by
  rw[YG];simp only[j5Z];rw[an aa,j7,aW];exact⟨_,rfl,.inl aa,aa,λj h1 h2 h3=>aa⟩
 |n+1,hn=>by
  obtain⟨K,e,k0,k1,k2⟩:=G_ hz h (t:=t) hN n aa;obtain⟨v,hH,hv⟩:=Gl hz h (k:=(n:D)) aa aa;rw[YG,show ((n+1:R):D)-1=(n:D) by omega];simp only[j5Z];rw[ag aa,j6,show j7x (z.1,(z.2.1,z.2.2)) (L.1,L.2.1,(L.2.2.1.1,L.2.2.1.2),L.2.2.2.1,L.2.2.2.2.1,L.2.2.2.2.2.1,L.2.2.2.2.2.2.1,L.2.2.2.2.2.2.2.1,L.2.2.2.2.2.2.2.2) (n:D)=_ from hH];simp only[j4];rw[ar (x:=(n:D)-1)]
  have down:¬QO z.2.1 l L t (n:D)->(lpK (H (Sum.inl (t,(n:D)-1,z.1,z.2.1,z.2.2,L.1,L.2.1,L.2.2.1.1,L.2.2.1.2,L.2.2.2.1,L.2.2.2.2.1,L.2.2.2.2.2.1,L.2.2.2.2.2.2.1,L.2.2.2.2.2.2.2.1,L.2.2.2.2.2.2.2.2)):Option ((D×D×U×D×G aL×U×D×D×D×D×D×G D×WL×D×D) ⊕ D)) (λh=>Ah h.1 h.2.1 h.2.2.1 h.2.2.2.1 h.2.2.2.2.1 h.2.2.2.2.2.1 h.2.2.2.2.2.2.1 h.2.2.2.2.2.2.2.1 h.2.2.2.2.2.2.2.2.1 h.2.2.2.2.2.2.2.2.2.1 h.2.2.2.2.2.2.2.2.2.2.1 h.2.2.2.2.2.2.2.2.2.2.2.1 h.2.2.2.2.2.2.2.2.2.2.2.2.1 h.2.2.2.2.2.2.2.2.2.2.2.2.2.1 h.2.2.2.2.2.2.2.2.2.2.2.2.2.2))=H K/\∀j:D,K<j->0<=j->j<((n+1:R):D)->¬QO z.2.1 l L t j:=by
   intro hq;refine⟨by rw[aS];exact e,λj h1 h2 h3=>?_⟩;by_cases wz:j<n
   .exact k2 j h1 h2 wz
   .rw[show j=(n:D) by omega];exact hq
  cases hx:hO z.2.1 l L (n:D) with
  |none=>
   simp only[zm,j7];obtain⟨d1,d2⟩:=down λ⟨y,hy,_⟩=>by rw[hx]at hy;simp at hy
   exact⟨K,d1,k0,aa,d2⟩
  |some x=>
   have:=hv x hx;subst this;simp only[za,j6];by_cases hc:v<=t
   .rw[ag hc,j6,aW];exact⟨_,rfl,.inr ⟨aa,v,hx,hc⟩,aa,λj h1 h2 h3=>aa⟩
   .rw[an hc,j7];obtain⟨d1,d2⟩:=down λ⟨y,hy,B0⟩=>by rw[hx]at hy;simp at hy;omega
    exact⟨K,d1,k0,aa,d2⟩
theorem H_{z:bH}{l:bh}(hz:Z4 z l){L:bA}(h:Rt L){t:D}(KO:0<=t)(rR:t<=8589934592):∃K:D,jd6 z L t=H K/\kV z.2.1 l L t K:=by
 have hs:=h.step;have KN:=h.d0;have qD:=h.d1;have pO:=h.e0;have yD:=h.e1;have gT:=h.c0;have eU:=h.c1;simp only[jd6];by_cases h0:L.2.2.2.1=0
 .have hF:=R3 hz (d:=L.2.2.1.1) (c:=L.2.2.1.2) aa gT eU;have jD:L.2.2.1.1*86400+L.2.2.1.2=dx L 0:=by unfold dx;omega
  rw[dI h0,j6,show j5h (z.1,(z.2.1,z.2.2)) (L.2.2.1.1,L.2.2.1.2)=_ from hF,jD];simp only[j4]
  have nq:(∀v,fO z.2.1 l (dx L 0)=H v->t<v)->¬QO z.2.1 l L t 0:=by
   rintro hn ⟨y,hy,B0⟩
   have:=hn y (i_ h0 hy);omega
  cases hf:fO z.2.1 l (dx L 0) with
  |none=>exact⟨-1,rfl,.inl ⟨rfl,nq λv hv=>by rw[hf]at hv;simp at hv⟩⟩
  |some v=>
   have R4:=CK hz.2 hf;simp only[kp,j6];by_cases hc:v<=t
   .obtain⟨s1,s2,s3⟩:=h_ (o:=z.2.1) (l:=l) h h0 rR hf hc R4.2.1;rw[ag hc,j6,ar (x:=t-v),ar (x:=3600*L.2.2.2.2.1),cG (show¬3600*L.2.2.2.2.1=0 by omega),qt aa,ar (x:=(t-v)/(3600*L.2.2.2.2.1))];exact⟨_,rfl,s1⟩
   .rw[an hc];exact⟨-1,rfl,.inl ⟨rfl,nq λv' hv=>by rw[hf]at hv;simp at hv;omega⟩⟩
 .obtain⟨j,hj,j1,j2⟩:=tI hz.2 KO rR;have o0:=hz.2.of0 j hj;have o1:=hz.2.of1 j hj;have eT:=_Z hz (t:=t) KO rR hj j1 j2;rw[cG h0,j7,show j43 (z.1,(z.2.1,z.2.2)) t=_ from eT];simp only[j4];have Gu:∀k:D,QO z.2.1 l L t k->L.2.2.1.1+k*dG L<=(t+bm z.2.1 l j)/86400+2:=λk hq=>QO.day hz.2 h h0 hq hj;generalize Ht:(t+bm z.2.1 l j)/86400=ld at Gu;rw[ar (x:=ld+2),ar (x:=ld+2-L.2.2.1.1)]
  have fin:∀st:D,st=dG L->∃K:D,((Ah t (w64 (Int.tdiv (if (0:D)>ld+2-L.2.2.1.1 then (0:D) else ld+2-L.2.2.1.1) st)) z.1 z.2.1 z.2.2 L.1 L.2.1 L.2.2.1.1 L.2.2.1.2 L.2.2.2.1 L.2.2.2.2.1 L.2.2.2.2.2.1 L.2.2.2.2.2.2.1 L.2.2.2.2.2.2.2.1 L.2.2.2.2.2.2.2.2).bind λq0=>H q0)=H K/\kV z.2.1 l L t K:=by
   rintro st rfl
   obtain⟨m,hm,pU,ic⟩:∃m:D,(if (0:D)>ld+2-L.2.2.1.1 then (0:D) else ld+2-L.2.2.1.1)=m/\0<=m/\m<=1000000:=⟨_,rfl,by split<;>omega,by split<;>omega⟩;have BF:ld+2-L.2.2.1.1<=m:=by rw[<-hm];split<;>omega
   rw[hm,qt pU];have q0:0<=m/dG L:=yj pU aa;have q1:m/dG L<=m:=ya _ pU;have q2:m<dG L*(m/dG L)+dG L:=Int.lt_mul_ediv_self_add aa;rw[ar];generalize m/dG L=km at *;obtain⟨K,e,k0,k1,k2⟩:=G_ hz h (t:=t) (k8 _) (km+1).toNat aa;rw[show (((km+1).toNat:R):D)-1=km by omega]at e;rw[e];refine⟨K,rfl,?_⟩
   have top:¬QO z.2.1 l L t (K+1):=by
    by_cases hK:K+1<=km
    .exact k2 (K+1) aa (by rcases k0 with k0|k0<;>omega) aa
    .intro hq;have hd:=Gu _ hq;have cg:K=km:=aa;rw[cg,Int.add_mul,Int.one_mul]at hd;have:dG L*km=km*dG L:=X _ _;omega
   rcases k0 with k0|k0
   .subst k0;exact .inl ⟨rfl,top⟩
   .exact .inr ⟨k0.1,k0.2,top⟩
  by_cases h2:L.2.2.2.1=2
  .have AF:dG L=7*L.2.2.2.2.1:=by unfold dG;rw[if_pos h2]
   rw[dI h2,j6,ar (x:=L.2.2.2.2.1*7),cG (show¬L.2.2.2.2.1*7=0 by omega)];simp only[jp,j6];exact fin _ (by rw[AF,X])
  .have AF:dG L=L.2.2.2.2.1:=by unfold dG;rw[if_neg h2]
   rw[cG h2,j7,cG (show¬L.2.2.2.2.1=0 by omega)];simp only[jp,j6];exact fin _ AF.symm
end Go.Proofs.Pw
