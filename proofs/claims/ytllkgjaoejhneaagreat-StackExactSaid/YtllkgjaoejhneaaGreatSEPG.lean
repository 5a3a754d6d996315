/- span.Common and span.Without: meets and wS of sets. -/
import Derived.Test.YtllkgjaoejhneaaGreatSEPF
import Derived.Test.YtllkgjaoejhneaaGreatSEPE
import Derived.KernelRfl
open _root_ renaming Int->D,List->G,Nat->M,ByteArray->R
open Decidable renaming decide->E
open Int renaming ofNat->F,mul_comm->U
open Option renaming some->H
open List renaming length->I,getD->J,singleton_append->O
open Bool renaming true->S,false->W
open Go Go.Lft
namespace Go.Proofs.Pw
theorem bX.weak{p q:D}(hq:q<=p):∀{l:SL},bX p l->bX q l
 |[],_=>trivial
 |_::_,h=>⟨by have:=h.1;omega,h.2⟩
theorem bX.low{p x:D}:∀{l:SL},bX p l->bG x l->p<x
 |[],_,h=>absurd h fU
 |s::r,h,hx=>by
  rcases fi.1 hx with hx|hx
  .have:=h.1;omega
  .have:=bX.low h.2.2 hx;have:=h.1;have:=h.2.1;omega
theorem bX.mem{p:D}:∀{l:SL},bX p l->∀s∈l,p<s.1/\s.1<s.2
 |[],_,s,hs=>by simp at hs
 |u::r,h,s,hs=>by
  rcases jl.1 hs with rfl|hs
  .exact⟨h.1,h.2.1⟩
  .have:=bX.mem h.2.2 s hs;have:=h.1;have:=h.2.1;omega
def mS:M->SL->SL->SL
 |n+1,s::a,u::b=>(if (if u.1>s.1 then u.1 else s.1)<(if u.2<s.2 then u.2 else s.2) then [((if u.1>s.1 then u.1 else s.1),(if u.2<s.2 then u.2 else s.2))] else [])++
  (if s.2<u.2 then mS n a (u::b) else mS n (s::a) b)
 |_,_,_=>[]
theorem QC:∀(n:M)(a b:SL)(p q:D),a.length+b.length<=n->bX p a->bX q b->(∀x,bG x (mS n a b)↔bG x a/\bG x b)/\bX p (mS n a b)/\bX q (mS n a b)/\(mS n a b).length<=a.length+b.length
 |0,a,b,p,q,hn,_,_=>by
  obtain rfl:a=[]:=zr.1 aa;exact⟨λx=>⟨λh=>absurd h fU,λh=>absurd h.1 fU⟩,trivial,trivial,by simp[mS]⟩
 |n+1,[],b,p,q,_,_,_=>⟨λx=>⟨λh=>absurd h fU,λh=>absurd h.1 fU⟩,trivial,trivial,by simp[mS]⟩
 |n+1,_::_,[],p,q,_,_,_=>⟨λx=>⟨λh=>absurd h fU,λh=>absurd h.2 fU⟩,trivial,trivial,by simp[mS]⟩
 |n+1,s::a,u::b,p,q,hn,ha,hb=>by
  obtain⟨a1,a2,a3⟩:=ha;obtain⟨b1,b2,b3⟩:=hb;simp only[jq]at hn ⊢
  have hx:∃f t:D,f=(if u.1>s.1 then u.1 else s.1)/\t=(if u.2<s.2 then u.2 else s.2)/\(∀x,(f<=x/\x<t)↔(s.1<=x/\x<s.2)/\(u.1<=x/\x<u.2))/\p<f/\q<f/\t<=s.2/\t<=u.2:=by
   refine⟨_,_,rfl,rfl,λx=>?_,?_,?_,?_,?_⟩
   .constructor
    .intro h;split at h<;>split at h<;>omega
    .intro h;split<;>split<;>omega
   .split<;>omega
   .split<;>omega
   .split<;>omega
   .split<;>omega
  obtain⟨f,t,ef,et,hi,f1,f2,t1,t2⟩:=hx;simp only[mS,<-ef,<-et]
  have key:∀(a' b':SL)(r:SL),(∀x,bG x r↔bG x a'/\bG x b')->bX t r->bX p r->bX q r->r.length<=a'.length+b'.length->a'.length+b'.length+1=a.length+1+(b.length+1)->
    (∀x,bG x (s::a)/\bG x (u::b)↔(f<=x/\x<t)\/(bG x a'/\bG x b'))->
    (∀x,bG x ((if f<t then [(f,t)] else [])++r)↔bG x (s::a)/\bG x (u::b))/\bX p ((if f<t then [(f,t)] else [])++r)/\bX q ((if f<t then [(f,t)] else [])++r)/\((if f<t then [(f,t)] else [])++r).length<=a.length+1+(b.length+1):=by
   intro a' b' r xy Jz QD JA hl sw sa;by_cases kC:f<t
   .rw[if_pos kC];refine⟨λx=>?_,⟨f1,kC,Jz⟩,⟨f2,kC,Jz⟩,ay⟩;rw[sa,wR,xy x,fi];constructor
    .rintro ((h|h)|h)
     .exact .inl h
     .exact absurd h fU
     .exact .inr h
    .rintro (h|h)
     .exact .inl (.inl h)
     .exact .inr h
   .rw[if_neg kC,kc];refine⟨λx=>?_,QD,JA,aa⟩;rw[sa,xy x];constructor
    .exact .inr
    .rintro (h|h)
     .omega
     .exact h
  by_cases hc:s.2<u.2
  .rw[if_pos hc];obtain⟨i1,i2,i3,i4⟩:=QC n a (u::b) s.2 q ay a3 ⟨b1,b2,b3⟩;refine key a (u::b) _ i1 (i2.weak t1) (i2.weak aa) i3 i4 ay (λx=>?_);rw[fi,hi x];constructor
   .rintro⟨h|h,h'⟩
    .rcases fi.1 h' with h'|h'
     .exact .inl ⟨h,h'⟩
     .have:=bX.low b3 h';omega
    .exact .inr ⟨h,h'⟩
   .rintro (h|h)
    .exact⟨.inl h.1,fi.2 (.inl h.2)⟩
    .exact⟨.inr h.1,h.2⟩
  .rw[if_neg hc];obtain⟨i1,i2,i3,i4⟩:=QC n (s::a) b p u.2 ay ⟨a1,a2,a3⟩ b3;refine key (s::a) b _ i1 (i3.weak t2) i2 (i3.weak aa) i4 ay (λx=>?_);rw[fi (s:=u),hi x];constructor
   .rintro⟨h',h|h⟩
    .rcases fi.1 h' with h'|h'
     .exact .inl ⟨h',h⟩
     .have:=bX.low a3 h';omega
    .exact .inr ⟨h',h⟩
   .rintro (h|h)
    .exact⟨fi.2 (.inl h.1),.inl h.2⟩
    .exact⟨h.1,.inr h.2⟩
theorem QE{A B:SL}(hA:A.length<=10000000)(hB:B.length<=10000000):∀(n i k:M)(acc:SL),i<=A.length->k<=B.length->(A.length-i)+(B.length-k)=n->acc.length+n<=30000000->
  zA A B (i:D) (k:D) acc=H (acc++mS n (A.drop i) (B.drop k))
 |n,i,k,acc,hi,hk,hn,dI=>by
  rw[jja];simp only[j5B,show F (I A)=(A.length:D) from rfl,show F (I B)=(B.length:D) from rfl];by_cases gP:i<A.length/\k<B.length
  .obtain⟨ct,bk⟩:=gP;obtain⟨n,rfl⟩:∃m,n=m+1:=⟨n-1,aa⟩;have gA:A.getD i ((0:D),(0:D))=A[i]:=by simp[J,ct]
   have gB:B.getD k ((0:D),(0:D))=B[k]:=by simp[J,bk]
   rw[ah (show (i:D)<(A.length:D) by omega),ah (show (k:D)<(B.length:D) by omega),cb (show (0:D)<=(i:D) by omega) aa,cb (show (0:D)<=(k:D) by omega) aa];simp only[jc,je,gA,gB];rw[ar (x:=(i:D)+1),ar (x:=(k:D)+1)];rw[jh ct,jh bk];simp only[mS];generalize (if B[k].1>A[i].1 then B[k].1 else A[i].1:D)=f;generalize (if B[k].2<A[i].2 then B[k].2 else A[i].2:D)=t
   have Fx:∀bE:SL,bE.length<=acc.length+1->zA A B ((i:D)+1) (k:D) bE=H (bE++mS n (A.drop (i+1)) (B[k]::B.drop (k+1))):=λbE pF=>by
    have:=QE hA hB n (i+1) k bE aa aa aa aa;rw[<-jh bk];exact this
   have Fy:∀bE:SL,bE.length<=acc.length+1->zA A B (i:D) ((k:D)+1) bE=H (bE++mS n (A[i]::A.drop (i+1)) (B.drop (k+1))):=λbE pF=>by
    have:=QE hA hB n i (k+1) bE aa aa aa aa;rw[<-jh ct];exact this
   by_cases kC:f<t
   .rw[ah kC,if_pos kC,ah (by simp[aF];omega)];simp only[jc];by_cases hc:A[i].2<B[k].2
    .rw[ah hc,if_pos hc];simp only[jc,aV];rw[Fx _ af,jo]
    .rw[ak hc,if_neg hc];simp only[jd,aV];rw[Fy _ af,jo]
   .rw[ak kC,if_neg kC];simp only[jd];by_cases hc:A[i].2<B[k].2
    .rw[ah hc,if_pos hc];simp only[jc,aV];rw[Fx _ aa,kc]
    .rw[ak hc,if_neg hc];simp only[jd,aV];rw[Fy _ aa,kc]
  .have hc:cond (E ((i:D)<(A.length:D))) (E ((k:D)<(B.length:D))) W=false:=by
    by_cases h1:i<A.length
    .rw[ah aa,jc];exact ak aa
    .rw[ak aa,jd]
   rw[hc,jd,ba]
   have:mS n (A.drop i) (B.drop k)=[]:=by
    by_cases h1:i<A.length
    .rw[yz (show B.length<=k by omega)];cases n<;>cases A.drop i<;>rfl
    .rw[yz (show A.length<=i by omega)];cases n<;>rfl
   rw[this,qh]
theorem jwW{A B:SL}{p q:D}(ha:bX p A)(hb:bX q B)(hA:A.length<=10000000)(hB:B.length<=10000000) :
  ∃out,jbp A B=H out/\bX p out/\(∀x,bG x out↔bG x A/\bG x B)/\out.length<=A.length+B.length:=by
 have lp:=QE hA hB (A.length+B.length) 0 0 [] aa aa aa ay;obtain⟨h1,h2,h3,h4⟩:=QC (A.length+B.length) A B p q (jy _) ha hb;refine⟨mS (A.length+B.length) A B,?_,h2,h1,h4⟩;simp only[jbp,show zA A B 0 0 []=_ from lp,ja,kc,jt]
def nK(e:D):D->SL->SL×D
 |t,[]=>([],t)
 |t,u::b=>if u.1<e then ((if t<u.1 then [(t,u.1)] else [])++(nK e (if u.2>t then u.2 else t) b).1,(nK e (if u.2>t then u.2 else t) b).2) else ([],t)
def lR(e t:D)(b:SL):SL:=(nK e t b).1++(if (nK e t b).2<e then [((nK e t b).2,e)] else [])
theorem jAK{e t:D}{u:D×D}{b:SL}(h:u.1<e):lR e t (u::b)=(if t<u.1 then [(t,u.1)] else [])++lR e (if u.2>t then u.2 else t) b:=by
 simp only[lR,nK,if_pos h,jo]
theorem YY{e:D}:∀(b:SL)(t q:D),bX q b->(∀x,bG x (lR e t b)↔(t<=x/\x<e)/\¬bG x b)/\bX (t-1) (lR e t b)/\(∀s∈lR e t b,s.2<=e)/\(lR e t b).length<=b.countP (λu=>E (t<u.1)&&E (u.1<e))+1
 |[],t,q,_=>by
  rw[show lR e t []=(if t<e then [(t,e)] else []) from rfl];by_cases h:t<e
  .rw[if_pos h];exact⟨λx=>⟨λhx=>⟨by rcases fi.1 hx with hx|hx;exact hx;exact absurd hx fU,fU⟩,λhx=>fi.2 (.inl hx.1)⟩,⟨by dsimp only;omega,h,trivial⟩,af,af⟩
  .rw[if_neg h];exact⟨λx=>⟨λhx=>absurd hx fU,λhx=>aa⟩,trivial,af,af⟩
 |u::b,t,q,hb=>by
  obtain⟨b1,b2,b3⟩:=hb;by_cases hu:u.1<e
  .rw[jAK hu];have hm:∃t',t'=(if u.2>t then u.2 else t)/\t<=t'/\u.2<=t'/\(t'=t\/t'=u.2):=⟨_,rfl,by split<;>omega,by split<;>omega,by split<;>omega⟩;obtain⟨t',e',h1,h2,h3⟩:=hm;rw[<-e'];obtain⟨i1,i2,i3,i4⟩:=YY b t' u.2 b3;have fa:∀x,bG x b->u.2<x:=λx=>bX.low b3
   have YZ:b.countP (λu=>E (t'<u.1)&&E (u.1<e))<=b.countP (λu=>E (t<u.1)&&E (u.1<e)):=List.countP_mono_left λv _ h=>by
    simp only[ji,jr]at h ⊢;omega
   by_cases Aa:t<u.1
   .rw[if_pos Aa]
    refine⟨λx=>?_,⟨by dsimp only;omega,Aa,i2.weak aa⟩,λs hs=>?_,by
     rw[List.countP_cons_of_pos (by simp[Aa,hu]),O,jq];omega⟩
    .rw[O,fi,i1 x,fi];constructor
     .rintro (h|h)
      .exact⟨aa,λh'=>by
        rcases h' with h'|h'
        .omega
        .have:=fa x h';omega⟩
      .exact⟨aa,λh'=>by
        rcases h' with h'|h'
        .omega
        .exact h.2 h'⟩
     .rintro⟨h,h'⟩
      by_cases hx:x<u.1
      .exact .inl ⟨h.1,hx⟩
      .by_cases pX:x<u.2
       .exact absurd (.inl ⟨aa,pX⟩) h'
       .exact .inr ⟨aa,λh2=>h' (.inr h2)⟩
    .rcases jl.1 hs with rfl|hs
     .dsimp only;omega
     .exact i3 s hs
   .rw[if_neg Aa,kc]
    refine⟨λx=>?_,i2.weak aa,i3,by
     rw[List.countP_cons_of_neg (by simp[Aa])];omega⟩
    rw[i1 x,fi];constructor
    .rintro h
     exact⟨aa,λh'=>by
      rcases h' with h'|h'
      .omega
      .exact h.2 h'⟩
    .rintro⟨h,h'⟩
     by_cases pX:x<u.2
     .exact absurd (.inl ⟨aa,pX⟩) h'
     .exact⟨aa,λh2=>h' (.inr h2)⟩
  .have:lR e t (u::b)=if t<e then [(t,e)] else []:=by simp only[lR,nK,if_neg hu,kc]
   rw[this]
   have cY:∀x,x<e->¬bG x (u::b):=λx hx h=>by
    rcases fi.1 h with h|h
    .omega
    .have:=bX.low b3 h;omega
   by_cases h:t<e
   .rw[if_pos h]
    exact⟨λx=>⟨λhx=>by
     rcases fi.1 hx with hx|hx
     .exact⟨hx,cY x hx.2⟩
     .exact absurd hx fU,λhx=>fi.2 (.inl hx.1)⟩,⟨by dsimp only;omega,h,trivial⟩,af,af⟩
   .rw[if_neg h];exact⟨λx=>⟨λhx=>absurd hx fU,λhx=>aa⟩,trivial,af,af⟩
def pA(l:SL)(u:D×D):Bool:=l.any λs=>E (s.1<u.1)&&E (u.1<s.2)
theorem Y0{p q:D×D->Bool}(h:∀u,p u=S->q u=S->False):∀l:SL,l.countP p+l.countP q<=l.countP (λu=>p u||q u)
 |[]=>af
 |u::l=>by
  have ih:=Y0 h l;have hu:=h u;simp only[List.countP_cons];cases hp:p u<;>cases hq:q u<;>simp_all<;>omega
theorem Y1{q:D}:∀{b:SL}(k:M),bX q b->∃q',bX q' (b.drop k)
 |_,0,h=>⟨q,h⟩
 |[],_+1,_=>⟨q,trivial⟩
 |_::_,k+1,h=>Y1 k h.2.2
section
variable{B:SL}(hB:B.length<=10000000)
include hB
theorem Y2{A:SL}{n m s e:D}{acc:SL}:∀(d k:M),k+d=B.length->∃k':M,k<=k'/\k'<=B.length/\(∀j (h:j<B.length),k<=j->j<k'->B[j].2<=s)/\
  HC B (k:D) A n m s e acc=H (B,(k':D),A,n,m,s,e,acc)
 |0,k,hk=>by
  rw[Vz];simp only[j3R,show F (I B)=(B.length:D) from rfl];rw[ak aa,jd,ba];exact⟨k,aa,aa,λj h h1 h2=>aa,rfl⟩
 |d+1,k,hk=>by
  have bk:k<B.length:=aa;have gB:B.getD k ((0:D),(0:D))=B[k]:=by simp[J,bk]
  rw[Vz];simp only[j3R,show F (I B)=(B.length:D) from rfl];rw[ah aa,bP];simp only[jc,je,gB];by_cases hc:B[k].2<=s
  .rw[ah hc,jc,aV,ar (x:=(k:D)+1)];obtain⟨k',h1,h2,h3,h4⟩:=Y2 d (k+1) aa;refine⟨k',aa,h2,λj h ha hb=>?_,h4⟩;by_cases rh:j=k
   .subst rh;exact hc
   .exact h3 j h aa hb
  .rw[ak hc,jd,ba];exact⟨k,aa,aa,λj h h1 h2=>aa,rfl⟩
theorem Y3{A:SL}{k n m s e:D}:∀(d i:M)(t:D)(acc:SL),i+d=B.length->acc.length+d<=4000000000->
  EC B k t (i:D) A n m s e acc=H (B,k,(nK e t (B.drop i)).2,A,n,m,s,e,acc++(nK e t (B.drop i)).1)
 |0,i,t,acc,hi,dI=>by
  rw[VA];simp only[j3S,show F (I B)=(B.length:D) from rfl];rw[ak aa,jd,ba,jj aa];simp[nK]
 |d+1,i,t,acc,hi,dI=>by
  have ct:i<B.length:=aa;have gB:B.getD i ((0:D),(0:D))=B[i]:=by simp[J,ct]
  rw[VA];simp only[j3S,show F (I B)=(B.length:D) from rfl];rw[ah aa,bP];simp only[jc,je,gB];rw[jh ct,ar (x:=(i:D)+1)];by_cases hc:B[i].1<e
  .rw[ah hc];simp only[jc,nK,if_pos hc];have ih:∀bE:SL,bE.length<=acc.length+1->EC B k (if B[i].2>t then B[i].2 else t) ((i:D)+1) A n m s e bE=_:=λbE h'=>Y3 d (i+1) (if B[i].2>t then B[i].2 else t) bE aa aa;by_cases ht:t<B[i].1
   .rw[ah ht,if_pos ht,ah (by simp[aF];omega)];simp only[jc,aV];rw[ih _ af,jo]
   .rw[ak ht,if_neg ht];simp only[jd,aV];rw[ih _ aa,kc]
  .rw[ak hc];simp only[jd,ba,nK,if_neg hc,qh]
theorem Y4{A:SL}(hA:A.length<=10000000){q:D}(hb:bX q B):∀(d j k:M)(p:D)(acc:SL),j+d=A.length->k<=B.length->bX p (A.drop j)->(∀i (h:i<B.length),i<k->∀x,bG x (A.drop j)->B[i].2<=x)->acc.length+d+B.countP (pA (A.drop j))<=30000000->
  ∃out,BP B (k:D) A (A.length:D) (j:D) acc=H (acc++out)/\bX p out/\(∀x,bG x out↔bG x (A.drop j)/\¬bG x B)/\out.length<=d+B.countP (pA (A.drop j))
 |0,j,k,p,acc,hj,hk,_,_,dI=>by
  rw[VC];simp only[j3T];rw[ak aa,jd,ba,jj aa];exact⟨[],af,trivial,λx=>⟨λh=>absurd h fU,λh=>absurd h.1 fU⟩,af⟩
 |d+1,j,k,p,acc,hj,hk,ha,QF,dI=>by
  have jI:j<A.length:=aa;have gA:A.getD j ((0:D),(0:D))=A[j]:=by simp[J,jI]
  rw[jh jI]at ha QF dI ⊢;obtain⟨a1,a2,a3⟩:=ha;obtain⟨k',h1,h2,h3,h4⟩:=Y2 hB (A:=A) (n:=(A.length:D)) (m:=(j:D)) (s:=A[j].1) (e:=A[j].2) (acc:=acc) (B.length-k) k aa;have aK:∃q',bX q' (B.drop k'):=Y1 k' hb;obtain⟨q',aK⟩:=aK
  have wT:∀x,A[j].1<=x->(bG x B↔bG x (B.drop k')):=by
   intro x hx;constructor
   .rintro⟨u,hu,u1,u2⟩
    obtain⟨i,hi,rfl⟩:=List.mem_iff_getElem.1 hu;by_cases mh:i<k'
    .by_cases Ab:i<k
     .have:=QF i hi Ab A[j].1 (fi.2 (.inl ⟨kx _,a2⟩));omega
     .have:=h3 i hi aa mh;omega
    .exact⟨B[i],List.mem_drop_iff_getElem.2 ⟨i-k',aa,by simp[show k'+(i-k')=i by omega]⟩,u1,u2⟩
   .rintro⟨u,hu,u1,u2⟩
    exact⟨u,zp hu,u1,u2⟩
  have w4:=Y3 hB (A:=A) (k:=(k':D)) (n:=(A.length:D)) (m:=(j:D)) (s:=A[j].1) (e:=A[j].2) (B.length-k') k' A[j].1 acc aa aa;obtain⟨s1,s2,s3,s4⟩:=YY (e:=A[j].2) (B.drop k') A[j].1 q' aK;have ub:(nK A[j].2 A[j].1 (B.drop k')).1.length<=(lR A[j].2 A[j].1 (B.drop k')).length:=by simp[lR]
  have DN:(lR A[j].2 A[j].1 (B.drop k')).length+B.countP (pA (A.drop (j+1)))<=B.countP (pA (A[j]::A.drop (j+1)))+1:=by
   have h5:(B.drop k').countP (λu=>E (A[j].1<u.1)&&E (u.1<A[j].2))<=B.countP (λu=>E (A[j].1<u.1)&&E (u.1<A[j].2)):=(List.drop_sublist k' B).countP_le
   have h6:=Y0 (p:=λu=>E (A[j].1<u.1)&&E (u.1<A[j].2)) (q:=pA (A.drop (j+1))) (λu hp hq=>by
    obtain⟨s,hs,dy⟩:=yj.1 hq;have:=bX.mem a3 s hs;simp only[ji,jr]at hp dy;omega) B
   have h7:B.countP (λu=>(E (A[j].1<u.1)&&E (u.1<A[j].2))||pA (A.drop (j+1)) u)=B.countP (pA (A[j]::A.drop (j+1))):=rfl;omega
  have step:∀bE:SL,bE=acc++lR A[j].2 A[j].1 (B.drop k')->∃out,BP B (k':D) A (A.length:D) ((j:D)+1) bE=H (acc++out)/\bX p out/\(∀x,bG x out↔bG x (A[j]::A.drop (j+1))/\¬bG x B)/\out.length<=d+1+B.countP (pA (A[j]::A.drop (j+1))):=by
   rintro _ rfl
   obtain⟨out,e,o1,o2,o3⟩:=Y4 hA hb d (j+1) k' A[j].2 (acc++lR A[j].2 A[j].1 (B.drop k')) aa h2 a3 (λi hi mh x hx=>by
    have hlow:=bX.low a3 hx;by_cases Ab:i<k
    .exact QF i hi Ab x (fi.2 (.inr hx))
    .have:=h3 i hi aa mh;omega) (by rw[jn];omega)
   refine⟨lR A[j].2 A[j].1 (B.drop k')++out,by rw[<-jo];exact e,?_,λx=>?_,by rw[jn];omega⟩
   .have glue:∀(l:SL)(r:D),bX r l->r<A[j].2->(∀s∈l,s.2<=A[j].2)->bX r (l++out):=by
     intro l;induction l with
     |nil=>intro r _ hr _;exact o1.weak aa
     |cons s l ih=>intro r h hr hl;exact⟨h.1,h.2.1,by
      have:=hl s af;by_cases hs:s.2<A[j].2
      .exact ih s.2 h.2.2 hs (λu hu=>hl u (by simp[hu]))
      .have he:s.2=A[j].2:=aa;match l,h.2.2 with
       |[],_=>exact o1.weak aa
       |u::l',h'=>have:=hl u af;have:=h'.1;have:=h'.2.1;omega⟩
    exact glue _ _ (s2.weak aa) aa s3
   .rw[wR,s1 x,o2 x,fi];constructor
    .rintro (h|h)
     .exact⟨.inl h.1,λhx=>h.2 ((wT x h.1.1).1 hx)⟩
     .exact⟨.inr h.1,h.2⟩
    .rintro⟨h|h,h'⟩
     .exact .inl ⟨h,λhx=>h' ((wT x h.1).2 hx)⟩
     .exact .inr ⟨h,h'⟩
  rw[VC];simp only[j3T];rw[ah (show (j:D)<(A.length:D) by omega),bP];simp only[jc,je,gA,h4,ja,w4];rw[ar (x:=(j:D)+1)];have hlen:(acc++(nK A[j].2 A[j].1 (B.drop k')).1).length<=2000000000:=by rw[jn];omega
  by_cases ht:(nK A[j].2 A[j].1 (B.drop k')).2<A[j].2
  .rw[ah ht];simp only[jc];rw[ah (by simp only[aF,qs];omega)];simp only[jc,aV];exact step _ (by simp only[lR,if_pos ht,jo])
  .rw[ak ht];simp only[jd,aV];exact step _ (by simp only[lR,if_neg ht,qh])
theorem QG{A:SL}{p q:D}(ha:bX p A)(hb:bX q B)(hA:A.length<=10000000) :
  ∃out,j2I A B=H out/\bX p out/\(∀x,bG x out↔bG x A/\¬bG x B)/\out.length<=A.length+B.length:=by
 have hc:=List.countP_le_length (p:=pA (A.drop 0)) (l:=B);obtain⟨out,e,h1,h2,h3⟩:=Y4 hB hA hb A.length 0 0 p [] aa aa ha (λi h hi=>aa) (by simp only[kr];omega);refine⟨out,?_,h1,h2,aa⟩;simp only[j2I,show F (I A)=(A.length:D) from rfl,show BP B 0 A (A.length:D) 0 []=_ from e,ja,kc]
end
set_option linter.unusedSectionVars false
section
variable{l:SL}{p:D}(h:bX p l)(hp : -1<=p)(hl:l.length<=4096)(hb:∀u∈l,u.2<=8589934592)
include h hp hl hb
end
set_option linter.unusedSectionVars false
def pk(p:D):SL->Prop
 |[]=>True
 |x::r=>p<=x.1/\x.1<x.2/\pk x.2 r
theorem pk.weak{p q:D}(hq:q<=p):∀{l:SL},pk p l->pk q l
 |[],_=>trivial
 |_::_,h=>⟨by have:=h.1;omega,h.2⟩
section
variable{zs:G bS}{ps:G eu}{cs:G bq}(hs:nI zs ps cs)
include hs
end
def ia(es:G dA)(p t:D):Bool:=es.any λx=>x.1==0&&(x.2.1==p&&(E (x.2.2.2.1<=t)&&E (t<x.2.2.2.2)))
theorem Y5{es:G dA}{p t:D}(hl:es.length<=1000):∀(n i:M),i+n=es.length->∃r,EJ es p t (es.length:D) (i:D)=H r/\
  match r with
  |.inl k=>0<=k/\ia (es.drop i) p t=S
  |.inr _=>ia (es.drop i) p t=W
 |0,i,hi=>by
  rw[VN];simp only[j0v];rw[ak aa,jd,ba,jj aa];exact⟨_,rfl,rfl⟩
 |n+1,i,hi=>by
  have au:i<es.length:=aa;have bm:es.getD i ((0:D),((0:D),((0:D),((0:D),(0:D)))))=es[i]:=by simp[J,au]
  rw[VN];simp only[j0v,je7];rw[ah aa,bP,ar (x:=(i:D)+1)];simp only[jc,je,bm,ja];rw[jh au];have e:(cond (cond (cond (es[i].1==(0:D)) (es[i].2.1==p) W) (E (es[i].2.2.2.1<=t)) W) (E (t<es[i].2.2.2.2)) W)=(es[i].1==0&&(es[i].2.1==p&&(E (es[i].2.2.2.1<=t)&&E (t<es[i].2.2.2.2)))):=by cases es[i].1==(0:D)<;>cases es[i].2.1==p<;>cases E (es[i].2.2.2.1<=t)<;>rfl
  rw[e];have ha:ia (es[i]::es.drop (i+1)) p t=((es[i].1==0&&(es[i].2.1==p&&(E (es[i].2.2.2.1<=t)&&E (t<es[i].2.2.2.2))))||ia (es.drop (i+1)) p t):=rfl;rw[ha];cases hx:(es[i].1==0&&(es[i].2.1==p&&(E (es[i].2.2.2.1<=t)&&E (t<es[i].2.2.2.2)))) with
  |true=>rw[jc,ba];exact⟨_,rfl,aa,rfl⟩
  |false=>rw[jd,aV];obtain⟨r,e1,e2⟩:=Y5 (es:=es) (p:=p) (t:=t) hl n (i+1) aa;exact⟨r,e1,by simpa using e2⟩
theorem Y6{nm:R}{ls:G bC}{es:G dA}{p t:D}(hl:es.length<=1000):jbf (nm,(ls,es)) p t=H (ia es p t):=by
 obtain⟨r,e1,e2⟩:=Y5 (p:=p) (t:=t) hl es.length 0 aa;simp only[jbf,j1X,j2p,show F es.length=(es.length:D) from rfl];rw[show EJ es p t (es.length:D) 0=_ from e1];cases r with
 |inl k=>simp only[jt]at e2;simp only[ja,pR,e2.2];rw[ah (show k>=0 from e2.1)]
 |inr u=>simp only[jt]at e2;simp only[ja,lN,e2];rfl
def dq(good:M->Bool):M->Option M
 |0=>none
 |n+1=>cond (good n) (H n) (dq good n)
def fv(es:G dA)(t:D)(Pf:M->D)(i:M):Bool:=E (0<=Pf i) && !ia es (Pf i) t
theorem Y7{ls:G bC}{zs:G bS}{ps:G eu}{cs:G bq}{ss:G dC}{tbs:G (D×bg)}{nm:R}{es:G dA}{t b6 b7:D}{Pf:M->D}(hl:es.length<=1000)
  (hP:∀i (h:i<ls.length),j27 ((zs,(ps,(cs,ss))),tbs) ls[i] t=H (Pf i)):∀n:M,n<=ls.length->
  EK (n:D) ls zs ps cs ss tbs nm ls es t b6 b7=H (match dq (fv es t Pf) n with|some i=> .inr ((i:D),Pf i)|none=> .inl (b6,b7))
 |0,hn=>by
  rw[VO];simp only[j3h];rw[ah aa,jc,ba];rfl
 |n+1,hn=>by
  have au:n<ls.length:=aa;have bm:ls.getD n (ByteArray.empty,((0:D),(((0:D),(0:D)),((0:D),((0:D),(([]:G D),(([]:G (D×D)),((0:D),(0:D)))))))))=ls[n]:=by simp[J,au]
  have ih:=Y7 (nm:=nm) (b6:=b6) (b7:=b7) hl hP n aa;have hp:=hP n au;rw[VO];simp only[j3h];rw[ak aa,ah (show ((n+1:M):D)<=F ls.length by simp;omega),show ((n+1:M):D)-1=(n:D) by omega];simp only[jc,jd,je,bm];rw[show j27 ((zs,(ps,(cs,ss))),tbs) (ls[n].1,(ls[n].2.1,((ls[n].2.2.1.1,ls[n].2.2.1.2),(ls[n].2.2.2.1,(ls[n].2.2.2.2.1,(ls[n].2.2.2.2.2.1,(ls[n].2.2.2.2.2.2.1,(ls[n].2.2.2.2.2.2.2.1,ls[n].2.2.2.2.2.2.2.2)))))))) t=_ from hp];simp only[ja,dq,fv];by_cases h0:0<=Pf n
  .rw[ak (show¬Pf n<0 by omega),ah h0];simp only[jd,Y6 hl,ja,zw];cases ia es (Pf n) t with
   |true=>simp only[jk,jd,aV];exact ih
   |false=>rfl
  .rw[ah (show Pf n<0 by omega),ak h0];simp only[jc,Bool.false_and,jd,aV];exact ih
theorem Y8{ls:G bC}{zs:G bS}{ps:G eu}{cs:G bq}{ss:G dC}{tbs:G (D×bg)}{nm:R}{es:G dA}{t:D}{Pf:M->D}(hl:es.length<=1000)
  (hP:∀i (h:i<ls.length),j27 ((zs,(ps,(cs,ss))),tbs) ls[i] t=H (Pf i)) :
  j5C ((zs,(ps,(cs,ss))),tbs) (nm,(ls,es)) t=H (match dq (fv es t Pf) ls.length with|some i=>((i:D),Pf i)|none=>((-1:D),(-1:D))):=by
 have lp:=Y7 (nm:=nm) (b6:=0) (b7:=0) hl hP ls.length (jy _);simp only[j5C,j0R,ja];rw[show EK (F ls.length) ls zs ps cs ss tbs nm ls es t 0 0=_ from lp];cases dq (fv es t Pf) ls.length with
 |none=>rfl
 |some i=>rfl
section
variable{zs:G bS}{ps:G eu}{cs:G bq}{ss:G dC}
def fZ(es:G dA)(t:D)(Pf:M->D)(n:M):Int:=match dq (fv es t Pf) n with
 |some i=>Pf i
 |none=> -1
def uF(es:G dA)(t:D)(Pf:M->D)(n:M):Int:=match dq (fv es t Pf) n with
 |some i=>i
 |none=> -1
end
instance(L:bC):Decidable (Rt L):=
 decidable_of_iff (1<=L.2.2.1.1/\L.2.2.1.1<=100000/\0<=L.2.2.1.2/\L.2.2.1.2<=86399/\0<=L.2.2.2.1/\L.2.2.2.1<=2/\1<=L.2.2.2.2.1/\L.2.2.2.2.1<=400/\L.2.2.2.2.2.1≠[])
  ⟨λ⟨a,b,c,d,e,f,g,h,i⟩=>⟨a,b,c,d,e,f,g,h,i⟩,λ⟨a,b,c,d,e,f,g,h,i⟩=>⟨a,b,c,d,e,f,g,h,i⟩⟩
section
variable{z:bS}{l:bg}(h4:Z4 z l)
include h4
theorem Y9(L:bC):jbD z L=H (if Rt L then 0 else 8):=by
 have hc:j6F (z.1,(z.2.1,z.2.2))=H 0:=by simp only[j6F,show j0d (z.1,(z.2.1,z.2.2))=_ from h4.1,ja]
 simp only[jbD,hc,ja,jm,jd]
 have key:(cond (cond (cond (cond (cond (cond (cond (cond (E (L.2.2.1.1<1)) S (E (L.2.2.1.1>100000))) S (E (L.2.2.1.2<0))) S (E (L.2.2.1.2>=86400))) S (E (L.2.2.2.1<0))) S (E (L.2.2.2.1>2))) S (E (L.2.2.2.2.1<1))) S (E (L.2.2.2.2.1>400))) S (F L.2.2.2.2.2.1.length==0)) = !E (Rt L):=by
  have hlen:(F L.2.2.2.2.2.1.length==0)=E (L.2.2.2.2.2.1=[]):=by
   cases L.2.2.2.2.2.1 with
   |nil=>rfl
   |cons x r=>simp;omega
  rw[hlen];rw[Bool.eq_iff_iff];simp only[qi,ku];constructor
  .intro hh h;have a1:=h.d0;have a2:=h.d1;have a3:=h.c0;have a4:=h.c1;have a5:=h.u0;have a6:=h.u1;have a7:=h.e0;have a8:=h.e1;rw[ak (show¬L.2.2.1.1<1 by omega),ak (show¬L.2.2.1.1>100000 by omega),ak (show¬L.2.2.1.2<0 by omega),ak (show¬L.2.2.1.2>=86400 by omega),ak (show¬L.2.2.2.1<0 by omega),ak (show¬L.2.2.2.1>2 by omega),ak (show¬L.2.2.2.2.1<1 by omega),ak (show¬L.2.2.2.2.1>400 by omega),ak h.m0]at hh;simp at hh
  .intro hn;by_cases a1:L.2.2.1.1<1
   .rw[ah a1];rfl
   rw[ak a1];by_cases a2:L.2.2.1.1>100000
   .rw[ah a2];rfl
   rw[ak a2];by_cases a3:L.2.2.1.2<0
   .rw[ah a3];rfl
   rw[ak a3];by_cases a4:L.2.2.1.2>=86400
   .rw[ah a4];rfl
   rw[ak a4];by_cases a5:L.2.2.2.1<0
   .rw[ah a5];rfl
   rw[ak a5];by_cases a6:L.2.2.2.1>2
   .rw[ah a6];rfl
   rw[ak a6];by_cases a7:L.2.2.2.2.1<1
   .rw[ah a7];rfl
   rw[ak a7];by_cases a8:L.2.2.2.2.1>400
   .rw[ah a8];rfl
   rw[ak a8];by_cases a9:L.2.2.2.2.2.1=[]
   .rw[ah a9];rfl
   exact absurd ⟨aa,aa,aa,aa,aa,aa,aa,aa,a9⟩ hn
 rw[key];by_cases h:Rt L
 .rw[ah h,if_pos h];rfl
 .rw[ak h,if_neg h];rfl
end
theorem Za{z:bS}{l:bg}(hz:Z4 z l){L:bC}(h:Rt L){t N:D}(hN:N<=8589934592):∀n:M,(n:D)<=N->
  ∃K:D,zD t ((n:D)-1) z.1 z.2.1 z.2.2 L.1 L.2.1 L.2.2.1.1 L.2.2.1.2 L.2.2.2.1 L.2.2.2.2.1 L.2.2.2.2.2.1 L.2.2.2.2.2.2.1 L.2.2.2.2.2.2.2.1 L.2.2.2.2.2.2.2.2=H K/\
   (K = -1\/0<=K/\QO z.2.1 l L t K)/\K<n/\∀j:D,K<j->0<=j->j<n->¬QO z.2.1 l L t j
 |0,_=>by
  rw[Wj];simp only[j5i];rw[ak aa,jd,ba];exact⟨_,rfl,.inl aa,aa,λj h1 h2 h3=>aa⟩
 |n+1,hn=>by
  obtain⟨K,e,k0,k1,k2⟩:=Za hz h (t:=t) hN n aa;obtain⟨v,hH,hv⟩:=Fs hz h (k:=(n:D)) aa aa;rw[Wj,show ((n+1:M):D)-1=(n:D) by omega];simp only[j5i];rw[ah aa,jc,show j6H (z.1,(z.2.1,z.2.2)) (L.1,L.2.1,(L.2.2.1.1,L.2.2.1.2),L.2.2.2.1,L.2.2.2.2.1,L.2.2.2.2.2.1,L.2.2.2.2.2.2.1,L.2.2.2.2.2.2.2.1,L.2.2.2.2.2.2.2.2) (n:D)=_ from hH];simp only[ja];rw[ar (x:=(n:D)-1)]
  have down:¬QO z.2.1 l L t (n:D)->(lpK (H (Sum.inl (t,(n:D)-1,z.1,z.2.1,z.2.2,L.1,L.2.1,L.2.2.1.1,L.2.2.1.2,L.2.2.2.1,L.2.2.2.2.1,L.2.2.2.2.2.1,L.2.2.2.2.2.2.1,L.2.2.2.2.2.2.2.1,L.2.2.2.2.2.2.2.2)):Option ((D×D×R×D×G aH×R×D×D×D×D×D×G D×WL×D×D) ⊕ D)) (λh=>zD h.1 h.2.1 h.2.2.1 h.2.2.2.1 h.2.2.2.2.1 h.2.2.2.2.2.1 h.2.2.2.2.2.2.1 h.2.2.2.2.2.2.2.1 h.2.2.2.2.2.2.2.2.1 h.2.2.2.2.2.2.2.2.2.1 h.2.2.2.2.2.2.2.2.2.2.1 h.2.2.2.2.2.2.2.2.2.2.2.1 h.2.2.2.2.2.2.2.2.2.2.2.2.1 h.2.2.2.2.2.2.2.2.2.2.2.2.2.1 h.2.2.2.2.2.2.2.2.2.2.2.2.2.2))=H K/\∀j:D,K<j->0<=j->j<((n+1:M):D)->¬QO z.2.1 l L t j:=by
   intro hq;refine⟨by rw[aV];exact e,λj h1 h2 h3=>?_⟩;by_cases vM:j<n
   .exact k2 j h1 h2 vM
   .rw[show j=(n:D) by omega];exact hq
  cases hx:hO z.2.1 l L (n:D) with
  |none=>
   simp only[ve,jd];obtain⟨d1,d2⟩:=down λ⟨y,hy,_⟩=>by rw[hx]at hy;simp at hy
   exact⟨K,d1,k0,aa,d2⟩
  |some x=>
   have:=hv x hx;subst this;simp only[zm,jc];by_cases hc:v<=t
   .rw[ah hc,jc,ba];exact⟨_,rfl,.inr ⟨aa,v,hx,hc⟩,aa,λj h1 h2 h3=>aa⟩
   .rw[ak hc,jd];obtain⟨d1,d2⟩:=down λ⟨y,hy,Bv⟩=>by rw[hx]at hy;simp at hy;omega
    exact⟨K,d1,k0,aa,d2⟩
theorem Zb{z:bS}{l:bg}(hz:Z4 z l){L:bC}(h:Rt L){t:D}(Jw:0<=t)(rk:t<=8589934592):∃K:D,jbF z L t=H K/\kB z.2.1 l L t K:=by
 have hs:=h.step;have Ju:=h.d0;have pG:=h.d1;have sR:=h.e0;have xP:=h.e1;have gI:=h.c0;have eS:=h.c1;simp only[jbF];by_cases h0:L.2.2.2.1=0
 .have hF:=Qt hz (d:=L.2.2.1.1) (c:=L.2.2.1.2) aa gI eS;have iN:L.2.2.1.1*86400+L.2.2.1.2=dp L 0:=by unfold dp;omega
  rw[fh h0,jc,show j4L (z.1,(z.2.1,z.2.2)) (L.2.2.1.1,L.2.2.1.2)=_ from hF,iN];simp only[ja]
  have nq:(∀v,fO z.2.1 l (dp L 0)=H v->t<v)->¬QO z.2.1 l L t 0:=by
   rintro hn ⟨y,hy,Bv⟩
   have:=hn y (YK h0 hy);omega
  cases hf:fO z.2.1 l (dp L 0) with
  |none=>exact⟨-1,rfl,.inl ⟨rfl,nq λv hv=>by rw[hf]at hv;simp at hv⟩⟩
  |some v=>
   have Qu:=Cc hz.2 hf;simp only[ql,jc];by_cases hc:v<=t
   .obtain⟨s1,s2,s3⟩:=YJ (o:=z.2.1) (l:=l) h h0 rk hf hc Qu.2.1;rw[ah hc,jc,ar (x:=t-v),ar (x:=3600*L.2.2.2.2.1),cU (show¬3600*L.2.2.2.2.1=0 by omega),ze aa,ar (x:=(t-v)/(3600*L.2.2.2.2.1))];exact⟨_,rfl,s1⟩
   .rw[ak hc];exact⟨-1,rfl,.inl ⟨rfl,nq λv' hv=>by rw[hf]at hv;simp at hv;omega⟩⟩
 .obtain⟨j,hj,j1,j2⟩:=sT hz.2 Jw rk;have o0:=hz.2.of0 j hj;have o1:=hz.2.of1 j hj;have eT:=Yr hz (t:=t) Jw rk hj j1 j2;rw[cU h0,jd,show j3I (z.1,(z.2.1,z.2.2)) t=_ from eT];simp only[ja];have Fz:∀k:D,QO z.2.1 l L t k->L.2.2.1.1+k*dB L<=(t+bj z.2.1 l j)/86400+2:=λk hq=>QO.day hz.2 h h0 hq hj;generalize Gt:(t+bj z.2.1 l j)/86400=ld at Fz;rw[ar (x:=ld+2),ar (x:=ld+2-L.2.2.1.1)]
  have fin:∀st:D,st=dB L->∃K:D,((zD t (w64 (Int.tdiv (if (0:D)>ld+2-L.2.2.1.1 then (0:D) else ld+2-L.2.2.1.1) st)) z.1 z.2.1 z.2.2 L.1 L.2.1 L.2.2.1.1 L.2.2.1.2 L.2.2.2.1 L.2.2.2.2.1 L.2.2.2.2.2.1 L.2.2.2.2.2.2.1 L.2.2.2.2.2.2.2.1 L.2.2.2.2.2.2.2.2).bind λq0=>H q0)=H K/\kB z.2.1 l L t K:=by
   rintro st rfl
   obtain⟨m,hm,pj,gZ⟩:∃m:D,(if (0:D)>ld+2-L.2.2.1.1 then (0:D) else ld+2-L.2.2.1.1)=m/\0<=m/\m<=1000000:=⟨_,rfl,by split<;>omega,by split<;>omega⟩;have AX:ld+2-L.2.2.1.1<=m:=by rw[<-hm];split<;>omega
   rw[hm,ze pj];have q0:0<=m/dB L:=yx pj aa;have q1:m/dB L<=m:=yl _ pj;have q2:m<dB L*(m/dB L)+dB L:=Int.lt_mul_ediv_self_add aa;rw[ar];generalize m/dB L=km at *;obtain⟨K,e,k0,k1,k2⟩:=Za hz h (t:=t) (kx _) (km+1).toNat aa;rw[show (((km+1).toNat:M):D)-1=km by omega]at e;rw[e];refine⟨K,rfl,?_⟩
   have top:¬QO z.2.1 l L t (K+1):=by
    by_cases hK:K+1<=km
    .exact k2 (K+1) aa (by rcases k0 with k0|k0<;>omega) aa
    .intro hq;have hd:=Fz _ hq;have bO:K=km:=aa;rw[bO,Int.add_mul,Int.one_mul]at hd;have:dB L*km=km*dB L:=U _ _;omega
   rcases k0 with k0|k0
   .subst k0;exact .inl ⟨rfl,top⟩
   .exact .inr ⟨k0.1,k0.2,top⟩
  by_cases h2:L.2.2.2.1=2
  .have zY:dB L=7*L.2.2.2.2.1:=by unfold dB;rw[if_pos h2]
   rw[fh h2,jc,ar (x:=L.2.2.2.2.1*7),cU (show¬L.2.2.2.2.1*7=0 by omega)];simp only[jv,jc];exact fin _ (by rw[zY,U])
  .have zY:dB L=L.2.2.2.2.1:=by unfold dB;rw[if_neg h2]
   rw[cU h2,jd,cU (show¬L.2.2.2.2.1=0 by omega)];simp only[jv,jc];exact fin _ zY.symm
end Go.Proofs.Pw
