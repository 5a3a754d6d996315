/- span.Common and span.Without: meets and yF of sets. -/
import Derived.Test.YtgfoijaggkhgnaaGreatLXPF
import Derived.Test.YtgfoijaggkhgnaaGreatLXPE
import Derived.Test.YtgfoijaggkhgnaaGreatLXPA
import Derived.KernelRfl
import Derived.Test.YtgfoijaggkhgnaaGreatLXPD
import Derived.Test.YtgfoijaggkhgnaaGreatLXFns
import Derived.Test.YtgfoijaggkhgnaaGreatLXLD
open _root_ renaming Int->w,List->I,Nat->O,ByteArray->W
open Decidable renaming decide->D
open ByteArray renaming empty->E,mk->M
open List renaming getD->F,length->J,singleton_append->R
open Int renaming ofNat->G,mul_comm->U,tmod->X
open Option renaming some->H
open Bool renaming true->S
open Go Go.Lft
namespace Go.Proofs.Pw
theorem ca.weak{p q:w}(hq:q<=p):∀{l:SL},ca p l->ca q l
 |[],_=>trivial
 |_::_,h=>⟨by have:=h.1;omega,h.2⟩
theorem ca.low{p x:w}:∀{l:SL},ca p l->bJ x l->p<x
 |[],_,h=>absurd h fP
 |s::r,h,hx=>by
  rcases dI.1 hx with hx|hx
  .have:=h.1;omega
  .have:=ca.low h.2.2 hx;have:=h.1;have:=h.2.1;omega
theorem ca.mem{p:w}:∀{l:SL},ca p l->∀s∈l,p<s.1/\s.1<s.2
 |[],_,s,hs=>by simp at hs
 |u::r,h,s,hs=>by
  rcases je.1 hs with rfl|hs
  .exact⟨h.1,h.2.1⟩
  .have:=ca.mem h.2.2 s hs;have:=h.1;have:=h.2.1;omega
def om:O->SL->SL->SL
 |n+1,s::a,u::b=>(if (if u.1>s.1 then u.1 else s.1)<(if u.2<s.2 then u.2 else s.2) then [((if u.1>s.1 then u.1 else s.1),(if u.2<s.2 then u.2 else s.2))] else [])++
  (if s.2<u.2 then om n a (u::b) else om n (s::a) b)
 |_,_,_=>[]
theorem TF:∀(n:O)(a b:SL)(p q:w),a.length+b.length<=n->ca p a->ca q b->(∀x,bJ x (om n a b)↔bJ x a/\bJ x b)/\ca p (om n a b)/\ca q (om n a b)/\(om n a b).length<=a.length+b.length
 |0,a,b,p,q,hn,_,_=>by
  obtain rfl:a=[]:=qg.1 aa;exact⟨λx=>⟨λh=>absurd h fP,λh=>absurd h.1 fP⟩,trivial,trivial,by simp[om]⟩
 |n+1,[],b,p,q,_,_,_=>⟨λx=>⟨λh=>absurd h fP,λh=>absurd h.1 fP⟩,trivial,trivial,by simp[om]⟩
 |n+1,_::_,[],p,q,_,_,_=>⟨λx=>⟨λh=>absurd h fP,λh=>absurd h.2 fP⟩,trivial,trivial,by simp[om]⟩
 |n+1,s::a,u::b,p,q,hn,ha,hb=>by
  obtain⟨a1,a2,a3⟩:=ha;obtain⟨b1,b2,b3⟩:=hb;simp only[jk]at hn ⊢
  have hx:∃f t:w,f=(if u.1>s.1 then u.1 else s.1)/\t=(if u.2<s.2 then u.2 else s.2)/\(∀x,(f<=x/\x<t)↔(s.1<=x/\x<s.2)/\(u.1<=x/\x<u.2))/\p<f/\q<f/\t<=s.2/\t<=u.2:=by
   refine⟨_,_,rfl,rfl,λx=>?_,?_,?_,?_,?_⟩
   .constructor
    .intro h;split at h<;>split at h<;>omega
    .intro h;split<;>split<;>omega
   .split<;>omega
   .split<;>omega
   .split<;>omega
   .split<;>omega
  obtain⟨f,t,ef,et,hi,f1,f2,t1,t2⟩:=hx;simp only[om,<-ef,<-et]
  have key:∀(a' b':SL)(r:SL),(∀x,bJ x r↔bJ x a'/\bJ x b')->ca t r->ca p r->ca q r->r.length<=a'.length+b'.length->a'.length+b'.length+1=a.length+1+(b.length+1)->
    (∀x,bJ x (s::a)/\bJ x (u::b)↔(f<=x/\x<t)\/(bJ x a'/\bJ x b'))->
    (∀x,bJ x ((if f<t then [(f,t)] else [])++r)↔bJ x (s::a)/\bJ x (u::b))/\ca p ((if f<t then [(f,t)] else [])++r)/\ca q ((if f<t then [(f,t)] else [])++r)/\((if f<t then [(f,t)] else [])++r).length<=a.length+1+(b.length+1):=by
   intro a' b' r zI Lu TG Lv hl rK tS;by_cases jV:f<t
   .rw[if_pos jV];refine⟨λx=>?_,⟨f1,jV,Lu⟩,⟨f2,jV,Lu⟩,ax⟩;rw[tS,yD,zI x,dI];constructor
    .rintro ((h|h)|h)
     .exact .inl h
     .exact absurd h fP
     .exact .inr h
    .rintro (h|h)
     .exact .inl (.inl h)
     .exact .inr h
   .rw[if_neg jV,jw];refine⟨λx=>?_,TG,Lv,aa⟩;rw[tS,zI x];constructor
    .exact .inr
    .rintro (h|h)
     .omega
     .exact h
  by_cases hc:s.2<u.2
  .rw[if_pos hc];obtain⟨i1,i2,i3,i4⟩:=TF n a (u::b) s.2 q ax a3 ⟨b1,b2,b3⟩;refine key a (u::b) _ i1 (i2.weak t1) (i2.weak aa) i3 i4 ax (λx=>?_);rw[dI,hi x];constructor
   .rintro⟨h|h,h'⟩
    .rcases dI.1 h' with h'|h'
     .exact .inl ⟨h,h'⟩
     .have:=ca.low b3 h';omega
    .exact .inr ⟨h,h'⟩
   .rintro (h|h)
    .exact⟨.inl h.1,dI.2 (.inl h.2)⟩
    .exact⟨.inr h.1,h.2⟩
  .rw[if_neg hc];obtain⟨i1,i2,i3,i4⟩:=TF n (s::a) b p u.2 ax ⟨a1,a2,a3⟩ b3;refine key (s::a) b _ i1 (i3.weak t2) i2 (i3.weak aa) i4 ax (λx=>?_);rw[dI (s:=u),hi x];constructor
   .rintro⟨h',h|h⟩
    .rcases dI.1 h' with h'|h'
     .exact .inl ⟨h',h⟩
     .have:=ca.low a3 h';omega
    .exact .inr ⟨h',h⟩
   .rintro (h|h)
    .exact⟨dI.2 (.inl h.1),.inl h.2⟩
    .exact⟨h.1,.inr h.2⟩
theorem TH{A B:SL}(hA:A.length<=10000000)(hB:B.length<=10000000):∀(n i k:O)(acc:SL),i<=A.length->k<=B.length->(A.length-i)+(B.length-k)=n->acc.length+n<=30000000->
  AO A B (i:w) (k:w) acc=H (acc++om n (A.drop i) (B.drop k))
 |n,i,k,acc,hi,hk,hn,eM=>by
  rw[jlU];simp only[j6p,show G (J A)=(A.length:w) from rfl,show G (J B)=(B.length:w) from rfl];by_cases fg:i<A.length/\k<B.length
  .obtain⟨br,bQ⟩:=fg;obtain⟨n,rfl⟩:∃m,n=m+1:=⟨n-1,aa⟩;have gA:A.getD i ((0:w),(0:w))=A[i]:=by simp[F,br]
   have gB:B.getD k ((0:w),(0:w))=B[k]:=by simp[F,bQ]
   rw[ah (show (i:w)<(A.length:w) by omega),ah (show (k:w)<(B.length:w) by omega),bY (show (0:w)<=(i:w) by omega) aa,bY (show (0:w)<=(k:w) by omega) aa];simp only[j6,j8,gA,gB];rw[al (x:=(i:w)+1),al (x:=(k:w)+1)];rw[jb br,jb bQ];simp only[om];generalize (if B[k].1>A[i].1 then B[k].1 else A[i].1:w)=f;generalize (if B[k].2<A[i].2 then B[k].2 else A[i].2:w)=t
   have HO:∀bI:SL,bI.length<=acc.length+1->AO A B ((i:w)+1) (k:w) bI=H (bI++om n (A.drop (i+1)) (B[k]::B.drop (k+1))):=λbI rI=>by
    have:=TH hA hB n (i+1) k bI aa aa aa aa;rw[<-jb bQ];exact this
   have Bv:∀bI:SL,bI.length<=acc.length+1->AO A B (i:w) ((k:w)+1) bI=H (bI++om n (A[i]::A.drop (i+1)) (B.drop (k+1))):=λbI rI=>by
    have:=TH hA hB n i (k+1) bI aa aa aa aa;rw[<-jb br];exact this
   by_cases jV:f<t
   .rw[ah jV,if_pos jV,ah (by simp[aM];omega)];simp only[j6];by_cases hc:A[i].2<B[k].2
    .rw[ah hc,if_pos hc];simp only[j6,aH];rw[HO _ ae,jj]
    .rw[aj hc,if_neg hc];simp only[j7,aH];rw[Bv _ ae,jj]
   .rw[aj jV,if_neg jV];simp only[j7];by_cases hc:A[i].2<B[k].2
    .rw[ah hc,if_pos hc];simp only[j6,aH];rw[HO _ aa,jw]
    .rw[aj hc,if_neg hc];simp only[j7,aH];rw[Bv _ aa,jw]
  .have hc:cond (D ((i:w)<(A.length:w))) (D ((k:w)<(B.length:w))) false=false:=by
    by_cases h1:i<A.length
    .rw[ah aa,j6];exact aj aa
    .rw[aj aa,j7]
   rw[hc,j7,aS]
   have:om n (A.drop i) (B.drop k)=[]:=by
    by_cases h1:i<A.length
    .rw[yz (show B.length<=k by omega)];cases n<;>cases A.drop i<;>rfl
    .rw[yz (show A.length<=i by omega)];cases n<;>rfl
   rw[this,ql]
theorem ξ{A B:SL}{p q:w}(ha:ca p A)(hb:ca q B)(hA:A.length<=10000000)(hB:B.length<=10000000) :
  ∃out,j9f A B=H out/\ca p out/\(∀x,bJ x out↔bJ x A/\bJ x B)/\out.length<=A.length+B.length:=by
 have lp:=TH hA hB (A.length+B.length) 0 0 [] aa aa aa ax;obtain⟨h1,h2,h3,h4⟩:=TF (A.length+B.length) A B p q (jv _) ha hb;refine⟨om (A.length+B.length) A B,?_,h2,h1,h4⟩;simp only[j9f,show AO A B 0 0 []=_ from lp,j4,jw,jm]
def pr(e:w):w->SL->SL×w
 |t,[]=>([],t)
 |t,u::b=>if u.1<e then ((if t<u.1 then [(t,u.1)] else [])++(pr e (if u.2>t then u.2 else t) b).1,(pr e (if u.2>t then u.2 else t) b).2) else ([],t)
def mU(e t:w)(b:SL):SL:=(pr e t b).1++(if (pr e t b).2<e then [((pr e t b).2,e)] else [])
theorem jFG{e t:w}{u:w×w}{b:SL}(h:u.1<e):mU e t (u::b)=(if t<u.1 then [(t,u.1)] else [])++mU e (if u.2>t then u.2 else t) b:=by
 simp only[mU,pr,if_pos h,jj]
theorem ο{e:w}:∀(b:SL)(t q:w),ca q b->(∀x,bJ x (mU e t b)↔(t<=x/\x<e)/\¬bJ x b)/\ca (t-1) (mU e t b)/\(∀s∈mU e t b,s.2<=e)/\(mU e t b).length<=b.countP (λu=>D (t<u.1)&&D (u.1<e))+1
 |[],t,q,_=>by
  rw[show mU e t []=(if t<e then [(t,e)] else []) from rfl];by_cases h:t<e
  .rw[if_pos h];exact⟨λx=>⟨λhx=>⟨by rcases dI.1 hx with hx|hx;exact hx;exact absurd hx fP,fP⟩,λhx=>dI.2 (.inl hx.1)⟩,⟨by dsimp only;omega,h,trivial⟩,ae,ae⟩
  .rw[if_neg h];exact⟨λx=>⟨λhx=>absurd hx fP,λhx=>aa⟩,trivial,ae,ae⟩
 |u::b,t,q,hb=>by
  obtain⟨b1,b2,b3⟩:=hb;by_cases hu:u.1<e
  .rw[jFG hu];have hm:∃t',t'=(if u.2>t then u.2 else t)/\t<=t'/\u.2<=t'/\(t'=t\/t'=u.2):=⟨_,rfl,by split<;>omega,by split<;>omega,by split<;>omega⟩;obtain⟨t',e',h1,h2,h3⟩:=hm;rw[<-e'];obtain⟨i1,i2,i3,i4⟩:=ο b t' u.2 b3;have fB:∀x,bJ x b->u.2<x:=λx=>ca.low b3
   have hcp:b.countP (λu=>D (t'<u.1)&&D (u.1<e))<=b.countP (λu=>D (t<u.1)&&D (u.1<e)):=List.countP_mono_left λv _ h=>by
    simp only[jd,jo]at h ⊢;omega
   by_cases Bw:t<u.1
   .rw[if_pos Bw]
    refine⟨λx=>?_,⟨by dsimp only;omega,Bw,i2.weak aa⟩,λs hs=>?_,by
     rw[List.countP_cons_of_pos (by simp[Bw,hu]),R,jk];omega⟩
    .rw[R,dI,i1 x,dI];constructor
     .rintro (h|h)
      .exact⟨aa,λh'=>by
        rcases h' with h'|h'
        .omega
        .have:=fB x h';omega⟩
      .exact⟨aa,λh'=>by
        rcases h' with h'|h'
        .omega
        .exact h.2 h'⟩
     .rintro⟨h,h'⟩
      by_cases hx:x<u.1
      .exact .inl ⟨h.1,hx⟩
      .by_cases ob:x<u.2
       .exact absurd (.inl ⟨aa,ob⟩) h'
       .exact .inr ⟨aa,λh2=>h' (.inr h2)⟩
    .rcases je.1 hs with rfl|hs
     .dsimp only;omega
     .exact i3 s hs
   .rw[if_neg Bw,jw]
    refine⟨λx=>?_,i2.weak aa,i3,by
     rw[List.countP_cons_of_neg (by simp[Bw])];omega⟩
    rw[i1 x,dI];constructor
    .rintro h
     exact⟨aa,λh'=>by
      rcases h' with h'|h'
      .omega
      .exact h.2 h'⟩
    .rintro⟨h,h'⟩
     by_cases ob:x<u.2
     .exact absurd (.inl ⟨aa,ob⟩) h'
     .exact⟨aa,λh2=>h' (.inr h2)⟩
  .have:mU e t (u::b)=if t<e then [(t,e)] else []:=by simp only[mU,pr,if_neg hu,jw]
   rw[this]
   have du:∀x,x<e->¬bJ x (u::b):=λx hx h=>by
    rcases dI.1 h with h|h
    .omega
    .have:=ca.low b3 h;omega
   by_cases h:t<e
   .rw[if_pos h]
    exact⟨λx=>⟨λhx=>by
     rcases dI.1 hx with hx|hx
     .exact⟨hx,du x hx.2⟩
     .exact absurd hx fP,λhx=>dI.2 (.inl hx.1)⟩,⟨by dsimp only;omega,h,trivial⟩,ae,ae⟩
   .rw[if_neg h];exact⟨λx=>⟨λhx=>absurd hx fP,λhx=>aa⟩,trivial,ae,ae⟩
def pA(l:SL)(u:w×w):Bool:=l.any λs=>D (s.1<u.1)&&D (u.1<s.2)
theorem π{p q:w×w->Bool}(h:∀u,p u=S->q u=S->False):∀l:SL,l.countP p+l.countP q<=l.countP (λu=>p u||q u)
 |[]=>ae
 |u::l=>by
  have ih:=π h l;have hu:=h u;simp only[List.countP_cons];cases hp:p u<;>cases hq:q u<;>simp_all<;>omega
theorem ς{q:w}:∀{b:SL}(k:O),ca q b->∃q',ca q' (b.drop k)
 |_,0,h=>⟨q,h⟩
 |[],_+1,_=>⟨q,trivial⟩
 |_::_,k+1,h=>ς k h.2.2
section
variable{B:SL}(hB:B.length<=10000000)
include hB
theorem υ{A:SL}{n m s e:w}{acc:SL}:∀(d k:O),k+d=B.length->∃k':O,k<=k'/\k'<=B.length/\(∀j (h:j<B.length),k<=j->j<k'->B[j].2<=s)/\
  Kd B (k:w) A n m s e acc=H (B,(k':w),A,n,m,s,e,acc)
 |0,k,hk=>by
  rw[Zc];simp only[j42,show G (J B)=(B.length:w) from rfl];rw[aj aa,j7,aS];exact⟨k,aa,aa,λj h h1 h2=>aa,rfl⟩
 |d+1,k,hk=>by
  have bQ:k<B.length:=aa;have gB:B.getD k ((0:w),(0:w))=B[k]:=by simp[F,bQ]
  rw[Zc];simp only[j42,show G (J B)=(B.length:w) from rfl];rw[ah aa,bD];simp only[j6,j8,gB];by_cases hc:B[k].2<=s
  .rw[ah hc,j6,aH,al (x:=(k:w)+1)];obtain⟨k',h1,h2,h3,h4⟩:=υ d (k+1) aa;refine⟨k',aa,h2,λj h ha hb=>?_,h4⟩;by_cases sU:j=k
   .subst sU;exact hc
   .exact h3 j h aa hb
  .rw[aj hc,j7,aS];exact⟨k,aa,aa,λj h h1 h2=>aa,rfl⟩
theorem φ{A:SL}{k n m s e:w}:∀(d i:O)(t:w)(acc:SL),i+d=B.length->acc.length+d<=4000000000->
  F4 B k t (i:w) A n m s e acc=H (B,k,(pr e t (B.drop i)).2,A,n,m,s,e,acc++(pr e t (B.drop i)).1)
 |0,i,t,acc,hi,eM=>by
  rw[Zd];simp only[j43,show G (J B)=(B.length:w) from rfl];rw[aj aa,j7,aS,jc aa];simp[pr]
 |d+1,i,t,acc,hi,eM=>by
  have br:i<B.length:=aa;have gB:B.getD i ((0:w),(0:w))=B[i]:=by simp[F,br]
  rw[Zd];simp only[j43,show G (J B)=(B.length:w) from rfl];rw[ah aa,bD];simp only[j6,j8,gB];rw[jb br,al (x:=(i:w)+1)];by_cases hc:B[i].1<e
  .rw[ah hc];simp only[j6,pr,if_pos hc];have ih:∀bI:SL,bI.length<=acc.length+1->F4 B k (if B[i].2>t then B[i].2 else t) ((i:w)+1) A n m s e bI=_:=λbI h'=>φ d (i+1) (if B[i].2>t then B[i].2 else t) bI aa aa;by_cases ht:t<B[i].1
   .rw[ah ht,if_pos ht,ah (by simp[aM];omega)];simp only[j6,aH];rw[ih _ ae,jj]
   .rw[aj ht,if_neg ht];simp only[j7,aH];rw[ih _ aa,jw]
  .rw[aj hc];simp only[j7,aS,pr,if_neg hc,ql]
theorem χ{A:SL}(hA:A.length<=10000000){q:w}(hb:ca q B):∀(d j k:O)(p:w)(acc:SL),j+d=A.length->k<=B.length->ca p (A.drop j)->(∀i (h:i<B.length),i<k->∀x,bJ x (A.drop j)->B[i].2<=x)->acc.length+d+B.countP (pA (A.drop j))<=30000000->
  ∃out,CV B (k:w) A (A.length:w) (j:w) acc=H (acc++out)/\ca p out/\(∀x,bJ x out↔bJ x (A.drop j)/\¬bJ x B)/\out.length<=d+B.countP (pA (A.drop j))
 |0,j,k,p,acc,hj,hk,_,_,eM=>by
  rw[Ze];simp only[j44];rw[aj aa,j7,aS,jc aa];exact⟨[],ae,trivial,λx=>⟨λh=>absurd h fP,λh=>absurd h.1 fP⟩,ae⟩
 |d+1,j,k,p,acc,hj,hk,ha,CG,eM=>by
  have iX:j<A.length:=aa;have gA:A.getD j ((0:w),(0:w))=A[j]:=by simp[F,iX]
  rw[jb iX]at ha CG eM ⊢;obtain⟨a1,a2,a3⟩:=ha;obtain⟨k',h1,h2,h3,h4⟩:=υ hB (A:=A) (n:=(A.length:w)) (m:=(j:w)) (s:=A[j].1) (e:=A[j].2) (acc:=acc) (B.length-k) k aa;have aW:∃q',ca q' (B.drop k'):=ς k' hb;obtain⟨q',aW⟩:=aW
  have yG:∀x,A[j].1<=x->(bJ x B↔bJ x (B.drop k')):=by
   intro x hx;constructor
   .rintro⟨u,hu,u1,u2⟩
    obtain⟨i,hi,rfl⟩:=List.mem_iff_getElem.1 hu;by_cases nj:i<k'
    .by_cases Bz:i<k
     .have:=CG i hi Bz A[j].1 (dI.2 (.inl ⟨k7 _,a2⟩));omega
     .have:=h3 i hi aa nj;omega
    .exact⟨B[i],List.mem_drop_iff_getElem.2 ⟨i-k',aa,by simp[show k'+(i-k')=i by omega]⟩,u1,u2⟩
   .rintro⟨u,hu,u1,u2⟩
    exact⟨u,z6 hu,u1,u2⟩
  have w4:=φ hB (A:=A) (k:=(k':w)) (n:=(A.length:w)) (m:=(j:w)) (s:=A[j].1) (e:=A[j].2) (B.length-k') k' A[j].1 acc aa aa;obtain⟨s1,s2,s3,s4⟩:=ο (e:=A[j].2) (B.drop k') A[j].1 q' aW;have iG:(pr A[j].2 A[j].1 (B.drop k')).1.length<=(mU A[j].2 A[j].1 (B.drop k')).length:=by simp[mU]
  have EF:(mU A[j].2 A[j].1 (B.drop k')).length+B.countP (pA (A.drop (j+1)))<=B.countP (pA (A[j]::A.drop (j+1)))+1:=by
   have h5:(B.drop k').countP (λu=>D (A[j].1<u.1)&&D (u.1<A[j].2))<=B.countP (λu=>D (A[j].1<u.1)&&D (u.1<A[j].2)):=(List.drop_sublist k' B).countP_le
   have h6:=π (p:=λu=>D (A[j].1<u.1)&&D (u.1<A[j].2)) (q:=pA (A.drop (j+1))) (λu hp hq=>by
    obtain⟨s,hs,dt⟩:=zj.1 hq;have:=ca.mem a3 s hs;simp only[jd,jo]at hp dt;omega) B
   have h7:B.countP (λu=>(D (A[j].1<u.1)&&D (u.1<A[j].2))||pA (A.drop (j+1)) u)=B.countP (pA (A[j]::A.drop (j+1))):=rfl;omega
  have step:∀bI:SL,bI=acc++mU A[j].2 A[j].1 (B.drop k')->∃out,CV B (k':w) A (A.length:w) ((j:w)+1) bI=H (acc++out)/\ca p out/\(∀x,bJ x out↔bJ x (A[j]::A.drop (j+1))/\¬bJ x B)/\out.length<=d+1+B.countP (pA (A[j]::A.drop (j+1))):=by
   rintro _ rfl
   obtain⟨out,e,o1,o2,o3⟩:=χ hA hb d (j+1) k' A[j].2 (acc++mU A[j].2 A[j].1 (B.drop k')) aa h2 a3 (λi hi nj x hx=>by
    have hlow:=ca.low a3 hx;by_cases Bz:i<k
    .exact CG i hi Bz x (dI.2 (.inr hx))
    .have:=h3 i hi aa nj;omega) (by rw[jf];omega)
   refine⟨mU A[j].2 A[j].1 (B.drop k')++out,by rw[<-jj];exact e,?_,λx=>?_,by rw[jf];omega⟩
   .have glue:∀(l:SL)(r:w),ca r l->r<A[j].2->(∀s∈l,s.2<=A[j].2)->ca r (l++out):=by
     intro l;induction l with
     |nil=>intro r _ hr _;exact o1.weak aa
     |cons s l ih=>intro r h hr hl;exact⟨h.1,h.2.1,by
      have:=hl s ae;by_cases hs:s.2<A[j].2
      .exact ih s.2 h.2.2 hs (λu hu=>hl u (by simp[hu]))
      .have he:s.2=A[j].2:=aa;match l,h.2.2 with
       |[],_=>exact o1.weak aa
       |u::l',h'=>have:=hl u ae;have:=h'.1;have:=h'.2.1;omega⟩
    exact glue _ _ (s2.weak aa) aa s3
   .rw[yD,s1 x,o2 x,dI];constructor
    .rintro (h|h)
     .exact⟨.inl h.1,λhx=>h.2 ((yG x h.1.1).1 hx)⟩
     .exact⟨.inr h.1,h.2⟩
    .rintro⟨h|h,h'⟩
     .exact .inl ⟨h,λhx=>h' ((yG x h.1).2 hx)⟩
     .exact .inr ⟨h,h'⟩
  rw[Ze];simp only[j44];rw[ah (show (j:w)<(A.length:w) by omega),bD];simp only[j6,j8,gA,h4,j4,w4];rw[al (x:=(j:w)+1)];have hlen:(acc++(pr A[j].2 A[j].1 (B.drop k')).1).length<=2000000000:=by rw[jf];omega
  by_cases ht:(pr A[j].2 A[j].1 (B.drop k')).2<A[j].2
  .rw[ah ht];simp only[j6];rw[ah (by simp only[aM,kf];omega)];simp only[j6,aH];exact step _ (by simp only[mU,if_pos ht,jj])
  .rw[aj ht];simp only[j7,aH];exact step _ (by simp only[mU,if_neg ht,ql])
theorem TI{A:SL}{p q:w}(ha:ca p A)(hb:ca q B)(hA:A.length<=10000000) :
  ∃out,j2Q A B=H out/\ca p out/\(∀x,bJ x out↔bJ x A/\¬bJ x B)/\out.length<=A.length+B.length:=by
 have hc:=List.countP_le_length (p:=pA (A.drop 0)) (l:=B);obtain⟨out,e,h1,h2,h3⟩:=χ hB hA hb A.length 0 0 p [] aa aa ha (λi h hi=>aa) (by simp only[kx];omega);refine⟨out,?_,h1,h2,aa⟩;simp only[j2Q,show G (J A)=(A.length:w) from rfl,show CV B 0 A (A.length:w) 0 []=_ from e,j4,jw]
end
set_option linter.unusedSectionVars false
section
variable{l:SL}{p:w}(h:ca p l)(hp : -1<=p)(hl:l.length<=4096)(hb:∀u∈l,u.2<=8589934592)
include h hp hl hb
end
theorem Lw:j5o 2241=H 98981:=by kernel_rfl
theorem Lx:j5o 1970=H 0:=by kernel_rfl
theorem ψ{d:w}(h:j0W d=H S):d<=100000:=by
 apply jt;intro hd;simp only[j0W,j9x,Lx,Lw,j4]at h;rw[aj (show¬d<0 by omega),ah (show d>=98981 by omega)]at h;simp at h
theorem fh.rt2{nz np nc:O}{L:bZ}(h:fh nz np nc L):Rt L:=h.rt (ψ h.day)
section
variable{zs:I bF}{ps:I cR}{cs:I aV}(hs:db zs ps cs)
include hs
theorem pt{i:w}(h0:0<=i)(h1:i<(cs.length:w)):ra zs.length (cs.getD i.toNat (E,((0:w),([]:I w)))):=by
 have hi:i.toNat<cs.length:=aa;rw[show cs.getD i.toNat (E,((0:w),([]:I w)))=cs[i.toNat] by simp[F,hi]];exact hs.c.ck _ (jg hi)
end
def jJ(es:I dV)(p t:w):Bool:=es.any λx=>x.1==0&&(x.2.1==p&&(D (x.2.2.2.1<=t)&&D (t<x.2.2.2.2)))
def ei(good:O->Bool):O->Option O
 |0=>none
 |n+1=>cond (good n) (H n) (ei good n)
def gE(es:I dV)(t:w)(Pf:O->w)(i:O):Bool:=D (0<=Pf i) && !jJ es (Pf i) t
section
variable{zs:I bF}{ps:I cR}{cs:I aV}{ss:I cW}
theorem ω(hz:∀z∈zs,gx z)(hc:oe (zs,(ps,(cs,ss)))):jo9 (zs,(ps,(cs,ss)))=H (((zs,(ps,(cs,ss))),zs.map tb),S):=by
 have lE:zs.length<=16:=hc.zl;simp only[jo9,show j9S (zs,(ps,(cs,ss)))=_ from jvT hc,j4,jh,j7,jFB (ps:=ps) (cs:=cs) (ss:=ss) hz (show zs.length<=100 by omega)]
def eB(es:I dV)(t:w)(Pf:O->w)(n:O):Int:=match ei (gE es t Pf) n with
 |some i=>Pf i
 |none=> -1
end
def kZ:I ByteArray:=[(M #[102,105,114,115,116]),(M #[115,101,99,111,110,100]),(M #[116,104,105,114,100])]
theorem jFH:fJ kZ:=by
 refine⟨by decide,λk hk=>?_⟩;simp only[kZ,je,vk,or_false]at hk;rcases hk with rfl|rfl|rfl<;>kernel_rfl
structure SG(nz np nc:O)(s:cW):Prop where
 ck:uK nz np nc s
 nm:s.2.1.map (·.1)=gP.take s.2.1.length
 ll:s.2.1.length<=3
 el:s.2.2.length<=3
theorem ϊ{L:I w}{zs:I bF}{ps:I cR}{cs:I aV}(hs:Hx zs ps cs):∀(n:O)(a:w)(ss:I cW),c9 L a->ss.length+n<=3->ss.map (·.1)=kZ.take ss.length->(∀s∈ss,SG zs.length ps.length cs.length s)->
  ∃BA a',JQ (n:w) L a zs ps cs ss=H (L,a',zs,ps,cs,BA)/\BA.length=ss.length+n/\BA.map (·.1)=kZ.take BA.length/\(∀s∈BA,SG zs.length ps.length cs.length s)/\c9 L a'
 |0,a,ss,hd,hl,hn,hg=>by
  rw[YD];simp only[j2e];rw[aj aa,j7,aS];exact⟨ss,a,rfl,rfl,hn,hg,hd⟩
 |n+1,a,ss,hd,hl,hn,hg=>by
  have an:ss.length<kZ.length:=by show ss.length<3;omega
  have TJ:X (G ss.length) 3=(ss.length:w):=by have:X (ss.length:w) 3=(ss.length:w):=Int.tmod_eq_of_lt aa aa;exact this
  obtain⟨k,a3,e3,k0,k1,d3⟩:=dh (n:=4) hd aa aa;obtain⟨ls,a4,e4,l4,lk,ln,d4⟩:=Q_ (s6:=((n+1:O):w)) (nm:=F kZ ss.length E) (ss:=ss) hs k.toNat a3 [] d3 ax ae rfl;obtain⟨m,a5,e5,m0,m1,d5⟩:=dh (n:=4) d4 aa aa;obtain⟨es,a6,e6,l6,ek,d6⟩:=R_ (s6:=((n+1:O):w)) (nm:=F kZ ss.length E) (zs:=zs) (cs:=cs) (ss:=ss) (ls:=ls) hs m.toNat a5 [] d5 ax ae;rw[show ((k.toNat:O):w)=k by omega]at e4;rw[show ((m.toNat:O):w)=m by omega]at e6
  have eU:SG zs.length ps.length cs.length (F kZ ss.length E,(ls,es)):=
   ⟨⟨by dsimp only;rw[ln];exact M_.take _,lk,by dsimp only;omega,ek,by dsimp only;omega⟩,ln,l4,l6⟩
  obtain⟨BA,a',e',h1,h2,h3,h4⟩:=ϊ hs n a6 (ss++[(F kZ ss.length E,(ls,es))]) d6 ax (by
   rw[qc,hn,jf];exact Ln an) (λs h=>by
   rcases jn.1 h with h|h
   .exact hg s h
   .simp at h;subst h;exact eU)
  rw[YD];simp only[j2e];rw[ah (show ((n+1:O):w)>0 by omega),TJ,bY aa (by show (ss.length:w)<(3:O);omega)];simp only[j6,j8,e3,j4];rw[show FF ((n+1:O):w) k L a3 zs ps cs (F [(M #[102,105,114,115,116]),(M #[115,101,99,111,110,100]),(M #[116,104,105,114,100])] ss.length E) ss []=_ from e4];simp only[j4,e5,e6];rw[ah (by simp[aM];omega),al,show ((n+1:O):w)-1=(n:w) by omega];simp only[j6,aH];exact⟨BA,a',e',by rw[h1];simp;omega,h2,h3,h4⟩
theorem jyF{L:I w}{a n:w}(h:c9 L a)(n0:1<=n)(n1:n<=3):∃zs ps cs ss a',j92 L a n=H ((zs,(ps,(cs,ss))),L,a')/\db zs ps cs/\1<=ss.length/\(ss.length:w)<=n/\ss.map (·.1)=kZ.take ss.length/\(∀s∈ss,SG zs.length ps.length cs.length s)/\c9 L a':=by
 obtain⟨zs,ps,cs,a1,e1,hs,d1⟩:=jAN h;obtain⟨x,a2,e2,x0,x1,d2⟩:=dh (n:=n) d1 aa aa;obtain⟨ss,a3,e3,h1,h2,h3,d3⟩:=ϊ hs.so (1+x).toNat a2 [] d2 ax ae ae;rw[show (((1+x).toNat:O):w)=1+x by omega]at e3;simp at h1;simp only[j92,e1,e2,j4];rw[al (x:=1+x)];simp only[e3,j4];exact⟨zs,ps,cs,ss,a3,rfl,hs,aa,aa,h2,h3,d3⟩
theorem jFI{zs:I bF}{ps:I cR}{cs:I aV}{ss:I cW}(hs:db zs ps cs)(h0:ss.length<=12)(h1:fJ (ss.map (·.1)))(h2:∀s∈ss,uK zs.length ps.length cs.length s):oe (zs,(ps,(cs,ss))):=jGQ hs h0 h1 h2
instance(L:bZ):Decidable (Rt L):=
 decidable_of_iff (1<=L.2.2.1.1/\L.2.2.1.1<=100000/\0<=L.2.2.1.2/\L.2.2.1.2<=86399/\0<=L.2.2.2.1/\L.2.2.2.1<=2/\1<=L.2.2.2.2.1/\L.2.2.2.2.1<=400/\L.2.2.2.2.2.1≠[])
  ⟨λ⟨a,b,c,d,e,f,g,h,i⟩=>⟨a,b,c,d,e,f,g,h,i⟩,λ⟨a,b,c,d,e,f,g,h,i⟩=>⟨a,b,c,d,e,f,g,h,i⟩⟩
section
variable{z:bF}{l:bC}(h4:Z4 z l)
include h4
theorem ϋ(L:bZ):jdo z L=H (if Rt L then 0 else 8):=by
 have hc:j7J (z.1,(z.2.1,z.2.2))=H 0:=by simp only[j7J,show j0j (z.1,(z.2.1,z.2.2))=_ from h4.1,j4]
 simp only[jdo,hc,j4,jh,j7]
 have key:(cond (cond (cond (cond (cond (cond (cond (cond (D (L.2.2.1.1<1)) S (D (L.2.2.1.1>100000))) S (D (L.2.2.1.2<0))) S (D (L.2.2.1.2>=86400))) S (D (L.2.2.2.1<0))) S (D (L.2.2.2.1>2))) S (D (L.2.2.2.2.1<1))) S (D (L.2.2.2.2.1>400))) S (G L.2.2.2.2.2.1.length==0)) = !D (Rt L):=by
  have hlen:(G L.2.2.2.2.2.1.length==0)=D (L.2.2.2.2.2.1=[]):=by
   cases L.2.2.2.2.2.1 with
   |nil=>rfl
   |cons x r=>simp;omega
  rw[hlen];rw[ya];simp only[kz,ku];constructor
  .intro hh h;have a1:=h.d0;have a2:=h.d1;have a3:=h.c0;have a4:=h.c1;have a5:=h.u0;have a6:=h.u1;have a7:=h.e0;have a8:=h.e1;rw[aj (show¬L.2.2.1.1<1 by omega),aj (show¬L.2.2.1.1>100000 by omega),aj (show¬L.2.2.1.2<0 by omega),aj (show¬L.2.2.1.2>=86400 by omega),aj (show¬L.2.2.2.1<0 by omega),aj (show¬L.2.2.2.1>2 by omega),aj (show¬L.2.2.2.2.1<1 by omega),aj (show¬L.2.2.2.2.1>400 by omega),aj h.m0]at hh;simp at hh
  .intro hn;by_cases a1:L.2.2.1.1<1
   .rw[ah a1];rfl
   rw[aj a1];by_cases a2:L.2.2.1.1>100000
   .rw[ah a2];rfl
   rw[aj a2];by_cases a3:L.2.2.1.2<0
   .rw[ah a3];rfl
   rw[aj a3];by_cases a4:L.2.2.1.2>=86400
   .rw[ah a4];rfl
   rw[aj a4];by_cases a5:L.2.2.2.1<0
   .rw[ah a5];rfl
   rw[aj a5];by_cases a6:L.2.2.2.1>2
   .rw[ah a6];rfl
   rw[aj a6];by_cases a7:L.2.2.2.2.1<1
   .rw[ah a7];rfl
   rw[aj a7];by_cases a8:L.2.2.2.2.1>400
   .rw[ah a8];rfl
   rw[aj a8];by_cases a9:L.2.2.2.2.2.1=[]
   .rw[ah a9];rfl
   exact absurd ⟨aa,aa,aa,aa,aa,aa,aa,aa,a9⟩ hn
 rw[key];by_cases h:Rt L
 .rw[ah h,if_pos h];rfl
 .rw[aj h,if_neg h];rfl
end
theorem ό{z:bF}{l:bC}(hz:Z4 z l){L:bZ}(h:Rt L){t N:w}(hN:N<=8589934592):∀n:O,(n:w)<=N->
  ∃K:w,AR t ((n:w)-1) z.1 z.2.1 z.2.2 L.1 L.2.1 L.2.2.1.1 L.2.2.1.2 L.2.2.2.1 L.2.2.2.2.1 L.2.2.2.2.2.1 L.2.2.2.2.2.2.1 L.2.2.2.2.2.2.2.1 L.2.2.2.2.2.2.2.2=H K/\
   (K = -1\/0<=K/\QO z.2.1 l L t K)/\K<n/\∀j:w,K<j->0<=j->j<n->¬QO z.2.1 l L t j
 |0,_=>by
  rw[ZR];simp only[j61];rw[aj aa,j7,aS];exact⟨_,rfl,.inl aa,aa,λj h1 h2 h3=>aa⟩
 |n+1,hn=>by
  obtain⟨K,e,k0,k1,k2⟩:=ό hz h (t:=t) hN n aa;obtain⟨v,hH,hv⟩:=HJ hz h (k:=(n:w)) aa aa;rw[ZR,show ((n+1:O):w)-1=(n:w) by omega];simp only[j61];rw[ah aa,j6,show j7K (z.1,(z.2.1,z.2.2)) (L.1,L.2.1,(L.2.2.1.1,L.2.2.1.2),L.2.2.2.1,L.2.2.2.2.1,L.2.2.2.2.2.1,L.2.2.2.2.2.2.1,L.2.2.2.2.2.2.2.1,L.2.2.2.2.2.2.2.2) (n:w)=_ from hH];simp only[j4];rw[al (x:=(n:w)-1)]
  have down:¬QO z.2.1 l L t (n:w)->(lpK (H (Sum.inl (t,(n:w)-1,z.1,z.2.1,z.2.2,L.1,L.2.1,L.2.2.1.1,L.2.2.1.2,L.2.2.2.1,L.2.2.2.2.1,L.2.2.2.2.2.1,L.2.2.2.2.2.2.1,L.2.2.2.2.2.2.2.1,L.2.2.2.2.2.2.2.2)):Option ((w×w×W×w×I aL×W×w×w×w×w×w×I w×WL×w×w) ⊕ w)) (λh=>AR h.1 h.2.1 h.2.2.1 h.2.2.2.1 h.2.2.2.2.1 h.2.2.2.2.2.1 h.2.2.2.2.2.2.1 h.2.2.2.2.2.2.2.1 h.2.2.2.2.2.2.2.2.1 h.2.2.2.2.2.2.2.2.2.1 h.2.2.2.2.2.2.2.2.2.2.1 h.2.2.2.2.2.2.2.2.2.2.2.1 h.2.2.2.2.2.2.2.2.2.2.2.2.1 h.2.2.2.2.2.2.2.2.2.2.2.2.2.1 h.2.2.2.2.2.2.2.2.2.2.2.2.2.2))=H K/\∀j:w,K<j->0<=j->j<((n+1:O):w)->¬QO z.2.1 l L t j:=by
   intro hq;refine⟨by rw[aH];exact e,λj h1 h2 h3=>?_⟩;by_cases xe:j<n
   .exact k2 j h1 h2 xe
   .rw[show j=(n:w) by omega];exact hq
  cases hx:hO z.2.1 l L (n:w) with
  |none=>
   simp only[vu,j7];obtain⟨d1,d2⟩:=down λ⟨y,hy,_⟩=>by rw[hx]at hy;simp at hy
   exact⟨K,d1,k0,aa,d2⟩
  |some x=>
   have:=hv x hx;subst this;simp only[va,j6];by_cases hc:v<=t
   .rw[ah hc,j6,aS];exact⟨_,rfl,.inr ⟨aa,v,hx,hc⟩,aa,λj h1 h2 h3=>aa⟩
   .rw[aj hc,j7];obtain⟨d1,d2⟩:=down λ⟨y,hy,CH⟩=>by rw[hx]at hy;simp at hy;omega
    exact⟨K,d1,k0,aa,d2⟩
theorem ύ{z:bF}{l:bC}(hz:Z4 z l){L:bZ}(h:Rt L){t:w}(Lt:0<=t)(sW:t<=8589934592):∃K:w,jdq z L t=H K/\kY z.2.1 l L t K:=by
 have hs:=h.step;have HA:=h.d0;have pG:=h.d1;have uH:=h.e0;have Ad:=h.e1;have jO:=h.c0;have eX:=h.c1;simp only[jdq];by_cases h0:L.2.2.2.1=0
 .have hF:=Tt hz (d:=L.2.2.1.1) (c:=L.2.2.1.2) aa jO eX;have kH:L.2.2.1.1*86400+L.2.2.1.2=dF L 0:=by unfold dF;omega
  rw[dC h0,j6,show j5a (z.1,(z.2.1,z.2.2)) (L.2.2.1.1,L.2.2.1.2)=_ from hF,kH];simp only[j4]
  have nq:(∀v,fO z.2.1 l (dF L 0)=H v->t<v)->¬QO z.2.1 l L t 0:=by
   rintro hn ⟨y,hy,CH⟩
   have:=hn y (Ο h0 hy);omega
  cases hf:fO z.2.1 l (dF L 0) with
  |none=>exact⟨-1,rfl,.inl ⟨rfl,nq λv hv=>by rw[hf]at hv;simp at hv⟩⟩
  |some v=>
   have Tu:=Df hz.2 hf;simp only[kq,j6];by_cases hc:v<=t
   .obtain⟨s1,s2,s3⟩:=Ξ (o:=z.2.1) (l:=l) h h0 sW hf hc Tu.2.1;rw[ah hc,j6,al (x:=t-v),al (x:=3600*L.2.2.2.2.1),cj (show¬3600*L.2.2.2.2.1=0 by omega),zp aa,al (x:=(t-v)/(3600*L.2.2.2.2.1))];exact⟨_,rfl,s1⟩
   .rw[aj hc];exact⟨-1,rfl,.inl ⟨rfl,nq λv' hv=>by rw[hf]at hv;simp at hv;omega⟩⟩
 .obtain⟨j,hj,j1,j2⟩:=pX hz.2 Lt sW;have o0:=hz.2.of0 j hj;have o1:=hz.2.of1 j hj;have eT:=Ε hz (t:=t) Lt sW hj j1 j2;rw[cj h0,j7,show j3Q (z.1,(z.2.1,z.2.2)) t=_ from eT];simp only[j4];have rb:∀k:w,QO z.2.1 l L t k->L.2.2.1.1+k*dP L<=(t+bk z.2.1 l j)/86400+2:=λk hq=>QO.day hz.2 h h0 hq hj;generalize IU:(t+bk z.2.1 l j)/86400=ld at rb;rw[al (x:=ld+2),al (x:=ld+2-L.2.2.1.1)]
  have fin:∀st:w,st=dP L->∃K:w,((AR t (w64 (Int.tdiv (if (0:w)>ld+2-L.2.2.1.1 then (0:w) else ld+2-L.2.2.1.1) st)) z.1 z.2.1 z.2.2 L.1 L.2.1 L.2.2.1.1 L.2.2.1.2 L.2.2.2.1 L.2.2.2.2.1 L.2.2.2.2.2.1 L.2.2.2.2.2.2.1 L.2.2.2.2.2.2.2.1 L.2.2.2.2.2.2.2.2).bind λq0=>H q0)=H K/\kY z.2.1 l L t K:=by
   rintro st rfl
   obtain⟨m,hm,mS,fH⟩:∃m:w,(if (0:w)>ld+2-L.2.2.1.1 then (0:w) else ld+2-L.2.2.1.1)=m/\0<=m/\m<=1000000:=⟨_,rfl,by split<;>omega,by split<;>omega⟩;have zX:ld+2-L.2.2.1.1<=m:=by rw[<-hm];split<;>omega
   rw[hm,zp mS];have q0:0<=m/dP L:=yy mS aa;have q1:m/dP L<=m:=yp _ mS;have q2:m<dP L*(m/dP L)+dP L:=Int.lt_mul_ediv_self_add aa;rw[al];generalize m/dP L=km at *;obtain⟨K,e,k0,k1,k2⟩:=ό hz h (t:=t) (k7 _) (km+1).toNat aa;rw[show (((km+1).toNat:O):w)-1=km by omega]at e;rw[e];refine⟨K,rfl,?_⟩
   have top:¬QO z.2.1 l L t (K+1):=by
    by_cases hK:K+1<=km
    .exact k2 (K+1) aa (by rcases k0 with k0|k0<;>omega) aa
    .intro hq;have hd:=rb _ hq;have cH:K=km:=aa;rw[cH,Int.add_mul,Int.one_mul]at hd;have:dP L*km=km*dP L:=U _ _;omega
   rcases k0 with k0|k0
   .subst k0;exact .inl ⟨rfl,top⟩
   .exact .inr ⟨k0.1,k0.2,top⟩
  by_cases h2:L.2.2.2.1=2
  .have Bt:dP L=7*L.2.2.2.2.1:=by unfold dP;rw[if_pos h2]
   rw[dC h2,j6,al (x:=L.2.2.2.2.1*7),cj (show¬L.2.2.2.2.1*7=0 by omega)];simp only[ka,j6];exact fin _ (by rw[Bt,U])
  .have Bt:dP L=L.2.2.2.2.1:=by unfold dP;rw[if_neg h2]
   rw[cj h2,j7,cj (show¬L.2.2.2.2.1=0 by omega)];simp only[ka,j6];exact fin _ Bt.symm
end Go.Proofs.Pw
