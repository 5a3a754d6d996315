/- span.Common and span.Without: meets and wT of sets. -/
import Derived.Test.YtbpjdcbbmibehaaGreatLJPF
import Derived.Test.YtbpjdcbbmibehaaGreatLJPE
import Derived.Test.YtbpjdcbbmibehaaGreatLJPB
import Derived.KernelRfl
import Derived.Test.YtbpjdcbbmibehaaGreatLJPD
import Derived.Test.YtbpjdcbbmibehaaGreatLJPA
import Derived.Test.YtbpjdcbbmibehaaGreatLJLD
open Go Go.Lft
namespace Go.Proofs.Pw
theorem bX.weak{p q:Int}(hq:q<=p):∀{l:SL},bX p l->bX q l
 |[],_=>trivial
 |_::_,h=>⟨by have:=h.1;omega,h.2⟩
theorem bX.low{p x:Int}:∀{l:SL},bX p l->bI x l->p<x
 |[],_,h=>absurd h im
 |s::r,h,hx=>by
  rcases fA.1 hx with hx|hx
  .have:=h.1;omega
  .have:=bX.low h.2.2 hx;have:=h.1;have:=h.2.1;omega
theorem bX.mem{p:Int}:∀{l:SL},bX p l->∀s∈l,p<s.1/\s.1<s.2
 |[],_,s,hs=>by simp at hs
 |u::r,h,s,hs=>by
  rcases jc.1 hs with rfl|hs
  .exact⟨h.1,h.2.1⟩
  .have:=bX.mem h.2.2 s hs;have:=h.1;have:=h.2.1;omega
def mO:Nat->SL->SL->SL
 |n+1,s::a,u::b=>(if (if u.1>s.1 then u.1 else s.1)<(if u.2<s.2 then u.2 else s.2) then [((if u.1>s.1 then u.1 else s.1),(if u.2<s.2 then u.2 else s.2))] else [])++
  (if s.2<u.2 then mO n a (u::b) else mO n (s::a) b)
 |_,_,_=>[]
theorem PH:∀(n:Nat)(a b:SL)(p q:Int),a.length+b.length<=n->bX p a->bX q b->(∀x,bI x (mO n a b)↔bI x a/\bI x b)/\bX p (mO n a b)/\bX q (mO n a b)/\(mO n a b).length<=a.length+b.length
 |0,a,b,p,q,hn,_,_=>by
  obtain rfl:a=[]:=zj.1 (by omega);exact⟨λx=>⟨λh=>absurd h im,λh=>absurd h.1 im⟩,trivial,trivial,by simp[mO]⟩
 |n+1,[],b,p,q,_,_,_=>⟨λx=>⟨λh=>absurd h im,λh=>absurd h.1 im⟩,trivial,trivial,by simp[mO]⟩
 |n+1,_::_,[],p,q,_,_,_=>⟨λx=>⟨λh=>absurd h im,λh=>absurd h.2 im⟩,trivial,trivial,by simp[mO]⟩
 |n+1,s::a,u::b,p,q,hn,ha,hb=>by
  obtain⟨a1,a2,a3⟩:=ha;obtain⟨b1,b2,b3⟩:=hb;simp only[jl]at hn ⊢
  have hx:∃f t:Int,f=(if u.1>s.1 then u.1 else s.1)/\t=(if u.2<s.2 then u.2 else s.2)/\(∀x,(f<=x/\x<t)↔(s.1<=x/\x<s.2)/\(u.1<=x/\x<u.2))/\p<f/\q<f/\t<=s.2/\t<=u.2:=by
   refine⟨_,_,rfl,rfl,λx=>?_,?_,?_,?_,?_⟩
   .constructor
    .intro h;split at h<;>split at h<;>omega
    .intro h;split<;>split<;>omega
   .split<;>omega
   .split<;>omega
   .split<;>omega
   .split<;>omega
  obtain⟨f,t,ef,et,hi,f1,f2,t1,t2⟩:=hx;simp only[mO,<-ef,<-et]
  have key:∀(a' b':SL)(r:SL),(∀x,bI x r↔bI x a'/\bI x b')->bX t r->bX p r->bX q r->r.length<=a'.length+b'.length->a'.length+b'.length+1=a.length+1+(b.length+1)->
    (∀x,bI x (s::a)/\bI x (u::b)↔(f<=x/\x<t)\/(bI x a'/\bI x b'))->
    (∀x,bI x ((if f<t then [(f,t)] else [])++r)↔bI x (s::a)/\bI x (u::b))/\bX p ((if f<t then [(f,t)] else [])++r)/\bX q ((if f<t then [(f,t)] else [])++r)/\((if f<t then [(f,t)] else [])++r).length<=a.length+1+(b.length+1):=by
   intro a' b' r xk Iy PI Iz hl sq sa;by_cases jM:f<t
   .rw[if_pos jM];refine⟨λx=>?_,⟨f1,jM,Iy⟩,⟨f2,jM,Iy⟩,by simp;omega⟩;rw[sa,Ix,xk x,fA];constructor
    .rintro ((h|h)|h)
     .exact .inl h
     .exact absurd h im
     .exact .inr h
    .rintro (h|h)
     .exact .inl (.inl h)
     .exact .inr h
   .rw[if_neg jM,js];refine⟨λx=>?_,PI,Iz,by omega⟩;rw[sa,xk x];constructor
    .exact .inr
    .rintro (h|h)
     .omega
     .exact h
  by_cases hc:s.2<u.2
  .rw[if_pos hc];obtain⟨i1,i2,i3,i4⟩:=PH n a (u::b) s.2 q (by simp;omega) a3 ⟨b1,b2,b3⟩;refine key a (u::b) _ i1 (i2.weak t1) (i2.weak (by omega)) i3 i4 (by simp;omega) (λx=>?_);rw[fA,hi x];constructor
   .rintro⟨h|h,h'⟩
    .rcases fA.1 h' with h'|h'
     .exact .inl ⟨h,h'⟩
     .have:=bX.low b3 h';omega
    .exact .inr ⟨h,h'⟩
   .rintro (h|h)
    .exact⟨.inl h.1,fA.2 (.inl h.2)⟩
    .exact⟨.inr h.1,h.2⟩
  .rw[if_neg hc];obtain⟨i1,i2,i3,i4⟩:=PH n (s::a) b p u.2 (by simp;omega) ⟨a1,a2,a3⟩ b3;refine key (s::a) b _ i1 (i3.weak t2) i2 (i3.weak (by omega)) i4 (by simp;omega) (λx=>?_);rw[fA (s:=u),hi x];constructor
   .rintro⟨h',h|h⟩
    .rcases fA.1 h' with h'|h'
     .exact .inl ⟨h',h⟩
     .have:=bX.low a3 h';omega
    .exact .inr ⟨h',h⟩
   .rintro (h|h)
    .exact⟨fA.2 (.inl h.1),.inl h.2⟩
    .exact⟨h.1,.inr h.2⟩
theorem PJ{A B:SL}(hA:A.length<=10000000)(hB:B.length<=10000000):∀(n i k:Nat)(acc:SL),i<=A.length->k<=B.length->(A.length-i)+(B.length-k)=n->acc.length+n<=30000000->
  yG A B (i:Int) (k:Int) acc=some (acc++mO n (A.drop i) (B.drop k))
 |n,i,k,acc,hi,hk,hn,eI=>by
  rw[jh8];simp only[j5w,show Int.ofNat (List.length A)=(A.length:Int) from rfl,show Int.ofNat (List.length B)=(B.length:Int) from rfl];by_cases gf:i<A.length/\k<B.length
  .obtain⟨bQ,bc⟩:=gf;obtain⟨n,rfl⟩:∃m,n=m+1:=⟨n-1,by omega⟩;have gA:A.getD i ((0:Int),(0:Int))=A[i]:=by simp[List.getD,bQ]
   have gB:B.getD k ((0:Int),(0:Int))=B[k]:=by simp[List.getD,bc]
   rw[ag (show (i:Int)<(A.length:Int) by omega),ag (show (k:Int)<(B.length:Int) by omega),ba (show (0:Int)<=(i:Int) by omega) (by omega),ba (show (0:Int)<=(k:Int) by omega) (by omega)];simp only[j5,j7,gA,gB];rw[aj (x:=(i:Int)+1) (by omega) (by omega),aj (x:=(k:Int)+1) (by omega) (by omega)];rw[jb bQ,jb bc];simp only[mO];generalize (if B[k].1>A[i].1 then B[k].1 else A[i].1:Int)=f;generalize (if B[k].2<A[i].2 then B[k].2 else A[i].2:Int)=t
   have Fo:∀bG:SL,bG.length<=acc.length+1->yG A B ((i:Int)+1) (k:Int) bG=some (bG++mO n (A.drop (i+1)) (B[k]::B.drop (k+1))):=λbG B5=>by
    have:=PJ hA hB n (i+1) k bG (by omega) (by omega) (by omega) (by omega);rw[<-jb bc];exact this
   have Fp:∀bG:SL,bG.length<=acc.length+1->yG A B (i:Int) ((k:Int)+1) bG=some (bG++mO n (A[i]::A.drop (i+1)) (B.drop (k+1))):=λbG B5=>by
    have:=PJ hA hB n i (k+1) bG (by omega) (by omega) (by omega) (by omega);rw[<-jb bQ];exact this
   by_cases jM:f<t
   .rw[ag jM,if_pos jM,ag (by simp[aQ];omega)];simp only[j5];by_cases hc:A[i].2<B[k].2
    .rw[ag hc,if_pos hc];simp only[j5,aP];rw[Fo _ (by simp),jg]
    .rw[ao hc,if_neg hc];simp only[j6,aP];rw[Fp _ (by simp),jg]
   .rw[ao jM,if_neg jM];simp only[j6];by_cases hc:A[i].2<B[k].2
    .rw[ag hc,if_pos hc];simp only[j5,aP];rw[Fo _ (by omega),js]
    .rw[ao hc,if_neg hc];simp only[j6,aP];rw[Fp _ (by omega),js]
  .have hc:cond (decide ((i:Int)<(A.length:Int))) (decide ((k:Int)<(B.length:Int))) false=false:=by
    by_cases h1:i<A.length
    .rw[ag (by omega),j5];exact ao (by omega)
    .rw[ao (by omega),j6]
   rw[hc,j6,aY]
   have:mO n (A.drop i) (B.drop k)=[]:=by
    by_cases h1:i<A.length
    .rw[yi (show B.length<=k by omega)];cases n<;>cases A.drop i<;>rfl
    .rw[yi (show A.length<=i by omega)];cases n<;>rfl
   rw[this,qj]
theorem Xv{A B:SL}{p q:Int}(ha:bX p A)(hb:bX q B)(hA:A.length<=10000000)(hB:B.length<=10000000) :
  ∃out,j7w A B=some out/\bX p out/\(∀x,bI x out↔bI x A/\bI x B)/\out.length<=A.length+B.length:=by
 have lp:=PJ hA hB (A.length+B.length) 0 0 [] (by omega) (by omega) (by omega) (by simp;omega);obtain⟨h1,h2,h3,h4⟩:=PH (A.length+B.length) A B p q (jo _) ha hb;refine⟨mO (A.length+B.length) A B,?_,h2,h1,h4⟩;simp only[j7w,show yG A B 0 0 []=_ from lp,j3,js,k5]
def nT(e:Int):Int->SL->SL×Int
 |t,[]=>([],t)
 |t,u::b=>if u.1<e then ((if t<u.1 then [(t,u.1)] else [])++(nT e (if u.2>t then u.2 else t) b).1,(nT e (if u.2>t then u.2 else t) b).2) else ([],t)
def lF(e t:Int)(b:SL):SL:=(nT e t b).1++(if (nT e t b).2<e then [((nT e t b).2,e)] else [])
theorem jxE{e t:Int}{u:Int×Int}{b:SL}(h:u.1<e):lF e t (u::b)=(if t<u.1 then [(t,u.1)] else [])++lF e (if u.2>t then u.2 else t) b:=by
 simp only[lF,nT,if_pos h,jg]
theorem Xw{e:Int}:∀(b:SL)(t q:Int),bX q b->(∀x,bI x (lF e t b)↔(t<=x/\x<e)/\¬bI x b)/\bX (t-1) (lF e t b)/\(∀s∈lF e t b,s.2<=e)/\(lF e t b).length<=b.countP (λu=>decide (t<u.1)&&decide (u.1<e))+1
 |[],t,q,_=>by
  rw[show lF e t []=(if t<e then [(t,e)] else []) from rfl];by_cases h:t<e
  .rw[if_pos h];exact⟨λx=>⟨λhx=>⟨by rcases fA.1 hx with hx|hx;exact hx;exact absurd hx im,im⟩,λhx=>fA.2 (.inl hx.1)⟩,⟨by dsimp only;omega,h,trivial⟩,by simp,by simp⟩
  .rw[if_neg h];exact⟨λx=>⟨λhx=>absurd hx im,λhx=>by omega⟩,trivial,by simp,by simp⟩
 |u::b,t,q,hb=>by
  obtain⟨b1,b2,b3⟩:=hb;by_cases hu:u.1<e
  .rw[jxE hu];have hm:∃t',t'=(if u.2>t then u.2 else t)/\t<=t'/\u.2<=t'/\(t'=t\/t'=u.2):=⟨_,rfl,by split<;>omega,by split<;>omega,by split<;>omega⟩;obtain⟨t',e',h1,h2,h3⟩:=hm;rw[<-e'];obtain⟨i1,i2,i3,i4⟩:=Xw b t' u.2 b3;have er:∀x,bI x b->u.2<x:=λx=>bX.low b3
   have hcp:b.countP (λu=>decide (t'<u.1)&&decide (u.1<e))<=b.countP (λu=>decide (t<u.1)&&decide (u.1<e)):=List.countP_mono_left λv _ h=>by
    simp only[ja,jh]at h ⊢;omega
   by_cases zF:t<u.1
   .rw[if_pos zF]
    refine⟨λx=>?_,⟨by dsimp only;omega,zF,i2.weak (by omega)⟩,λs hs=>?_,by
     rw[List.countP_cons_of_pos (by simp[zF,hu]),List.singleton_append,jl];omega⟩
    .rw[List.singleton_append,fA,i1 x,fA];constructor
     .rintro (h|h)
      .exact⟨by omega,λh'=>by
        rcases h' with h'|h'
        .omega
        .have:=er x h';omega⟩
      .exact⟨by omega,λh'=>by
        rcases h' with h'|h'
        .omega
        .exact h.2 h'⟩
     .rintro⟨h,h'⟩
      by_cases hx:x<u.1
      .exact .inl ⟨h.1,hx⟩
      .by_cases mM:x<u.2
       .exact absurd (.inl ⟨by omega,mM⟩) h'
       .exact .inr ⟨by omega,λh2=>h' (.inr h2)⟩
    .rcases jc.1 hs with rfl|hs
     .dsimp only;omega
     .exact i3 s hs
   .rw[if_neg zF,js]
    refine⟨λx=>?_,i2.weak (by omega),i3,by
     rw[List.countP_cons_of_neg (by simp[zF])];omega⟩
    rw[i1 x,fA];constructor
    .rintro h
     exact⟨by omega,λh'=>by
      rcases h' with h'|h'
      .omega
      .exact h.2 h'⟩
    .rintro⟨h,h'⟩
     by_cases mM:x<u.2
     .exact absurd (.inl ⟨by omega,mM⟩) h'
     .exact⟨by omega,λh2=>h' (.inr h2)⟩
  .have:lF e t (u::b)=if t<e then [(t,e)] else []:=by simp only[lF,nT,if_neg hu,js]
   rw[this]
   have dQ:∀x,x<e->¬bI x (u::b):=λx hx h=>by
    rcases fA.1 h with h|h
    .omega
    .have:=bX.low b3 h;omega
   by_cases h:t<e
   .rw[if_pos h]
    exact⟨λx=>⟨λhx=>by
     rcases fA.1 hx with hx|hx
     .exact⟨hx,dQ x hx.2⟩
     .exact absurd hx im,λhx=>fA.2 (.inl hx.1)⟩,⟨by dsimp only;omega,h,trivial⟩,by simp,by simp⟩
   .rw[if_neg h];exact⟨λx=>⟨λhx=>absurd hx im,λhx=>by omega⟩,trivial,by simp,by simp⟩
def pA(l:SL)(u:Int×Int):Bool:=l.any λs=>decide (s.1<u.1)&&decide (u.1<s.2)
theorem Xx{p q:Int×Int->Bool}(h:∀u,p u=true->q u=true->False):∀l:SL,l.countP p+l.countP q<=l.countP (λu=>p u||q u)
 |[]=>by simp
 |u::l=>by
  have ih:=Xx h l;have hu:=h u;simp only[List.countP_cons];cases hp:p u<;>cases hq:q u<;>simp_all<;>omega
theorem Xy{q:Int}:∀{b:SL}(k:Nat),bX q b->∃q',bX q' (b.drop k)
 |_,0,h=>⟨q,h⟩
 |[],_+1,_=>⟨q,trivial⟩
 |_::_,k+1,h=>Xy k h.2.2
section
variable{B:SL}(hB:B.length<=10000000)
include hB
theorem Xz{A:SL}{n m s e:Int}{acc:SL}:∀(d k:Nat),k+d=B.length->∃k':Nat,k<=k'/\k'<=B.length/\(∀j (h:j<B.length),k<=j->j<k'->B[j].2<=s)/\
  HJ B (k:Int) A n m s e acc=some (B,(k':Int),A,n,m,s,e,acc)
 |0,k,hk=>by
  rw[UZ];simp only[j3z,show Int.ofNat (List.length B)=(B.length:Int) from rfl];rw[ao (by omega),j6,aY];exact⟨k,by omega,by omega,λj h h1 h2=>by omega,rfl⟩
 |d+1,k,hk=>by
  have bc:k<B.length:=by omega
  have gB:B.getD k ((0:Int),(0:Int))=B[k]:=by simp[List.getD,bc]
  rw[UZ];simp only[j3z,show Int.ofNat (List.length B)=(B.length:Int) from rfl];rw[ag (by omega),ba (by omega) (by omega)];simp only[j5,j7,gB];by_cases hc:B[k].2<=s
  .rw[ag hc,j5,aP,aj (x:=(k:Int)+1) (by omega) (by omega)];obtain⟨k',h1,h2,h3,h4⟩:=Xz d (k+1) (by omega);refine⟨k',by omega,h2,λj h ha hb=>?_,h4⟩;by_cases JW:j=k
   .subst JW;exact hc
   .exact h3 j h (by omega) hb
  .rw[ao hc,j6,aY];exact⟨k,by omega,by omega,λj h h1 h2=>by omega,rfl⟩
theorem XA{A:SL}{k n m s e:Int}:∀(d i:Nat)(t:Int)(acc:SL),i+d=B.length->acc.length+d<=4000000000->
  D9 B k t (i:Int) A n m s e acc=some (B,k,(nT e t (B.drop i)).2,A,n,m,s,e,acc++(nT e t (B.drop i)).1)
 |0,i,t,acc,hi,eI=>by
  rw[U0];simp only[j3A,show Int.ofNat (List.length B)=(B.length:Int) from rfl];rw[ao (by omega),j6,aY,jd (by omega)];simp[nT]
 |d+1,i,t,acc,hi,eI=>by
  have bQ:i<B.length:=by omega
  have gB:B.getD i ((0:Int),(0:Int))=B[i]:=by simp[List.getD,bQ]
  rw[U0];simp only[j3A,show Int.ofNat (List.length B)=(B.length:Int) from rfl];rw[ag (by omega),ba (by omega) (by omega)];simp only[j5,j7,gB];rw[jb bQ,aj (x:=(i:Int)+1) (by omega) (by omega)];by_cases hc:B[i].1<e
  .rw[ag hc];simp only[j5,nT,if_pos hc];have ih:∀bG:SL,bG.length<=acc.length+1->D9 B k (if B[i].2>t then B[i].2 else t) ((i:Int)+1) A n m s e bG=_:=λbG h'=>XA d (i+1) (if B[i].2>t then B[i].2 else t) bG (by omega) (by omega);by_cases ht:t<B[i].1
   .rw[ag ht,if_pos ht,ag (by simp[aQ];omega)];simp only[j5,aP];rw[ih _ (by simp),jg]
   .rw[ao ht,if_neg ht];simp only[j6,aP];rw[ih _ (by omega),js]
  .rw[ao hc];simp only[j6,aY,nT,if_neg hc,qj]
theorem XB{A:SL}(hA:A.length<=10000000){q:Int}(hb:bX q B):∀(d j k:Nat)(p:Int)(acc:SL),j+d=A.length->k<=B.length->bX p (A.drop j)->(∀i (h:i<B.length),i<k->∀x,bI x (A.drop j)->B[i].2<=x)->acc.length+d+B.countP (pA (A.drop j))<=30000000->
  ∃out,Be B (k:Int) A (A.length:Int) (j:Int) acc=some (acc++out)/\bX p out/\(∀x,bI x out↔bI x (A.drop j)/\¬bI x B)/\out.length<=d+B.countP (pA (A.drop j))
 |0,j,k,p,acc,hj,hk,_,_,eI=>by
  rw[U1];simp only[j3B];rw[ao (by omega),j6,aY,jd (by omega)];exact⟨[],by simp,trivial,λx=>⟨λh=>absurd h im,λh=>absurd h.1 im⟩,by simp⟩
 |d+1,j,k,p,acc,hj,hk,ha,AS,eI=>by
  have h9:j<A.length:=by omega
  have gA:A.getD j ((0:Int),(0:Int))=A[j]:=by simp[List.getD,h9]
  rw[jb h9]at ha AS eI ⊢;obtain⟨a1,a2,a3⟩:=ha;obtain⟨k',h1,h2,h3,h4⟩:=Xz hB (A:=A) (n:=(A.length:Int)) (m:=(j:Int)) (s:=A[j].1) (e:=A[j].2) (acc:=acc) (B.length-k) k (by omega);have ax:∃q',bX q' (B.drop k'):=Xy k' hb;obtain⟨q',ax⟩:=ax
  have wU:∀x,A[j].1<=x->(bI x B↔bI x (B.drop k')):=by
   intro x hx;constructor
   .rintro⟨u,hu,u1,u2⟩
    obtain⟨i,hi,rfl⟩:=List.mem_iff_getElem.1 hu;by_cases lY:i<k'
    .by_cases zG:i<k
     .have:=AS i hi zG A[j].1 (fA.2 (.inl ⟨ke _,a2⟩));omega
     .have:=h3 i hi (by omega) lY;omega
    .exact⟨B[i],List.mem_drop_iff_getElem.2 ⟨i-k',by omega,by simp[show k'+(i-k')=i by omega]⟩,u1,u2⟩
   .rintro⟨u,hu,u1,u2⟩
    exact⟨u,zf hu,u1,u2⟩
  have w4:=XA hB (A:=A) (k:=(k':Int)) (n:=(A.length:Int)) (m:=(j:Int)) (s:=A[j].1) (e:=A[j].2) (B.length-k') k' A[j].1 acc (by omega) (by omega);obtain⟨s1,s2,s3,s4⟩:=Xw (e:=A[j].2) (B.drop k') A[j].1 q' ax;have iX:(nT A[j].2 A[j].1 (B.drop k')).1.length<=(lF A[j].2 A[j].1 (B.drop k')).length:=by simp[lF]
  have CX:(lF A[j].2 A[j].1 (B.drop k')).length+B.countP (pA (A.drop (j+1)))<=B.countP (pA (A[j]::A.drop (j+1)))+1:=by
   have h5:(B.drop k').countP (λu=>decide (A[j].1<u.1)&&decide (u.1<A[j].2))<=B.countP (λu=>decide (A[j].1<u.1)&&decide (u.1<A[j].2)):=(List.drop_sublist k' B).countP_le
   have h6:=Xx (p:=λu=>decide (A[j].1<u.1)&&decide (u.1<A[j].2)) (q:=pA (A.drop (j+1))) (λu hp hq=>by
    obtain⟨s,hs,dP⟩:=qs.1 hq;have:=bX.mem a3 s hs;simp only[ja,jh]at hp dP;omega) B
   have h7:B.countP (λu=>(decide (A[j].1<u.1)&&decide (u.1<A[j].2))||pA (A.drop (j+1)) u)=B.countP (pA (A[j]::A.drop (j+1))):=rfl;omega
  have step:∀bG:SL,bG=acc++lF A[j].2 A[j].1 (B.drop k')->∃out,Be B (k':Int) A (A.length:Int) ((j:Int)+1) bG=some (acc++out)/\bX p out/\(∀x,bI x out↔bI x (A[j]::A.drop (j+1))/\¬bI x B)/\out.length<=d+1+B.countP (pA (A[j]::A.drop (j+1))):=by
   rintro _ rfl
   obtain⟨out,e,o1,o2,o3⟩:=XB hA hb d (j+1) k' A[j].2 (acc++lF A[j].2 A[j].1 (B.drop k')) (by omega) h2 a3 (λi hi lY x hx=>by
    have hlow:=bX.low a3 hx;by_cases zG:i<k
    .exact AS i hi zG x (fA.2 (.inr hx))
    .have:=h3 i hi (by omega) lY;omega) (by rw[jf];omega)
   refine⟨lF A[j].2 A[j].1 (B.drop k')++out,by rw[<-jg];exact e,?_,λx=>?_,by rw[jf];omega⟩
   .have glue:∀(l:SL)(r:Int),bX r l->r<A[j].2->(∀s∈l,s.2<=A[j].2)->bX r (l++out):=by
     intro l;induction l with
     |nil=>intro r _ hr _;exact o1.weak (by omega)
     |cons s l ih=>intro r h hr hl;exact⟨h.1,h.2.1,by
      have:=hl s (by simp);by_cases hs:s.2<A[j].2
      .exact ih s.2 h.2.2 hs (λu hu=>hl u (by simp[hu]))
      .have he:s.2=A[j].2:=by omega
       match l,h.2.2 with
       |[],_=>exact o1.weak (by omega)
       |u::l',h'=>have:=hl u (by simp);have:=h'.1;have:=h'.2.1;omega⟩
    exact glue _ _ (s2.weak (by omega)) (by omega) s3
   .rw[Ix,s1 x,o2 x,fA];constructor
    .rintro (h|h)
     .exact⟨.inl h.1,λhx=>h.2 ((wU x h.1.1).1 hx)⟩
     .exact⟨.inr h.1,h.2⟩
    .rintro⟨h|h,h'⟩
     .exact .inl ⟨h,λhx=>h' ((wU x h.1).2 hx)⟩
     .exact .inr ⟨h,h'⟩
  rw[U1];simp only[j3B];rw[ag (show (j:Int)<(A.length:Int) by omega),ba (by omega) (by omega)];simp only[j5,j7,gA,h4,j3,w4];rw[aj (x:=(j:Int)+1) (by omega) (by omega)];have hlen:(acc++(nT A[j].2 A[j].1 (B.drop k')).1).length<=2000000000:=by rw[jf];omega
  by_cases ht:(nT A[j].2 A[j].1 (B.drop k')).2<A[j].2
  .rw[ag ht];simp only[j5];rw[ag (by simp only[aQ,kn];omega)];simp only[j5,aP];exact step _ (by simp only[lF,if_pos ht,jg])
  .rw[ao ht];simp only[j6,aP];exact step _ (by simp only[lF,if_neg ht,qj])
theorem PK{A:SL}{p q:Int}(ha:bX p A)(hb:bX q B)(hA:A.length<=10000000) :
  ∃out,j2G A B=some out/\bX p out/\(∀x,bI x out↔bI x A/\¬bI x B)/\out.length<=A.length+B.length:=by
 have hc:=List.countP_le_length (p:=pA (A.drop 0)) (l:=B);obtain⟨out,e,h1,h2,h3⟩:=XB hB hA hb A.length 0 0 p [] (by omega) (by omega) ha (λi h hi=>by omega) (by simp only[qq];omega);refine⟨out,?_,h1,h2,by omega⟩;simp only[j2G,show Int.ofNat (List.length A)=(A.length:Int) from rfl,show Be B 0 A (A.length:Int) 0 []=_ from e,j3,js]
end
set_option linter.unusedSectionVars false
section
variable{l:SL}{p:Int}(h:bX p l)(hp : -1<=p)(hl:l.length<=4096)(hb:∀u∈l,u.2<=8589934592)
include h hp hl hb
end
theorem XC:j4E 2241=some 98981:=by kernel_rfl
theorem XE:j4E 1970=some 0:=by kernel_rfl
theorem XF{d:Int}(h:j18 d=some true):d<=100000:=by
 apply jp;intro hd;simp only[j18,j6a,XE,XC,j3]at h;rw[ao (show¬d<0 by omega),ag (show d>=98981 by omega)]at h;simp at h
theorem fR.rt2{nz np nc:Nat}{L:cb}(h:fR nz np nc L):Rt L:=h.rt (XF h.day)
section
variable{zs:List bP}{ps:List dm}{cs:List aO}(hs:cQ zs ps cs)
include hs
theorem uG{i:Int}(h0:0<=i)(h1:i<(cs.length:Int)):wO zs.length (cs.getD i.toNat (ByteArray.empty,((0:Int),([]:List Int)))):=by
 have hi:i.toNat<cs.length:=by omega
 rw[show cs.getD i.toNat (ByteArray.empty,((0:Int),([]:List Int)))=cs[i.toNat] by simp[List.getD,hi]];exact hs.c.ck _ (ji hi)
end
def nU(es:List eU)(p t:Int):Bool:=es.any λx=>x.1==0&&(x.2.1==p&&(decide (x.2.2.2.1<=t)&&decide (t<x.2.2.2.2)))
def eh(good:Nat->Bool):Nat->Option Nat
 |0=>none
 |n+1=>cond (good n) (some n) (eh good n)
def gF(es:List eU)(t:Int)(Pf:Nat->Int)(i:Nat):Bool:=decide (0<=Pf i) && !nU es (Pf i) t
section
variable{zs:List bP}{ps:List dm}{cs:List aO}{ss:List dD}
theorem jyZ(hz:∀z∈zs,pr z)(hc:uE (zs,(ps,(cs,ss)))):jm9 (zs,(ps,(cs,ss)))=some (((zs,(ps,(cs,ss))),zs.map tb),true):=by
 have jU:zs.length<=16:=hc.zl;simp only[jm9,show j7Z (zs,(ps,(cs,ss)))=_ from jpS hc,j3,ju,j6,jxz (ps:=ps) (cs:=cs) (ss:=ss) hz (show zs.length<=100 by omega)]
def eM(es:List eU)(t:Int)(Pf:Nat->Int)(n:Nat):Int:=match eh (gF es t Pf) n with
 |some i=>Pf i
 |none=> -1
end
def jO:List ByteArray:=[(ByteArray.mk #[102,105,114,115,116]),(ByteArray.mk #[115,101,99,111,110,100]),(ByteArray.mk #[116,104,105,114,100])]
theorem jxF:gr jO:=by
 refine⟨by decide,λk hk=>?_⟩;simp only[jO,jc,vz,or_false]at hk;rcases hk with rfl|rfl|rfl<;>exact Ij 60 _ true (by kernel_rfl)
structure SG(nz np nc:Nat)(s:dD):Prop where
 ck:sO nz np nc s
 nm:s.2.1.map (·.1)=gj.take s.2.1.length
 ll:s.2.1.length<=3
 el:s.2.2.length<=3
theorem XG{L:List Int}{zs:List bP}{ps:List dm}{cs:List aO}(hs:E7 zs ps cs):∀(n:Nat)(a:Int)(ss:List dD),dx L a->ss.length+n<=3->ss.map (·.1)=jO.take ss.length->(∀s∈ss,SG zs.length ps.length cs.length s)->
  ∃zH a',Hp (n:Int) L a zs ps cs ss=some (L,a',zs,ps,cs,zH)/\zH.length=ss.length+n/\zH.map (·.1)=jO.take zH.length/\(∀s∈zH,SG zs.length ps.length cs.length s)/\dx L a'
 |0,a,ss,hd,hl,hn,hg=>by
  rw[Us];simp only[j28];rw[ao (by omega),j6,aY];exact⟨ss,a,rfl,rfl,hn,hg,hd⟩
 |n+1,a,ss,hd,hl,hn,hg=>by
  have ak:ss.length<jO.length:=by show ss.length<3;omega
  have PL:Int.tmod (Int.ofNat ss.length) 3=(ss.length:Int):=by have:Int.tmod (ss.length:Int) 3=(ss.length:Int):=Int.tmod_eq_of_lt (by omega) (by omega);exact this
  obtain⟨k,a3,e3,k0,k1,d3⟩:=dg (n:=4) hd (by omega) (by omega);obtain⟨ls,a4,e4,l4,lk,ln,d4⟩:=WT (s6:=((n+1:Nat):Int)) (nm:=List.getD jO ss.length ByteArray.empty) (ss:=ss) hs k.toNat a3 [] d3 (by simp;omega) (by simp) rfl;obtain⟨m,a5,e5,m0,m1,d5⟩:=dg (n:=4) d4 (by omega) (by omega);obtain⟨es,a6,e6,l6,ek,d6⟩:=WU (s6:=((n+1:Nat):Int)) (nm:=List.getD jO ss.length ByteArray.empty) (zs:=zs) (cs:=cs) (ss:=ss) (ls:=ls) hs m.toNat a5 [] d5 (by simp;omega) (by simp);rw[show ((k.toNat:Nat):Int)=k by omega]at e4;rw[show ((m.toNat:Nat):Int)=m by omega]at e6
  have dU:SG zs.length ps.length cs.length (List.getD jO ss.length ByteArray.empty,(ls,es)):=
   ⟨⟨by dsimp only;rw[ln];exact WO.take _,lk,by dsimp only;omega,ek,by dsimp only;omega⟩,ln,l4,l6⟩
  obtain⟨zH,a',e',h1,h2,h3,h4⟩:=XG hs n a6 (ss++[(List.getD jO ss.length ByteArray.empty,(ls,es))]) d6 (by simp;omega) (by
   rw[zq,hn,jf];exact Ir ak) (λs h=>by
   rcases jm.1 h with h|h
   .exact hg s h
   .simp at h;subst h;exact dU)
  rw[Us];simp only[j28];rw[ag (show ((n+1:Nat):Int)>0 by omega),PL,ba (by omega) (by show (ss.length:Int)<(3:Nat);omega)];simp only[j5,j7,e3,j3];rw[show DR ((n+1:Nat):Int) k L a3 zs ps cs (List.getD [(ByteArray.mk #[102,105,114,115,116]),(ByteArray.mk #[115,101,99,111,110,100]),(ByteArray.mk #[116,104,105,114,100])] ss.length ByteArray.empty) ss []=_ from e4];simp only[j3,e5,e6];rw[ag (by simp[aQ];omega),aj (by omega) (by omega),show ((n+1:Nat):Int)-1=(n:Int) by omega];simp only[j5,aP];exact⟨zH,a',e',by rw[h1];simp;omega,h2,h3,h4⟩
theorem jrS{L:List Int}{a n:Int}(h:dx L a)(n0:1<=n)(n1:n<=3):∃zs ps cs ss a',j5F L a n=some ((zs,(ps,(cs,ss))),L,a')/\cQ zs ps cs/\1<=ss.length/\(ss.length:Int)<=n/\ss.map (·.1)=jO.take ss.length/\(∀s∈ss,SG zs.length ps.length cs.length s)/\dx L a':=by
 obtain⟨zs,ps,cs,a1,e1,hs,d1⟩:=jtY h;obtain⟨x,a2,e2,x0,x1,d2⟩:=dg (n:=n) d1 (by omega) (by omega);obtain⟨ss,a3,e3,h1,h2,h3,d3⟩:=XG hs.so (1+x).toNat a2 [] d2 (by simp;omega) (by simp) (by simp);rw[show (((1+x).toNat:Nat):Int)=1+x by omega]at e3;simp at h1;simp only[j5F,e1,e2,j3];rw[aj (x:=1+x) (by omega) (by omega)];simp only[e3,j3];exact⟨zs,ps,cs,ss,a3,rfl,hs,by omega,by omega,h2,h3,d3⟩
theorem jxG{zs:List bP}{ps:List dm}{cs:List aO}{ss:List dD}(hs:cQ zs ps cs)(h0:ss.length<=12)(h1:gr (ss.map (·.1)))(h2:∀s∈ss,sO zs.length ps.length cs.length s):uE (zs,(ps,(cs,ss))):=jyM hs h0 h1 h2
instance(L:cb):Decidable (Rt L):=
 decidable_of_iff (1<=L.2.2.1.1/\L.2.2.1.1<=100000/\0<=L.2.2.1.2/\L.2.2.1.2<=86399/\0<=L.2.2.2.1/\L.2.2.2.1<=2/\1<=L.2.2.2.2.1/\L.2.2.2.2.1<=400/\L.2.2.2.2.2.1≠[])
  ⟨λ⟨a,b,c,d,e,f,g,h,i⟩=>⟨a,b,c,d,e,f,g,h,i⟩,λ⟨a,b,c,d,e,f,g,h,i⟩=>⟨a,b,c,d,e,f,g,h,i⟩⟩
section
variable{z:bP}{l:bA}(h4:Z4 z l)
include h4
end
abbrev jP:=Int×(Int×Int)
abbrev bF:=List jP
def Ch(f:Int->Int)(b:Int):Int->bF->Prop
 |a,[]=>a=b
 |a,s::r=>s.1=a/\a<=s.2.1/\(∀t,a<=t->t<s.2.1->f t=s.2.2)/\Ch f b s.2.1 r
def eV(f:Int->Int)(b:Int):Option Int->Int->bF->Prop
 |_,a,[]=>a=b
 |q,a,s::r=>s.1=a/\a<s.2.1/\q≠some s.2.2/\(∀t,a<=t->t<s.2.1->f t=s.2.2)/\eV f b (some s.2.2) s.2.1 r
theorem Ch.le{f:Int->Int}{b:Int}:∀{l:bF}{a:Int},Ch f b a l->a<=b
 |[],_,h=>Int.le_of_eq h
 |_::_,_,h=>qp h.2.1 h.2.2.2.le
theorem Ch.app{f:Int->Int}{b c:Int}:∀{l r:bF}{a:Int},Ch f b a l->Ch f c b r->Ch f c a (l++r)
 |[],_,_,h,h'=>by have h:_=_:=h;subst h;exact h'
 |_::_,_,_,h,h'=>⟨h.1,h.2.1,h.2.2.1,h.2.2.2.app h'⟩
theorem Ch.snoc{f:Int->Int}{b c p:Int}{l:bF}{a:Int}(h:Ch f b a l)(wV:b<=c)(hp:∀t,b<=t->t<c->f t=p):Ch f c a (l++[(b,(c,p))]):=
 h.app ⟨rfl,wV,hp,rfl⟩
theorem eV.ch{f:Int->Int}{b:Int}:∀{l:bF}{q:Option Int}{a:Int},eV f b q a l->Ch f b a l
 |[],_,_,h=>h
 |_::_,_,_,h=>⟨h.1,Int.le_of_lt h.2.1,h.2.2.2.1,h.2.2.2.2.ch⟩
theorem eV.uniq{f:Int->Int}{b:Int}:∀{l l':bF}{q:Option Int}{a:Int},eV f b q a l->eV f b q a l'->l=l'
 |[],[],_,_,_,_=>rfl
 |[],_::_,_,_,h,h'=>by have:=h'.2.1;have:=h'.2.2.2.2.ch.le;have h:_=_:=h;omega
 |_::_,[],_,_,h,h'=>by have:=h.2.1;have:=h.2.2.2.2.ch.le;have h':_=_:=h';omega
 |s::r,s'::r',q,a,h,h'=>by
  obtain⟨h1,h2,h3,h4,h5⟩:=h;obtain⟨g1,g2,g3,g4,g5⟩:=h';have hp:s.2.2=s'.2.2:=by rw[<-h4 a (by omega) h2,<-g4 a (by omega) g2]
  have ht:s.2.1=s'.2.1:=by
   apply jp;intro aN;by_cases ak:s.2.1<s'.2.1
   .match r,h5 with
    |[],h5=>have:=g5.ch.le;have h5:_=_:=h5;omega
    |u::v,h5=>have e1:=h5.2.2.2.1 s.2.1 (by omega) h5.2.1;have e2:=g4 s.2.1 (by omega) ak;exact h5.2.2.1 (by rw[<-e1,e2,hp])
   .match r',g5 with
    |[],g5=>have:=h5.ch.le;have g5:_=_:=g5;omega
    |u::v,g5=>have e1:=g5.2.2.2.1 s'.2.1 (by omega) g5.2.1;have e2:=h4 s'.2.1 (by omega) (by omega);exact g5.2.2.1 (by rw[<-e1,e2,hp])
  have hs:s=s':=Prod.ext (by rw[h1,g1]) (Prod.ext ht hp);subst hs;rw[h5.uniq g5]
def lstP:Option Int->bF->Option Int
 |q,[]=>q
 |_,s::r=>lstP (some s.2.2) r
theorem XH:∀(l:bF)(q:Option Int)(s:jP),lstP q (l++[s])=some s.2.2
 |[],_,_=>rfl
 |_::r,_,s=>XH r _ s
theorem eV.snoc{f:Int->Int}{b c p:Int}:∀{l:bF}{q:Option Int}{a:Int},eV f b q a l->b<c->lstP q l≠some p->(∀t,b<=t->t<c->f t=p)->eV f c q a (l++[(b,(c,p))])
 |[],_,_,h,wV,hl,hp=>by have h:_=_:=h;subst h;exact⟨rfl,wV,hl,hp,rfl⟩
 |_::_,_,_,h,wV,hl,hp=>⟨h.1,h.2.1,h.2.2.1,h.2.2.2.1,h.2.2.2.2.snoc wV hl hp⟩
theorem eV.ext{f:Int->Int}{b c x p:Int}:∀{l:bF}{q:Option Int}{a:Int},eV f b q a (l++[(x,(b,p))])->b<=c->(∀t,b<=t->t<c->f t=p)->eV f c q a (l++[(x,(c,p))])
 |[],_,_,h,wV,hp=>⟨h.1,by have:=h.2.1;dsimp only at this ⊢;omega,h.2.2.1,λt h1 h2=>by
  by_cases ht:t<b
  .exact h.2.2.2.1 t h1 ht
  .exact hp t (by omega) h2,rfl⟩
 |_::_,_,_,h,wV,hp=>⟨h.1,h.2.1,h.2.2.1,h.2.2.2.1,h.2.2.2.2.ext wV hp⟩
def mP(out:bF)(s:jP):bF:=
 if s.2.1<=s.1 then out else match out.getLast? with
  |some x=>if x.2.1=s.1/\x.2.2=s.2.2 then out.dropLast++[(x.1,(s.2.1,x.2.2))] else out++[s]
  |none=>out++[s]
theorem jz0{f:Int->Int}{a b:Int}{out:bF}(h:eV f b none a out){s:jP}(h1:s.1=b)(h2:b<=s.2.1)(h3:∀t,b<=t->t<s.2.1->f t=s.2.2):eV f s.2.1 none a (mP out s):=by
 obtain⟨x,y,p⟩:=s;dsimp only at h1 h2 h3 ⊢;subst h1;unfold mP;dsimp only;by_cases ud:y<=x
 .rw[if_pos ud];have:y=x:=by omega
  subst this;exact h
 .rw[if_neg ud];rcases List.eq_nil_or_concat out with rfl|⟨l,u,rfl⟩
  .exact h.snoc (by omega) (by simp[lstP]) h3
  .rw[List.concat_eq_append]at h ⊢;rw[List.getLast?_append];simp only[yb,Option.some_or];by_cases hu:u.2.1=x/\u.2.2=p
   .rw[if_pos hu,List.dropLast_concat];obtain⟨u1,u2,u3⟩:=u;dsimp only at hu ⊢;obtain⟨rfl,rfl⟩:=hu;exact h.ext h2 h3
   .rw[if_neg hu];refine h.snoc (by omega) ?_ h3;rw[XH];intro e;have hp:u.2.2=p:=by simpa using e
    refine hu ⟨?_,hp⟩
    have:∀(l:bF)(q:Option Int)(a:Int),eV f x q a (l++[u])->u.2.1=x:=by
     intro l;induction l with
     |nil=>intro q a h;exact h.2.2.2.2
     |cons v r ih=>intro q a h;exact ih _ _ h.2.2.2.2
    exact this l _ _ h
theorem XI{f:Int->Int}{b:Int}:∀(l:bF){a c:Int}{out:bF},eV f c none a out->Ch f b c l->eV f b none a (l.foldl mP out)
 |[],_,_,_,h,h'=>by have h':_=_:=h';subst h';exact h
 |s::r,_,_,_,h,h'=>XI r (jz0 h h'.1 h'.2.1 h'.2.2.1) h'.2.2.2
theorem Ch.cov{f:Int->Int}{a b:Int}{l:bF}(h:Ch f b a l):eV f b none a (l.foldl mP []):=XI l (show eV f a none a [] from rfl) h
theorem XJ{f:Int->Int}:∀{l:bF}{a b:Int},a<=b->l.Pairwise (λs u=>s.2.1<=u.1)->(∀s∈l,s.1<s.2.1/\∀t,s.1<=t->t<s.2.1->f t=s.2.2)->
  (∀x,(a<=x/\x<b)↔∃s∈l,s.1<=x/\x<s.2.1)->Ch f b a l
 |[],a,b,dj,_,_,hc=>by
  apply jp;intro aN;have aN:a≠b:=aN;obtain⟨s,hs,_⟩:=(hc a).1 ⟨ke _,by omega⟩;simp at hs
 |s::r,a,b,dj,hp,hf,hc=>by
  obtain⟨s1,s2⟩:=hf s (by simp);obtain⟨p1,p2⟩:=kx.1 hp;have h1:=(hc s.1).2 ⟨s,by simp,ke _,s1⟩;have h2:=(hc (s.2.1-1)).2 ⟨s,by simp,by omega,by omega⟩
  have he:s.1=a:=by
   obtain⟨u,hu,u1,u2⟩:=(hc a).1 ⟨ke _,by omega⟩;rcases jc.1 hu with rfl|hu
   .omega
   .have:=p1 u hu;omega
  refine⟨he,by omega,λt t1 t2=>s2 t (by omega) t2,XJ (by omega) p2 (λu hu=>hf u (by simp[hu])) (λx=>⟨λhx=>?_,λ⟨u,hu,u1,u2⟩=>?_⟩)⟩
  .obtain⟨u,hu,u1,u2⟩:=(hc x).1 ⟨by omega,hx.2⟩;rcases jc.1 hu with rfl|hu
   .omega
   .exact⟨u,hu,u1,u2⟩
  .have:=p1 u hu;have:=(hc x).2 ⟨u,by simp[hu],u1,u2⟩;omega
theorem Ch.mem{f:Int->Int}{b:Int}:∀{l:bF}{a:Int},Ch f b a l->∀s∈l,a<=s.1/\s.1<=s.2.1/\s.2.1<=b/\∀t,s.1<=t->t<s.2.1->f t=s.2.2
 |[],_,_,s,hs=>by simp at hs
 |u::r,a,h,s,hs=>by
  obtain⟨h1,h2,h3,h4⟩:=h;rcases jc.1 hs with rfl|hs
  .exact⟨by omega,by omega,h4.le,λt t1 t2=>h3 t (by omega) t2⟩
  .have:=h4.mem s hs;exact⟨by omega,this.2.1,this.2.2.1,this.2.2.2⟩
theorem Ch.has{f:Int->Int}{b:Int}:∀{l:bF}{a:Int},Ch f b a l->∀x,a<=x->x<b->∃s∈l,s.1<=x/\x<s.2.1
 |[],_,h,x,h1,h2=>by have h:_=_:=h;omega
 |u::r,a,h,x,h1,h2=>by
  obtain⟨g1,g2,g3,g4⟩:=h;by_cases hx:x<u.2.1
  .exact⟨u,by simp,by omega,hx⟩
  .obtain⟨s,hs,e⟩:=g4.has x (by omega) h2;exact⟨s,by simp[hs],e⟩
theorem Ch.congr{f g:Int->Int}{b:Int}:∀{l:bF}{a:Int},Ch f b a l->(∀t,a<=t->t<b->f t=g t)->Ch g b a l
 |[],_,h,_=>h
 |u::r,a,h,hg=>by
  obtain⟨g1,g2,g3,g4⟩:=h;have:=g4.le;exact⟨g1,g2,λt t1 t2=>by rw[<-hg t t1 (by omega)];exact g3 t t1 t2,g4.congr (λt t1 t2=>hg t (by omega) t2)⟩
theorem eV.pos{f:Int->Int}{b:Int}:∀{l:bF}{q:Option Int}{a:Int},eV f b q a l->∀s∈l,s.1<s.2.1
 |[],_,_,_,s,hs=>by simp at hs
 |u::r,_,a,h,s,hs=>by
  rcases jc.1 hs with rfl|hs
  .have:=h.1;have:=h.2.1;omega
  .exact h.2.2.2.2.pos s hs
end Go.Proofs.Pw
