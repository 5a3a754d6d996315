/- span.Common and span.Without: meets and vQ of sets. -/
import Derived.Test.YtaieocafhcjelaaGreatDPF
import Derived.Test.YtaieocafhcjelaaGreatDPE
import Derived.Test.YtaieocafhcjelaaGreatDPC
import Derived.KernelRfl
import Derived.Test.YtaieocafhcjelaaGreatDPB
import Derived.Test.YtaieocafhcjelaaGreatDLD
open Go Go.Lft
namespace Go.Proofs.Pw
theorem bB.weak{p q:Int}(hq:q<=p):∀{l:SL},bB p l->bB q l
 |[],_=>trivial
 |_::_,h=>⟨by have:=h.1;omega,h.2⟩
theorem bB.low{p x:Int}:∀{l:SL},bB p l->br x l->p<x
 |[],_,h=>absurd h gE
 |s::r,h,hx=>by
  rcases eM.1 hx with hx|hx
  .have:=h.1;omega
  .have:=bB.low h.2.2 hx;have:=h.1;have:=h.2.1;omega
theorem bB.mem{p:Int}:∀{l:SL},bB p l->∀s∈l,p<s.1/\s.1<s.2
 |[],_,s,hs=>by simp at hs
 |u::r,h,s,hs=>by
  rcases je.1 hs with rfl|hs
  .exact⟨h.1,h.2.1⟩
  .have:=bB.mem h.2.2 s hs;have:=h.1;have:=h.2.1;omega
def lN:Nat->SL->SL->SL
 |n+1,s::a,u::b=>(if (if u.1>s.1 then u.1 else s.1)<(if u.2<s.2 then u.2 else s.2) then [((if u.1>s.1 then u.1 else s.1),(if u.2<s.2 then u.2 else s.2))] else [])++
  (if s.2<u.2 then lN n a (u::b) else lN n (s::a) b)
 |_,_,_=>[]
theorem Nf:∀(n:Nat)(a b:SL)(p q:Int),a.length+b.length<=n->bB p a->bB q b->(∀x,br x (lN n a b)↔br x a/\br x b)/\bB p (lN n a b)/\bB q (lN n a b)/\(lN n a b).length<=a.length+b.length
 |0,a,b,p,q,hn,_,_=>by
  obtain rfl:a=[]:=kj.1 (by omega);exact⟨λx=>⟨λh=>absurd h gE,λh=>absurd h.1 gE⟩,trivial,trivial,by simp[lN]⟩
 |n+1,[],b,p,q,_,_,_=>⟨λx=>⟨λh=>absurd h gE,λh=>absurd h.1 gE⟩,trivial,trivial,by simp[lN]⟩
 |n+1,_::_,[],p,q,_,_,_=>⟨λx=>⟨λh=>absurd h gE,λh=>absurd h.2 gE⟩,trivial,trivial,by simp[lN]⟩
 |n+1,s::a,u::b,p,q,hn,ha,hb=>by
  obtain⟨a1,a2,a3⟩:=ha;obtain⟨b1,b2,b3⟩:=hb;simp only[jl]at hn ⊢
  have hx:∃f t:Int,f=(if u.1>s.1 then u.1 else s.1)/\t=(if u.2<s.2 then u.2 else s.2)/\(∀x,(f<=x/\x<t)↔(s.1<=x/\x<s.2)/\(u.1<=x/\x<u.2))/\p<f/\q<f/\t<=s.2/\t<=u.2:=by
   refine⟨_,_,rfl,rfl,λx=>?_,?_,?_,?_,?_⟩
   .constructor
    .intro h;split at h<;>split at h<;>omega
    .intro h;split<;>split<;>omega
   .split<;>omega
   .split<;>omega
   .split<;>omega
   .split<;>omega
  obtain⟨f,t,ef,et,hi,f1,f2,t1,t2⟩:=hx;simp only[lN,<-ef,<-et]
  have key:∀(a' b':SL)(r:SL),(∀x,br x r↔br x a'/\br x b')->bB t r->bB p r->bB q r->r.length<=a'.length+b'.length->a'.length+b'.length+1=a.length+1+(b.length+1)->
    (∀x,br x (s::a)/\br x (u::b)↔(f<=x/\x<t)\/(br x a'/\br x b'))->
    (∀x,br x ((if f<t then [(f,t)] else [])++r)↔br x (s::a)/\br x (u::b))/\bB p ((if f<t then [(f,t)] else [])++r)/\bB q ((if f<t then [(f,t)] else [])++r)/\((if f<t then [(f,t)] else [])++r).length<=a.length+1+(b.length+1):=by
   intro a' b' r wD tM Ng G0 hl wA qW;by_cases ir:f<t
   .rw[if_pos ir];refine⟨λx=>?_,⟨f1,ir,tM⟩,⟨f2,ir,tM⟩,by simp;omega⟩;rw[qW,Ec,wD x,eM];constructor
    .rintro ((h|h)|h)
     .exact .inl h
     .exact absurd h gE
     .exact .inr h
    .rintro (h|h)
     .exact .inl (.inl h)
     .exact .inr h
   .rw[if_neg ir,jm];refine⟨λx=>?_,Ng,G0,by omega⟩;rw[qW,wD x];constructor
    .exact .inr
    .rintro (h|h)
     .omega
     .exact h
  by_cases hc:s.2<u.2
  .rw[if_pos hc];obtain⟨i1,i2,i3,i4⟩:=Nf n a (u::b) s.2 q (by simp;omega) a3 ⟨b1,b2,b3⟩;refine key a (u::b) _ i1 (i2.weak t1) (i2.weak (by omega)) i3 i4 (by simp;omega) (λx=>?_);rw[eM,hi x];constructor
   .rintro⟨h|h,h'⟩
    .rcases eM.1 h' with h'|h'
     .exact .inl ⟨h,h'⟩
     .have:=bB.low b3 h';omega
    .exact .inr ⟨h,h'⟩
   .rintro (h|h)
    .exact⟨.inl h.1,eM.2 (.inl h.2)⟩
    .exact⟨.inr h.1,h.2⟩
  .rw[if_neg hc];obtain⟨i1,i2,i3,i4⟩:=Nf n (s::a) b p u.2 (by simp;omega) ⟨a1,a2,a3⟩ b3;refine key (s::a) b _ i1 (i3.weak t2) i2 (i3.weak (by omega)) i4 (by simp;omega) (λx=>?_);rw[eM (s:=u),hi x];constructor
   .rintro⟨h',h|h⟩
    .rcases eM.1 h' with h'|h'
     .exact .inl ⟨h',h⟩
     .have:=bB.low a3 h';omega
    .exact .inr ⟨h',h⟩
   .rintro (h|h)
    .exact⟨eM.2 (.inl h.1),.inl h.2⟩
    .exact⟨h.1,.inr h.2⟩
theorem Nh{A B:SL}(hA:A.length<=10000000)(hB:B.length<=10000000):∀(n i k:Nat)(acc:SL),i<=A.length->k<=B.length->(A.length-i)+(B.length-k)=n->acc.length+n<=30000000->
  tx A B (i:Int) (k:Int) acc=some (acc++lN n (A.drop i) (B.drop k))
 |n,i,k,acc,hi,hk,hn,fc=>by
  rw[jjM];simp only[j7a,show Int.ofNat (List.length A)=(A.length:Int) from rfl,show Int.ofNat (List.length B)=(B.length:Int) from rfl];by_cases dW:i<A.length/\k<B.length
  .obtain⟨bF,bg⟩:=dW;obtain⟨n,rfl⟩:∃m,n=m+1:=⟨n-1,by omega⟩;have gA:A.getD i ((0:Int),(0:Int))=A[i]:=by simp[List.getD,bF]
   have gB:B.getD k ((0:Int),(0:Int))=B[k]:=by simp[List.getD,bg]
   rw[aj (show (i:Int)<(A.length:Int) by omega),aj (show (k:Int)<(B.length:Int) by omega),aU (show (0:Int)<=(i:Int) by omega) (by omega),aU (show (0:Int)<=(k:Int) by omega) (by omega)];simp only[j5,j7,gA,gB];rw[ah (x:=(i:Int)+1) (by omega) (by omega),ah (x:=(k:Int)+1) (by omega) (by omega)];rw[jc bF,jc bg];simp only[lN];generalize (if B[k].1>A[i].1 then B[k].1 else A[i].1:Int)=f;generalize (if B[k].2<A[i].2 then B[k].2 else A[i].2:Int)=t
   have Ee:∀ba:SL,ba.length<=acc.length+1->tx A B ((i:Int)+1) (k:Int) ba=some (ba++lN n (A.drop (i+1)) (B[k]::B.drop (k+1))):=λba BQ=>by
    have:=Nh hA hB n (i+1) k ba (by omega) (by omega) (by omega) (by omega);rw[<-jc bg];exact this
   have Ef:∀ba:SL,ba.length<=acc.length+1->tx A B (i:Int) ((k:Int)+1) ba=some (ba++lN n (A[i]::A.drop (i+1)) (B.drop (k+1))):=λba BQ=>by
    have:=Nh hA hB n i (k+1) ba (by omega) (by omega) (by omega) (by omega);rw[<-jc bF];exact this
   by_cases ir:f<t
   .rw[aj ir,if_pos ir,aj (by simp[aS];omega)];simp only[j5];by_cases hc:A[i].2<B[k].2
    .rw[aj hc,if_pos hc];simp only[j5,aF];rw[Ee _ (by simp),jd]
    .rw[ak hc,if_neg hc];simp only[j6,aF];rw[Ef _ (by simp),jd]
   .rw[ak ir,if_neg ir];simp only[j6];by_cases hc:A[i].2<B[k].2
    .rw[aj hc,if_pos hc];simp only[j5,aF];rw[Ee _ (by omega),jm]
    .rw[ak hc,if_neg hc];simp only[j6,aF];rw[Ef _ (by omega),jm]
  .have hc:cond (decide ((i:Int)<(A.length:Int))) (decide ((k:Int)<(B.length:Int))) false=false:=by
    by_cases h1:i<A.length
    .rw[aj (by omega),j5];exact ak (by omega)
    .rw[ak (by omega),j6]
   rw[hc,j6,aW]
   have:lN n (A.drop i) (B.drop k)=[]:=by
    by_cases h1:i<A.length
    .rw[vk (show B.length<=k by omega)];cases n<;>cases A.drop i<;>rfl
    .rw[vk (show A.length<=i by omega)];cases n<;>rfl
   rw[this,kb]
theorem Vd{A B:SL}{p q:Int}(ha:bB p A)(hb:bB q B)(hA:A.length<=10000000)(hB:B.length<=10000000) :
  ∃out,j4o A B=some out/\bB p out/\(∀x,br x out↔br x A/\br x B)/\out.length<=A.length+B.length:=by
 have lp:=Nh hA hB (A.length+B.length) 0 0 [] (by omega) (by omega) (by omega) (by simp;omega);obtain⟨h1,h2,h3,h4⟩:=Nf (A.length+B.length) A B p q (jj _) ha hb;refine⟨lN (A.length+B.length) A B,?_,h2,h1,h4⟩;simp only[j4o,show tx A B 0 0 []=_ from lp,j3,jm,jw]
def mE(e:Int):Int->SL->SL×Int
 |t,[]=>([],t)
 |t,u::b=>if u.1<e then ((if t<u.1 then [(t,u.1)] else [])++(mE e (if u.2>t then u.2 else t) b).1,(mE e (if u.2>t then u.2 else t) b).2) else ([],t)
def jN(e t:Int)(b:SL):SL:=(mE e t b).1++(if (mE e t b).2<e then [((mE e t b).2,e)] else [])
theorem jz1{e t:Int}{u:Int×Int}{b:SL}(h:u.1<e):jN e t (u::b)=(if t<u.1 then [(t,u.1)] else [])++jN e (if u.2>t then u.2 else t) b:=by
 simp only[jN,mE,if_pos h,jd]
theorem Ve{e:Int}:∀(b:SL)(t q:Int),bB q b->(∀x,br x (jN e t b)↔(t<=x/\x<e)/\¬br x b)/\bB (t-1) (jN e t b)/\(∀s∈jN e t b,s.2<=e)/\(jN e t b).length<=b.countP (λu=>decide (t<u.1)&&decide (u.1<e))+1
 |[],t,q,_=>by
  rw[show jN e t []=(if t<e then [(t,e)] else []) from rfl];by_cases h:t<e
  .rw[if_pos h];exact⟨λx=>⟨λhx=>⟨by rcases eM.1 hx with hx|hx;exact hx;exact absurd hx gE,gE⟩,λhx=>eM.2 (.inl hx.1)⟩,⟨by dsimp only;omega,h,trivial⟩,by simp,by simp⟩
  .rw[if_neg h];exact⟨λx=>⟨λhx=>absurd hx gE,λhx=>by omega⟩,trivial,by simp,by simp⟩
 |u::b,t,q,hb=>by
  obtain⟨b1,b2,b3⟩:=hb;by_cases hu:u.1<e
  .rw[jz1 hu];have hm:∃t',t'=(if u.2>t then u.2 else t)/\t<=t'/\u.2<=t'/\(t'=t\/t'=u.2):=⟨_,rfl,by split<;>omega,by split<;>omega,by split<;>omega⟩;obtain⟨t',e',h1,h2,h3⟩:=hm;rw[<-e'];obtain⟨i1,i2,i3,i4⟩:=Ve b t' u.2 b3;have eT:∀x,br x b->u.2<x:=λx=>bB.low b3
   have hcp:b.countP (λu=>decide (t'<u.1)&&decide (u.1<e))<=b.countP (λu=>decide (t<u.1)&&decide (u.1<e)):=List.countP_mono_left λv _ h=>by
    simp only[jb,jo]at h ⊢;omega
   by_cases yH:t<u.1
   .rw[if_pos yH]
    refine⟨λx=>?_,⟨by dsimp only;omega,yH,i2.weak (by omega)⟩,λs hs=>?_,by
     rw[List.countP_cons_of_pos (by simp[yH,hu]),List.singleton_append,jl];omega⟩
    .rw[List.singleton_append,eM,i1 x,eM];constructor
     .rintro (h|h)
      .exact⟨by omega,λh'=>by
        rcases h' with h'|h'
        .omega
        .have:=eT x h';omega⟩
      .exact⟨by omega,λh'=>by
        rcases h' with h'|h'
        .omega
        .exact h.2 h'⟩
     .rintro⟨h,h'⟩
      by_cases hx:x<u.1
      .exact .inl ⟨h.1,hx⟩
      .by_cases ob:x<u.2
       .exact absurd (.inl ⟨by omega,ob⟩) h'
       .exact .inr ⟨by omega,λh2=>h' (.inr h2)⟩
    .rcases je.1 hs with rfl|hs
     .dsimp only;omega
     .exact i3 s hs
   .rw[if_neg yH,jm]
    refine⟨λx=>?_,i2.weak (by omega),i3,by
     rw[List.countP_cons_of_neg (by simp[yH])];omega⟩
    rw[i1 x,eM];constructor
    .rintro h
     exact⟨by omega,λh'=>by
      rcases h' with h'|h'
      .omega
      .exact h.2 h'⟩
    .rintro⟨h,h'⟩
     by_cases ob:x<u.2
     .exact absurd (.inl ⟨by omega,ob⟩) h'
     .exact⟨by omega,λh2=>h' (.inr h2)⟩
  .have:jN e t (u::b)=if t<e then [(t,e)] else []:=by simp only[jN,mE,if_neg hu,jm]
   rw[this]
   have dI:∀x,x<e->¬br x (u::b):=λx hx h=>by
    rcases eM.1 h with h|h
    .omega
    .have:=bB.low b3 h;omega
   by_cases h:t<e
   .rw[if_pos h]
    exact⟨λx=>⟨λhx=>by
     rcases eM.1 hx with hx|hx
     .exact⟨hx,dI x hx.2⟩
     .exact absurd hx gE,λhx=>eM.2 (.inl hx.1)⟩,⟨by dsimp only;omega,h,trivial⟩,by simp,by simp⟩
   .rw[if_neg h];exact⟨λx=>⟨λhx=>absurd hx gE,λhx=>by omega⟩,trivial,by simp,by simp⟩
def pA(l:SL)(u:Int×Int):Bool:=l.any λs=>decide (s.1<u.1)&&decide (u.1<s.2)
theorem Vf{p q:Int×Int->Bool}(h:∀u,p u=true->q u=true->False):∀l:SL,l.countP p+l.countP q<=l.countP (λu=>p u||q u)
 |[]=>by simp
 |u::l=>by
  have ih:=Vf h l;have hu:=h u;simp only[List.countP_cons];cases hp:p u<;>cases hq:q u<;>simp_all<;>omega
theorem Vg{q:Int}:∀{b:SL}(k:Nat),bB q b->∃q',bB q' (b.drop k)
 |_,0,h=>⟨q,h⟩
 |[],_+1,_=>⟨q,trivial⟩
 |_::_,k+1,h=>Vg k h.2.2
section
variable{B:SL}(hB:B.length<=10000000)
include hB
theorem Vh{A:SL}{n m s e:Int}{acc:SL}:∀(d k:Nat),k+d=B.length->∃k':Nat,k<=k'/\k'<=B.length/\(∀j (h:j<B.length),k<=j->j<k'->B[j].2<=s)/\
  AE B (k:Int) A n m s e acc=some (B,(k':Int),A,n,m,s,e,acc)
 |0,k,hk=>by
  rw[Sa];simp only[j5a,show Int.ofNat (List.length B)=(B.length:Int) from rfl];rw[ak (by omega),j6,aW];exact⟨k,by omega,by omega,λj h h1 h2=>by omega,rfl⟩
 |d+1,k,hk=>by
  have bg:k<B.length:=by omega
  have gB:B.getD k ((0:Int),(0:Int))=B[k]:=by simp[List.getD,bg]
  rw[Sa];simp only[j5a,show Int.ofNat (List.length B)=(B.length:Int) from rfl];rw[aj (by omega),aU (by omega) (by omega)];simp only[j5,j7,gB];by_cases hc:B[k].2<=s
  .rw[aj hc,j5,aF,ah (x:=(k:Int)+1) (by omega) (by omega)];obtain⟨k',h1,h2,h3,h4⟩:=Vh d (k+1) (by omega);refine⟨k',by omega,h2,λj h ha hb=>?_,h4⟩;by_cases Il:j=k
   .subst Il;exact hc
   .exact h3 j h (by omega) hb
  .rw[ak hc,j6,aW];exact⟨k,by omega,by omega,λj h h1 h2=>by omega,rfl⟩
theorem Vi{A:SL}{k n m s e:Int}:∀(d i:Nat)(t:Int)(acc:SL),i+d=B.length->acc.length+d<=4000000000->
  xU B k t (i:Int) A n m s e acc=some (B,k,(mE e t (B.drop i)).2,A,n,m,s,e,acc++(mE e t (B.drop i)).1)
 |0,i,t,acc,hi,fc=>by
  rw[Sb];simp only[j5b,show Int.ofNat (List.length B)=(B.length:Int) from rfl];rw[ak (by omega),j6,aW,jf (by omega)];simp[mE]
 |d+1,i,t,acc,hi,fc=>by
  have bF:i<B.length:=by omega
  have gB:B.getD i ((0:Int),(0:Int))=B[i]:=by simp[List.getD,bF]
  rw[Sb];simp only[j5b,show Int.ofNat (List.length B)=(B.length:Int) from rfl];rw[aj (by omega),aU (by omega) (by omega)];simp only[j5,j7,gB];rw[jc bF,ah (x:=(i:Int)+1) (by omega) (by omega)];by_cases hc:B[i].1<e
  .rw[aj hc];simp only[j5,mE,if_pos hc];have ih:∀ba:SL,ba.length<=acc.length+1->xU B k (if B[i].2>t then B[i].2 else t) ((i:Int)+1) A n m s e ba=_:=λba h'=>Vi d (i+1) (if B[i].2>t then B[i].2 else t) ba (by omega) (by omega);by_cases ht:t<B[i].1
   .rw[aj ht,if_pos ht,aj (by simp[aS];omega)];simp only[j5,aF];rw[ih _ (by simp),jd]
   .rw[ak ht,if_neg ht];simp only[j6,aF];rw[ih _ (by omega),jm]
  .rw[ak hc];simp only[j6,aW,mE,if_neg hc,kb]
theorem Vj{A:SL}(hA:A.length<=10000000){q:Int}(hb:bB q B):∀(d j k:Nat)(p:Int)(acc:SL),j+d=A.length->k<=B.length->bB p (A.drop j)->(∀i (h:i<B.length),i<k->∀x,br x (A.drop j)->B[i].2<=x)->acc.length+d+B.countP (pA (A.drop j))<=30000000->
  ∃out,vE B (k:Int) A (A.length:Int) (j:Int) acc=some (acc++out)/\bB p out/\(∀x,br x out↔br x (A.drop j)/\¬br x B)/\out.length<=d+B.countP (pA (A.drop j))
 |0,j,k,p,acc,hj,hk,_,_,fc=>by
  rw[Sc];simp only[j2L];rw[ak (by omega),j6,aW,jf (by omega)];exact⟨[],by simp,trivial,λx=>⟨λh=>absurd h gE,λh=>absurd h.1 gE⟩,by simp⟩
 |d+1,j,k,p,acc,hj,hk,ha,Ni,fc=>by
  have ez:j<A.length:=by omega
  have gA:A.getD j ((0:Int),(0:Int))=A[j]:=by simp[List.getD,ez]
  rw[jc ez]at ha Ni fc ⊢;obtain⟨a1,a2,a3⟩:=ha;obtain⟨k',h1,h2,h3,h4⟩:=Vh hB (A:=A) (n:=(A.length:Int)) (m:=(j:Int)) (s:=A[j].1) (e:=A[j].2) (acc:=acc) (B.length-k) k (by omega);have aM:∃q',bB q' (B.drop k'):=Vg k' hb;obtain⟨q',aM⟩:=aM
  have vR:∀x,A[j].1<=x->(br x B↔br x (B.drop k')):=by
   intro x hx;constructor
   .rintro⟨u,hu,u1,u2⟩
    obtain⟨i,hi,rfl⟩:=List.mem_iff_getElem.1 hu;by_cases iD:i<k'
    .by_cases yI:i<k
     .have:=Ni i hi yI A[j].1 (eM.2 (.inl ⟨kg _,a2⟩));omega
     .have:=h3 i hi (by omega) iD;omega
    .exact⟨B[i],List.mem_drop_iff_getElem.2 ⟨i-k',by omega,by simp[show k'+(i-k')=i by omega]⟩,u1,u2⟩
   .rintro⟨u,hu,u1,u2⟩
    exact⟨u,za hu,u1,u2⟩
  have w4:=Vi hB (A:=A) (k:=(k':Int)) (n:=(A.length:Int)) (m:=(j:Int)) (s:=A[j].1) (e:=A[j].2) (B.length-k') k' A[j].1 acc (by omega) (by omega);obtain⟨s1,s2,s3,s4⟩:=Ve (e:=A[j].2) (B.drop k') A[j].1 q' aM;have kB:(mE A[j].2 A[j].1 (B.drop k')).1.length<=(jN A[j].2 A[j].1 (B.drop k')).length:=by simp[jN]
  have CO:(jN A[j].2 A[j].1 (B.drop k')).length+B.countP (pA (A.drop (j+1)))<=B.countP (pA (A[j]::A.drop (j+1)))+1:=by
   have h5:(B.drop k').countP (λu=>decide (A[j].1<u.1)&&decide (u.1<A[j].2))<=B.countP (λu=>decide (A[j].1<u.1)&&decide (u.1<A[j].2)):=(List.drop_sublist k' B).countP_le
   have h6:=Vf (p:=λu=>decide (A[j].1<u.1)&&decide (u.1<A[j].2)) (q:=pA (A.drop (j+1))) (λu hp hq=>by
    obtain⟨s,hs,dp⟩:=zh.1 hq;have:=bB.mem a3 s hs;simp only[jb,jo]at hp dp;omega) B
   have h7:B.countP (λu=>(decide (A[j].1<u.1)&&decide (u.1<A[j].2))||pA (A.drop (j+1)) u)=B.countP (pA (A[j]::A.drop (j+1))):=rfl;omega
  have step:∀ba:SL,ba=acc++jN A[j].2 A[j].1 (B.drop k')->∃out,vE B (k':Int) A (A.length:Int) ((j:Int)+1) ba=some (acc++out)/\bB p out/\(∀x,br x out↔br x (A[j]::A.drop (j+1))/\¬br x B)/\out.length<=d+1+B.countP (pA (A[j]::A.drop (j+1))):=by
   rintro _ rfl
   obtain⟨out,e,o1,o2,o3⟩:=Vj hA hb d (j+1) k' A[j].2 (acc++jN A[j].2 A[j].1 (B.drop k')) (by omega) h2 a3 (λi hi iD x hx=>by
    have hlow:=bB.low a3 hx;by_cases yI:i<k
    .exact Ni i hi yI x (eM.2 (.inr hx))
    .have:=h3 i hi (by omega) iD;omega) (by rw[ja];omega)
   refine⟨jN A[j].2 A[j].1 (B.drop k')++out,by rw[<-jd];exact e,?_,λx=>?_,by rw[ja];omega⟩
   .have glue:∀(l:SL)(r:Int),bB r l->r<A[j].2->(∀s∈l,s.2<=A[j].2)->bB r (l++out):=by
     intro l;induction l with
     |nil=>intro r _ hr _;exact o1.weak (by omega)
     |cons s l ih=>intro r h hr hl;exact⟨h.1,h.2.1,by
      have:=hl s (by simp);by_cases hs:s.2<A[j].2
      .exact ih s.2 h.2.2 hs (λu hu=>hl u (by simp[hu]))
      .have he:s.2=A[j].2:=by omega
       match l,h.2.2 with
       |[],_=>exact o1.weak (by omega)
       |u::l',h'=>have:=hl u (by simp);have:=h'.1;have:=h'.2.1;omega⟩
    exact glue _ _ (s2.weak (by omega)) (by omega) s3
   .rw[Ec,s1 x,o2 x,eM];constructor
    .rintro (h|h)
     .exact⟨.inl h.1,λhx=>h.2 ((vR x h.1.1).1 hx)⟩
     .exact⟨.inr h.1,h.2⟩
    .rintro⟨h|h,h'⟩
     .exact .inl ⟨h,λhx=>h' ((vR x h.1).2 hx)⟩
     .exact .inr ⟨h,h'⟩
  rw[Sc];simp only[j2L];rw[aj (show (j:Int)<(A.length:Int) by omega),aU (by omega) (by omega)];simp only[j5,j7,gA,h4,j3,w4];rw[ah (x:=(j:Int)+1) (by omega) (by omega)];have hlen:(acc++(mE A[j].2 A[j].1 (B.drop k')).1).length<=2000000000:=by rw[ja];omega
  by_cases ht:(mE A[j].2 A[j].1 (B.drop k')).2<A[j].2
  .rw[aj ht];simp only[j5];rw[aj (by simp only[aS,ku];omega)];simp only[j5,aF];exact step _ (by simp only[jN,if_pos ht,jd])
  .rw[ak ht];simp only[j6,aF];exact step _ (by simp only[jN,if_neg ht,kb])
theorem Nj{A:SL}{p q:Int}(ha:bB p A)(hb:bB q B)(hA:A.length<=10000000) :
  ∃out,j31 A B=some out/\bB p out/\(∀x,br x out↔br x A/\¬br x B)/\out.length<=A.length+B.length:=by
 have hc:=List.countP_le_length (p:=pA (A.drop 0)) (l:=B);obtain⟨out,e,h1,h2,h3⟩:=Vj hB hA hb A.length 0 0 p [] (by omega) (by omega) ha (λi h hi=>by omega) (by simp only[qc];omega);refine⟨out,?_,h1,h2,by omega⟩;simp only[j31,show Int.ofNat (List.length A)=(A.length:Int) from rfl,show vE B 0 A (A.length:Int) 0 []=_ from e,j3,jm]
end
set_option linter.unusedSectionVars false
theorem Vk:j6r 2241=some 98981:=by kernel_rfl
theorem Vl:j6r 1970=some 0:=by kernel_rfl
theorem Vm{d:Int}(h:j2f d=some true):d<=100000:=by
 apply jq;intro hd;simp only[j2f,j82,Vl,Vk,j3]at h;rw[ak (show¬d<0 by omega),aj (show d>=98981 by omega)]at h;simp at h
theorem fD.rt2{nz np nc:Nat}{L:cb}(h:fD nz np nc L):Rt L:=h.rt (Vm h.day)
section
variable{zs:List cg}{ps:List dP}{cs:List bk}(hs:fe zs ps cs)
include hs
theorem yJ{i:Int}(h0:0<=i)(h1:i<(cs.length:Int)):vN zs.length (cs.getD i.toNat (ByteArray.empty,((0:Int),([]:List Int)))):=by
 have hi:i.toNat<cs.length:=by omega
 rw[show cs.getD i.toNat (ByteArray.empty,((0:Int),([]:List Int)))=cs[i.toNat] by simp[List.getD,hi]];exact hs.c.ck _ (jg hi)
end
def mF(es:List eJ)(p t:Int):Bool:=es.any λx=>x.1==0&&(x.2.1==p&&(decide (x.2.2.2.1<=t)&&decide (t<x.2.2.2.2)))
def eN(good:Nat->Bool):Nat->Option Nat
 |0=>none
 |n+1=>cond (good n) (some n) (eN good n)
def fU(es:List eJ)(t:Int)(Pf:Nat->Int)(i:Nat):Bool:=decide (0<=Pf i) && !mF es (Pf i) t
section
variable{zs:List cg}{ps:List dP}{cs:List bk}{ss:List cM}
theorem Vn(hz:∀z∈zs,ni z)(hc:tK (zs,(ps,(cs,ss)))):jgq (zs,(ps,(cs,ss)))=some (((zs,(ps,(cs,ss))),zs.map tb),true):=by
 have l7:zs.length<=16:=hc.zl;simp only[jgq,show j6a (zs,(ps,(cs,ss)))=_ from jrE hc,j3,jp,j6,jyV (ps:=ps) (cs:=cs) (ss:=ss) hz (show zs.length<=100 by omega)]
def ff(es:List eJ)(t:Int)(Pf:Nat->Int)(n:Nat):Int:=match eN (fU es t Pf) n with
 |some i=>Pf i
 |none=> -1
end
def iv:List ByteArray:=[(ByteArray.mk #[102,105,114,115,116]),(ByteArray.mk #[115,101,99,111,110,100]),(ByteArray.mk #[116,104,105,114,100])]
theorem jz2:fN iv:=by
 refine⟨by decide,λk hk=>?_⟩;simp only[iv,je,va,or_false]at hk;rcases hk with rfl|rfl|rfl<;>exact DL 60 _ true (by kernel_rfl)
structure SG(nz np nc:Nat)(s:cM):Prop where
 ck:nY nz np nc s
 nm:s.2.1.map (·.1)=fE.take s.2.1.length
 ll:s.2.1.length<=3
 el:s.2.2.length<=3
theorem Vo{L:List Int}{zs:List cg}{ps:List dP}{cs:List bk}(hs:D0 zs ps cs):∀(n:Nat)(a:Int)(ss:List cM),dm L a->ss.length+n<=3->ss.map (·.1)=iv.take ss.length->(∀s∈ss,SG zs.length ps.length cs.length s)->
  ∃yK a',Ga (n:Int) L a zs ps cs ss=some (L,a',zs,ps,cs,yK)/\yK.length=ss.length+n/\yK.map (·.1)=iv.take yK.length/\(∀s∈yK,SG zs.length ps.length cs.length s)/\dm L a'
 |0,a,ss,hd,hl,hn,hg=>by
  rw[Tb];simp only[j3S];rw[ak (by omega),j6,aW];exact⟨ss,a,rfl,rfl,hn,hg,hd⟩
 |n+1,a,ss,hd,hl,hn,hg=>by
  have an:ss.length<iv.length:=by show ss.length<3;omega
  have Nk:Int.tmod (Int.ofNat ss.length) 3=(ss.length:Int):=by have:Int.tmod (ss.length:Int) 3=(ss.length:Int):=Int.tmod_eq_of_lt (by omega) (by omega);exact this
  obtain⟨k,a3,e3,k0,k1,d3⟩:=cH (n:=4) hd (by omega) (by omega);obtain⟨ls,a4,e4,l4,lk,ln,d4⟩:=UN (s6:=((n+1:Nat):Int)) (nm:=List.getD iv ss.length ByteArray.empty) (ss:=ss) hs k.toNat a3 [] d3 (by simp;omega) (by simp) rfl;obtain⟨m,a5,e5,m0,m1,d5⟩:=cH (n:=4) d4 (by omega) (by omega);obtain⟨es,a6,e6,l6,ek,d6⟩:=UO (s6:=((n+1:Nat):Int)) (nm:=List.getD iv ss.length ByteArray.empty) (zs:=zs) (cs:=cs) (ss:=ss) (ls:=ls) hs m.toNat a5 [] d5 (by simp;omega) (by simp);rw[show ((k.toNat:Nat):Int)=k by omega]at e4;rw[show ((m.toNat:Nat):Int)=m by omega]at e6
  have dD:SG zs.length ps.length cs.length (List.getD iv ss.length ByteArray.empty,(ls,es)):=
   ⟨⟨by dsimp only;rw[ln];exact UJ.take _,lk,by dsimp only;omega,ek,by dsimp only;omega⟩,ln,l4,l6⟩
  obtain⟨yK,a',e',h1,h2,h3,h4⟩:=Vo hs n a6 (ss++[(List.getD iv ss.length ByteArray.empty,(ls,es))]) d6 (by simp;omega) (by
   rw[zq,hn,ja];exact GW an) (λs h=>by
   rcases jn.1 h with h|h
   .exact hg s h
   .simp at h;subst h;exact dD)
  rw[Tb];simp only[j3S];rw[aj (show ((n+1:Nat):Int)>0 by omega),Nk,aU (by omega) (by show (ss.length:Int)<(3:Nat);omega)];simp only[j5,j7,e3,j3];rw[show Dq ((n+1:Nat):Int) k L a3 zs ps cs (List.getD [(ByteArray.mk #[102,105,114,115,116]),(ByteArray.mk #[115,101,99,111,110,100]),(ByteArray.mk #[116,104,105,114,100])] ss.length ByteArray.empty) ss []=_ from e4];simp only[j3,e5,e6];rw[aj (by simp[aS];omega),ah (by omega) (by omega),show ((n+1:Nat):Int)-1=(n:Int) by omega];simp only[j5,aF];exact⟨yK,a',e',by rw[h1];simp;omega,h2,h3,h4⟩
theorem jtD{L:List Int}{a n:Int}(h:dm L a)(n0:1<=n)(n1:n<=3):∃zs ps cs ss a',j9s L a n=some ((zs,(ps,(cs,ss))),L,a')/\fe zs ps cs/\1<=ss.length/\(ss.length:Int)<=n/\ss.map (·.1)=iv.take ss.length/\(∀s∈ss,SG zs.length ps.length cs.length s)/\dm L a':=by
 obtain⟨zs,ps,cs,a1,e1,hs,d1⟩:=jvn h;obtain⟨x,a2,e2,x0,x1,d2⟩:=cH (n:=n) d1 (by omega) (by omega);obtain⟨ss,a3,e3,h1,h2,h3,d3⟩:=Vo hs.so (1+x).toNat a2 [] d2 (by simp;omega) (by simp) (by simp);rw[show (((1+x).toNat:Nat):Int)=1+x by omega]at e3;simp at h1;simp only[j9s,e1,e2,j3];rw[ah (x:=1+x) (by omega) (by omega)];simp only[e3,j3];exact⟨zs,ps,cs,ss,a3,rfl,hs,by omega,by omega,h2,h3,d3⟩
theorem jz3{zs:List cg}{ps:List dP}{cs:List bk}{ss:List cM}(hs:fe zs ps cs)(h0:ss.length<=12)(h1:fN (ss.map (·.1)))(h2:∀s∈ss,nY zs.length ps.length cs.length s):tK (zs,(ps,(cs,ss))):=jAc hs h0 h1 h2
instance(L:cb):Decidable (Rt L):=
 decidable_of_iff (1<=L.2.2.1.1/\L.2.2.1.1<=100000/\0<=L.2.2.1.2/\L.2.2.1.2<=86399/\0<=L.2.2.2.1/\L.2.2.2.1<=2/\1<=L.2.2.2.2.1/\L.2.2.2.2.1<=400/\L.2.2.2.2.2.1≠[])
  ⟨λ⟨a,b,c,d,e,f,g,h,i⟩=>⟨a,b,c,d,e,f,g,h,i⟩,λ⟨a,b,c,d,e,f,g,h,i⟩=>⟨a,b,c,d,e,f,g,h,i⟩⟩
abbrev eX:=Int×(Int×Int)
abbrev aX:=List eX
def Ch(f:Int->Int)(b:Int):Int->aX->Prop
 |a,[]=>a=b
 |a,s::r=>s.1=a/\a<=s.2.1/\(∀t,a<=t->t<s.2.1->f t=s.2.2)/\Ch f b s.2.1 r
def dO(f:Int->Int)(b:Int):Option Int->Int->aX->Prop
 |_,a,[]=>a=b
 |q,a,s::r=>s.1=a/\a<s.2.1/\q≠some s.2.2/\(∀t,a<=t->t<s.2.1->f t=s.2.2)/\dO f b (some s.2.2) s.2.1 r
theorem Ch.le{f:Int->Int}{b:Int}:∀{l:aX}{a:Int},Ch f b a l->a<=b
 |[],_,h=>Int.le_of_eq h
 |_::_,_,h=>q7 h.2.1 h.2.2.2.le
theorem Ch.app{f:Int->Int}{b c:Int}:∀{l r:aX}{a:Int},Ch f b a l->Ch f c b r->Ch f c a (l++r)
 |[],_,_,h,h'=>by have h:_=_:=h;subst h;exact h'
 |_::_,_,_,h,h'=>⟨h.1,h.2.1,h.2.2.1,h.2.2.2.app h'⟩
theorem Ch.snoc{f:Int->Int}{b c p:Int}{l:aX}{a:Int}(h:Ch f b a l)(vS:b<=c)(hp:∀t,b<=t->t<c->f t=p):Ch f c a (l++[(b,(c,p))]):=
 h.app ⟨rfl,vS,hp,rfl⟩
theorem dO.ch{f:Int->Int}{b:Int}:∀{l:aX}{q:Option Int}{a:Int},dO f b q a l->Ch f b a l
 |[],_,_,h=>h
 |_::_,_,_,h=>⟨h.1,vm h.2.1,h.2.2.2.1,h.2.2.2.2.ch⟩
def lstP:Option Int->aX->Option Int
 |q,[]=>q
 |_,s::r=>lstP (some s.2.2) r
theorem Vp:∀(l:aX)(q:Option Int)(s:eX),lstP q (l++[s])=some s.2.2
 |[],_,_=>rfl
 |_::r,_,s=>Vp r _ s
theorem dO.snoc{f:Int->Int}{b c p:Int}:∀{l:aX}{q:Option Int}{a:Int},dO f b q a l->b<c->lstP q l≠some p->(∀t,b<=t->t<c->f t=p)->dO f c q a (l++[(b,(c,p))])
 |[],_,_,h,vS,hl,hp=>by have h:_=_:=h;subst h;exact⟨rfl,vS,hl,hp,rfl⟩
 |_::_,_,_,h,vS,hl,hp=>⟨h.1,h.2.1,h.2.2.1,h.2.2.2.1,h.2.2.2.2.snoc vS hl hp⟩
theorem dO.ext{f:Int->Int}{b c x p:Int}:∀{l:aX}{q:Option Int}{a:Int},dO f b q a (l++[(x,(b,p))])->b<=c->(∀t,b<=t->t<c->f t=p)->dO f c q a (l++[(x,(c,p))])
 |[],_,_,h,vS,hp=>⟨h.1,by have:=h.2.1;dsimp only at this ⊢;omega,h.2.2.1,λt h1 h2=>by
  by_cases ht:t<b
  .exact h.2.2.2.1 t h1 ht
  .exact hp t (by omega) h2,rfl⟩
 |_::_,_,_,h,vS,hp=>⟨h.1,h.2.1,h.2.2.1,h.2.2.2.1,h.2.2.2.2.ext vS hp⟩
def lP(out:aX)(s:eX):aX:=
 if s.2.1<=s.1 then out else match out.getLast? with
  |some x=>if x.2.1=s.1/\x.2.2=s.2.2 then out.dropLast++[(x.1,(s.2.1,x.2.2))] else out++[s]
  |none=>out++[s]
theorem jAm{f:Int->Int}{a b:Int}{out:aX}(h:dO f b none a out){s:eX}(h1:s.1=b)(h2:b<=s.2.1)(h3:∀t,b<=t->t<s.2.1->f t=s.2.2):dO f s.2.1 none a (lP out s):=by
 obtain⟨x,y,p⟩:=s;dsimp only at h1 h2 h3 ⊢;subst h1;unfold lP;dsimp only;by_cases G1:y<=x
 .rw[if_pos G1];have:y=x:=by omega
  subst this;exact h
 .rw[if_neg G1];rcases List.eq_nil_or_concat out with rfl|⟨l,u,rfl⟩
  .exact h.snoc (by omega) (by simp[lstP]) h3
  .rw[List.concat_eq_append]at h ⊢;rw[List.getLast?_append];simp only[List.getLast?_singleton,Option.some_or];by_cases hu:u.2.1=x/\u.2.2=p
   .rw[if_pos hu,List.dropLast_concat];obtain⟨u1,u2,u3⟩:=u;dsimp only at hu ⊢;obtain⟨rfl,rfl⟩:=hu;exact h.ext h2 h3
   .rw[if_neg hu];refine h.snoc (by omega) ?_ h3;rw[Vp];intro e;have hp:u.2.2=p:=by simpa using e
    refine hu ⟨?_,hp⟩
    have:∀(l:aX)(q:Option Int)(a:Int),dO f x q a (l++[u])->u.2.1=x:=by
     intro l;induction l with
     |nil=>intro q a h;exact h.2.2.2.2
     |cons v r ih=>intro q a h;exact ih _ _ h.2.2.2.2
    exact this l _ _ h
theorem Vq{f:Int->Int}{b:Int}:∀(l:aX){a c:Int}{out:aX},dO f c none a out->Ch f b c l->dO f b none a (l.foldl lP out)
 |[],_,_,_,h,h'=>by have h':_=_:=h';subst h';exact h
 |s::r,_,_,_,h,h'=>Vq r (jAm h h'.1 h'.2.1 h'.2.2.1) h'.2.2.2
theorem Ch.cov{f:Int->Int}{a b:Int}{l:aX}(h:Ch f b a l):dO f b none a (l.foldl lP []):=Vq l (show dO f a none a [] from rfl) h
theorem Vr{f:Int->Int}:∀{l:aX}{a b:Int},a<=b->l.Pairwise (λs u=>s.2.1<=u.1)->(∀s∈l,s.1<s.2.1/\∀t,s.1<=t->t<s.2.1->f t=s.2.2)->
  (∀x,(a<=x/\x<b)↔∃s∈l,s.1<=x/\x<s.2.1)->Ch f b a l
 |[],a,b,bz,_,_,hc=>by
  apply jq;intro aZ;have aZ:a≠b:=aZ;obtain⟨s,hs,_⟩:=(hc a).1 ⟨kg _,by omega⟩;simp at hs
 |s::r,a,b,bz,hp,hf,hc=>by
  obtain⟨s1,s2⟩:=hf s (by simp);obtain⟨p1,p2⟩:=jx.1 hp;have h1:=(hc s.1).2 ⟨s,by simp,kg _,s1⟩;have h2:=(hc (s.2.1-1)).2 ⟨s,by simp,by omega,by omega⟩
  have he:s.1=a:=by
   obtain⟨u,hu,u1,u2⟩:=(hc a).1 ⟨kg _,by omega⟩;rcases je.1 hu with rfl|hu
   .omega
   .have:=p1 u hu;omega
  refine⟨he,by omega,λt t1 t2=>s2 t (by omega) t2,Vr (by omega) p2 (λu hu=>hf u (by simp[hu])) (λx=>⟨λhx=>?_,λ⟨u,hu,u1,u2⟩=>?_⟩)⟩
  .obtain⟨u,hu,u1,u2⟩:=(hc x).1 ⟨by omega,hx.2⟩;rcases je.1 hu with rfl|hu
   .omega
   .exact⟨u,hu,u1,u2⟩
  .have:=p1 u hu;have:=(hc x).2 ⟨u,by simp[hu],u1,u2⟩;omega
theorem Ch.mem{f:Int->Int}{b:Int}:∀{l:aX}{a:Int},Ch f b a l->∀s∈l,a<=s.1/\s.1<=s.2.1/\s.2.1<=b/\∀t,s.1<=t->t<s.2.1->f t=s.2.2
 |[],_,_,s,hs=>by simp at hs
 |u::r,a,h,s,hs=>by
  obtain⟨h1,h2,h3,h4⟩:=h;rcases je.1 hs with rfl|hs
  .exact⟨by omega,by omega,h4.le,λt t1 t2=>h3 t (by omega) t2⟩
  .have:=h4.mem s hs;exact⟨by omega,this.2.1,this.2.2.1,this.2.2.2⟩
theorem Ch.has{f:Int->Int}{b:Int}:∀{l:aX}{a:Int},Ch f b a l->∀x,a<=x->x<b->∃s∈l,s.1<=x/\x<s.2.1
 |[],_,h,x,h1,h2=>by have h:_=_:=h;omega
 |u::r,a,h,x,h1,h2=>by
  obtain⟨g1,g2,g3,g4⟩:=h;by_cases hx:x<u.2.1
  .exact⟨u,by simp,by omega,hx⟩
  .obtain⟨s,hs,e⟩:=g4.has x (by omega) h2;exact⟨s,by simp[hs],e⟩
theorem dO.pos{f:Int->Int}{b:Int}:∀{l:aX}{q:Option Int}{a:Int},dO f b q a l->∀s∈l,s.1<s.2.1
 |[],_,_,_,s,hs=>by simp at hs
 |u::r,_,a,h,s,hs=>by
  rcases je.1 hs with rfl|hs
  .have:=h.1;have:=h.2.1;omega
  .exact h.2.2.2.2.pos s hs
theorem dO.ne{f:Int->Int}{b:Int}{l:aX}{q:Option Int}{a:Int}(h:dO f b q a l)(bz:a<b):l≠[]:=by
 rintro rfl
 have h:_=_:=h;omega
end Go.Proofs.Pw
