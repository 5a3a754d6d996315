/- span.Common and span.Without: meets and vX of sets. -/
import Derived.Test.YtaieocafhcjelaaGreatEPF
import Derived.Test.YtaieocafhcjelaaGreatEPE
import Derived.Test.YtaieocafhcjelaaGreatEPC
import Derived.KernelRfl
import Derived.Test.YtaieocafhcjelaaGreatEPB
import Derived.Test.YtaieocafhcjelaaGreatELD
open Go Go.Lft
namespace Go.Proofs.Pw
theorem bK.weak{p q:Int}(hq:q<=p):∀{l:SL},bK p l->bK q l
 |[],_=>trivial
 |_::_,h=>⟨by have:=h.1;omega,h.2⟩
theorem bK.low{p x:Int}:∀{l:SL},bK p l->bz x l->p<x
 |[],_,h=>absurd h gJ
 |s::r,h,hx=>by
  rcases eY.1 hx with hx|hx
  .have:=h.1;omega
  .have:=bK.low h.2.2 hx;have:=h.1;have:=h.2.1;omega
theorem bK.mem{p:Int}:∀{l:SL},bK p l->∀s∈l,p<s.1/\s.1<s.2
 |[],_,s,hs=>by simp at hs
 |u::r,h,s,hs=>by
  rcases je.1 hs with rfl|hs
  .exact⟨h.1,h.2.1⟩
  .have:=bK.mem h.2.2 s hs;have:=h.1;have:=h.2.1;omega
def lT:Nat->SL->SL->SL
 |n+1,s::a,u::b=>(if (if u.1>s.1 then u.1 else s.1)<(if u.2<s.2 then u.2 else s.2) then [((if u.1>s.1 then u.1 else s.1),(if u.2<s.2 then u.2 else s.2))] else [])++
  (if s.2<u.2 then lT n a (u::b) else lT n (s::a) b)
 |_,_,_=>[]
theorem Nu:∀(n:Nat)(a b:SL)(p q:Int),a.length+b.length<=n->bK p a->bK q b->(∀x,bz x (lT n a b)↔bz x a/\bz x b)/\bK p (lT n a b)/\bK q (lT n a b)/\(lT n a b).length<=a.length+b.length
 |0,a,b,p,q,hn,_,_=>by
  obtain rfl:a=[]:=km.1 (by omega);exact⟨λx=>⟨λh=>absurd h gJ,λh=>absurd h.1 gJ⟩,trivial,trivial,by simp[lT]⟩
 |n+1,[],b,p,q,_,_,_=>⟨λx=>⟨λh=>absurd h gJ,λh=>absurd h.1 gJ⟩,trivial,trivial,by simp[lT]⟩
 |n+1,_::_,[],p,q,_,_,_=>⟨λx=>⟨λh=>absurd h gJ,λh=>absurd h.2 gJ⟩,trivial,trivial,by simp[lT]⟩
 |n+1,s::a,u::b,p,q,hn,ha,hb=>by
  obtain⟨a1,a2,a3⟩:=ha;obtain⟨b1,b2,b3⟩:=hb;simp only[jk]at hn ⊢
  have hx:∃f t:Int,f=(if u.1>s.1 then u.1 else s.1)/\t=(if u.2<s.2 then u.2 else s.2)/\(∀x,(f<=x/\x<t)↔(s.1<=x/\x<s.2)/\(u.1<=x/\x<u.2))/\p<f/\q<f/\t<=s.2/\t<=u.2:=by
   refine⟨_,_,rfl,rfl,λx=>?_,?_,?_,?_,?_⟩
   .constructor
    .intro h;split at h<;>split at h<;>omega
    .intro h;split<;>split<;>omega
   .split<;>omega
   .split<;>omega
   .split<;>omega
   .split<;>omega
  obtain⟨f,t,ef,et,hi,f1,f2,t1,t2⟩:=hx;simp only[lT,<-ef,<-et]
  have key:∀(a' b':SL)(r:SL),(∀x,bz x r↔bz x a'/\bz x b')->bK t r->bK p r->bK q r->r.length<=a'.length+b'.length->a'.length+b'.length+1=a.length+1+(b.length+1)->
    (∀x,bz x (s::a)/\bz x (u::b)↔(f<=x/\x<t)\/(bz x a'/\bz x b'))->
    (∀x,bz x ((if f<t then [(f,t)] else [])++r)↔bz x (s::a)/\bz x (u::b))/\bK p ((if f<t then [(f,t)] else [])++r)/\bK q ((if f<t then [(f,t)] else [])++r)/\((if f<t then [(f,t)] else [])++r).length<=a.length+1+(b.length+1):=by
   intro a' b' r wL tR Nv G7 hl wI qY;by_cases iy:f<t
   .rw[if_pos iy];refine⟨λx=>?_,⟨f1,iy,tR⟩,⟨f2,iy,tR⟩,by simp;omega⟩;rw[qY,Ep,wL x,eY];constructor
    .rintro ((h|h)|h)
     .exact .inl h
     .exact absurd h gJ
     .exact .inr h
    .rintro (h|h)
     .exact .inl (.inl h)
     .exact .inr h
   .rw[if_neg iy,jl];refine⟨λx=>?_,Nv,G7,by omega⟩;rw[qY,wL x];constructor
    .exact .inr
    .rintro (h|h)
     .omega
     .exact h
  by_cases hc:s.2<u.2
  .rw[if_pos hc];obtain⟨i1,i2,i3,i4⟩:=Nu n a (u::b) s.2 q (by simp;omega) a3 ⟨b1,b2,b3⟩;refine key a (u::b) _ i1 (i2.weak t1) (i2.weak (by omega)) i3 i4 (by simp;omega) (λx=>?_);rw[eY,hi x];constructor
   .rintro⟨h|h,h'⟩
    .rcases eY.1 h' with h'|h'
     .exact .inl ⟨h,h'⟩
     .have:=bK.low b3 h';omega
    .exact .inr ⟨h,h'⟩
   .rintro (h|h)
    .exact⟨.inl h.1,eY.2 (.inl h.2)⟩
    .exact⟨.inr h.1,h.2⟩
  .rw[if_neg hc];obtain⟨i1,i2,i3,i4⟩:=Nu n (s::a) b p u.2 (by simp;omega) ⟨a1,a2,a3⟩ b3;refine key (s::a) b _ i1 (i3.weak t2) i2 (i3.weak (by omega)) i4 (by simp;omega) (λx=>?_);rw[eY (s:=u),hi x];constructor
   .rintro⟨h',h|h⟩
    .rcases eY.1 h' with h'|h'
     .exact .inl ⟨h',h⟩
     .have:=bK.low a3 h';omega
    .exact .inr ⟨h',h⟩
   .rintro (h|h)
    .exact⟨eY.2 (.inl h.1),.inl h.2⟩
    .exact⟨h.1,.inr h.2⟩
theorem Nw{A B:SL}(hA:A.length<=10000000)(hB:B.length<=10000000):∀(n i k:Nat)(acc:SL),i<=A.length->k<=B.length->(A.length-i)+(B.length-k)=n->acc.length+n<=30000000->
  tC A B (i:Int) (k:Int) acc=some (acc++lT n (A.drop i) (B.drop k))
 |n,i,k,acc,hi,hk,hn,eT=>by
  rw[jjS];simp only[j7d,show Int.ofNat (List.length A)=(A.length:Int) from rfl,show Int.ofNat (List.length B)=(B.length:Int) from rfl];by_cases dZ:i<A.length/\k<B.length
  .obtain⟨bF,bg⟩:=dZ;obtain⟨n,rfl⟩:∃m,n=m+1:=⟨n-1,by omega⟩;have gA:A.getD i ((0:Int),(0:Int))=A[i]:=by simp[List.getD,bF]
   have gB:B.getD k ((0:Int),(0:Int))=B[k]:=by simp[List.getD,bg]
   rw[aj (show (i:Int)<(A.length:Int) by omega),aj (show (k:Int)<(B.length:Int) by omega),aX (show (0:Int)<=(i:Int) by omega) (by omega),aX (show (0:Int)<=(k:Int) by omega) (by omega)];simp only[j5,j7,gA,gB];rw[ai (x:=(i:Int)+1) (by omega) (by omega),ai (x:=(k:Int)+1) (by omega) (by omega)];rw[jc bF,jc bg];simp only[lT];generalize (if B[k].1>A[i].1 then B[k].1 else A[i].1:Int)=f;generalize (if B[k].2<A[i].2 then B[k].2 else A[i].2:Int)=t
   have Es:∀aZ:SL,aZ.length<=acc.length+1->tC A B ((i:Int)+1) (k:Int) aZ=some (aZ++lT n (A.drop (i+1)) (B[k]::B.drop (k+1))):=λaZ BZ=>by
    have:=Nw hA hB n (i+1) k aZ (by omega) (by omega) (by omega) (by omega);rw[<-jc bg];exact this
   have Et:∀aZ:SL,aZ.length<=acc.length+1->tC A B (i:Int) ((k:Int)+1) aZ=some (aZ++lT n (A[i]::A.drop (i+1)) (B.drop (k+1))):=λaZ BZ=>by
    have:=Nw hA hB n i (k+1) aZ (by omega) (by omega) (by omega) (by omega);rw[<-jc bF];exact this
   by_cases iy:f<t
   .rw[aj iy,if_pos iy,aj (by simp[aR];omega)];simp only[j5];by_cases hc:A[i].2<B[k].2
    .rw[aj hc,if_pos hc];simp only[j5,aJ];rw[Es _ (by simp),jd]
    .rw[al hc,if_neg hc];simp only[j6,aJ];rw[Et _ (by simp),jd]
   .rw[al iy,if_neg iy];simp only[j6];by_cases hc:A[i].2<B[k].2
    .rw[aj hc,if_pos hc];simp only[j5,aJ];rw[Es _ (by omega),jl]
    .rw[al hc,if_neg hc];simp only[j6,aJ];rw[Et _ (by omega),jl]
  .have hc:cond (decide ((i:Int)<(A.length:Int))) (decide ((k:Int)<(B.length:Int))) false=false:=by
    by_cases h1:i<A.length
    .rw[aj (by omega),j5];exact al (by omega)
    .rw[al (by omega),j6]
   rw[hc,j6,aW]
   have:lT n (A.drop i) (B.drop k)=[]:=by
    by_cases h1:i<A.length
    .rw[vr (show B.length<=k by omega)];cases n<;>cases A.drop i<;>rfl
    .rw[vr (show A.length<=i by omega)];cases n<;>rfl
   rw[this,ka]
theorem Vp{A B:SL}{p q:Int}(ha:bK p A)(hb:bK q B)(hA:A.length<=10000000)(hB:B.length<=10000000) :
  ∃out,j4p A B=some out/\bK p out/\(∀x,bz x out↔bz x A/\bz x B)/\out.length<=A.length+B.length:=by
 have lp:=Nw hA hB (A.length+B.length) 0 0 [] (by omega) (by omega) (by omega) (by simp;omega);obtain⟨h1,h2,h3,h4⟩:=Nu (A.length+B.length) A B p q (jg _) ha hb;refine⟨lT (A.length+B.length) A B,?_,h2,h1,h4⟩;simp only[j4p,show tC A B 0 0 []=_ from lp,j3,jl,jv]
def mH(e:Int):Int->SL->SL×Int
 |t,[]=>([],t)
 |t,u::b=>if u.1<e then ((if t<u.1 then [(t,u.1)] else [])++(mH e (if u.2>t then u.2 else t) b).1,(mH e (if u.2>t then u.2 else t) b).2) else ([],t)
def jS(e t:Int)(b:SL):SL:=(mH e t b).1++(if (mH e t b).2<e then [((mH e t b).2,e)] else [])
theorem jze{e t:Int}{u:Int×Int}{b:SL}(h:u.1<e):jS e t (u::b)=(if t<u.1 then [(t,u.1)] else [])++jS e (if u.2>t then u.2 else t) b:=by
 simp only[jS,mH,if_pos h,jd]
theorem Vq{e:Int}:∀(b:SL)(t q:Int),bK q b->(∀x,bz x (jS e t b)↔(t<=x/\x<e)/\¬bz x b)/\bK (t-1) (jS e t b)/\(∀s∈jS e t b,s.2<=e)/\(jS e t b).length<=b.countP (λu=>decide (t<u.1)&&decide (u.1<e))+1
 |[],t,q,_=>by
  rw[show jS e t []=(if t<e then [(t,e)] else []) from rfl];by_cases h:t<e
  .rw[if_pos h];exact⟨λx=>⟨λhx=>⟨by rcases eY.1 hx with hx|hx;exact hx;exact absurd hx gJ,gJ⟩,λhx=>eY.2 (.inl hx.1)⟩,⟨by dsimp only;omega,h,trivial⟩,by simp,by simp⟩
  .rw[if_neg h];exact⟨λx=>⟨λhx=>absurd hx gJ,λhx=>by omega⟩,trivial,by simp,by simp⟩
 |u::b,t,q,hb=>by
  obtain⟨b1,b2,b3⟩:=hb;by_cases hu:u.1<e
  .rw[jze hu];have hm:∃t',t'=(if u.2>t then u.2 else t)/\t<=t'/\u.2<=t'/\(t'=t\/t'=u.2):=⟨_,rfl,by split<;>omega,by split<;>omega,by split<;>omega⟩;obtain⟨t',e',h1,h2,h3⟩:=hm;rw[<-e'];obtain⟨i1,i2,i3,i4⟩:=Vq b t' u.2 b3;have ff:∀x,bz x b->u.2<x:=λx=>bK.low b3
   have Vr:b.countP (λu=>decide (t'<u.1)&&decide (u.1<e))<=b.countP (λu=>decide (t<u.1)&&decide (u.1<e)):=List.countP_mono_left λv _ h=>by
    simp only[jb,jo]at h ⊢;omega
   by_cases yP:t<u.1
   .rw[if_pos yP]
    refine⟨λx=>?_,⟨by dsimp only;omega,yP,i2.weak (by omega)⟩,λs hs=>?_,by
     rw[List.countP_cons_of_pos (by simp[yP,hu]),List.singleton_append,jk];omega⟩
    .rw[List.singleton_append,eY,i1 x,eY];constructor
     .rintro (h|h)
      .exact⟨by omega,λh'=>by
        rcases h' with h'|h'
        .omega
        .have:=ff x h';omega⟩
      .exact⟨by omega,λh'=>by
        rcases h' with h'|h'
        .omega
        .exact h.2 h'⟩
     .rintro⟨h,h'⟩
      by_cases hx:x<u.1
      .exact .inl ⟨h.1,hx⟩
      .by_cases om:x<u.2
       .exact absurd (.inl ⟨by omega,om⟩) h'
       .exact .inr ⟨by omega,λh2=>h' (.inr h2)⟩
    .rcases je.1 hs with rfl|hs
     .dsimp only;omega
     .exact i3 s hs
   .rw[if_neg yP,jl]
    refine⟨λx=>?_,i2.weak (by omega),i3,by
     rw[List.countP_cons_of_neg (by simp[yP])];omega⟩
    rw[i1 x,eY];constructor
    .rintro h
     exact⟨by omega,λh'=>by
      rcases h' with h'|h'
      .omega
      .exact h.2 h'⟩
    .rintro⟨h,h'⟩
     by_cases om:x<u.2
     .exact absurd (.inl ⟨by omega,om⟩) h'
     .exact⟨by omega,λh2=>h' (.inr h2)⟩
  .have:jS e t (u::b)=if t<e then [(t,e)] else []:=by simp only[jS,mH,if_neg hu,jl]
   rw[this]
   have dM:∀x,x<e->¬bz x (u::b):=λx hx h=>by
    rcases eY.1 h with h|h
    .omega
    .have:=bK.low b3 h;omega
   by_cases h:t<e
   .rw[if_pos h]
    exact⟨λx=>⟨λhx=>by
     rcases eY.1 hx with hx|hx
     .exact⟨hx,dM x hx.2⟩
     .exact absurd hx gJ,λhx=>eY.2 (.inl hx.1)⟩,⟨by dsimp only;omega,h,trivial⟩,by simp,by simp⟩
   .rw[if_neg h];exact⟨λx=>⟨λhx=>absurd hx gJ,λhx=>by omega⟩,trivial,by simp,by simp⟩
def pA(l:SL)(u:Int×Int):Bool:=l.any λs=>decide (s.1<u.1)&&decide (u.1<s.2)
theorem Vs{p q:Int×Int->Bool}(h:∀u,p u=true->q u=true->False):∀l:SL,l.countP p+l.countP q<=l.countP (λu=>p u||q u)
 |[]=>by simp
 |u::l=>by
  have ih:=Vs h l;have hu:=h u;simp only[List.countP_cons];cases hp:p u<;>cases hq:q u<;>simp_all<;>omega
theorem Vt{q:Int}:∀{b:SL}(k:Nat),bK q b->∃q',bK q' (b.drop k)
 |_,0,h=>⟨q,h⟩
 |[],_+1,_=>⟨q,trivial⟩
 |_::_,k+1,h=>Vt k h.2.2
section
variable{B:SL}(hB:B.length<=10000000)
include hB
theorem Vu{A:SL}{n m s e:Int}{acc:SL}:∀(d k:Nat),k+d=B.length->∃k':Nat,k<=k'/\k'<=B.length/\(∀j (h:j<B.length),k<=j->j<k'->B[j].2<=s)/\
  AN B (k:Int) A n m s e acc=some (B,(k':Int),A,n,m,s,e,acc)
 |0,k,hk=>by
  rw[Su];simp only[j5a,show Int.ofNat (List.length B)=(B.length:Int) from rfl];rw[al (by omega),j6,aW];exact⟨k,by omega,by omega,λj h h1 h2=>by omega,rfl⟩
 |d+1,k,hk=>by
  have bg:k<B.length:=by omega
  have gB:B.getD k ((0:Int),(0:Int))=B[k]:=by simp[List.getD,bg]
  rw[Su];simp only[j5a,show Int.ofNat (List.length B)=(B.length:Int) from rfl];rw[aj (by omega),aX (by omega) (by omega)];simp only[j5,j7,gB];by_cases hc:B[k].2<=s
  .rw[aj hc,j5,aJ,ai (x:=(k:Int)+1) (by omega) (by omega)];obtain⟨k',h1,h2,h3,h4⟩:=Vu d (k+1) (by omega);refine⟨k',by omega,h2,λj h ha hb=>?_,h4⟩;by_cases Iu:j=k
   .subst Iu;exact hc
   .exact h3 j h (by omega) hb
  .rw[al hc,j6,aW];exact⟨k,by omega,by omega,λj h h1 h2=>by omega,rfl⟩
theorem Vv{A:SL}{k n m s e:Int}:∀(d i:Nat)(t:Int)(acc:SL),i+d=B.length->acc.length+d<=4000000000->
  ya B k t (i:Int) A n m s e acc=some (B,k,(mH e t (B.drop i)).2,A,n,m,s,e,acc++(mH e t (B.drop i)).1)
 |0,i,t,acc,hi,eT=>by
  rw[Sv];simp only[j5b,show Int.ofNat (List.length B)=(B.length:Int) from rfl];rw[al (by omega),j6,aW,jf (by omega)];simp[mH]
 |d+1,i,t,acc,hi,eT=>by
  have bF:i<B.length:=by omega
  have gB:B.getD i ((0:Int),(0:Int))=B[i]:=by simp[List.getD,bF]
  rw[Sv];simp only[j5b,show Int.ofNat (List.length B)=(B.length:Int) from rfl];rw[aj (by omega),aX (by omega) (by omega)];simp only[j5,j7,gB];rw[jc bF,ai (x:=(i:Int)+1) (by omega) (by omega)];by_cases hc:B[i].1<e
  .rw[aj hc];simp only[j5,mH,if_pos hc];have ih:∀aZ:SL,aZ.length<=acc.length+1->ya B k (if B[i].2>t then B[i].2 else t) ((i:Int)+1) A n m s e aZ=_:=λaZ h'=>Vv d (i+1) (if B[i].2>t then B[i].2 else t) aZ (by omega) (by omega);by_cases ht:t<B[i].1
   .rw[aj ht,if_pos ht,aj (by simp[aR];omega)];simp only[j5,aJ];rw[ih _ (by simp),jd]
   .rw[al ht,if_neg ht];simp only[j6,aJ];rw[ih _ (by omega),jl]
  .rw[al hc];simp only[j6,aW,mH,if_neg hc,ka]
theorem Vw{A:SL}(hA:A.length<=10000000){q:Int}(hb:bK q B):∀(d j k:Nat)(p:Int)(acc:SL),j+d=A.length->k<=B.length->bK p (A.drop j)->(∀i (h:i<B.length),i<k->∀x,bz x (A.drop j)->B[i].2<=x)->acc.length+d+B.countP (pA (A.drop j))<=30000000->
  ∃out,vL B (k:Int) A (A.length:Int) (j:Int) acc=some (acc++out)/\bK p out/\(∀x,bz x out↔bz x (A.drop j)/\¬bz x B)/\out.length<=d+B.countP (pA (A.drop j))
 |0,j,k,p,acc,hj,hk,_,_,eT=>by
  rw[Sw];simp only[j2M];rw[al (by omega),j6,aW,jf (by omega)];exact⟨[],by simp,trivial,λx=>⟨λh=>absurd h gJ,λh=>absurd h.1 gJ⟩,by simp⟩
 |d+1,j,k,p,acc,hj,hk,ha,Nx,eT=>by
  have eJ:j<A.length:=by omega
  have gA:A.getD j ((0:Int),(0:Int))=A[j]:=by simp[List.getD,eJ]
  rw[jc eJ]at ha Nx eT ⊢;obtain⟨a1,a2,a3⟩:=ha;obtain⟨k',h1,h2,h3,h4⟩:=Vu hB (A:=A) (n:=(A.length:Int)) (m:=(j:Int)) (s:=A[j].1) (e:=A[j].2) (acc:=acc) (B.length-k) k (by omega);have aP:∃q',bK q' (B.drop k'):=Vt k' hb;obtain⟨q',aP⟩:=aP
  have vY:∀x,A[j].1<=x->(bz x B↔bz x (B.drop k')):=by
   intro x hx;constructor
   .rintro⟨u,hu,u1,u2⟩
    obtain⟨i,hi,rfl⟩:=List.mem_iff_getElem.1 hu;by_cases iJ:i<k'
    .by_cases yQ:i<k
     .have:=Nx i hi yQ A[j].1 (eY.2 (.inl ⟨kg _,a2⟩));omega
     .have:=h3 i hi (by omega) iJ;omega
    .exact⟨B[i],List.mem_drop_iff_getElem.2 ⟨i-k',by omega,by simp[show k'+(i-k')=i by omega]⟩,u1,u2⟩
   .rintro⟨u,hu,u1,u2⟩
    exact⟨u,zd hu,u1,u2⟩
  have w4:=Vv hB (A:=A) (k:=(k':Int)) (n:=(A.length:Int)) (m:=(j:Int)) (s:=A[j].1) (e:=A[j].2) (B.length-k') k' A[j].1 acc (by omega) (by omega);obtain⟨s1,s2,s3,s4⟩:=Vq (e:=A[j].2) (B.drop k') A[j].1 q' aP;have kG:(mH A[j].2 A[j].1 (B.drop k')).1.length<=(jS A[j].2 A[j].1 (B.drop k')).length:=by simp[jS]
  have CV:(jS A[j].2 A[j].1 (B.drop k')).length+B.countP (pA (A.drop (j+1)))<=B.countP (pA (A[j]::A.drop (j+1)))+1:=by
   have h5:(B.drop k').countP (λu=>decide (A[j].1<u.1)&&decide (u.1<A[j].2))<=B.countP (λu=>decide (A[j].1<u.1)&&decide (u.1<A[j].2)):=(List.drop_sublist k' B).countP_le
   have h6:=Vs (p:=λu=>decide (A[j].1<u.1)&&decide (u.1<A[j].2)) (q:=pA (A.drop (j+1))) (λu hp hq=>by
    obtain⟨s,hs,dr⟩:=zj.1 hq;have:=bK.mem a3 s hs;simp only[jb,jo]at hp dr;omega) B
   have h7:B.countP (λu=>(decide (A[j].1<u.1)&&decide (u.1<A[j].2))||pA (A.drop (j+1)) u)=B.countP (pA (A[j]::A.drop (j+1))):=rfl;omega
  have step:∀aZ:SL,aZ=acc++jS A[j].2 A[j].1 (B.drop k')->∃out,vL B (k':Int) A (A.length:Int) ((j:Int)+1) aZ=some (acc++out)/\bK p out/\(∀x,bz x out↔bz x (A[j]::A.drop (j+1))/\¬bz x B)/\out.length<=d+1+B.countP (pA (A[j]::A.drop (j+1))):=by
   rintro _ rfl
   obtain⟨out,e,o1,o2,o3⟩:=Vw hA hb d (j+1) k' A[j].2 (acc++jS A[j].2 A[j].1 (B.drop k')) (by omega) h2 a3 (λi hi iJ x hx=>by
    have hlow:=bK.low a3 hx;by_cases yQ:i<k
    .exact Nx i hi yQ x (eY.2 (.inr hx))
    .have:=h3 i hi (by omega) iJ;omega) (by rw[ja];omega)
   refine⟨jS A[j].2 A[j].1 (B.drop k')++out,by rw[<-jd];exact e,?_,λx=>?_,by rw[ja];omega⟩
   .have glue:∀(l:SL)(r:Int),bK r l->r<A[j].2->(∀s∈l,s.2<=A[j].2)->bK r (l++out):=by
     intro l;induction l with
     |nil=>intro r _ hr _;exact o1.weak (by omega)
     |cons s l ih=>intro r h hr hl;exact⟨h.1,h.2.1,by
      have:=hl s (by simp);by_cases hs:s.2<A[j].2
      .exact ih s.2 h.2.2 hs (λu hu=>hl u (by simp[hu]))
      .have he:s.2=A[j].2:=by omega
       match l,h.2.2 with
       |[],_=>exact o1.weak (by omega)
       |u::l',h'=>have:=hl u (by simp);have:=h'.1;have:=h'.2.1;omega⟩
    exact glue _ _ (s2.weak (by omega)) (by omega) s3
   .rw[Ep,s1 x,o2 x,eY];constructor
    .rintro (h|h)
     .exact⟨.inl h.1,λhx=>h.2 ((vY x h.1.1).1 hx)⟩
     .exact⟨.inr h.1,h.2⟩
    .rintro⟨h|h,h'⟩
     .exact .inl ⟨h,λhx=>h' ((vY x h.1).2 hx)⟩
     .exact .inr ⟨h,h'⟩
  rw[Sw];simp only[j2M];rw[aj (show (j:Int)<(A.length:Int) by omega),aX (by omega) (by omega)];simp only[j5,j7,gA,h4,j3,w4];rw[ai (x:=(j:Int)+1) (by omega) (by omega)];have hlen:(acc++(mH A[j].2 A[j].1 (B.drop k')).1).length<=2000000000:=by rw[ja];omega
  by_cases ht:(mH A[j].2 A[j].1 (B.drop k')).2<A[j].2
  .rw[aj ht];simp only[j5];rw[aj (by simp only[aR,ku];omega)];simp only[j5,aJ];exact step _ (by simp only[jS,if_pos ht,jd])
  .rw[al ht];simp only[j6,aJ];exact step _ (by simp only[jS,if_neg ht,ka])
theorem Ny{A:SL}{p q:Int}(ha:bK p A)(hb:bK q B)(hA:A.length<=10000000) :
  ∃out,j32 A B=some out/\bK p out/\(∀x,bz x out↔bz x A/\¬bz x B)/\out.length<=A.length+B.length:=by
 have hc:=List.countP_le_length (p:=pA (A.drop 0)) (l:=B);obtain⟨out,e,h1,h2,h3⟩:=Vw hB hA hb A.length 0 0 p [] (by omega) (by omega) ha (λi h hi=>by omega) (by simp only[kq];omega);refine⟨out,?_,h1,h2,by omega⟩;simp only[j32,show Int.ofNat (List.length A)=(A.length:Int) from rfl,show vL B 0 A (A.length:Int) 0 []=_ from e,j3,jl]
end
set_option linter.unusedSectionVars false
theorem Vx:j6t 2241=some 98981:=by kernel_rfl
theorem Vy:j6t 1970=some 0:=by kernel_rfl
theorem Vz{d:Int}(h:j2k d=some true):d<=100000:=by
 apply jr;intro hd;simp only[j2k,j85,Vy,Vx,j3]at h;rw[al (show¬d<0 by omega),aj (show d>=98981 by omega)]at h;simp at h
theorem fI.rt2{nz np nc:Nat}{L:cg}(h:fI nz np nc L):Rt L:=h.rt (Vz h.day)
section
variable{zs:List bY}{ps:List dB}{cs:List bf}(hs:eX zs ps cs)
include hs
theorem yR{i:Int}(h0:0<=i)(h1:i<(cs.length:Int)):vT zs.length (cs.getD i.toNat (ByteArray.empty,((0:Int),([]:List Int)))):=by
 have hi:i.toNat<cs.length:=by omega
 rw[show cs.getD i.toNat (ByteArray.empty,((0:Int),([]:List Int)))=cs[i.toNat] by simp[List.getD,hi]];exact hs.c.ck _ (jh hi)
end
def mI(es:List eU)(p t:Int):Bool:=es.any λx=>x.1==0&&(x.2.1==p&&(decide (x.2.2.2.1<=t)&&decide (t<x.2.2.2.2)))
def eZ(good:Nat->Bool):Nat->Option Nat
 |0=>none
 |n+1=>cond (good n) (some n) (eZ good n)
def fY(es:List eU)(t:Int)(Pf:Nat->Int)(i:Nat):Bool:=decide (0<=Pf i) && !mI es (Pf i) t
section
variable{zs:List bY}{ps:List dB}{cs:List bf}{ss:List cA}
theorem Nz(hz:∀z∈zs,nq z)(hc:tP (zs,(ps,(cs,ss)))):jfi (zs,(ps,(cs,ss)))=some (((zs,(ps,(cs,ss))),zs.map tb),true):=by
 have mc:zs.length<=16:=hc.zl;simp only[jfi,show j68 (zs,(ps,(cs,ss)))=_ from jrN hc,j3,jp,j6,jz8 (ps:=ps) (cs:=cs) (ss:=ss) hz (show zs.length<=100 by omega)]
def fi(es:List eU)(t:Int)(Pf:Nat->Int)(n:Nat):Int:=match eZ (fY es t Pf) n with
 |some i=>Pf i
 |none=> -1
end
def iA:List ByteArray:=[(ByteArray.mk #[102,105,114,115,116]),(ByteArray.mk #[115,101,99,111,110,100]),(ByteArray.mk #[116,104,105,114,100])]
theorem jzf:fS iA:=by
 refine⟨by decide,λk hk=>?_⟩;simp only[iA,je,vc,or_false]at hk;rcases hk with rfl|rfl|rfl<;>exact DY 60 _ true (by kernel_rfl)
structure SG(nz np nc:Nat)(s:cA):Prop where
 ck:vU nz np nc s
 nm:s.2.1.map (·.1)=fJ.take s.2.1.length
 ll:s.2.1.length<=3
 el:s.2.2.length<=3
theorem VA{L:List Int}{zs:List bY}{ps:List dB}{cs:List bf}(hs:Ed zs ps cs):∀(n:Nat)(a:Int)(ss:List cA),dp L a->ss.length+n<=3->ss.map (·.1)=iA.take ss.length->(∀s∈ss,SG zs.length ps.length cs.length s)->
  ∃yS a',Gn (n:Int) L a zs ps cs ss=some (L,a',zs,ps,cs,yS)/\yS.length=ss.length+n/\yS.map (·.1)=iA.take yS.length/\(∀s∈yS,SG zs.length ps.length cs.length s)/\dp L a'
 |0,a,ss,hd,hl,hn,hg=>by
  rw[Tq];simp only[j3S];rw[al (by omega),j6,aW];exact⟨ss,a,rfl,rfl,hn,hg,hd⟩
 |n+1,a,ss,hd,hl,hn,hg=>by
  have aq:ss.length<iA.length:=by show ss.length<3;omega
  have NA:Int.tmod (Int.ofNat ss.length) 3=(ss.length:Int):=by have:Int.tmod (ss.length:Int) 3=(ss.length:Int):=Int.tmod_eq_of_lt (by omega) (by omega);exact this
  obtain⟨k,a3,e3,k0,k1,d3⟩:=cK (n:=4) hd (by omega) (by omega);obtain⟨ls,a4,e4,l4,lk,ln,d4⟩:=U0 (s6:=((n+1:Nat):Int)) (nm:=List.getD iA ss.length ByteArray.empty) (ss:=ss) hs k.toNat a3 [] d3 (by simp;omega) (by simp) rfl;obtain⟨m,a5,e5,m0,m1,d5⟩:=cK (n:=4) d4 (by omega) (by omega);obtain⟨es,a6,e6,l6,ek,d6⟩:=U3 (s6:=((n+1:Nat):Int)) (nm:=List.getD iA ss.length ByteArray.empty) (zs:=zs) (cs:=cs) (ss:=ss) (ls:=ls) hs m.toNat a5 [] d5 (by simp;omega) (by simp);rw[show ((k.toNat:Nat):Int)=k by omega]at e4;rw[show ((m.toNat:Nat):Int)=m by omega]at e6
  have dH:SG zs.length ps.length cs.length (List.getD iA ss.length ByteArray.empty,(ls,es)):=
   ⟨⟨by dsimp only;rw[ln];exact UW.take _,lk,by dsimp only;omega,ek,by dsimp only;omega⟩,ln,l4,l6⟩
  obtain⟨yS,a',e',h1,h2,h3,h4⟩:=VA hs n a6 (ss++[(List.getD iA ss.length ByteArray.empty,(ls,es))]) d6 (by simp;omega) (by
   rw[zr,hn,ja];exact G3 aq) (λs h=>by
   rcases jn.1 h with h|h
   .exact hg s h
   .simp at h;subst h;exact dH)
  rw[Tq];simp only[j3S];rw[aj (show ((n+1:Nat):Int)>0 by omega),NA,aX (by omega) (by show (ss.length:Int)<(3:Nat);omega)];simp only[j5,j7,e3,j3];rw[show Dx ((n+1:Nat):Int) k L a3 zs ps cs (List.getD [(ByteArray.mk #[102,105,114,115,116]),(ByteArray.mk #[115,101,99,111,110,100]),(ByteArray.mk #[116,104,105,114,100])] ss.length ByteArray.empty) ss []=_ from e4];simp only[j3,e5,e6];rw[aj (by simp[aR];omega),ai (by omega) (by omega),show ((n+1:Nat):Int)-1=(n:Int) by omega];simp only[j5,aJ];exact⟨yS,a',e',by rw[h1];simp;omega,h2,h3,h4⟩
theorem jtN{L:List Int}{a n:Int}(h:dp L a)(n0:1<=n)(n1:n<=3):∃zs ps cs ss a',j9x L a n=some ((zs,(ps,(cs,ss))),L,a')/\eX zs ps cs/\1<=ss.length/\(ss.length:Int)<=n/\ss.map (·.1)=iA.take ss.length/\(∀s∈ss,SG zs.length ps.length cs.length s)/\dp L a':=by
 obtain⟨zs,ps,cs,a1,e1,hs,d1⟩:=jvw h;obtain⟨x,a2,e2,x0,x1,d2⟩:=cK (n:=n) d1 (by omega) (by omega);obtain⟨ss,a3,e3,h1,h2,h3,d3⟩:=VA hs.so (1+x).toNat a2 [] d2 (by simp;omega) (by simp) (by simp);rw[show (((1+x).toNat:Nat):Int)=1+x by omega]at e3;simp at h1;simp only[j9x,e1,e2,j3];rw[ai (x:=1+x) (by omega) (by omega)];simp only[e3,j3];exact⟨zs,ps,cs,ss,a3,rfl,hs,by omega,by omega,h2,h3,d3⟩
theorem jzg{zs:List bY}{ps:List dB}{cs:List bf}{ss:List cA}(hs:eX zs ps cs)(h0:ss.length<=12)(h1:fS (ss.map (·.1)))(h2:∀s∈ss,vU zs.length ps.length cs.length s):tP (zs,(ps,(cs,ss))):=jAs hs h0 h1 h2
instance(L:cg):Decidable (Rt L):=
 decidable_of_iff (1<=L.2.2.1.1/\L.2.2.1.1<=100000/\0<=L.2.2.1.2/\L.2.2.1.2<=86399/\0<=L.2.2.2.1/\L.2.2.2.1<=2/\1<=L.2.2.2.2.1/\L.2.2.2.2.1<=400/\L.2.2.2.2.2.1≠[])
  ⟨λ⟨a,b,c,d,e,f,g,h,i⟩=>⟨a,b,c,d,e,f,g,h,i⟩,λ⟨a,b,c,d,e,f,g,h,i⟩=>⟨a,b,c,d,e,f,g,h,i⟩⟩
abbrev ej:=Int×(Int×Int)
abbrev aS:=List ej
def Ch(f:Int->Int)(b:Int):Int->aS->Prop
 |a,[]=>a=b
 |a,s::r=>s.1=a/\a<=s.2.1/\(∀t,a<=t->t<s.2.1->f t=s.2.2)/\Ch f b s.2.1 r
def di(f:Int->Int)(b:Int):Option Int->Int->aS->Prop
 |_,a,[]=>a=b
 |q,a,s::r=>s.1=a/\a<s.2.1/\q≠some s.2.2/\(∀t,a<=t->t<s.2.1->f t=s.2.2)/\di f b (some s.2.2) s.2.1 r
theorem Ch.le{f:Int->Int}{b:Int}:∀{l:aS}{a:Int},Ch f b a l->a<=b
 |[],_,h=>Int.le_of_eq h
 |_::_,_,h=>q9 h.2.1 h.2.2.2.le
theorem Ch.app{f:Int->Int}{b c:Int}:∀{l r:aS}{a:Int},Ch f b a l->Ch f c b r->Ch f c a (l++r)
 |[],_,_,h,h'=>by have h:_=_:=h;subst h;exact h'
 |_::_,_,_,h,h'=>⟨h.1,h.2.1,h.2.2.1,h.2.2.2.app h'⟩
theorem Ch.snoc{f:Int->Int}{b c p:Int}{l:aS}{a:Int}(h:Ch f b a l)(vZ:b<=c)(hp:∀t,b<=t->t<c->f t=p):Ch f c a (l++[(b,(c,p))]):=
 h.app ⟨rfl,vZ,hp,rfl⟩
theorem di.ch{f:Int->Int}{b:Int}:∀{l:aS}{q:Option Int}{a:Int},di f b q a l->Ch f b a l
 |[],_,_,h=>h
 |_::_,_,_,h=>⟨h.1,Int.le_of_lt h.2.1,h.2.2.2.1,h.2.2.2.2.ch⟩
def lstP:Option Int->aS->Option Int
 |q,[]=>q
 |_,s::r=>lstP (some s.2.2) r
theorem VC:∀(l:aS)(q:Option Int)(s:ej),lstP q (l++[s])=some s.2.2
 |[],_,_=>rfl
 |_::r,_,s=>VC r _ s
theorem di.snoc{f:Int->Int}{b c p:Int}:∀{l:aS}{q:Option Int}{a:Int},di f b q a l->b<c->lstP q l≠some p->(∀t,b<=t->t<c->f t=p)->di f c q a (l++[(b,(c,p))])
 |[],_,_,h,vZ,hl,hp=>by have h:_=_:=h;subst h;exact⟨rfl,vZ,hl,hp,rfl⟩
 |_::_,_,_,h,vZ,hl,hp=>⟨h.1,h.2.1,h.2.2.1,h.2.2.2.1,h.2.2.2.2.snoc vZ hl hp⟩
theorem di.ext{f:Int->Int}{b c x p:Int}:∀{l:aS}{q:Option Int}{a:Int},di f b q a (l++[(x,(b,p))])->b<=c->(∀t,b<=t->t<c->f t=p)->di f c q a (l++[(x,(c,p))])
 |[],_,_,h,vZ,hp=>⟨h.1,by have:=h.2.1;dsimp only at this ⊢;omega,h.2.2.1,λt h1 h2=>by
  by_cases ht:t<b
  .exact h.2.2.2.1 t h1 ht
  .exact hp t (by omega) h2,rfl⟩
 |_::_,_,_,h,vZ,hp=>⟨h.1,h.2.1,h.2.2.1,h.2.2.2.1,h.2.2.2.2.ext vZ hp⟩
def lU(out:aS)(s:ej):aS:=
 if s.2.1<=s.1 then out else match out.getLast? with
  |some x=>if x.2.1=s.1/\x.2.2=s.2.2 then out.dropLast++[(x.1,(s.2.1,x.2.2))] else out++[s]
  |none=>out++[s]
theorem jAC{f:Int->Int}{a b:Int}{out:aS}(h:di f b none a out){s:ej}(h1:s.1=b)(h2:b<=s.2.1)(h3:∀t,b<=t->t<s.2.1->f t=s.2.2):di f s.2.1 none a (lU out s):=by
 obtain⟨x,y,p⟩:=s;dsimp only at h1 h2 h3 ⊢;subst h1;unfold lU;dsimp only;by_cases G8:y<=x
 .rw[if_pos G8];have:y=x:=by omega
  subst this;exact h
 .rw[if_neg G8];rcases List.eq_nil_or_concat out with rfl|⟨l,u,rfl⟩
  .exact h.snoc (by omega) (by simp[lstP]) h3
  .rw[List.concat_eq_append]at h ⊢;rw[List.getLast?_append];simp only[List.getLast?_singleton,Option.some_or];by_cases hu:u.2.1=x/\u.2.2=p
   .rw[if_pos hu,List.dropLast_concat];obtain⟨u1,u2,u3⟩:=u;dsimp only at hu ⊢;obtain⟨rfl,rfl⟩:=hu;exact h.ext h2 h3
   .rw[if_neg hu];refine h.snoc (by omega) ?_ h3;rw[VC];intro e;have hp:u.2.2=p:=by simpa using e
    refine hu ⟨?_,hp⟩
    have:∀(l:aS)(q:Option Int)(a:Int),di f x q a (l++[u])->u.2.1=x:=by
     intro l;induction l with
     |nil=>intro q a h;exact h.2.2.2.2
     |cons v r ih=>intro q a h;exact ih _ _ h.2.2.2.2
    exact this l _ _ h
theorem VD{f:Int->Int}{b:Int}:∀(l:aS){a c:Int}{out:aS},di f c none a out->Ch f b c l->di f b none a (l.foldl lU out)
 |[],_,_,_,h,h'=>by have h':_=_:=h';subst h';exact h
 |s::r,_,_,_,h,h'=>VD r (jAC h h'.1 h'.2.1 h'.2.2.1) h'.2.2.2
theorem Ch.cov{f:Int->Int}{a b:Int}{l:aS}(h:Ch f b a l):di f b none a (l.foldl lU []):=VD l (show di f a none a [] from rfl) h
theorem VE{f:Int->Int}:∀{l:aS}{a b:Int},a<=b->l.Pairwise (λs u=>s.2.1<=u.1)->(∀s∈l,s.1<s.2.1/\∀t,s.1<=t->t<s.2.1->f t=s.2.2)->
  (∀x,(a<=x/\x<b)↔∃s∈l,s.1<=x/\x<s.2.1)->Ch f b a l
 |[],a,b,bR,_,_,hc=>by
  apply jr;intro ba;have ba:a≠b:=ba;obtain⟨s,hs,_⟩:=(hc a).1 ⟨kg _,by omega⟩;simp at hs
 |s::r,a,b,bR,hp,hf,hc=>by
  obtain⟨s1,s2⟩:=hf s (by simp);obtain⟨p1,p2⟩:=js.1 hp;have h1:=(hc s.1).2 ⟨s,by simp,kg _,s1⟩;have h2:=(hc (s.2.1-1)).2 ⟨s,by simp,by omega,by omega⟩
  have he:s.1=a:=by
   obtain⟨u,hu,u1,u2⟩:=(hc a).1 ⟨kg _,by omega⟩;rcases je.1 hu with rfl|hu
   .omega
   .have:=p1 u hu;omega
  refine⟨he,by omega,λt t1 t2=>s2 t (by omega) t2,VE (by omega) p2 (λu hu=>hf u (by simp[hu])) (λx=>⟨λhx=>?_,λ⟨u,hu,u1,u2⟩=>?_⟩)⟩
  .obtain⟨u,hu,u1,u2⟩:=(hc x).1 ⟨by omega,hx.2⟩;rcases je.1 hu with rfl|hu
   .omega
   .exact⟨u,hu,u1,u2⟩
  .have:=p1 u hu;have:=(hc x).2 ⟨u,by simp[hu],u1,u2⟩;omega
theorem Ch.mem{f:Int->Int}{b:Int}:∀{l:aS}{a:Int},Ch f b a l->∀s∈l,a<=s.1/\s.1<=s.2.1/\s.2.1<=b/\∀t,s.1<=t->t<s.2.1->f t=s.2.2
 |[],_,_,s,hs=>by simp at hs
 |u::r,a,h,s,hs=>by
  obtain⟨h1,h2,h3,h4⟩:=h;rcases je.1 hs with rfl|hs
  .exact⟨by omega,by omega,h4.le,λt t1 t2=>h3 t (by omega) t2⟩
  .have:=h4.mem s hs;exact⟨by omega,this.2.1,this.2.2.1,this.2.2.2⟩
theorem Ch.has{f:Int->Int}{b:Int}:∀{l:aS}{a:Int},Ch f b a l->∀x,a<=x->x<b->∃s∈l,s.1<=x/\x<s.2.1
 |[],_,h,x,h1,h2=>by have h:_=_:=h;omega
 |u::r,a,h,x,h1,h2=>by
  obtain⟨g1,g2,g3,g4⟩:=h;by_cases hx:x<u.2.1
  .exact⟨u,by simp,by omega,hx⟩
  .obtain⟨s,hs,e⟩:=g4.has x (by omega) h2;exact⟨s,by simp[hs],e⟩
theorem di.pos{f:Int->Int}{b:Int}:∀{l:aS}{q:Option Int}{a:Int},di f b q a l->∀s∈l,s.1<s.2.1
 |[],_,_,_,s,hs=>by simp at hs
 |u::r,_,a,h,s,hs=>by
  rcases je.1 hs with rfl|hs
  .have:=h.1;have:=h.2.1;omega
  .exact h.2.2.2.2.pos s hs
theorem di.ne{f:Int->Int}{b:Int}{l:aS}{q:Option Int}{a:Int}(h:di f b q a l)(bR:a<b):l≠[]:=by
 rintro rfl
 have h:_=_:=h;omega
end Go.Proofs.Pw
