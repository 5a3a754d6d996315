/- span.Common and span.Without: meets and u4 of sets. -/
import Derived.Test.YtaieocafhcjelaaGreatCPG
import Derived.Test.YtaieocafhcjelaaGreatCPF
import Derived.Test.YtaieocafhcjelaaGreatCPC
import Derived.KernelRfl
import Derived.Test.YtaieocafhcjelaaGreatCPE
import Derived.Test.YtaieocafhcjelaaGreatCPB
open Go Go.Lft
namespace Go.Proofs.Pw
theorem ct.weak{p q:Int}(hq:q<=p):∀{l:SL},ct p l->ct q l
 |[],_=>trivial
 |_::_,h=>⟨by have:=h.1;omega,h.2⟩
theorem ct.low{p x:Int}:∀{l:SL},ct p l->bN x l->p<x
 |[],_,h=>absurd h gJ
 |s::r,h,hx=>by
  rcases eU.1 hx with hx|hx
  .have:=h.1;omega
  .have:=ct.low h.2.2 hx;have:=h.1;have:=h.2.1;omega
theorem ct.mem{p:Int}:∀{l:SL},ct p l->∀s∈l,p<s.1/\s.1<s.2
 |[],_,s,hs=>by simp at hs
 |u::r,h,s,hs=>by
  rcases jg.1 hs with rfl|hs
  .exact⟨h.1,h.2.1⟩
  .have:=ct.mem h.2.2 s hs;have:=h.1;have:=h.2.1;omega
def lK:Nat->SL->SL->SL
 |n+1,s::a,u::b=>(if (if u.1>s.1 then u.1 else s.1)<(if u.2<s.2 then u.2 else s.2) then [((if u.1>s.1 then u.1 else s.1),(if u.2<s.2 then u.2 else s.2))] else [])++
  (if s.2<u.2 then lK n a (u::b) else lK n (s::a) b)
 |_,_,_=>[]
theorem Od:∀(n:Nat)(a b:SL)(p q:Int),a.length+b.length<=n->ct p a->ct q b->(∀x,bN x (lK n a b)↔bN x a/\bN x b)/\ct p (lK n a b)/\ct q (lK n a b)/\(lK n a b).length<=a.length+b.length
 |0,a,b,p,q,hn,_,_=>by
  obtain rfl:a=[]:=kg.1 (by omega);exact⟨λx=>⟨λh=>absurd h gJ,λh=>absurd h.1 gJ⟩,trivial,trivial,by simp[lK]⟩
 |n+1,[],b,p,q,_,_,_=>⟨λx=>⟨λh=>absurd h gJ,λh=>absurd h.1 gJ⟩,trivial,trivial,by simp[lK]⟩
 |n+1,_::_,[],p,q,_,_,_=>⟨λx=>⟨λh=>absurd h gJ,λh=>absurd h.2 gJ⟩,trivial,trivial,by simp[lK]⟩
 |n+1,s::a,u::b,p,q,hn,ha,hb=>by
  obtain⟨a1,a2,a3⟩:=ha;obtain⟨b1,b2,b3⟩:=hb;simp only[jm]at hn ⊢
  have hx:∃f t:Int,f=(if u.1>s.1 then u.1 else s.1)/\t=(if u.2<s.2 then u.2 else s.2)/\(∀x,(f<=x/\x<t)↔(s.1<=x/\x<s.2)/\(u.1<=x/\x<u.2))/\p<f/\q<f/\t<=s.2/\t<=u.2:=by
   refine⟨_,_,rfl,rfl,λx=>?_,?_,?_,?_,?_⟩
   .constructor
    .intro h;split at h<;>split at h<;>omega
    .intro h;split<;>split<;>omega
   .split<;>omega
   .split<;>omega
   .split<;>omega
   .split<;>omega
  obtain⟨f,t,ef,et,hi,f1,f2,t1,t2⟩:=hx;simp only[lK,<-ef,<-et]
  have key:∀(a' b':SL)(r:SL),(∀x,bN x r↔bN x a'/\bN x b')->ct t r->ct p r->ct q r->r.length<=a'.length+b'.length->a'.length+b'.length+1=a.length+1+(b.length+1)->
    (∀x,bN x (s::a)/\bN x (u::b)↔(f<=x/\x<t)\/(bN x a'/\bN x b'))->
    (∀x,bN x ((if f<t then [(f,t)] else [])++r)↔bN x (s::a)/\bN x (u::b))/\ct p ((if f<t then [(f,t)] else [])++r)/\ct q ((if f<t then [(f,t)] else [])++r)/\((if f<t then [(f,t)] else [])++r).length<=a.length+1+(b.length+1):=by
   intro a' b' r wb tg Oe G4 hl rf qQ;by_cases h9:f<t
   .rw[if_pos h9];refine⟨λx=>?_,⟨f1,h9,tg⟩,⟨f2,h9,tg⟩,by simp;omega⟩;rw[qQ,G2,wb x,eU];constructor
    .rintro ((h|h)|h)
     .exact .inl h
     .exact absurd h gJ
     .exact .inr h
    .rintro (h|h)
     .exact .inl (.inl h)
     .exact .inr h
   .rw[if_neg h9,jo];refine⟨λx=>?_,Oe,G4,by omega⟩;rw[qQ,wb x];constructor
    .exact .inr
    .rintro (h|h)
     .omega
     .exact h
  by_cases hc:s.2<u.2
  .rw[if_pos hc];obtain⟨i1,i2,i3,i4⟩:=Od n a (u::b) s.2 q (by simp;omega) a3 ⟨b1,b2,b3⟩;refine key a (u::b) _ i1 (i2.weak t1) (i2.weak (by omega)) i3 i4 (by simp;omega) (λx=>?_);rw[eU,hi x];constructor
   .rintro⟨h|h,h'⟩
    .rcases eU.1 h' with h'|h'
     .exact .inl ⟨h,h'⟩
     .have:=ct.low b3 h';omega
    .exact .inr ⟨h,h'⟩
   .rintro (h|h)
    .exact⟨.inl h.1,eU.2 (.inl h.2)⟩
    .exact⟨.inr h.1,h.2⟩
  .rw[if_neg hc];obtain⟨i1,i2,i3,i4⟩:=Od n (s::a) b p u.2 (by simp;omega) ⟨a1,a2,a3⟩ b3;refine key (s::a) b _ i1 (i3.weak t2) i2 (i3.weak (by omega)) i4 (by simp;omega) (λx=>?_);rw[eU (s:=u),hi x];constructor
   .rintro⟨h',h|h⟩
    .rcases eU.1 h' with h'|h'
     .exact .inl ⟨h',h⟩
     .have:=ct.low a3 h';omega
    .exact .inr ⟨h',h⟩
   .rintro (h|h)
    .exact⟨eU.2 (.inl h.1),.inl h.2⟩
    .exact⟨h.1,.inr h.2⟩
theorem Of{A B:SL}(hA:A.length<=10000000)(hB:B.length<=10000000):∀(n i k:Nat)(acc:SL),i<=A.length->k<=B.length->(A.length-i)+(B.length-k)=n->acc.length+n<=30000000->
  sR A B (i:Int) (k:Int) acc=some (acc++lK n (A.drop i) (B.drop k))
 |n,i,k,acc,hi,hk,hn,ea=>by
  rw[jlU];simp only[j73,show Int.ofNat (List.length A)=(A.length:Int) from rfl,show Int.ofNat (List.length B)=(B.length:Int) from rfl];by_cases eu:i<A.length/\k<B.length
  .obtain⟨bd,br⟩:=eu;obtain⟨n,rfl⟩:∃m,n=m+1:=⟨n-1,by omega⟩;have gA:A.getD i ((0:Int),(0:Int))=A[i]:=by simp[List.getD,bd]
   have gB:B.getD k ((0:Int),(0:Int))=B[k]:=by simp[List.getD,br]
   rw[ag (show (i:Int)<(A.length:Int) by omega),ag (show (k:Int)<(B.length:Int) by omega),aR (show (0:Int)<=(i:Int) by omega) (by omega),aR (show (0:Int)<=(k:Int) by omega) (by omega)];simp only[j5,j7,gA,gB];rw[aj (x:=(i:Int)+1) (by omega) (by omega),aj (x:=(k:Int)+1) (by omega) (by omega)];rw[jc bd,jc br];simp only[lK];generalize (if B[k].1>A[i].1 then B[k].1 else A[i].1:Int)=f;generalize (if B[k].2<A[i].2 then B[k].2 else A[i].2:Int)=t
   have Ee:∀bm:SL,bm.length<=acc.length+1->sR A B ((i:Int)+1) (k:Int) bm=some (bm++lK n (A.drop (i+1)) (B[k]::B.drop (k+1))):=λbm Bj=>by
    have:=Of hA hB n (i+1) k bm (by omega) (by omega) (by omega) (by omega);rw[<-jc br];exact this
   have Ef:∀bm:SL,bm.length<=acc.length+1->sR A B (i:Int) ((k:Int)+1) bm=some (bm++lK n (A[i]::A.drop (i+1)) (B.drop (k+1))):=λbm Bj=>by
    have:=Of hA hB n i (k+1) bm (by omega) (by omega) (by omega) (by omega);rw[<-jc bd];exact this
   by_cases h9:f<t
   .rw[ag h9,if_pos h9,ag (by simp[aY];omega)];simp only[j5];by_cases hc:A[i].2<B[k].2
    .rw[ag hc,if_pos hc];simp only[j5,aJ];rw[Ee _ (by simp),jd]
    .rw[ah hc,if_neg hc];simp only[j6,aJ];rw[Ef _ (by simp),jd]
   .rw[ah h9,if_neg h9];simp only[j6];by_cases hc:A[i].2<B[k].2
    .rw[ag hc,if_pos hc];simp only[j5,aJ];rw[Ee _ (by omega),jo]
    .rw[ah hc,if_neg hc];simp only[j6,aJ];rw[Ef _ (by omega),jo]
  .have hc:cond (decide ((i:Int)<(A.length:Int))) (decide ((k:Int)<(B.length:Int))) false=false:=by
    by_cases h1:i<A.length
    .rw[ag (by omega),j5];exact ah (by omega)
    .rw[ah (by omega),j6]
   rw[hc,j6,aU]
   have:lK n (A.drop i) (B.drop k)=[]:=by
    by_cases h1:i<A.length
    .rw[vw (show B.length<=k by omega)];cases n<;>cases A.drop i<;>rfl
    .rw[vw (show A.length<=i by omega)];cases n<;>rfl
   rw[this,k7]
theorem jza{A B:SL}{p q:Int}(ha:ct p A)(hb:ct q B)(hA:A.length<=10000000)(hB:B.length<=10000000) :
  ∃out,j85 A B=some out/\ct p out/\(∀x,bN x out↔bN x A/\bN x B)/\out.length<=A.length+B.length:=by
 have lp:=Of hA hB (A.length+B.length) 0 0 [] (by omega) (by omega) (by omega) (by simp;omega);obtain⟨h1,h2,h3,h4⟩:=Od (A.length+B.length) A B p q (jl _) ha hb;refine⟨lK (A.length+B.length) A B,?_,h2,h1,h4⟩;simp only[j85,show sR A B 0 0 []=_ from lp,j3,jo,kc]
def my(e:Int):Int->SL->SL×Int
 |t,[]=>([],t)
 |t,u::b=>if u.1<e then ((if t<u.1 then [(t,u.1)] else [])++(my e (if u.2>t then u.2 else t) b).1,(my e (if u.2>t then u.2 else t) b).2) else ([],t)
def kC(e t:Int)(b:SL):SL:=(my e t b).1++(if (my e t b).2<e then [((my e t b).2,e)] else [])
theorem jCy{e t:Int}{u:Int×Int}{b:SL}(h:u.1<e):kC e t (u::b)=(if t<u.1 then [(t,u.1)] else [])++kC e (if u.2>t then u.2 else t) b:=by
 simp only[kC,my,if_pos h,jd]
theorem Wo{e:Int}:∀(b:SL)(t q:Int),ct q b->(∀x,bN x (kC e t b)↔(t<=x/\x<e)/\¬bN x b)/\ct (t-1) (kC e t b)/\(∀s∈kC e t b,s.2<=e)/\(kC e t b).length<=b.countP (λu=>decide (t<u.1)&&decide (u.1<e))+1
 |[],t,q,_=>by
  rw[show kC e t []=(if t<e then [(t,e)] else []) from rfl];by_cases h:t<e
  .rw[if_pos h];exact⟨λx=>⟨λhx=>⟨by rcases eU.1 hx with hx|hx;exact hx;exact absurd hx gJ,gJ⟩,λhx=>eU.2 (.inl hx.1)⟩,⟨by dsimp only;omega,h,trivial⟩,by simp,by simp⟩
  .rw[if_neg h];exact⟨λx=>⟨λhx=>absurd hx gJ,λhx=>by omega⟩,trivial,by simp,by simp⟩
 |u::b,t,q,hb=>by
  obtain⟨b1,b2,b3⟩:=hb;by_cases hu:u.1<e
  .rw[jCy hu];have hm:∃t',t'=(if u.2>t then u.2 else t)/\t<=t'/\u.2<=t'/\(t'=t\/t'=u.2):=⟨_,rfl,by split<;>omega,by split<;>omega,by split<;>omega⟩;obtain⟨t',e',h1,h2,h3⟩:=hm;rw[<-e'];obtain⟨i1,i2,i3,i4⟩:=Wo b t' u.2 b3;have fa:∀x,bN x b->u.2<x:=λx=>ct.low b3
   have hcp:b.countP (λu=>decide (t'<u.1)&&decide (u.1<e))<=b.countP (λu=>decide (t<u.1)&&decide (u.1<e)):=List.countP_mono_left λv _ h=>by
    simp only[jb,jq]at h ⊢;omega
   by_cases ya:t<u.1
   .rw[if_pos ya]
    refine⟨λx=>?_,⟨by dsimp only;omega,ya,i2.weak (by omega)⟩,λs hs=>?_,by
     rw[List.countP_cons_of_pos (by simp[ya,hu]),List.singleton_append,jm];omega⟩
    .rw[List.singleton_append,eU,i1 x,eU];constructor
     .rintro (h|h)
      .exact⟨by omega,λh'=>by
        rcases h' with h'|h'
        .omega
        .have:=fa x h';omega⟩
      .exact⟨by omega,λh'=>by
        rcases h' with h'|h'
        .omega
        .exact h.2 h'⟩
     .rintro⟨h,h'⟩
      by_cases hx:x<u.1
      .exact .inl ⟨h.1,hx⟩
      .by_cases nW:x<u.2
       .exact absurd (.inl ⟨by omega,nW⟩) h'
       .exact .inr ⟨by omega,λh2=>h' (.inr h2)⟩
    .rcases jg.1 hs with rfl|hs
     .dsimp only;omega
     .exact i3 s hs
   .rw[if_neg ya,jo]
    refine⟨λx=>?_,i2.weak (by omega),i3,by
     rw[List.countP_cons_of_neg (by simp[ya])];omega⟩
    rw[i1 x,eU];constructor
    .rintro h
     exact⟨by omega,λh'=>by
      rcases h' with h'|h'
      .omega
      .exact h.2 h'⟩
    .rintro⟨h,h'⟩
     by_cases nW:x<u.2
     .exact absurd (.inl ⟨by omega,nW⟩) h'
     .exact⟨by omega,λh2=>h' (.inr h2)⟩
  .have:kC e t (u::b)=if t<e then [(t,e)] else []:=by simp only[kC,my,if_neg hu,jo]
   rw[this]
   have dp:∀x,x<e->¬bN x (u::b):=λx hx h=>by
    rcases eU.1 h with h|h
    .omega
    .have:=ct.low b3 h;omega
   by_cases h:t<e
   .rw[if_pos h]
    exact⟨λx=>⟨λhx=>by
     rcases eU.1 hx with hx|hx
     .exact⟨hx,dp x hx.2⟩
     .exact absurd hx gJ,λhx=>eU.2 (.inl hx.1)⟩,⟨by dsimp only;omega,h,trivial⟩,by simp,by simp⟩
   .rw[if_neg h];exact⟨λx=>⟨λhx=>absurd hx gJ,λhx=>by omega⟩,trivial,by simp,by simp⟩
def pA(l:SL)(u:Int×Int):Bool:=l.any λs=>decide (s.1<u.1)&&decide (u.1<s.2)
theorem Wp{p q:Int×Int->Bool}(h:∀u,p u=true->q u=true->False):∀l:SL,l.countP p+l.countP q<=l.countP (λu=>p u||q u)
 |[]=>by simp
 |u::l=>by
  have ih:=Wp h l;have hu:=h u;simp only[List.countP_cons];cases hp:p u<;>cases hq:q u<;>simp_all<;>omega
theorem Wq{q:Int}:∀{b:SL}(k:Nat),ct q b->∃q',ct q' (b.drop k)
 |_,0,h=>⟨q,h⟩
 |[],_+1,_=>⟨q,trivial⟩
 |_::_,k+1,h=>Wq k h.2.2
section
variable{B:SL}(hB:B.length<=10000000)
include hB
theorem Wr{A:SL}{n m s e:Int}{acc:SL}:∀(d k:Nat),k+d=B.length->∃k':Nat,k<=k'/\k'<=B.length/\(∀j (h:j<B.length),k<=j->j<k'->B[j].2<=s)/\
  zZ B (k:Int) A n m s e acc=some (B,(k':Int),A,n,m,s,e,acc)
 |0,k,hk=>by
  rw[SX];simp only[j4Z,show Int.ofNat (List.length B)=(B.length:Int) from rfl];rw[ah (by omega),j6,aU];exact⟨k,by omega,by omega,λj h h1 h2=>by omega,rfl⟩
 |d+1,k,hk=>by
  have br:k<B.length:=by omega
  have gB:B.getD k ((0:Int),(0:Int))=B[k]:=by simp[List.getD,br]
  rw[SX];simp only[j4Z,show Int.ofNat (List.length B)=(B.length:Int) from rfl];rw[ag (by omega),aR (by omega) (by omega)];simp only[j5,j7,gB];by_cases hc:B[k].2<=s
  .rw[ag hc,j5,aJ,aj (x:=(k:Int)+1) (by omega) (by omega)];obtain⟨k',h1,h2,h3,h4⟩:=Wr d (k+1) (by omega);refine⟨k',by omega,h2,λj h ha hb=>?_,h4⟩;by_cases BX:j=k
   .subst BX;exact hc
   .exact h3 j h (by omega) hb
  .rw[ah hc,j6,aU];exact⟨k,by omega,by omega,λj h h1 h2=>by omega,rfl⟩
theorem Ws{A:SL}{k n m s e:Int}:∀(d i:Nat)(t:Int)(acc:SL),i+d=B.length->acc.length+d<=4000000000->
  xx B k t (i:Int) A n m s e acc=some (B,k,(my e t (B.drop i)).2,A,n,m,s,e,acc++(my e t (B.drop i)).1)
 |0,i,t,acc,hi,ea=>by
  rw[SY];simp only[j50,show Int.ofNat (List.length B)=(B.length:Int) from rfl];rw[ah (by omega),j6,aU,jf (by omega)];simp[my]
 |d+1,i,t,acc,hi,ea=>by
  have bd:i<B.length:=by omega
  have gB:B.getD i ((0:Int),(0:Int))=B[i]:=by simp[List.getD,bd]
  rw[SY];simp only[j50,show Int.ofNat (List.length B)=(B.length:Int) from rfl];rw[ag (by omega),aR (by omega) (by omega)];simp only[j5,j7,gB];rw[jc bd,aj (x:=(i:Int)+1) (by omega) (by omega)];by_cases hc:B[i].1<e
  .rw[ag hc];simp only[j5,my,if_pos hc];have ih:∀bm:SL,bm.length<=acc.length+1->xx B k (if B[i].2>t then B[i].2 else t) ((i:Int)+1) A n m s e bm=_:=λbm h'=>Ws d (i+1) (if B[i].2>t then B[i].2 else t) bm (by omega) (by omega);by_cases ht:t<B[i].1
   .rw[ag ht,if_pos ht,ag (by simp[aY];omega)];simp only[j5,aJ];rw[ih _ (by simp),jd]
   .rw[ah ht,if_neg ht];simp only[j6,aJ];rw[ih _ (by omega),jo]
  .rw[ah hc];simp only[j6,aU,my,if_neg hc,k7]
theorem Wt{A:SL}(hA:A.length<=10000000){q:Int}(hb:ct q B):∀(d j k:Nat)(p:Int)(acc:SL),j+d=A.length->k<=B.length->ct p (A.drop j)->(∀i (h:i<B.length),i<k->∀x,bN x (A.drop j)->B[i].2<=x)->acc.length+d+B.countP (pA (A.drop j))<=30000000->
  ∃out,uO B (k:Int) A (A.length:Int) (j:Int) acc=some (acc++out)/\ct p out/\(∀x,bN x out↔bN x (A.drop j)/\¬bN x B)/\out.length<=d+B.countP (pA (A.drop j))
 |0,j,k,p,acc,hj,hk,_,_,ea=>by
  rw[SZ];simp only[j2z];rw[ah (by omega),j6,aU,jf (by omega)];exact⟨[],by simp,trivial,λx=>⟨λh=>absurd h gJ,λh=>absurd h.1 gJ⟩,by simp⟩
 |d+1,j,k,p,acc,hj,hk,ha,Og,ea=>by
  have fN:j<A.length:=by omega
  have gA:A.getD j ((0:Int),(0:Int))=A[j]:=by simp[List.getD,fN]
  rw[jc fN]at ha Og ea ⊢;obtain⟨a1,a2,a3⟩:=ha;obtain⟨k',h1,h2,h3,h4⟩:=Wr hB (A:=A) (n:=(A.length:Int)) (m:=(j:Int)) (s:=A[j].1) (e:=A[j].2) (acc:=acc) (B.length-k) k (by omega);have aW:∃q',ct q' (B.drop k'):=Wq k' hb;obtain⟨q',aW⟩:=aW
  have u5:∀x,A[j].1<=x->(bN x B↔bN x (B.drop k')):=by
   intro x hx;constructor
   .rintro⟨u,hu,u1,u2⟩
    obtain⟨i,hi,rfl⟩:=List.mem_iff_getElem.1 hu;by_cases gr:i<k'
    .by_cases yb:i<k
     .have:=Og i hi yb A[j].1 (eU.2 (.inl ⟨ki _,a2⟩));omega
     .have:=h3 i hi (by omega) gr;omega
    .exact⟨B[i],List.mem_drop_iff_getElem.2 ⟨i-k',by omega,by simp[show k'+(i-k')=i by omega]⟩,u1,u2⟩
   .rintro⟨u,hu,u1,u2⟩
    exact⟨u,zj hu,u1,u2⟩
  have w4:=Ws hB (A:=A) (k:=(k':Int)) (n:=(A.length:Int)) (m:=(j:Int)) (s:=A[j].1) (e:=A[j].2) (B.length-k') k' A[j].1 acc (by omega) (by omega);obtain⟨s1,s2,s3,s4⟩:=Wo (e:=A[j].2) (B.drop k') A[j].1 q' aW;have jH:(my A[j].2 A[j].1 (B.drop k')).1.length<=(kC A[j].2 A[j].1 (B.drop k')).length:=by simp[kC]
  have Cj:(kC A[j].2 A[j].1 (B.drop k')).length+B.countP (pA (A.drop (j+1)))<=B.countP (pA (A[j]::A.drop (j+1)))+1:=by
   have h5:(B.drop k').countP (λu=>decide (A[j].1<u.1)&&decide (u.1<A[j].2))<=B.countP (λu=>decide (A[j].1<u.1)&&decide (u.1<A[j].2)):=(List.drop_sublist k' B).countP_le
   have h6:=Wp (p:=λu=>decide (A[j].1<u.1)&&decide (u.1<A[j].2)) (q:=pA (A.drop (j+1))) (λu hp hq=>by
    obtain⟨s,hs,dx⟩:=qw.1 hq;have:=ct.mem a3 s hs;simp only[jb,jq]at hp dx;omega) B
   have h7:B.countP (λu=>(decide (A[j].1<u.1)&&decide (u.1<A[j].2))||pA (A.drop (j+1)) u)=B.countP (pA (A[j]::A.drop (j+1))):=rfl;omega
  have step:∀bm:SL,bm=acc++kC A[j].2 A[j].1 (B.drop k')->∃out,uO B (k':Int) A (A.length:Int) ((j:Int)+1) bm=some (acc++out)/\ct p out/\(∀x,bN x out↔bN x (A[j]::A.drop (j+1))/\¬bN x B)/\out.length<=d+1+B.countP (pA (A[j]::A.drop (j+1))):=by
   rintro _ rfl
   obtain⟨out,e,o1,o2,o3⟩:=Wt hA hb d (j+1) k' A[j].2 (acc++kC A[j].2 A[j].1 (B.drop k')) (by omega) h2 a3 (λi hi gr x hx=>by
    have hlow:=ct.low a3 hx;by_cases yb:i<k
    .exact Og i hi yb x (eU.2 (.inr hx))
    .have:=h3 i hi (by omega) gr;omega) (by rw[ja];omega)
   refine⟨kC A[j].2 A[j].1 (B.drop k')++out,by rw[<-jd];exact e,?_,λx=>?_,by rw[ja];omega⟩
   .have glue:∀(l:SL)(r:Int),ct r l->r<A[j].2->(∀s∈l,s.2<=A[j].2)->ct r (l++out):=by
     intro l;induction l with
     |nil=>intro r _ hr _;exact o1.weak (by omega)
     |cons s l ih=>intro r h hr hl;exact⟨h.1,h.2.1,by
      have:=hl s (by simp);by_cases hs:s.2<A[j].2
      .exact ih s.2 h.2.2 hs (λu hu=>hl u (by simp[hu]))
      .have he:s.2=A[j].2:=by omega
       match l,h.2.2 with
       |[],_=>exact o1.weak (by omega)
       |u::l',h'=>have:=hl u (by simp);have:=h'.1;have:=h'.2.1;omega⟩
    exact glue _ _ (s2.weak (by omega)) (by omega) s3
   .rw[G2,s1 x,o2 x,eU];constructor
    .rintro (h|h)
     .exact⟨.inl h.1,λhx=>h.2 ((u5 x h.1.1).1 hx)⟩
     .exact⟨.inr h.1,h.2⟩
    .rintro⟨h|h,h'⟩
     .exact .inl ⟨h,λhx=>h' ((u5 x h.1).2 hx)⟩
     .exact .inr ⟨h,h'⟩
  rw[SZ];simp only[j2z];rw[ag (show (j:Int)<(A.length:Int) by omega),aR (by omega) (by omega)];simp only[j5,j7,gA,h4,j3,w4];rw[aj (x:=(j:Int)+1) (by omega) (by omega)];have hlen:(acc++(my A[j].2 A[j].1 (B.drop k')).1).length<=2000000000:=by rw[ja];omega
  by_cases ht:(my A[j].2 A[j].1 (B.drop k')).2<A[j].2
  .rw[ag ht];simp only[j5];rw[ag (by simp only[aY,kv];omega)];simp only[j5,aJ];exact step _ (by simp only[kC,if_pos ht,jd])
  .rw[ah ht];simp only[j6,aJ];exact step _ (by simp only[kC,if_neg ht,k7])
theorem jmp{A:SL}{p q:Int}(ha:ct p A)(hb:ct q B)(hA:A.length<=10000000) :
  ∃out,j2O A B=some out/\ct p out/\(∀x,bN x out↔bN x A/\¬bN x B)/\out.length<=A.length+B.length:=by
 have hc:=List.countP_le_length (p:=pA (A.drop 0)) (l:=B);obtain⟨out,e,h1,h2,h3⟩:=Wt hB hA hb A.length 0 0 p [] (by omega) (by omega) ha (λi h hi=>by omega) (by simp only[qc];omega);refine⟨out,?_,h1,h2,by omega⟩;simp only[j2O,show Int.ofNat (List.length A)=(A.length:Int) from rfl,show uO B 0 A (A.length:Int) 0 []=_ from e,j3,jo]
end
set_option linter.unusedSectionVars false
theorem G5:j6g 2241=some 98981:=by kernel_rfl
theorem G6:j6g 1970=some 0:=by kernel_rfl
theorem Wu{d:Int}(h:j17 d=some true):d<=100000:=by
 apply jr;intro hd;simp only[j17,j5R,G6,G5,j3]at h;rw[ah (show¬d<0 by omega),ag (show d>=98981 by omega)]at h;simp at h
theorem eD.rt2{nz np nc:Nat}{L:bP}(h:eD nz np nc L):Rt L:=h.rt (Wu h.day)
section
variable{zs:List bU}{ps:List dH}{cs:List bt}(hs:fK zs ps cs)
include hs
theorem th{i:Int}(h0:0<=i)(h1:i<(cs.length:Int)):rE zs.length (cs.getD i.toNat (ByteArray.empty,((0:Int),([]:List Int)))):=by
 have hi:i.toNat<cs.length:=by omega
 rw[show cs.getD i.toNat (ByteArray.empty,((0:Int),([]:List Int)))=cs[i.toNat] by simp[List.getD,hi]];exact hs.c.ck _ (je hi)
end
def ix(es:List dE)(p t:Int):Bool:=es.any λx=>x.1==0&&(x.2.1==p&&(decide (x.2.2.2.1<=t)&&decide (t<x.2.2.2.2)))
def dW(good:Nat->Bool):Nat->Option Nat
 |0=>none
 |n+1=>cond (good n) (some n) (dW good n)
def fL(es:List dE)(t:Int)(Pf:Nat->Int)(i:Nat):Bool:=decide (0<=Pf i) && !ix es (Pf i) t
section
variable{zs:List bU}{ps:List dH}{cs:List bt}{ss:List cS}
theorem jDS(hz:∀z∈zs,iu z)(hc:uU (zs,(ps,(cs,ss)))):jg0 (zs,(ps,(cs,ss)))=some (((zs,(ps,(cs,ss))),zs.map tb),true):=by
 have iH:zs.length<=16:=hc.zl;simp only[jg0,show j5T (zs,(ps,(cs,ss)))=_ from juM hc,j3,jj,j6,jCs (ps:=ps) (cs:=cs) (ss:=ss) hz (show zs.length<=100 by omega)]
def dX(es:List dE)(t:Int)(Pf:Nat->Int)(n:Nat):Int:=match dW (fL es t Pf) n with
 |some i=>Pf i
 |none=> -1
end
def iy:List ByteArray:=[(ByteArray.mk #[102,105,114,115,116]),(ByteArray.mk #[115,101,99,111,110,100]),(ByteArray.mk #[116,104,105,114,100])]
theorem jCz:ez iy:=by
 refine⟨by decide,λk hk=>?_⟩;simp only[iy,jg,vh,or_false]at hk;rcases hk with rfl|rfl|rfl<;>exact DV 60 _ true (by kernel_rfl)
structure SG(nz np nc:Nat)(s:cS):Prop where
 ck:qK nz np nc s
 nm:s.2.1.map (·.1)=fJ.take s.2.1.length
 ll:s.2.1.length<=3
 el:s.2.2.length<=3
theorem Ww{L:List Int}{zs:List bU}{ps:List dH}{cs:List bt}(hs:D1 zs ps cs):∀(n:Nat)(a:Int)(ss:List cS),du L a->ss.length+n<=3->ss.map (·.1)=iy.take ss.length->(∀s∈ss,SG zs.length ps.length cs.length s)->
  ∃yc a',F2 (n:Int) L a zs ps cs ss=some (L,a',zs,ps,cs,yc)/\yc.length=ss.length+n/\yc.map (·.1)=iy.take yc.length/\(∀s∈yc,SG zs.length ps.length cs.length s)/\du L a'
 |0,a,ss,hd,hl,hn,hg=>by
  rw[Tr];simp only[j3v];rw[ah (by omega),j6,aU];exact⟨ss,a,rfl,rfl,hn,hg,hd⟩
 |n+1,a,ss,hd,hl,hn,hg=>by
  have aA:ss.length<iy.length:=by show ss.length<3;omega
  have yd:Int.tmod (Int.ofNat ss.length) 3=(ss.length:Int):=by have:Int.tmod (ss.length:Int) 3=(ss.length:Int):=Int.tmod_eq_of_lt (by omega) (by omega);exact this
  obtain⟨k,a3,e3,k0,k1,d3⟩:=cO (n:=4) hd (by omega) (by omega);obtain⟨ls,a4,e4,l4,lk,ln,d4⟩:=VI (s6:=((n+1:Nat):Int)) (nm:=List.getD iy ss.length ByteArray.empty) (ss:=ss) hs k.toNat a3 [] d3 (by simp;omega) (by simp) rfl;obtain⟨m,a5,e5,m0,m1,d5⟩:=cO (n:=4) d4 (by omega) (by omega);obtain⟨es,a6,e6,l6,ek,d6⟩:=VJ (s6:=((n+1:Nat):Int)) (nm:=List.getD iy ss.length ByteArray.empty) (zs:=zs) (cs:=cs) (ss:=ss) (ls:=ls) hs m.toNat a5 [] d5 (by simp;omega) (by simp);rw[show ((k.toNat:Nat):Int)=k by omega]at e4;rw[show ((m.toNat:Nat):Int)=m by omega]at e6
  have dM:SG zs.length ps.length cs.length (List.getD iy ss.length ByteArray.empty,(ls,es)):=
   ⟨⟨by dsimp only;rw[ln];exact VE.take _,lk,by dsimp only;omega,ek,by dsimp only;omega⟩,ln,l4,l6⟩
  obtain⟨yc,a',e',h1,h2,h3,h4⟩:=Ww hs n a6 (ss++[(List.getD iy ss.length ByteArray.empty,(ls,es))]) d6 (by simp;omega) (by
   rw[zq,hn,ja];exact GU aA) (λs h=>by
   rcases jn.1 h with h|h
   .exact hg s h
   .simp at h;subst h;exact dM)
  rw[Tr];simp only[j3v];rw[ag (show ((n+1:Nat):Int)>0 by omega),yd,aR (by omega) (by show (ss.length:Int)<(3:Nat);omega)];simp only[j5,j7,e3,j3];rw[show CS ((n+1:Nat):Int) k L a3 zs ps cs (List.getD [(ByteArray.mk #[102,105,114,115,116]),(ByteArray.mk #[115,101,99,111,110,100]),(ByteArray.mk #[116,104,105,114,100])] ss.length ByteArray.empty) ss []=_ from e4];simp only[j3,e5,e6];rw[ag (by simp[aY];omega),aj (by omega) (by omega),show ((n+1:Nat):Int)-1=(n:Int) by omega];simp only[j5,aJ];exact⟨yc,a',e',by rw[h1];simp;omega,h2,h3,h4⟩
theorem jwY{L:List Int}{a n:Int}(h:du L a)(n0:1<=n)(n1:n<=3):∃zs ps cs ss a',j9w L a n=some ((zs,(ps,(cs,ss))),L,a')/\fK zs ps cs/\1<=ss.length/\(ss.length:Int)<=n/\ss.map (·.1)=iy.take ss.length/\(∀s∈ss,SG zs.length ps.length cs.length s)/\du L a':=by
 obtain⟨zs,ps,cs,a1,e1,hs,d1⟩:=jyT h;obtain⟨x,a2,e2,x0,x1,d2⟩:=cO (n:=n) d1 (by omega) (by omega);obtain⟨ss,a3,e3,h1,h2,h3,d3⟩:=Ww hs.so (1+x).toNat a2 [] d2 (by simp;omega) (by simp) (by simp);rw[show (((1+x).toNat:Nat):Int)=1+x by omega]at e3;simp at h1;simp only[j9w,e1,e2,j3];rw[aj (x:=1+x) (by omega) (by omega)];simp only[e3,j3];exact⟨zs,ps,cs,ss,a3,rfl,hs,by omega,by omega,h2,h3,d3⟩
theorem jCA{zs:List bU}{ps:List dH}{cs:List bt}{ss:List cS}(hs:fK zs ps cs)(h0:ss.length<=12)(h1:ez (ss.map (·.1)))(h2:∀s∈ss,qK zs.length ps.length cs.length s):uU (zs,(ps,(cs,ss))):=jDE hs h0 h1 h2
instance(L:bP):Decidable (Rt L):=
 decidable_of_iff (1<=L.2.2.1.1/\L.2.2.1.1<=100000/\0<=L.2.2.1.2/\L.2.2.1.2<=86399/\0<=L.2.2.2.1/\L.2.2.2.1<=2/\1<=L.2.2.2.2.1/\L.2.2.2.2.1<=400/\L.2.2.2.2.2.1≠[])
  ⟨λ⟨a,b,c,d,e,f,g,h,i⟩=>⟨a,b,c,d,e,f,g,h,i⟩,λ⟨a,b,c,d,e,f,g,h,i⟩=>⟨a,b,c,d,e,f,g,h,i⟩⟩
section
variable{z:bU}{l:bE}(h4:Z4 z l)
include h4
theorem juR(L:bP):jhH z L=some (if Rt L then 0 else 8):=by
 have hc:j8e (z.1,(z.2.1,z.2.2))=some 0:=by simp only[j8e,show j25 (z.1,(z.2.1,z.2.2))=_ from h4.1,j3]
 simp only[jhH,hc,j3,jj,j6]
 have key:(cond (cond (cond (cond (cond (cond (cond (cond (decide (L.2.2.1.1<1)) true (decide (L.2.2.1.1>100000))) true (decide (L.2.2.1.2<0))) true (decide (L.2.2.1.2>=86400))) true (decide (L.2.2.2.1<0))) true (decide (L.2.2.2.1>2))) true (decide (L.2.2.2.2.1<1))) true (decide (L.2.2.2.2.1>400))) true (Int.ofNat L.2.2.2.2.2.1.length==0)) = !decide (Rt L):=by
  have hlen:(Int.ofNat L.2.2.2.2.2.1.length==0)=decide (L.2.2.2.2.2.1=[]):=by
   cases L.2.2.2.2.2.1 with
   |nil=>rfl
   |cons x r=>simp;omega
  rw[hlen];rw[Bool.eq_iff_iff];simp only[q7,kp];constructor
  .intro hh h;have a1:=h.d0;have a2:=h.d1;have a3:=h.c0;have a4:=h.c1;have a5:=h.u0;have a6:=h.u1;have a7:=h.e0;have a8:=h.e1;rw[ah (show¬L.2.2.1.1<1 by omega),ah (show¬L.2.2.1.1>100000 by omega),ah (show¬L.2.2.1.2<0 by omega),ah (show¬L.2.2.1.2>=86400 by omega),ah (show¬L.2.2.2.1<0 by omega),ah (show¬L.2.2.2.1>2 by omega),ah (show¬L.2.2.2.2.1<1 by omega),ah (show¬L.2.2.2.2.1>400 by omega),ah h.m0]at hh;simp at hh
  .intro hn;by_cases a1:L.2.2.1.1<1
   .rw[ag a1];rfl
   rw[ah a1];by_cases a2:L.2.2.1.1>100000
   .rw[ag a2];rfl
   rw[ah a2];by_cases a3:L.2.2.1.2<0
   .rw[ag a3];rfl
   rw[ah a3];by_cases a4:L.2.2.1.2>=86400
   .rw[ag a4];rfl
   rw[ah a4];by_cases a5:L.2.2.2.1<0
   .rw[ag a5];rfl
   rw[ah a5];by_cases a6:L.2.2.2.1>2
   .rw[ag a6];rfl
   rw[ah a6];by_cases a7:L.2.2.2.2.1<1
   .rw[ag a7];rfl
   rw[ah a7];by_cases a8:L.2.2.2.2.1>400
   .rw[ag a8];rfl
   rw[ah a8];by_cases a9:L.2.2.2.2.2.1=[]
   .rw[ag a9];rfl
   exact absurd ⟨by omega,by omega,by omega,by omega,by omega,by omega,by omega,by omega,a9⟩ hn
 rw[key];by_cases h:Rt L
 .rw[ag h,if_pos h];rfl
 .rw[ah h,if_neg h];rfl
end
theorem Wx{z:bU}{l:bE}(hz:Z4 z l){L:bP}(h:Rt L){t N:Int}(hN:N<=8589934592):∀n:Nat,(n:Int)<=N->
  ∃K:Int,xI t ((n:Int)-1) z.1 z.2.1 z.2.2 L.1 L.2.1 L.2.2.1.1 L.2.2.1.2 L.2.2.2.1 L.2.2.2.2.1 L.2.2.2.2.2.1 L.2.2.2.2.2.2.1 L.2.2.2.2.2.2.2.1 L.2.2.2.2.2.2.2.2=some K/\
   (K = -1\/0<=K/\QO z.2.1 l L t K)/\K<n/\∀j:Int,K<j->0<=j->j<n->¬QO z.2.1 l L t j
 |0,_=>by
  rw[T1];simp only[j6P];rw[ah (by omega),j6,aU];exact⟨_,rfl,.inl (by omega),by omega,λj h1 h2 h3=>by omega⟩
 |n+1,hn=>by
  obtain⟨K,e,k0,k1,k2⟩:=Wx hz h (t:=t) hN n (by omega);obtain⟨v,hH,hv⟩:=NZ hz h (k:=(n:Int)) (by omega) (by omega);rw[T1,show ((n+1:Nat):Int)-1=(n:Int) by omega];simp only[j6P];rw[ag (by omega),j5,show jc1 (z.1,(z.2.1,z.2.2)) (L.1,L.2.1,(L.2.2.1.1,L.2.2.1.2),L.2.2.2.1,L.2.2.2.2.1,L.2.2.2.2.2.1,L.2.2.2.2.2.2.1,L.2.2.2.2.2.2.2.1,L.2.2.2.2.2.2.2.2) (n:Int)=_ from hH];simp only[j3];rw[aj (x:=(n:Int)-1) (by omega) (by omega)]
  have down:¬QO z.2.1 l L t (n:Int)->(lpK (some (Sum.inl (t,(n:Int)-1,z.1,z.2.1,z.2.2,L.1,L.2.1,L.2.2.1.1,L.2.2.1.2,L.2.2.2.1,L.2.2.2.2.1,L.2.2.2.2.2.1,L.2.2.2.2.2.2.1,L.2.2.2.2.2.2.2.1,L.2.2.2.2.2.2.2.2)):Option ((Int×Int×ByteArray×Int×List aO×ByteArray×Int×Int×Int×Int×Int×List Int×WL×Int×Int) ⊕ Int)) (λh=>xI h.1 h.2.1 h.2.2.1 h.2.2.2.1 h.2.2.2.2.1 h.2.2.2.2.2.1 h.2.2.2.2.2.2.1 h.2.2.2.2.2.2.2.1 h.2.2.2.2.2.2.2.2.1 h.2.2.2.2.2.2.2.2.2.1 h.2.2.2.2.2.2.2.2.2.2.1 h.2.2.2.2.2.2.2.2.2.2.2.1 h.2.2.2.2.2.2.2.2.2.2.2.2.1 h.2.2.2.2.2.2.2.2.2.2.2.2.2.1 h.2.2.2.2.2.2.2.2.2.2.2.2.2.2))=some K/\∀j:Int,K<j->0<=j->j<((n+1:Nat):Int)->¬QO z.2.1 l L t j:=by
   intro hq;refine⟨by rw[aJ];exact e,λj h1 h2 h3=>?_⟩;by_cases yO:j<n
   .exact k2 j h1 h2 yO
   .rw[show j=(n:Int) by omega];exact hq
  cases hx:hO z.2.1 l L (n:Int) with
  |none=>
   simp only[v8,j6];obtain⟨d1,d2⟩:=down λ⟨y,hy,_⟩=>by rw[hx]at hy;simp at hy
   exact⟨K,d1,k0,by omega,d2⟩
  |some x=>
   have:=hv x hx;subst this;simp only[zh,j5];by_cases hc:v<=t
   .rw[ag hc,j5,aU];exact⟨_,rfl,.inr ⟨by omega,v,hx,hc⟩,by omega,λj h1 h2 h3=>by omega⟩
   .rw[ah hc,j6];obtain⟨d1,d2⟩:=down λ⟨y,hy,yX⟩=>by rw[hx]at hy;simp at hy;omega
    exact⟨K,d1,k0,by omega,d2⟩
theorem jET{z:bU}{l:bE}(hz:Z4 z l){L:bP}(h:Rt L){t:Int}(G0:0<=t)(pE:t<=8589934592):∃K:Int,jhK z L t=some K/\iQ z.2.1 l L t K:=by
 have hs:=h.step;have D3:=h.d0;have ov:=h.d1;have rC:=h.e0;have GZ:=h.e1;have iG:=h.c0;have fi:=h.c1;simp only[jhK];by_cases h0:L.2.2.2.1=0
 .have hF:=NY hz (d:=L.2.2.1.1) (c:=L.2.2.1.2) (by omega) iG fi;have hG:L.2.2.1.1*86400+L.2.2.1.2=cM L 0:=by unfold cM;omega
  rw[cP h0,j5,show j66 (z.1,(z.2.1,z.2.2)) (L.2.2.1.1,L.2.2.1.2)=_ from hF,hG];simp only[j3]
  have nq:(∀v,fO z.2.1 l (cM L 0)=some v->t<v)->¬QO z.2.1 l L t 0:=by
   rintro hn ⟨y,hy,yX⟩
   have:=hn y (V8 h0 hy);omega
  cases hf:fO z.2.1 l (cM L 0) with
  |none=>exact⟨-1,rfl,.inl ⟨rfl,nq λv hv=>by rw[hf]at hv;simp at hv⟩⟩
  |some v=>
   have N0:=Aw hz.2 hf;simp only[qj,j5];by_cases hc:v<=t
   .obtain⟨s1,s2,s3⟩:=V7 (o:=z.2.1) (l:=l) h h0 pE hf hc N0.2.1;rw[ag hc,j5,aj (x:=t-v) (by omega) (by omega),aj (x:=3600*L.2.2.2.2.1) (by omega) (by omega),bW (show¬3600*L.2.2.2.2.1=0 by omega),qo (by omega),aj (x:=(t-v)/(3600*L.2.2.2.2.1)) (by omega) (by omega)];exact⟨_,rfl,s1⟩
   .rw[ah hc];exact⟨-1,rfl,.inl ⟨rfl,nq λv' hv=>by rw[hf]at hv;simp at hv;omega⟩⟩
 .obtain⟨j,hj,j1,j2⟩:=xP hz.2 G0 pE;have o0:=hz.2.of0 j hj;have o1:=hz.2.of1 j hj;have eT:=VX hz (t:=t) G0 pE hj j1 j2;rw[bW h0,j6,show j4S (z.1,(z.2.1,z.2.2)) t=_ from eT];simp only[j3];have nT:∀k:Int,QO z.2.1 l L t k->L.2.2.1.1+k*cZ L<=(t+bB z.2.1 l j)/86400+2:=λk hq=>QO.day hz.2 h h0 hq hj;generalize hld:(t+bB z.2.1 l j)/86400=ld at nT;rw[aj (x:=ld+2) (by omega) (by omega),aj (x:=ld+2-L.2.2.1.1) (by omega) (by omega)]
  have fin:∀st:Int,st=cZ L->∃K:Int,((xI t (w64 (Int.tdiv (if (0:Int)>ld+2-L.2.2.1.1 then (0:Int) else ld+2-L.2.2.1.1) st)) z.1 z.2.1 z.2.2 L.1 L.2.1 L.2.2.1.1 L.2.2.1.2 L.2.2.2.1 L.2.2.2.2.1 L.2.2.2.2.2.1 L.2.2.2.2.2.2.1 L.2.2.2.2.2.2.2.1 L.2.2.2.2.2.2.2.2).bind λq0=>some q0)=some K/\iQ z.2.1 l L t K:=by
   rintro st rfl
   obtain⟨m,hm,mv,eZ⟩:∃m:Int,(if (0:Int)>ld+2-L.2.2.1.1 then (0:Int) else ld+2-L.2.2.1.1)=m/\0<=m/\m<=1000000:=⟨_,rfl,by split<;>omega,by split<;>omega⟩;have BN:ld+2-L.2.2.1.1<=m:=by rw[<-hm];split<;>omega
   rw[hm,qo mv];have q0:0<=m/cZ L:=vu mv (by omega);have q1:m/cZ L<=m:=vi _ mv;have q2:m<cZ L*(m/cZ L)+cZ L:=Int.lt_mul_ediv_self_add (by omega);rw[aj (by omega) (by omega)];generalize m/cZ L=km at *;obtain⟨K,e,k0,k1,k2⟩:=Wx hz h (t:=t) (ki _) (km+1).toNat (by omega);rw[show (((km+1).toNat:Nat):Int)-1=km by omega]at e;rw[e];refine⟨K,rfl,?_⟩
   have top:¬QO z.2.1 l L t (K+1):=by
    by_cases hK:K+1<=km
    .exact k2 (K+1) (by omega) (by rcases k0 with k0|k0<;>omega) (by omega)
    .intro hq;have hd:=nT _ hq;have cg:K=km:=by omega
     rw[cg,Int.add_mul,Int.one_mul]at hd;have:cZ L*km=km*cZ L:=Int.mul_comm _ _;omega
   rcases k0 with k0|k0
   .subst k0;exact .inl ⟨rfl,top⟩
   .exact .inr ⟨k0.1,k0.2,top⟩
  by_cases h2:L.2.2.2.1=2
  .have x9:cZ L=7*L.2.2.2.2.1:=by unfold cZ;rw[if_pos h2]
   rw[cP h2,j5,aj (x:=L.2.2.2.2.1*7) (by omega) (by omega),bW (show¬L.2.2.2.2.1*7=0 by omega)];simp only[jt,j5];exact fin _ (by rw[x9,Int.mul_comm])
  .have x9:cZ L=L.2.2.2.2.1:=by unfold cZ;rw[if_neg h2]
   rw[bW h2,j6,bW (show¬L.2.2.2.2.1=0 by omega)];simp only[jt,j5];exact fin _ x9.symm
end Go.Proofs.Pw
