/- span.Common and span.Without: meets and xp of sets. -/
import Derived.Test.YtjpgjpnfacnmaaaGreatLSPF
import Derived.Test.YtjpgjpnfacnmaaaGreatLSPE
import Derived.Test.YtjpgjpnfacnmaaaGreatLSPA
import Derived.KernelRfl
import Derived.Test.YtjpgjpnfacnmaaaGreatLSPD
open Go Go.Lft
namespace Go.Proofs.Pw
theorem bP.weak{p q:Int}(hq:q<=p):∀{l:SL},bP p l->bP q l
 |[],_=>trivial
 |_::_,h=>⟨by have:=h.1;omega,h.2⟩
theorem bP.low{p x:Int}:∀{l:SL},bP p l->bt x l->p<x
 |[],_,h=>absurd h fU
 |s::r,h,hx=>by
  rcases eU.1 hx with hx|hx
  .have:=h.1;omega
  .have:=bP.low h.2.2 hx;have:=h.1;have:=h.2.1;omega
theorem bP.mem{p:Int}:∀{l:SL},bP p l->∀s∈l,p<s.1/\s.1<s.2
 |[],_,s,hs=>by simp at hs
 |u::r,h,s,hs=>by
  rcases je.1 hs with rfl|hs
  .exact⟨h.1,h.2.1⟩
  .have:=bP.mem h.2.2 s hs;have:=h.1;have:=h.2.1;omega
def nC:Nat->SL->SL->SL
 |n+1,s::a,u::b=>(if (if u.1>s.1 then u.1 else s.1)<(if u.2<s.2 then u.2 else s.2) then [((if u.1>s.1 then u.1 else s.1),(if u.2<s.2 then u.2 else s.2))] else [])++
  (if s.2<u.2 then nC n a (u::b) else nC n (s::a) b)
 |_,_,_=>[]
theorem Rs:∀(n:Nat)(a b:SL)(p q:Int),a.length+b.length<=n->bP p a->bP q b->(∀x,bt x (nC n a b)↔bt x a/\bt x b)/\bP p (nC n a b)/\bP q (nC n a b)/\(nC n a b).length<=a.length+b.length
 |0,a,b,p,q,hn,_,_=>by
  obtain rfl:a=[]:=qh.1 (by omega);exact⟨λx=>⟨λh=>absurd h fU,λh=>absurd h.1 fU⟩,trivial,trivial,by simp[nC]⟩
 |n+1,[],b,p,q,_,_,_=>⟨λx=>⟨λh=>absurd h fU,λh=>absurd h.1 fU⟩,trivial,trivial,by simp[nC]⟩
 |n+1,_::_,[],p,q,_,_,_=>⟨λx=>⟨λh=>absurd h fU,λh=>absurd h.2 fU⟩,trivial,trivial,by simp[nC]⟩
 |n+1,s::a,u::b,p,q,hn,ha,hb=>by
  obtain⟨a1,a2,a3⟩:=ha;obtain⟨b1,b2,b3⟩:=hb;simp only[jm]at hn ⊢
  have hx:∃f t:Int,f=(if u.1>s.1 then u.1 else s.1)/\t=(if u.2<s.2 then u.2 else s.2)/\(∀x,(f<=x/\x<t)↔(s.1<=x/\x<s.2)/\(u.1<=x/\x<u.2))/\p<f/\q<f/\t<=s.2/\t<=u.2:=by
   refine⟨_,_,rfl,rfl,λx=>?_,?_,?_,?_,?_⟩
   .constructor
    .intro h;split at h<;>split at h<;>omega
    .intro h;split<;>split<;>omega
   .split<;>omega
   .split<;>omega
   .split<;>omega
   .split<;>omega
  obtain⟨f,t,ef,et,hi,f1,f2,t1,t2⟩:=hx;simp only[nC,<-ef,<-et]
  have key:∀(a' b':SL)(r:SL),(∀x,bt x r↔bt x a'/\bt x b')->bP t r->bP p r->bP q r->r.length<=a'.length+b'.length->a'.length+b'.length+1=a.length+1+(b.length+1)->
    (∀x,bt x (s::a)/\bt x (u::b)↔(f<=x/\x<t)\/(bt x a'/\bt x b'))->
    (∀x,bt x ((if f<t then [(f,t)] else [])++r)↔bt x (s::a)/\bt x (u::b))/\bP p ((if f<t then [(f,t)] else [])++r)/\bP q ((if f<t then [(f,t)] else [])++r)/\((if f<t then [(f,t)] else [])++r).length<=a.length+1+(b.length+1):=by
   intro a' b' r xO JR Ru JS hl th sU;by_cases jB:f<t
   .rw[if_pos jB];refine⟨λx=>?_,⟨f1,jB,JR⟩,⟨f2,jB,JR⟩,by simp;omega⟩;rw[sU,xn,xO x,eU];constructor
    .rintro ((h|h)|h)
     .exact .inl h
     .exact absurd h fU
     .exact .inr h
    .rintro (h|h)
     .exact .inl (.inl h)
     .exact .inr h
   .rw[if_neg jB,jv];refine⟨λx=>?_,Ru,JS,by omega⟩;rw[sU,xO x];constructor
    .exact .inr
    .rintro (h|h)
     .omega
     .exact h
  by_cases hc:s.2<u.2
  .rw[if_pos hc];obtain⟨i1,i2,i3,i4⟩:=Rs n a (u::b) s.2 q (by simp;omega) a3 ⟨b1,b2,b3⟩;refine key a (u::b) _ i1 (i2.weak t1) (i2.weak (by omega)) i3 i4 (by simp;omega) (λx=>?_);rw[eU,hi x];constructor
   .rintro⟨h|h,h'⟩
    .rcases eU.1 h' with h'|h'
     .exact .inl ⟨h,h'⟩
     .have:=bP.low b3 h';omega
    .exact .inr ⟨h,h'⟩
   .rintro (h|h)
    .exact⟨.inl h.1,eU.2 (.inl h.2)⟩
    .exact⟨.inr h.1,h.2⟩
  .rw[if_neg hc];obtain⟨i1,i2,i3,i4⟩:=Rs n (s::a) b p u.2 (by simp;omega) ⟨a1,a2,a3⟩ b3;refine key (s::a) b _ i1 (i3.weak t2) i2 (i3.weak (by omega)) i4 (by simp;omega) (λx=>?_);rw[eU (s:=u),hi x];constructor
   .rintro⟨h',h|h⟩
    .rcases eU.1 h' with h'|h'
     .exact .inl ⟨h',h⟩
     .have:=bP.low a3 h';omega
    .exact .inr ⟨h',h⟩
   .rintro (h|h)
    .exact⟨eU.2 (.inl h.1),.inl h.2⟩
    .exact⟨h.1,.inr h.2⟩
theorem Rv{A B:SL}(hA:A.length<=10000000)(hB:B.length<=10000000):∀(n i k:Nat)(acc:SL),i<=A.length->k<=B.length->(A.length-i)+(B.length-k)=n->acc.length+n<=30000000->
  zO A B (i:Int) (k:Int) acc=some (acc++nC n (A.drop i) (B.drop k))
 |n,i,k,acc,hi,hk,hn,dZ=>by
  rw[jkr];simp only[j5X,show Int.ofNat (List.length A)=(A.length:Int) from rfl,show Int.ofNat (List.length B)=(B.length:Int) from rfl];by_cases fp:i<A.length/\k<B.length
  .obtain⟨bj,bK⟩:=fp;obtain⟨n,rfl⟩:∃m,n=m+1:=⟨n-1,by omega⟩;have gA:A.getD i ((0:Int),(0:Int))=A[i]:=by simp[List.getD,bj]
   have gB:B.getD k ((0:Int),(0:Int))=B[k]:=by simp[List.getD,bK]
   rw[ag (show (i:Int)<(A.length:Int) by omega),ag (show (k:Int)<(B.length:Int) by omega),cw (show (0:Int)<=(i:Int) by omega) (by omega),cw (show (0:Int)<=(k:Int) by omega) (by omega)];simp only[j6,j8,gA,gB];rw[ai (x:=(i:Int)+1),ai (x:=(k:Int)+1)];rw[jb bj,jb bK];simp only[nC];generalize (if B[k].1>A[i].1 then B[k].1 else A[i].1:Int)=f;generalize (if B[k].2<A[i].2 then B[k].2 else A[i].2:Int)=t
   have Gn:∀bA:SL,bA.length<=acc.length+1->zO A B ((i:Int)+1) (k:Int) bA=some (bA++nC n (A.drop (i+1)) (B[k]::B.drop (k+1))):=λbA tK=>by
    have:=Rv hA hB n (i+1) k bA (by omega) (by omega) (by omega) (by omega);rw[<-jb bK];exact this
   have Gp:∀bA:SL,bA.length<=acc.length+1->zO A B (i:Int) ((k:Int)+1) bA=some (bA++nC n (A[i]::A.drop (i+1)) (B.drop (k+1))):=λbA tK=>by
    have:=Rv hA hB n i (k+1) bA (by omega) (by omega) (by omega) (by omega);rw[<-jb bj];exact this
   by_cases jB:f<t
   .rw[ag jB,if_pos jB,ag (by simp[aN];omega)];simp only[j6];by_cases hc:A[i].2<B[k].2
    .rw[ag hc,if_pos hc];simp only[j6,aK];rw[Gn _ (by simp),jj]
    .rw[ah hc,if_neg hc];simp only[j7,aK];rw[Gp _ (by simp),jj]
   .rw[ah jB,if_neg jB];simp only[j7];by_cases hc:A[i].2<B[k].2
    .rw[ag hc,if_pos hc];simp only[j6,aK];rw[Gn _ (by omega),jv]
    .rw[ah hc,if_neg hc];simp only[j7,aK];rw[Gp _ (by omega),jv]
  .have hc:cond (decide ((i:Int)<(A.length:Int))) (decide ((k:Int)<(B.length:Int))) false=false:=by
    by_cases h1:i<A.length
    .rw[ag (by omega),j6];exact ah (by omega)
    .rw[ah (by omega),j7]
   rw[hc,j7,aW]
   have:nC n (A.drop i) (B.drop k)=[]:=by
    by_cases h1:i<A.length
    .rw[yp (show B.length<=k by omega)];cases n<;>cases A.drop i<;>rfl
    .rw[yp (show A.length<=i by omega)];cases n<;>rfl
   rw[this,qm]
theorem Z9{A B:SL}{p q:Int}(ha:bP p A)(hb:bP q B)(hA:A.length<=10000000)(hB:B.length<=10000000) :
  ∃out,j8y A B=some out/\bP p out/\(∀x,bt x out↔bt x A/\bt x B)/\out.length<=A.length+B.length:=by
 have lp:=Rv hA hB (A.length+B.length) 0 0 [] (by omega) (by omega) (by omega) (by simp;omega);obtain⟨h1,h2,h3,h4⟩:=Rs (A.length+B.length) A B p q (js _) ha hb;refine⟨nC (A.length+B.length) A B,?_,h2,h1,h4⟩;simp only[j8y,show zO A B 0 0 []=_ from lp,j4,jv,jr]
def oz(e:Int):Int->SL->SL×Int
 |t,[]=>([],t)
 |t,u::b=>if u.1<e then ((if t<u.1 then [(t,u.1)] else [])++(oz e (if u.2>t then u.2 else t) b).1,(oz e (if u.2>t then u.2 else t) b).2) else ([],t)
def mo(e t:Int)(b:SL):SL:=(oz e t b).1++(if (oz e t b).2<e then [((oz e t b).2,e)] else [])
theorem jDp{e t:Int}{u:Int×Int}{b:SL}(h:u.1<e):mo e t (u::b)=(if t<u.1 then [(t,u.1)] else [])++mo e (if u.2>t then u.2 else t) b:=by
 simp only[mo,oz,if_pos h,jj]
theorem jBU{e:Int}:∀(b:SL)(t q:Int),bP q b->(∀x,bt x (mo e t b)↔(t<=x/\x<e)/\¬bt x b)/\bP (t-1) (mo e t b)/\(∀s∈mo e t b,s.2<=e)/\(mo e t b).length<=b.countP (λu=>decide (t<u.1)&&decide (u.1<e))+1
 |[],t,q,_=>by
  rw[show mo e t []=(if t<e then [(t,e)] else []) from rfl];by_cases h:t<e
  .rw[if_pos h];exact⟨λx=>⟨λhx=>⟨by rcases eU.1 hx with hx|hx;exact hx;exact absurd hx fU,fU⟩,λhx=>eU.2 (.inl hx.1)⟩,⟨by dsimp only;omega,h,trivial⟩,by simp,by simp⟩
  .rw[if_neg h];exact⟨λx=>⟨λhx=>absurd hx fU,λhx=>by omega⟩,trivial,by simp,by simp⟩
 |u::b,t,q,hb=>by
  obtain⟨b1,b2,b3⟩:=hb;by_cases hu:u.1<e
  .rw[jDp hu];have hm:∃t',t'=(if u.2>t then u.2 else t)/\t<=t'/\u.2<=t'/\(t'=t\/t'=u.2):=⟨_,rfl,by split<;>omega,by split<;>omega,by split<;>omega⟩;obtain⟨t',e',h1,h2,h3⟩:=hm;rw[<-e'];obtain⟨i1,i2,i3,i4⟩:=jBU b t' u.2 b3;have fh:∀x,bt x b->u.2<x:=λx=>bP.low b3
   have hcp:b.countP (λu=>decide (t'<u.1)&&decide (u.1<e))<=b.countP (λu=>decide (t<u.1)&&decide (u.1<e)):=List.countP_mono_left λv _ h=>by
    simp only[jc,jo]at h ⊢;omega
   by_cases Am:t<u.1
   .rw[if_pos Am]
    refine⟨λx=>?_,⟨by dsimp only;omega,Am,i2.weak (by omega)⟩,λs hs=>?_,by
     rw[List.countP_cons_of_pos (by simp[Am,hu]),List.singleton_append,jm];omega⟩
    .rw[List.singleton_append,eU,i1 x,eU];constructor
     .rintro (h|h)
      .exact⟨by omega,λh'=>by
        rcases h' with h'|h'
        .omega
        .have:=fh x h';omega⟩
      .exact⟨by omega,λh'=>by
        rcases h' with h'|h'
        .omega
        .exact h.2 h'⟩
     .rintro⟨h,h'⟩
      by_cases hx:x<u.1
      .exact .inl ⟨h.1,hx⟩
      .by_cases nv:x<u.2
       .exact absurd (.inl ⟨by omega,nv⟩) h'
       .exact .inr ⟨by omega,λh2=>h' (.inr h2)⟩
    .rcases je.1 hs with rfl|hs
     .dsimp only;omega
     .exact i3 s hs
   .rw[if_neg Am,jv]
    refine⟨λx=>?_,i2.weak (by omega),i3,by
     rw[List.countP_cons_of_neg (by simp[Am])];omega⟩
    rw[i1 x,eU];constructor
    .rintro h
     exact⟨by omega,λh'=>by
      rcases h' with h'|h'
      .omega
      .exact h.2 h'⟩
    .rintro⟨h,h'⟩
     by_cases nv:x<u.2
     .exact absurd (.inl ⟨by omega,nv⟩) h'
     .exact⟨by omega,λh2=>h' (.inr h2)⟩
  .have:mo e t (u::b)=if t<e then [(t,e)] else []:=by simp only[mo,oz,if_neg hu,jv]
   rw[this]
   have cY:∀x,x<e->¬bt x (u::b):=λx hx h=>by
    rcases eU.1 h with h|h
    .omega
    .have:=bP.low b3 h;omega
   by_cases h:t<e
   .rw[if_pos h]
    exact⟨λx=>⟨λhx=>by
     rcases eU.1 hx with hx|hx
     .exact⟨hx,cY x hx.2⟩
     .exact absurd hx fU,λhx=>eU.2 (.inl hx.1)⟩,⟨by dsimp only;omega,h,trivial⟩,by simp,by simp⟩
   .rw[if_neg h];exact⟨λx=>⟨λhx=>absurd hx fU,λhx=>by omega⟩,trivial,by simp,by simp⟩
def pA(l:SL)(u:Int×Int):Bool:=l.any λs=>decide (s.1<u.1)&&decide (u.1<s.2)
theorem jvs{p q:Int×Int->Bool}(h:∀u,p u=true->q u=true->False):∀l:SL,l.countP p+l.countP q<=l.countP (λu=>p u||q u)
 |[]=>by simp
 |u::l=>by
  have ih:=jvs h l;have hu:=h u;simp only[List.countP_cons];cases hp:p u<;>cases hq:q u<;>simp_all<;>omega
theorem jz6{q:Int}:∀{b:SL}(k:Nat),bP q b->∃q',bP q' (b.drop k)
 |_,0,h=>⟨q,h⟩
 |[],_+1,_=>⟨q,trivial⟩
 |_::_,k+1,h=>jz6 k h.2.2
section
variable{B:SL}(hB:B.length<=10000000)
include hB
theorem jEN{A:SL}{n m s e:Int}{acc:SL}:∀(d k:Nat),k+d=B.length->∃k':Nat,k<=k'/\k'<=B.length/\(∀j (h:j<B.length),k<=j->j<k'->B[j].2<=s)/\
  ID B (k:Int) A n m s e acc=some (B,(k':Int),A,n,m,s,e,acc)
 |0,k,hk=>by
  rw[WY];simp only[j3F,show Int.ofNat (List.length B)=(B.length:Int) from rfl];rw[ah (by omega),j7,aW];exact⟨k,by omega,by omega,λj h h1 h2=>by omega,rfl⟩
 |d+1,k,hk=>by
  have bK:k<B.length:=by omega
  have gB:B.getD k ((0:Int),(0:Int))=B[k]:=by simp[List.getD,bK]
  rw[WY];simp only[j3F,show Int.ofNat (List.length B)=(B.length:Int) from rfl];rw[ag (by omega),bz];simp only[j6,j8,gB];by_cases hc:B[k].2<=s
  .rw[ag hc,j6,aK,ai (x:=(k:Int)+1)];obtain⟨k',h1,h2,h3,h4⟩:=jEN d (k+1) (by omega);refine⟨k',by omega,h2,λj h ha hb=>?_,h4⟩;by_cases rU:j=k
   .subst rU;exact hc
   .exact h3 j h (by omega) hb
  .rw[ah hc,j7,aW];exact⟨k,by omega,by omega,λj h h1 h2=>by omega,rfl⟩
theorem jEO{A:SL}{k n m s e:Int}:∀(d i:Nat)(t:Int)(acc:SL),i+d=B.length->acc.length+d<=4000000000->
  EK B k t (i:Int) A n m s e acc=some (B,k,(oz e t (B.drop i)).2,A,n,m,s,e,acc++(oz e t (B.drop i)).1)
 |0,i,t,acc,hi,dZ=>by
  rw[WZ];simp only[j3G,show Int.ofNat (List.length B)=(B.length:Int) from rfl];rw[ah (by omega),j7,aW,jd (by omega)];simp[oz]
 |d+1,i,t,acc,hi,dZ=>by
  have bj:i<B.length:=by omega
  have gB:B.getD i ((0:Int),(0:Int))=B[i]:=by simp[List.getD,bj]
  rw[WZ];simp only[j3G,show Int.ofNat (List.length B)=(B.length:Int) from rfl];rw[ag (by omega),bz];simp only[j6,j8,gB];rw[jb bj,ai (x:=(i:Int)+1)];by_cases hc:B[i].1<e
  .rw[ag hc];simp only[j6,oz,if_pos hc];have ih:∀bA:SL,bA.length<=acc.length+1->EK B k (if B[i].2>t then B[i].2 else t) ((i:Int)+1) A n m s e bA=_:=λbA h'=>jEO d (i+1) (if B[i].2>t then B[i].2 else t) bA (by omega) (by omega);by_cases ht:t<B[i].1
   .rw[ag ht,if_pos ht,ag (by simp[aN];omega)];simp only[j6,aK];rw[ih _ (by simp),jj]
   .rw[ah ht,if_neg ht];simp only[j7,aK];rw[ih _ (by omega),jv]
  .rw[ah hc];simp only[j7,aW,oz,if_neg hc,qm]
theorem jEP{A:SL}(hA:A.length<=10000000){q:Int}(hb:bP q B):∀(d j k:Nat)(p:Int)(acc:SL),j+d=A.length->k<=B.length->bP p (A.drop j)->(∀i (h:i<B.length),i<k->∀x,bt x (A.drop j)->B[i].2<=x)->acc.length+d+B.countP (pA (A.drop j))<=30000000->
  ∃out,BV B (k:Int) A (A.length:Int) (j:Int) acc=some (acc++out)/\bP p out/\(∀x,bt x out↔bt x (A.drop j)/\¬bt x B)/\out.length<=d+B.countP (pA (A.drop j))
 |0,j,k,p,acc,hj,hk,_,_,dZ=>by
  rw[W0];simp only[j3H];rw[ah (by omega),j7,aW,jd (by omega)];exact⟨[],by simp,trivial,λx=>⟨λh=>absurd h fU,λh=>absurd h.1 fU⟩,by simp⟩
 |d+1,j,k,p,acc,hj,hk,ha,BF,dZ=>by
  have iB:j<A.length:=by omega
  have gA:A.getD j ((0:Int),(0:Int))=A[j]:=by simp[List.getD,iB]
  rw[jb iB]at ha BF dZ ⊢;obtain⟨a1,a2,a3⟩:=ha;obtain⟨k',h1,h2,h3,h4⟩:=jEN hB (A:=A) (n:=(A.length:Int)) (m:=(j:Int)) (s:=A[j].1) (e:=A[j].2) (acc:=acc) (B.length-k) k (by omega);have aT:∃q',bP q' (B.drop k'):=jz6 k' hb;obtain⟨q',aT⟩:=aT
  have xq:∀x,A[j].1<=x->(bt x B↔bt x (B.drop k')):=by
   intro x hx;constructor
   .rintro⟨u,hu,u1,u2⟩
    obtain⟨i,hi,rfl⟩:=List.mem_iff_getElem.1 hu;by_cases mD:i<k'
    .by_cases An:i<k
     .have:=BF i hi An A[j].1 (eU.2 (.inl ⟨k9 _,a2⟩));omega
     .have:=h3 i hi (by omega) mD;omega
    .exact⟨B[i],List.mem_drop_iff_getElem.2 ⟨i-k',by omega,by simp[show k'+(i-k')=i by omega]⟩,u1,u2⟩
   .rintro⟨u,hu,u1,u2⟩
    exact⟨u,zm hu,u1,u2⟩
  have w4:=jEO hB (A:=A) (k:=(k':Int)) (n:=(A.length:Int)) (m:=(j:Int)) (s:=A[j].1) (e:=A[j].2) (B.length-k') k' A[j].1 acc (by omega) (by omega);obtain⟨s1,s2,s3,s4⟩:=jBU (e:=A[j].2) (B.drop k') A[j].1 q' aT;have iD:(oz A[j].2 A[j].1 (B.drop k')).1.length<=(mo A[j].2 A[j].1 (B.drop k')).length:=by simp[mo]
  have DC:(mo A[j].2 A[j].1 (B.drop k')).length+B.countP (pA (A.drop (j+1)))<=B.countP (pA (A[j]::A.drop (j+1)))+1:=by
   have h5:(B.drop k').countP (λu=>decide (A[j].1<u.1)&&decide (u.1<A[j].2))<=B.countP (λu=>decide (A[j].1<u.1)&&decide (u.1<A[j].2)):=(List.drop_sublist k' B).countP_le
   have h6:=jvs (p:=λu=>decide (A[j].1<u.1)&&decide (u.1<A[j].2)) (q:=pA (A.drop (j+1))) (λu hp hq=>by
    obtain⟨s,hs,dC⟩:=zh.1 hq;have:=bP.mem a3 s hs;simp only[jc,jo]at hp dC;omega) B
   have h7:B.countP (λu=>(decide (A[j].1<u.1)&&decide (u.1<A[j].2))||pA (A.drop (j+1)) u)=B.countP (pA (A[j]::A.drop (j+1))):=rfl;omega
  have step:∀bA:SL,bA=acc++mo A[j].2 A[j].1 (B.drop k')->∃out,BV B (k':Int) A (A.length:Int) ((j:Int)+1) bA=some (acc++out)/\bP p out/\(∀x,bt x out↔bt x (A[j]::A.drop (j+1))/\¬bt x B)/\out.length<=d+1+B.countP (pA (A[j]::A.drop (j+1))):=by
   rintro _ rfl
   obtain⟨out,e,o1,o2,o3⟩:=jEP hA hb d (j+1) k' A[j].2 (acc++mo A[j].2 A[j].1 (B.drop k')) (by omega) h2 a3 (λi hi mD x hx=>by
    have hlow:=bP.low a3 hx;by_cases An:i<k
    .exact BF i hi An x (eU.2 (.inr hx))
    .have:=h3 i hi (by omega) mD;omega) (by rw[jg];omega)
   refine⟨mo A[j].2 A[j].1 (B.drop k')++out,by rw[<-jj];exact e,?_,λx=>?_,by rw[jg];omega⟩
   .have glue:∀(l:SL)(r:Int),bP r l->r<A[j].2->(∀s∈l,s.2<=A[j].2)->bP r (l++out):=by
     intro l;induction l with
     |nil=>intro r _ hr _;exact o1.weak (by omega)
     |cons s l ih=>intro r h hr hl;exact⟨h.1,h.2.1,by
      have:=hl s (by simp);by_cases hs:s.2<A[j].2
      .exact ih s.2 h.2.2 hs (λu hu=>hl u (by simp[hu]))
      .have he:s.2=A[j].2:=by omega
       match l,h.2.2 with
       |[],_=>exact o1.weak (by omega)
       |u::l',h'=>have:=hl u (by simp);have:=h'.1;have:=h'.2.1;omega⟩
    exact glue _ _ (s2.weak (by omega)) (by omega) s3
   .rw[xn,s1 x,o2 x,eU];constructor
    .rintro (h|h)
     .exact⟨.inl h.1,λhx=>h.2 ((xq x h.1.1).1 hx)⟩
     .exact⟨.inr h.1,h.2⟩
    .rintro⟨h|h,h'⟩
     .exact .inl ⟨h,λhx=>h' ((xq x h.1).2 hx)⟩
     .exact .inr ⟨h,h'⟩
  rw[W0];simp only[j3H];rw[ag (show (j:Int)<(A.length:Int) by omega),bz];simp only[j6,j8,gA,h4,j4,w4];rw[ai (x:=(j:Int)+1)];have hlen:(acc++(oz A[j].2 A[j].1 (B.drop k')).1).length<=2000000000:=by rw[jg];omega
  by_cases ht:(oz A[j].2 A[j].1 (B.drop k')).2<A[j].2
  .rw[ag ht];simp only[j6];rw[ag (by simp only[aN,ku];omega)];simp only[j6,aK];exact step _ (by simp only[mo,if_pos ht,jj])
  .rw[ah ht];simp only[j7,aK];exact step _ (by simp only[mo,if_neg ht,qm])
theorem Rw{A:SL}{p q:Int}(ha:bP p A)(hb:bP q B)(hA:A.length<=10000000) :
  ∃out,j2x A B=some out/\bP p out/\(∀x,bt x out↔bt x A/\¬bt x B)/\out.length<=A.length+B.length:=by
 have hc:=List.countP_le_length (p:=pA (A.drop 0)) (l:=B);obtain⟨out,e,h1,h2,h3⟩:=jEP hB hA hb A.length 0 0 p [] (by omega) (by omega) ha (λi h hi=>by omega) (by simp only[qc];omega);refine⟨out,?_,h1,h2,by omega⟩;simp only[j2x,show Int.ofNat (List.length A)=(A.length:Int) from rfl,show BV B 0 A (A.length:Int) 0 []=_ from e,j4,jv]
end
set_option linter.unusedSectionVars false
theorem JT:∀{l:SL}{p:Int},bP p l->∀i,i<l.length->p<(l.getD i (0,0)).1/\(l.getD i (0,0)).1<(l.getD i (0,0)).2
 |[],_,_,i,hi=>by simp at hi
 |x::r,p,h,0,_=>⟨h.1,h.2.1⟩
 |x::r,p,h,i+1,hi=>by
  have:=JT h.2.2 i (by simpa using hi);have h1:=h.1;have h2:=h.2.1;refine⟨?_,this.2⟩;have e:((x::r).getD (i+1) (0,0)).1=(r.getD i (0,0)).1:=rfl;rw[e];omega
theorem jz7:∀{l:SL}{p:Int},bP p l->∀i j,i<j->j<l.length->(l.getD i (0,0)).2<(l.getD j (0,0)).1
 |[],_,_,i,j,_,hj=>by simp at hj
 |x::r,p,h,0,j+1,_,hj=>(JT h.2.2 j (by simpa using hj)).1
 |x::r,p,h,i+1,j+1,dF,hj=>jz7 h.2.2 i j (by omega) (by simpa using hj)
 |x::r,p,h,_,0,dF,_=>by omega
section
variable{l:SL}{p:Int}(h:bP p l)(hp : -1<=p)(hl:l.length<=4096)(hb:∀u∈l,u.2<=8589934592)
include h hp hl hb
theorem jBV(i:Nat)(hi:i<l.length):(l.getD i (0,0)).2<=8589934592:=by
 rw[show l.getD i (0,0)=l[i] by simp[hi]];exact hb _ (jf hi)
theorem jEQ:∀(n i:Nat),i+n=l.length->I3 l (i:Int)=some (.inr ())
 |0,i,hi=>by
  rw[X8];simp only[j5G,show Int.ofNat (List.length l)=(l.length:Int) from rfl];rw[ah (by omega),j7,aW]
 |n+1,i,hi=>by
  have ih:=jEQ n (i+1) (by omega);have hg:=JT h i (by omega);have hu:=jBV h hp hl hb i (by omega);rw[X8];simp only[j5G,show Int.ofNat (List.length l)=(l.length:Int) from rfl];rw[ag (show (i:Int)<(l.length:Int) by omega),bz];simp only[j6,j8];rw[ah (show¬(l.getD i ((0:Int),(0:Int))).1<0 by omega),ah (show¬(l.getD i ((0:Int),(0:Int))).1>=(l.getD i ((0:Int),(0:Int))).2 by omega),ah (show¬(l.getD i ((0:Int),(0:Int))).2>8589934592 by omega)];rw[ai (x:=(i:Int)+1)];simp only[j7];by_cases h0:i=0
  .rw[ah (by omega)];simp only[j7,aK];exact ih
  .obtain⟨j,rfl⟩:∃j,i=j+1:=⟨i-1,by omega⟩;have F5:=jz7 h j (j+1) (by omega) (by omega);rw[ag (by omega),ai (x:=((j+1:Nat):Int)-1),bz,show (((j+1:Nat):Int)-1).toNat=j by omega,ah (by omega)];simp only[j6,j7,aK];exact ih
theorem jz8:jjD l=some true:=by
 have:=jEQ h hp hl hb l.length 0 (by omega);rw[show ((0:Nat):Int)=0 from rfl]at this;simp only[jjD,show Int.ofNat (List.length l)=(l.length:Int) from rfl];rw[ah (by omega),j7,this];rfl
end
theorem JU:j50 2241=some 98981:=by kernel_rfl
theorem JV:j50 1970=some 0:=by kernel_rfl
theorem jBW{d:Int}(h:j0A d=some true):d<=100000:=by
 apply jp;intro hd;simp only[j0A,j4B,JV,JU,j4]at h;rw[ah (show¬d<0 by omega),ag (show d>=98981 by omega)]at h;simp at h
theorem eD.rt2{nz np nc:Nat}{L:bI}(h:eD nz np nc L):Rt L:=h.rt (jBW h.day)
section
variable{zs:List br}{ps:List cZ}{cs:List aX}(hs:cN zs ps cs)
include hs
theorem oA{i:Int}(h0:0<=i)(h1:i<(cs.length:Int)):pT zs.length (cs.getD i.toNat (ByteArray.empty,((0:Int),([]:List Int)))):=by
 have hi:i.toNat<cs.length:=by omega
 rw[show cs.getD i.toNat (ByteArray.empty,((0:Int),([]:List Int)))=cs[i.toNat] by simp[List.getD,hi]];exact hs.c.ck _ (jf hi)
end
def iK(es:List dA)(p t:Int):Bool:=es.any λx=>x.1==0&&(x.2.1==p&&(decide (x.2.2.2.1<=t)&&decide (t<x.2.2.2.2)))
def dI(good:Nat->Bool):Nat->Option Nat
 |0=>none
 |n+1=>cond (good n) (some n) (dI good n)
def fZ(es:List dA)(t:Int)(Pf:Nat->Int)(i:Nat):Bool:=decide (0<=Pf i) && !iK es (Pf i) t
section
variable{zs:List br}{ps:List cZ}{cs:List aX}{ss:List cF}
theorem jER(hz:∀z∈zs,gg z)(hc:ny (zs,(ps,(cs,ss)))):jpx (zs,(ps,(cs,ss)))=some (((zs,(ps,(cs,ss))),zs.map tb),true):=by
 have kL:zs.length<=16:=hc.zl;simp only[jpx,show j91 (zs,(ps,(cs,ss)))=_ from jub hc,j4,jh,j7,jDk (ps:=ps) (cs:=cs) (ss:=ss) hz (show zs.length<=100 by omega)]
def dB(es:List dA)(t:Int)(Pf:Nat->Int)(n:Nat):Int:=match dI (fZ es t Pf) n with
 |some i=>Pf i
 |none=> -1
end
def kC:List ByteArray:=[(ByteArray.mk #[102,105,114,115,116]),(ByteArray.mk #[115,101,99,111,110,100]),(ByteArray.mk #[116,104,105,114,100])]
theorem jDq:fq kC:=by
 refine⟨by decide,λk hk=>?_⟩;simp only[kC,je,zw,or_false]at hk;rcases hk with rfl|rfl|rfl<;>exact JF 60 _ true (by kernel_rfl)
structure SG(nz np nc:Nat)(s:cF):Prop where
 ck:pV nz np nc s
 nm:s.2.1.map (·.1)=gr.take s.2.1.length
 ll:s.2.1.length<=3
 el:s.2.2.length<=3
theorem jBX{L:List Int}{zs:List br}{ps:List cZ}{cs:List aX}(hs:F6 zs ps cs):∀(n:Nat)(a:Int)(ss:List cF),dD L a->ss.length+n<=3->ss.map (·.1)=kC.take ss.length->(∀s∈ss,SG zs.length ps.length cs.length s)->
  ∃Ao a',Ii (n:Int) L a zs ps cs ss=some (L,a',zs,ps,cs,Ao)/\Ao.length=ss.length+n/\Ao.map (·.1)=kC.take Ao.length/\(∀s∈Ao,SG zs.length ps.length cs.length s)/\dD L a'
 |0,a,ss,hd,hl,hn,hg=>by
  rw[Wp];simp only[j24];rw[ah (by omega),j7,aW];exact⟨ss,a,rfl,rfl,hn,hg,hd⟩
 |n+1,a,ss,hd,hl,hn,hg=>by
  have ak:ss.length<kC.length:=by show ss.length<3;omega
  have Rx:Int.tmod (Int.ofNat ss.length) 3=(ss.length:Int):=by have:Int.tmod (ss.length:Int) 3=(ss.length:Int):=Int.tmod_eq_of_lt (by omega) (by omega);exact this
  obtain⟨k,a3,e3,k0,k1,d3⟩:=dj (n:=4) hd (by omega) (by omega);obtain⟨ls,a4,e4,l4,lk,ln,d4⟩:=Zv (s6:=((n+1:Nat):Int)) (nm:=List.getD kC ss.length ByteArray.empty) (ss:=ss) hs k.toNat a3 [] d3 (by simp;omega) (by simp) rfl;obtain⟨m,a5,e5,m0,m1,d5⟩:=dj (n:=4) d4 (by omega) (by omega);obtain⟨es,a6,e6,l6,ek,d6⟩:=Zw (s6:=((n+1:Nat):Int)) (nm:=List.getD kC ss.length ByteArray.empty) (zs:=zs) (cs:=cs) (ss:=ss) (ls:=ls) hs m.toNat a5 [] d5 (by simp;omega) (by simp);rw[show ((k.toNat:Nat):Int)=k by omega]at e4;rw[show ((m.toNat:Nat):Int)=m by omega]at e6
  have ew:SG zs.length ps.length cs.length (List.getD kC ss.length ByteArray.empty,(ls,es)):=
   ⟨⟨by dsimp only;rw[ln];exact Zr.take _,lk,by dsimp only;omega,ek,by dsimp only;omega⟩,ln,l4,l6⟩
  obtain⟨Ao,a',e',h1,h2,h3,h4⟩:=jBX hs n a6 (ss++[(List.getD kC ss.length ByteArray.empty,(ls,es))]) d6 (by simp;omega) (by
   rw[za,hn,jg];exact JK ak) (λs h=>by
   rcases jn.1 h with h|h
   .exact hg s h
   .simp at h;subst h;exact ew)
  rw[Wp];simp only[j24];rw[ag (show ((n+1:Nat):Int)>0 by omega),Rx,cw (by omega) (by show (ss.length:Int)<(3:Nat);omega)];simp only[j6,j8,e3,j4];rw[show Es ((n+1:Nat):Int) k L a3 zs ps cs (List.getD [(ByteArray.mk #[102,105,114,115,116]),(ByteArray.mk #[115,101,99,111,110,100]),(ByteArray.mk #[116,104,105,114,100])] ss.length ByteArray.empty) ss []=_ from e4];simp only[j4,e5,e6];rw[ag (by simp[aN];omega),ai,show ((n+1:Nat):Int)-1=(n:Int) by omega];simp only[j6,aK];exact⟨Ao,a',e',by rw[h1];simp;omega,h2,h3,h4⟩
theorem jwR{L:List Int}{a n:Int}(h:dD L a)(n0:1<=n)(n1:n<=3):∃zs ps cs ss a',j67 L a n=some ((zs,(ps,(cs,ss))),L,a')/\cN zs ps cs/\1<=ss.length/\(ss.length:Int)<=n/\ss.map (·.1)=kC.take ss.length/\(∀s∈ss,SG zs.length ps.length cs.length s)/\dD L a':=by
 obtain⟨zs,ps,cs,a1,e1,hs,d1⟩:=jyP h;obtain⟨x,a2,e2,x0,x1,d2⟩:=dj (n:=n) d1 (by omega) (by omega);obtain⟨ss,a3,e3,h1,h2,h3,d3⟩:=jBX hs.so (1+x).toNat a2 [] d2 (by simp;omega) (by simp) (by simp);rw[show (((1+x).toNat:Nat):Int)=1+x by omega]at e3;simp at h1;simp only[j67,e1,e2,j4];rw[ai (x:=1+x)];simp only[e3,j4];exact⟨zs,ps,cs,ss,a3,rfl,hs,by omega,by omega,h2,h3,d3⟩
theorem jDr{zs:List br}{ps:List cZ}{cs:List aX}{ss:List cF}(hs:cN zs ps cs)(h0:ss.length<=12)(h1:fq (ss.map (·.1)))(h2:∀s∈ss,pV zs.length ps.length cs.length s):ny (zs,(ps,(cs,ss))):=jEC hs h0 h1 h2
instance(L:bI):Decidable (Rt L):=
 decidable_of_iff (1<=L.2.2.1.1/\L.2.2.1.1<=100000/\0<=L.2.2.1.2/\L.2.2.1.2<=86399/\0<=L.2.2.2.1/\L.2.2.2.1<=2/\1<=L.2.2.2.2.1/\L.2.2.2.2.1<=400/\L.2.2.2.2.2.1≠[])
  ⟨λ⟨a,b,c,d,e,f,g,h,i⟩=>⟨a,b,c,d,e,f,g,h,i⟩,λ⟨a,b,c,d,e,f,g,h,i⟩=>⟨a,b,c,d,e,f,g,h,i⟩⟩
section
variable{z:br}{l:bn}(h4:Z4 z l)
include h4
theorem jnj(L:bI):jcj z L=some (if Rt L then 0 else 8):=by
 have hc:j7b (z.1,(z.2.1,z.2.2))=some 0:=by simp only[j7b,show j0h (z.1,(z.2.1,z.2.2))=_ from h4.1,j4]
 simp only[jcj,hc,j4,jh,j7]
 have key:(cond (cond (cond (cond (cond (cond (cond (cond (decide (L.2.2.1.1<1)) true (decide (L.2.2.1.1>100000))) true (decide (L.2.2.1.2<0))) true (decide (L.2.2.1.2>=86400))) true (decide (L.2.2.2.1<0))) true (decide (L.2.2.2.1>2))) true (decide (L.2.2.2.2.1<1))) true (decide (L.2.2.2.2.1>400))) true (Int.ofNat L.2.2.2.2.2.1.length==0)) = !decide (Rt L):=by
  have hlen:(Int.ofNat L.2.2.2.2.2.1.length==0)=decide (L.2.2.2.2.2.1=[]):=by
   cases L.2.2.2.2.2.1 with
   |nil=>rfl
   |cons x r=>simp;omega
  rw[hlen];rw[zr];simp only[kp,kn];constructor
  .intro hh h;have a1:=h.d0;have a2:=h.d1;have a3:=h.c0;have a4:=h.c1;have a5:=h.u0;have a6:=h.u1;have a7:=h.e0;have a8:=h.e1;rw[ah (show¬L.2.2.1.1<1 by omega),ah (show¬L.2.2.1.1>100000 by omega),ah (show¬L.2.2.1.2<0 by omega),ah (show¬L.2.2.1.2>=86400 by omega),ah (show¬L.2.2.2.1<0 by omega),ah (show¬L.2.2.2.1>2 by omega),ah (show¬L.2.2.2.2.1<1 by omega),ah (show¬L.2.2.2.2.1>400 by omega),ah h.m0]at hh;simp at hh
  .intro hn;by_cases a1:L.2.2.1.1<1
   .rw[ag a1];rfl
   rw[ah a1];by_cases a2:L.2.2.1.1>100000
   .rw[ag a2];rfl
   rw[ah a2];by_cases a3:L.2.2.1.2<0
   .rw[ag a3];rfl
   rw[ah a3];by_cases a4:L.2.2.1.2>=86400
   .rw[ag a4];rfl
   rw[ah a4];by_cases a5:L.2.2.2.1<0
   .rw[ag a5];rfl
   rw[ah a5];by_cases a6:L.2.2.2.1>2
   .rw[ag a6];rfl
   rw[ah a6];by_cases a7:L.2.2.2.2.1<1
   .rw[ag a7];rfl
   rw[ah a7];by_cases a8:L.2.2.2.2.1>400
   .rw[ag a8];rfl
   rw[ah a8];by_cases a9:L.2.2.2.2.2.1=[]
   .rw[ag a9];rfl
   exact absurd ⟨by omega,by omega,by omega,by omega,by omega,by omega,by omega,by omega,a9⟩ hn
 rw[key];by_cases h:Rt L
 .rw[ag h,if_pos h];rfl
 .rw[ah h,if_neg h];rfl
end
end Go.Proofs.Pw
