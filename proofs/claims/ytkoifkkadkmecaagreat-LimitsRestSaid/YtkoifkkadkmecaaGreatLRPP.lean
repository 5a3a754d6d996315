/- Hl.Clashes: the times in which two De have the same TK. -/
import Derived.Test.YtkoifkkadkmecaaGreatLRPM
import Derived.Test.YtkoifkkadkmecaaGreatLRPO
import Derived.Test.YtkoifkkadkmecaaGreatLRPL
import Derived.Test.YtkoifkkadkmecaaGreatLRPF
open _root_ renaming Int->o,Nat->G,List->J
open Int renaming ofNat->D
open List renaming getD->E
open ByteArray renaming empty->H
open Option renaming some->I,none->N
open Go Go.Lft
namespace Go.Proofs.Pw
theorem dg.edge{f:o->o}{b:o}:∀{l:bm}{q:Option o}{a:o},dg f b q a l->(∀p,q=I p->f (a-1)=p)->∀s∈l,((q=N/\s.1=a)\/f (s.1-1)≠s.2.2)/\(s.2.1=b\/f s.2.1≠s.2.2)
 |[],_,_,_,_,s,hs=>by simp at hs
 |u::r,q,a,h,hq,s,hs=>by
  obtain⟨h1,h2,h3,h4,h5⟩:=h;rcases je.1 hs with rfl|hs
  .constructor
   .cases q with
    |none=>exact .inl ⟨rfl,h1⟩
    |some p=>exact .inr (by rw[h1,hq p rfl];exactλe=>h3 (by rw[e]))
   .match r,h5 with
    |[],h5=>exact .inl h5
    |v::w,h5=>obtain⟨g1,g2,g3,g4,_⟩:=h5;exact .inr (by rw[g4 _ (jy _) g2];exactλe=>g3 (by rw[e]))
  .have:=h5.edge (λp hp=>by
    simp only[j5]at hp;rw[<-hp];exact h4 _ omg_ omg_) s hs
   exact⟨.inr (this.1.resolve_left (λh=>by simp at h)),this.2⟩
theorem Ch.nxt{f:o->o}{b:o}:∀{l:bm}{a:o},Ch f b a l->∀i,(h:i<l.length)->(∃h':i+1<l.length,l[i+1].1=l[i].2.1)\/(i+1=l.length/\l[i].2.1=b)
 |[],_,_,i,h=>by simp at h
 |[s],_,h,0,_=> .inr ⟨rfl,h.2.2.2⟩
 |s::u::r,_,h,0,_=> .inl ⟨smp_,h.2.2.2.1⟩
 |s::u::r,_,h,i+1,hi=>by
  rcases Ch.nxt h.2.2.2 i (by simpa using hi) with⟨h',e⟩|⟨h',e⟩
  .exact .inl ⟨by simpa using h',by simpa using e⟩
  .exact .inr ⟨by simpa using h',by simpa using e⟩
 |[s],_,_,i+1,hi=>by simp at hi
structure ClOk(f g:o->o)(a b i k:o)(z:iK):Prop where
 i:z.2.1=i
 k:z.2.2.1=k
 p:0<=z.1
 lo:a<=z.2.2.2.1
 lt:z.2.2.2.1<z.2.2.2.2
 hi:z.2.2.2.2<=b
 mid:∀t,z.2.2.2.1<=t->t<z.2.2.2.2->f t=z.1/\g t=z.1
 lft:z.2.2.2.1=a\/¬(f (z.2.2.2.1-1)=z.1/\g (z.2.2.2.1-1)=z.1)
 rgt:z.2.2.2.2=b\/¬(f z.2.2.2.2=z.1/\g z.2.2.2.2=z.1)
structure mc(f g:o->o)(a b i k c:o)(O:bG):Prop where
 ok:∀z∈O,ClOk f g a b i k z/\z.2.2.2.2<=c
 pw:O.Pairwise λx y=>x.2.2.2.1<y.2.2.2.1
 all:∀t,a<=t->t<c->f t=g t->0<=f t->∃z∈O,z.1=f t/\z.2.2.2.1<=t/\t<z.2.2.2.2
section
variable{f g:o->o}{a b:o}{A B:bm}(hA:dg f b N a A)(hB:dg g b N a B)
include hA hB
theorem ď{i k c d:o}{x y:G}{acc:bG}(hx:x<A.length)(hy:y<B.length)(hc:c=max A[x].1 B[y].1)(hd:d=min A[x].2.1 B[y].2.1)(h1:A[x].1<=B[y].2.1)(h2:B[y].1<=A[x].2.1)(Hm:a<=c)(hI:mc f g a b i k c acc) :
  (0<=A[x].2.2/\A[x].2.2=B[y].2.2/\c<d->mc f g a b i k d (acc++[(A[x].2.2,(i,(k,(c,d))))]))/\(¬(0<=A[x].2.2/\A[x].2.2=B[y].2.2/\c<d)->mc f g a b i k d acc)/\c<=d:=by
 have mA:=hA.ch.mem _ (jf hx);have mB:=hB.ch.mem _ (jf hy);have pA:=hA.pos _ (jf hx);have pB:=hB.pos _ (jf hy);have eA:=hA.edge (λp hp=>by simp at hp) _ (jf hx);have eB:=hB.edge (λp hp=>by simp at hp) _ (jf hy);have TL:c<=d:=omg_;refine⟨λ⟨q1,q2,q3⟩=>⟨λz hz=>?_,?_,λt t1 t2 t3 t4=>?_⟩,λhn=>⟨λz hz=>?_,hI.pw,λt t1 t2 t3 t4=>?_⟩,TL⟩
 .rcases jj.1 hz with hz|hz
  .have:=hI.ok z hz;exact⟨this.1,omg_⟩
  .simp only[kr]at hz;subst hz;refine⟨⟨rfl,rfl,q1,Hm,q3,by dsimp only;omega,λt t1 t2=>?_,?_,?_⟩,jy _⟩
   .dsimp only at t1 t2 ⊢
    exact⟨mA.2.2.2 t omg_ omg_,by rw[q2];exact mB.2.2.2 t omg_ omg_⟩
   .dsimp only
    by_cases SQ:c=a
    .exact .inl SQ
    .right
     rintro⟨r1,r2⟩
     by_cases hcA:c=A[x].1
     .rcases eA.1 with⟨_,e⟩|e
      .omega
      .exact e (by rw[<-hcA];exact r1)
     .have hcB:c=B[y].1:=omg_;rcases eB.1 with⟨_,e⟩|e
      .omega
      .exact e (by rw[<-hcB,<-q2];exact r2)
   .dsimp only
    by_cases hdb:d=b
    .exact .inl hdb
    .right
     rintro⟨r1,r2⟩
     by_cases hdA:d=A[x].2.1
     .rcases eA.2 with e|e
      .omega
      .exact e (by rw[<-hdA];exact r1)
     .have hdB:d=B[y].2.1:=omg_;rcases eB.2 with e|e
      .omega
      .exact e (by rw[<-hdB,<-q2];exact r2)
 .refine qh.2 ⟨hI.pw,qw _ _,λz hz w hw=>?_⟩;simp only[kr]at hw;subst hw;have:=hI.ok z hz;have:=this.1.lt;dsimp only;omega
 .by_cases TM:t<c
  .obtain⟨z,hz,h⟩:=hI.all t t1 TM t3 t4;exact⟨z,jx _ hz,h⟩
  .refine⟨_,k5 _ (kr.2 rfl),?_,by dsimp only;omega,by dsimp only;omega⟩;exact(mA.2.2.2 t omg_ omg_).symm
 .have:=hI.ok z hz;exact⟨this.1,omg_⟩
 .by_cases TM:t<c
  .exact hI.all t t1 TM t3 t4
  .exfalso;have e1:=mA.2.2.2 t omg_ omg_;have e2:=mB.2.2.2 t omg_ omg_;exact hn ⟨by rw[<-e1];exact t4,by rw[<-e1,t3,e2],omg_⟩
theorem jHR{i k:o}(hlA:A.length<=500000)(hlB:B.length<=500000):∀(n x y:G)(c:o)(acc:bG),(A.length-x)+(B.length-y)<=n->x<=A.length->y<=B.length->
  (∀(hx:x<A.length)(hy:y<B.length),c=max A[x].1 B[y].1/\A[x].1<=B[y].2.1/\B[y].1<=A[x].2.1)->((x=A.length\/y=B.length)->c=b)->a<=c->mc f g a b i k c acc->acc.length+n<=1000000->
  ∃out,A9 A B i k (x:o) (y:o) acc=I out/\mc f g a b i k b out/\out.length<=acc.length+n:=by
 intro n;induction n with
 |zero=>intro x y c acc hn hx hy _ h2 _ hI hl;rw[Yo];simp only[j3i,show D A.length=(A.length:o) from rfl,show D B.length=(B.length:o) from rfl];rw[ai (show¬(x:o)<(A.length:o) by omega)];simp only[j7,aP];have:=h2 omg_;subst this;exact⟨acc,rfl,hI,omg_⟩
 |succ n ih=>
  intro x y c acc hn hx hy h1 h2 Hm hI hl;rw[Yo];simp only[j3i,show D A.length=(A.length:o) from rfl,show D B.length=(B.length:o) from rfl];by_cases lx:x<A.length
  .rw[ah (show (x:o)<(A.length:o) by omega)];by_cases nD:y<B.length
   .obtain⟨c1,c2,c3⟩:=h1 lx nD;have ga:A.getD x ((0:o),((0:o),(0:o)))=A[x]:=by simp[E,lx]
    have gb:B.getD y ((0:o),((0:o),(0:o)))=B[y]:=by simp[E,nD]
    have pA:=hA.pos _ (jf lx);have pB:=hB.pos _ (jf nD);rw[ah (show (y:o)<(B.length:o) by omega),bA (show (0:o)<=(x:o) by omega) omg_,bA (show (0:o)<=(y:o) by omega) omg_];simp only[j6,qz,j8,ga,gb];obtain⟨d,hd⟩:∃d,d=min A[x].2.1 B[y].2.1:=⟨_,rfl⟩;have e1:(if B[y].1>A[x].1 then B[y].1 else A[x].1)=c:=by split<;>omega
    have e2:(if B[y].2.1<A[x].2.1 then B[y].2.1 else A[x].2.1)=d:=by split<;>omega
    rw[e1,e2];obtain⟨s1,s2,TL⟩:=ď hA hB (i:=i) (k:=k) lx nD c1 hd c2 c3 Hm hI
    have Lp:∀aV:bG,A[x].2.1<B[y].2.1->mc f g a b i k d aV->aV.length<=acc.length+1->∃out,A9 A B i k ((x:o)+1) (y:o) aV=I out/\mc f g a b i k b out/\out.length<=acc.length+(n+1):=λaV aq mL iS=>by
     have:=ih (x+1) y d aV omg_ omg_ hy (λiD oe=>by
      rcases hA.ch.nxt x lx with⟨h',e⟩|⟨e,_⟩
      .have pA':=hA.pos _ (jf iD);exact⟨omg_,omg_,omg_⟩
      .omega) (λh=>by
      rcases hA.ch.nxt x lx with⟨h',e⟩|⟨_,e⟩
      .omega
      .omega) omg_ mL omg_
     obtain⟨out,r1,r2,r3⟩:=this;exact⟨out,r1,r2,omg_⟩
    have Lq:∀aV:bG,¬A[x].2.1<B[y].2.1->mc f g a b i k d aV->aV.length<=acc.length+1->∃out,A9 A B i k (x:o) ((y:o)+1) aV=I out/\mc f g a b i k b out/\out.length<=acc.length+(n+1):=λaV aq mL iS=>by
     have:=ih x (y+1) d aV omg_ hx omg_ (λiD oe=>by
      rcases hB.ch.nxt y nD with⟨h',e⟩|⟨e,_⟩
      .have pB':=hB.pos _ (jf oe);exact⟨omg_,omg_,omg_⟩
      .omega) (λh=>by
      rcases hB.ch.nxt y nD with⟨h',e⟩|⟨_,e⟩
      .omega
      .omega) omg_ mL omg_
     obtain⟨out,r1,r2,r3⟩:=this;exact⟨out,r1,r2,omg_⟩
    rw[aj (x:=(x:o)+1),aj (x:=(y:o)+1)]
    have eN:cond (cond (decide (A[x].2.2>=0)) (A[x].2.2==B[y].2.2) false) (decide (c<d)) false=decide (0<=A[x].2.2/\A[x].2.2=B[y].2.2/\c<d):=by
     rw[vg,decide_eq_true_iff];by_cases r1:0<=A[x].2.2
     .rw[ah (show A[x].2.2>=0 from r1),j6];by_cases r2:A[x].2.2=B[y].2.2
      .rw[cR r2,j6];simp only[decide_eq_true_iff];exact⟨λh=>⟨r1,r2,h⟩,λh=>h.2.2⟩
      .rw[ca r2,j7];simp only[kv,false_iff]
       exactλh=>r2 h.2.1
     .rw[ai (show¬A[x].2.2>=0 from r1)];simp only[j7,kv,false_iff]
      exactλh=>r1 h.1
    rw[eN];by_cases he:0<=A[x].2.2/\A[x].2.2=B[y].2.2/\c<d
    .rw[ah he,j6,ah (show acc.length+[_].length<=aG by simp[aG];omega),j6];by_cases aq:A[x].2.1<B[y].2.1
     .rw[ah aq,j6,aB];exact Lp _ aq (s1 he) smp_
     .rw[ai aq,j7,aB];exact Lq _ aq (s1 he) smp_
    .rw[ai he,j7];by_cases aq:A[x].2.1<B[y].2.1
     .rw[ah aq,j6,aB];exact Lp acc aq (s2 he) omg_
     .rw[ai aq,j7,aB];exact Lq acc aq (s2 he) omg_
   .rw[ai (show¬(y:o)<(B.length:o) by omega)];simp only[j6,j7,aP];have:=h2 omg_;subst this;exact⟨acc,rfl,hI,omg_⟩
  .rw[ai (show¬(x:o)<(A.length:o) by omega)];simp only[j7,aP];have:=h2 omg_;subst this;exact⟨acc,rfl,hI,omg_⟩
theorem jB2{i k:o}(bt:a<b)(hl:A.length+B.length<=500000):∃out,jaK A B i k=I out/\mc f g a b i k b out/\out.length<=A.length+B.length:=by
 have nA:=q9.2 (hA.ne bt);have nB:=q9.2 (hB.ne bt)
 have fA:A[0].1=a:=by
  match A,hA,nA with
  |s::r,hA,_=>exact hA.1
 have fB:B[0].1=a:=by
  match B,hB,nB with
  |s::r,hB,_=>exact hB.1
 have pA:=hA.pos _ (jf nA);have pB:=hB.pos _ (jf nB);obtain⟨out,e,h1,h2⟩:=jHR hA hB (i:=i) (k:=k) omg_ omg_ (A.length+B.length) 0 0 a [] omg_ omg_ omg_ (λ_ _=>⟨omg_,omg_,omg_⟩) (λh=>omg_) (jy _) ⟨smp_,List.Pairwise.nil,λt h1 h2=>omg_⟩ sqo_;refine⟨out,?_,h1,by simpa using h2⟩;simp only[jaK];rw[show A9 A B i k 0 0 []=_ from e];rfl
end
def Đ(x y:iK):Prop:=x.2.1<y.2.1\/x.2.1=y.2.1/\x.2.2.1<y.2.2.1
structure me(F:G->o->o)(m:G)(a b:o)(i k:G)(L:bG):Prop where
 ok:∀z∈L,∃i' k':G,i'<k'/\k'<m/\(i'<i\/i'=i/\k'<k)/\ClOk (F i') (F k') a b i' k' z
 pw:L.Pairwise λx y=>x.2.2.2.1=y.2.2.2.1->Đ x y
 all:∀i' k':G,i'<k'->k'<m->(i'<i\/i'=i/\k'<k)->∀t,a<=t->t<b->F i' t=F k' t->0<=F i' t->∃z∈L,z.2.1=i'/\z.2.2.1=k'/\z.1=F i' t/\z.2.2.2.1<=t/\t<z.2.2.2.2
theorem me.add{F:G->o->o}{m:G}{a b:o}{i k:G}{L O:bG}(h:me F m a b i k L)(jL:i<k)(qW:k<m)(hO:mc (F i) (F k) a b i k b O):me F m a b i (k+1) (L++O):=by
 refine⟨λz hz=>?_,?_,λi' k' h1 h2 h3 t t1 t2 t3 t4=>?_⟩
 .rcases jj.1 hz with hz|hz
  .obtain⟨i',k',g1,g2,g3,g4⟩:=h.ok z hz;exact⟨i',k',g1,g2,omg_,g4⟩
  .exact⟨i,k,jL,qW,omg_,(hO.ok z hz).1⟩
 .refine qh.2 ⟨h.pw,hO.pw.imp (λh e=>absurd h omg_),λx hx y hy _=>?_⟩;obtain⟨i',k',g1,g2,g3,g4⟩:=h.ok x hx;have q:=(hO.ok y hy).1;unfold Đ;rw[g4.i,g4.k,q.i,q.k];omega
 .by_cases hn:i'=i/\k'=k
  .obtain⟨rfl,rfl⟩:=hn;obtain⟨z,hz,g⟩:=hO.all t t1 t2 t3 t4;have q:=(hO.ok z hz).1;exact⟨z,k5 _ hz,q.i,q.k,g⟩
  .obtain⟨z,hz,g⟩:=h.all i' k' h1 h2 omg_ t t1 t2 t3 t4;exact⟨z,jx _ hz,g⟩
theorem me.next{F:G->o->o}{m:G}{a b:o}{i k:G}{L:bG}(h:me F m a b i k L)(hk:m<=k):me F m a b (i+1) (i+2) L:=by
 refine⟨λz hz=>?_,h.pw,λi' k' h1 h2 h3=>h.all i' k' h1 h2 omg_⟩;obtain⟨i',k',g1,g2,g3,g4⟩:=h.ok z hz;exact⟨i',k',g1,g2,omg_,g4⟩
section
variable{F:G->o->o}{a b:o}(bt:a<b){K:G}(hK:K<=2500){Ss:J bm}(BB:Ss.length<=1000)(hS:∀j (h:j<Ss.length),dg (F j) b N a Ss[j]/\Ss[j].length<=K)
include bt hK BB hS
theorem đ{i:G}:∀(n k:G)(L:bG),k+n=Ss.length->i<k->me F Ss.length a b i k L->L.length+2*K*n<=1000000->
  ∃L',FE (i:o) (k:o) (Ss.length:o) (i:o) Ss L=I ((Ss.length:o),(i:o),Ss,L')/\me F Ss.length a b i Ss.length L'/\L'.length<=L.length+2*K*n
 |0,k,L,hk,_,hI,_=>by
  rw[Yy];simp only[j2V,show D Ss.length=(Ss.length:o) from rfl];rw[ai omg_,j7,aP];obtain rfl:k=Ss.length:=omg_;exact⟨L,rfl,hI,omg_⟩
 |n+1,k,L,hk,jL,hI,hl=>by
  have hmul:2*K*(n+1)=2*K*n+2*K:=yi _ _;have bH:k<Ss.length:=omg_;have bh:i<Ss.length:=omg_;have gi:Ss.getD i ([]:bm)=Ss[i]:=by simp[E,bh]
  have gk:Ss.getD k ([]:bm)=Ss[k]:=by simp[E,bH]
  have si:=hS i bh;have sk:=hS k bH;obtain⟨O,e,hO,lO⟩:=jB2 si.1 sk.1 (i:=(i:o)) (k:=(k:o)) bt omg_;obtain⟨L',e',mL,l'⟩:=đ (i:=i) n (k+1) (L++O) omg_ omg_ (hI.add jL bH hO) (by rw[jc];omega);rw[Yy];simp only[j2V,show D Ss.length=(Ss.length:o) from rfl];rw[ah (show (k:o)<(Ss.length:o) by omega),bA (show (0:o)<=(i:o) by omega) omg_,bA (show (0:o)<=(k:o) by omega) omg_];simp only[j6,j8,gi,gk,e,j4];rw[ah (show L.length+O.length<=aG by simp[aG];omega),j6,aj (x:=(k:o)+1),aB];exact⟨L',e',mL,by rw[jc]at l';omega⟩
def oA:G->G
 |0=>0
 |n+1=>oA n+n
theorem Ē:∀(n i:G)(L:bG),i+n=Ss.length->me F Ss.length a b i (i+1) L->L.length+2*K*oA n<=900000->
  ∃L',FF (Ss.length:o) (i:o) Ss L=I L'/\me F Ss.length a b Ss.length (Ss.length+1) L'/\L'.length<=L.length+2*K*oA n
 |0,i,L,hi,hI,_=>by
  rw[Yz];simp only[j2W];rw[ai omg_,j7,aP];obtain rfl:i=Ss.length:=omg_;exact⟨L,rfl,hI,omg_⟩
 |n+1,i,L,hi,hI,hl=>by
  have hmul:2*K*oA (n+1)=2*K*oA n+2*K*n:=Nat.mul_add _ _ _;obtain⟨L1,e1,h1,l1⟩:=đ bt hK BB hS (i:=i) n (i+1) L omg_ omg_ hI omg_;obtain⟨L2,e2,h2,l2⟩:=Ē n (i+1) L1 omg_ (h1.next (jn _)) omg_;rw[Yz];simp only[j2W];rw[ah (show (i:o)<(Ss.length:o) by omega),aj (x:=(i:o)+1),j6,show FE (i:o) ((i:o)+1) (Ss.length:o) (i:o) Ss L=_ from e1];simp only[j4];rw[aj (x:=(i:o)+1),aB];exact⟨L2,e2,h2,omg_⟩
end
section
variable{zs:J bF}{ps:J cI}{cs:J aU}(hs:cC zs ps cs)
include hs
omit hs in
theorem ē{K:G}(hK:K<=2500){ss rr:J cu}{a b:o}(gG:∀s∈ss,∃out,j0G ((zs,(ps,(cs,rr))),zs.map tb) s a b=I out/\dg (cN zs cs s) b N a out/\out.length<=K)(hl:ss.length<=100):∀(n i:G)(acc:J bm),i+n=ss.length->acc.length=i->
  (∀j (h:j<acc.length) (h':j<ss.length),dg (cN zs cs ss[j]) b N a acc[j]/\acc[j].length<=K)->
  ∃Ss,FD a b ss (ss.length:o) (i:o) zs ps cs rr (zs.map tb) acc=I (.inr Ss)/\Ss.length=ss.length/\∀j (h:j<Ss.length) (h':j<ss.length),dg (cN zs cs ss[j]) b N a Ss[j]/\Ss[j].length<=K
 |0,i,acc,hi,BE,hg=>by
  rw[Yx];simp only[j2U];rw[ai omg_,j7,aP];exact⟨acc,rfl,omg_,hg⟩
 |n+1,i,acc,hi,BE,hg=>by
  have bh:i<ss.length:=omg_;have aT:ss.getD i (H,(([]:J bP),([]:J dN)))=ss[i]:=by simp[E,bh]
  obtain⟨S,e,hS,lS⟩:=gG _ (jf bh)
  obtain⟨Ss,e2,h2,h3⟩:=ē hK gG hl n (i+1) (acc++[S]) omg_ sqo_ (λj h h'=>by
   simp only[jc,qe]at h;by_cases hj:j<acc.length
   .rw[List.getElem_append_left hj];exact hg j hj h'
   .have:j=i:=omg_;subst this;rw[List.getElem_append_right omg_];simp only[BE,yx,List.getElem_cons_zero];exact⟨hS,lS⟩)
  rw[Yx];simp only[j2U];rw[ah (show (i:o)<(ss.length:o) by omega),bA (show (0:o)<=(i:o) by omega) omg_];simp only[j6,j8,aT];rw[show j0G ((zs,(ps,(cs,rr))),zs.map tb) (ss[i].1,(ss[i].2.1,ss[i].2.2)) a b=_ from e];simp only[j4,show D S.length=(S.length:o) from rfl];rw[ai (show¬(S.length:o)>16384 by omega),j7,ah (show acc.length+[_].length<=aG by simp[aG];omega),j6,aj (x:=(i:o)+1),aB];exact⟨Ss,e2,h2,h3⟩
theorem jvO{K:G}(hK:K<=2500){ss:J cu}(hc:nT (zs,(ps,(cs,ss))))(hl:ss.length<=3){a b:o}(ha:0<=a)(bt:a<b)(hb:b<=8589934592)(hlen:b-a<=1209600)
  (gG:∀s∈ss,∃out,j0G ((zs,(ps,(cs,ss))),zs.map tb) s a b=I out/\dg (cN zs cs s) b N a out/\out.length<=K) :
  ∃L,j4C (zs,(ps,(cs,ss))) a b=I (cd aw L,0)/\me (λj=>cN zs cs (ss.getD j (H,([],[])))) ss.length a b ss.length (ss.length+1) L/\(L.length<=15000/\L.length<=2*K*oA ss.length):=by
 obtain⟨Ss,e1,h1,h2⟩:=ē hK (ss:=ss) (rr:=ss) gG omg_ ss.length 0 [] omg_ rfl (λj h=>by simp at h)
 have hS:∀j (h:j<Ss.length),dg ((λj=>cN zs cs (ss.getD j (H,([],[])))) j) b N a Ss[j]/\Ss[j].length<=K:=λj h=>by
  have hj:j<ss.length:=omg_;have aT:ss.getD j (H,(([]:J bP),([]:J dN)))=ss[j]:=by simp[E,hj]
  dsimp only
  rw[aT];exact h2 j h hj
 have xb:oA Ss.length<=3:=by have:Ss.length=0\/Ss.length=1\/Ss.length=2\/Ss.length=3:=omg_;rcases this with h|h|h|h<;>rw[h]<;>decide
 have hmul:2*K*oA Ss.length<=2*2500*3:=ql (vj _ hK) xb;obtain⟨L,e3,h3,l3⟩:=Ē bt hK omg_ hS Ss.length 0 [] omg_ ⟨smp_,List.Pairwise.nil,λi' k' h1 h2 h3=>omg_⟩ (by rw[jw];omega);rw[h1]at h3;have TN:L.length<=15000/\L.length<=2*K*oA ss.length:=by rw[h1]at l3 hmul;rw[jw]at l3;omega
 have iH:iW L:=λz hz=>by
  obtain⟨i',k',g1,g2,g3,g4⟩:=h3.ok z hz;have:=g4.lo;have:=g4.lt;have:=g4.hi;unfold aw;omega
 have e4:=jyq iH omg_;refine⟨L,?_,h3,TN⟩;simp only[j4C,Z_ hs.so.ok hc,j4,jl,j7,jgc];rw[aj (x:=b-a),ah (show a>=0 by omega),ah (show a<=8589934592 by omega),ah (show b>=a by omega),ah (show b<=8589934592 by omega),ah (show b-a<=34560000 by omega)];simp only[j6,jl,j7,show D ss.length=(ss.length:o) from rfl];rw[show FD a b ss (ss.length:o) 0 zs ps cs ss (zs.map tb) []=_ from e1];simp only[j4,kV,show D Ss.length=(Ss.length:o) from rfl];rw[show FF (Ss.length:o) 0 Ss []=_ from e3];simp only[j4,show D L.length=(L.length:o) from rfl];rw[ai (show¬(L.length:o)>16384 by omega),j7];rw[show j0I L=_ from e4];rfl
end
def uz(t:o)(s:o×o):Int:=max 0 (min s.2 t-max s.1 (t-604800))
def fg(t:o):SL->o
 |[]=>0
 |s::r=>uz t s+fg t r
def ind(t:o)(s:o×o):Int:=if s.1<=t/\t<s.2 then 1 else 0
def iL(t:o):SL->o
 |[]=>0
 |s::r=>ind t s+iL t r
theorem jCG{t:o}{s:o×o}(h:s.1<s.2):uz (t+1) s=uz t s+ind t s-ind (t-604800) s:=by
 unfold uz ind;split<;>split<;>omega
theorem Ĕ{t:o}{s:o×o}:0<=uz t s:=by unfold uz;omega
theorem Lr{t:o}:∀{l:SL},0<=fg t l
 |[]=>by simp[fg]
 |s::r=>by
  have:=Lr (t:=t) (l:=r);have:=Ĕ (t:=t) (s:=s);simp only[fg];omega
theorem ĕ{t:o}:∀{l:SL}{p:o},bB p l->fg (t+1) l=fg t l+iL t l-iL (t-604800) l
 |[],_,_=>by simp[fg,iL]
 |s::r,p,h=>by
  have ih:=ĕ (t:=t) (l:=r) h.2.2;have:=jCG (t:=t) h.2.1;simp only[fg,iL];omega
theorem Ė{t:o}:∀{l:SL}{p:o},bB p l->t<=p->iL t l=0
 |[],_,_,_=>by simp[iL]
 |s::r,p,h,ht=>by
  have h1:=h.1;have h2:=h.2.1;have ih:=Ė (t:=t) (l:=r) h.2.2 omg_;simp only[iL,ind];rw[ih,if_neg omg_];rfl
theorem TO{t:o}:∀{l:SL}{p:o},bB p l->0<=iL t l/\iL t l<=1
 |[],_,_=>by simp[iL]
 |s::r,p,h=>by
  have ih:=TO (t:=t) (l:=r) h.2.2;simp only[iL,ind];split
  .rename_i hq;rw[Ė (t:=t) (l:=r) h.2.2 omg_];omega
  .omega
theorem TP{a t:o}(ot:a<=t):∀{l:SL},(∀s∈l,¬(a<s.1/\s.1<=t)/\¬(a<s.2/\s.2<=t))->iL t l=iL a l
 |[],_=>by simp[iL]
 |s::r,h=>by
  have ih:=TP ot (l:=r) (λu hu=>h u (by simp[hu]));have:=h s smp_;simp only[iL,ind];rw[ih];congr 1;by_cases h1:s.1<=a/\a<s.2
  .rw[if_pos h1,if_pos omg_]
  .rw[if_neg h1,if_neg omg_]
theorem Ls{t:o}:∀{l:SL}{p:o},bB p l->fg t l<=max 0 (t-max (p+1) (t-604800))
 |[],_,_=>by simp only[fg];omega
 |s::r,p,h=>by
  have h1:=h.1;have h2:=h.2.1;have ih:=Ls (t:=t) (l:=r) h.2.2;simp only[fg,uz];omega
def TQ(l:SL)(a b:o):Prop:=∀s∈l,(¬(a<s.1/\s.1<b)/\¬(a<s.2/\s.2<b))/\¬(a<s.1+604800/\s.1+604800<b)/\¬(a<s.2+604800/\s.2+604800<b)
theorem ė{l:SL}{p:o}(h:bB p l){a b:o}(hB:TQ l a b):∀j:G,a+j<=b->fg (a+j) l=fg a l+j*(iL a l-iL (a-604800) l)
 |0,_=>smp_
 |j+1,hj=>by
  have ih:=ė h hB j omg_;have e1:=TP (a:=a) (t:=a+j) omg_ (l:=l) (λs hs=>by have:=(hB s hs).1;omega);have e2:=TP (a:=a-604800) (t:=a+j-604800) omg_ (l:=l) (λs hs=>by have:=(hB s hs).2;omega);have:=ĕ (t:=a+j) h;rw[show a+((j+1:G):o)=a+(j:o)+1 by omega,this,ih,e1,e2,show ((j+1:G):o)=(j:o)+1 by omega,Int.add_mul,Int.one_mul];omega
theorem jFl{l:SL}{p:o}(h:bB p l){a b:o}(bt:a<=b)(hB:TQ l a b) :
  (∀t,a<=t->t<=b->fg t l=fg a l+(t-a))\/(∀t,a<=t->t<=b->fg t l=fg a l)\/(∀t,a<=t->t<=b->fg t l=fg a l-(t-a)):=by
 have c1:=TO (t:=a) h;have c2:=TO (t:=a-604800) h
 have key:∀t,a<=t->t<=b->fg t l=fg a l+(t-a)*(iL a l-iL (a-604800) l):=λt h1 h2=>by
  have:=ė h hB (t-a).toNat omg_;rw[show a+((t-a).toNat:o)=t by omega,show ((t-a).toNat:o)=t-a by omega]at this;exact this
 have hd:iL a l-iL (a-604800) l=1\/iL a l-iL (a-604800) l=0\/iL a l-iL (a-604800) l = -1:=omg_;rcases hd with hd|hd|hd
 .refine .inl λt h1 h2=>?_;rw[key t h1 h2,hd,Int.mul_one]
 .refine .inr (.inl λt h1 h2=>?_);rw[key t h1 h2,hd];simp
 .refine .inr (.inr λt h1 h2=>?_);rw[key t h1 h2,hd];omega
theorem Ę{l:SL}(hl:l.length<=1000000){t:o}(nU : -1000000000000<=t)(Bq:t<=1000000000000)(hb:Sml l):∀(n i:G)(acc:o),i+n=l.length->0<=acc->acc+fg t (l.drop i)<=604800->
  JB t acc l (l.length:o) (i:o)=I (acc+fg t (l.drop i))
 |0,i,acc,hi,_,_=>by
  rw[YA];simp only[j4c];rw[ai omg_,j7,aP,jd omg_];simp[fg]
 |n+1,i,acc,hi,h0,hle=>by
  have aq:i<l.length:=omg_;have aT:l.getD i ((0:o),(0:o))=l[i]:=by simp[E,aq]
  rw[jb aq]at hle ⊢;have hs:=hb _ (jf aq);have hw:=Ĕ (t:=t) (s:=l[i]);have hr:=Lr (t:=t) (l:=l.drop (i+1));simp only[fg]at hle ⊢;have ih:=Ę hl nU Bq hb n (i+1) (acc+uz t l[i]) omg_ omg_ omg_;rw[YA];simp only[j4c];rw[ah (show (i:o)<(l.length:o) by omega),bJ];simp only[j6,j8,aT]
  have e:(if w64 ((if t<l[i].2 then t else l[i].2)-(if w64 (t-604800)>l[i].1 then w64 (t-604800) else l[i].1))>0 then w64 ((if t<l[i].2 then t else l[i].2)-(if w64 (t-604800)>l[i].1 then w64 (t-604800) else l[i].1)) else 0:o)=uz t l[i]:=by
   rw[aj (x:=t-604800)];have e1:(if t<l[i].2 then t else l[i].2:o)=min l[i].2 t:=by split<;>omega
   have e2:(if t-604800>l[i].1 then t-604800 else l[i].1:o)=max l[i].1 (t-604800):=by split<;>omega
   rw[e1,e2,aj];unfold uz;split<;>omega
  rw[e,aj (x:=acc+uz t l[i]),aj (x:=(i:o)+1),aB];rw[show ((i+1:G):o)=(i:o)+1 by omega]at ih;rw[ih];congr 1;omega
theorem ę{l:SL}(hl:l.length<=1000000){t:o}(nU : -1000000000000<=t)(Bq:t<=1000000000000)(hb:Sml l){p:o}(h:bB p l):jaL l t=I (fg t l):=by
 have hle:=Ls (t:=t) h;have:=Ę hl nU Bq hb l.length 0 0 omg_ omg_ (by simp only[jr];omega);simp only[jaL,show D (List.length l)=(l.length:o) from rfl];rw[show ((0:G):o)=0 from rfl,jr,Int.zero_add]at this;rw[this];rfl
def rF:SL->J o
 |[]=>[]
 |s::r=>s.1::s.2::(s.1+604800)::(s.2+604800)::rF r
theorem Ě:∀l:SL,(rF l).length=4*l.length
 |[]=>rfl
 |s::r=>by simp only[rF,ji,Ě r];omega
theorem ě{x:o}:∀{l:SL},x∈rF l↔∃s∈l,x=s.1\/x=s.2\/x=s.1+604800\/x=s.2+604800
 |[]=>by simp[rF]
 |s::r=>by
  simp only[rF,je,ě (l:=r),exists_eq_or_imp];constructor
  .rintro (h|h|h|h|h)
   .exact .inl (.inl h)
   .exact .inl (.inr (.inl h))
   .exact .inl (.inr (.inr (.inl h)))
   .exact .inl (.inr (.inr (.inr h)))
   .exact .inr h
  .rintro ((h|h|h|h)|h)
   .exact .inl h
   .exact .inr (.inl h)
   .exact .inr (.inr (.inl h))
   .exact .inr (.inr (.inr (.inl h)))
   .exact .inr (.inr (.inr (.inr h)))
theorem Ĝ{s0:SL}{m f t:o}{l:SL}(hl:l.length<=1000000)(hb:Sml l):∀(n i:G)(acc:J o),i+n=l.length->acc.length<=4*i->
  FG s0 m f t l (l.length:o) (i:o) acc=I (s0,m,f,t,acc++rF (l.drop i))
 |0,i,acc,hi,_=>by
  rw[YB];simp only[j4Q];rw[ai omg_,j7,aP,jd omg_];simp[rF]
 |n+1,i,acc,hi,ha=>by
  have aq:i<l.length:=omg_;have aT:l.getD i ((0:o),(0:o))=l[i]:=by simp[E,aq]
  have hs:=hb _ (jf aq);have ih:=Ĝ (s0:=s0) (m:=m) (f:=f) (t:=t) hl hb n (i+1) (acc++[l[i].1,l[i].2,l[i].1+604800,l[i].2+604800]) omg_ sqo_;rw[YB,jb aq];simp only[j4Q,rF];rw[ah (show (i:o)<(l.length:o) by omega),bJ];simp only[j6,j8,aT];rw[aj (x:=l[i].1+604800),aj (x:=l[i].2+604800),ah (by simp[aG];omega),aj (x:=(i:o)+1)];simp only[j6,aB];rw[show ((i+1:G):o)=(i:o)+1 by omega]at ih;rw[ih];simp
end Go.Proofs.Pw
