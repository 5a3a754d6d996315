/- Ew.Clashes: the times in which two AH have the same O8. -/
import Derived.Test.YtaieocafhcjelaaGreatCPN
import Derived.Test.YtaieocafhcjelaaGreatCPP
import Derived.Test.YtaieocafhcjelaaGreatCPM
open Go Go.Lft
namespace Go.Proofs.Pw
theorem eh.edge{f:Int->Int}{b:Int}:∀{l:bQ}{q:Option Int}{a:Int},eh f b q a l->(∀p,q=some p->f (a-1)=p)->∀s∈l,((q=none/\s.1=a)\/f (s.1-1)≠s.2.2)/\(s.2.1=b\/f s.2.1≠s.2.2)
 |[],_,_,_,_,s,hs=>by simp at hs
 |u::r,q,a,h,hq,s,hs=>by
  obtain⟨h1,h2,h3,h4,h5⟩:=h;rcases jg.1 hs with rfl|hs
  .constructor
   .cases q with
    |none=>exact .inl ⟨rfl,h1⟩
    |some p=>exact .inr (by rw[h1,hq p rfl];exactλe=>h3 (by rw[e]))
   .match r,h5 with
    |[],h5=>exact .inl h5
    |v::w,h5=>obtain⟨g1,g2,g3,g4,_⟩:=h5;exact .inr (by rw[g4 _ (ki _) g2];exactλe=>g3 (by rw[e]))
  .have:=h5.edge (λp hp=>by
    simp only[j4]at hp;rw[<-hp];exact h4 _ (by omega) (by omega)) s hs
   exact⟨.inr (this.1.resolve_left (λh=>by simp at h)),this.2⟩
theorem Ch.nxt{f:Int->Int}{b:Int}:∀{l:bQ}{a:Int},Ch f b a l->∀i,(h:i<l.length)->(∃h':i+1<l.length,l[i+1].1=l[i].2.1)\/(i+1=l.length/\l[i].2.1=b)
 |[],_,_,i,h=>by simp at h
 |[s],_,h,0,_=> .inr ⟨rfl,h.2.2.2⟩
 |s::u::r,_,h,0,_=> .inl ⟨by simp,h.2.2.2.1⟩
 |s::u::r,_,h,i+1,hi=>by
  rcases Ch.nxt h.2.2.2 i (by simpa using hi) with⟨h',e⟩|⟨h',e⟩
  .exact .inl ⟨by simpa using h',by simpa using e⟩
  .exact .inr ⟨by simpa using h',by simpa using e⟩
 |[s],_,_,i+1,hi=>by simp at hi
structure ClOk(f g:Int->Int)(a b i k:Int)(z:kE):Prop where
 i:z.2.1=i
 k:z.2.2.1=k
 p:0<=z.1
 lo:a<=z.2.2.2.1
 lt:z.2.2.2.1<z.2.2.2.2
 hi:z.2.2.2.2<=b
 mid:∀t,z.2.2.2.1<=t->t<z.2.2.2.2->f t=z.1/\g t=z.1
 lft:z.2.2.2.1=a\/¬(f (z.2.2.2.1-1)=z.1/\g (z.2.2.2.1-1)=z.1)
 rgt:z.2.2.2.2=b\/¬(f z.2.2.2.2=z.1/\g z.2.2.2.2=z.1)
structure qV(f g:Int->Int)(a b i k c:Int)(O:bS):Prop where
 ok:∀z∈O,ClOk f g a b i k z/\z.2.2.2.2<=c
 pw:O.Pairwise λx y=>x.2.2.2.1<y.2.2.2.1
 all:∀t,a<=t->t<c->f t=g t->0<=f t->∃z∈O,z.1=f t/\z.2.2.2.1<=t/\t<z.2.2.2.2
section
variable{f g:Int->Int}{a b:Int}{A B:bQ}(hA:eh f b none a A)(hB:eh g b none a B)
include hA hB
theorem jCV{i k c d:Int}{x y:Nat}{acc:bS}(hx:x<A.length)(hy:y<B.length)(hc:c=max A[x].1 B[y].1)(hd:d=min A[x].2.1 B[y].2.1)(h1:A[x].1<=B[y].2.1)(h2:B[y].1<=A[x].2.1)(O9:a<=c)(hI:qV f g a b i k c acc) :
  (0<=A[x].2.2/\A[x].2.2=B[y].2.2/\c<d->qV f g a b i k d (acc++[(A[x].2.2,(i,(k,(c,d))))]))/\(¬(0<=A[x].2.2/\A[x].2.2=B[y].2.2/\c<d)->qV f g a b i k d acc)/\c<=d:=by
 have mA:=hA.ch.mem _ (je hx);have mB:=hB.ch.mem _ (je hy);have pA:=hA.pos _ (je hx);have pB:=hB.pos _ (je hy);have eA:=hA.edge (λp hp=>by simp at hp) _ (je hx);have eB:=hB.edge (λp hp=>by simp at hp) _ (je hy);have Yi:c<=d:=by omega
 refine⟨λ⟨q1,q2,q3⟩=>⟨λz hz=>?_,?_,λt t1 t2 t3 t4=>?_⟩,λhn=>⟨λz hz=>?_,hI.pw,λt t1 t2 t3 t4=>?_⟩,Yi⟩
 .rcases jn.1 hz with hz|hz
  .have:=hI.ok z hz;exact⟨this.1,by omega⟩
  .simp only[kn]at hz;subst hz;refine⟨⟨rfl,rfl,q1,O9,q3,by dsimp only;omega,λt t1 t2=>?_,?_,?_⟩,ki _⟩
   .dsimp only at t1 t2 ⊢
    exact⟨mA.2.2.2 t (by omega) (by omega),by rw[q2];exact mB.2.2.2 t (by omega) (by omega)⟩
   .dsimp only
    by_cases Oj:c=a
    .exact .inl Oj
    .right
     rintro⟨r1,r2⟩
     by_cases hcA:c=A[x].1
     .rcases eA.1 with⟨_,e⟩|e
      .omega
      .exact e (by rw[<-hcA];exact r1)
     .have hcB:c=B[y].1:=by omega
      rcases eB.1 with⟨_,e⟩|e
      .omega
      .exact e (by rw[<-hcB,<-q2];exact r2)
   .dsimp only
    by_cases hdb:d=b
    .exact .inl hdb
    .right
     rintro⟨r1,r2⟩
     by_cases hdA:d=A[x].2.1
     .rcases eA.2 with e|e
      .omega
      .exact e (by rw[<-hdA];exact r1)
     .have hdB:d=B[y].2.1:=by omega
      rcases eB.2 with e|e
      .omega
      .exact e (by rw[<-hdB,<-q2];exact r2)
 .refine qz.2 ⟨hI.pw,zt _ _,λz hz w hw=>?_⟩;simp only[kn]at hw;subst hw;have:=hI.ok z hz;have:=this.1.lt;dsimp only;omega
 .by_cases Pa:t<c
  .obtain⟨z,hz,h⟩:=hI.all t t1 Pa t3 t4;exact⟨z,k5 _ hz,h⟩
  .refine⟨_,kj _ (kn.2 rfl),?_,by dsimp only;omega,by dsimp only;omega⟩;exact(mA.2.2.2 t (by omega) (by omega)).symm
 .have:=hI.ok z hz;exact⟨this.1,by omega⟩
 .by_cases Pa:t<c
  .exact hI.all t t1 Pa t3 t4
  .exfalso;have e1:=mA.2.2.2 t (by omega) (by omega);have e2:=mB.2.2.2 t (by omega) (by omega);exact hn ⟨by rw[<-e1];exact t4,by rw[<-e1,t3,e2],by omega⟩
theorem jEY{i k:Int}(hlA:A.length<=500000)(hlB:B.length<=500000):∀(n x y:Nat)(c:Int)(acc:bS),(A.length-x)+(B.length-y)<=n->x<=A.length->y<=B.length->
  (∀(hx:x<A.length)(hy:y<B.length),c=max A[x].1 B[y].1/\A[x].1<=B[y].2.1/\B[y].1<=A[x].2.1)->((x=A.length\/y=B.length)->c=b)->a<=c->qV f g a b i k c acc->acc.length+n<=1000000->
  ∃out,xH A B i k (x:Int) (y:Int) acc=some out/\qV f g a b i k b out/\out.length<=acc.length+n:=by
 intro n;induction n with
 |zero=>intro x y c acc hn hx hy _ h2 _ hI hl;rw[Ts];simp only[j3S,show Int.ofNat A.length=(A.length:Int) from rfl,show Int.ofNat B.length=(B.length:Int) from rfl];rw[ah (show¬(x:Int)<(A.length:Int) by omega)];simp only[j6,aU];have:=h2 (by omega);subst this;exact⟨acc,rfl,hI,by omega⟩
 |succ n ih=>
  intro x y c acc hn hx hy h1 h2 O9 hI hl;rw[Ts];simp only[j3S,show Int.ofNat A.length=(A.length:Int) from rfl,show Int.ofNat B.length=(B.length:Int) from rfl];by_cases AJ:x<A.length
  .rw[ag (show (x:Int)<(A.length:Int) by omega)];by_cases tY:y<B.length
   .obtain⟨c1,c2,c3⟩:=h1 AJ tY;have ga:A.getD x ((0:Int),((0:Int),(0:Int)))=A[x]:=by simp[List.getD,AJ]
    have gb:B.getD y ((0:Int),((0:Int),(0:Int)))=B[y]:=by simp[List.getD,tY]
    have pA:=hA.pos _ (je AJ);have pB:=hB.pos _ (je tY);rw[ag (show (y:Int)<(B.length:Int) by omega),aR (show (0:Int)<=(x:Int) by omega) (by omega),aR (show (0:Int)<=(y:Int) by omega) (by omega)];simp only[j5,zr,j7,ga,gb];obtain⟨d,hd⟩:∃d,d=min A[x].2.1 B[y].2.1:=⟨_,rfl⟩;have e1:(if B[y].1>A[x].1 then B[y].1 else A[x].1)=c:=by split<;>omega
    have e2:(if B[y].2.1<A[x].2.1 then B[y].2.1 else A[x].2.1)=d:=by split<;>omega
    rw[e1,e2];obtain⟨s1,s2,Yi⟩:=jCV hA hB (i:=i) (k:=k) AJ tY c1 hd c2 c3 O9 hI
    have Yj:∀bm:bS,A[x].2.1<B[y].2.1->qV f g a b i k d bm->bm.length<=acc.length+1->∃out,xH A B i k ((x:Int)+1) (y:Int) bm=some out/\qV f g a b i k b out/\out.length<=acc.length+(n+1):=λbm aA rv kQ=>by
     have:=ih (x+1) y d bm (by omega) (by omega) hy (λiZ rV=>by
      rcases hA.ch.nxt x AJ with⟨h',e⟩|⟨e,_⟩
      .have pA':=hA.pos _ (je iZ);exact⟨by omega,by omega,by omega⟩
      .omega) (λh=>by
      rcases hA.ch.nxt x AJ with⟨h',e⟩|⟨_,e⟩
      .omega
      .omega) (by omega) rv (by omega)
     obtain⟨out,r1,r2,r3⟩:=this;exact⟨out,r1,r2,by omega⟩
    have Yk:∀bm:bS,¬A[x].2.1<B[y].2.1->qV f g a b i k d bm->bm.length<=acc.length+1->∃out,xH A B i k (x:Int) ((y:Int)+1) bm=some out/\qV f g a b i k b out/\out.length<=acc.length+(n+1):=λbm aA rv kQ=>by
     have:=ih x (y+1) d bm (by omega) hx (by omega) (λiZ rV=>by
      rcases hB.ch.nxt y tY with⟨h',e⟩|⟨e,_⟩
      .have pB':=hB.pos _ (je rV);exact⟨by omega,by omega,by omega⟩
      .omega) (λh=>by
      rcases hB.ch.nxt y tY with⟨h',e⟩|⟨_,e⟩
      .omega
      .omega) (by omega) rv (by omega)
     obtain⟨out,r1,r2,r3⟩:=this;exact⟨out,r1,r2,by omega⟩
    rw[aj (x:=(x:Int)+1) (by omega) (by omega),aj (x:=(y:Int)+1) (by omega) (by omega)]
    have dQ:cond (cond (decide (A[x].2.2>=0)) (A[x].2.2==B[y].2.2) false) (decide (c<d)) false=decide (0<=A[x].2.2/\A[x].2.2=B[y].2.2/\c<d):=by
     rw[Bool.eq_iff_iff,decide_eq_true_iff];by_cases r1:0<=A[x].2.2
     .rw[ag (show A[x].2.2>=0 from r1),j5];by_cases r2:A[x].2.2=B[y].2.2
      .rw[cP r2,j5];simp only[decide_eq_true_iff];exact⟨λh=>⟨r1,r2,h⟩,λh=>h.2.2⟩
      .rw[bW r2,j6];simp only[k9,false_iff]
       exactλh=>r2 h.2.1
     .rw[ah (show¬A[x].2.2>=0 from r1)];simp only[j6,k9,false_iff]
      exactλh=>r1 h.1
    rw[dQ];by_cases he:0<=A[x].2.2/\A[x].2.2=B[y].2.2/\c<d
    .rw[ag he,j5,ag (show acc.length+[_].length<=aY by simp[aY];omega),j5];by_cases aA:A[x].2.1<B[y].2.1
     .rw[ag aA,j5,aJ];exact Yj _ aA (s1 he) (by simp)
     .rw[ah aA,j6,aJ];exact Yk _ aA (s1 he) (by simp)
    .rw[ah he,j6];by_cases aA:A[x].2.1<B[y].2.1
     .rw[ag aA,j5,aJ];exact Yj acc aA (s2 he) (by omega)
     .rw[ah aA,j6,aJ];exact Yk acc aA (s2 he) (by omega)
   .rw[ah (show¬(y:Int)<(B.length:Int) by omega)];simp only[j5,j6,aU];have:=h2 (by omega);subst this;exact⟨acc,rfl,hI,by omega⟩
  .rw[ah (show¬(x:Int)<(A.length:Int) by omega)];simp only[j6,aU];have:=h2 (by omega);subst this;exact⟨acc,rfl,hI,by omega⟩
theorem jzK{i k:Int}(cj:a<b)(hl:A.length+B.length<=500000):∃out,jac A B i k=some out/\qV f g a b i k b out/\out.length<=A.length+B.length:=by
 have nA:=kx.2 (hA.ne cj);have nB:=kx.2 (hB.ne cj)
 have fA:A[0].1=a:=by
  match A,hA,nA with
  |s::r,hA,_=>exact hA.1
 have fB:B[0].1=a:=by
  match B,hB,nB with
  |s::r,hB,_=>exact hB.1
 have pA:=hA.pos _ (je nA);have pB:=hB.pos _ (je nB);obtain⟨out,e,h1,h2⟩:=jEY hA hB (i:=i) (k:=k) (by omega) (by omega) (A.length+B.length) 0 0 a [] (by omega) (by omega) (by omega) (λ_ _=>⟨by omega,by omega,by omega⟩) (λh=>by omega) (ki _) ⟨by simp,List.Pairwise.nil,λt h1 h2=>by omega⟩ (by simp;omega);refine⟨out,?_,h1,by simpa using h2⟩;simp only[jac];rw[show xH A B i k 0 0 []=_ from e];rfl
end
def AK(x y:kE):Prop:=x.2.1<y.2.1\/x.2.1=y.2.1/\x.2.2.1<y.2.2.1
structure oT(F:Nat->Int->Int)(m:Nat)(a b:Int)(i k:Nat)(L:bS):Prop where
 ok:∀z∈L,∃i' k':Nat,i'<k'/\k'<m/\(i'<i\/i'=i/\k'<k)/\ClOk (F i') (F k') a b i' k' z
 pw:L.Pairwise λx y=>x.2.2.2.1=y.2.2.2.1->AK x y
 all:∀i' k':Nat,i'<k'->k'<m->(i'<i\/i'=i/\k'<k)->∀t,a<=t->t<b->F i' t=F k' t->0<=F i' t->∃z∈L,z.2.1=i'/\z.2.2.1=k'/\z.1=F i' t/\z.2.2.2.1<=t/\t<z.2.2.2.2
theorem oT.add{F:Nat->Int->Int}{m:Nat}{a b:Int}{i k:Nat}{L O:bS}(h:oT F m a b i k L)(gr:i<k)(nI:k<m)(hO:qV (F i) (F k) a b i k b O):oT F m a b i (k+1) (L++O):=by
 refine⟨λz hz=>?_,?_,λi' k' h1 h2 h3 t t1 t2 t3 t4=>?_⟩
 .rcases jn.1 hz with hz|hz
  .obtain⟨i',k',g1,g2,g3,g4⟩:=h.ok z hz;exact⟨i',k',g1,g2,by omega,g4⟩
  .exact⟨i,k,gr,nI,by omega,(hO.ok z hz).1⟩
 .refine qz.2 ⟨h.pw,hO.pw.imp (λh e=>absurd h (by omega)),λx hx y hy _=>?_⟩;obtain⟨i',k',g1,g2,g3,g4⟩:=h.ok x hx;have q:=(hO.ok y hy).1;unfold AK;rw[g4.i,g4.k,q.i,q.k];omega
 .by_cases hn:i'=i/\k'=k
  .obtain⟨rfl,rfl⟩:=hn;obtain⟨z,hz,g⟩:=hO.all t t1 t2 t3 t4;have q:=(hO.ok z hz).1;exact⟨z,kj _ hz,q.i,q.k,g⟩
  .obtain⟨z,hz,g⟩:=h.all i' k' h1 h2 (by omega) t t1 t2 t3 t4;exact⟨z,k5 _ hz,g⟩
theorem oT.next{F:Nat->Int->Int}{m:Nat}{a b:Int}{i k:Nat}{L:bS}(h:oT F m a b i k L)(hk:m<=k):oT F m a b (i+1) (i+2) L:=by
 refine⟨λz hz=>?_,h.pw,λi' k' h1 h2 h3=>h.all i' k' h1 h2 (by omega)⟩;obtain⟨i',k',g1,g2,g3,g4⟩:=h.ok z hz;exact⟨i',k',g1,g2,by omega,g4⟩
section
variable{F:Nat->Int->Int}{a b:Int}(cj:a<b){Ss:List bQ}(Hh:Ss.length<=1000)(hS:∀j (h:j<Ss.length),eh (F j) b none a Ss[j]/\Ss[j].length<=2500)
include cj Hh hS
theorem Yl{i:Nat}:∀(n k:Nat)(L:bS),k+n=Ss.length->i<k->oT F Ss.length a b i k L->L.length+5000*n<=1000000->
  ∃L',C0 (i:Int) (k:Int) (Ss.length:Int) (i:Int) Ss L=some ((Ss.length:Int),(i:Int),Ss,L')/\oT F Ss.length a b i Ss.length L'/\L'.length<=L.length+5000*n
 |0,k,L,hk,_,hI,_=>by
  rw[TD];simp only[j3x,show Int.ofNat Ss.length=(Ss.length:Int) from rfl];rw[ah (by omega),j6,aU];obtain rfl:k=Ss.length:=by omega
  exact⟨L,rfl,hI,by omega⟩
 |n+1,k,L,hk,gr,hI,hl=>by
  have br:k<Ss.length:=by omega
  have bd:i<Ss.length:=by omega
  have gi:Ss.getD i ([]:bQ)=Ss[i]:=by simp[List.getD,bd]
  have gk:Ss.getD k ([]:bQ)=Ss[k]:=by simp[List.getD,br]
  have si:=hS i bd;have sk:=hS k br;obtain⟨O,e,hO,lO⟩:=jzK si.1 sk.1 (i:=(i:Int)) (k:=(k:Int)) cj (by omega);obtain⟨L',e',rv,l'⟩:=Yl (i:=i) n (k+1) (L++O) (by omega) (by omega) (hI.add gr br hO) (by rw[ja];omega);rw[TD];simp only[j3x,show Int.ofNat Ss.length=(Ss.length:Int) from rfl];rw[ag (show (k:Int)<(Ss.length:Int) by omega),aR (show (0:Int)<=(i:Int) by omega) (by omega),aR (show (0:Int)<=(k:Int) by omega) (by omega)];simp only[j5,j7,gi,gk,e,j3];rw[ag (show L.length+O.length<=aY by simp[aY];omega),j5,aj (x:=(k:Int)+1) (by omega) (by omega),aJ];exact⟨L',e',rv,by rw[ja]at l';omega⟩
def AL:Nat->Nat
 |0=>0
 |n+1=>AL n+n
theorem Ym:∀(n i:Nat)(L:bS),i+n=Ss.length->oT F Ss.length a b i (i+1) L->L.length+5000*AL n<=900000->
  ∃L',C1 (Ss.length:Int) (i:Int) Ss L=some L'/\oT F Ss.length a b Ss.length (Ss.length+1) L'/\L'.length<=L.length+5000*AL n
 |0,i,L,hi,hI,_=>by
  rw[TE];simp only[j3y];rw[ah (by omega),j6,aU];obtain rfl:i=Ss.length:=by omega
  exact⟨L,rfl,hI,by omega⟩
 |n+1,i,L,hi,hI,hl=>by
  simp only[AL]at hl;obtain⟨L1,e1,h1,l1⟩:=Yl cj Hh hS (i:=i) n (i+1) L (by omega) (by omega) hI (by omega);obtain⟨L2,e2,h2,l2⟩:=Ym n (i+1) L1 (by omega) (h1.next (jl _)) (by omega);rw[TE];simp only[j3y];rw[ag (show (i:Int)<(Ss.length:Int) by omega),aj (x:=(i:Int)+1) (by omega) (by omega),j5,show C0 (i:Int) ((i:Int)+1) (Ss.length:Int) (i:Int) Ss L=_ from e1];simp only[j3];rw[aj (x:=(i:Int)+1) (by omega) (by omega),aJ];exact⟨L2,e2,h2,by simp only[AL];omega⟩
end
section
variable{zs:List bU}{ps:List dH}{cs:List bt}(hs:fK zs ps cs)
include hs
theorem jAW{s:cS}(hk:qK zs.length ps.length cs.length s)(gF:s.2.1.length<=3)(gh:s.2.2.length<=6){ss:List cS}{a b:Int}(ha:0<=a)(cj:a<b)(hb:b<=8589934592)(hlen:b-a<=1209600) :
  ∃out,j2S ((zs,(ps,(cs,ss))),zs.map tb) s a b=some out/\eh (cC zs cs s) b none a out/\out.length<=2500:=by
 obtain⟨S,e,h,_⟩:=jCR hs hk gF gh (ss:=ss) ha cj hb (by omega);obtain⟨E,e1,e2⟩:=jzE hs hk ha (Int.le_of_lt cj) hb (M:=2) (K:=807) (by omega) (by omega) rfl;have:=XF h e2;exact⟨S,e,h,by omega⟩
theorem Yn{ss:List cS}(oO:∀s∈ss,qK zs.length ps.length cs.length s/\s.2.1.length<=3/\s.2.2.length<=6)(hl:ss.length<=100){rr:List cS}{a b:Int}(ha:0<=a)(cj:a<b)(hb:b<=8589934592)(hlen:b-a<=1209600):∀(n i:Nat)(acc:List bQ),i+n=ss.length->acc.length=i->
  (∀j (h:j<acc.length) (h':j<ss.length),eh (cC zs cs ss[j]) b none a acc[j]/\acc[j].length<=2500)->
  ∃Ss,CZ a b ss (ss.length:Int) (i:Int) zs ps cs rr (zs.map tb) acc=some (.inr Ss)/\Ss.length=ss.length/\∀j (h:j<Ss.length) (h':j<ss.length),eh (cC zs cs ss[j]) b none a Ss[j]/\Ss[j].length<=2500
 |0,i,acc,hi,Yo,hg=>by
  rw[TC];simp only[j3w];rw[ah (by omega),j6,aU];exact⟨acc,rfl,by omega,hg⟩
 |n+1,i,acc,hi,Yo,hg=>by
  have bd:i<ss.length:=by omega
  have bj:ss.getD i (ByteArray.empty,(([]:List bP),([]:List dE)))=ss[i]:=by simp[List.getD,bd]
  obtain⟨k1,k2,k3⟩:=oO _ (je bd);obtain⟨S,e,hS,lS⟩:=jAW hs k1 k2 k3 (ss:=rr) ha cj hb hlen
  obtain⟨Ss,e2,h2,h3⟩:=Yn oO hl (rr:=rr) ha cj hb hlen n (i+1) (acc++[S]) (by omega) (by simp;omega) (λj h h'=>by
   simp only[ja,kv]at h;by_cases hj:j<acc.length
   .rw[List.getElem_append_left hj];exact hg j hj h'
   .have:j=i:=by omega
    subst this;rw[List.getElem_append_right (by omega)];simp only[Yo,Nat.sub_self,List.getElem_cons_zero];exact⟨hS,lS⟩)
  rw[TC];simp only[j3w];rw[ag (show (i:Int)<(ss.length:Int) by omega),aR (show (0:Int)<=(i:Int) by omega) (by omega)];simp only[j5,j7,bj];rw[show j2S ((zs,(ps,(cs,rr))),zs.map tb) (ss[i].1,(ss[i].2.1,ss[i].2.2)) a b=_ from e];simp only[j3,show Int.ofNat S.length=(S.length:Int) from rfl];rw[ah (show¬(S.length:Int)>16384 by omega),j6,ag (show acc.length+[_].length<=aY by simp[aY];omega),j5,aj (x:=(i:Int)+1) (by omega) (by omega),aJ];exact⟨Ss,e2,h2,h3⟩
theorem jx8{ss:List cS}(hc:uU (zs,(ps,(cs,ss))))(oO:∀s∈ss,s.2.1.length<=3/\s.2.2.length<=6)(hl:ss.length<=3){a b:Int}(ha:0<=a)(cj:a<b)(hb:b<=8589934592)(hlen:b-a<=1209600) :
  ∃L,j7o (zs,(ps,(cs,ss))) a b=some (bK aq L,0)/\oT (λj=>cC zs cs (ss.getD j (ByteArray.empty,([],[])))) ss.length a b ss.length (ss.length+1) L/\L.length<=15000:=by
 obtain⟨Ss,e1,h1,h2⟩:=Yn hs (ss:=ss) (λs h=>⟨hc.sc s h,oO s h⟩) (by omega) (rr:=ss) ha cj hb hlen ss.length 0 [] (by omega) rfl (λj h=>by simp at h)
 have hS:∀j (h:j<Ss.length),eh ((λj=>cC zs cs (ss.getD j (ByteArray.empty,([],[])))) j) b none a Ss[j]/\Ss[j].length<=2500:=λj h=>by
  have hj:j<ss.length:=by omega
  have bj:ss.getD j (ByteArray.empty,(([]:List bP),([]:List dE)))=ss[j]:=by simp[List.getD,hj]
  dsimp only
  rw[bj];exact h2 j h hj
 have htri:AL Ss.length<=3:=by
  have:Ss.length=0\/Ss.length=1\/Ss.length=2\/Ss.length=3:=by omega
  rcases this with h|h|h|h<;>rw[h]<;>decide
 obtain⟨L,e3,h3,l3⟩:=Ym cj (by omega) hS Ss.length 0 [] (by omega) ⟨by simp,List.Pairwise.nil,λi' k' h1 h2 h3=>by omega⟩ (by simp;omega);rw[h1]at h3;have l3':L.length<=15000:=by simp at l3;omega
 have mS:iz L:=λz hz=>by
  obtain⟨i',k',g1,g2,g3,g4⟩:=h3.ok z hz;have:=g4.lo;have:=g4.lt;have:=g4.hi;unfold aq;omega
 have e4:=jx6 mS (by omega);refine⟨L,?_,h3,l3'⟩;simp only[j7o,jDS hs.so.ok hc,j3,ji,j6,jit];rw[aj (x:=b-a) (by omega) (by omega),ag (show a>=0 by omega),ag (show a<=8589934592 by omega),ag (show b>=a by omega),ag (show b<=8589934592 by omega),ag (show b-a<=34560000 by omega)];simp only[j5,ji,j6,show Int.ofNat ss.length=(ss.length:Int) from rfl];rw[show CZ a b ss (ss.length:Int) 0 zs ps cs ss (zs.map tb) []=_ from e1];simp only[j3,jK,show Int.ofNat Ss.length=(Ss.length:Int) from rfl];rw[show C1 (Ss.length:Int) 0 Ss []=_ from e3];simp only[j3,show Int.ofNat L.length=(L.length:Int) from rfl];rw[ah (show¬(L.length:Int)>16384 by omega),j6];rw[show j0U L=_ from e4];rfl
end
theorem jCW{F:Nat->Int->Int}{m:Nat}{a b:Int}{i k:Nat}{L:bS}(h:oT F m a b i k L):(bK aq L).Pairwise λx y=>x.2.2.2.1<y.2.2.2.1\/x.2.2.2.1=y.2.2.2.1/\AK x y:=by
 have hd:L.Pairwise λx y=>x.2.2.2.1=y.2.2.2.1->AK x y:=h.pw;refine(XY (key:=aq) hd).imp λ{x y} h=>?_;rcases h with h|⟨h1,h2⟩
 .exact .inl h
 .exact .inr ⟨h1,h2 h1⟩
section
variable{zs:List bU}{ps:List dH}{cs:List bt}(hs:fK zs ps cs){ss:List cS}(hc:uU (zs,(ps,(cs,ss))))
include hs hc
theorem jCX{z:kE}{i k:Nat}(hi:i<ss.length)(hk:k<ss.length)(zi:z.2.1=i)(zk:z.2.2.1=k){t:Int}(h0:0<=t)(h1:t<=8589934592) :
  j0f (z.1,(z.2.1,(z.2.2.1,(z.2.2.2.1,z.2.2.2.2)))) t zs ps cs ss=some (decide (cC zs cs ss[i] t=z.1/\cC zs cs ss[k] t=z.1)):=by
 have w1:=Hf hs hc hi h0 h1;have w2:=Hf hs hc hk h0 h1;simp only[j0f];rw[zi,zk,show jdB (zs,(ps,(cs,ss))) (i:Int) t=_ from w1];simp only[j3];by_cases e1:cC zs cs ss[i] t=z.1
 .rw[cP e1,j5,show jdB (zs,(ps,(cs,ss))) (k:Int) t=_ from w2];simp only[j3];by_cases e2:cC zs cs ss[k] t=z.1
  .rw[cP e2,ag ⟨e1,e2⟩]
  .rw[bW e2,ah (λh=>e2 h.2)]
 .rw[bW e1,j6,ah (λh=>e1 h.1)]
theorem Yp{n a b:Int}(ha:0<=a)(hb:b<=8589934592){O:bS}(hO:∀z∈O,∃i k:Nat,∃(hi:i<ss.length)(hk:k<ss.length),i<k/\ClOk (cC zs cs ss[i]) (cC zs cs ss[k]) a b i k z)
  (hP:O.Pairwise λx y=>x.2.2.2.1<y.2.2.2.1\/x.2.2.2.1=y.2.2.2.1/\AK x y)(hl:O.length<=100000):∀(d j:Nat),j+d=O.length->
  Dn n a b zs ps cs ss (O.length:Int) (j:Int) zs ps cs ss O=some (.inr (n,a,b,zs,ps,cs,ss,O))
 |0,j,hj=>by
  rw[T7];simp only[j2q];rw[ah (by omega),j6,aU]
 |d+1,j,hj=>by
  have fN:j<O.length:=by omega
  have bj:O.getD j ((0:Int),((0:Int),((0:Int),((0:Int),(0:Int)))))=O[j]:=by simp[List.getD,fN]
  obtain⟨i,k,hi,hk,gr,z⟩:=hO _ (je fN);have ih:=Yp (n:=n) ha hb hO hP hl d (j+1) (by omega);have zlo:=z.lo;have zlt:=z.lt;have zhi:=z.hi;have zp:=z.p;have m0:=Int.emod_nonneg n (show O[j].2.2.2.2-O[j].2.2.2.1≠0 by omega);have m1:=Int.emod_lt_of_pos n (show 0<O[j].2.2.2.2-O[j].2.2.2.1 by omega);have c:=λ(t:Int)(h0:0<=t)(h1:t<=8589934592)=>jCX hs hc (z:=O[j]) hi hk z.i z.k h0 h1;have yd:jiC n (O[j].2.2.2.2-O[j].2.2.2.1)=some (n%(O[j].2.2.2.2-O[j].2.2.2.1)):=UY _ _ (by omega) (by omega);have t1:=c O[j].2.2.2.1 (by omega) (by omega);rw[ag (z.mid _ (by omega) (by omega))]at t1;have t2:=c (O[j].2.2.2.2-1) (by omega) (by omega);rw[ag (z.mid _ (by omega) (by omega))]at t2;have t3:=c (O[j].2.2.2.1+n%(O[j].2.2.2.2-O[j].2.2.2.1)) (by omega) (by omega);rw[ag (z.mid _ (by omega) (by omega))]at t3;rw[T7];simp only[j2q];rw[ag (show (j:Int)<(O.length:Int) by omega),aR (show (0:Int)<=(j:Int) by omega) (by omega)];simp only[j5,j7,bj,show Int.ofNat ss.length=(ss.length:Int) from rfl];have zi:=z.i;have zk:=z.k;rw[ah (show¬O[j].2.1>=O[j].2.2.1 by omega),ah (show¬O[j].2.1<0 by omega),ah (show¬O[j].2.2.1>=(ss.length:Int) by omega),ah (show¬O[j].1<0 by omega),ah (show¬O[j].2.2.2.1>=O[j].2.2.2.2 by omega),ah (show¬O[j].2.2.2.1<a by omega),ah (show¬O[j].2.2.2.2>b by omega)];simp only[j6];rw[t1];simp only[j3,ji,j6];rw[aj (x:=O[j].2.2.2.2-1) (by omega) (by omega),t2];simp only[j3,ji,j6];rw[aj (x:=O[j].2.2.2.2-O[j].2.2.2.1) (by omega) (by omega),yd];simp only[j3]
  rw[aj (x:=O[j].2.2.2.1+n%(O[j].2.2.2.2-O[j].2.2.2.1)) (by omega) (by omega),t3];simp only[j3,ji,j6];rw[aj (x:=(j:Int)+1) (by omega) (by omega)]
  have Pb:j=0\/∃j':Nat,j=j'+1/\∃h':j'<O.length,O[j'].2.2.2.1<O[j].2.2.2.1\/O[j'].2.2.2.1=O[j].2.2.2.1/\AK O[j'] O[j]:=by
   cases j with
   |zero=>exact .inl rfl
   |succ j'=>exact .inr ⟨j',rfl,by omega,kr.1 hP j' (j'+1) (by omega) fN (by omega)⟩
  have hR:O[j].2.2.2.2<b->j0f (O[j].1,(O[j].2.1,(O[j].2.2.1,(O[j].2.2.2.1,O[j].2.2.2.2)))) O[j].2.2.2.2 zs ps cs ss=some false:=λh=>by
   rw[c _ (by omega) (by omega)];rw[ah (z.rgt.resolve_left (by omega))]
  have hLf:O[j].2.2.2.1>a->j0f (O[j].1,(O[j].2.1,(O[j].2.2.1,(O[j].2.2.2.1,O[j].2.2.2.2)))) (O[j].2.2.2.1-1) zs ps cs ss=some false:=λh=>by
   rw[c _ (by omega) (by omega)];rw[ah (z.lft.resolve_left (by omega))]
  rw[show ((j+1:Nat):Int)=(j:Int)+1 by omega]at ih;rw[aj (x:=O[j].2.2.2.1-1) (by omega) (by omega)]
  have fin:∀r:Option ((Int×Int×Int×List bU×List dH×List bt×List cS×Int×Int×List bU×List dH×List bt×List cS×bS) ⊕ (Bool ⊕ (Int×Int×Int×List bU×List dH×List bt×List cS×bS))),
    r=some (.inl (n,a,b,zs,ps,cs,ss,(O.length:Int),(j:Int)+1,zs,ps,cs,ss,O))->
    (cond (decide (O[j].2.2.2.1>a)) ((j0f (O[j].1,(O[j].2.1,(O[j].2.2.1,(O[j].2.2.2.1,O[j].2.2.2.2)))) (O[j].2.2.2.1-1) zs ps cs ss).bind λr1=>cond r1 (some (.inr (.inl false))) (cond (decide (O[j].2.2.2.2<b)) ((j0f (O[j].1,(O[j].2.1,(O[j].2.2.1,(O[j].2.2.2.1,O[j].2.2.2.2)))) O[j].2.2.2.2 zs ps cs ss).bind λr2=>cond r2 (some (.inr (.inl false))) r) r)) (cond (decide (O[j].2.2.2.2<b)) ((j0f (O[j].1,(O[j].2.1,(O[j].2.2.1,(O[j].2.2.2.1,O[j].2.2.2.2)))) O[j].2.2.2.2 zs ps cs ss).bind λr2=>cond r2 (some (.inr (.inl false))) r) r))=some (.inl (n,a,b,zs,ps,cs,ss,(O.length:Int),(j:Int)+1,zs,ps,cs,ss,O)):=λr hr=>by
   have inner:(cond (decide (O[j].2.2.2.2<b)) ((j0f (O[j].1,(O[j].2.1,(O[j].2.2.1,(O[j].2.2.2.1,O[j].2.2.2.2)))) O[j].2.2.2.2 zs ps cs ss).bind λr2=>cond r2 (some (.inr (.inl false))) r) r)=r:=by
    by_cases h:O[j].2.2.2.2<b
    .rw[ag h,j5,hR h];rfl
    .rw[ah h,j6]
   rw[inner];by_cases h:O[j].2.2.2.1>a
   .rw[ag h,j5,hLf h];exact hr
   .rw[ah h,j6];exact hr
  refine(jp (λx=>lpK x _) (fin _ ?_)).trans ((aJ _ _).trans ih);rcases Pb with rfl|⟨j',rfl,h',ho⟩
  .rw[ah (show¬((0:Nat):Int)>0 by omega),j6]
  .have Pc:O.getD j' ((0:Int),((0:Int),((0:Int),((0:Int),(0:Int)))))=O[j']:=by simp[List.getD,h']
   rw[ag (show ((j'+1:Nat):Int)>0 by omega),j5,aj (x:=((j'+1:Nat):Int)-1) (by omega) (by omega),show ((j'+1:Nat):Int)-1=(j':Int) by omega,aR (show (0:Int)<=(j':Int) by omega) (by omega)];simp only[j5,j7,Pc];rcases ho with ho|⟨ho,hx⟩
   .rw[ah (show¬O[j'+1].2.2.2.1<O[j'].2.2.2.1 by omega),j6,bW (show O[j'+1].2.2.2.1≠O[j'].2.2.2.1 by omega),j6]
   .rw[ah (show¬O[j'+1].2.2.2.1<O[j'].2.2.2.1 by omega),j6,cP ho.symm,j5];rcases hx with hx|⟨hx,hy⟩
    .rw[ah (show¬O[j'+1].2.1<O[j'].2.1 by omega),j6,bW (show O[j'+1].2.1≠O[j'].2.1 by omega),j6]
    .rw[ah (show¬O[j'+1].2.1<O[j'].2.1 by omega),j6,cP hx.symm,j5,ah (show¬O[j'+1].2.2.1<=O[j'].2.2.1 by omega),j6]
omit hs hc in
def lC(i k t:Int)(x:kE):Bool:=cond (cond (cond (x.2.1==i) (x.2.2.1==k) false) (decide (x.2.2.2.1<=t)) false) (decide (t<x.2.2.2.2)) false
omit hs hc in
theorem Yq{i k t:Int}{x:kE}:lC i k t x=true↔x.2.1=i/\x.2.2.1=k/\x.2.2.2.1<=t/\t<x.2.2.2.2:=by
 unfold lC;by_cases h1:x.2.1=i
 .rw[cP h1,j5];by_cases h2:x.2.2.1=k
  .rw[cP h2,j5];by_cases h3:x.2.2.2.1<=t
   .rw[ag h3,j5,decide_eq_true_iff];exact⟨λh=>⟨h1,h2,h3,h⟩,λh=>h.2.2.2⟩
   .rw[ah h3];simp only[j6,k9,false_iff]
    exactλh=>h3 h.2.2.1
  .rw[bW h2];simp only[j6,k9,false_iff]
   exactλh=>h2 h.2.1
 .rw[bW h1];simp only[j6,k9,false_iff]
  exactλh=>h1 h.1
omit hs hc in
theorem Yr{t i k p q:Int}{O:bS}(hl:O.length<=100000):∀(d j:Nat)(AM:Bool),j+d=O.length->
  Dp t i k AM p q (O.length:Int) (j:Int) zs ps cs ss O=some (t,i,k,AM||(O.drop j).any (lC i k t),p,q,zs,ps,cs,ss,O)
 |0,j,AM,hj=>by
  rw[T8];simp only[j2r];rw[ah (by omega),j6,aU,jf (by omega)];simp
 |d+1,j,AM,hj=>by
  have fN:j<O.length:=by omega
  have bj:O.getD j ((0:Int),((0:Int),((0:Int),((0:Int),(0:Int)))))=O[j]:=by simp[List.getD,fN]
  have ih:=Yr (t:=t) (i:=i) (k:=k) (p:=p) (q:=q) hl d (j+1) (cond AM true (lC i k t O[j])) (by omega);rw[T8];simp only[j2r];rw[ag (show (j:Int)<(O.length:Int) by omega),aR (show (0:Int)<=(j:Int) by omega) (by omega)];simp only[j5,j7,bj];rw[aj (x:=(j:Int)+1) (by omega) (by omega),aJ];rw[show ((j+1:Nat):Int)=(j:Int)+1 by omega]at ih;refine Eq.trans ih ?_;rw[jc fN,List.any_cons];cases AM<;>cases lC i k t O[j]<;>rfl
theorem Ys{t:Int}(h0:0<=t)(h1:t<=8589934592){O:bS}(hl:O.length<=100000){i:Nat}(hi:i<ss.length)
  (hF:∀k,(hk:k<ss.length)->i<k->(O.any (lC i k t)=true↔0<=cC zs cs ss[i] t/\cC zs cs ss[i] t=cC zs cs ss[k] t)):∀(d k:Nat),k+d=ss.length->i<k->
  Dq t (i:Int) (k:Int) (ss.length:Int) (i:Int) zs ps cs ss O=some (.inr (t,(ss.length:Int),(i:Int),zs,ps,cs,ss,O))
 |0,k,hk,_=>by
  rw[T9];simp only[j2s,show Int.ofNat ss.length=(ss.length:Int) from rfl];rw[ah (by omega),j6,aU]
 |d+1,k,hk,gr=>by
  have br:k<ss.length:=by omega
  have ee:ss.length<=12:=hc.sl;have l6:=Yr (zs:=zs) (ps:=ps) (cs:=cs) (ss:=ss) (t:=t) (i:=(i:Int)) (k:=(k:Int)) (p:=(ss.length:Int)) (q:=(i:Int)) hl O.length 0 false (by omega);rw[kc,vc]at l6;have w1:=Hf hs hc hi h0 h1;have w2:=Hf hs hc br h0 h1;have ih:=Ys h0 h1 hl hi hF d (k+1) (by omega) (by omega);have hf:=hF k br gr;rw[T9];simp only[j2s,show Int.ofNat ss.length=(ss.length:Int) from rfl,show Int.ofNat O.length=(O.length:Int) from rfl];rw[ag (show (k:Int)<(ss.length:Int) by omega),j5,show Dp t (i:Int) (k:Int) false (ss.length:Int) (i:Int) (O.length:Int) 0 zs ps cs ss O=_ from l6];simp only[j3];rw[show jdB (zs,(ps,(cs,ss))) (i:Int) t=_ from w1];simp only[j3];rw[aj (x:=(k:Int)+1) (by omega) (by omega)];rw[show ((k+1:Nat):Int)=(k:Int)+1 by omega]at ih;by_cases hp:0<=cC zs cs ss[i] t
  .rw[ag (show cC zs cs ss[i] t>=0 from hp),j5,show jdB (zs,(ps,(cs,ss))) (k:Int) t=_ from w2];simp only[j3]
   have:(O.any (lC i k t)==(cC zs cs ss[i] t==cC zs cs ss[k] t))=true:=by
    by_cases he:cC zs cs ss[i] t=cC zs cs ss[k] t
    .rw[cP he,hf.2 ⟨hp,he⟩];rfl
    .rw[bW he,qf.2 (λh=>he (hf.1 h).2)];rfl
   rw[this];simp only[ji,j6,aJ];exact ih
  .rw[ah (show¬cC zs cs ss[i] t>=0 from hp),j6,qf.2 (λh=>hp (hf.1 h).1)];simp only[qj,ji,j6,aJ];exact ih
theorem Yt{t:Int}(h0:0<=t)(h1:t<=8589934592){O:bS}(hl:O.length<=100000)
  (hF:∀i k,(hi:i<ss.length)->(hk:k<ss.length)->i<k->(O.any (lC i k t)=true↔0<=cC zs cs ss[i] t/\cC zs cs ss[i] t=cC zs cs ss[k] t)):∀(d i:Nat),i+d=ss.length->
  Dr t (ss.length:Int) (i:Int) zs ps cs ss O=some (.inr ())
 |0,i,hi=>by
  rw[Ua];simp only[j2t];rw[ah (by omega),j6,aU]
 |d+1,i,hi=>by
  have bd:i<ss.length:=by omega
  have ee:ss.length<=12:=hc.sl;have l4:=Ys hs hc h0 h1 hl bd (λk hk gr=>hF i k bd hk gr) d (i+1) (by omega) (by omega);have ih:=Yt h0 h1 hl hF d (i+1) (by omega);rw[Ua];simp only[j2t];rw[ag (show (i:Int)<(ss.length:Int) by omega),j5,aj (x:=(i:Int)+1) (by omega) (by omega),show Dq t (i:Int) ((i:Int)+1) (ss.length:Int) (i:Int) zs ps cs ss O=_ from l4];simp only[j3,jK];rw[aj (x:=(i:Int)+1) (by omega) (by omega),aJ];exact ih
end
theorem jiS(t:List Int)(_h:Wf (.list (.int .i64)) t)(n:Int)(_h1:Wf (.int .i64) n):j8l t n=some true:=by
 simp only[j8l,jlR,j3,show Int.ofNat (List.length t)=(t.length:Int) from rfl];by_cases hl:(t.length:Int)<=500
 .rw[ag hl];simp only[ji,j6,jo5,j3];obtain⟨zs,ps,cs,ss,a1,e1,hs,g0,g1,g2,g3,d1⟩:=jwY (L:=t) (a:=0) (n:=3) ⟨by omega,by omega,by omega⟩ (by omega) (by omega);have hc:=jCA hs (ss:=ss) (by omega) (by rw[g2];exact jCz.take _) (λs h=>(g3 s h).ck);obtain⟨x,a3,e3,x0,x1,d3⟩:=Vp d1;obtain⟨L,e4,hI,hLl⟩:=jx8 hs hc (λs h=>⟨(g3 s h).ll,by have:=(g3 s h).el;omega⟩) (by omega) (a:=x) (b:=x+518400) (by omega) (by omega) (by omega) (by omega);have vD:=rG (key:=aq) L;have hlen:=tq (key:=aq) L;have sy:∀i,(hi:i<ss.length)->ss.getD i (ByteArray.empty,(([]:List bP),([]:List dE)))=ss[i]:=λi hi=>by simp[List.getD,hi]
  have hO:∀z∈bK aq L,∃i k:Nat,∃(hi:i<ss.length)(hk:k<ss.length),i<k/\ClOk (cC zs cs ss[i]) (cC zs cs ss[k]) x (x+518400) i k z:=λz hz=>by
   obtain⟨i,k,q1,q2,_,q3⟩:=hI.ok z (vD.mem_iff.1 hz);have hi:i<ss.length:=by omega
   rw[sy i hi,sy k q2]at q3;exact⟨i,k,hi,q2,q1,q3⟩
  have m0:=Int.emod_nonneg n (show (518400:Int)≠0 by omega);have m1:=Int.emod_lt_of_pos n (show (0:Int)<518400 by omega);have l0:=Yp hs hc (n:=n) (a:=x) (b:=x+518400) (by omega) (by omega) hO (jCW hI) (by omega) (bK aq L).length 0 (by omega)
  have l2:=Yt hs hc (t:=x+n%518400) (by omega) (by omega) (O:=bK aq L) (by omega) (λi k hi hk gr=>by
   constructor
   .intro h;obtain⟨z,hz,Cu⟩:=qw.1 h;obtain⟨h1,h2,h3,h4⟩:=Yq.1 Cu;obtain⟨i',k',bd,br,_,q⟩:=hO z hz;have qi:=q.i;have qk:=q.k;obtain rfl:i'=i:=by omega
    obtain rfl:k'=k:=by omega
    have:=q.mid _ h3 h4;rw[this.1,this.2];exact⟨q.p,rfl⟩
   .rintro⟨h1,h2⟩
    have:=hI.all i k gr hk (by omega) (x+n%518400) (by omega) (by omega);rw[sy i hi,sy k hk]at this;obtain⟨z,hz,q1,q2,_,q3,q4⟩:=this h2 h1;exact qw.2 ⟨z,vD.mem_iff.2 hz,Yq.2 ⟨q1,q2,q3,q4⟩⟩) ss.length 0 (by omega)
  simp only[e1,j3,e3];rw[aj (x:=x+518400) (by omega) (by omega),show j7o (zs,(ps,(cs,ss))) x (x+518400)=_ from e4];simp only[j3,jj,j6,show Int.ofNat (bK aq L).length=((bK aq L).length:Int) from rfl];rw[show Dn n x (x+518400) zs ps cs ss ((bK aq L).length:Int) 0 zs ps cs ss (bK aq L)=_ from l0];simp only[j3,jK];rw[aj (x:=x+518400-x) (by omega) (by omega),show x+518400-x=518400 by omega,UY n 518400 (by omega) (by omega)];simp only[j3,show Int.ofNat ss.length=(ss.length:Int) from rfl];rw[aj (x:=x+n%518400) (by omega) (by omega),show Dr (x+n%518400) (ss.length:Int) 0 zs ps cs ss (bK aq L)=_ from l2];simp only[j3,jK,XR]
 .rw[ah hl];simp only[jt,j5,XR,j3]
end Go.Proofs.Pw
