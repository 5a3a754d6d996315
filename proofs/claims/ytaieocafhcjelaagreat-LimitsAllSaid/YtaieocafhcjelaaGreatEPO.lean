/- EJ.Clashes: the times in which two Bv have the same Ol. -/
import Derived.Test.YtaieocafhcjelaaGreatEPL
import Derived.Test.YtaieocafhcjelaaGreatEPN
import Derived.Test.YtaieocafhcjelaaGreatEPK
import Derived.Test.YtaieocafhcjelaaGreatEPF
open Go Go.Lft
namespace Go.Proofs.Pw
theorem di.edge{f:Int->Int}{b:Int}:∀{l:aS}{q:Option Int}{a:Int},di f b q a l->(∀p,q=some p->f (a-1)=p)->∀s∈l,((q=none/\s.1=a)\/f (s.1-1)≠s.2.2)/\(s.2.1=b\/f s.2.1≠s.2.2)
 |[],_,_,_,_,s,hs=>by simp at hs
 |u::r,q,a,h,hq,s,hs=>by
  obtain⟨h1,h2,h3,h4,h5⟩:=h;rcases je.1 hs with rfl|hs
  .constructor
   .cases q with
    |none=>exact .inl ⟨rfl,h1⟩
    |some p=>exact .inr (by rw[h1,hq p rfl];exactλe=>h3 (by rw[e]))
   .match r,h5 with
    |[],h5=>exact .inl h5
    |v::w,h5=>obtain⟨g1,g2,g3,g4,_⟩:=h5;exact .inr (by rw[g4 _ (kg _) g2];exactλe=>g3 (by rw[e]))
  .have:=h5.edge (λp hp=>by
    simp only[j4]at hp;rw[<-hp];exact h4 _ (by omega) (by omega)) s hs
   exact⟨.inr (this.1.resolve_left (λh=>by simp at h)),this.2⟩
theorem Ch.nxt{f:Int->Int}{b:Int}:∀{l:aS}{a:Int},Ch f b a l->∀i,(h:i<l.length)->(∃h':i+1<l.length,l[i+1].1=l[i].2.1)\/(i+1=l.length/\l[i].2.1=b)
 |[],_,_,i,h=>by simp at h
 |[s],_,h,0,_=> .inr ⟨rfl,h.2.2.2⟩
 |s::u::r,_,h,0,_=> .inl ⟨by simp,h.2.2.2.1⟩
 |s::u::r,_,h,i+1,hi=>by
  rcases Ch.nxt h.2.2.2 i (by simpa using hi) with⟨h',e⟩|⟨h',e⟩
  .exact .inl ⟨by simpa using h',by simpa using e⟩
  .exact .inr ⟨by simpa using h',by simpa using e⟩
 |[s],_,_,i+1,hi=>by simp at hi
structure ClOk(f g:Int->Int)(a b i k:Int)(z:lg):Prop where
 i:z.2.1=i
 k:z.2.2.1=k
 p:0<=z.1
 lo:a<=z.2.2.2.1
 lt:z.2.2.2.1<z.2.2.2.2
 hi:z.2.2.2.2<=b
 mid:∀t,z.2.2.2.1<=t->t<z.2.2.2.2->f t=z.1/\g t=z.1
 lft:z.2.2.2.1=a\/¬(f (z.2.2.2.1-1)=z.1/\g (z.2.2.2.1-1)=z.1)
 rgt:z.2.2.2.2=b\/¬(f z.2.2.2.2=z.1/\g z.2.2.2.2=z.1)
structure rk(f g:Int->Int)(a b i k c:Int)(O:bL):Prop where
 ok:∀z∈O,ClOk f g a b i k z/\z.2.2.2.2<=c
 pw:O.Pairwise λx y=>x.2.2.2.1<y.2.2.2.1
 all:∀t,a<=t->t<c->f t=g t->0<=f t->∃z∈O,z.1=f t/\z.2.2.2.1<=t/\t<z.2.2.2.2
section
variable{f g:Int->Int}{a b:Int}{A B:aS}(hA:di f b none a A)(hB:di g b none a B)
include hA hB
theorem jzA{i k c d:Int}{x y:Nat}{acc:bL}(hx:x<A.length)(hy:y<B.length)(hc:c=max A[x].1 B[y].1)(hd:d=min A[x].2.1 B[y].2.1)(h1:A[x].1<=B[y].2.1)(h2:B[y].1<=A[x].2.1)(Om:a<=c)(hI:rk f g a b i k c acc) :
  (0<=A[x].2.2/\A[x].2.2=B[y].2.2/\c<d->rk f g a b i k d (acc++[(A[x].2.2,(i,(k,(c,d))))]))/\(¬(0<=A[x].2.2/\A[x].2.2=B[y].2.2/\c<d)->rk f g a b i k d acc)/\c<=d:=by
 have mA:=hA.ch.mem _ (jh hx);have mB:=hB.ch.mem _ (jh hy);have pA:=hA.pos _ (jh hx);have pB:=hB.pos _ (jh hy);have eA:=hA.edge (λp hp=>by simp at hp) _ (jh hx);have eB:=hB.edge (λp hp=>by simp at hp) _ (jh hy);have WV:c<=d:=by omega
 refine⟨λ⟨q1,q2,q3⟩=>⟨λz hz=>?_,?_,λt t1 t2 t3 t4=>?_⟩,λhn=>⟨λz hz=>?_,hI.pw,λt t1 t2 t3 t4=>?_⟩,WV⟩
 .rcases jn.1 hz with hz|hz
  .have:=hI.ok z hz;exact⟨this.1,by omega⟩
  .simp only[ke]at hz;subst hz;refine⟨⟨rfl,rfl,q1,Om,q3,by dsimp only;omega,λt t1 t2=>?_,?_,?_⟩,kg _⟩
   .dsimp only at t1 t2 ⊢
    exact⟨mA.2.2.2 t (by omega) (by omega),by rw[q2];exact mB.2.2.2 t (by omega) (by omega)⟩
   .dsimp only
    by_cases NG:c=a
    .exact .inl NG
    .right
     rintro⟨r1,r2⟩
     by_cases hcA:c=A[x].1
     .rcases eA.1 with⟨_,e⟩|e
      .omega
      .exact e (by rw[<-hcA];exact r1)
     .have hcB:c=B[y].1:=by omega
      rcases eB.1 with⟨_,e⟩|e
      .omega
      .exact e (by rw[<-hcB,<-q2];exact r2)
   .dsimp only
    by_cases hdb:d=b
    .exact .inl hdb
    .right
     rintro⟨r1,r2⟩
     by_cases hdA:d=A[x].2.1
     .rcases eA.2 with e|e
      .omega
      .exact e (by rw[<-hdA];exact r1)
     .have hdB:d=B[y].2.1:=by omega
      rcases eB.2 with e|e
      .omega
      .exact e (by rw[<-hdB,<-q2];exact r2)
 .refine qh.2 ⟨hI.pw,zg _ _,λz hz w hw=>?_⟩;simp only[ke]at hw;subst hw;have:=hI.ok z hz;have:=this.1.lt;dsimp only;omega
 .by_cases On:t<c
  .obtain⟨z,hz,h⟩:=hI.all t t1 On t3 t4;exact⟨z,kj _ hz,h⟩
  .refine⟨_,kv _ (ke.2 rfl),?_,by dsimp only;omega,by dsimp only;omega⟩;exact(mA.2.2.2 t (by omega) (by omega)).symm
 .have:=hI.ok z hz;exact⟨this.1,by omega⟩
 .by_cases On:t<c
  .exact hI.all t t1 On t3 t4
  .exfalso;have e1:=mA.2.2.2 t (by omega) (by omega);have e2:=mB.2.2.2 t (by omega) (by omega);exact hn ⟨by rw[<-e1];exact t4,by rw[<-e1,t3,e2],by omega⟩
theorem jBC{i k:Int}(hlA:A.length<=500000)(hlB:B.length<=500000):∀(n x y:Nat)(c:Int)(acc:bL),(A.length-x)+(B.length-y)<=n->x<=A.length->y<=B.length->
  (∀(hx:x<A.length)(hy:y<B.length),c=max A[x].1 B[y].1/\A[x].1<=B[y].2.1/\B[y].1<=A[x].2.1)->((x=A.length\/y=B.length)->c=b)->a<=c->rk f g a b i k c acc->acc.length+n<=1000000->
  ∃out,tF A B i k (x:Int) (y:Int) acc=some out/\rk f g a b i k b out/\out.length<=acc.length+n:=by
 intro n;induction n with
 |zero=>intro x y c acc hn hx hy _ h2 _ hI hl;rw[SQ];simp only[j44,show Int.ofNat A.length=(A.length:Int) from rfl,show Int.ofNat B.length=(B.length:Int) from rfl];rw[al (show¬(x:Int)<(A.length:Int) by omega)];simp only[j6,aW];have:=h2 (by omega);subst this;exact⟨acc,rfl,hI,by omega⟩
 |succ n ih=>
  intro x y c acc hn hx hy h1 h2 Om hI hl;rw[SQ];simp only[j44,show Int.ofNat A.length=(A.length:Int) from rfl,show Int.ofNat B.length=(B.length:Int) from rfl];by_cases Bw:x<A.length
  .rw[aj (show (x:Int)<(A.length:Int) by omega)];by_cases uJ:y<B.length
   .obtain⟨c1,c2,c3⟩:=h1 Bw uJ;have ga:A.getD x ((0:Int),((0:Int),(0:Int)))=A[x]:=by simp[List.getD,Bw]
    have gb:B.getD y ((0:Int),((0:Int),(0:Int)))=B[y]:=by simp[List.getD,uJ]
    have pA:=hA.pos _ (jh Bw);have pB:=hB.pos _ (jh uJ);rw[aj (show (y:Int)<(B.length:Int) by omega),aX (show (0:Int)<=(x:Int) by omega) (by omega),aX (show (0:Int)<=(y:Int) by omega) (by omega)];simp only[j5,Bool.true_or,j7,ga,gb];obtain⟨d,hd⟩:∃d,d=min A[x].2.1 B[y].2.1:=⟨_,rfl⟩;have e1:(if B[y].1>A[x].1 then B[y].1 else A[x].1)=c:=by split<;>omega
    have e2:(if B[y].2.1<A[x].2.1 then B[y].2.1 else A[x].2.1)=d:=by split<;>omega
    rw[e1,e2];obtain⟨s1,s2,WV⟩:=jzA hA hB (i:=i) (k:=k) Bw uJ c1 hd c2 c3 Om hI
    have WW:∀aZ:bL,A[x].2.1<B[y].2.1->rk f g a b i k d aZ->aZ.length<=acc.length+1->∃out,tF A B i k ((x:Int)+1) (y:Int) aZ=some out/\rk f g a b i k b out/\out.length<=acc.length+(n+1):=λaZ aq rO kC=>by
     have:=ih (x+1) y d aZ (by omega) (by omega) hy (λgN sv=>by
      rcases hA.ch.nxt x Bw with⟨h',e⟩|⟨e,_⟩
      .have pA':=hA.pos _ (jh gN);exact⟨by omega,by omega,by omega⟩
      .omega) (λh=>by
      rcases hA.ch.nxt x Bw with⟨h',e⟩|⟨_,e⟩
      .omega
      .omega) (by omega) rO (by omega)
     obtain⟨out,r1,r2,r3⟩:=this;exact⟨out,r1,r2,by omega⟩
    have WX:∀aZ:bL,¬A[x].2.1<B[y].2.1->rk f g a b i k d aZ->aZ.length<=acc.length+1->∃out,tF A B i k (x:Int) ((y:Int)+1) aZ=some out/\rk f g a b i k b out/\out.length<=acc.length+(n+1):=λaZ aq rO kC=>by
     have:=ih x (y+1) d aZ (by omega) hx (by omega) (λgN sv=>by
      rcases hB.ch.nxt y uJ with⟨h',e⟩|⟨e,_⟩
      .have pB':=hB.pos _ (jh sv);exact⟨by omega,by omega,by omega⟩
      .omega) (λh=>by
      rcases hB.ch.nxt y uJ with⟨h',e⟩|⟨_,e⟩
      .omega
      .omega) (by omega) rO (by omega)
     obtain⟨out,r1,r2,r3⟩:=this;exact⟨out,r1,r2,by omega⟩
    rw[ai (x:=(x:Int)+1) (by omega) (by omega),ai (x:=(y:Int)+1) (by omega) (by omega)]
    have dL:cond (cond (decide (A[x].2.2>=0)) (A[x].2.2==B[y].2.2) false) (decide (c<d)) false=decide (0<=A[x].2.2/\A[x].2.2=B[y].2.2/\c<d):=by
     rw[Bool.eq_iff_iff,decide_eq_true_iff];by_cases r1:0<=A[x].2.2
     .rw[aj (show A[x].2.2>=0 from r1),j5];by_cases r2:A[x].2.2=B[y].2.2
      .rw[ee r2,j5];simp only[decide_eq_true_iff];exact⟨λh=>⟨r1,r2,h⟩,λh=>h.2.2⟩
      .rw[cP r2,j6];simp only[kn,false_iff]
       exactλh=>r2 h.2.1
     .rw[al (show¬A[x].2.2>=0 from r1)];simp only[j6,kn,false_iff]
      exactλh=>r1 h.1
    rw[dL];by_cases he:0<=A[x].2.2/\A[x].2.2=B[y].2.2/\c<d
    .rw[aj he,j5,aj (show acc.length+[_].length<=aR by simp[aR];omega),j5];by_cases aq:A[x].2.1<B[y].2.1
     .rw[aj aq,j5,aJ];exact WW _ aq (s1 he) (by simp)
     .rw[al aq,j6,aJ];exact WX _ aq (s1 he) (by simp)
    .rw[al he,j6];by_cases aq:A[x].2.1<B[y].2.1
     .rw[aj aq,j5,aJ];exact WW acc aq (s2 he) (by omega)
     .rw[al aq,j6,aJ];exact WX acc aq (s2 he) (by omega)
   .rw[al (show¬(y:Int)<(B.length:Int) by omega)];simp only[j5,j6,aW];have:=h2 (by omega);subst this;exact⟨acc,rfl,hI,by omega⟩
  .rw[al (show¬(x:Int)<(A.length:Int) by omega)];simp only[j6,aW];have:=h2 (by omega);subst this;exact⟨acc,rfl,hI,by omega⟩
theorem jwa{i k:Int}(bR:a<b)(hl:A.length+B.length<=500000):∃out,j5K A B i k=some out/\rk f g a b i k b out/\out.length<=A.length+B.length:=by
 have nA:=qa.2 (hA.ne bR);have nB:=qa.2 (hB.ne bR)
 have fA:A[0].1=a:=by
  match A,hA,nA with
  |s::r,hA,_=>exact hA.1
 have fB:B[0].1=a:=by
  match B,hB,nB with
  |s::r,hB,_=>exact hB.1
 have pA:=hA.pos _ (jh nA);have pB:=hB.pos _ (jh nB);obtain⟨out,e,h1,h2⟩:=jBC hA hB (i:=i) (k:=k) (by omega) (by omega) (A.length+B.length) 0 0 a [] (by omega) (by omega) (by omega) (λ_ _=>⟨by omega,by omega,by omega⟩) (λh=>by omega) (kg _) ⟨by simp,List.Pairwise.nil,λt h1 h2=>by omega⟩ (by simp;omega);refine⟨out,?_,h1,by simpa using h2⟩;simp only[j5K];rw[show tF A B i k 0 0 []=_ from e];rfl
end
def WY(x y:lg):Prop:=x.2.1<y.2.1\/x.2.1=y.2.1/\x.2.2.1<y.2.2.1
structure ph(F:Nat->Int->Int)(m:Nat)(a b:Int)(i k:Nat)(L:bL):Prop where
 ok:∀z∈L,∃i' k':Nat,i'<k'/\k'<m/\(i'<i\/i'=i/\k'<k)/\ClOk (F i') (F k') a b i' k' z
 pw:L.Pairwise λx y=>x.2.2.2.1=y.2.2.2.1->WY x y
 all:∀i' k':Nat,i'<k'->k'<m->(i'<i\/i'=i/\k'<k)->∀t,a<=t->t<b->F i' t=F k' t->0<=F i' t->∃z∈L,z.2.1=i'/\z.2.2.1=k'/\z.1=F i' t/\z.2.2.2.1<=t/\t<z.2.2.2.2
theorem ph.add{F:Nat->Int->Int}{m:Nat}{a b:Int}{i k:Nat}{L O:bL}(h:ph F m a b i k L)(iJ:i<k)(nS:k<m)(hO:rk (F i) (F k) a b i k b O):ph F m a b i (k+1) (L++O):=by
 refine⟨λz hz=>?_,?_,λi' k' h1 h2 h3 t t1 t2 t3 t4=>?_⟩
 .rcases jn.1 hz with hz|hz
  .obtain⟨i',k',g1,g2,g3,g4⟩:=h.ok z hz;exact⟨i',k',g1,g2,by omega,g4⟩
  .exact⟨i,k,iJ,nS,by omega,(hO.ok z hz).1⟩
 .refine qh.2 ⟨h.pw,hO.pw.imp (λh e=>absurd h (by omega)),λx hx y hy _=>?_⟩;obtain⟨i',k',g1,g2,g3,g4⟩:=h.ok x hx;have q:=(hO.ok y hy).1;unfold WY;rw[g4.i,g4.k,q.i,q.k];omega
 .by_cases hn:i'=i/\k'=k
  .obtain⟨rfl,rfl⟩:=hn;obtain⟨z,hz,g⟩:=hO.all t t1 t2 t3 t4;have q:=(hO.ok z hz).1;exact⟨z,kv _ hz,q.i,q.k,g⟩
  .obtain⟨z,hz,g⟩:=h.all i' k' h1 h2 (by omega) t t1 t2 t3 t4;exact⟨z,kj _ hz,g⟩
theorem ph.next{F:Nat->Int->Int}{m:Nat}{a b:Int}{i k:Nat}{L:bL}(h:ph F m a b i k L)(hk:m<=k):ph F m a b (i+1) (i+2) L:=by
 refine⟨λz hz=>?_,h.pw,λi' k' h1 h2 h3=>h.all i' k' h1 h2 (by omega)⟩;obtain⟨i',k',g1,g2,g3,g4⟩:=h.ok z hz;exact⟨i',k',g1,g2,by omega,g4⟩
section
variable{F:Nat->Int->Int}{a b:Int}(bR:a<b){K:Nat}(hK:K<=2500){Ss:List aS}(Hh:Ss.length<=1000)(hS:∀j (h:j<Ss.length),di (F j) b none a Ss[j]/\Ss[j].length<=K)
include bR hK Hh hS
theorem WZ{i:Nat}:∀(n k:Nat)(L:bL),k+n=Ss.length->i<k->ph F Ss.length a b i k L->L.length+2*K*n<=1000000->
  ∃L',yr (i:Int) (k:Int) (Ss.length:Int) (i:Int) Ss L=some ((Ss.length:Int),(i:Int),Ss,L')/\ph F Ss.length a b i Ss.length L'/\L'.length<=L.length+2*K*n
 |0,k,L,hk,_,hI,_=>by
  rw[S9];simp only[j1O,show Int.ofNat Ss.length=(Ss.length:Int) from rfl];rw[al (by omega),j6,aW];obtain rfl:k=Ss.length:=by omega
  exact⟨L,rfl,hI,by omega⟩
 |n+1,k,L,hk,iJ,hI,hl=>by
  have hmul:2*K*(n+1)=2*K*n+2*K:=vv _ _;have bg:k<Ss.length:=by omega
  have bF:i<Ss.length:=by omega
  have gi:Ss.getD i ([]:aS)=Ss[i]:=by simp[List.getD,bF]
  have gk:Ss.getD k ([]:aS)=Ss[k]:=by simp[List.getD,bg]
  have si:=hS i bF;have sk:=hS k bg;obtain⟨O,e,hO,lO⟩:=jwa si.1 sk.1 (i:=(i:Int)) (k:=(k:Int)) bR (by omega);obtain⟨L',e',rO,l'⟩:=WZ (i:=i) n (k+1) (L++O) (by omega) (by omega) (hI.add iJ bg hO) (by rw[ja];omega);rw[S9];simp only[j1O,show Int.ofNat Ss.length=(Ss.length:Int) from rfl];rw[aj (show (k:Int)<(Ss.length:Int) by omega),aX (show (0:Int)<=(i:Int) by omega) (by omega),aX (show (0:Int)<=(k:Int) by omega) (by omega)];simp only[j5,j7,gi,gk,e,j3];rw[aj (show L.length+O.length<=aR by simp[aR];omega),j5,ai (x:=(k:Int)+1) (by omega) (by omega),aJ];exact⟨L',e',rO,by rw[ja]at l';omega⟩
def r5:Nat->Nat
 |0=>0
 |n+1=>r5 n+n
theorem W0:∀(n i:Nat)(L:bL),i+n=Ss.length->ph F Ss.length a b i (i+1) L->L.length+2*K*r5 n<=900000->
  ∃L',yt (Ss.length:Int) (i:Int) Ss L=some L'/\ph F Ss.length a b Ss.length (Ss.length+1) L'/\L'.length<=L.length+2*K*r5 n
 |0,i,L,hi,hI,_=>by
  rw[Ta];simp only[j1P];rw[al (by omega),j6,aW];obtain rfl:i=Ss.length:=by omega
  exact⟨L,rfl,hI,by omega⟩
 |n+1,i,L,hi,hI,hl=>by
  have hmul:2*K*r5 (n+1)=2*K*r5 n+2*K*n:=Nat.mul_add _ _ _;obtain⟨L1,e1,h1,l1⟩:=WZ bR hK Hh hS (i:=i) n (i+1) L (by omega) (by omega) hI (by omega);obtain⟨L2,e2,h2,l2⟩:=W0 n (i+1) L1 (by omega) (h1.next (jg _)) (by omega);rw[Ta];simp only[j1P];rw[aj (show (i:Int)<(Ss.length:Int) by omega),ai (x:=(i:Int)+1) (by omega) (by omega),j5,show yr (i:Int) ((i:Int)+1) (Ss.length:Int) (i:Int) Ss L=_ from e1];simp only[j3];rw[ai (x:=(i:Int)+1) (by omega) (by omega),aJ];exact⟨L2,e2,h2,by omega⟩
end
section
variable{zs:List bY}{ps:List dB}{cs:List bf}(hs:eX zs ps cs)
include hs
omit hs in
theorem W7{K:Nat}(hK:K<=2500){ss rr:List cA}{a b:Int}(Bo:∀s∈ss,∃out,j0N ((zs,(ps,(cs,rr))),zs.map tb) s a b=some out/\di (dU zs cs s) b none a out/\out.length<=K)(hl:ss.length<=100):∀(n i:Nat)(acc:List aS),i+n=ss.length->acc.length=i->
  (∀j (h:j<acc.length) (h':j<ss.length),di (dU zs cs ss[j]) b none a acc[j]/\acc[j].length<=K)->
  ∃Ss,yq a b ss (ss.length:Int) (i:Int) zs ps cs rr (zs.map tb) acc=some (.inr Ss)/\Ss.length=ss.length/\∀j (h:j<Ss.length) (h':j<ss.length),di (dU zs cs ss[j]) b none a Ss[j]/\Ss[j].length<=K
 |0,i,acc,hi,Hr,hg=>by
  rw[S8];simp only[j1N];rw[al (by omega),j6,aW];exact⟨acc,rfl,by omega,hg⟩
 |n+1,i,acc,hi,Hr,hg=>by
  have bF:i<ss.length:=by omega
  have bh:ss.getD i (ByteArray.empty,(([]:List cg),([]:List eU)))=ss[i]:=by simp[List.getD,bF]
  obtain⟨S,e,hS,lS⟩:=Bo _ (jh bF)
  obtain⟨Ss,e2,h2,h3⟩:=W7 hK Bo hl n (i+1) (acc++[S]) (by omega) (by simp;omega) (λj h h'=>by
   simp only[ja,ku]at h;by_cases hj:j<acc.length
   .rw[List.getElem_append_left hj];exact hg j hj h'
   .have:j=i:=by omega
    subst this;rw[List.getElem_append_right (by omega)];simp only[Hr,Nat.sub_self,List.getElem_cons_zero];exact⟨hS,lS⟩)
  rw[S8];simp only[j1N];rw[aj (show (i:Int)<(ss.length:Int) by omega),aX (show (0:Int)<=(i:Int) by omega) (by omega)];simp only[j5,j7,bh];rw[show j0N ((zs,(ps,(cs,rr))),zs.map tb) (ss[i].1,(ss[i].2.1,ss[i].2.2)) a b=_ from e];simp only[j3,show Int.ofNat S.length=(S.length:Int) from rfl];rw[al (show¬(S.length:Int)>16384 by omega),j6,aj (show acc.length+[_].length<=aR by simp[aR];omega),j5,ai (x:=(i:Int)+1) (by omega) (by omega),aJ];exact⟨Ss,e2,h2,h3⟩
theorem js0{K:Nat}(hK:K<=2500){ss:List cA}(hc:tP (zs,(ps,(cs,ss))))(hl:ss.length<=3){a b:Int}(ha:0<=a)(bR:a<b)(hb:b<=8589934592)(hlen:b-a<=1209600)
  (Bo:∀s∈ss,∃out,j0N ((zs,(ps,(cs,ss))),zs.map tb) s a b=some out/\di (dU zs cs s) b none a out/\out.length<=K) :
  ∃L,j39 (zs,(ps,(cs,ss))) a b=some (br ah L,0)/\ph (λj=>dU zs cs (ss.getD j (ByteArray.empty,([],[])))) ss.length a b ss.length (ss.length+1) L/\(L.length<=15000/\L.length<=2*K*r5 ss.length):=by
 obtain⟨Ss,e1,h1,h2⟩:=W7 hK (ss:=ss) (rr:=ss) Bo (by omega) ss.length 0 [] (by omega) rfl (λj h=>by simp at h)
 have hS:∀j (h:j<Ss.length),di ((λj=>dU zs cs (ss.getD j (ByteArray.empty,([],[])))) j) b none a Ss[j]/\Ss[j].length<=K:=λj h=>by
  have hj:j<ss.length:=by omega
  have bh:ss.getD j (ByteArray.empty,(([]:List cg),([]:List eU)))=ss[j]:=by simp[List.getD,hj]
  dsimp only
  rw[bh];exact h2 j h hj
 have EK:r5 Ss.length<=3:=by
  have:Ss.length=0\/Ss.length=1\/Ss.length=2\/Ss.length=3:=by omega
  rcases this with h|h|h|h<;>rw[h]<;>decide
 have hmul:2*K*r5 Ss.length<=2*2500*3:=qw (ve _ hK) EK;obtain⟨L,e3,h3,l3⟩:=W0 bR hK (by omega) hS Ss.length 0 [] (by omega) ⟨by simp,List.Pairwise.nil,λi' k' h1 h2 h3=>by omega⟩ (by rw[kq];omega);rw[h1]at h3;have l3':L.length<=15000/\L.length<=2*K*r5 ss.length:=by rw[h1]at l3 hmul;rw[kq]at l3;omega
 have ia:iC L:=λz hz=>by
  obtain⟨i',k',g1,g2,g3,g4⟩:=h3.ok z hz;have:=g4.lo;have:=g4.lt;have:=g4.hi;unfold ah;omega
 have e4:=jtT ia (by omega);refine⟨L,?_,h3,l3'⟩;simp only[j39,Nz hs.so.ok hc,j3,jq,j6,jb4];rw[ai (x:=b-a) (by omega) (by omega),aj (show a>=0 by omega),aj (show a<=8589934592 by omega),aj (show b>=a by omega),aj (show b<=8589934592 by omega),aj (show b-a<=34560000 by omega)];simp only[j5,jq,j6,show Int.ofNat ss.length=(ss.length:Int) from rfl];rw[show yq a b ss (ss.length:Int) 0 zs ps cs ss (zs.map tb) []=_ from e1];simp only[j3,nV,show Int.ofNat Ss.length=(Ss.length:Int) from rfl];rw[show yt (Ss.length:Int) 0 Ss []=_ from e3];simp only[j3,show Int.ofNat L.length=(L.length:Int) from rfl];rw[al (show¬(L.length:Int)>16384 by omega),j6];rw[show j0o L=_ from e4];rfl
end
def rm(t:Int)(s:Int×Int):Int:=max 0 (min s.2 t-max s.1 (t-604800))
def dR(t:Int):SL->Int
 |[]=>0
 |s::r=>rm t s+dR t r
def ind(t:Int)(s:Int×Int):Int:=if s.1<=t/\t<s.2 then 1 else 0
def gv(t:Int):SL->Int
 |[]=>0
 |s::r=>ind t s+gv t r
theorem jxu{t:Int}{s:Int×Int}(h:s.1<s.2):rm (t+1) s=rm t s+ind t s-ind (t-604800) s:=by
 unfold rm ind;split<;>split<;>omega
theorem W8{t:Int}{s:Int×Int}:0<=rm t s:=by unfold rm;omega
theorem Hs{t:Int}:∀{l:SL},0<=dR t l
 |[]=>by simp[dR]
 |s::r=>by
  have:=Hs (t:=t) (l:=r);have:=W8 (t:=t) (s:=s);simp only[dR];omega
theorem W9{t:Int}:∀{l:SL}{p:Int},bK p l->dR (t+1) l=dR t l+gv t l-gv (t-604800) l
 |[],_,_=>by simp[dR,gv]
 |s::r,p,h=>by
  have ih:=W9 (t:=t) (l:=r) h.2.2;have:=jxu (t:=t) h.2.1;simp only[dR,gv];omega
theorem Xa{t:Int}:∀{l:SL}{p:Int},bK p l->t<=p->gv t l=0
 |[],_,_,_=>by simp[gv]
 |s::r,p,h,ht=>by
  have h1:=h.1;have h2:=h.2.1;have ih:=Xa (t:=t) (l:=r) h.2.2 (by omega);simp only[gv,ind];rw[ih,if_neg (by omega)];rfl
theorem Oo{t:Int}:∀{l:SL}{p:Int},bK p l->0<=gv t l/\gv t l<=1
 |[],_,_=>by simp[gv]
 |s::r,p,h=>by
  have ih:=Oo (t:=t) (l:=r) h.2.2;simp only[gv,ind];split
  .rename_i hq;rw[Xa (t:=t) (l:=r) h.2.2 (by omega)];omega
  .omega
theorem Oq{a t:Int}(mv:a<=t):∀{l:SL},(∀s∈l,¬(a<s.1/\s.1<=t)/\¬(a<s.2/\s.2<=t))->gv t l=gv a l
 |[],_=>by simp[gv]
 |s::r,h=>by
  have ih:=Oq mv (l:=r) (λu hu=>h u (by simp[hu]));have:=h s (by simp);simp only[gv,ind];rw[ih];congr 1;by_cases h1:s.1<=a/\a<s.2
  .rw[if_pos h1,if_pos (by omega)]
  .rw[if_neg h1,if_neg (by omega)]
theorem Ht{t:Int}:∀{l:SL}{p:Int},bK p l->dR t l<=max 0 (t-max (p+1) (t-604800))
 |[],_,_=>by simp only[dR];omega
 |s::r,p,h=>by
  have h1:=h.1;have h2:=h.2.1;have ih:=Ht (t:=t) (l:=r) h.2.2;simp only[dR,rm];omega
def Ot(l:SL)(a b:Int):Prop:=∀s∈l,(¬(a<s.1/\s.1<b)/\¬(a<s.2/\s.2<b))/\¬(a<s.1+604800/\s.1+604800<b)/\¬(a<s.2+604800/\s.2+604800<b)
theorem Xb{l:SL}{p:Int}(h:bK p l){a b:Int}(hB:Ot l a b):∀j:Nat,a+j<=b->dR (a+j) l=dR a l+j*(gv a l-gv (a-604800) l)
 |0,_=>by simp
 |j+1,hj=>by
  have ih:=Xb h hB j (by omega);have e1:=Oq (a:=a) (t:=a+j) (by omega) (l:=l) (λs hs=>by have:=(hB s hs).1;omega);have e2:=Oq (a:=a-604800) (t:=a+j-604800) (by omega) (l:=l) (λs hs=>by have:=(hB s hs).2;omega);have:=W9 (t:=a+j) h;rw[show a+((j+1:Nat):Int)=a+(j:Int)+1 by omega,this,ih,e1,e2,show ((j+1:Nat):Int)=(j:Int)+1 by omega,Int.add_mul,Int.one_mul];omega
theorem jzB{l:SL}{p:Int}(h:bK p l){a b:Int}(bR:a<=b)(hB:Ot l a b) :
  (∀t,a<=t->t<=b->dR t l=dR a l+(t-a))\/(∀t,a<=t->t<=b->dR t l=dR a l)\/(∀t,a<=t->t<=b->dR t l=dR a l-(t-a)):=by
 have c1:=Oo (t:=a) h;have c2:=Oo (t:=a-604800) h
 have key:∀t,a<=t->t<=b->dR t l=dR a l+(t-a)*(gv a l-gv (a-604800) l):=λt h1 h2=>by
  have:=Xb h hB (t-a).toNat (by omega);rw[show a+((t-a).toNat:Int)=t by omega,show ((t-a).toNat:Int)=t-a by omega]at this;exact this
 have hd:gv a l-gv (a-604800) l=1\/gv a l-gv (a-604800) l=0\/gv a l-gv (a-604800) l = -1:=by omega
 rcases hd with hd|hd|hd
 .refine .inl λt h1 h2=>?_;rw[key t h1 h2,hd,Int.mul_one]
 .refine .inr (.inl λt h1 h2=>?_);rw[key t h1 h2,hd];simp
 .refine .inr (.inr λt h1 h2=>?_);rw[key t h1 h2,hd];omega
theorem Xc{l:SL}(hl:l.length<=1000000){t:Int}(Ou : -1000000000000<=t)(G1:t<=1000000000000)(hb:Sml l):∀(n i:Nat)(acc:Int),i+n=l.length->0<=acc->acc+dR t (l.drop i)<=604800->
  AW t acc l (l.length:Int) (i:Int)=some (acc+dR t (l.drop i))
 |0,i,acc,hi,_,_=>by
  rw[Tb];simp only[j4J];rw[al (by omega),j6,aW,jf (by omega)];simp[dR]
 |n+1,i,acc,hi,h0,hle=>by
  have aq:i<l.length:=by omega
  have bh:l.getD i ((0:Int),(0:Int))=l[i]:=by simp[List.getD,aq]
  rw[jc aq]at hle ⊢;have hs:=hb _ (jh aq);have hw:=W8 (t:=t) (s:=l[i]);have hr:=Hs (t:=t) (l:=l.drop (i+1));simp only[dR]at hle ⊢;have ih:=Xc hl Ou G1 hb n (i+1) (acc+rm t l[i]) (by omega) (by omega) (by omega);rw[Tb];simp only[j4J];rw[aj (show (i:Int)<(l.length:Int) by omega),aX (by omega) (by omega)];simp only[j5,j7,bh]
  have e:(if w64 ((if t<l[i].2 then t else l[i].2)-(if w64 (t-604800)>l[i].1 then w64 (t-604800) else l[i].1))>0 then w64 ((if t<l[i].2 then t else l[i].2)-(if w64 (t-604800)>l[i].1 then w64 (t-604800) else l[i].1)) else 0:Int)=rm t l[i]:=by
   rw[ai (x:=t-604800) (by omega) (by omega)];have e1:(if t<l[i].2 then t else l[i].2:Int)=min l[i].2 t:=by split<;>omega
   have e2:(if t-604800>l[i].1 then t-604800 else l[i].1:Int)=max l[i].1 (t-604800):=by split<;>omega
   rw[e1,e2,ai (by omega) (by omega)];unfold rm;split<;>omega
  rw[e,ai (x:=acc+rm t l[i]) (by omega) (by omega),ai (x:=(i:Int)+1) (by omega) (by omega),aJ];rw[show ((i+1:Nat):Int)=(i:Int)+1 by omega]at ih;rw[ih];congr 1;omega
theorem Xd{l:SL}(hl:l.length<=1000000){t:Int}(Ou : -1000000000000<=t)(G1:t<=1000000000000)(hb:Sml l){p:Int}(h:bK p l):j6d l t=some (dR t l):=by
 have hle:=Ht (t:=t) h;have:=Xc hl Ou G1 hb l.length 0 0 (by omega) (by omega) (by simp only[jv];omega);simp only[j6d,show Int.ofNat (List.length l)=(l.length:Int) from rfl];rw[show ((0:Nat):Int)=0 from rfl,jv,Int.zero_add]at this;rw[this];rfl
def ov:SL->List Int
 |[]=>[]
 |s::r=>s.1::s.2::(s.1+604800)::(s.2+604800)::ov r
theorem Xe:∀l:SL,(ov l).length=4*l.length
 |[]=>rfl
 |s::r=>by simp only[ov,jk,Xe r];omega
theorem Xf{x:Int}:∀{l:SL},x∈ov l↔∃s∈l,x=s.1\/x=s.2\/x=s.1+604800\/x=s.2+604800
 |[]=>by simp[ov]
 |s::r=>by
  simp only[ov,je,Xf (l:=r),exists_eq_or_imp];constructor
  .rintro (h|h|h|h|h)
   .exact .inl (.inl h)
   .exact .inl (.inr (.inl h))
   .exact .inl (.inr (.inr (.inl h)))
   .exact .inl (.inr (.inr (.inr h)))
   .exact .inr h
  .rintro ((h|h|h|h)|h)
   .exact .inl h
   .exact .inr (.inl h)
   .exact .inr (.inr (.inl h))
   .exact .inr (.inr (.inr (.inl h)))
   .exact .inr (.inr (.inr (.inr h)))
theorem Xg{s0:SL}{m f t:Int}{l:SL}(hl:l.length<=1000000)(hb:Sml l):∀(n i:Nat)(acc:List Int),i+n=l.length->acc.length<=4*i->
  yu s0 m f t l (l.length:Int) (i:Int) acc=some (s0,m,f,t,acc++ov (l.drop i))
 |0,i,acc,hi,_=>by
  rw[Tc];simp only[j5d];rw[al (by omega),j6,aW,jf (by omega)];simp[ov]
 |n+1,i,acc,hi,ha=>by
  have aq:i<l.length:=by omega
  have bh:l.getD i ((0:Int),(0:Int))=l[i]:=by simp[List.getD,aq]
  have hs:=hb _ (jh aq);have ih:=Xg (s0:=s0) (m:=m) (f:=f) (t:=t) hl hb n (i+1) (acc++[l[i].1,l[i].2,l[i].1+604800,l[i].2+604800]) (by omega) (by simp;omega);rw[Tc,jc aq];simp only[j5d,ov];rw[aj (show (i:Int)<(l.length:Int) by omega),aX (by omega) (by omega)];simp only[j5,j7,bh];rw[ai (x:=l[i].1+604800) (by omega) (by omega),ai (x:=l[i].2+604800) (by omega) (by omega),aj (by simp[aR];omega),ai (x:=(i:Int)+1) (by omega) (by omega)];simp only[j5,aJ];rw[show ((i+1:Nat):Int)=(i:Int)+1 by omega]at ih;rw[ih];simp
end Go.Proofs.Pw
