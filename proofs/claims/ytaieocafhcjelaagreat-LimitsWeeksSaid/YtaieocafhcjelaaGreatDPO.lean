/- Ev.Clashes: the times in which two Bn have the same N7. -/
import Derived.Test.YtaieocafhcjelaaGreatDPL
import Derived.Test.YtaieocafhcjelaaGreatDPN
import Derived.Test.YtaieocafhcjelaaGreatDPK
import Derived.Test.YtaieocafhcjelaaGreatDPF
open Go Go.Lft
namespace Go.Proofs.Pw
theorem dO.edge{f:Int->Int}{b:Int}:∀{l:aX}{q:Option Int}{a:Int},dO f b q a l->(∀p,q=some p->f (a-1)=p)->∀s∈l,((q=none/\s.1=a)\/f (s.1-1)≠s.2.2)/\(s.2.1=b\/f s.2.1≠s.2.2)
 |[],_,_,_,_,s,hs=>by simp at hs
 |u::r,q,a,h,hq,s,hs=>by
  obtain⟨h1,h2,h3,h4,h5⟩:=h;rcases je.1 hs with rfl|hs
  .constructor
   .cases q with
    |none=>exact .inl ⟨rfl,h1⟩
    |some p=>exact .inr (by rw[h1,hq p rfl];exactλe=>h3 (by rw[e]))
   .match r,h5 with
    |[],h5=>exact .inl h5
    |v::w,h5=>obtain⟨g1,g2,g3,g4,_⟩:=h5;exact .inr (by rw[g4 _ (kg _) g2];exactλe=>g3 (by rw[e]))
  .have:=h5.edge (λp hp=>by
    simp only[j4]at hp;rw[<-hp];exact h4 _ (by omega) (by omega)) s hs
   exact⟨.inr (this.1.resolve_left (λh=>by simp at h)),this.2⟩
theorem Ch.nxt{f:Int->Int}{b:Int}:∀{l:aX}{a:Int},Ch f b a l->∀i,(h:i<l.length)->(∃h':i+1<l.length,l[i+1].1=l[i].2.1)\/(i+1=l.length/\l[i].2.1=b)
 |[],_,_,i,h=>by simp at h
 |[s],_,h,0,_=> .inr ⟨rfl,h.2.2.2⟩
 |s::u::r,_,h,0,_=> .inl ⟨by simp,h.2.2.2.1⟩
 |s::u::r,_,h,i+1,hi=>by
  rcases Ch.nxt h.2.2.2 i (by simpa using hi) with⟨h',e⟩|⟨h',e⟩
  .exact .inl ⟨by simpa using h',by simpa using e⟩
  .exact .inr ⟨by simpa using h',by simpa using e⟩
 |[s],_,_,i+1,hi=>by simp at hi
structure ClOk(f g:Int->Int)(a b i k:Int)(z:lT):Prop where
 i:z.2.1=i
 k:z.2.2.1=k
 p:0<=z.1
 lo:a<=z.2.2.2.1
 lt:z.2.2.2.1<z.2.2.2.2
 hi:z.2.2.2.2<=b
 mid:∀t,z.2.2.2.1<=t->t<z.2.2.2.2->f t=z.1/\g t=z.1
 lft:z.2.2.2.1=a\/¬(f (z.2.2.2.1-1)=z.1/\g (z.2.2.2.1-1)=z.1)
 rgt:z.2.2.2.2=b\/¬(f z.2.2.2.2=z.1/\g z.2.2.2.2=z.1)
structure rh(f g:Int->Int)(a b i k c:Int)(O:bL):Prop where
 ok:∀z∈O,ClOk f g a b i k z/\z.2.2.2.2<=c
 pw:O.Pairwise λx y=>x.2.2.2.1<y.2.2.2.1
 all:∀t,a<=t->t<c->f t=g t->0<=f t->∃z∈O,z.1=f t/\z.2.2.2.1<=t/\t<z.2.2.2.2
section
variable{f g:Int->Int}{a b:Int}{A B:aX}(hA:dO f b none a A)(hB:dO g b none a B)
include hA hB
theorem jzn{i k c d:Int}{x y:Nat}{acc:bL}(hx:x<A.length)(hy:y<B.length)(hc:c=max A[x].1 B[y].1)(hd:d=min A[x].2.1 B[y].2.1)(h1:A[x].1<=B[y].2.1)(h2:B[y].1<=A[x].2.1)(N8:a<=c)(hI:rh f g a b i k c acc) :
  (0<=A[x].2.2/\A[x].2.2=B[y].2.2/\c<d->rh f g a b i k d (acc++[(A[x].2.2,(i,(k,(c,d))))]))/\(¬(0<=A[x].2.2/\A[x].2.2=B[y].2.2/\c<d)->rh f g a b i k d acc)/\c<=d:=by
 have mA:=hA.ch.mem _ (jg hx);have mB:=hB.ch.mem _ (jg hy);have pA:=hA.pos _ (jg hx);have pB:=hB.pos _ (jg hy);have eA:=hA.edge (λp hp=>by simp at hp) _ (jg hx);have eB:=hB.edge (λp hp=>by simp at hp) _ (jg hy);have WI:c<=d:=by omega
 refine⟨λ⟨q1,q2,q3⟩=>⟨λz hz=>?_,?_,λt t1 t2 t3 t4=>?_⟩,λhn=>⟨λz hz=>?_,hI.pw,λt t1 t2 t3 t4=>?_⟩,WI⟩
 .rcases jn.1 hz with hz|hz
  .have:=hI.ok z hz;exact⟨this.1,by omega⟩
  .simp only[ke]at hz;subst hz;refine⟨⟨rfl,rfl,q1,N8,q3,by dsimp only;omega,λt t1 t2=>?_,?_,?_⟩,kg _⟩
   .dsimp only at t1 t2 ⊢
    exact⟨mA.2.2.2 t (by omega) (by omega),by rw[q2];exact mB.2.2.2 t (by omega) (by omega)⟩
   .dsimp only
    by_cases Nr:c=a
    .exact .inl Nr
    .right
     rintro⟨r1,r2⟩
     by_cases hcA:c=A[x].1
     .rcases eA.1 with⟨_,e⟩|e
      .omega
      .exact e (by rw[<-hcA];exact r1)
     .have hcB:c=B[y].1:=by omega
      rcases eB.1 with⟨_,e⟩|e
      .omega
      .exact e (by rw[<-hcB,<-q2];exact r2)
   .dsimp only
    by_cases hdb:d=b
    .exact .inl hdb
    .right
     rintro⟨r1,r2⟩
     by_cases hdA:d=A[x].2.1
     .rcases eA.2 with e|e
      .omega
      .exact e (by rw[<-hdA];exact r1)
     .have hdB:d=B[y].2.1:=by omega
      rcases eB.2 with e|e
      .omega
      .exact e (by rw[<-hdB,<-q2];exact r2)
 .refine ql.2 ⟨hI.pw,ze _ _,λz hz w hw=>?_⟩;simp only[ke]at hw;subst hw;have:=hI.ok z hz;have:=this.1.lt;dsimp only;omega
 .by_cases N9:t<c
  .obtain⟨z,hz,h⟩:=hI.all t t1 N9 t3 t4;exact⟨z,ka _ hz,h⟩
  .refine⟨_,kq _ (ke.2 rfl),?_,by dsimp only;omega,by dsimp only;omega⟩;exact(mA.2.2.2 t (by omega) (by omega)).symm
 .have:=hI.ok z hz;exact⟨this.1,by omega⟩
 .by_cases N9:t<c
  .exact hI.all t t1 N9 t3 t4
  .exfalso;have e1:=mA.2.2.2 t (by omega) (by omega);have e2:=mB.2.2.2 t (by omega) (by omega);exact hn ⟨by rw[<-e1];exact t4,by rw[<-e1,t3,e2],by omega⟩
theorem jBk{i k:Int}(hlA:A.length<=500000)(hlB:B.length<=500000):∀(n x y:Nat)(c:Int)(acc:bL),(A.length-x)+(B.length-y)<=n->x<=A.length->y<=B.length->
  (∀(hx:x<A.length)(hy:y<B.length),c=max A[x].1 B[y].1/\A[x].1<=B[y].2.1/\B[y].1<=A[x].2.1)->((x=A.length\/y=B.length)->c=b)->a<=c->rh f g a b i k c acc->acc.length+n<=1000000->
  ∃out,tB A B i k (x:Int) (y:Int) acc=some out/\rh f g a b i k b out/\out.length<=acc.length+n:=by
 intro n;induction n with
 |zero=>intro x y c acc hn hx hy _ h2 _ hI hl;rw[Sz];simp only[j44,show Int.ofNat A.length=(A.length:Int) from rfl,show Int.ofNat B.length=(B.length:Int) from rfl];rw[ak (show¬(x:Int)<(A.length:Int) by omega)];simp only[j6,aW];have:=h2 (by omega);subst this;exact⟨acc,rfl,hI,by omega⟩
 |succ n ih=>
  intro x y c acc hn hx hy h1 h2 N8 hI hl;rw[Sz];simp only[j44,show Int.ofNat A.length=(A.length:Int) from rfl,show Int.ofNat B.length=(B.length:Int) from rfl];by_cases Bo:x<A.length
  .rw[aj (show (x:Int)<(A.length:Int) by omega)];by_cases uI:y<B.length
   .obtain⟨c1,c2,c3⟩:=h1 Bo uI;have ga:A.getD x ((0:Int),((0:Int),(0:Int)))=A[x]:=by simp[List.getD,Bo]
    have gb:B.getD y ((0:Int),((0:Int),(0:Int)))=B[y]:=by simp[List.getD,uI]
    have pA:=hA.pos _ (jg Bo);have pB:=hB.pos _ (jg uI);rw[aj (show (y:Int)<(B.length:Int) by omega),aU (show (0:Int)<=(x:Int) by omega) (by omega),aU (show (0:Int)<=(y:Int) by omega) (by omega)];simp only[j5,Bool.true_or,j7,ga,gb];obtain⟨d,hd⟩:∃d,d=min A[x].2.1 B[y].2.1:=⟨_,rfl⟩;have e1:(if B[y].1>A[x].1 then B[y].1 else A[x].1)=c:=by split<;>omega
    have e2:(if B[y].2.1<A[x].2.1 then B[y].2.1 else A[x].2.1)=d:=by split<;>omega
    rw[e1,e2];obtain⟨s1,s2,WI⟩:=jzn hA hB (i:=i) (k:=k) Bo uI c1 hd c2 c3 N8 hI
    have WJ:∀ba:bL,A[x].2.1<B[y].2.1->rh f g a b i k d ba->ba.length<=acc.length+1->∃out,tB A B i k ((x:Int)+1) (y:Int) ba=some out/\rh f g a b i k b out/\out.length<=acc.length+(n+1):=λba an rK jX=>by
     have:=ih (x+1) y d ba (by omega) (by omega) hy (λgJ sj=>by
      rcases hA.ch.nxt x Bo with⟨h',e⟩|⟨e,_⟩
      .have pA':=hA.pos _ (jg gJ);exact⟨by omega,by omega,by omega⟩
      .omega) (λh=>by
      rcases hA.ch.nxt x Bo with⟨h',e⟩|⟨_,e⟩
      .omega
      .omega) (by omega) rK (by omega)
     obtain⟨out,r1,r2,r3⟩:=this;exact⟨out,r1,r2,by omega⟩
    have WK:∀ba:bL,¬A[x].2.1<B[y].2.1->rh f g a b i k d ba->ba.length<=acc.length+1->∃out,tB A B i k (x:Int) ((y:Int)+1) ba=some out/\rh f g a b i k b out/\out.length<=acc.length+(n+1):=λba an rK jX=>by
     have:=ih x (y+1) d ba (by omega) hx (by omega) (λgJ sj=>by
      rcases hB.ch.nxt y uI with⟨h',e⟩|⟨e,_⟩
      .have pB':=hB.pos _ (jg sj);exact⟨by omega,by omega,by omega⟩
      .omega) (λh=>by
      rcases hB.ch.nxt y uI with⟨h',e⟩|⟨_,e⟩
      .omega
      .omega) (by omega) rK (by omega)
     obtain⟨out,r1,r2,r3⟩:=this;exact⟨out,r1,r2,by omega⟩
    rw[ah (x:=(x:Int)+1) (by omega) (by omega),ah (x:=(y:Int)+1) (by omega) (by omega)]
    have dH:cond (cond (decide (A[x].2.2>=0)) (A[x].2.2==B[y].2.2) false) (decide (c<d)) false=decide (0<=A[x].2.2/\A[x].2.2=B[y].2.2/\c<d):=by
     rw[Bool.eq_iff_iff,decide_eq_true_iff];by_cases r1:0<=A[x].2.2
     .rw[aj (show A[x].2.2>=0 from r1),j5];by_cases r2:A[x].2.2=B[y].2.2
      .rw[dT r2,j5];simp only[decide_eq_true_iff];exact⟨λh=>⟨r1,r2,h⟩,λh=>h.2.2⟩
      .rw[cJ r2,j6];simp only[km,false_iff]
       exactλh=>r2 h.2.1
     .rw[ak (show¬A[x].2.2>=0 from r1)];simp only[j6,km,false_iff]
      exactλh=>r1 h.1
    rw[dH];by_cases he:0<=A[x].2.2/\A[x].2.2=B[y].2.2/\c<d
    .rw[aj he,j5,aj (show acc.length+[_].length<=aS by simp[aS];omega),j5];by_cases an:A[x].2.1<B[y].2.1
     .rw[aj an,j5,aF];exact WJ _ an (s1 he) (by simp)
     .rw[ak an,j6,aF];exact WK _ an (s1 he) (by simp)
    .rw[ak he,j6];by_cases an:A[x].2.1<B[y].2.1
     .rw[aj an,j5,aF];exact WJ acc an (s2 he) (by omega)
     .rw[ak an,j6,aF];exact WK acc an (s2 he) (by omega)
   .rw[ak (show¬(y:Int)<(B.length:Int) by omega)];simp only[j5,j6,aW];have:=h2 (by omega);subst this;exact⟨acc,rfl,hI,by omega⟩
  .rw[ak (show¬(x:Int)<(A.length:Int) by omega)];simp only[j6,aW];have:=h2 (by omega);subst this;exact⟨acc,rfl,hI,by omega⟩
theorem jw0{i k:Int}(bz:a<b)(hl:A.length+B.length<=500000):∃out,j5M A B i k=some out/\rh f g a b i k b out/\out.length<=A.length+B.length:=by
 have nA:=q8.2 (hA.ne bz);have nB:=q8.2 (hB.ne bz)
 have fA:A[0].1=a:=by
  match A,hA,nA with
  |s::r,hA,_=>exact hA.1
 have fB:B[0].1=a:=by
  match B,hB,nB with
  |s::r,hB,_=>exact hB.1
 have pA:=hA.pos _ (jg nA);have pB:=hB.pos _ (jg nB);obtain⟨out,e,h1,h2⟩:=jBk hA hB (i:=i) (k:=k) (by omega) (by omega) (A.length+B.length) 0 0 a [] (by omega) (by omega) (by omega) (λ_ _=>⟨by omega,by omega,by omega⟩) (λh=>by omega) (kg _) ⟨by simp,List.Pairwise.nil,λt h1 h2=>by omega⟩ (by simp;omega);refine⟨out,?_,h1,by simpa using h2⟩;simp only[j5M];rw[show tB A B i k 0 0 []=_ from e];rfl
end
def WM(x y:lT):Prop:=x.2.1<y.2.1\/x.2.1=y.2.1/\x.2.2.1<y.2.2.1
structure o5(F:Nat->Int->Int)(m:Nat)(a b:Int)(i k:Nat)(L:bL):Prop where
 ok:∀z∈L,∃i' k':Nat,i'<k'/\k'<m/\(i'<i\/i'=i/\k'<k)/\ClOk (F i') (F k') a b i' k' z
 pw:L.Pairwise λx y=>x.2.2.2.1=y.2.2.2.1->WM x y
 all:∀i' k':Nat,i'<k'->k'<m->(i'<i\/i'=i/\k'<k)->∀t,a<=t->t<b->F i' t=F k' t->0<=F i' t->∃z∈L,z.2.1=i'/\z.2.2.1=k'/\z.1=F i' t/\z.2.2.2.1<=t/\t<z.2.2.2.2
theorem o5.add{F:Nat->Int->Int}{m:Nat}{a b:Int}{i k:Nat}{L O:bL}(h:o5 F m a b i k L)(iD:i<k)(nN:k<m)(hO:rh (F i) (F k) a b i k b O):o5 F m a b i (k+1) (L++O):=by
 refine⟨λz hz=>?_,?_,λi' k' h1 h2 h3 t t1 t2 t3 t4=>?_⟩
 .rcases jn.1 hz with hz|hz
  .obtain⟨i',k',g1,g2,g3,g4⟩:=h.ok z hz;exact⟨i',k',g1,g2,by omega,g4⟩
  .exact⟨i,k,iD,nN,by omega,(hO.ok z hz).1⟩
 .refine ql.2 ⟨h.pw,hO.pw.imp (λh e=>absurd h (by omega)),λx hx y hy _=>?_⟩;obtain⟨i',k',g1,g2,g3,g4⟩:=h.ok x hx;have q:=(hO.ok y hy).1;unfold WM;rw[g4.i,g4.k,q.i,q.k];omega
 .by_cases hn:i'=i/\k'=k
  .obtain⟨rfl,rfl⟩:=hn;obtain⟨z,hz,g⟩:=hO.all t t1 t2 t3 t4;have q:=(hO.ok z hz).1;exact⟨z,kq _ hz,q.i,q.k,g⟩
  .obtain⟨z,hz,g⟩:=h.all i' k' h1 h2 (by omega) t t1 t2 t3 t4;exact⟨z,ka _ hz,g⟩
theorem o5.next{F:Nat->Int->Int}{m:Nat}{a b:Int}{i k:Nat}{L:bL}(h:o5 F m a b i k L)(hk:m<=k):o5 F m a b (i+1) (i+2) L:=by
 refine⟨λz hz=>?_,h.pw,λi' k' h1 h2 h3=>h.all i' k' h1 h2 (by omega)⟩;obtain⟨i',k',g1,g2,g3,g4⟩:=h.ok z hz;exact⟨i',k',g1,g2,by omega,g4⟩
section
variable{F:Nat->Int->Int}{a b:Int}(bz:a<b){Ss:List aX}(G9:Ss.length<=1000)(hS:∀j (h:j<Ss.length),dO (F j) b none a Ss[j]/\Ss[j].length<=2500)
include bz G9 hS
theorem WN{i:Nat}:∀(n k:Nat)(L:bL),k+n=Ss.length->i<k->o5 F Ss.length a b i k L->L.length+5000*n<=1000000->
  ∃L',yj (i:Int) (k:Int) (Ss.length:Int) (i:Int) Ss L=some ((Ss.length:Int),(i:Int),Ss,L')/\o5 F Ss.length a b i Ss.length L'/\L'.length<=L.length+5000*n
 |0,k,L,hk,_,hI,_=>by
  rw[SK];simp only[j1M,show Int.ofNat Ss.length=(Ss.length:Int) from rfl];rw[ak (by omega),j6,aW];obtain rfl:k=Ss.length:=by omega
  exact⟨L,rfl,hI,by omega⟩
 |n+1,k,L,hk,iD,hI,hl=>by
  have bg:k<Ss.length:=by omega
  have bF:i<Ss.length:=by omega
  have gi:Ss.getD i ([]:aX)=Ss[i]:=by simp[List.getD,bF]
  have gk:Ss.getD k ([]:aX)=Ss[k]:=by simp[List.getD,bg]
  have si:=hS i bF;have sk:=hS k bg;obtain⟨O,e,hO,lO⟩:=jw0 si.1 sk.1 (i:=(i:Int)) (k:=(k:Int)) bz (by omega);obtain⟨L',e',rK,l'⟩:=WN (i:=i) n (k+1) (L++O) (by omega) (by omega) (hI.add iD bg hO) (by rw[ja];omega);rw[SK];simp only[j1M,show Int.ofNat Ss.length=(Ss.length:Int) from rfl];rw[aj (show (k:Int)<(Ss.length:Int) by omega),aU (show (0:Int)<=(i:Int) by omega) (by omega),aU (show (0:Int)<=(k:Int) by omega) (by omega)];simp only[j5,j7,gi,gk,e,j3];rw[aj (show L.length+O.length<=aS by simp[aS];omega),j5,ah (x:=(k:Int)+1) (by omega) (by omega),aF];exact⟨L',e',rK,by rw[ja]at l';omega⟩
def tS:Nat->Nat
 |0=>0
 |n+1=>tS n+n
theorem WO:∀(n i:Nat)(L:bL),i+n=Ss.length->o5 F Ss.length a b i (i+1) L->L.length+5000*tS n<=900000->
  ∃L',yk (Ss.length:Int) (i:Int) Ss L=some L'/\o5 F Ss.length a b Ss.length (Ss.length+1) L'/\L'.length<=L.length+5000*tS n
 |0,i,L,hi,hI,_=>by
  rw[SM];simp only[j1N];rw[ak (by omega),j6,aW];obtain rfl:i=Ss.length:=by omega
  exact⟨L,rfl,hI,by omega⟩
 |n+1,i,L,hi,hI,hl=>by
  simp only[tS]at hl;obtain⟨L1,e1,h1,l1⟩:=WN bz G9 hS (i:=i) n (i+1) L (by omega) (by omega) hI (by omega);obtain⟨L2,e2,h2,l2⟩:=WO n (i+1) L1 (by omega) (h1.next (jj _)) (by omega);rw[SM];simp only[j1N];rw[aj (show (i:Int)<(Ss.length:Int) by omega),ah (x:=(i:Int)+1) (by omega) (by omega),j5,show yj (i:Int) ((i:Int)+1) (Ss.length:Int) (i:Int) Ss L=_ from e1];simp only[j3];rw[ah (x:=(i:Int)+1) (by omega) (by omega),aF];exact⟨L2,e2,h2,by simp only[tS];omega⟩
end
section
variable{zs:List cg}{ps:List dP}{cs:List bk}(hs:fe zs ps cs)
include hs
theorem WQ{s:cM}(hk:nY zs.length ps.length cs.length s)(gZ:s.2.1.length<=3)(gI:s.2.2.length<=6){ss:List cM}{a b:Int}(ha:0<=a)(bz:a<b)(hb:b<=8589934592)(hlen:b-a<=1209600) :
  ∃out,j35 ((zs,(ps,(cs,ss))),zs.map tb) s a b=some out/\dO (gy zs cs s) b none a out/\out.length<=2500:=by
 obtain⟨S,e,h,_⟩:=jzh hs hk gZ gI (ss:=ss) ha bz hb (by omega);obtain⟨E,e1,e2⟩:=jvV hs hk ha (vm bz) hb (M:=2) (K:=807) (by omega) (by omega) rfl;have:=V5 h e2;exact⟨S,e,h,by omega⟩
theorem WR{ss:List cM}(kR:∀s∈ss,nY zs.length ps.length cs.length s/\s.2.1.length<=3/\s.2.2.length<=6)(hl:ss.length<=100){rr:List cM}{a b:Int}(ha:0<=a)(bz:a<b)(hb:b<=8589934592)(hlen:b-a<=1209600):∀(n i:Nat)(acc:List aX),i+n=ss.length->acc.length=i->
  (∀j (h:j<acc.length) (h':j<ss.length),dO (gy zs cs ss[j]) b none a acc[j]/\acc[j].length<=2500)->
  ∃Ss,yi a b ss (ss.length:Int) (i:Int) zs ps cs rr (zs.map tb) acc=some (.inr Ss)/\Ss.length=ss.length/\∀j (h:j<Ss.length) (h':j<ss.length),dO (gy zs cs ss[j]) b none a Ss[j]/\Ss[j].length<=2500
 |0,i,acc,hi,Hj,hg=>by
  rw[SJ];simp only[j1L];rw[ak (by omega),j6,aW];exact⟨acc,rfl,by omega,hg⟩
 |n+1,i,acc,hi,Hj,hg=>by
  have bF:i<ss.length:=by omega
  have bf:ss.getD i (ByteArray.empty,(([]:List cb),([]:List eJ)))=ss[i]:=by simp[List.getD,bF]
  obtain⟨k1,k2,k3⟩:=kR _ (jg bF);obtain⟨S,e,hS,lS⟩:=WQ hs k1 k2 k3 (ss:=rr) ha bz hb hlen
  obtain⟨Ss,e2,h2,h3⟩:=WR kR hl (rr:=rr) ha bz hb hlen n (i+1) (acc++[S]) (by omega) (by simp;omega) (λj h h'=>by
   simp only[ja,ku]at h;by_cases hj:j<acc.length
   .rw[List.getElem_append_left hj];exact hg j hj h'
   .have:j=i:=by omega
    subst this;rw[List.getElem_append_right (by omega)];simp only[Hj,Nat.sub_self,List.getElem_cons_zero];exact⟨hS,lS⟩)
  rw[SJ];simp only[j1L];rw[aj (show (i:Int)<(ss.length:Int) by omega),aU (show (0:Int)<=(i:Int) by omega) (by omega)];simp only[j5,j7,bf];rw[show j35 ((zs,(ps,(cs,rr))),zs.map tb) (ss[i].1,(ss[i].2.1,ss[i].2.2)) a b=_ from e];simp only[j3,show Int.ofNat S.length=(S.length:Int) from rfl];rw[ak (show¬(S.length:Int)>16384 by omega),j6,aj (show acc.length+[_].length<=aS by simp[aS];omega),j5,ah (x:=(i:Int)+1) (by omega) (by omega),aF];exact⟨Ss,e2,h2,h3⟩
theorem jtK{ss:List cM}(hc:tK (zs,(ps,(cs,ss))))(kR:∀s∈ss,s.2.1.length<=3/\s.2.2.length<=6)(hl:ss.length<=3){a b:Int}(ha:0<=a)(bz:a<b)(hb:b<=8589934592)(hlen:b-a<=1209600) :
  ∃L,j39 (zs,(ps,(cs,ss))) a b=some (bK ai L,0)/\o5 (λj=>gy zs cs (ss.getD j (ByteArray.empty,([],[])))) ss.length a b ss.length (ss.length+1) L/\(L.length<=15000/\L.length<=5000*tS ss.length):=by
 obtain⟨Ss,e1,h1,h2⟩:=WR hs (ss:=ss) (λs h=>⟨hc.sc s h,kR s h⟩) (by omega) (rr:=ss) ha bz hb hlen ss.length 0 [] (by omega) rfl (λj h=>by simp at h)
 have hS:∀j (h:j<Ss.length),dO ((λj=>gy zs cs (ss.getD j (ByteArray.empty,([],[])))) j) b none a Ss[j]/\Ss[j].length<=2500:=λj h=>by
  have hj:j<ss.length:=by omega
  have bf:ss.getD j (ByteArray.empty,(([]:List cb),([]:List eJ)))=ss[j]:=by simp[List.getD,hj]
  dsimp only
  rw[bf];exact h2 j h hj
 have Ew:tS Ss.length<=3:=by
  have:Ss.length=0\/Ss.length=1\/Ss.length=2\/Ss.length=3:=by omega
  rcases this with h|h|h|h<;>rw[h]<;>decide
 obtain⟨L,e3,h3,l3⟩:=WO bz (by omega) hS Ss.length 0 [] (by omega) ⟨by simp,List.Pairwise.nil,λi' k' h1 h2 h3=>by omega⟩ (by simp;omega);rw[h1]at h3;have l3':L.length<=15000/\L.length<=5000*tS ss.length:=by rw[h1]at l3 Ew;simp at l3;omega
 have gY:iw L:=λz hz=>by
  obtain⟨i',k',g1,g2,g3,g4⟩:=h3.ok z hz;have:=g4.lo;have:=g4.lt;have:=g4.hi;unfold ai;omega
 have e4:=jtJ gY (by omega);refine⟨L,?_,h3,l3'⟩;simp only[j39,Vn hs.so.ok hc,j3,jr,j6,jeD];rw[ah (x:=b-a) (by omega) (by omega),aj (show a>=0 by omega),aj (show a<=8589934592 by omega),aj (show b>=a by omega),aj (show b<=8589934592 by omega),aj (show b-a<=34560000 by omega)];simp only[j5,jr,j6,show Int.ofNat ss.length=(ss.length:Int) from rfl];rw[show yi a b ss (ss.length:Int) 0 zs ps cs ss (zs.map tb) []=_ from e1];simp only[j3,qA,show Int.ofNat Ss.length=(Ss.length:Int) from rfl];rw[show yk (Ss.length:Int) 0 Ss []=_ from e3];simp only[j3,show Int.ofNat L.length=(L.length:Int) from rfl];rw[ak (show¬(L.length:Int)>16384 by omega),j6];rw[show j0o L=_ from e4];rfl
end
def o8(t:Int)(s:Int×Int):Int:=max 0 (min s.2 t-max s.1 (t-604800))
def cZ(t:Int):SL->Int
 |[]=>0
 |s::r=>o8 t s+cZ t r
def ind(t:Int)(s:Int×Int):Int:=if s.1<=t/\t<s.2 then 1 else 0
def gp(t:Int):SL->Int
 |[]=>0
 |s::r=>ind t s+gp t r
theorem jxj{t:Int}{s:Int×Int}(h:s.1<s.2):o8 (t+1) s=o8 t s+ind t s-ind (t-604800) s:=by
 unfold o8 ind;split<;>split<;>omega
theorem WS{t:Int}{s:Int×Int}:0<=o8 t s:=by unfold o8;omega
theorem Hk{t:Int}:∀{l:SL},0<=cZ t l
 |[]=>by simp[cZ]
 |s::r=>by
  have:=Hk (t:=t) (l:=r);have:=WS (t:=t) (s:=s);simp only[cZ];omega
theorem WT{t:Int}:∀{l:SL}{p:Int},bB p l->cZ (t+1) l=cZ t l+gp t l-gp (t-604800) l
 |[],_,_=>by simp[cZ,gp]
 |s::r,p,h=>by
  have ih:=WT (t:=t) (l:=r) h.2.2;have:=jxj (t:=t) h.2.1;simp only[cZ,gp];omega
theorem WU{t:Int}:∀{l:SL}{p:Int},bB p l->t<=p->gp t l=0
 |[],_,_,_=>by simp[gp]
 |s::r,p,h,ht=>by
  have h1:=h.1;have h2:=h.2.1;have ih:=WU (t:=t) (l:=r) h.2.2 (by omega);simp only[gp,ind];rw[ih,if_neg (by omega)];rfl
theorem Oa{t:Int}:∀{l:SL}{p:Int},bB p l->0<=gp t l/\gp t l<=1
 |[],_,_=>by simp[gp]
 |s::r,p,h=>by
  have ih:=Oa (t:=t) (l:=r) h.2.2;simp only[gp,ind];split
  .rename_i hq;rw[WU (t:=t) (l:=r) h.2.2 (by omega)];omega
  .omega
theorem Ob{a t:Int}(mo:a<=t):∀{l:SL},(∀s∈l,¬(a<s.1/\s.1<=t)/\¬(a<s.2/\s.2<=t))->gp t l=gp a l
 |[],_=>by simp[gp]
 |s::r,h=>by
  have ih:=Ob mo (l:=r) (λu hu=>h u (by simp[hu]));have:=h s (by simp);simp only[gp,ind];rw[ih];congr 1;by_cases h1:s.1<=a/\a<s.2
  .rw[if_pos h1,if_pos (by omega)]
  .rw[if_neg h1,if_neg (by omega)]
theorem WV{t:Int}:∀{l:SL}{p:Int},bB p l->t<=p+1->cZ t l=0
 |[],_,_,_=>by simp[cZ]
 |s::r,p,h,ht=>by
  have h1:=h.1;have h2:=h.2.1;have ih:=WV (t:=t) (l:=r) h.2.2 (by omega);simp only[cZ,o8];omega
theorem Ey{t:Int}:∀{l:SL}{p:Int},bB p l->cZ t l<=max 0 (t-max (p+1) (t-604800))
 |[],_,_=>by simp only[cZ];omega
 |s::r,p,h=>by
  have h1:=h.1;have h2:=h.2.1;have ih:=Ey (t:=t) (l:=r) h.2.2;simp only[cZ,o8];omega
def Oc(l:SL)(a b:Int):Prop:=∀s∈l,(¬(a<s.1/\s.1<b)/\¬(a<s.2/\s.2<b))/\¬(a<s.1+604800/\s.1+604800<b)/\¬(a<s.2+604800/\s.2+604800<b)
theorem WW{l:SL}{p:Int}(h:bB p l){a b:Int}(hB:Oc l a b):∀j:Nat,a+j<=b->cZ (a+j) l=cZ a l+j*(gp a l-gp (a-604800) l)
 |0,_=>by simp
 |j+1,hj=>by
  have ih:=WW h hB j (by omega);have e1:=Ob (a:=a) (t:=a+j) (by omega) (l:=l) (λs hs=>by have:=(hB s hs).1;omega);have e2:=Ob (a:=a-604800) (t:=a+j-604800) (by omega) (l:=l) (λs hs=>by have:=(hB s hs).2;omega);have:=WT (t:=a+j) h;rw[show a+((j+1:Nat):Int)=a+(j:Int)+1 by omega,this,ih,e1,e2,show ((j+1:Nat):Int)=(j:Int)+1 by omega,Int.add_mul,Int.one_mul];omega
theorem jzo{l:SL}{p:Int}(h:bB p l){a b:Int}(bz:a<=b)(hB:Oc l a b) :
  (∀t,a<=t->t<=b->cZ t l=cZ a l+(t-a))\/(∀t,a<=t->t<=b->cZ t l=cZ a l)\/(∀t,a<=t->t<=b->cZ t l=cZ a l-(t-a)):=by
 have c1:=Oa (t:=a) h;have c2:=Oa (t:=a-604800) h
 have key:∀t,a<=t->t<=b->cZ t l=cZ a l+(t-a)*(gp a l-gp (a-604800) l):=λt h1 h2=>by
  have:=WW h hB (t-a).toNat (by omega);rw[show a+((t-a).toNat:Int)=t by omega,show ((t-a).toNat:Int)=t-a by omega]at this;exact this
 have hd:gp a l-gp (a-604800) l=1\/gp a l-gp (a-604800) l=0\/gp a l-gp (a-604800) l = -1:=by omega
 rcases hd with hd|hd|hd
 .refine .inl λt h1 h2=>?_;rw[key t h1 h2,hd,Int.mul_one]
 .refine .inr (.inl λt h1 h2=>?_);rw[key t h1 h2,hd];simp
 .refine .inr (.inr λt h1 h2=>?_);rw[key t h1 h2,hd];omega
theorem WX{l:SL}(hl:l.length<=1000000){t:Int}(Od : -1000000000000<=t)(GU:t<=1000000000000)(hb:Sml l):∀(n i:Nat)(acc:Int),i+n=l.length->0<=acc->acc+cZ t (l.drop i)<=604800->
  AN t acc l (l.length:Int) (i:Int)=some (acc+cZ t (l.drop i))
 |0,i,acc,hi,_,_=>by
  rw[SN];simp only[j4L];rw[ak (by omega),j6,aW,jf (by omega)];simp[cZ]
 |n+1,i,acc,hi,h0,hle=>by
  have an:i<l.length:=by omega
  have bf:l.getD i ((0:Int),(0:Int))=l[i]:=by simp[List.getD,an]
  rw[jc an]at hle ⊢;have hs:=hb _ (jg an);have hw:=WS (t:=t) (s:=l[i]);have hr:=Hk (t:=t) (l:=l.drop (i+1));simp only[cZ]at hle ⊢;have ih:=WX hl Od GU hb n (i+1) (acc+o8 t l[i]) (by omega) (by omega) (by omega);rw[SN];simp only[j4L];rw[aj (show (i:Int)<(l.length:Int) by omega),aU (by omega) (by omega)];simp only[j5,j7,bf]
  have e:(if w64 ((if t<l[i].2 then t else l[i].2)-(if w64 (t-604800)>l[i].1 then w64 (t-604800) else l[i].1))>0 then w64 ((if t<l[i].2 then t else l[i].2)-(if w64 (t-604800)>l[i].1 then w64 (t-604800) else l[i].1)) else 0:Int)=o8 t l[i]:=by
   rw[ah (x:=t-604800) (by omega) (by omega)];have e1:(if t<l[i].2 then t else l[i].2:Int)=min l[i].2 t:=by split<;>omega
   have e2:(if t-604800>l[i].1 then t-604800 else l[i].1:Int)=max l[i].1 (t-604800):=by split<;>omega
   rw[e1,e2,ah (by omega) (by omega)];unfold o8;split<;>omega
  rw[e,ah (x:=acc+o8 t l[i]) (by omega) (by omega),ah (x:=(i:Int)+1) (by omega) (by omega),aF];rw[show ((i+1:Nat):Int)=(i:Int)+1 by omega]at ih;rw[ih];congr 1;omega
theorem Oe{l:SL}(hl:l.length<=1000000){t:Int}(Od : -1000000000000<=t)(GU:t<=1000000000000)(hb:Sml l){p:Int}(h:bB p l):j5l l t=some (cZ t l):=by
 have hle:=Ey (t:=t) h;have:=WX hl Od GU hb l.length 0 0 (by omega) (by omega) (by simp only[jw];omega);simp only[j5l,show Int.ofNat (List.length l)=(l.length:Int) from rfl];rw[show ((0:Nat):Int)=0 from rfl,jw,Int.zero_add]at this;rw[this];rfl
def oo:SL->List Int
 |[]=>[]
 |s::r=>s.1::s.2::(s.1+604800)::(s.2+604800)::oo r
theorem WY:∀l:SL,(oo l).length=4*l.length
 |[]=>rfl
 |s::r=>by simp only[oo,jl,WY r];omega
theorem WZ{x:Int}:∀{l:SL},x∈oo l↔∃s∈l,x=s.1\/x=s.2\/x=s.1+604800\/x=s.2+604800
 |[]=>by simp[oo]
 |s::r=>by
  simp only[oo,je,WZ (l:=r),exists_eq_or_imp];constructor
  .rintro (h|h|h|h|h)
   .exact .inl (.inl h)
   .exact .inl (.inr (.inl h))
   .exact .inl (.inr (.inr (.inl h)))
   .exact .inl (.inr (.inr (.inr h)))
   .exact .inr h
  .rintro ((h|h|h|h)|h)
   .exact .inl h
   .exact .inr (.inl h)
   .exact .inr (.inr (.inl h))
   .exact .inr (.inr (.inr (.inl h)))
   .exact .inr (.inr (.inr (.inr h)))
theorem W0{s0:SL}{m f t:Int}{l:SL}(hl:l.length<=1000000)(hb:Sml l):∀(n i:Nat)(acc:List Int),i+n=l.length->acc.length<=4*i->
  yl s0 m f t l (l.length:Int) (i:Int) acc=some (s0,m,f,t,acc++oo (l.drop i))
 |0,i,acc,hi,_=>by
  rw[SO];simp only[j5d];rw[ak (by omega),j6,aW,jf (by omega)];simp[oo]
 |n+1,i,acc,hi,ha=>by
  have an:i<l.length:=by omega
  have bf:l.getD i ((0:Int),(0:Int))=l[i]:=by simp[List.getD,an]
  have hs:=hb _ (jg an);have ih:=W0 (s0:=s0) (m:=m) (f:=f) (t:=t) hl hb n (i+1) (acc++[l[i].1,l[i].2,l[i].1+604800,l[i].2+604800]) (by omega) (by simp;omega);rw[SO,jc an];simp only[j5d,oo];rw[aj (show (i:Int)<(l.length:Int) by omega),aU (by omega) (by omega)];simp only[j5,j7,bf];rw[ah (x:=l[i].1+604800) (by omega) (by omega),ah (x:=l[i].2+604800) (by omega) (by omega),aj (by simp[aS];omega),ah (x:=(i:Int)+1) (by omega) (by omega)];simp only[j5,aF];rw[show ((i+1:Nat):Int)=(i:Int)+1 by omega]at ih;rw[ih];simp
end Go.Proofs.Pw
