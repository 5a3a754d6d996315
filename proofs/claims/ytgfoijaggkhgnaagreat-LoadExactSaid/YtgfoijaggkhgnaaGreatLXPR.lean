/- Loads, program and reference on any list: right, Sum, the H6 load of a BL, ś, Jain, UE. -/
import Derived.Test.YtgfoijaggkhgnaaGreatLXPN
import Derived.Test.YtgfoijaggkhgnaaGreatLXPQ
open _root_ renaming Int->d,List->o,Nat->B,Bool->Z
open Int renaming ofNat->m,zero_add->J,mul_pos->U
open Option renaming some->u
open Bool renaming false->z,true->I,and_true->S
open List renaming getD->A,drop->E,take_of_length_le->G,getElem_cons_zero->H,take->R,length->W,set->Y
open Go Go.Lft
set_option linter.unusedVariables false
namespace Go.Proofs.Pw
theorem jIp(s w:d):∃b:Z,(∀{α:Type}(X F:α),cond (decide (s<0)) F (cond (decide (s>8589934592)) F (cond (decide (w<s)) F (cond (decide (w>w64 (8*s))) F X)))=cond b X F)/\
  (b=I->0<=s/\s<=8589934592/\s<=w/\w<=8*s):=by
 by_cases h1:s<0
 .exact⟨z,λX F=>by rw[ah h1];rfl,ae⟩
 by_cases h2:s>8589934592
 .exact⟨z,λX F=>by rw[aj h1,ah h2];rfl,ae⟩
 by_cases h3:w<s
 .exact⟨z,λX F=>by rw[aj h1,aj h2,ah h3];rfl,ae⟩
 have e:w64 (8*s)=8*s:=al;by_cases h4:w>8*s
 .exact⟨z,λX F=>by rw[aj h1,aj h2,aj h3,e,ah h4];rfl,ae⟩
 .exact⟨I,λX F=>by rw[aj h1,aj h2,aj h3,e,aj h4];rfl,λ_=>⟨aa,aa,aa,aa⟩⟩
def rq(x:bB):Prop:=0<=x.1/\x.1<32/\0<=x.2.1/\x.2.1<=8589934592/\x.2.1<=x.2.2/\x.2.2<=8*x.2.1
theorem jHK{l:o bB}(hl:l.length<=1000){i:B}(hi:i<l.length) :
  ∃b:Z,j3D l l (l.length:d) (i:d)=u (cond b (.inl (l,l,(l.length:d),((i+1:B):d))) (.inr (.inl z)))/\
   j4m l (i:d)=u (cond b (.inl (l,((i+1:B):d))) (.inr (.inl z)))/\(b=I->rq l[i]/\∀j (hj:j+1=i),(l[j]'aa).1<l[i].1):=by
 have aR:l.getD i ((0:d),((0:d),(0:d)))=l[i]:=by simp[A,hi]
 have ew:w64 ((i:d)+1)=((i+1:B):d):=by rw[al (x:=(i:d)+1)];omega
 simp only[j3D,j4m,show m l.length=(l.length:d) from rfl];rw[ah (show (i:d)<(l.length:d) by omega),bY (show (0:d)<=(i:d) by omega) aa,ew];simp only[j6,j8,aR];by_cases h1:l[i].1<0
 .rw[ah h1];exact⟨z,rfl,rfl,ae⟩
 by_cases h2:l[i].1>=32
 .rw[aj h1,ah h2];exact⟨z,rfl,rfl,ae⟩
 rw[aj h1,aj h2];simp only[j7];obtain⟨b,e,hb⟩:=jIp l[i].2.1 l[i].2.2;have ec:∀{α:Type}(X F:α),cond b (u X) (u F)=u (cond b X F):=λX F=>by cases b<;>rfl
 have fa:b=I->rq l[i]:=λh=>⟨aa,aa,(hb h).1,(hb h).2.1,(hb h).2.2.1,(hb h).2.2.2⟩;by_cases xf:(i:d)>0
 .have mo:i-1<l.length:=aa;have BM:l.getD (i-1) ((0:d),((0:d),(0:d)))=l[i-1]:=by simp[A,mo]
  rw[ah xf,al (x:=(i:d)-1),bY (show (0:d)<=(i:d)-1 by omega) aa,show ((i:d)-1).toNat=i-1 by omega];simp only[j6,BM];by_cases h3:l[i].1<=l[i-1].1
  .rw[ah h3];exact⟨z,rfl,rfl,ae⟩
  rw[aj h3];simp only[j7];refine⟨b,(e _ _).trans (ec _ _),(e _ _).trans (ec _ _),λh=>⟨fa h,λj hj=>?_⟩⟩;have:j=i-1:=aa;subst this;omega
 .rw[aj xf];simp only[j7];exact⟨b,(e _ _).trans (ec _ _),(e _ _).trans (ec _ _),λh=>⟨fa h,λj hj=>aa⟩⟩
theorem UF{l:o bB}(hl:l.length<=1000):∀n i:B,i+n=l.length->∃q:Z ⊕ Unit,FA l l (l.length:d) (i:d)=u q/\GO l (i:d)=u q/\
  (q = .inl z\/q = .inr ()/\∀(j:B)(hj:j<l.length),i<=j->rq l[j]/\∀k (hk:k+1=j),(l[k]'aa).1<l[j].1):=by
 intro n;induction n with
 |zero=>
  intro i hi;refine⟨.inr (),?_,?_,.inr ⟨rfl,λj hj h=>aa⟩⟩
  .rw[Yr];simp only[j3D];rw[aj aa,j7,aS]
  .rw[_k];simp only[j4m,show m l.length=(l.length:d) from rfl];rw[aj aa,j7,aS]
 |succ n ih=>
  intro i hi;obtain⟨b,e1,e2,hb⟩:=jHK hl (show i<l.length by omega);rw[Yr,_k,e1,e2];cases b with
  |false=>exact⟨.inl z,rfl,rfl,.inl rfl⟩
  |true=>
   obtain⟨q,f1,f2,hq⟩:=ih (i+1) aa;refine⟨q,f1,f2,hq.imp id λh=>⟨h.1,λj hj dS=>?_⟩⟩;by_cases h0:j=i
   .subst h0;exact hb rfl
   .exact h.2 j hj aa
structure RL(l:o bB):Prop where
 len:l.length<=32
 mem:∀x∈l,rq x
 pw:l.Pairwise λx y=>x.1<y.1
theorem Dr{l:o bB}(hl:l.length<=1000):∃b,j75 l=u b/\j8Q l=u b/\(b=I->RL l):=by
 simp only[j75,j8Q,show m l.length=(l.length:d) from rfl];by_cases h:(l.length:d)>32
 .rw[ah h];exact⟨z,rfl,rfl,ae⟩
 rw[aj h];obtain⟨q,f1,f2,hq⟩:=UF hl l.length 0 aa;rw[show FA l l (l.length:d) 0=_ from f1,show GO l 0=_ from f2];rcases hq with rfl|⟨rfl,hq⟩
 .exact⟨z,rfl,rfl,ae⟩
 refine⟨I,rfl,rfl,λ_=>⟨aa,λx hx=>?_,?_⟩⟩
 .obtain⟨j,hj,rfl⟩:=List.mem_iff_getElem.1 hx;exact(hq j hj aa).1
 .have key:∀(j i:B)(hj:j<l.length)(hi:i<j),(l[i]'aa).1<l[j].1:=by
   intro j;induction j with
   |zero=>intro i hj hi;omega
   |succ j ih=>
    intro i hj hi;have h1:=(hq (j+1) hj aa).2 j rfl;by_cases h2:i=j
    .subst h2;exact h1
    .have:=ih i aa aa;omega
  exact q9.2 λi j hi hj dS=>key j i hj dS
theorem Ds{l:o bB}(hl:l.length<=1000000)(p:d):j2u l p=u (wgt p l):=by
 have lp:∀n i:B,i+n=l.length->((JG p l (l.length:d) (i:d)).bind λq0=>sumC q0 (λa=>u a) (λ_=>u (0:d)))=u (wgt p (l.drop i)):=by
  intro n;induction n with
  |zero=>intro i hi;rw[Ys];simp only[j3f];rw[aj aa,j7,aS,jc aa];rfl
  |succ n ih=>
   intro i hi;have an:i<l.length:=aa;have aR:l.getD i ((0:d),((0:d),(0:d)))=l[i]:=by simp[A,an]
   rw[Ys];simp only[j3f];rw[ah (show (i:d)<(l.length:d) by omega),bY (show (0:d)<=(i:d) by omega) aa,al (x:=(i:d)+1),jb an];simp only[j6,j8,aR,wgt];by_cases h:l[i].1=p
   .rw[show (l[i].1==p)=I from zi.2 h,j6,aS];simp[h,sumC]
   .rw[show (l[i].1==p)=z from zt.2 h,j7,aH];simp only[h,za];exact ih (i+1) aa
 simp only[j2u,show m l.length=(l.length:d) from rfl];exact lp l.length 0 aa
theorem RL.wgt{l:o bB}(h:RL l)(p:d):0<=wgt p l/\wgt p l<=68719476736:=by
 have:∀{l:o bB},(∀x∈l,rq x)->0<=Pw.wgt p l/\Pw.wgt p l<=68719476736:=by
  intro l;induction l with
  |nil=>intro _;simp[Pw.wgt]
  |cons x r ih=>intro h;obtain⟨h1,h2,h3,h4,h5,h6⟩:=h x ae;have:=ih λy hy=>h y (by simp[hy]);simp only[Pw.wgt];split<;>omega
 exact this h.mem
theorem tZ:∀{l:o bB},(∀x∈l,rq x)->0<=kM l/\kM l<=8589934592*(l.length:d)/\kM l<=h9 l/\h9 l<=8*kM l
 |[],_=>by simp[kM,h9]
 |x::r,h=>by
  obtain⟨h1,h2,h3,h4,h5,h6⟩:=h x ae;obtain⟨i1,i2,i3,i4⟩:=tZ (l:=r) (λy hy=>h y (by simp[hy]));simp only[kM,h9,jk];omega
theorem Ŝ(p:d):∀{l:o bB},(∀x∈l,rq x)->wgt p l<=h9 l
 |[],_=>by simp[wgt,h9]
 |x::r,h=>by
  obtain⟨h1,h2,h3,h4,h5,h6⟩:=h x ae;have:=Ŝ p (l:=r) (λy hy=>h y (by simp[hy]));have:=tZ (l:=r) (λy hy=>h y (by simp[hy]));simp only[wgt,h9];split<;>omega
theorem ŝ{l:o bB}(hl:l.length<=1000)(hr:j8Q l=u I)(h0:∀x∈l,rq x){b2 b3 b4:d}:∀(n i:B)(s1 s2:d),i+n=l.length->0<=s1->0<=s2->s1+kM (l.drop i)<=4000000000000->s2+h9 (l.drop i)<=4000000000000->
  C0 l (i:d) b2 b3 b4 (-1) s1 s2=u (b2,b3,b4, -1,s1+kM (l.drop i),s2+h9 (l.drop i))
 |0,i,s1,s2,hi,_,_,_,_=>by
  rw[PA,jc aa];simp only[j69,show m l.length=(l.length:d) from rfl];rw[aj aa,j7,aS];simp[kM,h9]
 |n+1,i,s1,s2,hi,p1,p2,q1,q2=>by
  have an:i<l.length:=aa;have aR:l.getD i ((0:d),((0:d),(0:d)))=l[i]:=by simp[A,an]
  obtain⟨_,_,x1,_,x2,_⟩:=h0 _ (jg an);have hn:=tZ (l:=l.drop (i+1)) (λx hx=>h0 x (z6 hx));rw[jb an]at q1 q2 ⊢;simp only[kM,h9]at q1 q2 ⊢;rw[PA];simp only[j69,show m l.length=(l.length:d) from rfl];rw[ah (show (i:d)<(l.length:d) by omega),hr,bD];simp only[j6,j4,j8,aR];rw[al (x:=(i:d)+1),al (x:=s1+l[i].2.1),al (x:=s2+l[i].2.2),aH];have:=ŝ hl hr h0 (b2:=b2) (b3:=b3) (b4:=b4) n (i+1) (s1+l[i].2.1) (s2+l[i].2.2) aa aa aa aa aa;rw[show s1+(l[i].2.1+kM (l.drop (i+1)))=s1+l[i].2.1+kM (l.drop (i+1)) by omega,show s2+(l[i].2.2+h9 (l.drop (i+1)))=s2+l[i].2.2+h9 (l.drop (i+1)) by omega];exact this
theorem Ş{l:o bB}(hl:l.length<=1000):∃s,jiB l=u s/\joe l=u s/\(j75 l=u I->s=(-1,(kM l,h9 l))):=by
 obtain⟨b,e1,e2,hb⟩:=Dr hl;simp only[jiB,joe,e1,j4,show m l.length=(l.length:d) from rfl];cases b with
 |false=>
  refine⟨_,rfl,?_,ae⟩;have:C0 l 0 0 0 0 (-1) 0 0=u (0,0,0, -1,0,0):=by rw[PA];simp only[j69,e2,j4,j7];cases decide ((0:d)<m l.length)<;>simp[aS]
  rw[this];rfl
 |true=>have hR:=hb rfl;have hu:=tZ hR.mem;have rK:=hR.len;have f1:=ŗ hl (λx hx=>⟨(hR.mem x hx).2.2.1,by have:=hR.mem x hx;unfold rq at this;omega⟩) (b2:=0) (b3:=0) (b4:=0) l.length 0 0 0 aa aa aa (by rw[jm];omega) (by rw[jm];omega);have f2:=ŝ hl e2 hR.mem (b2:=0) (b3:=0) (b4:=0) l.length 0 0 0 aa aa aa (by rw[jm];omega) (by rw[jm];omega);rw[jm]at f1 f2;rw[show FB l (l.length:d) 0 0 0 0 (-1) 0 0=_ from f1,show C0 l 0 0 0 0 (-1) 0 0=_ from f2];exact⟨_,rfl,rfl,λ_=>ae⟩
theorem jBU{l:o bB}(hl:l.length<=1000)(p:d):∃r,jfn l p=u r/\jl0 l p=u r:=by
 obtain⟨b,e1,e2,hb⟩:=Dr hl;obtain⟨s,g1,g2,hs⟩:=Ş hl;simp only[jfn,jl0,e1,e2,j4];cases b with
 |false=>exact⟨_,rfl,rfl⟩
 |true=>
  have hR:=hb rfl;have hu:=tZ hR.mem;have rK:=hR.len;have hw:=hR.wgt p;have hv:=Ŝ p hR.mem;obtain rfl:=hs e1;simp only[jl,j7,Ds (show l.length<=1000000 by omega) p,g1,g2,Dn (show l.length<=1000000 by omega) (p:=p),j4];by_cases h0:h9 l=0
  .have CE:wgt p l=0:=aa;rw[h0,CE,show ((0:d)==0)=I from rfl];have:=cP 0 1 aa aa aa;rw[show (if (0:d)>1 then (0:d) else 1)=((1:B):d) from rfl,show jfm (0:d) ((1:B):d)=_ from this];exact⟨_,rfl,rfl⟩
  .rw[show (h9 l==0)=z from zt.2 h0,show (if h9 l>1 then h9 l else 1)=h9 l by split<;>omega];obtain⟨N,hN⟩:∃N:B,(N:d)=wgt p l:=⟨(wgt p l).toNat,aa⟩;obtain⟨D,hD⟩:∃D:B,(D:d)=h9 l:=⟨(h9 l).toNat,aa⟩;rw[<-hN,<-hD,cP N D aa aa aa,eA N D aa aa aa];exact⟨_,rfl,rfl⟩
theorem jHL{l:o bB}(hl:l.length<=1000){ps:o d}(hp:ps.length<=1000):∀(n i:B)(lo hi:d),i+n=ps.length->
  ∃q,JJ l lo hi ps (ps.length:d) (i:d)=u q/\KB l ps lo hi (i:d)=u q:=by
 intro n;induction n with
 |zero=>intro i lo hi h;rw[Pr,PB];simp only[j30,j3H,show m ps.length=(ps.length:d) from rfl];rw[aj (show¬(i:d)<(ps.length:d) by omega),j7,j7,aS,aS];exact⟨_,rfl,rfl⟩
 |succ n ih=>intro i lo hi h;rw[Pr,PB];simp only[j30,j3H,show m ps.length=(ps.length:d) from rfl];rw[ah (show (i:d)<(ps.length:d) by omega),bY (show (0:d)<=(i:d) by omega) (show (i:d)<(ps.length:d) by omega),al (x:=(i:d)+1)];simp only[j6,Ds (show l.length<=1000000 by omega),Dn (show l.length<=1000000 by omega),j4,aH];exact ih (i+1) _ _ aa
theorem jyT{l:o bB}(hl:l.length<=1000){ps:o d}(hp:ps.length<=1000):∃r,jd8 l ps=u r/\jiN l ps=u r:=by
 obtain⟨b,e1,e2,hb⟩:=Dr hl;simp only[jd8,jiN,e1,e2,j4,show m ps.length=(ps.length:d) from rfl];cases b with
 |false=>exact⟨_,rfl,rfl⟩
 |true=>
  simp only[jl,j7];by_cases h0:ps.length=0
  .rw[show ((ps.length:d)==0)=I from zi.2 aa];exact⟨_,rfl,rfl⟩
  rw[show ((ps.length:d)==0)=z from zt.2 aa,bY (show (0:d)<=0 by omega) (show (0:d)<(ps.length:d) by omega)];simp only[j7,j6,Ds (show l.length<=1000000 by omega),Dn (show l.length<=1000000 by omega),j4];have hw:=(hb rfl).wgt (ps.getD 0 0);rw[Pr,PB];simp only[j30,j3H,show m ps.length=(ps.length:d) from rfl];rw[ah (show (0:d)<(ps.length:d) by omega),bY (show (0:d)<=0 by omega) (show (0:d)<(ps.length:d) by omega),show w64 ((0:d)+1)=((1:B):d) from al (x:=1)];simp only[j6,Ds (show l.length<=1000000 by omega),Dn (show l.length<=1000000 by omega),j4,aH,show Int.toNat 0=0 from rfl];rw[show (if wgt (ps.getD 0 0) l>0 then wgt (ps.getD 0 0) l else 0)=wgt (ps.getD 0 0) l by split<;>omega,show (if wgt (ps.getD 0 0) l>wgt (ps.getD 0 0) l then wgt (ps.getD 0 0) l else wgt (ps.getD 0 0) l)=wgt (ps.getD 0 0) l by split<;>rfl];obtain⟨q,f1,f2⟩:=jHL hl hp (ps.length-1) 1 (wgt (ps.getD 0 0) l) (wgt (ps.getD 0 0) l) aa;rw[f1,f2];exact⟨_,rfl,rfl⟩
def sw(l:o bB):o d->d
 |[]=>0
 |p::r=>wgt p l+sw l r
def sq(l:o bB):o d->d
 |[]=>0
 |p::r=>wgt p l*wgt p l+sq l r
theorem ua{l:o bB}(h:RL l):∀ps:o d,0<=sw l ps/\sw l ps<=68719476736*(ps.length:d)
 |[]=>by simp[sw]
 |p::r=>by
  have h1:=h.wgt p;have h2:=ua h r;simp only[sw,jk];omega
theorem BN{l:o bB}(h:RL l)(M:d):∀ps:o d,sw l ps<=M->0<=sq l ps/\sq l ps<=M*sw l ps/\(0<sw l ps->0<sq l ps)
 |[],_=>by simp[sw,sq]
 |p::r,hM=>by
  have h1:=h.wgt p;have h2:=ua h r;simp only[sw]at hM;obtain⟨i1,i2,i3⟩:=BN h M r aa;have a1:0<=wgt p l*wgt p l:=zq h1.1 h1.1;have a2:wgt p l*wgt p l<=M*wgt p l:=zw aa h1.1;simp only[sw,sq];refine⟨aa,by rw[Int.mul_add];omega,λhp=>?_⟩;by_cases h0:0<sw l r
  .have:=i3 h0;omega
  .have:0<wgt p l*wgt p l:=U aa aa;omega
theorem ş{l:o bB}(hl:l.length<=1000)(h:RL l){ps:o d}(hp:ps.length<=32){b c:d}:∀(n i:B)(s:d),i+n=ps.length->0<=s->s+sw l (ps.drop i)<=4000000000000->
  FC l ps s ps (ps.length:d) (i:d) b c=u (l,ps,s+sw l (ps.drop i),b,c)/\∀k,GR l ps s k (i:d) b c=u (l,ps,s+sw l (ps.drop i),k,b,c)
 |0,i,s,hi,_,_=>by
  rw[Yu,jc aa];refine⟨?_,λk=>?_⟩
  .simp only[j5I];rw[aj aa,j7,aS];simp[sw]
  .rw[_o];simp only[j6Z,show m ps.length=(ps.length:d) from rfl];rw[aj aa,j7,aS];simp[sw]
 |n+1,i,s,hi,p1,q1=>by
  have an:i<ps.length:=aa;have aR:ps.getD i (0:d)=ps[i]:=by simp[A,an]
  have hw:=h.wgt ps[i];have hn:=ua h (ps.drop (i+1));rw[jb an]at q1 ⊢;simp only[sw]at q1 ⊢;obtain⟨f1,f2⟩:=ş hl h hp (b:=b) (c:=c) n (i+1) (s+wgt ps[i] l) aa aa aa;have e:s+(wgt ps[i] l+sw l (ps.drop (i+1)))=s+wgt ps[i] l+sw l (ps.drop (i+1)):=aa;rw[e];refine⟨?_,λk=>?_⟩
  .rw[Yu];simp only[j5I];rw[ah (show (i:d)<(ps.length:d) by omega),bD];simp only[j6,j8,aR,Ds (show l.length<=1000000 by omega),j4];rw[al (x:=(i:d)+1),al (x:=s+wgt ps[i] l),aH];exact f1
  .rw[_o];simp only[j6Z,show m ps.length=(ps.length:d) from rfl];rw[ah (show (i:d)<(ps.length:d) by omega),bD];simp only[j6,j8,aR,Dn (show l.length<=1000000 by omega),j4];rw[al (x:=(i:d)+1),al (x:=s+wgt ps[i] l),aH];exact f2 k
theorem Š{l:o bB}(hl:l.length<=1000)(h:RL l){ps:o d}(hp:ps.length<=32){a b c:d}:∀(n i:B)(s:d),i+n=ps.length->0<=s->s+sq l (ps.drop i)<=4611686018427387904->sw l (ps.drop i)<=268435456->
  FD l ps a s ps (ps.length:d) (i:d) b c=u (ps,a,s+sq l (ps.drop i),b,c)/\GS l ps a s (i:d) b c=u (ps,a,s+sq l (ps.drop i),b,c)
 |0,i,s,hi,_,_,_=>by
  rw[Yv,_p,jc aa];simp only[j5J,j70,show m ps.length=(ps.length:d) from rfl];rw[aj (show¬(i:d)<(ps.length:d) by omega),j7,j7,aS,aS];simp[sq]
 |n+1,i,s,hi,p1,q1,q2=>by
  have an:i<ps.length:=aa;have aR:ps.getD i (0:d)=ps[i]:=by simp[A,an]
  have hw:=h.wgt ps[i];have hn:=ua h (ps.drop (i+1));rw[jb an]at q1 q2 ⊢;simp only[sq,sw]at q1 q2 ⊢;have CC:=BN h 268435456 (ps.drop (i+1)) aa;have a1:0<=wgt ps[i] l*wgt ps[i] l:=zq hw.1 hw.1;obtain⟨f1,f2⟩:=Š hl h hp (a:=a) (b:=b) (c:=c) n (i+1) (s+wgt ps[i] l*wgt ps[i] l) aa aa aa aa;have e:s+(wgt ps[i] l*wgt ps[i] l+sq l (ps.drop (i+1)))=s+wgt ps[i] l*wgt ps[i] l+sq l (ps.drop (i+1)):=aa;rw[e];rw[Yv,_p];simp only[j5J,j70,show m ps.length=(ps.length:d) from rfl];rw[ah (show (i:d)<(ps.length:d) by omega),bY (show (0:d)<=(i:d) by omega) (show (i:d)<(ps.length:d) by omega)];simp only[j6,j8,aR,Ds (show l.length<=1000000 by omega),Dn (show l.length<=1000000 by omega),j4];rw[al (x:=(i:d)+1),al (x:=wgt ps[i] l*wgt ps[i] l),al (x:=s+wgt ps[i] l*wgt ps[i] l),aH,aH];exact⟨f1,f2⟩
theorem jDv{l:o bB}(hl:l.length<=1000){ps:o d}:∃r,jhE l ps=u r/\jni l ps=u r:=by
 obtain⟨b,e1,e2,hb⟩:=Dr hl;simp only[jhE,jni,e1,e2,j4,show m ps.length=(ps.length:d) from rfl];cases b with
 |false=>exact⟨_,rfl,rfl⟩
 |true=>
  have hR:=hb rfl;simp only[jl,j7];by_cases š:(ps.length:d)>32
  .rw[ah š];exact⟨_,rfl,rfl⟩
  rw[aj š];have hs:=ua hR ps;obtain⟨f1,f2⟩:=ş hl hR (show ps.length<=32 by omega) (b:=0) (c:=0) ps.length 0 0 aa aa (by rw[jm];omega);rw[jm,J]at f1;simp only[jm,J]at f2;rw[show FC l ps 0 ps (ps.length:d) 0 0 0=_ from f1,show GR l ps 0 0 0 0 0=_ from f2 0];simp only[j7,j4];by_cases hg:sw l ps>268435456
  .rw[ah hg];exact⟨_,rfl,rfl⟩
  rw[aj hg];by_cases h0:sw l ps=0
  .rw[show (sw l ps==0)=I from zi.2 h0];exact⟨_,rfl,rfl⟩
  rw[show (sw l ps==0)=z from zt.2 h0];obtain⟨g1,g2,g3⟩:=BN hR (sw l ps) ps (k7 _);have m1:sw l ps*sw l ps<=268435456*268435456:=yn aa aa hs.1 aa;obtain⟨k1,k2⟩:=Š hl hR (show ps.length<=32 by omega) (a:=sw l ps) (b:=0) (c:=0) ps.length 0 0 aa aa (by rw[jm];omega) (by rw[jm];omega);rw[jm,J]at k1 k2;simp only[j7,show m ps.length=(ps.length:d) from rfl];rw[show FD l ps (sw l ps) 0 ps (ps.length:d) 0 0 0=_ from k1,show GS l ps (sw l ps) 0 0 0 0=_ from k2];simp only[j4,show m ps.length=(ps.length:d) from rfl];have g4:=g3 aa;have m0:0<=sw l ps*sw l ps:=zq hs.1 hs.1
  have hlen:0<(ps.length:d):=by
   cases ps with
   |nil=>exact absurd rfl h0
   |cons _ _=>simp only[jk];omega
  have m2:(ps.length:d)*sq l ps<=32*(268435456*268435456):=yn aa aa g1 aa;have m3:0<(ps.length:d)*sq l ps:=U hlen g4;rw[al (x:=sw l ps*sw l ps),al (x:=(ps.length:d)*sq l ps)];obtain⟨N,hN⟩:∃N:B,(N:d)=sw l ps*sw l ps:=⟨(sw l ps*sw l ps).toNat,aa⟩;obtain⟨D,hD⟩:∃D:B,(D:d)=(ps.length:d)*sq l ps:=⟨((ps.length:d)*sq l ps).toNat,aa⟩;rw[<-hN,<-hD,cP N D aa aa aa,eA N D aa aa aa];exact⟨_,rfl,rfl⟩
theorem jBV{α:Type}(l:o α)(x:α){k:B}(hk:k<=l.length):Y (over (l++[x]) (k+1) (E k (l++[x]))) k x=l.take k++x::l.drop k:=by
 have h1:(l++[x]).length=l.length+1:=ae;unfold over;rw[h1,jc (show (l++[x]).length<=k+1+(E k (l++[x])).length by simp;omega),ql];have e1:E k (l++[x])=E k l++[x]:=by rw[List.drop_append_of_le_length hk]
 rw[e1];have e2:R (l.length+1-(k+1)) (E k l++[x])=E k l:=by rw[qq ae,G ae]
 rw[e2];by_cases h:k<l.length
 .have e3:R (k+1) (l++[x])=l.take k++[l[k]]:=by rw[qq aa,qj h]
  rw[e3,jj,vp _ _ ax];simp[Nat.min_eq_left hk]
 .have bQ:k=l.length:=aa;subst bQ;have e3:R (l.length+1) (l++[x])=l++[x]:=G ae;rw[e3];simp
def gF(p:d):o bB->B
 |[]=>0
 |y::r=>if y.1<p then gF p r+1 else 0
def ad(x:bB):o bB->o bB
 |[]=>[x]
 |y::r=>if y.1<x.1 then y::ad x r else if y.1=x.1 then (y.1,(y.2.1+x.2.1,y.2.2+x.2.2))::r else x::y::r
theorem Ţ(p:d):∀l:o bB,gF p l<=l.length
 |[]=>jv _
 |y::r=>by
  have:=Ţ p r;simp only[gF,jk];split<;>omega
theorem ţ{x:bB}:∀{l:o bB}(h:gF x.1 l<l.length),l[gF x.1 l].1=x.1->ad x l=l.set (gF x.1 l) (l[gF x.1 l].1,(l[gF x.1 l].2.1+x.2.1,l[gF x.1 l].2.2+x.2.2))
 |[],h,_=>by simp[gF]at h
 |y::r,h,he=>by
  by_cases h1:y.1<x.1
  .have e:gF x.1 (y::r)=gF x.1 r+1:=by simp[gF,h1]
   simp only[e,List.getElem_cons_succ,List.set_cons_succ]at he ⊢;rw[e]at h;simp only[ad,h1,if_true];rw[ţ (l:=r) (by simpa using h) he]
  .have e:gF x.1 (y::r)=0:=by simp[gF,h1]
   simp only[e,H,List.set_cons_zero]at he ⊢;simp[ad,he]
theorem Ť{x:bB}:∀{l:o bB},(∀h:gF x.1 l<l.length,l[gF x.1 l].1≠x.1)->ad x l=l.take (gF x.1 l)++x::l.drop (gF x.1 l)
 |[],_=>by simp[ad,gF]
 |y::r,he=>by
  by_cases h1:y.1<x.1
  .have e:gF x.1 (y::r)=gF x.1 r+1:=by simp[gF,h1]
   rw[e];simp only[ad,h1,if_true,List.take_succ_cons,List.drop_succ_cons,z7]
   rw[Ť (l:=r) λh=>by
    have:=he (by rw[e];simpa using h);simpa[e]using this]
  .have e:gF x.1 (y::r)=0:=by simp[gF,h1]
   have:=he (by rw[e];simp);simp only[e,H]at this;rw[e];simp[ad,h1,this]
theorem jHO{x:bB}{l:o bB}(hl:l.length<=1000):∀n i:B,i+n=l.length->GI (i:d) x.1 x.2.1 x.2.2 l=u (((i+gF x.1 (l.drop i):B):d),x.1,x.2.1,x.2.2,l):=by
 intro n;induction n with
 |zero=>intro i hi;rw[_b,jc aa];simp only[j7N,show m l.length=(l.length:d) from rfl];rw[aj aa,j7,aS];rfl
 |succ n ih=>
  intro i hi;have an:i<l.length:=aa;have aR:l.getD i ((0:d),((0:d),(0:d)))=l[i]:=by simp[A,an]
  rw[_b,jb an];simp only[j7N,show m l.length=(l.length:d) from rfl,gF];rw[ah (show (i:d)<(l.length:d) by omega),bY (show (0:d)<=(i:d) by omega) aa,al (x:=(i:d)+1)];simp only[j6,j8,aR];by_cases h:l[i].1<x.1
  .rw[ah h,j6,aH,if_pos h];have:=ih (i+1) aa;rw[show i+(gF x.1 (l.drop (i+1))+1)=i+1+gF x.1 (l.drop (i+1)) by omega];exact this
  .rw[aj h,j7,aS,if_neg h];rfl
def UG(x:bB):Prop:=0<=x.2.1/\x.2.1<=1000000000000000/\0<=x.2.2/\x.2.2<=1000000000000000
theorem UH{l:o bB}(hl:l.length<=999)(hb:∀y∈l,UG y){x:bB}(hx:UG x):jjO l x=u (ad x l):=by
 have hk:=Ţ x.1 l;have e:=jHO (x:=x) (l:=l) aa l.length 0 aa;rw[jm,ki]at e;obtain⟨k,cH⟩:∃k,k=gF x.1 l:=⟨_,rfl⟩;rw[<-cH]at hk e;have bU:W l+W [(x.1,(x.2.1,x.2.2))]<=aM:=by simp only[kf,aM];omega
 have ew:w64 ((k:d)+1)=((k+1:B):d):=by rw[al];omega
 have ins:(∀h:gF x.1 l<l.length,l[gF x.1 l].1≠x.1)->Y (over (l++[(x.1,(x.2.1,x.2.2))]) (k+1) (E k (l++[(x.1,(x.2.1,x.2.2))]))) k (x.1,(x.2.1,x.2.2))=ad x l:=λh=>by
  rw[jBV l _ hk,Ť h,<-cH]
 have uz:(over (l++[(x.1,(x.2.1,x.2.2))]) (k+1) (E k (l++[(x.1,(x.2.1,x.2.2))]))).length=l.length+1:=by simp only[over,jf,qo,vi,kf];omega
 simp only[jjO];rw[show GI 0 x.1 x.2.1 x.2.2 l=_ from e];simp only[j4,show m l.length=(l.length:d) from rfl,j8,ew];by_cases an:k<l.length
 .have aR:l.getD k ((0:d),((0:d),(0:d)))=l[k]:=by simp[A,an]
  rw[ah (show (k:d)<(l.length:d) by omega),bY (show (0:d)<=(k:d) by omega) (show (k:d)<(l.length:d) by omega)];simp only[j6,aR];by_cases hq:l[k].1=x.1
  .rw[show (l[k].1==x.1)=I from zi.2 hq];have fc:=hb _ (jg an);unfold UG at fc hx;rw[al (x:=l[k].2.1+x.2.1)];have mo:k<(l.set k (l[k].1,(l[k].2.1+x.2.1,l[k].2.2))).length:=by simpa using an
   have BM:(l.set k (l[k].1,(l[k].2.1+x.2.1,l[k].2.2))).getD k ((0:d),((0:d),(0:d)))=(l[k].1,(l[k].2.1+x.2.1,l[k].2.2)):=by simp[A,an]
   simp only[j6,y8,BM];rw[bY (show (0:d)<=(k:d) by omega) (show (k:d)<(l.length:d) by omega),al (x:=l[k].2.2+x.2.2),List.set_set];simp only[j6];subst cH;rw[ţ an hq]
  .rw[show (l[k].1==x.1)=z from zt.2 hq]
   rw[ah bU,ah (show (0:d)<=((k+1:B):d) by omega),ah (show (0:d)<=(k:d) by omega),
    ah (show ((k+1:B):d)<=m (l++[(x.1,(x.2.1,x.2.2))]).length by rw[jf];show ((k+1:B):d)<=((l.length+1:B):d);omega),
    ah (show (k:d)<=m (l++[(x.1,(x.2.1,x.2.2))]).length by rw[jf];show (k:d)<=((l.length+1:B):d);omega)]
   simp only[j7,j6,S];rw[bY aa (by rw[uz];omega)];simp only[j6];rw[ins λh=>by subst cH;exact hq]
 .rw[aj (show¬(k:d)<(l.length:d) by omega)]
  rw[ah bU,ah (show (0:d)<=((k+1:B):d) by omega),ah (show (0:d)<=(k:d) by omega),
   ah (show ((k+1:B):d)<=m (l++[(x.1,(x.2.1,x.2.2))]).length by rw[jf];show ((k+1:B):d)<=((l.length+1:B):d);omega),
   ah (show (k:d)<=m (l++[(x.1,(x.2.1,x.2.2))]).length by rw[jf];show (k:d)<=((l.length+1:B):d);omega)]
  simp only[j7,j6,S];rw[bY aa (by rw[uz];omega)];simp only[j6];rw[ins λh=>aa]
end Go.Proofs.Pw
