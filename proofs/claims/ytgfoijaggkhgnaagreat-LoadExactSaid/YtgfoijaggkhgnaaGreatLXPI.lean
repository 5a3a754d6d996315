/- tQ.Merge, tQ.View.Segments: Tv is on tQ in a range. -/
import Derived.Test.YtgfoijaggkhgnaaGreatLXPH
import Derived.Test.YtgfoijaggkhgnaaGreatLXPD
open _root_ renaming Int->d,List->D,Nat->O
open ByteArray renaming empty->q
open Int renaming tmod->E,ofNat->F
open Option renaming some->G,some_or->I,none->S
open List renaming foldl_cons->H,getD->J
open Go Go.Lft
namespace Go.Proofs.Pw
theorem jD8(l:bE)(x y:kK):(l++[x]).set l.length y=l++[y]:=by
 rw[vp _ _ (jv _)];simp
theorem ϛ(out:bE)(s:kK):(la out s).length<=out.length+1:=by
 unfold la;split
 .omega
 .rcases vw out with rfl|⟨l,u,rfl⟩
  .simp
  .rw[vz,yj];simp only[yd,I];split
   .simp
   .simp
theorem Ϝ:∀(l out:bE),(l.foldl la out).length<=out.length+l.length
 |[],out=>ae
 |s::r,out=>by
  have:=Ϝ r (la out s);have:=ϛ out s;simp only[H,jk];omega
theorem ϝ{l:bE}(hl:l.length<=1000000000):∀(n i:O)(out:bE),i+n=l.length->out.length<=i->CW l (l.length:d) (i:d) out=G ((l.drop i).foldl la out)
 |0,i,out,hi,ho=>by
  rw[Zg];simp only[j4Y];rw[aj aa,j7,aS,jc aa];rfl
 |n+1,i,out,hi,ho=>by
  have br:i<l.length:=aa;have aR:l.getD i ((0:d),((0:d),(0:d)))=l[i]:=by simp[J,br]
  have ih:∀gT:bE,gT=la out l[i]->CW l (l.length:d) ((i:d)+1) gT=G ((l.drop i).foldl la out):=λgT he=>by
   rw[jb br,H,<-he];have:=ϛ out l[i];exact ϝ hl n (i+1) gT aa (by rw[he];omega)
  rw[Zg];simp only[j4Y];rw[ah aa,bD];simp only[j6,j8,aR,show F out.length=(out.length:d) from rfl];rw[al (x:=(i:d)+1)];generalize l[i]=s at *;by_cases hs:s.2.1<=s.1
  .rw[ah hs,j6,aH];exact ih _ (by unfold la;rw[if_pos hs])
  .rw[aj hs,j7];rcases vw out with rfl|⟨o,u,rfl⟩
   .simp only[kx];rw[aj (show¬((0:O):d)>0 by omega),j7,ah (show 0+[(s.1,(s.2.1,s.2.2))].length<=aM by simp[aM]),j6,aH];exact ih _ (by unfold la;rw[if_neg hs];rfl)
   .rw[vz]at ih ho ⊢;have uz:(o++[u]).length=o.length+1:=ae;rw[uz]at ho;have iY:(o++[u]).getD o.length ((0:d),((0:d),(0:d)))=u:=by simp[J]
    rw[uz,ah (show ((o.length+1:O):d)>0 by omega),j6,al (x:=((o.length+1:O):d)-1),show ((o.length+1:O):d)-1=(o.length:d) by omega,bD];simp only[j6,j8,iY];have TP:la (o++[u]) s=if u.2.1=s.1/\u.2.2=s.2.2 then o++[(u.1,(s.2.1,u.2.2))] else (o++[u])++[s]:=by unfold la;rw[if_neg hs,yj];simp only[yd,I,yi]
    by_cases h1:u.2.1=s.1
    .rw[dC h1,j6];by_cases h2:u.2.2=s.2.2
     .rw[dC h2,j6,aH,jD8];exact ih _ (by rw[TP,if_pos ⟨h1,h2⟩])
     .rw[cj h2,j7,ah (show o.length+1+[(s.1,(s.2.1,s.2.2))].length<=aM by simp[aM];omega),j6,aH];exact ih _ (by rw[TP,if_neg (λh=>h2 h.2)])
    .rw[cj h1,j7,ah (show o.length+1+[(s.1,(s.2.1,s.2.2))].length<=aM by simp[aM];omega),j6,aH];exact ih _ (by rw[TP,if_neg (λh=>h1 h.1)])
theorem jB9{l:bE}(hl:l.length<=1000000000):jaM l=G (l.foldl la []):=by
 simp only[jaM,show F l.length=(l.length:d) from rfl];rw[show CW l (l.length:d) 0 []=_ from ϝ hl l.length 0 [] aa ae];rfl
theorem TQ{f:d->d}{a b:d}{l:bE}(hl:l.length<=1000000000)(h:Ch f b a l):∃out,jaM l=G out/\fy f b S a out/\out.length<=l.length:=
 ⟨_,jB9 hl,h.cov,by have:=Ϝ l [];simpa using this⟩
section
variable{zs:D bF}{ps:D cR}{cs:D aV}(hs:db zs ps cs)
include hs
theorem LA{L:bZ}(hL:fh zs.length ps.length cs.length L){t u:d}(h0:0<=t)(Bw:t<=u)(h1:u<=8589934592):ct (aO zs L.2.1) L t<=ct (aO zs L.2.1) L u:=by
 have hz:=gR hs.so.ok hL.z0 hL.z1;have a:=(sa hz hL.rt2 (t:=t) h0 aa).2;have b:=(sa hz hL.rt2 (t:=u) aa h1).2;show ct (aO zs L.2.1) L t<=ct (aO zs L.2.1) L u;have a':kY (aO zs L.2.1).2.1 (tb (aO zs L.2.1)).2 L t (ct (aO zs L.2.1) L t):=a;have b':kY (aO zs L.2.1).2.1 (tb (aO zs L.2.1)).2 L u (ct (aO zs L.2.1) L u):=b;generalize ct (aO zs L.2.1) L t=K at *;generalize ct (aO zs L.2.1) L u=K' at *;rcases a' with⟨a1,a2⟩|⟨a1,⟨v,hv,sV⟩,a3⟩<;>rcases b' with⟨b1,b2⟩|⟨b1,b2,b3⟩
 .omega
 .omega
 .exact absurd (QO.le hz.ztab.2 hL.rt2 a1 ⟨v,hv,aa⟩) b2
 .apply jt;intro hn;exact b3 (QO.le hz.ztab.2 hL.rt2 (show K'+1<=K by omega) ⟨v,hv,aa⟩)
def Di(z:bF)(L:bZ)(k nx t:d):Prop:=t<nx->(∀u,t<=u->u<nx->u<=8589934592->ct z L u=k)/\(nx<=8589934592->k<ct z L nx)
theorem jFK{L:bZ}(hL:fh zs.length ps.length cs.length L){t:d}(h0:0<=t)(h1:t<=8589934592)(hk:0<=ct (aO zs L.2.1) L t){v:d}{ok:Bool}
  (hv:j0J (tb (aO zs L.2.1)) L (ct (aO zs L.2.1) L t+1)=G (v,ok)):t<(cond ok v 8589934593)/\Di (aO zs L.2.1) L (ct (aO zs L.2.1) L t) (cond ok v 8589934593) t:=by
 have hz:=gR hs.so.ok hL.z0 hL.z1;have a:=(sa hz hL.rt2 (t:=t) h0 h1).2;have a':kY (aO zs L.2.1).2.1 (tb (aO zs L.2.1)).2 L t (ct (aO zs L.2.1) L t):=a;have hu:∀u,t<=u->u<=8589934592->kY (aO zs L.2.1).2.1 (tb (aO zs L.2.1)).2 L u (ct (aO zs L.2.1) L u):=λu _ h2=>(sa hz hL.rt2 (t:=u) aa h2).2;generalize hK:ct (aO zs L.2.1) L t=K at *;rcases a' with⟨a1,a2⟩|⟨a1,⟨w,hw,hwt⟩,a3⟩
 .omega
 .have qN:=Bs hz.ztab.2 hL.rt2 a1 hw;obtain⟨v',ev,ig⟩:=rh hz.ztab.2 hL.rt2 (k:=K+1) aa aa;have:=ev.symm.trans hv;simp only[j5,j9]at this;obtain⟨rfl,rfl⟩:=this;cases hh:hO (zs.getD L.2.1.toNat (q,((0:d),([]:D aL)))).2.1 (tb (zs.getD L.2.1.toNat (q,((0:d),([]:D aL))))).2 L (K+1) with
  |none=>
   simp only[vu,j7]
   exact⟨aa,λ_=>⟨λu h2 h3 h4=>kY.uniq hz.ztab.2 hL.rt2 (hu u h2 h4) (.inr ⟨a1,⟨w,hw,aa⟩,λ⟨x,hx,_⟩=>by
    have nT:=hh.symm.trans hx;simp at nT⟩),λh=>aa⟩⟩
  |some x=>
   have:=ig x hh;subst this;simp only[va,j6]
   refine⟨?_,λ_=>⟨λu h2 h3 h4=>kY.uniq hz.ztab.2 hL.rt2 (hu u h2 h4) (.inr ⟨a1,⟨w,hw,aa⟩,λ⟨x,hx,jI⟩=>by
    have nT:=hh.symm.trans hx;simp only[j5]at nT;omega⟩),λhle=>?_⟩⟩
   rotate_left
   .have TR:v'<=8589934592:=hle;have Cp:t<=v':=by apply jt;intro hn;exact a3 ⟨_,hh,aa⟩
    have b':=hu v' Cp TR;rcases b' with⟨b1,b2⟩|⟨b1,b2,b3⟩
    .exact absurd (QO.le hz.ztab.2 hL.rt2 (show (0:d)<=K+1 by omega) ⟨_,hh,k7 _⟩) b2
    .apply jt;intro hn;exact b3 (QO.le hz.ztab.2 hL.rt2 (show ct (aO zs L.2.1) L v'+1<=K+1 by omega) ⟨_,hh,k7 _⟩)
   apply jt;intro hn;exact a3 ⟨_,hh,aa⟩
theorem jHa{L:bZ}(hL:fh zs.length ps.length cs.length L){k:d}(hk:0<=k):∃_:(E k (L.2.2.2.2.2.1.length:d)).toNat<L.2.2.2.2.2.1.length,0<=E k (L.2.2.2.2.2.1.length:d)/\E k (L.2.2.2.2.2.1.length:d)<(L.2.2.2.2.2.1.length:d)/\L.2.2.2.2.2.1.getD (E k (L.2.2.2.2.2.1.length:d)).toNat 0=tR L k:=by
 have _:=hs;have mS:=hL.m0;have q1:0<=E k (L.2.2.2.2.2.1.length:d):=Int.tmod_nonneg _ hk;have q2:E k (L.2.2.2.2.2.1.length:d)<(L.2.2.2.2.2.1.length:d):=yx _ aa;exact⟨aa,q1,q2,rfl⟩
theorem Ϟ{L:bZ}(hL:fh zs.length ps.length cs.length L){a b e p m j:d}{sp:SL}(ha:0<=a)(he:e<=8589934592){B:d}(hB:B<=1000000):∀(n:O)(t k nx:d)(acc:bE),e-t=n->a<=t->
  (∀u,t<=u->u<e->gg zs cs L u=true)->Di (aO zs L.2.1) L k nx t->Ch (cu zs cs L) t a acc->(t<e->(acc.length:d)<=B+ct (aO zs L.2.1) L t)->
  (t=e->a<e->(acc.length:d)<=B+1+ct (aO zs L.2.1) L (e-1))->
  ∃k' mE bI,F5 b t k nx m j L.1 L.2.1 L.2.2.1.1 L.2.2.1.2 L.2.2.2.1 L.2.2.2.2.1 L.2.2.2.2.2.1 L.2.2.2.2.2.2.1 L.2.2.2.2.2.2.2.1 L.2.2.2.2.2.2.2.2 (tb (aO zs L.2.1)).1 (tb (aO zs L.2.1)).2 p e acc sp=
   G (b,e,k',mE,m,j,L.1,L.2.1,L.2.2.1.1,L.2.2.1.2,L.2.2.2.1,L.2.2.2.2.1,L.2.2.2.2.2.1,L.2.2.2.2.2.2.1,L.2.2.2.2.2.2.2.1,L.2.2.2.2.2.2.2.2,(tb (aO zs L.2.1)).1,(tb (aO zs L.2.1)).2,bI,sp)/\
   Di (aO zs L.2.1) L k' mE e/\Ch (cu zs cs L) e a bI/\(a<e->(bI.length:d)<=B+1+ct (aO zs L.2.1) L (e-1))
 |n,t,k,nx,acc,hn,qN,oo,hc,nK,hl,rK=>by
  have hz:=gR hs.so.ok hL.z0 hL.z1;rw[jfs];simp only[j2T];by_cases dn:t<e
  .rw[ah dn,j6];have TS:=oo t (k7 _) dn;obtain⟨eK,hK⟩:j4b (tb (aO zs L.2.1)) L t=G (ct (aO zs L.2.1) L t)/\kY (aO zs L.2.1).2.1 (tb (aO zs L.2.1)).2 L t (ct (aO zs L.2.1) L t):=sa hz hL.rt2 (t:=t) aa aa;have mO:0<=ct (aO zs L.2.1) L t:=Ly TS
   have sZ:ct (aO zs L.2.1) L t<=2386092:=by
    have hK':kY (aO zs L.2.1).2.1 (tb (aO zs L.2.1)).2 L t (ct (aO zs L.2.1) L t):=hK;rcases hK' with⟨h1,_⟩|⟨h1,⟨w,hw,_⟩,_⟩
    .omega
    .exact(Bs hz.ztab.2 hL.rt2 h1 hw).2.2
   obtain⟨_,q1,q2,q3⟩:=jHa hs hL mO;have mS:=hL.m0;have an:=hl dn
   have step:∀mE:d,t<mE->Di (aO zs L.2.1) L (ct (aO zs L.2.1) L t) mE t->∀bI:bE,bI=acc++[(t,((if mE<e then mE else e),tR L (ct (aO zs L.2.1) L t)))]->
     ∃ϟ HR tV,F5 b (if mE<e then mE else e) (ct (aO zs L.2.1) L t) mE m j L.1 L.2.1 L.2.2.1.1 L.2.2.1.2 L.2.2.2.1 L.2.2.2.2.1 L.2.2.2.2.2.1 L.2.2.2.2.2.2.1 L.2.2.2.2.2.2.2.1 L.2.2.2.2.2.2.2.2 (tb (aO zs L.2.1)).1 (tb (aO zs L.2.1)).2 p e bI sp=
      G (b,e,ϟ,HR,m,j,L.1,L.2.1,L.2.2.1.1,L.2.2.1.2,L.2.2.2.1,L.2.2.2.2.1,L.2.2.2.2.2.1,L.2.2.2.2.2.2.1,L.2.2.2.2.2.2.2.1,L.2.2.2.2.2.2.2.2,(tb (aO zs L.2.1)).1,(tb (aO zs L.2.1)).2,tV,sp)/\
      Di (aO zs L.2.1) L ϟ HR e/\Ch (cu zs cs L) e a tV/\(a<e->(tV.length:d)<=B+1+ct (aO zs L.2.1) L (e-1)):=by
    rintro mE we dK _ rfl
    obtain⟨t',ui,h1,h2,h3,h4⟩:∃t':d,t'=(if mE<e then mE else e)/\t<t'/\t'<=e/\t'<=mE/\(t'<e->t'=mE):=⟨_,rfl,by split<;>omega,by split<;>omega,by split<;>omega,λh=>by
     by_cases hx:mE<e
     .rw[if_pos hx]
     .rw[if_neg hx]at h;omega⟩
    rw[<-ui]
    refine Ϟ hL ha he hB (e-t').toNat t' (ct (aO zs L.2.1) L t) mE _ aa aa (λu u1 u2=>oo u aa u2) (λh5=>⟨λu u1 u2 u3=>(dK we).1 u aa u2 u3,(dK we).2⟩)
     (nK.snoc aa (λu u1 u2=>?_)) (λgH=>?_) (λheq _=>?_)
    .unfold cu;rw[oo u u1 aa,(dK we).1 u u1 aa aa];rfl
    .have hm:=LA hs hL (t:=t) (u:=t') aa aa aa;have bA:ct (aO zs L.2.1) L t<ct (aO zs L.2.1) L t':=by have:=h4 gH;subst this;exact(dK we).2 aa
     simp only[jf,kf];omega
    .have hm:=LA hs hL (t:=t) (u:=e-1) aa aa aa;simp only[jf,kf];omega
   by_cases Ϡ:t>=nx
   .rw[ah Ϡ,j6];rw[show j4b ((tb (aO zs L.2.1)).1,(tb (aO zs L.2.1)).2) (L.1,L.2.1,(L.2.2.1.1,L.2.2.1.2),L.2.2.2.1,L.2.2.2.2.1,L.2.2.2.2.2.1,L.2.2.2.2.2.2.1,L.2.2.2.2.2.2.2.1,L.2.2.2.2.2.2.2.2) t=_ from eK];simp only[j4];rw[al (x:=ct (aO zs L.2.1) L t+1)];obtain⟨v,ev,_⟩:=rh hz.ztab.2 hL.rt2 (k:=ct (aO zs L.2.1) L t+1) aa aa;have gz:=jFK hs hL (t:=t) aa aa mO ev;rw[show j0J ((tb (aO zs L.2.1)).1,(tb (aO zs L.2.1)).2) (L.1,L.2.1,(L.2.2.1.1,L.2.2.1.2),L.2.2.2.1,L.2.2.2.2.1,L.2.2.2.2.2.1,L.2.2.2.2.2.2.1,L.2.2.2.2.2.2.2.1,L.2.2.2.2.2.2.2.2) (ct (aO zs L.2.1) L t+1)=_ from ev];simp only[j4,show F L.2.2.2.2.2.1.length=(L.2.2.2.2.2.1.length:d) from rfl];rw[cj (show¬(L.2.2.2.2.2.1.length:d)=0 by omega),bY q1 q2];have bU:∀x:kK,acc.length+[x].length<=aM:=λx=>by simp[aM];omega
    revert gz
    generalize (hO (zs.getD L.2.1.toNat (q,((0:d),([]:D aL)))).2.1 (tb (zs.getD L.2.1.toNat (q,((0:d),([]:D aL))))).2 L (ct (aO zs L.2.1) L t+1)).isSome=ok
    cases ok with
    |false=>intro gz;simp only[ka,j6];rw[ah (bU _),j6,aH];exact step 8589934593 gz.1 gz.2 _ (by rw[q3])
    |true=>intro gz;simp only[jl,ka,j7,j6];rw[ah (bU _),j6,aH];exact step v gz.1 gz.2 _ (by rw[q3])
   .have hk:=(hc aa).1 t (k7 _) aa aa;subst hk;rw[aj Ϡ,j7];simp only[show F L.2.2.2.2.2.1.length=(L.2.2.2.2.2.1.length:d) from rfl];rw[cj (show¬(L.2.2.2.2.2.1.length:d)=0 by omega),bY q1 q2];simp only[ka,j6];rw[ah (show acc.length+[_].length<=aM by simp[aM];omega),j6,aH];exact step nx aa hc _ (by rw[q3])
  .have TT:t=e:=aa;subst TT;rw[aj dn,j7,aS];exact⟨k,nx,acc,rfl,hc,nK,rK rfl⟩
 termination_by n=>n
theorem ϡ{L:bZ}(hL:fh zs.length ps.length cs.length L){a b:d}(ha:0<=a)(hb:b<=8589934592){A:SL}(hA:A.length<=400000)(lT:∀t,bJ t A↔a<=t/\t<b/\gg zs cs L t=true)
  {k0:d}{N:O}(hN:N<=4000000)(mO : -1<=k0)(De:∀t,a<=t->t<b->gg zs cs L t=true->k0<=ct (aO zs L.2.1) L t/\ct (aO zs L.2.1) L t<=k0+N) :
  ∀(n j:O)(t k nx Kc:d)(acc:bE),j+n=A.length->a<=t->t<=b->ca (t-1) (A.drop j)->(∀u,t<=u->(bJ u A↔bJ u (A.drop j)))->Di (aO zs L.2.1) L k nx t->Ch (cu zs cs L) t a acc->
   k0<=Kc->Kc<=k0+N->(∀u,t<=u->bJ u A->Kc<=ct (aO zs L.2.1) L u)->(acc.length:d)<=2*j+(Kc-k0)->
  ∃t' bI,F6 b t k nx (A.length:d) (j:d) L.1 L.2.1 L.2.2.1.1 L.2.2.1.2 L.2.2.2.1 L.2.2.2.2.1 L.2.2.2.2.2.1 L.2.2.2.2.2.2.1 L.2.2.2.2.2.2.2.1 L.2.2.2.2.2.2.2.2 (tb (aO zs L.2.1)).1 (tb (aO zs L.2.1)).2 acc A=G (b,t',bI)/\
   Ch (cu zs cs L) b a (bI++[(t',(b, -1))])/\bI.length<=2*A.length+N
 |0,j,t,k,nx,Kc,acc,hj,qN,Ϣ,aQ,gC,hc,nK,hK1,hK2,ϣ,hl=>by
  rw[Zh];simp only[j1U];rw[aj aa,j7,aS];refine⟨t,acc,rfl,nK.snoc Ϣ (λu u1 u2=>?_),aa⟩
  have:gg zs cs L u=false:=by
   cases ho:gg zs cs L u with
   |false=>rfl
   |true=>have:=(gC u u1).1 ((lT u).2 ⟨aa,u2,ho⟩);rw[jc aa]at this;exact absurd this fP
  unfold cu;rw[this];rfl
 |n+1,j,t,k,nx,Kc,acc,hj,qN,Ϣ,aQ,gC,hc,nK,hK1,hK2,ϣ,hl=>by
  have iX:j<A.length:=aa;have aR:A.getD j ((0:d),(0:d))=A[j]:=by simp[J,iX]
  rw[jb iX]at aQ gC;obtain⟨s1,s2,s3⟩:=aQ;have oo:∀u,A[j].1<=u->u<A[j].2->bJ u A:=λu u1 u2=>(gC u aa).2 (dI.2 (.inl ⟨u1,u2⟩));have ub:=(lT A[j].1).1 (oo _ (k7 _) s2);have yY:=(lT (A[j].2-1)).1 (oo _ aa aa);have hKj:=ϣ A[j].1 aa (oo _ (k7 _) s2);rw[Zh];simp only[j1U];rw[ah (show (j:d)<(A.length:d) by omega),bD];simp only[j6,j8,aR];rw[ah (show acc.length+[_].length<=aM by simp[aM];omega),j6]
  obtain⟨k',mE,bI,e2,c2,h2,l2⟩:=Ϟ hs hL (a:=a) (b:=b) (e:=A[j].2) (p:=A[j].1) (m:=(A.length:d)) (j:=(j:d)) (sp:=A) ha aa (B:=2*j+1-k0) aa (A[j].2-A[j].1).toNat A[j].1 k nx
   (acc++[(t,(A[j].1, -1))]) aa aa (λu u1 u2=>((lT u).1 (oo u u1 u2)).2.2) (λh5=>by
    have h6:=hc aa;exact⟨λu u1 u2 u3=>h6.1 u aa u2 u3,h6.2⟩) (nK.snoc aa (λu u1 u2=>by
    have:gg zs cs L u=false:=by
     cases ho:gg zs cs L u with
     |false=>rfl
     |true=>
      have:=(gC u u1).1 ((lT u).2 ⟨aa,aa,ho⟩);rcases dI.1 this with h|h
      .omega
      .have:=ca.low s3 h;omega
    unfold cu;rw[this];rfl)) (λ_=>by rw[jf,kf];omega) (λh=>aa)
  rw[e2];simp only[j4];rw[al (x:=(j:d)+1),aH];have rK:=l2 aa;have hr:=De (A[j].2-1) aa aa yY.2.2
  exact ϡ hL ha hb hA lT hN mO De n (j+1) A[j].2 k' mE (ct (aO zs L.2.1) L (A[j].2-1)) bI aa aa aa (s3.weak aa) (λu hu=>by
   rw[gC u aa,dI]
   exact⟨λh=>by
    rcases h with h|h
    .omega
    .exact h,.inr⟩) c2 h2 hr.1 hr.2 (λu hu TU=>by
   have:=(lT u).1 TU;exact LA hs hL aa aa aa) aa
theorem Ϥ{L:bZ}(hL:fh zs.length ps.length cs.length L){ss:D cW}{a b:d}(ha:0<=a)(cb:a<=b)(hb:b<=8589934592){M:O}(hM:M<=60)(hlen:b-a<=604800*M)
  {k0:d}{N:O}(hN:N<=4000000)(mO : -1<=k0)(De:∀t,a<=t->t<b->gg zs cs L t=true->k0<=ct (aO zs L.2.1) L t/\ct (aO zs L.2.1) L t<=k0+N) :
  ∃out,j1Z ((zs,(ps,(cs,ss))),zs.map tb) L a b=G out/\fy (cu zs cs L) b S a out/\
   out.length<=2*(L.2.2.2.2.2.2.1.length*(M+1)*5+1+(if L.2.2.2.2.2.2.2.2=0 then 0 else (gf cs L.2.2.2.2.2.2.2.1).2.2.length*5))+N+1:=by
 have lE:(zs.map tb).length=zs.length:=kj ..;have hg:=Tw (zs:=zs) hL.z0 hL.z1;obtain⟨A,e1,s1,s2,s3⟩:=jB6 hs hL (ss:=ss) ha cb hb hM hlen
 have hAl:A.length<=400000:=by
  have h1:L.2.2.2.2.2.2.1.length*(M+1)<=14*61:=qi hL.wl aa;by_cases hm:L.2.2.2.2.2.2.2.2=0
  .rw[if_pos hm]at s3;omega
  .rw[if_neg hm]at s3;have hx:=(pt hs (hL.cal hm).1 (hL.cal hm).2).len;have h64:(gf cs L.2.2.2.2.2.2.2.1).2.2.length<=64:=hx;omega
 obtain⟨t',acc,e2,h2,l2⟩:=ϡ hs hL ha hb hAl s2 hN mO De A.length 0 a (-1) (-1) k0 [] aa (k7 _) cb s1 (λu _=>ae) (λh=>aa) rfl (k7 _) aa (λu hu TU=>by
  have:=(s2 u).1 TU;exact(De u this.1 this.2.1 this.2.2).1) ae
 obtain⟨out,e3,h3,l3⟩:=TQ (l:=acc++[(t',(b, -1))]) (by rw[jf,kf];omega) h2;refine⟨out,?_,h3,by rw[jf,kf]at l3;omega⟩;simp only[j1Z];rw[bY hL.z0 (by rw[lE];exact hL.z1)];simp only[j6,hg];rw[show j7C ((zs,(ps,(cs,ss))),zs.map tb) (L.1,L.2.1,(L.2.2.1.1,L.2.2.1.2),L.2.2.2.1,L.2.2.2.2.1,L.2.2.2.2.2.1,L.2.2.2.2.2.2.1,L.2.2.2.2.2.2.2.1,L.2.2.2.2.2.2.2.2) a b=_ from e1];simp only[j4,show F A.length=(A.length:d) from rfl];rw[show F6 b a (-1) (-1) (A.length:d) 0 L.1 L.2.1 L.2.2.1.1 L.2.2.1.2 L.2.2.2.1 L.2.2.2.2.1 L.2.2.2.2.2.1 L.2.2.2.2.2.2.1 L.2.2.2.2.2.2.2.1 L.2.2.2.2.2.2.2.2 (tb (zs.getD L.2.1.toNat (q,((0:d),([]:D aL))))).1 (tb (zs.getD L.2.1.toNat (q,((0:d),([]:D aL))))).2 [] A=_ from e2];simp only[j4];rw[ah (show acc.length+[_].length<=aM by simp[aM];omega),j6,e3];rfl
end
section
variable{zs:D bF}{ps:D cR}{cs:D aV}(hs:db zs ps cs)
include hs
omit hs in
theorem og.near{o:d}{l:bC}(h:iz o l){s t:d}{k:O}(f:og o l s t k)(hs:0<=s):s-64800<=t/\t<=s+64800:=by
 obtain⟨p1,p2,p3⟩:=f.piece h;have hk:=f.hk;have o1:=h.of1 k hk;have o0:=h.of0 k hk;have ht:=f.ht;refine⟨aa,?_⟩;by_cases h0:k=0
 .subst h0;have e0:aT l 0=0:=pk;omega
 .obtain⟨j,rfl⟩:∃j,k=j+1:=⟨k-1,aa⟩;have b:=f.bef j aa;have o2:=h.of0 j aa;omega
theorem jFL{L:bZ}(hL:fh zs.length ps.length cs.length L){t u:d}(h0:0<=t)(Bw:t<=u)(h1:u<=8589934592):ct (aO zs L.2.1) L u<=ct (aO zs L.2.1) L t+(u-t)/3600+8:=by
 have hz:=gR hs.so.ok hL.z0 hL.z1;have aQ:=hL.rt2.step;have uH:=hL.rt2.e0;have jO:=hL.c0;have hd:=hL.d0;have a':kY (aO zs L.2.1).2.1 (tb (aO zs L.2.1)).2 L t (ct (aO zs L.2.1) L t):=(sa hz hL.rt2 (t:=t) h0 aa).2;have b':kY (aO zs L.2.1).2.1 (tb (aO zs L.2.1)).2 L u (ct (aO zs L.2.1) L u):=(sa hz hL.rt2 (t:=u) aa h1).2;generalize ct (aO zs L.2.1) L t=K at *;generalize ct (aO zs L.2.1) L u=K' at *;have hK : -1<=K:=by rcases a' with⟨h,_⟩|⟨h,_⟩<;>omega
 have hn:¬QO (aO zs L.2.1).2.1 (tb (aO zs L.2.1)).2 L t (K+1):=by
  rcases a' with⟨h,h2⟩|⟨_,_,h2⟩
  .rw[h];exact h2
  .exact h2
 by_cases hKK:K'<=K+1
 .omega
 .rcases b' with⟨h,_⟩|⟨hK0,⟨v,hv,hvu⟩,_⟩
  .omega
  .obtain⟨w,hw,hwu⟩:QO (aO zs L.2.1).2.1 (tb (aO zs L.2.1)).2 L u (K+1):=QO.le hz.ztab.2 hL.rt2 (show K+1<=K' by omega) ⟨v,hv,hvu⟩;have hwt:t<w:=by apply jt;intro hx;exact hn ⟨w,hw,aa⟩
   have hm:3600*(K'-(K+1))<=3600*L.2.2.2.2.1*(K'-(K+1)):=zw aa aa;by_cases hu:L.2.2.2.1=0
   .unfold hO at hv hw;rw[if_pos hu]at hv hw;cases hf:fO (aO zs L.2.1).2.1 (tb (aO zs L.2.1)).2 (dF L 0) with
    |none=>rw[hf]at hv;simp at hv
    |some x=>
     rw[hf]at hv hw;simp only[j4]at hv hw;split at hv
     .split at hw
      .simp only[j5]at hv hw;have e:3600*L.2.2.2.2.1*(K'-(K+1))=3600*L.2.2.2.2.1*K'-3600*L.2.2.2.2.1*(K+1):=Int.mul_sub ..;omega
      .simp at hw
     .simp at hv
   .unfold hO at hv hw;rw[if_neg hu]at hv hw;obtain⟨k1,f1⟩:=Ls hv;obtain⟨k2,f2⟩:=Ls hw;have e:(K'-(K+1))*dP L=K'*dP L-(K+1)*dP L:=Int.sub_mul ..;have ik:(K'-(K+1))*1<=(K'-(K+1))*dP L:=Int.mul_le_mul_of_nonneg_left aQ.1 aa;have hm3:0<=(K+1)*dP L:=zq aa aa;have g1:=f1.near hz.ztab.2 (by unfold dF;omega);have g2:=f2.near hz.ztab.2 (by unfold dF;omega);unfold dF at g1 g2;omega
theorem ϥ{L:bZ}(hL:fh zs.length ps.length cs.length L){a b:d}(ha:0<=a)(hb:b<=8589934592):∀t,a<=t->t<b->gg zs cs L t=true->ct (aO zs L.2.1) L a<=ct (aO zs L.2.1) L t/\ct (aO zs L.2.1) L t<=ct (aO zs L.2.1) L a+(((b-a)/3600+8).toNat:d):=λt h1 h2 _=>by
 have e1:=LA hs hL (t:=a) (u:=t) ha h1 aa;have e2:=jFL hs hL (t:=a) (u:=t) ha h1 aa;omega
theorem Ϧ{L:bZ}(hL:fh zs.length ps.length cs.length L){t:d}(h0:0<=t)(h1:t<=8589934592) : -1<=ct (aO zs L.2.1) L t:=by
 have hz:=gR hs.so.ok hL.z0 hL.z1;have a':kY (aO zs L.2.1).2.1 (tb (aO zs L.2.1)).2 L t (ct (aO zs L.2.1) L t):=(sa hz hL.rt2 (t:=t) h0 h1).2;rcases a' with⟨h,_⟩|⟨h,_⟩<;>omega
theorem jD9{L:bZ}(hL:fh zs.length ps.length cs.length L){ss:D cW}{a b:d}(ha:0<=a)(cb:a<=b)(hb:b<=8589934592)(hlen:b-a<=1209600) :
  ∃out,j1Z ((zs,(ps,(cs,ss))),zs.map tb) L a b=G out/\fy (cu zs cs L) b S a out/\out.length<=5000:=by
 obtain⟨out,e,h1,h2⟩:=Ϥ hs hL (ss:=ss) ha cb hb (M:=2) aa aa (N:=((b-a)/3600+8).toNat) aa (Ϧ hs hL ha aa) (ϥ hs hL ha hb);refine⟨out,e,h1,?_⟩;have hw:L.2.2.2.2.2.2.1.length*(2+1)*5<=14*3*5:=k9 _ (k9 _ hL.wl)
 have hc:(if L.2.2.2.2.2.2.2.2=0 then 0 else (gf cs L.2.2.2.2.2.2.2.1).2.2.length*5)<=64*5:=by
  by_cases hm:L.2.2.2.2.2.2.2.2=0
  .rw[if_pos hm];omega
  .rw[if_neg hm];exact k9 _ (pt hs (hL.cal hm).1 (hL.cal hm).2).len
 omega
theorem ϧ{L:bZ}(hL:fh zs.length ps.length cs.length L){ss:D cW}{a b:d}(ha:0<=a)(cb:a<=b)(hb:b<=8589934592)(hlen:b-a<=35078400) :
  ∃out,j1Z ((zs,(ps,(cs,ss))),zs.map tb) L a b=G out/\fy (cu zs cs L) b S a out/\out.length<=30000:=by
 obtain⟨out,e,h1,h2⟩:=Ϥ hs hL (ss:=ss) ha cb hb (M:=58) aa aa (N:=((b-a)/3600+8).toNat) aa (Ϧ hs hL ha aa) (ϥ hs hL ha hb);refine⟨out,e,h1,?_⟩;have hw:L.2.2.2.2.2.2.1.length*(58+1)*5<=14*59*5:=k9 _ (k9 _ hL.wl)
 have hc:(if L.2.2.2.2.2.2.2.2=0 then 0 else (gf cs L.2.2.2.2.2.2.2.1).2.2.length*5)<=64*5:=by
  by_cases hm:L.2.2.2.2.2.2.2.2=0
  .rw[if_pos hm];omega
  .rw[if_neg hm];exact k9 _ (pt hs (hL.cal hm).1 (hL.cal hm).2).len
 omega
section
variable{ss:D cW}(g0:ss.length<=12)(g1:fJ (ss.map (·.1)))(g2:∀s∈ss,uK zs.length ps.length cs.length s)
 {L:bZ}(hL:fh zs.length ps.length cs.length L)(hn:j9w L.1=G true)
include g0 g1 g2 hL hn
end
end
end Go.Proofs.Pw
