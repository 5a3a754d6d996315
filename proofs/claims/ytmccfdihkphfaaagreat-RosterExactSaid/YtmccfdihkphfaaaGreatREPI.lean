/- Gy.Merge, Gy.View.Segments: V_ is on Gy in a range. -/
import Derived.Test.YtmccfdihkphfaaaGreatREPH
import Derived.KernelRfl
import Derived.Test.YtmccfdihkphfaaaGreatREPE
import Derived.Test.YtmccfdihkphfaaaGreatREPG
open ByteArray renaming empty->q,ext->Â
open _root_ renaming Int->D,List->E,Nat->U
open Int renaming ofNat->F,tmod->J
open Option renaming some->G,some_or->Y,none->Á
open List renaming length_append->H,drop_of_length_le->I,getLast?_append->R,getD->W,foldl_cons->X
open Bool renaming true->O,false->À
open Go Go.Lft
namespace Go.Proofs.Pw
theorem jC2(l:bM)(x y:lD):(l++[x]).set l.length y=l++[y]:=by
 rw[vp _ _ (jq _)];simp
theorem W_(out:bM)(s:lD):(kW out s).length<=out.length+1:=by
 unfold kW;split
 .omega
 .rcases zp out with rfl|⟨l,u,rfl⟩
  .simp
  .rw[zq,R];simp only[ye,Y];split
   .simp
   .simp
theorem X_:∀(l out:bM),(l.foldl kW out).length<=out.length+l.length
 |[],out=>ae
 |s::r,out=>by
  have:=X_ r (kW out s);have:=W_ out s;simp only[X,ji];omega
theorem Y_{l:bM}(hl:l.length<=1000000000):∀(n i:U)(out:bM),i+n=l.length->out.length<=i->Cn l (l.length:D) (i:D) out=G ((l.drop i).foldl kW out)
 |0,i,out,hi,ho=>by
  rw[XW];simp only[j57];rw[an aa,j7,aW,I aa];rfl
 |n+1,i,out,hi,ho=>by
  have bY:i<l.length:=aa;have bc:l.getD i ((0:D),((0:D),(0:D)))=l[i]:=by simp[W,bY]
  have ih:∀vJ:bM,vJ=kW out l[i]->Cn l (l.length:D) ((i:D)+1) vJ=G ((l.drop i).foldl kW out):=λvJ he=>by
   rw[jb bY,X,<-he];have:=W_ out l[i];exact Y_ hl n (i+1) vJ aa (by rw[he];omega)
  rw[XW];simp only[j57];rw[ag aa,bE];simp only[j6,j8,bc,show F out.length=(out.length:D) from rfl];rw[ar (x:=(i:D)+1)];generalize l[i]=s at *;by_cases hs:s.2.1<=s.1
  .rw[ag hs,j6,aS];exact ih _ (by unfold kW;rw[if_pos hs])
  .rw[an hs,j7];rcases zp out with rfl|⟨o,u,rfl⟩
   .simp only[jz];rw[an (show¬((0:U):D)>0 by omega),j7,ag (show 0+[(s.1,(s.2.1,s.2.2))].length<=aG by simp[aG]),j6,aS];exact ih _ (by unfold kW;rw[if_neg hs];rfl)
   .rw[zq]at ih ho ⊢;have yM:(o++[u]).length=o.length+1:=ae;rw[yM]at ho;have gw:(o++[u]).getD o.length ((0:D),((0:D),(0:D)))=u:=by simp[W]
    rw[yM,ag (show ((o.length+1:U):D)>0 by omega),j6,ar (x:=((o.length+1:U):D)-1),show ((o.length+1:U):D)-1=(o.length:D) by omega,bE];simp only[j6,j8,gw];have Sp:kW (o++[u]) s=if u.2.1=s.1/\u.2.2=s.2.2 then o++[(u.1,(s.2.1,u.2.2))] else (o++[u])++[s]:=by unfold kW;rw[if_neg hs,R];simp only[ye,Y,List.dropLast_concat]
    by_cases h1:u.2.1=s.1
    .rw[dI h1,j6];by_cases h2:u.2.2=s.2.2
     .rw[dI h2,j6,aS,jC2];exact ih _ (by rw[Sp,if_pos ⟨h1,h2⟩])
     .rw[cG h2,j7,ag (show o.length+1+[(s.1,(s.2.1,s.2.2))].length<=aG by simp[aG];omega),j6,aS];exact ih _ (by rw[Sp,if_neg (λh=>h2 h.2)])
    .rw[cG h1,j7,ag (show o.length+1+[(s.1,(s.2.1,s.2.2))].length<=aG by simp[aG];omega),j6,aS];exact ih _ (by rw[Sp,if_neg (λh=>h1 h.1)])
theorem jAk{l:bM}(hl:l.length<=1000000000):jax l=G (l.foldl kW []):=by
 simp only[jax,show F l.length=(l.length:D) from rfl];rw[show Cn l (l.length:D) 0 []=_ from Y_ hl l.length 0 [] aa ae];rfl
theorem Sq{f:D->D}{a b:D}{l:bM}(hl:l.length<=1000000000)(h:Ch f b a l):∃out,jax l=G out/\fJ f b Á a out/\out.length<=l.length:=
 ⟨_,jAk hl,h.cov,by have:=X_ l [];simpa using this⟩
section
variable{zs:E bH}{ps:E dr}{cs:E bd}(hs:lz zs ps cs)
include hs
theorem KT{L:bA}(hL:iw zs.length ps.length cs.length L){t u:D}(h0:0<=t)(tK:t<=u)(h1:u<=8589934592):bV (aP zs L.2.1) L t<=bV (aP zs L.2.1) L u:=by
 have hz:=gm hs.ok hL.z0 hL.z1;have a:=(pY hz hL.rt2 (t:=t) h0 aa).2;have b:=(pY hz hL.rt2 (t:=u) aa h1).2;show bV (aP zs L.2.1) L t<=bV (aP zs L.2.1) L u;have a':kV (aP zs L.2.1).2.1 (tb (aP zs L.2.1)).2 L t (bV (aP zs L.2.1) L t):=a;have b':kV (aP zs L.2.1).2.1 (tb (aP zs L.2.1)).2 L u (bV (aP zs L.2.1) L u):=b;generalize bV (aP zs L.2.1) L t=K at *;generalize bV (aP zs L.2.1) L u=K' at *;rcases a' with⟨a1,a2⟩|⟨a1,⟨v,hv,uH⟩,a3⟩<;>rcases b' with⟨b1,b2⟩|⟨b1,b2,b3⟩
 .omega
 .omega
 .exact absurd (QO.le hz.ztab.2 hL.rt2 a1 ⟨v,hv,aa⟩) b2
 .apply ju;intro hn;exact b3 (QO.le hz.ztab.2 hL.rt2 (show K'+1<=K by omega) ⟨v,hv,aa⟩)
def CQ(z:bH)(L:bA)(k nx t:D):Prop:=t<nx->(∀u,t<=u->u<nx->u<=8589934592->bV z L u=k)/\(nx<=8589934592->k<bV z L nx)
theorem jEj{L:bA}(hL:iw zs.length ps.length cs.length L){t:D}(h0:0<=t)(h1:t<=8589934592)(hk:0<=bV (aP zs L.2.1) L t){v:D}{ok:Bool}
  (hv:j0V (tb (aP zs L.2.1)) L (bV (aP zs L.2.1) L t+1)=G (v,ok)):t<(cond ok v 8589934593)/\CQ (aP zs L.2.1) L (bV (aP zs L.2.1) L t) (cond ok v 8589934593) t:=by
 have hz:=gm hs.ok hL.z0 hL.z1;have a:=(pY hz hL.rt2 (t:=t) h0 h1).2;have a':kV (aP zs L.2.1).2.1 (tb (aP zs L.2.1)).2 L t (bV (aP zs L.2.1) L t):=a;have hu:∀u,t<=u->u<=8589934592->kV (aP zs L.2.1).2.1 (tb (aP zs L.2.1)).2 L u (bV (aP zs L.2.1) L u):=λu _ h2=>(pY hz hL.rt2 (t:=u) aa h2).2;generalize hK:bV (aP zs L.2.1) L t=K at *;rcases a' with⟨a1,a2⟩|⟨a1,⟨w,hw,hwt⟩,a3⟩
 .omega
 .have pB:=AE hz.ztab.2 hL.rt2 a1 hw;obtain⟨v',ev,gC⟩:=pT hz.ztab.2 hL.rt2 (k:=K+1) aa aa;have:=ev.symm.trans hv;simp only[j5,j9]at this;obtain⟨rfl,rfl⟩:=this;cases hh:hO (zs.getD L.2.1.toNat (q,((0:D),([]:E aL)))).2.1 (tb (zs.getD L.2.1.toNat (q,((0:D),([]:E aL))))).2 L (K+1) with
  |none=>
   simp only[zm,j7]
   exact⟨aa,λ_=>⟨λu h2 h3 h4=>kV.uniq hz.ztab.2 hL.rt2 (hu u h2 h4) (.inr ⟨a1,⟨w,hw,aa⟩,λ⟨x,hx,_⟩=>by
    have ny:=hh.symm.trans hx;simp at ny⟩),λh=>aa⟩⟩
  |some x=>
   have:=gC x hh;subst this;simp only[za,j6]
   refine⟨?_,λ_=>⟨λu h2 h3 h4=>kV.uniq hz.ztab.2 hL.rt2 (hu u h2 h4) (.inr ⟨a1,⟨w,hw,aa⟩,λ⟨x,hx,kF⟩=>by
    have ny:=hh.symm.trans hx;simp only[j5]at ny;omega⟩),λhle=>?_⟩⟩
   rotate_left
   .have Sr:v'<=8589934592:=hle;have BJ:t<=v':=by apply ju;intro hn;exact a3 ⟨_,hh,aa⟩
    have b':=hu v' BJ Sr;rcases b' with⟨b1,b2⟩|⟨b1,b2,b3⟩
    .exact absurd (QO.le hz.ztab.2 hL.rt2 (show (0:D)<=K+1 by omega) ⟨_,hh,k8 _⟩) b2
    .apply ju;intro hn;exact b3 (QO.le hz.ztab.2 hL.rt2 (show bV (aP zs L.2.1) L v'+1<=K+1 by omega) ⟨_,hh,k8 _⟩)
   apply ju;intro hn;exact a3 ⟨_,hh,aa⟩
theorem jFP{L:bA}(hL:iw zs.length ps.length cs.length L){k:D}(hk:0<=k):∃_:(J k (L.2.2.2.2.2.1.length:D)).toNat<L.2.2.2.2.2.1.length,0<=J k (L.2.2.2.2.2.1.length:D)/\J k (L.2.2.2.2.2.1.length:D)<(L.2.2.2.2.2.1.length:D)/\L.2.2.2.2.2.1.getD (J k (L.2.2.2.2.2.1.length:D)).toNat 0=ox L k:=by
 have _:=hs;have pU:=hL.m0;have q1:0<=J k (L.2.2.2.2.2.1.length:D):=vr _ hk;have q2:J k (L.2.2.2.2.2.1.length:D)<(L.2.2.2.2.2.1.length:D):=zk _ aa;exact⟨aa,q1,q2,rfl⟩
theorem Z_{L:bA}(hL:iw zs.length ps.length cs.length L){a b e p m j:D}{sp:SL}(ha:0<=a)(he:e<=8589934592){B:D}(hB:B<=1000000):∀(n:U)(t k nx:D)(acc:bM),e-t=n->a<=t->
  (∀u,t<=u->u<e->fy zs cs L u=O)->CQ (aP zs L.2.1) L k nx t->Ch (cA zs cs L) t a acc->(t<e->(acc.length:D)<=B+bV (aP zs L.2.1) L t)->
  (t=e->a<e->(acc.length:D)<=B+1+bV (aP zs L.2.1) L (e-1))->
  ∃k' mm bI,Fh b t k nx m j L.1 L.2.1 L.2.2.1.1 L.2.2.1.2 L.2.2.2.1 L.2.2.2.2.1 L.2.2.2.2.2.1 L.2.2.2.2.2.2.1 L.2.2.2.2.2.2.2.1 L.2.2.2.2.2.2.2.2 (tb (aP zs L.2.1)).1 (tb (aP zs L.2.1)).2 p e acc sp=
   G (b,e,k',mm,m,j,L.1,L.2.1,L.2.2.1.1,L.2.2.1.2,L.2.2.2.1,L.2.2.2.2.1,L.2.2.2.2.2.1,L.2.2.2.2.2.2.1,L.2.2.2.2.2.2.2.1,L.2.2.2.2.2.2.2.2,(tb (aP zs L.2.1)).1,(tb (aP zs L.2.1)).2,bI,sp)/\
   CQ (aP zs L.2.1) L k' mm e/\Ch (cA zs cs L) e a bI/\(a<e->(bI.length:D)<=B+1+bV (aP zs L.2.1) L (e-1))
 |n,t,k,nx,acc,hn,pB,iO,hc,nj,hl,tc=>by
  have hz:=gm hs.ok hL.z0 hL.z1;rw[jfb];simp only[j33];by_cases dy:t<e
  .rw[ag dy,j6];have Ss:=iO t (k8 _) dy;obtain⟨eK,hK⟩:j2o (tb (aP zs L.2.1)) L t=G (bV (aP zs L.2.1) L t)/\kV (aP zs L.2.1).2.1 (tb (aP zs L.2.1)).2 L t (bV (aP zs L.2.1) L t):=pY hz hL.rt2 (t:=t) aa aa;have lk:0<=bV (aP zs L.2.1) L t:=KS Ss
   have rU:bV (aP zs L.2.1) L t<=2386092:=by
    have hK':kV (aP zs L.2.1).2.1 (tb (aP zs L.2.1)).2 L t (bV (aP zs L.2.1) L t):=hK;rcases hK' with⟨h1,_⟩|⟨h1,⟨w,hw,_⟩,_⟩
    .omega
    .exact(AE hz.ztab.2 hL.rt2 h1 hw).2.2
   obtain⟨_,q1,q2,q3⟩:=jFP hs hL lk;have pU:=hL.m0;have aq:=hl dy
   have step:∀mm:D,t<mm->CQ (aP zs L.2.1) L (bV (aP zs L.2.1) L t) mm t->∀bI:bM,bI=acc++[(t,((if mm<e then mm else e),ox L (bV (aP zs L.2.1) L t)))]->
     ∃Α Gz sP,Fh b (if mm<e then mm else e) (bV (aP zs L.2.1) L t) mm m j L.1 L.2.1 L.2.2.1.1 L.2.2.1.2 L.2.2.2.1 L.2.2.2.2.1 L.2.2.2.2.2.1 L.2.2.2.2.2.2.1 L.2.2.2.2.2.2.2.1 L.2.2.2.2.2.2.2.2 (tb (aP zs L.2.1)).1 (tb (aP zs L.2.1)).2 p e bI sp=
      G (b,e,Α,Gz,m,j,L.1,L.2.1,L.2.2.1.1,L.2.2.1.2,L.2.2.2.1,L.2.2.2.2.1,L.2.2.2.2.2.1,L.2.2.2.2.2.2.1,L.2.2.2.2.2.2.2.1,L.2.2.2.2.2.2.2.2,(tb (aP zs L.2.1)).1,(tb (aP zs L.2.1)).2,sP,sp)/\
      CQ (aP zs L.2.1) L Α Gz e/\Ch (cA zs cs L) e a sP/\(a<e->(sP.length:D)<=B+1+bV (aP zs L.2.1) L (e-1)):=by
    rintro mm zQ dz _ rfl
    obtain⟨t',tg,h1,h2,h3,h4⟩:∃t':D,t'=(if mm<e then mm else e)/\t<t'/\t'<=e/\t'<=mm/\(t'<e->t'=mm):=⟨_,rfl,by split<;>omega,by split<;>omega,by split<;>omega,λh=>by
     by_cases hx:mm<e
     .rw[if_pos hx]
     .rw[if_neg hx]at h;omega⟩
    rw[<-tg]
    refine Z_ hL ha he hB (e-t').toNat t' (bV (aP zs L.2.1) L t) mm _ aa aa (λu u1 u2=>iO u aa u2) (λh5=>⟨λu u1 u2 u3=>(dz zQ).1 u aa u2 u3,(dz zQ).2⟩)
     (nj.snoc aa (λu u1 u2=>?_)) (λfv=>?_) (λheq _=>?_)
    .unfold cA;rw[iO u u1 aa,(dz zQ).1 u u1 aa aa];rfl
    .have hm:=KT hs hL (t:=t) (u:=t') aa aa aa;have br:bV (aP zs L.2.1) L t<bV (aP zs L.2.1) L t':=by have:=h4 fv;subst this;exact(dz zQ).2 aa
     simp only[H,kz];omega
    .have hm:=KT hs hL (t:=t) (u:=e-1) aa aa aa;simp only[H,kz];omega
   by_cases Β:t>=nx
   .rw[ag Β,j6];rw[show j2o ((tb (aP zs L.2.1)).1,(tb (aP zs L.2.1)).2) (L.1,L.2.1,(L.2.2.1.1,L.2.2.1.2),L.2.2.2.1,L.2.2.2.2.1,L.2.2.2.2.2.1,L.2.2.2.2.2.2.1,L.2.2.2.2.2.2.2.1,L.2.2.2.2.2.2.2.2) t=_ from eK];simp only[j4];rw[ar (x:=bV (aP zs L.2.1) L t+1)];obtain⟨v,ev,_⟩:=pT hz.ztab.2 hL.rt2 (k:=bV (aP zs L.2.1) L t+1) aa aa;have gL:=jEj hs hL (t:=t) aa aa lk ev;rw[show j0V ((tb (aP zs L.2.1)).1,(tb (aP zs L.2.1)).2) (L.1,L.2.1,(L.2.2.1.1,L.2.2.1.2),L.2.2.2.1,L.2.2.2.2.1,L.2.2.2.2.2.1,L.2.2.2.2.2.2.1,L.2.2.2.2.2.2.2.1,L.2.2.2.2.2.2.2.2) (bV (aP zs L.2.1) L t+1)=_ from ev];simp only[j4,show F L.2.2.2.2.2.1.length=(L.2.2.2.2.2.1.length:D) from rfl];rw[cG (show¬(L.2.2.2.2.2.1.length:D)=0 by omega),bU q1 q2];have cm:∀x:lD,acc.length+[x].length<=aG:=λx=>by simp[aG];omega
    revert gL
    generalize (hO (zs.getD L.2.1.toNat (q,((0:D),([]:E aL)))).2.1 (tb (zs.getD L.2.1.toNat (q,((0:D),([]:E aL))))).2 L (bV (aP zs L.2.1) L t+1)).isSome=ok
    cases ok with
    |false=>intro gL;simp only[jp,j6];rw[ag (cm _),j6,aS];exact step 8589934593 gL.1 gL.2 _ (by rw[q3])
    |true=>intro gL;simp only[jc,jp,j7,j6];rw[ag (cm _),j6,aS];exact step v gL.1 gL.2 _ (by rw[q3])
   .have hk:=(hc aa).1 t (k8 _) aa aa;subst hk;rw[an Β,j7];simp only[show F L.2.2.2.2.2.1.length=(L.2.2.2.2.2.1.length:D) from rfl];rw[cG (show¬(L.2.2.2.2.2.1.length:D)=0 by omega),bU q1 q2];simp only[jp,j6];rw[ag (show acc.length+[_].length<=aG by simp[aG];omega),j6,aS];exact step nx aa hc _ (by rw[q3])
  .have Su:t=e:=aa;subst Su;rw[an dy,j7,aW];exact⟨k,nx,acc,rfl,hc,nj,tc rfl⟩
 termination_by n=>n
theorem Γ{L:bA}(hL:iw zs.length ps.length cs.length L){a b:D}(ha:0<=a)(hb:b<=8589934592){A:SL}(hA:A.length<=400000)(sN:∀t,bJ t A↔a<=t/\t<b/\fy zs cs L t=O)
  {k0:D}{N:U}(hN:N<=4000000)(lk : -1<=k0)(CI:∀t,a<=t->t<b->fy zs cs L t=O->k0<=bV (aP zs L.2.1) L t/\bV (aP zs L.2.1) L t<=k0+N) :
  ∀(n j:U)(t k nx Kc:D)(acc:bM),j+n=A.length->a<=t->t<=b->bX (t-1) (A.drop j)->(∀u,t<=u->(bJ u A↔bJ u (A.drop j)))->CQ (aP zs L.2.1) L k nx t->Ch (cA zs cs L) t a acc->
   k0<=Kc->Kc<=k0+N->(∀u,t<=u->bJ u A->Kc<=bV (aP zs L.2.1) L u)->(acc.length:D)<=2*j+(Kc-k0)->
  ∃t' bI,Fi b t k nx (A.length:D) (j:D) L.1 L.2.1 L.2.2.1.1 L.2.2.1.2 L.2.2.2.1 L.2.2.2.2.1 L.2.2.2.2.2.1 L.2.2.2.2.2.2.1 L.2.2.2.2.2.2.2.1 L.2.2.2.2.2.2.2.2 (tb (aP zs L.2.1)).1 (tb (aP zs L.2.1)).2 acc A=G (b,t',bI)/\
   Ch (cA zs cs L) b a (bI++[(t',(b, -1))])/\bI.length<=2*A.length+N
 |0,j,t,k,nx,Kc,acc,hj,pB,Δ,aV,fY,hc,nj,hK1,hK2,Ε,hl=>by
  rw[XX];simp only[j25];rw[an aa,j7,aW];refine⟨t,acc,rfl,nj.snoc Δ (λu u1 u2=>?_),aa⟩
  have:fy zs cs L u=false:=by
   cases ho:fy zs cs L u with
   |false=>rfl
   |true=>have:=(fY u u1).1 ((sN u).2 ⟨aa,u2,ho⟩);rw[I aa]at this;exact absurd this fU
  unfold cA;rw[this];rfl
 |n+1,j,t,k,nx,Kc,acc,hj,pB,Δ,aV,fY,hc,nj,hK1,hK2,Ε,hl=>by
  have im:j<A.length:=aa;have bc:A.getD j ((0:D),(0:D))=A[j]:=by simp[W,im]
  rw[jb im]at aV fY;obtain⟨s1,s2,s3⟩:=aV;have iO:∀u,A[j].1<=u->u<A[j].2->bJ u A:=λu u1 u2=>(fY u aa).2 (dC.2 (.inl ⟨u1,u2⟩));have rh:=(sN A[j].1).1 (iO _ (k8 _) s2);have xR:=(sN (A[j].2-1)).1 (iO _ aa aa);have hKj:=Ε A[j].1 aa (iO _ (k8 _) s2);rw[XX];simp only[j25];rw[ag (show (j:D)<(A.length:D) by omega),bE];simp only[j6,j8,bc];rw[ag (show acc.length+[_].length<=aG by simp[aG];omega),j6]
  obtain⟨k',mm,bI,e2,c2,h2,l2⟩:=Z_ hs hL (a:=a) (b:=b) (e:=A[j].2) (p:=A[j].1) (m:=(A.length:D)) (j:=(j:D)) (sp:=A) ha aa (B:=2*j+1-k0) aa (A[j].2-A[j].1).toNat A[j].1 k nx
   (acc++[(t,(A[j].1, -1))]) aa aa (λu u1 u2=>((sN u).1 (iO u u1 u2)).2.2) (λh5=>by
    have h6:=hc aa;exact⟨λu u1 u2 u3=>h6.1 u aa u2 u3,h6.2⟩) (nj.snoc aa (λu u1 u2=>by
    have:fy zs cs L u=false:=by
     cases ho:fy zs cs L u with
     |false=>rfl
     |true=>
      have:=(fY u u1).1 ((sN u).2 ⟨aa,aa,ho⟩);rcases dC.1 this with h|h
      .omega
      .have:=bX.low s3 h;omega
    unfold cA;rw[this];rfl)) (λ_=>by rw[H,kz];omega) (λh=>aa)
  rw[e2];simp only[j4];rw[ar (x:=(j:D)+1),aS];have tc:=l2 aa;have hr:=CI (A[j].2-1) aa aa xR.2.2
  exact Γ hL ha hb hA sN hN lk CI n (j+1) A[j].2 k' mm (bV (aP zs L.2.1) L (A[j].2-1)) bI aa aa aa (s3.weak aa) (λu hu=>by
   rw[fY u aa,dC]
   exact⟨λh=>by
    rcases h with h|h
    .omega
    .exact h,.inr⟩) c2 h2 hr.1 hr.2 (λu hu Sv=>by
   have:=(sN u).1 Sv;exact KT hs hL aa aa aa) aa
theorem jEk{L:bA}(hL:iw zs.length ps.length cs.length L){ss:E cN}{a b:D}(ha:0<=a)(cF:a<=b)(hb:b<=8589934592){M:U}(hM:M<=60)(hlen:b-a<=604800*M)
  {k0:D}{N:U}(hN:N<=4000000)(lk : -1<=k0)(CI:∀t,a<=t->t<b->fy zs cs L t=O->k0<=bV (aP zs L.2.1) L t/\bV (aP zs L.2.1) L t<=k0+N) :
  ∃out,j2K ((zs,(ps,(cs,ss))),zs.map tb) L a b=G out/\fJ (cA zs cs L) b Á a out/\
   out.length<=2*(L.2.2.2.2.2.2.1.length*(M+1)*5+1+(if L.2.2.2.2.2.2.2.2=0 then 0 else (gn cs L.2.2.2.2.2.2.2.1).2.2.length*5))+N+1:=by
 have fE:(zs.map tb).length=zs.length:=kc ..;have hg:=Gm (zs:=zs) hL.z0 hL.z1;obtain⟨A,e1,s1,s2,s3⟩:=jAh hs hL (ss:=ss) ha cF hb hM hlen
 have hAl:A.length<=400000:=by
  have h1:L.2.2.2.2.2.2.1.length*(M+1)<=14*61:=qm hL.wl aa;by_cases hm:L.2.2.2.2.2.2.2.2=0
  .rw[if_pos hm]at s3;omega
  .rw[if_neg hm]at s3;have hx:=(ml hs (hL.cal hm).1 (hL.cal hm).2).len;have AJ:(gn cs L.2.2.2.2.2.2.2.1).2.2.length<=64:=hx;omega
 obtain⟨t',acc,e2,h2,l2⟩:=Γ hs hL ha hb hAl s2 hN lk CI A.length 0 a (-1) (-1) k0 [] aa (k8 _) cF s1 (λu _=>ae) (λh=>aa) rfl (k8 _) aa (λu hu Sv=>by
  have:=(s2 u).1 Sv;exact(CI u this.1 this.2.1 this.2.2).1) ae
 obtain⟨out,e3,h3,l3⟩:=Sq (l:=acc++[(t',(b, -1))]) (by rw[H,kz];omega) h2;refine⟨out,?_,h3,by rw[H,kz]at l3;omega⟩;simp only[j2K];rw[bU hL.z0 (by rw[fE];exact hL.z1)];simp only[j6,hg];rw[show j7n ((zs,(ps,(cs,ss))),zs.map tb) (L.1,L.2.1,(L.2.2.1.1,L.2.2.1.2),L.2.2.2.1,L.2.2.2.2.1,L.2.2.2.2.2.1,L.2.2.2.2.2.2.1,L.2.2.2.2.2.2.2.1,L.2.2.2.2.2.2.2.2) a b=_ from e1];simp only[j4,show F A.length=(A.length:D) from rfl];rw[show Fi b a (-1) (-1) (A.length:D) 0 L.1 L.2.1 L.2.2.1.1 L.2.2.1.2 L.2.2.2.1 L.2.2.2.2.1 L.2.2.2.2.2.1 L.2.2.2.2.2.2.1 L.2.2.2.2.2.2.2.1 L.2.2.2.2.2.2.2.2 (tb (zs.getD L.2.1.toNat (q,((0:D),([]:E aL))))).1 (tb (zs.getD L.2.1.toNat (q,((0:D),([]:E aL))))).2 [] A=_ from e2];simp only[j4];rw[ag (show acc.length+[_].length<=aG by simp[aG];omega),j6,e3];rfl
end
section
variable{zs:E bH}{ps:E dr}{cs:E bd}(hs:lz zs ps cs)
include hs
omit hs in
theorem nG.near{o:D}{l:bh}(h:iF o l){s t:D}{k:U}(f:nG o l s t k)(hs:0<=s):s-64800<=t/\t<=s+64800:=by
 obtain⟨p1,p2,p3⟩:=f.piece h;have hk:=f.hk;have o1:=h.of1 k hk;have o0:=h.of0 k hk;have ht:=f.ht;refine⟨aa,?_⟩;by_cases h0:k=0
 .subst h0;have e0:aX l 0=0:=mi;omega
 .obtain⟨j,rfl⟩:∃j,k=j+1:=⟨k-1,aa⟩;have b:=f.bef j aa;have o2:=h.of0 j aa;omega
theorem jEl{L:bA}(hL:iw zs.length ps.length cs.length L){t u:D}(h0:0<=t)(tK:t<=u)(h1:u<=8589934592):bV (aP zs L.2.1) L u<=bV (aP zs L.2.1) L t+(u-t)/3600+8:=by
 have hz:=gm hs.ok hL.z0 hL.z1;have aV:=hL.rt2.step;have pO:=hL.rt2.e0;have gT:=hL.c0;have hd:=hL.d0;have a':kV (aP zs L.2.1).2.1 (tb (aP zs L.2.1)).2 L t (bV (aP zs L.2.1) L t):=(pY hz hL.rt2 (t:=t) h0 aa).2;have b':kV (aP zs L.2.1).2.1 (tb (aP zs L.2.1)).2 L u (bV (aP zs L.2.1) L u):=(pY hz hL.rt2 (t:=u) aa h1).2;generalize bV (aP zs L.2.1) L t=K at *;generalize bV (aP zs L.2.1) L u=K' at *;have hK : -1<=K:=by rcases a' with⟨h,_⟩|⟨h,_⟩<;>omega
 have hn:¬QO (aP zs L.2.1).2.1 (tb (aP zs L.2.1)).2 L t (K+1):=by
  rcases a' with⟨h,h2⟩|⟨_,_,h2⟩
  .rw[h];exact h2
  .exact h2
 by_cases hKK:K'<=K+1
 .omega
 .rcases b' with⟨h,_⟩|⟨hK0,⟨v,hv,hvu⟩,_⟩
  .omega
  .obtain⟨w,hw,hwu⟩:QO (aP zs L.2.1).2.1 (tb (aP zs L.2.1)).2 L u (K+1):=QO.le hz.ztab.2 hL.rt2 (show K+1<=K' by omega) ⟨v,hv,hvu⟩;have hwt:t<w:=by apply ju;intro hx;exact hn ⟨w,hw,aa⟩
   have hm:3600*(K'-(K+1))<=3600*L.2.2.2.2.1*(K'-(K+1)):=Int.mul_le_mul_of_nonneg_right aa aa;by_cases hu:L.2.2.2.1=0
   .unfold hO at hv hw;rw[if_pos hu]at hv hw;cases hf:fO (aP zs L.2.1).2.1 (tb (aP zs L.2.1)).2 (dx L 0) with
    |none=>rw[hf]at hv;simp at hv
    |some x=>
     rw[hf]at hv hw;simp only[j4]at hv hw;split at hv
     .split at hw
      .simp only[j5]at hv hw;have e:3600*L.2.2.2.2.1*(K'-(K+1))=3600*L.2.2.2.2.1*K'-3600*L.2.2.2.2.1*(K+1):=Int.mul_sub ..;omega
      .simp at hw
     .simp at hv
   .unfold hO at hv hw;rw[if_neg hu]at hv hw;obtain⟨k1,f1⟩:=KM hv;obtain⟨k2,f2⟩:=KM hw;have e:(K'-(K+1))*dG L=K'*dG L-(K+1)*dG L:=Int.sub_mul ..;have ie:(K'-(K+1))*1<=(K'-(K+1))*dG L:=Int.mul_le_mul_of_nonneg_left aV.1 aa;have _9:0<=(K+1)*dG L:=Int.mul_nonneg aa aa;have g1:=f1.near hz.ztab.2 (by unfold dx;omega);have g2:=f2.near hz.ztab.2 (by unfold dx;omega);unfold dx at g1 g2;omega
theorem jAl{L:bA}(hL:iw zs.length ps.length cs.length L){a b:D}(ha:0<=a)(hb:b<=8589934592):∀t,a<=t->t<b->fy zs cs L t=O->bV (aP zs L.2.1) L a<=bV (aP zs L.2.1) L t/\bV (aP zs L.2.1) L t<=bV (aP zs L.2.1) L a+(((b-a)/3600+8).toNat:D):=λt h1 h2 _=>by
 have e1:=KT hs hL (t:=a) (u:=t) ha h1 aa;have e2:=jEl hs hL (t:=a) (u:=t) ha h1 aa;omega
theorem jGM{L:bA}(hL:iw zs.length ps.length cs.length L){t:D}(h0:0<=t)(h1:t<=8589934592) : -1<=bV (aP zs L.2.1) L t:=by
 have hz:=gm hs.ok hL.z0 hL.z1;have a':kV (aP zs L.2.1).2.1 (tb (aP zs L.2.1)).2 L t (bV (aP zs L.2.1) L t):=(pY hz hL.rt2 (t:=t) h0 h1).2;rcases a' with⟨h,_⟩|⟨h,_⟩<;>omega
theorem Ζ{L:bA}(hL:iw zs.length ps.length cs.length L){ss:E cN}{a b:D}(ha:0<=a)(cF:a<=b)(hb:b<=8589934592)(hlen:b-a<=35078400) :
  ∃out,j2K ((zs,(ps,(cs,ss))),zs.map tb) L a b=G out/\fJ (cA zs cs L) b Á a out/\out.length<=30000:=by
 obtain⟨out,e,h1,h2⟩:=jEk hs hL (ss:=ss) ha cF hb (M:=58) aa aa (N:=((b-a)/3600+8).toNat) aa (jGM hs hL ha aa) (jAl hs hL ha hb);refine⟨out,e,h1,?_⟩;have hw:L.2.2.2.2.2.2.1.length*(58+1)*5<=14*59*5:=ka _ (ka _ hL.wl)
 have hc:(if L.2.2.2.2.2.2.2.2=0 then 0 else (gn cs L.2.2.2.2.2.2.2.1).2.2.length*5)<=64*5:=by
  by_cases hm:L.2.2.2.2.2.2.2.2=0
  .rw[if_pos hm];omega
  .rw[if_neg hm];exact ka _ (ml hs (hL.cal hm).1 (hL.cal hm).2).len
 omega
end
theorem Η{x y:ByteArray}(h:x≠y):(x.toList==y.toList)=false:=by
 rw[ByteArray.toList_eq,ByteArray.toList_eq];exact ky.2 λhh=>h (Â (Array.toList_inj.mp (eq_of_beq hh)))
theorem Sw:jaA=G 98980:=by kernel_rfl
theorem jFS{d:D}(h:j1g d=G O):d<=98980:=by
 apply ju;intro hd;simp only[j1g,j6a,d_,c_,j4]at h;rw[an (show¬d<0 by omega),ag (show d>=98981 by omega)]at h;simp at h
theorem jFT{d:D}(h:j1g d=G O):0<=d:=by
 apply ju;intro hd;simp only[j1g,j6a,d_,c_,j4]at h;rw[ag (show d<0 by omega)]at h;simp at h
section
variable{zs:E bH}{ps:E dr}{cs:E bd}{ss:E cN}
theorem Θ{w:WL}(h:gO 0 w)(hl:w.length<=14):∀(n i:U),i+n=w.length->Cs w (i:D)=G (.inr ())
 |0,i,hi=>by
  rw[Jk];simp only[j3g,show F w.length=(w.length:D) from rfl];rw[an aa,j7,aW]
 |n+1,i,hi=>by
  have bY:i<w.length:=aa;have hg:=Az h i bY;have ih:=Θ h hl n (i+1) aa;rw[Jk];simp only[j3g,show F w.length=(w.length:D) from rfl];rw[ag aa,bE];simp only[j6,j8];rw[an (show¬(w.getD i (0,0)).1<0 by omega),an (show¬(w.getD i (0,0)).1>=(w.getD i (0,0)).2 by omega),an (show¬(w.getD i (0,0)).2>604800 by omega),ar (x:=(i:D)+1)];simp only[j7];by_cases h0:(i:D)>0
  .obtain⟨k,rfl⟩:∃k,i=k+1:=⟨i-1,aa⟩;have hgap:=_A h k aa;rw[ag h0,j6,ar (x:=((k+1:U):D)-1),show ((k+1:U):D)-1=(k:D) by omega,bU (show (0:D)<=(k:D) by omega) aa];simp only[j6,j8];rw[an (show¬(w.getD (k+1) (0,0)).1<(w.getD k (0,0)).2 by omega),j7,aS];exact ih
  .rw[an h0,j7,aS];exact ih
theorem GA{w:WL}(h:gO 0 w)(hl:w.length<=14):j7w w=G 0:=by
 simp only[j7w,show F w.length=(w.length:D) from rfl];rw[an aa,j7,show Cs w 0=_ from Θ h hl w.length 0 aa];rfl
end
theorem Sz{w:WL}(hl:w.length<=14)(s:D):∀(n i:U),i+n=w.length->FA w s (i:D)=G (cond (hasB s (w.drop i)) (.inl O) (.inr ()))
 |0,i,hi=>by
  rw[YH];simp only[j5j,show F w.length=(w.length:D) from rfl];rw[an aa,j7,aW,I aa];rfl
 |n+1,i,hi=>by
  have bY:i<w.length:=aa;have bc:w.getD i ((0:D),(0:D))=w[i]:=by simp[W,bY]
  rw[YH];simp only[j5j,show F w.length=(w.length:D) from rfl];rw[ag aa,bE];simp only[j6,z8,j8,bc];rw[ar (x:=(i:D)+1),jb bY];have hb:hasB s (w[i]::w.drop (i+1))=cond (cond (decide (w[i].1<=s)) (decide (s<w[i].2)) À) O (hasB s (w.drop (i+1))):=rfl;rw[hb];by_cases h1:w[i].1<=s
  .rw[ag (show s>=w[i].1 from h1)];simp only[j6];by_cases h2:s<w[i].2
   .rw[ag h2];rfl
   .rw[an h2];simp only[j7,aS];exact Sz hl s n (i+1) aa
  .rw[an (show¬s>=w[i].1 from h1)];simp only[j7,aS];exact Sz hl s n (i+1) aa
theorem jAo{w:WL}(hl:w.length<=14)(s:D):jie w s=G (hasB s w):=by
 have:=Sz hl s w.length 0 aa;simp only[jie,show FA w s 0=_ from this,j4,jk];cases hasB s w<;>rfl
theorem Ι{z:bH}(hz:gj z){t:D}(h0:0<=t)(h1:t<=8589934592):j43 z t=G (cD z t,0):=by
 have h4:=hz.zref.2.1;obtain⟨k,hk,k1,k2⟩:=tI h4.2 h0 h1;have e:=CE h4.2 hk k1 k2;have:cD z t=((t+bm z.2.1 (tb z).2 k)/86400,(t+bm z.2.1 (tb z).2 k)%86400):=by simp only[cD,show j0p (tb z) t=_ from e,z6]
 rw[this];exact _Z h4 h0 h1 hk k1 k2
theorem jFV{z:bH}(hz:gj z){t:D}(h0:0<=t)(h1:t<=8589934592){w:WL}(hw:gO 0 w)(hl:w.length<=14):jcG z t=G (fo (cD z t),0)/\jsB z w t=G (hasB (fo (cD z t)) w):=by
 have e1:=Ι hz h0 h1;obtain⟨_,iV⟩:=Gv hz h0 h1;have e2:j7U (cD z t)=G (fo (cD z t)):=iV;have e3:jcG z t=G (fo (cD z t),0):=by simp only[jcG,show j43 (z.1,(z.2.1,z.2.2)) t=_ from e1,j4,jf,j7,show j7U ((cD z t).1,(cD z t).2)=_ from e2]
 refine⟨e3,?_⟩;simp only[jsB,show jcG (z.1,(z.2.1,z.2.2)) t=_ from e3,j4,kp,j6,GA hw hl,jAo hl]
section
variable{zs:E bH}{ps:E dr}{cs:E bd}(hs:lz zs ps cs)
include hs
theorem SC{k d e:D}{x:bd}(hx:qP zs.length x){L:bA}:∀(n i:U)(b:Bool),i+n=x.2.2.length->b=decide (d∈x.2.2.take i)->
  Aj k b (i:D) L.1 L.2.1 L.2.2.1.1 L.2.2.1.2 L.2.2.2.1 L.2.2.2.2.1 L.2.2.2.2.2.1 L.2.2.2.2.2.2.1 L.2.2.2.2.2.2.2.1 L.2.2.2.2.2.2.2.2 x.1 x.2.1 x.2.2 d e=
   G (k,decide (d∈x.2.2),L.1,L.2.1,L.2.2.1.1,L.2.2.1.2,L.2.2.2.1,L.2.2.2.2.1,L.2.2.2.2.2.1,L.2.2.2.2.2.2.1,L.2.2.2.2.2.2.2.1,L.2.2.2.2.2.2.2.2)
 |0,i,b,hi,hb=>by
  rw[YI];simp only[j6G,show F x.2.2.length=(x.2.2.length:D) from rfl];rw[an aa,j7,aW,hb,List.take_of_length_le aa]
 |n+1,i,b,hi,hb=>by
  have _:=hs;have oJ:=hx.len;have bY:i<x.2.2.length:=aa;have bc:x.2.2.getD i (0:D)=x.2.2[i]:=by simp[bY]
  rw[YI];simp only[j6G,show F x.2.2.length=(x.2.2.length:D) from rfl];rw[ag aa,ar (x:=(i:D)+1),j6];have ht:x.2.2.take (i+1)=x.2.2.take i++[x.2.2[i]]:=by rw[qb,jo bY];rfl
  cases Ek:b with
  |true=>simp only[j6,aS];refine SC hx n (i+1) O aa ?_;have:d∈x.2.2.take i:=kr (by rw[<-hb,Ek]);rw[ht];exact(ag (jr _ this)).symm
  |false=>
   have ca:d∉x.2.2.take i:=of_decide_eq_false (by rw[<-hb,Ek]);rw[bU (show (0:D)<=(i:D) by omega) aa];simp only[j7,j6,j8,bc,aS];refine SC hx n (i+1) _ aa ?_;rw[ht];by_cases he:x.2.2[i]=d
   .rw[dI he];exact(ag (jn _ (by simp[he]))).symm
   .rw[cG he];refine(an λhm=>?_).symm;rcases jm.1 hm with h|h
    .exact ca h
    .simp at h;exact he h.symm
theorem jEo{L:bA}(hL:iw zs.length ps.length cs.length L){ss:E cN}{t:D}(h0:0<=t)(h1:t<=8589934592):∃k,jkk (zs,(ps,(cs,ss))) L t=G (k,fy zs cs L t)/\(fy zs cs L t=O->k=bV (aP zs L.2.1) L t):=by
 have nH:=hL.rt2;have hz:gj (aP zs L.2.1):=gm hs.ok hL.z0 hL.z1;have h4:=hz.zref.2.1;obtain⟨K,eK,hK⟩:=H_ h4 nH h0 h1;have hKs:K=bV (aP zs L.2.1) L t:=kV.uniq h4.2 nH hK (pY hz nH h0 h1).2;subst hKs;have ek:jho (aP zs L.2.1) L t=G (bV (aP zs L.2.1) L t,0):=by simp only[jho,show jd4 ((aP zs L.2.1).1,((aP zs L.2.1).2.1,(aP zs L.2.1).2.2)) (L.1,L.2.1,(L.2.2.1.1,L.2.2.1.2),L.2.2.2.1,L.2.2.2.2.1,L.2.2.2.2.2.1,L.2.2.2.2.2.2.1,L.2.2.2.2.2.2.2.1,L.2.2.2.2.2.2.2.2)=_ from F_ h4 L,j4];rw[if_pos nH,an (show¬t<0 by omega),an (show¬t>8589934592 by omega)];simp only[jf,j7];rw[show jd6 ((aP zs L.2.1).1,((aP zs L.2.1).2.1,(aP zs L.2.1).2.2)) (L.1,L.2.1,(L.2.2.1.1,L.2.2.1.2),L.2.2.2.1,L.2.2.2.2.1,L.2.2.2.2.2.1,L.2.2.2.2.2.2.1,L.2.2.2.2.2.2.2.1,L.2.2.2.2.2.2.2.2) t=_ from eK];rfl
 obtain⟨_,ein⟩:=jFV hz h0 h1 hL.w hL.wl
 have xA:(cond (L.2.2.2.2.2.2.2.2==(0:D)) (G (bV (aP zs L.2.1) L t,O)) (cond (inR L.2.2.2.2.2.2.2.1 cs.length) (cond (inR (cs.getD L.2.2.2.2.2.2.2.1.toNat (q,((0:D),([]:E D)))).2.1 zs.length)
   ((
    j43 ((zs.getD (cs.getD L.2.2.2.2.2.2.2.1.toNat (q,((0:D),([]:E D)))).2.1.toNat (q,((0:D),([]:E aL)))).1,((zs.getD (cs.getD L.2.2.2.2.2.2.2.1.toNat (q,((0:D),([]:E D)))).2.1.toNat (q,((0:D),([]:E aL)))).2.1,(zs.getD (cs.getD L.2.2.2.2.2.2.2.1.toNat (q,((0:D),([]:E D)))).2.1.toNat (q,((0:D),([]:E aL)))).2.2)) t).bind λΚ=>
    (Aj (bV (aP zs L.2.1) L t) À 0 L.1 L.2.1 L.2.2.1.1 L.2.2.1.2 L.2.2.2.1 L.2.2.2.2.1 L.2.2.2.2.2.1 L.2.2.2.2.2.2.1 L.2.2.2.2.2.2.2.1 L.2.2.2.2.2.2.2.2 (cs.getD L.2.2.2.2.2.2.2.1.toNat (q,((0:D),([]:E D)))).1 (cs.getD L.2.2.2.2.2.2.2.1.toNat (q,((0:D),([]:E D)))).2.1 (cs.getD L.2.2.2.2.2.2.2.1.toNat (q,((0:D),([]:E D)))).2.2 Κ.1.1 Κ.1.2).bind λq0=>
     G (q0.1,(q0.2.1==(q0.2.2.2.2.2.2.2.2.2.2.2==(2:D))))) Á) Á))=G (bV (aP zs L.2.1) L t,gK zs cs L t):=by
  by_cases hm:L.2.2.2.2.2.2.2.2=0
  .rw[dI hm,j6];unfold gK;rw[dI hm];rfl
  .have cH:=hL.cal hm;have hx:=ml hs cH.1 cH.2;have BL:=gm hs.ok hx.z0 hx.z1;rw[cG hm,j7,bU cH.1 cH.2,bU hx.z0 hx.z1];simp only[j6];rw[show j43 ((zs.getD (cs.getD L.2.2.2.2.2.2.2.1.toNat (q,((0:D),([]:E D)))).2.1.toNat (q,((0:D),([]:E aL)))).1,((zs.getD (cs.getD L.2.2.2.2.2.2.2.1.toNat (q,((0:D),([]:E D)))).2.1.toNat (q,((0:D),([]:E aL)))).2.1,(zs.getD (cs.getD L.2.2.2.2.2.2.2.1.toNat (q,((0:D),([]:E D)))).2.1.toNat (q,((0:D),([]:E aL)))).2.2)) t=_ from Ι BL h0 h1];simp only[j4];rw[show Aj (bV (aP zs L.2.1) L t) À 0 L.1 L.2.1 L.2.2.1.1 L.2.2.1.2 L.2.2.2.1 L.2.2.2.2.1 L.2.2.2.2.2.1 L.2.2.2.2.2.2.1 L.2.2.2.2.2.2.2.1 L.2.2.2.2.2.2.2.2 (cs.getD L.2.2.2.2.2.2.2.1.toNat (q,((0:D),([]:E D)))).1 (cs.getD L.2.2.2.2.2.2.2.1.toNat (q,((0:D),([]:E D)))).2.1 (cs.getD L.2.2.2.2.2.2.2.1.toNat (q,((0:D),([]:E D)))).2.2 _ _=_ from SC hs hx (L:=L) (cs.getD L.2.2.2.2.2.2.2.1.toNat (q,((0:D),([]:E D)))).2.2.length 0 À aa ae];unfold gK;rw[cG hm];rfl
 simp only[jkk];rw[bU hL.z0 hL.z1];simp only[j6];rw[show jho ((zs.getD L.2.1.toNat (q,((0:D),([]:E aL)))).1,((zs.getD L.2.1.toNat (q,((0:D),([]:E aL)))).2.1,(zs.getD L.2.1.toNat (q,((0:D),([]:E aL)))).2.2)) (L.1,L.2.1,(L.2.2.1.1,L.2.2.1.2),L.2.2.2.1,L.2.2.2.2.1,L.2.2.2.2.2.1,L.2.2.2.2.2.2.1,L.2.2.2.2.2.2.2.1,L.2.2.2.2.2.2.2.2) t=_ from ek];simp only[j4,jf,j7];by_cases hk:0<=bV (aP zs L.2.1) L t
 .rw[an (show¬bV (aP zs L.2.1) L t<0 by omega)];simp only[j7,show F L.2.2.2.2.2.2.1.length=(L.2.2.2.2.2.2.1.length:D) from rfl];have iO:fy zs cs L t=cond (okW L.2.2.2.2.2.2.1 (fo (cD (aP zs L.2.1) t))) (gK zs cs L t) false:=by unfold fy;rw[ag hk];rfl
  rw[iO];by_cases hw:(L.2.2.2.2.2.2.1.length:D)>0
  .rw[ag hw,j6,show jsB ((zs.getD L.2.1.toNat (q,((0:D),([]:E aL)))).1,((zs.getD L.2.1.toNat (q,((0:D),([]:E aL)))).2.1,(zs.getD L.2.1.toNat (q,((0:D),([]:E aL)))).2.2)) L.2.2.2.2.2.2.1 t=_ from ein];simp only[j4];unfold okW;rw[ag hw,j6];cases hasB (fo (cD (aP zs L.2.1) t)) L.2.2.2.2.2.2.1 with
   |false=>exact⟨0,rfl,λh=>by simp at h⟩
   |true=>simp only[jc,j7,j6];exact⟨_,xA,λ_=>rfl⟩
  .rw[an hw,j7];unfold okW;rw[an hw];simp only[j7,j6];exact⟨_,xA,λ_=>rfl⟩
 .rw[ag (show bV (aP zs L.2.1) L t<0 by omega)];have iO:fy zs cs L t=false:=by unfold fy;rw[an hk];rfl
  rw[iO];simp only[j6,jc,jp,yb];exact⟨0,rfl,λh=>by simp at h⟩
theorem jC3{L:bA}(hL:iw zs.length ps.length cs.length L){ss:E cN}{t:D}(h0:0<=t)(h1:t<=8589934592):jnT (zs,(ps,(cs,ss))) L t=G (cA zs cs L t):=by
 obtain⟨k,e,hk⟩:=jEo hs hL (ss:=ss) h0 h1;have iO:fy zs cs L t=O->0<=bV (aP zs L.2.1) L t:=KS;simp only[jnT];rw[show jkk (zs,ps,cs,ss) (L.1,L.2.1,(L.2.2.1.1,L.2.2.1.2),L.2.2.2.1,L.2.2.2.2.1,L.2.2.2.2.2.1,L.2.2.2.2.2.2.1,L.2.2.2.2.2.2.2.1,L.2.2.2.2.2.2.2.2) t=_ from e];simp only[j4,show F L.2.2.2.2.2.1.length=(L.2.2.2.2.2.1.length:D) from rfl];unfold cA;cases hc:fy zs cs L t with
 |false=>rfl
 |true=>have pU:=hL.m0;have lk:=iO hc;have:=hk hc;subst this;have q1:0<=J (bV (aP zs L.2.1) L t) (L.2.2.2.2.2.1.length:D):=vr _ lk;have q2:J (bV (aP zs L.2.1) L t) (L.2.2.2.2.2.1.length:D)<(L.2.2.2.2.2.1.length:D):=zk _ aa;rw[cG (show¬(L.2.2.2.2.2.1.length:D)=0 by omega),bU q1 q2];rfl
end
end Go.Proofs.Pw
