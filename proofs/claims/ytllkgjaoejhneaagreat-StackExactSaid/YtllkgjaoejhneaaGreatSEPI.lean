/- FD.Merge, FD.View.Segments: who is on FD in a range. -/
import Derived.Test.YtllkgjaoejhneaaGreatSEPH
import Derived.KernelRfl
import Derived.Test.YtllkgjaoejhneaaGreatSEPE
import Derived.Test.YtllkgjaoejhneaaGreatSEPG
open ByteArray renaming empty->q,ext->Z
open _root_ renaming Int->D,List->E,Nat->O
open Int renaming ofNat->F,tmod->H
open Option renaming some->G,some_or->U,none->Y
open Bool renaming true->I,false->X
open List renaming getD->R,foldl_cons->S
open Go Go.Lft
namespace Go.Proofs.Pw
theorem jyy(l:cC)(x y:kR):(l++[x]).set l.length y=l++[y]:=by
 rw[vz _ _ (jy _)];simp
theorem QM(out:cC)(s:kR):(lG out s).length<=out.length+1:=by
 unfold lG;split
 .omega
 .rcases vf out with rfl|⟨l,u,rfl⟩
  .simp
  .rw[vg,yg];simp only[vq,U];split
   .simp
   .simp
theorem Zp:∀(l out:cC),(l.foldl lG out).length<=out.length+l.length
 |[],out=>af
 |s::r,out=>by
  have:=Zp r (lG out s);have:=QM out s;simp only[S,jq];omega
theorem Zq{l:cC}(hl:l.length<=1000000000):∀(n i:O)(out:cC),i+n=l.length->out.length<=i->BQ l (l.length:D) (i:D) out=G ((l.drop i).foldl lG out)
 |0,i,out,hi,ho=>by
  rw[VE];simp only[j4E];rw[ak aa,jd,ba,jj aa];rfl
 |n+1,i,out,hi,ho=>by
  have ct:i<l.length:=aa;have bm:l.getD i ((0:D),((0:D),(0:D)))=l[i]:=by simp[R,ct]
  have ih:∀uH:cC,uH=lG out l[i]->BQ l (l.length:D) ((i:D)+1) uH=G ((l.drop i).foldl lG out):=λuH he=>by
   rw[jh ct,S,<-he];have:=QM out l[i];exact Zq hl n (i+1) uH aa (by rw[he];omega)
  rw[VE];simp only[j4E];rw[ah aa,bP];simp only[jc,je,bm,show F out.length=(out.length:D) from rfl];rw[ar (x:=(i:D)+1)];generalize l[i]=s at *;by_cases hs:s.2.1<=s.1
  .rw[ah hs,jc,aV];exact ih _ (by unfold lG;rw[if_pos hs])
  .rw[ak hs,jd];rcases vf out with rfl|⟨o,u,rfl⟩
   .simp only[kr];rw[ak (show¬((0:O):D)>0 by omega),jd,ah (show 0+[(s.1,(s.2.1,s.2.2))].length<=aF by simp[aF]),jc,aV];exact ih _ (by unfold lG;rw[if_neg hs];rfl)
   .rw[vg]at ih ho ⊢;have xY:(o++[u]).length=o.length+1:=af;rw[xY]at ho;have gC:(o++[u]).getD o.length ((0:D),((0:D),(0:D)))=u:=by simp[R]
    rw[xY,ah (show ((o.length+1:O):D)>0 by omega),jc,ar (x:=((o.length+1:O):D)-1),show ((o.length+1:O):D)-1=(o.length:D) by omega,bP];simp only[jc,je,gC];have QN:lG (o++[u]) s=if u.2.1=s.1/\u.2.2=s.2.2 then o++[(u.1,(s.2.1,u.2.2))] else (o++[u])++[s]:=by unfold lG;rw[if_neg hs,yg];simp only[vq,U,List.dropLast_concat]
    by_cases h1:u.2.1=s.1
    .rw[fh h1,jc];by_cases h2:u.2.2=s.2.2
     .rw[fh h2,jc,aV,jyy];exact ih _ (by rw[QN,if_pos ⟨h1,h2⟩])
     .rw[cU h2,jd,ah (show o.length+1+[(s.1,(s.2.1,s.2.2))].length<=aF by simp[aF];omega),jc,aV];exact ih _ (by rw[QN,if_neg (λh=>h2 h.2)])
    .rw[cU h1,jd,ah (show o.length+1+[(s.1,(s.2.1,s.2.2))].length<=aF by simp[aF];omega),jc,aV];exact ih _ (by rw[QN,if_neg (λh=>h1 h.1)])
theorem jx1{l:cC}(hl:l.length<=1000000000):jbe l=G (l.foldl lG []):=by
 simp only[jbe,show F l.length=(l.length:D) from rfl];rw[show BQ l (l.length:D) 0 []=_ from Zq hl l.length 0 [] aa af];rfl
theorem Zr{f:D->D}{a b:D}{l:cC}(hl:l.length<=1000000000)(h:Ch f b a l):∃out,jbe l=G out/\gX f b Y a out/\out.length<=l.length:=
 ⟨_,jx1 hl,h.cov,by have:=Zp l [];simpa using this⟩
section
variable{zs:E bS}{ps:E eu}{cs:E bq}(hs:nI zs ps cs)
include hs
theorem JC{L:bC}(hL:iR zs.length ps.length cs.length L){t u:D}(h0:0<=t)(Aa:t<=u)(h1:u<=8589934592):bQ (aJ zs L.2.1) L t<=bQ (aJ zs L.2.1) L u:=by
 have hz:=fT hs.ok hL.z0 hL.z1;have a:=(pq hz hL.rt2 (t:=t) h0 aa).2;have b:=(pq hz hL.rt2 (t:=u) aa h1).2;show bQ (aJ zs L.2.1) L t<=bQ (aJ zs L.2.1) L u;have a':kB (aJ zs L.2.1).2.1 (tb (aJ zs L.2.1)).2 L t (bQ (aJ zs L.2.1) L t):=a;have b':kB (aJ zs L.2.1).2.1 (tb (aJ zs L.2.1)).2 L u (bQ (aJ zs L.2.1) L u):=b;generalize bQ (aJ zs L.2.1) L t=K at *;generalize bQ (aJ zs L.2.1) L u=K' at *;rcases a' with⟨a1,a2⟩|⟨a1,⟨v,hv,tV⟩,a3⟩<;>rcases b' with⟨b1,b2⟩|⟨b1,b2,b3⟩
 .omega
 .omega
 .exact absurd (QO.le hz.ztab.2 hL.rt2 a1 ⟨v,hv,aa⟩) b2
 .apply kn;intro hn;exact b3 (QO.le hz.ztab.2 hL.rt2 (show K'+1<=K by omega) ⟨v,hv,aa⟩)
def Cj(z:bS)(L:bC)(k nx t:D):Prop:=t<nx->(∀u,t<=u->u<nx->u<=8589934592->bQ z L u=k)/\(nx<=8589934592->k<bQ z L nx)
theorem jAN{L:bC}(hL:iR zs.length ps.length cs.length L){t:D}(h0:0<=t)(h1:t<=8589934592)(hk:0<=bQ (aJ zs L.2.1) L t){v:D}{ok:Bool}
  (hv:j0Q (tb (aJ zs L.2.1)) L (bQ (aJ zs L.2.1) L t+1)=G (v,ok)):t<(cond ok v 8589934593)/\Cj (aJ zs L.2.1) L (bQ (aJ zs L.2.1) L t) (cond ok v 8589934593) t:=by
 have hz:=fT hs.ok hL.z0 hL.z1;have a:=(pq hz hL.rt2 (t:=t) h0 h1).2;have a':kB (aJ zs L.2.1).2.1 (tb (aJ zs L.2.1)).2 L t (bQ (aJ zs L.2.1) L t):=a;have hu:∀u,t<=u->u<=8589934592->kB (aJ zs L.2.1).2.1 (tb (aJ zs L.2.1)).2 L u (bQ (aJ zs L.2.1) L u):=λu _ h2=>(pq hz hL.rt2 (t:=u) aa h2).2;generalize hK:bQ (aJ zs L.2.1) L t=K at *;rcases a' with⟨a1,a2⟩|⟨a1,⟨w,hw,hwt⟩,a3⟩
 .omega
 .have oL:=zX hz.ztab.2 hL.rt2 a1 hw;obtain⟨v',ev,gn⟩:=ph hz.ztab.2 hL.rt2 (k:=K+1) aa aa;have:=ev.symm.trans hv;simp only[jb,jf]at this;obtain⟨rfl,rfl⟩:=this;cases hh:hO (zs.getD L.2.1.toNat (q,((0:D),([]:E aH)))).2.1 (tb (zs.getD L.2.1.toNat (q,((0:D),([]:E aH))))).2 L (K+1) with
  |none=>
   simp only[ve,jd]
   exact⟨aa,λ_=>⟨λu h2 h3 h4=>kB.uniq hz.ztab.2 hL.rt2 (hu u h2 h4) (.inr ⟨a1,⟨w,hw,aa⟩,λ⟨x,hx,_⟩=>by
    have mL:=hh.symm.trans hx;simp at mL⟩),λh=>aa⟩⟩
  |some x=>
   have:=gn x hh;subst this;simp only[zm,jc]
   refine⟨?_,λ_=>⟨λu h2 h3 h4=>kB.uniq hz.ztab.2 hL.rt2 (hu u h2 h4) (.inr ⟨a1,⟨w,hw,aa⟩,λ⟨x,hx,iO⟩=>by
    have mL:=hh.symm.trans hx;simp only[jb]at mL;omega⟩),λhle=>?_⟩⟩
   rotate_left
   .have QP:v'<=8589934592:=hle;have Bb:t<=v':=by apply kn;intro hn;exact a3 ⟨_,hh,aa⟩
    have b':=hu v' Bb QP;rcases b' with⟨b1,b2⟩|⟨b1,b2,b3⟩
    .exact absurd (QO.le hz.ztab.2 hL.rt2 (show (0:D)<=K+1 by omega) ⟨_,hh,kx _⟩) b2
    .apply kn;intro hn;exact b3 (QO.le hz.ztab.2 hL.rt2 (show bQ (aJ zs L.2.1) L v'+1<=K+1 by omega) ⟨_,hh,kx _⟩)
   apply kn;intro hn;exact a3 ⟨_,hh,aa⟩
theorem jC8{L:bC}(hL:iR zs.length ps.length cs.length L){k:D}(hk:0<=k):∃_:(H k (L.2.2.2.2.2.1.length:D)).toNat<L.2.2.2.2.2.1.length,0<=H k (L.2.2.2.2.2.1.length:D)/\H k (L.2.2.2.2.2.1.length:D)<(L.2.2.2.2.2.1.length:D)/\L.2.2.2.2.2.1.getD (H k (L.2.2.2.2.2.1.length:D)).toNat 0=nJ L k:=by
 have _:=hs;have pj:=hL.m0;have q1:0<=H k (L.2.2.2.2.2.1.length:D):=ya _ hk;have q2:H k (L.2.2.2.2.2.1.length:D)<(L.2.2.2.2.2.1.length:D):=vd _ aa;exact⟨aa,q1,q2,rfl⟩
theorem Zs{L:bC}(hL:iR zs.length ps.length cs.length L){a b e p m j:D}{sp:SL}(ha:0<=a)(he:e<=8589934592){B:D}(hB:B<=1000000):∀(n:O)(t k nx:D)(acc:cC),e-t=n->a<=t->
  (∀u,t<=u->u<e->fq zs cs L u=I)->Cj (aJ zs L.2.1) L k nx t->Ch (cK zs cs L) t a acc->(t<e->(acc.length:D)<=B+bQ (aJ zs L.2.1) L t)->
  (t=e->a<e->(acc.length:D)<=B+1+bQ (aJ zs L.2.1) L (e-1))->
  ∃k' lJ bE,ED b t k nx m j L.1 L.2.1 L.2.2.1.1 L.2.2.1.2 L.2.2.2.1 L.2.2.2.2.1 L.2.2.2.2.2.1 L.2.2.2.2.2.2.1 L.2.2.2.2.2.2.2.1 L.2.2.2.2.2.2.2.2 (tb (aJ zs L.2.1)).1 (tb (aJ zs L.2.1)).2 p e acc sp=
   G (b,e,k',lJ,m,j,L.1,L.2.1,L.2.2.1.1,L.2.2.1.2,L.2.2.2.1,L.2.2.2.2.1,L.2.2.2.2.2.1,L.2.2.2.2.2.2.1,L.2.2.2.2.2.2.2.1,L.2.2.2.2.2.2.2.2,(tb (aJ zs L.2.1)).1,(tb (aJ zs L.2.1)).2,bE,sp)/\
   Cj (aJ zs L.2.1) L k' lJ e/\Ch (cK zs cs L) e a bE/\(a<e->(bE.length:D)<=B+1+bQ (aJ zs L.2.1) L (e-1))
 |n,t,k,nx,acc,hn,oL,lI,hc,wV,hl,sw=>by
  have hz:=fT hs.ok hL.z0 hL.z1;rw[jdB];simp only[j2N];by_cases cP:t<e
  .rw[ah cP,jc];have QQ:=lI t (kx _) cP;obtain⟨eK,hK⟩:j26 (tb (aJ zs L.2.1)) L t=G (bQ (aJ zs L.2.1) L t)/\kB (aJ zs L.2.1).2.1 (tb (aJ zs L.2.1)).2 L t (bQ (aJ zs L.2.1) L t):=pq hz hL.rt2 (t:=t) aa aa;have kN:0<=bQ (aJ zs L.2.1) L t:=JB QQ
   have rr:bQ (aJ zs L.2.1) L t<=2386092:=by
    have hK':kB (aJ zs L.2.1).2.1 (tb (aJ zs L.2.1)).2 L t (bQ (aJ zs L.2.1) L t):=hK;rcases hK' with⟨h1,_⟩|⟨h1,⟨w,hw,_⟩,_⟩
    .omega
    .exact(zX hz.ztab.2 hL.rt2 h1 hw).2.2
   obtain⟨_,q1,q2,q3⟩:=jC8 hs hL kN;have pj:=hL.m0;have au:=hl cP
   have step:∀lJ:D,t<lJ->Cj (aJ zs L.2.1) L (bQ (aJ zs L.2.1) L t) lJ t->∀bE:cC,bE=acc++[(t,((if lJ<e then lJ else e),nJ L (bQ (aJ zs L.2.1) L t)))]->
     ∃Zt FE sd,ED b (if lJ<e then lJ else e) (bQ (aJ zs L.2.1) L t) lJ m j L.1 L.2.1 L.2.2.1.1 L.2.2.1.2 L.2.2.2.1 L.2.2.2.2.1 L.2.2.2.2.2.1 L.2.2.2.2.2.2.1 L.2.2.2.2.2.2.2.1 L.2.2.2.2.2.2.2.2 (tb (aJ zs L.2.1)).1 (tb (aJ zs L.2.1)).2 p e bE sp=
      G (b,e,Zt,FE,m,j,L.1,L.2.1,L.2.2.1.1,L.2.2.1.2,L.2.2.2.1,L.2.2.2.2.1,L.2.2.2.2.2.1,L.2.2.2.2.2.2.1,L.2.2.2.2.2.2.2.1,L.2.2.2.2.2.2.2.2,(tb (aJ zs L.2.1)).1,(tb (aJ zs L.2.1)).2,sd,sp)/\
      Cj (aJ zs L.2.1) L Zt FE e/\Ch (cK zs cs L) e a sd/\(a<e->(sd.length:D)<=B+1+bQ (aJ zs L.2.1) L (e-1)):=by
    rintro lJ JD dr _ rfl
    obtain⟨t',sA,h1,h2,h3,h4⟩:∃t':D,t'=(if lJ<e then lJ else e)/\t<t'/\t'<=e/\t'<=lJ/\(t'<e->t'=lJ):=⟨_,rfl,by split<;>omega,by split<;>omega,by split<;>omega,λh=>by
     by_cases hx:lJ<e
     .rw[if_pos hx]
     .rw[if_neg hx]at h;omega⟩
    rw[<-sA]
    refine Zs hL ha he hB (e-t').toNat t' (bQ (aJ zs L.2.1) L t) lJ _ aa aa (λu u1 u2=>lI u aa u2) (λh5=>⟨λu u1 u2 u3=>(dr JD).1 u aa u2 u3,(dr JD).2⟩)
     (wV.snoc aa (λu u1 u2=>?_)) (λfE=>?_) (λheq _=>?_)
    .unfold cK;rw[lI u u1 aa,(dr JD).1 u u1 aa aa];rfl
    .have hm:=JC hs hL (t:=t) (u:=t') aa aa aa;have br:bQ (aJ zs L.2.1) L t<bQ (aJ zs L.2.1) L t':=by have:=h4 fE;subst this;exact(dr JD).2 aa
     simp only[jn,qs];omega
    .have hm:=JC hs hL (t:=t) (u:=e-1) aa aa aa;simp only[jn,qs];omega
   by_cases Zu:t>=nx
   .rw[ah Zu,jc];rw[show j26 ((tb (aJ zs L.2.1)).1,(tb (aJ zs L.2.1)).2) (L.1,L.2.1,(L.2.2.1.1,L.2.2.1.2),L.2.2.2.1,L.2.2.2.2.1,L.2.2.2.2.2.1,L.2.2.2.2.2.2.1,L.2.2.2.2.2.2.2.1,L.2.2.2.2.2.2.2.2) t=_ from eK];simp only[ja];rw[ar (x:=bQ (aJ zs L.2.1) L t+1)];obtain⟨v,ev,_⟩:=ph hz.ztab.2 hL.rt2 (k:=bQ (aJ zs L.2.1) L t+1) aa aa;have gz:=jAN hs hL (t:=t) aa aa kN ev;rw[show j0Q ((tb (aJ zs L.2.1)).1,(tb (aJ zs L.2.1)).2) (L.1,L.2.1,(L.2.2.1.1,L.2.2.1.2),L.2.2.2.1,L.2.2.2.2.1,L.2.2.2.2.2.1,L.2.2.2.2.2.2.1,L.2.2.2.2.2.2.2.1,L.2.2.2.2.2.2.2.2) (bQ (aJ zs L.2.1) L t+1)=_ from ev];simp only[ja,show F L.2.2.2.2.2.1.length=(L.2.2.2.2.2.1.length:D) from rfl];rw[cU (show¬(L.2.2.2.2.2.1.length:D)=0 by omega),cb q1 q2];have bT:∀x:kR,acc.length+[x].length<=aF:=λx=>by simp[aF];omega
    revert gz
    generalize (hO (zs.getD L.2.1.toNat (q,((0:D),([]:E aH)))).2.1 (tb (zs.getD L.2.1.toNat (q,((0:D),([]:E aH))))).2 L (bQ (aJ zs L.2.1) L t+1)).isSome=ok
    cases ok with
    |false=>intro gz;simp only[jv,jc];rw[ah (bT _),jc,aV];exact step 8589934593 gz.1 gz.2 _ (by rw[q3])
    |true=>intro gz;simp only[jk,jv,jd,jc];rw[ah (bT _),jc,aV];exact step v gz.1 gz.2 _ (by rw[q3])
   .have hk:=(hc aa).1 t (kx _) aa aa;subst hk;rw[ak Zu,jd];simp only[show F L.2.2.2.2.2.1.length=(L.2.2.2.2.2.1.length:D) from rfl];rw[cU (show¬(L.2.2.2.2.2.1.length:D)=0 by omega),cb q1 q2];simp only[jv,jc];rw[ah (show acc.length+[_].length<=aF by simp[aF];omega),jc,aV];exact step nx aa hc _ (by rw[q3])
  .have QR:t=e:=aa;subst QR;rw[ak cP,jd,ba];exact⟨k,nx,acc,rfl,hc,wV,sw rfl⟩
 termination_by n=>n
theorem Zv{L:bC}(hL:iR zs.length ps.length cs.length L){a b:D}(ha:0<=a)(hb:b<=8589934592){A:SL}(hA:A.length<=400000)(sb:∀t,bG t A↔a<=t/\t<b/\fq zs cs L t=I)
  {k0:D}{N:O}(hN:N<=4000000)(kN : -1<=k0)(Ca:∀t,a<=t->t<b->fq zs cs L t=I->k0<=bQ (aJ zs L.2.1) L t/\bQ (aJ zs L.2.1) L t<=k0+N) :
  ∀(n j:O)(t k nx Kc:D)(acc:cC),j+n=A.length->a<=t->t<=b->bX (t-1) (A.drop j)->(∀u,t<=u->(bG u A↔bG u (A.drop j)))->Cj (aJ zs L.2.1) L k nx t->Ch (cK zs cs L) t a acc->
   k0<=Kc->Kc<=k0+N->(∀u,t<=u->bG u A->Kc<=bQ (aJ zs L.2.1) L u)->(acc.length:D)<=2*j+(Kc-k0)->
  ∃t' bE,EE b t k nx (A.length:D) (j:D) L.1 L.2.1 L.2.2.1.1 L.2.2.1.2 L.2.2.2.1 L.2.2.2.2.1 L.2.2.2.2.2.1 L.2.2.2.2.2.2.1 L.2.2.2.2.2.2.2.1 L.2.2.2.2.2.2.2.2 (tb (aJ zs L.2.1)).1 (tb (aJ zs L.2.1)).2 acc A=G (b,t',bE)/\
   Ch (cK zs cs L) b a (bE++[(t',(b, -1))])/\bE.length<=2*A.length+N
 |0,j,t,k,nx,Kc,acc,hj,oL,Zw,aO,gK,hc,wV,hK1,hK2,Zx,hl=>by
  rw[VF];simp only[j1W];rw[ak aa,jd,ba];refine⟨t,acc,rfl,wV.snoc Zw (λu u1 u2=>?_),aa⟩
  have:fq zs cs L u=false:=by
   cases ho:fq zs cs L u with
   |false=>rfl
   |true=>have:=(gK u u1).1 ((sb u).2 ⟨aa,u2,ho⟩);rw[jj aa]at this;exact absurd this fU
  unfold cK;rw[this];rfl
 |n+1,j,t,k,nx,Kc,acc,hj,oL,Zw,aO,gK,hc,wV,hK1,hK2,Zx,hl=>by
  have jI:j<A.length:=aa;have bm:A.getD j ((0:D),(0:D))=A[j]:=by simp[R,jI]
  rw[jh jI]at aO gK;obtain⟨s1,s2,s3⟩:=aO;have lI:∀u,A[j].1<=u->u<A[j].2->bG u A:=λu u1 u2=>(gK u aa).2 (fi.2 (.inl ⟨u1,u2⟩));have sk:=(sb A[j].1).1 (lI _ (kx _) s2);have xn:=(sb (A[j].2-1)).1 (lI _ aa aa);have hKj:=Zx A[j].1 aa (lI _ (kx _) s2);rw[VF];simp only[j1W];rw[ah (show (j:D)<(A.length:D) by omega),bP];simp only[jc,je,bm];rw[ah (show acc.length+[_].length<=aF by simp[aF];omega),jc]
  obtain⟨k',lJ,bE,e2,c2,h2,l2⟩:=Zs hs hL (a:=a) (b:=b) (e:=A[j].2) (p:=A[j].1) (m:=(A.length:D)) (j:=(j:D)) (sp:=A) ha aa (B:=2*j+1-k0) aa (A[j].2-A[j].1).toNat A[j].1 k nx
   (acc++[(t,(A[j].1, -1))]) aa aa (λu u1 u2=>((sb u).1 (lI u u1 u2)).2.2) (λh5=>by
    have h6:=hc aa;exact⟨λu u1 u2 u3=>h6.1 u aa u2 u3,h6.2⟩) (wV.snoc aa (λu u1 u2=>by
    have:fq zs cs L u=false:=by
     cases ho:fq zs cs L u with
     |false=>rfl
     |true=>
      have:=(gK u u1).1 ((sb u).2 ⟨aa,aa,ho⟩);rcases fi.1 this with h|h
      .omega
      .have:=bX.low s3 h;omega
    unfold cK;rw[this];rfl)) (λ_=>by rw[jn,qs];omega) (λh=>aa)
  rw[e2];simp only[ja];rw[ar (x:=(j:D)+1),aV];have sw:=l2 aa;have hr:=Ca (A[j].2-1) aa aa xn.2.2
  exact Zv hL ha hb hA sb hN kN Ca n (j+1) A[j].2 k' lJ (bQ (aJ zs L.2.1) L (A[j].2-1)) bE aa aa aa (s3.weak aa) (λu hu=>by
   rw[gK u aa,fi]
   exact⟨λh=>by
    rcases h with h|h
    .omega
    .exact h,.inr⟩) c2 h2 hr.1 hr.2 (λu hu QS=>by
   have:=(sb u).1 QS;exact JC hs hL aa aa aa) aa
theorem jAO{L:bC}(hL:iR zs.length ps.length cs.length L){ss:E dC}{a b:D}(ha:0<=a)(cX:a<=b)(hb:b<=8589934592){M:O}(hM:M<=60)(hlen:b-a<=604800*M)
  {k0:D}{N:O}(hN:N<=4000000)(kN : -1<=k0)(Ca:∀t,a<=t->t<b->fq zs cs L t=I->k0<=bQ (aJ zs L.2.1) L t/\bQ (aJ zs L.2.1) L t<=k0+N) :
  ∃out,j2x ((zs,(ps,(cs,ss))),zs.map tb) L a b=G out/\gX (cK zs cs L) b Y a out/\
   out.length<=2*(L.2.2.2.2.2.2.1.length*(M+1)*5+1+(if L.2.2.2.2.2.2.2.2=0 then 0 else (fV cs L.2.2.2.2.2.2.2.1).2.2.length*5))+N+1:=by
 have fo:(zs.map tb).length=zs.length:=ky ..;have hg:=Ft (zs:=zs) hL.z0 hL.z1;obtain⟨A,e1,s1,s2,s3⟩:=jwZ hs hL (ss:=ss) ha cX hb hM hlen
 have hAl:A.length<=400000:=by
  have h1:L.2.2.2.2.2.2.1.length*(M+1)<=14*61:=z7 hL.wl aa;by_cases hm:L.2.2.2.2.2.2.2.2=0
  .rw[if_pos hm]at s3;omega
  .rw[if_neg hm]at s3;have hx:=(lF hs (hL.cal hm).1 (hL.cal hm).2).len;have Ac:(fV cs L.2.2.2.2.2.2.2.1).2.2.length<=64:=hx;omega
 obtain⟨t',acc,e2,h2,l2⟩:=Zv hs hL ha hb hAl s2 hN kN Ca A.length 0 a (-1) (-1) k0 [] aa (kx _) cX s1 (λu _=>af) (λh=>aa) rfl (kx _) aa (λu hu QS=>by
  have:=(s2 u).1 QS;exact(Ca u this.1 this.2.1 this.2.2).1) af
 obtain⟨out,e3,h3,l3⟩:=Zr (l:=acc++[(t',(b, -1))]) (by rw[jn,qs];omega) h2;refine⟨out,?_,h3,by rw[jn,qs]at l3;omega⟩;simp only[j2x];rw[cb hL.z0 (by rw[fo];exact hL.z1)];simp only[jc,hg];rw[show j6x ((zs,(ps,(cs,ss))),zs.map tb) (L.1,L.2.1,(L.2.2.1.1,L.2.2.1.2),L.2.2.2.1,L.2.2.2.2.1,L.2.2.2.2.2.1,L.2.2.2.2.2.2.1,L.2.2.2.2.2.2.2.1,L.2.2.2.2.2.2.2.2) a b=_ from e1];simp only[ja,show F A.length=(A.length:D) from rfl];rw[show EE b a (-1) (-1) (A.length:D) 0 L.1 L.2.1 L.2.2.1.1 L.2.2.1.2 L.2.2.2.1 L.2.2.2.2.1 L.2.2.2.2.2.1 L.2.2.2.2.2.2.1 L.2.2.2.2.2.2.2.1 L.2.2.2.2.2.2.2.2 (tb (zs.getD L.2.1.toNat (q,((0:D),([]:E aH))))).1 (tb (zs.getD L.2.1.toNat (q,((0:D),([]:E aH))))).2 [] A=_ from e2];simp only[ja];rw[ah (show acc.length+[_].length<=aF by simp[aF];omega),jc,e3];rfl
end
section
variable{zs:E bS}{ps:E eu}{cs:E bq}(hs:nI zs ps cs)
include hs
omit hs in
theorem mQ.near{o:D}{l:bg}(h:iD o l){s t:D}{k:O}(f:mQ o l s t k)(hs:0<=s):s-64800<=t/\t<=s+64800:=by
 obtain⟨p1,p2,p3⟩:=f.piece h;have hk:=f.hk;have o1:=h.of1 k hk;have o0:=h.of0 k hk;have ht:=f.ht;refine⟨aa,?_⟩;by_cases h0:k=0
 .subst h0;have e0:aS l 0=0:=lD;omega
 .obtain⟨j,rfl⟩:∃j,k=j+1:=⟨k-1,aa⟩;have b:=f.bef j aa;have o2:=h.of0 j aa;omega
theorem jAP{L:bC}(hL:iR zs.length ps.length cs.length L){t u:D}(h0:0<=t)(Aa:t<=u)(h1:u<=8589934592):bQ (aJ zs L.2.1) L u<=bQ (aJ zs L.2.1) L t+(u-t)/3600+8:=by
 have hz:=fT hs.ok hL.z0 hL.z1;have aO:=hL.rt2.step;have sR:=hL.rt2.e0;have gI:=hL.c0;have hd:=hL.d0;have a':kB (aJ zs L.2.1).2.1 (tb (aJ zs L.2.1)).2 L t (bQ (aJ zs L.2.1) L t):=(pq hz hL.rt2 (t:=t) h0 aa).2;have b':kB (aJ zs L.2.1).2.1 (tb (aJ zs L.2.1)).2 L u (bQ (aJ zs L.2.1) L u):=(pq hz hL.rt2 (t:=u) aa h1).2;generalize bQ (aJ zs L.2.1) L t=K at *;generalize bQ (aJ zs L.2.1) L u=K' at *;have hK : -1<=K:=by rcases a' with⟨h,_⟩|⟨h,_⟩<;>omega
 have hn:¬QO (aJ zs L.2.1).2.1 (tb (aJ zs L.2.1)).2 L t (K+1):=by
  rcases a' with⟨h,h2⟩|⟨_,_,h2⟩
  .rw[h];exact h2
  .exact h2
 by_cases hKK:K'<=K+1
 .omega
 .rcases b' with⟨h,_⟩|⟨hK0,⟨v,hv,hvu⟩,_⟩
  .omega
  .obtain⟨w,hw,hwu⟩:QO (aJ zs L.2.1).2.1 (tb (aJ zs L.2.1)).2 L u (K+1):=QO.le hz.ztab.2 hL.rt2 (show K+1<=K' by omega) ⟨v,hv,hvu⟩;have hwt:t<w:=by apply kn;intro hx;exact hn ⟨w,hw,aa⟩
   have hm:3600*(K'-(K+1))<=3600*L.2.2.2.2.1*(K'-(K+1)):=Int.mul_le_mul_of_nonneg_right aa aa;by_cases hu:L.2.2.2.1=0
   .unfold hO at hv hw;rw[if_pos hu]at hv hw;cases hf:fO (aJ zs L.2.1).2.1 (tb (aJ zs L.2.1)).2 (dp L 0) with
    |none=>rw[hf]at hv;simp at hv
    |some x=>
     rw[hf]at hv hw;simp only[ja]at hv hw;split at hv
     .split at hw
      .simp only[jb]at hv hw;have e:3600*L.2.2.2.2.1*(K'-(K+1))=3600*L.2.2.2.2.1*K'-3600*L.2.2.2.2.1*(K+1):=Int.mul_sub ..;omega
      .simp at hw
     .simp at hv
   .unfold hO at hv hw;rw[if_neg hu]at hv hw;obtain⟨k1,f1⟩:=Jt hv;obtain⟨k2,f2⟩:=Jt hw;have e:(K'-(K+1))*dB L=K'*dB L-(K+1)*dB L:=Int.sub_mul ..;have gV:(K'-(K+1))*1<=(K'-(K+1))*dB L:=Int.mul_le_mul_of_nonneg_left aO.1 aa;have YB:0<=(K+1)*dB L:=Int.mul_nonneg aa aa;have g1:=f1.near hz.ztab.2 (by unfold dp;omega);have g2:=f2.near hz.ztab.2 (by unfold dp;omega);unfold dp at g1 g2;omega
theorem jx2{L:bC}(hL:iR zs.length ps.length cs.length L){a b:D}(ha:0<=a)(hb:b<=8589934592):∀t,a<=t->t<b->fq zs cs L t=I->bQ (aJ zs L.2.1) L a<=bQ (aJ zs L.2.1) L t/\bQ (aJ zs L.2.1) L t<=bQ (aJ zs L.2.1) L a+(((b-a)/3600+8).toNat:D):=λt h1 h2 _=>by
 have e1:=JC hs hL (t:=a) (u:=t) ha h1 aa;have e2:=jAP hs hL (t:=a) (u:=t) ha h1 aa;omega
theorem jCR{L:bC}(hL:iR zs.length ps.length cs.length L){t:D}(h0:0<=t)(h1:t<=8589934592) : -1<=bQ (aJ zs L.2.1) L t:=by
 have hz:=fT hs.ok hL.z0 hL.z1;have a':kB (aJ zs L.2.1).2.1 (tb (aJ zs L.2.1)).2 L t (bQ (aJ zs L.2.1) L t):=(pq hz hL.rt2 (t:=t) h0 h1).2;rcases a' with⟨h,_⟩|⟨h,_⟩<;>omega
theorem jyz{L:bC}(hL:iR zs.length ps.length cs.length L){ss:E dC}{a b:D}(ha:0<=a)(cX:a<=b)(hb:b<=8589934592)(hlen:b-a<=35078400) :
  ∃out,j2x ((zs,(ps,(cs,ss))),zs.map tb) L a b=G out/\gX (cK zs cs L) b Y a out/\out.length<=30000:=by
 obtain⟨out,e,h1,h2⟩:=jAO hs hL (ss:=ss) ha cX hb (M:=58) aa aa (N:=((b-a)/3600+8).toNat) aa (jCR hs hL ha aa) (jx2 hs hL ha hb);refine⟨out,e,h1,?_⟩;have hw:L.2.2.2.2.2.2.1.length*(58+1)*5<=14*59*5:=kg _ (kg _ hL.wl)
 have hc:(if L.2.2.2.2.2.2.2.2=0 then 0 else (fV cs L.2.2.2.2.2.2.2.1).2.2.length*5)<=64*5:=by
  by_cases hm:L.2.2.2.2.2.2.2.2=0
  .rw[if_pos hm];omega
  .rw[if_neg hm];exact kg _ (lF hs (hL.cal hm).1 (hL.cal hm).2).len
 omega
end
theorem Zy{x y:ByteArray}(h:x≠y):(x.toList==y.toList)=false:=by
 rw[ByteArray.toList_eq,ByteArray.toList_eq];exact qj.2 λhh=>h (Z (Array.toList_inj.mp (eq_of_beq hh)))
theorem QT:j9s=G 98980:=by kernel_rfl
theorem jCb{d:D}(h:j1c d=G I):d<=98980:=by
 apply kn;intro hd;simp only[j1c,j5t,YF,YE,ja]at h;rw[ak (show¬d<0 by omega),ah (show d>=98981 by omega)]at h;simp at h
theorem jCc{d:D}(h:j1c d=G I):0<=d:=by
 apply kn;intro hd;simp only[j1c,j5t,YF,YE,ja]at h;rw[ah (show d<0 by omega)]at h;simp at h
section
variable{zs:E bS}{ps:E eu}{cs:E bq}{ss:E dC}
theorem Zz{w:WL}(h:gF 0 w)(hl:w.length<=14):∀(n i:O),i+n=w.length->BV w (i:D)=G (.inr ())
 |0,i,hi=>by
  rw[HZ];simp only[j2Z,show F w.length=(w.length:D) from rfl];rw[ak aa,jd,ba]
 |n+1,i,hi=>by
  have ct:i<w.length:=aa;have hg:=zT h i ct;have ih:=Zz h hl n (i+1) aa;rw[HZ];simp only[j2Z,show F w.length=(w.length:D) from rfl];rw[ah aa,bP];simp only[jc,je];rw[ak (show¬(w.getD i (0,0)).1<0 by omega),ak (show¬(w.getD i (0,0)).1>=(w.getD i (0,0)).2 by omega),ak (show¬(w.getD i (0,0)).2>604800 by omega),ar (x:=(i:D)+1)];simp only[jd];by_cases h0:(i:D)>0
  .obtain⟨k,rfl⟩:∃k,i=k+1:=⟨i-1,aa⟩;have hgap:=X4 h k aa;rw[ah h0,jc,ar (x:=((k+1:O):D)-1),show ((k+1:O):D)-1=(k:D) by omega,cb (show (0:D)<=(k:D) by omega) aa];simp only[jc,je];rw[ak (show¬(w.getD (k+1) (0,0)).1<(w.getD k (0,0)).2 by omega),jd,aV];exact ih
  .rw[ak h0,jd,aV];exact ih
theorem FF{w:WL}(h:gF 0 w)(hl:w.length<=14):j6G w=G 0:=by
 simp only[j6G,show F w.length=(w.length:D) from rfl];rw[ak aa,jd,show BV w 0=_ from Zz h hl w.length 0 aa];rfl
end
theorem QU{w:WL}(hl:w.length<=14)(s:D):∀(n i:O),i+n=w.length->EP w s (i:D)=G (cond (hasB s (w.drop i)) (.inl I) (.inr ()))
 |0,i,hi=>by
  rw[Wk];simp only[j4N,show F w.length=(w.length:D) from rfl];rw[ak aa,jd,ba,jj aa];rfl
 |n+1,i,hi=>by
  have ct:i<w.length:=aa;have bm:w.getD i ((0:D),(0:D))=w[i]:=by simp[R,ct]
  rw[Wk];simp only[j4N,show F w.length=(w.length:D) from rfl];rw[ah aa,bP];simp only[jc,zv,je,bm];rw[ar (x:=(i:D)+1),jh ct];have hb:hasB s (w[i]::w.drop (i+1))=cond (cond (decide (w[i].1<=s)) (decide (s<w[i].2)) X) I (hasB s (w.drop (i+1))):=rfl;rw[hb];by_cases h1:w[i].1<=s
  .rw[ah (show s>=w[i].1 from h1)];simp only[jc];by_cases h2:s<w[i].2
   .rw[ah h2];rfl
   .rw[ak h2];simp only[jd,aV];exact QU hl s n (i+1) aa
  .rw[ak (show¬s>=w[i].1 from h1)];simp only[jd,aV];exact QU hl s n (i+1) aa
theorem jx5{w:WL}(hl:w.length<=14)(s:D):jga w s=G (hasB s w):=by
 have:=QU hl s w.length 0 aa;simp only[jga,show EP w s 0=_ from this,ja,jt];cases hasB s w<;>rfl
theorem ZA{z:bS}(hz:fR z){t:D}(h0:0<=t)(h1:t<=8589934592):j3I z t=G (cm z t,0):=by
 have h4:=hz.zref.2.1;obtain⟨k,hk,k1,k2⟩:=sT h4.2 h0 h1;have e:=B6 h4.2 hk k1 k2;have:cm z t=((t+bj z.2.1 (tb z).2 k)/86400,(t+bj z.2.1 (tb z).2 k)%86400):=by simp only[cm,show j0o (tb z) t=_ from e,zj]
 rw[this];exact Yr h4 h0 h1 hk k1 k2
theorem jCe{z:bS}(hz:fR z){t:D}(h0:0<=t)(h1:t<=8589934592){w:WL}(hw:gF 0 w)(hl:w.length<=14):jbh z t=G (fj (cm z t),0)/\jpU z w t=G (hasB (fj (cm z t)) w):=by
 have e1:=ZA hz h0 h1;obtain⟨_,uG⟩:=FA hz h0 h1;have e2:j6Z (cm z t)=G (fj (cm z t)):=uG;have e3:jbh z t=G (fj (cm z t),0):=by simp only[jbh,show j3I (z.1,(z.2.1,z.2.2)) t=_ from e1,ja,jm,jd,show j6Z ((cm z t).1,(cm z t).2)=_ from e2]
 refine⟨e3,?_⟩;simp only[jpU,show jbh (z.1,(z.2.1,z.2.2)) t=_ from e3,ja,ql,jc,FF hw hl,jx5 hl]
section
variable{zs:E bS}{ps:E eu}{cs:E bq}(hs:nI zs ps cs)
include hs
theorem QV{k d e:D}{x:bq}(hx:pV zs.length x){L:bC}:∀(n i:O)(b:Bool),i+n=x.2.2.length->b=decide (d∈x.2.2.take i)->
  zF k b (i:D) L.1 L.2.1 L.2.2.1.1 L.2.2.1.2 L.2.2.2.1 L.2.2.2.2.1 L.2.2.2.2.2.1 L.2.2.2.2.2.2.1 L.2.2.2.2.2.2.2.1 L.2.2.2.2.2.2.2.2 x.1 x.2.1 x.2.2 d e=
   G (k,decide (d∈x.2.2),L.1,L.2.1,L.2.2.1.1,L.2.2.1.2,L.2.2.2.1,L.2.2.2.2.1,L.2.2.2.2.2.1,L.2.2.2.2.2.2.1,L.2.2.2.2.2.2.2.1,L.2.2.2.2.2.2.2.2)
 |0,i,b,hi,hb=>by
  rw[Wl];simp only[j61,show F x.2.2.length=(x.2.2.length:D) from rfl];rw[ak aa,jd,ba,hb,List.take_of_length_le aa]
 |n+1,i,b,hi,hb=>by
  have _:=hs;have nS:=hx.len;have ct:i<x.2.2.length:=aa;have bm:x.2.2.getD i (0:D)=x.2.2[i]:=by simp[ct]
  rw[Wl];simp only[j61,show F x.2.2.length=(x.2.2.length:D) from rfl];rw[ah aa,ar (x:=(i:D)+1),jc];have ht:x.2.2.take (i+1)=x.2.2.take i++[x.2.2[i]]:=by rw[yd,kb ct];rfl
  cases DQ:b with
  |true=>simp only[jc,aV];refine QV hx n (i+1) I aa ?_;have:d∈x.2.2.take i:=qb (by rw[<-hb,DQ]);rw[ht];exact(ah (jx _ this)).symm
  |false=>
   have bY:d∉x.2.2.take i:=of_decide_eq_false (by rw[<-hb,DQ]);rw[cb (show (0:D)<=(i:D) by omega) aa];simp only[jd,jc,je,bm,aV];refine QV hx n (i+1) _ aa ?_;rw[ht];by_cases he:x.2.2[i]=d
   .rw[fh he];exact(ah (jw _ (by simp[he]))).symm
   .rw[cU he];refine(ak λhm=>?_).symm;rcases js.1 hm with h|h
    .exact bY h
    .simp at h;exact he h.symm
theorem jAS{L:bC}(hL:iR zs.length ps.length cs.length L){ss:E dC}{t:D}(h0:0<=t)(h1:t<=8589934592):∃k,jia (zs,(ps,(cs,ss))) L t=G (k,fq zs cs L t)/\(fq zs cs L t=I->k=bQ (aJ zs L.2.1) L t):=by
 have mR:=hL.rt2;have hz:fR (aJ zs L.2.1):=fT hs.ok hL.z0 hL.z1;have h4:=hz.zref.2.1;obtain⟨K,eK,hK⟩:=Zb h4 mR h0 h1;have hKs:K=bQ (aJ zs L.2.1) L t:=kB.uniq h4.2 mR hK (pq hz mR h0 h1).2;subst hKs;have ek:jfv (aJ zs L.2.1) L t=G (bQ (aJ zs L.2.1) L t,0):=by simp only[jfv,show jbD ((aJ zs L.2.1).1,((aJ zs L.2.1).2.1,(aJ zs L.2.1).2.2)) (L.1,L.2.1,(L.2.2.1.1,L.2.2.1.2),L.2.2.2.1,L.2.2.2.2.1,L.2.2.2.2.2.1,L.2.2.2.2.2.2.1,L.2.2.2.2.2.2.2.1,L.2.2.2.2.2.2.2.2)=_ from Y9 h4 L,ja];rw[if_pos mR,ak (show¬t<0 by omega),ak (show¬t>8589934592 by omega)];simp only[jm,jd];rw[show jbF ((aJ zs L.2.1).1,((aJ zs L.2.1).2.1,(aJ zs L.2.1).2.2)) (L.1,L.2.1,(L.2.2.1.1,L.2.2.1.2),L.2.2.2.1,L.2.2.2.2.1,L.2.2.2.2.2.1,L.2.2.2.2.2.2.1,L.2.2.2.2.2.2.2.1,L.2.2.2.2.2.2.2.2) t=_ from eK];rfl
 obtain⟨_,ein⟩:=jCe hz h0 h1 hL.w hL.wl
 have wW:(cond (L.2.2.2.2.2.2.2.2==(0:D)) (G (bQ (aJ zs L.2.1) L t,I)) (cond (inR L.2.2.2.2.2.2.2.1 cs.length) (cond (inR (cs.getD L.2.2.2.2.2.2.2.1.toNat (q,((0:D),([]:E D)))).2.1 zs.length)
   ((
    j3I ((zs.getD (cs.getD L.2.2.2.2.2.2.2.1.toNat (q,((0:D),([]:E D)))).2.1.toNat (q,((0:D),([]:E aH)))).1,((zs.getD (cs.getD L.2.2.2.2.2.2.2.1.toNat (q,((0:D),([]:E D)))).2.1.toNat (q,((0:D),([]:E aH)))).2.1,(zs.getD (cs.getD L.2.2.2.2.2.2.2.1.toNat (q,((0:D),([]:E D)))).2.1.toNat (q,((0:D),([]:E aH)))).2.2)) t).bind λZB=>
    (zF (bQ (aJ zs L.2.1) L t) X 0 L.1 L.2.1 L.2.2.1.1 L.2.2.1.2 L.2.2.2.1 L.2.2.2.2.1 L.2.2.2.2.2.1 L.2.2.2.2.2.2.1 L.2.2.2.2.2.2.2.1 L.2.2.2.2.2.2.2.2 (cs.getD L.2.2.2.2.2.2.2.1.toNat (q,((0:D),([]:E D)))).1 (cs.getD L.2.2.2.2.2.2.2.1.toNat (q,((0:D),([]:E D)))).2.1 (cs.getD L.2.2.2.2.2.2.2.1.toNat (q,((0:D),([]:E D)))).2.2 ZB.1.1 ZB.1.2).bind λq0=>
     G (q0.1,(q0.2.1==(q0.2.2.2.2.2.2.2.2.2.2.2==(2:D))))) Y) Y))=G (bQ (aJ zs L.2.1) L t,gy zs cs L t):=by
  by_cases hm:L.2.2.2.2.2.2.2.2=0
  .rw[fh hm,jc];unfold gy;rw[fh hm];rfl
  .have cA:=hL.cal hm;have hx:=lF hs cA.1 cA.2;have Bf:=fT hs.ok hx.z0 hx.z1;rw[cU hm,jd,cb cA.1 cA.2,cb hx.z0 hx.z1];simp only[jc];rw[show j3I ((zs.getD (cs.getD L.2.2.2.2.2.2.2.1.toNat (q,((0:D),([]:E D)))).2.1.toNat (q,((0:D),([]:E aH)))).1,((zs.getD (cs.getD L.2.2.2.2.2.2.2.1.toNat (q,((0:D),([]:E D)))).2.1.toNat (q,((0:D),([]:E aH)))).2.1,(zs.getD (cs.getD L.2.2.2.2.2.2.2.1.toNat (q,((0:D),([]:E D)))).2.1.toNat (q,((0:D),([]:E aH)))).2.2)) t=_ from ZA Bf h0 h1];simp only[ja];rw[show zF (bQ (aJ zs L.2.1) L t) X 0 L.1 L.2.1 L.2.2.1.1 L.2.2.1.2 L.2.2.2.1 L.2.2.2.2.1 L.2.2.2.2.2.1 L.2.2.2.2.2.2.1 L.2.2.2.2.2.2.2.1 L.2.2.2.2.2.2.2.2 (cs.getD L.2.2.2.2.2.2.2.1.toNat (q,((0:D),([]:E D)))).1 (cs.getD L.2.2.2.2.2.2.2.1.toNat (q,((0:D),([]:E D)))).2.1 (cs.getD L.2.2.2.2.2.2.2.1.toNat (q,((0:D),([]:E D)))).2.2 _ _=_ from QV hs hx (L:=L) (cs.getD L.2.2.2.2.2.2.2.1.toNat (q,((0:D),([]:E D)))).2.2.length 0 X aa af];unfold gy;rw[cU hm];rfl
 simp only[jia];rw[cb hL.z0 hL.z1];simp only[jc];rw[show jfv ((zs.getD L.2.1.toNat (q,((0:D),([]:E aH)))).1,((zs.getD L.2.1.toNat (q,((0:D),([]:E aH)))).2.1,(zs.getD L.2.1.toNat (q,((0:D),([]:E aH)))).2.2)) (L.1,L.2.1,(L.2.2.1.1,L.2.2.1.2),L.2.2.2.1,L.2.2.2.2.1,L.2.2.2.2.2.1,L.2.2.2.2.2.2.1,L.2.2.2.2.2.2.2.1,L.2.2.2.2.2.2.2.2) t=_ from ek];simp only[ja,jm,jd];by_cases hk:0<=bQ (aJ zs L.2.1) L t
 .rw[ak (show¬bQ (aJ zs L.2.1) L t<0 by omega)];simp only[jd,show F L.2.2.2.2.2.2.1.length=(L.2.2.2.2.2.2.1.length:D) from rfl];have lI:fq zs cs L t=cond (okW L.2.2.2.2.2.2.1 (fj (cm (aJ zs L.2.1) t))) (gy zs cs L t) false:=by unfold fq;rw[ah hk];rfl
  rw[lI];by_cases hw:(L.2.2.2.2.2.2.1.length:D)>0
  .rw[ah hw,jc,show jpU ((zs.getD L.2.1.toNat (q,((0:D),([]:E aH)))).1,((zs.getD L.2.1.toNat (q,((0:D),([]:E aH)))).2.1,(zs.getD L.2.1.toNat (q,((0:D),([]:E aH)))).2.2)) L.2.2.2.2.2.2.1 t=_ from ein];simp only[ja];unfold okW;rw[ah hw,jc];cases hasB (fj (cm (aJ zs L.2.1) t)) L.2.2.2.2.2.2.1 with
   |false=>exact⟨0,rfl,λh=>by simp at h⟩
   |true=>simp only[jk,jd,jc];exact⟨_,wW,λ_=>rfl⟩
  .rw[ak hw,jd];unfold okW;rw[ak hw];simp only[jd,jc];exact⟨_,wW,λ_=>rfl⟩
 .rw[ah (show bQ (aJ zs L.2.1) L t<0 by omega)];have lI:fq zs cs L t=false:=by unfold fq;rw[ak hk];rfl
  rw[lI];simp only[jc,jk,jv,Bool.or_true];exact⟨0,rfl,λh=>by simp at h⟩
theorem jyA{L:bC}(hL:iR zs.length ps.length cs.length L){ss:E dC}{t:D}(h0:0<=t)(h1:t<=8589934592):jlh (zs,(ps,(cs,ss))) L t=G (cK zs cs L t):=by
 obtain⟨k,e,hk⟩:=jAS hs hL (ss:=ss) h0 h1;have lI:fq zs cs L t=I->0<=bQ (aJ zs L.2.1) L t:=JB;simp only[jlh];rw[show jia (zs,ps,cs,ss) (L.1,L.2.1,(L.2.2.1.1,L.2.2.1.2),L.2.2.2.1,L.2.2.2.2.1,L.2.2.2.2.2.1,L.2.2.2.2.2.2.1,L.2.2.2.2.2.2.2.1,L.2.2.2.2.2.2.2.2) t=_ from e];simp only[ja,show F L.2.2.2.2.2.1.length=(L.2.2.2.2.2.1.length:D) from rfl];unfold cK;cases hc:fq zs cs L t with
 |false=>rfl
 |true=>have pj:=hL.m0;have kN:=lI hc;have:=hk hc;subst this;have q1:0<=H (bQ (aJ zs L.2.1) L t) (L.2.2.2.2.2.1.length:D):=ya _ kN;have q2:H (bQ (aJ zs L.2.1) L t) (L.2.2.2.2.2.1.length:D)<(L.2.2.2.2.2.1.length:D):=vd _ aa;rw[cU (show¬(L.2.2.2.2.2.1.length:D)=0 by omega),cb q1 q2];rfl
end
end Go.Proofs.Pw
