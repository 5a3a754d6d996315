/- ue.Merge, ue.View.Segments: Sk is on ue in a range. -/
import Derived.Test.YtkoifkkadkmecaaGreatLRPH
import Derived.Test.YtkoifkkadkmecaaGreatLRPD
open _root_ renaming Int->d,List->D,Nat->O
open ByteArray renaming empty->q
open Int renaming tmod->E,ofNat->F
open List renaming getLast?_append->G,getD->J
open Option renaming some->H,some_or->I,none->S
open Go Go.Lft
namespace Go.Proofs.Pw
theorem jCu(l:bm)(x y:fI):(l++[x]).set l.length y=l++[y]:=by
 rw[v6 _ _ (jn _)];simp
theorem Τ(out:bm)(s:fI):(lh out s).length<=out.length+1:=by
 unfold lh;split
 .omega
 .rcases vc out with rfl|⟨l,u,rfl⟩
  .simp
  .rw[vd,G];simp only[yl,I];split
   .simp
   .simp
theorem Υ:∀(l out:bm),(l.foldl lh out).length<=out.length+l.length
 |[],out=>smp_
 |s::r,out=>by
  have:=Υ r (lh out s);have:=Τ out s;simp only[vz,ji];omega
theorem Φ{l:bm}(hl:l.length<=1000000000):∀(n i:O)(out:bm),i+n=l.length->out.length<=i->CH l (l.length:d) (i:d) out=H ((l.drop i).foldl lh out)
 |0,i,out,hi,ho=>by
  rw[Ya];simp only[j5Z];rw[ai omg_,j7,aP,jd omg_];rfl
 |n+1,i,out,hi,ho=>by
  have bh:i<l.length:=omg_;have aT:l.getD i ((0:d),((0:d),(0:d)))=l[i]:=by simp[J,bh]
  have ih:∀lj:bm,lj=lh out l[i]->CH l (l.length:d) ((i:d)+1) lj=H ((l.drop i).foldl lh out):=λlj he=>by
   rw[jb bh,vz,<-he];have:=Τ out l[i];exact Φ hl n (i+1) lj omg_ (by rw[he];omega)
  rw[Ya];simp only[j5Z];rw[ah omg_,bJ];simp only[j6,j8,aT,show F out.length=(out.length:d) from rfl];rw[aj (x:=(i:d)+1)];generalize l[i]=s at *;by_cases hs:s.2.1<=s.1
  .rw[ah hs,j6,aB];exact ih _ (by unfold lh;rw[if_pos hs])
  .rw[ai hs,j7];rcases vc out with rfl|⟨o,u,rfl⟩
   .simp only[jw];rw[ai (show¬((0:O):d)>0 by omega),j7,ah (show 0+[(s.1,(s.2.1,s.2.2))].length<=aG by simp[aG]),j6,aB];exact ih _ (by unfold lh;rw[if_neg hs];rfl)
   .rw[vd]at ih ho ⊢;have xW:(o++[u]).length=o.length+1:=smp_;rw[xW]at ho;have kQ:(o++[u]).getD o.length ((0:d),((0:d),(0:d)))=u:=by simp[J]
    rw[xW,ah (show ((o.length+1:O):d)>0 by omega),j6,aj (x:=((o.length+1:O):d)-1),show ((o.length+1:O):d)-1=(o.length:d) by omega,bJ];simp only[j6,j8,kQ];have SU:lh (o++[u]) s=if u.2.1=s.1/\u.2.2=s.2.2 then o++[(u.1,(s.2.1,u.2.2))] else (o++[u])++[s]:=by unfold lh;rw[if_neg hs,G];simp only[yl,I,List.dropLast_concat]
    by_cases h1:u.2.1=s.1
    .rw[cR h1,j6];by_cases h2:u.2.2=s.2.2
     .rw[cR h2,j6,aB,jCu];exact ih _ (by rw[SU,if_pos ⟨h1,h2⟩])
     .rw[ca h2,j7,ah (show o.length+1+[(s.1,(s.2.1,s.2.2))].length<=aG by simp[aG];omega),j6,aB];exact ih _ (by rw[SU,if_neg (λh=>h2 h.2)])
    .rw[ca h1,j7,ah (show o.length+1+[(s.1,(s.2.1,s.2.2))].length<=aG by simp[aG];omega),j6,aB];exact ih _ (by rw[SU,if_neg (λh=>h1 h.1)])
theorem jAy{l:bm}(hl:l.length<=1000000000):jbK l=H (l.foldl lh []):=by
 simp only[jbK,show F l.length=(l.length:d) from rfl];rw[show CH l (l.length:d) 0 []=_ from Φ hl l.length 0 [] omg_ smp_];rfl
theorem SV{f:d->d}{a b:d}{l:bm}(hl:l.length<=1000000000)(h:Ch f b a l):∃out,jbK l=H out/\dg f b S a out/\out.length<=l.length:=
 ⟨_,jAy hl,h.cov,by have:=Υ l [];simpa using this⟩
section
variable{zs:D bF}{ps:D cI}{cs:D aU}(hs:cC zs ps cs)
include hs
theorem Ha{L:bP}(hL:ez zs.length ps.length cs.length L){t u:d}(h0:0<=t)(zA:t<=u)(h1:u<=8589934592):bQ (aF zs L.2.1) L t<=bQ (aF zs L.2.1) L u:=by
 have hz:=fH hs.so.ok hL.z0 hL.z1;have a:=(pZ hz hL.rt2 (t:=t) h0 omg_).2;have b:=(pZ hz hL.rt2 (t:=u) omg_ h1).2;show bQ (aF zs L.2.1) L t<=bQ (aF zs L.2.1) L u;have a':jR (aF zs L.2.1).2.1 (tb (aF zs L.2.1)).2 L t (bQ (aF zs L.2.1) L t):=a;have b':jR (aF zs L.2.1).2.1 (tb (aF zs L.2.1)).2 L u (bQ (aF zs L.2.1) L u):=b;generalize bQ (aF zs L.2.1) L t=K at *;generalize bQ (aF zs L.2.1) L u=K' at *;rcases a' with⟨a1,a2⟩|⟨a1,⟨v,hv,wj⟩,a3⟩<;>rcases b' with⟨b1,b2⟩|⟨b1,b2,b3⟩
 .omega
 .omega
 .exact absurd (QO.le hz.ztab.2 hL.rt2 a1 ⟨v,hv,omg_⟩) b2
 .apply ju;intro hn;exact b3 (QO.le hz.ztab.2 hL.rt2 (show K'+1<=K by omega) ⟨v,hv,omg_⟩)
def C7(z:bF)(L:bP)(k nx t:d):Prop:=t<nx->(∀u,t<=u->u<nx->u<=8589934592->bQ z L u=k)/\(nx<=8589934592->k<bQ z L nx)
theorem jF3{L:bP}(hL:ez zs.length ps.length cs.length L){t:d}(h0:0<=t)(h1:t<=8589934592)(hk:0<=bQ (aF zs L.2.1) L t){v:d}{ok:Bool}
  (hv:j15 (tb (aF zs L.2.1)) L (bQ (aF zs L.2.1) L t+1)=H (v,ok)):t<(cond ok v 8589934593)/\C7 (aF zs L.2.1) L (bQ (aF zs L.2.1) L t) (cond ok v 8589934593) t:=by
 have hz:=fH hs.so.ok hL.z0 hL.z1;have a:=(pZ hz hL.rt2 (t:=t) h0 h1).2;have a':jR (aF zs L.2.1).2.1 (tb (aF zs L.2.1)).2 L t (bQ (aF zs L.2.1) L t):=a;have hu:∀u,t<=u->u<=8589934592->jR (aF zs L.2.1).2.1 (tb (aF zs L.2.1)).2 L u (bQ (aF zs L.2.1) L u):=λu _ h2=>(pZ hz hL.rt2 (t:=u) omg_ h2).2;generalize hK:bQ (aF zs L.2.1) L t=K at *;rcases a' with⟨a1,a2⟩|⟨a1,⟨w,hw,Χ⟩,a3⟩
 .omega
 .have ot:=Bu hz.ztab.2 hL.rt2 a1 hw;obtain⟨v',ev,h9⟩:=rv hz.ztab.2 hL.rt2 (k:=K+1) omg_ omg_;have:=ev.symm.trans hv;simp only[j5,j9]at this;obtain⟨rfl,rfl⟩:=this;cases hh:hO (zs.getD L.2.1.toNat (q,((0:d),([]:D aN)))).2.1 (tb (zs.getD L.2.1.toNat (q,((0:d),([]:D aN))))).2 L (K+1) with
  |none=>
   simp only[v8,j7]
   exact⟨omg_,λ_=>⟨λu h2 h3 h4=>jR.uniq hz.ztab.2 hL.rt2 (hu u h2 h4) (.inr ⟨a1,⟨w,hw,omg_⟩,λ⟨x,hx,_⟩=>by
    have iD:=hh.symm.trans hx;simp at iD⟩),λh=>omg_⟩⟩
  |some x=>
   have:=h9 x hh;subst this;simp only[zm,j6]
   refine⟨?_,λ_=>⟨λu h2 h3 h4=>jR.uniq hz.ztab.2 hL.rt2 (hu u h2 h4) (.inr ⟨a1,⟨w,hw,omg_⟩,λ⟨x,hx,jE⟩=>by
    have iD:=hh.symm.trans hx;simp only[j5]at iD;omega⟩),λhle=>?_⟩⟩
   rotate_left
   .have Hb:v'<=8589934592:=hle;have Cl:t<=v':=by apply ju;intro hn;exact a3 ⟨_,hh,omg_⟩
    have b':=hu v' Cl Hb;rcases b' with⟨b1,b2⟩|⟨b1,b2,b3⟩
    .exact absurd (QO.le hz.ztab.2 hL.rt2 (show (0:d)<=K+1 by omega) ⟨_,hh,jy _⟩) b2
    .apply ju;intro hn;exact b3 (QO.le hz.ztab.2 hL.rt2 (show bQ (aF zs L.2.1) L v'+1<=K+1 by omega) ⟨_,hh,jy _⟩)
   apply ju;intro hn;exact a3 ⟨_,hh,omg_⟩
theorem jGy{L:bP}(hL:ez zs.length ps.length cs.length L){k:d}(hk:0<=k):∃_:(E k (L.2.2.2.2.2.1.length:d)).toNat<L.2.2.2.2.2.1.length,0<=E k (L.2.2.2.2.2.1.length:d)/\E k (L.2.2.2.2.2.1.length:d)<(L.2.2.2.2.2.1.length:d)/\L.2.2.2.2.2.1.getD (E k (L.2.2.2.2.2.1.length:d)).toNat 0=uf L k:=by
 have _:=hs;have gF:=hL.m0;have q1:0<=E k (L.2.2.2.2.2.1.length:d):=Int.tmod_nonneg _ hk;have q2:E k (L.2.2.2.2.2.1.length:d)<(L.2.2.2.2.2.1.length:d):=yq _ omg_;exact⟨omg_,q1,q2,rfl⟩
theorem Ψ{L:bP}(hL:ez zs.length ps.length cs.length L){a b e p m j:d}{sp:SL}(ha:0<=a)(he:e<=8589934592){B:d}(hB:B<=1000000):∀(n:O)(t k nx:d)(acc:bm),e-t=n->a<=t->
  (∀u,t<=u->u<e->fN zs cs L u=true)->C7 (aF zs L.2.1) L k nx t->Ch (cb zs cs L) t a acc->(t<e->(acc.length:d)<=B+bQ (aF zs L.2.1) L t)->
  (t=e->a<e->(acc.length:d)<=B+1+bQ (aF zs L.2.1) L (e-1))->
  ∃k' mR aV,Fk b t k nx m j L.1 L.2.1 L.2.2.1.1 L.2.2.1.2 L.2.2.2.1 L.2.2.2.2.1 L.2.2.2.2.2.1 L.2.2.2.2.2.2.1 L.2.2.2.2.2.2.2.1 L.2.2.2.2.2.2.2.2 (tb (aF zs L.2.1)).1 (tb (aF zs L.2.1)).2 p e acc sp=
   H (b,e,k',mR,m,j,L.1,L.2.1,L.2.2.1.1,L.2.2.1.2,L.2.2.2.1,L.2.2.2.2.1,L.2.2.2.2.2.1,L.2.2.2.2.2.2.1,L.2.2.2.2.2.2.2.1,L.2.2.2.2.2.2.2.2,(tb (aF zs L.2.1)).1,(tb (aF zs L.2.1)).2,aV,sp)/\
   C7 (aF zs L.2.1) L k' mR e/\Ch (cb zs cs L) e a aV/\(a<e->(aV.length:d)<=B+1+bQ (aF zs L.2.1) L (e-1))
 |n,t,k,nx,acc,hn,ot,oy,hc,nY,hl,uG=>by
  have hz:=fH hs.so.ok hL.z0 hL.z1;rw[jge];simp only[j3D];by_cases cT:t<e
  .rw[ah cT,j6];have SX:=oy t (jy _) cT;obtain⟨eK,hK⟩:j4W (tb (aF zs L.2.1)) L t=H (bQ (aF zs L.2.1) L t)/\jR (aF zs L.2.1).2.1 (tb (aF zs L.2.1)).2 L t (bQ (aF zs L.2.1) L t):=pZ hz hL.rt2 (t:=t) omg_ omg_;have nd:0<=bQ (aF zs L.2.1) L t:=Lb SX
   have qW:bQ (aF zs L.2.1) L t<=2386092:=by
    have hK':jR (aF zs L.2.1).2.1 (tb (aF zs L.2.1)).2 L t (bQ (aF zs L.2.1) L t):=hK;rcases hK' with⟨h1,_⟩|⟨h1,⟨w,hw,_⟩,_⟩
    .omega
    .exact(Bu hz.ztab.2 hL.rt2 h1 hw).2.2
   obtain⟨_,q1,q2,q3⟩:=jGy hs hL nd;have gF:=hL.m0;have aq:=hl cT
   have step:∀mR:d,t<mR->C7 (aF zs L.2.1) L (bQ (aF zs L.2.1) L t) mR t->∀aV:bm,aV=acc++[(t,((if mR<e then mR else e),uf L (bQ (aF zs L.2.1) L t)))]->
     ∃Ω Hc ui,Fk b (if mR<e then mR else e) (bQ (aF zs L.2.1) L t) mR m j L.1 L.2.1 L.2.2.1.1 L.2.2.1.2 L.2.2.2.1 L.2.2.2.2.1 L.2.2.2.2.2.1 L.2.2.2.2.2.2.1 L.2.2.2.2.2.2.2.1 L.2.2.2.2.2.2.2.2 (tb (aF zs L.2.1)).1 (tb (aF zs L.2.1)).2 p e aV sp=
      H (b,e,Ω,Hc,m,j,L.1,L.2.1,L.2.2.1.1,L.2.2.1.2,L.2.2.2.1,L.2.2.2.2.1,L.2.2.2.2.2.1,L.2.2.2.2.2.2.1,L.2.2.2.2.2.2.2.1,L.2.2.2.2.2.2.2.2,(tb (aF zs L.2.1)).1,(tb (aF zs L.2.1)).2,ui,sp)/\
      C7 (aF zs L.2.1) L Ω Hc e/\Ch (cb zs cs L) e a ui/\(a<e->(ui.length:d)<=B+1+bQ (aF zs L.2.1) L (e-1)):=by
    rintro mR Lc fP _ rfl
    obtain⟨t',uJ,h1,h2,h3,h4⟩:∃t':d,t'=(if mR<e then mR else e)/\t<t'/\t'<=e/\t'<=mR/\(t'<e->t'=mR):=⟨_,rfl,by split<;>omega,by split<;>omega,by split<;>omega,λh=>by
     by_cases hx:mR<e
     .rw[if_pos hx]
     .rw[if_neg hx]at h;omega⟩
    rw[<-uJ]
    refine Ψ hL ha he hB (e-t').toNat t' (bQ (aF zs L.2.1) L t) mR _ omg_ omg_ (λu u1 u2=>oy u omg_ u2) (λh5=>⟨λu u1 u2 u3=>(fP Lc).1 u omg_ u2 u3,(fP Lc).2⟩)
     (nY.snoc omg_ (λu u1 u2=>?_)) (λgJ=>?_) (λheq _=>?_)
    .unfold cb;rw[oy u u1 omg_,(fP Lc).1 u u1 omg_ omg_];rfl
    .have hm:=Ha hs hL (t:=t) (u:=t') omg_ omg_ omg_;have bz:bQ (aF zs L.2.1) L t<bQ (aF zs L.2.1) L t':=by have:=h4 gJ;subst this;exact(fP Lc).2 omg_
     simp only[jc,qe];omega
    .have hm:=Ha hs hL (t:=t) (u:=e-1) omg_ omg_ omg_;simp only[jc,qe];omega
   by_cases δ:t>=nx
   .rw[ah δ,j6];rw[show j4W ((tb (aF zs L.2.1)).1,(tb (aF zs L.2.1)).2) (L.1,L.2.1,(L.2.2.1.1,L.2.2.1.2),L.2.2.2.1,L.2.2.2.2.1,L.2.2.2.2.2.1,L.2.2.2.2.2.2.1,L.2.2.2.2.2.2.2.1,L.2.2.2.2.2.2.2.2) t=_ from eK];simp only[j4];rw[aj (x:=bQ (aF zs L.2.1) L t+1)];obtain⟨v,ev,_⟩:=rv hz.ztab.2 hL.rt2 (k:=bQ (aF zs L.2.1) L t+1) omg_ omg_;have dH:=jF3 hs hL (t:=t) omg_ omg_ nd ev;rw[show j15 ((tb (aF zs L.2.1)).1,(tb (aF zs L.2.1)).2) (L.1,L.2.1,(L.2.2.1.1,L.2.2.1.2),L.2.2.2.1,L.2.2.2.2.1,L.2.2.2.2.2.1,L.2.2.2.2.2.2.1,L.2.2.2.2.2.2.2.1,L.2.2.2.2.2.2.2.2) (bQ (aF zs L.2.1) L t+1)=_ from ev];simp only[j4,show F L.2.2.2.2.2.1.length=(L.2.2.2.2.2.1.length:d) from rfl];rw[ca (show¬(L.2.2.2.2.2.1.length:d)=0 by omega),bA q1 q2];have cp:∀x:fI,acc.length+[x].length<=aG:=λx=>by simp[aG];omega
    revert dH
    generalize (hO (zs.getD L.2.1.toNat (q,((0:d),([]:D aN)))).2.1 (tb (zs.getD L.2.1.toNat (q,((0:d),([]:D aN))))).2 L (bQ (aF zs L.2.1) L t+1)).isSome=ok
    cases ok with
    |false=>intro dH;simp only[jv,j6];rw[ah (cp _),j6,aB];exact step 8589934593 dH.1 dH.2 _ (by rw[q3])
    |true=>intro dH;simp only[jl,jv,j7,j6];rw[ah (cp _),j6,aB];exact step v dH.1 dH.2 _ (by rw[q3])
   .have hk:=(hc omg_).1 t (jy _) omg_ omg_;subst hk;rw[ai δ,j7];simp only[show F L.2.2.2.2.2.1.length=(L.2.2.2.2.2.1.length:d) from rfl];rw[ca (show¬(L.2.2.2.2.2.1.length:d)=0 by omega),bA q1 q2];simp only[jv,j6];rw[ah (show acc.length+[_].length<=aG by simp[aG];omega),j6,aB];exact step nx omg_ hc _ (by rw[q3])
  .have SY:t=e:=omg_;subst SY;rw[ai cT,j7,aP];exact⟨k,nx,acc,rfl,hc,nY,uG rfl⟩
 termination_by n=>n
theorem ε{L:bP}(hL:ez zs.length ps.length cs.length L){a b:d}(ha:0<=a)(hb:b<=8589934592){A:SL}(hA:A.length<=400000)(rB:∀t,bq t A↔a<=t/\t<b/\fN zs cs L t=true)
  {k0:d}{N:O}(hN:N<=4000000)(nd : -1<=k0)(C0:∀t,a<=t->t<b->fN zs cs L t=true->k0<=bQ (aF zs L.2.1) L t/\bQ (aF zs L.2.1) L t<=k0+N) :
  ∀(n j:O)(t k nx Kc:d)(acc:bm),j+n=A.length->a<=t->t<=b->bB (t-1) (A.drop j)->(∀u,t<=u->(bq u A↔bq u (A.drop j)))->C7 (aF zs L.2.1) L k nx t->Ch (cb zs cs L) t a acc->
   k0<=Kc->Kc<=k0+N->(∀u,t<=u->bq u A->Kc<=bQ (aF zs L.2.1) L u)->(acc.length:d)<=2*j+(Kc-k0)->
  ∃t' aV,Fl b t k nx (A.length:d) (j:d) L.1 L.2.1 L.2.2.1.1 L.2.2.1.2 L.2.2.2.1 L.2.2.2.2.1 L.2.2.2.2.2.1 L.2.2.2.2.2.2.1 L.2.2.2.2.2.2.2.1 L.2.2.2.2.2.2.2.2 (tb (aF zs L.2.1)).1 (tb (aF zs L.2.1)).2 acc A=H (b,t',aV)/\
   Ch (cb zs cs L) b a (aV++[(t',(b, -1))])/\aV.length<=2*A.length+N
 |0,j,t,k,nx,Kc,acc,hj,ot,ζ,aQ,iE,hc,nY,hK1,hK2,η,hl=>by
  rw[Yb];simp only[j2p];rw[ai omg_,j7,aP];refine⟨t,acc,rfl,nY.snoc ζ (λu u1 u2=>?_),omg_⟩
  have:fN zs cs L u=false:=by
   cases ho:fN zs cs L u with
   |false=>rfl
   |true=>have:=(iE u u1).1 ((rB u).2 ⟨omg_,u2,ho⟩);rw[jd omg_]at this;exact absurd this fp
  unfold cb;rw[this];rfl
 |n+1,j,t,k,nx,Kc,acc,hj,ot,ζ,aQ,iE,hc,nY,hK1,hK2,η,hl=>by
  have fS:j<A.length:=omg_;have aT:A.getD j ((0:d),(0:d))=A[j]:=by simp[J,fS]
  rw[jb fS]at aQ iE;obtain⟨s1,s2,s3⟩:=aQ;have oy:∀u,A[j].1<=u->u<A[j].2->bq u A:=λu u1 u2=>(iE u omg_).2 (du.2 (.inl ⟨u1,u2⟩));have xv:=(rB A[j].1).1 (oy _ (jy _) s2);have xw:=(rB (A[j].2-1)).1 (oy _ omg_ omg_);have hKj:=η A[j].1 omg_ (oy _ (jy _) s2);rw[Yb];simp only[j2p];rw[ah (show (j:d)<(A.length:d) by omega),bJ];simp only[j6,j8,aT];rw[ah (show acc.length+[_].length<=aG by simp[aG];omega),j6]
  obtain⟨k',mR,aV,e2,c2,h2,l2⟩:=Ψ hs hL (a:=a) (b:=b) (e:=A[j].2) (p:=A[j].1) (m:=(A.length:d)) (j:=(j:d)) (sp:=A) ha omg_ (B:=2*j+1-k0) omg_ (A[j].2-A[j].1).toNat A[j].1 k nx
   (acc++[(t,(A[j].1, -1))]) omg_ omg_ (λu u1 u2=>((rB u).1 (oy u u1 u2)).2.2) (λh5=>by
    have h6:=hc omg_;exact⟨λu u1 u2 u3=>h6.1 u omg_ u2 u3,h6.2⟩) (nY.snoc omg_ (λu u1 u2=>by
    have:fN zs cs L u=false:=by
     cases ho:fN zs cs L u with
     |false=>rfl
     |true=>
      have:=(iE u u1).1 ((rB u).2 ⟨omg_,omg_,ho⟩);rcases du.1 this with h|h
      .omega
      .have:=bB.low s3 h;omega
    unfold cb;rw[this];rfl)) (λ_=>by rw[jc,qe];omega) (λh=>omg_)
  rw[e2];simp only[j4];rw[aj (x:=(j:d)+1),aB];have uG:=l2 omg_;have hr:=C0 (A[j].2-1) omg_ omg_ xw.2.2
  exact ε hL ha hb hA rB hN nd C0 n (j+1) A[j].2 k' mR (bQ (aF zs L.2.1) L (A[j].2-1)) aV omg_ omg_ omg_ (s3.weak omg_) (λu hu=>by
   rw[iE u omg_,du]
   exact⟨λh=>by
    rcases h with h|h
    .omega
    .exact h,.inr⟩) c2 h2 hr.1 hr.2 (λu hu SZ=>by
   have:=(rB u).1 SZ;exact Ha hs hL omg_ omg_ omg_) omg_
theorem θ{L:bP}(hL:ez zs.length ps.length cs.length L){ss:D cu}{a b:d}(ha:0<=a)(bt:a<=b)(hb:b<=8589934592){M:O}(hM:M<=60)(hlen:b-a<=604800*M)
  {k0:d}{N:O}(hN:N<=4000000)(nd : -1<=k0)(C0:∀t,a<=t->t<b->fN zs cs L t=true->k0<=bQ (aF zs L.2.1) L t/\bQ (aF zs L.2.1) L t<=k0+N) :
  ∃out,j2u ((zs,(ps,(cs,ss))),zs.map tb) L a b=H out/\dg (cb zs cs L) b S a out/\
   out.length<=2*(L.2.2.2.2.2.2.1.length*(M+1)*5+1+(if L.2.2.2.2.2.2.2.2=0 then 0 else (fM cs L.2.2.2.2.2.2.2.1).2.2.length*5))+N+1:=by
 have lN:(zs.map tb).length=zs.length:=ke ..;have hg:=K7 (zs:=zs) hL.z0 hL.z1;obtain⟨A,e1,s1,s2,s3⟩:=jAv hs hL (ss:=ss) ha bt hb hM hlen
 have ι:A.length<=400000:=by
  have h1:L.2.2.2.2.2.2.1.length*(M+1)<=14*61:=ql hL.wl omg_;by_cases hm:L.2.2.2.2.2.2.2.2=0
  .rw[if_pos hm]at s3;omega
  .rw[if_neg hm]at s3;have hx:=(rz hs (hL.cal hm).1 (hL.cal hm).2).len;have h64:(fM cs L.2.2.2.2.2.2.2.1).2.2.length<=64:=hx;omega
 obtain⟨t',acc,e2,h2,l2⟩:=ε hs hL ha hb ι s2 hN nd C0 A.length 0 a (-1) (-1) k0 [] omg_ (jy _) bt s1 (λu _=>smp_) (λh=>omg_) rfl (jy _) omg_ (λu hu SZ=>by
  have:=(s2 u).1 SZ;exact(C0 u this.1 this.2.1 this.2.2).1) smp_
 obtain⟨out,e3,h3,l3⟩:=SV (l:=acc++[(t',(b, -1))]) (by rw[jc,qe];omega) h2;refine⟨out,?_,h3,by rw[jc,qe]at l3;omega⟩;simp only[j2u];rw[bA hL.z0 (by rw[lN];exact hL.z1)];simp only[j6,hg];rw[show j8s ((zs,(ps,(cs,ss))),zs.map tb) (L.1,L.2.1,(L.2.2.1.1,L.2.2.1.2),L.2.2.2.1,L.2.2.2.2.1,L.2.2.2.2.2.1,L.2.2.2.2.2.2.1,L.2.2.2.2.2.2.2.1,L.2.2.2.2.2.2.2.2) a b=_ from e1];simp only[j4,show F A.length=(A.length:d) from rfl];rw[show Fl b a (-1) (-1) (A.length:d) 0 L.1 L.2.1 L.2.2.1.1 L.2.2.1.2 L.2.2.2.1 L.2.2.2.2.1 L.2.2.2.2.2.1 L.2.2.2.2.2.2.1 L.2.2.2.2.2.2.2.1 L.2.2.2.2.2.2.2.2 (tb (zs.getD L.2.1.toNat (q,((0:d),([]:D aN))))).1 (tb (zs.getD L.2.1.toNat (q,((0:d),([]:D aN))))).2 [] A=_ from e2];simp only[j4];rw[ah (show acc.length+[_].length<=aG by simp[aG];omega),j6,e3];rfl
end
section
variable{zs:D bF}{ps:D cI}{cs:D aU}(hs:cC zs ps cs)
include hs
omit hs in
theorem ov.near{o:d}{l:bI}(h:iU o l){s t:d}{k:O}(f:ov o l s t k)(hs:0<=s):s-64800<=t/\t<=s+64800:=by
 obtain⟨p1,p2,p3⟩:=f.piece h;have hk:=f.hk;have o1:=h.of1 k hk;have o0:=h.of0 k hk;have ht:=f.ht;refine⟨omg_,?_⟩;by_cases h0:k=0
 .subst h0;have e0:aR l 0=0:=pk;omega
 .obtain⟨j,rfl⟩:∃j,k=j+1:=⟨k-1,omg_⟩;have b:=f.bef j omg_;have o2:=h.of0 j omg_;omega
theorem jF4{L:bP}(hL:ez zs.length ps.length cs.length L){t u:d}(h0:0<=t)(zA:t<=u)(h1:u<=8589934592):bQ (aF zs L.2.1) L u<=bQ (aF zs L.2.1) L t+(u-t)/3600+8:=by
 have hz:=fH hs.so.ok hL.z0 hL.z1;have aQ:=hL.rt2.step;have tL:=hL.rt2.e0;have jB:=hL.c0;have hd:=hL.d0;have a':jR (aF zs L.2.1).2.1 (tb (aF zs L.2.1)).2 L t (bQ (aF zs L.2.1) L t):=(pZ hz hL.rt2 (t:=t) h0 omg_).2;have b':jR (aF zs L.2.1).2.1 (tb (aF zs L.2.1)).2 L u (bQ (aF zs L.2.1) L u):=(pZ hz hL.rt2 (t:=u) omg_ h1).2;generalize bQ (aF zs L.2.1) L t=K at *;generalize bQ (aF zs L.2.1) L u=K' at *;have hK : -1<=K:=by rcases a' with⟨h,_⟩|⟨h,_⟩<;>omega
 have hn:¬QO (aF zs L.2.1).2.1 (tb (aF zs L.2.1)).2 L t (K+1):=by
  rcases a' with⟨h,h2⟩|⟨_,_,h2⟩
  .rw[h];exact h2
  .exact h2
 by_cases hKK:K'<=K+1
 .omega
 .rcases b' with⟨h,_⟩|⟨hK0,⟨v,hv,S7⟩,_⟩
  .omega
  .obtain⟨w,hw,hwu⟩:QO (aF zs L.2.1).2.1 (tb (aF zs L.2.1)).2 L u (K+1):=QO.le hz.ztab.2 hL.rt2 (show K+1<=K' by omega) ⟨v,hv,S7⟩;have Χ:t<w:=by apply ju;intro hx;exact hn ⟨w,hw,omg_⟩
   have hm:3600*(K'-(K+1))<=3600*L.2.2.2.2.1*(K'-(K+1)):=Int.mul_le_mul_of_nonneg_right omg_ omg_;by_cases hu:L.2.2.2.1=0
   .unfold hO at hv hw;rw[if_pos hu]at hv hw;cases hf:fO (aF zs L.2.1).2.1 (tb (aF zs L.2.1)).2 (cM L 0) with
    |none=>rw[hf]at hv;simp at hv
    |some x=>
     rw[hf]at hv hw;simp only[j4]at hv hw;split at hv
     .split at hw
      .simp only[j5]at hv hw;have e:3600*L.2.2.2.2.1*(K'-(K+1))=3600*L.2.2.2.2.1*K'-3600*L.2.2.2.2.1*(K+1):=Int.mul_sub ..;omega
      .simp at hw
     .simp at hv
   .unfold hO at hv hw;rw[if_neg hu]at hv hw;obtain⟨k1,f1⟩:=C1 hv;obtain⟨k2,f2⟩:=C1 hw;have e:(K'-(K+1))*di L=K'*di L-(K+1)*di L:=Int.sub_mul ..;have iQ:(K'-(K+1))*1<=(K'-(K+1))*di L:=Int.mul_le_mul_of_nonneg_left aQ.1 omg_;have y_:0<=(K+1)*di L:=yy omg_ omg_;have g1:=f1.near hz.ztab.2 (by unfold cM;omega);have g2:=f2.near hz.ztab.2 (by unfold cM;omega);unfold cM at g1 g2;omega
theorem jAA{L:bP}(hL:ez zs.length ps.length cs.length L){a b:d}(ha:0<=a)(hb:b<=8589934592):∀t,a<=t->t<b->fN zs cs L t=true->bQ (aF zs L.2.1) L a<=bQ (aF zs L.2.1) L t/\bQ (aF zs L.2.1) L t<=bQ (aF zs L.2.1) L a+(((b-a)/3600+8).toNat:d):=λt h1 h2 _=>by
 have e1:=Ha hs hL (t:=a) (u:=t) ha h1 omg_;have e2:=jF4 hs hL (t:=a) (u:=t) ha h1 omg_;omega
theorem κ{L:bP}(hL:ez zs.length ps.length cs.length L){t:d}(h0:0<=t)(h1:t<=8589934592) : -1<=bQ (aF zs L.2.1) L t:=by
 have hz:=fH hs.so.ok hL.z0 hL.z1;have a':jR (aF zs L.2.1).2.1 (tb (aF zs L.2.1)).2 L t (bQ (aF zs L.2.1) L t):=(pZ hz hL.rt2 (t:=t) h0 h1).2;rcases a' with⟨h,_⟩|⟨h,_⟩<;>omega
theorem ν{L:bP}(hL:ez zs.length ps.length cs.length L){ss:D cu}{a b:d}(ha:0<=a)(bt:a<=b)(hb:b<=8589934592)(hlen:b-a<=35078400) :
  ∃out,j2u ((zs,(ps,(cs,ss))),zs.map tb) L a b=H out/\dg (cb zs cs L) b S a out/\out.length<=30000:=by
 obtain⟨out,e,h1,h2⟩:=θ hs hL (ss:=ss) ha bt hb (M:=58) omg_ omg_ (N:=((b-a)/3600+8).toNat) omg_ (κ hs hL ha omg_) (jAA hs hL ha hb);refine⟨out,e,h1,?_⟩;have hw:L.2.2.2.2.2.2.1.length*(58+1)*5<=14*59*5:=k7 _ (k7 _ hL.wl)
 have hc:(if L.2.2.2.2.2.2.2.2=0 then 0 else (fM cs L.2.2.2.2.2.2.2.1).2.2.length*5)<=64*5:=by
  by_cases hm:L.2.2.2.2.2.2.2.2=0
  .rw[if_pos hm];omega
  .rw[if_neg hm];exact k7 _ (rz hs (hL.cal hm).1 (hL.cal hm).2).len
 omega
section
variable{ss:D cu}(g0:ss.length<=12)(g1:fG (ss.map (·.1)))(g2:∀s∈ss,tZ zs.length ps.length cs.length s)
 {L:bP}(hL:ez zs.length ps.length cs.length L)(hn:jam L.1=H true)
include g0 g1 g2 hL hn
end
end
end Go.Proofs.Pw
