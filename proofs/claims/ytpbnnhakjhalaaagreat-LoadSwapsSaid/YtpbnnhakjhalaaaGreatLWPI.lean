/- nT.Merge, nT.View.Segments: UF is on nT in a range. -/
import Derived.Test.YtpbnnhakjhalaaaGreatLWPH
import Derived.Test.YtpbnnhakjhalaaaGreatLWPG
import Derived.Test.YtpbnnhakjhalaaaGreatLWPD
open Go Go.Lft
namespace Go.Proofs.Pw
theorem jvU(l:bK)(x y:jU):(l++[x]).set l.length y=l++[y]:=by
 rw[zq _ _ (jq _)];simp
theorem Vd(out:bK)(s:jU):(lX out s).length<=out.length+1:=by
 unfold lX;split
 .omega
 .rcases List.eq_nil_or_concat out with rfl|⟨l,u,rfl⟩
  .simp
  .rw[List.concat_eq_append,List.getLast?_append];simp only[List.getLast?_singleton,Option.some_or];split
   .simp
   .simp
theorem Ve:∀(l out:bK),(l.foldl lX out).length<=out.length+l.length
 |[],out=>by simp
 |s::r,out=>by
  have:=Ve r (lX out s);have:=Vd out s;simp only[List.foldl_cons,jo];omega
theorem Vf{l:bK}(hl:l.length<=1000000000):∀(n i:Nat)(out:bK),i+n=l.length->out.length<=i->yw l (l.length:Int) (i:Int) out=some ((l.drop i).foldl lX out)
 |0,i,out,hi,ho=>by
  rw[SI];simp only[j4p];rw[aj (by omega),j6,aY,jc (by omega)];rfl
 |n+1,i,out,hi,ho=>by
  have aX:i<l.length:=by omega
  have bh:l.getD i ((0:Int),((0:Int),(0:Int)))=l[i]:=by simp[List.getD,aX]
  have ih:∀sQ:bK,sQ=lX out l[i]->yw l (l.length:Int) ((i:Int)+1) sQ=some ((l.drop i).foldl lX out):=λsQ he=>by
   rw[jb aX,List.foldl_cons,<-he];have:=Vd out l[i];exact Vf hl n (i+1) sQ (by omega) (by rw[he];omega)
  rw[SI];simp only[j4p];rw[ag (by omega),aZ (by omega) (by omega)];simp only[j5,j7,bh,show Int.ofNat out.length=(out.length:Int) from rfl];rw[ah (x:=(i:Int)+1) (by omega) (by omega)];generalize l[i]=s at *;by_cases hs:s.2.1<=s.1
  .rw[ag hs,j5,aQ];exact ih _ (by unfold lX;rw[if_pos hs])
  .rw[aj hs,j6];rcases List.eq_nil_or_concat out with rfl|⟨o,u,rfl⟩
   .simp only[ql];rw[aj (show¬((0:Nat):Int)>0 by omega),j6,ag (show 0+[(s.1,(s.2.1,s.2.2))].length<=aP by simp[aP]),j5,aQ];exact ih _ (by unfold lX;rw[if_neg hs];rfl)
   .rw[List.concat_eq_append]at ih ho ⊢;have wm:(o++[u]).length=o.length+1:=by simp
    rw[wm]at ho;have eu:(o++[u]).getD o.length ((0:Int),((0:Int),(0:Int)))=u:=by simp[List.getD]
    rw[wm,ag (show ((o.length+1:Nat):Int)>0 by omega),j5,ah (x:=((o.length+1:Nat):Int)-1) (by omega) (by omega),show ((o.length+1:Nat):Int)-1=(o.length:Int) by omega,aZ (by omega) (by omega)];simp only[j5,j7,eu];have NH:lX (o++[u]) s=if u.2.1=s.1/\u.2.2=s.2.2 then o++[(u.1,(s.2.1,u.2.2))] else (o++[u])++[s]:=by unfold lX;rw[if_neg hs,List.getLast?_append];simp only[List.getLast?_singleton,Option.some_or,List.dropLast_concat]
    by_cases h1:u.2.1=s.1
    .rw[eA h1,j5];by_cases h2:u.2.2=s.2.2
     .rw[eA h2,j5,aQ,jvU];exact ih _ (by rw[NH,if_pos ⟨h1,h2⟩])
     .rw[cB h2,j6,ag (show o.length+1+[(s.1,(s.2.1,s.2.2))].length<=aP by simp[aP];omega),j5,aQ];exact ih _ (by rw[NH,if_neg (λh=>h2 h.2)])
    .rw[cB h1,j6,ag (show o.length+1+[(s.1,(s.2.1,s.2.2))].length<=aP by simp[aP];omega),j5,aQ];exact ih _ (by rw[NH,if_neg (λh=>h1 h.1)])
theorem juj{l:bK}(hl:l.length<=1000000000):j8E l=some (l.foldl lX []):=by
 simp only[j8E,show Int.ofNat l.length=(l.length:Int) from rfl];rw[show yw l (l.length:Int) 0 []=_ from Vf hl l.length 0 [] (by omega) (by simp)];rfl
theorem NI{f:Int->Int}{a b:Int}{l:bK}(hl:l.length<=1000000000)(h:Ch f b a l):∃out,j8E l=some out/\eH f b none a out/\out.length<=l.length:=
 ⟨_,juj hl,h.cov,by have:=Ve l [];simpa using this⟩
section
variable{zs:List bI}{ps:List c9}{cs:List aW}(hs:cW zs ps cs)
include hs
theorem Gr{L:bM}(hL:eX zs.length ps.length cs.length L){t u:Int}(h0:0<=t)(xk:t<=u)(h1:u<=8589934592):bX (aO zs L.2.1) L t<=bX (aO zs L.2.1) L u:=by
 have hz:=lE hs.so.ok hL.z0 hL.z1;have a:=(sP hz hL.rt2 (t:=t) h0 (by omega)).2;have b:=(sP hz hL.rt2 (t:=u) (by omega) h1).2;show bX (aO zs L.2.1) L t<=bX (aO zs L.2.1) L u;have a':lD (aO zs L.2.1).2.1 (tb (aO zs L.2.1)).2 L t (bX (aO zs L.2.1) L t):=a;have b':lD (aO zs L.2.1).2.1 (tb (aO zs L.2.1)).2 L u (bX (aO zs L.2.1) L u):=b;generalize bX (aO zs L.2.1) L t=K at *;generalize bX (aO zs L.2.1) L u=K' at *;rcases a' with⟨a1,a2⟩|⟨a1,⟨v,hv,tI⟩,a3⟩<;>rcases b' with⟨b1,b2⟩|⟨b1,b2,b3⟩
 .omega
 .omega
 .exact absurd (QO.le hz.ztab.2 hL.rt2 a1 ⟨v,hv,by omega⟩) b2
 .apply jm;intro hn;exact b3 (QO.le hz.ztab.2 hL.rt2 (show K'+1<=K by omega) ⟨v,hv,by omega⟩)
def yO(z:bI)(L:bM)(k nx t:Int):Prop:=t<nx->(∀u,t<=u->u<nx->u<=8589934592->bX z L u=k)/\(nx<=8589934592->k<bX z L nx)
theorem jxI{L:bM}(hL:eX zs.length ps.length cs.length L){t:Int}(h0:0<=t)(h1:t<=8589934592)(hk:0<=bX (aO zs L.2.1) L t){v:Int}{ok:Bool}
  (hv:j0D (tb (aO zs L.2.1)) L (bX (aO zs L.2.1) L t+1)=some (v,ok)):t<(cond ok v 8589934593)/\yO (aO zs L.2.1) L (bX (aO zs L.2.1) L t) (cond ok v 8589934593) t:=by
 have hz:=lE hs.so.ok hL.z0 hL.z1;have a:=(sP hz hL.rt2 (t:=t) h0 h1).2;have a':lD (aO zs L.2.1).2.1 (tb (aO zs L.2.1)).2 L t (bX (aO zs L.2.1) L t):=a;have hu:∀u,t<=u->u<=8589934592->lD (aO zs L.2.1).2.1 (tb (aO zs L.2.1)).2 L u (bX (aO zs L.2.1) L u):=λu _ h2=>(sP hz hL.rt2 (t:=u) (by omega) h2).2;generalize hK:bX (aO zs L.2.1) L t=K at *;rcases a' with⟨a1,a2⟩|⟨a1,⟨w,hw,hwt⟩,a3⟩
 .omega
 .have nG:=Dh hz.ztab.2 hL.rt2 a1 hw;obtain⟨v',ev,fQ⟩:=nS hz.ztab.2 hL.rt2 (k:=K+1) (by omega) (by omega);have:=ev.symm.trans hv;simp only[j4,j8]at this;obtain⟨rfl,rfl⟩:=this;cases hh:hO (zs.getD L.2.1.toNat (ByteArray.empty,((0:Int),([]:List aU)))).2.1 (tb (zs.getD L.2.1.toNat (ByteArray.empty,((0:Int),([]:List aU))))).2 L (K+1) with
  |none=>
   simp only[vp,j6]
   exact⟨by omega,λ_=>⟨λu h2 h3 h4=>lD.uniq hz.ztab.2 hL.rt2 (hu u h2 h4) (.inr ⟨a1,⟨w,hw,by omega⟩,λ⟨x,hx,_⟩=>by
    have lL:=hh.symm.trans hx;simp at lL⟩),λh=>by omega⟩⟩
  |some x=>
   have:=fQ x hh;subst this;simp only[zo,j5]
   refine⟨?_,λ_=>⟨λu h2 h3 h4=>lD.uniq hz.ztab.2 hL.rt2 (hu u h2 h4) (.inr ⟨a1,⟨w,hw,by omega⟩,λ⟨x,hx,iW⟩=>by
    have lL:=hh.symm.trans hx;simp only[j4]at lL;omega⟩),λhle=>?_⟩⟩
   rotate_left
   .have NJ:v'<=8589934592:=hle;have xW:t<=v':=by apply jm;intro hn;exact a3 ⟨_,hh,by omega⟩
    have b':=hu v' xW NJ;rcases b' with⟨b1,b2⟩|⟨b1,b2,b3⟩
    .exact absurd (QO.le hz.ztab.2 hL.rt2 (show (0:Int)<=K+1 by omega) ⟨_,hh,kg _⟩) b2
    .apply jm;intro hn;exact b3 (QO.le hz.ztab.2 hL.rt2 (show bX (aO zs L.2.1) L v'+1<=K+1 by omega) ⟨_,hh,kg _⟩)
   apply jm;intro hn;exact a3 ⟨_,hh,by omega⟩
theorem jz0{L:bM}(hL:eX zs.length ps.length cs.length L){k:Int}(hk:0<=k):∃_:(Int.tmod k (L.2.2.2.2.2.1.length:Int)).toNat<L.2.2.2.2.2.1.length,0<=Int.tmod k (L.2.2.2.2.2.1.length:Int)/\Int.tmod k (L.2.2.2.2.2.1.length:Int)<(L.2.2.2.2.2.1.length:Int)/\L.2.2.2.2.2.1.getD (Int.tmod k (L.2.2.2.2.2.1.length:Int)).toNat 0=qG L k:=by
 have _:=hs;have uE:=hL.m0;have q1:0<=Int.tmod k (L.2.2.2.2.2.1.length:Int):=Int.tmod_nonneg _ hk;have q2:Int.tmod k (L.2.2.2.2.2.1.length:Int)<(L.2.2.2.2.2.1.length:Int):=Int.tmod_lt_of_pos _ (by omega);exact⟨by omega,q1,q2,rfl⟩
theorem Vg{L:bM}(hL:eX zs.length ps.length cs.length L){a b e p m j:Int}{sp:SL}(ha:0<=a)(he:e<=8589934592){B:Int}(hB:B<=1000000):∀(n:Nat)(t k nx:Int)(acc:bK),e-t=n->a<=t->
  (∀u,t<=u->u<e->gP zs cs L u=true)->yO (aO zs L.2.1) L k nx t->Ch (db zs cs L) t a acc->(t<e->(acc.length:Int)<=B+bX (aO zs L.2.1) L t)->
  (t=e->a<e->(acc.length:Int)<=B+1+bX (aO zs L.2.1) L (e-1))->
  ∃k' jV bD,Cq b t k nx m j L.1 L.2.1 L.2.2.1.1 L.2.2.1.2 L.2.2.2.1 L.2.2.2.2.1 L.2.2.2.2.2.1 L.2.2.2.2.2.2.1 L.2.2.2.2.2.2.2.1 L.2.2.2.2.2.2.2.2 (tb (aO zs L.2.1)).1 (tb (aO zs L.2.1)).2 p e acc sp=
   some (b,e,k',jV,m,j,L.1,L.2.1,L.2.2.1.1,L.2.2.1.2,L.2.2.2.1,L.2.2.2.2.1,L.2.2.2.2.2.1,L.2.2.2.2.2.2.1,L.2.2.2.2.2.2.2.1,L.2.2.2.2.2.2.2.2,(tb (aO zs L.2.1)).1,(tb (aO zs L.2.1)).2,bD,sp)/\
   yO (aO zs L.2.1) L k' jV e/\Ch (db zs cs L) e a bD/\(a<e->(bD.length:Int)<=B+1+bX (aO zs L.2.1) L (e-1))
 |n,t,k,nx,acc,hn,nG,rv,hc,lG,hl,qR=>by
  have hz:=lE hs.so.ok hL.z0 hL.z1;rw[jcn];simp only[j2v];by_cases cg:t<e
  .rw[ag cg,j5];have NK:=rv t (kg _) cg;obtain⟨eK,hK⟩:j3v (tb (aO zs L.2.1)) L t=some (bX (aO zs L.2.1) L t)/\lD (aO zs L.2.1).2.1 (tb (aO zs L.2.1)).2 L t (bX (aO zs L.2.1) L t):=sP hz hL.rt2 (t:=t) (by omega) (by omega);have ou:0<=bX (aO zs L.2.1) L t:=NB NK
   have pF:bX (aO zs L.2.1) L t<=2386092:=by
    have hK':lD (aO zs L.2.1).2.1 (tb (aO zs L.2.1)).2 L t (bX (aO zs L.2.1) L t):=hK;rcases hK' with⟨h1,_⟩|⟨h1,⟨w,hw,_⟩,_⟩
    .omega
    .exact(Dh hz.ztab.2 hL.rt2 h1 hw).2.2
   obtain⟨_,q1,q2,q3⟩:=jz0 hs hL ou;have uE:=hL.m0;have au:=hl cg
   have step:∀jV:Int,t<jV->yO (aO zs L.2.1) L (bX (aO zs L.2.1) L t) jV t->∀bD:bK,bD=acc++[(t,((if jV<e then jV else e),qG L (bX (aO zs L.2.1) L t)))]->
     ∃Vh Dq qK,Cq b (if jV<e then jV else e) (bX (aO zs L.2.1) L t) jV m j L.1 L.2.1 L.2.2.1.1 L.2.2.1.2 L.2.2.2.1 L.2.2.2.2.1 L.2.2.2.2.2.1 L.2.2.2.2.2.2.1 L.2.2.2.2.2.2.2.1 L.2.2.2.2.2.2.2.2 (tb (aO zs L.2.1)).1 (tb (aO zs L.2.1)).2 p e bD sp=
      some (b,e,Vh,Dq,m,j,L.1,L.2.1,L.2.2.1.1,L.2.2.1.2,L.2.2.2.1,L.2.2.2.2.1,L.2.2.2.2.2.1,L.2.2.2.2.2.2.1,L.2.2.2.2.2.2.2.1,L.2.2.2.2.2.2.2.2,(tb (aO zs L.2.1)).1,(tb (aO zs L.2.1)).2,qK,sp)/\
      yO (aO zs L.2.1) L Vh Dq e/\Ch (db zs cs L) e a qK/\(a<e->(qK.length:Int)<=B+1+bX (aO zs L.2.1) L (e-1)):=by
    rintro jV Gs dp _ rfl
    obtain⟨t',qU,h1,h2,h3,h4⟩:∃t':Int,t'=(if jV<e then jV else e)/\t<t'/\t'<=e/\t'<=jV/\(t'<e->t'=jV):=⟨_,rfl,by split<;>omega,by split<;>omega,by split<;>omega,λh=>by
     by_cases hx:jV<e
     .rw[if_pos hx]
     .rw[if_neg hx]at h;omega⟩
    rw[<-qU]
    refine Vg hL ha he hB (e-t').toNat t' (bX (aO zs L.2.1) L t) jV _ (by omega) (by omega) (λu u1 u2=>rv u (by omega) u2) (λh5=>⟨λu u1 u2 u3=>(dp Gs).1 u (by omega) u2 u3,(dp Gs).2⟩)
     (lG.snoc (by omega) (λu u1 u2=>?_)) (λfw=>?_) (λheq _=>?_)
    .unfold db;rw[rv u u1 (by omega),(dp Gs).1 u u1 (by omega) (by omega)];rfl
    .have hm:=Gr hs hL (t:=t) (u:=t') (by omega) (by omega) (by omega);have aT:bX (aO zs L.2.1) L t<bX (aO zs L.2.1) L t':=by have:=h4 fw;subst this;exact(dp Gs).2 (by omega)
     simp only[je,qa];omega
    .have hm:=Gr hs hL (t:=t) (u:=e-1) (by omega) (by omega) (by omega);simp only[je,qa];omega
   by_cases Vi:t>=nx
   .rw[ag Vi,j5];rw[show j3v ((tb (aO zs L.2.1)).1,(tb (aO zs L.2.1)).2) (L.1,L.2.1,(L.2.2.1.1,L.2.2.1.2),L.2.2.2.1,L.2.2.2.2.1,L.2.2.2.2.2.1,L.2.2.2.2.2.2.1,L.2.2.2.2.2.2.2.1,L.2.2.2.2.2.2.2.2) t=_ from eK];simp only[j3];rw[ah (x:=bX (aO zs L.2.1) L t+1) (by omega) (by omega)];obtain⟨v,ev,_⟩:=nS hz.ztab.2 hL.rt2 (k:=bX (aO zs L.2.1) L t+1) (by omega) (by omega);have fy:=jxI hs hL (t:=t) (by omega) (by omega) ou ev;rw[show j0D ((tb (aO zs L.2.1)).1,(tb (aO zs L.2.1)).2) (L.1,L.2.1,(L.2.2.1.1,L.2.2.1.2),L.2.2.2.1,L.2.2.2.2.1,L.2.2.2.2.2.1,L.2.2.2.2.2.2.1,L.2.2.2.2.2.2.2.1,L.2.2.2.2.2.2.2.2) (bX (aO zs L.2.1) L t+1)=_ from ev];simp only[j3,show Int.ofNat L.2.2.2.2.2.1.length=(L.2.2.2.2.2.1.length:Int) from rfl];rw[cB (show¬(L.2.2.2.2.2.1.length:Int)=0 by omega),aZ q1 q2];have bF:∀x:jU,acc.length+[x].length<=aP:=λx=>by simp[aP];omega
    revert fy
    generalize (hO (zs.getD L.2.1.toNat (ByteArray.empty,((0:Int),([]:List aU)))).2.1 (tb (zs.getD L.2.1.toNat (ByteArray.empty,((0:Int),([]:List aU))))).2 L (bX (aO zs L.2.1) L t+1)).isSome=ok
    cases ok with
    |false=>intro fy;simp only[k5,j5];rw[ag (bF _),j5,aQ];exact step 8589934593 fy.1 fy.2 _ (by rw[q3])
    |true=>intro fy;simp only[jn,k5,j6,j5];rw[ag (bF _),j5,aQ];exact step v fy.1 fy.2 _ (by rw[q3])
   .have hk:=(hc (by omega)).1 t (kg _) (by omega) (by omega);subst hk;rw[aj Vi,j6];simp only[show Int.ofNat L.2.2.2.2.2.1.length=(L.2.2.2.2.2.1.length:Int) from rfl];rw[cB (show¬(L.2.2.2.2.2.1.length:Int)=0 by omega),aZ q1 q2];simp only[k5,j5];rw[ag (show acc.length+[_].length<=aP by simp[aP];omega),j5,aQ];exact step nx (by omega) hc _ (by rw[q3])
  .have NL:t=e:=by omega
   subst NL;rw[aj cg,j6,aY];exact⟨k,nx,acc,rfl,hc,lG,qR rfl⟩
 termination_by n=>n
theorem Vj{L:bM}(hL:eX zs.length ps.length cs.length L){a b:Int}(ha:0<=a)(hb:b<=8589934592){A:SL}(hA:A.length<=400000)(qJ:∀t,bJ t A↔a<=t/\t<b/\gP zs cs L t=true)
  {k0:Int}{N:Nat}(hN:N<=4000000)(ou : -1<=k0)(yK:∀t,a<=t->t<b->gP zs cs L t=true->k0<=bX (aO zs L.2.1) L t/\bX (aO zs L.2.1) L t<=k0+N) :
  ∀(n j:Nat)(t k nx Kc:Int)(acc:bK),j+n=A.length->a<=t->t<=b->ca (t-1) (A.drop j)->(∀u,t<=u->(bJ u A↔bJ u (A.drop j)))->yO (aO zs L.2.1) L k nx t->Ch (db zs cs L) t a acc->
   k0<=Kc->Kc<=k0+N->(∀u,t<=u->bJ u A->Kc<=bX (aO zs L.2.1) L u)->(acc.length:Int)<=2*j+(Kc-k0)->
  ∃t' bD,Cr b t k nx (A.length:Int) (j:Int) L.1 L.2.1 L.2.2.1.1 L.2.2.1.2 L.2.2.2.1 L.2.2.2.2.1 L.2.2.2.2.2.1 L.2.2.2.2.2.2.1 L.2.2.2.2.2.2.2.1 L.2.2.2.2.2.2.2.2 (tb (aO zs L.2.1)).1 (tb (aO zs L.2.1)).2 acc A=some (b,t',bD)/\
   Ch (db zs cs L) b a (bD++[(t',(b, -1))])/\bD.length<=2*A.length+N
 |0,j,t,k,nx,Kc,acc,hj,nG,Vk,aA,gr,hc,lG,hK1,hK2,Vl,hl=>by
  rw[SJ];simp only[j1C];rw[aj (by omega),j6,aY];refine⟨t,acc,rfl,lG.snoc Vk (λu u1 u2=>?_),by omega⟩
  have:gP zs cs L u=false:=by
   cases ho:gP zs cs L u with
   |false=>rfl
   |true=>have:=(gr u u1).1 ((qJ u).2 ⟨by omega,u2,ho⟩);rw[jc (by omega)]at this;exact absurd this gO
  unfold db;rw[this];rfl
 |n+1,j,t,k,nx,Kc,acc,hj,nG,Vk,aA,gr,hc,lG,hK1,hK2,Vl,hl=>by
  have gE:j<A.length:=by omega
  have bh:A.getD j ((0:Int),(0:Int))=A[j]:=by simp[List.getD,gE]
  rw[jb gE]at aA gr;obtain⟨s1,s2,s3⟩:=aA;have rv:∀u,A[j].1<=u->u<A[j].2->bJ u A:=λu u1 u2=>(gr u (by omega)).2 (eY.2 (.inl ⟨u1,u2⟩));have oX:=(qJ A[j].1).1 (rv _ (kg _) s2);have u5:=(qJ (A[j].2-1)).1 (rv _ (by omega) (by omega));have hKj:=Vl A[j].1 (by omega) (rv _ (kg _) s2);rw[SJ];simp only[j1C];rw[ag (show (j:Int)<(A.length:Int) by omega),aZ (by omega) (by omega)];simp only[j5,j7,bh];rw[ag (show acc.length+[_].length<=aP by simp[aP];omega),j5]
  obtain⟨k',jV,bD,e2,c2,h2,l2⟩:=Vg hs hL (a:=a) (b:=b) (e:=A[j].2) (p:=A[j].1) (m:=(A.length:Int)) (j:=(j:Int)) (sp:=A) ha (by omega) (B:=2*j+1-k0) (by omega) (A[j].2-A[j].1).toNat A[j].1 k nx
   (acc++[(t,(A[j].1, -1))]) (by omega) (by omega) (λu u1 u2=>((qJ u).1 (rv u u1 u2)).2.2) (λh5=>by
    have h6:=hc (by omega);exact⟨λu u1 u2 u3=>h6.1 u (by omega) u2 u3,h6.2⟩) (lG.snoc (by omega) (λu u1 u2=>by
    have:gP zs cs L u=false:=by
     cases ho:gP zs cs L u with
     |false=>rfl
     |true=>
      have:=(gr u u1).1 ((qJ u).2 ⟨by omega,by omega,ho⟩);rcases eY.1 this with h|h
      .omega
      .have:=ca.low s3 h;omega
    unfold db;rw[this];rfl)) (λ_=>by rw[je,qa];omega) (λh=>by omega)
  rw[e2];simp only[j3];rw[ah (x:=(j:Int)+1) (by omega) (by omega),aQ];have qR:=l2 (by omega);have hr:=yK (A[j].2-1) (by omega) (by omega) u5.2.2
  exact Vj hL ha hb hA qJ hN ou yK n (j+1) A[j].2 k' jV (bX (aO zs L.2.1) L (A[j].2-1)) bD (by omega) (by omega) (by omega) (s3.weak (by omega)) (λu hu=>by
   rw[gr u (by omega),eY]
   exact⟨λh=>by
    rcases h with h|h
    .omega
    .exact h,.inr⟩) c2 h2 hr.1 hr.2 (λu hu NM=>by
   have:=(qJ u).1 NM;exact Gr hs hL (by omega) (by omega) (by omega)) (by omega)
theorem Vm{L:bM}(hL:eX zs.length ps.length cs.length L){ss:List dA}{a b:Int}(ha:0<=a)(cG:a<=b)(hb:b<=8589934592){M:Nat}(hM:M<=60)(hlen:b-a<=604800*M)
  {k0:Int}{N:Nat}(hN:N<=4000000)(ou : -1<=k0)(yK:∀t,a<=t->t<b->gP zs cs L t=true->k0<=bX (aO zs L.2.1) L t/\bX (aO zs L.2.1) L t<=k0+N) :
  ∃out,j1F ((zs,(ps,(cs,ss))),zs.map tb) L a b=some out/\eH (db zs cs L) b none a out/\
   out.length<=2*(L.2.2.2.2.2.2.1.length*(M+1)*5+1+(if L.2.2.2.2.2.2.2.2=0 then 0 else (nh cs L.2.2.2.2.2.2.2.1).2.2.length*5))+N+1:=by
 have gD:(zs.map tb).length=zs.length:=kb ..;have hg:=Ng (zs:=zs) hL.z0 hL.z1;obtain⟨A,e1,s1,s2,s3⟩:=jug hs hL (ss:=ss) ha cG hb hM hlen
 have hAl:A.length<=400000:=by
  have h1:L.2.2.2.2.2.2.1.length*(M+1)<=14*61:=zf hL.wl (by omega);by_cases hm:L.2.2.2.2.2.2.2.2=0
  .rw[if_pos hm]at s3;omega
  .rw[if_neg hm]at s3;have hx:=(sO hs (hL.cal hm).1 (hL.cal hm).2).len;have h64:(nh cs L.2.2.2.2.2.2.2.1).2.2.length<=64:=hx;omega
 obtain⟨t',acc,e2,h2,l2⟩:=Vj hs hL ha hb hAl s2 hN ou yK A.length 0 a (-1) (-1) k0 [] (by omega) (kg _) cG s1 (λu _=>by simp) (λh=>by omega) rfl (kg _) (by omega) (λu hu NM=>by
  have:=(s2 u).1 NM;exact(yK u this.1 this.2.1 this.2.2).1) (by simp)
 obtain⟨out,e3,h3,l3⟩:=NI (l:=acc++[(t',(b, -1))]) (by rw[je,qa];omega) h2;refine⟨out,?_,h3,by rw[je,qa]at l3;omega⟩;simp only[j1F];rw[aZ hL.z0 (by rw[gD];exact hL.z1)];simp only[j5,hg];rw[show j6o ((zs,(ps,(cs,ss))),zs.map tb) (L.1,L.2.1,(L.2.2.1.1,L.2.2.1.2),L.2.2.2.1,L.2.2.2.2.1,L.2.2.2.2.2.1,L.2.2.2.2.2.2.1,L.2.2.2.2.2.2.2.1,L.2.2.2.2.2.2.2.2) a b=_ from e1];simp only[j3,show Int.ofNat A.length=(A.length:Int) from rfl];rw[show Cr b a (-1) (-1) (A.length:Int) 0 L.1 L.2.1 L.2.2.1.1 L.2.2.1.2 L.2.2.2.1 L.2.2.2.2.1 L.2.2.2.2.2.1 L.2.2.2.2.2.2.1 L.2.2.2.2.2.2.2.1 L.2.2.2.2.2.2.2.2 (tb (zs.getD L.2.1.toNat (ByteArray.empty,((0:Int),([]:List aU))))).1 (tb (zs.getD L.2.1.toNat (ByteArray.empty,((0:Int),([]:List aU))))).2 [] A=_ from e2];simp only[j3];rw[ag (show acc.length+[_].length<=aP by simp[aP];omega),j5,e3];rfl
end
section
variable{zs:List bI}{ps:List c9}{cs:List aW}(hs:cW zs ps cs)
include hs
omit hs in
theorem lU.near{o:Int}{l:bC}(h:ic o l){s t:Int}{k:Nat}(f:lU o l s t k)(hs:0<=s):s-64800<=t/\t<=s+64800:=by
 obtain⟨p1,p2,p3⟩:=f.piece h;have hk:=f.hk;have o1:=h.of1 k hk;have o0:=h.of0 k hk;have ht:=f.ht;refine⟨by omega,?_⟩;by_cases h0:k=0
 .subst h0;have e0:bq l 0=0:=p9;omega
 .obtain⟨j,rfl⟩:∃j,k=j+1:=⟨k-1,by omega⟩;have b:=f.bef j (by omega);have o2:=h.of0 j (by omega);omega
theorem jxJ{L:bM}(hL:eX zs.length ps.length cs.length L){t u:Int}(h0:0<=t)(xk:t<=u)(h1:u<=8589934592):bX (aO zs L.2.1) L u<=bX (aO zs L.2.1) L t+(u-t)/3600+8:=by
 have hz:=lE hs.so.ok hL.z0 hL.z1;have aA:=hL.rt2.step;have uh:=hL.rt2.e0;have mh:=hL.c0;have hd:=hL.d0;have a':lD (aO zs L.2.1).2.1 (tb (aO zs L.2.1)).2 L t (bX (aO zs L.2.1) L t):=(sP hz hL.rt2 (t:=t) h0 (by omega)).2;have b':lD (aO zs L.2.1).2.1 (tb (aO zs L.2.1)).2 L u (bX (aO zs L.2.1) L u):=(sP hz hL.rt2 (t:=u) (by omega) h1).2;generalize bX (aO zs L.2.1) L t=K at *;generalize bX (aO zs L.2.1) L u=K' at *;have hK : -1<=K:=by rcases a' with⟨h,_⟩|⟨h,_⟩<;>omega
 have hn:¬QO (aO zs L.2.1).2.1 (tb (aO zs L.2.1)).2 L t (K+1):=by
  rcases a' with⟨h,h2⟩|⟨_,_,h2⟩
  .rw[h];exact h2
  .exact h2
 by_cases hKK:K'<=K+1
 .omega
 .rcases b' with⟨h,_⟩|⟨hK0,⟨v,hv,hvu⟩,_⟩
  .omega
  .obtain⟨w,hw,hwu⟩:QO (aO zs L.2.1).2.1 (tb (aO zs L.2.1)).2 L u (K+1):=QO.le hz.ztab.2 hL.rt2 (show K+1<=K' by omega) ⟨v,hv,hvu⟩;have hwt:t<w:=by apply jm;intro hx;exact hn ⟨w,hw,by omega⟩
   have hm:3600*(K'-(K+1))<=3600*L.2.2.2.2.1*(K'-(K+1)):=Int.mul_le_mul_of_nonneg_right (by omega) (by omega);by_cases hu:L.2.2.2.1=0
   .unfold hO at hv hw;rw[if_pos hu]at hv hw;cases hf:fO (aO zs L.2.1).2.1 (tb (aO zs L.2.1)).2 (ej L 0) with
    |none=>rw[hf]at hv;simp at hv
    |some x=>
     rw[hf]at hv hw;simp only[j3]at hv hw;split at hv
     .split at hw
      .simp only[j4]at hv hw;have e:3600*L.2.2.2.2.1*(K'-(K+1))=3600*L.2.2.2.2.1*K'-3600*L.2.2.2.2.1*(K+1):=Int.mul_sub ..;omega
      .simp at hw
     .simp at hv
   .unfold hO at hv hw;rw[if_neg hu]at hv hw;obtain⟨k1,f1⟩:=Ge hv;obtain⟨k2,f2⟩:=Ge hw;have e:(K'-(K+1))*fe L=K'*fe L-(K+1)*fe L:=Int.sub_mul ..;have iB:(K'-(K+1))*1<=(K'-(K+1))*fe L:=Int.mul_le_mul_of_nonneg_left aA.1 (by omega);have hm3:0<=(K+1)*fe L:=Int.mul_nonneg (by omega) (by omega);have g1:=f1.near hz.ztab.2 (by unfold ej;omega);have g2:=f2.near hz.ztab.2 (by unfold ej;omega);unfold ej at g1 g2;omega
theorem Vn{L:bM}(hL:eX zs.length ps.length cs.length L){a b:Int}(ha:0<=a)(hb:b<=8589934592):∀t,a<=t->t<b->gP zs cs L t=true->bX (aO zs L.2.1) L a<=bX (aO zs L.2.1) L t/\bX (aO zs L.2.1) L t<=bX (aO zs L.2.1) L a+(((b-a)/3600+8).toNat:Int):=λt h1 h2 _=>by
 have e1:=Gr hs hL (t:=a) (u:=t) ha h1 (by omega);have e2:=jxJ hs hL (t:=a) (u:=t) ha h1 (by omega);omega
theorem Vo{L:bM}(hL:eX zs.length ps.length cs.length L){t:Int}(h0:0<=t)(h1:t<=8589934592) : -1<=bX (aO zs L.2.1) L t:=by
 have hz:=lE hs.so.ok hL.z0 hL.z1;have a':lD (aO zs L.2.1).2.1 (tb (aO zs L.2.1)).2 L t (bX (aO zs L.2.1) L t):=(sP hz hL.rt2 (t:=t) h0 h1).2;rcases a' with⟨h,_⟩|⟨h,_⟩<;>omega
theorem jvV{L:bM}(hL:eX zs.length ps.length cs.length L){ss:List dA}{a b:Int}(ha:0<=a)(cG:a<=b)(hb:b<=8589934592)(hlen:b-a<=1209600) :
  ∃out,j1F ((zs,(ps,(cs,ss))),zs.map tb) L a b=some out/\eH (db zs cs L) b none a out/\out.length<=5000:=by
 obtain⟨out,e,h1,h2⟩:=Vm hs hL (ss:=ss) ha cG hb (M:=2) (by omega) (by omega) (N:=((b-a)/3600+8).toNat) (by omega) (Vo hs hL ha (by omega)) (Vn hs hL ha hb);refine⟨out,e,h1,?_⟩;have hw:L.2.2.2.2.2.2.1.length*(2+1)*5<=14*3*5:=jv _ (jv _ hL.wl)
 have hc:(if L.2.2.2.2.2.2.2.2=0 then 0 else (nh cs L.2.2.2.2.2.2.2.1).2.2.length*5)<=64*5:=by
  by_cases hm:L.2.2.2.2.2.2.2.2=0
  .rw[if_pos hm];omega
  .rw[if_neg hm];exact jv _ (sO hs (hL.cal hm).1 (hL.cal hm).2).len
 omega
theorem Vp{L:bM}(hL:eX zs.length ps.length cs.length L){ss:List dA}{a b:Int}(ha:0<=a)(cG:a<=b)(hb:b<=8589934592)(hlen:b-a<=35078400) :
  ∃out,j1F ((zs,(ps,(cs,ss))),zs.map tb) L a b=some out/\eH (db zs cs L) b none a out/\out.length<=30000:=by
 obtain⟨out,e,h1,h2⟩:=Vm hs hL (ss:=ss) ha cG hb (M:=58) (by omega) (by omega) (N:=((b-a)/3600+8).toNat) (by omega) (Vo hs hL ha (by omega)) (Vn hs hL ha hb);refine⟨out,e,h1,?_⟩;have hw:L.2.2.2.2.2.2.1.length*(58+1)*5<=14*59*5:=jv _ (jv _ hL.wl)
 have hc:(if L.2.2.2.2.2.2.2.2=0 then 0 else (nh cs L.2.2.2.2.2.2.2.1).2.2.length*5)<=64*5:=by
  by_cases hm:L.2.2.2.2.2.2.2.2=0
  .rw[if_pos hm];omega
  .rw[if_neg hm];exact jv _ (sO hs (hL.cal hm).1 (hL.cal hm).2).len
 omega
section
variable{ss:List dA}(g0:ss.length<=12)(g1:eG (ss.map (·.1)))(g2:∀s∈ss,rr zs.length ps.length cs.length s)
 {L:bM}(hL:eX zs.length ps.length cs.length L)(hn:j4Y L.1=some true)
include g0 g1 g2 hL hn
end
end
end Go.Proofs.Pw
