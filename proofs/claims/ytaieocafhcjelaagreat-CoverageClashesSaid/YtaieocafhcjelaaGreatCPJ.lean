/- qO.Merge, qO.View.Segments: N1 is on qO in a range. -/
import Derived.Test.YtaieocafhcjelaaGreatCPI
import Derived.Test.YtaieocafhcjelaaGreatCPE
open Go Go.Lft
namespace Go.Proofs.Pw
theorem jAK(l:bQ)(x y:jN):(l++[x]).set l.length y=l++[y]:=by
 rw[zd _ _ (jl _)];simp
theorem WK(out:bQ)(s:jN):(lL out s).length<=out.length+1:=by
 unfold lL;split
 .omega
 .rcases List.eq_nil_or_concat out with rfl|⟨l,u,rfl⟩
  .simp
  .rw[List.concat_eq_append,List.getLast?_append];simp only[List.getLast?_singleton,Option.some_or];split
   .simp
   .simp
theorem WM:∀(l out:bQ),(l.foldl lL out).length<=out.length+l.length
 |[],out=>by simp
 |s::r,out=>by
  have:=WM r (lL out s);have:=WK out s;simp only[vp,jm];omega
theorem WN{l:bQ}(hl:l.length<=1000000000):∀(n i:Nat)(out:bQ),i+n=l.length->out.length<=i->uP l (l.length:Int) (i:Int) out=some ((l.drop i).foldl lL out)
 |0,i,out,hi,ho=>by
  rw[S8];simp only[j5V];rw[ah (by omega),j6,aU,jf (by omega)];rfl
 |n+1,i,out,hi,ho=>by
  have bd:i<l.length:=by omega
  have bj:l.getD i ((0:Int),((0:Int),(0:Int)))=l[i]:=by simp[List.getD,bd]
  have ih:∀tj:bQ,tj=lL out l[i]->uP l (l.length:Int) ((i:Int)+1) tj=some ((l.drop i).foldl lL out):=λtj he=>by
   rw[jc bd,vp,<-he];have:=WK out l[i];exact WN hl n (i+1) tj (by omega) (by rw[he];omega)
  rw[S8];simp only[j5V];rw[ag (by omega),aR (by omega) (by omega)];simp only[j5,j7,bj,show Int.ofNat out.length=(out.length:Int) from rfl];rw[aj (x:=(i:Int)+1) (by omega) (by omega)];generalize l[i]=s at *;by_cases hs:s.2.1<=s.1
  .rw[ag hs,j5,aJ];exact ih _ (by unfold lL;rw[if_pos hs])
  .rw[ah hs,j6];rcases List.eq_nil_or_concat out with rfl|⟨o,u,rfl⟩
   .simp only[qc];rw[ah (show¬((0:Nat):Int)>0 by omega),j6,ag (show 0+[(s.1,(s.2.1,s.2.2))].length<=aY by simp[aY]),j5,aJ];exact ih _ (by unfold lL;rw[if_neg hs];rfl)
   .rw[List.concat_eq_append]at ih ho ⊢;have wM:(o++[u]).length=o.length+1:=by simp
    rw[wM]at ho;have nw:(o++[u]).getD o.length ((0:Int),((0:Int),(0:Int)))=u:=by simp[List.getD]
    rw[wM,ag (show ((o.length+1:Nat):Int)>0 by omega),j5,aj (x:=((o.length+1:Nat):Int)-1) (by omega) (by omega),show ((o.length+1:Nat):Int)-1=(o.length:Int) by omega,aR (by omega) (by omega)];simp only[j5,j7,nw];have On:lL (o++[u]) s=if u.2.1=s.1/\u.2.2=s.2.2 then o++[(u.1,(s.2.1,u.2.2))] else (o++[u])++[s]:=by unfold lL;rw[if_neg hs,List.getLast?_append];simp only[List.getLast?_singleton,Option.some_or,List.dropLast_concat]
    by_cases h1:u.2.1=s.1
    .rw[cP h1,j5];by_cases h2:u.2.2=s.2.2
     .rw[cP h2,j5,aJ,jAK];exact ih _ (by rw[On,if_pos ⟨h1,h2⟩])
     .rw[bW h2,j6,ag (show o.length+1+[(s.1,(s.2.1,s.2.2))].length<=aY by simp[aY];omega),j5,aJ];exact ih _ (by rw[On,if_neg (λh=>h2 h.2)])
    .rw[bW h1,j6,ag (show o.length+1+[(s.1,(s.2.1,s.2.2))].length<=aY by simp[aY];omega),j5,aJ];exact ih _ (by rw[On,if_neg (λh=>h1 h.1)])
theorem jzg{l:bQ}(hl:l.length<=1000000000):j7H l=some (l.foldl lL []):=by
 simp only[j7H,show Int.ofNat l.length=(l.length:Int) from rfl];rw[show uP l (l.length:Int) 0 []=_ from WN hl l.length 0 [] (by omega) (by simp)];rfl
theorem Oo{f:Int->Int}{a b:Int}{l:bQ}(hl:l.length<=1000000000)(h:Ch f b a l):∃out,j7H l=some out/\eh f b none a out/\out.length<=l.length:=
 ⟨_,jzg hl,h.cov,by have:=WM l [];simpa using this⟩
section
variable{zs:List bU}{ps:List dH}{cs:List bt}(hs:fK zs ps cs)
include hs
theorem G9{L:bP}(hL:eD zs.length ps.length cs.length L){t u:Int}(h0:0<=t)(ya:t<=u)(h1:u<=8589934592):bO (aN zs L.2.1) L t<=bO (aN zs L.2.1) L u:=by
 have hz:=iw hs.so.ok hL.z0 hL.z1;have a:=(rF hz hL.rt2 (t:=t) h0 (by omega)).2;have b:=(rF hz hL.rt2 (t:=u) (by omega) h1).2;show bO (aN zs L.2.1) L t<=bO (aN zs L.2.1) L u;have a':iQ (aN zs L.2.1).2.1 (tb (aN zs L.2.1)).2 L t (bO (aN zs L.2.1) L t):=a;have b':iQ (aN zs L.2.1).2.1 (tb (aN zs L.2.1)).2 L u (bO (aN zs L.2.1) L u):=b;generalize bO (aN zs L.2.1) L t=K at *;generalize bO (aN zs L.2.1) L u=K' at *;rcases a' with⟨a1,a2⟩|⟨a1,⟨v,hv,uc⟩,a3⟩<;>rcases b' with⟨b1,b2⟩|⟨b1,b2,b3⟩
 .omega
 .omega
 .exact absurd (QO.le hz.ztab.2 hL.rt2 a1 ⟨v,hv,by omega⟩) b2
 .apply jr;intro hn;exact b3 (QO.le hz.ztab.2 hL.rt2 (show K'+1<=K by omega) ⟨v,hv,by omega⟩)
def Az(z:bU)(L:bP)(k nx t:Int):Prop:=t<nx->(∀u,t<=u->u<nx->u<=8589934592->bO z L u=k)/\(nx<=8589934592->k<bO z L nx)
theorem jCD{L:bP}(hL:eD zs.length ps.length cs.length L){t:Int}(h0:0<=t)(h1:t<=8589934592)(hk:0<=bO (aN zs L.2.1) L t){v:Int}{ok:Bool}
  (hv:j0F (tb (aN zs L.2.1)) L (bO (aN zs L.2.1) L t+1)=some (v,ok)):t<(cond ok v 8589934593)/\Az (aN zs L.2.1) L (bO (aN zs L.2.1) L t) (cond ok v 8589934593) t:=by
 have hz:=iw hs.so.ok hL.z0 hL.z1;have a:=(rF hz hL.rt2 (t:=t) h0 h1).2;have a':iQ (aN zs L.2.1).2.1 (tb (aN zs L.2.1)).2 L t (bO (aN zs L.2.1) L t):=a;have hu:∀u,t<=u->u<=8589934592->iQ (aN zs L.2.1).2.1 (tb (aN zs L.2.1)).2 L u (bO (aN zs L.2.1) L u):=λu _ h2=>(rF hz hL.rt2 (t:=u) (by omega) h2).2;generalize hK:bO (aN zs L.2.1) L t=K at *;rcases a' with⟨a1,a2⟩|⟨a1,⟨w,hw,hwt⟩,a3⟩
 .omega
 .have nD:=Ec hz.ztab.2 hL.rt2 a1 hw;obtain⟨v',ev,gm⟩:=nV hz.ztab.2 hL.rt2 (k:=K+1) (by omega) (by omega);have:=ev.symm.trans hv;simp only[j4,j8]at this;obtain⟨rfl,rfl⟩:=this;cases hh:hO (zs.getD L.2.1.toNat (ByteArray.empty,((0:Int),([]:List aO)))).2.1 (tb (zs.getD L.2.1.toNat (ByteArray.empty,((0:Int),([]:List aO))))).2 L (K+1) with
  |none=>
   simp only[v8,j6]
   exact⟨by omega,λ_=>⟨λu h2 h3 h4=>iQ.uniq hz.ztab.2 hL.rt2 (hu u h2 h4) (.inr ⟨a1,⟨w,hw,by omega⟩,λ⟨x,hx,_⟩=>by
    have iZ:=hh.symm.trans hx;simp at iZ⟩),λh=>by omega⟩⟩
  |some x=>
   have:=gm x hh;subst this;simp only[zh,j5]
   refine⟨?_,λ_=>⟨λu h2 h3 h4=>iQ.uniq hz.ztab.2 hL.rt2 (hu u h2 h4) (.inr ⟨a1,⟨w,hw,by omega⟩,λ⟨x,hx,iM⟩=>by
    have iZ:=hh.symm.trans hx;simp only[j4]at iZ;omega⟩),λhle=>?_⟩⟩
   rotate_left
   .have Oq:v'<=8589934592:=hle;have yK:t<=v':=by apply jr;intro hn;exact a3 ⟨_,hh,by omega⟩
    have b':=hu v' yK Oq;rcases b' with⟨b1,b2⟩|⟨b1,b2,b3⟩
    .exact absurd (QO.le hz.ztab.2 hL.rt2 (show (0:Int)<=K+1 by omega) ⟨_,hh,ki _⟩) b2
    .apply jr;intro hn;exact b3 (QO.le hz.ztab.2 hL.rt2 (show bO (aN zs L.2.1) L v'+1<=K+1 by omega) ⟨_,hh,ki _⟩)
   apply jr;intro hn;exact a3 ⟨_,hh,by omega⟩
theorem jDZ{L:bP}(hL:eD zs.length ps.length cs.length L){k:Int}(hk:0<=k):∃_:(Int.tmod k (L.2.2.2.2.2.1.length:Int)).toNat<L.2.2.2.2.2.1.length,0<=Int.tmod k (L.2.2.2.2.2.1.length:Int)/\Int.tmod k (L.2.2.2.2.2.1.length:Int)<(L.2.2.2.2.2.1.length:Int)/\L.2.2.2.2.2.1.getD (Int.tmod k (L.2.2.2.2.2.1.length:Int)).toNat 0=qP L k:=by
 have _:=hs;have mv:=hL.m0;have q1:0<=Int.tmod k (L.2.2.2.2.2.1.length:Int):=Int.tmod_nonneg _ hk;have q2:Int.tmod k (L.2.2.2.2.2.1.length:Int)<(L.2.2.2.2.2.1.length:Int):=vr _ (by omega);exact⟨by omega,q1,q2,rfl⟩
theorem WO{L:bP}(hL:eD zs.length ps.length cs.length L){a b e p m j:Int}{sp:SL}(ha:0<=a)(he:e<=8589934592){B:Int}(hB:B<=1000000):∀(n:Nat)(t k nx:Int)(acc:bQ),e-t=n->a<=t->
  (∀u,t<=u->u<e->fo zs cs L u=true)->Az (aN zs L.2.1) L k nx t->Ch (cw zs cs L) t a acc->(t<e->(acc.length:Int)<=B+bO (aN zs L.2.1) L t)->
  (t=e->a<e->(acc.length:Int)<=B+1+bO (aN zs L.2.1) L (e-1))->
  ∃k' jP bm,xy b t k nx m j L.1 L.2.1 L.2.2.1.1 L.2.2.1.2 L.2.2.2.1 L.2.2.2.2.1 L.2.2.2.2.2.1 L.2.2.2.2.2.2.1 L.2.2.2.2.2.2.2.1 L.2.2.2.2.2.2.2.2 (tb (aN zs L.2.1)).1 (tb (aN zs L.2.1)).2 p e acc sp=
   some (b,e,k',jP,m,j,L.1,L.2.1,L.2.2.1.1,L.2.2.1.2,L.2.2.2.1,L.2.2.2.2.1,L.2.2.2.2.2.1,L.2.2.2.2.2.2.1,L.2.2.2.2.2.2.2.1,L.2.2.2.2.2.2.2.2,(tb (aN zs L.2.1)).1,(tb (aN zs L.2.1)).2,bm,sp)/\
   Az (aN zs L.2.1) L k' jP e/\Ch (cw zs cs L) e a bm/\(a<e->(bm.length:Int)<=B+1+bO (aN zs L.2.1) L (e-1))
 |n,t,k,nx,acc,hn,nD,lN,hc,lu,hl,rf=>by
  have hz:=iw hs.so.ok hL.z0 hL.z1;rw[jfs];simp only[j1y];by_cases cV:t<e
  .rw[ag cV,j5];have Ot:=lN t (ki _) cV;obtain⟨eK,hK⟩:j3a (tb (aN zs L.2.1)) L t=some (bO (aN zs L.2.1) L t)/\iQ (aN zs L.2.1).2.1 (tb (aN zs L.2.1)).2 L t (bO (aN zs L.2.1) L t):=rF hz hL.rt2 (t:=t) (by omega) (by omega);have oE:0<=bO (aN zs L.2.1) L t:=G8 Ot
   have nI:bO (aN zs L.2.1) L t<=2386092:=by
    have hK':iQ (aN zs L.2.1).2.1 (tb (aN zs L.2.1)).2 L t (bO (aN zs L.2.1) L t):=hK;rcases hK' with⟨h1,_⟩|⟨h1,⟨w,hw,_⟩,_⟩
    .omega
    .exact(Ec hz.ztab.2 hL.rt2 h1 hw).2.2
   obtain⟨_,q1,q2,q3⟩:=jDZ hs hL oE;have mv:=hL.m0;have aA:=hl cV
   have step:∀jP:Int,t<jP->Az (aN zs L.2.1) L (bO (aN zs L.2.1) L t) jP t->∀bm:bQ,bm=acc++[(t,((if jP<e then jP else e),qP L (bO (aN zs L.2.1) L t)))]->
     ∃WQ Ej qR,xy b (if jP<e then jP else e) (bO (aN zs L.2.1) L t) jP m j L.1 L.2.1 L.2.2.1.1 L.2.2.1.2 L.2.2.2.1 L.2.2.2.2.1 L.2.2.2.2.2.1 L.2.2.2.2.2.2.1 L.2.2.2.2.2.2.2.1 L.2.2.2.2.2.2.2.2 (tb (aN zs L.2.1)).1 (tb (aN zs L.2.1)).2 p e bm sp=
      some (b,e,WQ,Ej,m,j,L.1,L.2.1,L.2.2.1.1,L.2.2.1.2,L.2.2.2.1,L.2.2.2.2.1,L.2.2.2.2.2.1,L.2.2.2.2.2.2.1,L.2.2.2.2.2.2.2.1,L.2.2.2.2.2.2.2.2,(tb (aN zs L.2.1)).1,(tb (aN zs L.2.1)).2,qR,sp)/\
      Az (aN zs L.2.1) L WQ Ej e/\Ch (cw zs cs L) e a qR/\(a<e->(qR.length:Int)<=B+1+bO (aN zs L.2.1) L (e-1)):=by
    rintro jP Ha eG _ rfl
    obtain⟨t',ri,h1,h2,h3,h4⟩:∃t':Int,t'=(if jP<e then jP else e)/\t<t'/\t'<=e/\t'<=jP/\(t'<e->t'=jP):=⟨_,rfl,by split<;>omega,by split<;>omega,by split<;>omega,λh=>by
     by_cases hx:jP<e
     .rw[if_pos hx]
     .rw[if_neg hx]at h;omega⟩
    rw[<-ri]
    refine WO hL ha he hB (e-t').toNat t' (bO (aN zs L.2.1) L t) jP _ (by omega) (by omega) (λu u1 u2=>lN u (by omega) u2) (λh5=>⟨λu u1 u2 u3=>(eG Ha).1 u (by omega) u2 u3,(eG Ha).2⟩)
     (lu.snoc (by omega) (λu u1 u2=>?_)) (λfq=>?_) (λheq _=>?_)
    .unfold cw;rw[lN u u1 (by omega),(eG Ha).1 u u1 (by omega) (by omega)];rfl
    .have hm:=G9 hs hL (t:=t) (u:=t') (by omega) (by omega) (by omega);have bq:bO (aN zs L.2.1) L t<bO (aN zs L.2.1) L t':=by have:=h4 fq;subst this;exact(eG Ha).2 (by omega)
     simp only[ja,kv];omega
    .have hm:=G9 hs hL (t:=t) (u:=e-1) (by omega) (by omega) (by omega);simp only[ja,kv];omega
   by_cases WR:t>=nx
   .rw[ag WR,j5];rw[show j3a ((tb (aN zs L.2.1)).1,(tb (aN zs L.2.1)).2) (L.1,L.2.1,(L.2.2.1.1,L.2.2.1.2),L.2.2.2.1,L.2.2.2.2.1,L.2.2.2.2.2.1,L.2.2.2.2.2.2.1,L.2.2.2.2.2.2.2.1,L.2.2.2.2.2.2.2.2) t=_ from eK];simp only[j3];rw[aj (x:=bO (aN zs L.2.1) L t+1) (by omega) (by omega)];obtain⟨v,ev,_⟩:=nV hz.ztab.2 hL.rt2 (k:=bO (aN zs L.2.1) L t+1) (by omega) (by omega);have fM:=jCD hs hL (t:=t) (by omega) (by omega) oE ev;rw[show j0F ((tb (aN zs L.2.1)).1,(tb (aN zs L.2.1)).2) (L.1,L.2.1,(L.2.2.1.1,L.2.2.1.2),L.2.2.2.1,L.2.2.2.2.1,L.2.2.2.2.2.1,L.2.2.2.2.2.2.1,L.2.2.2.2.2.2.2.1,L.2.2.2.2.2.2.2.2) (bO (aN zs L.2.1) L t+1)=_ from ev];simp only[j3,show Int.ofNat L.2.2.2.2.2.1.length=(L.2.2.2.2.2.1.length:Int) from rfl];rw[bW (show¬(L.2.2.2.2.2.1.length:Int)=0 by omega),aR q1 q2];have cp:∀x:jN,acc.length+[x].length<=aY:=λx=>by simp[aY];omega
    revert fM
    generalize (hO (zs.getD L.2.1.toNat (ByteArray.empty,((0:Int),([]:List aO)))).2.1 (tb (zs.getD L.2.1.toNat (ByteArray.empty,((0:Int),([]:List aO))))).2 L (bO (aN zs L.2.1) L t+1)).isSome=ok
    cases ok with
    |false=>intro fM;simp only[jt,j5];rw[ag (cp _),j5,aJ];exact step 8589934593 fM.1 fM.2 _ (by rw[q3])
    |true=>intro fM;simp only[ji,jt,j6,j5];rw[ag (cp _),j5,aJ];exact step v fM.1 fM.2 _ (by rw[q3])
   .have hk:=(hc (by omega)).1 t (ki _) (by omega) (by omega);subst hk;rw[ah WR,j6];simp only[show Int.ofNat L.2.2.2.2.2.1.length=(L.2.2.2.2.2.1.length:Int) from rfl];rw[bW (show¬(L.2.2.2.2.2.1.length:Int)=0 by omega),aR q1 q2];simp only[jt,j5];rw[ag (show acc.length+[_].length<=aY by simp[aY];omega),j5,aJ];exact step nx (by omega) hc _ (by rw[q3])
  .have Ou:t=e:=by omega
   subst Ou;rw[ah cV,j6,aU];exact⟨k,nx,acc,rfl,hc,lu,rf rfl⟩
 termination_by n=>n
theorem WS{L:bP}(hL:eD zs.length ps.length cs.length L){a b:Int}(ha:0<=a)(hb:b<=8589934592){A:SL}(hA:A.length<=400000)(nY:∀t,bN t A↔a<=t/\t<b/\fo zs cs L t=true)
  {k0:Int}{N:Nat}(hN:N<=4000000)(oE : -1<=k0)(Ek:∀t,a<=t->t<b->fo zs cs L t=true->k0<=bO (aN zs L.2.1) L t/\bO (aN zs L.2.1) L t<=k0+N) :
  ∀(n j:Nat)(t k nx Kc:Int)(acc:bQ),j+n=A.length->a<=t->t<=b->ct (t-1) (A.drop j)->(∀u,t<=u->(bN u A↔bN u (A.drop j)))->Az (aN zs L.2.1) L k nx t->Ch (cw zs cs L) t a acc->
   k0<=Kc->Kc<=k0+N->(∀u,t<=u->bN u A->Kc<=bO (aN zs L.2.1) L u)->(acc.length:Int)<=2*j+(Kc-k0)->
  ∃t' bm,xz b t k nx (A.length:Int) (j:Int) L.1 L.2.1 L.2.2.1.1 L.2.2.1.2 L.2.2.2.1 L.2.2.2.2.1 L.2.2.2.2.2.1 L.2.2.2.2.2.2.1 L.2.2.2.2.2.2.2.1 L.2.2.2.2.2.2.2.2 (tb (aN zs L.2.1)).1 (tb (aN zs L.2.1)).2 acc A=some (b,t',bm)/\
   Ch (cw zs cs L) b a (bm++[(t',(b, -1))])/\bm.length<=2*A.length+N
 |0,j,t,k,nx,Kc,acc,hj,nD,WT,aM,mn,hc,lu,hK1,hK2,WU,hl=>by
  rw[S9];simp only[j1a];rw[ah (by omega),j6,aU];refine⟨t,acc,rfl,lu.snoc WT (λu u1 u2=>?_),by omega⟩
  have:fo zs cs L u=false:=by
   cases ho:fo zs cs L u with
   |false=>rfl
   |true=>have:=(mn u u1).1 ((nY u).2 ⟨by omega,u2,ho⟩);rw[jf (by omega)]at this;exact absurd this gJ
  unfold cw;rw[this];rfl
 |n+1,j,t,k,nx,Kc,acc,hj,nD,WT,aM,mn,hc,lu,hK1,hK2,WU,hl=>by
  have fN:j<A.length:=by omega
  have bj:A.getD j ((0:Int),(0:Int))=A[j]:=by simp[List.getD,fN]
  rw[jc fN]at aM mn;obtain⟨s1,s2,s3⟩:=aM;have lN:∀u,A[j].1<=u->u<A[j].2->bN u A:=λu u1 u2=>(mn u (by omega)).2 (eU.2 (.inl ⟨u1,u2⟩));have tG:=(nY A[j].1).1 (lN _ (ki _) s2);have tH:=(nY (A[j].2-1)).1 (lN _ (by omega) (by omega));have hKj:=WU A[j].1 (by omega) (lN _ (ki _) s2);rw[S9];simp only[j1a];rw[ag (show (j:Int)<(A.length:Int) by omega),aR (by omega) (by omega)];simp only[j5,j7,bj];rw[ag (show acc.length+[_].length<=aY by simp[aY];omega),j5]
  obtain⟨k',jP,bm,e2,c2,h2,l2⟩:=WO hs hL (a:=a) (b:=b) (e:=A[j].2) (p:=A[j].1) (m:=(A.length:Int)) (j:=(j:Int)) (sp:=A) ha (by omega) (B:=2*j+1-k0) (by omega) (A[j].2-A[j].1).toNat A[j].1 k nx
   (acc++[(t,(A[j].1, -1))]) (by omega) (by omega) (λu u1 u2=>((nY u).1 (lN u u1 u2)).2.2) (λh5=>by
    have h6:=hc (by omega);exact⟨λu u1 u2 u3=>h6.1 u (by omega) u2 u3,h6.2⟩) (lu.snoc (by omega) (λu u1 u2=>by
    have:fo zs cs L u=false:=by
     cases ho:fo zs cs L u with
     |false=>rfl
     |true=>
      have:=(mn u u1).1 ((nY u).2 ⟨by omega,by omega,ho⟩);rcases eU.1 this with h|h
      .omega
      .have:=ct.low s3 h;omega
    unfold cw;rw[this];rfl)) (λ_=>by rw[ja,kv];omega) (λh=>by omega)
  rw[e2];simp only[j3];rw[aj (x:=(j:Int)+1) (by omega) (by omega),aJ];have rf:=l2 (by omega);have hr:=Ek (A[j].2-1) (by omega) (by omega) tH.2.2
  exact WS hL ha hb hA nY hN oE Ek n (j+1) A[j].2 k' jP (bO (aN zs L.2.1) L (A[j].2-1)) bm (by omega) (by omega) (by omega) (s3.weak (by omega)) (λu hu=>by
   rw[mn u (by omega),eU]
   exact⟨λh=>by
    rcases h with h|h
    .omega
    .exact h,.inr⟩) c2 h2 hr.1 hr.2 (λu hu Ov=>by
   have:=(nY u).1 Ov;exact G9 hs hL (by omega) (by omega) (by omega)) (by omega)
theorem WV{L:bP}(hL:eD zs.length ps.length cs.length L){ss:List cS}{a b:Int}(ha:0<=a)(cj:a<=b)(hb:b<=8589934592){M:Nat}(hM:M<=60)(hlen:b-a<=604800*M)
  {k0:Int}{N:Nat}(hN:N<=4000000)(oE : -1<=k0)(Ek:∀t,a<=t->t<b->fo zs cs L t=true->k0<=bO (aN zs L.2.1) L t/\bO (aN zs L.2.1) L t<=k0+N) :
  ∃out,j1E ((zs,(ps,(cs,ss))),zs.map tb) L a b=some out/\eh (cw zs cs L) b none a out/\
   out.length<=2*(L.2.2.2.2.2.2.1.length*(M+1)*5+1+(if L.2.2.2.2.2.2.2.2=0 then 0 else (mz cs L.2.2.2.2.2.2.2.1).2.2.length*5))+N+1:=by
 have iH:(zs.map tb).length=zs.length:=qb ..;have hg:=N2 (zs:=zs) hL.z0 hL.z1;obtain⟨A,e1,s1,s2,s3⟩:=jzd hs hL (ss:=ss) ha cj hb hM hlen
 have WW:A.length<=400000:=by
  have h1:L.2.2.2.2.2.2.1.length*(M+1)<=14*61:=zv hL.wl (by omega);by_cases hm:L.2.2.2.2.2.2.2.2=0
  .rw[if_pos hm]at s3;omega
  .rw[if_neg hm]at s3;have hx:=(th hs (hL.cal hm).1 (hL.cal hm).2).len;have h64:(mz cs L.2.2.2.2.2.2.2.1).2.2.length<=64:=hx;omega
 obtain⟨t',acc,e2,h2,l2⟩:=WS hs hL ha hb WW s2 hN oE Ek A.length 0 a (-1) (-1) k0 [] (by omega) (ki _) cj s1 (λu _=>by simp) (λh=>by omega) rfl (ki _) (by omega) (λu hu Ov=>by
  have:=(s2 u).1 Ov;exact(Ek u this.1 this.2.1 this.2.2).1) (by simp)
 obtain⟨out,e3,h3,l3⟩:=Oo (l:=acc++[(t',(b, -1))]) (by rw[ja,kv];omega) h2;refine⟨out,?_,h3,by rw[ja,kv]at l3;omega⟩;simp only[j1E];rw[aR hL.z0 (by rw[iH];exact hL.z1)];simp only[j5,hg];rw[show j4s ((zs,(ps,(cs,ss))),zs.map tb) (L.1,L.2.1,(L.2.2.1.1,L.2.2.1.2),L.2.2.2.1,L.2.2.2.2.1,L.2.2.2.2.2.1,L.2.2.2.2.2.2.1,L.2.2.2.2.2.2.2.1,L.2.2.2.2.2.2.2.2) a b=_ from e1];simp only[j3,show Int.ofNat A.length=(A.length:Int) from rfl];rw[show xz b a (-1) (-1) (A.length:Int) 0 L.1 L.2.1 L.2.2.1.1 L.2.2.1.2 L.2.2.2.1 L.2.2.2.2.1 L.2.2.2.2.2.1 L.2.2.2.2.2.2.1 L.2.2.2.2.2.2.2.1 L.2.2.2.2.2.2.2.2 (tb (zs.getD L.2.1.toNat (ByteArray.empty,((0:Int),([]:List aO))))).1 (tb (zs.getD L.2.1.toNat (ByteArray.empty,((0:Int),([]:List aO))))).2 [] A=_ from e2];simp only[j3];rw[ag (show acc.length+[_].length<=aY by simp[aY];omega),j5,e3];rfl
end
section
variable{zs:List bU}{ps:List dH}{cs:List bt}(hs:fK zs ps cs)
include hs
omit hs in
theorem nU.near{o:Int}{l:bE}(h:iq o l){s t:Int}{k:Nat}(f:nU o l s t k)(hs:0<=s):s-64800<=t/\t<=s+64800:=by
 obtain⟨p1,p2,p3⟩:=f.piece h;have hk:=f.hk;have o1:=h.of1 k hk;have o0:=h.of0 k hk;have ht:=f.ht;refine⟨by omega,?_⟩;by_cases h0:k=0
 .subst h0;have e0:bc l 0=0:=sX;omega
 .obtain⟨j,rfl⟩:∃j,k=j+1:=⟨k-1,by omega⟩;have b:=f.bef j (by omega);have o2:=h.of0 j (by omega);omega
theorem jCE{L:bP}(hL:eD zs.length ps.length cs.length L){t u:Int}(h0:0<=t)(ya:t<=u)(h1:u<=8589934592):bO (aN zs L.2.1) L u<=bO (aN zs L.2.1) L t+(u-t)/3600+8:=by
 have hz:=iw hs.so.ok hL.z0 hL.z1;have aM:=hL.rt2.step;have rC:=hL.rt2.e0;have iG:=hL.c0;have hd:=hL.d0;have a':iQ (aN zs L.2.1).2.1 (tb (aN zs L.2.1)).2 L t (bO (aN zs L.2.1) L t):=(rF hz hL.rt2 (t:=t) h0 (by omega)).2;have b':iQ (aN zs L.2.1).2.1 (tb (aN zs L.2.1)).2 L u (bO (aN zs L.2.1) L u):=(rF hz hL.rt2 (t:=u) (by omega) h1).2;generalize bO (aN zs L.2.1) L t=K at *;generalize bO (aN zs L.2.1) L u=K' at *;have hK : -1<=K:=by rcases a' with⟨h,_⟩|⟨h,_⟩<;>omega
 have hn:¬QO (aN zs L.2.1).2.1 (tb (aN zs L.2.1)).2 L t (K+1):=by
  rcases a' with⟨h,h2⟩|⟨_,_,h2⟩
  .rw[h];exact h2
  .exact h2
 by_cases hKK:K'<=K+1
 .omega
 .rcases b' with⟨h,_⟩|⟨hK0,⟨v,hv,hvu⟩,_⟩
  .omega
  .obtain⟨w,hw,hwu⟩:QO (aN zs L.2.1).2.1 (tb (aN zs L.2.1)).2 L u (K+1):=QO.le hz.ztab.2 hL.rt2 (show K+1<=K' by omega) ⟨v,hv,hvu⟩;have hwt:t<w:=by apply jr;intro hx;exact hn ⟨w,hw,by omega⟩
   have hm:3600*(K'-(K+1))<=3600*L.2.2.2.2.1*(K'-(K+1)):=Int.mul_le_mul_of_nonneg_right (by omega) (by omega);by_cases hu:L.2.2.2.1=0
   .unfold hO at hv hw;rw[if_pos hu]at hv hw;cases hf:fO (aN zs L.2.1).2.1 (tb (aN zs L.2.1)).2 (cM L 0) with
    |none=>rw[hf]at hv;simp at hv
    |some x=>
     rw[hf]at hv hw;simp only[j3]at hv hw;split at hv
     .split at hw
      .simp only[j4]at hv hw;have e:3600*L.2.2.2.2.1*(K'-(K+1))=3600*L.2.2.2.2.1*K'-3600*L.2.2.2.2.1*(K+1):=Int.mul_sub ..;omega
      .simp at hw
     .simp at hv
   .unfold hO at hv hw;rw[if_neg hu]at hv hw;obtain⟨k1,f1⟩:=GY hv;obtain⟨k2,f2⟩:=GY hw;have e:(K'-(K+1))*cZ L=K'*cZ L-(K+1)*cZ L:=Int.sub_mul ..;have ik:(K'-(K+1))*1<=(K'-(K+1))*cZ L:=Int.mul_le_mul_of_nonneg_left aM.1 (by omega);have hm3:0<=(K+1)*cZ L:=Int.mul_nonneg (by omega) (by omega);have g1:=f1.near hz.ztab.2 (by unfold cM;omega);have g2:=f2.near hz.ztab.2 (by unfold cM;omega);unfold cM at g1 g2;omega
theorem WX{L:bP}(hL:eD zs.length ps.length cs.length L){a b:Int}(ha:0<=a)(hb:b<=8589934592):∀t,a<=t->t<b->fo zs cs L t=true->bO (aN zs L.2.1) L a<=bO (aN zs L.2.1) L t/\bO (aN zs L.2.1) L t<=bO (aN zs L.2.1) L a+(((b-a)/3600+8).toNat:Int):=λt h1 h2 _=>by
 have e1:=G9 hs hL (t:=a) (u:=t) ha h1 (by omega);have e2:=jCE hs hL (t:=a) (u:=t) ha h1 (by omega);omega
theorem WY{L:bP}(hL:eD zs.length ps.length cs.length L){t:Int}(h0:0<=t)(h1:t<=8589934592) : -1<=bO (aN zs L.2.1) L t:=by
 have hz:=iw hs.so.ok hL.z0 hL.z1;have a':iQ (aN zs L.2.1).2.1 (tb (aN zs L.2.1)).2 L t (bO (aN zs L.2.1) L t):=(rF hz hL.rt2 (t:=t) h0 h1).2;rcases a' with⟨h,_⟩|⟨h,_⟩<;>omega
theorem WZ{L:bP}(hL:eD zs.length ps.length cs.length L){ss:List cS}{a b:Int}(ha:0<=a)(cj:a<=b)(hb:b<=8589934592)(hlen:b-a<=35078400) :
  ∃out,j1E ((zs,(ps,(cs,ss))),zs.map tb) L a b=some out/\eh (cw zs cs L) b none a out/\out.length<=30000:=by
 obtain⟨out,e,h1,h2⟩:=WV hs hL (ss:=ss) ha cj hb (M:=58) (by omega) (by omega) (N:=((b-a)/3600+8).toNat) (by omega) (WY hs hL ha (by omega)) (WX hs hL ha hb);refine⟨out,e,h1,?_⟩;have hw:L.2.2.2.2.2.2.1.length*(58+1)*5<=14*59*5:=jv _ (jv _ hL.wl)
 have hc:(if L.2.2.2.2.2.2.2.2=0 then 0 else (mz cs L.2.2.2.2.2.2.2.1).2.2.length*5)<=64*5:=by
  by_cases hm:L.2.2.2.2.2.2.2.2=0
  .rw[if_pos hm];omega
  .rw[if_neg hm];exact jv _ (th hs (hL.cal hm).1 (hL.cal hm).2).len
 omega
end
end Go.Proofs.Pw
