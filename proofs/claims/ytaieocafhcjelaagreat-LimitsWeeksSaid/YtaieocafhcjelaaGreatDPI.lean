/- oa.Merge, oa.View.Segments: UX is on oa in a range. -/
import Derived.Test.YtaieocafhcjelaaGreatDPH
import Derived.Test.YtaieocafhcjelaaGreatDPG
import Derived.Test.YtaieocafhcjelaaGreatDPE
import Derived.KernelRfl
open Go Go.Lft
namespace Go.Proofs.Pw
theorem jx8(l:aX)(x y:eX):(l++[x]).set l.length y=l++[y]:=by
 rw[zo _ _ (jj _)];simp
theorem Vz(out:aX)(s:eX):(lP out s).length<=out.length+1:=by
 unfold lP;split
 .omega
 .rcases List.eq_nil_or_concat out with rfl|⟨l,u,rfl⟩
  .simp
  .rw[List.concat_eq_append,List.getLast?_append];simp only[List.getLast?_singleton,Option.some_or];split
   .simp
   .simp
theorem VA:∀(l out:aX),(l.foldl lP out).length<=out.length+l.length
 |[],out=>by simp
 |s::r,out=>by
  have:=VA r (lP out s);have:=Vz out s;simp only[vf,jl];omega
theorem VC{l:aX}(hl:l.length<=1000000000):∀(n i:Nat)(out:aX),i+n=l.length->out.length<=i->vF l (l.length:Int) (i:Int) out=some ((l.drop i).foldl lP out)
 |0,i,out,hi,ho=>by
  rw[Se];simp only[j6c];rw[ak (by omega),j6,aW,jf (by omega)];rfl
 |n+1,i,out,hi,ho=>by
  have bF:i<l.length:=by omega
  have bf:l.getD i ((0:Int),((0:Int),(0:Int)))=l[i]:=by simp[List.getD,bF]
  have ih:∀tO:aX,tO=lP out l[i]->vF l (l.length:Int) ((i:Int)+1) tO=some ((l.drop i).foldl lP out):=λtO he=>by
   rw[jc bF,vf,<-he];have:=Vz out l[i];exact VC hl n (i+1) tO (by omega) (by rw[he];omega)
  rw[Se];simp only[j6c];rw[aj (by omega),aU (by omega) (by omega)];simp only[j5,j7,bf,show Int.ofNat out.length=(out.length:Int) from rfl];rw[ah (x:=(i:Int)+1) (by omega) (by omega)];generalize l[i]=s at *;by_cases hs:s.2.1<=s.1
  .rw[aj hs,j5,aF];exact ih _ (by unfold lP;rw[if_pos hs])
  .rw[ak hs,j6];rcases List.eq_nil_or_concat out with rfl|⟨o,u,rfl⟩
   .simp only[qc];rw[ak (show¬((0:Nat):Int)>0 by omega),j6,aj (show 0+[(s.1,(s.2.1,s.2.2))].length<=aS by simp[aS]),j5,aF];exact ih _ (by unfold lP;rw[if_neg hs];rfl)
   .rw[List.concat_eq_append]at ih ho ⊢;have uQ:(o++[u]).length=o.length+1:=by simp
    rw[uQ]at ho;have nI:(o++[u]).getD o.length ((0:Int),((0:Int),(0:Int)))=u:=by simp[List.getD]
    rw[uQ,aj (show ((o.length+1:Nat):Int)>0 by omega),j5,ah (x:=((o.length+1:Nat):Int)-1) (by omega) (by omega),show ((o.length+1:Nat):Int)-1=(o.length:Int) by omega,aU (by omega) (by omega)];simp only[j5,j7,nI];have Nu:lP (o++[u]) s=if u.2.1=s.1/\u.2.2=s.2.2 then o++[(u.1,(s.2.1,u.2.2))] else (o++[u])++[s]:=by unfold lP;rw[if_neg hs,List.getLast?_append];simp only[List.getLast?_singleton,Option.some_or,List.dropLast_concat]
    by_cases h1:u.2.1=s.1
    .rw[dT h1,j5];by_cases h2:u.2.2=s.2.2
     .rw[dT h2,j5,aF,jx8];exact ih _ (by rw[Nu,if_pos ⟨h1,h2⟩])
     .rw[cJ h2,j6,aj (show o.length+1+[(s.1,(s.2.1,s.2.2))].length<=aS by simp[aS];omega),j5,aF];exact ih _ (by rw[Nu,if_neg (λh=>h2 h.2)])
    .rw[cJ h1,j6,aj (show o.length+1+[(s.1,(s.2.1,s.2.2))].length<=aS by simp[aS];omega),j5,aF];exact ih _ (by rw[Nu,if_neg (λh=>h1 h.1)])
theorem jvF{l:aX}(hl:l.length<=1000000000):j7A l=some (l.foldl lP []):=by
 simp only[j7A,show Int.ofNat l.length=(l.length:Int) from rfl];rw[show vF l (l.length:Int) 0 []=_ from VC hl l.length 0 [] (by omega) (by simp)];rfl
theorem Nv{f:Int->Int}{a b:Int}{l:aX}(hl:l.length<=1000000000)(h:Ch f b a l):∃out,j7A l=some out/\dO f b none a out/\out.length<=l.length:=
 ⟨_,jvF hl,h.cov,by have:=VA l [];simpa using this⟩
section
variable{zs:List cg}{ps:List dP}{cs:List bk}(hs:fe zs ps cs)
include hs
theorem G2{L:cb}(hL:fD zs.length ps.length cs.length L){t u:Int}(h0:0<=t)(yH:t<=u)(h1:u<=8589934592):bU (aH zs L.2.1) L t<=bU (aH zs L.2.1) L u:=by
 have hz:=jA hs.so.ok hL.z0 hL.z1;have a:=(tN hz hL.rt2 (t:=t) h0 (by omega)).2;have b:=(tN hz hL.rt2 (t:=u) (by omega) h1).2;show bU (aH zs L.2.1) L t<=bU (aH zs L.2.1) L u;have a':kO (aH zs L.2.1).2.1 (tb (aH zs L.2.1)).2 L t (bU (aH zs L.2.1) L t):=a;have b':kO (aH zs L.2.1).2.1 (tb (aH zs L.2.1)).2 L u (bU (aH zs L.2.1) L u):=b;generalize bU (aH zs L.2.1) L t=K at *;generalize bU (aH zs L.2.1) L u=K' at *;rcases a' with⟨a1,a2⟩|⟨a1,⟨v,hv,w8⟩,a3⟩<;>rcases b' with⟨b1,b2⟩|⟨b1,b2,b3⟩
 .omega
 .omega
 .exact absurd (QO.le hz.ztab.2 hL.rt2 a1 ⟨v,hv,by omega⟩) b2
 .apply jq;intro hn;exact b3 (QO.le hz.ztab.2 hL.rt2 (show K'+1<=K by omega) ⟨v,hv,by omega⟩)
def Bg(z:cg)(L:cb)(k nx t:Int):Prop:=t<nx->(∀u,t<=u->u<nx->u<=8589934592->bU z L u=k)/\(nx<=8589934592->k<bU z L nx)
theorem jz8{L:cb}(hL:fD zs.length ps.length cs.length L){t:Int}(h0:0<=t)(h1:t<=8589934592)(hk:0<=bU (aH zs L.2.1) L t){v:Int}{ok:Bool}
  (hv:j1d (tb (aH zs L.2.1)) L (bU (aH zs L.2.1) L t+1)=some (v,ok)):t<(cond ok v 8589934593)/\Bg (aH zs L.2.1) L (bU (aH zs L.2.1) L t) (cond ok v 8589934593) t:=by
 have hz:=jA hs.so.ok hL.z0 hL.z1;have a:=(tN hz hL.rt2 (t:=t) h0 h1).2;have a':kO (aH zs L.2.1).2.1 (tb (aH zs L.2.1)).2 L t (bU (aH zs L.2.1) L t):=a;have hu:∀u,t<=u->u<=8589934592->kO (aH zs L.2.1).2.1 (tb (aH zs L.2.1)).2 L u (bU (aH zs L.2.1) L u):=λu _ h2=>(tN hz hL.rt2 (t:=u) (by omega) h2).2;generalize hK:bU (aH zs L.2.1) L t=K at *;rcases a' with⟨a1,a2⟩|⟨a1,⟨w,hw,hwt⟩,a3⟩
 .omega
 .have mo:=D9 hz.ztab.2 hL.rt2 a1 hw;obtain⟨v',ev,gw⟩:=n4 hz.ztab.2 hL.rt2 (k:=K+1) (by omega) (by omega);have:=ev.symm.trans hv;simp only[j4,j8]at this;obtain⟨rfl,rfl⟩:=this;cases hh:hO (zs.getD L.2.1.toNat (ByteArray.empty,((0:Int),([]:List bj)))).2.1 (tb (zs.getD L.2.1.toNat (ByteArray.empty,((0:Int),([]:List bj))))).2 L (K+1) with
  |none=>
   simp only[vi,j6]
   exact⟨by omega,λ_=>⟨λu h2 h3 h4=>kO.uniq hz.ztab.2 hL.rt2 (hu u h2 h4) (.inr ⟨a1,⟨w,hw,by omega⟩,λ⟨x,hx,_⟩=>by
    have gJ:=hh.symm.trans hx;simp at gJ⟩),λh=>by omega⟩⟩
  |some x=>
   have:=gw x hh;subst this;simp only[zk,j5]
   refine⟨?_,λ_=>⟨λu h2 h3 h4=>kO.uniq hz.ztab.2 hL.rt2 (hu u h2 h4) (.inr ⟨a1,⟨w,hw,by omega⟩,λ⟨x,hx,iG⟩=>by
    have gJ:=hh.symm.trans hx;simp only[j4]at gJ;omega⟩),λhle=>?_⟩⟩
   rotate_left
   .have Nw:v'<=8589934592:=hle;have zR:t<=v':=by apply jq;intro hn;exact a3 ⟨_,hh,by omega⟩
    have b':=hu v' zR Nw;rcases b' with⟨b1,b2⟩|⟨b1,b2,b3⟩
    .exact absurd (QO.le hz.ztab.2 hL.rt2 (show (0:Int)<=K+1 by omega) ⟨_,hh,kg _⟩) b2
    .apply jq;intro hn;exact b3 (QO.le hz.ztab.2 hL.rt2 (show bU (aH zs L.2.1) L v'+1<=K+1 by omega) ⟨_,hh,kg _⟩)
   apply jq;intro hn;exact a3 ⟨_,hh,by omega⟩
theorem jAs{L:cb}(hL:fD zs.length ps.length cs.length L){k:Int}(hk:0<=k):∃_:(Int.tmod k (L.2.2.2.2.2.1.length:Int)).toNat<L.2.2.2.2.2.1.length,0<=Int.tmod k (L.2.2.2.2.2.1.length:Int)/\Int.tmod k (L.2.2.2.2.2.1.length:Int)<(L.2.2.2.2.2.1.length:Int)/\L.2.2.2.2.2.1.getD (Int.tmod k (L.2.2.2.2.2.1.length:Int)).toNat 0=qV L k:=by
 have _:=hs;have gj:=hL.m0;have q1:0<=Int.tmod k (L.2.2.2.2.2.1.length:Int):=Int.tmod_nonneg _ hk;have q2:Int.tmod k (L.2.2.2.2.2.1.length:Int)<(L.2.2.2.2.2.1.length:Int):=Int.tmod_lt_of_pos _ (by omega);exact⟨by omega,q1,q2,rfl⟩
theorem VD{L:cb}(hL:fD zs.length ps.length cs.length L){a b e p m j:Int}{sp:SL}(ha:0<=a)(he:e<=8589934592){B:Int}(hB:B<=1000000):∀(n:Nat)(t k nx:Int)(acc:aX),e-t=n->a<=t->
  (∀u,t<=u->u<e->gF zs cs L u=true)->Bg (aH zs L.2.1) L k nx t->Ch (cQ zs cs L) t a acc->(t<e->(acc.length:Int)<=B+bU (aH zs L.2.1) L t)->
  (t=e->a<e->(acc.length:Int)<=B+1+bU (aH zs L.2.1) L (e-1))->
  ∃k' jB ba,xV b t k nx m j L.1 L.2.1 L.2.2.1.1 L.2.2.1.2 L.2.2.2.1 L.2.2.2.2.1 L.2.2.2.2.2.1 L.2.2.2.2.2.2.1 L.2.2.2.2.2.2.2.1 L.2.2.2.2.2.2.2.2 (tb (aH zs L.2.1)).1 (tb (aH zs L.2.1)).2 p e acc sp=
   some (b,e,k',jB,m,j,L.1,L.2.1,L.2.2.1.1,L.2.2.1.2,L.2.2.2.1,L.2.2.2.2.1,L.2.2.2.2.2.1,L.2.2.2.2.2.2.1,L.2.2.2.2.2.2.2.1,L.2.2.2.2.2.2.2.2,(tb (aH zs L.2.1)).1,(tb (aH zs L.2.1)).2,ba,sp)/\
   Bg (aH zs L.2.1) L k' jB e/\Ch (cQ zs cs L) e a ba/\(a<e->(ba.length:Int)<=B+1+bU (aH zs L.2.1) L (e-1))
 |n,t,k,nx,acc,hn,mo,rU,hc,kT,hl,wA=>by
  have hz:=jA hs.so.ok hL.z0 hL.z1;rw[jeF];simp only[j1V];by_cases cN:t<e
  .rw[aj cN,j5];have Nx:=rU t (kg _) cN;obtain⟨eK,hK⟩:j3u (tb (aH zs L.2.1)) L t=some (bU (aH zs L.2.1) L t)/\kO (aH zs L.2.1).2.1 (tb (aH zs L.2.1)).2 L t (bU (aH zs L.2.1) L t):=tN hz hL.rt2 (t:=t) (by omega) (by omega);have rH:0<=bU (aH zs L.2.1) L t:=Np Nx
   have nN:bU (aH zs L.2.1) L t<=2386092:=by
    have hK':kO (aH zs L.2.1).2.1 (tb (aH zs L.2.1)).2 L t (bU (aH zs L.2.1) L t):=hK;rcases hK' with⟨h1,_⟩|⟨h1,⟨w,hw,_⟩,_⟩
    .omega
    .exact(D9 hz.ztab.2 hL.rt2 h1 hw).2.2
   obtain⟨_,q1,q2,q3⟩:=jAs hs hL rH;have gj:=hL.m0;have an:=hl cN
   have step:∀jB:Int,t<jB->Bg (aH zs L.2.1) L (bU (aH zs L.2.1) L t) jB t->∀ba:aX,ba=acc++[(t,((if jB<e then jB else e),qV L (bU (aH zs L.2.1) L t)))]->
     ∃VE Ek qY,xV b (if jB<e then jB else e) (bU (aH zs L.2.1) L t) jB m j L.1 L.2.1 L.2.2.1.1 L.2.2.1.2 L.2.2.2.1 L.2.2.2.2.1 L.2.2.2.2.2.1 L.2.2.2.2.2.2.1 L.2.2.2.2.2.2.2.1 L.2.2.2.2.2.2.2.2 (tb (aH zs L.2.1)).1 (tb (aH zs L.2.1)).2 p e ba sp=
      some (b,e,VE,Ek,m,j,L.1,L.2.1,L.2.2.1.1,L.2.2.1.2,L.2.2.2.1,L.2.2.2.2.1,L.2.2.2.2.2.1,L.2.2.2.2.2.2.1,L.2.2.2.2.2.2.2.1,L.2.2.2.2.2.2.2.2,(tb (aH zs L.2.1)).1,(tb (aH zs L.2.1)).2,qY,sp)/\
      Bg (aH zs L.2.1) L VE Ek e/\Ch (cQ zs cs L) e a qY/\(a<e->(qY.length:Int)<=B+1+bU (aH zs L.2.1) L (e-1)):=by
    rintro jB G3 ej _ rfl
    obtain⟨t',rC,h1,h2,h3,h4⟩:∃t':Int,t'=(if jB<e then jB else e)/\t<t'/\t'<=e/\t'<=jB/\(t'<e->t'=jB):=⟨_,rfl,by split<;>omega,by split<;>omega,by split<;>omega,λh=>by
     by_cases hx:jB<e
     .rw[if_pos hx]
     .rw[if_neg hx]at h;omega⟩
    rw[<-rC]
    refine VD hL ha he hB (e-t').toNat t' (bU (aH zs L.2.1) L t) jB _ (by omega) (by omega) (λu u1 u2=>rU u (by omega) u2) (λh5=>⟨λu u1 u2 u3=>(ej G3).1 u (by omega) u2 u3,(ej G3).2⟩)
     (kT.snoc (by omega) (λu u1 u2=>?_)) (λfm=>?_) (λheq _=>?_)
    .unfold cQ;rw[rU u u1 (by omega),(ej G3).1 u u1 (by omega) (by omega)];rfl
    .have hm:=G2 hs hL (t:=t) (u:=t') (by omega) (by omega) (by omega);have aZ:bU (aH zs L.2.1) L t<bU (aH zs L.2.1) L t':=by have:=h4 fm;subst this;exact(ej G3).2 (by omega)
     simp only[ja,ku];omega
    .have hm:=G2 hs hL (t:=t) (u:=e-1) (by omega) (by omega) (by omega);simp only[ja,ku];omega
   by_cases VF:t>=nx
   .rw[aj VF,j5];rw[show j3u ((tb (aH zs L.2.1)).1,(tb (aH zs L.2.1)).2) (L.1,L.2.1,(L.2.2.1.1,L.2.2.1.2),L.2.2.2.1,L.2.2.2.2.1,L.2.2.2.2.2.1,L.2.2.2.2.2.2.1,L.2.2.2.2.2.2.2.1,L.2.2.2.2.2.2.2.2) t=_ from eK];simp only[j3];rw[ah (x:=bU (aH zs L.2.1) L t+1) (by omega) (by omega)];obtain⟨v,ev,_⟩:=n4 hz.ztab.2 hL.rt2 (k:=bU (aH zs L.2.1) L t+1) (by omega) (by omega);have cT:=jz8 hs hL (t:=t) (by omega) (by omega) rH ev;rw[show j1d ((tb (aH zs L.2.1)).1,(tb (aH zs L.2.1)).2) (L.1,L.2.1,(L.2.2.1.1,L.2.2.1.2),L.2.2.2.1,L.2.2.2.2.1,L.2.2.2.2.2.1,L.2.2.2.2.2.2.1,L.2.2.2.2.2.2.2.1,L.2.2.2.2.2.2.2.2) (bU (aH zs L.2.1) L t+1)=_ from ev];simp only[j3,show Int.ofNat L.2.2.2.2.2.1.length=(L.2.2.2.2.2.1.length:Int) from rfl];rw[cJ (show¬(L.2.2.2.2.2.1.length:Int)=0 by omega),aU q1 q2];have bX:∀x:eX,acc.length+[x].length<=aS:=λx=>by simp[aS];omega
    revert cT
    generalize (hO (zs.getD L.2.1.toNat (ByteArray.empty,((0:Int),([]:List bj)))).2.1 (tb (zs.getD L.2.1.toNat (ByteArray.empty,((0:Int),([]:List bj))))).2 L (bU (aH zs L.2.1) L t+1)).isSome=ok
    cases ok with
    |false=>intro cT;simp only[jy,j5];rw[aj (bX _),j5,aF];exact step 8589934593 cT.1 cT.2 _ (by rw[q3])
    |true=>intro cT;simp only[jr,jy,j6,j5];rw[aj (bX _),j5,aF];exact step v cT.1 cT.2 _ (by rw[q3])
   .have hk:=(hc (by omega)).1 t (kg _) (by omega) (by omega);subst hk;rw[ak VF,j6];simp only[show Int.ofNat L.2.2.2.2.2.1.length=(L.2.2.2.2.2.1.length:Int) from rfl];rw[cJ (show¬(L.2.2.2.2.2.1.length:Int)=0 by omega),aU q1 q2];simp only[jy,j5];rw[aj (show acc.length+[_].length<=aS by simp[aS];omega),j5,aF];exact step nx (by omega) hc _ (by rw[q3])
  .have Ny:t=e:=by omega
   subst Ny;rw[ak cN,j6,aW];exact⟨k,nx,acc,rfl,hc,kT,wA rfl⟩
 termination_by n=>n
theorem VG{L:cb}(hL:fD zs.length ps.length cs.length L){a b:Int}(ha:0<=a)(hb:b<=8589934592){A:SL}(hA:A.length<=400000)(od:∀t,br t A↔a<=t/\t<b/\gF zs cs L t=true)
  {k0:Int}{N:Nat}(hN:N<=4000000)(rH : -1<=k0)(El:∀t,a<=t->t<b->gF zs cs L t=true->k0<=bU (aH zs L.2.1) L t/\bU (aH zs L.2.1) L t<=k0+N) :
  ∀(n j:Nat)(t k nx Kc:Int)(acc:aX),j+n=A.length->a<=t->t<=b->bB (t-1) (A.drop j)->(∀u,t<=u->(br u A↔br u (A.drop j)))->Bg (aH zs L.2.1) L k nx t->Ch (cQ zs cs L) t a acc->
   k0<=Kc->Kc<=k0+N->(∀u,t<=u->br u A->Kc<=bU (aH zs L.2.1) L u)->(acc.length:Int)<=2*j+(Kc-k0)->
  ∃t' ba,xW b t k nx (A.length:Int) (j:Int) L.1 L.2.1 L.2.2.1.1 L.2.2.1.2 L.2.2.2.1 L.2.2.2.2.1 L.2.2.2.2.2.1 L.2.2.2.2.2.2.1 L.2.2.2.2.2.2.2.1 L.2.2.2.2.2.2.2.2 (tb (aH zs L.2.1)).1 (tb (aH zs L.2.1)).2 acc A=some (b,t',ba)/\
   Ch (cQ zs cs L) b a (ba++[(t',(b, -1))])/\ba.length<=2*A.length+N
 |0,j,t,k,nx,Kc,acc,hj,mo,VH,aB,mw,hc,kT,hK1,hK2,VI,hl=>by
  rw[Sf];simp only[j1v];rw[ak (by omega),j6,aW];refine⟨t,acc,rfl,kT.snoc VH (λu u1 u2=>?_),by omega⟩
  have:gF zs cs L u=false:=by
   cases ho:gF zs cs L u with
   |false=>rfl
   |true=>have:=(mw u u1).1 ((od u).2 ⟨by omega,u2,ho⟩);rw[jf (by omega)]at this;exact absurd this gE
  unfold cQ;rw[this];rfl
 |n+1,j,t,k,nx,Kc,acc,hj,mo,VH,aB,mw,hc,kT,hK1,hK2,VI,hl=>by
  have ez:j<A.length:=by omega
  have bf:A.getD j ((0:Int),(0:Int))=A[j]:=by simp[List.getD,ez]
  rw[jc ez]at aB mw;obtain⟨s1,s2,s3⟩:=aB;have rU:∀u,A[j].1<=u->u<A[j].2->br u A:=λu u1 u2=>(mw u (by omega)).2 (eM.2 (.inl ⟨u1,u2⟩));have ui:=(od A[j].1).1 (rU _ (kg _) s2);have uj:=(od (A[j].2-1)).1 (rU _ (by omega) (by omega));have hKj:=VI A[j].1 (by omega) (rU _ (kg _) s2);rw[Sf];simp only[j1v];rw[aj (show (j:Int)<(A.length:Int) by omega),aU (by omega) (by omega)];simp only[j5,j7,bf];rw[aj (show acc.length+[_].length<=aS by simp[aS];omega),j5]
  obtain⟨k',jB,ba,e2,c2,h2,l2⟩:=VD hs hL (a:=a) (b:=b) (e:=A[j].2) (p:=A[j].1) (m:=(A.length:Int)) (j:=(j:Int)) (sp:=A) ha (by omega) (B:=2*j+1-k0) (by omega) (A[j].2-A[j].1).toNat A[j].1 k nx
   (acc++[(t,(A[j].1, -1))]) (by omega) (by omega) (λu u1 u2=>((od u).1 (rU u u1 u2)).2.2) (λh5=>by
    have h6:=hc (by omega);exact⟨λu u1 u2 u3=>h6.1 u (by omega) u2 u3,h6.2⟩) (kT.snoc (by omega) (λu u1 u2=>by
    have:gF zs cs L u=false:=by
     cases ho:gF zs cs L u with
     |false=>rfl
     |true=>
      have:=(mw u u1).1 ((od u).2 ⟨by omega,by omega,ho⟩);rcases eM.1 this with h|h
      .omega
      .have:=bB.low s3 h;omega
    unfold cQ;rw[this];rfl)) (λ_=>by rw[ja,ku];omega) (λh=>by omega)
  rw[e2];simp only[j3];rw[ah (x:=(j:Int)+1) (by omega) (by omega),aF];have wA:=l2 (by omega);have hr:=El (A[j].2-1) (by omega) (by omega) uj.2.2
  exact VG hL ha hb hA od hN rH El n (j+1) A[j].2 k' jB (bU (aH zs L.2.1) L (A[j].2-1)) ba (by omega) (by omega) (by omega) (s3.weak (by omega)) (λu hu=>by
   rw[mw u (by omega),eM]
   exact⟨λh=>by
    rcases h with h|h
    .omega
    .exact h,.inr⟩) c2 h2 hr.1 hr.2 (λu hu Nz=>by
   have:=(od u).1 Nz;exact G2 hs hL (by omega) (by omega) (by omega)) (by omega)
theorem VJ{L:cb}(hL:fD zs.length ps.length cs.length L){ss:List cM}{a b:Int}(ha:0<=a)(bz:a<=b)(hb:b<=8589934592){M:Nat}(hM:M<=60)(hlen:b-a<=604800*M)
  {k0:Int}{N:Nat}(hN:N<=4000000)(rH : -1<=k0)(El:∀t,a<=t->t<b->gF zs cs L t=true->k0<=bU (aH zs L.2.1) L t/\bU (aH zs L.2.1) L t<=k0+N) :
  ∃out,j1Z ((zs,(ps,(cs,ss))),zs.map tb) L a b=some out/\dO (cQ zs cs L) b none a out/\
   out.length<=2*(L.2.2.2.2.2.2.1.length*(M+1)*5+1+(if L.2.2.2.2.2.2.2.2=0 then 0 else (mG cs L.2.2.2.2.2.2.2.1).2.2.length*5))+N+1:=by
 have l7:(zs.map tb).length=zs.length:=kn ..;have hg:=GY (zs:=zs) hL.z0 hL.z1;obtain⟨A,e1,s1,s2,s3⟩:=jvC hs hL (ss:=ss) ha bz hb hM hlen
 have VK:A.length<=400000:=by
  have h1:L.2.2.2.2.2.2.1.length*(M+1)<=14*61:=z6 hL.wl (by omega);by_cases hm:L.2.2.2.2.2.2.2.2=0
  .rw[if_pos hm]at s3;omega
  .rw[if_neg hm]at s3;have hx:=(yJ hs (hL.cal hm).1 (hL.cal hm).2).len;have h64:(mG cs L.2.2.2.2.2.2.2.1).2.2.length<=64:=hx;omega
 obtain⟨t',acc,e2,h2,l2⟩:=VG hs hL ha hb VK s2 hN rH El A.length 0 a (-1) (-1) k0 [] (by omega) (kg _) bz s1 (λu _=>by simp) (λh=>by omega) rfl (kg _) (by omega) (λu hu Nz=>by
  have:=(s2 u).1 Nz;exact(El u this.1 this.2.1 this.2.2).1) (by simp)
 obtain⟨out,e3,h3,l3⟩:=Nv (l:=acc++[(t',(b, -1))]) (by rw[ja,ku];omega) h2;refine⟨out,?_,h3,by rw[ja,ku]at l3;omega⟩;simp only[j1Z];rw[aU hL.z0 (by rw[l7];exact hL.z1)];simp only[j5,hg];rw[show j4I ((zs,(ps,(cs,ss))),zs.map tb) (L.1,L.2.1,(L.2.2.1.1,L.2.2.1.2),L.2.2.2.1,L.2.2.2.2.1,L.2.2.2.2.2.1,L.2.2.2.2.2.2.1,L.2.2.2.2.2.2.2.1,L.2.2.2.2.2.2.2.2) a b=_ from e1];simp only[j3,show Int.ofNat A.length=(A.length:Int) from rfl];rw[show xW b a (-1) (-1) (A.length:Int) 0 L.1 L.2.1 L.2.2.1.1 L.2.2.1.2 L.2.2.2.1 L.2.2.2.2.1 L.2.2.2.2.2.1 L.2.2.2.2.2.2.1 L.2.2.2.2.2.2.2.1 L.2.2.2.2.2.2.2.2 (tb (zs.getD L.2.1.toNat (ByteArray.empty,((0:Int),([]:List bj))))).1 (tb (zs.getD L.2.1.toNat (ByteArray.empty,((0:Int),([]:List bj))))).2 [] A=_ from e2];simp only[j3];rw[aj (show acc.length+[_].length<=aS by simp[aS];omega),j5,e3];rfl
end
section
variable{zs:List cg}{ps:List dP}{cs:List bk}(hs:fe zs ps cs)
include hs
omit hs in
theorem nZ.near{o:Int}{l:bR}(h:iY o l){s t:Int}{k:Nat}(f:nZ o l s t k)(hs:0<=s):s-64800<=t/\t<=s+64800:=by
 obtain⟨p1,p2,p3⟩:=f.piece h;have hk:=f.hk;have o1:=h.of1 k hk;have o0:=h.of0 k hk;have ht:=f.ht;refine⟨by omega,?_⟩;by_cases h0:k=0
 .subst h0;have e0:bn l 0=0:=tF;omega
 .obtain⟨j,rfl⟩:∃j,k=j+1:=⟨k-1,by omega⟩;have b:=f.bef j (by omega);have o2:=h.of0 j (by omega);omega
theorem jz9{L:cb}(hL:fD zs.length ps.length cs.length L){t u:Int}(h0:0<=t)(yH:t<=u)(h1:u<=8589934592):bU (aH zs L.2.1) L u<=bU (aH zs L.2.1) L t+(u-t)/3600+8:=by
 have hz:=jA hs.so.ok hL.z0 hL.z1;have aB:=hL.rt2.step;have xv:=hL.rt2.e0;have mL:=hL.c0;have hd:=hL.d0;have a':kO (aH zs L.2.1).2.1 (tb (aH zs L.2.1)).2 L t (bU (aH zs L.2.1) L t):=(tN hz hL.rt2 (t:=t) h0 (by omega)).2;have b':kO (aH zs L.2.1).2.1 (tb (aH zs L.2.1)).2 L u (bU (aH zs L.2.1) L u):=(tN hz hL.rt2 (t:=u) (by omega) h1).2;generalize bU (aH zs L.2.1) L t=K at *;generalize bU (aH zs L.2.1) L u=K' at *;have hK : -1<=K:=by rcases a' with⟨h,_⟩|⟨h,_⟩<;>omega
 have hn:¬QO (aH zs L.2.1).2.1 (tb (aH zs L.2.1)).2 L t (K+1):=by
  rcases a' with⟨h,h2⟩|⟨_,_,h2⟩
  .rw[h];exact h2
  .exact h2
 by_cases hKK:K'<=K+1
 .omega
 .rcases b' with⟨h,_⟩|⟨hK0,⟨v,hv,hvu⟩,_⟩
  .omega
  .obtain⟨w,hw,hwu⟩:QO (aH zs L.2.1).2.1 (tb (aH zs L.2.1)).2 L u (K+1):=QO.le hz.ztab.2 hL.rt2 (show K+1<=K' by omega) ⟨v,hv,hvu⟩;have hwt:t<w:=by apply jq;intro hx;exact hn ⟨w,hw,by omega⟩
   have hm:3600*(K'-(K+1))<=3600*L.2.2.2.2.1*(K'-(K+1)):=Int.mul_le_mul_of_nonneg_right (by omega) (by omega);by_cases hu:L.2.2.2.1=0
   .unfold hO at hv hw;rw[if_pos hu]at hv hw;cases hf:fO (aH zs L.2.1).2.1 (tb (aH zs L.2.1)).2 (ec L 0) with
    |none=>rw[hf]at hv;simp at hv
    |some x=>
     rw[hf]at hv hw;simp only[j3]at hv hw;split at hv
     .split at hw
      .simp only[j4]at hv hw;have e:3600*L.2.2.2.2.1*(K'-(K+1))=3600*L.2.2.2.2.1*K'-3600*L.2.2.2.2.1*(K+1):=Int.mul_sub ..;omega
      .simp at hw
     .simp at hv
   .unfold hO at hv hw;rw[if_neg hu]at hv hw;obtain⟨k1,f1⟩:=GX hv;obtain⟨k2,f2⟩:=GX hw;have e:(K'-(K+1))*fI L=K'*fI L-(K+1)*fI L:=Int.sub_mul ..;have jS:(K'-(K+1))*1<=(K'-(K+1))*fI L:=Int.mul_le_mul_of_nonneg_left aB.1 (by omega);have hm3:0<=(K+1)*fI L:=Int.mul_nonneg (by omega) (by omega);have g1:=f1.near hz.ztab.2 (by unfold ec;omega);have g2:=f2.near hz.ztab.2 (by unfold ec;omega);unfold ec at g1 g2;omega
theorem VL{L:cb}(hL:fD zs.length ps.length cs.length L){a b:Int}(ha:0<=a)(hb:b<=8589934592):∀t,a<=t->t<b->gF zs cs L t=true->bU (aH zs L.2.1) L a<=bU (aH zs L.2.1) L t/\bU (aH zs L.2.1) L t<=bU (aH zs L.2.1) L a+(((b-a)/3600+8).toNat:Int):=λt h1 h2 _=>by
 have e1:=G2 hs hL (t:=a) (u:=t) ha h1 (by omega);have e2:=jz9 hs hL (t:=a) (u:=t) ha h1 (by omega);omega
theorem VM{L:cb}(hL:fD zs.length ps.length cs.length L){t:Int}(h0:0<=t)(h1:t<=8589934592) : -1<=bU (aH zs L.2.1) L t:=by
 have hz:=jA hs.so.ok hL.z0 hL.z1;have a':kO (aH zs L.2.1).2.1 (tb (aH zs L.2.1)).2 L t (bU (aH zs L.2.1) L t):=(tN hz hL.rt2 (t:=t) h0 h1).2;rcases a' with⟨h,_⟩|⟨h,_⟩<;>omega
theorem VN{L:cb}(hL:fD zs.length ps.length cs.length L){ss:List cM}{a b:Int}(ha:0<=a)(bz:a<=b)(hb:b<=8589934592)(hlen:b-a<=35078400) :
  ∃out,j1Z ((zs,(ps,(cs,ss))),zs.map tb) L a b=some out/\dO (cQ zs cs L) b none a out/\out.length<=30000:=by
 obtain⟨out,e,h1,h2⟩:=VJ hs hL (ss:=ss) ha bz hb (M:=58) (by omega) (by omega) (N:=((b-a)/3600+8).toNat) (by omega) (VM hs hL ha (by omega)) (VL hs hL ha hb);refine⟨out,e,h1,?_⟩;have hw:L.2.2.2.2.2.2.1.length*(58+1)*5<=14*59*5:=jv _ (jv _ hL.wl)
 have hc:(if L.2.2.2.2.2.2.2.2=0 then 0 else (mG cs L.2.2.2.2.2.2.2.1).2.2.length*5)<=64*5:=by
  by_cases hm:L.2.2.2.2.2.2.2.2=0
  .rw[if_pos hm];omega
  .rw[if_neg hm];exact jv _ (yJ hs (hL.cal hm).1 (hL.cal hm).2).len
 omega
end
end Go.Proofs.Pw
