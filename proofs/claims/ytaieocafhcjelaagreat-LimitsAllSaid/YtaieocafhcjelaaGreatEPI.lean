/- oh.Merge, oh.View.Segments: Vb is on oh in a range. -/
import Derived.Test.YtaieocafhcjelaaGreatEPH
import Derived.Test.YtaieocafhcjelaaGreatEPG
import Derived.Test.YtaieocafhcjelaaGreatEPE
import Derived.KernelRfl
open Go Go.Lft
namespace Go.Proofs.Pw
theorem jxj(l:aS)(x y:ej):(l++[x]).set l.length y=l++[y]:=by
 rw[zp _ _ (jg _)];simp
theorem VM(out:aS)(s:ej):(lU out s).length<=out.length+1:=by
 unfold lU;split
 .omega
 .rcases List.eq_nil_or_concat out with rfl|⟨l,u,rfl⟩
  .simp
  .rw[List.concat_eq_append,List.getLast?_append];simp only[List.getLast?_singleton,Option.some_or];split
   .simp
   .simp
theorem VN:∀(l out:aS),(l.foldl lU out).length<=out.length+l.length
 |[],out=>by simp
 |s::r,out=>by
  have:=VN r (lU out s);have:=VM out s;simp only[vk,jk];omega
theorem VO{l:aS}(hl:l.length<=1000000000):∀(n i:Nat)(out:aS),i+n=l.length->out.length<=i->vM l (l.length:Int) (i:Int) out=some ((l.drop i).foldl lU out)
 |0,i,out,hi,ho=>by
  rw[SA];simp only[j6a];rw[al (by omega),j6,aW,jf (by omega)];rfl
 |n+1,i,out,hi,ho=>by
  have bF:i<l.length:=by omega
  have bh:l.getD i ((0:Int),((0:Int),(0:Int)))=l[i]:=by simp[List.getD,bF]
  have ih:∀tT:aS,tT=lU out l[i]->vM l (l.length:Int) ((i:Int)+1) tT=some ((l.drop i).foldl lU out):=λtT he=>by
   rw[jc bF,vk,<-he];have:=VM out l[i];exact VO hl n (i+1) tT (by omega) (by rw[he];omega)
  rw[SA];simp only[j6a];rw[aj (by omega),aX (by omega) (by omega)];simp only[j5,j7,bh,show Int.ofNat out.length=(out.length:Int) from rfl];rw[ai (x:=(i:Int)+1) (by omega) (by omega)];generalize l[i]=s at *;by_cases hs:s.2.1<=s.1
  .rw[aj hs,j5,aJ];exact ih _ (by unfold lU;rw[if_pos hs])
  .rw[al hs,j6];rcases List.eq_nil_or_concat out with rfl|⟨o,u,rfl⟩
   .simp only[kq];rw[al (show¬((0:Nat):Int)>0 by omega),j6,aj (show 0+[(s.1,(s.2.1,s.2.2))].length<=aR by simp[aR]),j5,aJ];exact ih _ (by unfold lU;rw[if_neg hs];rfl)
   .rw[List.concat_eq_append]at ih ho ⊢;have uS:(o++[u]).length=o.length+1:=by simp
    rw[uS]at ho;have nN:(o++[u]).getD o.length ((0:Int),((0:Int),(0:Int)))=u:=by simp[List.getD]
    rw[uS,aj (show ((o.length+1:Nat):Int)>0 by omega),j5,ai (x:=((o.length+1:Nat):Int)-1) (by omega) (by omega),show ((o.length+1:Nat):Int)-1=(o.length:Int) by omega,aX (by omega) (by omega)];simp only[j5,j7,nN];have NJ:lU (o++[u]) s=if u.2.1=s.1/\u.2.2=s.2.2 then o++[(u.1,(s.2.1,u.2.2))] else (o++[u])++[s]:=by unfold lU;rw[if_neg hs,List.getLast?_append];simp only[List.getLast?_singleton,Option.some_or,List.dropLast_concat]
    by_cases h1:u.2.1=s.1
    .rw[ee h1,j5];by_cases h2:u.2.2=s.2.2
     .rw[ee h2,j5,aJ,jxj];exact ih _ (by rw[NJ,if_pos ⟨h1,h2⟩])
     .rw[cP h2,j6,aj (show o.length+1+[(s.1,(s.2.1,s.2.2))].length<=aR by simp[aR];omega),j5,aJ];exact ih _ (by rw[NJ,if_neg (λh=>h2 h.2)])
    .rw[cP h1,j6,aj (show o.length+1+[(s.1,(s.2.1,s.2.2))].length<=aR by simp[aR];omega),j5,aJ];exact ih _ (by rw[NJ,if_neg (λh=>h1 h.1)])
theorem jvP{l:aS}(hl:l.length<=1000000000):j7C l=some (l.foldl lU []):=by
 simp only[j7C,show Int.ofNat l.length=(l.length:Int) from rfl];rw[show vM l (l.length:Int) 0 []=_ from VO hl l.length 0 [] (by omega) (by simp)];rfl
theorem NK{f:Int->Int}{a b:Int}{l:aS}(hl:l.length<=1000000000)(h:Ch f b a l):∃out,j7C l=some out/\di f b none a out/\out.length<=l.length:=
 ⟨_,jvP hl,h.cov,by have:=VN l [];simpa using this⟩
section
variable{zs:List bY}{ps:List dB}{cs:List bf}(hs:eX zs ps cs)
include hs
theorem G9{L:cg}(hL:fI zs.length ps.length cs.length L){t u:Int}(h0:0<=t)(yP:t<=u)(h1:u<=8589934592):bV (aK zs L.2.1) L t<=bV (aK zs L.2.1) L u:=by
 have hz:=jF hs.so.ok hL.z0 hL.z1;have a:=(tS hz hL.rt2 (t:=t) h0 (by omega)).2;have b:=(tS hz hL.rt2 (t:=u) (by omega) h1).2;show bV (aK zs L.2.1) L t<=bV (aK zs L.2.1) L u;have a':kT (aK zs L.2.1).2.1 (tb (aK zs L.2.1)).2 L t (bV (aK zs L.2.1) L t):=a;have b':kT (aK zs L.2.1).2.1 (tb (aK zs L.2.1)).2 L u (bV (aK zs L.2.1) L u):=b;generalize bV (aK zs L.2.1) L t=K at *;generalize bV (aK zs L.2.1) L u=K' at *;rcases a' with⟨a1,a2⟩|⟨a1,⟨v,hv,xf⟩,a3⟩<;>rcases b' with⟨b1,b2⟩|⟨b1,b2,b3⟩
 .omega
 .omega
 .exact absurd (QO.le hz.ztab.2 hL.rt2 a1 ⟨v,hv,by omega⟩) b2
 .apply jr;intro hn;exact b3 (QO.le hz.ztab.2 hL.rt2 (show K'+1<=K by omega) ⟨v,hv,by omega⟩)
def Bp(z:bY)(L:cg)(k nx t:Int):Prop:=t<nx->(∀u,t<=u->u<nx->u<=8589934592->bV z L u=k)/\(nx<=8589934592->k<bV z L nx)
theorem jzl{L:cg}(hL:fI zs.length ps.length cs.length L){t:Int}(h0:0<=t)(h1:t<=8589934592)(hk:0<=bV (aK zs L.2.1) L t){v:Int}{ok:Bool}
  (hv:j1g (tb (aK zs L.2.1)) L (bV (aK zs L.2.1) L t+1)=some (v,ok)):t<(cond ok v 8589934593)/\Bp (aK zs L.2.1) L (bV (aK zs L.2.1) L t) (cond ok v 8589934593) t:=by
 have hz:=jF hs.so.ok hL.z0 hL.z1;have a:=(tS hz hL.rt2 (t:=t) h0 h1).2;have a':kT (aK zs L.2.1).2.1 (tb (aK zs L.2.1)).2 L t (bV (aK zs L.2.1) L t):=a;have hu:∀u,t<=u->u<=8589934592->kT (aK zs L.2.1).2.1 (tb (aK zs L.2.1)).2 L u (bV (aK zs L.2.1) L u):=λu _ h2=>(tS hz hL.rt2 (t:=u) (by omega) h2).2;generalize hK:bV (aK zs L.2.1) L t=K at *;rcases a' with⟨a1,a2⟩|⟨a1,⟨w,hw,hwt⟩,a3⟩
 .omega
 .have mv:=Em hz.ztab.2 hL.rt2 a1 hw;obtain⟨v',ev,gC⟩:=og hz.ztab.2 hL.rt2 (k:=K+1) (by omega) (by omega);have:=ev.symm.trans hv;simp only[j4,j8]at this;obtain⟨rfl,rfl⟩:=this;cases hh:hO (zs.getD L.2.1.toNat (ByteArray.empty,((0:Int),([]:List bm)))).2.1 (tb (zs.getD L.2.1.toNat (ByteArray.empty,((0:Int),([]:List bm))))).2 L (K+1) with
  |none=>
   simp only[vp,j6]
   exact⟨by omega,λ_=>⟨λu h2 h3 h4=>kT.uniq hz.ztab.2 hL.rt2 (hu u h2 h4) (.inr ⟨a1,⟨w,hw,by omega⟩,λ⟨x,hx,_⟩=>by
    have gN:=hh.symm.trans hx;simp at gN⟩),λh=>by omega⟩⟩
  |some x=>
   have:=gC x hh;subst this;simp only[zo,j5]
   refine⟨?_,λ_=>⟨λu h2 h3 h4=>kT.uniq hz.ztab.2 hL.rt2 (hu u h2 h4) (.inr ⟨a1,⟨w,hw,by omega⟩,λ⟨x,hx,iM⟩=>by
    have gN:=hh.symm.trans hx;simp only[j4]at gN;omega⟩),λhle=>?_⟩⟩
   rotate_left
   .have NL:v'<=8589934592:=hle;have zZ:t<=v':=by apply jr;intro hn;exact a3 ⟨_,hh,by omega⟩
    have b':=hu v' zZ NL;rcases b' with⟨b1,b2⟩|⟨b1,b2,b3⟩
    .exact absurd (QO.le hz.ztab.2 hL.rt2 (show (0:Int)<=K+1 by omega) ⟨_,hh,kg _⟩) b2
    .apply jr;intro hn;exact b3 (QO.le hz.ztab.2 hL.rt2 (show bV (aK zs L.2.1) L v'+1<=K+1 by omega) ⟨_,hh,kg _⟩)
   apply jr;intro hn;exact a3 ⟨_,hh,by omega⟩
theorem jAI{L:cg}(hL:fI zs.length ps.length cs.length L){k:Int}(hk:0<=k):∃_:(Int.tmod k (L.2.2.2.2.2.1.length:Int)).toNat<L.2.2.2.2.2.1.length,0<=Int.tmod k (L.2.2.2.2.2.1.length:Int)/\Int.tmod k (L.2.2.2.2.2.1.length:Int)<(L.2.2.2.2.2.1.length:Int)/\L.2.2.2.2.2.1.getD (Int.tmod k (L.2.2.2.2.2.1.length:Int)).toNat 0=qX L k:=by
 have _:=hs;have gI:=hL.m0;have q1:0<=Int.tmod k (L.2.2.2.2.2.1.length:Int):=Int.tmod_nonneg _ hk;have q2:Int.tmod k (L.2.2.2.2.2.1.length:Int)<(L.2.2.2.2.2.1.length:Int):=Int.tmod_lt_of_pos _ (by omega);exact⟨by omega,q1,q2,rfl⟩
theorem VP{L:cg}(hL:fI zs.length ps.length cs.length L){a b e p m j:Int}{sp:SL}(ha:0<=a)(he:e<=8589934592){B:Int}(hB:B<=1000000):∀(n:Nat)(t k nx:Int)(acc:aS),e-t=n->a<=t->
  (∀u,t<=u->u<e->gK zs cs L u=true)->Bp (aK zs L.2.1) L k nx t->Ch (cR zs cs L) t a acc->(t<e->(acc.length:Int)<=B+bV (aK zs L.2.1) L t)->
  (t=e->a<e->(acc.length:Int)<=B+1+bV (aK zs L.2.1) L (e-1))->
  ∃k' jG aZ,yb b t k nx m j L.1 L.2.1 L.2.2.1.1 L.2.2.1.2 L.2.2.2.1 L.2.2.2.2.1 L.2.2.2.2.2.1 L.2.2.2.2.2.2.1 L.2.2.2.2.2.2.2.1 L.2.2.2.2.2.2.2.2 (tb (aK zs L.2.1)).1 (tb (aK zs L.2.1)).2 p e acc sp=
   some (b,e,k',jG,m,j,L.1,L.2.1,L.2.2.1.1,L.2.2.1.2,L.2.2.2.1,L.2.2.2.2.1,L.2.2.2.2.2.1,L.2.2.2.2.2.2.1,L.2.2.2.2.2.2.2.1,L.2.2.2.2.2.2.2.2,(tb (aK zs L.2.1)).1,(tb (aK zs L.2.1)).2,aZ,sp)/\
   Bp (aK zs L.2.1) L k' jG e/\Ch (cR zs cs L) e a aZ/\(a<e->(aZ.length:Int)<=B+1+bV (aK zs L.2.1) L (e-1))
 |n,t,k,nx,acc,hn,mv,rX,hc,kX,hl,wI=>by
  have hz:=jF hs.so.ok hL.z0 hL.z1;rw[jeN];simp only[j1X];by_cases cN:t<e
  .rw[aj cN,j5];have NM:=rX t (kg _) cN;obtain⟨eK,hK⟩:j3v (tb (aK zs L.2.1)) L t=some (bV (aK zs L.2.1) L t)/\kT (aK zs L.2.1).2.1 (tb (aK zs L.2.1)).2 L t (bV (aK zs L.2.1) L t):=tS hz hL.rt2 (t:=t) (by omega) (by omega);have rL:0<=bV (aK zs L.2.1) L t:=ND NM
   have nS:bV (aK zs L.2.1) L t<=2386092:=by
    have hK':kT (aK zs L.2.1).2.1 (tb (aK zs L.2.1)).2 L t (bV (aK zs L.2.1) L t):=hK;rcases hK' with⟨h1,_⟩|⟨h1,⟨w,hw,_⟩,_⟩
    .omega
    .exact(Em hz.ztab.2 hL.rt2 h1 hw).2.2
   obtain⟨_,q1,q2,q3⟩:=jAI hs hL rL;have gI:=hL.m0;have aq:=hl cN
   have step:∀jG:Int,t<jG->Bp (aK zs L.2.1) L (bV (aK zs L.2.1) L t) jG t->∀aZ:aS,aZ=acc++[(t,((if jG<e then jG else e),qX L (bV (aK zs L.2.1) L t)))]->
     ∃VQ Ez rb,yb b (if jG<e then jG else e) (bV (aK zs L.2.1) L t) jG m j L.1 L.2.1 L.2.2.1.1 L.2.2.1.2 L.2.2.2.1 L.2.2.2.2.1 L.2.2.2.2.2.1 L.2.2.2.2.2.2.1 L.2.2.2.2.2.2.2.1 L.2.2.2.2.2.2.2.2 (tb (aK zs L.2.1)).1 (tb (aK zs L.2.1)).2 p e aZ sp=
      some (b,e,VQ,Ez,m,j,L.1,L.2.1,L.2.2.1.1,L.2.2.1.2,L.2.2.2.1,L.2.2.2.2.1,L.2.2.2.2.2.1,L.2.2.2.2.2.2.1,L.2.2.2.2.2.2.2.1,L.2.2.2.2.2.2.2.2,(tb (aK zs L.2.1)).1,(tb (aK zs L.2.1)).2,rb,sp)/\
      Bp (aK zs L.2.1) L VQ Ez e/\Ch (cR zs cs L) e a rb/\(a<e->(rb.length:Int)<=B+1+bV (aK zs L.2.1) L (e-1)):=by
    rintro jG Ha eE _ rfl
    obtain⟨t',rG,h1,h2,h3,h4⟩:∃t':Int,t'=(if jG<e then jG else e)/\t<t'/\t'<=e/\t'<=jG/\(t'<e->t'=jG):=⟨_,rfl,by split<;>omega,by split<;>omega,by split<;>omega,λh=>by
     by_cases hx:jG<e
     .rw[if_pos hx]
     .rw[if_neg hx]at h;omega⟩
    rw[<-rG]
    refine VP hL ha he hB (e-t').toNat t' (bV (aK zs L.2.1) L t) jG _ (by omega) (by omega) (λu u1 u2=>rX u (by omega) u2) (λh5=>⟨λu u1 u2 u3=>(eE Ha).1 u (by omega) u2 u3,(eE Ha).2⟩)
     (kX.snoc (by omega) (λu u1 u2=>?_)) (λfw=>?_) (λheq _=>?_)
    .unfold cR;rw[rX u u1 (by omega),(eE Ha).1 u u1 (by omega) (by omega)];rfl
    .have hm:=G9 hs hL (t:=t) (u:=t') (by omega) (by omega) (by omega);have ba:bV (aK zs L.2.1) L t<bV (aK zs L.2.1) L t':=by have:=h4 fw;subst this;exact(eE Ha).2 (by omega)
     simp only[ja,ku];omega
    .have hm:=G9 hs hL (t:=t) (u:=e-1) (by omega) (by omega) (by omega);simp only[ja,ku];omega
   by_cases VR:t>=nx
   .rw[aj VR,j5];rw[show j3v ((tb (aK zs L.2.1)).1,(tb (aK zs L.2.1)).2) (L.1,L.2.1,(L.2.2.1.1,L.2.2.1.2),L.2.2.2.1,L.2.2.2.2.1,L.2.2.2.2.2.1,L.2.2.2.2.2.2.1,L.2.2.2.2.2.2.2.1,L.2.2.2.2.2.2.2.2) t=_ from eK];simp only[j3];rw[ai (x:=bV (aK zs L.2.1) L t+1) (by omega) (by omega)];obtain⟨v,ev,_⟩:=og hz.ztab.2 hL.rt2 (k:=bV (aK zs L.2.1) L t+1) (by omega) (by omega);have cU:=jzl hs hL (t:=t) (by omega) (by omega) rL ev;rw[show j1g ((tb (aK zs L.2.1)).1,(tb (aK zs L.2.1)).2) (L.1,L.2.1,(L.2.2.1.1,L.2.2.1.2),L.2.2.2.1,L.2.2.2.2.1,L.2.2.2.2.2.1,L.2.2.2.2.2.2.1,L.2.2.2.2.2.2.2.1,L.2.2.2.2.2.2.2.2) (bV (aK zs L.2.1) L t+1)=_ from ev];simp only[j3,show Int.ofNat L.2.2.2.2.2.1.length=(L.2.2.2.2.2.1.length:Int) from rfl];rw[cP (show¬(L.2.2.2.2.2.1.length:Int)=0 by omega),aX q1 q2];have bZ:∀x:ej,acc.length+[x].length<=aR:=λx=>by simp[aR];omega
    revert cU
    generalize (hO (zs.getD L.2.1.toNat (ByteArray.empty,((0:Int),([]:List bm)))).2.1 (tb (zs.getD L.2.1.toNat (ByteArray.empty,((0:Int),([]:List bm))))).2 L (bV (aK zs L.2.1) L t+1)).isSome=ok
    cases ok with
    |false=>intro cU;simp only[k7,j5];rw[aj (bZ _),j5,aJ];exact step 8589934593 cU.1 cU.2 _ (by rw[q3])
    |true=>intro cU;simp only[jq,k7,j6,j5];rw[aj (bZ _),j5,aJ];exact step v cU.1 cU.2 _ (by rw[q3])
   .have hk:=(hc (by omega)).1 t (kg _) (by omega) (by omega);subst hk;rw[al VR,j6];simp only[show Int.ofNat L.2.2.2.2.2.1.length=(L.2.2.2.2.2.1.length:Int) from rfl];rw[cP (show¬(L.2.2.2.2.2.1.length:Int)=0 by omega),aX q1 q2];simp only[k7,j5];rw[aj (show acc.length+[_].length<=aR by simp[aR];omega),j5,aJ];exact step nx (by omega) hc _ (by rw[q3])
  .have NN:t=e:=by omega
   subst NN;rw[al cN,j6,aW];exact⟨k,nx,acc,rfl,hc,kX,wI rfl⟩
 termination_by n=>n
theorem VS{L:cg}(hL:fI zs.length ps.length cs.length L){a b:Int}(ha:0<=a)(hb:b<=8589934592){A:SL}(hA:A.length<=400000)(oq:∀t,bz t A↔a<=t/\t<b/\gK zs cs L t=true)
  {k0:Int}{N:Nat}(hN:N<=4000000)(rL : -1<=k0)(EA:∀t,a<=t->t<b->gK zs cs L t=true->k0<=bV (aK zs L.2.1) L t/\bV (aK zs L.2.1) L t<=k0+N) :
  ∀(n j:Nat)(t k nx Kc:Int)(acc:aS),j+n=A.length->a<=t->t<=b->bK (t-1) (A.drop j)->(∀u,t<=u->(bz u A↔bz u (A.drop j)))->Bp (aK zs L.2.1) L k nx t->Ch (cR zs cs L) t a acc->
   k0<=Kc->Kc<=k0+N->(∀u,t<=u->bz u A->Kc<=bV (aK zs L.2.1) L u)->(acc.length:Int)<=2*j+(Kc-k0)->
  ∃t' aZ,yc b t k nx (A.length:Int) (j:Int) L.1 L.2.1 L.2.2.1.1 L.2.2.1.2 L.2.2.2.1 L.2.2.2.2.1 L.2.2.2.2.2.1 L.2.2.2.2.2.2.1 L.2.2.2.2.2.2.2.1 L.2.2.2.2.2.2.2.2 (tb (aK zs L.2.1)).1 (tb (aK zs L.2.1)).2 acc A=some (b,t',aZ)/\
   Ch (cR zs cs L) b a (aZ++[(t',(b, -1))])/\aZ.length<=2*A.length+N
 |0,j,t,k,nx,Kc,acc,hj,mv,VT,aC,nW,hc,kX,hK1,hK2,VU,hl=>by
  rw[SB];simp only[j1y];rw[al (by omega),j6,aW];refine⟨t,acc,rfl,kX.snoc VT (λu u1 u2=>?_),by omega⟩
  have:gK zs cs L u=false:=by
   cases ho:gK zs cs L u with
   |false=>rfl
   |true=>have:=(nW u u1).1 ((oq u).2 ⟨by omega,u2,ho⟩);rw[jf (by omega)]at this;exact absurd this gJ
  unfold cR;rw[this];rfl
 |n+1,j,t,k,nx,Kc,acc,hj,mv,VT,aC,nW,hc,kX,hK1,hK2,VU,hl=>by
  have eJ:j<A.length:=by omega
  have bh:A.getD j ((0:Int),(0:Int))=A[j]:=by simp[List.getD,eJ]
  rw[jc eJ]at aC nW;obtain⟨s1,s2,s3⟩:=aC;have rX:∀u,A[j].1<=u->u<A[j].2->bz u A:=λu u1 u2=>(nW u (by omega)).2 (eY.2 (.inl ⟨u1,u2⟩));have um:=(oq A[j].1).1 (rX _ (kg _) s2);have uq:=(oq (A[j].2-1)).1 (rX _ (by omega) (by omega));have hKj:=VU A[j].1 (by omega) (rX _ (kg _) s2);rw[SB];simp only[j1y];rw[aj (show (j:Int)<(A.length:Int) by omega),aX (by omega) (by omega)];simp only[j5,j7,bh];rw[aj (show acc.length+[_].length<=aR by simp[aR];omega),j5]
  obtain⟨k',jG,aZ,e2,c2,h2,l2⟩:=VP hs hL (a:=a) (b:=b) (e:=A[j].2) (p:=A[j].1) (m:=(A.length:Int)) (j:=(j:Int)) (sp:=A) ha (by omega) (B:=2*j+1-k0) (by omega) (A[j].2-A[j].1).toNat A[j].1 k nx
   (acc++[(t,(A[j].1, -1))]) (by omega) (by omega) (λu u1 u2=>((oq u).1 (rX u u1 u2)).2.2) (λh5=>by
    have h6:=hc (by omega);exact⟨λu u1 u2 u3=>h6.1 u (by omega) u2 u3,h6.2⟩) (kX.snoc (by omega) (λu u1 u2=>by
    have:gK zs cs L u=false:=by
     cases ho:gK zs cs L u with
     |false=>rfl
     |true=>
      have:=(nW u u1).1 ((oq u).2 ⟨by omega,by omega,ho⟩);rcases eY.1 this with h|h
      .omega
      .have:=bK.low s3 h;omega
    unfold cR;rw[this];rfl)) (λ_=>by rw[ja,ku];omega) (λh=>by omega)
  rw[e2];simp only[j3];rw[ai (x:=(j:Int)+1) (by omega) (by omega),aJ];have wI:=l2 (by omega);have hr:=EA (A[j].2-1) (by omega) (by omega) uq.2.2
  exact VS hL ha hb hA oq hN rL EA n (j+1) A[j].2 k' jG (bV (aK zs L.2.1) L (A[j].2-1)) aZ (by omega) (by omega) (by omega) (s3.weak (by omega)) (λu hu=>by
   rw[nW u (by omega),eY]
   exact⟨λh=>by
    rcases h with h|h
    .omega
    .exact h,.inr⟩) c2 h2 hr.1 hr.2 (λu hu NO=>by
   have:=(oq u).1 NO;exact G9 hs hL (by omega) (by omega) (by omega)) (by omega)
theorem VV{L:cg}(hL:fI zs.length ps.length cs.length L){ss:List cA}{a b:Int}(ha:0<=a)(bR:a<=b)(hb:b<=8589934592){M:Nat}(hM:M<=60)(hlen:b-a<=604800*M)
  {k0:Int}{N:Nat}(hN:N<=4000000)(rL : -1<=k0)(EA:∀t,a<=t->t<b->gK zs cs L t=true->k0<=bV (aK zs L.2.1) L t/\bV (aK zs L.2.1) L t<=k0+N) :
  ∃out,j21 ((zs,(ps,(cs,ss))),zs.map tb) L a b=some out/\di (cR zs cs L) b none a out/\
   out.length<=2*(L.2.2.2.2.2.2.1.length*(M+1)*5+1+(if L.2.2.2.2.2.2.2.2=0 then 0 else (mJ cs L.2.2.2.2.2.2.2.1).2.2.length*5))+N+1:=by
 have mc:(zs.map tb).length=zs.length:=kb ..;have hg:=G5 (zs:=zs) hL.z0 hL.z1;obtain⟨A,e1,s1,s2,s3⟩:=jvM hs hL (ss:=ss) ha bR hb hM hlen
 have VW:A.length<=400000:=by
  have h1:L.2.2.2.2.2.2.1.length*(M+1)<=14*61:=qw hL.wl (by omega);by_cases hm:L.2.2.2.2.2.2.2.2=0
  .rw[if_pos hm]at s3;omega
  .rw[if_neg hm]at s3;have hx:=(yR hs (hL.cal hm).1 (hL.cal hm).2).len;have h64:(mJ cs L.2.2.2.2.2.2.2.1).2.2.length<=64:=hx;omega
 obtain⟨t',acc,e2,h2,l2⟩:=VS hs hL ha hb VW s2 hN rL EA A.length 0 a (-1) (-1) k0 [] (by omega) (kg _) bR s1 (λu _=>by simp) (λh=>by omega) rfl (kg _) (by omega) (λu hu NO=>by
  have:=(s2 u).1 NO;exact(EA u this.1 this.2.1 this.2.2).1) (by simp)
 obtain⟨out,e3,h3,l3⟩:=NK (l:=acc++[(t',(b, -1))]) (by rw[ja,ku];omega) h2;refine⟨out,?_,h3,by rw[ja,ku]at l3;omega⟩;simp only[j21];rw[aX hL.z0 (by rw[mc];exact hL.z1)];simp only[j5,hg];rw[show j4G ((zs,(ps,(cs,ss))),zs.map tb) (L.1,L.2.1,(L.2.2.1.1,L.2.2.1.2),L.2.2.2.1,L.2.2.2.2.1,L.2.2.2.2.2.1,L.2.2.2.2.2.2.1,L.2.2.2.2.2.2.2.1,L.2.2.2.2.2.2.2.2) a b=_ from e1];simp only[j3,show Int.ofNat A.length=(A.length:Int) from rfl];rw[show yc b a (-1) (-1) (A.length:Int) 0 L.1 L.2.1 L.2.2.1.1 L.2.2.1.2 L.2.2.2.1 L.2.2.2.2.1 L.2.2.2.2.2.1 L.2.2.2.2.2.2.1 L.2.2.2.2.2.2.2.1 L.2.2.2.2.2.2.2.2 (tb (zs.getD L.2.1.toNat (ByteArray.empty,((0:Int),([]:List bm))))).1 (tb (zs.getD L.2.1.toNat (ByteArray.empty,((0:Int),([]:List bm))))).2 [] A=_ from e2];simp only[j3];rw[aj (show acc.length+[_].length<=aR by simp[aR];omega),j5,e3];rfl
end
section
variable{zs:List bY}{ps:List dB}{cs:List bf}(hs:eX zs ps cs)
include hs
omit hs in
theorem oe.near{o:Int}{l:bT}(h:jD o l){s t:Int}{k:Nat}(f:oe o l s t k)(hs:0<=s):s-64800<=t/\t<=s+64800:=by
 obtain⟨p1,p2,p3⟩:=f.piece h;have hk:=f.hk;have o1:=h.of1 k hk;have o0:=h.of0 k hk;have ht:=f.ht;refine⟨by omega,?_⟩;by_cases h0:k=0
 .subst h0;have e0:bn l 0=0:=tK;omega
 .obtain⟨j,rfl⟩:∃j,k=j+1:=⟨k-1,by omega⟩;have b:=f.bef j (by omega);have o2:=h.of0 j (by omega);omega
theorem jzm{L:cg}(hL:fI zs.length ps.length cs.length L){t u:Int}(h0:0<=t)(yP:t<=u)(h1:u<=8589934592):bV (aK zs L.2.1) L u<=bV (aK zs L.2.1) L t+(u-t)/3600+8:=by
 have hz:=jF hs.so.ok hL.z0 hL.z1;have aC:=hL.rt2.step;have xD:=hL.rt2.e0;have mP:=hL.c0;have hd:=hL.d0;have a':kT (aK zs L.2.1).2.1 (tb (aK zs L.2.1)).2 L t (bV (aK zs L.2.1) L t):=(tS hz hL.rt2 (t:=t) h0 (by omega)).2;have b':kT (aK zs L.2.1).2.1 (tb (aK zs L.2.1)).2 L u (bV (aK zs L.2.1) L u):=(tS hz hL.rt2 (t:=u) (by omega) h1).2;generalize bV (aK zs L.2.1) L t=K at *;generalize bV (aK zs L.2.1) L u=K' at *;have hK : -1<=K:=by rcases a' with⟨h,_⟩|⟨h,_⟩<;>omega
 have hn:¬QO (aK zs L.2.1).2.1 (tb (aK zs L.2.1)).2 L t (K+1):=by
  rcases a' with⟨h,h2⟩|⟨_,_,h2⟩
  .rw[h];exact h2
  .exact h2
 by_cases hKK:K'<=K+1
 .omega
 .rcases b' with⟨h,_⟩|⟨hK0,⟨v,hv,hvu⟩,_⟩
  .omega
  .obtain⟨w,hw,hwu⟩:QO (aK zs L.2.1).2.1 (tb (aK zs L.2.1)).2 L u (K+1):=QO.le hz.ztab.2 hL.rt2 (show K+1<=K' by omega) ⟨v,hv,hvu⟩;have hwt:t<w:=by apply jr;intro hx;exact hn ⟨w,hw,by omega⟩
   have hm:3600*(K'-(K+1))<=3600*L.2.2.2.2.1*(K'-(K+1)):=Int.mul_le_mul_of_nonneg_right (by omega) (by omega);by_cases hu:L.2.2.2.1=0
   .unfold hO at hv hw;rw[if_pos hu]at hv hw;cases hf:fO (aK zs L.2.1).2.1 (tb (aK zs L.2.1)).2 (ei L 0) with
    |none=>rw[hf]at hv;simp at hv
    |some x=>
     rw[hf]at hv hw;simp only[j3]at hv hw;split at hv
     .split at hw
      .simp only[j4]at hv hw;have e:3600*L.2.2.2.2.1*(K'-(K+1))=3600*L.2.2.2.2.1*K'-3600*L.2.2.2.2.1*(K+1):=Int.mul_sub ..;omega
      .simp at hw
     .simp at hv
   .unfold hO at hv hw;rw[if_neg hu]at hv hw;obtain⟨k1,f1⟩:=G4 hv;obtain⟨k2,f2⟩:=G4 hw;have e:(K'-(K+1))*fM L=K'*fM L-(K+1)*fM L:=Int.sub_mul ..;have jX:(K'-(K+1))*1<=(K'-(K+1))*fM L:=Int.mul_le_mul_of_nonneg_left aC.1 (by omega);have hm3:0<=(K+1)*fM L:=Int.mul_nonneg (by omega) (by omega);have g1:=f1.near hz.ztab.2 (by unfold ei;omega);have g2:=f2.near hz.ztab.2 (by unfold ei;omega);unfold ei at g1 g2;omega
theorem VX{L:cg}(hL:fI zs.length ps.length cs.length L){a b:Int}(ha:0<=a)(hb:b<=8589934592):∀t,a<=t->t<b->gK zs cs L t=true->bV (aK zs L.2.1) L a<=bV (aK zs L.2.1) L t/\bV (aK zs L.2.1) L t<=bV (aK zs L.2.1) L a+(((b-a)/3600+8).toNat:Int):=λt h1 h2 _=>by
 have e1:=G9 hs hL (t:=a) (u:=t) ha h1 (by omega);have e2:=jzm hs hL (t:=a) (u:=t) ha h1 (by omega);omega
theorem VY{L:cg}(hL:fI zs.length ps.length cs.length L){t:Int}(h0:0<=t)(h1:t<=8589934592) : -1<=bV (aK zs L.2.1) L t:=by
 have hz:=jF hs.so.ok hL.z0 hL.z1;have a':kT (aK zs L.2.1).2.1 (tb (aK zs L.2.1)).2 L t (bV (aK zs L.2.1) L t):=(tS hz hL.rt2 (t:=t) h0 h1).2;rcases a' with⟨h,_⟩|⟨h,_⟩<;>omega
theorem VZ{L:cg}(hL:fI zs.length ps.length cs.length L){ss:List cA}{a b:Int}(ha:0<=a)(bR:a<=b)(hb:b<=8589934592)(hlen:b-a<=35078400) :
  ∃out,j21 ((zs,(ps,(cs,ss))),zs.map tb) L a b=some out/\di (cR zs cs L) b none a out/\out.length<=30000:=by
 obtain⟨out,e,h1,h2⟩:=VV hs hL (ss:=ss) ha bR hb (M:=58) (by omega) (by omega) (N:=((b-a)/3600+8).toNat) (by omega) (VY hs hL ha (by omega)) (VX hs hL ha hb);refine⟨out,e,h1,?_⟩;have hw:L.2.2.2.2.2.2.1.length*(58+1)*5<=14*59*5:=jx _ (jx _ hL.wl)
 have hc:(if L.2.2.2.2.2.2.2.2=0 then 0 else (mJ cs L.2.2.2.2.2.2.2.1).2.2.length*5)<=64*5:=by
  by_cases hm:L.2.2.2.2.2.2.2.2=0
  .rw[if_pos hm];omega
  .rw[if_neg hm];exact jx _ (yR hs (hL.cal hm).1 (hL.cal hm).2).len
 omega
end
end Go.Proofs.Pw
