/- sS.Merge, sS.View.Segments: Ri is on sS in a range. -/
import Derived.Test.YtjpgjpnfacnmaaaGreatLSPH
import Derived.Test.YtjpgjpnfacnmaaaGreatLSPD
open Go Go.Lft
namespace Go.Proofs.Pw
theorem jB5(l:bD)(x y:jD):(l++[x]).set l.length y=l++[y]:=by
 rw[vp _ _ (js _)];simp
theorem jza(out:bD)(s:jD):(kD out s).length<=out.length+1:=by
 unfold kD;split
 .omega
 .rcases va out with rfl|⟨l,u,rfl⟩
  .simp
  .rw[vb,y9];simp only[vf,Option.some_or];split
   .simp
   .simp
theorem jzb:∀(l out:bD),(l.foldl kD out).length<=out.length+l.length
 |[],out=>by simp
 |s::r,out=>by
  have:=jzb r (kD out s);have:=jza out s;simp only[List.foldl_cons,jm];omega
theorem jEX{l:bD}(hl:l.length<=1000000000):∀(n i:Nat)(out:bD),i+n=l.length->out.length<=i->BW l (l.length:Int) (i:Int) out=some ((l.drop i).foldl kD out)
 |0,i,out,hi,ho=>by
  rw[W8];simp only[j4G];rw[ah (by omega),j7,aW,jd (by omega)];rfl
 |n+1,i,out,hi,ho=>by
  have bj:i<l.length:=by omega
  have aR:l.getD i ((0:Int),((0:Int),(0:Int)))=l[i]:=by simp[List.getD,bj]
  have ih:∀vH:bD,vH=kD out l[i]->BW l (l.length:Int) ((i:Int)+1) vH=some ((l.drop i).foldl kD out):=λvH he=>by
   rw[jb bj,List.foldl_cons,<-he];have:=jza out l[i];exact jEX hl n (i+1) vH (by omega) (by rw[he];omega)
  rw[W8];simp only[j4G];rw[ag (by omega),bz];simp only[j6,j8,aR,show Int.ofNat out.length=(out.length:Int) from rfl];rw[ai (x:=(i:Int)+1)];generalize l[i]=s at *;by_cases hs:s.2.1<=s.1
  .rw[ag hs,j6,aK];exact ih _ (by unfold kD;rw[if_pos hs])
  .rw[ah hs,j7];rcases va out with rfl|⟨o,u,rfl⟩
   .simp only[qc];rw[ah (show¬((0:Nat):Int)>0 by omega),j7,ag (show 0+[(s.1,(s.2.1,s.2.2))].length<=aN by simp[aN]),j6,aK];exact ih _ (by unfold kD;rw[if_neg hs];rfl)
   .rw[vb]at ih ho ⊢;have yH:(o++[u]).length=o.length+1:=by simp
    rw[yH]at ho;have jV:(o++[u]).getD o.length ((0:Int),((0:Int),(0:Int)))=u:=by simp[List.getD]
    rw[yH,ag (show ((o.length+1:Nat):Int)>0 by omega),j6,ai (x:=((o.length+1:Nat):Int)-1),show ((o.length+1:Nat):Int)-1=(o.length:Int) by omega,bz];simp only[j6,j8,jV];have RF:kD (o++[u]) s=if u.2.1=s.1/\u.2.2=s.2.2 then o++[(u.1,(s.2.1,u.2.2))] else (o++[u])++[s]:=by unfold kD;rw[if_neg hs,y9];simp only[vf,Option.some_or,y8]
    by_cases h1:u.2.1=s.1
    .rw[di h1,j6];by_cases h2:u.2.2=s.2.2
     .rw[di h2,j6,aK,jB5];exact ih _ (by rw[RF,if_pos ⟨h1,h2⟩])
     .rw[bW h2,j7,ag (show o.length+1+[(s.1,(s.2.1,s.2.2))].length<=aN by simp[aN];omega),j6,aK];exact ih _ (by rw[RF,if_neg (λh=>h2 h.2)])
    .rw[bW h1,j7,ag (show o.length+1+[(s.1,(s.2.1,s.2.2))].length<=aN by simp[aN];omega),j6,aK];exact ih _ (by rw[RF,if_neg (λh=>h1 h.1)])
theorem jzc{l:bD}(hl:l.length<=1000000000):j9R l=some (l.foldl kD []):=by
 simp only[j9R,show Int.ofNat l.length=(l.length:Int) from rfl];rw[show BW l (l.length:Int) 0 []=_ from jEX hl l.length 0 [] (by omega) (by simp)];rfl
theorem JX{f:Int->Int}{a b:Int}{l:bD}(hl:l.length<=1000000000)(h:Ch f b a l):∃out,j9R l=some out/\dW f b none a out/\out.length<=l.length:=
 ⟨_,jzc hl,h.cov,by have:=jzb l [];simpa using this⟩
section
variable{zs:List br}{ps:List cZ}{cs:List aX}(hs:cN zs ps cs)
include hs
theorem JY{L:bI}(hL:eD zs.length ps.length cs.length L){t u:Int}(h0:0<=t)(Am:t<=u)(h1:u<=8589934592):bT (aH zs L.2.1) L t<=bT (aH zs L.2.1) L u:=by
 have hz:=gv hs.so.ok hL.z0 hL.z1;have a:=(rj hz hL.rt2 (t:=t) h0 (by omega)).2;have b:=(rj hz hL.rt2 (t:=u) (by omega) h1).2;show bT (aH zs L.2.1) L t<=bT (aH zs L.2.1) L u;have a':kB (aH zs L.2.1).2.1 (tb (aH zs L.2.1)).2 L t (bT (aH zs L.2.1) L t):=a;have b':kB (aH zs L.2.1).2.1 (tb (aH zs L.2.1)).2 L u (bT (aH zs L.2.1) L u):=b;generalize bT (aH zs L.2.1) L t=K at *;generalize bT (aH zs L.2.1) L u=K' at *;rcases a' with⟨a1,a2⟩|⟨a1,⟨v,hv,uG⟩,a3⟩<;>rcases b' with⟨b1,b2⟩|⟨b1,b2,b3⟩
 .omega
 .omega
 .exact absurd (QO.le hz.ztab.2 hL.rt2 a1 ⟨v,hv,by omega⟩) b2
 .apply jp;intro hn;exact b3 (QO.le hz.ztab.2 hL.rt2 (show K'+1<=K by omega) ⟨v,hv,by omega⟩)
def Cl(z:br)(L:bI)(k nx t:Int):Prop:=t<nx->(∀u,t<=u->u<nx->u<=8589934592->bT z L u=k)/\(nx<=8589934592->k<bT z L nx)
theorem jDt{L:bI}(hL:eD zs.length ps.length cs.length L){t:Int}(h0:0<=t)(h1:t<=8589934592)(hk:0<=bT (aH zs L.2.1) L t){v:Int}{ok:Bool}
  (hv:j0H (tb (aH zs L.2.1)) L (bT (aH zs L.2.1) L t+1)=some (v,ok)):t<(cond ok v 8589934593)/\Cl (aH zs L.2.1) L (bT (aH zs L.2.1) L t) (cond ok v 8589934593) t:=by
 have hz:=gv hs.so.ok hL.z0 hL.z1;have a:=(rj hz hL.rt2 (t:=t) h0 h1).2;have a':kB (aH zs L.2.1).2.1 (tb (aH zs L.2.1)).2 L t (bT (aH zs L.2.1) L t):=a;have hu:∀u,t<=u->u<=8589934592->kB (aH zs L.2.1).2.1 (tb (aH zs L.2.1)).2 L u (bT (aH zs L.2.1) L u):=λu _ h2=>(rj hz hL.rt2 (t:=u) (by omega) h2).2;generalize hK:bT (aH zs L.2.1) L t=K at *;rcases a' with⟨a1,a2⟩|⟨a1,⟨w,hw,hwt⟩,a3⟩
 .omega
 .have pE:=Aj hz.ztab.2 hL.rt2 a1 hw;obtain⟨v',ev,gI⟩:=pY hz.ztab.2 hL.rt2 (k:=K+1) (by omega) (by omega);have:=ev.symm.trans hv;simp only[j5,j9]at this;obtain⟨rfl,rfl⟩:=this;cases hh:hO (zs.getD L.2.1.toNat (ByteArray.empty,((0:Int),([]:List aD)))).2.1 (tb (zs.getD L.2.1.toNat (ByteArray.empty,((0:Int),([]:List aD))))).2 L (K+1) with
  |none=>
   simp only[v8,j7]
   exact⟨by omega,λ_=>⟨λu h2 h3 h4=>kB.uniq hz.ztab.2 hL.rt2 (hu u h2 h4) (.inr ⟨a1,⟨w,hw,by omega⟩,λ⟨x,hx,_⟩=>by
    have nh:=hh.symm.trans hx;simp at nh⟩),λh=>by omega⟩⟩
  |some x=>
   have:=gI x hh;subst this;simp only[zk,j6]
   refine⟨?_,λ_=>⟨λu h2 h3 h4=>kB.uniq hz.ztab.2 hL.rt2 (hu u h2 h4) (.inr ⟨a1,⟨w,hw,by omega⟩,λ⟨x,hx,iJ⟩=>by
    have nh:=hh.symm.trans hx;simp only[j5]at nh;omega⟩),λhle=>?_⟩⟩
   rotate_left
   .have RG:v'<=8589934592:=hle;have Bn:t<=v':=by apply jp;intro hn;exact a3 ⟨_,hh,by omega⟩
    have b':=hu v' Bn RG;rcases b' with⟨b1,b2⟩|⟨b1,b2,b3⟩
    .exact absurd (QO.le hz.ztab.2 hL.rt2 (show (0:Int)<=K+1 by omega) ⟨_,hh,k9 _⟩) b2
    .apply jp;intro hn;exact b3 (QO.le hz.ztab.2 hL.rt2 (show bT (aH zs L.2.1) L v'+1<=K+1 by omega) ⟨_,hh,k9 _⟩)
   apply jp;intro hn;exact a3 ⟨_,hh,by omega⟩
theorem jEY{L:bI}(hL:eD zs.length ps.length cs.length L){k:Int}(hk:0<=k):∃_:(Int.tmod k (L.2.2.2.2.2.1.length:Int)).toNat<L.2.2.2.2.2.1.length,0<=Int.tmod k (L.2.2.2.2.2.1.length:Int)/\Int.tmod k (L.2.2.2.2.2.1.length:Int)<(L.2.2.2.2.2.1.length:Int)/\L.2.2.2.2.2.1.getD (Int.tmod k (L.2.2.2.2.2.1.length:Int)).toNat 0=sT L k:=by
 have _:=hs;have oy:=hL.m0;have q1:0<=Int.tmod k (L.2.2.2.2.2.1.length:Int):=Int.tmod_nonneg _ hk;have q2:Int.tmod k (L.2.2.2.2.2.1.length:Int)<(L.2.2.2.2.2.1.length:Int):=yn _ (by omega);exact⟨by omega,q1,q2,rfl⟩
theorem jEZ{L:bI}(hL:eD zs.length ps.length cs.length L){a b e p m j:Int}{sp:SL}(ha:0<=a)(he:e<=8589934592){B:Int}(hB:B<=1000000):∀(n:Nat)(t k nx:Int)(acc:bD),e-t=n->a<=t->
  (∀u,t<=u->u<e->fN zs cs L u=true)->Cl (aH zs L.2.1) L k nx t->Ch (bO zs cs L) t a acc->(t<e->(acc.length:Int)<=B+bT (aH zs L.2.1) L t)->
  (t=e->a<e->(acc.length:Int)<=B+1+bT (aH zs L.2.1) L (e-1))->
  ∃k' lZ bA,EL b t k nx m j L.1 L.2.1 L.2.2.1.1 L.2.2.1.2 L.2.2.2.1 L.2.2.2.2.1 L.2.2.2.2.2.1 L.2.2.2.2.2.2.1 L.2.2.2.2.2.2.2.1 L.2.2.2.2.2.2.2.2 (tb (aH zs L.2.1)).1 (tb (aH zs L.2.1)).2 p e acc sp=
   some (b,e,k',lZ,m,j,L.1,L.2.1,L.2.2.1.1,L.2.2.1.2,L.2.2.2.1,L.2.2.2.2.1,L.2.2.2.2.2.1,L.2.2.2.2.2.2.1,L.2.2.2.2.2.2.2.1,L.2.2.2.2.2.2.2.2,(tb (aH zs L.2.1)).1,(tb (aH zs L.2.1)).2,bA,sp)/\
   Cl (aH zs L.2.1) L k' lZ e/\Ch (bO zs cs L) e a bA/\(a<e->(bA.length:Int)<=B+1+bT (aH zs L.2.1) L (e-1))
 |n,t,k,nx,acc,hn,pE,nD,hc,mU,hl,th=>by
  have hz:=gv hs.so.ok hL.z0 hL.z1;rw[jel];simp only[j2A];by_cases c9:t<e
  .rw[ag c9,j6];have RH:=nD t (k9 _) c9;obtain⟨eK,hK⟩:j3O (tb (aH zs L.2.1)) L t=some (bT (aH zs L.2.1) L t)/\kB (aH zs L.2.1).2.1 (tb (aH zs L.2.1)).2 L t (bT (aH zs L.2.1) L t):=rj hz hL.rt2 (t:=t) (by omega) (by omega);have mj:0<=bT (aH zs L.2.1) L t:=JW RH
   have rY:bT (aH zs L.2.1) L t<=2386092:=by
    have hK':kB (aH zs L.2.1).2.1 (tb (aH zs L.2.1)).2 L t (bT (aH zs L.2.1) L t):=hK;rcases hK' with⟨h1,_⟩|⟨h1,⟨w,hw,_⟩,_⟩
    .omega
    .exact(Aj hz.ztab.2 hL.rt2 h1 hw).2.2
   obtain⟨_,q1,q2,q3⟩:=jEY hs hL mj;have oy:=hL.m0;have ak:=hl c9
   have step:∀lZ:Int,t<lZ->Cl (aH zs L.2.1) L (bT (aH zs L.2.1) L t) lZ t->∀bA:bD,bA=acc++[(t,((if lZ<e then lZ else e),sT L (bT (aH zs L.2.1) L t)))]->
     ∃k'' Gt sW,EL b (if lZ<e then lZ else e) (bT (aH zs L.2.1) L t) lZ m j L.1 L.2.1 L.2.2.1.1 L.2.2.1.2 L.2.2.2.1 L.2.2.2.2.1 L.2.2.2.2.2.1 L.2.2.2.2.2.2.1 L.2.2.2.2.2.2.2.1 L.2.2.2.2.2.2.2.2 (tb (aH zs L.2.1)).1 (tb (aH zs L.2.1)).2 p e bA sp=
      some (b,e,k'',Gt,m,j,L.1,L.2.1,L.2.2.1.1,L.2.2.1.2,L.2.2.2.1,L.2.2.2.2.1,L.2.2.2.2.2.1,L.2.2.2.2.2.2.1,L.2.2.2.2.2.2.2.1,L.2.2.2.2.2.2.2.2,(tb (aH zs L.2.1)).1,(tb (aH zs L.2.1)).2,sW,sp)/\
      Cl (aH zs L.2.1) L k'' Gt e/\Ch (bO zs cs L) e a sW/\(a<e->(sW.length:Int)<=B+1+bT (aH zs L.2.1) L (e-1)):=by
    rintro lZ uR dq _ rfl
    obtain⟨t',tq,h1,h2,h3,h4⟩:∃t':Int,t'=(if lZ<e then lZ else e)/\t<t'/\t'<=e/\t'<=lZ/\(t'<e->t'=lZ):=⟨_,rfl,by split<;>omega,by split<;>omega,by split<;>omega,λh=>by
     by_cases hx:lZ<e
     .rw[if_pos hx]
     .rw[if_neg hx]at h;omega⟩
    rw[<-tq]
    refine jEZ hL ha he hB (e-t').toNat t' (bT (aH zs L.2.1) L t) lZ _ (by omega) (by omega) (λu u1 u2=>nD u (by omega) u2) (λh5=>⟨λu u1 u2 u3=>(dq uR).1 u (by omega) u2 u3,(dq uR).2⟩)
     (mU.snoc (by omega) (λu u1 u2=>?_)) (λgi=>?_) (λheq _=>?_)
    .unfold bO;rw[nD u u1 (by omega),(dq uR).1 u u1 (by omega) (by omega)];rfl
    .have hm:=JY hs hL (t:=t) (u:=t') (by omega) (by omega) (by omega);have bk:bT (aH zs L.2.1) L t<bT (aH zs L.2.1) L t':=by have:=h4 gi;subst this;exact(dq uR).2 (by omega)
     simp only[jg,ku];omega
    .have hm:=JY hs hL (t:=t) (u:=e-1) (by omega) (by omega) (by omega);simp only[jg,ku];omega
   by_cases htn:t>=nx
   .rw[ag htn,j6];rw[show j3O ((tb (aH zs L.2.1)).1,(tb (aH zs L.2.1)).2) (L.1,L.2.1,(L.2.2.1.1,L.2.2.1.2),L.2.2.2.1,L.2.2.2.2.1,L.2.2.2.2.2.1,L.2.2.2.2.2.2.1,L.2.2.2.2.2.2.2.1,L.2.2.2.2.2.2.2.2) t=_ from eK];simp only[j4];rw[ai (x:=bT (aH zs L.2.1) L t+1)];obtain⟨v,ev,_⟩:=pY hz.ztab.2 hL.rt2 (k:=bT (aH zs L.2.1) L t+1) (by omega) (by omega);have gy:=jDt hs hL (t:=t) (by omega) (by omega) mj ev;rw[show j0H ((tb (aH zs L.2.1)).1,(tb (aH zs L.2.1)).2) (L.1,L.2.1,(L.2.2.1.1,L.2.2.1.2),L.2.2.2.1,L.2.2.2.2.1,L.2.2.2.2.2.1,L.2.2.2.2.2.2.1,L.2.2.2.2.2.2.2.1,L.2.2.2.2.2.2.2.2) (bT (aH zs L.2.1) L t+1)=_ from ev];simp only[j4,show Int.ofNat L.2.2.2.2.2.1.length=(L.2.2.2.2.2.1.length:Int) from rfl];rw[bW (show¬(L.2.2.2.2.2.1.length:Int)=0 by omega),cw q1 q2];have bU:∀x:jD,acc.length+[x].length<=aN:=λx=>by simp[aN];omega
    revert gy
    generalize (hO (zs.getD L.2.1.toNat (ByteArray.empty,((0:Int),([]:List aD)))).2.1 (tb (zs.getD L.2.1.toNat (ByteArray.empty,((0:Int),([]:List aD))))).2 L (bT (aH zs L.2.1) L t+1)).isSome=ok
    cases ok with
    |false=>intro gy;simp only[ka,j6];rw[ag (bU _),j6,aK];exact step 8589934593 gy.1 gy.2 _ (by rw[q3])
    |true=>intro gy;simp only[jl,ka,j7,j6];rw[ag (bU _),j6,aK];exact step v gy.1 gy.2 _ (by rw[q3])
   .have hk:=(hc (by omega)).1 t (k9 _) (by omega) (by omega);subst hk;rw[ah htn,j7];simp only[show Int.ofNat L.2.2.2.2.2.1.length=(L.2.2.2.2.2.1.length:Int) from rfl];rw[bW (show¬(L.2.2.2.2.2.1.length:Int)=0 by omega),cw q1 q2];simp only[ka,j6];rw[ag (show acc.length+[_].length<=aN by simp[aN];omega),j6,aK];exact step nx (by omega) hc _ (by rw[q3])
  .have RI:t=e:=by omega
   subst RI;rw[ah c9,j7,aW];exact⟨k,nx,acc,rfl,hc,mU,th rfl⟩
 termination_by n=>n
theorem jF0{L:bI}(hL:eD zs.length ps.length cs.length L){a b:Int}(ha:0<=a)(hb:b<=8589934592){A:SL}(hA:A.length<=400000)(kX:∀t,bt t A↔a<=t/\t<b/\fN zs cs L t=true)
  {k0:Int}{N:Nat}(hN:N<=4000000)(mj : -1<=k0)(Cf:∀t,a<=t->t<b->fN zs cs L t=true->k0<=bT (aH zs L.2.1) L t/\bT (aH zs L.2.1) L t<=k0+N) :
  ∀(n j:Nat)(t k nx Kc:Int)(acc:bD),j+n=A.length->a<=t->t<=b->bP (t-1) (A.drop j)->(∀u,t<=u->(bt u A↔bt u (A.drop j)))->Cl (aH zs L.2.1) L k nx t->Ch (bO zs cs L) t a acc->
   k0<=Kc->Kc<=k0+N->(∀u,t<=u->bt u A->Kc<=bT (aH zs L.2.1) L u)->(acc.length:Int)<=2*j+(Kc-k0)->
  ∃t' bA,EM b t k nx (A.length:Int) (j:Int) L.1 L.2.1 L.2.2.1.1 L.2.2.1.2 L.2.2.2.1 L.2.2.2.2.1 L.2.2.2.2.2.1 L.2.2.2.2.2.2.1 L.2.2.2.2.2.2.2.1 L.2.2.2.2.2.2.2.2 (tb (aH zs L.2.1)).1 (tb (aH zs L.2.1)).2 acc A=some (b,t',bA)/\
   Ch (bO zs cs L) b a (bA++[(t',(b, -1))])/\bA.length<=2*A.length+N
 |0,j,t,k,nx,Kc,acc,hj,pE,htb,aM,gM,hc,mU,hK1,hK2,hK3,hl=>by
  rw[W9];simp only[j1K];rw[ah (by omega),j7,aW];refine⟨t,acc,rfl,mU.snoc htb (λu u1 u2=>?_),by omega⟩
  have:fN zs cs L u=false:=by
   cases ho:fN zs cs L u with
   |false=>rfl
   |true=>have:=(gM u u1).1 ((kX u).2 ⟨by omega,u2,ho⟩);rw[jd (by omega)]at this;exact absurd this fU
  unfold bO;rw[this];rfl
 |n+1,j,t,k,nx,Kc,acc,hj,pE,htb,aM,gM,hc,mU,hK1,hK2,hK3,hl=>by
  have iB:j<A.length:=by omega
  have aR:A.getD j ((0:Int),(0:Int))=A[j]:=by simp[List.getD,iB]
  rw[jb iB]at aM gM;obtain⟨s1,s2,s3⟩:=aM;have nD:∀u,A[j].1<=u->u<A[j].2->bt u A:=λu u1 u2=>(gM u (by omega)).2 (eU.2 (.inl ⟨u1,u2⟩));have s7:=(kX A[j].1).1 (nD _ (k9 _) s2);have xG:=(kX (A[j].2-1)).1 (nD _ (by omega) (by omega));have hKj:=hK3 A[j].1 (by omega) (nD _ (k9 _) s2);rw[W9];simp only[j1K];rw[ag (show (j:Int)<(A.length:Int) by omega),bz];simp only[j6,j8,aR];rw[ag (show acc.length+[_].length<=aN by simp[aN];omega),j6]
  obtain⟨k',lZ,bA,e2,c2,h2,l2⟩:=jEZ hs hL (a:=a) (b:=b) (e:=A[j].2) (p:=A[j].1) (m:=(A.length:Int)) (j:=(j:Int)) (sp:=A) ha (by omega) (B:=2*j+1-k0) (by omega) (A[j].2-A[j].1).toNat A[j].1 k nx
   (acc++[(t,(A[j].1, -1))]) (by omega) (by omega) (λu u1 u2=>((kX u).1 (nD u u1 u2)).2.2) (λh5=>by
    have h6:=hc (by omega);exact⟨λu u1 u2 u3=>h6.1 u (by omega) u2 u3,h6.2⟩) (mU.snoc (by omega) (λu u1 u2=>by
    have:fN zs cs L u=false:=by
     cases ho:fN zs cs L u with
     |false=>rfl
     |true=>
      have:=(gM u u1).1 ((kX u).2 ⟨by omega,by omega,ho⟩);rcases eU.1 this with h|h
      .omega
      .have:=bP.low s3 h;omega
    unfold bO;rw[this];rfl)) (λ_=>by rw[jg,ku];omega) (λh=>by omega)
  rw[e2];simp only[j4];rw[ai (x:=(j:Int)+1),aK];have th:=l2 (by omega);have hr:=Cf (A[j].2-1) (by omega) (by omega) xG.2.2
  exact jF0 hL ha hb hA kX hN mj Cf n (j+1) A[j].2 k' lZ (bT (aH zs L.2.1) L (A[j].2-1)) bA (by omega) (by omega) (by omega) (s3.weak (by omega)) (λu hu=>by
   rw[gM u (by omega),eU]
   exact⟨λh=>by
    rcases h with h|h
    .omega
    .exact h,.inr⟩) c2 h2 hr.1 hr.2 (λu hu RJ=>by
   have:=(kX u).1 RJ;exact JY hs hL (by omega) (by omega) (by omega)) (by omega)
theorem RK{L:bI}(hL:eD zs.length ps.length cs.length L){ss:List cF}{a b:Int}(ha:0<=a)(bG:a<=b)(hb:b<=8589934592){M:Nat}(hM:M<=60)(hlen:b-a<=604800*M)
  {k0:Int}{N:Nat}(hN:N<=4000000)(mj : -1<=k0)(Cf:∀t,a<=t->t<b->fN zs cs L t=true->k0<=bT (aH zs L.2.1) L t/\bT (aH zs L.2.1) L t<=k0+N) :
  ∃out,j1t ((zs,(ps,(cs,ss))),zs.map tb) L a b=some out/\dW (bO zs cs L) b none a out/\
   out.length<=2*(L.2.2.2.2.2.2.1.length*(M+1)*5+1+(if L.2.2.2.2.2.2.2.2=0 then 0 else (fv cs L.2.2.2.2.2.2.2.1).2.2.length*5))+N+1:=by
 have kL:(zs.map tb).length=zs.length:=k5 ..;have hg:=Rj (zs:=zs) hL.z0 hL.z1;obtain⟨A,e1,s1,s2,s3⟩:=jz9 hs hL (ss:=ss) ha bG hb hM hlen
 have hAl:A.length<=400000:=by
  have h1:L.2.2.2.2.2.2.1.length*(M+1)<=14*61:=ql hL.wl (by omega);by_cases hm:L.2.2.2.2.2.2.2.2=0
  .rw[if_pos hm]at s3;omega
  .rw[if_neg hm]at s3;have hx:=(oA hs (hL.cal hm).1 (hL.cal hm).2).len;have h64:(fv cs L.2.2.2.2.2.2.2.1).2.2.length<=64:=hx;omega
 obtain⟨t',acc,e2,h2,l2⟩:=jF0 hs hL ha hb hAl s2 hN mj Cf A.length 0 a (-1) (-1) k0 [] (by omega) (k9 _) bG s1 (λu _=>by simp) (λh=>by omega) rfl (k9 _) (by omega) (λu hu RJ=>by
  have:=(s2 u).1 RJ;exact(Cf u this.1 this.2.1 this.2.2).1) (by simp)
 obtain⟨out,e3,h3,l3⟩:=JX (l:=acc++[(t',(b, -1))]) (by rw[jg,ku];omega) h2;refine⟨out,?_,h3,by rw[jg,ku]at l3;omega⟩;simp only[j1t];rw[cw hL.z0 (by rw[kL];exact hL.z1)];simp only[j6,hg];rw[show j73 ((zs,(ps,(cs,ss))),zs.map tb) (L.1,L.2.1,(L.2.2.1.1,L.2.2.1.2),L.2.2.2.1,L.2.2.2.2.1,L.2.2.2.2.2.1,L.2.2.2.2.2.2.1,L.2.2.2.2.2.2.2.1,L.2.2.2.2.2.2.2.2) a b=_ from e1];simp only[j4,show Int.ofNat A.length=(A.length:Int) from rfl];rw[show EM b a (-1) (-1) (A.length:Int) 0 L.1 L.2.1 L.2.2.1.1 L.2.2.1.2 L.2.2.2.1 L.2.2.2.2.1 L.2.2.2.2.2.1 L.2.2.2.2.2.2.1 L.2.2.2.2.2.2.2.1 L.2.2.2.2.2.2.2.2 (tb (zs.getD L.2.1.toNat (ByteArray.empty,((0:Int),([]:List aD))))).1 (tb (zs.getD L.2.1.toNat (ByteArray.empty,((0:Int),([]:List aD))))).2 [] A=_ from e2];simp only[j4];rw[ag (show acc.length+[_].length<=aN by simp[aN];omega),j6,e3];rfl
end
section
variable{zs:List br}{ps:List cZ}{cs:List aX}(hs:cN zs ps cs)
include hs
omit hs in
theorem nA.near{o:Int}{l:bn}(h:gW o l){s t:Int}{k:Nat}(f:nA o l s t k)(hs:0<=s):s-64800<=t/\t<=s+64800:=by
 obtain⟨p1,p2,p3⟩:=f.piece h;have hk:=f.hk;have o1:=h.of1 k hk;have o0:=h.of0 k hk;have ht:=f.ht;refine⟨by omega,?_⟩;by_cases h0:k=0
 .subst h0;have e0:aO l 0=0:=ov;omega
 .obtain⟨j,rfl⟩:∃j,k=j+1:=⟨k-1,by omega⟩;have b:=f.bef j (by omega);have o2:=h.of0 j (by omega);omega
theorem jDu{L:bI}(hL:eD zs.length ps.length cs.length L){t u:Int}(h0:0<=t)(Am:t<=u)(h1:u<=8589934592):bT (aH zs L.2.1) L u<=bT (aH zs L.2.1) L t+(u-t)/3600+8:=by
 have hz:=gv hs.so.ok hL.z0 hL.z1;have aM:=hL.rt2.step;have tI:=hL.rt2.e0;have iS:=hL.c0;have hd:=hL.d0;have a':kB (aH zs L.2.1).2.1 (tb (aH zs L.2.1)).2 L t (bT (aH zs L.2.1) L t):=(rj hz hL.rt2 (t:=t) h0 (by omega)).2;have b':kB (aH zs L.2.1).2.1 (tb (aH zs L.2.1)).2 L u (bT (aH zs L.2.1) L u):=(rj hz hL.rt2 (t:=u) (by omega) h1).2;generalize bT (aH zs L.2.1) L t=K at *;generalize bT (aH zs L.2.1) L u=K' at *;have hK : -1<=K:=by rcases a' with⟨h,_⟩|⟨h,_⟩<;>omega
 have hn:¬QO (aH zs L.2.1).2.1 (tb (aH zs L.2.1)).2 L t (K+1):=by
  rcases a' with⟨h,h2⟩|⟨_,_,h2⟩
  .rw[h];exact h2
  .exact h2
 by_cases hKK:K'<=K+1
 .omega
 .rcases b' with⟨h,_⟩|⟨hK0,⟨v,hv,hvu⟩,_⟩
  .omega
  .obtain⟨w,hw,hwu⟩:QO (aH zs L.2.1).2.1 (tb (aH zs L.2.1)).2 L u (K+1):=QO.le hz.ztab.2 hL.rt2 (show K+1<=K' by omega) ⟨v,hv,hvu⟩;have hwt:t<w:=by apply jp;intro hx;exact hn ⟨w,hw,by omega⟩
   have hm:3600*(K'-(K+1))<=3600*L.2.2.2.2.1*(K'-(K+1)):=vd (by omega) (by omega);by_cases hu:L.2.2.2.1=0
   .unfold hO at hv hw;rw[if_pos hu]at hv hw;cases hf:fO (aH zs L.2.1).2.1 (tb (aH zs L.2.1)).2 (dm L 0) with
    |none=>rw[hf]at hv;simp at hv
    |some x=>
     rw[hf]at hv hw;simp only[j4]at hv hw;split at hv
     .split at hw
      .simp only[j5]at hv hw;have e:3600*L.2.2.2.2.1*(K'-(K+1))=3600*L.2.2.2.2.1*K'-3600*L.2.2.2.2.1*(K+1):=Int.mul_sub ..;omega
      .simp at hw
     .simp at hv
   .unfold hO at hv hw;rw[if_neg hu]at hv hw;obtain⟨k1,f1⟩:=JP hv;obtain⟨k2,f2⟩:=JP hw;have e:(K'-(K+1))*dv L=K'*dv L-(K+1)*dv L:=Int.sub_mul ..;have gL:(K'-(K+1))*1<=(K'-(K+1))*dv L:=Int.mul_le_mul_of_nonneg_left aM.1 (by omega);have hm3:0<=(K+1)*dv L:=yc (by omega) (by omega);have g1:=f1.near hz.ztab.2 (by unfold dm;omega);have g2:=f2.near hz.ztab.2 (by unfold dm;omega);unfold dm at g1 g2;omega
theorem RM{L:bI}(hL:eD zs.length ps.length cs.length L){a b:Int}(ha:0<=a)(hb:b<=8589934592):∀t,a<=t->t<b->fN zs cs L t=true->bT (aH zs L.2.1) L a<=bT (aH zs L.2.1) L t/\bT (aH zs L.2.1) L t<=bT (aH zs L.2.1) L a+(((b-a)/3600+8).toNat:Int):=λt h1 h2 _=>by
 have e1:=JY hs hL (t:=a) (u:=t) ha h1 (by omega);have e2:=jDu hs hL (t:=a) (u:=t) ha h1 (by omega);omega
theorem RN{L:bI}(hL:eD zs.length ps.length cs.length L){t:Int}(h0:0<=t)(h1:t<=8589934592) : -1<=bT (aH zs L.2.1) L t:=by
 have hz:=gv hs.so.ok hL.z0 hL.z1;have a':kB (aH zs L.2.1).2.1 (tb (aH zs L.2.1)).2 L t (bT (aH zs L.2.1) L t):=(rj hz hL.rt2 (t:=t) h0 h1).2;rcases a' with⟨h,_⟩|⟨h,_⟩<;>omega
theorem jB6{L:bI}(hL:eD zs.length ps.length cs.length L){ss:List cF}{a b:Int}(ha:0<=a)(bG:a<=b)(hb:b<=8589934592)(hlen:b-a<=1209600) :
  ∃out,j1t ((zs,(ps,(cs,ss))),zs.map tb) L a b=some out/\dW (bO zs cs L) b none a out/\out.length<=5000:=by
 obtain⟨out,e,h1,h2⟩:=RK hs hL (ss:=ss) ha bG hb (M:=2) (by omega) (by omega) (N:=((b-a)/3600+8).toNat) (by omega) (RN hs hL ha (by omega)) (RM hs hL ha hb);refine⟨out,e,h1,?_⟩;have hw:L.2.2.2.2.2.2.1.length*(2+1)*5<=14*3*5:=jw _ (jw _ hL.wl)
 have hc:(if L.2.2.2.2.2.2.2.2=0 then 0 else (fv cs L.2.2.2.2.2.2.2.1).2.2.length*5)<=64*5:=by
  by_cases hm:L.2.2.2.2.2.2.2.2=0
  .rw[if_pos hm];omega
  .rw[if_neg hm];exact jw _ (oA hs (hL.cal hm).1 (hL.cal hm).2).len
 omega
theorem jvt{L:bI}(hL:eD zs.length ps.length cs.length L){ss:List cF}{a b:Int}(ha:0<=a)(bG:a<=b)(hb:b<=8589934592)(hlen:b-a<=35078400) :
  ∃out,j1t ((zs,(ps,(cs,ss))),zs.map tb) L a b=some out/\dW (bO zs cs L) b none a out/\out.length<=30000:=by
 obtain⟨out,e,h1,h2⟩:=RK hs hL (ss:=ss) ha bG hb (M:=58) (by omega) (by omega) (N:=((b-a)/3600+8).toNat) (by omega) (RN hs hL ha (by omega)) (RM hs hL ha hb);refine⟨out,e,h1,?_⟩;have hw:L.2.2.2.2.2.2.1.length*(58+1)*5<=14*59*5:=jw _ (jw _ hL.wl)
 have hc:(if L.2.2.2.2.2.2.2.2=0 then 0 else (fv cs L.2.2.2.2.2.2.2.1).2.2.length*5)<=64*5:=by
  by_cases hm:L.2.2.2.2.2.2.2.2=0
  .rw[if_pos hm];omega
  .rw[if_neg hm];exact jw _ (oA hs (hL.cal hm).1 (hL.cal hm).2).len
 omega
section
variable{ss:List cF}(g0:ss.length<=12)(g1:fq (ss.map (·.1)))(g2:∀s∈ss,pV zs.length ps.length cs.length s)
 {L:bI}(hL:eD zs.length ps.length cs.length L)(hn:j5l L.1=some true)
include g0 g1 g2 hL hn
end
end
end Go.Proofs.Pw
