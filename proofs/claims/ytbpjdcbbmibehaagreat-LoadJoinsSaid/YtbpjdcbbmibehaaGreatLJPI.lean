/- px.Merge, px.View.Segments: Xh is on px in a range. -/
import Derived.Test.YtbpjdcbbmibehaaGreatLJPH
import Derived.Test.YtbpjdcbbmibehaaGreatLJPG
import Derived.Test.YtbpjdcbbmibehaaGreatLJPD
import Derived.KernelRfl
open Go Go.Lft
namespace Go.Proofs.Pw
theorem jvP(l:bF)(x y:jP):(l++[x]).set l.length y=l++[y]:=by
 rw[vg _ _ (jo _)];simp
theorem XS(out:bF)(s:jP):(mP out s).length<=out.length+1:=by
 unfold mP;split
 .omega
 .rcases List.eq_nil_or_concat out with rfl|⟨l,u,rfl⟩
  .simp
  .rw[List.concat_eq_append,List.getLast?_append];simp only[yb,Option.some_or];split
   .simp
   .simp
theorem XU:∀(l out:bF),(l.foldl mP out).length<=out.length+l.length
 |[],out=>by simp
 |s::r,out=>by
  have:=XU r (mP out s);have:=XS out s;simp only[List.foldl_cons,jl];omega
theorem XV{l:bF}(hl:l.length<=1000000000):∀(n i:Nat)(out:bF),i+n=l.length->out.length<=i->Bf l (l.length:Int) (i:Int) out=some ((l.drop i).foldl mP out)
 |0,i,out,hi,ho=>by
  rw[U3];simp only[j4t];rw[ao (by omega),j6,aY,jd (by omega)];rfl
 |n+1,i,out,hi,ho=>by
  have bQ:i<l.length:=by omega
  have bk:l.getD i ((0:Int),((0:Int),(0:Int)))=l[i]:=by simp[List.getD,bQ]
  have ih:∀uI:bF,uI=mP out l[i]->Bf l (l.length:Int) ((i:Int)+1) uI=some ((l.drop i).foldl mP out):=λuI he=>by
   rw[jb bQ,List.foldl_cons,<-he];have:=XS out l[i];exact XV hl n (i+1) uI (by omega) (by rw[he];omega)
  rw[U3];simp only[j4t];rw[ag (by omega),ba (by omega) (by omega)];simp only[j5,j7,bk,show Int.ofNat out.length=(out.length:Int) from rfl];rw[aj (x:=(i:Int)+1) (by omega) (by omega)];generalize l[i]=s at *;by_cases hs:s.2.1<=s.1
  .rw[ag hs,j5,aP];exact ih _ (by unfold mP;rw[if_pos hs])
  .rw[ao hs,j6];rcases List.eq_nil_or_concat out with rfl|⟨o,u,rfl⟩
   .simp only[qq];rw[ao (show¬((0:Nat):Int)>0 by omega),j6,ag (show 0+[(s.1,(s.2.1,s.2.2))].length<=aQ by simp[aQ]),j5,aP];exact ih _ (by unfold mP;rw[if_neg hs];rfl)
   .rw[List.concat_eq_append]at ih ho ⊢;have xQ:(o++[u]).length=o.length+1:=by simp
    rw[xQ]at ho;have ej:(o++[u]).getD o.length ((0:Int),((0:Int),(0:Int)))=u:=by simp[List.getD]
    rw[xQ,ag (show ((o.length+1:Nat):Int)>0 by omega),j5,aj (x:=((o.length+1:Nat):Int)-1) (by omega) (by omega),show ((o.length+1:Nat):Int)-1=(o.length:Int) by omega,ba (by omega) (by omega)];simp only[j5,j7,ej];have PT:mP (o++[u]) s=if u.2.1=s.1/\u.2.2=s.2.2 then o++[(u.1,(s.2.1,u.2.2))] else (o++[u])++[s]:=by unfold mP;rw[if_neg hs,List.getLast?_append];simp only[yb,Option.some_or,List.dropLast_concat]
    by_cases h1:u.2.1=s.1
    .rw[ff h1,j5];by_cases h2:u.2.2=s.2.2
     .rw[ff h2,j5,aP,jvP];exact ih _ (by rw[PT,if_pos ⟨h1,h2⟩])
     .rw[cP h2,j6,ag (show o.length+1+[(s.1,(s.2.1,s.2.2))].length<=aQ by simp[aQ];omega),j5,aP];exact ih _ (by rw[PT,if_neg (λh=>h2 h.2)])
    .rw[cP h1,j6,ag (show o.length+1+[(s.1,(s.2.1,s.2.2))].length<=aQ by simp[aQ];omega),j5,aP];exact ih _ (by rw[PT,if_neg (λh=>h1 h.1)])
theorem juj{l:bF}(hl:l.length<=1000000000):j8P l=some (l.foldl mP []):=by
 simp only[j8P,show Int.ofNat l.length=(l.length:Int) from rfl];rw[show Bf l (l.length:Int) 0 []=_ from XV hl l.length 0 [] (by omega) (by simp)];rfl
theorem IB{f:Int->Int}{a b:Int}{l:bF}(hl:l.length<=1000000000)(h:Ch f b a l):∃out,j8P l=some out/\eV f b none a out/\out.length<=l.length:=
 ⟨_,juj hl,h.cov,by have:=XU l [];simpa using this⟩
section
variable{zs:List bP}{ps:List dm}{cs:List aO}(hs:cQ zs ps cs)
include hs
theorem IC{L:cb}(hL:fR zs.length ps.length cs.length L){t u:Int}(h0:0<=t)(zF:t<=u)(h1:u<=8589934592):cd (aL zs L.2.1) L t<=cd (aL zs L.2.1) L u:=by
 have hz:=mn hs.so.ok hL.z0 hL.z1;have a:=(uH hz hL.rt2 (t:=t) h0 (by omega)).2;have b:=(uH hz hL.rt2 (t:=u) (by omega) h1).2;show cd (aL zs L.2.1) L t<=cd (aL zs L.2.1) L u;have a':mm (aL zs L.2.1).2.1 (tb (aL zs L.2.1)).2 L t (cd (aL zs L.2.1) L t):=a;have b':mm (aL zs L.2.1).2.1 (tb (aL zs L.2.1)).2 L u (cd (aL zs L.2.1) L u):=b;generalize cd (aL zs L.2.1) L t=K at *;generalize cd (aL zs L.2.1) L u=K' at *;rcases a' with⟨a1,a2⟩|⟨a1,⟨v,hv,sE⟩,a3⟩<;>rcases b' with⟨b1,b2⟩|⟨b1,b2,b3⟩
 .omega
 .omega
 .exact absurd (QO.le hz.ztab.2 hL.rt2 a1 ⟨v,hv,by omega⟩) b2
 .apply jp;intro hn;exact b3 (QO.le hz.ztab.2 hL.rt2 (show K'+1<=K by omega) ⟨v,hv,by omega⟩)
def Bz(z:bP)(L:cb)(k nx t:Int):Prop:=t<nx->(∀u,t<=u->u<nx->u<=8589934592->cd z L u=k)/\(nx<=8589934592->k<cd z L nx)
theorem jxK{L:cb}(hL:fR zs.length ps.length cs.length L){t:Int}(h0:0<=t)(h1:t<=8589934592)(hk:0<=cd (aL zs L.2.1) L t){v:Int}{ok:Bool}
  (hv:j0H (tb (aL zs L.2.1)) L (cd (aL zs L.2.1) L t+1)=some (v,ok)):t<(cond ok v 8589934593)/\Bz (aL zs L.2.1) L (cd (aL zs L.2.1) L t) (cond ok v 8589934593) t:=by
 have hz:=mn hs.so.ok hL.z0 hL.z1;have a:=(uH hz hL.rt2 (t:=t) h0 h1).2;have a':mm (aL zs L.2.1).2.1 (tb (aL zs L.2.1)).2 L t (cd (aL zs L.2.1) L t):=a;have hu:∀u,t<=u->u<=8589934592->mm (aL zs L.2.1).2.1 (tb (aL zs L.2.1)).2 L u (cd (aL zs L.2.1) L u):=λu _ h2=>(uH hz hL.rt2 (t:=u) (by omega) h2).2;generalize hK:cd (aL zs L.2.1) L t=K at *;rcases a' with⟨a1,a2⟩|⟨a1,⟨w,hw,hwt⟩,a3⟩
 .omega
 .have oW:=Fh hz.ztab.2 hL.rt2 a1 hw;obtain⟨v',ev,gx⟩:=pw hz.ztab.2 hL.rt2 (k:=K+1) (by omega) (by omega);have:=ev.symm.trans hv;simp only[j4,j8]at this;obtain⟨rfl,rfl⟩:=this;cases hh:hO (zs.getD L.2.1.toNat (ByteArray.empty,((0:Int),([]:List aT)))).2.1 (tb (zs.getD L.2.1.toNat (ByteArray.empty,((0:Int),([]:List aT))))).2 L (K+1) with
  |none=>
   simp only[yh,j6]
   exact⟨by omega,λ_=>⟨λu h2 h3 h4=>mm.uniq hz.ztab.2 hL.rt2 (hu u h2 h4) (.inr ⟨a1,⟨w,hw,by omega⟩,λ⟨x,hx,_⟩=>by
    have mD:=hh.symm.trans hx;simp at mD⟩),λh=>by omega⟩⟩
  |some x=>
   have:=gx x hh;subst this;simp only[ve,j5]
   refine⟨?_,λ_=>⟨λu h2 h3 h4=>mm.uniq hz.ztab.2 hL.rt2 (hu u h2 h4) (.inr ⟨a1,⟨w,hw,by omega⟩,λ⟨x,hx,il⟩=>by
    have mD:=hh.symm.trans hx;simp only[j4]at mD;omega⟩),λhle=>?_⟩⟩
   rotate_left
   .have PU:v'<=8589934592:=hle;have AB:t<=v':=by apply jp;intro hn;exact a3 ⟨_,hh,by omega⟩
    have b':=hu v' AB PU;rcases b' with⟨b1,b2⟩|⟨b1,b2,b3⟩
    .exact absurd (QO.le hz.ztab.2 hL.rt2 (show (0:Int)<=K+1 by omega) ⟨_,hh,ke _⟩) b2
    .apply jp;intro hn;exact b3 (QO.le hz.ztab.2 hL.rt2 (show cd (aL zs L.2.1) L v'+1<=K+1 by omega) ⟨_,hh,ke _⟩)
   apply jp;intro hn;exact a3 ⟨_,hh,by omega⟩
theorem jz6{L:cb}(hL:fR zs.length ps.length cs.length L){k:Int}(hk:0<=k):∃_:(Int.tmod k (L.2.2.2.2.2.1.length:Int)).toNat<L.2.2.2.2.2.1.length,0<=Int.tmod k (L.2.2.2.2.2.1.length:Int)/\Int.tmod k (L.2.2.2.2.2.1.length:Int)<(L.2.2.2.2.2.1.length:Int)/\L.2.2.2.2.2.1.getD (Int.tmod k (L.2.2.2.2.2.1.length:Int)).toNat 0=r9 L k:=by
 have _:=hs;have yV:=hL.m0;have q1:0<=Int.tmod k (L.2.2.2.2.2.1.length:Int):=Int.tmod_nonneg _ hk;have q2:Int.tmod k (L.2.2.2.2.2.1.length:Int)<(L.2.2.2.2.2.1.length:Int):=Int.tmod_lt_of_pos _ (by omega);exact⟨by omega,q1,q2,rfl⟩
theorem XW{L:cb}(hL:fR zs.length ps.length cs.length L){a b e p m j:Int}{sp:SL}(ha:0<=a)(he:e<=8589934592){B:Int}(hB:B<=1000000):∀(n:Nat)(t k nx:Int)(acc:bF),e-t=n->a<=t->
  (∀u,t<=u->u<e->iq zs cs L u=true)->Bz (aL zs L.2.1) L k nx t->Ch (du zs cs L) t a acc->(t<e->(acc.length:Int)<=B+cd (aL zs L.2.1) L t)->
  (t=e->a<e->(acc.length:Int)<=B+1+cd (aL zs L.2.1) L (e-1))->
  ∃k' lh bG,Ea b t k nx m j L.1 L.2.1 L.2.2.1.1 L.2.2.1.2 L.2.2.2.1 L.2.2.2.2.1 L.2.2.2.2.2.1 L.2.2.2.2.2.2.1 L.2.2.2.2.2.2.2.1 L.2.2.2.2.2.2.2.2 (tb (aL zs L.2.1)).1 (tb (aL zs L.2.1)).2 p e acc sp=
   some (b,e,k',lh,m,j,L.1,L.2.1,L.2.2.1.1,L.2.2.1.2,L.2.2.2.1,L.2.2.2.2.1,L.2.2.2.2.2.1,L.2.2.2.2.2.2.1,L.2.2.2.2.2.2.2.1,L.2.2.2.2.2.2.2.2,(tb (aL zs L.2.1)).1,(tb (aL zs L.2.1)).2,bG,sp)/\
   Bz (aL zs L.2.1) L k' lh e/\Ch (du zs cs L) e a bG/\(a<e->(bG.length:Int)<=B+1+cd (aL zs L.2.1) L (e-1))
 |n,t,k,nx,acc,hn,oW,sQ,hc,mq,hl,sq=>by
  have hz:=mn hs.so.ok hL.z0 hL.z1;rw[jcc];simp only[j2I];by_cases cA:t<e
  .rw[ag cA,j5];have PV:=sQ t (ke _) cA;obtain⟨eK,hK⟩:j3H (tb (aL zs L.2.1)) L t=some (cd (aL zs L.2.1) L t)/\mm (aL zs L.2.1).2.1 (tb (aL zs L.2.1)).2 L t (cd (aL zs L.2.1) L t):=uH hz hL.rt2 (t:=t) (by omega) (by omega);have pR:0<=cd (aL zs L.2.1) L t:=PN PV
   have rm:cd (aL zs L.2.1) L t<=2386092:=by
    have hK':mm (aL zs L.2.1).2.1 (tb (aL zs L.2.1)).2 L t (cd (aL zs L.2.1) L t):=hK;rcases hK' with⟨h1,_⟩|⟨h1,⟨w,hw,_⟩,_⟩
    .omega
    .exact(Fh hz.ztab.2 hL.rt2 h1 hw).2.2
   obtain⟨_,q1,q2,q3⟩:=jz6 hs hL pR;have yV:=hL.m0;have ak:=hl cA
   have step:∀lh:Int,t<lh->Bz (aL zs L.2.1) L (cd (aL zs L.2.1) L t) lh t->∀bG:bF,bG=acc++[(t,((if lh<e then lh else e),r9 L (cd (aL zs L.2.1) L t)))]->
     ∃XX Fv sd,Ea b (if lh<e then lh else e) (cd (aL zs L.2.1) L t) lh m j L.1 L.2.1 L.2.2.1.1 L.2.2.1.2 L.2.2.2.1 L.2.2.2.2.1 L.2.2.2.2.2.1 L.2.2.2.2.2.2.1 L.2.2.2.2.2.2.2.1 L.2.2.2.2.2.2.2.2 (tb (aL zs L.2.1)).1 (tb (aL zs L.2.1)).2 p e bG sp=
      some (b,e,XX,Fv,m,j,L.1,L.2.1,L.2.2.1.1,L.2.2.1.2,L.2.2.2.1,L.2.2.2.2.1,L.2.2.2.2.2.1,L.2.2.2.2.2.2.1,L.2.2.2.2.2.2.2.1,L.2.2.2.2.2.2.2.2,(tb (aL zs L.2.1)).1,(tb (aL zs L.2.1)).2,sd,sp)/\
      Bz (aL zs L.2.1) L XX Fv e/\Ch (du zs cs L) e a sd/\(a<e->(sd.length:Int)<=B+1+cd (aL zs L.2.1) L (e-1)):=by
    rintro lh uf cI _ rfl
    obtain⟨t',sv,h1,h2,h3,h4⟩:∃t':Int,t'=(if lh<e then lh else e)/\t<t'/\t'<=e/\t'<=lh/\(t'<e->t'=lh):=⟨_,rfl,by split<;>omega,by split<;>omega,by split<;>omega,λh=>by
     by_cases hx:lh<e
     .rw[if_pos hx]
     .rw[if_neg hx]at h;omega⟩
    rw[<-sv]
    refine XW hL ha he hB (e-t').toNat t' (cd (aL zs L.2.1) L t) lh _ (by omega) (by omega) (λu u1 u2=>sQ u (by omega) u2) (λh5=>⟨λu u1 u2 u3=>(cI uf).1 u (by omega) u2 u3,(cI uf).2⟩)
     (mq.snoc (by omega) (λu u1 u2=>?_)) (λfX=>?_) (λheq _=>?_)
    .unfold du;rw[sQ u u1 (by omega),(cI uf).1 u u1 (by omega) (by omega)];rfl
    .have hm:=IC hs hL (t:=t) (u:=t') (by omega) (by omega) (by omega);have aN:cd (aL zs L.2.1) L t<cd (aL zs L.2.1) L t':=by have:=h4 fX;subst this;exact(cI uf).2 (by omega)
     simp only[jf,kn];omega
    .have hm:=IC hs hL (t:=t) (u:=e-1) (by omega) (by omega) (by omega);simp only[jf,kn];omega
   by_cases XY:t>=nx
   .rw[ag XY,j5];rw[show j3H ((tb (aL zs L.2.1)).1,(tb (aL zs L.2.1)).2) (L.1,L.2.1,(L.2.2.1.1,L.2.2.1.2),L.2.2.2.1,L.2.2.2.2.1,L.2.2.2.2.2.1,L.2.2.2.2.2.2.1,L.2.2.2.2.2.2.2.1,L.2.2.2.2.2.2.2.2) t=_ from eK];simp only[j3];rw[aj (x:=cd (aL zs L.2.1) L t+1) (by omega) (by omega)];obtain⟨v,ev,_⟩:=pw hz.ztab.2 hL.rt2 (k:=cd (aL zs L.2.1) L t+1) (by omega) (by omega);have fY:=jxK hs hL (t:=t) (by omega) (by omega) pR ev;rw[show j0H ((tb (aL zs L.2.1)).1,(tb (aL zs L.2.1)).2) (L.1,L.2.1,(L.2.2.1.1,L.2.2.1.2),L.2.2.2.1,L.2.2.2.2.1,L.2.2.2.2.2.1,L.2.2.2.2.2.2.1,L.2.2.2.2.2.2.2.1,L.2.2.2.2.2.2.2.2) (cd (aL zs L.2.1) L t+1)=_ from ev];simp only[j3,show Int.ofNat L.2.2.2.2.2.1.length=(L.2.2.2.2.2.1.length:Int) from rfl];rw[cP (show¬(L.2.2.2.2.2.1.length:Int)=0 by omega),ba q1 q2];have bH:∀x:jP,acc.length+[x].length<=aQ:=λx=>by simp[aQ];omega
    revert fY
    generalize (hO (zs.getD L.2.1.toNat (ByteArray.empty,((0:Int),([]:List aT)))).2.1 (tb (zs.getD L.2.1.toNat (ByteArray.empty,((0:Int),([]:List aT))))).2 L (cd (aL zs L.2.1) L t+1)).isSome=ok
    cases ok with
    |false=>intro fY;simp only[kf,j5];rw[ag (bH _),j5,aP];exact step 8589934593 fY.1 fY.2 _ (by rw[q3])
    |true=>intro fY;simp only[jw,kf,j6,j5];rw[ag (bH _),j5,aP];exact step v fY.1 fY.2 _ (by rw[q3])
   .have hk:=(hc (by omega)).1 t (ke _) (by omega) (by omega);subst hk;rw[ao XY,j6];simp only[show Int.ofNat L.2.2.2.2.2.1.length=(L.2.2.2.2.2.1.length:Int) from rfl];rw[cP (show¬(L.2.2.2.2.2.1.length:Int)=0 by omega),ba q1 q2];simp only[kf,j5];rw[ag (show acc.length+[_].length<=aQ by simp[aQ];omega),j5,aP];exact step nx (by omega) hc _ (by rw[q3])
  .have PW:t=e:=by omega
   subst PW;rw[ao cA,j6,aY];exact⟨k,nx,acc,rfl,hc,mq,sq rfl⟩
 termination_by n=>n
theorem XZ{L:cb}(hL:fR zs.length ps.length cs.length L){a b:Int}(ha:0<=a)(hb:b<=8589934592){A:SL}(hA:A.length<=400000)(kC:∀t,bI t A↔a<=t/\t<b/\iq zs cs L t=true)
  {k0:Int}{N:Nat}(hN:N<=4000000)(pR : -1<=k0)(Bt:∀t,a<=t->t<b->iq zs cs L t=true->k0<=cd (aL zs L.2.1) L t/\cd (aL zs L.2.1) L t<=k0+N) :
  ∀(n j:Nat)(t k nx Kc:Int)(acc:bF),j+n=A.length->a<=t->t<=b->bX (t-1) (A.drop j)->(∀u,t<=u->(bI u A↔bI u (A.drop j)))->Bz (aL zs L.2.1) L k nx t->Ch (du zs cs L) t a acc->
   k0<=Kc->Kc<=k0+N->(∀u,t<=u->bI u A->Kc<=cd (aL zs L.2.1) L u)->(acc.length:Int)<=2*j+(Kc-k0)->
  ∃t' bG,Eb b t k nx (A.length:Int) (j:Int) L.1 L.2.1 L.2.2.1.1 L.2.2.1.2 L.2.2.2.1 L.2.2.2.2.1 L.2.2.2.2.2.1 L.2.2.2.2.2.2.1 L.2.2.2.2.2.2.2.1 L.2.2.2.2.2.2.2.2 (tb (aL zs L.2.1)).1 (tb (aL zs L.2.1)).2 acc A=some (b,t',bG)/\
   Ch (du zs cs L) b a (bG++[(t',(b, -1))])/\bG.length<=2*A.length+N
 |0,j,t,k,nx,Kc,acc,hj,oW,X0,au,gO,hc,mq,hK1,hK2,X1,hl=>by
  rw[U4];simp only[j1N];rw[ao (by omega),j6,aY];refine⟨t,acc,rfl,mq.snoc X0 (λu u1 u2=>?_),by omega⟩
  have:iq zs cs L u=false:=by
   cases ho:iq zs cs L u with
   |false=>rfl
   |true=>have:=(gO u u1).1 ((kC u).2 ⟨by omega,u2,ho⟩);rw[jd (by omega)]at this;exact absurd this im
  unfold du;rw[this];rfl
 |n+1,j,t,k,nx,Kc,acc,hj,oW,X0,au,gO,hc,mq,hK1,hK2,X1,hl=>by
  have h9:j<A.length:=by omega
  have bk:A.getD j ((0:Int),(0:Int))=A[j]:=by simp[List.getD,h9]
  rw[jb h9]at au gO;obtain⟨s1,s2,s3⟩:=au;have sQ:∀u,A[j].1<=u->u<A[j].2->bI u A:=λu u1 u2=>(gO u (by omega)).2 (fA.2 (.inl ⟨u1,u2⟩));have si:=(kC A[j].1).1 (sQ _ (ke _) s2);have xd:=(kC (A[j].2-1)).1 (sQ _ (by omega) (by omega));have hKj:=X1 A[j].1 (by omega) (sQ _ (ke _) s2);rw[U4];simp only[j1N];rw[ag (show (j:Int)<(A.length:Int) by omega),ba (by omega) (by omega)];simp only[j5,j7,bk];rw[ag (show acc.length+[_].length<=aQ by simp[aQ];omega),j5]
  obtain⟨k',lh,bG,e2,c2,h2,l2⟩:=XW hs hL (a:=a) (b:=b) (e:=A[j].2) (p:=A[j].1) (m:=(A.length:Int)) (j:=(j:Int)) (sp:=A) ha (by omega) (B:=2*j+1-k0) (by omega) (A[j].2-A[j].1).toNat A[j].1 k nx
   (acc++[(t,(A[j].1, -1))]) (by omega) (by omega) (λu u1 u2=>((kC u).1 (sQ u u1 u2)).2.2) (λh5=>by
    have h6:=hc (by omega);exact⟨λu u1 u2 u3=>h6.1 u (by omega) u2 u3,h6.2⟩) (mq.snoc (by omega) (λu u1 u2=>by
    have:iq zs cs L u=false:=by
     cases ho:iq zs cs L u with
     |false=>rfl
     |true=>
      have:=(gO u u1).1 ((kC u).2 ⟨by omega,by omega,ho⟩);rcases fA.1 this with h|h
      .omega
      .have:=bX.low s3 h;omega
    unfold du;rw[this];rfl)) (λ_=>by rw[jf,kn];omega) (λh=>by omega)
  rw[e2];simp only[j3];rw[aj (x:=(j:Int)+1) (by omega) (by omega),aP];have sq:=l2 (by omega);have hr:=Bt (A[j].2-1) (by omega) (by omega) xd.2.2
  exact XZ hL ha hb hA kC hN pR Bt n (j+1) A[j].2 k' lh (cd (aL zs L.2.1) L (A[j].2-1)) bG (by omega) (by omega) (by omega) (s3.weak (by omega)) (λu hu=>by
   rw[gO u (by omega),fA]
   exact⟨λh=>by
    rcases h with h|h
    .omega
    .exact h,.inr⟩) c2 h2 hr.1 hr.2 (λu hu PX=>by
   have:=(kC u).1 PX;exact IC hs hL (by omega) (by omega) (by omega)) (by omega)
theorem X2{L:cb}(hL:fR zs.length ps.length cs.length L){ss:List dD}{a b:Int}(ha:0<=a)(dj:a<=b)(hb:b<=8589934592){M:Nat}(hM:M<=60)(hlen:b-a<=604800*M)
  {k0:Int}{N:Nat}(hN:N<=4000000)(pR : -1<=k0)(Bt:∀t,a<=t->t<b->iq zs cs L t=true->k0<=cd (aL zs L.2.1) L t/\cd (aL zs L.2.1) L t<=k0+N) :
  ∃out,j1S ((zs,(ps,(cs,ss))),zs.map tb) L a b=some out/\eV (du zs cs L) b none a out/\
   out.length<=2*(L.2.2.2.2.2.2.1.length*(M+1)*5+1+(if L.2.2.2.2.2.2.2.2=0 then 0 else (oD cs L.2.2.2.2.2.2.2.1).2.2.length*5))+N+1:=by
 have jU:(zs.map tb).length=zs.length:=ka ..;have hg:=Px (zs:=zs) hL.z0 hL.z1;obtain⟨A,e1,s1,s2,s3⟩:=jug hs hL (ss:=ss) ha dj hb hM hlen
 have hAl:A.length<=400000:=by
  have h1:L.2.2.2.2.2.2.1.length*(M+1)<=14*61:=qu hL.wl (by omega);by_cases hm:L.2.2.2.2.2.2.2.2=0
  .rw[if_pos hm]at s3;omega
  .rw[if_neg hm]at s3;have hx:=(uG hs (hL.cal hm).1 (hL.cal hm).2).len;have h64:(oD cs L.2.2.2.2.2.2.2.1).2.2.length<=64:=hx;omega
 obtain⟨t',acc,e2,h2,l2⟩:=XZ hs hL ha hb hAl s2 hN pR Bt A.length 0 a (-1) (-1) k0 [] (by omega) (ke _) dj s1 (λu _=>by simp) (λh=>by omega) rfl (ke _) (by omega) (λu hu PX=>by
  have:=(s2 u).1 PX;exact(Bt u this.1 this.2.1 this.2.2).1) (by simp)
 obtain⟨out,e3,h3,l3⟩:=IB (l:=acc++[(t',(b, -1))]) (by rw[jf,kn];omega) h2;refine⟨out,?_,h3,by rw[jf,kn]at l3;omega⟩;simp only[j1S];rw[ba hL.z0 (by rw[jU];exact hL.z1)];simp only[j5,hg];rw[show j6f ((zs,(ps,(cs,ss))),zs.map tb) (L.1,L.2.1,(L.2.2.1.1,L.2.2.1.2),L.2.2.2.1,L.2.2.2.2.1,L.2.2.2.2.2.1,L.2.2.2.2.2.2.1,L.2.2.2.2.2.2.2.1,L.2.2.2.2.2.2.2.2) a b=_ from e1];simp only[j3,show Int.ofNat A.length=(A.length:Int) from rfl];rw[show Eb b a (-1) (-1) (A.length:Int) 0 L.1 L.2.1 L.2.2.1.1 L.2.2.1.2 L.2.2.2.1 L.2.2.2.2.1 L.2.2.2.2.2.1 L.2.2.2.2.2.2.1 L.2.2.2.2.2.2.2.1 L.2.2.2.2.2.2.2.2 (tb (zs.getD L.2.1.toNat (ByteArray.empty,((0:Int),([]:List aT))))).1 (tb (zs.getD L.2.1.toNat (ByteArray.empty,((0:Int),([]:List aT))))).2 [] A=_ from e2];simp only[j3];rw[ag (show acc.length+[_].length<=aQ by simp[aQ];omega),j5,e3];rfl
end
section
variable{zs:List bP}{ps:List dm}{cs:List aO}(hs:cQ zs ps cs)
include hs
omit hs in
theorem mN.near{o:Int}{l:bA}(h:gU o l){s t:Int}{k:Nat}(f:mN o l s t k)(hs:0<=s):s-64800<=t/\t<=s+64800:=by
 obtain⟨p1,p2,p3⟩:=f.piece h;have hk:=f.hk;have o1:=h.of1 k hk;have o0:=h.of0 k hk;have ht:=f.ht;refine⟨by omega,?_⟩;by_cases h0:k=0
 .subst h0;have e0:bh l 0=0:=rY;omega
 .obtain⟨j,rfl⟩:∃j,k=j+1:=⟨k-1,by omega⟩;have b:=f.bef j (by omega);have o2:=h.of0 j (by omega);omega
theorem jxL{L:cb}(hL:fR zs.length ps.length cs.length L){t u:Int}(h0:0<=t)(zF:t<=u)(h1:u<=8589934592):cd (aL zs L.2.1) L u<=cd (aL zs L.2.1) L t+(u-t)/3600+8:=by
 have hz:=mn hs.so.ok hL.z0 hL.z1;have au:=hL.rt2.step;have wy:=hL.rt2.e0;have ng:=hL.c0;have hd:=hL.d0;have a':mm (aL zs L.2.1).2.1 (tb (aL zs L.2.1)).2 L t (cd (aL zs L.2.1) L t):=(uH hz hL.rt2 (t:=t) h0 (by omega)).2;have b':mm (aL zs L.2.1).2.1 (tb (aL zs L.2.1)).2 L u (cd (aL zs L.2.1) L u):=(uH hz hL.rt2 (t:=u) (by omega) h1).2;generalize cd (aL zs L.2.1) L t=K at *;generalize cd (aL zs L.2.1) L u=K' at *;have hK : -1<=K:=by rcases a' with⟨h,_⟩|⟨h,_⟩<;>omega
 have hn:¬QO (aL zs L.2.1).2.1 (tb (aL zs L.2.1)).2 L t (K+1):=by
  rcases a' with⟨h,h2⟩|⟨_,_,h2⟩
  .rw[h];exact h2
  .exact h2
 by_cases hKK:K'<=K+1
 .omega
 .rcases b' with⟨h,_⟩|⟨hK0,⟨v,hv,hvu⟩,_⟩
  .omega
  .obtain⟨w,hw,hwu⟩:QO (aL zs L.2.1).2.1 (tb (aL zs L.2.1)).2 L u (K+1):=QO.le hz.ztab.2 hL.rt2 (show K+1<=K' by omega) ⟨v,hv,hvu⟩;have hwt:t<w:=by apply jp;intro hx;exact hn ⟨w,hw,by omega⟩
   have hm:3600*(K'-(K+1))<=3600*L.2.2.2.2.1*(K'-(K+1)):=v6 (by omega) (by omega);by_cases hu:L.2.2.2.1=0
   .unfold hO at hv hw;rw[if_pos hu]at hv hw;cases hf:fO (aL zs L.2.1).2.1 (tb (aL zs L.2.1)).2 (eJ L 0) with
    |none=>rw[hf]at hv;simp at hv
    |some x=>
     rw[hf]at hv hw;simp only[j3]at hv hw;split at hv
     .split at hw
      .simp only[j4]at hv hw;have e:3600*L.2.2.2.2.1*(K'-(K+1))=3600*L.2.2.2.2.1*K'-3600*L.2.2.2.2.1*(K+1):=Int.mul_sub ..;omega
      .simp at hw
     .simp at hv
   .unfold hO at hv hw;rw[if_neg hu]at hv hw;obtain⟨k1,f1⟩:=Iv hv;obtain⟨k2,f2⟩:=Iv hw;have e:(K'-(K+1))*fE L=K'*fE L-(K+1)*fE L:=Int.sub_mul ..;have gI:(K'-(K+1))*1<=(K'-(K+1))*fE L:=Int.mul_le_mul_of_nonneg_left au.1 (by omega);have hm3:0<=(K+1)*fE L:=Int.mul_nonneg (by omega) (by omega);have g1:=f1.near hz.ztab.2 (by unfold eJ;omega);have g2:=f2.near hz.ztab.2 (by unfold eJ;omega);unfold eJ at g1 g2;omega
theorem X3{L:cb}(hL:fR zs.length ps.length cs.length L){a b:Int}(ha:0<=a)(hb:b<=8589934592):∀t,a<=t->t<b->iq zs cs L t=true->cd (aL zs L.2.1) L a<=cd (aL zs L.2.1) L t/\cd (aL zs L.2.1) L t<=cd (aL zs L.2.1) L a+(((b-a)/3600+8).toNat:Int):=λt h1 h2 _=>by
 have e1:=IC hs hL (t:=a) (u:=t) ha h1 (by omega);have e2:=jxL hs hL (t:=a) (u:=t) ha h1 (by omega);omega
theorem X4{L:cb}(hL:fR zs.length ps.length cs.length L){t:Int}(h0:0<=t)(h1:t<=8589934592) : -1<=cd (aL zs L.2.1) L t:=by
 have hz:=mn hs.so.ok hL.z0 hL.z1;have a':mm (aL zs L.2.1).2.1 (tb (aL zs L.2.1)).2 L t (cd (aL zs L.2.1) L t):=(uH hz hL.rt2 (t:=t) h0 h1).2;rcases a' with⟨h,_⟩|⟨h,_⟩<;>omega
theorem jvQ{L:cb}(hL:fR zs.length ps.length cs.length L){ss:List dD}{a b:Int}(ha:0<=a)(dj:a<=b)(hb:b<=8589934592)(hlen:b-a<=1209600) :
  ∃out,j1S ((zs,(ps,(cs,ss))),zs.map tb) L a b=some out/\eV (du zs cs L) b none a out/\out.length<=5000:=by
 obtain⟨out,e,h1,h2⟩:=X2 hs hL (ss:=ss) ha dj hb (M:=2) (by omega) (by omega) (N:=((b-a)/3600+8).toNat) (by omega) (X4 hs hL ha (by omega)) (X3 hs hL ha hb);refine⟨out,e,h1,?_⟩;have hw:L.2.2.2.2.2.2.1.length*(2+1)*5<=14*3*5:=jv _ (jv _ hL.wl)
 have hc:(if L.2.2.2.2.2.2.2.2=0 then 0 else (oD cs L.2.2.2.2.2.2.2.1).2.2.length*5)<=64*5:=by
  by_cases hm:L.2.2.2.2.2.2.2.2=0
  .rw[if_pos hm];omega
  .rw[if_neg hm];exact jv _ (uG hs (hL.cal hm).1 (hL.cal hm).2).len
 omega
theorem X5{L:cb}(hL:fR zs.length ps.length cs.length L){ss:List dD}{a b:Int}(ha:0<=a)(dj:a<=b)(hb:b<=8589934592)(hlen:b-a<=35078400) :
  ∃out,j1S ((zs,(ps,(cs,ss))),zs.map tb) L a b=some out/\eV (du zs cs L) b none a out/\out.length<=30000:=by
 obtain⟨out,e,h1,h2⟩:=X2 hs hL (ss:=ss) ha dj hb (M:=58) (by omega) (by omega) (N:=((b-a)/3600+8).toNat) (by omega) (X4 hs hL ha (by omega)) (X3 hs hL ha hb);refine⟨out,e,h1,?_⟩;have hw:L.2.2.2.2.2.2.1.length*(58+1)*5<=14*59*5:=jv _ (jv _ hL.wl)
 have hc:(if L.2.2.2.2.2.2.2.2=0 then 0 else (oD cs L.2.2.2.2.2.2.2.1).2.2.length*5)<=64*5:=by
  by_cases hm:L.2.2.2.2.2.2.2.2=0
  .rw[if_pos hm];omega
  .rw[if_neg hm];exact jv _ (uG hs (hL.cal hm).1 (hL.cal hm).2).len
 omega
section
variable{ss:List dD}(g0:ss.length<=12)(g1:gr (ss.map (·.1)))(g2:∀s∈ss,sO zs.length ps.length cs.length s)
 {L:cb}(hL:fR zs.length ps.length cs.length L)(hn:j6z L.1=some true)
include g0 g1 g2 hL hn
end
end
section
variable{zs:List bP}{ps:List dm}{cs:List aO}{ss:List dD}
end
section
variable{zs:List bP}{ps:List dm}{cs:List aO}(hs:cQ zs ps cs)
include hs
end
end Go.Proofs.Pw
