/- duty.Merge, duty.View.Segments: who is on duty in a range. -/
import Derived.Test.YtmccfdihkphfaaaGreatLIPD
import Derived.KernelRfl
import Derived.Test.YtmccfdihkphfaaaGreatLIPC
import Derived.Test.YtmccfdihkphfaaaGreatLIPB
open ByteArray renaming empty->D,ext->Ë
open _root_ renaming Int->E,List->O,Nat->R,ByteArray->Å
open Classical renaming byContradiction->F
open Option renaming some->G,none->Ê
open List renaming drop_eq_getElem_cons->H,getD->X,foldl_cons->Z,eq_nil_or_concat->À,concat_eq_append->Á,drop_zero->Ç
open Int renaming le_refl->I,ofNat->J,tmod->U,tmod_lt_of_pos->Ä,tmod_nonneg->Æ
open Decidable renaming decide->S
open Nat renaming mul_le_mul_right->W,mul_le_mul->Â,mul_succ->È
open Bool renaming true->Y,false->É
open Go Go.Lft
namespace Go.Proofs.Pw
theorem jxB(out:SgL)(s:SgT):(mgA out s).length<=out.length+1:=by
 grind[mgA]
theorem jxC:∀(l out:SgL),(l.foldl mgA out).length<=out.length+l.length
 |[],out=>smp_
 |s::r,out=>by
  have:=jxC r (mgA out s);have:=jxB out s;simp only[Z,List.length_cons];omega
theorem jE1{l:SgL}(hl:l.length<=1000000000):∀(n i:R)(out:SgL),i+n=l.length->out.length<=i->j8K l (l.length:E) (i:E) out=G ((l.drop i).foldl mgA out)
 |0,i,out,hi,ho=>by
  grind[jfR,j63,j4h,S0]
 |n+1,i,out,hi,ho=>by
  have hi':i<l.length:=omg_;have hgd:l.getD i (0,0,0)=l[i]:=by simp[X,hi']
  have ih:∀out':SgL,out'=mgA out l[i]->j8K l (l.length:E) ((i:E)+1) out'=G ((l.drop i).foldl mgA out):=λout' he=>by
   rw[H hi',Z,<-he];have:=jxB out l[i];exact jE1 hl n (i+1) out' omg_ (by rw[he];omega)
  rw[jfR];simp only[j63,j4h];rw[j00 omg_,j2j];simp only[j6,j8,hgd,show J out.length=(out.length:E) from rfl];rw[j07 (x:=(i:E)+1)];generalize l[i]=s at *;by_cases hs:s.2.1<=s.1
  .grind[j04,mgA]
  .rw[j01 hs,j7];rcases À out with rfl|⟨o,u,rfl⟩
   .grind[S0,mgA]
   .rw[Á]at ih ho ⊢;have hol:(o++[u]).length=o.length+1:=smp_;rw[hol]at ho;have hg2:(o++[u]).getD o.length (0,0,0)=u:=by simp[X]
    rw[hol,j00 (show ((o.length+1:R):E)>0 by omega),j6,j07 (x:=((o.length+1:R):E)-1),show ((o.length+1:R):E)-1=(o.length:E) by omega,j2j];simp only[j6,j8,hg2];have hmg:mgA (o++[u]) s=if u.2.1=s.1/\u.2.2=s.2.2 then o++[(u.1,s.2.1,u.2.2)] else (o++[u])++[s]:=by grind[mgA]
    grind[j04,j03]
theorem jxD{l:SgL}(hl:l.length<=1000000000):jaY l=G (l.foldl mgA []):=by
 simp(disch:=omega)only[jaY,S0];rw[show j8K l (l.length:E) 0 []=_ from jE1 hl l.length 0 [] omg_ smp_];rfl
theorem jn3{f:E->E}{a b:E}{l:SgL}(hl:l.length<=1000000000)(h:Ch f b a l):∃out,jaY l=G out/\Cov f b Ê a out/\out.length<=l.length:=
 ⟨_,jxD hl,h.cov,by grind[jxC]⟩
section
variable{zs:O j0K}{ps:O j0k}{cs:O CalT}(hs:GOk zs ps cs)
include hs
theorem jpj{L:j0f}(hL:LC1 zs.length ps.length cs.length L){t u:E}(h0:0<=t)(htu:t<=u)(h1:u<=8589934592):shK (zAt zs L.2.1) L t<=shK (zAt zs L.2.1) L u:=by
 have hz:=zget hs.ok hL.z0 hL.z1;have a:=(jg6 hz hL.rt2 (t:=t) h0 omg_).2;have b:=(jg6 hz hL.rt2 (t:=u) omg_ h1).2;show shK (zAt zs L.2.1) L t<=shK (zAt zs L.2.1) L u;have a':ShO (zAt zs L.2.1).2.1 (tb (zAt zs L.2.1)).2 L t (shK (zAt zs L.2.1) L t):=a;have b':ShO (zAt zs L.2.1).2.1 (tb (zAt zs L.2.1)).2 L u (shK (zAt zs L.2.1) L u):=b;generalize shK (zAt zs L.2.1) L t=K at *;generalize shK (zAt zs L.2.1) L u=K' at *;rcases a' with⟨a1,a2⟩|⟨a1,⟨v,hv,hvt⟩,a3⟩<;>rcases b' with⟨b1,b2⟩|⟨b1,b2,b3⟩
 .omega
 .omega
 .exact absurd (QO.le hz.ztab.2 hL.rt2 a1 ⟨v,hv,omg_⟩) b2
 .apply F;intro hn;exact b3 (QO.le hz.ztab.2 hL.rt2 (show K'+1<=K by omega) ⟨v,hv,omg_⟩)
def Cch(z:j0K)(L:j0f)(k nx t:E):Prop:=t<nx->(∀u,t<=u->u<nx->u<=8589934592->shK z L u=k)/\(nx<=8589934592->k<shK z L nx)
theorem jCl{L:j0f}(hL:LC1 zs.length ps.length cs.length L){t:E}(h0:0<=t)(h1:t<=8589934592)(hk:0<=shK (zAt zs L.2.1) L t){v:E}{ok:Bool}
  (hv:j16 (tb (zAt zs L.2.1)) L (shK (zAt zs L.2.1) L t+1)=G (v,ok)):t<(cond ok v 8589934593)/\Cch (zAt zs L.2.1) L (shK (zAt zs L.2.1) L t) (cond ok v 8589934593) t:=by
 have hz:=zget hs.ok hL.z0 hL.z1;have a:=(jg6 hz hL.rt2 (t:=t) h0 h1).2;have a':ShO (zAt zs L.2.1).2.1 (tb (zAt zs L.2.1)).2 L t (shK (zAt zs L.2.1) L t):=a;have hu:∀u,t<=u->u<=8589934592->ShO (zAt zs L.2.1).2.1 (tb (zAt zs L.2.1)).2 L u (shK (zAt zs L.2.1) L u):=λu _ h2=>(jg6 hz hL.rt2 (t:=u) omg_ h2).2;generalize hK:shK (zAt zs L.2.1) L t=K at *;rcases a' with⟨a1,a2⟩|⟨a1,⟨w,hw,hwt⟩,a3⟩
 .omega
 .have hat:=jsw hz.ztab.2 hL.rt2 a1 hw;obtain⟨v',ev,hv'⟩:=recH hz.ztab.2 hL.rt2 (k:=K+1) omg_ omg_;have:=ev.symm.trans hv;simp only[j5,j9]at this;obtain⟨rfl,rfl⟩:=this;cases hh:hO (zs.getD L.2.1.toNat (D,0,[])).2.1 (tb (zs.getD L.2.1.toNat (D,0,[]))).2 L (K+1) with
  |none=>
   simp only[Option.isSome_none,j7]
   exact⟨omg_,λ_=>⟨λu h2 h3 h4=>ShO.uniq hz.ztab.2 hL.rt2 (hu u h2 h4) (.inr ⟨a1,⟨w,hw,omg_⟩,λ⟨x,hx,_⟩=>by
    simp_all⟩),λh=>omg_⟩⟩
  |some x=>
   have:=hv' x hh;subst this;simp only[Option.isSome_some,j6]
   refine⟨?_,λ_=>⟨λu h2 h3 h4=>ShO.uniq hz.ztab.2 hL.rt2 (hu u h2 h4) (.inr ⟨a1,⟨w,hw,omg_⟩,λ⟨x,hx,hxu⟩=>by
    grind⟩),λhle=>?_⟩⟩
   rotate_left
   .have hle':v'<=8589934592:=hle;have htv:t<=v':=by omega
    have b':=hu v' htv hle';rcases b' with⟨b1,b2⟩|⟨b1,b2,b3⟩
    .exact absurd (QO.le hz.ztab.2 hL.rt2 (show (0:E)<=K+1 by omega) ⟨_,hh,I _⟩) b2
    .apply F;intro hn;exact b3 (QO.le hz.ztab.2 hL.rt2 (show shK (zAt zs L.2.1) L v'+1<=K+1 by omega) ⟨_,hh,I _⟩)
   apply F;intro hn;exact a3 ⟨_,hh,omg_⟩
theorem jE2{L:j0f}(hL:LC1 zs.length ps.length cs.length L){k:E}(hk:0<=k):∃_:(U k (L.2.2.2.2.2.1.length:E)).toNat<L.2.2.2.2.2.1.length,0<=U k (L.2.2.2.2.2.1.length:E)/\U k (L.2.2.2.2.2.1.length:E)<(L.2.2.2.2.2.1.length:E)/\L.2.2.2.2.2.1.getD (U k (L.2.2.2.2.2.1.length:E)).toNat 0=whoL L k:=by
 have _:=hs;have hm0:=hL.m0;have q1:0<=U k (L.2.2.2.2.2.1.length:E):=Æ _ hk;have q2:U k (L.2.2.2.2.2.1.length:E)<(L.2.2.2.2.2.1.length:E):=Ä _ omg_;exact⟨omg_,q1,q2,rfl⟩
theorem jE3{L:j0f}(hL:LC1 zs.length ps.length cs.length L){a b e p m j:E}{sp:SL}(ha:0<=a)(he:e<=8589934592){B:E}(hB:B<=1000000):∀(n:R)(t k nx:E)(acc:SgL),e-t=n->a<=t->
  (∀u,t<=u->u<e->onX zs cs L u=Y)->Cch (zAt zs L.2.1) L k nx t->Ch (perX zs cs L) t a acc->(t<e->(acc.length:E)<=B+shK (zAt zs L.2.1) L t)->
  (t=e->a<e->(acc.length:E)<=B+1+shK (zAt zs L.2.1) L (e-1))->
  ∃k' nx' acc',j64 b t k nx m j L.1 L.2.1 L.2.2.1.1 L.2.2.1.2 L.2.2.2.1 L.2.2.2.2.1 L.2.2.2.2.2.1 L.2.2.2.2.2.2.1 L.2.2.2.2.2.2.2.1 L.2.2.2.2.2.2.2.2 (tb (zAt zs L.2.1)).1 (tb (zAt zs L.2.1)).2 p e acc sp=
   G (b,e,k',nx',m,j,L.1,L.2.1,L.2.2.1.1,L.2.2.1.2,L.2.2.2.1,L.2.2.2.2.1,L.2.2.2.2.2.1,L.2.2.2.2.2.2.1,L.2.2.2.2.2.2.2.1,L.2.2.2.2.2.2.2.2,(tb (zAt zs L.2.1)).1,(tb (zAt zs L.2.1)).2,acc',sp)/\
   Cch (zAt zs L.2.1) L k' nx' e/\Ch (perX zs cs L) e a acc'/\(a<e->(acc'.length:E)<=B+1+shK (zAt zs L.2.1) L (e-1))
 |n,t,k,nx,acc,hn,hat,hon,hc,hch,hl,hl2=>by
  have hz:=zget hs.ok hL.z0 hL.z1;rw[jeI];simp only[j3O,j4U];by_cases hte:t<e
  .rw[j00 hte,j6];have hont:=hon t (I _) hte;obtain⟨eK,hK⟩:j62 (tb (zAt zs L.2.1)) L t=G (shK (zAt zs L.2.1) L t)/\ShO (zAt zs L.2.1).2.1 (tb (zAt zs L.2.1)).2 L t (shK (zAt zs L.2.1) L t):=jg6 hz hL.rt2 (t:=t) omg_ omg_;have hk0:0<=shK (zAt zs L.2.1) L t:=jzE hont
   have hkm:shK (zAt zs L.2.1) L t<=2386092:=by
    have hK':ShO (zAt zs L.2.1).2.1 (tb (zAt zs L.2.1)).2 L t (shK (zAt zs L.2.1) L t):=hK;rcases hK' with⟨h1,_⟩|⟨h1,⟨w,hw,_⟩,_⟩
    .omega
    .exact(jsw hz.ztab.2 hL.rt2 h1 hw).2.2
   obtain⟨_,q1,q2,q3⟩:=jE2 hs hL hk0;have hm0:=hL.m0;have hlt:=hl hte
   have step:∀nx':E,t<nx'->Cch (zAt zs L.2.1) L (shK (zAt zs L.2.1) L t) nx' t->∀acc':SgL,acc'=acc++[(t,(if nx'<e then nx' else e),whoL L (shK (zAt zs L.2.1) L t))]->
     ∃k'' nx'' acc'',j64 b (if nx'<e then nx' else e) (shK (zAt zs L.2.1) L t) nx' m j L.1 L.2.1 L.2.2.1.1 L.2.2.1.2 L.2.2.2.1 L.2.2.2.2.1 L.2.2.2.2.2.1 L.2.2.2.2.2.2.1 L.2.2.2.2.2.2.2.1 L.2.2.2.2.2.2.2.2 (tb (zAt zs L.2.1)).1 (tb (zAt zs L.2.1)).2 p e acc' sp=
      G (b,e,k'',nx'',m,j,L.1,L.2.1,L.2.2.1.1,L.2.2.1.2,L.2.2.2.1,L.2.2.2.2.1,L.2.2.2.2.2.1,L.2.2.2.2.2.2.1,L.2.2.2.2.2.2.2.1,L.2.2.2.2.2.2.2.2,(tb (zAt zs L.2.1)).1,(tb (zAt zs L.2.1)).2,acc'',sp)/\
      Cch (zAt zs L.2.1) L k'' nx'' e/\Ch (perX zs cs L) e a acc''/\(a<e->(acc''.length:E)<=B+1+shK (zAt zs L.2.1) L (e-1)):=by
    rintro nx' hnx hc' _ rfl
    obtain⟨t',ht',h1,h2,h3,h4⟩:∃t':E,t'=(if nx'<e then nx' else e)/\t<t'/\t'<=e/\t'<=nx'/\(t'<e->t'=nx'):=⟨_,rfl,by split<;>omega,by split<;>omega,by split<;>omega,λh=>by
     omega⟩
    rw[<-ht']
    refine jE3 hL ha he hB (e-t').toNat t' (shK (zAt zs L.2.1) L t) nx' _ omg_ omg_ (λu u1 u2=>hon u omg_ u2) (λh5=>⟨λu u1 u2 u3=>(hc' hnx).1 u omg_ u2 u3,(hc' hnx).2⟩)
     (hch.snoc omg_ (λu u1 u2=>?_)) (λhlt'=>?_) (λheq _=>?_)
    .unfold perX;rw[hon u u1 omg_,(hc' hnx).1 u u1 omg_ omg_];rfl
    .have hm:=jpj hs hL (t:=t) (u:=t') omg_ omg_ omg_;have hne:shK (zAt zs L.2.1) L t<shK (zAt zs L.2.1) L t':=by have:=h4 hlt';subst this;exact(hc' hnx).2 omg_
     grind
    .have hm:=jpj hs hL (t:=t) (u:=e-1) omg_ omg_ omg_;grind
   by_cases htn:t>=nx
   .rw[j00 htn,j6];rw[show j62 ((tb (zAt zs L.2.1)).1,(tb (zAt zs L.2.1)).2) (L.1,L.2.1,(L.2.2.1.1,L.2.2.1.2),L.2.2.2.1,L.2.2.2.2.1,L.2.2.2.2.2.1,L.2.2.2.2.2.2.1,L.2.2.2.2.2.2.2.1,L.2.2.2.2.2.2.2.2) t=_ from eK];simp only[j4];rw[j07 (x:=shK (zAt zs L.2.1) L t+1)];obtain⟨v,ev,_⟩:=recH hz.ztab.2 hL.rt2 (k:=shK (zAt zs L.2.1) L t+1) omg_ omg_;have hcn:=jCl hs hL (t:=t) omg_ omg_ hk0 ev;rw[show j16 ((tb (zAt zs L.2.1)).1,(tb (zAt zs L.2.1)).2) (L.1,L.2.1,(L.2.2.1.1,L.2.2.1.2),L.2.2.2.1,L.2.2.2.2.1,L.2.2.2.2.2.1,L.2.2.2.2.2.2.1,L.2.2.2.2.2.2.2.1,L.2.2.2.2.2.2.2.2) (shK (zAt zs L.2.1) L t+1)=_ from ev];simp only[j4,show J L.2.2.2.2.2.1.length=(L.2.2.2.2.2.1.length:E) from rfl];rw[j3Z (show¬(L.2.2.2.2.2.1.length:E)=0 by omega),j0B q1 q2];have hsz:∀x:SgT,acc.length+[x].length<=j03:=λx=>by simp[j03];omega
    revert hcn
    generalize (hO (zs.getD L.2.1.toNat (D,0,[])).2.1 (tb (zs.getD L.2.1.toNat (D,0,[]))).2 L (shK (zAt zs L.2.1) L t+1)).isSome=ok
    cases ok with
    |false=>grind[j04]
    |true=>grind[j04]
   .have hk:=(hc omg_).1 t (I _) omg_ omg_;subst hk;rw[j01 htn,j7];simp only[show J L.2.2.2.2.2.1.length=(L.2.2.2.2.2.1.length:E) from rfl];grind[j0B,j03,j04]
  grind[j0e]
 termination_by n=>n
theorem jE4{L:j0f}(hL:LC1 zs.length ps.length cs.length L){a b:E}(ha:0<=a)(hb:b<=8589934592){A:SL}(hA:A.length<=400000)(hA2:∀t,inS t A↔a<=t/\t<b/\onX zs cs L t=Y)
  {k0:E}{N:R}(hN:N<=4000000)(hk0 : -1<=k0)(hkN:∀t,a<=t->t<b->onX zs cs L t=Y->k0<=shK (zAt zs L.2.1) L t/\shK (zAt zs L.2.1) L t<=k0+N) :
  ∀(n j:R)(t k nx Kc:E)(acc:SgL),j+n=A.length->a<=t->t<=b->StS (t-1) (A.drop j)->(∀u,t<=u->(inS u A↔inS u (A.drop j)))->Cch (zAt zs L.2.1) L k nx t->Ch (perX zs cs L) t a acc->
   k0<=Kc->Kc<=k0+N->(∀u,t<=u->inS u A->Kc<=shK (zAt zs L.2.1) L u)->(acc.length:E)<=2*j+(Kc-k0)->
  ∃t' acc',j4i b t k nx (A.length:E) (j:E) L.1 L.2.1 L.2.2.1.1 L.2.2.1.2 L.2.2.2.1 L.2.2.2.2.1 L.2.2.2.2.2.1 L.2.2.2.2.2.2.1 L.2.2.2.2.2.2.2.1 L.2.2.2.2.2.2.2.2 (tb (zAt zs L.2.1)).1 (tb (zAt zs L.2.1)).2 acc A=G (b,t',acc')/\
   Ch (perX zs cs L) b a (acc'++[(t',b, -1)])/\acc'.length<=2*A.length+N
 |0,j,t,k,nx,Kc,acc,hj,hat,htb,hst,hin,hc,hch,hK1,hK2,hK3,hl=>by
  rw[j9I];simp(disch:=omega)only[j2n,S0];refine⟨t,acc,rfl,hch.snoc htb (λu u1 u2=>?_),omg_⟩;grind[j2V,perX]
 |n+1,j,t,k,nx,Kc,acc,hj,hat,htb,hst,hin,hc,hch,hK1,hK2,hK3,hl=>by
  have hj':j<A.length:=omg_;have hgd:A.getD j (0,0)=A[j]:=by simp[X,hj']
  rw[H hj']at hst hin;obtain⟨s1,s2,s3⟩:=hst;have hon:∀u,A[j].1<=u->u<A[j].2->inS u A:=λu u1 u2=>(hin u omg_).2 (j0i.2 (.inl ⟨u1,u2⟩));have hp1:=(hA2 A[j].1).1 (hon _ (I _) s2);have hp2:=(hA2 (A[j].2-1)).1 (hon _ omg_ omg_);have hKj:=hK3 A[j].1 omg_ (hon _ (I _) s2);rw[j9I];simp(disch:=omega)only[j2n,S0]
  obtain⟨k',nx',acc',e2,c2,h2,l2⟩:=jE3 hs hL (a:=a) (b:=b) (e:=A[j].2) (p:=A[j].1) (m:=(A.length:E)) (j:=(j:E)) (sp:=A) ha omg_ (B:=2*j+1-k0) omg_ (A[j].2-A[j].1).toNat A[j].1 k nx
   (acc++[(t,A[j].1, -1)]) omg_ omg_ (λu u1 u2=>((hA2 u).1 (hon u u1 u2)).2.2) (λh5=>by
    have h6:=hc omg_;grind) (hch.snoc omg_ (λu u1 u2=>by
    have:onX zs cs L u=false:=by
     cases ho:onX zs cs L u with
     |false=>rfl
     |true=>
      have:=(hin u u1).1 ((hA2 u).2 ⟨omg_,omg_,ho⟩);rcases j0i.1 this with h|h
      .omega
      .have:=StS.low s3 h;omega
    grind[perX])) (λ_=>by grind) (λh=>omg_)
  rw[e2];simp only[j4];rw[j07 (x:=(j:E)+1),j04];have hl2:=l2 omg_;have hr:=hkN (A[j].2-1) omg_ omg_ hp2.2.2
  exact jE4 hL ha hb hA hA2 hN hk0 hkN n (j+1) A[j].2 k' nx' (shK (zAt zs L.2.1) L (A[j].2-1)) acc' omg_ omg_ omg_ (s3.weak omg_) (λu hu=>by
   grind[j0i]) c2 h2 hr.1 hr.2 (λu hu hiu=>by
   have:=(hA2 u).1 hiu;exact jpj hs hL omg_ omg_ omg_) omg_
theorem jCm{L:j0f}(hL:LC1 zs.length ps.length cs.length L){ss:O j0R}{a b:E}(ha:0<=a)(hab:a<=b)(hb:b<=8589934592){M:R}(hM:M<=60)(hlen:b-a<=604800*M)
  {k0:E}{N:R}(hN:N<=4000000)(hk0 : -1<=k0)(hkN:∀t,a<=t->t<b->onX zs cs L t=Y->k0<=shK (zAt zs L.2.1) L t/\shK (zAt zs L.2.1) L t<=k0+N) :
  ∃out,j3o ((zs,ps,cs,ss),zs.map tb) L a b=G out/\Cov (perX zs cs L) b Ê a out/\
   out.length<=2*(L.2.2.2.2.2.2.1.length*(M+1)*5+1+(if L.2.2.2.2.2.2.2.2=0 then 0 else (cAt cs L.2.2.2.2.2.2.2.1).2.2.length*5))+N+1:=by
 have hzl:(zs.map tb).length=zs.length:=List.length_map ..;have hg:=jtN (zs:=zs) hL.z0 hL.z1;obtain⟨A,e1,s1,s2,s3⟩:=jxA hs hL (ss:=ss) ha hab hb hM hlen
 have hAl:A.length<=400000:=by
  have h1:L.2.2.2.2.2.2.1.length*(M+1)<=14*61:=Â hL.wl omg_;by_cases hm:L.2.2.2.2.2.2.2.2=0
  .grind
  .rw[if_neg hm]at s3;have hx:=(cget hs (hL.cal hm).1 (hL.cal hm).2).len;grind[cAt]
 obtain⟨t',acc,e2,h2,l2⟩:=jE4 hs hL ha hb hAl s2 hN hk0 hkN A.length 0 a (-1) (-1) k0 [] omg_ (I _) hab s1 (λu _=>smp_) (λh=>omg_) rfl (I _) omg_ (λu hu hiu=>by
  simp_all) smp_
 obtain⟨out,e3,h3,l3⟩:=jn3 (l:=acc++[(t',b, -1)]) (by grind) h2;refine⟨out,?_,h3,by grind⟩;simp only[j3o];rw[j0B hL.z0 (by rw[hzl];exact hL.z1)];simp only[j6,hg];rw[show j8e ((zs,ps,cs,ss),zs.map tb) (L.1,L.2.1,(L.2.2.1.1,L.2.2.1.2),L.2.2.2.1,L.2.2.2.2.1,L.2.2.2.2.2.1,L.2.2.2.2.2.2.1,L.2.2.2.2.2.2.2.1,L.2.2.2.2.2.2.2.2) a b=_ from e1];simp only[j4,show J A.length=(A.length:E) from rfl];rw[show j4i b a (-1) (-1) (A.length:E) 0 L.1 L.2.1 L.2.2.1.1 L.2.2.1.2 L.2.2.2.1 L.2.2.2.2.1 L.2.2.2.2.2.1 L.2.2.2.2.2.2.1 L.2.2.2.2.2.2.2.1 L.2.2.2.2.2.2.2.2 (tb (zs.getD L.2.1.toNat (D,0,[]))).1 (tb (zs.getD L.2.1.toNat (D,0,[]))).2 [] A=_ from e2];grind[j03]
end
section
variable{zs:O j0K}{ps:O j0k}{cs:O CalT}(hs:GOk zs ps cs)
include hs
omit hs in
theorem Fst.near{o:E}{l:TrL}(h:TOk o l){s t:E}{k:R}(f:Fst o l s t k)(hs:0<=s):s-64800<=t/\t<=s+64800:=by
 obtain⟨p1,p2,p3⟩:=f.piece h;have hk:=f.hk;have o1:=h.of1 k hk;have o0:=h.of0 k hk;have ht:=f.ht;refine⟨omg_,?_⟩;by_cases h0:k=0
 .subst h0;have e0:frm l 0=0:=frm0;omega
 .obtain⟨j,rfl⟩:∃j,k=j+1:=⟨k-1,omg_⟩;have b:=f.bef j omg_;have o2:=h.of0 j omg_;omega
theorem jCn{L:j0f}(hL:LC1 zs.length ps.length cs.length L){t u:E}(h0:0<=t)(htu:t<=u)(h1:u<=8589934592):shK (zAt zs L.2.1) L u<=shK (zAt zs L.2.1) L t+(u-t)/3600+8:=by
 have hz:=zget hs.ok hL.z0 hL.z1;have hst:=hL.rt2.step;have he0:=hL.rt2.e0;have hc0:=hL.c0;have hd:=hL.d0;have a':ShO (zAt zs L.2.1).2.1 (tb (zAt zs L.2.1)).2 L t (shK (zAt zs L.2.1) L t):=(jg6 hz hL.rt2 (t:=t) h0 omg_).2;have b':ShO (zAt zs L.2.1).2.1 (tb (zAt zs L.2.1)).2 L u (shK (zAt zs L.2.1) L u):=(jg6 hz hL.rt2 (t:=u) omg_ h1).2;generalize shK (zAt zs L.2.1) L t=K at *;generalize shK (zAt zs L.2.1) L u=K' at *;have hK : -1<=K:=by rcases a' with⟨h,_⟩|⟨h,_⟩<;>omega
 have hn:¬QO (zAt zs L.2.1).2.1 (tb (zAt zs L.2.1)).2 L t (K+1):=by
  rcases a' with⟨h,h2⟩|⟨_,_,h2⟩
  .rw[h];exact h2
  .exact h2
 by_cases hKK:K'<=K+1
 .omega
 .rcases b' with⟨h,_⟩|⟨hK0,⟨v,hv,hvu⟩,_⟩
  .omega
  .obtain⟨w,hw,hwu⟩:QO (zAt zs L.2.1).2.1 (tb (zAt zs L.2.1)).2 L u (K+1):=QO.le hz.ztab.2 hL.rt2 (show K+1<=K' by omega) ⟨v,hv,hvu⟩;have hwt:t<w:=by apply F;intro hx;exact hn ⟨w,hw,omg_⟩
   have hm:3600*(K'-(K+1))<=3600*L.2.2.2.2.1*(K'-(K+1)):=Int.mul_le_mul_of_nonneg_right omg_ omg_;by_cases hu:L.2.2.2.1=0
   .unfold hO at hv hw;rw[if_pos hu]at hv hw;cases hf:fO (zAt zs L.2.1).2.1 (tb (zAt zs L.2.1)).2 (sLoc L 0) with
    |none=>rw[hf]at hv;simp at hv
    |some x=>
     rw[hf]at hv hw;simp only[j4]at hv hw;split at hv
     .split at hw
      .simp only[j5]at hv hw;have e:3600*L.2.2.2.2.1*(K'-(K+1))=3600*L.2.2.2.2.1*K'-3600*L.2.2.2.2.1*(K+1):=Int.mul_sub ..;omega
      .simp at hw
     .simp at hv
   .unfold hO at hv hw;rw[if_neg hu]at hv hw;obtain⟨k1,f1⟩:=jzz hv;obtain⟨k2,f2⟩:=jzz hw;have e:(K'-(K+1))*j4c L=K'*j4c L-(K+1)*j4c L:=Int.sub_mul ..;have hm2:(K'-(K+1))*1<=(K'-(K+1))*j4c L:=Int.mul_le_mul_of_nonneg_left hst.1 omg_;have hm3:0<=(K+1)*j4c L:=Int.mul_nonneg omg_ omg_;have g1:=f1.near hz.ztab.2 (by unfold sLoc;omega);have g2:=f2.near hz.ztab.2 (by unfold sLoc;omega);unfold sLoc at g1 g2;omega
theorem jxE{L:j0f}(hL:LC1 zs.length ps.length cs.length L){a b:E}(ha:0<=a)(hb:b<=8589934592):∀t,a<=t->t<b->onX zs cs L t=Y->shK (zAt zs L.2.1) L a<=shK (zAt zs L.2.1) L t/\shK (zAt zs L.2.1) L t<=shK (zAt zs L.2.1) L a+(((b-a)/3600+8).toNat:E):=λt h1 h2 _=>by
 have e1:=jpj hs hL (t:=a) (u:=t) ha h1 omg_;have e2:=jCn hs hL (t:=a) (u:=t) ha h1 omg_;omega
theorem jFm{L:j0f}(hL:LC1 zs.length ps.length cs.length L){t:E}(h0:0<=t)(h1:t<=8589934592) : -1<=shK (zAt zs L.2.1) L t:=by
 have hz:=zget hs.ok hL.z0 hL.z1;have a':ShO (zAt zs L.2.1).2.1 (tb (zAt zs L.2.1)).2 L t (shK (zAt zs L.2.1) L t):=(jg6 hz hL.rt2 (t:=t) h0 h1).2;rcases a' with⟨h,_⟩|⟨h,_⟩<;>omega
theorem jtP{L:j0f}(hL:LC1 zs.length ps.length cs.length L){ss:O j0R}{a b:E}(ha:0<=a)(hab:a<=b)(hb:b<=8589934592)(hlen:b-a<=35078400) :
  ∃out,j3o ((zs,ps,cs,ss),zs.map tb) L a b=G out/\Cov (perX zs cs L) b Ê a out/\out.length<=30000:=by
 obtain⟨out,e,h1,h2⟩:=jCm hs hL (ss:=ss) ha hab hb (M:=58) omg_ omg_ (N:=((b-a)/3600+8).toNat) omg_ (jFm hs hL ha omg_) (jxE hs hL ha hb);refine⟨out,e,h1,?_⟩;have hw:L.2.2.2.2.2.2.1.length*(58+1)*5<=14*59*5:=W _ (W _ hL.wl)
 have hc:(if L.2.2.2.2.2.2.2.2=0 then 0 else (cAt cs L.2.2.2.2.2.2.2.1).2.2.length*5)<=64*5:=by
  by_cases hm:L.2.2.2.2.2.2.2.2=0
  .rw[if_pos hm];omega
  .rw[if_neg hm];exact W _ (cget hs (hL.cal hm).1 (hL.cal hm).2).len
 omega
end
theorem jtQ{x y:Å}(h:x≠y):(x.toList==y.toList)=false:=by
 rw[ByteArray.toList_eq,ByteArray.toList_eq];exact Bool.eq_false_iff.2 λhh=>h (Ë (Array.toList_inj.mp (eq_of_beq hh)))
theorem jxF:jcF=G 98980:=by kernel_rfl
theorem jE5{d:E}(h:j1N d=G Y):d<=98980:=by
 apply F;intro hd;simp only[j1N,j6W,jrb,jra,j4]at h;rw[j01 (show¬d<0 by omega),j00 (show d>=98981 by omega)]at h;simp at h
theorem jE6{d:E}(h:j1N d=G Y):0<=d:=by
 apply F;intro hd;simp only[j1N,j6W,jrb,jra,j4]at h;rw[j00 (show d<0 by omega)]at h;simp at h
section
variable{zs:O j0K}{ps:O j0k}{cs:O CalT}{ss:O j0R}
theorem jxG{w:WL}(h:WOk 0 w)(hl:w.length<=14):∀(n i:R),i+n=w.length->jbH w (i:E)=G (.inr ())
 |0,i,hi=>by
  rw[jai];simp(disch:=omega)only[j44,S0]
 |n+1,i,hi=>by
  have hi':i<w.length:=omg_;have hg:=jix h i hi';have ih:=jxG h hl n (i+1) omg_;rw[jai];simp only[j44,show J w.length=(w.length:E) from rfl];rw[j00 omg_,j2j];simp only[j6,j8];rw[j01 (show¬(w.getD i (0,0)).1<0 by omega),j01 (show¬(w.getD i (0,0)).1>=(w.getD i (0,0)).2 by omega),j01 (show¬(w.getD i (0,0)).2>604800 by omega),j07 (x:=(i:E)+1)];simp only[j7];by_cases h0:(i:E)>0
  .obtain⟨k,rfl⟩:∃k,i=k+1:=⟨i-1,omg_⟩;have hgap:=jxf h k omg_;rw[j00 h0,j6,j07 (x:=((k+1:R):E)-1),show ((k+1:R):E)-1=(k:E) by omega,j0B (show (0:E)<=(k:E) by omega) omg_];simp only[j6,j8];rw[j01 (show¬(w.getD (k+1) (0,0)).1<(w.getD k (0,0)).2 by omega),j7,j04];exact ih
  .rw[j01 h0,j7,j04];exact ih
theorem r5ck{w:WL}(h:WOk 0 w)(hl:w.length<=14):j8p w=G 0:=by
 simp only[j8p,show J w.length=(w.length:E) from rfl];rw[j01 omg_,j7,show jbH w 0=_ from jxG h hl w.length 0 omg_];rfl
end
theorem jCo{w:WL}(hl:w.length<=14)(s:E):∀(n i:R),i+n=w.length->jcp w s (i:E)=G (cond (hasB s (w.drop i)) (.inl Y) (.inr ()))
 |0,i,hi=>by
  rw[jfU];simp only[j6c,show J w.length=(w.length:E) from rfl];rw[j01 omg_,j7,j0e,List.drop_of_length_le omg_];rfl
 |n+1,i,hi=>by
  have hi':i<w.length:=omg_;have hgd:w.getD i (0,0)=w[i]:=by simp[X,hi']
  rw[jfU];simp only[j6c,show J w.length=(w.length:E) from rfl];rw[j00 omg_,j2j];simp only[j6,Bool.true_or,j8,hgd];rw[j07 (x:=(i:E)+1),H hi'];have hb:hasB s (w[i]::w.drop (i+1))=cond (cond (S (w[i].1<=s)) (S (s<w[i].2)) É) Y (hasB s (w.drop (i+1))):=rfl;rw[hb];by_cases h1:w[i].1<=s
  .rw[j00 (show s>=w[i].1 from h1)];simp only[j6];by_cases h2:s<w[i].2
   .rw[j00 h2];rfl
   .rw[j01 h2];simp only[j7,j04];exact jCo hl s n (i+1) omg_
  .rw[j01 (show¬s>=w[i].1 from h1)];simp only[j7,j04];exact jCo hl s n (i+1) omg_
theorem jxH{w:WL}(hl:w.length<=14)(s:E):jhm w s=G (hasB s w):=by
 have:=jCo hl s w.length 0 omg_;simp only[jhm,show jcp w s 0=_ from this,j4,Ç];cases hasB s w<;>rfl
theorem jE7{z:j0K}(hz:ZOk z){t:E}(h0:0<=t)(h1:t<=8589934592):j6u z t=G (locD z t,0):=by
 have h4:=hz.zref.2.1;obtain⟨k,hk,k1,k2⟩:=jav h4.2 h0 h1;have e:=jhx h4.2 hk k1 k2;grind[locD,tb,jtJ]
theorem jAE{z:j0K}(hz:ZOk z){t:E}(h0:0<=t)(h1:t<=8589934592){w:WL}(hw:WOk 0 w)(hl:w.length<=14):jeQ z t=G (secD (locD z t),0)/\jnY z w t=G (hasB (secD (locD z t)) w):=by
 have e1:=jE7 hz h0 h1;obtain⟨_,hsc⟩:=jpi hz h0 h1;have e2:j9K (locD z t)=G (secD (locD z t)):=hsc;have e3:jeQ z t=G (secD (locD z t),0):=by grind[jeQ]
 grind[jnY,r5ck,jxH]
section
variable{zs:O j0K}{ps:O j0k}{cs:O CalT}(hs:GOk zs ps cs)
include hs
theorem jCp{k d e:E}{x:CalT}(hx:CCk zs.length x){L:j0f}:∀(n i:R)(b:Bool),i+n=x.2.2.length->b=S (d∈x.2.2.take i)->
  jb2 k b (i:E) L.1 L.2.1 L.2.2.1.1 L.2.2.1.2 L.2.2.2.1 L.2.2.2.2.1 L.2.2.2.2.2.1 L.2.2.2.2.2.2.1 L.2.2.2.2.2.2.2.1 L.2.2.2.2.2.2.2.2 x.1 x.2.1 x.2.2 d e=
   G (k,S (d∈x.2.2),L.1,L.2.1,L.2.2.1.1,L.2.2.1.2,L.2.2.2.1,L.2.2.2.2.1,L.2.2.2.2.2.1,L.2.2.2.2.2.2.1,L.2.2.2.2.2.2.2.1,L.2.2.2.2.2.2.2.2)
 |0,i,b,hi,hb=>by
  rw[jhR];simp(disch:=omega)only[j7E,hb,List.take_of_length_le,S0]
 |n+1,i,b,hi,hb=>by
  have _:=hs;have hxl:=hx.len;have hi':i<x.2.2.length:=omg_;have hgd:x.2.2.getD i (0:E)=x.2.2[i]:=by simp[hi']
  rw[jhR];simp only[j7E,show J x.2.2.length=(x.2.2.length:E) from rfl];rw[j00 omg_,j07 (x:=(i:E)+1),j6];have ht:x.2.2.take (i+1)=x.2.2.take i++[x.2.2[i]]:=by simp_all
  cases hbb:b with
  |true=>simp only[j6,j04];refine jCp hx n (i+1) Y omg_ ?_;grind
  |false=>have hnm:d∉x.2.2.take i:=of_decide_eq_false (by rw[<-hb,hbb]);simp(disch:=omega)only[S0];refine jCp hx n (i+1) _ omg_ ?_;grind
theorem jCq{L:j0f}(hL:LC1 zs.length ps.length cs.length L){ss:O j0R}{t:E}(h0:0<=t)(h1:t<=8589934592):∃k,jjf (zs,ps,cs,ss) L t=G (k,onX zs cs L t)/\(onX zs cs L t=Y->k=shK (zAt zs L.2.1) L t):=by
 have hRt:=hL.rt2;have hz:ZOk (zAt zs L.2.1):=zget hs.ok hL.z0 hL.z1;have h4:=hz.zref.2.1;obtain⟨K,eK,hK⟩:=jDX h4 hRt h0 h1;have hKs:K=shK (zAt zs L.2.1) L t:=ShO.uniq h4.2 hRt hK (jg6 hz hRt h0 h1).2;subst hKs;have ek:jgL (zAt zs L.2.1) L t=G (shK (zAt zs L.2.1) L t,0):=by grind[jgL,jn2]
 obtain⟨_,ein⟩:=jAE hz h0 h1 hL.w hL.wl
 have htail:(cond (L.2.2.2.2.2.2.2.2==(0:E)) (G (shK (zAt zs L.2.1) L t,Y)) (cond (inR L.2.2.2.2.2.2.2.1 cs.length) (cond (inR (cs.getD L.2.2.2.2.2.2.2.1.toNat (D,0,[])).2.1 zs.length)
   ((
    j6u ((zs.getD (cs.getD L.2.2.2.2.2.2.2.1.toNat (D,(0:E),([]:O E))).2.1.toNat (D,0,[])).1,(zs.getD (cs.getD L.2.2.2.2.2.2.2.1.toNat (D,(0:E),([]:O E))).2.1.toNat (D,0,[])).2.1,(zs.getD (cs.getD L.2.2.2.2.2.2.2.1.toNat (D,(0:E),([]:O E))).2.1.toNat (D,0,[])).2.2) t).bind λr67=>
    (jb2 (shK (zAt zs L.2.1) L t) É 0 L.1 L.2.1 L.2.2.1.1 L.2.2.1.2 L.2.2.2.1 L.2.2.2.2.1 L.2.2.2.2.2.1 L.2.2.2.2.2.2.1 L.2.2.2.2.2.2.2.1 L.2.2.2.2.2.2.2.2 (cs.getD L.2.2.2.2.2.2.2.1.toNat (D,0,[])).1 (cs.getD L.2.2.2.2.2.2.2.1.toNat (D,0,[])).2.1 (cs.getD L.2.2.2.2.2.2.2.1.toNat (D,0,[])).2.2 r67.1.1 r67.1.2).bind λq0=>
     G (q0.1,(q0.2.1==(q0.2.2.2.2.2.2.2.2.2.2.2==(2:E))))) Ê) Ê))=G (shK (zAt zs L.2.1) L t,calB zs cs L t):=by
  by_cases hm:L.2.2.2.2.2.2.2.2=0
  .grind[calB]
  .have hcal:=hL.cal hm;have hx:=cget hs hcal.1 hcal.2;have hxz:=zget hs.ok hx.z0 hx.z1;rw[j3Z hm,j7,j0B hcal.1 hcal.2,j0B hx.z0 hx.z1];simp only[j6];rw[show j6u ((zs.getD (cs.getD L.2.2.2.2.2.2.2.1.toNat (D,(0:E),([]:O E))).2.1.toNat (D,0,[])).1,(zs.getD (cs.getD L.2.2.2.2.2.2.2.1.toNat (D,(0:E),([]:O E))).2.1.toNat (D,0,[])).2.1,(zs.getD (cs.getD L.2.2.2.2.2.2.2.1.toNat (D,(0:E),([]:O E))).2.1.toNat (D,0,[])).2.2) t=_ from jE7 hxz h0 h1];simp only[j4];rw[show jb2 (shK (zAt zs L.2.1) L t) É 0 L.1 L.2.1 L.2.2.1.1 L.2.2.1.2 L.2.2.2.1 L.2.2.2.2.1 L.2.2.2.2.2.1 L.2.2.2.2.2.2.1 L.2.2.2.2.2.2.2.1 L.2.2.2.2.2.2.2.2 (cs.getD L.2.2.2.2.2.2.2.1.toNat (D,0,[])).1 (cs.getD L.2.2.2.2.2.2.2.1.toNat (D,0,[])).2.1 (cs.getD L.2.2.2.2.2.2.2.1.toNat (D,0,[])).2.2 _ _=_ from jCp hs hx (L:=L) (cs.getD L.2.2.2.2.2.2.2.1.toNat (D,0,[])).2.2.length 0 É omg_ smp_];unfold calB;rw[j3Z hm];rfl
 simp only[jjf,jip];rw[j0B hL.z0 hL.z1];simp only[j6];rw[show jgL ((zs.getD L.2.1.toNat (D,0,[])).1,(zs.getD L.2.1.toNat (D,0,[])).2.1,(zs.getD L.2.1.toNat (D,0,[])).2.2) (L.1,L.2.1,(L.2.2.1.1,L.2.2.1.2),L.2.2.2.1,L.2.2.2.2.1,L.2.2.2.2.2.1,L.2.2.2.2.2.2.1,L.2.2.2.2.2.2.2.1,L.2.2.2.2.2.2.2.2) t=_ from ek];simp only[j4,bne_self_eq_false,j7];by_cases hk:0<=shK (zAt zs L.2.1) L t
 .rw[j01 (show¬shK (zAt zs L.2.1) L t<0 by omega)];simp only[j7,show J L.2.2.2.2.2.2.1.length=(L.2.2.2.2.2.2.1.length:E) from rfl];have hon:onX zs cs L t=cond (okW L.2.2.2.2.2.2.1 (secD (locD (zAt zs L.2.1) t))) (calB zs cs L t) false:=by grind[onX]
  rw[hon];by_cases hw:(L.2.2.2.2.2.2.1.length:E)>0
  .rw[j00 hw,j6,show jnY ((zs.getD L.2.1.toNat (D,0,[])).1,(zs.getD L.2.1.toNat (D,0,[])).2.1,(zs.getD L.2.1.toNat (D,0,[])).2.2) L.2.2.2.2.2.2.1 t=_ from ein];simp only[j4];unfold okW;rw[j00 hw,j6];cases hasB (secD (locD (zAt zs L.2.1) t)) L.2.2.2.2.2.2.1 with
   |false=>simp_all
   |true=>
    simp_all
  grind[okW]
 .rw[j00 (show shK (zAt zs L.2.1) L t<0 by omega)];have hon:onX zs cs L t=false:=by grind[onX]
  simp_all
theorem jzF{L:j0f}(hL:LC1 zs.length ps.length cs.length L){ss:O j0R}{t:E}(h0:0<=t)(h1:t<=8589934592):jmk (zs,ps,cs,ss) L t=G (perX zs cs L t):=by
 obtain⟨k,e,hk⟩:=jCq hs hL (ss:=ss) h0 h1;have hon:onX zs cs L t=Y->0<=shK (zAt zs L.2.1) L t:=jzE;simp(disch:=omega)only[jmk,show jjf (zs,ps,cs,ss) (L.1,L.2.1,(L.2.2.1.1,L.2.2.1.2),L.2.2.2.1,L.2.2.2.2.1,L.2.2.2.2.2.1,L.2.2.2.2.2.2.1,L.2.2.2.2.2.2.2.1,L.2.2.2.2.2.2.2.2) t=_ from e,S0];unfold perX;cases hc:onX zs cs L t with
 |false=>rfl
 |true=>have hm0:=hL.m0;have hk0:=hon hc;have:=hk hc;subst this;have q1:0<=U (shK (zAt zs L.2.1) L t) (L.2.2.2.2.2.1.length:E):=Æ _ hk0;have q2:U (shK (zAt zs L.2.1) L t) (L.2.2.2.2.2.1.length:E)<(L.2.2.2.2.2.1.length:E):=Ä _ omg_;rw[j3Z (show¬(L.2.2.2.2.2.1.length:E)=0 by omega),j0B q1 q2];rfl
end
theorem jjH:∀{l l':SL}{p q:E},StS p l->StS q l'->(∀x,inS x l↔inS x l')->l=l'
 |[],[],_,_,_,_,_=>rfl
 |[],s::r,_,_,_,h',hx=>absurd ((hx s.1).2 (j0i.2 (.inl ⟨I _,h'.2.1⟩))) j2V
 |s::r,[],_,_,h,_,hx=>absurd ((hx s.1).1 (j0i.2 (.inl ⟨I _,h.2.1⟩))) j2V
 |s::r,s'::r',p,q,h,h',hx=>by
  obtain⟨h1,h2,h3⟩:=h;obtain⟨g1,g2,g3⟩:=h'
  have e1:s.1=s'.1:=by
   have a1:=(hx s.1).1 (j0i.2 (.inl ⟨I _,h2⟩));have a2:=(hx s'.1).2 (j0i.2 (.inl ⟨I _,g2⟩));rcases j0i.1 a1 with a1|a1
   .rcases j0i.1 a2 with a2|a2
    .omega
    .have:=h3.low a2;omega
   .have:=g3.low a1;rcases j0i.1 a2 with a2|a2
    .omega
    .have:=h3.low a2;omega
  have e2:s.2=s'.2:=by
   apply F;intro hne;by_cases hlt:s.2<s'.2
   .rcases j0i.1 ((hx s.2).2 (j0i.2 (.inl ⟨omg_,hlt⟩))) with a|a
    .omega
    .have:=h3.low a;omega
   .rcases j0i.1 ((hx s'.2).1 (j0i.2 (.inl ⟨omg_,omg_⟩))) with a|a
    .omega
    .have:=g3.low a;omega
  have hs:s=s':=Prod.ext e1 e2;subst hs;rw[jjH h3 g3 (λx=>?_)];constructor
  .intro a;have:=h3.low a;exact(j0i.1 ((hx x).1 (j0i.2 (.inr a)))).resolve_left omg_
  .intro a;have:=g3.low a;exact(j0i.1 ((hx x).2 (j0i.2 (.inr a)))).resolve_left omg_
theorem jxI:∀{A B:SL}{lo mid:E},InO lo A->InO mid B->lo<=mid->(∀s∈A,s.2<=mid)->InO lo (A++B)
 |[],B,lo,mid,_,hB,h,_=>hB.weak h
 |s::A,B,lo,mid,hA,hB,h,hs=>⟨hA.1,hA.2.1,jxI hA.2.2 hB (hs s smp_) (λu hu=>hs u (by simp[hu]))⟩
theorem jzG{f lo:E}:∀{l:SL},InO lo l->(∀s∈l,f<=s.1)->InO f l
 |[],_,_=>trivial
 |s::r,h,hf=>⟨hf s smp_,h.2⟩
theorem jtR:∀{A:SL}{p:E}{x:E×E},StS p A->p<x.1->(∀s∈A,s.2<x.1)->x.1<x.2->StS p (A++[x])
 |[],_,_,_,hp,_,hx=>⟨hp,hx,trivial⟩
 |s::A,p,x,h,_,hs,hx=>⟨h.1,h.2.1,jtR h.2.2 (hs s smp_) (λu hu=>hs u (by simp[hu])) hx⟩
theorem jtS:∀{A:SL}{p e:E}{y:E×E},StS p (A++[y])->y.2<=e->StS p (A++[(y.1,e)])
 |[],_,_,_,h,he=>⟨h.1,by have:=h.2.1;dsimp only;omega,trivial⟩
 |_::A,_,_,_,h,he=>⟨h.1,h.2.1,jtS h.2.2 he⟩
theorem jAF:∀{A:SL}{p:E}{y:E×E},StS p (A++[y])->∀s∈A,s.2<y.1
 |[],_,_,_,s,hs=>by simp at hs
 |u::A,p,y,h,s,hs=>by
  have low:∀{A:SL}{p:E},StS p (A++[y])->p<y.1:=by
   intro A;induction A with
   |nil=>intro p h;exact h.1
   |cons v r ih=>intro p h;have:=ih h.2.2;have:=h.1;have:=h.2.1;omega
  rcases List.mem_cons.1 hs with rfl|hs
  .exact low h.2.2
  .exact jAF h.2.2 s hs
def jnA(l:SL)(x:E×E):SL:=cond (S (0<l.length)&&S ((l.getD (l.length-1) (0,0)).2=x.1)) (l.set (l.length-1) ((l.getD (l.length-1) (0,0)).1,x.2)) (l++[x])
theorem jxJ(l:SL)(x:E×E):(jnA l x).length<=l.length+1:=by
 grind[jnA]
theorem jAG{p:E}{l:SL}{x:E×E}(h:StS p l)(hp:p<x.1)(hx:x.1<x.2)(hl:∀s∈l,s.2<=x.1) :
  StS p (jnA l x)/\(∀y,inS y (jnA l x)↔inS y l\/(x.1<=y/\y<x.2))/\(∀s∈jnA l x,s.2<=x.2):=by
 rcases À l with rfl|⟨A,u,rfl⟩
 .refine⟨⟨hp,hx,trivial⟩,λy=>?_,λs hs=>?_⟩;all_goals grind[j0i,jnA]
 .rw[Á]at h hl ⊢;have hlt:=jAF h;have hu:=hl u smp_;have hg:(A++[u]).getD ((A++[u]).length-1) (0,0)=u:=by simp[X]
  unfold jnA;rw[hg];by_cases he:u.2=x.1
  .rw[j00 smp_,j00 he];simp only[Bool.and_self,j6];have hset:(A++[u]).set ((A++[u]).length-1) (u.1,x.2)=A++[(u.1,x.2)]:=smp_;rw[hset];refine⟨jtS h omg_,λy=>?_,λs hs=>?_⟩
   .rw[jiA,jiA,j0i,j0i]
    have hu2:u.1<u.2:=by
     have:∀{A:SL}{p:E},StS p (A++[u])->u.1<u.2:=by
      intro A;induction A with
      |nil=>intro p h;exact h.2.1
      |cons v r ih=>intro p h;exact ih h.2.2
     exact this h
    grind
   grind
  .rw[j01 he];simp only[Bool.and_false,j7];refine⟨jtR h hp (λs hs=>?_) hx,λy=>?_,λs hs=>?_⟩
   .rcases List.mem_append.1 hs with hs'|hs'
    .have:=hlt s hs'
     have hu2:u.1<u.2:=by
      have:∀{A:SL}{p:E},StS p (A++[u])->u.1<u.2:=by
       intro A;induction A with
       |nil=>intro p h;exact h.2.1
       |cons v r ih=>intro p h;exact ih h.2.2
      exact this h
     omega
    grind
   all_goals grind[jiA,j0i]
theorem jAH{p hi:E}:∀(b l:SL)(lo:E),StS p l->InO lo b->p<lo->(∀s∈l,s.2<=lo)->lo<=hi->(∀s∈b,s.2<=hi)->
  StS p (b.foldl jnA l)/\(∀y,inS y (b.foldl jnA l)↔inS y l\/inS y b)/\(∀s∈b.foldl jnA l,s.2<=hi)/\(b.foldl jnA l).length<=l.length+b.length
 |[],l,lo,h,_,_,hl,hlo,_=>⟨h,λy=>⟨.inl,λh=>h.resolve_right j2V⟩,λs hs=>by grind,smp_⟩
 |x::b,l,lo,h,hb,hp,hl,hlo,hhi=>by
  obtain⟨b1,b2,b3⟩:=hb;obtain⟨j1,j2,j3⟩:=jAG h (x:=x) omg_ b2 (λs hs=>by grind);have hx:=hhi x smp_;obtain⟨k1,k2,k3,k4⟩:=jAH b (jnA l x) x.2 j1 b3 omg_ j3 hx (λs hs=>hhi s (by simp[hs]));grind[jnA,j0i]
theorem jAI{b:SL}(hb:b.length<=1000000):∀(n i:R)(l:SL),i+n=b.length->l.length+n<=10000000->jfp b (i:E) l=G ((b.drop i).foldl jnA l)
 |0,i,l,hi,_=>by
  grind[jhK,j7w,j7f,S0]
 |n+1,i,l,hi,hl=>by
  have hlt:i<b.length:=omg_;have hgd:b.getD i (0,0)=b[i]:=by simp[X,hlt]
  have ih:=jAI hb n (i+1) (jnA l b[i]) omg_ (by grind[jxJ]);rw[show ((i+1:R):E)=(i:E)+1 by omega]at ih;rw[jhK,H hlt];simp only[j7w,j7f,show J b.length=(b.length:E) from rfl,show J l.length=(l.length:E) from rfl,Z];rw[j00 (show (i:E)<(b.length:E) by omega),j6,j0B (i:=(i:E)) (n:=b.length) omg_ omg_,j07 (x:=(i:E)+1)];simp only[j6,j8,hgd];have hsz:S (l.length+[(b[i].1,b[i].2)].length<=j03)=true:=j00 (by simp[j03];omega);by_cases h0:0<l.length
  .rw[j00 (show (l.length:E)>0 by omega),j07 (x:=(l.length:E)-1),j0B (i:=(l.length:E)-1) omg_ omg_,show ((l.length:E)-1).toNat=l.length-1 by omega];simp only[j6];grind[jnA,j04]
  grind[jnA,S0]
theorem jzH{l b:SL}(hb:b.length<=1000000)(hl:l.length<=1000000):jjd l b=G (b.foldl jnA l):=by
 have:=jAI hb b.length 0 l omg_ omg_;grind[jjd]
theorem sec5{d s:E}(hd : -1<=d)(hd2:d<=1000000)(hs:0<=s)(hs2:s<=86399):j9K (d,s)=G ((d*86400+s+259200)%604800):=by
 have e:U d 7+10=d%7+10\/d = -1:=by grind
 simp only[j9K,jd6,j4];rcases e with e|rfl
 .simp(disch:=omega)only[jks,S0];congr 1;omega
 grind[j24]
def pcW(f t st:E):WL->SL
 |[]=>[]
 |v::r=>cond (S ((ent f t st v).1<(ent f t st v).2)) (ent f t st v::pcW f t st r) (pcW f t st r)
def pcA(w:WL)(f t:E):R->E->SL
 |0,_=>[]
 |m+1,st=>cond (S (st<t)) (pcW f t st w++pcA w f t m (st+604800)) []
theorem jsy(f t st:E):∀w:WL,(pcW f t st w).length<=w.length
 |[]=>by simp[pcW]
 |v::r=>by
  have:=jsy f t st r;unfold pcW;cases S ((ent f t st v).1<(ent f t st v).2)<;>simp<;>omega
theorem jAJ{w:WL}(hw:WOk 0 w)(hl:w.length<=14){st f t:E}(hst : -1000000<=st)(hst2:st<=8600000000):∀(n i:R)(acc:SL),i+n=w.length->acc.length+n<=1000000->
  jdX w f t st (i:E) acc=G (w,f,t,st,acc++pcW f t st (w.drop i))
 |0,i,acc,hi,_=>by
  grind[jgG,j6M,S0,pcW]
 |n+1,i,acc,hi,ha=>by
  have hlt:i<w.length:=omg_;have hgd:w.getD i (0,0)=w[i]:=by simp[hlt]
  have hg:=jix hw i hlt;rw[hgd]at hg;rw[jgG,H hlt];simp only[j6M,show J w.length=(w.length:E) from rfl];rw[j00 (show (i:E)<(w.length:E) by omega),j2j];simp only[j6,j8,hgd];rw[j07 (x:=(i:E)+1),j07 (x:=st+w[i].1),j07 (x:=st+w[i].2)];have ec:(S ((if st+w[i].1>f then st+w[i].1 else f)<(if st+w[i].2<t then st+w[i].2 else t)))=S ((ent f t st w[i]).1<(ent f t st w[i]).2):=rfl;rw[ec];have ih:=λacc h=>jAJ hw hl hst hst2 (f:=f) (t:=t) n (i+1) acc omg_ h;rw[show ((i+1:R):E)=(i:E)+1 by omega]at ih;simp only[pcW];cases S ((ent f t st w[i]).1<(ent f t st w[i]).2) with
  |true=>simp(disch:=omega)only[S0];grind[ent]
  |false=>grind[j04]
theorem jAK{w:WL}(hw:WOk 0 w)(hl:w.length<=14){f t:E}(ht:t<=8589934592):∀(m:R)(st:E)(acc:SL), -1000000<=st->t<=st+604800*m->acc.length+14*m<=900000->
  jgH w f t st acc=G (acc++pcA w f t m st)
 |0,st,acc,hst,hm,_=>by
  rw[jgI];simp(disch:=omega)only[j6N,S0];simp[pcA]
 |m+1,st,acc,hst,hm,hacc=>by
  rw[jgI];simp only[j6N,pcA];by_cases hlt:st<t
  .have h2:=jAJ hw hl hst omg_ (f:=f) (t:=t) w.length 0 acc omg_ omg_;rw[show ((0:R):E)=0 from rfl,Ç]at h2;have hlen:=jsy f t st w;simp(disch:=omega)only[h2,S0];have:=jAK hw hl ht m (st+604800) (acc++pcW f t st w) omg_ omg_ sqo_ (f:=f);rw[List.append_assoc]at this;exact this
  .rw[j01 hlt,j7,j0e,j7,List.append_nil]
theorem jxK{f t st:E}:∀{w:WL}{p:E},WOk p w->InO (st+p) (pcW f t st w)/\∀s∈pcW f t st w,f<=s.1/\s.2<=t/\s.2<=st+604800
 |[],_,_=>⟨trivial,λs hs=>by simp[pcW]at hs⟩
 |v::r,p,h=>by
  obtain⟨h1,h2,h3,h4⟩:=h;obtain⟨i1,i2⟩:=jxK (f:=f) (t:=t) (st:=st) h4;unfold pcW;by_cases hc:(ent f t st v).1<(ent f t st v).2
  .have e1:st+v.1<=(ent f t st v).1/\f<=(ent f t st v).1:=by unfold ent;dsimp only;split<;>omega
   have e2:(ent f t st v).2<=st+v.2/\(ent f t st v).2<=t:=by unfold ent;dsimp only;split<;>omega
   rw[j00 hc,j6];refine⟨⟨omg_,hc,i1.weak omg_⟩,λs hs=>?_⟩;rcases List.mem_cons.1 hs with rfl|hs
   .exact⟨e1.2,e2.2,omg_⟩
   .exact i2 s hs
  .rw[j01 hc,j7];exact⟨i1.weak omg_,i2⟩
theorem jAL{f t st x:E}:∀{w:WL}{p:E},WOk p w->(inS x (pcW f t st w)↔f<=x/\x<t/\∃v∈w,st+v.1<=x/\x<st+v.2)
 |[],_,_=>⟨λh=>absurd h j2V,λ⟨_,_,v,hv,_⟩=>by simp at hv⟩
 |v::r,p,h=>by
  obtain⟨h1,h2,h3,h4⟩:=h;have ih:=jAL (f:=f) (t:=t) (st:=st) (x:=x) h4
  have he:((ent f t st v).1<=x/\x<(ent f t st v).2)↔f<=x/\x<t/\st+v.1<=x/\x<st+v.2:=by
   unfold ent;dsimp only;constructor
   .rintro⟨a1,a2⟩
    have b1:f<=x/\st+v.1<=x:=by split at a1<;>omega
    have b2:x<t/\x<st+v.2:=by split at a2<;>omega
    exact⟨b1.1,b2.1,b1.2,b2.2⟩
   .rintro⟨a1,a2,a3,a4⟩
    refine⟨?_,?_⟩<;>split<;>omega
  unfold pcW;by_cases hc:(ent f t st v).1<(ent f t st v).2
  .rw[j00 hc,j6,j0i,ih,he];constructor
   .rintro (⟨a1,a2,a3,a4⟩|⟨a1,a2,u,hu,a3⟩)
    .exact⟨a1,a2,v,smp_,a3,a4⟩
    .exact⟨a1,a2,u,by simp[hu],a3⟩
   .rintro⟨a1,a2,u,hu,a3⟩
    rcases List.mem_cons.1 hu with rfl|hu
    .exact .inl ⟨a1,a2,a3⟩
    .exact .inr ⟨a1,a2,u,hu,a3⟩
  .rw[j01 hc,j7,ih];constructor
   .rintro⟨a1,a2,u,hu,a3⟩;exact⟨a1,a2,u,by simp[hu],a3⟩
   .rintro⟨a1,a2,u,hu,a3⟩
    rcases List.mem_cons.1 hu with rfl|hu
    .have:=he.2 ⟨a1,a2,a3⟩;omega
    .exact⟨a1,a2,u,hu,a3⟩
theorem jAM{w:WL}(hw:WOk 0 w){f t:E}:∀(m:R)(st:E),t<=st+604800*m->
  InO st (pcA w f t m st)/\(∀s∈pcA w f t m st,f<=s.1/\s.2<=t)/\(pcA w f t m st).length<=w.length*m/\∀x,inS x (pcA w f t m st)↔f<=x/\x<t/\st<=x/\hasB ((x-st)%604800) w=Y
 |0,st,hm=>⟨trivial,λs hs=>by simp[pcA]at hs,by simp[pcA],λx=>⟨λh=>absurd h j2V,λh=>omg_⟩⟩
 |m+1,st,hm=>by
  obtain⟨i1,i2,i3,i4⟩:=jAM hw (f:=f) (t:=t) m (st+604800) omg_;obtain⟨j1,j2⟩:=jxK (f:=f) (t:=t) (st:=st) hw;rw[Int.add_zero]at j1;unfold pcA;by_cases hlt:st<t
  .rw[j00 hlt,j6];refine⟨jxI j1 i1 omg_ (λs hs=>(j2 s hs).2.2),λs hs=>?_,?_,λx=>?_⟩
   .rcases List.mem_append.1 hs with hs|hs
    .exact⟨(j2 s hs).1,(j2 s hs).2.1⟩
    .exact i2 s hs
   .have:=jsy f t st w;rw[List.length_append,È];omega
   .rw[jiA,i4 x,jAL hw];constructor
    .rintro (⟨a1,a2,v,hv,a3,a4⟩|⟨a1,a2,a3,a4⟩)
     .obtain⟨i,hi,rfl⟩:=List.getElem_of_mem hv;have hg:=jix hw i hi;rw[show w.getD i (0,0)=w[i] by simp[hi]]at hg;exact⟨a1,a2,omg_,jn0.2 ⟨w[i],hv,omg_,omg_⟩⟩
     .refine⟨a1,a2,omg_,?_⟩;rw[show (x-st)%604800=(x-(st+604800))%604800 by omega];exact a4
    .rintro⟨a1,a2,a3,a4⟩
     by_cases hx:st+604800<=x
     .refine .inr ⟨a1,a2,hx,?_⟩;rw[show (x-(st+604800))%604800=(x-st)%604800 by omega];exact a4
     .obtain⟨v,hv,c1,c2⟩:=jn0.1 a4;have e1:(x-st)%604800=x-st:=omg_;rw[e1]at c1 c2;exact .inl ⟨a1,a2,v,hv,omg_,omg_⟩
  .rw[j01 hlt,j7];exact⟨trivial,λs hs=>by simp at hs,smp_,λx=>⟨λh=>absurd h j2V,λh=>omg_⟩⟩
theorem jE8{w:WL}(hw:WOk 0 w)(hl:w.length<=14){f t n:E}(hf:0<=f)(ht:t<=8589934592)(hft:f<t)(hn : -64800<=n)(hn2:n<=64800){M:R}(hM:M<=60)(hlen:t-f<=604800*M) :
  ∃P,jgJ w f t n=G P/\InO f P/\(∀s∈P,s.2<=t)/\P.length<=w.length*(M+1)/\∀x,inS x P↔f<=x/\x<t/\hasB ((x+n+259200)%604800) w=true:=by
 have e1:j9K ((f+n+864000)/86400-10,(f+n+864000)%86400)=G ((f+n+259200)%604800):=by grind[sec5]
 generalize hst:f-(f+n+259200)%604800=st
 obtain⟨a1,a2,a3,a4⟩:=jAM hw (f:=f) (t:=t) (M+1) st omg_;refine⟨pcA w f t (M+1) st,?_,jzG a1 (λs hs=>(a2 s hs).1),λs hs=>(a2 s hs).2,a3,λx=>?_⟩
 .simp only[jgJ];rw[j07 (x:=f+n),j07 (x:=f+n+864000),jei omg_,j07 (x:=(f+n+864000)/86400),j07 (x:=(f+n+864000)/86400-10),jks omg_,e1];grind[j24,jAK]
 grind
def inP(o:E)(l:TrL)(w:WL)(a b:E)(k:R)(x:E):Prop:=a<=x/\x<b/\∃j,j<k/\frm l j<=x/\x<frm l (j+1)/\hasB ((x+tof o l j+259200)%604800) w=Y
theorem jCr{o:E}{l:TrL}(h:TOk o l){w:WL}(hw:WOk 0 w)(hl:w.length<=14){M:R}(hM:M<=60){a b:E}(ha:0<=a)(hab:a<=b)(hb:b<=8589934592)(hlen:b-a<=604800*M)(nm:Å)(rs:O Rule)(hll:l.length<=20){c:R}(hc0:w.length*(M+1)<=c)(hc1:c<=854):∀(n k:R)(acc:SL),k+n=l.length+1->
  StS (a-1) acc->(∀s∈acc,s.2<=max a (frm l k)/\s.2<=b)->acc.length<=c*k->(∀x,inS x acc↔inP o l w a b k x)->
  ∃out,jdY w a b ((k:E)-1) nm o rs l acc=G out/\StS (a-1) out/\(∀s∈out,s.2<=b)/\out.length<=c*(l.length+1)/\∀x,inS x out↔inP o l w a b (l.length+1) x
 |0,k,acc,hk,h1,h2,h3,h4=>by
  have hk:k=l.length+1:=omg_;subst hk;refine⟨acc,?_,h1,λs hs=>(h2 s hs).2,h3,h4⟩;rw[jgK];simp(disch:=omega)only[j6O,j4N,j6C,S0]
 |n+1,k,acc,hk,h1,h2,h3,h4=>by
  have hkl:k<=l.length:=omg_;have hck:c*k<=854*20:=Â hc1 omg_;have hcs:c*(k+1)=c*k+c:=È c k;have o0:=h.of0 k hkl;have o1:=h.of1 k hkl;have hfl:=h.frm_lt (i:=k) hkl;have hf0:=h.frm_le (i:=0) (j:=k) omg_ omg_;rw[frm0]at hf0;have hend:k=l.length->frm l (k+1)=8589934593:=λe=>by rw[e];exact j7U
  have key:∀A:Option ((WL×E×E×E×Å×E×O Rule×TrL×SL) ⊕ SL),
    A=(if max a (frm l k)<min b (frm l (k+1)) then (jgJ w (max a (frm l k)) (min b (frm l (k+1))) (tof o l k)).bind λp=>(jjd acc p).bind λj=>G (.inl (w,a,b,(k:E),nm,o,rs,l,j)) else G (.inl (w,a,b,(k:E),nm,o,rs,l,acc)))->
    ∃out,lpK A (λh=>jdY h.1 h.2.1 h.2.2.1 h.2.2.2.1 h.2.2.2.2.1 h.2.2.2.2.2.1 h.2.2.2.2.2.2.1 h.2.2.2.2.2.2.2.1 h.2.2.2.2.2.2.2.2)=G out/\StS (a-1) out/\(∀s∈out,s.2<=b)/\out.length<=c*(l.length+1)/\∀x,inS x out↔inP o l w a b (l.length+1) x:=by
   intro A hA;have e1:((k+1:R):E)-1=(k:E):=omg_;by_cases hc:max a (frm l k)<min b (frm l (k+1))
   .rw[if_pos hc]at hA;obtain⟨p,ep,p1,p2,p3,p4⟩:=jE8 hw hl (f:=max a (frm l k)) (t:=min b (frm l (k+1))) omg_ omg_ hc o0 o1 hM omg_;obtain⟨q1,q2,q3,q4⟩:=jAH (p:=a-1) (hi:=min b (frm l (k+1))) p acc (max a (frm l k)) h1 p1 omg_ (λs hs=>(h2 s hs).1) omg_ p2;rw[ep,j4,jzH omg_ omg_,j4]at hA;rw[hA,j04];have ih:=jCr h hw hl hM ha hab hb hlen nm rs hll hc0 hc1 n (k+1) (p.foldl jnA acc) omg_ q1 (λs hs=>by grind) omg_ (λx=>?_)
    .simp_all
    .rw[q2 x,h4 x,p4 x];constructor
     .rintro (⟨a1,a2,j,a3,a4⟩|⟨a1,a2,a3⟩)
      .exact⟨a1,a2,j,omg_,a4⟩
      .exact⟨omg_,omg_,k,omg_,omg_,omg_,a3⟩
     .rintro⟨a1,a2,j,a3,a4,a5,a6⟩
      by_cases hj:j=k
      .grind
      .exact .inl ⟨a1,a2,j,omg_,a4,a5,a6⟩
   .rw[if_neg hc]at hA;rw[hA,j04];have ih:=jCr h hw hl hM ha hab hb hlen nm rs hll hc0 hc1 n (k+1) acc omg_ h1 (λs hs=>by grind) omg_ (λx=>?_)
    .simp_all
    .rw[h4 x];constructor
     .rintro⟨a1,a2,j,a3,a4⟩
      exact⟨a1,a2,j,omg_,a4⟩
     .rintro⟨a1,a2,j,a3,a4,a5,a6⟩
      by_cases hj:j=k
      .subst hj;omega
      .exact⟨a1,a2,j,omg_,a4,a5,a6⟩
  rw[jgK];refine key _ ?_;simp only[j6O,j4N,j6C,show J l.length=(l.length:E) from rfl];rw[j00 (show (k:E)-1<(l.length:E) by omega),j6,j07 (x:=(k:E)-1+1),show (k:E)-1+1=(k:E) by omega];have hmax:∀u:E,(if u>a then u else a)=max a u:=λu=>by split<;>omega
  have hmin:∀u:E,(if u<b then u else b)=min b u:=λu=>by split<;>omega
  rcases Nat.eq_zero_or_pos k with hk0|hk0
  .subst hk0;have et:tof o l 0=o:=rfl;have em:max a (frm l 0)=a:=by rw[frm0];omega
   rw[j01 (show¬((0:R):E)-1>=0 by omega),j7,em,et];by_cases hl0:0<l.length
   .have ef:(l.getD 0 (0,0)).1=frm l 1:=(jau hl0).symm;grind[j0B]
   grind
  .obtain⟨k,rfl⟩:∃k',k=k'+1:=⟨k-1,omg_⟩;have e1:((k+1:R):E)-1=(k:E):=omg_;have et:(l.getD k (0,0)).2=tof o l (k+1):=rfl;have ef0:(l.getD k (0,0)).1=frm l (k+1):=(jau omg_).symm;rw[e1,j00 (show (k:E)>=0 by omega),j6,j0B (i:=(k:E)) omg_ omg_];simp only[j6,j8,et,ef0,hmax];by_cases hl0:k+1<l.length
   .have ef:(l.getD (k+1) (0,0)).1=frm l (k+1+1):=(jau hl0).symm;grind[j0B]
   grind
theorem jo6{z:Å×E×O Rule}{l:TrL}(h4:Z4 z l)(hll:l.length<=20){w:WL}(hck:j8p w=G 0)(hw:WOk 0 w)(hl:w.length<=14){M:R}(hM:M<=60){a b:E}(ha:0<=a)(hab:a<=b)(hb:b<=8589934592)(hlen:b-a<=604800*M)(hq:b-a<=34560000) :
  ∃out,j7x z w a b=G (if out.length>4096 then ([],5) else (out,0))/\StS (a-1) out/\(∀s∈out,s.2<=b)/\out.length<=w.length*(M+1)*(l.length+1)/\
   ∀k,k<=l.length->∀x,a<=x->x<b->frm l k<=x->x<frm l (k+1)->(inS x out↔hasB ((x+tof z.2.1 l k+259200)%604800) w=Y):=by
 obtain⟨out,e,o1,o2,o3,o4⟩:=jCr h4.2 hw hl hM ha hab hb hlen z.1 z.2.2 hll (Nat.le_refl _) (Nat.le_trans (Â hl (show M+1<=61 by omega)) (by decide)) (l.length+1) 0 [] omg_ trivial (λs hs=>by simp at hs) smp_ (λx=>⟨λh=>absurd h j2V,λ⟨_,_,j,hj,_⟩=>omg_⟩);rw[show ((0:R):E)-1 = -1 from rfl]at e;refine⟨out,?_,o1,o2,o3,λk hk x x0 x1 k0 k1=>?_⟩
 .have er:j5E a b=G true:=by grind[j5E,j24]
  simp(disch:=omega)only[j7x,show j0c (z.1,z.2.1,z.2.2)=_ from h4.1,hck,er,e,S0];grind
 .rw[o4 x];constructor
  .rintro⟨_,_,j,hj,j0,j1,j2⟩
   have:j=k:=by
    rcases Nat.lt_trichotomy j k with hlt|he|hlt
    .have:=h4.2.frm_le (i:=j+1) (j:=k) omg_ omg_;omega
    .exact he
    .have:=h4.2.frm_le (i:=k+1) (j:=j) omg_ omg_;omega
   subst this;exact j2
  .exactλhx=>⟨x0,x1,k,omg_,k0,k1,hx⟩
end Go.Proofs.Pw
