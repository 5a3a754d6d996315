/- duty.Merge, duty.View.Segments: who is on duty in a range. -/
import Derived.Test.YtllkgjaoejhneaaGreatDEPH
import Derived.Test.YtllkgjaoejhneaaGreatDEPG
import Derived.KernelRfl
import Derived.Test.YtllkgjaoejhneaaGreatDEPE
open ByteArray renaming empty->q,ext->Y
open _root_ renaming Int->D,List->E,Nat->O
open Int renaming ofNat->F,tmod->H
open Option renaming some->G,some_or->S,none->X
open Bool renaming true->I,false->W
open Go Go.Lft
namespace Go.Proofs.Pw
theorem jwu (l:SgL) (x y:SgT):(l++[x]).set l.length y=l++[y]:=by
 rw [vv _ _ (jz _)];simp
theorem jnn (out:SgL) (s:SgT):(mgA out s).length≤out.length+1:=by
 unfold mgA
 split
 ·omega
 ·rcases vb out with rfl | ⟨l,u,rfl⟩
  ·simp
  ·rw [vc,yd]
   simp only [vj,S]
   split
   ·simp
   ·simp
theorem jqK:∀ (l out:SgL),(l.foldl mgA out).length≤out.length+l.length
 | [],out=>smp_
 | s::r,out=>by
  have:=jqK r (mgA out s)
  have:=jnn out s
  simp only [yk,jp];omega
theorem jzC {l:SgL} (hl:l.length≤1000000000):∀ (n i:O) (out:SgL),i+n=l.length→out.length≤i→j6f l (l.length:D) (i:D) out=G ((l.drop i).foldl mgA out)
 | 0,i,out,hi,ho=>by
  rw [jdY]
  simp only [j4e]
  rw [j01 omg_,jd,j08,jj omg_]
  rfl
 | n+1,i,out,hi,ho=>by
  have hi':i<l.length:=omg_
  have hgd:l.getD i ((0:D),((0:D),(0:D)))=l[i]:=by simp [List.getD,hi']
  have ih:∀ out':SgL,out'=mgA out l[i]→j6f l (l.length:D) ((i:D)+1) out'=G ((l.drop i).foldl mgA out):=fun out' he=>by
   rw [jh hi',yk,←he]
   have:=jnn out l[i]
   exact jzC hl n (i+1) out' omg_ (by rw [he];omega)
  rw [jdY]
  simp only [j4e]
  rw [j00 omg_,j1o]
  simp only [jc,je,hgd,show F out.length=(out.length:D) from rfl]
  rw [j07 (x:=(i:D)+1)]
  generalize l[i]=s at *
  by_cases hs:s.2.1≤s.1
  ·rw [j00 hs,jc,j06]
   exact ih _ (by unfold mgA;rw [if_pos hs])
  ·rw [j01 hs,jd]
   rcases vb out with rfl | ⟨o,u,rfl⟩
   ·simp only [qc]
    rw [j01 (show ¬ ((0:O):D)>0 by omega),jd,j00 (show 0+[(s.1,(s.2.1,s.2.2))].length≤j05 by simp [j05]),jc,j06]
    exact ih _ (by unfold mgA;rw [if_neg hs];rfl)
   ·rw [vc] at ih ho ⊢
    have hol:(o++[u]).length=o.length+1:=smp_
    rw [hol] at ho
    have hg2:(o++[u]).getD o.length ((0:D),((0:D),(0:D)))=u:=by simp [List.getD]
    rw [hol,j00 (show ((o.length+1:O):D)>0 by omega),jc,j07 (x:=((o.length+1:O):D)-1),show ((o.length+1:O):D)-1=(o.length:D) by omega,j1o]
    simp only [jc,je,hg2]
    have hmg:mgA (o++[u]) s=if u.2.1=s.1∧u.2.2=s.2.2 then o++[(u.1,(s.2.1,u.2.2))] else (o++[u])++[s]:=by
     unfold mgA
     rw [if_neg hs,yd]
     simp only [vj,S,yc]
    by_cases h1:u.2.1=s.1
    ·rw [j5N h1,jc]
     by_cases h2:u.2.2=s.2.2
     ·rw [j5N h2,jc,j06,jwu]
      exact ih _ (by rw [hmg,if_pos ⟨h1,h2⟩])
     ·rw [j2q h2,jd,j00 (show o.length+1+[(s.1,(s.2.1,s.2.2))].length≤j05 by simp [j05];omega),jc,j06]
      exact ih _ (by rw [hmg,if_neg (fun h=>h2 h.2)])
    ·rw [j2q h1,jd,j00 (show o.length+1+[(s.1,(s.2.1,s.2.2))].length≤j05 by simp [j05];omega),jc,j06]
     exact ih _ (by rw [hmg,if_neg (fun h=>h1 h.1)])
theorem jpg {l:SgL} (hl:l.length≤1000000000):jag l=G (l.foldl mgA []):=by
 simp only [jag,show F l.length=(l.length:D) from rfl]
 rw [show j6f l (l.length:D) 0 []=_ from jzC hl l.length 0 [] omg_ smp_]
 rfl
theorem jvb {f:D→D} {a b:D} {l:SgL} (hl:l.length≤1000000000) (h:Ch f b a l):∃ out,jag l=G out∧Cov f b X a out∧out.length≤l.length:=
 ⟨_,jpg hl,h.cov,by have:=jqK l [];simpa using this⟩
section
variable {zs:E j1l} {ps:E j1s} {cs:E CalT} (hs:GOk zs ps cs)
include hs
theorem jno {L:j0j} (hL:LC1 zs.length ps.length cs.length L) {t u:D} (h0:0≤t) (htu:t≤u) (h1:u≤8589934592):shK (zAt zs L.2.1) L t≤shK (zAt zs L.2.1) L u:=by
 have hz:=zget hs.ok hL.z0 hL.z1
 have a:=(jcV hz hL.rt2 (t:=t) h0 omg_).2
 have b:=(jcV hz hL.rt2 (t:=u) omg_ h1).2
 show shK (zAt zs L.2.1) L t≤shK (zAt zs L.2.1) L u
 have a':ShO (zAt zs L.2.1).2.1 (tb (zAt zs L.2.1)).2 L t (shK (zAt zs L.2.1) L t):=a
 have b':ShO (zAt zs L.2.1).2.1 (tb (zAt zs L.2.1)).2 L u (shK (zAt zs L.2.1) L u):=b
 generalize shK (zAt zs L.2.1) L t=K at *
 generalize shK (zAt zs L.2.1) L u=K' at *
 rcases a' with ⟨a1,a2⟩ | ⟨a1,⟨v,hv,hvt⟩,a3⟩<;>rcases b' with ⟨b1,b2⟩ | ⟨b1,b2,b3⟩
 ·omega
 ·omega
 ·exact absurd (QO.le hz.ztab.2 hL.rt2 a1 ⟨v,hv,omg_⟩) b2
 ·apply kn
  intro hn
  exact b3 (QO.le hz.ztab.2 hL.rt2 (show K'+1≤K by omega) ⟨v,hv,omg_⟩)
def Cch (z:j1l) (L:j0j) (k nx t:D):Prop:=t<nx→(∀ u,t≤u→u<nx→u≤8589934592→shK z L u=k)∧(nx≤8589934592→k<shK z L nx)
theorem jyw {L:j0j} (hL:LC1 zs.length ps.length cs.length L) {t:D} (h0:0≤t) (h1:t≤8589934592) (hk:0≤shK (zAt zs L.2.1) L t) {v:D} {ok:Bool}
  (hv:j0N (tb (zAt zs L.2.1)) L (shK (zAt zs L.2.1) L t+1)=G (v,ok)):t<(cond ok v 8589934593)∧Cch (zAt zs L.2.1) L (shK (zAt zs L.2.1) L t) (cond ok v 8589934593) t:=by
 have hz:=zget hs.ok hL.z0 hL.z1
 have a:=(jcV hz hL.rt2 (t:=t) h0 h1).2
 have a':ShO (zAt zs L.2.1).2.1 (tb (zAt zs L.2.1)).2 L t (shK (zAt zs L.2.1) L t):=a
 have hu:∀ u,t≤u→u≤8589934592→ShO (zAt zs L.2.1).2.1 (tb (zAt zs L.2.1)).2 L u (shK (zAt zs L.2.1) L u):=fun u _ h2=>(jcV hz hL.rt2 (t:=u) omg_ h2).2
 generalize hK:shK (zAt zs L.2.1) L t=K at *
 rcases a' with ⟨a1,a2⟩ | ⟨a1,⟨w,hw,hwt⟩,a3⟩
 ·omega
 ·have hat:=jqH hz.ztab.2 hL.rt2 a1 hw
  obtain ⟨v',ev,hv'⟩:=recH hz.ztab.2 hL.rt2 (k:=K+1) omg_ omg_
  have:=ev.symm.trans hv
  simp only [jb,jf] at this
  obtain ⟨rfl,rfl⟩:=this
  cases hh:hO (zs.getD L.2.1.toNat (q,((0:D),([]:E Rule)))).2.1 (tb (zs.getD L.2.1.toNat (q,((0:D),([]:E Rule))))).2 L (K+1) with
  | none=>
   simp only [va,jd]
   exact ⟨omg_,fun _=>⟨fun u h2 h3 h4=>ShO.uniq hz.ztab.2 hL.rt2 (hu u h2 h4) (.inr ⟨a1,⟨w,hw,omg_⟩,fun ⟨x,hx,_⟩=>by
    have hx':=hh.symm.trans hx
    simp at hx'⟩),fun h=>omg_⟩⟩
  | some x=>
   have:=hv' x hh
   subst this
   simp only [zh,jc]
   refine ⟨?_,fun _=>⟨fun u h2 h3 h4=>ShO.uniq hz.ztab.2 hL.rt2 (hu u h2 h4) (.inr ⟨a1,⟨w,hw,omg_⟩,fun ⟨x,hx,hxu⟩=>by
    have hx':=hh.symm.trans hx
    simp only [jb] at hx'
    omega⟩),fun hle=> ?_⟩⟩
   rotate_left
   ·have hle':v'≤8589934592:=hle
    have htv:t≤v':=by
     apply kn
     intro hn
     exact a3 ⟨_,hh,omg_⟩
    have b':=hu v' htv hle'
    rcases b' with ⟨b1,b2⟩ | ⟨b1,b2,b3⟩
    ·exact absurd (QO.le hz.ztab.2 hL.rt2 (show (0:D)≤K+1 by omega) ⟨_,hh,kr _⟩) b2
    ·apply kn
     intro hn
     exact b3 (QO.le hz.ztab.2 hL.rt2 (show shK (zAt zs L.2.1) L v'+1≤K+1 by omega) ⟨_,hh,kr _⟩)
   apply kn
   intro hn
   exact a3 ⟨_,hh,omg_⟩
theorem jzD {L:j0j} (hL:LC1 zs.length ps.length cs.length L) {k:D} (hk:0≤k):∃ _:(H k (L.2.2.2.2.2.1.length:D)).toNat<L.2.2.2.2.2.1.length,0≤H k (L.2.2.2.2.2.1.length:D)∧H k (L.2.2.2.2.2.1.length:D)<(L.2.2.2.2.2.1.length:D)∧L.2.2.2.2.2.1.getD (H k (L.2.2.2.2.2.1.length:D)).toNat 0=whoL L k:=by
 have _:=hs
 have hm0:=hL.m0
 have q1:0≤H k (L.2.2.2.2.2.1.length:D):=vw _ hk
 have q2:H k (L.2.2.2.2.2.1.length:D)<(L.2.2.2.2.2.1.length:D):=v8 _ omg_
 exact ⟨omg_,q1,q2,rfl⟩
theorem jzE {L:j0j} (hL:LC1 zs.length ps.length cs.length L) {a b e p m j:D} {sp:SL} (ha:0≤a) (he:e≤8589934592) {B:D} (hB:B≤1000000):∀ (n:O) (t k nx:D) (acc:SgL),e-t=n→a≤t→
  (∀ u,t≤u→u<e→onX zs cs L u=I)→Cch (zAt zs L.2.1) L k nx t→Ch (perX zs cs L) t a acc→(t<e→(acc.length:D)≤B+shK (zAt zs L.2.1) L t)→
  (t=e→a<e→(acc.length:D)≤B+1+shK (zAt zs L.2.1) L (e-1))→
  ∃ k' nx' acc',j2S b t k nx m j L.1 L.2.1 L.2.2.1.1 L.2.2.1.2 L.2.2.2.1 L.2.2.2.2.1 L.2.2.2.2.2.1 L.2.2.2.2.2.2.1 L.2.2.2.2.2.2.2.1 L.2.2.2.2.2.2.2.2 (tb (zAt zs L.2.1)).1 (tb (zAt zs L.2.1)).2 p e acc sp=
   G (b,e,k',nx',m,j,L.1,L.2.1,L.2.2.1.1,L.2.2.1.2,L.2.2.2.1,L.2.2.2.2.1,L.2.2.2.2.2.1,L.2.2.2.2.2.2.1,L.2.2.2.2.2.2.2.1,L.2.2.2.2.2.2.2.2,(tb (zAt zs L.2.1)).1,(tb (zAt zs L.2.1)).2,acc',sp)∧
   Cch (zAt zs L.2.1) L k' nx' e∧Ch (perX zs cs L) e a acc'∧(a<e→(acc'.length:D)≤B+1+shK (zAt zs L.2.1) L (e-1))
 | n,t,k,nx,acc,hn,hat,hon,hc,hch,hl,hl2=>by
  have hz:=zget hs.ok hL.z0 hL.z1
  rw [jcE]
  simp only [j2w]
  by_cases hte:t<e
  ·rw [j00 hte,jc]
   have hont:=hon t (kr _) hte
   obtain ⟨eK,hK⟩:j1W (tb (zAt zs L.2.1)) L t=G (shK (zAt zs L.2.1) L t)∧ShO (zAt zs L.2.1).2.1 (tb (zAt zs L.2.1)).2 L t (shK (zAt zs L.2.1) L t):=jcV hz hL.rt2 (t:=t) omg_ omg_
   have hk0:0≤shK (zAt zs L.2.1) L t:=jwt hont
   have hkm:shK (zAt zs L.2.1) L t≤2386092:=by
    have hK':ShO (zAt zs L.2.1).2.1 (tb (zAt zs L.2.1)).2 L t (shK (zAt zs L.2.1) L t):=hK
    rcases hK' with ⟨h1,_⟩ | ⟨h1,⟨w,hw,_⟩,_⟩
    ·omega
    ·exact (jqH hz.ztab.2 hL.rt2 h1 hw).2.2
   obtain ⟨_,q1,q2,q3⟩:=jzD hs hL hk0
   have hm0:=hL.m0
   have hlt:=hl hte
   have step:∀ nx':D,t<nx'→Cch (zAt zs L.2.1) L (shK (zAt zs L.2.1) L t) nx' t→∀ acc':SgL,acc'=acc++[(t,((if nx'<e then nx' else e),whoL L (shK (zAt zs L.2.1) L t)))]→
     ∃ k'' nx'' acc'',j2S b (if nx'<e then nx' else e) (shK (zAt zs L.2.1) L t) nx' m j L.1 L.2.1 L.2.2.1.1 L.2.2.1.2 L.2.2.2.1 L.2.2.2.2.1 L.2.2.2.2.2.1 L.2.2.2.2.2.2.1 L.2.2.2.2.2.2.2.1 L.2.2.2.2.2.2.2.2 (tb (zAt zs L.2.1)).1 (tb (zAt zs L.2.1)).2 p e acc' sp=
      G (b,e,k'',nx'',m,j,L.1,L.2.1,L.2.2.1.1,L.2.2.1.2,L.2.2.2.1,L.2.2.2.2.1,L.2.2.2.2.2.1,L.2.2.2.2.2.2.1,L.2.2.2.2.2.2.2.1,L.2.2.2.2.2.2.2.2,(tb (zAt zs L.2.1)).1,(tb (zAt zs L.2.1)).2,acc'',sp)∧
      Cch (zAt zs L.2.1) L k'' nx'' e∧Ch (perX zs cs L) e a acc''∧(a<e→(acc''.length:D)≤B+1+shK (zAt zs L.2.1) L (e-1)):=by
    rintro nx' hnx hc' _ rfl
    obtain ⟨t',ht',h1,h2,h3,h4⟩:∃ t':D,t'=(if nx'<e then nx' else e)∧t<t'∧t'≤e∧t'≤nx'∧(t'<e→t'=nx'):=⟨_,rfl,by split<;>omega,by split<;>omega,by split<;>omega,fun h=>by
     by_cases hx:nx'<e
     ·rw [if_pos hx]
     ·rw [if_neg hx] at h;omega⟩
    rw [←ht']
    refine jzE hL ha he hB (e-t').toNat t' (shK (zAt zs L.2.1) L t) nx' _ omg_ omg_ (fun u u1 u2=>hon u omg_ u2) (fun h5=>⟨fun u u1 u2 u3=>(hc' hnx).1 u omg_ u2 u3,(hc' hnx).2⟩)
     (hch.snoc omg_ (fun u u1 u2=> ?_)) (fun hlt'=> ?_) (fun heq _=> ?_)
    ·unfold perX
     rw [hon u u1 omg_,(hc' hnx).1 u u1 omg_ omg_]
     rfl
    ·have hm:=jno hs hL (t:=t) (u:=t') omg_ omg_ omg_
     have hne:shK (zAt zs L.2.1) L t<shK (zAt zs L.2.1) L t':=by
      have:=h4 hlt'
      subst this
      exact (hc' hnx).2 omg_
     simp only [jo,qw]
     omega
    ·have hm:=jno hs hL (t:=t) (u:=e-1) omg_ omg_ omg_
     simp only [jo,qw]
     omega
   by_cases htn:t≥nx
   ·rw [j00 htn,jc]
    rw [show j1W ((tb (zAt zs L.2.1)).1,(tb (zAt zs L.2.1)).2) (L.1,L.2.1,(L.2.2.1.1,L.2.2.1.2),L.2.2.2.1,L.2.2.2.2.1,L.2.2.2.2.2.1,L.2.2.2.2.2.2.1,L.2.2.2.2.2.2.2.1,L.2.2.2.2.2.2.2.2) t=_ from eK]
    simp only [ja]
    rw [j07 (x:=shK (zAt zs L.2.1) L t+1)]
    obtain ⟨v,ev,_⟩:=recH hz.ztab.2 hL.rt2 (k:=shK (zAt zs L.2.1) L t+1) omg_ omg_
    have hcn:=jyw hs hL (t:=t) omg_ omg_ hk0 ev
    rw [show j0N ((tb (zAt zs L.2.1)).1,(tb (zAt zs L.2.1)).2) (L.1,L.2.1,(L.2.2.1.1,L.2.2.1.2),L.2.2.2.1,L.2.2.2.2.1,L.2.2.2.2.2.1,L.2.2.2.2.2.2.1,L.2.2.2.2.2.2.2.1,L.2.2.2.2.2.2.2.2) (shK (zAt zs L.2.1) L t+1)=_ from ev]
    simp only [ja,show F L.2.2.2.2.2.1.length=(L.2.2.2.2.2.1.length:D) from rfl]
    rw [j2q (show ¬ (L.2.2.2.2.2.1.length:D)=0 by omega),j1v q1 q2]
    have hsz:∀ x:SgT,acc.length+[x].length≤j05:=fun x=>by simp [j05];omega
    revert hcn
    generalize (hO (zs.getD L.2.1.toNat (q,((0:D),([]:E Rule)))).2.1 (tb (zs.getD L.2.1.toNat (q,((0:D),([]:E Rule))))).2 L (shK (zAt zs L.2.1) L t+1)).isSome=ok
    cases ok with
    | false=>
     intro hcn
     simp only [jt,jc]
     rw [j00 (hsz _),jc,j06]
     exact step 8589934593 hcn.1 hcn.2 _ (by rw [q3])
    | true=>
     intro hcn
     simp only [jk,jt,jd,jc]
     rw [j00 (hsz _),jc,j06]
     exact step v hcn.1 hcn.2 _ (by rw [q3])
   ·have hk:=(hc omg_).1 t (kr _) omg_ omg_
    subst hk
    rw [j01 htn,jd]
    simp only [show F L.2.2.2.2.2.1.length=(L.2.2.2.2.2.1.length:D) from rfl]
    rw [j2q (show ¬ (L.2.2.2.2.2.1.length:D)=0 by omega),j1v q1 q2]
    simp only [jt,jc]
    rw [j00 (show acc.length+[_].length≤j05 by simp [j05];omega),jc,j06]
    exact step nx omg_ hc _ (by rw [q3])
  ·have hte':t=e:=omg_
   subst hte'
   rw [j01 hte,jd,j08]
   exact ⟨k,nx,acc,rfl,hc,hch,hl2 rfl⟩
 termination_by n=>n
theorem jzF {L:j0j} (hL:LC1 zs.length ps.length cs.length L) {a b:D} (ha:0≤a) (hb:b≤8589934592) {A:SL} (hA:A.length≤400000) (hA2:∀ t,inS t A↔a≤t∧t<b∧onX zs cs L t=I)
  {k0:D} {N:O} (hN:N≤4000000) (hk0 : -1≤k0) (hkN:∀ t,a≤t→t<b→onX zs cs L t=I→k0≤shK (zAt zs L.2.1) L t∧shK (zAt zs L.2.1) L t≤k0+N) :
  ∀ (n j:O) (t k nx Kc:D) (acc:SgL),j+n=A.length→a≤t→t≤b→StS (t-1) (A.drop j)→(∀ u,t≤u→(inS u A↔inS u (A.drop j)))→Cch (zAt zs L.2.1) L k nx t→Ch (perX zs cs L) t a acc→
   k0≤Kc→Kc≤k0+N→(∀ u,t≤u→inS u A→Kc≤shK (zAt zs L.2.1) L u)→(acc.length:D)≤2*j+(Kc-k0)→
  ∃ t' acc',j2T b t k nx (A.length:D) (j:D) L.1 L.2.1 L.2.2.1.1 L.2.2.1.2 L.2.2.2.1 L.2.2.2.2.1 L.2.2.2.2.2.1 L.2.2.2.2.2.2.1 L.2.2.2.2.2.2.2.1 L.2.2.2.2.2.2.2.2 (tb (zAt zs L.2.1)).1 (tb (zAt zs L.2.1)).2 acc A=G (b,t',acc')∧
   Ch (perX zs cs L) b a (acc'++[(t',(b, -1))])∧acc'.length≤2*A.length+N
 | 0,j,t,k,nx,Kc,acc,hj,hat,htb,hst,hin,hc,hch,hK1,hK2,hK3,hl=>by
  rw [j7q]
  simp only [j1M]
  rw [j01 omg_,jd,j08]
  refine ⟨t,acc,rfl,hch.snoc htb (fun u u1 u2=> ?_),omg_⟩
  have:onX zs cs L u=false:=by
   cases ho:onX zs cs L u with
   | false=>rfl
   | true=>
    have:=(hin u u1).1 ((hA2 u).2 ⟨omg_,u2,ho⟩)
    rw [jj omg_] at this
    exact absurd this j1I
  unfold perX
  rw [this];rfl
 | n+1,j,t,k,nx,Kc,acc,hj,hat,htb,hst,hin,hc,hch,hK1,hK2,hK3,hl=>by
  have hj':j<A.length:=omg_
  have hgd:A.getD j ((0:D),(0:D))=A[j]:=by simp [List.getD,hj']
  rw [jh hj'] at hst hin
  obtain ⟨s1,s2,s3⟩:=hst
  have hon:∀ u,A[j].1≤u→u<A[j].2→inS u A:=fun u u1 u2=>(hin u omg_).2 (j0q.2 (.inl ⟨u1,u2⟩))
  have hp1:=(hA2 A[j].1).1 (hon _ (kr _) s2)
  have hp2:=(hA2 (A[j].2-1)).1 (hon _ omg_ omg_)
  have hKj:=hK3 A[j].1 omg_ (hon _ (kr _) s2)
  rw [j7q]
  simp only [j1M]
  rw [j00 (show (j:D)<(A.length:D) by omega),j1o]
  simp only [jc,je,hgd]
  rw [j00 (show acc.length+[_].length≤j05 by simp [j05];omega),jc]
  obtain ⟨k',nx',acc',e2,c2,h2,l2⟩:=jzE hs hL (a:=a) (b:=b) (e:=A[j].2) (p:=A[j].1) (m:=(A.length:D)) (j:=(j:D)) (sp:=A) ha omg_ (B:=2*j+1-k0) omg_ (A[j].2-A[j].1).toNat A[j].1 k nx
   (acc++[(t,(A[j].1, -1))]) omg_ omg_ (fun u u1 u2=>((hA2 u).1 (hon u u1 u2)).2.2) (fun h5=>by
    have h6:=hc omg_
    exact ⟨fun u u1 u2 u3=>h6.1 u omg_ u2 u3,h6.2⟩) (hch.snoc omg_ (fun u u1 u2=>by
    have:onX zs cs L u=false:=by
     cases ho:onX zs cs L u with
     | false=>rfl
     | true=>
      have:=(hin u u1).1 ((hA2 u).2 ⟨omg_,omg_,ho⟩)
      rcases j0q.1 this with h | h
      ·omega
      ·have:=StS.low s3 h;omega
    unfold perX
    rw [this];rfl)) (fun _=>by rw [jo,qw];omega) (fun h=>omg_)
  rw [e2]
  simp only [ja]
  rw [j07 (x:=(j:D)+1),j06]
  have hl2:=l2 omg_
  have hr:=hkN (A[j].2-1) omg_ omg_ hp2.2.2
  exact jzF hL ha hb hA hA2 hN hk0 hkN n (j+1) A[j].2 k' nx' (shK (zAt zs L.2.1) L (A[j].2-1)) acc' omg_ omg_ omg_ (s3.weak omg_) (fun u hu=>by
   rw [hin u omg_,j0q]
   exact ⟨fun h=>by
    rcases h with h | h
    ·omega
    ·exact h,.inr⟩) c2 h2 hr.1 hr.2 (fun u hu hiu=>by
   have:=(hA2 u).1 hiu
   exact jno hs hL omg_ omg_ omg_) omg_
theorem jyx {L:j0j} (hL:LC1 zs.length ps.length cs.length L) {ss:E j3z} {a b:D} (ha:0≤a) (hab:a≤b) (hb:b≤8589934592) {M:O} (hM:M≤60) (hlen:b-a≤604800*M)
  {k0:D} {N:O} (hN:N≤4000000) (hk0 : -1≤k0) (hkN:∀ t,a≤t→t<b→onX zs cs L t=I→k0≤shK (zAt zs L.2.1) L t∧shK (zAt zs L.2.1) L t≤k0+N) :
  ∃ out,j3c ((zs,(ps,(cs,ss))),zs.map tb) L a b=G out∧Cov (perX zs cs L) b X a out∧
   out.length≤2*(L.2.2.2.2.2.2.1.length*(M+1)*5+1+(if L.2.2.2.2.2.2.2.2=0 then 0 else (cAt cs L.2.2.2.2.2.2.2.1).2.2.length*5))+N+1:=by
 have hzl:(zs.map tb).length=zs.length:=qa ..
 have hg:=jpd (zs:=zs) hL.z0 hL.z1
 obtain ⟨A,e1,s1,s2,s3⟩:=jpf hs hL (ss:=ss) ha hab hb hM hlen
 have hAl:A.length≤400000:=by
  have h1:L.2.2.2.2.2.2.1.length*(M+1)≤14*61:=z8 hL.wl omg_
  by_cases hm:L.2.2.2.2.2.2.2.2=0
  ·rw [if_pos hm] at s3;omega
  ·rw [if_neg hm] at s3
   have hx:=(cget hs (hL.cal hm).1 (hL.cal hm).2).len
   have h64:(cAt cs L.2.2.2.2.2.2.2.1).2.2.length≤64:=hx
   omega
 obtain ⟨t',acc,e2,h2,l2⟩:=jzF hs hL ha hb hAl s2 hN hk0 hkN A.length 0 a (-1) (-1) k0 [] omg_ (kr _) hab s1 (fun u _=>smp_) (fun h=>omg_) rfl (kr _) omg_ (fun u hu hiu=>by
  have:=(s2 u).1 hiu
  exact (hkN u this.1 this.2.1 this.2.2).1) smp_
 obtain ⟨out,e3,h3,l3⟩:=jvb (l:=acc++[(t',(b, -1))]) (by rw [jo,qw];omega) h2
 refine ⟨out,?_,h3,by rw [jo,qw] at l3;omega⟩
 simp only [j3c]
 rw [j1v hL.z0 (by rw [hzl];exact hL.z1)]
 simp only [jc,hg]
 rw [show j3U ((zs,(ps,(cs,ss))),zs.map tb) (L.1,L.2.1,(L.2.2.1.1,L.2.2.1.2),L.2.2.2.1,L.2.2.2.2.1,L.2.2.2.2.2.1,L.2.2.2.2.2.2.1,L.2.2.2.2.2.2.2.1,L.2.2.2.2.2.2.2.2) a b=_ from e1]
 simp only [ja,show F A.length=(A.length:D) from rfl]
 rw [show j2T b a (-1) (-1) (A.length:D) 0 L.1 L.2.1 L.2.2.1.1 L.2.2.1.2 L.2.2.2.1 L.2.2.2.2.1 L.2.2.2.2.2.1 L.2.2.2.2.2.2.1 L.2.2.2.2.2.2.2.1 L.2.2.2.2.2.2.2.2 (tb (zs.getD L.2.1.toNat (q,((0:D),([]:E Rule))))).1 (tb (zs.getD L.2.1.toNat (q,((0:D),([]:E Rule))))).2 [] A=_ from e2]
 simp only [ja]
 rw [j00 (show acc.length+[_].length≤j05 by simp [j05];omega),jc,e3]
 rfl
end
section
variable {zs:E j1l} {ps:E j1s} {cs:E CalT} (hs:GOk zs ps cs)
include hs
omit hs in
theorem Fst.near {o:D} {l:TrL} (h:TOk o l) {s t:D} {k:O} (f:Fst o l s t k) (hs:0≤s):s-64800≤t∧t≤s+64800:=by
 obtain ⟨p1,p2,p3⟩:=f.piece h
 have hk:=f.hk
 have o1:=h.of1 k hk
 have o0:=h.of0 k hk
 have ht:=f.ht
 refine ⟨omg_,?_⟩
 by_cases h0:k=0
 ·subst h0
  have e0:frm l 0=0:=frm0
  omega
 ·obtain ⟨j,rfl⟩:∃ j,k=j+1:=⟨k-1,omg_⟩
  have b:=f.bef j omg_
  have o2:=h.of0 j omg_
  omega
theorem jyy {L:j0j} (hL:LC1 zs.length ps.length cs.length L) {t u:D} (h0:0≤t) (htu:t≤u) (h1:u≤8589934592):shK (zAt zs L.2.1) L u≤shK (zAt zs L.2.1) L t+(u-t)/3600+8:=by
 have hz:=zget hs.ok hL.z0 hL.z1
 have hst:=hL.rt2.step
 have he0:=hL.rt2.e0;have hc0:=hL.c0;have hd:=hL.d0
 have a':ShO (zAt zs L.2.1).2.1 (tb (zAt zs L.2.1)).2 L t (shK (zAt zs L.2.1) L t):=(jcV hz hL.rt2 (t:=t) h0 omg_).2
 have b':ShO (zAt zs L.2.1).2.1 (tb (zAt zs L.2.1)).2 L u (shK (zAt zs L.2.1) L u):=(jcV hz hL.rt2 (t:=u) omg_ h1).2
 generalize shK (zAt zs L.2.1) L t=K at *
 generalize shK (zAt zs L.2.1) L u=K' at *
 have hK : -1≤K:=by rcases a' with ⟨h,_⟩ | ⟨h,_⟩<;>omega
 have hn:¬ QO (zAt zs L.2.1).2.1 (tb (zAt zs L.2.1)).2 L t (K+1):=by
  rcases a' with ⟨h,h2⟩ | ⟨_,_,h2⟩
  ·rw [h];exact h2
  ·exact h2
 by_cases hKK:K'≤K+1
 ·omega
 ·rcases b' with ⟨h,_⟩ | ⟨hK0,⟨v,hv,hvu⟩,_⟩
  ·omega
  ·obtain ⟨w,hw,hwu⟩:QO (zAt zs L.2.1).2.1 (tb (zAt zs L.2.1)).2 L u (K+1):=QO.le hz.ztab.2 hL.rt2 (show K+1≤K' by omega) ⟨v,hv,hvu⟩
   have hwt:t<w:=by
    apply kn
    intro hx
    exact hn ⟨w,hw,omg_⟩
   have hm:3600*(K'-(K+1))≤3600*L.2.2.2.2.1*(K'-(K+1)):=Int.mul_le_mul_of_nonneg_right omg_ omg_
   by_cases hu:L.2.2.2.1=0
   ·unfold hO at hv hw
    rw [if_pos hu] at hv hw
    cases hf:fO (zAt zs L.2.1).2.1 (tb (zAt zs L.2.1)).2 (sLoc L 0) with
    | none=>rw [hf] at hv;simp at hv
    | some x=>
     rw [hf] at hv hw
     simp only [ja] at hv hw
     split at hv
     ·split at hw
      ·simp only [jb] at hv hw
       have e:3600*L.2.2.2.2.1*(K'-(K+1))=3600*L.2.2.2.2.1*K'-3600*L.2.2.2.2.1*(K+1):=Int.mul_sub ..
       omega
      ·simp at hw
     ·simp at hv
   ·unfold hO at hv hw
    rw [if_neg hu] at hv hw
    obtain ⟨k1,f1⟩:=jwn hv
    obtain ⟨k2,f2⟩:=jwn hw
    have e:(K'-(K+1))*j2N L=K'*j2N L-(K+1)*j2N L:=Int.sub_mul ..
    have hm2:(K'-(K+1))*1≤(K'-(K+1))*j2N L:=Int.mul_le_mul_of_nonneg_left hst.1 omg_
    have hm3:0≤(K+1)*j2N L:=Int.mul_nonneg omg_ omg_
    have g1:=f1.near hz.ztab.2 (by unfold sLoc;omega)
    have g2:=f2.near hz.ztab.2 (by unfold sLoc;omega)
    unfold sLoc at g1 g2
    omega
theorem jvc {L:j0j} (hL:LC1 zs.length ps.length cs.length L) {a b:D} (ha:0≤a) (hb:b≤8589934592):∀ t,a≤t→t<b→onX zs cs L t=I→shK (zAt zs L.2.1) L a≤shK (zAt zs L.2.1) L t∧shK (zAt zs L.2.1) L t≤shK (zAt zs L.2.1) L a+(((b-a)/3600+8).toNat:D):=fun t h1 h2 _=>by
 have e1:=jno hs hL (t:=a) (u:=t) ha h1 omg_
 have e2:=jyy hs hL (t:=a) (u:=t) ha h1 omg_
 omega
theorem jAk {L:j0j} (hL:LC1 zs.length ps.length cs.length L) {t:D} (h0:0≤t) (h1:t≤8589934592) : -1≤shK (zAt zs L.2.1) L t:=by
 have hz:=zget hs.ok hL.z0 hL.z1
 have a':ShO (zAt zs L.2.1).2.1 (tb (zAt zs L.2.1)).2 L t (shK (zAt zs L.2.1) L t):=(jcV hz hL.rt2 (t:=t) h0 h1).2
 rcases a' with ⟨h,_⟩ | ⟨h,_⟩<;>omega
theorem jwv {L:j0j} (hL:LC1 zs.length ps.length cs.length L) {ss:E j3z} {a b:D} (ha:0≤a) (hab:a≤b) (hb:b≤8589934592) (hlen:b-a≤35078400) :
  ∃ out,j3c ((zs,(ps,(cs,ss))),zs.map tb) L a b=G out∧Cov (perX zs cs L) b X a out∧out.length≤30000:=by
 obtain ⟨out,e,h1,h2⟩:=jyx hs hL (ss:=ss) ha hab hb (M:=58) omg_ omg_ (N:=((b-a)/3600+8).toNat) omg_ (jAk hs hL ha omg_) (jvc hs hL ha hb)
 refine ⟨out,e,h1,?_⟩
 have hw:L.2.2.2.2.2.2.1.length*(58+1)*5≤14*59*5:=kf _ (kf _ hL.wl)
 have hc:(if L.2.2.2.2.2.2.2.2=0 then 0 else (cAt cs L.2.2.2.2.2.2.2.1).2.2.length*5)≤64*5:=by
  by_cases hm:L.2.2.2.2.2.2.2.2=0
  ·rw [if_pos hm];omega
  ·rw [if_neg hm]
   exact kf _ (cget hs (hL.cal hm).1 (hL.cal hm).2).len
 omega
end
theorem jrG {x y:ByteArray} (h:x≠y):(x.toList==y.toList)=false:=by
 rw [ByteArray.toList_eq,ByteArray.toList_eq]
 exact qo.2 fun hh=>h (Y (Array.toList_inj.mp (eq_of_beq hh)))
theorem jvd:j8r=G 98980:=by kernel_rfl
theorem jzG {d:D} (h:j1g d=G I):d≤98980:=by
 apply kn
 intro hd
 simp only [j1g,j4Z,jpc,jpb,ja] at h
 rw [j01 (show ¬ d<0 by omega),j00 (show d≥98981 by omega)] at h
 simp at h
theorem jzH {d:D} (h:j1g d=G I):0≤d:=by
 apply kn
 intro hd
 simp only [j1g,j4Z,jpc,jpb,ja] at h
 rw [j00 (show d<0 by omega)] at h
 simp at h
section
variable {zs:E j1l} {ps:E j1s} {cs:E CalT} {ss:E j3z}
theorem jve {w:WL} (h:WOk 0 w) (hl:w.length≤14):∀ (n i:O),i+n=w.length→j7r w (i:D)=G (.inr ())
 | 0,i,hi=>by
  rw [j7U]
  simp only [j2F,show F w.length=(w.length:D) from rfl]
  rw [j01 omg_,jd,j08]
 | n+1,i,hi=>by
  have hi':i<w.length:=omg_
  have hg:=jgp h i hi'
  have ih:=jve h hl n (i+1) omg_
  rw [j7U]
  simp only [j2F,show F w.length=(w.length:D) from rfl]
  rw [j00 omg_,j1o]
  simp only [jc,je]
  rw [j01 (show ¬ (w.getD i (0,0)).1<0 by omega),j01 (show ¬ (w.getD i (0,0)).1≥(w.getD i (0,0)).2 by omega),j01 (show ¬ (w.getD i (0,0)).2>604800 by omega),j07 (x:=(i:D)+1)]
  simp only [jd]
  by_cases h0:(i:D)>0
  ·obtain ⟨k,rfl⟩:∃ k,i=k+1:=⟨i-1,omg_⟩
   have hgap:=juQ h k omg_
   rw [j00 h0,jc,j07 (x:=((k+1:O):D)-1),show ((k+1:O):D)-1=(k:D) by omega,j1v (show (0:D)≤(k:D) by omega) omg_]
   simp only [jc,je]
   rw [j01 (show ¬ (w.getD (k+1) (0,0)).1<(w.getD k (0,0)).2 by omega),jd,j06]
   exact ih
  ·rw [j01 h0,jd,j06]
   exact ih
theorem r5ck {w:WL} (h:WOk 0 w) (hl:w.length≤14):j60 w=G 0:=by
 simp only [j60,show F w.length=(w.length:D) from rfl]
 rw [j01 omg_,jd,show j7r w 0=_ from jve h hl w.length 0 omg_]
 rfl
end
theorem jyz {w:WL} (hl:w.length≤14) (s:D):∀ (n i:O),i+n=w.length→j7W w s (i:D)=G (cond (hasB s (w.drop i)) (.inl I) (.inr ()))
 | 0,i,hi=>by
  rw [je1]
  simp only [j4n,show F w.length=(w.length:D) from rfl]
  rw [j01 omg_,jd,j08,jj omg_]
  rfl
 | n+1,i,hi=>by
  have hi':i<w.length:=omg_
  have hgd:w.getD i ((0:D),(0:D))=w[i]:=by simp [List.getD,hi']
  rw [je1]
  simp only [j4n,show F w.length=(w.length:D) from rfl]
  rw [j00 omg_,j1o]
  simp only [jc,zu,je,hgd]
  rw [j07 (x:=(i:D)+1),jh hi']
  have hb:hasB s (w[i]::w.drop (i+1))=cond (cond (decide (w[i].1≤s)) (decide (s<w[i].2)) W) I (hasB s (w.drop (i+1))):=rfl
  rw [hb]
  by_cases h1:w[i].1≤s
  ·rw [j00 (show s≥w[i].1 from h1)]
   simp only [jc]
   by_cases h2:s<w[i].2
   ·rw [j00 h2]
    rfl
   ·rw [j01 h2]
    simp only [jd,j06]
    exact jyz hl s n (i+1) omg_
  ·rw [j01 (show ¬ s≥w[i].1 from h1)]
   simp only [jd,j06]
   exact jyz hl s n (i+1) omg_
theorem jvf {w:WL} (hl:w.length≤14) (s:D):jfc w s=G (hasB s w):=by
 have:=jyz hl s w.length 0 omg_
 simp only [jfc,show j7W w s 0=_ from this,ja,jy]
 cases hasB s w<;>rfl
theorem jzI {z:j1l} (hz:ZOk z) {t:D} (h0:0≤t) (h1:t≤8589934592):j3k z t=G (locD z t,0):=by
 have h4:=hz.zref.2.1
 obtain ⟨k,hk,k1,k2⟩:=j8U h4.2 h0 h1
 have e:=jfe h4.2 hk k1 k2
 have:locD z t=((t+tof z.2.1 (tb z).2 k)/86400,(t+tof z.2.1 (tb z).2 k)%86400):=by
  simp only [locD,show j0o (tb z) t=_ from e,ze]
 rw [this]
 exact jrA h4 h0 h1 hk k1 k2
theorem jzJ {z:j1l} (hz:ZOk z) {t:D} (h0:0≤t) (h1:t≤8589934592) {w:WL} (hw:WOk 0 w) (hl:w.length≤14):jah z t=G (secD (locD z t),0)∧joi z w t=G (hasB (secD (locD z t)) w):=by
 have e1:=jzI hz h0 h1
 obtain ⟨_,hsc⟩:=jkF hz h0 h1
 have e2:j6g (locD z t)=G (secD (locD z t)):=hsc
 have e3:jah z t=G (secD (locD z t),0):=by
  simp only [jah,show j3k (z.1,(z.2.1,z.2.2)) t=_ from e1,ja,jm,jd,show j6g ((locD z t).1,(locD z t).2)=_ from e2]
 refine ⟨e3,?_⟩
 simp only [joi,show jah (z.1,(z.2.1,z.2.2)) t=_ from e3,ja,qh,jc,r5ck hw hl,jvf hl]
section
variable {zs:E j1l} {ps:E j1s} {cs:E CalT} (hs:GOk zs ps cs)
include hs
theorem jyA {k d e:D} {x:CalT} (hx:CCk zs.length x) {L:j0j}:∀ (n i:O) (b:Bool),i+n=x.2.2.length→b=decide (d∈x.2.2.take i)→
  j7g k b (i:D) L.1 L.2.1 L.2.2.1.1 L.2.2.1.2 L.2.2.2.1 L.2.2.2.2.1 L.2.2.2.2.2.1 L.2.2.2.2.2.2.1 L.2.2.2.2.2.2.2.1 L.2.2.2.2.2.2.2.2 x.1 x.2.1 x.2.2 d e=
   G (k,decide (d∈x.2.2),L.1,L.2.1,L.2.2.1.1,L.2.2.1.2,L.2.2.2.1,L.2.2.2.2.1,L.2.2.2.2.2.1,L.2.2.2.2.2.2.1,L.2.2.2.2.2.2.2.1,L.2.2.2.2.2.2.2.2)
 | 0,i,b,hi,hb=>by
  rw [jfv]
  simp only [j5o,show F x.2.2.length=(x.2.2.length:D) from rfl]
  rw [j01 omg_,jd,j08,hb,List.take_of_length_le omg_]
 | n+1,i,b,hi,hb=>by
  have _:=hs
  have hxl:=hx.len
  have hi':i<x.2.2.length:=omg_
  have hgd:x.2.2.getD i (0:D)=x.2.2[i]:=by simp [hi']
  rw [jfv]
  simp only [j5o,show F x.2.2.length=(x.2.2.length:D) from rfl]
  rw [j00 omg_,j07 (x:=(i:D)+1),jc]
  have ht:x.2.2.take (i+1)=x.2.2.take i++[x.2.2[i]]:=by rw [ya,jv hi'];rfl
  cases hbb:b with
  | true=>
   simp only [jc,j06]
   refine jyA hx n (i+1) I omg_ ?_
   have:d∈x.2.2.take i:=qe (by rw [←hb,hbb])
   rw [ht]
   exact (j00 (ke _ this)).symm
  | false=>
   have hnm:d∉x.2.2.take i:=of_decide_eq_false (by rw [←hb,hbb])
   rw [j1v (show (0:D)≤(i:D) by omega) omg_]
   simp only [jd,jc,je,hgd,j06]
   refine jyA hx n (i+1) _ omg_ ?_
   rw [ht]
   by_cases he:x.2.2[i]=d
   ·rw [j5N he]
    exact (j00 (kc _ (by simp [he]))).symm
   ·rw [j2q he]
    refine (j01 fun hm=> ?_).symm
    rcases js.1 hm with h | h
    ·exact hnm h
    ·simp at h;exact he h.symm
theorem jqL {L:j0j} (hL:LC1 zs.length ps.length cs.length L) {ss:E j3z} {t:D} (h0:0≤t) (h1:t≤8589934592):∃ k,jby (zs,(ps,(cs,ss))) L t=G (k,onX zs cs L t)∧(onX zs cs L t=I→k=shK (zAt zs L.2.1) L t):=by
 have hRt:=hL.rt2
 have hz:ZOk (zAt zs L.2.1):=zget hs.ok hL.z0 hL.z1
 have h4:=hz.zref.2.1
 obtain ⟨K,eK,hK⟩:=jzz h4 hRt h0 h1
 have hKs:K=shK (zAt zs L.2.1) L t:=ShO.uniq h4.2 hRt hK (jcV hz hRt h0 h1).2
 subst hKs
 have ek:jez (zAt zs L.2.1) L t=G (shK (zAt zs L.2.1) L t,0):=by
  simp only [jez,show jaC ((zAt zs L.2.1).1,((zAt zs L.2.1).2.1,(zAt zs L.2.1).2.2)) (L.1,L.2.1,(L.2.2.1.1,L.2.2.1.2),L.2.2.2.1,L.2.2.2.2.1,L.2.2.2.2.2.1,L.2.2.2.2.2.2.1,L.2.2.2.2.2.2.2.1,L.2.2.2.2.2.2.2.2)=_ from jkE h4 L,ja]
  rw [if_pos hRt,j01 (show ¬ t<0 by omega),j01 (show ¬ t>8589934592 by omega)]
  simp only [jm,jd]
  rw [show jaE ((zAt zs L.2.1).1,((zAt zs L.2.1).2.1,(zAt zs L.2.1).2.2)) (L.1,L.2.1,(L.2.2.1.1,L.2.2.1.2),L.2.2.2.1,L.2.2.2.2.1,L.2.2.2.2.2.1,L.2.2.2.2.2.2.1,L.2.2.2.2.2.2.2.1,L.2.2.2.2.2.2.2.2) t=_ from eK]
  rfl
 obtain ⟨_,ein⟩:=jzJ hz h0 h1 hL.w hL.wl
 have htail:(cond (L.2.2.2.2.2.2.2.2==(0:D)) (G (shK (zAt zs L.2.1) L t,I)) (cond (inR L.2.2.2.2.2.2.2.1 cs.length) (cond (inR (cs.getD L.2.2.2.2.2.2.2.1.toNat (q,((0:D),([]:E D)))).2.1 zs.length)
   ((j3k ((zs.getD (cs.getD L.2.2.2.2.2.2.2.1.toNat (q,((0:D),([]:E D)))).2.1.toNat (q,((0:D),([]:E Rule)))).1,((zs.getD (cs.getD L.2.2.2.2.2.2.2.1.toNat (q,((0:D),([]:E D)))).2.1.toNat (q,((0:D),([]:E Rule)))).2.1,(zs.getD (cs.getD L.2.2.2.2.2.2.2.1.toNat (q,((0:D),([]:E D)))).2.1.toNat (q,((0:D),([]:E Rule)))).2.2)) t).bind fun r67=>
     (j7g (shK (zAt zs L.2.1) L t) W 0 L.1 L.2.1 L.2.2.1.1 L.2.2.1.2 L.2.2.2.1 L.2.2.2.2.1 L.2.2.2.2.2.1 L.2.2.2.2.2.2.1 L.2.2.2.2.2.2.2.1 L.2.2.2.2.2.2.2.2 (cs.getD L.2.2.2.2.2.2.2.1.toNat (q,((0:D),([]:E D)))).1 (cs.getD L.2.2.2.2.2.2.2.1.toNat (q,((0:D),([]:E D)))).2.1 (cs.getD L.2.2.2.2.2.2.2.1.toNat (q,((0:D),([]:E D)))).2.2 r67.1.1 r67.1.2).bind fun q0=>
      G (q0.1,(q0.2.1==(q0.2.2.2.2.2.2.2.2.2.2.2==(2:D))))) X) X))=G (shK (zAt zs L.2.1) L t,calB zs cs L t):=by
  by_cases hm:L.2.2.2.2.2.2.2.2=0
  ·rw [j5N hm,jc]
   unfold calB
   rw [j5N hm];rfl
  ·have hcal:=hL.cal hm
   have hx:=cget hs hcal.1 hcal.2
   have hxz:=zget hs.ok hx.z0 hx.z1
   rw [j2q hm,jd,j1v hcal.1 hcal.2,j1v hx.z0 hx.z1]
   simp only [jc]
   rw [show j3k ((zs.getD (cs.getD L.2.2.2.2.2.2.2.1.toNat (q,((0:D),([]:E D)))).2.1.toNat (q,((0:D),([]:E Rule)))).1,((zs.getD (cs.getD L.2.2.2.2.2.2.2.1.toNat (q,((0:D),([]:E D)))).2.1.toNat (q,((0:D),([]:E Rule)))).2.1,(zs.getD (cs.getD L.2.2.2.2.2.2.2.1.toNat (q,((0:D),([]:E D)))).2.1.toNat (q,((0:D),([]:E Rule)))).2.2)) t=_ from jzI hxz h0 h1]
   simp only [ja]
   rw [show j7g (shK (zAt zs L.2.1) L t) W 0 L.1 L.2.1 L.2.2.1.1 L.2.2.1.2 L.2.2.2.1 L.2.2.2.2.1 L.2.2.2.2.2.1 L.2.2.2.2.2.2.1 L.2.2.2.2.2.2.2.1 L.2.2.2.2.2.2.2.2 (cs.getD L.2.2.2.2.2.2.2.1.toNat (q,((0:D),([]:E D)))).1 (cs.getD L.2.2.2.2.2.2.2.1.toNat (q,((0:D),([]:E D)))).2.1 (cs.getD L.2.2.2.2.2.2.2.1.toNat (q,((0:D),([]:E D)))).2.2 _ _=_ from jyA hs hx (L:=L) (cs.getD L.2.2.2.2.2.2.2.1.toNat (q,((0:D),([]:E D)))).2.2.length 0 W omg_ smp_]
   unfold calB
   rw [j2q hm]
   rfl
 simp only [jby]
 rw [j1v hL.z0 hL.z1]
 simp only [jc]
 rw [show jez ((zs.getD L.2.1.toNat (q,((0:D),([]:E Rule)))).1,((zs.getD L.2.1.toNat (q,((0:D),([]:E Rule)))).2.1,(zs.getD L.2.1.toNat (q,((0:D),([]:E Rule)))).2.2)) (L.1,L.2.1,(L.2.2.1.1,L.2.2.1.2),L.2.2.2.1,L.2.2.2.2.1,L.2.2.2.2.2.1,L.2.2.2.2.2.2.1,L.2.2.2.2.2.2.2.1,L.2.2.2.2.2.2.2.2) t=_ from ek]
 simp only [ja,jm,jd]
 by_cases hk:0≤shK (zAt zs L.2.1) L t
 ·rw [j01 (show ¬ shK (zAt zs L.2.1) L t<0 by omega)]
  simp only [jd,show F L.2.2.2.2.2.2.1.length=(L.2.2.2.2.2.2.1.length:D) from rfl]
  have hon:onX zs cs L t=cond (okW L.2.2.2.2.2.2.1 (secD (locD (zAt zs L.2.1) t))) (calB zs cs L t) false:=by
   unfold onX
   rw [j00 hk];rfl
  rw [hon]
  by_cases hw:(L.2.2.2.2.2.2.1.length:D)>0
  ·rw [j00 hw,jc,show joi ((zs.getD L.2.1.toNat (q,((0:D),([]:E Rule)))).1,((zs.getD L.2.1.toNat (q,((0:D),([]:E Rule)))).2.1,(zs.getD L.2.1.toNat (q,((0:D),([]:E Rule)))).2.2)) L.2.2.2.2.2.2.1 t=_ from ein]
   simp only [ja]
   unfold okW
   rw [j00 hw,jc]
   cases hasB (secD (locD (zAt zs L.2.1) t)) L.2.2.2.2.2.2.1 with
   | false=>exact ⟨0,rfl,fun h=>by simp at h⟩
   | true=>
    simp only [jk,jd,jc]
    exact ⟨_,htail,fun _=>rfl⟩
  ·rw [j01 hw,jd]
   unfold okW
   rw [j01 hw]
   simp only [jd,jc]
   exact ⟨_,htail,fun _=>rfl⟩
 ·rw [j00 (show shK (zAt zs L.2.1) L t<0 by omega)]
  have hon:onX zs cs L t=false:=by
   unfold onX
   rw [j01 hk];rfl
  rw [hon]
  simp only [jc,jk,jt,yf]
  exact ⟨0,rfl,fun h=>by simp at h⟩
theorem jrH {L:j0j} (hL:LC1 zs.length ps.length cs.length L) {ss:E j3z} {t:D} (h0:0≤t) (h1:t≤8589934592):jdh (zs,(ps,(cs,ss))) L t=G (perX zs cs L t):=by
 obtain ⟨k,e,hk⟩:=jqL hs hL (ss:=ss) h0 h1
 have hon:onX zs cs L t=I→0≤shK (zAt zs L.2.1) L t:=jwt
 simp only [jdh]
 rw [show jby (zs,ps,cs,ss) (L.1,L.2.1,(L.2.2.1.1,L.2.2.1.2),L.2.2.2.1,L.2.2.2.2.1,L.2.2.2.2.2.1,L.2.2.2.2.2.2.1,L.2.2.2.2.2.2.2.1,L.2.2.2.2.2.2.2.2) t=_ from e]
 simp only [ja,show F L.2.2.2.2.2.1.length=(L.2.2.2.2.2.1.length:D) from rfl]
 unfold perX
 cases hc:onX zs cs L t with
 | false=>rfl
 | true=>
  have hm0:=hL.m0
  have hk0:=hon hc
  have:=hk hc
  subst this
  have q1:0≤H (shK (zAt zs L.2.1) L t) (L.2.2.2.2.2.1.length:D):=vw _ hk0
  have q2:H (shK (zAt zs L.2.1) L t) (L.2.2.2.2.2.1.length:D)<(L.2.2.2.2.2.1.length:D):=v8 _ omg_
  rw [j2q (show ¬ (L.2.2.2.2.2.1.length:D)=0 by omega),j1v q1 q2]
  rfl
end
end Go.Proofs.Pw
