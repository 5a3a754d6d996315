/- duty.Merge, duty.View.Segments: who is on duty in a range. -/
import Derived.Test.YtaieocafhcjelaaGreatAPJ
import Derived.Test.YtaieocafhcjelaaGreatAPI
import Derived.Test.YtaieocafhcjelaaGreatAPE
open Go Go.Lft
namespace Go.Proofs.Pw
theorem jzs (l:SgL) (x y:SgT):(l++[x]).set l.length y=l++[y]:=by
 rw [zv _ _ (jo _)];simp
theorem jxY (out:SgL) (s:SgT):(mgA out s).length≤out.length+1:=by
 unfold mgA
 split
 ·omega
 ·rcases List.eq_nil_or_concat out with rfl | ⟨l,u,rfl⟩
  ·simp
  ·rw [List.concat_eq_append,List.getLast?_append]
   simp only [List.getLast?_singleton,Option.some_or]
   split
   ·simp
   ·simp
theorem jxZ:∀ (l out:SgL),(l.foldl mgA out).length≤out.length+l.length
 | [],out=>by simp
 | s::r,out=>by
  have:=jxZ r (mgA out s)
  have:=jxY out s
  simp only [List.foldl_cons,jp];omega
theorem jCF {l:SgL} (hl:l.length≤1000000000):∀ (n i:Nat) (out:SgL),i+n=l.length→out.length≤i→j5e l (l.length:Int) (i:Int) out=some ((l.drop i).foldl mgA out)
 | 0,i,out,hi,ho=>by
  rw [jfW]
  simp only [j5d]
  rw [j00 (by omega),j6,j08,jc (by omega)]
  rfl
 | n+1,i,out,hi,ho=>by
  have hi':i<l.length:=by omega
  have hgd:l.getD i ((0:Int),((0:Int),(0:Int)))=l[i]:=by simp [List.getD,hi']
  have ih:∀ out':SgL,out'=mgA out l[i]→j5e l (l.length:Int) ((i:Int)+1) out'=some ((l.drop i).foldl mgA out):=fun out' he=>by
   rw [jb hi',List.foldl_cons,←he]
   have:=jxY out l[i]
   exact jCF hl n (i+1) out' (by omega) (by rw [he];omega)
  rw [jfW]
  simp only [j5d]
  rw [j01 (by omega),j0s (by omega) (by omega)]
  simp only [j5,j7,hgd,show Int.ofNat out.length=(out.length:Int) from rfl]
  rw [j02 (x:=(i:Int)+1) (by omega) (by omega)]
  generalize l[i]=s at *
  by_cases hs:s.2.1≤s.1
  ·rw [j01 hs,j5,j05]
   exact ih _ (by unfold mgA;rw [if_pos hs])
  ·rw [j00 hs,j6]
   rcases List.eq_nil_or_concat out with rfl | ⟨o,u,rfl⟩
   ·simp only [v6]
    rw [j00 (show ¬ ((0:Nat):Int)>0 by omega),j6,j01 (show 0+[(s.1,(s.2.1,s.2.2))].length≤j07 by simp [j07]),j5,j05]
    exact ih _ (by unfold mgA;rw [if_neg hs];rfl)
   ·rw [List.concat_eq_append] at ih ho ⊢
    have hol:(o++[u]).length=o.length+1:=by simp
    rw [hol] at ho
    have hg2:(o++[u]).getD o.length ((0:Int),((0:Int),(0:Int)))=u:=by simp [List.getD]
    rw [hol,j01 (show ((o.length+1:Nat):Int)>0 by omega),j5,j02 (x:=((o.length+1:Nat):Int)-1) (by omega) (by omega),show ((o.length+1:Nat):Int)-1=(o.length:Int) by omega,j0s (by omega) (by omega)]
    simp only [j5,j7,hg2]
    have hmg:mgA (o++[u]) s=if u.2.1=s.1∧u.2.2=s.2.2 then o++[(u.1,(s.2.1,u.2.2))] else (o++[u])++[s]:=by
     unfold mgA
     rw [if_neg hs,List.getLast?_append]
     simp only [List.getLast?_singleton,Option.some_or,List.dropLast_concat]
    by_cases h1:u.2.1=s.1
    ·rw [j4Q h1,j5]
     by_cases h2:u.2.2=s.2.2
     ·rw [j4Q h2,j5,j05,jzs]
      exact ih _ (by rw [hmg,if_pos ⟨h1,h2⟩])
     ·rw [j2c h2,j6,j01 (show o.length+1+[(s.1,(s.2.1,s.2.2))].length≤j07 by simp [j07];omega),j5,j05]
      exact ih _ (by rw [hmg,if_neg (fun h=>h2 h.2)])
    ·rw [j2c h1,j6,j01 (show o.length+1+[(s.1,(s.2.1,s.2.2))].length≤j07 by simp [j07];omega),j5,j05]
     exact ih _ (by rw [hmg,if_neg (fun h=>h1 h.1)])
theorem jy0 {l:SgL} (hl:l.length≤1000000000):j6R l=some (l.foldl mgA []):=by
 simp only [j6R,show Int.ofNat l.length=(l.length:Int) from rfl]
 rw [show j5e l (l.length:Int) 0 []=_ from jCF hl l.length 0 [] (by omega) (by simp)]
 rfl
theorem jnN {f:Int→Int} {a b:Int} {l:SgL} (hl:l.length≤1000000000) (h:Ch f b a l):∃ out,j6R l=some out∧Cov f b none a out∧out.length≤l.length:=
 ⟨_,jy0 hl,h.cov,by have:=jxZ l [];simpa using this⟩
section
variable {zs:List j1R} {ps:List j1q} {cs:List CalT} (hs:SOk2 zs ps cs)
include hs
theorem jqC {L:j0w} (hL:LCk zs.length ps.length cs.length L) {t u:Int} (h0:0≤t) (htu:t≤u) (h1:u≤8589934592):shK (zAt zs L.2.1) L t≤shK (zAt zs L.2.1) L u:=by
 have hz:=zget hs.so.ok hL.z0 hL.z1
 have a:=(jhf hz hL.rt2 (t:=t) h0 (by omega)).2
 have b:=(jhf hz hL.rt2 (t:=u) (by omega) h1).2
 show shK (zAt zs L.2.1) L t≤shK (zAt zs L.2.1) L u
 have a':ShO (zAt zs L.2.1).2.1 (tb (zAt zs L.2.1)).2 L t (shK (zAt zs L.2.1) L t):=a
 have b':ShO (zAt zs L.2.1).2.1 (tb (zAt zs L.2.1)).2 L u (shK (zAt zs L.2.1) L u):=b
 generalize shK (zAt zs L.2.1) L t=K at *
 generalize shK (zAt zs L.2.1) L u=K' at *
 rcases a' with ⟨a1,a2⟩ | ⟨a1,⟨v,hv,hvt⟩,a3⟩<;>rcases b' with ⟨b1,b2⟩ | ⟨b1,b2,b3⟩
 ·omega
 ·omega
 ·exact absurd (QO.le hz.ztab.2 hL.rt2 a1 ⟨v,hv,by omega⟩) b2
 ·apply jm
  intro hn
  exact b3 (QO.le hz.ztab.2 hL.rt2 (show K'+1≤K by omega) ⟨v,hv,by omega⟩)
def Cch (z:j1R) (L:j0w) (k nx t:Int):Prop:=t<nx→(∀ u,t≤u→u<nx→u≤8589934592→shK z L u=k)∧(nx≤8589934592→k<shK z L nx)
theorem jBl {L:j0w} (hL:LCk zs.length ps.length cs.length L) {t:Int} (h0:0≤t) (h1:t≤8589934592) (hk:0≤shK (zAt zs L.2.1) L t) {v:Int} {ok:Bool}
  (hv:j0M (tb (zAt zs L.2.1)) L (shK (zAt zs L.2.1) L t+1)=some (v,ok)):t<(cond ok v 8589934593)∧Cch (zAt zs L.2.1) L (shK (zAt zs L.2.1) L t) (cond ok v 8589934593) t:=by
 have hz:=zget hs.so.ok hL.z0 hL.z1
 have a:=(jhf hz hL.rt2 (t:=t) h0 h1).2
 have a':ShO (zAt zs L.2.1).2.1 (tb (zAt zs L.2.1)).2 L t (shK (zAt zs L.2.1) L t):=a
 have hu:∀ u,t≤u→u≤8589934592→ShO (zAt zs L.2.1).2.1 (tb (zAt zs L.2.1)).2 L u (shK (zAt zs L.2.1) L u):=fun u _ h2=>(jhf hz hL.rt2 (t:=u) (by omega) h2).2
 generalize hK:shK (zAt zs L.2.1) L t=K at *
 rcases a' with ⟨a1,a2⟩ | ⟨a1,⟨w,hw,hwt⟩,a3⟩
 ·omega
 ·have hat:=jxH hz.ztab.2 hL.rt2 a1 hw
  obtain ⟨v',ev,hv'⟩:=recH hz.ztab.2 hL.rt2 (k:=K+1) (by omega) (by omega)
  have:=ev.symm.trans hv
  simp only [j4,j8] at this
  obtain ⟨rfl,rfl⟩:=this
  cases hh:hO (zs.getD L.2.1.toNat (ByteArray.empty,((0:Int),([]:List Rule)))).2.1 (tb (zs.getD L.2.1.toNat (ByteArray.empty,((0:Int),([]:List Rule))))).2 L (K+1) with
  | none=>
   simp only [zt,j6]
   exact ⟨by omega,fun _=>⟨fun u h2 h3 h4=>ShO.uniq hz.ztab.2 hL.rt2 (hu u h2 h4) (.inr ⟨a1,⟨w,hw,by omega⟩,fun ⟨x,hx,_⟩=>by
    have hx':=hh.symm.trans hx
    simp at hx'⟩),fun h=>by omega⟩⟩
  | some x=>
   have:=hv' x hh
   subst this
   simp only [zb,j5]
   refine ⟨?_,fun _=>⟨fun u h2 h3 h4=>ShO.uniq hz.ztab.2 hL.rt2 (hu u h2 h4) (.inr ⟨a1,⟨w,hw,by omega⟩,fun ⟨x,hx,hxu⟩=>by
    have hx':=hh.symm.trans hx
    simp only [j4] at hx'
    omega⟩),fun hle=> ?_⟩⟩
   rotate_left
   ·have hle':v'≤8589934592:=hle
    have htv:t≤v':=by
     apply jm
     intro hn
     exact a3 ⟨_,hh,by omega⟩
    have b':=hu v' htv hle'
    rcases b' with ⟨b1,b2⟩ | ⟨b1,b2,b3⟩
    ·exact absurd (QO.le hz.ztab.2 hL.rt2 (show (0:Int)≤K+1 by omega) ⟨_,hh,kn _⟩) b2
    ·apply jm
     intro hn
     exact b3 (QO.le hz.ztab.2 hL.rt2 (show shK (zAt zs L.2.1) L v'+1≤K+1 by omega) ⟨_,hh,kn _⟩)
   apply jm
   intro hn
   exact a3 ⟨_,hh,by omega⟩
theorem jCG {L:j0w} (hL:LCk zs.length ps.length cs.length L) {k:Int} (hk:0≤k):∃ _:(Int.tmod k (L.2.2.2.2.2.1.length:Int)).toNat<L.2.2.2.2.2.1.length,0≤Int.tmod k (L.2.2.2.2.2.1.length:Int)∧Int.tmod k (L.2.2.2.2.2.1.length:Int)<(L.2.2.2.2.2.1.length:Int)∧L.2.2.2.2.2.1.getD (Int.tmod k (L.2.2.2.2.2.1.length:Int)).toNat 0=whoL L k:=by
 have _:=hs
 have hm0:=hL.m0
 have q1:0≤Int.tmod k (L.2.2.2.2.2.1.length:Int):=vi _ hk
 have q2:Int.tmod k (L.2.2.2.2.2.1.length:Int)<(L.2.2.2.2.2.1.length:Int):=zr _ (by omega)
 exact ⟨by omega,q1,q2,rfl⟩
theorem jCH {L:j0w} (hL:LCk zs.length ps.length cs.length L) {a b e p m j:Int} {sp:SL} (ha:0≤a) (he:e≤8589934592) {B:Int} (hB:B≤1000000):∀ (n:Nat) (t k nx:Int) (acc:SgL),e-t=n→a≤t→
  (∀ u,t≤u→u<e→onX zs cs L u=true)→Cch (zAt zs L.2.1) L k nx t→Ch (perX zs cs L) t a acc→(t<e→(acc.length:Int)≤B+shK (zAt zs L.2.1) L t)→
  (t=e→a<e→(acc.length:Int)≤B+1+shK (zAt zs L.2.1) L (e-1))→
  ∃ k' nx' acc',j2m b t k nx m j L.1 L.2.1 L.2.2.1.1 L.2.2.1.2 L.2.2.2.1 L.2.2.2.2.1 L.2.2.2.2.2.1 L.2.2.2.2.2.2.1 L.2.2.2.2.2.2.2.1 L.2.2.2.2.2.2.2.2 (tb (zAt zs L.2.1)).1 (tb (zAt zs L.2.1)).2 p e acc sp=
   some (b,e,k',nx',m,j,L.1,L.2.1,L.2.2.1.1,L.2.2.1.2,L.2.2.2.1,L.2.2.2.2.1,L.2.2.2.2.2.1,L.2.2.2.2.2.2.1,L.2.2.2.2.2.2.2.1,L.2.2.2.2.2.2.2.2,(tb (zAt zs L.2.1)).1,(tb (zAt zs L.2.1)).2,acc',sp)∧
   Cch (zAt zs L.2.1) L k' nx' e∧Ch (perX zs cs L) e a acc'∧(a<e→(acc'.length:Int)≤B+1+shK (zAt zs L.2.1) L (e-1))
 | n,t,k,nx,acc,hn,hat,hon,hc,hch,hl,hl2=>by
  have hz:=zget hs.so.ok hL.z0 hL.z1
  rw [jet]
  simp only [j1h]
  by_cases hte:t<e
  ·rw [j01 hte,j5]
   have hont:=hon t (kn _) hte
   obtain ⟨eK,hK⟩:j1V (tb (zAt zs L.2.1)) L t=some (shK (zAt zs L.2.1) L t)∧ShO (zAt zs L.2.1).2.1 (tb (zAt zs L.2.1)).2 L t (shK (zAt zs L.2.1) L t):=jhf hz hL.rt2 (t:=t) (by omega) (by omega)
   have hk0:0≤shK (zAt zs L.2.1) L t:=(jxW hs hL (ss:=[]) (t:=t) (by omega) (by omega)).2.2 hont
   have hkm:shK (zAt zs L.2.1) L t≤2386092:=by
    have hK':ShO (zAt zs L.2.1).2.1 (tb (zAt zs L.2.1)).2 L t (shK (zAt zs L.2.1) L t):=hK
    rcases hK' with ⟨h1,_⟩ | ⟨h1,⟨w,hw,_⟩,_⟩
    ·omega
    ·exact (jxH hz.ztab.2 hL.rt2 h1 hw).2.2
   obtain ⟨_,q1,q2,q3⟩:=jCG hs hL hk0
   have hm0:=hL.m0
   have hlt:=hl hte
   have step:∀ nx':Int,t<nx'→Cch (zAt zs L.2.1) L (shK (zAt zs L.2.1) L t) nx' t→∀ acc':SgL,acc'=acc++[(t,((if nx'<e then nx' else e),whoL L (shK (zAt zs L.2.1) L t)))]→
     ∃ k'' nx'' acc'',j2m b (if nx'<e then nx' else e) (shK (zAt zs L.2.1) L t) nx' m j L.1 L.2.1 L.2.2.1.1 L.2.2.1.2 L.2.2.2.1 L.2.2.2.2.1 L.2.2.2.2.2.1 L.2.2.2.2.2.2.1 L.2.2.2.2.2.2.2.1 L.2.2.2.2.2.2.2.2 (tb (zAt zs L.2.1)).1 (tb (zAt zs L.2.1)).2 p e acc' sp=
      some (b,e,k'',nx'',m,j,L.1,L.2.1,L.2.2.1.1,L.2.2.1.2,L.2.2.2.1,L.2.2.2.2.1,L.2.2.2.2.2.1,L.2.2.2.2.2.2.1,L.2.2.2.2.2.2.2.1,L.2.2.2.2.2.2.2.2,(tb (zAt zs L.2.1)).1,(tb (zAt zs L.2.1)).2,acc'',sp)∧
      Cch (zAt zs L.2.1) L k'' nx'' e∧Ch (perX zs cs L) e a acc''∧(a<e→(acc''.length:Int)≤B+1+shK (zAt zs L.2.1) L (e-1)):=by
    rintro nx' hnx hc' _ rfl
    obtain ⟨t',ht',h1,h2,h3,h4⟩:∃ t':Int,t'=(if nx'<e then nx' else e)∧t<t'∧t'≤e∧t'≤nx'∧(t'<e→t'=nx'):=⟨_,rfl,by split<;>omega,by split<;>omega,by split<;>omega,fun h=>by
     by_cases hx:nx'<e
     ·rw [if_pos hx]
     ·rw [if_neg hx] at h;omega⟩
    rw [←ht']
    refine jCH hL ha he hB (e-t').toNat t' (shK (zAt zs L.2.1) L t) nx' _ (by omega) (by omega) (fun u u1 u2=>hon u (by omega) u2) (fun h5=>⟨fun u u1 u2 u3=>(hc' hnx).1 u (by omega) u2 u3,(hc' hnx).2⟩)
     (hch.snoc (by omega) (fun u u1 u2=> ?_)) (fun hlt'=> ?_) (fun heq _=> ?_)
    ·unfold perX
     rw [hon u u1 (by omega),(hc' hnx).1 u u1 (by omega) (by omega)]
     rfl
    ·have hm:=jqC hs hL (t:=t) (u:=t') (by omega) (by omega) (by omega)
     have hne:shK (zAt zs L.2.1) L t<shK (zAt zs L.2.1) L t':=by
      have:=h4 hlt'
      subst this
      exact (hc' hnx).2 (by omega)
     simp only [jh,qg]
     omega
    ·have hm:=jqC hs hL (t:=t) (u:=e-1) (by omega) (by omega) (by omega)
     simp only [jh,qg]
     omega
   by_cases htn:t≥nx
   ·rw [j01 htn,j5]
    rw [show j1V ((tb (zAt zs L.2.1)).1,(tb (zAt zs L.2.1)).2) (L.1,L.2.1,(L.2.2.1.1,L.2.2.1.2),L.2.2.2.1,L.2.2.2.2.1,L.2.2.2.2.2.1,L.2.2.2.2.2.2.1,L.2.2.2.2.2.2.2.1,L.2.2.2.2.2.2.2.2) t=_ from eK]
    simp only [j3]
    rw [j02 (x:=shK (zAt zs L.2.1) L t+1) (by omega) (by omega)]
    obtain ⟨v,ev,_⟩:=recH hz.ztab.2 hL.rt2 (k:=shK (zAt zs L.2.1) L t+1) (by omega) (by omega)
    have hcn:=jBl hs hL (t:=t) (by omega) (by omega) hk0 ev
    rw [show j0M ((tb (zAt zs L.2.1)).1,(tb (zAt zs L.2.1)).2) (L.1,L.2.1,(L.2.2.1.1,L.2.2.1.2),L.2.2.2.1,L.2.2.2.2.1,L.2.2.2.2.2.1,L.2.2.2.2.2.2.1,L.2.2.2.2.2.2.2.1,L.2.2.2.2.2.2.2.2) (shK (zAt zs L.2.1) L t+1)=_ from ev]
    simp only [j3,show Int.ofNat L.2.2.2.2.2.1.length=(L.2.2.2.2.2.1.length:Int) from rfl]
    rw [j2c (show ¬ (L.2.2.2.2.2.1.length:Int)=0 by omega),j0s q1 q2]
    have hsz:∀ x:SgT,acc.length+[x].length≤j07:=fun x=>by simp [j07];omega
    revert hcn
    generalize (hO (zs.getD L.2.1.toNat (ByteArray.empty,((0:Int),([]:List Rule)))).2.1 (tb (zs.getD L.2.1.toNat (ByteArray.empty,((0:Int),([]:List Rule))))).2 L (shK (zAt zs L.2.1) L t+1)).isSome=ok
    cases ok with
    | false=>
     intro hcn
     simp only [ju,j5]
     rw [j01 (hsz _),j5,j05]
     exact step 8589934593 hcn.1 hcn.2 _ (by rw [q3])
    | true=>
     intro hcn
     simp only [jj,ju,j6,j5]
     rw [j01 (hsz _),j5,j05]
     exact step v hcn.1 hcn.2 _ (by rw [q3])
   ·have hk:=(hc (by omega)).1 t (kn _) (by omega) (by omega)
    subst hk
    rw [j00 htn,j6]
    simp only [show Int.ofNat L.2.2.2.2.2.1.length=(L.2.2.2.2.2.1.length:Int) from rfl]
    rw [j2c (show ¬ (L.2.2.2.2.2.1.length:Int)=0 by omega),j0s q1 q2]
    simp only [ju,j5]
    rw [j01 (show acc.length+[_].length≤j07 by simp [j07];omega),j5,j05]
    exact step nx (by omega) hc _ (by rw [q3])
  ·have hte':t=e:=by omega
   subst hte'
   rw [j00 hte,j6,j08]
   exact ⟨k,nx,acc,rfl,hc,hch,hl2 rfl⟩
 termination_by n=>n
theorem jCI {L:j0w} (hL:LCk zs.length ps.length cs.length L) {a b:Int} (ha:0≤a) (hb:b≤8589934592) {A:SL} (hA:A.length≤400000) (hA2:∀ t,inS t A↔a≤t∧t<b∧onX zs cs L t=true)
  {k0:Int} {N:Nat} (hN:N≤4000000) (hk0 : -1≤k0) (hkN:∀ t,a≤t→t<b→onX zs cs L t=true→k0≤shK (zAt zs L.2.1) L t∧shK (zAt zs L.2.1) L t≤k0+N) :
  ∀ (n j:Nat) (t k nx Kc:Int) (acc:SgL),j+n=A.length→a≤t→t≤b→StS (t-1) (A.drop j)→(∀ u,t≤u→(inS u A↔inS u (A.drop j)))→Cch (zAt zs L.2.1) L k nx t→Ch (perX zs cs L) t a acc→
   k0≤Kc→Kc≤k0+N→(∀ u,t≤u→inS u A→Kc≤shK (zAt zs L.2.1) L u)→(acc.length:Int)≤2*j+(Kc-k0)→
  ∃ t' acc',j2n b t k nx (A.length:Int) (j:Int) L.1 L.2.1 L.2.2.1.1 L.2.2.1.2 L.2.2.2.1 L.2.2.2.2.1 L.2.2.2.2.2.1 L.2.2.2.2.2.2.1 L.2.2.2.2.2.2.2.1 L.2.2.2.2.2.2.2.2 (tb (zAt zs L.2.1)).1 (tb (zAt zs L.2.1)).2 acc A=some (b,t',acc')∧
   Ch (perX zs cs L) b a (acc'++[(t',(b, -1))])∧acc'.length≤2*A.length+N
 | 0,j,t,k,nx,Kc,acc,hj,hat,htb,hst,hin,hc,hch,hK1,hK2,hK3,hl=>by
  rw [j8W]
  simp only [j0Z]
  rw [j00 (by omega),j6,j08]
  refine ⟨t,acc,rfl,hch.snoc htb (fun u u1 u2=> ?_),by omega⟩
  have:onX zs cs L u=false:=by
   cases ho:onX zs cs L u with
   | false=>rfl
   | true=>
    have:=(hin u u1).1 ((hA2 u).2 ⟨by omega,u2,ho⟩)
    rw [jc (by omega)] at this
    exact absurd this j4x
  unfold perX
  rw [this];rfl
 | n+1,j,t,k,nx,Kc,acc,hj,hat,htb,hst,hin,hc,hch,hK1,hK2,hK3,hl=>by
  have hj':j<A.length:=by omega
  have hgd:A.getD j ((0:Int),(0:Int))=A[j]:=by simp [List.getD,hj']
  rw [jb hj'] at hst hin
  obtain ⟨s1,s2,s3⟩:=hst
  have hon:∀ u,A[j].1≤u→u<A[j].2→inS u A:=fun u u1 u2=>(hin u (by omega)).2 (j1r.2 (.inl ⟨u1,u2⟩))
  have hp1:=(hA2 A[j].1).1 (hon _ (kn _) s2)
  have hp2:=(hA2 (A[j].2-1)).1 (hon _ (by omega) (by omega))
  have hKj:=hK3 A[j].1 (by omega) (hon _ (kn _) s2)
  rw [j8W]
  simp only [j0Z]
  rw [j01 (show (j:Int)<(A.length:Int) by omega),j0s (by omega) (by omega)]
  simp only [j5,j7,hgd]
  rw [j01 (show acc.length+[_].length≤j07 by simp [j07];omega),j5]
  obtain ⟨k',nx',acc',e2,c2,h2,l2⟩:=jCH hs hL (a:=a) (b:=b) (e:=A[j].2) (p:=A[j].1) (m:=(A.length:Int)) (j:=(j:Int)) (sp:=A) ha (by omega) (B:=2*j+1-k0) (by omega) (A[j].2-A[j].1).toNat A[j].1 k nx
   (acc++[(t,(A[j].1, -1))]) (by omega) (by omega) (fun u u1 u2=>((hA2 u).1 (hon u u1 u2)).2.2) (fun h5=>by
    have h6:=hc (by omega)
    exact ⟨fun u u1 u2 u3=>h6.1 u (by omega) u2 u3,h6.2⟩) (hch.snoc (by omega) (fun u u1 u2=>by
    have:onX zs cs L u=false:=by
     cases ho:onX zs cs L u with
     | false=>rfl
     | true=>
      have:=(hin u u1).1 ((hA2 u).2 ⟨by omega,by omega,ho⟩)
      rcases j1r.1 this with h | h
      ·omega
      ·have:=StS.low s3 h;omega
    unfold perX
    rw [this];rfl)) (fun _=>by rw [jh,qg];omega) (fun h=>by omega)
  rw [e2]
  simp only [j3]
  rw [j02 (x:=(j:Int)+1) (by omega) (by omega),j05]
  have hl2:=l2 (by omega)
  have hr:=hkN (A[j].2-1) (by omega) (by omega) hp2.2.2
  exact jCI hL ha hb hA hA2 hN hk0 hkN n (j+1) A[j].2 k' nx' (shK (zAt zs L.2.1) L (A[j].2-1)) acc' (by omega) (by omega) (by omega) (s3.weak (by omega)) (fun u hu=>by
   rw [hin u (by omega),j1r]
   exact ⟨fun h=>by
    rcases h with h | h
    ·omega
    ·exact h,.inr⟩) c2 h2 hr.1 hr.2 (fun u hu hiu=>by
   have:=(hA2 u).1 hiu
   exact jqC hs hL (by omega) (by omega) (by omega)) (by omega)
theorem jy1 {L:j0w} (hL:LCk zs.length ps.length cs.length L) {ss:List j1y} {a b:Int} (ha:0≤a) (hab:a≤b) (hb:b≤8589934592) {M:Nat} (hM:M≤60) (hlen:b-a≤604800*M)
  {k0:Int} {N:Nat} (hN:N≤4000000) (hk0 : -1≤k0) (hkN:∀ t,a≤t→t<b→onX zs cs L t=true→k0≤shK (zAt zs L.2.1) L t∧shK (zAt zs L.2.1) L t≤k0+N) :
  ∃ out,j1l ((zs,(ps,(cs,ss))),zs.map tb) L a b=some out∧Cov (perX zs cs L) b none a out∧
   out.length≤2*(L.2.2.2.2.2.2.1.length*(M+1)*5+1+(if L.2.2.2.2.2.2.2.2=0 then 0 else (cAt cs L.2.2.2.2.2.2.2.1).2.2.length*5))+N+1:=by
 have hzl:(zs.map tb).length=zs.length:=kv ..
 have hg:=jso (zs:=zs) hL.z0 hL.z1
 obtain ⟨A,e1,s1,s2,s3⟩:=jxX hs hL (ss:=ss) ha hab hb hM hlen
 have hAl:A.length≤400000:=by
  have h1:L.2.2.2.2.2.2.1.length*(M+1)≤14*61:=zj hL.wl (by omega)
  by_cases hm:L.2.2.2.2.2.2.2.2=0
  ·rw [if_pos hm] at s3;omega
  ·rw [if_neg hm] at s3
   have hx:=(cget hs (hL.cal hm).1 (hL.cal hm).2).len
   have h64:(cAt cs L.2.2.2.2.2.2.2.1).2.2.length≤64:=hx
   omega
 obtain ⟨t',acc,e2,h2,l2⟩:=jCI hs hL ha hb hAl s2 hN hk0 hkN A.length 0 a (-1) (-1) k0 [] (by omega) (kn _) hab s1 (fun u _=>by simp) (fun h=>by omega) rfl (kn _) (by omega) (fun u hu hiu=>by
  have:=(s2 u).1 hiu
  exact (hkN u this.1 this.2.1 this.2.2).1) (by simp)
 obtain ⟨out,e3,h3,l3⟩:=jnN (l:=acc++[(t',(b, -1))]) (by rw [jh,qg];omega) h2
 refine ⟨out,?_,h3,by rw [jh,qg] at l3;omega⟩
 simp only [j1l]
 rw [j0s hL.z0 (by rw [hzl];exact hL.z1)]
 simp only [j5,hg]
 rw [show j3O ((zs,(ps,(cs,ss))),zs.map tb) (L.1,L.2.1,(L.2.2.1.1,L.2.2.1.2),L.2.2.2.1,L.2.2.2.2.1,L.2.2.2.2.2.1,L.2.2.2.2.2.2.1,L.2.2.2.2.2.2.2.1,L.2.2.2.2.2.2.2.2) a b=_ from e1]
 simp only [j3,show Int.ofNat A.length=(A.length:Int) from rfl]
 rw [show j2n b a (-1) (-1) (A.length:Int) 0 L.1 L.2.1 L.2.2.1.1 L.2.2.1.2 L.2.2.2.1 L.2.2.2.2.1 L.2.2.2.2.2.1 L.2.2.2.2.2.2.1 L.2.2.2.2.2.2.2.1 L.2.2.2.2.2.2.2.2 (tb (zs.getD L.2.1.toNat (ByteArray.empty,((0:Int),([]:List Rule))))).1 (tb (zs.getD L.2.1.toNat (ByteArray.empty,((0:Int),([]:List Rule))))).2 [] A=_ from e2]
 simp only [j3]
 rw [j01 (show acc.length+[_].length≤j07 by simp [j07];omega),j5,e3]
 rfl
end
section
variable {zs:List j1R} {ps:List j1q} {cs:List CalT} (hs:SOk2 zs ps cs)
include hs
omit hs in
theorem Fst.near {o:Int} {l:TrL} (h:TOk o l) {s t:Int} {k:Nat} (f:Fst o l s t k) (hs:0≤s):s-64800≤t∧t≤s+64800:=by
 obtain ⟨p1,p2,p3⟩:=f.piece h
 have hk:=f.hk
 have o1:=h.of1 k hk
 have o0:=h.of0 k hk
 have ht:=f.ht
 refine ⟨by omega,?_⟩
 by_cases h0:k=0
 ·subst h0
  have e0:frm l 0=0:=frm0
  omega
 ·obtain ⟨j,rfl⟩:∃ j,k=j+1:=⟨k-1,by omega⟩
  have b:=f.bef j (by omega)
  have o2:=h.of0 j (by omega)
  omega
theorem jBm {L:j0w} (hL:LCk zs.length ps.length cs.length L) {t u:Int} (h0:0≤t) (htu:t≤u) (h1:u≤8589934592):shK (zAt zs L.2.1) L u≤shK (zAt zs L.2.1) L t+(u-t)/3600+8:=by
 have hz:=zget hs.so.ok hL.z0 hL.z1
 have hst:=hL.rt2.step
 have he0:=hL.rt2.e0;have hc0:=hL.c0;have hd:=hL.d0
 have a':ShO (zAt zs L.2.1).2.1 (tb (zAt zs L.2.1)).2 L t (shK (zAt zs L.2.1) L t):=(jhf hz hL.rt2 (t:=t) h0 (by omega)).2
 have b':ShO (zAt zs L.2.1).2.1 (tb (zAt zs L.2.1)).2 L u (shK (zAt zs L.2.1) L u):=(jhf hz hL.rt2 (t:=u) (by omega) h1).2
 generalize shK (zAt zs L.2.1) L t=K at *
 generalize shK (zAt zs L.2.1) L u=K' at *
 have hK : -1≤K:=by rcases a' with ⟨h,_⟩ | ⟨h,_⟩<;>omega
 have hn:¬ QO (zAt zs L.2.1).2.1 (tb (zAt zs L.2.1)).2 L t (K+1):=by
  rcases a' with ⟨h,h2⟩ | ⟨_,_,h2⟩
  ·rw [h];exact h2
  ·exact h2
 by_cases hKK:K'≤K+1
 ·omega
 ·rcases b' with ⟨h,_⟩ | ⟨hK0,⟨v,hv,hvu⟩,_⟩
  ·omega
  ·obtain ⟨w,hw,hwu⟩:QO (zAt zs L.2.1).2.1 (tb (zAt zs L.2.1)).2 L u (K+1):=QO.le hz.ztab.2 hL.rt2 (show K+1≤K' by omega) ⟨v,hv,hvu⟩
   have hwt:t<w:=by
    apply jm
    intro hx
    exact hn ⟨w,hw,by omega⟩
   have hm:3600*(K'-(K+1))≤3600*L.2.2.2.2.1*(K'-(K+1)):=Int.mul_le_mul_of_nonneg_right (by omega) (by omega)
   by_cases hu:L.2.2.2.1=0
   ·unfold hO at hv hw
    rw [if_pos hu] at hv hw
    cases hf:fO (zAt zs L.2.1).2.1 (tb (zAt zs L.2.1)).2 (sLoc L 0) with
    | none=>rw [hf] at hv;simp at hv
    | some x=>
     rw [hf] at hv hw
     simp only [j3] at hv hw
     split at hv
     ·split at hw
      ·simp only [j4] at hv hw
       have e:3600*L.2.2.2.2.1*(K'-(K+1))=3600*L.2.2.2.2.1*K'-3600*L.2.2.2.2.1*(K+1):=Int.mul_sub ..
       omega
      ·simp at hw
     ·simp at hv
   ·unfold hO at hv hw
    rw [if_neg hu] at hv hw
    obtain ⟨k1,f1⟩:=jzm hv
    obtain ⟨k2,f2⟩:=jzm hw
    have e:(K'-(K+1))*j4h L=K'*j4h L-(K+1)*j4h L:=Int.sub_mul ..
    have hm2:(K'-(K+1))*1≤(K'-(K+1))*j4h L:=Int.mul_le_mul_of_nonneg_left hst.1 (by omega)
    have hm3:0≤(K+1)*j4h L:=Int.mul_nonneg (by omega) (by omega)
    have g1:=f1.near hz.ztab.2 (by unfold sLoc;omega)
    have g2:=f2.near hz.ztab.2 (by unfold sLoc;omega)
    unfold sLoc at g1 g2
    omega
theorem jsq {L:j0w} (hL:LCk zs.length ps.length cs.length L) {a b:Int} (ha:0≤a) (hb:b≤8589934592):∀ t,a≤t→t<b→onX zs cs L t=true→shK (zAt zs L.2.1) L a≤shK (zAt zs L.2.1) L t∧shK (zAt zs L.2.1) L t≤shK (zAt zs L.2.1) L a+(((b-a)/3600+8).toNat:Int):=fun t h1 h2 _=>by
 have e1:=jqC hs hL (t:=a) (u:=t) ha h1 (by omega)
 have e2:=jBm hs hL (t:=a) (u:=t) ha h1 (by omega)
 omega
theorem jCJ {L:j0w} (hL:LCk zs.length ps.length cs.length L) {t:Int} (h0:0≤t) (h1:t≤8589934592) : -1≤shK (zAt zs L.2.1) L t:=by
 have hz:=zget hs.so.ok hL.z0 hL.z1
 have a':ShO (zAt zs L.2.1).2.1 (tb (zAt zs L.2.1)).2 L t (shK (zAt zs L.2.1) L t):=(jhf hz hL.rt2 (t:=t) h0 h1).2
 rcases a' with ⟨h,_⟩ | ⟨h,_⟩<;>omega
theorem jzt {L:j0w} (hL:LCk zs.length ps.length cs.length L) {ss:List j1y} {a b:Int} (ha:0≤a) (hab:a≤b) (hb:b≤8589934592) (hlen:b-a≤1209600) :
  ∃ out,j1l ((zs,(ps,(cs,ss))),zs.map tb) L a b=some out∧Cov (perX zs cs L) b none a out∧out.length≤5000:=by
 obtain ⟨out,e,h1,h2⟩:=jy1 hs hL (ss:=ss) ha hab hb (M:=2) (by omega) (by omega) (N:=((b-a)/3600+8).toNat) (by omega) (jCJ hs hL ha (by omega)) (jsq hs hL ha hb)
 refine ⟨out,e,h1,?_⟩
 have hw:L.2.2.2.2.2.2.1.length*(2+1)*5≤14*3*5:=jw _ (jw _ hL.wl)
 have hc:(if L.2.2.2.2.2.2.2.2=0 then 0 else (cAt cs L.2.2.2.2.2.2.2.1).2.2.length*5)≤64*5:=by
  by_cases hm:L.2.2.2.2.2.2.2.2=0
  ·rw [if_pos hm];omega
  ·rw [if_neg hm]
   exact jw _ (cget hs (hL.cal hm).1 (hL.cal hm).2).len
 omega
theorem juV {L:j0w} (hL:LCk zs.length ps.length cs.length L) {ss:List j1y} {a b:Int} (ha:0≤a) (hab:a≤b) (hb:b≤8589934592) (hlen:b-a≤35078400) :
  ∃ out,j1l ((zs,(ps,(cs,ss))),zs.map tb) L a b=some out∧Cov (perX zs cs L) b none a out∧out.length≤30000:=by
 obtain ⟨out,e,h1,h2⟩:=jy1 hs hL (ss:=ss) ha hab hb (M:=58) (by omega) (by omega) (N:=((b-a)/3600+8).toNat) (by omega) (jCJ hs hL ha (by omega)) (jsq hs hL ha hb)
 refine ⟨out,e,h1,?_⟩
 have hw:L.2.2.2.2.2.2.1.length*(58+1)*5≤14*59*5:=jw _ (jw _ hL.wl)
 have hc:(if L.2.2.2.2.2.2.2.2=0 then 0 else (cAt cs L.2.2.2.2.2.2.2.1).2.2.length*5)≤64*5:=by
  by_cases hm:L.2.2.2.2.2.2.2.2=0
  ·rw [if_pos hm];omega
  ·rw [if_neg hm]
   exact jw _ (cget hs (hL.cal hm).1 (hL.cal hm).2).len
 omega
end
end Go.Proofs.Pw
