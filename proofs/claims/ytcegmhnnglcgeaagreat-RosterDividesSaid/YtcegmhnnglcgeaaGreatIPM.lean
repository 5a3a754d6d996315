/- Chapter 3's reference: Valid, Has and Length of spans in order, apart. -/
import Derived.Test.YtcegmhnnglcgeaaGreatIPG
import Derived.Test.YtcegmhnnglcgeaaGreatIPL
import Derived.Test.YtcegmhnnglcgeaaGreatIPB
import Derived.KernelRfl
set_option linter.unusedSectionVars false
open Go Go.Lft
namespace Go.Proofs.Pw
theorem jgC:∀ {l:SL} {p:Int},StS p l→∀ i,i<l.length→p<(l.getD i (0,0)).1∧(l.getD i (0,0)).1<(l.getD i (0,0)).2
 | [],_,_,i,hi=>by simp at hi
 | x::r,p,h,0,_=>⟨h.1,h.2.1⟩
 | x::r,p,h,i+1,hi=>by
  have:=jgC h.2.2 i (by simpa using hi)
  have h1:=h.1;have h2:=h.2.1
  refine ⟨?_,this.2⟩
  have e:((x::r).getD (i+1) (0,0)).1=(r.getD i (0,0)).1:=rfl
  rw [e];omega
theorem jkM:∀ {l:SL} {p:Int},StS p l→∀ i j,i<j→j<l.length→(l.getD i (0,0)).2<(l.getD j (0,0)).1
 | [],_,_,i,j,_,hj=>by simp at hj
 | x::r,p,h,0,j+1,_,hj=>(jgC h.2.2 j (by simpa using hj)).1
 | x::r,p,h,i+1,j+1,hij,hj=>jkM h.2.2 i j (by omega) (by simpa using hj)
 | x::r,p,h,_,0,hij,_=>by omega
section
variable {l:SL} {p:Int} (h:StS p l) (hp : -1≤p) (hl:l.length≤4096) (hb:∀ u∈l,u.2≤8589934592)
include h hp hl hb
theorem jvN (i:Nat) (hi:i<l.length):(l.getD i (0,0)).2≤8589934592:=by
 rw [show l.getD i (0,0)=l[i] by simp [hi]]
 exact hb _ (List.getElem_mem hi)
theorem jy8:∀ (n i:Nat),i+n=l.length→jce l (i:Int)=some (.inr ())
 | 0,i,hi=>by
  rw [jeH]
  simp only [j5E,show Int.ofNat (List.length l)=(l.length:Int) from rfl]
  rw [j00 (by omega),j6,j0a]
 | n+1,i,hi=>by
  have ih:=jy8 n (i+1) (by omega)
  have hg:=jgC h i (by omega)
  have hu:=jvN h hp hl hb i (by omega)
  rw [jeH]
  simp only [j5E,show Int.ofNat (List.length l)=(l.length:Int) from rfl]
  rw [j01 (show (i:Int)<(l.length:Int) by omega),j14 (by omega) (by omega)]
  simp only [j5,j7]
  rw [j00 (show ¬ (l.getD i ((0:Int),(0:Int))).1<0 by omega),j00 (show ¬ (l.getD i ((0:Int),(0:Int))).1≥(l.getD i ((0:Int),(0:Int))).2 by omega),j00 (show ¬ (l.getD i ((0:Int),(0:Int))).2>8589934592 by omega)]
  rw [j02 (x:=(i:Int)+1) (by omega) (by omega)]
  simp only [j6]
  by_cases h0:i=0
  ·rw [j00 (by omega)]
   simp only [j6,j06]
   exact ih
  ·obtain ⟨j,rfl⟩:∃ j,i=j+1:=⟨i-1,by omega⟩
   have hgap:=jkM h j (j+1) (by omega) (by omega)
   rw [j01 (by omega),j02 (x:=((j+1:Nat):Int)-1) (by omega) (by omega),j14 (by omega) (by omega),show (((j+1:Nat):Int)-1).toNat=j by omega,j00 (by omega)]
   simp only [j5,j6,j06]
   exact ih
theorem jkN:jd1 l=some true:=by
 have:=jy8 h hp hl hb l.length 0 (by omega)
 rw [show ((0:Nat):Int)=0 from rfl] at this
 simp only [jd1,show Int.ofNat (List.length l)=(l.length:Int) from rfl]
 rw [j00 (by omega),j6,this]
 rfl
theorem ju0 (x:Int):∀ (n a b:Nat),b-a≤n→a≤b→b≤l.length→(∀ i,i<a→(l.getD i (0,0)).2≤x)→(∀ i,b≤i→i<l.length→x<(l.getD i (0,0)).2)→
  ∃ k:Nat,jfl l x (a:Int) (b:Int)=some (l,x,(k:Int))∧k≤l.length∧(∀ i,i<k→(l.getD i (0,0)).2≤x)∧(∀ i,k≤i→i<l.length→x<(l.getD i (0,0)).2)
 | 0,a,b,hn,hab,hbl,h1,h2=>by
  rw [jgZ]
  simp only [j6N]
  rw [j00 (by omega),j6,j0a]
  exact ⟨a,rfl,by omega,h1,fun i hi=>h2 i (by omega)⟩
 | n+1,a,b,hn,hab,hbl,h1,h2=>by
  rw [jgZ]
  simp only [j6N]
  by_cases hlt:a<b
  ·rw [j01 (show (a:Int)<(b:Int) by omega),j02 (x:=(a:Int)+(b:Int)) (by omega) (by omega),jko (by omega),j02 (x:=((a:Int)+(b:Int))/2) (by omega) (by omega),
    show ((a:Int)+(b:Int))/2=(((a+b)/2:Nat):Int) by omega,j14 (by omega) (by omega),j02 (x:=(((a+b)/2:Nat):Int)+1) (by omega) (by omega)]
   simp only [j5,j7]
   by_cases hc:(l.getD ((a+b)/2) (0,0)).2≤x
   ·rw [j01 hc,j5,j06]
    refine ju0 x n ((a+b)/2+1) b (by omega) (by omega) hbl (fun i hi=> ?_) h2
    rcases Nat.lt_or_ge i ((a+b)/2) with h' | h'
    ·have g1:=jkM h i ((a+b)/2) h' (by omega)
     have g2:=jgC h ((a+b)/2) (by omega)
     omega
    ·have:i=(a+b)/2:=by omega
     rw [this];exact hc
   ·rw [j00 hc,j6,j06]
    refine ju0 x n a ((a+b)/2) (by omega) (by omega) (by omega) h1 (fun i hi hi2=> ?_)
    rcases Nat.lt_or_ge ((a+b)/2) i with h' | h'
    ·have g1:=jkM h ((a+b)/2) i h' (by omega)
     have g2:=jgC h i (by omega)
     omega
    ·have:i=(a+b)/2:=by omega
     rw [this];omega
  ·rw [j00 (by omega),j6,j0a]
   exact ⟨a,rfl,by omega,h1,fun i hi=>h2 i (by omega)⟩
theorem jwW (x:Int):∃ b,jmC l x=some b∧(b=true↔inS x l):=by
 obtain ⟨k,e,hk,h1,h2⟩:=ju0 h hp hl hb x l.length 0 l.length (by omega) (by omega) (by omega) (fun i hi=>by omega) (fun i hi hi2=>by omega)
 rw [show ((0:Nat):Int)=0 from rfl] at e
 simp only [jmC,jkN h hp hl hb,j3,j5,jpq,show Int.ofNat (List.length l)=(l.length:Int) from rfl,e]
 by_cases hkl:k<l.length
 ·rw [j01 (show (k:Int)<(l.length:Int) by omega),j14 (by omega) (by omega)]
  simp only [Bool.true_or,j5,j7,j3]
  refine ⟨_,rfl,?_⟩
  rw [decide_eq_true_iff]
  have hgd:l.getD k ((0:Int),(0:Int))=l[k]:=by simp [hkl]
  constructor
  ·intro hx
   exact ⟨l[k],List.getElem_mem hkl,by rw [←hgd];exact hx,by rw [←hgd];exact h2 k (Nat.le_refl _) hkl⟩
  ·rintro ⟨s,hs,c1,c2⟩
   obtain ⟨i,hi,rfl⟩:=List.getElem_of_mem hs
   have hgi:l.getD i ((0:Int),(0:Int))=l[i]:=by simp [hi]
   rw [←hgi] at c1 c2
   rcases Nat.lt_trichotomy i k with h' | h' | h'
   ·have:=h1 i h';omega
   ·subst h';exact c1
   ·have g1:=jkM h k i h' hi
    have g2:=jgC h k hkl
    omega
 ·rw [j00 (show ¬ (k:Int)<(l.length:Int) by omega)]
  simp only [Bool.not_false,Bool.or_true,j5,j6,j3]
  refine ⟨false,rfl,?_⟩
  simp only [Bool.false_eq_true,false_iff]
  rintro ⟨s,hs,c1,c2⟩
  obtain ⟨i,hi,rfl⟩:=List.getElem_of_mem hs
  have hgi:l.getD i ((0:Int),(0:Int))=l[i]:=by simp [hi]
  have:=h1 i (by omega)
  rw [hgi] at this
  omega
end
theorem jr0 {f:Int→Int} {b v:Int}:∀ {l:SgL} {q:Option Int} {a:Int},Cov f b q a l→2*(l.filter fun s=>s.2.2==v).length≤l.length+1∧(q=some v→2*(l.filter fun s=>s.2.2==v).length≤l.length)
 | [],_,_,_=>by simp
 | s::r,q,a,h=>by
  obtain ⟨_,_,h3,_,h5⟩:=h
  have ih:=jr0 (v:=v) h5
  by_cases hv:s.2.2=v
  ·have e:((s::r).filter fun s=>s.2.2==v)=s::(r.filter fun s=>s.2.2==v):=by simp [hv]
   rw [e]
   have:=ih.2 (by rw [hv])
   refine ⟨by simp only [List.length_cons];omega,fun hq=>absurd (by rw [hq,hv]) h3⟩
  ·have e:((s::r).filter fun s=>s.2.2==v)=r.filter fun s=>s.2.2==v:=by simp [hv]
   rw [e]
   have:=ih.1
   exact ⟨by simp only [List.length_cons];omega,fun _=>by simp only [List.length_cons];omega⟩
def spP (v:Int) (S:SgL):SL:=(S.filter fun s=>s.2.2==v).map fun s=>(s.1,s.2.1)
theorem jv8 (v:Int) (s:SgT) (r:SgL):spP v (s::r)=(if s.2.2=v then [(s.1,s.2.1)] else [])++spP v r:=by
 unfold spP
 by_cases hv:s.2.2=v
 ·simp [hv]
 ·simp [hv]
theorem jy9 {f:Int→Int} {a b v:Int} {S:SgL} (h:Cov f b none a S) {x:Int}:inS x (spP v S)↔a≤x∧x<b∧f x=v:=by
 unfold inS spP
 constructor
 ·rintro ⟨u,hu,h1,h2⟩
  obtain ⟨s,hs,rfl⟩:=List.mem_map.1 hu
  have hm:=List.mem_filter.1 hs
  have hc:=h.ch.mem _ hm.1
  have hv:s.2.2=v:=by simpa using hm.2
  exact ⟨by dsimp only at h1;omega,by dsimp only at h2;omega,by rw [←hv];exact hc.2.2.2 x h1 h2⟩
 ·rintro ⟨h0,h1,h2⟩
  obtain ⟨s,hs,c1,c2⟩:=h.ch.has x h0 h1
  have hc:=h.ch.mem _ hs
  exact ⟨_,List.mem_map.2 ⟨s,List.mem_filter.2 ⟨hs,by rw [←hc.2.2.2 x c1 c2,h2];exact beq_self_eq_true _⟩,rfl⟩,c1,c2⟩
theorem jwX {v:Int} {S:SgL} (hS:S.length≤1000000):∀ (n i:Nat) (acc:SL),i+n=S.length→acc.length≤i→
  j3z v S (S.length:Int) (i:Int) acc=some (acc++spP v (S.drop i))
 | 0,i,acc,hi,_=>by
  rw [jaA]
  simp only [j3r]
  rw [j00 (by omega),j6,j0a,List.drop_of_length_le (by omega)]
  simp [spP]
 | n+1,i,acc,hi,ha=>by
  have hi':i<S.length:=by omega
  have hgd:S.getD i ((0:Int),((0:Int),(0:Int)))=S[i]:=by simp [List.getD,hi']
  rw [jaA]
  simp only [j3r]
  rw [j01 (show (i:Int)<(S.length:Int) by omega),j14 (by omega) (by omega),j02 (x:=(i:Int)+1) (by omega) (by omega)]
  simp only [j5,j7,hgd]
  have hd:spP v (S.drop i)=(if S[i].2.2=v then [(S[i].1,S[i].2.1)] else [])++spP v (S.drop (i+1)):=by
   rw [List.drop_eq_getElem_cons hi',jv8]
  rw [hd]
  by_cases hv:S[i].2.2=v
  ·rw [if_pos hv]
   rw [j7a hv,j5,j01 (by simp [j07];omega),j5,j06]
   have ih:=jwX (v:=v) hS n (i+1) (acc++[(S[i].1,S[i].2.1)]) (by omega) (by simp;omega)
   rw [show ((i+1:Nat):Int)=(i:Int)+1 by omega] at ih
   rw [List.append_assoc] at ih
   exact ih
  ·rw [if_neg hv,List.nil_append]
   rw [j48 hv,j6,j06]
   have ih:=jwX (v:=v) hS n (i+1) acc (by omega) (by omega)
   rw [show ((i+1:Nat):Int)=(i:Int)+1 by omega] at ih
   exact ih
section
variable {zs:List j2E} {ps:List j1E} {cs:List CalT} (hs:SOk2 zs ps cs)
include hs
theorem jv9 {L:j0R} (hL:LCk zs.length ps.length cs.length L) {ss:List j1N} {a b:Int} (ha:0≤a) (hab:a≤b) (hb:b≤8589934592) (hlen:b-a≤604800) :
  ∃ out,j16 ((zs,(ps,(cs,ss))),zs.map tb) L a b=some out∧Cov (perX zs cs L) b none a out∧out.length≤1600:=by
 obtain ⟨out,e,h1,h2⟩:=jpT hs hL (ss:=ss) ha hab hb (M:=1) (by omega) (by omega) (N:=((b-a)/3600+8).toNat) (by omega) (jwL hs hL ha (by omega)) (jkH hs hL ha hb)
 refine ⟨out,e,h1,?_⟩
 have hw:L.2.2.2.2.2.2.1.length*(1+1)*21≤14*2*21:=Nat.mul_le_mul_right _ (Nat.mul_le_mul_right _ hL.wl)
 have hc:(if L.2.2.2.2.2.2.2.2=0 then 0 else (cAt cs L.2.2.2.2.2.2.2.1).2.2.length*21)≤4*21:=by
  by_cases hm:L.2.2.2.2.2.2.2.2=0
  ·rw [if_pos hm];omega
  ·rw [if_neg hm]
   refine Nat.mul_le_mul_right _ (hs.c.dl _ ?_)
   have hq:=hL.cal hm
   have hi:(L.2.2.2.2.2.2.2.1).toNat<cs.length:=by omega
   unfold cAt
   rw [show cs.getD (L.2.2.2.2.2.2.2.1).toNat (ByteArray.empty,((0:Int),([]:List Int)))=cs[(L.2.2.2.2.2.2.2.1).toNat] by simp [List.getD,hi]]
   exact List.getElem_mem hi
 omega
theorem jr1 {a b:Int} (ha:0≤a) (hab:a≤b) (hb:b≤8589934592) (hlen:b-a≤604800):∀ ls:List j0R,(∀ L∈ls,LCk zs.length ps.length cs.length L)→
  ∃ E:List Int,E.length≤1600*ls.length∧∀ L∈ls,∀ x,a<x→x<b→perX zs cs L (x-1)≠perX zs cs L x→x∈E
 | [],_=>⟨[],by simp,by simp⟩
 | L::ls,hL=>by
  obtain ⟨E,e1,e2⟩:=jr1 ha hab hb hlen ls (fun M hM=>hL M (by simp [hM]))
  obtain ⟨S,_,c1,l1⟩:=jv9 hs (hL L (by simp)) (ss:=[]) ha hab hb hlen
  refine ⟨brd S++E,?_,fun M hM x x1 x2 x3=> ?_⟩
  ·have:(brd S).length≤S.length:=by simp [brd]
   rw [List.length_append,List.length_cons];omega
  ·rcases List.mem_cons.1 hM with rfl | hM
   ·exact List.mem_append_left _ (((jkI c1).1 x).2 ⟨x1,x2,x3⟩)
   ·exact List.mem_append_right _ (e2 M hM x x1 x2 x3)
theorem jva {s:j1N} (hk:SCk zs.length ps.length cs.length s) {a b:Int} (ha:0≤a) (hab:a≤b) (hb:b≤8589934592) (hlen:b-a≤604800) :
  ∃ E:List Int,E.length≤1600*s.2.1.length+2*s.2.2.length∧∀ x,a<x→x<b→whoS zs cs s (x-1)≠whoS zs cs s x→x∈E:=by
 obtain ⟨E,e1,e2⟩:=jr1 hs ha hab hb hlen s.2.1 hk.ly
 refine ⟨E++edB s.2.2,by rw [List.length_append,jkJ];omega,fun x x1 x2 x3=> ?_⟩
 apply Classical.byContradiction
 intro hn
 simp only [List.mem_append,not_or] at hn
 refine x3 ?_
 have hT:topP s.2.2 (x-1) (pfX zs cs s.2.1 (x-1)) s.2.1.length=topP s.2.2 x (pfX zs cs s.2.1 x) s.2.1.length:=by
  refine jiq (fun i hi=> ?_) (fun p=>jkK hn.2 p)
  apply Classical.byContradiction
  intro hne
  have e:∀ t,pfX zs cs s.2.1 t i=perX zs cs s.2.1[i] t:=fun t=>by simp [pfX,List.getD,hi]
  rw [e,e] at hne
  exact hn.1 (e2 _ (List.getElem_mem hi) x x1 x2 hne)
 unfold whoS
 rw [hT]
 refine (jfo _ _ fun y hy=> ?_).symm
 obtain ⟨m1,m2⟩:=jnn hy
 have n1:x≠y.2.2.2.1:=fun e=>hn.2 (e▸m1)
 have n2:x≠y.2.2.2.2:=fun e=>hn.2 (e▸m2)
 omega
end
set_option linter.unusedSectionVars false
def cntB (f:Int→Bool) (a:Int):Nat→Int
 | 0=>0
 | n+1=>cntB f a n+(cond (f (a+n)) 1 0)
theorem jq3 (f:Int→Bool) (a:Int):∀ n:Nat,0≤cntB f a n∧cntB f a n≤n
 | 0=>by simp [cntB]
 | n+1=>by
  have:=jq3 f a n
  simp only [cntB]
  cases f (a+n)<;>simp only [j5,j6]<;>omega
theorem jq4 (f:Int→Bool) (a:Int) (n:Nat):∀ m:Nat,cntB f a (n+m)=cntB f a n+cntB f (a+n) m
 | 0=>by simp [cntB]
 | m+1=>by
  have:=jq4 f a n m
  rw [show n+(m+1)=(n+m)+1 by omega]
  simp only [cntB]
  rw [this,show a+((n+m:Nat):Int)=a+(n:Int)+(m:Int) by omega]
  omega
theorem jkO {f g:Int→Bool} {a:Int}:∀ {n:Nat},(∀ x,a≤x→x<a+n→f x=g x)→cntB f a n=cntB g a n
 | 0,_=>rfl
 | n+1,h=>by
  simp only [cntB]
  rw [jkO (n:=n) (fun x h1 h2=>h x h1 (by omega)),h (a+n) (by omega) (by omega)]
theorem jjn {f:Int→Bool} {a:Int}:∀ {n:Nat},(∀ x,a≤x→x<a+n→f x=false)→cntB f a n=0
 | 0,_=>rfl
 | n+1,h=>by
  simp only [cntB]
  rw [jjn (n:=n) (fun x h1 h2=>h x h1 (by omega)),h (a+n) (by omega) (by omega)];rfl
theorem jq5 {f:Int→Bool} {a:Int}:∀ {n:Nat},(∀ x,a≤x→x<a+n→f x=true)→cntB f a n=n
 | 0,_=>rfl
 | n+1,h=>by
  simp only [cntB]
  rw [jq5 (n:=n) (fun x h1 h2=>h x h1 (by omega)),h (a+n) (by omega) (by omega)]
  simp only [j5];omega
def InO (p:Int):SL→Prop
 | []=>True
 | x::r=>p≤x.1∧x.1<x.2∧InO x.2 r
theorem InO.weak {p q:Int} (hq:q≤p):∀ {l:SL},InO p l→InO q l
 | [],_=>trivial
 | _::_,h=>⟨by have:=h.1;omega,h.2⟩
theorem StS.ino:∀ {l:SL} {p:Int},StS p l→InO (p+1) l
 | [],_,_=>trivial
 | x::r,p,h=>⟨by have:=h.1;omega,h.2.1,(StS.ino h.2.2).weak (by omega)⟩
theorem ju1:∀ {l:SL} {p s:Int},InO p l→s<p→hasB s l=false
 | [],_,_,_,_=>rfl
 | x::r,p,s,h,hs=>by
  obtain ⟨h1,h2,h3⟩:=h
  simp only [hasB]
  rw [j00 (show ¬ x.1≤s by omega),ju1 h3 (by omega)]
  rfl
theorem ju2:∀ {l:SL} {p:Int} {N:Nat},InO p l→(∀ u∈l,u.2≤p+N)→sumL l=cntB (fun s=>hasB s l) p N
 | [],p,N,_,_=>(jjn (f:=fun s=>hasB s []) (fun _ _ _=>rfl)).symm
 | x::r,p,N,h,hb=>by
  obtain ⟨h1,h2,h3⟩:=h
  have hx:=hb x (by simp)
  obtain ⟨n1,e1⟩:∃ n1:Nat,x.1=p+n1:=⟨(x.1-p).toNat,by omega⟩
  obtain ⟨n2,e2⟩:∃ n2:Nat,x.2=x.1+n2:=⟨(x.2-x.1).toNat,by omega⟩
  obtain ⟨n3,e3⟩:∃ n3:Nat,N=n1+n2+n3:=⟨N-n1-n2,by omega⟩
  have ih:=ju2 (l:=r) (p:=x.2) (N:=n3) h3 (fun u hu=>by have:=hb u (by simp [hu]);omega)
  subst e3
  rw [jq4,jq4]
  rw [jjn (a:=p) (n:=n1) (fun s s1 s2=>by
   simp only [hasB];rw [j00 (show ¬ x.1≤s by omega),ju1 h3 (by omega)];rfl)]
  rw [jq5 (a:=p+(n1:Int)) (n:=n2) (fun s s1 s2=>by
   simp only [hasB];rw [j01 (show x.1≤s by omega),j01 (show s<x.2 by omega)];rfl)]
  rw [jkO (a:=p+((n1+n2:Nat):Int)) (g:=fun s=>hasB s r) (fun s s1 s2=>by
   simp only [hasB];rw [j00 (show ¬ s<x.2 by omega)];cases decide (x.1≤s)<;>rfl)]
  rw [show p+((n1+n2:Nat):Int)=x.2 by omega,←ih]
  simp only [sumL]
  omega
theorem jr2:∀ {l:SL} {p:Int},InO p l→0≤sumL l
 | [],_,_=>Int.le_refl _
 | x::r,p,h=>by
  have:=jr2 h.2.2
  have:=h.2.1
  simp only [sumL];omega
theorem jr3:∀ {l:SL} {p:Int},InO p l→∀ i,∃ q,InO q (l.drop i)
 | [],p,_,i=>⟨p,by simp [InO]⟩
 | x::r,p,h,0=>⟨p,h⟩
 | x::r,p,h,i+1=>jr3 h.2.2 i
theorem jya {l:SL} {p:Int} (h:StS p l) (hp : -1≤p) (hl:l.length≤4096) (hb:∀ u∈l,u.2≤8589934592):∀ (n i:Nat) (s:Int),i+n=l.length→0≤s→s+sumL (l.drop i)≤1000000000000→
  jaH l s (i:Int)=some (s+sumL (l.drop i))
 | 0,i,s,hi,_,_=>by
  rw [je2]
  simp only [j52,show Int.ofNat (List.length l)=(l.length:Int) from rfl]
  rw [j00 (by omega),j6,j0a,List.drop_of_length_le (by omega)]
  simp [sumL]
 | n+1,i,s,hi,hs,hs2=>by
  have hlt:i<l.length:=by omega
  have hgd:l.getD i ((0:Int),(0:Int))=l[i]:=by simp [hlt]
  have hg:=jgC h i hlt
  have hu:=jvN h hp hl hb i hlt
  rw [hgd] at hg hu
  obtain ⟨q,hq⟩:=jr3 h.ino (i+1)
  have hpos:=jr2 hq
  rw [List.drop_eq_getElem_cons hlt] at hs2 ⊢
  simp only [sumL] at hs2 ⊢
  rw [je2]
  simp only [j52,show Int.ofNat (List.length l)=(l.length:Int) from rfl,jkN h hp hl hb]
  rw [j01 (show (i:Int)<(l.length:Int) by omega),j14 (by omega) (by omega)]
  simp only [j5,j3,j7,hgd]
  rw [j02 (x:=(i:Int)+1) (by omega) (by omega),j02 (x:=l[i].2-l[i].1) (by omega) (by omega),j02 (x:=s+(l[i].2-l[i].1)) (by omega) (by omega),j06]
  have:=jya h hp hl hb n (i+1) (s+(l[i].2-l[i].1)) (by omega) (by omega) (by omega)
  rw [show s+(l[i].2-l[i].1+sumL (l.drop (i+1)))=s+(l[i].2-l[i].1)+sumL (l.drop (i+1)) by omega]
  exact this
theorem jrR {l:SL} {p:Int} (h:StS p l) (hp : -1≤p) (hl:l.length≤4096) (hb:∀ u∈l,u.2≤8589934592) (hs:sumL l≤1000000000000):jfk l=some (sumL l):=by
 have:=jya h hp hl hb l.length 0 0 (by omega) (by omega) (by rw [List.drop_zero];omega)
 rw [show ((0:Nat):Int)=0 from rfl,List.drop_zero,Int.zero_add] at this
 simp only [jfk,this,j3]
theorem jvb {np:Nat} {t p:Int} {x:j59} (h:ECk np x) (hp:p<np):jnl t p x<np:=by
 have ha:=h.a
 have hb:=h.b
 unfold jnl
 split
 ·exact hp
 ·split
  ·omega
  ·split
   ·rename_i h1;have:=hb h1.1;omega
   ·split
    ·rename_i h1;have:=hb h1.1;omega
    ·exact hp
theorem jr4 {np:Nat} {t:Int}:∀ (es:List j59) (p:Int),(∀ x∈es,ECk np x)→p<np→jdi t p es<np
 | [],_,_,hp=>hp
 | x::r,p,h,hp=>by
  simp only [jdi]
  exact jr4 r _ (fun y hy=>h y (by simp [hy])) (jvb (h x (by simp)) hp)
theorem joP {f:Int→Int} {a:Int} (k:Int):∀ n:Nat,cntB (fun x=>decide (f x<k+1)) a n=cntB (fun x=>decide (f x<k)) a n+cntB (fun x=>decide (f x=k)) a n
 | 0=>rfl
 | n+1=>by
  have ih:=joP (f:=f) (a:=a) k n
  simp only [cntB]
  rw [ih]
  by_cases h1:f (a+n)<k
  ·rw [j01 (show f (a+n)<k+1 by omega),j01 h1,j00 (show ¬ f (a+n)=k by omega)]
   simp only [j5,j6];omega
  ·by_cases h2:f (a+n)=k
   ·rw [j01 (show f (a+n)<k+1 by omega),j00 h1,j01 h2]
    simp only [j5,j6];omega
   ·rw [j00 (show ¬ f (a+n)<k+1 by omega),j00 h1,j00 h2]
    simp only [j6];omega
section
variable {zs:List j2E} {ps:List j1E} {cs:List CalT} (hs:SOk2 zs ps cs)
include hs
theorem ju3 {s:j1N} (hk:SCk zs.length ps.length cs.length s) {t:Int} (h0:0≤t) (h1:t≤8589934592):whoS zs cs s t<ps.length:=by
 unfold whoS
 refine jr4 _ _ hk.ed ?_
 unfold topP
 cases hT:topI (j6B s.2.2 t (pfX zs cs s.2.1 t)) s.2.1.length with
 | none=>dsimp only;omega
 | some k=>
  have hkl:=jpV hT
  have e:pfX zs cs s.2.1 t k=perX zs cs s.2.1[k] t:=by simp [pfX,List.getD,hkl]
  dsimp only
  rw [e]
  exact (jpS hs (hk.ly _ (List.getElem_mem hkl)) h0 h1).2.2
theorem jvc {ss:List j1N} (hc:jlo (zs,(ps,(cs,ss)))) {i:Nat} (hi:i<ss.length) (hll:ss[i].2.1.length≤3) (hel:ss[i].2.2.length≤6) {a b:Int} (ha:0≤a) (hab:a<b) (hb:b≤8589934592) (hlen:b-a≤1209600) :
  ∃ S,j2L (zs,(ps,(cs,ss))) (i:Int) a b=some (S,0)∧Cov (whoS zs cs ss[i]) b none a S∧S.length≤16384:=by
 have hsc:=hc.sc _ (List.getElem_mem hi)
 have hgs:ss.getD i (ByteArray.empty,(([]:List j0R),([]:List j59)))=ss[i]:=by simp [List.getD,hi]
 obtain ⟨S,eS,hS,lS⟩:=jwV hs hsc hll hel (ss:=ss) (a:=a) (b:=b) ha hab hb (by omega)
 obtain ⟨E,e1,e2,e3⟩:=jwQ hs (es:=ss[i].2.2) hsc.ly ha (Int.le_of_lt hab) hb hlen
 have hSl:S.length≤E.length+1:=jpX hS (fun x x1 x2 x3=>by
  apply Classical.byContradiction
  intro hn
  refine x3 ?_
  have hT:topP ss[i].2.2 (x-1) (pfX zs cs ss[i].2.1 (x-1)) ss[i].2.1.length=topP ss[i].2.2 x (pfX zs cs ss[i].2.1 x) ss[i].2.1.length:=by
   apply Classical.byContradiction
   intro hne
   exact hn (e2 x x1 x2 hne)
  unfold whoS
  rw [hT]
  refine (jfo _ _ fun y hy=> ?_).symm
  obtain ⟨m1,m2⟩:=jnn hy
  have n1:x≠y.2.2.2.1:=fun e=>hn (e▸e3 _ m1)
  have n2:x≠y.2.2.2.2:=fun e=>hn (e▸e3 _ m2)
  omega)
 refine ⟨S,?_,hS,by omega⟩
 simp only [j2L]
 rw [show j5R (zs,(ps,(cs,ss))) (i:Int) a b=_ from jrO hs hc hi ha (Int.le_of_lt hab) hb (by omega)]
 simp only [j3,bne_self_eq_false,j6]
 rw [j14 (by omega) (by omega)]
 simp only [j5,j7,hgs]
 rw [show j3g ((zs,(ps,(cs,ss))),zs.map tb) (ss[i].1,(ss[i].2.1,ss[i].2.2)) a b=_ from eS]
 simp only [j3,show Int.ofNat S.length=(S.length:Int) from rfl]
 rw [j00 (show ¬ (S.length:Int)>16384 by omega)]
 rfl
theorem ju4 {ss:List j1N} (hc:jlo (zs,(ps,(cs,ss)))) {i:Nat} (hi:i<ss.length) (hll:ss[i].2.1.length≤3) (hel:ss[i].2.2.length≤6) {a b:Int} (ha:0≤a) (hab:a<b) (hb:b≤8589934592) (hlen:b-a≤604800) (v:Int) :
  ∃ out,j50 (zs,(ps,(cs,ss))) (i:Int) v a b=some (out,0)∧StS (a-1) out∧(∀ x,inS x out↔a≤x∧x<b∧whoS zs cs ss[i] x=v)∧out.length≤4096∧∀ u∈out,a≤u.1∧u.2≤b:=by
 have hsc:=hc.sc _ (List.getElem_mem hi)
 obtain ⟨S,eS,hS,lS⟩:=jvc hs hc hi hll hel ha hab hb (by omega)
 obtain ⟨E,e1,e2⟩:=jva hs hsc ha (Int.le_of_lt hab) hb hlen
 have hSl:=jpX hS e2
 have hsl:2*(spP v S).length≤S.length+1:=by
  have:=(jr0 (v:=v) hS).1
  unfold spP
  rw [List.length_map]
  exact this
 have tl:=jwX (v:=v) (S:=S) (by omega) S.length 0 [] (by omega) (by simp)
 rw [List.nil_append,List.drop_zero] at tl
 have hbd:∀ u∈spP v S,a≤u.1∧u.2≤b∧u.1<u.2:=fun u hu=>by
  obtain ⟨s,hm,rfl⟩:=List.mem_map.1 hu
  have hm:=(List.mem_filter.1 hm).1
  have hc:=hS.ch.mem _ hm
  exact ⟨hc.1,hc.2.2.1,hS.pos _ hm⟩
 obtain ⟨out,e3,h1,h2,h3,h4⟩:=jhB (l:=spP v S) (by omega) (fun u hu=>by have:=hbd u hu;omega) (lo:=a) (hi:=b) (fun u hu _=>⟨(hbd u hu).1,(hbd u hu).2.1⟩)
 refine ⟨out,?_,h1,fun x=>(h2 x).trans (jy9 hS),by omega,h4⟩
 simp only [j50]
 rw [show j2L (zs,ps,cs,ss) (i:Int) a b=_ from eS]
 simp only [j3,bne_self_eq_false,j6,j6i,show Int.ofNat S.length=(S.length:Int) from rfl]
 rw [show j3z v S (S.length:Int) 0 []=_ from tl]
 simp only [j3,e3,show Int.ofNat out.length=(out.length:Int) from rfl]
 rw [j00 (show ¬ (out.length:Int)>4096 by omega)]
 rfl
theorem ju5 {f:Int→Int} {a v:Int} {N:Nat} {out:SL} (h1:StS (a-1) out) (h2:∀ x,inS x out↔a≤x∧x<a+N∧f x=v) (h4:∀ u∈out,a≤u.1∧u.2≤a+N):sumL out=cntB (fun x=>decide (f x=v)) a N:=by
 have _:=hs
 have hi:=h1.ino
 rw [show a-1+1=a by omega] at hi
 rw [ju2 hi (fun u hu=>(h4 u hu).2)]
 refine jkO fun x x1 x2=> ?_
 rw [Bool.eq_iff_iff,decide_eq_true_iff,jnj]
 have:=h2 x
 unfold inS at this
 rw [this]
 constructor
 ·exact fun h=>h.2.2
 ·exact fun h=>⟨x1,x2,h⟩
end
theorem jvO:j9p=some true:=jnc 1000 true (by kernel_rfl)
section
variable {zs:List j2E} {ps:List j1E} {cs:List CalT} (hs:SOk2 zs ps cs)
include hs
theorem ju6 {ss:List j1N} {s:j1N} (hk:SCk zs.length ps.length cs.length s) {t:Int} (h0:0≤t) (h1:t≤8589934592):j5B ((zs,(ps,(cs,ss))),zs.map tb) s t=some (whoS zs cs s t):=by
 have hll:=hk.ll;have hel:=hk.el
 have hL:=jm1 (zs:=zs) (ps:=ps) (cs:=cs) (ss:=ss) (tbs:=zs.map tb) (ls:=s.2.1) (nm:=s.1) (es:=s.2.2) (t:=t) (Pf:=pfX zs cs s.2.1 t) (by omega) (fun k hkl=>by
  have e:pfX zs cs s.2.1 t k=perX zs cs s.2.1[k] t:=by simp [pfX,List.getD,hkl]
  rw [e]
  exact (jtH hs (hk.ly _ (List.getElem_mem hkl)) (ss:=ss) h0 h1).2.1)
 have hL2:∃ k,j3h ((zs,(ps,(cs,ss))),zs.map tb) (s.1,(s.2.1,s.2.2)) t=some (k,topP s.2.2 t (pfX zs cs s.2.1 t) s.2.1.length):=by
  rw [show j3h ((zs,(ps,(cs,ss))),zs.map tb) (s.1,(s.2.1,s.2.2)) t=_ from hL]
  simp only [topP]
  cases topI (j6B s.2.2 t (pfX zs cs s.2.1 t)) s.2.1.length with
  | none=>exact ⟨_,rfl⟩
  | some k=>exact ⟨_,rfl⟩
 obtain ⟨k,hL2⟩:=hL2
 have ef:=jnm (es:=s.2.2) (by omega) (t:=t) s.2.2.length 0 (topP s.2.2 t (pfX zs cs s.2.1 t) s.2.1.length) (by omega)
 rw [List.drop_zero] at ef
 simp only [j5B]
 rw [j00 (show ¬ t<0 by omega),j00 (show ¬ t>8589934592 by omega)]
 simp only [j6]
 simp only [hL2,j3,j7I,show Int.ofNat s.2.2.length=(s.2.2.length:Int) from rfl,show j4Z (topP s.2.2 t (pfX zs cs s.2.1 t) s.2.1.length) t s.2.2 (s.2.2.length:Int) 0=_ from ef]
 rfl
theorem jvP {ss:List j1N} (hk:∀ s∈ss,SCk zs.length ps.length cs.length s) {rr:List j1N} (hl:ss.length≤1000) {t:Int} (h0:0≤t) (h1:t≤8589934592):∀ (n i:Nat) (acc:List Int),i+n=ss.length→acc.length=i→
  j5U t ss (ss.length:Int) (i:Int) zs ps cs rr (zs.map tb) acc=some (acc++(ss.drop i).map fun s=>whoS zs cs s t)
 | 0,i,acc,hi,_=>by
  rw [je1]
  simp only [j2I]
  rw [j00 (by omega),j6,j0a,List.drop_of_length_le (by omega)]
  simp
 | n+1,i,acc,hi,ha=>by
  have hi':i<ss.length:=by omega
  have hgd:ss.getD i (ByteArray.empty,(([]:List j0R),([]:List j59)))=ss[i]:=by simp [List.getD,hi']
  rw [je1]
  simp only [j2I]
  rw [j01 (show (i:Int)<(ss.length:Int) by omega),j14 (by omega) (by omega),j02 (x:=(i:Int)+1) (by omega) (by omega)]
  simp only [j5,j7,hgd]
  rw [show j5B ((zs,(ps,(cs,rr))),zs.map tb) (ss[i].1,(ss[i].2.1,ss[i].2.2)) t=_ from ju6 hs (hk _ (List.getElem_mem hi')) h0 h1]
  simp only [j3]
  rw [j01 (by simp [j07];omega),j5,j06]
  have ih:=jvP hk (rr:=rr) hl h0 h1 n (i+1) (acc++[whoS zs cs ss[i] t]) (by omega) (by simp;omega)
  rw [show ((i+1:Nat):Int)=(i:Int)+1 by omega] at ih
  refine ih.trans ?_
  rw [List.append_assoc]
  have:(ss.drop i).map (fun s=>whoS zs cs s t)=[whoS zs cs ss[i] t]++(ss.drop (i+1)).map (fun s=>whoS zs cs s t):=by
   have e:=List.drop_eq_getElem_cons hi'
   rw [e];rfl
  rw [this]
theorem jyb {ss:List j1N} (hc:jlo (zs,(ps,(cs,ss)))) {t:Int} (h0:0≤t) (h1:t≤8589934592):j73 (zs,(ps,(cs,ss))) t=some (ss.map fun s=>whoS zs cs s t):=by
 have hl:ss.length≤12:=hc.sl
 have lp:=jvP hs (ss:=ss) hc.sc (rr:=ss) (by omega) h0 h1 ss.length 0 [] (by omega) rfl
 simp only [j73,jtv hs.so.ok hc,j3,Bool.not_true,j6,show Int.ofNat ss.length=(ss.length:Int) from rfl]
 rw [show j5U t ss (ss.length:Int) 0 zs ps cs ss (zs.map tb) []=_ from lp]
 simp
theorem jyc {N:Nat} (hN:(N:Int)=604800) {ss:List j1N} (hc:jlo (zs,(ps,(cs,ss)))) {i:Nat} (hi:i<ss.length) (hll:ss[i].2.1.length≤3) (hel:ss[i].2.2.length≤6) {a x:Int} (ha:0≤a) (hb:a+604800≤8589934592) (hx0:a≤x) (hx1:x<a+604800):∀ (n k:Nat) (f:Int),k+n=ps.length+1→
  f=(if whoS zs cs ss[i] x<(k:Int)-1 then 1 else 0)→
  j3s (i:Int) a x (cntB (fun y=>decide (whoS zs cs ss[i] y<(k:Int)-1)) a N) f ((k:Int)-1) zs ps cs ss=
   some (.inr ((i:Int),x,cntB (fun y=>decide (whoS zs cs ss[i] y<(ps.length:Int))) a N,(if whoS zs cs ss[i] x<(ps.length:Int) then 1 else 0),zs,ps,cs,ss))
 | 0,k,f,hk,hf=>by
  rw [j7K]
  simp only [j2t,show Int.ofNat ps.length=(ps.length:Int) from rfl]
  rw [j00 (by omega),j6,j0a,hf,show (k:Int)-1=(ps.length:Int) by omega]
 | n+1,k,f,hk,hf=>by
  have hp1:=hs.so.p1
  obtain ⟨out,e1,h1,h2,h3,h4⟩:=ju4 hs hc hi hll hel ha (show a<a+604800 by omega) hb (by omega) ((k:Int)-1)
  have hv:=jkN h1 (by omega) h3 (fun u hu=>by have:=h4 u hu;omega)
  have hcn:=ju5 hs (N:=N) h1 (fun y=>by rw [hN];exact h2 y) (fun u hu=>by rw [hN];exact h4 u hu)
  have r1:=jq3 (fun y=>decide (whoS zs cs ss[i] y=(k:Int)-1)) a N
  have r2:=jq3 (fun y=>decide (whoS zs cs ss[i] y<(k:Int)-1)) a N
  have hlen:=jrR h1 (by omega) h3 (fun u hu=>by have:=h4 u hu;omega) (by omega)
  obtain ⟨b,eb,hb2⟩:=jwW h1 (by omega) h3 (fun u hu=>by have:=h4 u hu;omega) x
  have hsp:=joP (f:=whoS zs cs ss[i]) (a:=a) ((k:Int)-1) N
  have hw:=jy1 hs hc hi (t:=x) (by omega) (by omega)
  have ih:=fun f' hf'=>jyc hN hc hi hll hel ha hb hx0 hx1 n (k+1) f' (by omega) hf'
  rw [show ((k+1:Nat):Int)-1=(k:Int)-1+1 by omega] at ih
  rw [j7K]
  simp only [j2t,show Int.ofNat ps.length=(ps.length:Int) from rfl]
  rw [j01 (show (k:Int)-1<(ps.length:Int) by omega),j5,j02 (x:=a+604800) (by omega) (by omega)]
  rw [show j50 (zs,(ps,(cs,ss))) (i:Int) ((k:Int)-1) a (a+604800)=_ from e1]
  simp only [j3,bne_self_eq_false,j6,hv,Bool.not_true,hlen,eb]
  rw [j02 (x:=cntB (fun y=>decide (whoS zs cs ss[i] y<(k:Int)-1)) a N+sumL out) (by omega) (by omega),j02 (x:=(k:Int)-1+1) (by omega) (by omega)]
  have hsum:cntB (fun y=>decide (whoS zs cs ss[i] y<(k:Int)-1)) a N+sumL out=cntB (fun y=>decide (whoS zs cs ss[i] y<(k:Int)-1+1)) a N:=by rw [hsp,hcn]
  rw [hsum]
  have hbx:b=true↔whoS zs cs ss[i] x=(k:Int)-1:=by
   rw [hb2,h2]
   constructor
   ·exact fun h=>h.2.2
   ·exact fun h=>⟨hx0,by omega,h⟩
  cases b with
  | true=>
   have hxe:=hbx.1 rfl
   rw [j5,show j5C (zs,(ps,(cs,ss))) (i:Int) x=_ from hw]
   simp only [j3]
   rw [show (whoS zs cs ss[i] x != (k:Int)-1)=false from by rw [hxe];exact bne_self_eq_false _,j6,j06]
   dsimp only
   refine ih _ ?_
   rw [hf,hxe,if_neg (by omega),if_pos (by omega),j02 (by omega) (by omega)]
   rfl
  | false=>
   have hxe:whoS zs cs ss[i] x≠(k:Int)-1:=fun h=>by have:=hbx.2 h;simp at this
   rw [j6,j06]
   dsimp only
   refine ih _ ?_
   rw [hf]
   by_cases hlt:whoS zs cs ss[i] x<(k:Int)-1
   ·rw [if_pos hlt,if_pos (by omega)]
   ·rw [if_neg hlt,if_neg (by omega)]
end
theorem jhD (t:List Int) (_h:Wf (.list (.int .i64)) t) (n:Int) (_h1:Wf (.int .i64) n):j82 t n=some true:=by
 simp only [j82,jhV,j3,show Int.ofNat (List.length t)=(t.length:Int) from rfl]
 by_cases hl:(t.length:Int)≤500
 ·rw [j01 hl]
  simp only [Bool.not_true,j6,jk2,j3]
  obtain ⟨zs,ps,cs,ss,a1,e1,hs,g0,g1,g2,g3,d1⟩:=jrJ (L:=t) (a:=0) (n:=2) ⟨by omega,by omega,by omega⟩ (by omega) (by omega)
  have hc:=jwD hs (ss:=ss) (by omega) (by rw [g2];exact jwC.take _) (fun s h=>(g3 s h).ck)
  obtain ⟨p,a2,e2,p0,p1,d2⟩:=j0Q (n:=(ss.length:Int)) d1 (by omega) (by omega)
  obtain ⟨x,a3,e3,x0,x1,d3⟩:=jlZ d2
  obtain ⟨i,rfl⟩:∃ i:Nat,p=i:=⟨p.toNat,by omega⟩
  have hi:i<ss.length:=by omega
  have hsg:=g3 _ (List.getElem_mem hi)
  have hel:=hsg.el
  have n0:=Int.emod_nonneg n (show (604800:Int)≠0 by omega)
  have n1:=Int.emod_lt_of_pos n (show (0:Int)<604800 by omega)
  obtain ⟨N,hN⟩:∃ N:Nat,(N:Int)=604800:=⟨604800,rfl⟩
  have lp:=jyc hs hN hc hi hsg.ll (by omega) (a:=x) (x:=x+n%604800) (by omega) (by omega) (by omega) (by omega) (ps.length+1) 0 0 (by omega) (by
   have:=jtZ hs hsg.ck (t:=x+n%604800) (by omega) (by omega)
   rw [if_neg (by omega)])
  have hz:cntB (fun y=>decide (whoS zs cs ss[i] y<((0:Nat):Int)-1)) x N=0:=jjn fun y y1 y2=>j00 (by
   have:=jtZ hs hsg.ck (t:=y) (by omega) (by omega)
   omega)
  have ho:cntB (fun y=>decide (whoS zs cs ss[i] y<(ps.length:Int))) x N=604800:=(jq5 fun y y1 y2=>j01 (ju3 hs hsg.ck (t:=y) (by omega) (by omega))).trans hN
  have hlx:=ju3 hs hsg.ck (t:=x+n%604800) (by omega) (by omega)
  rw [hz,ho,if_pos hlx,show ((0:Nat):Int)-1 = -1 from rfl] at lp
  have hA:=jyb hs hc (t:=x+n%604800) (by omega) (by omega)
  have hw:=jy1 hs hc hi (t:=x+n%604800) (by omega) (by omega)
  simp only [e1,j3,show Int.ofNat ss.length=(ss.length:Int) from rfl,e2,e3]
  rw [jxp n 604800 (by omega) (by omega)]
  simp only [j3]
  rw [j02 (x:=x+n%604800) (by omega) (by omega),show j3s (i:Int) x (x+n%604800) 0 0 (-1) zs ps cs ss=_ from lp]
  simp only [j3,j9E]
  rw [show j73 (zs,ps,cs,ss) (x+n%604800)=_ from hA]
  simp only [j3,beq_self_eq_true,j5,List.length_map]
  rw [j14 (by omega) (by omega),j5,show j5C (zs,ps,cs,ss) (i:Int) (x+n%604800)=_ from hw]
  have hgd:(ss.map fun s=>whoS zs cs s (x+n%604800)).getD i 0=whoS zs cs ss[i] (x+n%604800):=by simp [List.getD,hi]
  simp only [j3,j7,hgd,beq_self_eq_true,j5,jvO]
 ·rw [j00 hl]
  simp only [Bool.not_false,j5,jvO,j3]
end Go.Proofs.Pw
