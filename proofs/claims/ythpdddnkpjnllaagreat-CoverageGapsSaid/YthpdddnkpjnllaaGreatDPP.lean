/- Chapter 3's reference: Valid, Has and Length of spans in order, apart. -/
import Derived.Test.YthpdddnkpjnllaaGreatDPH
import Derived.Test.YthpdddnkpjnllaaGreatDPO
set_option linter.unusedSectionVars false
open Go Go.Lft
namespace Go.Proofs.Pw
theorem jlI:∀ {l:SL} {p:Int},StS p l→∀ i,i<l.length→p<(l.getD i (0,0)).1∧(l.getD i (0,0)).1<(l.getD i (0,0)).2
 | [],_,_,i,hi=>by simp at hi
 | x::r,p,h,0,_=>⟨h.1,h.2.1⟩
 | x::r,p,h,i+1,hi=>by
  have:=jlI h.2.2 i (by simpa using hi)
  have h1:=h.1;have h2:=h.2.1
  refine ⟨?_,this.2⟩
  have e:((x::r).getD (i+1) (0,0)).1=(r.getD i (0,0)).1:=rfl
  rw [e];omega
theorem joc:∀ {l:SL} {p:Int},StS p l→∀ i j,i<j→j<l.length→(l.getD i (0,0)).2<(l.getD j (0,0)).1
 | [],_,_,i,j,_,hj=>by simp at hj
 | x::r,p,h,0,j+1,_,hj=>(jlI h.2.2 j (by simpa using hj)).1
 | x::r,p,h,i+1,j+1,hij,hj=>joc h.2.2 i j (by omega) (by simpa using hj)
 | x::r,p,h,_,0,hij,_=>by omega
section
variable {l:SL} {p:Int} (h:StS p l) (hp : -1≤p) (hl:l.length≤4096) (hb:∀ u∈l,u.2≤8589934592)
include h hp hl hb
theorem jDq (i:Nat) (hi:i<l.length):(l.getD i (0,0)).2≤8589934592:=by
 rw [show l.getD i (0,0)=l[i] by simp [hi]]
 exact hb _ (List.getElem_mem hi)
theorem jDr:∀ (n i:Nat),i+n=l.length→jdS l (i:Int)=some (.inr ())
 | 0,i,hi=>by
  rw [jgR]
  simp only [j66,show Int.ofNat (List.length l)=(l.length:Int) from rfl]
  rw [j00 (by omega),j6,j08]
 | n+1,i,hi=>by
  have ih:=jDr n (i+1) (by omega)
  have hg:=jlI h i (by omega)
  have hu:=jDq h hp hl hb i (by omega)
  rw [jgR]
  simp only [j66,show Int.ofNat (List.length l)=(l.length:Int) from rfl]
  rw [j01 (show (i:Int)<(l.length:Int) by omega),j0s (by omega) (by omega)]
  simp only [j5,j7]
  rw [j00 (show ¬ (l.getD i ((0:Int),(0:Int))).1<0 by omega),j00 (show ¬ (l.getD i ((0:Int),(0:Int))).1≥(l.getD i ((0:Int),(0:Int))).2 by omega),j00 (show ¬ (l.getD i ((0:Int),(0:Int))).2>8589934592 by omega)]
  rw [j02 (x:=(i:Int)+1) (by omega) (by omega)]
  simp only [j6]
  by_cases h0:i=0
  ·rw [j00 (by omega)]
   simp only [j6,j05]
   exact ih
  ·obtain ⟨j,rfl⟩:∃ j,i=j+1:=⟨i-1,by omega⟩
   have hgap:=joc h j (j+1) (by omega) (by omega)
   rw [j01 (by omega),j02 (x:=((j+1:Nat):Int)-1) (by omega) (by omega),j0s (by omega) (by omega),show (((j+1:Nat):Int)-1).toNat=j by omega,j00 (by omega)]
   simp only [j5,j6,j05]
   exact ih
theorem jyV:jjQ l=some true:=by
 have:=jDr h hp hl hb l.length 0 (by omega)
 rw [show ((0:Nat):Int)=0 from rfl] at this
 simp only [jjQ,show Int.ofNat (List.length l)=(l.length:Int) from rfl]
 rw [j00 (by omega),j6,this]
 rfl
theorem jyW (x:Int):∀ (n a b:Nat),b-a≤n→a≤b→b≤l.length→(∀ i,i<a→(l.getD i (0,0)).2≤x)→(∀ i,b≤i→i<l.length→x<(l.getD i (0,0)).2)→
  ∃ k:Nat,jhN l x (a:Int) (b:Int)=some (l,x,(k:Int))∧k≤l.length∧(∀ i,i<k→(l.getD i (0,0)).2≤x)∧(∀ i,k≤i→i<l.length→x<(l.getD i (0,0)).2)
 | 0,a,b,hn,hab,hbl,h1,h2=>by
  rw [jjR]
  simp only [j7z]
  rw [j00 (by omega),j6,j08]
  exact ⟨a,rfl,by omega,h1,fun i hi=>h2 i (by omega)⟩
 | n+1,a,b,hn,hab,hbl,h1,h2=>by
  rw [jjR]
  simp only [j7z]
  by_cases hlt:a<b
  ·rw [j01 (show (a:Int)<(b:Int) by omega),j02 (x:=(a:Int)+(b:Int)) (by omega) (by omega),jdc (by omega),j02 (x:=((a:Int)+(b:Int))/2) (by omega) (by omega),
    show ((a:Int)+(b:Int))/2=(((a+b)/2:Nat):Int) by omega,j0s (by omega) (by omega),j02 (x:=(((a+b)/2:Nat):Int)+1) (by omega) (by omega)]
   simp only [j5,j7]
   by_cases hc:(l.getD ((a+b)/2) (0,0)).2≤x
   ·rw [j01 hc,j5,j05]
    refine jyW x n ((a+b)/2+1) b (by omega) (by omega) hbl (fun i hi=> ?_) h2
    rcases Nat.lt_or_ge i ((a+b)/2) with h' | h'
    ·have g1:=joc h i ((a+b)/2) h' (by omega)
     have g2:=jlI h ((a+b)/2) (by omega)
     omega
    ·have:i=(a+b)/2:=by omega
     rw [this];exact hc
   ·rw [j00 hc,j6,j05]
    refine jyW x n a ((a+b)/2) (by omega) (by omega) (by omega) h1 (fun i hi hi2=> ?_)
    rcases Nat.lt_or_ge ((a+b)/2) i with h' | h'
    ·have g1:=joc h ((a+b)/2) i h' (by omega)
     have g2:=jlI h i (by omega)
     omega
    ·have:i=(a+b)/2:=by omega
     rw [this];omega
  ·rw [j00 (by omega),j6,j08]
   exact ⟨a,rfl,by omega,h1,fun i hi=>h2 i (by omega)⟩
theorem jC2 (x:Int):∃ b,jpZ l x=some b∧(b=true↔inS x l):=by
 obtain ⟨k,e,hk,h1,h2⟩:=jyW h hp hl hb x l.length 0 l.length (by omega) (by omega) (by omega) (fun i hi=>by omega) (fun i hi hi2=>by omega)
 rw [show ((0:Nat):Int)=0 from rfl] at e
 simp only [jpZ,jyV h hp hl hb,j3,j5,jtj,show Int.ofNat (List.length l)=(l.length:Int) from rfl,e]
 by_cases hkl:k<l.length
 ·rw [j01 (show (k:Int)<(l.length:Int) by omega),j0s (by omega) (by omega)]
  simp only [Bool.true_or,j5,j7,j3]
  refine ⟨_,rfl,?_⟩
  rw [decide_eq_true_iff]
  have hgd:l.getD k ((0:Int),(0:Int))=l[k]:=by simp [hkl]
  constructor
  ·intro hx
   exact ⟨l[k],List.getElem_mem hkl,by rw [←hgd];exact hx,by rw [←hgd];exact h2 k (Nat.le_refl _) hkl⟩
  ·rintro ⟨s,hs,c1,c2⟩
   obtain ⟨i,hi,rfl⟩:=List.getElem_of_mem hs
   have hgi:l.getD i ((0:Int),(0:Int))=l[i]:=by simp [hi]
   rw [←hgi] at c1 c2
   rcases Nat.lt_trichotomy i k with h' | h' | h'
   ·have:=h1 i h';omega
   ·subst h';exact c1
   ·have g1:=joc h k i h' hi
    have g2:=jlI h k hkl
    omega
 ·rw [j00 (show ¬ (k:Int)<(l.length:Int) by omega)]
  simp only [Bool.not_false,Bool.or_true,j5,j6,j3]
  refine ⟨false,rfl,?_⟩
  simp only [Bool.false_eq_true,false_iff]
  rintro ⟨s,hs,c1,c2⟩
  obtain ⟨i,hi,rfl⟩:=List.getElem_of_mem hs
  have hgi:l.getD i ((0:Int),(0:Int))=l[i]:=by simp [hi]
  have:=h1 i (by omega)
  rw [hgi] at this
  omega
end
theorem jvi {f:Int→Int} {b v:Int}:∀ {l:SgL} {q:Option Int} {a:Int},Cov f b q a l→2*(l.filter fun s=>s.2.2==v).length≤l.length+1∧(q=some v→2*(l.filter fun s=>s.2.2==v).length≤l.length)
 | [],_,_,_=>by simp
 | s::r,q,a,h=>by
  obtain ⟨_,_,h3,_,h5⟩:=h
  have ih:=jvi (v:=v) h5
  by_cases hv:s.2.2=v
  ·have e:((s::r).filter fun s=>s.2.2==v)=s::(r.filter fun s=>s.2.2==v):=by simp [hv]
   rw [e]
   have:=ih.2 (by rw [hv])
   refine ⟨by simp only [List.length_cons];omega,fun hq=>absurd (by rw [hq,hv]) h3⟩
  ·have e:((s::r).filter fun s=>s.2.2==v)=r.filter fun s=>s.2.2==v:=by simp [hv]
   rw [e]
   have:=ih.1
   exact ⟨by simp only [List.length_cons];omega,fun _=>by simp only [List.length_cons];omega⟩
def spP (v:Int) (S:SgL):SL:=(S.filter fun s=>s.2.2==v).map fun s=>(s.1,s.2.1)
theorem jA8 (v:Int) (s:SgT) (r:SgL):spP v (s::r)=(if s.2.2=v then [(s.1,s.2.1)] else [])++spP v r:=by
 unfold spP
 by_cases hv:s.2.2=v
 ·simp [hv]
 ·simp [hv]
theorem jDs {f:Int→Int} {a b v:Int} {S:SgL} (h:Cov f b none a S) {x:Int}:inS x (spP v S)↔a≤x∧x<b∧f x=v:=by
 unfold inS spP
 constructor
 ·rintro ⟨u,hu,h1,h2⟩
  obtain ⟨s,hs,rfl⟩:=List.mem_map.1 hu
  have hm:=List.mem_filter.1 hs
  have hc:=h.ch.mem _ hm.1
  have hv:s.2.2=v:=by simpa using hm.2
  exact ⟨by dsimp only at h1;omega,by dsimp only at h2;omega,by rw [←hv];exact hc.2.2.2 x h1 h2⟩
 ·rintro ⟨h0,h1,h2⟩
  obtain ⟨s,hs,c1,c2⟩:=h.ch.has x h0 h1
  have hc:=h.ch.mem _ hs
  exact ⟨_,List.mem_map.2 ⟨s,List.mem_filter.2 ⟨hs,by rw [←hc.2.2.2 x c1 c2,h2];exact beq_self_eq_true _⟩,rfl⟩,c1,c2⟩
theorem jC3 {v:Int} {S:SgL} (hS:S.length≤1000000):∀ (n i:Nat) (acc:SL),i+n=S.length→acc.length≤i→
  j3E v S (S.length:Int) (i:Int) acc=some (acc++spP v (S.drop i))
 | 0,i,acc,hi,_=>by
  rw [jbU]
  simp only [j3x]
  rw [j00 (by omega),j6,j08,List.drop_of_length_le (by omega)]
  simp [spP]
 | n+1,i,acc,hi,ha=>by
  have hi':i<S.length:=by omega
  have hgd:S.getD i ((0:Int),((0:Int),(0:Int)))=S[i]:=by simp [List.getD,hi']
  rw [jbU]
  simp only [j3x]
  rw [j01 (show (i:Int)<(S.length:Int) by omega),j0s (by omega) (by omega),j02 (x:=(i:Int)+1) (by omega) (by omega)]
  simp only [j5,j7,hgd]
  have hd:spP v (S.drop i)=(if S[i].2.2=v then [(S[i].1,S[i].2.1)] else [])++spP v (S.drop (i+1)):=by
   rw [List.drop_eq_getElem_cons hi',jA8]
  rw [hd]
  by_cases hv:S[i].2.2=v
  ·rw [if_pos hv]
   rw [j4J hv,j5,j01 (by simp [j07];omega),j5,j05]
   have ih:=jC3 (v:=v) hS n (i+1) (acc++[(S[i].1,S[i].2.1)]) (by omega) (by simp;omega)
   rw [show ((i+1:Nat):Int)=(i:Int)+1 by omega] at ih
   rw [List.append_assoc] at ih
   exact ih
  ·rw [if_neg hv,List.nil_append]
   rw [j2k hv,j6,j05]
   have ih:=jC3 (v:=v) hS n (i+1) acc (by omega) (by omega)
   rw [show ((i+1:Nat):Int)=(i:Int)+1 by omega] at ih
   exact ih
section
variable {zs:List j22} {ps:List j1D} {cs:List CalT} (hs:SOk2 zs ps cs)
include hs
theorem jA9 {L:j0z} (hL:LCk zs.length ps.length cs.length L) {ss:List j1O} {a b:Int} (ha:0≤a) (hab:a≤b) (hb:b≤8589934592) (hlen:b-a≤604800) :
  ∃ out,j1p ((zs,(ps,(cs,ss))),zs.map tb) L a b=some out∧Cov (perX zs cs L) b none a out∧out.length≤1600:=by
 obtain ⟨out,e,h1,h2⟩:=jyv hs hL (ss:=ss) ha hab hb (M:=1) (by omega) (by omega) (N:=((b-a)/3600+8).toNat) (by omega) (jD8 hs hL ha (by omega)) (jsF hs hL ha hb)
 refine ⟨out,e,h1,?_⟩
 have hw:L.2.2.2.2.2.2.1.length*(1+1)*21≤14*2*21:=Nat.mul_le_mul_right _ (Nat.mul_le_mul_right _ hL.wl)
 have hc:(if L.2.2.2.2.2.2.2.2=0 then 0 else (cAt cs L.2.2.2.2.2.2.2.1).2.2.length*21)≤4*21:=by
  by_cases hm:L.2.2.2.2.2.2.2.2=0
  ·rw [if_pos hm];omega
  ·rw [if_neg hm]
   refine Nat.mul_le_mul_right _ (hs.c.dl _ ?_)
   have hq:=hL.cal hm
   have hi:(L.2.2.2.2.2.2.2.1).toNat<cs.length:=by omega
   unfold cAt
   rw [show cs.getD (L.2.2.2.2.2.2.2.1).toNat (ByteArray.empty,((0:Int),([]:List Int)))=cs[(L.2.2.2.2.2.2.2.1).toNat] by simp [List.getD,hi]]
   exact List.getElem_mem hi
 omega
theorem jvj {a b:Int} (ha:0≤a) (hab:a≤b) (hb:b≤8589934592) (hlen:b-a≤604800):∀ ls:List j0z,(∀ L∈ls,LCk zs.length ps.length cs.length L)→
  ∃ E:List Int,E.length≤1600*ls.length∧∀ L∈ls,∀ x,a<x→x<b→perX zs cs L (x-1)≠perX zs cs L x→x∈E
 | [],_=>⟨[],by simp,by simp⟩
 | L::ls,hL=>by
  obtain ⟨E,e1,e2⟩:=jvj ha hab hb hlen ls (fun M hM=>hL M (by simp [hM]))
  obtain ⟨S,_,c1,l1⟩:=jA9 hs (hL L (by simp)) (ss:=[]) ha hab hb hlen
  refine ⟨brd S++E,?_,fun M hM x x1 x2 x3=> ?_⟩
  ·have:(brd S).length≤S.length:=by simp [brd]
   rw [List.length_append,List.length_cons];omega
  ·rcases List.mem_cons.1 hM with rfl | hM
   ·exact List.mem_append_left _ (((jqT c1).1 x).2 ⟨x1,x2,x3⟩)
   ·exact List.mem_append_right _ (e2 M hM x x1 x2 x3)
theorem jAa {s:j1O} (hk:SCk zs.length ps.length cs.length s) {a b:Int} (ha:0≤a) (hab:a≤b) (hb:b≤8589934592) (hlen:b-a≤604800) :
  ∃ E:List Int,E.length≤1600*s.2.1.length+2*s.2.2.length∧∀ x,a<x→x<b→whoS zs cs s (x-1)≠whoS zs cs s x→x∈E:=by
 obtain ⟨E,e1,e2⟩:=jvj hs ha hab hb hlen s.2.1 hk.ly
 refine ⟨E++edB s.2.2,by rw [List.length_append,jqU];omega,fun x x1 x2 x3=> ?_⟩
 apply Classical.byContradiction
 intro hn
 simp only [List.mem_append,not_or] at hn
 refine x3 ?_
 have hT:topP s.2.2 (x-1) (pfX zs cs s.2.1 (x-1)) s.2.1.length=topP s.2.2 x (pfX zs cs s.2.1 x) s.2.1.length:=by
  refine jpq (fun i hi=> ?_) (fun p=>jsH hn.2 p)
  apply Classical.byContradiction
  intro hne
  have e:∀ t,pfX zs cs s.2.1 t i=perX zs cs s.2.1[i] t:=fun t=>by simp [pfX,List.getD,hi]
  rw [e,e] at hne
  exact hn.1 (e2 _ (List.getElem_mem hi) x x1 x2 hne)
 unfold whoS
 rw [hT]
 refine (jlH _ _ fun y hy=> ?_).symm
 obtain ⟨m1,m2⟩:=juc hy
 have n1:x≠y.2.2.2.1:=fun e=>hn.2 (e▸m1)
 have n2:x≠y.2.2.2.2:=fun e=>hn.2 (e▸m2)
 omega
theorem jyX {ss:List j1O} (hc:joM (zs,(ps,(cs,ss)))) {i:Nat} (hi:i<ss.length) (hll:ss[i].2.1.length≤3) (hel:ss[i].2.2.length≤6) {a b:Int} (ha:0≤a) (hab:a<b) (hb:b≤8589934592) (hlen:b-a≤604800) :
  ∃ out,j2M (zs,(ps,(cs,ss))) (i:Int) a b=some (out,0)∧StS (a-1) out∧(∀ x,inS x out↔a≤x∧x<b∧whoS zs cs ss[i] x = -1)∧out.length≤4096∧∀ u∈out,a≤u.1∧u.2≤b:=by
 have hsc:=hc.sc _ (List.getElem_mem hi)
 have hgs:ss.getD i (ByteArray.empty,(([]:List j0z),([]:List j45)))=ss[i]:=by simp [List.getD,hi]
 obtain ⟨S,eS,hS,lS⟩:=jC0 hs hsc hll hel (ss:=ss) (a:=a) (b:=b) ha hab hb (by omega)
 obtain ⟨E,e1,e2⟩:=jAa hs hsc ha (Int.le_of_lt hab) hb hlen
 have hSl:=jyQ hS e2
 have hsl:2*(spP (-1) S).length≤S.length+1:=by
  have:=(jvi (v:= -1) hS).1
  unfold spP
  rw [List.length_map]
  exact this
 have tl:=jC3 (v:= -1) (S:=S) (by omega) S.length 0 [] (by omega) (by simp)
 rw [List.nil_append,List.drop_zero] at tl
 have hbd:∀ u∈spP (-1) S,a≤u.1∧u.2≤b∧u.1<u.2:=fun u hu=>by
  obtain ⟨s,hm,rfl⟩:=List.mem_map.1 hu
  have hm:=(List.mem_filter.1 hm).1
  have hc:=hS.ch.mem _ hm
  exact ⟨hc.1,hc.2.2.1,hS.pos _ hm⟩
 obtain ⟨out,e3,h1,h2,h3,h4⟩:=jkO (l:=spP (-1) S) (by omega) (fun u hu=>by have:=hbd u hu;omega) (lo:=a) (hi:=b) (fun u hu _=>⟨(hbd u hu).1,(hbd u hu).2.1⟩)
 refine ⟨out,?_,h1,fun x=>(h2 x).trans (jDs hS),by omega,h4⟩
 simp only [j2M,j9c,j64]
 rw [show j6o (zs,(ps,(cs,ss))) (i:Int) a b=_ from jwo hs hc hi ha (Int.le_of_lt hab) hb (by omega)]
 simp only [j3,bne_self_eq_false,j6]
 rw [j0s (by omega) (by omega)]
 simp only [j5,j7,hgs]
 rw [show j3g ((zs,(ps,(cs,ss))),zs.map tb) (ss[i].1,(ss[i].2.1,ss[i].2.2)) a b=_ from eS]
 simp only [j3,show Int.ofNat S.length=(S.length:Int) from rfl]
 rw [j00 (show ¬ (S.length:Int)>16384 by omega)]
 simp only [j6,j3,bne_self_eq_false,j76,show Int.ofNat S.length=(S.length:Int) from rfl]
 rw [show j3E (-1) S (S.length:Int) 0 []=_ from tl]
 simp only [j3,e3,show Int.ofNat out.length=(out.length:Int) from rfl]
 rw [j00 (show ¬ (out.length:Int)>4096 by omega)]
 rfl
theorem jyY {ss:List j1O} {i a b:Int} {out:SL} (h:j2M (zs,(ps,(cs,ss))) i a b=some (out,0)):j24 (zs,(ps,(cs,ss))) i a b=some (decide (out=[])):=by
 have _:=hs
 simp only [j24]
 rw [show j2M (zs,ps,cs,ss) i a b=_ from h]
 simp only [j3,beq_self_eq_true,j5]
 cases out with
 | nil=>rfl
 | cons u r=>
  rw [show (Int.ofNat (u::r).length==0)=false from by simp;omega]
  simp
end
theorem jsK (t:Int):∀ (es:List j45) (p:Int) (x:j45),jdC t p (es++[x])=joa t (jdC t p es) x
 | [],_,_=>rfl
 | y::r,p,x=>jsK t r (joa t p y) x
section
variable {zs:List j22} {ps:List j1D} {cs:List CalT} (hs:SOk2 zs ps cs)
include hs
theorem jAb {s:j1O} {r:List j1O} (hc:joM (zs,(ps,(cs,s::r)))) {e:j45} (hc2:joM (zs,(ps,(cs,(s.1,(s.2.1,s.2.2++[e]))::r)))) :
  jh2 (zs,(ps,(cs,s::r))) 0 e=some ((zs,(ps,(cs,(s.1,(s.2.1,s.2.2++[e]))::r))),0):=by
 have hel:=(hc.sc s (by simp)).el
 have hsl:(s::r).length≤12:=hc.sl
 simp only [jh2]
 rw [show jb7 (zs,ps,cs,s::r)=_ from jBP hc (jBT hs)]
 simp only [j3,bne_self_eq_false,j6,show Int.ofNat (s::r).length=((s::r).length:Int) from rfl]
 rw [j00 (show ¬ (0:Int)<0 by omega),j00 (show ¬ (0:Int)≥((s::r).length:Int) by simp),j0s (show (0:Int)≤0 by omega) (by simp)]
 simp only [j5,j6,show Int.toNat 0=0 from rfl,show List.getD (s::r) 0 (ByteArray.empty,(([]:List j0z),([]:List j45)))=s from rfl]
 rw [j01 (show ([]:List j45).length+s.2.2.length≤j07 by simp [j07];omega)]
 simp only [j5,List.nil_append]
 rw [j01 (show s.2.2.length+[e].length≤j07 by simp [j07];omega)]
 simp only [j5,jq4]
 rw [j01 (show ([]:List j1O).length+(s::r).length≤j07 by simp only [j07,List.length_nil];omega)]
 simp only [j5,List.nil_append]
 rw [j0s (show (0:Int)≤0 by omega) (by simp)]
 simp only [j5,show Int.toNat 0=0 from rfl,show List.getD (s::r) 0 (ByteArray.empty,(([]:List j0z),([]:List j45)))=s from rfl,List.set_cons_zero,j3]
 rw [show jb7 (zs,ps,cs,(s.1,s.2.1,s.2.2++[e])::r)=_ from jBP hc2 (jBT hs)]
 rfl
theorem jDt {s:j1O} {t a b:Int} (h0:a≤t) (h1:t<b):whoS zs cs (s.1,(s.2.1,s.2.2++[((1:Int),((0:Int),((0:Int),(a,b))))])) t=0:=by
 have _:=hs
 unfold whoS
 rw [jsK]
 unfold joa
 rw [if_neg (by dsimp only;omega),if_pos rfl]
end
theorem jlJ (t:List Int) (_h:Wf (.list (.int .i64)) t) (n:Int) (_h1:Wf (.int .i64) n):j9w t n=some true:=by
 simp only [j9w,jl5,j3,show Int.ofNat (List.length t)=(t.length:Int) from rfl]
 by_cases hl:(t.length:Int)≤500
 ·rw [j01 hl]
  simp only [Bool.not_true,j6,jnj,j3]
  obtain ⟨zs,ps,cs,ss,a1,e1,hs,g0,g1,g2,g3,d1⟩:=jwi (L:=t) (a:=0) (n:=1) ⟨by omega,by omega,by omega⟩ (by omega) (by omega)
  have hc:=jye hs (ss:=ss) (by omega) (by rw [g2];exact jBE.take _) (fun s h=>(g3 s h).ck)
  obtain ⟨x,a2,e2,x0,x1,d2⟩:=jpl d1
  obtain ⟨s,r,rfl⟩:∃ s r,ss=s::r:=by
   cases ss with
   | nil=>simp at g0
   | cons s r=>exact ⟨s,r,rfl⟩
  have hsg:=g3 s (by simp)
  have hel:=hsg.el
  have hi:0<(s::r).length:=by simp
  obtain ⟨out,e3,h1,h2,h3,h4⟩:=jyX hs hc hi hsg.ll (by show s.2.2.length≤6;omega) (a:=x) (b:=x+604800) (by omega) (by omega) (by omega) (by omega)
  have n0:=Int.emod_nonneg n (show (604800:Int)≠0 by omega)
  have n1:=Int.emod_lt_of_pos n (show (0:Int)<604800 by omega)
  have hck:SCk zs.length ps.length cs.length (s.1,(s.2.1,s.2.2++[((1:Int),((0:Int),((0:Int),(x,x+604800))))])):=
   ⟨hsg.ck.nm,hsg.ck.ly,hsg.ck.ll,fun y hy=>by
    rcases List.mem_append.1 hy with h | h
    ·exact hsg.ck.ed y h
    ·simp only [List.mem_singleton] at h
     subst h
     have hp:=hs.so.p0
     refine ⟨by show (0:Int)≤1;omega,by show (1:Int)≤2;omega,.inl ⟨by show (0:Int)≤0;omega,by show (0:Int)<(ps.length:Int);omega⟩,fun h=>absurd h (by show ¬ (1:Int)=2;omega),fun _=>rfl,by show 0≤x;omega,by show x<x+604800;omega,by show x+604800≤1000000000000;omega,?_⟩
     show j0W (Int.tdiv (x+604800) 86400)=some true
     rw [jdc (by omega)]
     exact jv4 (by omega) (by omega),by simp;omega⟩
  have hc2:=jye hs (ss:=(s.1,(s.2.1,s.2.2++[((1:Int),((0:Int),((0:Int),(x,x+604800))))]))::r) (by simpa using hc.sl) (by
   have:=hc.sn
   simpa using this) (fun y hy=>by
    rcases List.mem_cons.1 hy with rfl | h
    ·exact hck
    ·exact (g3 y (by simp [h])).ck)
  obtain ⟨out2,e4,k1,k2,k3,k4⟩:=jyX hs hc2 (i:=0) (by simp) hsg.ll (by show (s.2.2++[_]).length≤6;simp;omega) (a:=x) (b:=x+604800) (by omega) (by omega) (by omega) (by omega)
  have hnil:out2=[]:=by
   cases out2 with
   | nil=>rfl
   | cons u q=>
    have hu:=k1.2.1
    have:=(k2 u.1).1 ⟨u,by simp,Int.le_refl _,hu⟩
    rw [show ((s.1,(s.2.1,s.2.2++[((1:Int),((0:Int),((0:Int),(x,x+604800))))]))::r)[0]=(s.1,(s.2.1,s.2.2++[((1:Int),((0:Int),((0:Int),(x,x+604800))))])) from rfl,jDt hs this.1 this.2.1] at this
    omega
  subst hnil
  obtain ⟨bq,eb,hb⟩:=jC2 h1 (by omega) h3 (fun u hu=>by have:=h4 u hu;omega) (x+n%604800)
  have hw:=jDj hs hc hi (t:=x+n%604800) (by omega) (by omega)
  have hge:=jC1 hs hsg.ck (t:=x+n%604800) (by omega) (by omega)
  have hbq:bq=decide (whoS zs cs (s::r)[0] (x+n%604800)<0):=by
   rw [Bool.eq_iff_iff,decide_eq_true_iff,hb,h2]
   show _∧_∧whoS zs cs s _ = -1↔whoS zs cs s _<0
   omega
  simp only [e1,e2,j3]
  rw [j02 (x:=x+604800) (by omega) (by omega),show j2M (zs,(ps,(cs,s::r))) 0 x (x+604800)=_ from e3]
  simp only [j3]
  rw [j02 (x:=x+604800-x) (by omega) (by omega),show x+604800-x=604800 by omega,jCs n 604800 (by omega) (by omega)]
  simp only [j3,bne_self_eq_false,j6]
  rw [j02 (x:=x+n%604800) (by omega) (by omega),eb,show jnn (zs,(ps,(cs,s::r))) 0 (x+n%604800)=_ from hw]
  simp only [j3]
  rw [hbq,beq_self_eq_true]
  simp only [Bool.not_true,j6]
  rw [show j24 (zs,(ps,(cs,s::r))) 0 x (x+604800)=_ from jyY hs e3]
  simp only [j3]
  have hz:(decide (out=[])==(Int.ofNat out.length==0))=true:=by
   cases out with
   | nil=>rfl
   | cons u q=>
    rw [show (Int.ofNat (u::q).length==0)=false from by simp;omega]
    simp
  rw [hz]
  simp only [Bool.not_true,j6]
  rw [show jh2 (zs,(ps,(cs,s::r))) 0 (1,0,0,x,x+604800)=_ from jAb hs hc hc2]
  simp only [j3,beq_self_eq_true,j5]
  rw [show j24 (zs,ps,cs,(s.1,s.2.1,s.2.2++[(1,0,0,x,x+604800)])::r) 0 x (x+604800)=_ from jyY hs e4]
  simp only [j3,decide_true,j5,jAy]
 ·rw [j00 hl]
  simp only [Bool.not_false,j5,jAy,j3]
end Go.Proofs.Pw
