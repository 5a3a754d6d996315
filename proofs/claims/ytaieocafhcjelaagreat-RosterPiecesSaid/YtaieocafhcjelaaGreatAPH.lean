/- Chapter 5: week.TimesOf and week.Times: the instants of a range whose second of the week is in a window. -/
import Derived.Test.YtaieocafhcjelaaGreatAPG
import Derived.Test.YtaieocafhcjelaaGreatAPC
open Go Go.Lft
namespace Go.Proofs.Pw
def pcf (o:Int) (l:TrL) (a b:Int) (k:Nat):Nat→List (Int×(Int×Int))
 | 0=>[]
 | n+1=>if frm l (k+1)<b then (a,(frm l (k+1),tof o l k))::pcf o l (frm l (k+1)) b (k+1) n else [(a,(b,tof o l k))]
section
variable {o:Int} {l:TrL} (h:TOk o l)
include h
theorem jA3 {b:Int} (hb:b≤8589934592):∀ (n k:Nat) (a:Int) (acc:List (Int×(Int×Int))),k+n=l.length+1→k≤l.length→frm l k≤a→a<frm l (k+1)→a<b→acc.length≤k→
  j22 a b o l acc=some (acc++pcf o l a b k n)
 | 0,k,a,acc,hn,hk,_,_,_,_=>by omega
 | n+1,k,a,acc,hn,hk,h1,h2,hab,ha=>by
  have hlen:=h.len
  rw [j2s]
  simp only [j0p,show Int.ofNat (List.length l)=(l.length:Int) from rfl,pcf]
  rw [j01 hab]
  simp only [j5,jqh h hk h1 h2,jnw h hk,j3]
  by_cases hkl:k<l.length
  ·have hf:frm l (k+1)=(l.getD k ((0:Int),(0:Int))).1:=jiQ hkl
   rw [j01 (show (k:Int)<(l.length:Int) by omega),j0s (by omega) (by omega)]
   simp only [j5,j7,←hf]
   rw [j01 (by simp [j07];omega),j5,j05]
   by_cases hc:frm l (k+1)<b
   ·rw [if_pos hc,if_pos hc]
    have:=jA3 hb n (k+1) (frm l (k+1)) (acc++[(a,(frm l (k+1),tof o l k))]) (by omega) (by omega) (by omega) (h.frm_lt (by omega)) hc (by simp;omega)
    rw [jk] at this
    exact this
   ·rw [if_neg hc,if_neg hc]
    rw [j2s]
    simp only [j0p]
    rw [j00 (by omega),j6,j08]
  ·have hkk:k=l.length:=by omega
   have hf:frm l (k+1)=8589934593:=by rw [hkk];exact jav
   rw [if_neg (show ¬ frm l (k+1)<b by omega),j00 (by omega),j6,j01 (by simp [j07];omega),j5,j05]
   rw [j2s]
   simp only [j0p]
   rw [j00 (by omega),j6,j08]
omit h in
theorem jxP:∀ (n k:Nat) (a b:Int),(pcf o l a b k n).length≤n
 | 0,k,a,b=>by simp [pcf]
 | n+1,k,a,b=>by
  simp only [pcf]
  split
  ·have:=jxP n (k+1) (frm l (k+1)) b;simp;omega
  ·simp
theorem jxQ {b:Int}:∀ (n k:Nat) (a:Int),k+n=l.length+1→frm l k≤a→a<frm l (k+1)→a<b→
  ∀ p∈pcf o l a b k n,a≤p.1∧p.1<p.2.1∧p.2.1≤b∧∃ i,k≤i∧i≤l.length∧p.2.2=tof o l i∧frm l i≤p.1∧p.2.1≤frm l (i+1)
 | 0,k,a,hn,h1,h2,hab,p,hp=>by simp [pcf] at hp
 | n+1,k,a,hn,h1,h2,hab,p,hp=>by
  simp only [pcf] at hp
  split at hp
  ·rename_i hc
   rcases jf.1 hp with rfl | hp
   ·exact ⟨kn _,h2,by dsimp only;omega,k,jo _,by omega,rfl,h1,kn _⟩
   ·cases n with
    | zero=>simp [pcf] at hp
    | succ n=>
    obtain ⟨a1,a2,a3,i,i1,i2,i3⟩:=jxQ (n+1) (k+1) (frm l (k+1)) (by omega) (kn _) (h.frm_lt (by omega)) hc p hp
    exact ⟨by omega,a2,a3,i,by omega,i2,i3⟩
  ·rename_i hc
   simp at hp;subst hp
   exact ⟨kn _,hab,kn _,k,jo _,by omega,rfl,h1,by dsimp only;omega⟩
theorem jxR {b:Int} (hb:b≤8589934592):∀ (n k:Nat) (a:Int),k+n=l.length+1→k≤l.length→frm l k≤a→a<frm l (k+1)→a<b→
  ∀ x,a≤x→x<b→∃ p∈pcf o l a b k n,p.1≤x∧x<p.2.1
 | 0,k,a,hn,hk,h1,h2,hab,x,hx,hx2=>by omega
 | n+1,k,a,hn,hk,h1,h2,hab,x,hx,hx2=>by
  simp only [pcf]
  split
  ·rename_i hc
   by_cases hlt:x<frm l (k+1)
   ·exact ⟨_,z8 ..,hx,hlt⟩
   ·have hkl:k+1≤l.length:=by
     rcases qh k l.length with h' | h'
     ·exact h'
     ·have:k=l.length:=by omega
      subst this
      rw [jav] at hc;omega
    obtain ⟨p,hp,hp2⟩:=jxR hb n (k+1) (frm l (k+1)) (by omega) hkl (kn _) (h.frm_lt hkl) hc x (by omega) hx2
    exact ⟨p,by simp [hp],hp2⟩
  ·exact ⟨_,z8 ..,hx,hx2⟩
theorem jA4 {a b:Int} (ha:0≤a) (hab:a≤b) (hb:b≤8589934592):∃ ps,j1j (o,l) a b=some ps∧ps.length≤l.length+1∧
  (∀ p∈ps,a≤p.1∧p.1<p.2.1∧p.2.1≤b∧∃ i,i≤l.length∧p.2.2=tof o l i∧frm l i≤p.1∧p.2.1≤frm l (i+1))∧∀ x,a≤x→x<b→∃ p∈ps,p.1≤x∧x<p.2.1:=by
 simp only [j1j]
 rcases Int.lt_or_le a b with hlt | hge
 ·obtain ⟨k,hk,h1,h2⟩:=jfF h ha (by omega)
  have:=jA3 h hb (l.length+1-k) k a [] (by omega) hk h1 h2 hlt (by simp)
  rw [jt] at this
  rw [this]
  refine ⟨_,rfl,?_,fun p hp=> ?_,jxR h hb _ k a (by omega) hk h1 h2 hlt⟩
  ·have:=jxP (o:=o) (l:=l) (l.length+1-k) k a b;omega
  ·obtain ⟨a1,a2,a3,i,_,i2⟩:=jxQ h _ k a (by omega) h1 h2 hlt p hp
   exact ⟨a1,a2,a3,i,i2⟩
 ·rw [j2s]
  simp only [j0p]
  rw [j00 (by omega),j6,j08]
  exact ⟨[],rfl,by simp,by simp,fun x h1 h2=>by omega⟩
end
def ent (f t st:Int) (v:Int×Int):Int×Int:=(if st+v.1>f then st+v.1 else f,if st+v.2<t then st+v.2 else t)
theorem jtT {s:Int}:∀ {w:WL},hasB s w=true↔∃ v∈w,v.1≤s∧s<v.2
 | []=>by simp [hasB]
 | x::r=>by
  simp only [hasB,jf]
  cases hc:cond (decide (x.1≤s)) (decide (s<x.2)) false with
  | true=>
   simp only [j5,true_iff]
   refine ⟨x,Or.inl rfl,?_⟩
   by_cases h1:x.1≤s
   ·rw [j01 h1,j5] at hc;exact ⟨h1,kx hc⟩
   ·rw [j00 h1,j6] at hc;simp at hc
  | false=>
   simp only [j6]
   rw [jtT (w:=r)]
   constructor
   ·rintro ⟨v,hv,h⟩;exact ⟨v,Or.inr hv,h⟩
   ·rintro ⟨v,rfl | hv,h⟩
    ·rw [j01 h.1,j01 h.2] at hc;simp at hc
    ·exact ⟨v,hv,h⟩
theorem jCu {w:WL} (hw:WOk 0 w) (hl:w.length≤14) {st f t q:Int} (hst : -1000000≤st) (hst2:st≤8600000000) (a b:Int) (ps:List (Int×(Int×Int))):∀ (n i:Nat) (acc:SL),i+n=w.length→acc.length+n≤1000000→
  j5V w st a b w (w.length:Int) (i:Int) f t q acc ps=some (w,st,a,b,f,t,q,acc++(w.drop i).map (ent f t st),ps)
 | 0,i,acc,hi,_=>by
  rw [jdu]
  simp only [j4j]
  rw [j00 (by omega),j6,j08,jc (by omega)]
  simp
 | n+1,i,acc,hi,ha=>by
  have hlt:i<w.length:=by omega
  have hgd:w.getD i ((0:Int),(0:Int))=w[i]:=by simp [hlt]
  have hg:=jl5 hw i hlt
  rw [hgd] at hg
  rw [jdu,jb hlt]
  simp only [j4j]
  rw [j01 (show (i:Int)<(w.length:Int) by omega),j0s (by omega) (by omega)]
  simp only [j5,j7,hgd]
  rw [j02 (x:=(i:Int)+1) (by omega) (by omega),j02 (x:=st+w[i].1) (by omega) (by omega),j02 (x:=st+w[i].2) (by omega) (by omega),j01 (by simp [j07];omega),j5,j05]
  have:=jCu hw hl hst hst2 a b ps n (i+1) (acc++[ent f t st w[i]]) (by omega) (by simp;omega) (f:=f) (t:=t) (q:=q)
  rw [jk] at this
  exact this
theorem jDs {w:WL} (hw:WOk 0 w) (hl:w.length≤14) {f t q:Int} (hf:0≤f) (ht:t≤8589934592) (hft:f<t) (a b:Int) (ps:List (Int×(Int×Int))):∀ (m:Nat) (st:Int) (acc:SL), -1000000≤st→t≤st+604800*m→acc.length+14*m≤900000→
  ∃ E,j5W w st a b f t q acc ps=some (w,a,b,acc++E,ps)∧E.length≤w.length*m∧(∀ s∈E,f≤s.1∧s.2≤t∧s.1≤100000000000 ∧ -100000000000≤s.2)∧
   ∀ x,inS x E↔f≤x∧x<t∧st≤x∧hasB ((x-st)%604800) w=true:=by
 intro m
 induction m with
 | zero=>
  intro st acc hst hm _
  rw [jdv]
  simp only [j23]
  rw [j00 (by omega),j6,j08]
  exact ⟨[],by simp,by simp,by simp,fun x=>⟨fun h=>absurd h j4x,fun h=>by omega⟩⟩
 | succ m ih=>
  intro st acc hst hm hacc
  rw [jdv]
  simp only [j23,show Int.ofNat (List.length w)=(w.length:Int) from rfl]
  by_cases hlt:st<t
  ·have h4:=jCu hw hl hst (by omega) a b ps w.length 0 acc (by omega) (by omega) (f:=f) (t:=t) (q:=q)
   rw [show ((0:Nat):Int)=0 from rfl,jy] at h4
   rw [j01 hlt,j5,h4]
   simp only [j3]
   rw [j02 (x:=st+604800) (by omega) (by omega),j05]
   obtain ⟨E,e,h1,h2,h3⟩:=ih (st+604800) (acc++w.map (ent f t st)) (by omega) (by omega) (by simp;omega)
   refine ⟨w.map (ent f t st)++E,?_,?_,?_,fun x=> ?_⟩
   ·rw [jk] at e;exact e
   ·rw [jh,kv,Nat.mul_succ];omega
   ·intro s hs
    rcases jq.1 hs with hs | hs
    ·obtain ⟨v,hv,rfl⟩:=k7.1 hs
     obtain ⟨i,hi,rfl⟩:=qx hv
     have hg:=jl5 hw i hi
     rw [show w.getD i (0,0)=w[i] by simp [hi]] at hg
     simp only [ent]
     refine ⟨?_,?_,?_,?_⟩<;>split<;>omega
    ·exact h2 s hs
   ·rw [jqz,h3 x]
    constructor
    ·rintro (⟨s,hs,hx1,hx2⟩ | ⟨a1,a2,a3,a4⟩)
     ·obtain ⟨v,hv,rfl⟩:=k7.1 hs
      have hv':=hv
      obtain ⟨i,hi,rfl⟩:=qx hv
      have hg:=jl5 hw i hi
      rw [show w.getD i (0,0)=w[i] by simp [hi]] at hg
      simp only [ent] at hx1 hx2
      have b1:f≤x∧st+w[i].1≤x:=by split at hx1<;>omega
      have b2:x<t∧x<st+w[i].2:=by split at hx2<;>omega
      refine ⟨b1.1,b2.1,by omega,jtT.2 ⟨w[i],hv',?_,?_⟩⟩<;>omega
     ·refine ⟨a1,a2,by omega,?_⟩
      rw [show (x-st)%604800=(x-(st+604800))%604800 by omega];exact a4
    ·rintro ⟨a1,a2,a3,a4⟩
     by_cases hx:st+604800≤x
     ·refine Or.inr ⟨a1,a2,hx,?_⟩
      rw [show (x-(st+604800))%604800=(x-st)%604800 by omega];exact a4
     ·obtain ⟨v,hv,c1,c2⟩:=jtT.1 a4
      have e1:(x-st)%604800=x-st:=by omega
      rw [e1] at c1 c2
      refine Or.inl ⟨ent f t st v,k7.2 ⟨v,hv,rfl⟩,?_,?_⟩<;>simp only [ent]<;>split<;>omega
  ·rw [j00 hlt,j6,j08]
   exact ⟨[],by simp,by simp,by simp,fun x=>⟨fun h=>absurd h j4x,fun h=>by omega⟩⟩
theorem jCv {w:WL} (hw:WOk 0 w) (hl:w.length≤14) {ps:List (Int×(Int×Int))} {M:Nat} (hM:M≤60) (hpl:ps.length≤30) {lo hi:Int} (hlo:0≤lo) (hhi:hi≤8589934592)
  (hps:∀ p∈ps,lo≤p.1∧p.1<p.2.1∧p.2.1≤hi ∧ -64800≤p.2.2∧p.2.2≤64800∧p.2.1-p.1≤604800*M):∀ (n i:Nat) (acc:SL),i+n=ps.length→acc.length≤854*i→
  ∃ E,j5X w (ps.length:Int) (i:Int) acc ps=some (acc++E)∧E.length≤w.length*(M+1)*n∧(∀ s∈E,lo≤s.1∧s.2≤hi∧s.1≤100000000000 ∧ -100000000000≤s.2)∧
   ∀ x,inS x E↔∃ p∈ps.drop i,p.1≤x∧x<p.2.1∧hasB ((x+p.2.2+259200)%604800) w=true
 | 0,i,acc,hi,_=>by
  rw [jdw]
  simp only [j24]
  rw [j00 (by omega),j6,j08,jc (by omega)]
  exact ⟨[],by simp,by simp,by simp,fun x=>⟨fun h=>absurd h j4x,fun ⟨p,hp,_⟩=>by simp at hp⟩⟩
 | n+1,i,acc,hi,hacc=>by
  have hlt:i<ps.length:=by omega
  have hgd:ps.getD i ((0:Int),((0:Int),(0:Int)))=ps[i]:=by simp [hlt]
  obtain ⟨p1,p2,p3,p4,p5,p6⟩:=hps ps[i] (jg hlt)
  have hwm:w.length*(M+1)≤854:=q9 (zj hl (show M+1≤61 by omega)) (by decide)
  rw [jdw,jb hlt]
  simp only [j24]
  rw [j01 (show (i:Int)<(ps.length:Int) by omega),j0s (by omega) (by omega)]
  simp only [j5,j7,hgd]
  rw [j02 (x:=ps[i].1+ps[i].2.2) (by omega) (by omega),j02 (x:=ps[i].1+ps[i].2.2 - -259200) (by omega) (by omega),jkU (by omega)]
  rw [j02 (x:=ps[i].1+ps[i].2.2 - -259200-(ps[i].1+ps[i].2.2 - -259200)%604800) (by omega) (by omega)]
  rw [j02 (x:=ps[i].1+ps[i].2.2 - -259200-(ps[i].1+ps[i].2.2 - -259200)%604800 + -259200) (by omega) (by omega)]
  rw [j02 (x:=ps[i].1+ps[i].2.2 - -259200-(ps[i].1+ps[i].2.2 - -259200)%604800 + -259200-ps[i].2.2) (by omega) (by omega)]
  generalize hst:ps[i].1+ps[i].2.2 - -259200-(ps[i].1+ps[i].2.2 - -259200)%604800 + -259200-ps[i].2.2=st
  obtain ⟨E1,e1,l1,b1,m1⟩:=jDs hw hl (f:=ps[i].1) (t:=ps[i].2.1) (q:=ps[i].2.2) (by omega) (by omega) p2 (ps.length:Int) (i:Int) ps (M+1) st acc (by omega) (by omega) (by omega)
  rw [e1]
  simp only [j3]
  rw [j02 (x:=(i:Int)+1) (by omega) (by omega),j05]
  obtain ⟨E2,e2,l2,b2,m2⟩:=jCv hw hl hM hpl hlo hhi hps n (i+1) (acc++E1) (by omega) (by simp;omega)
  refine ⟨E1++E2,?_,?_,?_,fun x=> ?_⟩
  ·rw [jk] at e2;exact e2
  ·rw [jh,Nat.mul_succ];omega
  ·intro s hs
   rcases jq.1 hs with hs | hs
   ·have:=b1 s hs;omega
   ·exact b2 s hs
  ·rw [jqz,m1 x,m2 x]
   have key:∀ x,ps[i].1≤x→(x-st)%604800=(x+ps[i].2.2+259200)%604800∧st≤x:=by intro x hx;omega
   constructor
   ·rintro (⟨c1,c2,c3,c4⟩ | ⟨p,hp,h⟩)
    ·exact ⟨ps[i],z8 ..,c1,c2,by rw [←(key x c1).1];exact c4⟩
    ·exact ⟨p,List.mem_cons_of_mem _ hp,h⟩
   ·rintro ⟨p,hp,c1,c2,c3⟩
    rcases jf.1 hp with rfl | hp
    ·exact Or.inl ⟨c1,c2,(key x c1).2,by rw [(key x c1).1];exact c3⟩
    ·exact Or.inr ⟨p,hp,c1,c2,c3⟩
theorem jvR {o:Int} {l:TrL} (h:TOk o l) (hll:l.length≤20) {w:WL} (hw:WOk 0 w) (hl:w.length≤14) {M:Nat} (hM:M≤60) {a b:Int} (ha:0≤a) (hab:a≤b) (hb:b≤8589934592) (hlen:b-a≤604800*M) :
  ∃ out,j3M (o,l) w a b=some out∧StS (a-1) out∧(∀ u∈out,a≤u.1∧u.2≤b)∧out.length≤w.length*(M+1)*(l.length+1)∧
   ∀ k,k≤l.length→∀ x,a≤x→x<b→frm l k≤x→x<frm l (k+1)→(inS x out↔hasB ((x+tof o l k+259200)%604800) w=true):=by
 obtain ⟨ps,e,pl,pm,pc⟩:=jA4 h ha hab hb
 obtain ⟨E,e1,l1,b1,m1⟩:=jCv hw hl hM (ps:=ps) (by omega) (lo:=a) (hi:=b) ha hb (fun p hp=>by
  obtain ⟨h1,h2,h3,i,i1,i2,_⟩:=pm p hp
  have:=h.of0 i i1;have:=h.of1 i i1
  exact ⟨h1,h2,h3,by omega,by omega,by omega⟩) ps.length 0 [] (by omega) (by simp)
 rw [show ((0:Nat):Int)=0 from rfl,jt] at e1
 have hwm:w.length*(M+1)≤854:=q9 (zj hl (show M+1≤61 by omega)) (by decide)
 have hEl:E.length≤w.length*(M+1)*(l.length+1):=q9 l1 (Nat.mul_le_mul_left _ pl)
 have hEl2:E.length≤854*21:=q9 hEl (zj hwm (by omega))
 obtain ⟨out,e2,s1,s2,s3,s4⟩:=jmf (l:=E) (by omega) (fun s hs=>by have:=b1 s hs;omega) (lo:=a) (hi:=b) (fun s hs _=>⟨(b1 s hs).1,(b1 s hs).2.1⟩)
 refine ⟨out,?_,s1,s4,by omega,fun k hk x hx1 hx2 hk1 hk2=> ?_⟩
 ·simp only [j3M,e,j3,show Int.ofNat (List.length ps)=(ps.length:Int) from rfl,e1,e2]
 ·rw [s2 x,m1 x,jy]
  constructor
  ·rintro ⟨p,hp,c1,c2,c3⟩
   obtain ⟨h1,h2,h3,i,i1,i2,i3,i4⟩:=pm p hp
   have:i=k:=jhE h i1 hk (t:=x) (by omega) (by omega) hk1 hk2
   subst this
   rw [←i2];exact c3
  ·intro hx
   obtain ⟨p,hp,c1,c2⟩:=pc x hx1 hx2
   obtain ⟨h1,h2,h3,i,i1,i2,i3,i4⟩:=pm p hp
   have:i=k:=jhE h i1 hk (t:=x) (by omega) (by omega) hk1 hk2
   subst this
   exact ⟨p,hp,c1,c2,by rw [i2];exact hx⟩
theorem jqA {o:Int} {rs:List Rule} (hm:MZ o rs):(outT o (j6t (occs rs))).length≤4:=by
 have h1:=jqw (j6t (occs rs)) o
 have h2:(j6t (occs rs)).length=(occs rs).length:=by
  unfold j6t
  rw [List.length_reverse,jba];simp
 have:=hm.few
 omega
theorem jBe {o:Int} {rs:List Rule} (hm:MZ o rs):(outT o (j6t (occs rs))).length≤20:=q9 (jqA hm) (by omega)
theorem StS.weak {p q:Int} (hq:q≤p):∀ {l:SL},StS p l→StS q l
 | [],_=>trivial
 | _::_,h=>⟨by have:=h.1;omega,h.2⟩
theorem StS.low {p x:Int}:∀ {l:SL},StS p l→inS x l→p<x
 | [],_,h=>absurd h j4x
 | s::r,h,hx=>by
  rcases j1r.1 hx with hx | hx
  ·have:=h.1;omega
  ·have:=StS.low h.2.2 hx;have:=h.1;have:=h.2.1;omega
theorem StS.mem {p:Int}:∀ {l:SL},StS p l→∀ s∈l,p<s.1∧s.1<s.2
 | [],_,s,hs=>by simp at hs
 | u::r,h,s,hs=>by
  rcases jf.1 hs with rfl | hs
  ·exact ⟨h.1,h.2.1⟩
  ·have:=StS.mem h.2.2 s hs;have:=h.1;have:=h.2.1;omega
def cmF:Nat→SL→SL→SL
 | n+1,s::a,u::b=>(if (if u.1>s.1 then u.1 else s.1)<(if u.2<s.2 then u.2 else s.2) then [((if u.1>s.1 then u.1 else s.1),(if u.2<s.2 then u.2 else s.2))] else [])++
  (if s.2<u.2 then cmF n a (u::b) else cmF n (s::a) b)
 | _,_,_=>[]
theorem jxS:∀ (n:Nat) (a b:SL) (p q:Int),a.length+b.length≤n→StS p a→StS q b→(∀ x,inS x (cmF n a b)↔inS x a∧inS x b)∧StS p (cmF n a b)∧StS q (cmF n a b)∧(cmF n a b).length≤a.length+b.length
 | 0,a,b,p,q,hn,_,_=>by
  obtain rfl:a=[]:=zi.1 (by omega)
  exact ⟨fun x=>⟨fun h=>absurd h j4x,fun h=>absurd h.1 j4x⟩,trivial,trivial,by simp [cmF]⟩
 | n+1,[],b,p,q,_,_,_=>⟨fun x=>⟨fun h=>absurd h j4x,fun h=>absurd h.1 j4x⟩,trivial,trivial,by simp [cmF]⟩
 | n+1,_::_,[],p,q,_,_,_=>⟨fun x=>⟨fun h=>absurd h j4x,fun h=>absurd h.2 j4x⟩,trivial,trivial,by simp [cmF]⟩
 | n+1,s::a,u::b,p,q,hn,ha,hb=>by
  obtain ⟨a1,a2,a3⟩:=ha
  obtain ⟨b1,b2,b3⟩:=hb
  simp only [jp] at hn ⊢
  have hx:∃ f t:Int,f=(if u.1>s.1 then u.1 else s.1)∧t=(if u.2<s.2 then u.2 else s.2)∧(∀ x,(f≤x∧x<t)↔(s.1≤x∧x<s.2)∧(u.1≤x∧x<u.2))∧p<f∧q<f∧t≤s.2∧t≤u.2:=by
   refine ⟨_,_,rfl,rfl,fun x=> ?_,?_,?_,?_,?_⟩
   ·constructor
    ·intro h;split at h<;>split at h<;>omega
    ·intro h;split<;>split<;>omega
   ·split<;>omega
   ·split<;>omega
   ·split<;>omega
   ·split<;>omega
  obtain ⟨f,t,ef,et,hi,f1,f2,t1,t2⟩:=hx
  simp only [cmF,←ef,←et]
  have key:∀ (a' b':SL) (r:SL),(∀ x,inS x r↔inS x a'∧inS x b')→StS t r→StS p r→StS q r→r.length≤a'.length+b'.length→a'.length+b'.length+1=a.length+1+(b.length+1)→
    (∀ x,inS x (s::a)∧inS x (u::b)↔(f≤x∧x<t)∨(inS x a'∧inS x b'))→
    (∀ x,inS x ((if f<t then [(f,t)] else [])++r)↔inS x (s::a)∧inS x (u::b))∧StS p ((if f<t then [(f,t)] else [])++r)∧StS q ((if f<t then [(f,t)] else [])++r)∧((if f<t then [(f,t)] else [])++r).length≤a.length+1+(b.length+1):=by
   intro a' b' r hr1 hr2 hr3 hr4 hl hl2 hiff
   by_cases hft:f<t
   ·rw [if_pos hft]
    refine ⟨fun x=> ?_,⟨f1,hft,hr2⟩,⟨f2,hft,hr2⟩,by simp;omega⟩
    rw [hiff,jqz,hr1 x,j1r]
    constructor
    ·rintro ((h | h) | h)
     ·exact .inl h
     ·exact absurd h j4x
     ·exact .inr h
    ·rintro (h | h)
     ·exact .inl (.inl h)
     ·exact .inr h
   ·rw [if_neg hft,jt]
    refine ⟨fun x=> ?_,hr3,hr4,by omega⟩
    rw [hiff,hr1 x]
    constructor
    ·exact .inr
    ·rintro (h | h)
     ·omega
     ·exact h
  by_cases hc:s.2<u.2
  ·rw [if_pos hc]
   obtain ⟨i1,i2,i3,i4⟩:=jxS n a (u::b) s.2 q (by simp;omega) a3 ⟨b1,b2,b3⟩
   refine key a (u::b) _ i1 (i2.weak t1) (i2.weak (by omega)) i3 i4 (by simp;omega) (fun x=> ?_)
   rw [j1r,hi x]
   constructor
   ·rintro ⟨h | h,h'⟩
    ·rcases j1r.1 h' with h' | h'
     ·exact .inl ⟨h,h'⟩
     ·have:=StS.low b3 h';omega
    ·exact .inr ⟨h,h'⟩
   ·rintro (h | h)
    ·exact ⟨.inl h.1,j1r.2 (.inl h.2)⟩
    ·exact ⟨.inr h.1,h.2⟩
  ·rw [if_neg hc]
   obtain ⟨i1,i2,i3,i4⟩:=jxS n (s::a) b p u.2 (by simp;omega) ⟨a1,a2,a3⟩ b3
   refine key (s::a) b _ i1 (i3.weak t2) i2 (i3.weak (by omega)) i4 (by simp;omega) (fun x=> ?_)
   rw [j1r (s:=u),hi x]
   constructor
   ·rintro ⟨h',h | h⟩
    ·rcases j1r.1 h' with h' | h'
     ·exact .inl ⟨h',h⟩
     ·have:=StS.low a3 h';omega
    ·exact .inr ⟨h',h⟩
   ·rintro (h | h)
    ·exact ⟨j1r.2 (.inl h.1),.inl h.2⟩
    ·exact ⟨h.1,.inr h.2⟩
theorem jBf {A B:SL} (hA:A.length≤10000000) (hB:B.length≤10000000):∀ (n i k:Nat) (acc:SL),i≤A.length→k≤B.length→(A.length-i)+(B.length-k)=n→acc.length+n≤30000000→
  j3G A B (i:Int) (k:Int) acc=some (acc++cmF n (A.drop i) (B.drop k))
 | n,i,k,acc,hi,hk,hn,hacc=>by
  rw [jkD]
  simp only [j6l,show Int.ofNat (List.length A)=(A.length:Int) from rfl,show Int.ofNat (List.length B)=(B.length:Int) from rfl]
  by_cases hend:i<A.length∧k<B.length
  ·obtain ⟨hi',hk'⟩:=hend
   obtain ⟨n,rfl⟩:∃ m,n=m+1:=⟨n-1,by omega⟩
   have gA:A.getD i ((0:Int),(0:Int))=A[i]:=by simp [List.getD,hi']
   have gB:B.getD k ((0:Int),(0:Int))=B[k]:=by simp [List.getD,hk']
   rw [j01 (show (i:Int)<(A.length:Int) by omega),j01 (show (k:Int)<(B.length:Int) by omega),j0s (show (0:Int)≤(i:Int) by omega) (by omega),j0s (show (0:Int)≤(k:Int) by omega) (by omega)]
   simp only [j5,j7,gA,gB]
   rw [j02 (x:=(i:Int)+1) (by omega) (by omega),j02 (x:=(k:Int)+1) (by omega) (by omega)]
   rw [jb hi',jb hk']
   simp only [cmF]
   generalize (if B[k].1>A[i].1 then B[k].1 else A[i].1:Int)=f
   generalize (if B[k].2<A[i].2 then B[k].2 else A[i].2:Int)=t
   have ih1:∀ acc':SL,acc'.length≤acc.length+1→j3G A B ((i:Int)+1) (k:Int) acc'=some (acc'++cmF n (A.drop (i+1)) (B[k]::B.drop (k+1))):=fun acc' ha'=>by
    have:=jBf hA hB n (i+1) k acc' (by omega) (by omega) (by omega) (by omega)
    rw [←jb hk']
    exact this
   have ih2:∀ acc':SL,acc'.length≤acc.length+1→j3G A B (i:Int) ((k:Int)+1) acc'=some (acc'++cmF n (A[i]::A.drop (i+1)) (B.drop (k+1))):=fun acc' ha'=>by
    have:=jBf hA hB n i (k+1) acc' (by omega) (by omega) (by omega) (by omega)
    rw [←jb hi']
    exact this
   by_cases hft:f<t
   ·rw [j01 hft,if_pos hft,j01 (by simp [j07];omega)]
    simp only [j5]
    by_cases hc:A[i].2<B[k].2
    ·rw [j01 hc,if_pos hc]
     simp only [j5,j05]
     rw [ih1 _ (by simp),jk]
    ·rw [j00 hc,if_neg hc]
     simp only [j6,j05]
     rw [ih2 _ (by simp),jk]
   ·rw [j00 hft,if_neg hft]
    simp only [j6]
    by_cases hc:A[i].2<B[k].2
    ·rw [j01 hc,if_pos hc]
     simp only [j5,j05]
     rw [ih1 _ (by omega),jt]
    ·rw [j00 hc,if_neg hc]
     simp only [j6,j05]
     rw [ih2 _ (by omega),jt]
  ·have hc:cond (decide ((i:Int)<(A.length:Int))) (decide ((k:Int)<(B.length:Int))) false=false:=by
    by_cases h1:i<A.length
    ·rw [j01 (by omega),j5];exact j00 (by omega)
    ·rw [j00 (by omega),j6]
   rw [hc,j6,j08]
   have:cmF n (A.drop i) (B.drop k)=[]:=by
    by_cases h1:i<A.length
    ·rw [vl (show B.length≤k by omega)]
     cases n<;>cases A.drop i<;>rfl
    ·rw [vl (show A.length≤i by omega)]
     cases n<;>rfl
   rw [this,qo]
theorem jxT {A B:SL} {p q:Int} (ha:StS p A) (hb:StS q B) (hA:A.length≤10000000) (hB:B.length≤10000000) :
  ∃ out,j7m A B=some out∧StS p out∧(∀ x,inS x out↔inS x A∧inS x B)∧out.length≤A.length+B.length:=by
 have lp:=jBf hA hB (A.length+B.length) 0 0 [] (by omega) (by omega) (by omega) (by simp;omega)
 obtain ⟨h1,h2,h3,h4⟩:=jxS (A.length+B.length) A B p q (jo _) ha hb
 refine ⟨cmF (A.length+B.length) A B,?_,h2,h1,h4⟩
 simp only [j7m,show j3G A B 0 0 []=_ from lp,j3,jt,jy]
def wlP (e:Int):Int→SL→SL×Int
 | t,[]=>([],t)
 | t,u::b=>if u.1<e then ((if t<u.1 then [(t,u.1)] else [])++(wlP e (if u.2>t then u.2 else t) b).1,(wlP e (if u.2>t then u.2 else t) b).2) else ([],t)
def woP (e t:Int) (b:SL):SL:=(wlP e t b).1++(if (wlP e t b).2<e then [((wlP e t b).2,e)] else [])
theorem jBg {e t:Int} {u:Int×Int} {b:SL} (h:u.1<e):woP e t (u::b)=(if t<u.1 then [(t,u.1)] else [])++woP e (if u.2>t then u.2 else t) b:=by
 simp only [woP,wlP,if_pos h,jk]
theorem jA5 {e:Int}:∀ (b:SL) (t q:Int),StS q b→(∀ x,inS x (woP e t b)↔(t≤x∧x<e)∧¬ inS x b)∧StS (t-1) (woP e t b)∧(∀ s∈woP e t b,s.2≤e)∧(woP e t b).length≤b.countP (fun u=>decide (t<u.1)&&decide (u.1<e))+1
 | [],t,q,_=>by
  rw [show woP e t []=(if t<e then [(t,e)] else []) from rfl]
  by_cases h:t<e
  ·rw [if_pos h]
   exact ⟨fun x=>⟨fun hx=>⟨by rcases j1r.1 hx with hx | hx;exact hx;exact absurd hx j4x,j4x⟩,fun hx=>j1r.2 (.inl hx.1)⟩,⟨by dsimp only;omega,h,trivial⟩,by simp,by simp⟩
  ·rw [if_neg h]
   exact ⟨fun x=>⟨fun hx=>absurd hx j4x,fun hx=>by omega⟩,trivial,by simp,by simp⟩
 | u::b,t,q,hb=>by
  obtain ⟨b1,b2,b3⟩:=hb
  by_cases hu:u.1<e
  ·rw [jBg hu]
   have hm:∃ t',t'=(if u.2>t then u.2 else t)∧t≤t'∧u.2≤t'∧(t'=t∨t'=u.2):=⟨_,rfl,by split<;>omega,by split<;>omega,by split<;>omega⟩
   obtain ⟨t',e',h1,h2,h3⟩:=hm
   rw [←e']
   obtain ⟨i1,i2,i3,i4⟩:=jA5 b t' u.2 b3
   have hbx:∀ x,inS x b→u.2<x:=fun x=>StS.low b3
   have hcp:b.countP (fun u=>decide (t'<u.1)&&decide (u.1<e))≤b.countP (fun u=>decide (t<u.1)&&decide (u.1<e)):=List.countP_mono_left fun v _ h=>by
    simp only [ja,jl] at h ⊢
    omega
   by_cases htu:t<u.1
   ·rw [if_pos htu]
    refine ⟨fun x=> ?_,⟨by dsimp only;omega,htu,i2.weak (by omega)⟩,fun s hs=> ?_,by
     rw [List.countP_cons_of_pos (by simp [htu,hu]),List.singleton_append,jp];omega⟩
    ·rw [List.singleton_append,j1r,i1 x,j1r]
     constructor
     ·rintro (h | h)
      ·exact ⟨by omega,fun h'=>by
        rcases h' with h' | h'
        ·omega
        ·have:=hbx x h';omega⟩
      ·exact ⟨by omega,fun h'=>by
        rcases h' with h' | h'
        ·omega
        ·exact h.2 h'⟩
     ·rintro ⟨h,h'⟩
      by_cases hx:x<u.1
      ·exact .inl ⟨h.1,hx⟩
      ·by_cases hx2:x<u.2
       ·exact absurd (.inl ⟨by omega,hx2⟩) h'
       ·exact .inr ⟨by omega,fun h2=>h' (.inr h2)⟩
    ·rcases jf.1 hs with rfl | hs
     ·dsimp only;omega
     ·exact i3 s hs
   ·rw [if_neg htu,jt]
    refine ⟨fun x=> ?_,i2.weak (by omega),i3,by
     rw [List.countP_cons_of_neg (by simp [htu])];omega⟩
    rw [i1 x,j1r]
    constructor
    ·rintro h
     exact ⟨by omega,fun h'=>by
      rcases h' with h' | h'
      ·omega
      ·exact h.2 h'⟩
    ·rintro ⟨h,h'⟩
     by_cases hx2:x<u.2
     ·exact absurd (.inl ⟨by omega,hx2⟩) h'
     ·exact ⟨by omega,fun h2=>h' (.inr h2)⟩
  ·have:woP e t (u::b)=if t<e then [(t,e)] else []:=by simp only [woP,wlP,if_neg hu,jt]
   rw [this]
   have hno:∀ x,x<e→¬ inS x (u::b):=fun x hx h=>by
    rcases j1r.1 h with h | h
    ·omega
    ·have:=StS.low b3 h;omega
   by_cases h:t<e
   ·rw [if_pos h]
    exact ⟨fun x=>⟨fun hx=>by
     rcases j1r.1 hx with hx | hx
     ·exact ⟨hx,hno x hx.2⟩
     ·exact absurd hx j4x,fun hx=>j1r.2 (.inl hx.1)⟩,⟨by dsimp only;omega,h,trivial⟩,by simp,by simp⟩
   ·rw [if_neg h]
    exact ⟨fun x=>⟨fun hx=>absurd hx j4x,fun hx=>by omega⟩,trivial,by simp,by simp⟩
def pA (l:SL) (u:Int×Int):Bool:=l.any fun s=>decide (s.1<u.1)&&decide (u.1<s.2)
theorem juU {p q:Int×Int→Bool} (h:∀ u,p u=true→q u=true→False):∀ l:SL,l.countP p+l.countP q≤l.countP (fun u=>p u||q u)
 | []=>by simp
 | u::l=>by
  have ih:=juU h l
  have hu:=h u
  simp only [List.countP_cons]
  cases hp:p u<;>cases hq:q u<;>simp_all<;>omega
theorem jxU {q:Int}:∀ {b:SL} (k:Nat),StS q b→∃ q',StS q' (b.drop k)
 | _,0,h=>⟨q,h⟩
 | [],_+1,_=>⟨q,trivial⟩
 | _::_,k+1,h=>jxU k h.2.2
section
variable {B:SL} (hB:B.length≤10000000)
include hB
theorem jCw {A:SL} {n m s e:Int} {acc:SL}:∀ (d k:Nat),k+d=B.length→∃ k':Nat,k≤k'∧k'≤B.length∧(∀ j (h:j<B.length),k≤j→j<k'→B[j].2≤s)∧
  j5Y B (k:Int) A n m s e acc=some (B,(k':Int),A,n,m,s,e,acc)
 | 0,k,hk=>by
  rw [jdx]
  simp only [j4k,show Int.ofNat (List.length B)=(B.length:Int) from rfl]
  rw [j00 (by omega),j6,j08]
  exact ⟨k,by omega,by omega,fun j h h1 h2=>by omega,rfl⟩
 | d+1,k,hk=>by
  have hk':k<B.length:=by omega
  have gB:B.getD k ((0:Int),(0:Int))=B[k]:=by simp [List.getD,hk']
  rw [jdx]
  simp only [j4k,show Int.ofNat (List.length B)=(B.length:Int) from rfl]
  rw [j01 (by omega),j0s (by omega) (by omega)]
  simp only [j5,j7,gB]
  by_cases hc:B[k].2≤s
  ·rw [j01 hc,j5,j05,j02 (x:=(k:Int)+1) (by omega) (by omega)]
   obtain ⟨k',h1,h2,h3,h4⟩:=jCw d (k+1) (by omega)
   refine ⟨k',by omega,h2,fun j h ha hb=> ?_,h4⟩
   by_cases hjk:j=k
   ·subst hjk;exact hc
   ·exact h3 j h (by omega) hb
  ·rw [j00 hc,j6,j08]
   exact ⟨k,by omega,by omega,fun j h h1 h2=>by omega,rfl⟩
theorem jCx {A:SL} {k n m s e:Int}:∀ (d i:Nat) (t:Int) (acc:SL),i+d=B.length→acc.length+d≤4000000000→
  j4I B k t (i:Int) A n m s e acc=some (B,k,(wlP e t (B.drop i)).2,A,n,m,s,e,acc++(wlP e t (B.drop i)).1)
 | 0,i,t,acc,hi,hacc=>by
  rw [jdy]
  simp only [j4l,show Int.ofNat (List.length B)=(B.length:Int) from rfl]
  rw [j00 (by omega),j6,j08,jc (by omega)]
  simp [wlP]
 | d+1,i,t,acc,hi,hacc=>by
  have hi':i<B.length:=by omega
  have gB:B.getD i ((0:Int),(0:Int))=B[i]:=by simp [List.getD,hi']
  rw [jdy]
  simp only [j4l,show Int.ofNat (List.length B)=(B.length:Int) from rfl]
  rw [j01 (by omega),j0s (by omega) (by omega)]
  simp only [j5,j7,gB]
  rw [jb hi',j02 (x:=(i:Int)+1) (by omega) (by omega)]
  by_cases hc:B[i].1<e
  ·rw [j01 hc]
   simp only [j5,wlP,if_pos hc]
   have ih:∀ acc':SL,acc'.length≤acc.length+1→j4I B k (if B[i].2>t then B[i].2 else t) ((i:Int)+1) A n m s e acc'=_:=fun acc' h'=>jCx d (i+1) (if B[i].2>t then B[i].2 else t) acc' (by omega) (by omega)
   by_cases ht:t<B[i].1
   ·rw [j01 ht,if_pos ht,j01 (by simp [j07];omega)]
    simp only [j5,j05]
    rw [ih _ (by simp),jk]
   ·rw [j00 ht,if_neg ht]
    simp only [j6,j05]
    rw [ih _ (by omega),jt]
  ·rw [j00 hc]
   simp only [j6,j08,wlP,if_neg hc,qo]
theorem jCy {A:SL} (hA:A.length≤10000000) {q:Int} (hb:StS q B):∀ (d j k:Nat) (p:Int) (acc:SL),j+d=A.length→k≤B.length→StS p (A.drop j)→(∀ i (h:i<B.length),i<k→∀ x,inS x (A.drop j)→B[i].2≤x)→acc.length+d+B.countP (pA (A.drop j))≤30000000→
  ∃ out,j3N B (k:Int) A (A.length:Int) (j:Int) acc=some (acc++out)∧StS p out∧(∀ x,inS x out↔inS x (A.drop j)∧¬ inS x B)∧out.length≤d+B.countP (pA (A.drop j))
 | 0,j,k,p,acc,hj,hk,_,_,hacc=>by
  rw [jdz]
  simp only [j25]
  rw [j00 (by omega),j6,j08,jc (by omega)]
  exact ⟨[],by simp,trivial,fun x=>⟨fun h=>absurd h j4x,fun h=>absurd h.1 j4x⟩,by simp⟩
 | d+1,j,k,p,acc,hj,hk,ha,hkx,hacc=>by
  have hj':j<A.length:=by omega
  have gA:A.getD j ((0:Int),(0:Int))=A[j]:=by simp [List.getD,hj']
  rw [jb hj'] at ha hkx hacc ⊢
  obtain ⟨a1,a2,a3⟩:=ha
  obtain ⟨k',h1,h2,h3,h4⟩:=jCw hB (A:=A) (n:=(A.length:Int)) (m:=(j:Int)) (s:=A[j].1) (e:=A[j].2) (acc:=acc) (B.length-k) k (by omega)
  have hb':∃ q',StS q' (B.drop k'):=jxU k' hb
  obtain ⟨q',hb'⟩:=hb'
  have hskip:∀ x,A[j].1≤x→(inS x B↔inS x (B.drop k')):=by
   intro x hx
   constructor
   ·rintro ⟨u,hu,u1,u2⟩
    obtain ⟨i,hi,rfl⟩:=List.mem_iff_getElem.1 hu
    by_cases hik:i<k'
    ·by_cases hik2:i<k
     ·have:=hkx i hi hik2 A[j].1 (j1r.2 (.inl ⟨kn _,a2⟩));omega
     ·have:=h3 i hi (by omega) hik;omega
    ·exact ⟨B[i],List.mem_drop_iff_getElem.2 ⟨i-k',by omega,by simp [show k'+(i-k')=i by omega]⟩,u1,u2⟩
   ·rintro ⟨u,hu,u1,u2⟩
    exact ⟨u,zd hu,u1,u2⟩
  have w4:=jCx hB (A:=A) (k:=(k':Int)) (n:=(A.length:Int)) (m:=(j:Int)) (s:=A[j].1) (e:=A[j].2) (B.length-k') k' A[j].1 acc (by omega) (by omega)
  obtain ⟨s1,s2,s3,s4⟩:=jA5 (e:=A[j].2) (B.drop k') A[j].1 q' hb'
  have hwl:(wlP A[j].2 A[j].1 (B.drop k')).1.length≤(woP A[j].2 A[j].1 (B.drop k')).length:=by simp [woP]
  have hcnt:(woP A[j].2 A[j].1 (B.drop k')).length+B.countP (pA (A.drop (j+1)))≤B.countP (pA (A[j]::A.drop (j+1)))+1:=by
   have h5:(B.drop k').countP (fun u=>decide (A[j].1<u.1)&&decide (u.1<A[j].2))≤B.countP (fun u=>decide (A[j].1<u.1)&&decide (u.1<A[j].2)):=(List.drop_sublist k' B).countP_le
   have h6:=juU (p:=fun u=>decide (A[j].1<u.1)&&decide (u.1<A[j].2)) (q:=pA (A.drop (j+1))) (fun u hp hq=>by
    obtain ⟨s,hs,hs'⟩:=zm.1 hq
    have:=StS.mem a3 s hs
    simp only [ja,jl] at hp hs'
    omega) B
   have h7:B.countP (fun u=>(decide (A[j].1<u.1)&&decide (u.1<A[j].2))||pA (A.drop (j+1)) u)=B.countP (pA (A[j]::A.drop (j+1))):=rfl
   omega
  have step:∀ acc':SL,acc'=acc++woP A[j].2 A[j].1 (B.drop k')→∃ out,j3N B (k':Int) A (A.length:Int) ((j:Int)+1) acc'=some (acc++out)∧StS p out∧(∀ x,inS x out↔inS x (A[j]::A.drop (j+1))∧¬ inS x B)∧out.length≤d+1+B.countP (pA (A[j]::A.drop (j+1))):=by
   rintro _ rfl
   obtain ⟨out,e,o1,o2,o3⟩:=jCy hA hb d (j+1) k' A[j].2 (acc++woP A[j].2 A[j].1 (B.drop k')) (by omega) h2 a3 (fun i hi hik x hx=>by
    have hlow:=StS.low a3 hx
    by_cases hik2:i<k
    ·exact hkx i hi hik2 x (j1r.2 (.inr hx))
    ·have:=h3 i hi (by omega) hik;omega) (by rw [jh];omega)
   refine ⟨woP A[j].2 A[j].1 (B.drop k')++out,by rw [←jk];exact e,?_,fun x=> ?_,by rw [jh];omega⟩
   ·have glue:∀ (l:SL) (r:Int),StS r l→r<A[j].2→(∀ s∈l,s.2≤A[j].2)→StS r (l++out):=by
     intro l
     induction l with
     | nil=>intro r _ hr _;exact o1.weak (by omega)
     | cons s l ih=>intro r h hr hl;exact ⟨h.1,h.2.1,by
      have:=hl s (by simp)
      by_cases hs:s.2<A[j].2
      ·exact ih s.2 h.2.2 hs (fun u hu=>hl u (by simp [hu]))
      ·have he:s.2=A[j].2:=by omega
       match l,h.2.2 with
       | [],_=>exact o1.weak (by omega)
       | u::l',h'=>have:=hl u (by simp);have:=h'.1;have:=h'.2.1;omega⟩
    exact glue _ _ (s2.weak (by omega)) (by omega) s3
   ·rw [jqz,s1 x,o2 x,j1r]
    constructor
    ·rintro (h | h)
     ·exact ⟨.inl h.1,fun hx=>h.2 ((hskip x h.1.1).1 hx)⟩
     ·exact ⟨.inr h.1,h.2⟩
    ·rintro ⟨h | h,h'⟩
     ·exact .inl ⟨h,fun hx=>h' ((hskip x h.1).2 hx)⟩
     ·exact .inr ⟨h,h'⟩
  rw [jdz]
  simp only [j25]
  rw [j01 (show (j:Int)<(A.length:Int) by omega),j0s (by omega) (by omega)]
  simp only [j5,j7,gA,h4,j3,w4]
  rw [j02 (x:=(j:Int)+1) (by omega) (by omega)]
  have hlen:(acc++(wlP A[j].2 A[j].1 (B.drop k')).1).length≤2000000000:=by
   rw [jh];omega
  by_cases ht:(wlP A[j].2 A[j].1 (B.drop k')).2<A[j].2
  ·rw [j01 ht]
   simp only [j5]
   rw [j01 (by simp only [j07,qg];omega)]
   simp only [j5,j05]
   exact step _ (by simp only [woP,if_pos ht,jk])
  ·rw [j00 ht]
   simp only [j6,j05]
   exact step _ (by simp only [woP,if_neg ht,qo])
theorem jl8 {A:SL} {p q:Int} (ha:StS p A) (hb:StS q B) (hA:A.length≤10000000) :
  ∃ out,j2k A B=some out∧StS p out∧(∀ x,inS x out↔inS x A∧¬ inS x B)∧out.length≤A.length+B.length:=by
 have hc:=List.countP_le_length (p:=pA (A.drop 0)) (l:=B)
 obtain ⟨out,e,h1,h2,h3⟩:=jCy hB hA hb A.length 0 0 p [] (by omega) (by omega) ha (fun i h hi=>by omega) (by simp only [v6];omega)
 refine ⟨out,?_,h1,h2,by omega⟩
 simp only [j2k,show Int.ofNat (List.length A)=(A.length:Int) from rfl,show j3N B 0 A (A.length:Int) 0 []=_ from e,j3,jt]
end
set_option linter.unusedSectionVars false
end Go.Proofs.Pw
