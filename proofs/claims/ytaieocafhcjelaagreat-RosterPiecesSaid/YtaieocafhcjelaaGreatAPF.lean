/- Chapter 4: the reference's answers for right zones. -/
import Derived.Test.YtaieocafhcjelaaGreatAPE
open Go Go.Lft
namespace Go.Proofs.Pw
section
variable {o:Int} {l:TrL} (h:TOk o l)
include h
theorem jsm {t:Int} {k:Nat} (hk:k≤l.length) (h1:frm l k≤t) (h2:t<frm l (k+1)):∀ (n i:Nat),i+n=k→j9k l t (tof o l i) (i:Int)=some (tof o l k)
 | 0,i,hi=>by
  have hi:i=k:=by omega
  subst hi
  have hlen:=h.len
  rw [jfY]
  simp only [j5q,show Int.ofNat (List.length l)=(l.length:Int) from rfl]
  by_cases hlt:i<l.length
  ·have e:frm l (i+1)=tat l i:=jiQ hlt
   rw [j0s (by omega) (by omega),j01 (show (i:Int)<(l.length:Int) by omega)]
   simp only [qy,j5,j7]
   rw [j00 (show ¬ (l.getD i ((0:Int),(0:Int))).1≤t by show ¬ tat l i≤t;omega),j6,j08]
  ·rw [j00 (show ¬ (i:Int)<(l.length:Int) by omega)]
   simp only [ju,Bool.or_true,j5,j6,j08]
 | n+1,i,hi=>by
  have hlen:=h.len
  have hlt:i<l.length:=by omega
  have e:frm l (i+1)=tat l i:=jiQ hlt
  have hle:=h.frm_le (i:=i+1) (j:=k) (by omega) (by omega)
  rw [jfY]
  simp only [j5q,show Int.ofNat (List.length l)=(l.length:Int) from rfl]
  rw [j0s (by omega) (by omega),j01 (show (i:Int)<(l.length:Int) by omega)]
  simp only [qy,j5,j7]
  rw [j01 (show (l.getD i ((0:Int),(0:Int))).1≤t by show tat l i≤t;omega),j5,j02 (by omega) (by omega),j05]
  exact jsm hk h1 h2 n (i+1) (by omega)
theorem jxF {nm:ByteArray} {rs:List Rule} {t:Int} {k:Nat} (hk:k≤l.length) (h1:frm l k≤t) (h2:t<frm l (k+1)):jhA (nm,(o,rs)) l t=some (tof o l k):=by
 have:=jsm h hk h1 h2 k 0 (by omega)
 simp only [jhA]
 rw [show j9k l t o 0=_ from this]
 rfl
theorem jnK {nm:ByteArray} {rs:List Rule} {d c:Int} (hd : -1000000≤d) (hd2:d≤1000000) (hc:0≤c) (hc2:c≤86399) {k:Nat} (hk:k≤l.length) (hks:d*86400+c-tof o l k<frm l (k+1))
  (hb:∀ j,j<k→frm l (j+1)≤d*86400+c-tof o l j):∀ (n j:Nat),j+n=k→j5o ((j:Int)-1) nm o rs d c l=some (.inl (max (frm l k) (d*86400+c-tof o l k),0))
 | n,j,hj=>by
  have hlen:=h.len
  have hjl:j≤l.length:=by omega
  have o1:=h.of0 j hjl;have o2:=h.of1 j hjl
  have hlt:=h.frm_lt hjl
  have key:∀ A:Option ((Int×ByteArray×Int×List Rule×Int×Int×TrL) ⊕ ((Int×Int) ⊕ Unit)),
    A=(cond (decide (max (frm l j) (d*86400+c-tof o l j)<frm l (j+1))) (some (.inr (.inl (max (frm l j) (d*86400+c-tof o l j),0)))) (some (.inl ((j:Int),nm,o,rs,d,c,l))))→
    lpK A (fun h=>j5o h.1 h.2.1 h.2.2.1 h.2.2.2.1 h.2.2.2.2.1 h.2.2.2.2.2.1 h.2.2.2.2.2.2)=some (.inl (max (frm l k) (d*86400+c-tof o l k),0)):=by
   intro A hA
   rw [hA]
   cases n with
   | zero=>
    have hjk:j=k:=by omega
    subst hjk
    rw [j01 (by omega),j5,j08]
   | succ n=>
    have:=hb j (by omega)
    rw [j00 (by omega),j6,j05]
    have ih:=jnK (nm:=nm) (rs:=rs) hd hd2 hc hc2 hk hks hb n (j+1) (by omega)
    rwa [show ((j+1:Nat):Int)-1=(j:Int) by omega] at ih
  rw [jcB]
  refine key _ ?_
  simp only [j4F,show Int.ofNat (List.length l)=(l.length:Int) from rfl]
  rw [j01 (show (j:Int)-1<(l.length:Int) by omega)]
  simp only [show (j:Int)-1+1=(j:Int) by omega,j02 (x:=(j:Int)) (by omega) (by omega),j7]
  rw [j02 (x:=d*86400) (by omega) (by omega),j02 (x:=d*86400+c) (by omega) (by omega)]
  have hmx:∀ a b:Int,(if a>b then a else b)=max b a:=fun a b=>by omega
  clear key
  cases j with
  | zero=>
   have ht0:tof o l 0=o:=rfl
   have hf0:frm l 0=0:=rfl
   rw [j00 (show ¬ ((0:Nat):Int)-1≥0 by omega)]
   rw [ht0] at o1 o2 ⊢
   rw [hf0]
   simp only [j5,j6,j02 (x:=d*86400+c-o) (by omega) (by omega),hmx]
   by_cases hl0:0<l.length
   ·have e:frm l (0+1)=tat l 0:=jiQ hl0
    rw [e]
    rw [j01 (show ((0:Nat):Int)<(l.length:Int) by omega),j0s (by omega) (by omega)]
    rfl
   ·have hl0':l.length=0:=by omega
    have e:frm l (0+1)=8589934593:=by have:=jav (l:=l);rwa [hl0'] at this
    rw [e]
    rw [j00 (show ¬ ((0:Nat):Int)<(l.length:Int) by omega)]
    rfl
  | succ i=>
   have hil:i<l.length:=by omega
   have ht0:tof o l (i+1)=(l.getD i ((0:Int),(0:Int))).2:=rfl
   have hf0:frm l (i+1)=(l.getD i ((0:Int),(0:Int))).1:=jiQ hil
   rw [show ((i+1:Nat):Int)-1=(i:Int) by omega,j01 (show (i:Int)≥0 by omega),j0s (by omega) (by omega)]
   simp only [j5,j7,←ht0,←hf0]
   rw [j02 (x:=d*86400+c-tof o l (i+1)) (by omega) (by omega)]
   simp only [hmx]
   by_cases hl0:i+1<l.length
   ·have e:frm l (i+1+1)=(l.getD (i+1) ((0:Int),(0:Int))).1:=jiQ hl0
    rw [j01 (show ((i+1:Nat):Int)<(l.length:Int) by omega),j0s (by omega) (by omega)]
    simp only [j5,←e]
   ·have e:frm l (i+1+1)=8589934593:=by have:=jav (l:=l);rwa [show l.length+1=i+1+1 by omega] at this
    rw [j00 (show ¬ ((i+1:Nat):Int)<(l.length:Int) by omega),e]
    rfl
end
theorem jvO {t o:Int} (h1 : -864000≤t+o) (h2:t+o≤1000000000000):jjD t o=some ((t+o)/86400,(t+o)%86400):=by
 simp only [jjD]
 rw [j02 (x:=t+o) (by omega) (by omega),j02 (x:=t+o+864000) (by omega) (by omega),jfE (by omega),jkU (by omega),j02 (x:=(t+o+864000)/86400) (by omega) (by omega),j02 (by omega) (by omega)]
 congr 2<;>omega
section
variable {z:ByteArray×(Int×List Rule)} {l:TrL} (h:Z4 z l)
include h
theorem jzl {t:Int} {k:Nat} (h0:0≤t) (h1:t≤8589934592) (hk:k≤l.length) (hk1:frm l k≤t) (hk2:t<frm l (k+1)):jb4 z t=some (tof z.2.1 l k,0):=by
 simp only [jb4,show j1H (z.1,(z.2.1,z.2.2))=_ from h.1,j3,jd,j6,jdb h0 h1,jj,jxF h.2 hk hk1 hk2]
theorem juQ {t:Int} {k:Nat} (h0:0≤t) (h1:t≤8589934592) (hk:k≤l.length) (hk1:frm l k≤t) (hk2:t<frm l (k+1)):j4d z t=some (((t+tof z.2.1 l k)/86400,(t+tof z.2.1 l k)%86400),0):=by
 have o1:=h.2.of0 k hk;have o2:=h.2.of1 k hk
 simp only [j4d,show jb4 (z.1,(z.2.1,z.2.2)) t=_ from jzl h h0 h1 hk hk1 hk2,j3,jd,j6,jvO (show -864000≤t+tof z.2.1 l k by omega) (by omega)]
omit h in
theorem jp4 {d:Int} (h1 : -2≤d) (h2:d≤99422):jgJ d=some true:=by
 simp only [jgJ,jdb h1 h2,j3]
theorem jvP {d c:Int} (hd : -2≤d) (hd2:d≤99422) (hc:0≤c) (hc2:c≤86399) {k:Nat} (hk:k≤l.length) (hks:d*86400+c-tof z.2.1 l k<frm l (k+1))
  (hb:∀ j,j<k→frm l (j+1)≤d*86400+c-tof z.2.1 l j):j5p z (d,c)=some (max (frm l k) (d*86400+c-tof z.2.1 l k),0):=by
 have:=jnK h.2 (nm:=z.1) (rs:=z.2.2) (show -1000000≤d by omega) (by omega) hc hc2 hk hks hb k 0 (by omega)
 simp only [j5p,show j1H (z.1,(z.2.1,z.2.2))=_ from h.1,j3,jd,j6,jdb hc hc2,jj,jp4 hd hd2]
 rw [j00 (show ¬ d < -2 by omega),j6,show j5o (-1) z.1 z.2.1 z.2.2 d c l=_ from this]
 rfl
end
def NoF (o:Int) (l:TrL) (s:Int):Prop:=∀ j,j≤l.length→frm l (j+1)≤s-tof o l j
noncomputable def fO (o:Int) (l:TrL) (s:Int):Option Int:=open Classical in if h:∃ t k,Fst o l s t k then some (Classical.choose h) else none
theorem Fst.uniq {o:Int} {l:TrL} {s t t':Int} {k k':Nat} (f:Fst o l s t k) (g:Fst o l s t' k'):k=k'∧t=t':=by
 have hk:k=k':=by
  rcases vp k k' with hlt | heq | hgt
  ·have:=g.bef k hlt;have:=f.hks;omega
  ·exact heq
  ·have:=f.bef k' hgt;have:=g.hks;omega
 subst hk
 exact ⟨rfl,by rw [f.ht,g.ht]⟩
theorem fO_t {o:Int} {l:TrL} {s t:Int} {k:Nat} (f:Fst o l s t k):fO o l s=some t:=by
 have he:∃ t k,Fst o l s t k:=⟨t,k,f⟩
 unfold fO
 rw [dif_pos he]
 obtain ⟨k',g⟩:=Classical.choose_spec he
 rw [(g.uniq f).2]
theorem fO_n {o:Int} {l:TrL} {s:Int} (hno:NoF o l s):fO o l s=none:=by
 unfold fO
 rw [dif_neg]
 rintro ⟨t,k,f⟩
 have:=hno k f.hk
 have:=f.hks
 omega
theorem juR (o:Int) (l:TrL) (s:Int):(∃ t k,Fst o l s t k)∨NoF o l s:=by
 by_cases hno:NoF o l s
 ·exact .inr hno
 ·left
  have:∃ j,j≤l.length∧s-tof o l j<frm l (j+1):=by
   apply jm
   intro hn
   exact hno fun j hj=>by
    rcases Int.lt_or_le (s-tof o l j) (frm l (j+1)) with h | h
    ·exact absurd ⟨j,hj,h⟩ hn
    ·exact h
  obtain ⟨j,hj,hjs⟩:=this
  obtain ⟨a,⟨ha,haN⟩,hmin⟩:=jwP (fun j=>s-tof o l j<frm l (j+1)∧j≤l.length) j ⟨hjs,hj⟩
  refine ⟨_,a,haN,ha,fun i hi=> ?_,rfl⟩
  rcases Int.lt_or_le (s-tof o l i) (frm l (i+1)) with h' | h'
  ·have:=hmin i ⟨h',by omega⟩;omega
  ·exact h'
theorem jzm {o:Int} {l:TrL} {s t:Int} (he:fO o l s=some t):∃ k,Fst o l s t k:=by
 rcases juR o l s with ⟨t',k,f⟩ | hno
 ·rw [fO_t f] at he
  simp at he;subst he
  exact ⟨k,f⟩
 ·rw [fO_n hno] at he;simp at he
section
variable {o:Int} {l:TrL} (h:TOk o l)
include h
theorem jvQ {s t:Int} (he:fO o l s=some t):s≤t+64800∧0≤t∧t≤8589934592:=by
 obtain ⟨k,f⟩:=jzm he
 obtain ⟨p1,p2,p3⟩:=f.piece h
 have o1:=h.of1 k f.hk
 have g1:=h.frm_le (i:=0) (j:=k) (by omega) (by have:=f.hk;omega)
 have e0:frm l 0=0:=frm0
 have e1:frm l (l.length+1)=8589934593:=jav
 have g2:=h.frm_le (i:=k+1) (j:=l.length+1) (by have:=f.hk;omega) (by omega)
 omega
theorem jxG {s:Int} (hs:8589934593+64800≤s):NoF o l s:=fun j hj=>by
 have o1:=h.of1 j hj
 have e1:frm l (l.length+1)=8589934593:=jav
 have g2:=h.frm_le (i:=j+1) (j:=l.length+1) (by omega) (by omega)
 omega
theorem jBa {s s' t':Int} (hs:s≤s') (he:fO o l s'=some t'):∃ t,fO o l s=some t∧t≤t':=by
 obtain ⟨k',g⟩:=jzm he
 have g1:=g.hks
 have hk':=g.hk
 rcases juR o l s with ⟨t,k,f⟩ | hno
 ·refine ⟨t,fO_t f,?_⟩
  obtain ⟨p1,p2,p3⟩:=f.piece h
  obtain ⟨q1,q2,q3⟩:=g.piece h
  have f1:=f.ht;have g2:=g.ht
  rcases vp k k' with hlt | heq | hgt
  ·have:=h.frm_le (i:=k+1) (j:=k') (by omega) (by omega);omega
  ·subst heq;omega
  ·have:=f.bef k' hgt;omega
 ·have:=hno k' hk';omega
theorem jnL {d c s:Int} (hsec:j4y (d,c)=some s) (hs0 : -1000000000000≤s) (hs1:s≤1000000000000) (hno:NoF o l s) :
  ∀ (n i:Nat),i+n=l.length+1→j2P ((l.length+1:Nat):Int) (i:Int) d c (pcs o l (l.length+1))=some (.inr ())
 | 0,i,hi=>by
  rw [j4T]
  simp only [j1G]
  rw [j00 (by omega),j6,j08]
 | n+1,i,hi=>by
  have hlen:=h.len
  have hil:i≤l.length:=by omega
  have o1:=h.of0 i hil;have o2:=h.of1 i hil
  have hb:=hno i hil
  have hlt:=h.frm_lt hil
  rw [j4T]
  simp only [j1G]
  rw [j01 (show (i:Int)<((l.length+1:Nat):Int) by omega),j0s (by omega) (by rw [jiR];omega)]
  simp only [j5,j7,jtH (show i<l.length+1 by omega),hsec,j3,pc]
  rw [j02 (x:=s-tof o l i) (by omega) (by omega),j02 (x:=(i:Int)+1) (by omega) (by omega)]
  have hm:(if s-tof o l i>frm l i then s-tof o l i else frm l i)=max (frm l i) (s-tof o l i):=by split<;>omega
  rw [hm,j00 (by omega),j6,j05]
  exact jnL hsec hs0 hs1 hno n (i+1) (by omega)
theorem jqy {d c s:Int} (hsec:j4y (d,c)=some s) (hs0 : -1000000000000≤s) (hs1:s≤1000000000000) (hno:NoF o l s):j1Z (o,l) (d,c)=some (0,false):=by
 have:=jnL h hsec hs0 hs1 hno (l.length+1) 0 (by omega)
 simp only [j1Z,jse h,j3,jiR,show Int.ofNat (List.length l+1)=((l.length+1:Nat):Int) from rfl]
 rw [show (0:Int)=((0:Nat):Int) from rfl,this]
 rfl
theorem jsn {d c:Int} (hd : -1000000≤d) (hd2:d≤1000000000000000) (hc:0≤c) (hc2:c≤86399) :
  j1Z (o,l) (d,c)=some ((fO o l (d*86400+c)).getD 0,(fO o l (d*86400+c)).isSome):=by
 by_cases hb:d≤1000000
 ·rcases juR o l (d*86400+c) with ⟨t,k,f⟩ | hno
  ·have e:=jzc h hd hb (by omega) (by omega) f.hk f.hks f.bef
   rw [←f.ht] at e
   rw [fO_t f]
   exact e
  ·rw [fO_n hno]
   exact jqy h (jkV hd hb (by omega) (by omega)) (by omega) (by omega) hno
 ·have hno:NoF o l (d*86400+c):=jxG h (by omega)
  rw [fO_n hno]
  by_cases hb2:d≤1048576
  ·have hsec:j4y (d,c)=some (d*86400+c):=by
    simp only [j4y]
    rw [if_neg (show ¬ (-1048576:Int)>d by omega),if_neg (show ¬ (1048576:Int)<d by omega),j02 (x:=d*86400) (by omega) (by omega),j02 (by omega) (by omega)]
   exact jqy h hsec (by omega) (by omega) hno
  ·have hsec:j4y (d,c)=some (1048576*86400+c):=by
    simp only [j4y]
    rw [if_neg (show ¬ (-1048576:Int)>d by omega),if_pos (show (1048576:Int)<d by omega),j02 (x:=1048576*86400) (by omega) (by omega),j02 (by omega) (by omega)]
   exact jqy h hsec (by omega) (by omega) (jxG h (by omega))
theorem jnM {nm:ByteArray} {rs:List Rule} {d c:Int} (hd : -1000000≤d) (hd2:d≤1000000) (hc:0≤c) (hc2:c≤86399) (hno:NoF o l (d*86400+c)):∀ (n j:Nat),j+n=l.length+1→
  j5o ((j:Int)-1) nm o rs d c l=some (.inr ())
 | 0,j,hj=>by
  rw [jcB]
  simp only [j4F,show Int.ofNat (List.length l)=(l.length:Int) from rfl]
  rw [j00 (by omega),j6,j08]
 | n+1,j,hj=>by
  have hlen:=h.len
  have hjl:j≤l.length:=by omega
  have o1:=h.of0 j hjl;have o2:=h.of1 j hjl
  have hlt:=h.frm_lt hjl
  have hb:=hno j hjl
  have ih:=jnM (nm:=nm) (rs:=rs) hd hd2 hc hc2 hno n (j+1) (by omega)
  rw [show ((j+1:Nat):Int)-1=(j:Int) by omega] at ih
  have key:∀ A:Option ((Int×ByteArray×Int×List Rule×Int×Int×TrL) ⊕ ((Int×Int) ⊕ Unit)),
    A=(cond (decide (max (frm l j) (d*86400+c-tof o l j)<frm l (j+1))) (some (.inr (.inl (max (frm l j) (d*86400+c-tof o l j),0)))) (some (.inl ((j:Int),nm,o,rs,d,c,l))))→
    lpK A (fun h=>j5o h.1 h.2.1 h.2.2.1 h.2.2.2.1 h.2.2.2.2.1 h.2.2.2.2.2.1 h.2.2.2.2.2.2)=some (.inr ()):=by
   intro A hA
   rw [hA,j00 (by omega),j6,j05]
   exact ih
  rw [jcB]
  refine key _ ?_
  simp only [j4F,show Int.ofNat (List.length l)=(l.length:Int) from rfl]
  rw [j01 (show (j:Int)-1<(l.length:Int) by omega)]
  simp only [show (j:Int)-1+1=(j:Int) by omega,j02 (x:=(j:Int)) (by omega) (by omega),j7]
  rw [j02 (x:=d*86400) (by omega) (by omega),j02 (x:=d*86400+c) (by omega) (by omega)]
  have hmx:∀ a b:Int,(if a>b then a else b)=max b a:=fun a b=>by omega
  clear key
  cases j with
  | zero=>
   have ht0:tof o l 0=o:=rfl
   have hf0:frm l 0=0:=rfl
   rw [j00 (show ¬ ((0:Nat):Int)-1≥0 by omega)]
   rw [ht0] at o1 o2 ⊢
   rw [hf0]
   simp only [j5,j6,j02 (x:=d*86400+c-o) (by omega) (by omega),hmx]
   by_cases hl0:0<l.length
   ·have e:frm l (0+1)=tat l 0:=jiQ hl0
    rw [e]
    rw [j01 (show ((0:Nat):Int)<(l.length:Int) by omega),j0s (by omega) (by omega)]
    rfl
   ·have hl0':l.length=0:=by omega
    have e:frm l (0+1)=8589934593:=by have:=jav (l:=l);rwa [hl0'] at this
    rw [e]
    rw [j00 (show ¬ ((0:Nat):Int)<(l.length:Int) by omega)]
    rfl
  | succ i=>
   have hil:i<l.length:=by omega
   have ht0:tof o l (i+1)=(l.getD i ((0:Int),(0:Int))).2:=rfl
   have hf0:frm l (i+1)=(l.getD i ((0:Int),(0:Int))).1:=jiQ hil
   rw [show ((i+1:Nat):Int)-1=(i:Int) by omega,j01 (show (i:Int)≥0 by omega),j0s (by omega) (by omega)]
   simp only [j5,j7,←ht0,←hf0]
   rw [j02 (x:=d*86400+c-tof o l (i+1)) (by omega) (by omega)]
   simp only [hmx]
   by_cases hl0:i+1<l.length
   ·have e:frm l (i+1+1)=(l.getD (i+1) ((0:Int),(0:Int))).1:=jiQ hl0
    rw [j01 (show ((i+1:Nat):Int)<(l.length:Int) by omega),j0s (by omega) (by omega)]
    simp only [j5,←e]
   ·have e:frm l (i+1+1)=8589934593:=by have:=jav (l:=l);rwa [show l.length+1=i+1+1 by omega] at this
    rw [j00 (show ¬ ((i+1:Nat):Int)<(l.length:Int) by omega),e]
    rfl
end
theorem jj6 {z:j1R} {l:TrL} (h:Z4 z l) {d c:Int} (hd:1≤d) (hc:0≤c) (hc2:c≤86399) :
  j5p z (d,c)=some (match fO z.2.1 l (d*86400+c) with | some t=>(t,0) | none=>(0,10)):=by
 by_cases hb:d≤99422
 ·rcases juR z.2.1 l (d*86400+c) with ⟨t,k,f⟩ | hno
  ·have e:=jvP h (d:=d) (c:=c) (by omega) hb hc hc2 f.hk f.hks f.bef
   rw [←f.ht] at e
   rw [fO_t f]
   exact e
  ·have:=jnM h.2 (nm:=z.1) (rs:=z.2.2) (show -1000000≤d by omega) (by omega) hc hc2 hno (l.length+1) 0 (by omega)
   rw [fO_n hno]
   simp only [j5p,show j1H (z.1,(z.2.1,z.2.2))=_ from h.1,j3,jd,j6,jdb hc hc2,jj,jp4 (show -2≤d by omega) hb]
   rw [j00 (show ¬ d < -2 by omega),j6,show j5o (-1) z.1 z.2.1 z.2.2 d c l=_ from this]
   rfl
 ·rw [fO_n (jxG h.2 (by omega))]
  simp only [j5p,show j1H (z.1,(z.2.1,z.2.2))=_ from h.1,j3,jd,j6,jdb hc hc2,jj,jgJ,jCl (show ¬ (-2≤d∧d≤99422) by omega)]
  rw [j00 (show ¬ d < -2 by omega)]
  rfl
structure Rt (L:j0w):Prop where
 d0:1≤L.2.2.1.1
 d1:L.2.2.1.1≤100000
 c0:0≤L.2.2.1.2
 c1:L.2.2.1.2≤86399
 u0:0≤L.2.2.2.1
 u1:L.2.2.2.1≤2
 e0:1≤L.2.2.2.2.1
 e1:L.2.2.2.2.1≤400
 m0:L.2.2.2.2.2.1≠[]
theorem Rt.step {L:j0w} (h:Rt L):1≤j4h L∧j4h L≤2800:=by
 have:=h.e0;have:=h.e1
 unfold j4h;split<;>omega
noncomputable def hO (o:Int) (l:TrL) (L:j0w) (k:Int):Option Int:=
 if L.2.2.2.1=0 then (fO o l (sLoc L 0)).bind fun t=>if t+3600*L.2.2.2.2.1*k≤8589934592 then some (t+3600*L.2.2.2.2.1*k) else none
 else fO o l (sLoc L k)
section
variable {o:Int} {l:TrL} (ht:TOk o l) {L:j0w} (h:Rt L)
include ht h
theorem jxH {k t:Int} (hk:0≤k) (he:hO o l L k=some t):0≤t∧t≤8589934592∧k≤2386092:=by
 have hs:=h.step
 have hd0:=h.d0;have he0:=h.e0;have hc0:=h.c0
 unfold hO at he
 by_cases h0:L.2.2.2.1=0
 ·rw [if_pos h0] at he
  cases hf:fO o l (sLoc L 0) with
  | none=>rw [hf] at he;simp at he
  | some v=>
   rw [hf] at he
   simp only [j3] at he
   have hv:=jvQ ht hf
   have hm:3600*k≤3600*L.2.2.2.2.1*k:=Int.mul_le_mul_of_nonneg_right (by omega) hk
   split at he
   ·simp at he;omega
   ·simp at he
 ·rw [if_neg h0] at he
  have hv:=jvQ ht he
  have hm:k*1≤k*j4h L:=Int.mul_le_mul_of_nonneg_left hs.1 hk
  unfold sLoc at hv
  omega
theorem jzn {k t:Int} (he:hO o l L (k+1)=some t):∃ v,hO o l L k=some v∧v≤t:=by
 have hs:=h.step
 have he0:=h.e0
 unfold hO at he ⊢
 by_cases h0:L.2.2.2.1=0
 ·rw [if_pos h0] at he ⊢
  cases hf:fO o l (sLoc L 0) with
  | none=>rw [hf] at he;simp at he
  | some v=>
   rw [hf] at he
   simp only [j3] at he ⊢
   have hm:3600*L.2.2.2.2.1*(k+1)=3600*L.2.2.2.2.1*k+3600*L.2.2.2.2.1:=by rw [Int.mul_add,Int.mul_one]
   split at he
   ·rw [if_pos (by omega)]
    simp at he
    exact ⟨_,rfl,by omega⟩
   ·simp at he
 ·rw [if_neg h0] at he ⊢
  have hm:(k+1)*j4h L=k*j4h L+j4h L:=by rw [Int.add_mul,Int.one_mul]
  exact jBa ht (by unfold sLoc;rw [hm];omega) he
def QO (o:Int) (l:TrL) (L:j0w) (t k:Int):Prop:=∃ v,hO o l L k=some v∧v≤t
theorem QO.down {t:Int}:∀ (n:Nat) {k:Int},QO o l L t (k+n)→QO o l L t k
 | 0,k,hq=>by rwa [show k+((0:Nat):Int)=k by omega] at hq
 | n+1,k,hq=>by
  rw [show k+((n+1:Nat):Int)=k+(n:Int)+1 by omega] at hq
  obtain ⟨v,hv,hvt⟩:=hq
  obtain ⟨v',hv',hl⟩:=jzn ht h (k:=k+(n:Int)) hv
  exact QO.down n ⟨v',hv',by omega⟩
theorem QO.le {t k j:Int} (hkj:k≤j) (hq:QO o l L t j):QO o l L t k:=by
 refine QO.down ht h (j-k).toNat ?_
 rwa [show k+(((j-k).toNat:Nat):Int)=j by omega]
def ShO (o:Int) (l:TrL) (L:j0w) (t K:Int):Prop:=(K = -1∧¬ QO o l L t 0)∨(0≤K∧QO o l L t K∧¬ QO o l L t (K+1))
theorem ShO.uniq {t K K':Int} (a:ShO o l L t K) (b:ShO o l L t K'):K=K':=by
 rcases a with ⟨a1,a2⟩ | ⟨a1,a2,a3⟩<;>rcases b with ⟨b1,b2⟩ | ⟨b1,b2,b3⟩
 ·omega
 ·exact absurd (QO.le ht h b1 b2) a2
 ·exact absurd (QO.le ht h a1 a2) b2
 ·rcases Int.lt_trichotomy K K' with hlt | heq | hgt
  ·exact absurd (QO.le ht h (by omega) b2) a3
  ·exact heq
  ·exact absurd (QO.le ht h (by omega) a2) b3
theorem QO.day {t k:Int} (h0:L.2.2.2.1≠0) (hq:QO o l L t k) {j:Nat} (hj:j≤l.length):L.2.2.1.1+k*j4h L≤(t+tof o l j)/86400+2:=by
 obtain ⟨v,hv,hvt⟩:=hq
 unfold hO at hv
 rw [if_neg h0] at hv
 have:=jvQ ht hv
 have o0:=ht.of0 j hj
 have hc0:=h.c0
 unfold sLoc at this
 omega
end
theorem juS {L:j0w} (h:Rt L):jaa L=some (j4h L):=by
 have:=h.e0;have:=h.e1
 simp only [jaa,j4h]
 by_cases h2:L.2.2.2.1=2
 ·rw [j4Q h2,j5,if_pos h2,j02 (by omega) (by omega)]
 ·rw [j2c h2,j6,if_neg h2]
def HVal (r:Option (Int×Bool)) (x:Option Int):Prop:=∃ v,r=some (v,x.isSome)∧∀ t,x=some t→v=t
theorem recH {o:Int} {l:TrL} (ht:TOk o l) {L:j0w} (h:Rt L) {k:Int} (hk:0≤k) (hk2:k≤8589934592):HVal (j0M (o,l) L k) (hO o l L k):=by
 have hs:=h.step
 have hd0:=h.d0;have hd1:=h.d1;have hc0:=h.c0;have hc1:=h.c1;have he0:=h.e0;have he1:=h.e1
 have hstep:jaa (L.1,L.2.1,(L.2.2.1.1,L.2.2.1.2),L.2.2.2.1,L.2.2.2.2.1,L.2.2.2.2.2.1,L.2.2.2.2.2.2.1,L.2.2.2.2.2.2.2.1,L.2.2.2.2.2.2.2.2)=_:=juS h
 simp only [HVal,j0M,hstep,j3]
 rw [j00 (show ¬ k>8589934592 by omega),j6]
 by_cases h0:L.2.2.2.1=0
 ·have hF:=jsn ht (d:=L.2.2.1.1) (c:=L.2.2.1.2) (by omega) (by omega) hc0 hc1
  have hs0:L.2.2.1.1*86400+L.2.2.1.2=sLoc L 0:=by unfold sLoc;omega
  have hm0:0≤3600*L.2.2.2.2.1*k:=Int.mul_nonneg (by omega) hk
  have hm1:3600*L.2.2.2.2.1*k≤3600*400*8589934592:=Int.mul_le_mul (by omega) hk2 hk (by omega)
  rw [show (L.2.2.2.1 != 0)=false by rw [h0];rfl,j6,hF,hs0]
  simp only [j3]
  unfold hO
  rw [if_pos h0]
  cases hf:fO o l (sLoc L 0) with
  | none=>exact ⟨_,rfl,fun t h=>by simp at h⟩
  | some v=>
   have hv:=jvQ ht hf
   simp only [z6,zb,j5,j3,j02 (x:=3600*L.2.2.2.2.1) (show -9223372036854775808≤_ by omega) (by omega),j02 (x:=3600*L.2.2.2.2.1*k) (show -9223372036854775808≤_ by omega) (by omega),j02 (x:=v+3600*L.2.2.2.2.1*k) (show -9223372036854775808≤_ by omega) (by omega)]
   by_cases hle:v+3600*L.2.2.2.2.1*k≤8589934592
   ·rw [if_pos hle,j01 hle]
    exact ⟨_,rfl,fun t h=>by simpa using h⟩
   ·rw [if_neg hle,j00 hle]
    exact ⟨_,rfl,fun t h=>by simp at h⟩
 ·have hm0:0≤k*j4h L:=Int.mul_nonneg hk (by omega)
  have hm1:k*j4h L≤8589934592*2800:=Int.mul_le_mul hk2 hs.2 (by omega) (by omega)
  rw [show (L.2.2.2.1 != 0)=true by simp [h0],j5,j02 (x:=k*j4h L) (by omega) (by omega),j02 (x:=L.2.2.1.1+k*j4h L) (by omega) (by omega),jsn ht (by omega) (by omega) hc0 hc1]
  simp only [j3]
  unfold hO
  rw [if_neg h0]
  exact ⟨_,rfl,fun t h=>by have h:fO o l ((L.2.2.1.1+k*j4h L)*86400+L.2.2.1.2)=some t:=h;rw [h];rfl⟩
theorem r10H {z:j1R} {l:TrL} (hz:Z4 z l) {L:j0w} (h:Rt L) {k:Int} (hk:0≤k) (hk2:k≤8589934592):HVal (jb5 z L k) (hO z.2.1 l L k):=by
 have hs:=h.step
 have hd0:=h.d0;have hd1:=h.d1;have hc0:=h.c0;have hc1:=h.c1;have he0:=h.e0;have he1:=h.e1;have hu1:=h.u1;have hu0:=h.u0
 simp only [HVal,jb5]
 have hm0:0≤k*L.2.2.2.2.1:=Int.mul_nonneg hk (by omega)
 have hm1:k*L.2.2.2.2.1≤8589934592*400:=Int.mul_le_mul hk2 (by omega) (by omega) (by omega)
 rw [j02 (x:=k*L.2.2.2.2.1) (by omega) (by omega)]
 by_cases h0:L.2.2.2.1=0
 ·have hF:=jj6 hz (d:=L.2.2.1.1) (c:=L.2.2.1.2) (by omega) hc0 hc1
  have hs0:L.2.2.1.1*86400+L.2.2.1.2=sLoc L 0:=by unfold sLoc;omega
  rw [j4Q h0,j5,show j5p (z.1,(z.2.1,z.2.2)) (L.2.2.1.1,L.2.2.1.2)=_ from hF,hs0]
  simp only [j3]
  have hcm:k*L.2.2.2.2.1*3600=3600*L.2.2.2.2.1*k:=by rw [Int.mul_comm,Int.mul_comm k,Int.mul_assoc]
  have hm2:0≤3600*L.2.2.2.2.1*k:=Int.mul_nonneg (by omega) hk
  have hm3:3600*L.2.2.2.2.1*k≤3600*400*8589934592:=Int.mul_le_mul (by omega) hk2 hk (by omega)
  rw [hcm,j02 (x:=3600*L.2.2.2.2.1*k) (by omega) (by omega)]
  unfold hO
  rw [if_pos h0]
  cases hf:fO z.2.1 l (sLoc L 0) with
  | none=>exact ⟨_,rfl,fun t h=>by simp at h⟩
  | some v=>
   have hv:=jvQ hz.2 hf
   simp only [j3]
   rw [j02 (x:=v+3600*L.2.2.2.2.1*k) (by omega) (by omega),qe,j5]
   by_cases hle:v+3600*L.2.2.2.2.1*k≤8589934592
   ·rw [if_pos hle,j01 hle]
    exact ⟨_,rfl,fun t h=>by simpa using h⟩
   ·rw [if_neg hle,j00 hle]
    exact ⟨_,rfl,fun t h=>by simp at h⟩
 ·rw [j2c h0,j6]
  have fin:∀ n:Int,n=k*j4h L→0≤n→HVal ((j5p (z.1,(z.2.1,z.2.2)) (L.2.2.1.1+n,L.2.2.1.2)).bind fun r=>some (r.1,(r.2==(0:Int)))) (hO z.2.1 l L k):=by
   intro n hn hn0
   have hF:=jj6 hz (d:=L.2.2.1.1+n) (c:=L.2.2.1.2) (by omega) hc0 hc1
   rw [show j5p (z.1,(z.2.1,z.2.2)) (L.2.2.1.1+n,L.2.2.1.2)=_ from hF]
   unfold hO
   rw [if_neg h0]
   have hsl:(L.2.2.1.1+n)*86400+L.2.2.1.2=sLoc L k:=by rw [hn];rfl
   rw [hsl]
   cases hf:fO z.2.1 l (sLoc L k) with
   | none=>exact ⟨_,rfl,fun t h=>by simp at h⟩
   | some v=>exact ⟨_,rfl,fun t h=>by simpa using h⟩
  by_cases h2:L.2.2.2.1=2
  ·have hsd:j4h L=7*L.2.2.2.2.1:=by unfold j4h;rw [if_pos h2]
   have e1:k*L.2.2.2.2.1*7=k*j4h L:=by rw [hsd,Int.mul_assoc,Int.mul_comm L.2.2.2.2.1 7]
   rw [j4Q h2,j5,j02 (x:=k*L.2.2.2.2.1*7) (by omega) (by omega),j02 (x:=L.2.2.1.1+k*L.2.2.2.2.1*7) (by omega) (by omega)]
   exact fin _ e1 (by omega)
  ·have hsd:j4h L=L.2.2.2.2.1:=by unfold j4h;rw [if_neg h2]
   rw [j2c h2,j6,j02 (x:=L.2.2.1.1+k*L.2.2.2.2.1) (by omega) (by omega)]
   exact fin _ (by rw [hsd]) hm0
theorem jCp {o:Int} {l:TrL} (ht:TOk o l) {L:j0w} (h:Rt L) {t N:Int} (hN:N≤8589934592) (hfirst:QO o l L t 0):∀ n:Nat,(n:Int)≤N→
  ∃ k:Int,j54 t (n:Int) o l L.1 L.2.1 L.2.2.1.1 L.2.2.1.2 L.2.2.2.1 L.2.2.2.2.1 L.2.2.2.2.2.1 L.2.2.2.2.2.2.1 L.2.2.2.2.2.2.2.1 L.2.2.2.2.2.2.2.2=
   some (t,k,o,l,L.1,L.2.1,L.2.2.1.1,L.2.2.1.2,L.2.2.2.1,L.2.2.2.2.1,L.2.2.2.2.2.1,L.2.2.2.2.2.2.1,L.2.2.2.2.2.2.2.1,L.2.2.2.2.2.2.2.2)∧0≤k∧QO o l L t k
 | 0,_=>by
  rw [jco]
  simp only [j1O]
  rw [j00 (by omega),j6,j08]
  exact ⟨_,rfl,by omega,hfirst⟩
 | n+1,hn=>by
  obtain ⟨k,e,k0,k1⟩:=jCp ht h hN hfirst n (by omega)
  obtain ⟨v,hH,hv⟩:=recH ht h (k:=((n+1:Nat):Int)) (by omega) (by omega)
  rw [jco]
  simp only [j1O]
  rw [j01 (by omega),j5,show j0M (o,l) (L.1,L.2.1,(L.2.2.1.1,L.2.2.1.2),L.2.2.2.1,L.2.2.2.2.1,L.2.2.2.2.2.1,L.2.2.2.2.2.2.1,L.2.2.2.2.2.2.2.1,L.2.2.2.2.2.2.2.2) ((n+1:Nat):Int)=_ from hH]
  simp only [j3]
  rw [j02 (x:=((n+1:Nat):Int)-1) (by omega) (by omega),show ((n+1:Nat):Int)-1=(n:Int) by omega]
  cases hx:hO o l L ((n+1:Nat):Int) with
  | none=>
   simp only [zt,j6,j05]
   exact ⟨k,e,k0,k1⟩
  | some x=>
   have:=hv x hx
   subst this
   simp only [zb,j5]
   by_cases hc:v≤t
   ·rw [j01 hc,j5,j08]
    exact ⟨_,rfl,by omega,v,hx,hc⟩
   ·rw [j00 hc,j6,j05]
    exact ⟨k,e,k0,k1⟩
theorem jCq {o:Int} {l:TrL} (ht:TOk o l) {L:j0w} (h:Rt L) {t:Int}:∀ (n:Nat) (k:Int),k+n=2386093→0≤k→QO o l L t k→
  ∃ K:Int,j55 t k o l L.1 L.2.1 L.2.2.1.1 L.2.2.1.2 L.2.2.2.1 L.2.2.2.2.1 L.2.2.2.2.2.1 L.2.2.2.2.2.2.1 L.2.2.2.2.2.2.2.1 L.2.2.2.2.2.2.2.2=some K∧0≤K∧QO o l L t K∧¬ QO o l L t (K+1)
 | 0,k,hn,hk,hq=>by
  obtain ⟨v,hv,_⟩:=hq
  have:=jxH ht h hk hv
  omega
 | n+1,k,hn,hk,hq=>by
  obtain ⟨v,hH,hv⟩:=recH ht h (k:=k+1) (by omega) (by omega)
  rw [jip]
  simp only [j2l]
  rw [j02 (x:=k+1) (by omega) (by omega),show j0M (o,l) (L.1,L.2.1,(L.2.2.1.1,L.2.2.1.2),L.2.2.2.1,L.2.2.2.2.1,L.2.2.2.2.2.1,L.2.2.2.2.2.2.1,L.2.2.2.2.2.2.2.1,L.2.2.2.2.2.2.2.2) (k+1)=_ from hH]
  simp only [j3]
  cases hx:hO o l L (k+1) with
  | none=>
   simp only [zt,ju,j5,j08]
   exact ⟨k,rfl,hk,hq,fun ⟨y,hy,_⟩=>by rw [hx] at hy;simp at hy⟩
  | some x=>
   have:=hv x hx
   subst this
   simp only [zb,jj,j6]
   by_cases hc:v>t
   ·rw [j01 hc,j5,j08]
    exact ⟨k,rfl,hk,hq,fun ⟨y,hy,hyt⟩=>by rw [hx] at hy;simp at hy;omega⟩
   ·rw [j00 hc,j6,j05]
    exact jCq ht h n (k+1) (by omega) (by omega) ⟨v,hx,by omega⟩
theorem juT {o:Int} {l:TrL} {L:j0w} (h:Rt L) {t v:Int} (h0:L.2.2.2.1=0) (htt:t≤8589934592) (hf:fO o l (sLoc L 0)=some v) (hvt:v≤t) (hv0:0≤v) :
  ShO o l L t ((t-v)/(3600*L.2.2.2.2.1))∧0≤(t-v)/(3600*L.2.2.2.2.1)∧(t-v)/(3600*L.2.2.2.2.1)≤8589934592:=by
 have he0:=h.e0;have he1:=h.e1
 have q0:0≤(t-v)/(3600*L.2.2.2.2.1):=vj (by omega) (by omega)
 have q1:3600*L.2.2.2.2.1*((t-v)/(3600*L.2.2.2.2.1))≤t-v:=Int.mul_ediv_self_le (by omega)
 have q2:t-v<3600*L.2.2.2.2.1*((t-v)/(3600*L.2.2.2.2.1))+3600*L.2.2.2.2.1:=Int.lt_mul_ediv_self_add (by omega)
 have q3:(t-v)/(3600*L.2.2.2.2.1)≤t-v:=vc _ (by omega)
 generalize (t-v)/(3600*L.2.2.2.2.1)=K at *
 refine ⟨.inr ⟨q0,⟨v+3600*L.2.2.2.2.1*K,?_,by omega⟩,?_⟩,q0,by omega⟩
 ·unfold hO
  rw [if_pos h0,hf]
  simp only [j3]
  rw [if_pos (by omega)]
 ·rintro ⟨y,hy,hyt⟩
  unfold hO at hy
  rw [if_pos h0,hf] at hy
  simp only [j3,Int.mul_add,Int.mul_one] at hy
  split at hy
  ·simp at hy;omega
  ·simp at hy
theorem jxI {o:Int} {l:TrL} {L:j0w} (h0:L.2.2.2.1=0) {v:Int} (hv:hO o l L 0=some v):fO o l (sLoc L 0)=some v:=by
 unfold hO at hv
 rw [if_pos h0] at hv
 cases hf:fO o l (sLoc L 0) with
 | none=>rw [hf] at hv;simp at hv
 | some x=>
  rw [hf] at hv
  simp only [j3,Int.mul_zero,Int.add_zero] at hv
  split at hv
  ·simpa using hv
  ·simp at hv
theorem jDp {o:Int} {l:TrL} (ht:TOk o l) {L:j0w} (h:Rt L) {t:Int} (h0t:0≤t) (htt:t≤8589934592):∃ K:Int,j1V (o,l) L t=some K∧ShO o l L t K:=by
 have hs:=h.step
 have hd0:=h.d0;have hd1:=h.d1;have he0:=h.e0;have he1:=h.e1
 obtain ⟨v0,hH,hv⟩:=recH ht h (k:=0) (by omega) (by omega)
 have hstep:jaa (L.1,L.2.1,(L.2.2.1.1,L.2.2.1.2),L.2.2.2.1,L.2.2.2.2.1,L.2.2.2.2.2.1,L.2.2.2.2.2.2.1,L.2.2.2.2.2.2.2.1,L.2.2.2.2.2.2.2.2)=_:=juS h
 simp only [j1V,show j0M (o,l) (L.1,L.2.1,(L.2.2.1.1,L.2.2.1.2),L.2.2.2.1,L.2.2.2.2.1,L.2.2.2.2.2.1,L.2.2.2.2.2.2.1,L.2.2.2.2.2.2.2.1,L.2.2.2.2.2.2.2.2) 0=_ from hH,hstep,j3]
 cases hx:hO o l L 0 with
 | none=>
  simp only [zt,ju,j5]
  exact ⟨-1,rfl,.inl ⟨rfl,fun ⟨y,hy,_⟩=>by rw [hx] at hy;simp at hy⟩⟩
 | some v=>
  have:=hv v hx
  subst this
  simp only [zb,jj,j6]
  by_cases hc:v0>t
  ·rw [j01 hc,j5]
   exact ⟨-1,rfl,.inl ⟨rfl,fun ⟨y,hy,hyt⟩=>by rw [hx] at hy;simp at hy;omega⟩⟩
  ·rw [j00 hc,j6]
   have hq:QO o l L t 0:=⟨v0,hx,by omega⟩
   have hva:=jxH ht h (k:=0) (by omega) hx
   by_cases h0:L.2.2.2.1=0
   ·obtain ⟨s1,s2,s3⟩:=juT (o:=o) (l:=l) h h0 htt (jxI h0 hx) (by omega) hva.1
    rw [j4Q h0,j5,j02 (x:=t-v0) (by omega) (by omega),j02 (x:=3600*L.2.2.2.2.1) (by omega) (by omega),j2c (show ¬ 3600*L.2.2.2.2.1=0 by omega),qj (by omega),j02 (x:=(t-v0)/(3600*L.2.2.2.2.1)) (by omega) (by omega)]
    exact ⟨_,rfl,s1⟩
   ·obtain ⟨j,hj,j1,j2⟩:=jfF ht h0t htt
    have o0:=ht.of0 j hj;have o1:=ht.of1 j hj
    rw [j2c h0,j6,jk3 ht hj j1 j2]
    simp only [j3]
    generalize hld:(t+tof o l j)/86400=ld
    rw [j2c (show ¬ j4h L=0 by omega),j02 (x:=ld-L.2.2.1.1) (by omega) (by omega)]
    simp only [ju,j5]
    obtain ⟨n,hn,hn2⟩:∃ n:Nat,(if w64 (Int.tdiv (ld-L.2.2.1.1) (j4h L))>0 then w64 (Int.tdiv (ld-L.2.2.1.1) (j4h L)) else 0)=(n:Int)∧(n:Int)≤8589934592:=by
     by_cases hneg:0≤ld-L.2.2.1.1
     ·rw [qj hneg]
      have q0:0≤(ld-L.2.2.1.1)/j4h L:=vj hneg (by omega)
      have q1:(ld-L.2.2.1.1)/j4h L≤ld-L.2.2.1.1:=vc _ hneg
      rw [j02 (by omega) (by omega)]
      refine ⟨((ld-L.2.2.1.1)/j4h L).toNat,?_,?_⟩
      ·split<;>omega
      ·omega
     ·have e:Int.tdiv (ld-L.2.2.1.1) (j4h L) = -((-(ld-L.2.2.1.1))/j4h L):=by
       rw [←qj (by omega),Int.neg_tdiv,Int.neg_neg]
      have q0:0≤(-(ld-L.2.2.1.1))/j4h L:=vj (by omega) (by omega)
      have q1:(-(ld-L.2.2.1.1))/j4h L ≤ -(ld-L.2.2.1.1):=vc _ (by omega)
      rw [e,j02 (by omega) (by omega),if_neg (by omega)]
      exact ⟨0,rfl,by omega⟩
    rw [hn]
    obtain ⟨k,e,k0,k1⟩:=jCp ht h (kn _) hq n hn2
    have hkb:=k1
    obtain ⟨y,hy,_⟩:=hkb
    have hkk:=jxH ht h k0 hy
    obtain ⟨K,e2,K0,K1,K2⟩:=jCq ht h (t:=t) (2386093-k).toNat k (by omega) k0 k1
    simp only [e,j3,e2]
    exact ⟨K,rfl,.inr ⟨K0,K1,K2⟩⟩
end Go.Proofs.Pw
